
/- Plain laws: what CorsSeen leans on, in one text. -/
import Derived.Test.YtnbkfneolgeeeaaDoorG2
import Derived.Test.YtnbkfneolgeeeaaDoorG4
import Derived.Test.YtnbkfneolgeeeaaDoorG7
import Derived.Test.YtnbkfneolgeeeaaDoorPr2
import Derived.Test.YtnbkfneolgeeeaaDoorPr6
import Derived.Test.YtnbkfneolgeeeaaDoorPr4
import Derived.Test.YtnbkfneolgeeeaaDoorPr3
import Derived.Test.YtnbkfneolgeeeaaDoorPr5
namespace Go.Proofs.YtnbkfneolgeeeaaDoor.Pr
open Go.RowKit Go.Proofs.YtnbkfneolgeeeaaDoorW.PrintWords Go.Proofs.YtnbkfneolgeeeaaDoorW.PrintLast
set_option linter.unusedVariables false
set_option linter.unusedSimpArgs false
abbrev Bs := List UInt8
theorem tl (s : ByteArray) : s.toList = s.data.toList := ByteArray.toList_eq s
theorem ba_ext {a b : ByteArray} (h : a.data.toList = b.data.toList) : a = b := by
  rw [← bsOf_of a, ← bsOf_of b, h]
theorem tl_eq (a b : ByteArray) : (a.toList = b.toList) ↔ a = b := by
  rw [tl, tl]
  exact ⟨ba_ext, fun h => by rw [h]⟩
theorem tl_beq (a b : ByteArray) : (a.toList == b.toList) = (a.data.toList == b.data.toList) := by rw [tl, tl]
theorem size_len (s : ByteArray) : s.size = s.data.toList.length := (data_length s).symm
theorem size_bsOf (l : Bs) : (bsOf l).size = l.length := by rw [size_len]; rfl
theorem extract_list (s : ByteArray) (a b : Nat) : (s.extract a b).data.toList = (s.data.toList.take b).drop a := by
  simp [List.drop_take]
theorem bt_get (s : ByteArray) (i : Nat) (h : i < s.size) : bt s (i : Int) = ((s.data.toList.getD i 0).toNat : Int) := by
  have h' : i < s.data.toList.length := by rw [← size_len]; exact h
  unfold bt
  rw [dif_pos (by simpa using h), List.getD_eq_getElem?_getD, List.getElem?_eq_getElem h']
  simp
  rfl
theorem indexByte_mem (l : Bs) (c : UInt8) : decide (Lib.indexByte l c ≥ 0) = l.contains c := by
  induction l with
  | nil => rfl
  | cons b l ih =>
    unfold Lib.indexByte
    have hge := Lib.indexByte_ge l c
    by_cases h : b = c
    · subst h
      simp
    · have h1 : (b == c) = false := by simpa using h
      have h2 : (c == b) = false := by simpa using fun e => h e.symm
      rw [h1, List.contains_cons, h2, Bool.false_or, ← ih]
      simp only [Bool.false_eq_true, if_false]
      by_cases h3 : Lib.indexByte l c = -1
      · simp [h3]
      · have h4 : (Lib.indexByte l c == -1) = false := by simpa using h3
        rw [h4]
        simp
        omega
def isBl (c : UInt8) : Bool := c == 9 || c == 10 || c == 13 || c == 32
theorem blank_f (c : UInt8) : octet_blank.f (c.toNat : Int) = some (isBl c) := by
  unfold octet_blank.f strings_IndexByte.f
  simp only [Option.bind_some]
  rw [indexByte_mem]
  congr 1
  rw [Bool.eq_iff_iff]
  simp [isBl, or_assoc]
def trimR (l : Bs) : Bs := (l.reverse.dropWhile isBl).reverse
def trimL (l : Bs) : Bs := trimR (l.dropWhile isBl)
def trimS (s : ByteArray) : ByteArray := bsOf (trimL s.data.toList)
theorem trim_l1 (n : Nat) : ∀ s : ByteArray, s.size = n → n ≤ 4611686018427387904 → Ev (fun k => octet_Trim.l1 k s) (bsOf (trimR s.data.toList)) := by
  induction n with
  | zero =>
    intro s hs _
    have hl : s.data.toList = [] := List.eq_nil_of_length_eq_zero (by rw [← size_len]; exact hs)
    refine Ev.step (f := fun _ => some s) (fun k => ?_) ?_
    · simp only [octet_Trim.l1]
      rw [if_pos (by rw [tl, hl])]
    · rw [hl, ← bsOf_of s, hl]
      exact Ev.now _
  | succ n ih =>
    intro s hs hn
    have hlen : s.data.toList.length = n + 1 := by rw [← size_len]; exact hs
    obtain ⟨l, c, hl⟩ : ∃ l c, s.data.toList = l ++ [c] := by
      have hne : s.data.toList ≠ [] := by intro e; rw [e] at hlen; simp at hlen
      exact ⟨_, _, (List.dropLast_concat_getLast hne).symm⟩
    have hll : l.length = n := by rw [hl] at hlen; simpa using hlen
    have hw : wrap64 ((s.size : Int) - 1) = (n : Int) := by rw [hs]; unfold wrap64; omega
    have hb : bt s ((n : Nat) : Int) = (c.toNat : Int) := by
      rw [bt_get s n (by omega), hl]
      simp [List.getD_eq_getElem?_getD, hll]
    have hne : ¬ s.toList = [] := by rw [tl, hl]; simp
    by_cases hc : isBl c = true
    · refine Ev.step (f := fun k => octet_Trim.l1 k (s.extract 0 n)) (fun k => ?_) ?_
      · simp only [octet_Trim.l1]
        rw [if_neg hne, hw, if_pos (by omega), if_pos (by omega), hb, blank_f]
        simp only [Option.bind_some]
        rw [if_pos hc, if_pos (by omega)]
        rfl
      · have he : (s.extract 0 n).data.toList = l := by
          rw [extract_list, hl]
          simp [← hll]
        have hsz : (s.extract 0 n).size = n := by rw [size_len, he, hll]
        have := ih _ hsz (by omega)
        rw [he] at this
        have e2 : trimR s.data.toList = trimR l := by
          rw [hl]
          simp [trimR, hc]
        rw [e2]
        exact this
    · refine Ev.step (f := fun _ => some s) (fun k => ?_) ?_
      · simp only [octet_Trim.l1]
        rw [if_neg hne, hw, if_pos (by omega), if_pos (by omega), hb, blank_f]
        simp only [Option.bind_some]
        rw [if_neg hc]
      · have e2 : trimR s.data.toList = s.data.toList := by
          rw [hl]
          simp [trimR, hc]
        rw [e2, bsOf_of]
        exact Ev.now _
theorem trim_j1 (s : ByteArray) (hn : s.size ≤ 4611686018427387904) : Ev (fun k => octet_Trim.j1 k s) (bsOf (trimR s.data.toList)) :=
  Ev.step (fun k => rfl) (trim_l1 _ s rfl hn)
theorem trim_l0 (n : Nat) : ∀ s : ByteArray, s.size = n → n ≤ 4611686018427387904 → Ev (fun k => octet_Trim.l0 k s) (trimS s) := by
  induction n with
  | zero =>
    intro s hs hn
    have hl : s.data.toList = [] := List.eq_nil_of_length_eq_zero (by rw [← size_len]; exact hs)
    refine Ev.step (f := fun k => octet_Trim.j1 k s) (fun k => ?_) ?_
    · simp only [octet_Trim.l0]
      rw [if_pos (by rw [tl, hl])]
    · have := trim_j1 s (by omega)
      unfold trimS trimL
      rw [hl] at this ⊢
      exact this
  | succ n ih =>
    intro s hs hn
    have hlen : s.data.toList.length = n + 1 := by rw [← size_len]; exact hs
    obtain ⟨c, l, hl⟩ : ∃ c l, s.data.toList = c :: l := by
      cases h : s.data.toList with
      | nil => rw [h] at hlen; simp at hlen
      | cons c l => exact ⟨c, l, rfl⟩
    have hll : l.length = n := by rw [hl] at hlen; simpa using hlen
    have hb : bt s 0 = (c.toNat : Int) := by
      have := bt_get s 0 (by omega)
      rw [hl] at this
      simpa using this
    have hne : ¬ s.toList = [] := by rw [tl, hl]; simp
    by_cases hc : isBl c = true
    · refine Ev.step (f := fun k => octet_Trim.l0 k (s.extract 1 s.size)) (fun k => ?_) ?_
      · simp only [octet_Trim.l0]
        rw [if_neg hne, if_pos (by omega), hb, blank_f]
        simp only [Option.bind_some]
        rw [if_pos hc, if_pos (by omega)]
      · have he : (s.extract 1 s.size).data.toList = l := by
          rw [extract_list, hl, hs]
          simp [← hll]
        have hsz : (s.extract 1 s.size).size = n := by rw [size_len, he, hll]
        have := ih _ hsz (by omega)
        unfold trimS at this ⊢
        rw [he] at this
        rw [hl]
        have e2 : trimL (c :: l) = trimL l := by simp [trimL, hc]
        rw [e2]
        exact this
    · refine Ev.step (f := fun k => octet_Trim.j1 k s) (fun k => ?_) ?_
      · simp only [octet_Trim.l0]
        rw [if_neg hne, if_pos (by omega), hb, blank_f]
        simp only [Option.bind_some]
        rw [if_neg hc]
      · have := trim_j1 s (by omega)
        unfold trimS trimL
        have e2 : s.data.toList.dropWhile isBl = s.data.toList := by rw [hl]; simp [hc]
        rw [e2]
        exact this
theorem trim_ev (s : ByteArray) (hn : s.size ≤ 4611686018427387904) : Ev (fun k => octet_Trim.f k s) (trimS s) := trim_l0 _ s rfl hn
def lowC (c : UInt8) : UInt8 := if 65 ≤ c ∧ c ≤ 90 then c + 32 else c
def lowL (l : Bs) : Bs := l.map lowC
theorem strOfNums_bytes (l : Bs) : strOfNums (l.map fun b => (b.toNat : Int)) = bsOf l := by
  unfold strOfNums bsOf
  congr 1
  congr 1
  rw [List.map_map]
  conv => rhs; rw [← List.map_id l]
  apply List.map_congr_left
  intro b _
  simp
theorem lowI_lowC (c : UInt8) : lowI (c.toNat : Int) = ((lowC c).toNat : Int) := by
  unfold lowI lowC
  have hc := c.toNat_lt
  simp only [UInt8.le_iff_toNat_le, UInt8.toNat_ofNat]
  by_cases h : 65 ≤ c.toNat ∧ c.toNat ≤ 90
  · rw [if_pos (by omega), if_pos (by simpa using h)]
    simp [UInt8.toNat_add]
    omega
  · rw [if_neg (by omega), if_neg (by simpa using h)]
theorem lowS_eq (s : ByteArray) : lowS s = bsOf (lowL s.data.toList) := by
  unfold lowS lowL
  rw [← strOfNums_bytes]
  congr 1
  apply List.ext_getElem?
  intro i
  simp only [bytesOf, List.getElem?_mapIdx, List.getElem?_map]
  cases s.data.toList[i]? with
  | none => rfl
  | some c => simp [lowI_lowC]
theorem lower_f (s : ByteArray) (h : s.size ≤ 9223372036854775807) : octet_Lower.f s = some (bsOf (lowL s.data.toList)) := by
  unfold octet_Lower.f
  rw [if_pos h, lowS_eq]
def foldB (a b : ByteArray) : Bool := lowL a.data.toList == lowL b.data.toList
theorem fold_f (a b : ByteArray) (ha : a.size ≤ 9223372036854775807) (hb : b.size ≤ 9223372036854775807) : octet_Fold.f a b = some (foldB a b) := by
  unfold octet_Fold.f
  rw [lower_f a ha, lower_f b hb]
  simp only [Option.bind_some]
  rw [tl_beq]
  rfl
def joinS (l : List ByteArray) : ByteArray := joinB l ⟨#[44, 32]⟩
theorem join_f (l : List ByteArray) (h1 : l.length ≤ 140737488355328) (h2 : (joinS l).size ≤ 140737488355328) : octet_Join.f l = some (joinS l) := by
  unfold octet_Join.f strings_Join.f
  rw [if_pos]
  · rfl
  · refine ⟨h1, ?_⟩
    have := h2
    unfold joinS joinB at this
    rw [size_bsOf] at this
    exact this
theorem evSucc {α : Type} {g : Nat → Option α} {r : α} (h : Ev (fun k => g (k + 1)) r) : Ev g r := Ev.step (fun _ => rfl) h
theorem evEq {α : Type} {g : Nat → Option α} {r r' : α} (h : Ev g r) (e : r = r') : Ev g r' := e ▸ h
theorem evPos {α : Type} {c : Prop} [Decidable c] {g h : Nat → Option α} {r : α} (hc : c) (hg : Ev g r) : Ev (fun k => if c then g k else h k) r := by
  simp only [if_pos hc]
  exact hg
theorem evNeg {α : Type} {c : Prop} [Decidable c] {g h : Nat → Option α} {r : α} (hc : ¬ c) (hg : Ev h r) : Ev (fun k => if c then g k else h k) r := by
  simp only [if_neg hc]
  exact hg
theorem evBind {α β : Type} {a : Option α} {x : α} {f : Nat → α → Option β} {r : β} (h : a = some x) (k : Ev (fun n => f n x) r) : Ev (fun n => a.bind (f n)) r := by
  subst h
  exact k
theorem trimL_length (l : Bs) : (trimL l).length ≤ l.length := by
  unfold trimL trimR
  have h1 := (List.dropWhile_sublist isBl (l := l)).length_le
  have h2 := (List.dropWhile_sublist isBl (l := (l.dropWhile isBl).reverse)).length_le
  simp only [List.length_reverse] at h2 ⊢
  omega
theorem trimS_size (s : ByteArray) : (trimS s).size ≤ s.size := by
  unfold trimS
  rw [size_bsOf, size_len]
  exact trimL_length _
def lowB (s : ByteArray) : ByteArray := bsOf (lowL s.data.toList)
theorem lowB_size (s : ByteArray) : (lowB s).size = s.size := by
  unfold lowB lowL
  rw [size_bsOf, List.length_map, size_len]
theorem lowC_idem (c : UInt8) : lowC (lowC c) = lowC c := by
  unfold lowC
  by_cases h : 65 ≤ c ∧ c ≤ 90
  · rw [if_pos h]
    have h1 : ¬ (65 ≤ c + 32 ∧ c + 32 ≤ 90) := by
      have := c.toNat_lt
      simp only [UInt8.le_iff_toNat_le, UInt8.toNat_add, UInt8.toNat_ofNat] at h ⊢
      omega
    rw [if_neg h1]
  · rw [if_neg h, if_neg h]
theorem lowL_idem (l : Bs) : lowL (lowL l) = lowL l := by
  unfold lowL
  rw [List.map_map]
  exact List.map_congr_left fun c _ => lowC_idem c
theorem lowB_idem (s : ByteArray) : lowB (lowB s) = lowB s := by
  unfold lowB
  rw [bsOf_data, lowL_idem]
theorem rdOf_get (l : List ByteArray) (i : Nat) (h : i < l.length) : rdOf ByteArray.empty l (i : Int) = l[i] := by
  simp [rdOf, List.getD_eq_getElem?_getD, h]
def isDig (c : UInt8) : Bool := decide ((c.toNat : Int) ≥ 48) && decide ((c.toNat : Int) ≤ 57)
theorem digit_f (c : UInt8) : octet_digit.f (c.toNat : Int) = some (isDig c) := by
  unfold octet_digit.f isDig
  by_cases h : (c.toNat : Int) ≥ 48
  · rw [if_pos h]; simp only [h, decide_true, Bool.true_and]
  · rw [if_neg h]; simp only [h, decide_false, Bool.false_and]
theorem bt_mid (s : ByteArray) (p : Bs) (c : UInt8) (r : Bs) (h : s.data.toList = p ++ c :: r) : bt s (p.length : Int) = (c.toNat : Int) := by
  rw [bt_get s p.length (by rw [size_len, h]; simp), h]
  simp [List.getD_eq_getElem?_getD]
def isLet (c : UInt8) : Bool := (octet_letter.f (c.toNat : Int)).getD false
theorem letter_f (c : UInt8) : octet_letter.f (c.toNat : Int) = some (isLet c) := by
  unfold isLet octet_letter.f
  repeat' split
  all_goals rfl
def isMark (c : UInt8) : Bool := !(decide (Lib.indexByte ((⟨#[33, 35, 36, 37, 38, 39, 42, 43, 45, 46, 94, 95, 96, 124, 126]⟩ : ByteArray)).data.toList c < 0))
theorem mark_f (c : UInt8) : strings_IndexByte.f (⟨#[33, 35, 36, 37, 38, 39, 42, 43, 45, 46, 94, 95, 96, 124, 126]⟩ : ByteArray) (c.toNat : Int) = some (Lib.indexByte ((⟨#[33, 35, 36, 37, 38, 39, 42, 43, 45, 46, 94, 95, 96, 124, 126]⟩ : ByteArray)).data.toList c) := by
  unfold strings_IndexByte.f
  simp
def isTok (c : UInt8) : Bool := isLet c || isDig c || isMark c
def tokS (s : ByteArray) : Bool := s.data.toList.all isTok && s.data.toList != []
theorem token_l0 (s : ByteArray) (hs : s.size ≤ 4611686018427387904) (r : Bs) : ∀ (p : Bs), s.data.toList = p ++ r →
    Ev (fun k => octet_Token.l0 k s (s.size : Int) (p.length : Int)) (r.all isTok && s.data.toList != []) := by
  induction r with
  | nil =>
    intro p hp
    have hl : s.size = p.length := by rw [size_len, hp]; simp
    refine evSucc ?_
    simp only [octet_Token.l0]
    refine evNeg (by omega) (evEq (Ev.now _) ?_)
    rw [tl]
    simp
  | cons c r ih =>
    intro p hp
    have hl : s.size = p.length + (r.length + 1) := by rw [size_len, hp]; simp
    have hb := bt_mid s p c r hp
    have e2 : wrap64 ((p.length : Int) + 1) = ((p ++ [c]).length : Int) := by simp; unfold wrap64; omega
    have ih' := ih (p ++ [c]) (by simpa using hp)
    refine evSucc ?_
    simp only [octet_Token.l0, hb, e2]
    refine evPos (by omega) (evPos (by omega) (evPos (by omega) (evBind (letter_f c) ?_)))
    rw [List.all_cons]
    cases h1 : isLet c with
    | true => exact evPos rfl (evEq ih' (by simp [isTok, h1]))
    | false =>
      refine evNeg (by decide) (evBind (digit_f c) ?_)
      cases h2 : isDig c with
      | true => exact evPos rfl (evEq ih' (by simp [isTok, h2]))
      | false =>
        refine evNeg (by decide) (evBind (mark_f c) ?_)
        by_cases h3 : Lib.indexByte ((⟨#[33, 35, 36, 37, 38, 39, 42, 43, 45, 46, 94, 95, 96, 124, 126]⟩ : ByteArray)).data.toList c < 0
        · exact evPos h3 (evEq (Ev.now _) (by simp [isTok, h1, h2, isMark, h3]))
        · refine evNeg h3 (evEq ih' ?_)
          have : isTok c = true := by simp only [isTok, isMark, h3, decide_false, Bool.not_false, Bool.or_true]
          rw [this, Bool.true_and]
theorem token_ev (s : ByteArray) (hs : s.size ≤ 4611686018427387904) : Ev (fun k => octet_Token.f k s) (tokS s) := token_l0 s hs s.data.toList [] rfl
theorem trim_none (l : Bs) (h : ∀ c ∈ l, isBl c = false) : trimL l = l := by
  have h1 : ∀ m : Bs, (∀ c ∈ m, isBl c = false) → m.dropWhile isBl = m := by
    intro m hm
    cases m with
    | nil => rfl
    | cons c m => simp [hm c (by simp)]
  unfold trimL trimR
  rw [h1 l h, h1 _ (fun c hc => h c (by simpa using hc)), List.reverse_reverse]
def splitC (c : UInt8) : Bs → List Bs
  | [] => [[]]
  | b :: l => if b = c then [] :: splitC c l else match splitC c l with
    | [] => [[b]]
    | x :: xs => (b :: x) :: xs
theorem sp_index_at (p r : Bs) (c : UInt8) (h : c ∉ p) : Lib.indexByte (p ++ c :: r) c = (p.length : Int) := by
  induction p with
  | nil => simp [Lib.indexByte]
  | cons b p ih =>
    have hb : (b == c) = false := by
      simp only [beq_eq_false_iff_ne]
      intro e
      exact h (by simp [e])
    have := ih (fun hc => h (by simp [hc]))
    rw [List.cons_append, Lib.indexByte, hb, this]
    have h2 : (((p.length : Int)) == -1) = false := by
      simp only [beq_eq_false_iff_ne]
      omega
    rw [h2]
    simp
theorem sp_index_not (p : Bs) (c : UInt8) (h : c ∉ p) : Lib.indexByte p c = -1 := by
  induction p with
  | nil => rfl
  | cons b p ih =>
    have hb : (b == c) = false := by
      simp only [beq_eq_false_iff_ne]
      intro e
      exact h (by simp [e])
    have := ih (fun hc => h (by simp [hc]))
    rw [Lib.indexByte, hb, this]
    simp
theorem splitC_not (c : UInt8) (l : Bs) (h : c ∉ l) : splitC c l = [l] := by
  induction l with
  | nil => rfl
  | cons b l ih =>
    have hb : ¬ b = c := fun e => h (by simp [e])
    rw [splitC, if_neg hb, ih (fun hc => h (by simp [hc]))]
theorem splitC_at (c : UInt8) (p r : Bs) (h : c ∉ p) : splitC c (p ++ c :: r) = p :: splitC c r := by
  induction p with
  | nil => rw [List.nil_append, splitC, if_pos rfl]
  | cons b p ih =>
    have hb : ¬ b = c := fun e => h (by simp [e])
    rw [List.cons_append, splitC, if_neg hb, ih (fun hc => h (by simp [hc]))]
theorem splitC_ne (c : UInt8) (l : Bs) : splitC c l ≠ [] := by
  cases l with
  | nil => simp [splitC]
  | cons b l =>
    rw [splitC]
    split
    · simp
    · split <;> simp
theorem splitL_data (c : UInt8) : ∀ (k : Nat) (s : ByteArray), Lib.countB s ⟨#[c]⟩ = k → (Lib.splitB ⟨#[c]⟩ 0 k s).map (·.data.toList) = splitC c s.data.toList := by
  intro k
  induction k with
  | zero =>
    intro s hk
    by_cases hm : c ∈ s.data.toList
    · obtain ⟨p, r, e, hp⟩ := List.eq_append_cons_of_mem hm
      have hix : Lib.indexB s ⟨#[c]⟩ = ((p.length : Nat) : Int) := by
        refine (Lib.index_one _ _).trans ?_
        rw [e]
        exact sp_index_at p r c hp
      have := Lib.countB_hit s ⟨#[c]⟩ p.length (Nat.le_refl 1) hix
      omega
    · rw [splitC_not c _ hm]
      rfl
  | succ k ih =>
    intro s hk
    by_cases hm : c ∈ s.data.toList
    · obtain ⟨p, r, e, hp⟩ := List.eq_append_cons_of_mem hm
      have hix : Lib.indexB s ⟨#[c]⟩ = ((p.length : Nat) : Int) := by
        refine (Lib.index_one _ _).trans ?_
        rw [e]
        exact sp_index_at p r c hp
      have hc := Lib.countB_hit s ⟨#[c]⟩ p.length (Nat.le_refl 1) hix
      rw [Lib.splitB_hit _ _ _ s p.length hix, List.map_cons, ih _ (by omega), e, splitC_at c p r hp]
      have e1 : (s.extract 0 (p.length + 0)).data.toList = p := by
        rw [extract_list, e]
        simp
      have e2 : (s.extract (p.length + (⟨#[c]⟩ : ByteArray).size) s.size).data.toList = r := by
        have hz : s.size = (p ++ c :: r).length := by rw [size_len, e]
        rw [show (⟨#[c]⟩ : ByteArray).size = 1 from rfl, extract_list, e, hz, List.take_length]
        simp
      rw [e1, e2]
    · have hix : Lib.indexB s ⟨#[c]⟩ = -1 := (Lib.index_one _ _).trans (sp_index_not _ c hm)
      rw [Lib.splitB_miss _ _ _ s hix, splitC_not c _ hm]
      rfl
def keepT (l : List Bs) : List ByteArray := ((l.map trimL).filter fun x => x != []).map bsOf
theorem keepT_append (a b : List Bs) : keepT (a ++ b) = keepT a ++ keepT b := by simp [keepT]
def splitS (s : ByteArray) : List ByteArray := keepT (splitC 44 s.data.toList)
theorem split_f (s : ByteArray) (h : s.size < 4294967281) : strings_Split.f s (⟨#[44]⟩ : ByteArray) = some (splitL s (⟨#[44]⟩ : ByteArray)) := by
  unfold strings_Split.f
  rw [if_pos ⟨h, rfl⟩]
theorem keepT_length (l : List Bs) : (keepT l).length ≤ l.length := by
  have := List.length_filter_le (fun x : Bs => x != []) (l.map trimL)
  simpa [keepT] using this
theorem osplit_l0 (l : List ByteArray) (hl : l.length ≤ 1000000000) (hs : ∀ x ∈ l, x.size ≤ 4611686018427387904) : ∀ n i, i + n = l.length →
    Ev (fun k => octet_Split.l0 k (keepT ((l.take i).map (·.data.toList))) l (l.length : Int) (i : Int)) (keepT (l.map (·.data.toList))) := by
  intro n
  induction n with
  | zero =>
    intro i hi
    refine evSucc ?_
    simp only [octet_Split.l0]
    refine evNeg (by omega) (evEq (Ev.now _) ?_)
    rw [List.take_of_length_le (by omega)]
  | succ n ih =>
    intro i hi
    have hlt : i < l.length := by omega
    have e2 : wrap64 ((i : Int) + 1) = ((i + 1 : Nat) : Int) := by unfold wrap64; omega
    have ih' := ih (i + 1) (by omega)
    rw [List.take_succ_eq_append_getElem hlt, List.map_append, keepT_append] at ih'
    have hk := keepT_length ((l.take i).map (·.data.toList))
    rw [List.length_map, List.length_take] at hk
    refine evSucc ?_
    simp only [octet_Split.l0, e2]
    rw [rdOf_get _ _ hlt]
    refine evPos (by omega) (evPos (by omega) (evPos (by omega) (Ev.bind (trim_ev _ (hs _ (List.getElem_mem hlt))) ?_)))
    rw [tl]
    by_cases hz : (trimS l[i]).data.toList = []
    · refine evPos hz ?_
      have : keepT (([l[i]] : List ByteArray).map (·.data.toList)) = [] := by
        have hz' : trimL l[i].data.toList = [] := hz
        simp [keepT, hz']
      rw [this, List.append_nil] at ih'
      exact ih'
    · refine evNeg hz (evPos (by omega) ?_)
      have : keepT (([l[i]] : List ByteArray).map (·.data.toList)) = [trimS l[i]] := by
        have hz' : ¬ trimL l[i].data.toList = [] := hz
        simp [keepT, hz', trimS]
      rw [this] at ih'
      exact ih'
theorem osplit_ev (s : ByteArray) (h : s.size ≤ 100000000) : Ev (fun k => octet_Split.f k s) (splitS s) := by
  unfold octet_Split.f
  have hd := splitL_data 44 _ s rfl
  have hc : Lib.countB s ⟨#[44]⟩ ≤ s.size := Lib.countB_le (⟨#[44]⟩ : ByteArray) (Nat.le_refl 1) s.size s (Nat.le_refl _)
  have hl := splitL_length s 44
  have hall : ∀ (k : Nat) (s : ByteArray), ∀ x ∈ Lib.splitB (⟨#[44]⟩ : ByteArray) 0 k s, x.size ≤ s.size := by
    intro k
    induction k with
    | zero => intro s x hx; rw [Lib.splitB_zero, List.mem_singleton] at hx; rw [hx]; exact Nat.le_refl _
    | succ k ih =>
      intro s x hx
      unfold Lib.splitB at hx
      split at hx
      · rw [List.mem_singleton] at hx; rw [hx]; exact Nat.le_refl _
      · rcases List.mem_cons.1 hx with hx | hx
        · rw [hx, ByteArray.size_extract]; omega
        · have := ih _ x hx
          rw [ByteArray.size_extract] at this
          omega
  refine evBind (split_f s (by omega)) ?_
  have := osplit_l0 (splitL s ⟨#[44]⟩) (by omega) (fun x hx => by have := hall _ s x hx; omega) (splitL s ⟨#[44]⟩).length 0 (by omega)
  rw [show (splitL s ⟨#[44]⟩).map (·.data.toList) = splitC 44 s.data.toList from hd] at this
  simpa [keepT, splitS] using this
theorem keepT_one (x : Bs) : keepT [x] = if trimL x = [] then [] else [bsOf (trimL x)] := by
  unfold keepT
  by_cases h : trimL x = []
  · rw [if_pos h]; simp [h]
  · rw [if_neg h]; simp [h]
abbrev Hd := S35
def HOk (l : List Hd) : Prop := l.length ≤ 1000 ∧ ∀ h ∈ l, h.f0.size ≤ 1000000 ∧ h.f1.size ≤ 1000000
def vals (l : List Hd) (name : ByteArray) : List ByteArray := (l.filter fun h => foldB h.f0 name).map fun h => trimS h.f1
def getS (l : List Hd) (name : ByteArray) : ByteArray × Bool := (joinS (vals l name), decide (((vals l name).length : Int) > 0))
theorem joinS_size (l : List ByteArray) (n : Nat) (h : ∀ s ∈ l, s.size ≤ n) : (joinS l).size ≤ l.length * (n + 2) := by
  unfold joinS joinB
  rw [size_bsOf]
  cases l with
  | nil => simp [Lib.join]
  | cons a r =>
    have hj := Lib.join_length a.data.toList (r.map (·.data.toList)) [44, 32]
    rw [List.map_cons, hj]
    have key : ∀ m : List ByteArray, (∀ s ∈ m, s.size ≤ n) → Lib.lens (m.map (·.data.toList)) ≤ m.length * n := by
      intro m
      induction m with
      | nil => intro _; simp [Lib.lens]
      | cons b m ih =>
        intro hm
        have h1 := hm b (by simp)
        have h2 := ih (fun s hs => hm s (by simp [hs]))
        rw [size_len] at h1
        simp only [Lib.lens, List.map_cons, List.sum_cons, List.length_cons] at h2 ⊢
        rw [Nat.add_mul]
        omega
    have hk := key (a :: r) h
    simp only [List.length_map, List.length_cons, List.length_nil, List.map_cons] at hk ⊢
    rw [Nat.mul_add]
    omega
theorem vals_length (l : List Hd) (name : ByteArray) : (vals l name).length ≤ l.length := by
  unfold vals
  rw [List.length_map]
  exact List.length_filter_le _ _
theorem vals_size {l : List Hd} (h : HOk l) (name : ByteArray) : ∀ s ∈ vals l name, s.size ≤ 1000000 := by
  intro s hs
  obtain ⟨x, hx, rfl⟩ := List.mem_map.1 hs
  have := trimS_size x.f1
  have := (h.2 x (List.mem_filter.1 hx).1).2
  omega
theorem vals_join {l : List Hd} (h : HOk l) (name : ByteArray) : (joinS (vals l name)).size ≤ 1000002000 := by
  have h1 := joinS_size _ _ (vals_size h name)
  have h2 := vals_length l name
  have h3 := h.1
  have : (vals l name).length * (1000000 + 2) ≤ 1000 * (1000000 + 2) := Nat.mul_le_mul_right _ (by omega)
  omega
theorem vals_append (l m : List Hd) (name : ByteArray) : vals (l ++ m) name = vals l name ++ vals m name := by simp [vals]
theorem rd_mid (p : List Hd) (h : Hd) (r : List Hd) : rd_T35 (p ++ h :: r) (p.length : Int) = h := by
  simp [rd_T35, List.getD_eq_getElem?_getD]
theorem get_l0 (name : ByteArray) (hn : name.size ≤ 1000000) (l : List Hd) (hl : HOk l) (r : List Hd) : ∀ p acc, p ++ r = l → acc = vals p name →
    Ev (fun k => header_Get.l0 k name acc l (l.length : Int) (p.length : Int)) (getS l name) := by
  induction r with
  | nil =>
    intro p acc hp hacc
    rw [List.append_nil] at hp
    subst hp
    subst hacc
    refine evSucc ?_
    simp only [header_Get.l0]
    have hlen := vals_length p name
    have h1 := hl.1
    refine evNeg (by omega) ?_
    rw [join_f (vals p name) (by omega) (by have := vals_join hl name; omega)]
    exact Ev.now _
  | cons h r ih =>
    intro p acc hp hacc
    have hlen : l.length = p.length + (r.length + 1) := by rw [← hp]; simp
    have h1 := hl.1
    have hh := hl.2 h (by rw [← hp]; simp)
    refine evSucc ?_
    simp only [header_Get.l0]
    refine evPos (by omega) (evPos (by omega) (evPos (by omega) ?_))
    have hr : rd_T35 l (p.length : Int) = h := by rw [← hp]; exact rd_mid p h r
    rw [hr]
    refine evBind (fold_f _ _ (by omega) (by omega)) ?_
    have e2 : wrap64 ((p.length : Int) + 1) = ((p ++ [h]).length : Int) := by simp; unfold wrap64; omega
    rw [e2]
    cases hf : foldB h.f0 name with
    | true =>
      simp only [if_true]
      refine Ev.bind (trim_ev h.f1 (by omega)) ?_
      have hlv := vals_length p name
      refine evPos (by rw [hacc]; omega) ?_
      exact ih (p ++ [h]) _ (by simpa using hp) (by rw [hacc, vals_append]; simp [vals, hf])
    | false =>
      simp only [Bool.false_eq_true, if_false]
      exact ih (p ++ [h]) _ (by simpa using hp) (by rw [hacc, vals_append]; simp [vals, hf])
theorem get_ev (l : List Hd) (name : ByteArray) (hl : HOk l) (hn : name.size ≤ 1000000) : Ev (fun k => header_Get.f k l name) (getS l name) := by
  have := get_l0 name hn l hl l [] [] rfl (by simp [vals])
  simpa [header_Get.f] using this
def HT (l : List Hd) : Prop := l.length ≤ 200 ∧ ∀ h ∈ l, h.f0.size ≤ 100000 ∧ h.f1.size ≤ 100000
theorem HT.ok {l : List Hd} (h : HT l) : HOk l := ⟨by have := h.1; omega, fun x hx => by have := h.2 x hx; omega⟩
theorem HT.get {l : List Hd} (h : HT l) (name : ByteArray) : (getS l name).1.size ≤ 100000000 := by
  have h1 := joinS_size (vals l name) 100000 (fun s hs => by
    obtain ⟨x, hx, rfl⟩ := List.mem_map.1 hs
    have := trimS_size x.f1
    have := (h.2 x (List.mem_filter.1 hx).1).2
    omega)
  have h2 := vals_length l name
  have h3 := h.1
  have : (vals l name).length * (100000 + 2) ≤ 200 * (100000 + 2) := Nat.mul_le_mul_right _ (by omega)
  show (joinS (vals l name)).size ≤ _
  omega
theorem splitC_len (c : UInt8) (l : Bs) : (∀ y ∈ splitC c l, y.length ≤ l.length) ∧ (splitC c l).length ≤ l.length + 1 := by
  induction l with
  | nil => simp [splitC]
  | cons b l ih =>
    rw [splitC]
    split
    · refine ⟨fun y hy => ?_, by simpa using ih.2⟩
      rcases List.mem_cons.1 hy with rfl | hy
      · simp
      · have := ih.1 y hy; simp; omega
    · split
      · refine ⟨fun y hy => ?_, by simp⟩
        rw [List.mem_singleton.1 hy]; simp
      · rename_i x xs e
        rw [e] at ih
        refine ⟨fun y hy => ?_, by have := ih.2; simp at this ⊢; omega⟩
        rcases List.mem_cons.1 hy with rfl | hy
        · have := ih.1 x (by simp); simp; omega
        · have := ih.1 y (by simp [hy]); simp; omega
theorem splitS_length (s : ByteArray) : (splitS s).length ≤ s.size + 1 := by
  have h1 := keepT_length (splitC 44 s.data.toList)
  have h2 := (splitC_len 44 s.data.toList).2
  rw [← size_len] at h2
  unfold splitS
  omega
theorem splitS_size (s : ByteArray) : ∀ x ∈ splitS s, x.size ≤ s.size := by
  intro x hx
  obtain ⟨y, hy, rfl⟩ := List.mem_map.1 hx
  obtain ⟨z, hz, rfl⟩ := List.mem_map.1 (List.mem_filter.1 hy).1
  have h1 := (splitC_len 44 s.data.toList).1 z hz
  have h2 := trimL_length z
  rw [size_bsOf, size_len]
  omega
theorem contains_f (l : List ByteArray) (x : ByteArray) (h : l.length ≤ 9223372036854775807) : slices_Contains_string_string.f l x = some (Lib.containsS l x) := by
  unfold slices_Contains_string_string.f
  rw [if_pos h]
theorem awake15 : ∃ k, lockkeeperlaw15_awake.f k = some true := ⟨60, by decide +kernel⟩
theorem awake15_ev : Ev (fun k => lockkeeperlaw15_awake.f k) true := Ev.of lockkeeperlaw15_awake.mono awake15.choose_spec
theorem great_l0 (l : List Hd) (hl : l.length ≤ 40) (r : List Hd) : ∀ (p : List Hd) (n : Int), p ++ r = l → (∀ h ∈ p, h.f0.size ≤ 100 ∧ h.f1.size ≤ 5000) → 0 ≤ n → n ≤ 5000 * p.length →
    ∃ b, Ev (fun k => lockkeeperlaw0_GreatHeaders.l0 k l n (p.length : Int)) b ∧ (b = false → ∀ h ∈ l, h.f0.size ≤ 100 ∧ h.f1.size ≤ 5000) := by
  induction r with
  | nil =>
    intro p n hp hall h0 hn
    rw [List.append_nil] at hp
    subst hp
    refine ⟨decide (n > 12000), evSucc ?_, fun _ => hall⟩
    simp only [lockkeeperlaw0_GreatHeaders.l0]
    exact evNeg (by omega) (Ev.now _)
  | cons h r ih =>
    intro p n hp hall h0 hn
    have hlen : l.length = p.length + (r.length + 1) := by rw [← hp]; simp
    have hr : rd_T35 l (p.length : Int) = h := by rw [← hp]; exact rd_mid p h r
    by_cases h1 : (h.f0.size : Int) > 100
    · refine ⟨true, evSucc ?_, fun h => by cases h⟩
      simp only [lockkeeperlaw0_GreatHeaders.l0, hr]
      exact evPos (by omega) (evPos (by omega) (evPos h1 (Ev.now _)))
    · by_cases h2 : (h.f1.size : Int) > 5000
      · refine ⟨true, evSucc ?_, fun h => by cases h⟩
        simp only [lockkeeperlaw0_GreatHeaders.l0, hr]
        exact evPos (by omega) (evPos (by omega) (evNeg h1 (evPos h2 (Ev.now _))))
      · obtain ⟨b, hb, hB⟩ := ih (p ++ [h]) (n + h.f1.size) (by simpa using hp) (fun x hx => by
          rcases List.mem_append.1 hx with hx | hx
          · exact hall x hx
          · rw [List.mem_singleton.1 hx]; omega) (by omega) (by simp; omega)
        refine ⟨b, evSucc ?_, hB⟩
        simp only [lockkeeperlaw0_GreatHeaders.l0, hr]
        refine evPos (by omega) (evPos (by omega) (evNeg h1 (evNeg h2 ?_)))
        have e1 : wrap64 (n + (h.f1.size : Int)) = n + h.f1.size := by unfold wrap64; omega
        have e2 : wrap64 ((p.length : Int) + 1) = ((p ++ [h]).length : Int) := by simp; unfold wrap64; omega
        rw [e1, e2]
        exact hb
def HSmall (l : List Hd) : Prop := l.length ≤ 40 ∧ ∀ h ∈ l, h.f0.size ≤ 100 ∧ h.f1.size ≤ 5000
theorem HSmall.ok {l : List Hd} (h : HSmall l) : HOk l := ⟨by have := h.1; omega, fun x hx => by have := h.2 x hx; omega⟩
theorem great_ev (l : List Hd) : ∃ b, Ev (fun k => lockkeeperlaw0_GreatHeaders.f k l) b ∧ (b = false → HSmall l) := by
  unfold lockkeeperlaw0_GreatHeaders.f
  by_cases h : (l.length : Int) > 40
  · exact ⟨true, evPos h (Ev.now _), fun h => by cases h⟩
  · obtain ⟨b, hb, hB⟩ := great_l0 l (by omega) l [] 0 rfl (by simp) (by omega) (by simp)
    exact ⟨b, evNeg h hb, fun e => ⟨by omega, hB e⟩⟩
def normH (h : Hd) : Hd := ⟨lowB h.f0, trimS h.f1⟩
def normS (l : List Hd) : List Hd := l.map normH
theorem normS_ok {l : List Hd} (hl : HOk l) : HOk (normS l) := by
  refine ⟨by simpa [normS] using hl.1, fun x hx => ?_⟩
  obtain ⟨y, hy, rfl⟩ := List.mem_map.1 hx
  have := hl.2 y hy
  have ht := trimS_size y.f1
  exact ⟨by show (lowB y.f0).size ≤ _; rw [lowB_size]; omega, by show (trimS y.f1).size ≤ _; omega⟩
theorem norm_l0 (l : List Hd) (hl : HOk l) (r : List Hd) : ∀ p, p ++ r = l → Ev (fun k => header_Norm.l0 k (normS p) l (l.length : Int) (p.length : Int)) (normS l) := by
  have h1 := hl.1
  induction r with
  | nil =>
    intro p hp
    rw [List.append_nil] at hp
    subst hp
    refine evSucc ?_
    simp only [header_Norm.l0]
    exact evNeg (by omega) (Ev.now _)
  | cons h r ih =>
    intro p hp
    have hlen : l.length = p.length + (r.length + 1) := by rw [← hp]; simp
    have hh := hl.2 h (by rw [← hp]; simp)
    have hr : rd_T35 l (p.length : Int) = h := by rw [← hp]; exact rd_mid p h r
    have e2 : wrap64 ((p.length : Int) + 1) = ((p ++ [h]).length : Int) := by simp; unfold wrap64; omega
    refine evSucc ?_
    simp only [header_Norm.l0, hr, e2]
    refine evPos (by omega) (evPos (by omega) (evPos (by omega) (evBind (lower_f _ (by omega)) (Ev.bind (trim_ev _ (by omega)) (evPos (by simp [normS]; omega) ?_)))))
    have := ih (p ++ [h]) (by simpa using hp)
    rw [show normS (p ++ [h]) = normS p ++ [normH h] by simp [normS]] at this
    exact this
theorem norm_ev (l : List Hd) (hl : HOk l) : Ev (fun k => header_Norm.f k l) (normS l) := by
  have := norm_l0 l hl l [] rfl
  simpa [header_Norm.f, normS] using this
theorem rdT_get (l : List Hd) (i : Nat) (h : i < l.length) : rd_T35 l (i : Int) = l[i] := by
  simp [rd_T35, List.getD_eq_getElem?_getD, h]
theorem hd_ne (x y : Hd) : ((!((x.f0.toList) == (y.f0.toList))) || (!((x.f1.toList) == (y.f1.toList)))) = true ↔ x ≠ y := by
  rw [Bool.or_eq_true, Bool.not_eq_true', Bool.not_eq_true', beq_eq_false_iff_ne, beq_eq_false_iff_ne, ne_eq, ne_eq, tl_eq, tl_eq]
  constructor
  · rintro (h | h) e
    · exact h (by rw [e])
    · exact h (by rw [e])
  · intro h
    by_cases h0 : x.f0 = y.f0
    · refine .inr fun h1 => h ?_
      cases x; cases y
      simp_all
    · exact .inl h0
def isSeven (n : ByteArray) : Bool := n.toList == ([99, 97, 99, 104, 101, 45, 99, 111, 110, 116, 114, 111, 108] : List UInt8) || (n.toList == ([99, 111, 110, 116, 101, 110, 116, 45, 108, 97, 110, 103, 117, 97, 103, 101] : List UInt8) || (n.toList == ([99, 111, 110, 116, 101, 110, 116, 45, 108, 101, 110, 103, 116, 104] : List UInt8) || (n.toList == ([99, 111, 110, 116, 101, 110, 116, 45, 116, 121, 112, 101] : List UInt8) || (n.toList == ([101, 120, 112, 105, 114, 101, 115] : List UInt8) || (n.toList == ([108, 97, 115, 116, 45, 109, 111, 100, 105, 102, 105, 101, 100] : List UInt8) || n.toList == ([112, 114, 97, 103, 109, 97] : List UInt8))))))
def isCookie (n : ByteArray) : Bool := n.toList == ([115, 101, 116, 45, 99, 111, 111, 107, 105, 101] : List UInt8) || n.toList == ([115, 101, 116, 45, 99, 111, 111, 107, 105, 101, 50] : List UInt8)
def seenB (T : List ByteArray) (all : Bool) (h : Hd) : Bool := isSeven h.f0 || (!isCookie h.f0 && (all || T.any fun t => foldB t h.f0))
theorem foldGo_f (t : ByteArray) (ht : t.size ≤ 9223372036854775807) (L : List ByteArray) (hL : ∀ s ∈ L, s.size ≤ 9223372036854775807) : foldGo t L = some (L.any fun s => foldB s t) := by
  induction L with
  | nil => rfl
  | cons s r ih =>
    rw [foldGo, fold_f s t (hL s (by simp)) ht, List.any_cons]
    simp only [Option.bind_some]
    cases foldB s t with
    | true => rfl
    | false => rw [if_neg (by decide), Bool.false_or]; exact ih fun x hx => hL x (by simp [hx])
theorem anyFold_f (L : List ByteArray) (t : ByteArray) (ht : t.size ≤ 9223372036854775807) (hl : L.length ≤ 9223372036854775807) (hL : ∀ s ∈ L, s.size ≤ 9223372036854775807) : slices_ContainsFunc.f L t = some (L.any fun s => foldB s t) := by
  unfold slices_ContainsFunc.f
  rw [if_pos hl]
  exact foldGo_f t ht L hL
theorem seen_j2 (T : List ByteArray) (all : Bool) (out : List Hd) (x12 : Bool) (N : List Hd) (L i : Int) (n v : ByteArray) (R : List Hd) (b : Bool) (hout : out.length < 4398046511104) (hb : (isSeven n || (!isCookie n && x12)) = b)
    (h : Ev (fun k => cors_Seen.l0 k T all (if b = true then out ++ [⟨n, v⟩] else out) N L (wrap64 (i + 1))) R) : Ev (fun k => cors_Seen.j2 k T all out x12 N L i n v) R := by
  have j4 : ∀ c : Bool, (!c && x12) = b → Ev (fun k => cors_Seen.j4 k T all out x12 N L i c n v) R := by
    intro c hc
    subst hc
    refine evSucc ?_
    simp only [cors_Seen.j4]
    cases c with
    | true => exact evPos rfl (by simpa using h)
    | false =>
      cases x12 with
      | true => exact evNeg (by decide) (evPos rfl (evPos hout (by simpa using h)))
      | false => exact evNeg (by decide) (evNeg (by decide) (by simpa using h))
  have j3 : ∀ d : Bool, (d || (!isCookie n && x12)) = b → Ev (fun k => cors_Seen.j3 k T all out x12 N L i n d n v) R := by
    intro d hd
    refine evSucc ?_
    simp only [cors_Seen.j3]
    cases d with
    | true =>
      rw [Bool.true_or] at hd
      subst hd
      exact evPos rfl (evPos hout (by simpa using h))
    | false =>
      rw [Bool.false_or] at hd
      refine evNeg (by decide) ?_
      by_cases c : n.toList = ([115, 101, 116, 45, 99, 111, 111, 107, 105, 101] : List UInt8)
      · have e : (n.toList == ([115, 101, 116, 45, 99, 111, 111, 107, 105, 101] : List UInt8)) = true := beq_iff_eq.mpr c
        refine evPos c (j4 _ ?_)
        rw [← hd, isCookie, e, Bool.true_or]
      · have e : (n.toList == ([115, 101, 116, 45, 99, 111, 111, 107, 105, 101] : List UInt8)) = false := beq_eq_false_iff_ne.mpr c
        refine evNeg c (j4 _ ?_)
        rw [← hd, isCookie, e, Bool.false_or]
  refine evSucc ?_
  simp only [cors_Seen.j2]
  unfold isSeven at hb
  by_cases c1 : n.toList = ([99, 97, 99, 104, 101, 45, 99, 111, 110, 116, 114, 111, 108] : List UInt8)
  · have e : (n.toList == ([99, 97, 99, 104, 101, 45, 99, 111, 110, 116, 114, 111, 108] : List UInt8)) = true := beq_iff_eq.mpr c1
    rw [e, Bool.true_or, Bool.true_or] at hb
    exact evPos c1 (j3 _ (by rw [e, Bool.true_or, hb]))
  have e : (n.toList == ([99, 97, 99, 104, 101, 45, 99, 111, 110, 116, 114, 111, 108] : List UInt8)) = false := beq_eq_false_iff_ne.mpr c1
  rw [e, Bool.false_or] at hb
  refine evNeg c1 ?_
  clear c1 e
  by_cases c1 : n.toList = ([99, 111, 110, 116, 101, 110, 116, 45, 108, 97, 110, 103, 117, 97, 103, 101] : List UInt8)
  · have e : (n.toList == ([99, 111, 110, 116, 101, 110, 116, 45, 108, 97, 110, 103, 117, 97, 103, 101] : List UInt8)) = true := beq_iff_eq.mpr c1
    rw [e, Bool.true_or, Bool.true_or] at hb
    exact evPos c1 (j3 _ (by rw [e, Bool.true_or, hb]))
  have e : (n.toList == ([99, 111, 110, 116, 101, 110, 116, 45, 108, 97, 110, 103, 117, 97, 103, 101] : List UInt8)) = false := beq_eq_false_iff_ne.mpr c1
  rw [e, Bool.false_or] at hb
  refine evNeg c1 ?_
  clear c1 e
  by_cases c1 : n.toList = ([99, 111, 110, 116, 101, 110, 116, 45, 108, 101, 110, 103, 116, 104] : List UInt8)
  · have e : (n.toList == ([99, 111, 110, 116, 101, 110, 116, 45, 108, 101, 110, 103, 116, 104] : List UInt8)) = true := beq_iff_eq.mpr c1
    rw [e, Bool.true_or, Bool.true_or] at hb
    exact evPos c1 (j3 _ (by rw [e, Bool.true_or, hb]))
  have e : (n.toList == ([99, 111, 110, 116, 101, 110, 116, 45, 108, 101, 110, 103, 116, 104] : List UInt8)) = false := beq_eq_false_iff_ne.mpr c1
  rw [e, Bool.false_or] at hb
  refine evNeg c1 ?_
  clear c1 e
  by_cases c1 : n.toList = ([99, 111, 110, 116, 101, 110, 116, 45, 116, 121, 112, 101] : List UInt8)
  · have e : (n.toList == ([99, 111, 110, 116, 101, 110, 116, 45, 116, 121, 112, 101] : List UInt8)) = true := beq_iff_eq.mpr c1
    rw [e, Bool.true_or, Bool.true_or] at hb
    exact evPos c1 (j3 _ (by rw [e, Bool.true_or, hb]))
  have e : (n.toList == ([99, 111, 110, 116, 101, 110, 116, 45, 116, 121, 112, 101] : List UInt8)) = false := beq_eq_false_iff_ne.mpr c1
  rw [e, Bool.false_or] at hb
  refine evNeg c1 ?_
  clear c1 e
  by_cases c1 : n.toList = ([101, 120, 112, 105, 114, 101, 115] : List UInt8)
  · have e : (n.toList == ([101, 120, 112, 105, 114, 101, 115] : List UInt8)) = true := beq_iff_eq.mpr c1
    rw [e, Bool.true_or, Bool.true_or] at hb
    exact evPos c1 (j3 _ (by rw [e, Bool.true_or, hb]))
  have e : (n.toList == ([101, 120, 112, 105, 114, 101, 115] : List UInt8)) = false := beq_eq_false_iff_ne.mpr c1
  rw [e, Bool.false_or] at hb
  refine evNeg c1 ?_
  clear c1 e
  by_cases c1 : n.toList = ([108, 97, 115, 116, 45, 109, 111, 100, 105, 102, 105, 101, 100] : List UInt8)
  · have e : (n.toList == ([108, 97, 115, 116, 45, 109, 111, 100, 105, 102, 105, 101, 100] : List UInt8)) = true := beq_iff_eq.mpr c1
    rw [e, Bool.true_or, Bool.true_or] at hb
    exact evPos c1 (j3 _ (by rw [e, Bool.true_or, hb]))
  have e : (n.toList == ([108, 97, 115, 116, 45, 109, 111, 100, 105, 102, 105, 101, 100] : List UInt8)) = false := beq_eq_false_iff_ne.mpr c1
  rw [e, Bool.false_or] at hb
  exact evNeg c1 (j3 _ hb)
theorem filter_step {α : Type} (p : α → Bool) (N : List α) (i : Nat) (h : i < N.length) : (N.take (i + 1)).filter p = if p N[i] = true then (N.take i).filter p ++ [N[i]] else (N.take i).filter p := by
  rw [List.take_add_one, List.getElem?_eq_getElem h, List.filter_append]
  cases hp : p N[i] with
  | true => simp [hp]
  | false => simp [hp]
theorem filter_len {α : Type} (p : α → Bool) (N : List α) (i : Nat) : ((N.take i).filter p).length ≤ N.length := by
  have h1 := List.length_filter_le p (N.take i)
  have h2 := List.length_take_le i N
  have h3 : (N.take i).length ≤ N.length := by rw [List.length_take]; omega
  omega
theorem seen_l0 (T : List ByteArray) (all : Bool) (N : List Hd) (hT : T.length ≤ 9223372036854775807) (hTs : ∀ t ∈ T, t.size ≤ 9223372036854775807) (hN : N.length ≤ 1000000) (hNs : ∀ h ∈ N, h.f0.size ≤ 9223372036854775807) : ∀ n i : Nat, i + n = N.length →
    Ev (fun k => cors_Seen.l0 k T all ((N.take i).filter (seenB T all)) N (N.length : Int) (i : Int)) (N.filter (seenB T all)) := by
  intro n
  induction n with
  | zero =>
    intro i hi
    rw [List.take_of_length_le (by omega)]
    refine evSucc ?_
    simp only [cors_Seen.l0]
    exact evNeg (by omega) (Ev.now _)
  | succ n ih =>
    intro i hi
    have hlt : i < N.length := by omega
    have e2 : wrap64 ((i : Int) + 1) = ((i + 1 : Nat) : Int) := by unfold wrap64; omega
    have IH := ih (i + 1) (by omega)
    rw [filter_step _ _ _ hlt] at IH
    have hz := hNs _ (List.getElem_mem hlt)
    have hlen := filter_len (seenB T all) N i
    refine evSucc ?_
    simp only [cors_Seen.l0]
    rw [rdT_get _ _ hlt]
    generalize (N.take i).filter (seenB T all) = out at IH hlen ⊢
    generalize N[i] = hh at IH hz ⊢
    refine evPos (by omega) (evPos (by omega) (evPos (by omega) ?_))
    cases all with
    | true => exact evPos rfl (seen_j2 T true out true N _ _ hh.f0 hh.f1 _ (seenB T true hh) (by omega) (by unfold seenB; simp) (by rw [e2]; exact IH))
    | false => exact evNeg (by decide) (evBind (anyFold_f T hh.f0 hz hT hTs) (seen_j2 T false out _ N _ _ hh.f0 hh.f1 _ (seenB T false hh) (by omega) (by unfold seenB; simp) (by rw [e2]; exact IH)))
def sExpose : ByteArray := (⟨#[97, 99, 99, 101, 115, 115, 45, 99, 111, 110, 116, 114, 111, 108, 45, 101, 120, 112, 111, 115, 101, 45, 104, 101, 97, 100, 101, 114, 115]⟩ : ByteArray)
def sStar1 : ByteArray := (⟨#[42]⟩ : ByteArray)
def toldS (l : List Hd) : List ByteArray := splitS (getS l sExpose).1
def allS (creds : Bool) (l : List Hd) : Bool := !creds && Lib.containsS (toldS l) sStar1
def seenS (creds : Bool) (l : List Hd) : List Hd := (normS l).filter (seenB (toldS l) (allS creds l))
theorem seen_ev (creds : Bool) (l : List Hd) (hl : HOk l) (hg : (getS l sExpose).1.size ≤ 100000000) : Ev (fun k => cors_Seen.f k creds l) (seenS creds l) := by
  have z1 := splitS_length (getS l sExpose).1
  have z2 := splitS_size (getS l sExpose).1
  have hn := normS_ok hl
  have hj : ∀ all, Ev (fun k => cors_Seen.j0 k l (toldS l) all) ((normS l).filter (seenB (toldS l) all)) := by
    intro all
    refine evSucc ?_
    simp only [cors_Seen.j0]
    refine Ev.bind (norm_ev l hl) ?_
    have := seen_l0 (toldS l) all (normS l) (by unfold toldS; omega) (fun t ht => by have := z2 t ht; omega) (by have := hn.1; omega) (fun h hh => by have := hn.2 h hh; omega) _ 0 (Nat.zero_add _)
    simpa using this
  unfold cors_Seen.f seenS allS
  refine Ev.bind (get_ev l sExpose hl (by decide)) (Ev.bind (osplit_ev _ hg) ?_)
  cases creds with
  | true => exact evPos rfl (hj _)
  | false => exact evNeg (by decide) (evBind (contains_f _ _ (by omega)) (hj _))
theorem trimL_space (x : Bs) : trimL (32 :: x) = trimL x := by
  unfold trimL
  rw [show (32 :: x).dropWhile isBl = x.dropWhile isBl by simp [show isBl 32 = true by decide]]
theorem keepT_cons (x : Bs) (xs : List Bs) : keepT (x :: xs) = keepT [x] ++ keepT xs := keepT_append [x] xs
theorem keepT_space (m : Bs) : keepT (splitC 44 (32 :: m)) = keepT (splitC 44 m) := by
  rw [splitC, if_neg (by decide)]
  cases h : splitC 44 m with
  | nil => exact absurd h (splitC_ne 44 m)
  | cons x xs =>
    rw [keepT_cons (32 :: x), keepT_cons x]
    unfold keepT
    simp only [List.map_cons, List.map_nil, trimL_space]
theorem join_split (xs : List Bs) (h : ∀ x ∈ xs, (44 : UInt8) ∉ x) : keepT (splitC 44 (Lib.join xs [44, 32])) = keepT xs := by
  induction xs with
  | nil => rfl
  | cons a xs ih =>
    have ha := h a (by simp)
    cases xs with
    | nil =>
      have : Lib.join [a] [44, 32] = a := by simp [Lib.join, List.intercalate, List.intersperse]
      rw [this, splitC_not 44 a ha]
    | cons b xs =>
      have hi := ih (fun x hx => h x (by simp [hx]))
      have : Lib.join (a :: b :: xs) [44, 32] = a ++ 44 :: (32 :: Lib.join (b :: xs) [44, 32]) := by simp [Lib.join, List.intercalate, List.intersperse]
      rw [this, splitC_at 44 a _ ha, keepT_cons, keepT_space, hi, ← keepT_cons]
theorem tok_all : ∀ n : Fin 256, isTok (UInt8.ofNat n.val) = true → UInt8.ofNat n.val ≠ 44 ∧ isBl (UInt8.ofNat n.val) = false := by decide +kernel
theorem tok_c (c : UInt8) (h : isTok c = true) : c ≠ 44 ∧ isBl c = false := by
  have := tok_all ⟨c.toNat, c.toNat_lt⟩
  simp at this
  exact this h
theorem tok_text {x : ByteArray} (h : tokS x = true) : (44 : UInt8) ∉ x.data.toList ∧ trimL x.data.toList = x.data.toList ∧ x.data.toList ≠ [] := by
  unfold tokS at h
  rw [Bool.and_eq_true, List.all_eq_true] at h
  refine ⟨fun hm => (tok_c 44 (h.1 44 hm)).1 rfl, trim_none _ fun c hc => (tok_c c (h.1 c hc)).2, ?_⟩
  simpa using h.2
theorem keepT_toks (L : List ByteArray) (h : ∀ x ∈ L, tokS x = true) : keepT (L.map fun x => x.data.toList) = L := by
  induction L with
  | nil => rfl
  | cons x L ih =>
    obtain ⟨_, h2, h3⟩ := tok_text (h x (by simp))
    rw [List.map_cons, keepT_cons, ih (fun y hy => h y (by simp [hy])), keepT_one, h2, if_neg h3, bsOf_of]
    rfl
theorem split_join (L : List ByteArray) (h : ∀ x ∈ L, tokS x = true) : splitS (joinS L) = L := by
  have e : (joinS L).data.toList = Lib.join (L.map fun x => x.data.toList) [44, 32] := by
    unfold joinS joinB
    first | rfl | (simp [bsOf_data]; done) | (rw [bsOf_data]; rfl)
  unfold splitS
  rw [e, join_split _ (fun x hx => by
    obtain ⟨y, hy, rfl⟩ := List.mem_map.1 hx
    exact (tok_text (h y hy)).1), keepT_toks L h]
theorem trimS_tok {x : ByteArray} (h : tokS x = true) : trimS x = x := by
  unfold trimS
  rw [(tok_text h).2.1, bsOf_of]
theorem seven_cookie (n : ByteArray) (h : isSeven n = true) : isCookie n = false := by
  unfold isSeven at h
  unfold isCookie
  simp only [Bool.or_eq_true, beq_iff_eq] at h
  rcases h with h | h | h | h | h | h | h <;> rw [h] <;> decide
end Go.Proofs.YtnbkfneolgeeeaaDoor.Pr
