/- Plain laws of the words of chapters 1 and 6 and of their references: what SafeAll leans on, in one text. -/
import Derived.Test.YtojcceafgkdchaaG2
import Derived.Sort.Walk0
import Derived.Test.YtojcceafgkdchaaG6
import Derived.Test.YtojcceafgkdchaaPr1
import Derived.Test.YtojcceafgkdchaaPr4
import Derived.Test.YtojcceafgkdchaaPr2
import Derived.Test.YtojcceafgkdchaaPr3
import Derived.Test.YtojcceafgkdchaaPr5
namespace Go.Proofs.Ytojcceafgkdchaa.Pr
open Go.RowKit Go.Proofs.YtojcceafgkdchaaW.PrintWords Go.Proofs.YtojcceafgkdchaaW.PrintLast
set_option linter.unusedVariables false
set_option linter.unusedSimpArgs false
abbrev Bs := List UInt8
theorem tl (s : ByteArray) : s.toList = s.data.toList := ByteArray.toList_eq s
theorem ba_ext {a b : ByteArray} (h : a.data.toList = b.data.toList) : a = b := by
  rw [← bsOf_of a, ← bsOf_of b, h]
theorem tl_eq (a b : ByteArray) : (a.toList = b.toList) ↔ a = b := by
  rw [tl, tl]
  exact ⟨ba_ext, fun h => by rw [h]⟩
theorem size_len (s : ByteArray) : s.size = s.data.toList.length := (data_length s).symm
theorem size_bsOf (l : Bs) : (bsOf l).size = l.length := by rw [size_len]; rfl
theorem extract_list (s : ByteArray) (a b : Nat) : (s.extract a b).data.toList = (s.data.toList.take b).drop a := by
  simp [List.drop_take]
theorem bt_get (s : ByteArray) (i : Nat) (h : i < s.size) : bt s (i : Int) = ((s.data.toList.getD i 0).toNat : Int) := by
  have h' : i < s.data.toList.length := by rw [← size_len]; exact h
  unfold bt
  rw [dif_pos (by simpa using h), List.getD_eq_getElem?_getD, List.getElem?_eq_getElem h']
  simp
  rfl
theorem indexByte_mem (l : Bs) (c : UInt8) : decide (Lib.indexByte l c ≥ 0) = l.contains c := by
  induction l with
  | nil => rfl
  | cons b l ih =>
    unfold Lib.indexByte
    have hge := Lib.indexByte_ge l c
    by_cases h : b = c
    · subst h
      simp
    · have h1 : (b == c) = false := by simpa using h
      have h2 : (c == b) = false := by simpa using fun e => h e.symm
      rw [h1, List.contains_cons, h2, Bool.false_or, ← ih]
      simp only [Bool.false_eq_true, if_false]
      by_cases h3 : Lib.indexByte l c = -1
      · simp [h3]
      · have h4 : (Lib.indexByte l c == -1) = false := by simpa using h3
        rw [h4]
        simp
        omega
def isBl (c : UInt8) : Bool := c == 9 || c == 10 || c == 13 || c == 32
theorem blank_f (c : UInt8) : octet_blank.f (c.toNat : Int) = some (isBl c) := by
  unfold octet_blank.f strings_IndexByte.f
  simp only [Option.bind_some]
  rw [indexByte_mem]
  congr 1
  rw [Bool.eq_iff_iff]
  simp [isBl, or_assoc]
def trimR (l : Bs) : Bs := (l.reverse.dropWhile isBl).reverse
def trimL (l : Bs) : Bs := trimR (l.dropWhile isBl)
def trimS (s : ByteArray) : ByteArray := bsOf (trimL s.data.toList)
theorem trim_l1 (n : Nat) : ∀ s : ByteArray, s.size = n → n ≤ 4611686018427387904 → Ev (fun k => octet_Trim.l1 k s) (bsOf (trimR s.data.toList)) := by
  induction n with
  | zero =>
    intro s hs _
    have hl : s.data.toList = [] := List.eq_nil_of_length_eq_zero (by rw [← size_len]; exact hs)
    refine Ev.step (f := fun _ => some s) (fun k => ?_) ?_
    · simp only [octet_Trim.l1]
      rw [if_pos (by rw [tl, hl])]
    · rw [hl, ← bsOf_of s, hl]
      exact Ev.now _
  | succ n ih =>
    intro s hs hn
    have hlen : s.data.toList.length = n + 1 := by rw [← size_len]; exact hs
    obtain ⟨l, c, hl⟩ : ∃ l c, s.data.toList = l ++ [c] := by
      have hne : s.data.toList ≠ [] := by intro e; rw [e] at hlen; simp at hlen
      exact ⟨_, _, (List.dropLast_concat_getLast hne).symm⟩
    have hll : l.length = n := by rw [hl] at hlen; simpa using hlen
    have hw : wrap64 ((s.size : Int) - 1) = (n : Int) := by rw [hs]; unfold wrap64; omega
    have hb : bt s ((n : Nat) : Int) = (c.toNat : Int) := by
      rw [bt_get s n (by omega), hl]
      simp [List.getD_eq_getElem?_getD, hll]
    have hne : ¬ s.toList = [] := by rw [tl, hl]; simp
    by_cases hc : isBl c = true
    · refine Ev.step (f := fun k => octet_Trim.l1 k (s.extract 0 n)) (fun k => ?_) ?_
      · simp only [octet_Trim.l1]
        rw [if_neg hne, hw, if_pos (by omega), if_pos (by omega), hb, blank_f]
        simp only [Option.bind_some]
        rw [if_pos hc, if_pos (by omega)]
        rfl
      · have he : (s.extract 0 n).data.toList = l := by
          rw [extract_list, hl]
          simp [← hll]
        have hsz : (s.extract 0 n).size = n := by rw [size_len, he, hll]
        have := ih _ hsz (by omega)
        rw [he] at this
        have e2 : trimR s.data.toList = trimR l := by
          rw [hl]
          simp [trimR, hc]
        rw [e2]
        exact this
    · refine Ev.step (f := fun _ => some s) (fun k => ?_) ?_
      · simp only [octet_Trim.l1]
        rw [if_neg hne, hw, if_pos (by omega), if_pos (by omega), hb, blank_f]
        simp only [Option.bind_some]
        rw [if_neg hc]
      · have e2 : trimR s.data.toList = s.data.toList := by
          rw [hl]
          simp [trimR, hc]
        rw [e2, bsOf_of]
        exact Ev.now _
theorem trim_j1 (s : ByteArray) (hn : s.size ≤ 4611686018427387904) : Ev (fun k => octet_Trim.j1 k s) (bsOf (trimR s.data.toList)) :=
  Ev.step (fun k => rfl) (trim_l1 _ s rfl hn)
theorem trim_l0 (n : Nat) : ∀ s : ByteArray, s.size = n → n ≤ 4611686018427387904 → Ev (fun k => octet_Trim.l0 k s) (trimS s) := by
  induction n with
  | zero =>
    intro s hs hn
    have hl : s.data.toList = [] := List.eq_nil_of_length_eq_zero (by rw [← size_len]; exact hs)
    refine Ev.step (f := fun k => octet_Trim.j1 k s) (fun k => ?_) ?_
    · simp only [octet_Trim.l0]
      rw [if_pos (by rw [tl, hl])]
    · have := trim_j1 s (by omega)
      unfold trimS trimL
      rw [hl] at this ⊢
      exact this
  | succ n ih =>
    intro s hs hn
    have hlen : s.data.toList.length = n + 1 := by rw [← size_len]; exact hs
    obtain ⟨c, l, hl⟩ : ∃ c l, s.data.toList = c :: l := by
      cases h : s.data.toList with
      | nil => rw [h] at hlen; simp at hlen
      | cons c l => exact ⟨c, l, rfl⟩
    have hll : l.length = n := by rw [hl] at hlen; simpa using hlen
    have hb : bt s 0 = (c.toNat : Int) := by
      have := bt_get s 0 (by omega)
      rw [hl] at this
      simpa using this
    have hne : ¬ s.toList = [] := by rw [tl, hl]; simp
    by_cases hc : isBl c = true
    · refine Ev.step (f := fun k => octet_Trim.l0 k (s.extract 1 s.size)) (fun k => ?_) ?_
      · simp only [octet_Trim.l0]
        rw [if_neg hne, if_pos (by omega), hb, blank_f]
        simp only [Option.bind_some]
        rw [if_pos hc, if_pos (by omega)]
      · have he : (s.extract 1 s.size).data.toList = l := by
          rw [extract_list, hl, hs]
          simp [← hll]
        have hsz : (s.extract 1 s.size).size = n := by rw [size_len, he, hll]
        have := ih _ hsz (by omega)
        unfold trimS at this ⊢
        rw [he] at this
        rw [hl]
        have e2 : trimL (c :: l) = trimL l := by simp [trimL, hc]
        rw [e2]
        exact this
    · refine Ev.step (f := fun k => octet_Trim.j1 k s) (fun k => ?_) ?_
      · simp only [octet_Trim.l0]
        rw [if_neg hne, if_pos (by omega), hb, blank_f]
        simp only [Option.bind_some]
        rw [if_neg hc]
      · have := trim_j1 s (by omega)
        unfold trimS trimL
        have e2 : s.data.toList.dropWhile isBl = s.data.toList := by rw [hl]; simp [hc]
        rw [e2]
        exact this
theorem trim_ev (s : ByteArray) (hn : s.size ≤ 4611686018427387904) : Ev (fun k => octet_Trim.f k s) (trimS s) := trim_l0 _ s rfl hn
def lowC (c : UInt8) : UInt8 := if 65 ≤ c ∧ c ≤ 90 then c + 32 else c
def lowL (l : Bs) : Bs := l.map lowC
theorem strOfNums_bytes (l : Bs) : strOfNums (l.map fun b => (b.toNat : Int)) = bsOf l := by
  unfold strOfNums bsOf
  congr 1
  congr 1
  rw [List.map_map]
  conv => rhs; rw [← List.map_id l]
  apply List.map_congr_left
  intro b _
  simp
theorem lowI_lowC (c : UInt8) : lowI (c.toNat : Int) = ((lowC c).toNat : Int) := by
  unfold lowI lowC
  have hc := c.toNat_lt
  simp only [UInt8.le_iff_toNat_le, UInt8.toNat_ofNat]
  by_cases h : 65 ≤ c.toNat ∧ c.toNat ≤ 90
  · rw [if_pos (by omega), if_pos (by simpa using h)]
    simp [UInt8.toNat_add]
    omega
  · rw [if_neg (by omega), if_neg (by simpa using h)]
theorem lowS_eq (s : ByteArray) : lowS s = bsOf (lowL s.data.toList) := by
  unfold lowS lowL
  rw [← strOfNums_bytes]
  congr 1
  apply List.ext_getElem?
  intro i
  simp only [bytesOf, List.getElem?_mapIdx, List.getElem?_map]
  cases s.data.toList[i]? with
  | none => rfl
  | some c => simp [lowI_lowC]
theorem lower_f (s : ByteArray) (h : s.size ≤ 9223372036854775807) : octet_Lower.f s = some (bsOf (lowL s.data.toList)) := by
  unfold octet_Lower.f
  rw [if_pos h, lowS_eq]
def longS : Int → List ByteArray → Bool
  | _, [] => false
  | n, s :: r => if (s.size : Int) ≥ n then true else longS (n - s.size - 1) r
theorem long_l0 (r : List ByteArray) : ∀ (p : List ByteArray) (n : Int), 0 ≤ n → n ≤ 4611686018427387904 → (p ++ r).length ≤ 9223372036854775806 → Ev (fun k => lockkeeperlaw0_Long.l0 k n (p ++ r) (p.length : Int)) (longS n r) := by
  induction r with
  | nil =>
    intro p n _ _ _
    refine Ev.step (f := fun _ => some false) (fun k => ?_) (Ev.now _)
    simp only [lockkeeperlaw0_Long.l0]
    rw [if_neg (by simp)]
  | cons s r ih =>
    intro p n h0 hn hl
    have hr : rdOf ByteArray.empty (p ++ s :: r) (p.length : Int) = s := by simp [rdOf, List.getD_eq_getElem?_getD]
    have hlen : (p ++ s :: r).length = p.length + (r.length + 1) := by simp
    by_cases h : (s.size : Int) ≥ n
    · refine Ev.step (f := fun _ => some true) (fun k => ?_) (by rw [longS, if_pos h]; exact Ev.now _)
      simp only [lockkeeperlaw0_Long.l0]
      rw [if_pos (by omega), if_pos (by omega), hr, if_pos h]
    · refine Ev.step (f := fun k => lockkeeperlaw0_Long.l0 k (n - s.size - 1) ((p ++ [s]) ++ r) ((p ++ [s]).length : Int)) (fun k => ?_) ?_
      · simp only [lockkeeperlaw0_Long.l0]
        rw [if_pos (by omega), if_pos (by omega), hr, if_neg h]
        have e1 : wrap64 (wrap64 (n - (s.size : Int)) - 1) = n - s.size - 1 := by unfold wrap64; omega
        have e2 : wrap64 ((p.length : Int) + 1) = ((p ++ [s]).length : Int) := by simp; unfold wrap64; omega
        rw [e1, e2]
        simp
      · rw [longS, if_neg h]
        exact ih (p ++ [s]) _ (by omega) (by omega) (by simpa using hl)
theorem long_ev (n : Int) (l : List ByteArray) (h0 : 0 ≤ n) (hn : n ≤ 4611686018427387904) (hl : l.length ≤ 9223372036854775806) : Ev (fun k => lockkeeperlaw0_Long.f k n l) (longS n l) := by
  have := long_l0 l [] n h0 hn (by simpa using hl)
  simpa [lockkeeperlaw0_Long.f] using this
theorem longS_size : ∀ (l : List ByteArray) (n : Int), longS n l = false → ∀ s ∈ l, (s.size : Int) < n := by
  intro l
  induction l with
  | nil => intro n _ s hs; cases hs
  | cons a r ih =>
    intro n h s hs
    rw [longS] at h
    by_cases ha : (a.size : Int) ≥ n
    · rw [if_pos ha] at h; cases h
    · rw [if_neg ha] at h
      rcases List.mem_cons.1 hs with rfl | hs
      · omega
      · have := ih _ h s hs
        omega
abbrev Hd := S26
theorem evSucc {α : Type} {g : Nat → Option α} {r : α} (h : Ev (fun k => g (k + 1)) r) : Ev g r := Ev.step (fun _ => rfl) h
theorem evEq {α : Type} {g : Nat → Option α} {r r' : α} (h : Ev g r) (e : r = r') : Ev g r' := e ▸ h
theorem evPos {α : Type} {c : Prop} [Decidable c] {g h : Nat → Option α} {r : α} (hc : c) (hg : Ev g r) : Ev (fun k => if c then g k else h k) r := by
  simp only [if_pos hc]
  exact hg
theorem evNeg {α : Type} {c : Prop} [Decidable c] {g h : Nat → Option α} {r : α} (hc : ¬ c) (hg : Ev h r) : Ev (fun k => if c then g k else h k) r := by
  simp only [if_neg hc]
  exact hg
theorem evBind {α β : Type} {a : Option α} {x : α} {f : Nat → α → Option β} {r : β} (h : a = some x) (k : Ev (fun n => f n x) r) : Ev (fun n => a.bind (f n)) r := by
  subst h
  exact k
def HOk (l : List Hd) : Prop := l.length ≤ 1000 ∧ ∀ h ∈ l, h.f0.size ≤ 1000000 ∧ h.f1.size ≤ 1000000
theorem trimL_length (l : Bs) : (trimL l).length ≤ l.length := by
  unfold trimL trimR
  have h1 := (List.dropWhile_sublist isBl (l := l)).length_le
  have h2 := (List.dropWhile_sublist isBl (l := (l.dropWhile isBl).reverse)).length_le
  simp only [List.length_reverse] at h2 ⊢
  omega
theorem trimS_size (s : ByteArray) : (trimS s).size ≤ s.size := by
  unfold trimS
  rw [size_bsOf, size_len]
  exact trimL_length _
theorem rd_mid (p : List Hd) (h : Hd) (r : List Hd) : rd_T26 (p ++ h :: r) (p.length : Int) = h := by
  simp [rd_T26, List.getD_eq_getElem?_getD]
theorem great_l0 (l : List Hd) (hl : l.length ≤ 40) (r : List Hd) : ∀ (p : List Hd) (n : Int), p ++ r = l → (∀ h ∈ p, h.f0.size ≤ 100 ∧ h.f1.size ≤ 5000) → 0 ≤ n → n ≤ 5000 * p.length →
    ∃ b, Ev (fun k => lockkeeperlaw0_GreatHeaders.l0 k l n (p.length : Int)) b ∧ (b = false → ∀ h ∈ l, h.f0.size ≤ 100 ∧ h.f1.size ≤ 5000) := by
  induction r with
  | nil =>
    intro p n hp hall h0 hn
    rw [List.append_nil] at hp
    subst hp
    refine ⟨decide (n > 12000), evSucc ?_, fun _ => hall⟩
    simp only [lockkeeperlaw0_GreatHeaders.l0]
    exact evNeg (by omega) (Ev.now _)
  | cons h r ih =>
    intro p n hp hall h0 hn
    have hlen : l.length = p.length + (r.length + 1) := by rw [← hp]; simp
    have hr : rd_T26 l (p.length : Int) = h := by rw [← hp]; exact rd_mid p h r
    by_cases h1 : (h.f0.size : Int) > 100
    · refine ⟨true, evSucc ?_, fun h => by cases h⟩
      simp only [lockkeeperlaw0_GreatHeaders.l0, hr]
      exact evPos (by omega) (evPos (by omega) (evPos h1 (Ev.now _)))
    · by_cases h2 : (h.f1.size : Int) > 5000
      · refine ⟨true, evSucc ?_, fun h => by cases h⟩
        simp only [lockkeeperlaw0_GreatHeaders.l0, hr]
        exact evPos (by omega) (evPos (by omega) (evNeg h1 (evPos h2 (Ev.now _))))
      · obtain ⟨b, hb, hB⟩ := ih (p ++ [h]) (n + h.f1.size) (by simpa using hp) (fun x hx => by
          rcases List.mem_append.1 hx with hx | hx
          · exact hall x hx
          · rw [List.mem_singleton.1 hx]; omega) (by omega) (by simp; omega)
        refine ⟨b, evSucc ?_, hB⟩
        simp only [lockkeeperlaw0_GreatHeaders.l0, hr]
        refine evPos (by omega) (evPos (by omega) (evNeg h1 (evNeg h2 ?_)))
        have e1 : wrap64 (n + (h.f1.size : Int)) = n + h.f1.size := by unfold wrap64; omega
        have e2 : wrap64 ((p.length : Int) + 1) = ((p ++ [h]).length : Int) := by simp; unfold wrap64; omega
        rw [e1, e2]
        exact hb
def HSmall (l : List Hd) : Prop := l.length ≤ 40 ∧ ∀ h ∈ l, h.f0.size ≤ 100 ∧ h.f1.size ≤ 5000
theorem HSmall.ok {l : List Hd} (h : HSmall l) : HOk l := ⟨by have := h.1; omega, fun x hx => by have := h.2 x hx; omega⟩
theorem great_ev (l : List Hd) : ∃ b, Ev (fun k => lockkeeperlaw0_GreatHeaders.f k l) b ∧ (b = false → HSmall l) := by
  unfold lockkeeperlaw0_GreatHeaders.f
  by_cases h : (l.length : Int) > 40
  · exact ⟨true, evPos h (Ev.now _), fun h => by cases h⟩
  · obtain ⟨b, hb, hB⟩ := great_l0 l (by omega) l [] 0 rfl (by simp) (by omega) (by simp)
    exact ⟨b, evNeg h hb, fun e => ⟨by omega, hB e⟩⟩
theorem bs_lt_irrefl (a : Bs) : ¬ a < a := List.lt_irrefl a
theorem bs_lt_trans {a b c : Bs} (h : a < b) (h' : b < c) : a < c := List.lt_trans h h'
theorem bs_le_or (a b : Bs) : a ≤ b ∨ b ≤ a := List.le_total a b
theorem bs_lt_of {a b : Bs} (h : a ≤ b) (hn : b ≠ a) : a < b := by
  rcases Classical.em (a < b) with h' | h'
  · exact h'
  · exact absurd (List.le_antisymm (List.not_lt.1 h') h) hn
theorem bs_le_lt {a b c : Bs} (h : a ≤ b) (h' : b < c) : a < c := List.lt_of_le_of_lt h h'
abbrev Rises (l : List Bs) : Prop := l.Pairwise (· < ·)
theorem compactUpTo_mem (d : Array Bs) : ∀ m i, i < m → d[i]! ∈ Lib.compactUpTo d m := by
  intro m
  induction m with
  | zero => intro i hi; omega
  | succ m ih =>
    intro i hi
    rw [Lib.compactUpTo_succ]
    by_cases h : i < m
    · exact List.mem_append_left _ (ih i h)
    · obtain rfl : i = m := by omega
      cases hk : Lib.keeps d i with
      | true => simp
      | false =>
        have : ¬ (i = 0 ∨ d[i]! ≠ d[i - 1]!) := by simpa [Lib.keeps] using hk
        have h0 : i ≠ 0 := fun e => this (.inl e)
        have h1 : d[i]! = d[i - 1]! := Classical.byContradiction fun e => this (.inr e)
        rw [h1]
        exact List.mem_append_left _ (ih (i - 1) (by omega))
theorem compact_mem (zs : List Bs) (x : Bs) : x ∈ Lib.compact zs ↔ x ∈ zs := by
  constructor
  · intro h
    unfold Lib.compact Lib.compactUpTo at h
    obtain ⟨i, hi, rfl⟩ := List.mem_map.1 h
    have hi' : i < zs.length := List.mem_range.1 (List.mem_filter.1 hi).1
    simp [getElem!_pos, hi']
  · intro h
    obtain ⟨i, hi, rfl⟩ := List.getElem_of_mem h
    have := compactUpTo_mem zs.toArray zs.length i hi
    simpa [Lib.compact, getElem!_pos, hi] using this
theorem compactUpTo_rises (d : Array Bs) (hd : ∀ i, i + 1 < d.size → d[i]! ≤ d[i + 1]!) : ∀ m, m ≤ d.size → Rises (Lib.compactUpTo d m) ∧ ∀ x ∈ Lib.compactUpTo d m, x ≤ d[m - 1]! := by
  intro m
  induction m with
  | zero => intro _; exact ⟨by simp [Lib.compactUpTo, Rises], by simp [Lib.compactUpTo]⟩
  | succ m ih =>
    intro hm
    obtain ⟨h1, h2⟩ := ih (by omega)
    rw [Lib.compactUpTo_succ]
    cases hk : Lib.keeps d m with
    | true =>
      have hk' : m = 0 ∨ d[m]! ≠ d[m - 1]! := by simpa [Lib.keeps] using hk
      simp only [if_true]
      rcases Nat.eq_zero_or_pos m with rfl | hp
      · refine ⟨by simp [Lib.compactUpTo, Rises], ?_⟩
        intro x hx
        have : x = d[0]! := by simpa [Lib.compactUpTo] using hx
        rw [this]
        exact List.le_refl _
      · have hne := hk'.resolve_left (by omega)
        have hle : d[m - 1]! ≤ d[m]! := by
          have := hd (m - 1) (by omega)
          rwa [show m - 1 + 1 = m by omega] at this
        have hlt := bs_lt_of hle hne
        refine ⟨List.pairwise_append.2 ⟨h1, by simp, ?_⟩, ?_⟩
        · intro x hx y hy
          rw [List.mem_singleton.1 hy]
          exact bs_le_lt (h2 x hx) hlt
        · intro x hx
          rcases List.mem_append.1 hx with hx | hx
          · exact List.le_of_lt (bs_le_lt (h2 x hx) hlt)
          · rw [List.mem_singleton.1 hx]
            exact List.le_refl _
    | false =>
      have : ¬ (m = 0 ∨ d[m]! ≠ d[m - 1]!) := by simpa [Lib.keeps] using hk
      have h0 : m ≠ 0 := fun e => this (.inl e)
      have e1 : d[m]! = d[m - 1]! := Classical.byContradiction fun e => this (.inr e)
      simp only [Bool.false_eq_true, if_false, List.append_nil]
      refine ⟨h1, fun x hx => ?_⟩
      have := h2 x hx
      rw [← e1] at this
      exact this
def riseL (l : List Bs) : List Bs := Lib.compact (l.mergeSort fun x y => decide (x ≤ y))
theorem riseL_mem (l : List Bs) (x : Bs) : x ∈ riseL l ↔ x ∈ l := by
  unfold riseL
  rw [compact_mem]
  exact (List.mergeSort_perm _ _).mem_iff
theorem riseL_rises (l : List Bs) : Rises (riseL l) := by
  unfold riseL Lib.compact
  refine (compactUpTo_rises _ ?_ _ (by simp)).1
  intro i hi
  have hi' : i + 1 < (l.mergeSort fun x y => decide (x ≤ y)).length := by simpa using hi
  have hp := List.pairwise_mergeSort (le := fun x y : Bs => decide (x ≤ y)) (fun a b c h1 h2 => by simp at h1 h2 ⊢; exact List.le_trans h1 h2) (fun a b => by simpa using bs_le_or a b) l
  have := List.pairwise_iff_getElem.1 hp i (i + 1) (by omega) hi' (by omega)
  have e : ∀ (a : List Bs) (j : Nat) (h : j < a.length), a.toArray[j]! = a[j] := by intro a j h; simp [h]
  rw [e _ _ (by omega), e _ _ hi']
  simpa using this
theorem rises_sublist : ∀ {b a : List Bs}, Rises a → Rises b → (∀ x ∈ a, x ∈ b) → a.Sublist b := by
  intro b
  induction b with
  | nil =>
    intro a _ _ h
    cases a with
    | nil => exact .slnil
    | cons x a => exact absurd (h x (by simp)) (by simp)
  | cons y b ih =>
    intro a ha hb h
    cases a with
    | nil => exact List.nil_sublist _
    | cons x a =>
      have ha' := List.pairwise_cons.1 ha
      have hb' := List.pairwise_cons.1 hb
      by_cases e : x = y
      · subst e
        refine .cons_cons _ (ih ha'.2 hb'.2 fun z hz => ?_)
        rcases List.mem_cons.1 (h z (by simp [hz])) with e | e
        · subst e; exact absurd (ha'.1 _ hz) (bs_lt_irrefl _)
        · exact e
      · have hx : x ∈ b := (List.mem_cons.1 (h x (by simp))).resolve_left e
        have hyx := hb'.1 x hx
        refine .cons _ (ih ha hb'.2 fun z hz => ?_)
        refine (List.mem_cons.1 (h z hz)).resolve_left fun e' => ?_
        subst e'
        rcases List.mem_cons.1 hz with e' | e'
        · exact e e'.symm
        · exact bs_lt_irrefl _ (bs_lt_trans hyx (ha'.1 _ e'))
theorem rises_eq {a b : List Bs} (ha : Rises a) (hb : Rises b) (h : ∀ x, x ∈ a ↔ x ∈ b) : a = b :=
  (rises_sublist ha hb fun x hx => (h x).1 hx).eq_of_length_le (rises_sublist hb ha fun x hx => (h x).2 hx).length_le
theorem riseL_congr {a b : List Bs} (h : ∀ x, x ∈ a ↔ x ∈ b) : riseL a = riseL b :=
  rises_eq (riseL_rises a) (riseL_rises b) fun x => by rw [riseL_mem, riseL_mem]; exact h x
abbrev lists (l : List ByteArray) : List Bs := l.map (·.data.toList)
def riseB (l : List ByteArray) : List ByteArray := (riseL (lists l)).map bsOf
theorem lists_bsOf (l : List Bs) : lists (l.map bsOf) = l := by
  simp [lists, bsOf_data, Function.comp_def]
theorem lists_inj {a b : List ByteArray} (h : lists a = lists b) : a = b := by
  have := congrArg (List.map bsOf) h
  simpa [lists, bsOf_of, Function.comp_def] using this
theorem lists_rise (l : List ByteArray) : lists (riseB l) = riseL (lists l) := lists_bsOf _
theorem riseB_congr {a b : List ByteArray} (h : ∀ x, x ∈ a ↔ x ∈ b) : riseB a = riseB b := by
  unfold riseB
  rw [riseL_congr (a := lists a) (b := lists b)]
  intro x
  constructor
  · intro hx
    obtain ⟨y, hy, rfl⟩ := List.mem_map.1 hx
    exact List.mem_map.2 ⟨y, (h y).1 hy, rfl⟩
  · intro hx
    obtain ⟨y, hy, rfl⟩ := List.mem_map.1 hx
    exact List.mem_map.2 ⟨y, (h y).2 hy, rfl⟩
theorem riseL_length (l : List Bs) : (riseL l).length ≤ l.length := by
  unfold riseL
  have h1 := compact_len (l.mergeSort fun x y => decide (x ≤ y))
  have h2 : (l.mergeSort fun x y => decide (x ≤ y)).length = l.length := by simp
  omega
theorem riseB_length (l : List ByteArray) : (riseB l).length ≤ l.length := by
  have := riseL_length (lists l)
  simpa [riseB] using this
theorem sortCompact (l : List ByteArray) : compactB (sortB l) = riseB l := by
  unfold compactB sortB riseB riseL
  rw [show (((l.map (·.data.toList)).mergeSort fun x y => decide (x ≤ y)).map bsOf).map (·.data.toList) = (l.map (·.data.toList)).mergeSort fun x y => decide (x ≤ y) from lists_bsOf _]
theorem sort_f (l : List ByteArray) (h : l.length < 4611686018427387904) : slices_Sort_string_string.f l = some (sortB l) := by
  unfold slices_Sort_string_string.f
  rw [if_pos h]
theorem compact_f (l : List ByteArray) (h : l.length ≤ 9223372036854775807) : slices_Compact_string_string.f l = some (compactB l) := by
  unfold slices_Compact_string_string.f
  rw [if_pos h]
def lowB (s : ByteArray) : ByteArray := bsOf (lowL s.data.toList)
theorem rdOf_get (l : List ByteArray) (i : Nat) (h : i < l.length) : rdOf ByteArray.empty l (i : Int) = l[i] := by
  simp [rdOf, List.getD_eq_getElem?_getD, h]
theorem texts_l0 (l : List ByteArray) (hl : l.length ≤ 9223372036854775806) : ∀ (n i : Nat), i + n = l.length → Ev (fun k => lockkeeperlaw0_Texts.l0 k l l (i : Int)) true := by
  intro n
  induction n with
  | zero =>
    intro i hi
    refine evSucc ?_
    simp only [lockkeeperlaw0_Texts.l0]
    exact evNeg (by omega) (Ev.now _)
  | succ n ih =>
    intro i hi
    refine evSucc ?_
    simp only [lockkeeperlaw0_Texts.l0]
    have e2 : wrap64 ((i : Int) + 1) = ((i + 1 : Nat) : Int) := by unfold wrap64; omega
    rw [e2]
    exact evPos (by omega) (evPos (by omega) (evPos (by omega) (evPos (by simp) (ih (i + 1) (by omega)))))
theorem texts_refl (l : List ByteArray) (hl : l.length ≤ 9223372036854775806) : Ev (fun k => lockkeeperlaw0_Texts.f k l l) true := by
  unfold lockkeeperlaw0_Texts.f
  exact evPos rfl (by simpa using texts_l0 l hl l.length 0 (by omega))
def isDig (c : UInt8) : Bool := decide ((c.toNat : Int) ≥ 48) && decide ((c.toNat : Int) ≤ 57)
theorem digit_f (c : UInt8) : octet_digit.f (c.toNat : Int) = some (isDig c) := by
  unfold octet_digit.f isDig
  by_cases h : (c.toNat : Int) ≥ 48
  · rw [if_pos h]; simp only [h, decide_true, Bool.true_and]
  · rw [if_neg h]; simp only [h, decide_false, Bool.false_and]
def digStep (n : Int) (c : UInt8) : Int :=
  if n > (18446744073709551615 - (((c.toNat : Int) - 48) % 256)) / 10 then 18446744073709551615 else IntKind.u64.wrap ((IntKind.u64.wrap (n * 10)) + (((c.toNat : Int) - 48) % 256))
def digGo : Int → Bs → Option Int
  | n, [] => some n
  | n, c :: r => if isDig c = true then digGo (digStep n c) r else none
def digS (s : ByteArray) : Int × Bool := match digGo 0 s.data.toList with
  | some n => (n, s.data.toList != [])
  | none => (0, false)
theorem bt_mid (s : ByteArray) (p : Bs) (c : UInt8) (r : Bs) (h : s.data.toList = p ++ c :: r) : bt s (p.length : Int) = (c.toNat : Int) := by
  rw [bt_get s p.length (by rw [size_len, h]; simp), h]
  simp [List.getD_eq_getElem?_getD]
theorem digits_l0 (s : ByteArray) (hs : s.size ≤ 4611686018427387904) (r : Bs) : ∀ (p : Bs) (n : Int), s.data.toList = p ++ r → 
    Ev (fun k => octet_Digits.l0 k s n (s.size : Int) (p.length : Int)) (match digGo n r with | some n => (n, s.data.toList != []) | none => (0, false)) := by
  induction r with
  | nil =>
    intro p n hp
    have hl : s.size = p.length := by rw [size_len, hp]; simp
    refine evSucc ?_
    simp only [octet_Digits.l0]
    refine evNeg (by omega) (evEq (Ev.now _) ?_)
    rw [tl]
    rfl
  | cons c r ih =>
    intro p n hp
    have hl : s.size = p.length + (r.length + 1) := by rw [size_len, hp]; simp
    have hb := bt_mid s p c r hp
    have e2 : wrap64 ((p.length : Int) + 1) = ((p ++ [c]).length : Int) := by simp; unfold wrap64; omega
    refine evSucc ?_
    simp only [octet_Digits.l0, hb, e2]
    refine evPos (by omega) (evPos (by omega) (evPos (by omega) (evBind (digit_f c) ?_)))
    rw [digGo]
    cases hd : isDig c with
    | true =>
      refine evPos rfl ?_
      simp only [if_true]
      by_cases hg : n > (18446744073709551615 - (((c.toNat : Int) - 48) % 256)) / 10
      · refine evPos hg ?_
        have := ih (p ++ [c]) (digStep n c) (by simpa using hp)
        rw [show digStep n c = 18446744073709551615 by unfold digStep; rw [if_pos hg]] at this ⊢
        exact this
      · refine evNeg hg ?_
        have := ih (p ++ [c]) (digStep n c) (by simpa using hp)
        rw [show digStep n c = IntKind.u64.wrap ((IntKind.u64.wrap (n * 10)) + (((c.toNat : Int) - 48) % 256)) by unfold digStep; rw [if_neg hg]] at this ⊢
        exact this
    | false =>
      refine evNeg (by decide) (evEq (Ev.now _) ?_)
      simp
theorem digits_ev (s : ByteArray) (hs : s.size ≤ 4611686018427387904) : Ev (fun k => octet_Digits.f k s) (digS s) := by
  have := digits_l0 s hs s.data.toList [] 0 rfl
  simpa [octet_Digits.f, digS] using this
def isLet (c : UInt8) : Bool := (octet_letter.f (c.toNat : Int)).getD false
theorem letter_f (c : UInt8) : octet_letter.f (c.toNat : Int) = some (isLet c) := by
  unfold isLet octet_letter.f
  repeat' split
  all_goals rfl
def isMark (c : UInt8) : Bool := !(decide (Lib.indexByte ((⟨#[33, 35, 36, 37, 38, 39, 42, 43, 45, 46, 94, 95, 96, 124, 126]⟩ : ByteArray)).data.toList c < 0))
theorem mark_f (c : UInt8) : strings_IndexByte.f (⟨#[33, 35, 36, 37, 38, 39, 42, 43, 45, 46, 94, 95, 96, 124, 126]⟩ : ByteArray) (c.toNat : Int) = some (Lib.indexByte ((⟨#[33, 35, 36, 37, 38, 39, 42, 43, 45, 46, 94, 95, 96, 124, 126]⟩ : ByteArray)).data.toList c) := by
  unfold strings_IndexByte.f
  simp
def isTok (c : UInt8) : Bool := isLet c || isDig c || isMark c
def tokS (s : ByteArray) : Bool := s.data.toList.all isTok && s.data.toList != []
theorem token_l0 (s : ByteArray) (hs : s.size ≤ 4611686018427387904) (r : Bs) : ∀ (p : Bs), s.data.toList = p ++ r →
    Ev (fun k => octet_Token.l0 k s (s.size : Int) (p.length : Int)) (r.all isTok && s.data.toList != []) := by
  induction r with
  | nil =>
    intro p hp
    have hl : s.size = p.length := by rw [size_len, hp]; simp
    refine evSucc ?_
    simp only [octet_Token.l0]
    refine evNeg (by omega) (evEq (Ev.now _) ?_)
    rw [tl]
    simp
  | cons c r ih =>
    intro p hp
    have hl : s.size = p.length + (r.length + 1) := by rw [size_len, hp]; simp
    have hb := bt_mid s p c r hp
    have e2 : wrap64 ((p.length : Int) + 1) = ((p ++ [c]).length : Int) := by simp; unfold wrap64; omega
    have ih' := ih (p ++ [c]) (by simpa using hp)
    refine evSucc ?_
    simp only [octet_Token.l0, hb, e2]
    refine evPos (by omega) (evPos (by omega) (evPos (by omega) (evBind (letter_f c) ?_)))
    rw [List.all_cons]
    cases h1 : isLet c with
    | true => exact evPos rfl (evEq ih' (by simp [isTok, h1]))
    | false =>
      refine evNeg (by decide) (evBind (digit_f c) ?_)
      cases h2 : isDig c with
      | true => exact evPos rfl (evEq ih' (by simp [isTok, h2]))
      | false =>
        refine evNeg (by decide) (evBind (mark_f c) ?_)
        by_cases h3 : Lib.indexByte ((⟨#[33, 35, 36, 37, 38, 39, 42, 43, 45, 46, 94, 95, 96, 124, 126]⟩ : ByteArray)).data.toList c < 0
        · exact evPos h3 (evEq (Ev.now _) (by simp [isTok, h1, h2, isMark, h3]))
        · refine evNeg h3 (evEq ih' ?_)
          have : isTok c = true := by simp only [isTok, isMark, h3, decide_false, Bool.not_false, Bool.or_true]
          rw [this, Bool.true_and]
theorem token_ev (s : ByteArray) (hs : s.size ≤ 4611686018427387904) : Ev (fun k => octet_Token.f k s) (tokS s) := token_l0 s hs s.data.toList [] rfl
theorem cut_f (s sep : ByteArray) (hs : s.size ≤ 9223372036854775806) (h1 : sep.size = 1) : strings_Cut.f s sep = some (cutS s sep) := by
  unfold strings_Cut.f
  rw [if_pos ⟨hs, h1⟩]
theorem cutS_size (s sep : ByteArray) : (cutS s sep).1.size ≤ s.size ∧ (cutS s sep).2.1.size ≤ s.size := by
  have e := size_len s
  unfold cutS Lib.cut
  split
  · simp only [size_bsOf, List.length_take, List.length_drop]
    omega
  · simp only [size_bsOf, List.length_nil]
    omega
def preS (s : ByteArray) : ByteArray × Bool := if (s.data.toList.take 6) = ([98, 121, 116, 101, 115, 61] : List UInt8) then (bsOf (s.data.toList.drop 6), true) else (s, false)
theorem prefix_f (s : ByteArray) : strings_CutPrefix.f s (⟨#[98, 121, 116, 101, 115, 61]⟩ : ByteArray) = some (preS s) := by
  unfold strings_CutPrefix.f stringslite_CutPrefix.f stringslite_HasPrefix.f preS
  have h6 : ((⟨#[98, 121, 116, 101, 115, 61]⟩ : ByteArray)).size = 6 := rfl
  rw [h6]
  have e1 : (s.extract 0 6).toList = s.data.toList.take 6 := by rw [tl, extract_list]; rfl
  have e2 : s.extract 6 s.size = bsOf (s.data.toList.drop 6) := by
    apply ba_ext
    rw [extract_list, size_len, List.take_length]
    rfl
  by_cases h : (s.size : Int) ≥ ((6 : Nat) : Int)
  · rw [if_pos h, if_pos (by omega), if_pos (by omega)]
    simp only [Option.bind_some, Int.toNat_natCast]
    rw [e1]
    by_cases h' : s.data.toList.take 6 = ([98, 121, 116, 101, 115, 61] : List UInt8)
    · rw [if_pos (by rw [h', tl]; rfl), if_pos (by omega), if_pos (by omega), if_pos h', e2]
      rfl
    · rw [if_neg (by simpa [tl] using h'), if_neg h']
      rfl
  · rw [if_neg h]
    have h' : ¬ s.data.toList.take 6 = ([98, 121, 116, 101, 115, 61] : List UInt8) := by
      intro e
      have := congrArg List.length e
      rw [List.length_take, ← size_len] at this
      simp at this
      omega
    simp only [Option.bind_some, Bool.false_eq_true, if_false]
    rw [if_neg h']
theorem preS_size (s : ByteArray) : (preS s).1.size ≤ s.size := by
  have e := size_len s
  unfold preS
  split
  · simp only [size_bsOf, List.length_drop]; omega
  · exact Nat.le_refl _
theorem evIte {α : Type} {c : Prop} [Decidable c] {g h : Nat → Option α} {r s : α} (hp : c → Ev g r) (hn : ¬ c → Ev h s) : Ev (fun k => if c then g k else h k) (if c then r else s) := by
  by_cases hc : c
  · rw [if_pos hc]; exact evPos hc (hp hc)
  · rw [if_neg hc]; exact evNeg hc (hn hc)
def rangeS (s : ByteArray) : Bool :=
  if (preS s).2 = true then (if (cutS (preS s).1 (⟨#[45]⟩ : ByteArray)).2.2 = true then (if (digS (cutS (preS s).1 (⟨#[45]⟩ : ByteArray)).1).2 = true then
    (if (cutS (preS s).1 (⟨#[45]⟩ : ByteArray)).2.1.toList = ([] : List UInt8) then true else if (digS (cutS (preS s).1 (⟨#[45]⟩ : ByteArray)).2.1).2 = true then decide ((digS (cutS (preS s).1 (⟨#[45]⟩ : ByteArray)).2.1).1 ≥ (digS (cutS (preS s).1 (⟨#[45]⟩ : ByteArray)).1).1) else false)
    else false) else false) else false
theorem range_ev (s : ByteArray) (hs : s.size ≤ 4611686018427387904) : Ev (fun k => safe_Range.f k s) (rangeS s) := by
  unfold safe_Range.f rangeS
  have h1 := preS_size s
  have h2 := cutS_size (preS s).1 (⟨#[45]⟩ : ByteArray)
  refine evBind (prefix_f s) (evBind (cut_f _ _ (by omega) rfl) (Ev.bind (digits_ev _ (by omega)) ?_))
  exact evIte (fun _ => evIte (fun _ => evIte (fun _ => Ev.bind (digits_ev _ (by omega)) (evIte (fun _ => Ev.now _) fun _ => evIte (fun _ => Ev.now _) fun _ => Ev.now _)) fun _ => Ev.now _) fun _ => Ev.now _) fun _ => Ev.now _
def essS (s : ByteArray) : ByteArray × Bool :=
  if (cutS (trimS (cutS s (⟨#[59]⟩ : ByteArray)).1) (⟨#[47]⟩ : ByteArray)).2.2 = true then (if tokS (cutS (trimS (cutS s (⟨#[59]⟩ : ByteArray)).1) (⟨#[47]⟩ : ByteArray)).1 = true then (if tokS (cutS (trimS (cutS s (⟨#[59]⟩ : ByteArray)).1) (⟨#[47]⟩ : ByteArray)).2.1 = true then (lowB (trimS (cutS s (⟨#[59]⟩ : ByteArray)).1), true) else (⟨#[]⟩, false)) else (⟨#[]⟩, false)) else (⟨#[]⟩, false)
theorem ess_ev (s : ByteArray) (hs : s.size ≤ 4611686018427387904) : Ev (fun k => safe_Essence.f k s) (essS s) := by
  unfold safe_Essence.f essS
  have h1 := cutS_size s (⟨#[59]⟩ : ByteArray)
  have h2 := trimS_size (cutS s (⟨#[59]⟩ : ByteArray)).1
  have h3 := cutS_size (trimS (cutS s (⟨#[59]⟩ : ByteArray)).1) (⟨#[47]⟩ : ByteArray)
  refine evBind (cut_f _ _ (by omega) rfl) (Ev.bind (trim_ev _ (by omega)) (evBind (cut_f _ _ (by omega) rfl) ?_))
  exact evIte (fun _ => Ev.bind (token_ev _ (by omega)) (evIte (fun _ => Ev.bind (token_ev _ (by omega)) (evIte (fun _ => evBind (lower_f _ (by omega)) (Ev.now _)) fun _ => Ev.now _)) fun _ => Ev.now _)) fun _ => Ev.now _
def formS (s : ByteArray) : Bool := if (essS s).1.toList = ([97, 112, 112, 108, 105, 99, 97, 116, 105, 111, 110, 47, 120, 45, 119, 119, 119, 45, 102, 111, 114, 109, 45, 117, 114, 108, 101, 110, 99, 111, 100, 101, 100] : List UInt8) then true else if (essS s).1.toList = ([109, 117, 108, 116, 105, 112, 97, 114, 116, 47, 102, 111, 114, 109, 45, 100, 97, 116, 97] : List UInt8) then true else (essS s).1.toList == ([116, 101, 120, 116, 47, 112, 108, 97, 105, 110] : List UInt8)
theorem form_ev (s : ByteArray) (hs : s.size ≤ 4611686018427387904) : Ev (fun k => safe_isForm.f k s) (formS s) := by
  unfold safe_isForm.f formS
  exact Ev.bind (ess_ev s hs) (evIte (fun _ => Ev.now _) fun _ => evIte (fun _ => Ev.now _) fun _ => Ev.now _)
theorem allB_f (s : ByteArray) (h : s.size ≤ 9223372036854775806) : safe_all.f s 33 = some (allByte s) := by
  unfold safe_all.f
  rw [if_pos h, if_pos rfl]
theorem allW_f (s : ByteArray) (h : s.size ≤ 9223372036854775806) : safe_all.f s 60 = some (allWord s) := by
  unfold safe_all.f
  rw [if_pos h, if_neg (by decide), if_pos rfl]
def jointS (t n : ByteArray) (x : Bool) : Bool := if x = true then allWord t else if n.toList = ([99, 111, 110, 116, 101, 110, 116, 45, 116, 121, 112, 101] : List UInt8) then (if allByte t = true then formS t else false) else if n.toList = ([114, 97, 110, 103, 101] : List UInt8) then rangeS t else false
def safeS (f0 f1 : ByteArray) : Bool :=
  if ((trimS f1).size : Int) > 128 then false
  else if (lowB f0).toList = ([97, 99, 99, 101, 112, 116] : List UInt8) then allByte (trimS f1)
  else if (lowB f0).toList = ([97, 99, 99, 101, 112, 116, 45, 108, 97, 110, 103, 117, 97, 103, 101] : List UInt8) then jointS (trimS f1) (lowB f0) ((lowB f0).toList == ([97, 99, 99, 101, 112, 116, 45, 108, 97, 110, 103, 117, 97, 103, 101] : List UInt8))
  else jointS (trimS f1) (lowB f0) ((lowB f0).toList == ([99, 111, 110, 116, 101, 110, 116, 45, 108, 97, 110, 103, 117, 97, 103, 101] : List UInt8))
theorem header_j0 (t n : ByteArray) (hs : t.size ≤ 4611686018427387904) (x : Bool) : Ev (fun k => safe_Header.j0 k t n x) (jointS t n x) := by
  refine evSucc ?_
  simp only [safe_Header.j0]
  unfold jointS
  exact evIte (fun _ => evBind (allW_f t (by omega)) (Ev.now _)) fun _ => evIte (fun _ => evBind (allB_f t (by omega)) (evIte (fun _ => Ev.bind (form_ev t hs) (Ev.now _)) fun _ => Ev.now _)) fun _ =>
    evIte (fun _ => Ev.bind (range_ev t hs) (Ev.now _)) fun _ => Ev.now _
theorem header_ev (f0 f1 : ByteArray) (h0 : f0.size ≤ 1000000) (h1 : f1.size ≤ 1000000) : Ev (fun k => safe_Header.f k f0 f1) (safeS f0 f1) := by
  unfold safe_Header.f safeS
  have ht := trimS_size f1
  refine Ev.bind (trim_ev f1 (by omega)) (evIte (fun _ => Ev.now _) fun _ => evBind (lower_f f0 (by omega)) ?_)
  exact evIte (fun _ => evBind (allB_f _ (by omega)) (Ev.now _)) fun _ => evIte (fun _ => header_j0 _ _ (by omega) _) fun _ => header_j0 _ _ (by omega) _
def hsafe (h : Hd) : Bool := safeS h.f0 h.f1
def lowN (l : List Hd) : List ByteArray := l.map fun h => lowB h.f0
def unsafeN (l : List Hd) : List ByteArray := lowN (l.filter fun h => !hsafe h)
def safeN (l : List Hd) : List ByteArray := lowN (l.filter hsafe)
def totalN (l : List Hd) : Nat := ((l.filter hsafe).map fun h => (trimS h.f1).size).sum
def snames (l : List Hd) : List ByteArray := if (totalN l : Int) > 1024 then riseB (unsafeN l ++ safeN l) else riseB (unsafeN l)
theorem unsafeN_append (l m : List Hd) : unsafeN (l ++ m) = unsafeN l ++ unsafeN m := by simp [unsafeN, lowN]
theorem safeN_append (l m : List Hd) : safeN (l ++ m) = safeN l ++ safeN m := by simp [safeN, lowN]
theorem totalN_append (l m : List Hd) : totalN (l ++ m) = totalN l + totalN m := by simp [totalN]
theorem unsafeN_length (l : List Hd) : (unsafeN l).length ≤ l.length := by
  have := List.length_filter_le (fun h => !hsafe h) l
  simpa [unsafeN, lowN] using this
theorem safeN_length (l : List Hd) : (safeN l).length ≤ l.length := by
  have := List.length_filter_le hsafe l
  simpa [safeN, lowN] using this
theorem sum_le (l : List Nat) (n : Nat) (h : ∀ x ∈ l, x ≤ n) : l.sum ≤ l.length * n := by
  induction l with
  | nil => simp
  | cons a l ih =>
    have h1 := h a (by simp)
    have h2 := ih fun x hx => h x (by simp [hx])
    simp only [List.sum_cons, List.length_cons, Nat.add_mul]
    omega
theorem totalN_le {l : List Hd} (hl : HOk l) : totalN l ≤ 1000000000 := by
  unfold totalN
  have h1 := sum_le ((l.filter hsafe).map fun h => (trimS h.f1).size) 1000000 (fun x hx => by
    obtain ⟨h, hm, rfl⟩ := List.mem_map.1 hx
    have := trimS_size h.f1
    have := (hl.2 h (List.mem_filter.1 hm).1).2
    omega)
  have h2 := List.length_filter_le hsafe l
  have h3 := hl.1
  rw [List.length_map] at h1
  have : (l.filter hsafe).length * 1000000 ≤ 1000 * 1000000 := Nat.mul_le_mul_right _ (by omega)
  omega
theorem HOk.left {l m : List Hd} (h : HOk (l ++ m)) : HOk l := ⟨by have := h.1; rw [List.length_append] at this; omega, fun x hx => h.2 x (List.mem_append_left _ hx)⟩
theorem snames_l0 (l : List Hd) (hl : HOk l) (r : List Hd) : ∀ p, p ++ r = l →
    Ev (fun k => safe_Names.l0 k (unsafeN p) (safeN p) (totalN p : Int) l (l.length : Int) (p.length : Int)) (snames l) := by
  have h1 := hl.1
  induction r with
  | nil =>
    intro p hp
    rw [List.append_nil] at hp
    subst hp
    have hu := unsafeN_length p
    have hs := safeN_length p
    refine evSucc ?_
    simp only [safe_Names.l0]
    refine evNeg (by omega) ?_
    unfold snames
    refine evIte (fun h => evPos (by omega) (evBind (sort_f _ (by rw [List.length_append]; omega)) (evBind (compact_f _ ?_) ?_))) (fun h => evBind (sort_f _ (by omega)) (evBind (compact_f _ ?_) ?_))
    · rw [sortB_length, List.length_append]; omega
    · rw [sortCompact]; exact Ev.now _
    · rw [sortB_length]; omega
    · rw [sortCompact]; exact Ev.now _
  | cons h r ih =>
    intro p hp
    have hlen : l.length = p.length + (r.length + 1) := by rw [← hp]; simp
    have hh := hl.2 h (by rw [← hp]; simp)
    have hr : rd_T26 l (p.length : Int) = h := by rw [← hp]; exact rd_mid p h r
    have e2 : wrap64 ((p.length : Int) + 1) = ((p ++ [h]).length : Int) := by simp; unfold wrap64; omega
    have hp' : (p ++ [h]) ++ r = l := by simpa using hp
    have hpo : HOk p := by rw [← hp] at hl; exact hl.left
    have ht := totalN_le hpo
    have hu := unsafeN_length p
    have hs := safeN_length p
    have htr := trimS_size h.f1
    have ih' := ih (p ++ [h]) hp'
    rw [unsafeN_append, safeN_append, totalN_append] at ih'
    refine evSucc ?_
    simp only [safe_Names.l0, hr, e2]
    refine evPos (by omega) (evPos (by omega) (evPos (by omega) (Ev.bind (header_ev _ _ hh.1 hh.2) ?_)))
    cases hd : safeS h.f0 h.f1 with
    | true =>
      refine evPos rfl (Ev.bind (trim_ev _ (by omega)) (evBind (lower_f _ (by omega)) (evPos (by omega) ?_)))
      have e3 : wrap64 ((totalN p : Int) + ((trimS h.f1).size : Int)) = ((totalN p + totalN [h] : Nat) : Int) := by
        have : totalN [h] = (trimS h.f1).size := by simp [totalN, hsafe, hd]
        rw [this]
        unfold wrap64
        omega
      rw [e3]
      have e4 : unsafeN [h] = [] := by simp [unsafeN, lowN, hsafe, hd]
      have e5 : safeN [h] = [lowB h.f0] := by simp [safeN, lowN, hsafe, hd]
      rw [e4, e5, List.append_nil] at ih'
      exact ih'
    | false =>
      refine evNeg (by decide) (evBind (lower_f _ (by omega)) (evPos (by omega) ?_))
      have e3 : totalN [h] = 0 := by simp [totalN, hsafe, hd]
      have e4 : unsafeN [h] = [lowB h.f0] := by simp [unsafeN, lowN, hsafe, hd]
      have e5 : safeN [h] = [] := by simp [safeN, lowN, hsafe, hd]
      rw [e3, e4, e5, List.append_nil, Nat.add_zero] at ih'
      exact ih'
theorem snames_ev (l : List Hd) (hl : HOk l) : Ev (fun k => safe_Names.f k l) (snames l) := by
  have := snames_l0 l hl l [] rfl
  simpa [safe_Names.f, unsafeN, safeN, totalN, lowN] using this
theorem snames_length (l : List Hd) : (snames l).length ≤ l.length := by
  have h : ∀ m : List Hd, (unsafeN m).length + (safeN m).length = m.length := by
    intro m
    simp only [unsafeN, safeN, lowN, List.length_map]
    induction m with
    | nil => rfl
    | cons a m ih =>
      cases ha : hsafe a with
      | true => simp [ha] at ih ⊢; omega
      | false => simp [ha] at ih ⊢; omega
  have h0 := h l
  unfold snames
  split
  · have := riseB_length (unsafeN l ++ safeN l)
    rw [List.length_append] at this
    omega
  · have := riseB_length (unsafeN l)
    omega
theorem awake7 : ∃ k, lockkeeperlaw7_awake.f k = some true := ⟨60, by decide +kernel⟩
theorem awake7_ev : Ev (fun k => lockkeeperlaw7_awake.f k) true := Ev.of lockkeeperlaw7_awake.mono awake7.choose_spec
theorem indexByte_at (p r : Bs) (c : UInt8) (h : c ∉ p) : Lib.indexByte (p ++ c :: r) c = (p.length : Int) := by
  induction p with
  | nil => simp [Lib.indexByte]
  | cons b p ih =>
    have hb : (b == c) = false := by
      simp only [beq_eq_false_iff_ne]
      intro e
      exact h (by simp [e])
    have := ih (fun hc => h (by simp [hc]))
    rw [List.cons_append, Lib.indexByte, hb, this]
    have h2 : (((p.length : Int)) == -1) = false := by
      simp only [beq_eq_false_iff_ne]
      omega
    rw [h2]
    simp
theorem indexByte_not (p : Bs) (c : UInt8) (h : c ∉ p) : Lib.indexByte p c = -1 := by
  induction p with
  | nil => rfl
  | cons b p ih =>
    have hb : (b == c) = false := by
      simp only [beq_eq_false_iff_ne]
      intro e
      exact h (by simp [e])
    have := ih (fun hc => h (by simp [hc]))
    rw [Lib.indexByte, hb, this]
    simp
theorem cutS_at (s : ByteArray) (p r : Bs) (c : UInt8) (hs : s.data.toList = p ++ c :: r) (h : c ∉ p) : cutS s ⟨#[c]⟩ = (bsOf p, bsOf r, true) := by
  unfold cutS Lib.cut
  have e : Lib.index s.data.toList (⟨#[c]⟩ : ByteArray).data.toList = (p.length : Int) := by
    rw [hs]
    exact (Lib.index_one _ _).trans (indexByte_at p r c h)
  rw [e, if_pos (by omega), hs]
  simp
theorem cutS_not (s : ByteArray) (c : UInt8) (h : c ∉ s.data.toList) : cutS s ⟨#[c]⟩ = (s, ⟨#[]⟩, false) := by
  unfold cutS Lib.cut
  have e : Lib.index s.data.toList (⟨#[c]⟩ : ByteArray).data.toList = -1 := (Lib.index_one _ _).trans (indexByte_not _ c h)
  rw [e, if_neg (by omega)]
  simp only [bsOf_of]
  rfl
theorem rdig_l0 (s : ByteArray) (hs : s.size ≤ 4611686018427387904) (r : Bs) : ∀ (p : Bs) (n : Int), s.data.toList = p ++ r →
    Ev (fun k => lockkeeperref1_Digits.l0 k s n (p.length : Int)) (match digGo n r with | some n => (n, s.data.toList != []) | none => (0, false)) := by
  induction r with
  | nil =>
    intro p n hp
    have hl : s.size = p.length := by rw [size_len, hp]; simp
    refine evSucc ?_
    simp only [lockkeeperref1_Digits.l0]
    refine evNeg (by omega) (evEq (Ev.now _) ?_)
    rw [digGo, hp, hl]
    cases p with
    | nil => rfl
    | cons c p => simp
  | cons c r ih =>
    intro p n hp
    have hl : s.size = p.length + (r.length + 1) := by rw [size_len, hp]; simp
    have hb := bt_mid s p c r hp
    have e2 : wrap64 ((p.length : Int) + 1) = ((p ++ [c]).length : Int) := by simp; unfold wrap64; omega
    have hj : ∀ x : Bool, x = !isDig c → Ev (fun k => lockkeeperref1_Digits.j1 k s n (p.length : Int) x) (match digGo n (c :: r) with | some n => (n, s.data.toList != []) | none => (0, false)) := by
      intro x hx
      refine evSucc ?_
      simp only [lockkeeperref1_Digits.j1, hb, e2]
      rw [digGo, hx]
      cases hd : isDig c with
      | false => exact evPos rfl (evEq (Ev.now _) (by simp))
      | true =>
        have := ih (p ++ [c]) (digStep n c) (by simpa using hp)
        simp only [if_true]
        refine evNeg (by decide) (evPos (by omega) (evPos (by omega) ?_))
        by_cases hg : n > (18446744073709551615 - (((c.toNat : Int) - 48) % 256)) / 10
        · refine evPos hg ?_
          rw [show digStep n c = 18446744073709551615 by unfold digStep; rw [if_pos hg]] at this ⊢
          exact this
        · refine evNeg hg ?_
          rw [show digStep n c = IntKind.u64.wrap ((IntKind.u64.wrap (n * 10)) + (((c.toNat : Int) - 48) % 256)) by unfold digStep; rw [if_neg hg]] at this ⊢
          rw [show (10 : Int) * n = n * 10 by omega]
          exact this
    refine evSucc ?_
    simp only [lockkeeperref1_Digits.l0, hb]
    refine evPos (by omega) (evPos (by omega) ?_)
    by_cases h : (c.toNat : Int) < 48
    · exact evPos h (hj true (by unfold isDig; simp; omega))
    · refine evNeg h (hj _ ?_)
      unfold isDig
      rw [show decide ((c.toNat : Int) ≥ 48) = true by simp; omega, Bool.true_and, Bool.eq_iff_iff]
      simp
theorem rdig_ev (s : ByteArray) (hs : s.size ≤ 4611686018427387904) : Ev (fun k => lockkeeperref1_Digits.f k s) (digS s) := by
  have := rdig_l0 s hs s.data.toList [] 0 rfl
  exact evEq this (by unfold digS; cases digGo 0 s.data.toList <;> rfl)
theorem isBl_cases (c : UInt8) : isBl c = true ↔ ((c.toNat : Int) = 9 ∨ (c.toNat : Int) = 10 ∨ (c.toNat : Int) = 13 ∨ (c.toNat : Int) = 32) := by
  have h : ∀ d : UInt8, (c = d) ↔ ((c.toNat : Int) = (d.toNat : Int)) := fun d => ⟨fun e => by rw [e], fun e => UInt8.toNat_inj.1 (by omega)⟩
  unfold isBl
  simp only [Bool.or_eq_true, beq_iff_eq, or_assoc]
  rw [h 9, h 10, h 13, h 32]
  rfl
theorem rtrim_l1 (s : ByteArray) (hs : s.size ≤ 4611686018427387904) (p : Bs) (n : Nat) : ∀ (m q : Bs), m.length = n → s.data.toList = p ++ m ++ q →
    Ev (fun k => lockkeeperref1_Trim.l1 k s (p.length : Int) ((p.length + m.length : Nat) : Int)) (bsOf (trimR m)) := by
  induction n with
  | zero =>
    intro m q hm he
    obtain rfl := List.eq_nil_of_length_eq_zero hm
    have hl : s.size = p.length + q.length := by rw [size_len, he]; simp
    refine evSucc ?_
    simp only [lockkeeperref1_Trim.l1]
    refine evNeg (by simp) (evPos (by omega) (evPos (by simp) (evPos (by simp; omega) (evEq (Ev.now _) ?_))))
    apply ba_ext
    rw [extract_list]
    simp [bsOf_data, trimR, List.drop_take]
  | succ n ih =>
    intro m q hm he
    obtain ⟨m', c, rfl⟩ : ∃ l c, m = l ++ [c] := by
      have hne : m ≠ [] := by intro e; rw [e] at hm; simp at hm
      exact ⟨_, _, (List.dropLast_concat_getLast hne).symm⟩
    have hml : m'.length = n := by simpa using hm
    have hl : s.size = p.length + (n + 1) + q.length := by rw [size_len, he]; simp; omega
    have hb : bt s ((p.length + n : Nat) : Int) = (c.toNat : Int) := by
      have := bt_mid s (p ++ m') c q (by rw [he]; simp)
      rw [show ((p ++ m').length : Int) = ((p.length + n : Nat) : Int) by rw [List.length_append, hml]] at this
      exact this
    have e1 : ((p.length + (m' ++ [c]).length : Nat) : Int) = ((p.length + n + 1 : Nat) : Int) := by simp; omega
    have e2 : wrap64 (((p.length + n + 1 : Nat) : Int) - 1) = ((p.length + n : Nat) : Int) := by unfold wrap64; omega
    rw [e1]
    have ih' := ih m' (c :: q) hml (by rw [he]; simp)
    rw [hml] at ih'
    refine evSucc ?_
    simp only [lockkeeperref1_Trim.l1, e2, hb]
    refine evPos (by omega) (evPos (by omega) (evPos (by omega) ?_))
    cases hc : isBl c with
    | true =>
      have et : trimR (m' ++ [c]) = trimR m' := by unfold trimR; simp [hc]
      rw [et]
      have hcc := (isBl_cases c).1 hc
      by_cases h1 : (c.toNat : Int) = 9
      · exact evPos h1 ih'
      · refine evNeg h1 ?_
        by_cases h2 : (c.toNat : Int) = 10
        · exact evPos h2 ih'
        · refine evNeg h2 ?_
          by_cases h3 : (c.toNat : Int) = 13
          · exact evPos h3 ih'
          · exact evNeg h3 (evPos (by omega) ih')
    | false =>
      have hcc : ¬ ((c.toNat : Int) = 9 ∨ (c.toNat : Int) = 10 ∨ (c.toNat : Int) = 13 ∨ (c.toNat : Int) = 32) := fun h => by rw [(isBl_cases c).2 h] at hc; cases hc
      refine evNeg (by omega) (evNeg (by omega) (evNeg (by omega) (evNeg (by omega) (evPos (by omega) (evPos (by omega) (evPos (by omega) (evEq (Ev.now _) ?_)))))))
      have et : trimR (m' ++ [c]) = m' ++ [c] := by unfold trimR; simp [hc]
      rw [et]
      apply ba_ext
      rw [extract_list, bsOf_data, he]
      simp only [Int.toNat_natCast]
      have : (p ++ (m' ++ [c]) ++ q).take (p.length + n + 1) = p ++ (m' ++ [c]) := by
        rw [List.take_append_of_le_length (by simp; omega), List.take_of_length_le (by simp; omega)]
      rw [this]
      simp
theorem rtrim_l0 (s : ByteArray) (hs : s.size ≤ 4611686018427387904) (r : Bs) : ∀ p : Bs, s.data.toList = p ++ r →
    Ev (fun k => lockkeeperref1_Trim.l0 k s (p.length : Int) (s.size : Int)) (bsOf (trimL r)) := by
  have hj : ∀ p r : Bs, s.data.toList = p ++ r → Ev (fun k => lockkeeperref1_Trim.j1 k s (p.length : Int) (s.size : Int)) (bsOf (trimR r)) := by
    intro p r hp
    have hl : s.size = p.length + r.length := by rw [size_len, hp]; simp
    refine evSucc ?_
    simp only [lockkeeperref1_Trim.j1]
    have := rtrim_l1 s hs p r.length r [] rfl (by rw [hp]; simp)
    rw [← hl] at this
    exact this
  induction r with
  | nil =>
    intro p hp
    have hl : s.size = p.length := by rw [size_len, hp]; simp
    refine evSucc ?_
    simp only [lockkeeperref1_Trim.l0]
    exact evNeg (by omega) (hj p [] hp)
  | cons c r ih =>
    intro p hp
    have hl : s.size = p.length + (r.length + 1) := by rw [size_len, hp]; simp
    have hb := bt_mid s p c r hp
    have e2 : wrap64 ((p.length : Int) + 1) = ((p ++ [c]).length : Int) := by simp; unfold wrap64; omega
    have ih' := ih (p ++ [c]) (by rw [hp]; simp)
    refine evSucc ?_
    simp only [lockkeeperref1_Trim.l0, hb, e2]
    refine evPos (by omega) (evPos (by omega) (evPos (by omega) ?_))
    cases hc : isBl c with
    | true =>
      have et : trimL (c :: r) = trimL r := by unfold trimL; simp [hc]
      rw [et]
      have hcc := (isBl_cases c).1 hc
      by_cases h1 : (c.toNat : Int) = 9
      · exact evPos h1 ih'
      · refine evNeg h1 ?_
        by_cases h2 : (c.toNat : Int) = 10
        · exact evPos h2 ih'
        · refine evNeg h2 ?_
          by_cases h3 : (c.toNat : Int) = 13
          · exact evPos h3 ih'
          · exact evNeg h3 (evPos (by omega) ih')
    | false =>
      have hcc : ¬ ((c.toNat : Int) = 9 ∨ (c.toNat : Int) = 10 ∨ (c.toNat : Int) = 13 ∨ (c.toNat : Int) = 32) := fun h => by rw [(isBl_cases c).2 h] at hc; cases hc
      have et : trimL (c :: r) = trimR (c :: r) := by unfold trimL; simp [hc]
      rw [et]
      exact evNeg (by omega) (evNeg (by omega) (evNeg (by omega) (evNeg (by omega) (hj p (c :: r) hp))))
theorem rtrim_ev (s : ByteArray) (hs : s.size ≤ 4611686018427387904) : Ev (fun k => lockkeeperref1_Trim.f k s) (trimS s) := by
  have := rtrim_l0 s hs s.data.toList [] rfl
  exact this
theorem in_l0 (s : ByteArray) (c : UInt8) (hs : s.size ≤ 4611686018427387904) (r : Bs) : ∀ p : Bs, s.data.toList = p ++ r → Ev (fun k => lockkeeperref1_In.l0 k (c.toNat : Int) s (p.length : Int)) (r.contains c) := by
  induction r with
  | nil =>
    intro p hp
    have hl : s.size = p.length := by rw [size_len, hp]; simp
    refine evSucc ?_
    simp only [lockkeeperref1_In.l0]
    exact evNeg (by omega) (Ev.now _)
  | cons b r ih =>
    intro p hp
    have hl : s.size = p.length + (r.length + 1) := by rw [size_len, hp]; simp
    have hb := bt_mid s p b r hp
    have e2 : wrap64 ((p.length : Int) + 1) = ((p ++ [b]).length : Int) := by simp; unfold wrap64; omega
    refine evSucc ?_
    simp only [lockkeeperref1_In.l0, hb, e2]
    refine evPos (by omega) (evPos (by omega) ?_)
    rw [List.contains_cons]
    by_cases h : b = c
    · subst h
      exact evPos rfl (evEq (Ev.now _) (by simp))
    · have hn : ¬ (b.toNat : Int) = (c.toNat : Int) := fun e => h (UInt8.toNat_inj.1 (by omega))
      have hc : (c == b) = false := by simpa using fun e => h e.symm
      refine evNeg hn (evEq (ih (p ++ [b]) (by simpa using hp)) ?_)
      rw [hc, Bool.false_or]
theorem in_ev (s : ByteArray) (c : UInt8) (hs : s.size ≤ 4611686018427387904) : Ev (fun k => lockkeeperref1_In.f k (c.toNat : Int) s) (s.data.toList.contains c) := in_l0 s c hs s.data.toList [] rfl
theorem rlower_f (s : ByteArray) (h : s.size ≤ 9223372036854775807) : lockkeeperref1_Lower.f s = some (lowB s) := by
  unfold lockkeeperref1_Lower.f
  rw [if_pos h, lowS_eq]
  rfl
def rmarks : ByteArray := (⟨#[33, 35, 36, 37, 38, 39, 42, 43, 45, 46, 94, 95, 124, 126]⟩ : ByteArray)
def isPl (c : UInt8) : Bool := (lockkeeperref1_Plain.f (c.toNat : Int)).getD false
theorem plain_f (c : UInt8) : lockkeeperref1_Plain.f (c.toNat : Int) = some (isPl c) := by
  unfold isPl lockkeeperref1_Plain.f
  repeat' split
  all_goals rfl
theorem rtok_all : ∀ n : Fin 256, isTok (UInt8.ofNat n.val) = (isPl (UInt8.ofNat n.val) || rmarks.data.toList.contains (UInt8.ofNat n.val) || UInt8.ofNat n.val == 96) := by decide +kernel
theorem rtok_c (c : UInt8) : isTok c = (isPl c || rmarks.data.toList.contains c || c == 96) := by
  have := rtok_all ⟨c.toNat, c.toNat_lt⟩
  simpa using this
theorem rtoken_l0 (s : ByteArray) (hs : s.size ≤ 4611686018427387904) (r : Bs) : ∀ (p : Bs), s.data.toList = p ++ r →
    Ev (fun k => lockkeeperref1_Token.l0 k s (p.length : Int)) (r.all isTok && s.data.toList != []) := by
  induction r with
  | nil =>
    intro p hp
    have hl : s.size = p.length := by rw [size_len, hp]; simp
    refine evSucc ?_
    simp only [lockkeeperref1_Token.l0]
    refine evNeg (by omega) (evEq (Ev.now _) ?_)
    rw [hp, List.append_nil, List.all_nil, Bool.true_and, hl]
    cases p with
    | nil => rfl
    | cons c p => simp
  | cons c r ih =>
    intro p hp
    have hl : s.size = p.length + (r.length + 1) := by rw [size_len, hp]; simp
    have hb := bt_mid s p c r hp
    have e2 : wrap64 ((p.length : Int) + 1) = ((p ++ [c]).length : Int) := by simp; unfold wrap64; omega
    have ih' := ih (p ++ [c]) (by rw [hp]; simp)
    refine evSucc ?_
    simp only [lockkeeperref1_Token.l0, hb, e2]
    refine evPos (by omega) (evPos (by omega) (evBind (plain_f c) ?_))
    rw [List.all_cons, rtok_c c]
    cases h1 : isPl c with
    | true =>
      rw [Bool.true_or, Bool.true_or, Bool.true_and]
      exact evPos rfl ih'
    | false =>
      rw [Bool.false_or]
      refine evNeg (by decide) (Ev.bind (in_ev rmarks c (by decide)) ?_)
      cases h2 : rmarks.data.toList.contains c with
      | true =>
        rw [Bool.true_or, Bool.true_and]
        exact evPos rfl ih'
      | false =>
        rw [Bool.false_or]
        refine evNeg (by decide) ?_
        by_cases h3 : c = 96
        · subst h3
          exact evPos rfl (evEq ih' (by simp))
        · have h4 : (c == 96) = false := by simpa using h3
          rw [h4, Bool.false_and, Bool.false_and]
          refine evNeg (fun e => h3 (UInt8.toNat_inj.1 ?_)) (Ev.now _)
          have : (96 : UInt8).toNat = 96 := rfl
          omega
theorem rtoken_ev (s : ByteArray) (hs : s.size ≤ 4611686018427387904) : Ev (fun k => lockkeeperref1_Token.f k s) (tokS s) := rtoken_l0 s hs s.data.toList [] rfl
def lessB (a b : ByteArray) : Bool := Op.bytesLess a.toList b.toList
def insGo (x : ByteArray) : List ByteArray → List ByteArray
  | [] => [x]
  | y :: r => if lessB y x = true then y :: insGo x r else if y = x then y :: r else x :: y :: r
def risingS (l : List ByteArray) : List ByteArray := l.foldl (fun o x => insGo x o) []
theorem insGo_length (x : ByteArray) (l : List ByteArray) : (insGo x l).length ≤ l.length + 1 := by
  induction l with
  | nil => simp [insGo]
  | cons y r ih =>
    unfold insGo
    split
    · simp; omega
    · split <;> simp
theorem shift_set (A B : List ByteArray) (e x : ByteArray) : (shiftL ((A ++ B) ++ [e]) A.length).set A.length x = A ++ x :: B := by
  have h1 : ((A ++ B) ++ [e]).drop A.length = B ++ [e] := by rw [List.append_assoc, List.drop_left]
  have h2 : ((A ++ B) ++ [e]).take (A.length + 1) = A ++ (B ++ [e]).take 1 := by rw [List.append_assoc, List.take_length_add_append]
  have h3 : ((A ++ B) ++ [e]).length - (A.length + 1) = B.length := by simp; omega
  unfold shiftL
  rw [h1, h2, h3, List.take_left]
  cases B with
  | nil => rw [List.append_nil]; simp
  | cons b B =>
    rw [List.cons_append, List.take_succ_cons, List.take_zero, List.append_assoc, List.set_append_right _ _ (Nat.le_refl _), Nat.sub_self]
    rfl
theorem rising_l1 (L : List ByteArray) (hL : L.length ≤ 1000000) (i : Nat) (hi : i < L.length) (out : List ByteArray) (ho : out.length ≤ 1000000) (R : List ByteArray) (H : Ev (fun k => lockkeeperref1_Rising.l0 k L (insGo L[i] out) ((i + 1 : Nat) : Int)) R) :
    ∀ B A, A ++ B = out → insGo L[i] out = A ++ insGo L[i] B → Ev (fun k => lockkeeperref1_Rising.l1 k L out (i : Int) (A.length : Int)) R := by
  have ei : wrap64 ((i : Int) + 1) = ((i + 1 : Nat) : Int) := by unfold wrap64; omega
  intro B
  induction B with
  | nil =>
    intro A hAB hin
    have hl : out.length = A.length := by rw [← hAB]; simp
    have ea : wrap64 ((A.length : Int) + 1) = ((A.length + 1 : Nat) : Int) := by unfold wrap64; omega
    refine evSucc ?_
    simp only [lockkeeperref1_Rising.l1, ei, ea]
    rw [rdOf_get _ _ hi]
    refine evNeg (by omega) (evPos (by omega) (evBind rfl ?_))
    have h1 : (out ++ [(⟨#[]⟩ : ByteArray)]).length = A.length + 1 := by simp; omega
    refine evPos (by omega) (evPos (by omega) (evPos (by omega) (evPos (by omega) (evPos (by omega) (evPos (by omega) (evPos (by omega) ?_))))))
    rw [Int.toNat_natCast, ← hAB, shift_set]
    rw [hin] at H
    exact H
  | cons y B ih =>
    intro A hAB hin
    have hl : out.length = A.length + (B.length + 1) := by rw [← hAB]; simp
    have ea : wrap64 ((A.length : Int) + 1) = ((A.length + 1 : Nat) : Int) := by unfold wrap64; omega
    have hy : rdOf ByteArray.empty out (A.length : Int) = y := by rw [← hAB]; simp [rdOf, List.getD_eq_getElem?_getD]
    refine evSucc ?_
    simp only [lockkeeperref1_Rising.l1, ei, ea]
    rw [rdOf_get _ _ hi, hy]
    refine evPos (by omega) (evPos (by omega) (evPos (by omega) (evPos (by omega) ?_)))
    cases hless : lessB y L[i] with
    | true =>
      refine evPos hless ?_
      have := ih (A ++ [y]) (by rw [← hAB]; simp) (by rw [hin, insGo, if_pos hless]; simp)
      simpa using this
    | false =>
      refine evNeg (fun h => by rw [show Op.bytesLess y.toList L[i].toList = lessB y L[i] from rfl, hless] at h; cases h) ?_
      by_cases he : y = L[i]
      · refine evPos (by rw [he]) ?_
        rw [hin, insGo, if_neg (by rw [hless]; decide), if_pos he, hAB] at H
        exact H
      · refine evNeg (fun h => he ((tl_eq _ _).1 h)) (evPos (by omega) (evBind rfl ?_))
        have h1 : (out ++ [(⟨#[]⟩ : ByteArray)]).length = A.length + (B.length + 1) + 1 := by simp; omega
        refine evPos (by omega) (evPos (by omega) (evPos (by omega) (evPos (by omega) ?_)))
        rw [Int.toNat_natCast, ← hAB, shift_set]
        rw [hin, insGo, if_neg (by rw [hless]; decide), if_neg he] at H
        exact H
theorem risingS_snoc (l : List ByteArray) (x : ByteArray) : risingS (l ++ [x]) = insGo x (risingS l) := by simp [risingS]
theorem risingS_length (l : List ByteArray) : (risingS l).length ≤ l.length := by
  have : ∀ (l o : List ByteArray), (l.foldl (fun o x => insGo x o) o).length ≤ o.length + l.length := by
    intro l
    induction l with
    | nil => intro o; simp
    | cons a l ih =>
      intro o
      have h1 := ih (insGo a o)
      have h2 := insGo_length a o
      simp only [List.foldl_cons, List.length_cons]
      omega
  simpa [risingS] using this l []
theorem rising_l0 (L : List ByteArray) (hL : L.length ≤ 1000000) : ∀ n i, i + n = L.length → Ev (fun k => lockkeeperref1_Rising.l0 k L (risingS (L.take i)) (i : Int)) (risingS L) := by
  intro n
  induction n with
  | zero =>
    intro i hi
    rw [List.take_of_length_le (by omega)]
    refine evSucc ?_
    simp only [lockkeeperref1_Rising.l0]
    exact evNeg (by omega) (Ev.now _)
  | succ n ih =>
    intro i hi
    have hlt : i < L.length := by omega
    have ih' := ih (i + 1) (by omega)
    rw [List.take_succ_eq_append_getElem hlt, risingS_snoc] at ih'
    have hr := risingS_length (L.take i)
    rw [List.length_take] at hr
    refine evSucc ?_
    simp only [lockkeeperref1_Rising.l0]
    refine evPos (by omega) ?_
    exact rising_l1 L hL i hlt (risingS (L.take i)) (by omega) _ ih' (risingS (L.take i)) [] rfl rfl
theorem insGo_mem (x : ByteArray) (l : List ByteArray) (z : ByteArray) : z ∈ insGo x l ↔ z = x ∨ z ∈ l := by
  induction l with
  | nil => simp [insGo]
  | cons y r ih =>
    unfold insGo
    split
    · simp only [List.mem_cons, ih]
      constructor
      · rintro (h | h | h)
        · exact .inr (.inl h)
        · exact .inl h
        · exact .inr (.inr h)
      · rintro (h | h | h)
        · exact .inr (.inl h)
        · exact .inl h
        · exact .inr (.inr h)
    · split
      · rename_i e
        subst e
        simp only [List.mem_cons]
        constructor
        · exact .inr
        · rintro (h | h)
          · exact .inl h
          · exact h
      · simp only [List.mem_cons]
theorem lessB_iff (a b : ByteArray) : lessB a b = true ↔ a.data.toList < b.data.toList := by
  unfold lessB
  rw [bytesLess_eq, decide_eq_true_iff, tl, tl]
theorem insGo_rises (x : ByteArray) (l : List ByteArray) (h : Rises (lists l)) : Rises (lists (insGo x l)) := by
  induction l with
  | nil => simp [insGo, lists, Rises]
  | cons y r ih =>
    have h' := List.pairwise_cons.1 h
    unfold insGo
    split
    · rename_i hl
      refine List.pairwise_cons.2 ⟨fun z hz => ?_, ih h'.2⟩
      obtain ⟨w, hw, rfl⟩ := List.mem_map.1 hz
      rcases (insGo_mem x r w).1 hw with rfl | hw
      · exact (lessB_iff _ _).1 hl
      · exact h'.1 _ (List.mem_map.2 ⟨w, hw, rfl⟩)
    · rename_i hl
      split
      · exact h
      · rename_i hne
        have hlt : x.data.toList < y.data.toList := by
          have h1 : ¬ y.data.toList < x.data.toList := fun h => hl ((lessB_iff _ _).2 h)
          exact bs_lt_of (List.not_lt.1 h1) (fun e => hne (ba_ext e))
        refine List.pairwise_cons.2 ⟨fun z hz => ?_, h⟩
        rcases List.mem_cons.1 hz with rfl | hz
        · exact hlt
        · exact bs_lt_trans hlt (h'.1 _ hz)
theorem risingS_rise (l : List ByteArray) : risingS l = riseB l := by
  have key : ∀ (l o : List ByteArray), Rises (lists o) → Rises (lists (l.foldl (fun o x => insGo x o) o)) ∧ ∀ z, z ∈ l.foldl (fun o x => insGo x o) o ↔ z ∈ l ∨ z ∈ o := by
    intro l
    induction l with
    | nil => intro o ho; exact ⟨ho, fun z => by simp⟩
    | cons a l ih =>
      intro o ho
      obtain ⟨h1, h2⟩ := ih (insGo a o) (insGo_rises a o ho)
      refine ⟨h1, fun z => ?_⟩
      rw [List.foldl_cons, h2, insGo_mem, List.mem_cons]
      constructor
      · rintro (h | h | h)
        · exact .inl (.inr h)
        · exact .inl (.inl h)
        · exact .inr h
      · rintro ((h | h) | h)
        · exact .inr (.inl h)
        · exact .inl h
        · exact .inr (.inr h)
  obtain ⟨h1, h2⟩ := key l [] (by simp [lists, Rises])
  apply lists_inj
  rw [lists_rise]
  refine rises_eq h1 (riseL_rises _) fun z => ?_
  rw [riseL_mem]
  constructor
  · intro hz
    obtain ⟨w, hw, rfl⟩ := List.mem_map.1 hz
    have := (h2 w).1 hw
    exact List.mem_map.2 ⟨w, this.resolve_right (by simp), rfl⟩
  · intro hz
    obtain ⟨w, hw, rfl⟩ := List.mem_map.1 hz
    exact List.mem_map.2 ⟨w, (h2 w).2 (.inl hw), rfl⟩
theorem rising_ev (l : List ByteArray) (h : l.length ≤ 1000000) : Ev (fun k => lockkeeperref1_Rising.f k l) (riseB l) := by
  rw [← risingS_rise]
  exact rising_l0 l h l.length 0 (by omega)
instance hdDec : DecidableEq Hd := fun a b => if h0 : a.f0 = b.f0 then (if h1 : a.f1 = b.f1 then isTrue (by cases a; cases b; simp_all) else isFalse (fun e => h1 (by rw [e]))) else isFalse (fun e => h0 (by rw [e]))
end Go.Proofs.Ytojcceafgkdchaa.Pr
