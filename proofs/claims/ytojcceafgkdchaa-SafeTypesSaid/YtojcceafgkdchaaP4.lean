/- Rows that rise: what sorting and compacting come to; header.Names; the check that two rows of texts are the same. -/
import Derived.Test.YtojcceafgkdchaaP3
import Derived.Sort.Walk0
import Derived.Test.YtojcceafgkdchaaPr16
import Derived.Test.YtojcceafgkdchaaPr21
namespace Go.Proofs.Ytojcceafgkdchaa.Pr
open Go.RowKit Go.Proofs.YtojcceafgkdchaaW.PrintWords Go.Proofs.YtojcceafgkdchaaW.PrintLast
set_option linter.unusedVariables false
set_option linter.unusedSimpArgs false

theorem bs_lt_irrefl (a : Bs) : ¬ a < a := List.lt_irrefl a
theorem bs_lt_trans {a b c : Bs} (h : a < b) (h' : b < c) : a < c := List.lt_trans h h'
theorem bs_le_or (a b : Bs) : a ≤ b ∨ b ≤ a := List.le_total a b
theorem bs_lt_of {a b : Bs} (h : a ≤ b) (hn : b ≠ a) : a < b := by
  rcases Classical.em (a < b) with h' | h'
  · exact h'
  · exact absurd (List.le_antisymm (List.not_lt.1 h') h) hn
theorem bs_le_lt {a b c : Bs} (h : a ≤ b) (h' : b < c) : a < c := List.lt_of_le_of_lt h h'

abbrev Rises (l : List Bs) : Prop := l.Pairwise (· < ·)
theorem compactUpTo_mem (d : Array Bs) : ∀ m i, i < m → d[i]! ∈ Lib.compactUpTo d m := by
  intro m
  induction m with
  | zero => intro i hi; omega
  | succ m ih =>
    intro i hi
    rw [Lib.compactUpTo_succ]
    by_cases h : i < m
    · exact List.mem_append_left _ (ih i h)
    · obtain rfl : i = m := by omega
      cases hk : Lib.keeps d i with
      | true => simp
      | false =>
        have : ¬ (i = 0 ∨ d[i]! ≠ d[i - 1]!) := by simpa [Lib.keeps] using hk
        have h0 : i ≠ 0 := fun e => this (.inl e)
        have h1 : d[i]! = d[i - 1]! := Classical.byContradiction fun e => this (.inr e)
        rw [h1]
        exact List.mem_append_left _ (ih (i - 1) (by omega))
theorem compact_mem (zs : List Bs) (x : Bs) : x ∈ Lib.compact zs ↔ x ∈ zs := by
  constructor
  · intro h
    unfold Lib.compact Lib.compactUpTo at h
    obtain ⟨i, hi, rfl⟩ := List.mem_map.1 h
    have hi' : i < zs.length := List.mem_range.1 (List.mem_filter.1 hi).1
    simp [getElem!_pos, hi']
  · intro h
    obtain ⟨i, hi, rfl⟩ := List.getElem_of_mem h
    have := compactUpTo_mem zs.toArray zs.length i hi
    simpa [Lib.compact, getElem!_pos, hi] using this
theorem compactUpTo_rises (d : Array Bs) (hd : ∀ i, i + 1 < d.size → d[i]! ≤ d[i + 1]!) : ∀ m, m ≤ d.size → Rises (Lib.compactUpTo d m) ∧ ∀ x ∈ Lib.compactUpTo d m, x ≤ d[m - 1]! := by
  intro m
  induction m with
  | zero => intro _; exact ⟨by simp [Lib.compactUpTo, Rises], by simp [Lib.compactUpTo]⟩
  | succ m ih =>
    intro hm
    obtain ⟨h1, h2⟩ := ih (by omega)
    rw [Lib.compactUpTo_succ]
    cases hk : Lib.keeps d m with
    | true =>
      have hk' : m = 0 ∨ d[m]! ≠ d[m - 1]! := by simpa [Lib.keeps] using hk
      simp only [if_true]
      rcases Nat.eq_zero_or_pos m with rfl | hp
      · refine ⟨by simp [Lib.compactUpTo, Rises], ?_⟩
        intro x hx
        have : x = d[0]! := by simpa [Lib.compactUpTo] using hx
        rw [this]
        exact List.le_refl _
      · have hne := hk'.resolve_left (by omega)
        have hle : d[m - 1]! ≤ d[m]! := by
          have := hd (m - 1) (by omega)
          rwa [show m - 1 + 1 = m by omega] at this
        have hlt := bs_lt_of hle hne
        refine ⟨List.pairwise_append.2 ⟨h1, by simp, ?_⟩, ?_⟩
        · intro x hx y hy
          rw [List.mem_singleton.1 hy]
          exact bs_le_lt (h2 x hx) hlt
        · intro x hx
          rcases List.mem_append.1 hx with hx | hx
          · exact List.le_of_lt (bs_le_lt (h2 x hx) hlt)
          · rw [List.mem_singleton.1 hx]
            exact List.le_refl _
    | false =>
      have : ¬ (m = 0 ∨ d[m]! ≠ d[m - 1]!) := by simpa [Lib.keeps] using hk
      have h0 : m ≠ 0 := fun e => this (.inl e)
      have e1 : d[m]! = d[m - 1]! := Classical.byContradiction fun e => this (.inr e)
      simp only [Bool.false_eq_true, if_false, List.append_nil]
      refine ⟨h1, fun x hx => ?_⟩
      have := h2 x hx
      rw [← e1] at this
      exact this
def riseL (l : List Bs) : List Bs := Lib.compact (l.mergeSort fun x y => decide (x ≤ y))
theorem riseL_mem (l : List Bs) (x : Bs) : x ∈ riseL l ↔ x ∈ l := by
  unfold riseL
  rw [compact_mem]
  exact (List.mergeSort_perm _ _).mem_iff
theorem riseL_rises (l : List Bs) : Rises (riseL l) := by
  unfold riseL Lib.compact
  refine (compactUpTo_rises _ ?_ _ (by simp)).1
  intro i hi
  have hi' : i + 1 < (l.mergeSort fun x y => decide (x ≤ y)).length := by simpa using hi
  have hp := List.pairwise_mergeSort (le := fun x y : Bs => decide (x ≤ y)) (fun a b c h1 h2 => by simp at h1 h2 ⊢; exact List.le_trans h1 h2) (fun a b => by simpa using bs_le_or a b) l
  have := List.pairwise_iff_getElem.1 hp i (i + 1) (by omega) hi' (by omega)
  have e : ∀ (a : List Bs) (j : Nat) (h : j < a.length), a.toArray[j]! = a[j] := by intro a j h; simp [h]
  rw [e _ _ (by omega), e _ _ hi']
  simpa using this
theorem rises_sublist : ∀ {b a : List Bs}, Rises a → Rises b → (∀ x ∈ a, x ∈ b) → a.Sublist b := by
  intro b
  induction b with
  | nil =>
    intro a _ _ h
    cases a with
    | nil => exact .slnil
    | cons x a => exact absurd (h x (by simp)) (by simp)
  | cons y b ih =>
    intro a ha hb h
    cases a with
    | nil => exact List.nil_sublist _
    | cons x a =>
      have ha' := List.pairwise_cons.1 ha
      have hb' := List.pairwise_cons.1 hb
      by_cases e : x = y
      · subst e
        refine .cons_cons _ (ih ha'.2 hb'.2 fun z hz => ?_)
        rcases List.mem_cons.1 (h z (by simp [hz])) with e | e
        · subst e; exact absurd (ha'.1 _ hz) (bs_lt_irrefl _)
        · exact e
      · have hx : x ∈ b := (List.mem_cons.1 (h x (by simp))).resolve_left e
        have hyx := hb'.1 x hx
        refine .cons _ (ih ha hb'.2 fun z hz => ?_)
        refine (List.mem_cons.1 (h z hz)).resolve_left fun e' => ?_
        subst e'
        rcases List.mem_cons.1 hz with e' | e'
        · exact e e'.symm
        · exact bs_lt_irrefl _ (bs_lt_trans hyx (ha'.1 _ e'))
theorem rises_eq {a b : List Bs} (ha : Rises a) (hb : Rises b) (h : ∀ x, x ∈ a ↔ x ∈ b) : a = b :=
  (rises_sublist ha hb fun x hx => (h x).1 hx).eq_of_length_le (rises_sublist hb ha fun x hx => (h x).2 hx).length_le
theorem riseL_congr {a b : List Bs} (h : ∀ x, x ∈ a ↔ x ∈ b) : riseL a = riseL b :=
  rises_eq (riseL_rises a) (riseL_rises b) fun x => by rw [riseL_mem, riseL_mem]; exact h x

abbrev lists (l : List ByteArray) : List Bs := l.map (·.data.toList)
def riseB (l : List ByteArray) : List ByteArray := (riseL (lists l)).map bsOf
theorem lists_bsOf (l : List Bs) : lists (l.map bsOf) = l := by
  simp [lists, bsOf_data, Function.comp_def]
theorem lists_inj {a b : List ByteArray} (h : lists a = lists b) : a = b := by
  have := congrArg (List.map bsOf) h
  simpa [lists, bsOf_of, Function.comp_def] using this
theorem lists_rise (l : List ByteArray) : lists (riseB l) = riseL (lists l) := lists_bsOf _
theorem riseB_mem (l : List ByteArray) (x : ByteArray) : x ∈ riseB l ↔ x ∈ l := by
  have h1 : ∀ (m : List ByteArray), x ∈ m ↔ x.data.toList ∈ lists m := by
    intro m
    constructor
    · intro h; exact List.mem_map.2 ⟨x, h, rfl⟩
    · intro h
      obtain ⟨y, hy, e⟩ := List.mem_map.1 h
      rw [← ba_ext e]; exact hy
  rw [h1, lists_rise, riseL_mem, ← h1]
theorem riseB_congr {a b : List ByteArray} (h : ∀ x, x ∈ a ↔ x ∈ b) : riseB a = riseB b := by
  unfold riseB
  rw [riseL_congr (a := lists a) (b := lists b)]
  intro x
  constructor
  · intro hx
    obtain ⟨y, hy, rfl⟩ := List.mem_map.1 hx
    exact List.mem_map.2 ⟨y, (h y).1 hy, rfl⟩
  · intro hx
    obtain ⟨y, hy, rfl⟩ := List.mem_map.1 hx
    exact List.mem_map.2 ⟨y, (h y).2 hy, rfl⟩
theorem riseB_sublist {a b : List ByteArray} (h : ∀ x ∈ a, x ∈ b) : (riseB a).Sublist (riseB b) := by
  refine List.Sublist.map _ (rises_sublist (riseL_rises _) (riseL_rises _) fun x hx => ?_)
  rw [riseL_mem] at hx ⊢
  obtain ⟨y, hy, rfl⟩ := List.mem_map.1 hx
  exact List.mem_map.2 ⟨y, h y hy, rfl⟩
theorem riseL_length (l : List Bs) : (riseL l).length ≤ l.length := by
  unfold riseL
  have h1 := compact_len (l.mergeSort fun x y => decide (x ≤ y))
  have h2 : (l.mergeSort fun x y => decide (x ≤ y)).length = l.length := by simp
  omega
theorem riseB_length (l : List ByteArray) : (riseB l).length ≤ l.length := by
  have := riseL_length (lists l)
  simpa [riseB] using this
theorem sortCompact (l : List ByteArray) : compactB (sortB l) = riseB l := by
  unfold compactB sortB riseB riseL
  rw [show (((l.map (·.data.toList)).mergeSort fun x y => decide (x ≤ y)).map bsOf).map (·.data.toList) = (l.map (·.data.toList)).mergeSort fun x y => decide (x ≤ y) from lists_bsOf _]
theorem sort_f (l : List ByteArray) (h : l.length < 4611686018427387904) : slices_Sort_string_string.f l = some (sortB l) := by
  unfold slices_Sort_string_string.f
  rw [if_pos h]
theorem compact_f (l : List ByteArray) (h : l.length ≤ 9223372036854775807) : slices_Compact_string_string.f l = some (compactB l) := by
  unfold slices_Compact_string_string.f
  rw [if_pos h]
theorem less_next (l : List ByteArray) (i : Nat) (h : i + 1 < (riseB l).length) : Op.bytesLess ((rdOf ByteArray.empty (riseB l) (i : Int)).toList) ((rdOf ByteArray.empty (riseB l) ((i + 1 : Nat) : Int)).toList) = true := by
  rw [bytesLess_eq, decide_eq_true_iff]
  have hl : (riseB l).length = (riseL (lists l)).length := by simp [riseB]
  have := List.pairwise_iff_getElem.1 (riseL_rises (lists l)) i (i + 1) (by omega) (by omega) (by omega)
  have e : ∀ (j : Nat) (hj : j < (riseL (lists l)).length), (rdOf ByteArray.empty (riseB l) (j : Int)).toList = (riseL (lists l))[j] := by
    intro j hj
    have hj' : j < (riseB l).length := by omega
    rw [tl]
    simp [rdOf, List.getD_eq_getElem?_getD, riseB, hj, bsOf_data]
  rw [e i (by omega), e (i + 1) (by omega)]
  exact this

/-! ### header.Names -/
def lowB (s : ByteArray) : ByteArray := bsOf (lowL s.data.toList)
theorem lowB_data (s : ByteArray) : (lowB s).data.toList = lowL s.data.toList := rfl
theorem lowB_size (s : ByteArray) : (lowB s).size = s.size := by
  unfold lowB lowL
  rw [size_bsOf, List.length_map, size_len]
theorem lowC_idem (c : UInt8) : lowC (lowC c) = lowC c := by
  unfold lowC
  by_cases h : 65 ≤ c ∧ c ≤ 90
  · rw [if_pos h]
    have h1 : ¬ (65 ≤ c + 32 ∧ c + 32 ≤ 90) := by
      have := c.toNat_lt
      simp only [UInt8.le_iff_toNat_le, UInt8.toNat_add, UInt8.toNat_ofNat] at h ⊢
      omega
    rw [if_neg h1]
  · rw [if_neg h, if_neg h]
theorem lowL_idem (l : Bs) : lowL (lowL l) = lowL l := by
  unfold lowL
  rw [List.map_map]
  exact List.map_congr_left fun c _ => lowC_idem c
theorem lowB_idem (s : ByteArray) : lowB (lowB s) = lowB s := by
  unfold lowB
  rw [bsOf_data, lowL_idem]
theorem foldB_low (a b : ByteArray) : foldB a b = true ↔ lowB a = lowB b := by
  rw [foldB_eq]
  constructor
  · intro h; exact ba_ext h
  · intro h; exact congrArg (fun s : ByteArray => s.data.toList) h
/-! ### Flip -/
def flipD (t : Bool) (c : Int) : Int :=
  if 65 ≤ c ∧ c ≤ 90 then (if t then c + 32 else c)
  else if 97 ≤ c ∧ c ≤ 122 then (if t then c - 32 else c) else c
theorem flipD_all : ∀ t : Bool, ∀ n : Nat, n < 256 → lowC (UInt8.ofNat (flipD t (n : Int)).toNat) = lowC (UInt8.ofNat n) := by decide +kernel
theorem flip_lowC (b : Int) (i : Nat) (c : UInt8) : lowC (UInt8.ofNat (flipI b i (c.toNat : Int)).toNat) = lowC c := by
  have := flipD_all (b.toNat.testBit (i % 64)) c.toNat c.toNat_lt
  rw [UInt8.ofNat_toNat] at this
  exact this
theorem flip_lowL (s : ByteArray) (b : Int) : lowL (flipS s b).data.toList = lowL s.data.toList := by
  unfold flipS strOfNums lowL
  apply List.ext_getElem?
  intro i
  simp only [List.getElem?_map, List.getElem?_mapIdx, bytesOf]
  cases s.data.toList[i]? with
  | none => rfl
  | some c =>
    simp only [Option.map_some]
    rw [flip_lowC]
theorem flip_size (s : ByteArray) (b : Int) : (flipS s b).size = s.size := by
  have := congrArg List.length (flip_lowL s b)
  rwa [lowL, lowL, List.length_map, List.length_map, ← size_len, ← size_len] at this
theorem flip_lowB (s : ByteArray) (b : Int) : lowB (flipS s b) = lowB s := by
  unfold lowB
  rw [flip_lowL]
theorem flip_f (s : ByteArray) (b : Int) (hs : s.size ≤ 9223372036854775807) (hb : (Lit.int .u64 b).wf = true) : lockkeeperlaw0_Flip.f s b = some (flipS s b) := by
  unfold lockkeeperlaw0_Flip.f
  have h : IntKind.u64.min ≤ b ∧ b ≤ IntKind.u64.max := by simpa [Lit.wf] using hb
  rw [show IntKind.u64.min = 0 from rfl, show IntKind.u64.max = 18446744073709551615 from rfl] at h
  rw [if_pos ⟨hs, by omega, by omega⟩]
def namesS (l : List Hd) : List ByteArray := riseB (l.map fun h => lowB h.f0)
theorem names_l0 (l : List Hd) (hl : HOk l) (r : List Hd) : ∀ p, p ++ r = l →
    Ev (fun k => header_Names.l0 k (p.map fun h => lowB h.f0) l (l.length : Int) (p.length : Int)) (namesS l) := by
  have h1 := hl.1
  induction r with
  | nil =>
    intro p hp
    rw [List.append_nil] at hp
    subst hp
    refine evSucc ?_
    simp only [header_Names.l0]
    refine evNeg (by omega) (evBind (sort_f _ (by rw [List.length_map]; omega)) (evBind (compact_f _ ?_) ?_))
    · rw [sortB_length, List.length_map]; omega
    · rw [sortCompact]; exact Ev.now _
  | cons h r ih =>
    intro p hp
    have hlen : l.length = p.length + (r.length + 1) := by rw [← hp]; simp
    have hh := hl.2 h (by rw [← hp]; simp)
    have hr : rd_T26 l (p.length : Int) = h := by rw [← hp]; exact rd_mid p h r
    have e2 : wrap64 ((p.length : Int) + 1) = ((p ++ [h]).length : Int) := by simp; unfold wrap64; omega
    refine evSucc ?_
    simp only [header_Names.l0, hr, e2]
    refine evPos (by omega) (evPos (by omega) (evPos (by omega) (evBind (lower_f _ (by omega)) (evPos (by rw [List.length_map]; omega) ?_))))
    have := ih (p ++ [h]) (by simpa using hp)
    simpa [lowB] using this
theorem names_ev (l : List Hd) (hl : HOk l) : Ev (fun k => header_Names.f k l) (namesS l) := by
  have := names_l0 l hl l [] rfl
  simpa [header_Names.f] using this
theorem namesS_mem (l : List Hd) (x : ByteArray) : x ∈ namesS l ↔ ∃ h ∈ l, lowB h.f0 = x := by
  unfold namesS
  rw [riseB_mem, List.mem_map]
theorem namesS_length (l : List Hd) : (namesS l).length ≤ l.length := by
  have := riseB_length (l.map fun h => lowB h.f0)
  simpa [namesS] using this

/-! ### Texts -/
theorem rdOf_get (l : List ByteArray) (i : Nat) (h : i < l.length) : rdOf ByteArray.empty l (i : Int) = l[i] := by
  simp [rdOf, List.getD_eq_getElem?_getD, h]
theorem texts_l0 (l : List ByteArray) (hl : l.length ≤ 9223372036854775806) : ∀ (n i : Nat), i + n = l.length → Ev (fun k => lockkeeperlaw0_Texts.l0 k l l (i : Int)) true := by
  intro n
  induction n with
  | zero =>
    intro i hi
    refine evSucc ?_
    simp only [lockkeeperlaw0_Texts.l0]
    exact evNeg (by omega) (Ev.now _)
  | succ n ih =>
    intro i hi
    refine evSucc ?_
    simp only [lockkeeperlaw0_Texts.l0]
    have e2 : wrap64 ((i : Int) + 1) = ((i + 1 : Nat) : Int) := by unfold wrap64; omega
    rw [e2]
    exact evPos (by omega) (evPos (by omega) (evPos (by omega) (evPos (by simp) (ih (i + 1) (by omega)))))
theorem texts_refl (l : List ByteArray) (hl : l.length ≤ 9223372036854775806) : Ev (fun k => lockkeeperlaw0_Texts.f k l l) true := by
  unfold lockkeeperlaw0_Texts.f
  exact evPos rfl (by simpa using texts_l0 l hl l.length 0 (by omega))
end Go.Proofs.Ytojcceafgkdchaa.Pr
