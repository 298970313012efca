/- Plain laws of headers and of what an answer lets (chapters 6, 5, 14), for a seat that has chapter 1. -/
import Derived.Test.YtojcceafgkdchaaDoorD5
import Derived.Test.YtojcceafgkdchaaDoorG7
import Derived.Test.YtojcceafgkdchaaDoorPr14
import Derived.Test.YtojcceafgkdchaaDoorPr15
namespace Go.Proofs.YtojcceafgkdchaaDoor.Pr
open Go.RowKit Go.Proofs.YtojcceafgkdchaaDoorW.PrintWords Go.Proofs.YtojcceafgkdchaaDoorW.PrintLast
set_option linter.unusedVariables false
set_option linter.unusedSimpArgs false
abbrev Hd := S59
def HOk (l : List Hd) : Prop := l.length ≤ 1000 ∧ ∀ h ∈ l, h.f0.size ≤ 1000000 ∧ h.f1.size ≤ 1000000
theorem HOk.append {l m : List Hd} (hl : HOk l) (hm : HOk m) (h : (l ++ m).length ≤ 1000) : HOk (l ++ m) :=
  ⟨h, fun x hx => (List.mem_append.1 hx).elim (hl.2 x) (hm.2 x)⟩
def vals (l : List Hd) (name : ByteArray) : List ByteArray := (l.filter fun h => foldB h.f0 name).map fun h => trimS h.f1
def getS (l : List Hd) (name : ByteArray) : ByteArray × Bool := (joinS (vals l name), decide (((vals l name).length : Int) > 0))
theorem joinS_size (l : List ByteArray) (n : Nat) (h : ∀ s ∈ l, s.size ≤ n) : (joinS l).size ≤ l.length * (n + 2) := by
  unfold joinS joinB
  rw [size_bsOf]
  cases l with
  | nil => simp [Lib.join]
  | cons a r =>
    have hj := Lib.join_length a.data.toList (r.map (·.data.toList)) [44, 32]
    rw [List.map_cons, hj]
    have key : ∀ m : List ByteArray, (∀ s ∈ m, s.size ≤ n) → Lib.lens (m.map (·.data.toList)) ≤ m.length * n := by
      intro m
      induction m with
      | nil => intro _; simp [Lib.lens]
      | cons b m ih =>
        intro hm
        have h1 := hm b (by simp)
        have h2 := ih (fun s hs => hm s (by simp [hs]))
        rw [size_len] at h1
        simp only [Lib.lens, List.map_cons, List.sum_cons, List.length_cons] at h2 ⊢
        rw [Nat.add_mul]
        omega
    have hk := key (a :: r) h
    simp only [List.length_map, List.length_cons, List.length_nil, List.map_cons] at hk ⊢
    rw [Nat.mul_add]
    omega
theorem vals_length (l : List Hd) (name : ByteArray) : (vals l name).length ≤ l.length := by
  unfold vals
  rw [List.length_map]
  exact List.length_filter_le _ _
theorem vals_size {l : List Hd} (h : HOk l) (name : ByteArray) : ∀ s ∈ vals l name, s.size ≤ 1000000 := by
  intro s hs
  obtain ⟨x, hx, rfl⟩ := List.mem_map.1 hs
  have := trimS_size x.f1
  have := (h.2 x (List.mem_filter.1 hx).1).2
  omega
theorem vals_join {l : List Hd} (h : HOk l) (name : ByteArray) : (joinS (vals l name)).size ≤ 1000002000 := by
  have h1 := joinS_size _ _ (vals_size h name)
  have h2 := vals_length l name
  have h3 := h.1
  have : (vals l name).length * (1000000 + 2) ≤ 1000 * (1000000 + 2) := Nat.mul_le_mul_right _ (by omega)
  omega
theorem vals_append (l m : List Hd) (name : ByteArray) : vals (l ++ m) name = vals l name ++ vals m name := by simp [vals]
theorem rd_mid (p : List Hd) (h : Hd) (r : List Hd) : rd_T59 (p ++ h :: r) (p.length : Int) = h := by
  simp [rd_T59, List.getD_eq_getElem?_getD]
theorem get_l0 (name : ByteArray) (hn : name.size ≤ 1000000) (l : List Hd) (hl : HOk l) (r : List Hd) : ∀ p acc, p ++ r = l → acc = vals p name →
    Ev (fun k => header_Get.l0 k name acc l (l.length : Int) (p.length : Int)) (getS l name) := by
  induction r with
  | nil =>
    intro p acc hp hacc
    rw [List.append_nil] at hp
    subst hp
    subst hacc
    refine evSucc ?_
    simp only [header_Get.l0]
    have hlen := vals_length p name
    have h1 := hl.1
    refine evNeg (by omega) ?_
    rw [join_f (vals p name) (by omega) (by have := vals_join hl name; omega)]
    exact Ev.now _
  | cons h r ih =>
    intro p acc hp hacc
    have hlen : l.length = p.length + (r.length + 1) := by rw [← hp]; simp
    have h1 := hl.1
    have hh := hl.2 h (by rw [← hp]; simp)
    refine evSucc ?_
    simp only [header_Get.l0]
    refine evPos (by omega) (evPos (by omega) (evPos (by omega) ?_))
    have hr : rd_T59 l (p.length : Int) = h := by rw [← hp]; exact rd_mid p h r
    rw [hr]
    refine evBind (fold_f _ _ (by omega) (by omega)) ?_
    have e2 : wrap64 ((p.length : Int) + 1) = ((p ++ [h]).length : Int) := by simp; unfold wrap64; omega
    rw [e2]
    cases hf : foldB h.f0 name with
    | true =>
      simp only [if_true]
      refine Ev.bind (trim_ev h.f1 (by omega)) ?_
      have hlv := vals_length p name
      refine evPos (by rw [hacc]; omega) ?_
      exact ih (p ++ [h]) _ (by simpa using hp) (by rw [hacc, vals_append]; simp [vals, hf])
    | false =>
      simp only [Bool.false_eq_true, if_false]
      exact ih (p ++ [h]) _ (by simpa using hp) (by rw [hacc, vals_append]; simp [vals, hf])
theorem get_ev (l : List Hd) (name : ByteArray) (hl : HOk l) (hn : name.size ≤ 1000000) : Ev (fun k => header_Get.f k l name) (getS l name) := by
  have := get_l0 name hn l hl l [] [] rfl (by simp [vals])
  simpa [header_Get.f] using this
theorem dropWhile_idem (l : Bs) : (l.dropWhile isBl).dropWhile isBl = l.dropWhile isBl := by
  induction l with
  | nil => rfl
  | cons c l ih =>
    cases h : isBl c with
    | true => simp [h, ih]
    | false => simp [h]
theorem dropWhile_last (xs : Bs) (c : UInt8) (h : isBl c = false) : (xs ++ [c]).dropWhile isBl = xs.dropWhile isBl ++ [c] := by
  induction xs with
  | nil => simp [h]
  | cons x xs ih =>
    cases hx : isBl x with
    | true => simpa [hx] using ih
    | false => simp [hx]
theorem dropWhile_head (l : Bs) : l.dropWhile isBl = [] ∨ ∃ c m, l.dropWhile isBl = c :: m ∧ isBl c = false := by
  induction l with
  | nil => exact .inl rfl
  | cons c l ih =>
    cases h : isBl c with
    | true => simpa [h] using ih
    | false => exact .inr ⟨c, l, by simp [h], h⟩
theorem trimL_idem (l : Bs) : trimL (trimL l) = trimL l := by
  unfold trimL
  have h1 : (trimR (l.dropWhile isBl)).dropWhile isBl = trimR (l.dropWhile isBl) := by
    rcases dropWhile_head l with h | ⟨c, m, h, hc⟩
    · rw [h]; rfl
    · rw [h]
      unfold trimR
      rw [List.reverse_cons, dropWhile_last _ _ hc, List.reverse_append]
      simp [hc]
  rw [h1]
  unfold trimR
  rw [List.reverse_reverse, dropWhile_idem]
theorem trimS_idem (s : ByteArray) : trimS (trimS s) = trimS s := by
  unfold trimS
  rw [bsOf_data, trimL_idem]

/-! ### what a header tells, split -/
def HT (l : List Hd) : Prop := l.length ≤ 200 ∧ ∀ h ∈ l, h.f0.size ≤ 100000 ∧ h.f1.size ≤ 100000
theorem HT.ok {l : List Hd} (h : HT l) : HOk l := ⟨by have := h.1; omega, fun x hx => by have := h.2 x hx; omega⟩
theorem HT.get {l : List Hd} (h : HT l) (name : ByteArray) : (getS l name).1.size ≤ 100000000 := by
  have h1 := joinS_size (vals l name) 100000 (fun s hs => by
    obtain ⟨x, hx, rfl⟩ := List.mem_map.1 hs
    have := trimS_size x.f1
    have := (h.2 x (List.mem_filter.1 hx).1).2
    omega)
  have h2 := vals_length l name
  have h3 := h.1
  have : (vals l name).length * (100000 + 2) ≤ 200 * (100000 + 2) := Nat.mul_le_mul_right _ (by omega)
  show (joinS (vals l name)).size ≤ _
  omega
theorem splitC_len (c : UInt8) (l : Bs) : (∀ y ∈ splitC c l, y.length ≤ l.length) ∧ (splitC c l).length ≤ l.length + 1 := by
  induction l with
  | nil => simp [splitC]
  | cons b l ih =>
    rw [splitC]
    split
    · refine ⟨fun y hy => ?_, by simpa using ih.2⟩
      rcases List.mem_cons.1 hy with rfl | hy
      · simp
      · have := ih.1 y hy; simp; omega
    · split
      · refine ⟨fun y hy => ?_, by simp⟩
        rw [List.mem_singleton.1 hy]; simp
      · rename_i x xs e
        rw [e] at ih
        refine ⟨fun y hy => ?_, by have := ih.2; simp at this ⊢; omega⟩
        rcases List.mem_cons.1 hy with rfl | hy
        · have := ih.1 x (by simp); simp; omega
        · have := ih.1 y (by simp [hy]); simp; omega
theorem splitS_length (s : ByteArray) : (splitS s).length ≤ s.size + 1 := by
  have h1 := keepT_length (splitC 44 s.data.toList)
  have h2 := (splitC_len 44 s.data.toList).2
  rw [← size_len] at h2
  unfold splitS
  omega
theorem splitS_size (s : ByteArray) : ∀ x ∈ splitS s, x.size ≤ s.size := by
  intro x hx
  obtain ⟨y, hy, rfl⟩ := List.mem_map.1 hx
  obtain ⟨z, hz, rfl⟩ := List.mem_map.1 (List.mem_filter.1 hy).1
  have h1 := (splitC_len 44 s.data.toList).1 z hz
  have h2 := trimL_length z
  rw [size_bsOf, size_len]
  omega
def toksS (l : List Hd) (name : ByteArray) : List ByteArray × Bool := if (splitS (getS l name).1).all tokS = true then (splitS (getS l name).1, true) else ([], false)
theorem tokens_l0 (L : List ByteArray) (hL : L.length ≤ 1000000000) (hs : ∀ x ∈ L, x.size ≤ 4611686018427387904) : ∀ n i, i + n = L.length →
    Ev (fun k => allow_tokens.l0 k L L (L.length : Int) (i : Int)) (if (L.drop i).all tokS = true then (L, true) else ([], false)) := by
  intro n
  induction n with
  | zero =>
    intro i hi
    rw [List.drop_of_length_le (by omega), List.all_nil, if_pos rfl]
    refine evSucc ?_
    simp only [allow_tokens.l0]
    exact evNeg (by omega) (Ev.now _)
  | succ n ih =>
    intro i hi
    have hlt : i < L.length := by omega
    have e2 : wrap64 ((i : Int) + 1) = ((i + 1 : Nat) : Int) := by unfold wrap64; omega
    rw [List.drop_eq_getElem_cons hlt, List.all_cons]
    refine evSucc ?_
    simp only [allow_tokens.l0, e2]
    rw [rdOf_get _ _ hlt]
    refine evPos (by omega) (evPos (by omega) (evPos (by omega) (Ev.bind (token_ev _ (hs _ (List.getElem_mem hlt))) ?_)))
    cases h : tokS L[i] with
    | true => rw [Bool.true_and]; exact evPos rfl (ih (i + 1) (by omega))
    | false => rw [Bool.false_and]; exact evNeg (by decide) (Ev.now _)
theorem toks_ev (l : List Hd) (name : ByteArray) (hl : HT l) (hn : name.size ≤ 1000000) : Ev (fun k => allow_tokens.f k l name) (toksS l name) := by
  unfold allow_tokens.f toksS
  have h1 := hl.get name
  have h2 := splitS_length (getS l name).1
  have h3 := splitS_size (getS l name).1
  refine Ev.bind (get_ev l name hl.ok hn) (Ev.bind (osplit_ev _ h1) ?_)
  have := tokens_l0 (splitS (getS l name).1) (by omega) (fun x hx => by have := h3 x hx; omega) (splitS (getS l name).1).length 0 (by omega)
  simpa using this

/-! ### allow.Read -/
def sMeths : ByteArray := (⟨#[97, 99, 99, 101, 115, 115, 45, 99, 111, 110, 116, 114, 111, 108, 45, 97, 108, 108, 111, 119, 45, 109, 101, 116, 104, 111, 100, 115]⟩ : ByteArray)
def sHeads : ByteArray := (⟨#[97, 99, 99, 101, 115, 115, 45, 99, 111, 110, 116, 114, 111, 108, 45, 97, 108, 108, 111, 119, 45, 104, 101, 97, 100, 101, 114, 115]⟩ : ByteArray)
def sAge : ByteArray := (⟨#[97, 99, 99, 101, 115, 115, 45, 99, 111, 110, 116, 114, 111, 108, 45, 109, 97, 120, 45, 97, 103, 101]⟩ : ByteArray)
def ageS (v : ByteArray) : Int := if (digS (trimS v)).2 = true then mn (digS (trimS v)).1 7200 else 5
abbrev RT : Type := List ByteArray × List ByteArray × Int × Int
def readS (l : List Hd) : RT :=
  if (toksS l sMeths).2 = true then (if (toksS l sHeads).2 = true then ((toksS l sMeths).1, (toksS l sHeads).1.map lowB, ageS (getS l sAge).1, 0) else ([], [], 0, 6)) else ([], [], 0, 5)
theorem read_l0 (l : List Hd) (hl : HT l) (M L : List ByteArray) (hL : L.length ≤ 1000000000) (hs : ∀ x ∈ L, x.size ≤ 4611686018427387904) : ∀ n i, i + n = L.length →
    Ev (fun k => allow_Read.l0 k l M ((L.take i).map lowB ++ L.drop i) (L.length : Int) (i : Int)) (M, L.map lowB, ageS (getS l sAge).1, 0) := by
  intro n
  induction n with
  | zero =>
    intro i hi
    rw [List.drop_of_length_le (by omega), List.append_nil, List.take_of_length_le (by omega)]
    have h1 := hl.get sAge
    have h2 := trimS_size (getS l sAge).1
    refine evSucc ?_
    simp only [allow_Read.l0]
    refine evNeg (by omega) (Ev.bind (get_ev l sAge hl.ok (by decide)) (Ev.bind (trim_ev _ (by omega)) (Ev.bind (digits_ev _ (by omega)) ?_)))
    unfold ageS
    by_cases h : (digS (trimS (getS l sAge).1)).2 = true
    · refine evPos h ?_
      rw [if_pos h]; exact Ev.now _
    · refine evNeg h ?_
      rw [if_neg h]; exact Ev.now _
  | succ n ih =>
    intro i hi
    have hlt : i < L.length := by omega
    have e2 : wrap64 ((i : Int) + 1) = ((i + 1 : Nat) : Int) := by unfold wrap64; omega
    have hlen : ((L.take i).map lowB ++ L.drop i).length = L.length := by simp; omega
    have hg : ((L.take i).map lowB ++ L.drop i)[i]'(by omega) = L[i] := by
      rw [List.getElem_append_right (by simp; omega)]
      simp [List.length_take, Nat.min_eq_left (Nat.le_of_lt hlt)]
    have hset : ((L.take i).map lowB ++ L.drop i).set ((i : Int)).toNat (lowB L[i]) = (L.take (i + 1)).map lowB ++ L.drop (i + 1) := by
      rw [Int.toNat_natCast, List.set_append_right _ _ (by simp; omega), List.drop_eq_getElem_cons hlt]
      simp only [List.length_map, List.length_take, Nat.min_eq_left (Nat.le_of_lt hlt), Nat.sub_self, List.set_cons_zero]
      rw [List.take_succ_eq_append_getElem hlt, List.map_append, List.append_assoc]
      rfl
    have ih' := ih (i + 1) (by omega)
    rw [← hset] at ih'
    refine evSucc ?_
    simp only [allow_Read.l0, e2]
    rw [rdOf_get _ _ (by omega : i < ((L.take i).map lowB ++ L.drop i).length), hg]
    have hz := hs _ (List.getElem_mem hlt)
    exact evPos (by omega) (evPos (by omega) (evPos (by omega) (evBind (lower_f _ (by omega)) ih')))
theorem read_ev (l : List Hd) (hl : HT l) : Ev (fun k => allow_Read.f k l) (readS l) := by
  unfold allow_Read.f readS
  refine Ev.bind (toks_ev l sMeths hl (by decide)) (evIte (fun _ => Ev.bind (toks_ev l sHeads hl (by decide)) (evIte (fun h => ?_) fun _ => Ev.now _)) fun _ => Ev.now _)
  have h1 := hl.get sHeads
  have h2 := splitS_length (getS l sHeads).1
  have h3 := splitS_size (getS l sHeads).1
  have e : (toksS l sHeads).1 = splitS (getS l sHeads).1 := by
    unfold toksS at h ⊢
    split at h
    · rename_i hh; rw [if_pos hh]
    · cases h
  rw [e]
  have := read_l0 l hl (toksS l sMeths).1 (splitS (getS l sHeads).1) (by omega) (fun x hx => by have := h3 x hx; omega) (splitS (getS l sHeads).1).length 0 (by omega)
  simpa using this

/-! ### method.Safe -/
def knowns : List ByteArray := [(⟨#[68, 69, 76, 69, 84, 69]⟩ : ByteArray), (⟨#[71, 69, 84]⟩ : ByteArray), (⟨#[72, 69, 65, 68]⟩ : ByteArray), (⟨#[79, 80, 84, 73, 79, 78, 83]⟩ : ByteArray), (⟨#[80, 79, 83, 84]⟩ : ByteArray), (⟨#[80, 85, 84]⟩ : ByteArray)]
def knownGo (s : ByteArray) : List ByteArray → ByteArray
  | [] => ⟨#[]⟩
  | m :: r => if foldB s m = true then m else knownGo s r
theorem known_l0 (s : ByteArray) (hs : s.size ≤ 9223372036854775807) : ∀ n i : Nat, i + n = 6 → Ev (fun k => method_known.l0 k s (i : Int)) (knownGo s (knowns.drop i)) := by
  intro n
  induction n with
  | zero =>
    intro i hi
    rw [List.drop_of_length_le (by show 6 ≤ i; omega), knownGo]
    refine evSucc ?_
    simp only [method_known.l0]
    exact evNeg (by omega) (Ev.now _)
  | succ n ih =>
    intro i hi
    have hlt : i < knowns.length := by show i < 6; omega
    have e2 : wrap64 ((i : Int) + 1) = ((i + 1 : Nat) : Int) := by unfold wrap64; omega
    have hz : ∀ m ∈ knowns, m.size ≤ 7 := by decide
    have hm := hz _ (List.getElem_mem hlt)
    rw [List.drop_eq_getElem_cons hlt, knownGo]
    refine evSucc ?_
    have e3 : rdOf ByteArray.empty ([(⟨#[68, 69, 76, 69, 84, 69]⟩ : ByteArray), (⟨#[71, 69, 84]⟩ : ByteArray), (⟨#[72, 69, 65, 68]⟩ : ByteArray), (⟨#[79, 80, 84, 73, 79, 78, 83]⟩ : ByteArray), (⟨#[80, 79, 83, 84]⟩ : ByteArray), (⟨#[80, 85, 84]⟩ : ByteArray)] : List ByteArray) (i : Int) = knowns[i] := rdOf_get _ _ hlt
    simp only [method_known.l0, e2, e3]
    refine evPos (by omega) (evPos (by omega) (evBind (fold_f _ _ hs (by omega)) ?_))
    exact evIte (fun _ => Ev.now _) fun _ => ih (i + 1) (by omega)
theorem known_ev (s : ByteArray) (hs : s.size ≤ 9223372036854775807) : Ev (fun k => method_known.f k s) (knownGo s knowns) := known_l0 s hs 6 0 rfl
def safeM (s : ByteArray) : Bool := if (knownGo s knowns).toList = ([71, 69, 84] : List UInt8) then true else if (knownGo s knowns).toList = ([72, 69, 65, 68] : List UInt8) then true else if (knownGo s knowns).toList = ([80, 79, 83, 84] : List UInt8) then true else false
theorem safeM_ev (s : ByteArray) (hs : s.size ≤ 9223372036854775807) : Ev (fun k => method_Safe.f k s) (safeM s) := by
  unfold method_Safe.f safeM
  exact Ev.bind (known_ev s hs) (evIte (fun _ => Ev.now _) fun _ => evIte (fun _ => Ev.now _) fun _ => evIte (fun _ => Ev.now _) fun _ => Ev.now _)

/-! ### allow.Has, Covers -/
theorem contains_f (l : List ByteArray) (x : ByteArray) (h : l.length ≤ 9223372036854775807) : slices_Contains_string_string.f l x = some (Lib.containsS l x) := by
  unfold slices_Contains_string_string.f
  rw [if_pos h]

def sStar : ByteArray := (⟨#[42]⟩ : ByteArray)
def hasS (M : List ByteArray) (m : ByteArray) (creds : Bool) : Bool := if safeM m = true then true else if Lib.containsS M m = true then true else if creds = true then false else Lib.containsS M sStar
theorem has_ev (M H : List ByteArray) (age : Int) (m : ByteArray) (creds : Bool) (hM : M.length ≤ 9223372036854775807) (hm : m.size ≤ 9223372036854775807) : Ev (fun k => allow_Has.f k M H age m creds) (hasS M m creds) := by
  unfold allow_Has.f hasS
  exact Ev.bind (safeM_ev m hm) (evIte (fun _ => Ev.now _) fun _ => evBind (contains_f M m hM) (evIte (fun _ => Ev.now _) fun _ => evIte (fun _ => Ev.now _) fun _ => evBind (contains_f M sStar hM) (Ev.now _)))
def covS (H : List ByteArray) (n : ByteArray) (creds : Bool) : Bool := if Lib.containsS H (lowB n) = true then true else if creds = true then false else if (lowB n).toList = ([97, 117, 116, 104, 111, 114, 105, 122, 97, 116, 105, 111, 110] : List UInt8) then false else Lib.containsS H sStar
theorem cov_f (M H : List ByteArray) (age : Int) (n : ByteArray) (creds : Bool) (hH : H.length ≤ 9223372036854775807) (hn : n.size ≤ 9223372036854775807) : allow_Covers.f M H age n creds = some (covS H n creds) := by
  unfold allow_Covers.f covS
  rw [lower_f n hn]
  simp only [Option.bind_some]
  rw [contains_f H _ hH, contains_f H _ hH]
  simp only [Option.bind_some]
  repeat' split
  all_goals first | rfl | simp_all [lowB, sStar]

theorem awake14 : ∃ k, lockkeeperlaw14_awake.f k = some true := ⟨60, by decide +kernel⟩
theorem awake14_ev : Ev (fun k => lockkeeperlaw14_awake.f k) true := Ev.of lockkeeperlaw14_awake.mono awake14.choose_spec
end Go.Proofs.YtojcceafgkdchaaDoor.Pr
