/- Plain laws of the reference's words of chapter 1 (ref1): In, Token, Split, Join, Fold. -/
import Derived.Test.YtojcceafgkdchaaDoorD4
import Derived.Test.YtojcceafgkdchaaDoorPr6
import Derived.Test.YtojcceafgkdchaaDoorPr8
import Derived.Test.YtojcceafgkdchaaDoorPr4
namespace Go.Proofs.YtojcceafgkdchaaDoor.Pr
open Go.RowKit Go.Proofs.YtojcceafgkdchaaDoorW.PrintWords Go.Proofs.YtojcceafgkdchaaDoorW.PrintLast
set_option linter.unusedVariables false
set_option linter.unusedSimpArgs false

theorem in_l0 (s : ByteArray) (c : UInt8) (hs : s.size ≤ 4611686018427387904) (r : Bs) : ∀ p : Bs, s.data.toList = p ++ r → Ev (fun k => lockkeeperref1_In.l0 k (c.toNat : Int) s (p.length : Int)) (r.contains c) := by
  induction r with
  | nil =>
    intro p hp
    have hl : s.size = p.length := by rw [size_len, hp]; simp
    refine evSucc ?_
    simp only [lockkeeperref1_In.l0]
    exact evNeg (by omega) (Ev.now _)
  | cons b r ih =>
    intro p hp
    have hl : s.size = p.length + (r.length + 1) := by rw [size_len, hp]; simp
    have hb := bt_mid s p b r hp
    have e2 : wrap64 ((p.length : Int) + 1) = ((p ++ [b]).length : Int) := by simp; unfold wrap64; omega
    refine evSucc ?_
    simp only [lockkeeperref1_In.l0, hb, e2]
    refine evPos (by omega) (evPos (by omega) ?_)
    rw [List.contains_cons]
    by_cases h : b = c
    · subst h
      exact evPos rfl (evEq (Ev.now _) (by simp))
    · have hn : ¬ (b.toNat : Int) = (c.toNat : Int) := fun e => h (UInt8.toNat_inj.1 (by omega))
      have hc : (c == b) = false := by simpa using fun e => h e.symm
      refine evNeg hn (evEq (ih (p ++ [b]) (by simpa using hp)) ?_)
      rw [hc, Bool.false_or]
theorem in_ev (s : ByteArray) (c : UInt8) (hs : s.size ≤ 4611686018427387904) : Ev (fun k => lockkeeperref1_In.f k (c.toNat : Int) s) (s.data.toList.contains c) := in_l0 s c hs s.data.toList [] rfl
theorem longS_len : ∀ (l : List ByteArray) (n : Int), longS n l = false → 0 ≤ n → (l.length : Int) ≤ n := by
  intro l
  induction l with
  | nil => intro n _ h; simpa using h
  | cons a r ih =>
    intro n h hn
    rw [longS] at h
    by_cases ha : (a.size : Int) ≥ n
    · rw [if_pos ha] at h; cases h
    · rw [if_neg ha] at h
      have := ih _ h (by omega)
      simp
      omega
theorem os_join_size (l : List ByteArray) (n : Nat) (h : ∀ s ∈ l, s.size ≤ n) : (joinS l).size ≤ l.length * (n + 2) := by
  unfold joinS joinB
  rw [size_bsOf]
  cases l with
  | nil => simp [Lib.join]
  | cons a r =>
    have hj := Lib.join_length a.data.toList (r.map (·.data.toList)) [44, 32]
    rw [List.map_cons, hj]
    have key : ∀ m : List ByteArray, (∀ s ∈ m, s.size ≤ n) → Lib.lens (m.map (·.data.toList)) ≤ m.length * n := by
      intro m
      induction m with
      | nil => intro _; simp [Lib.lens]
      | cons b m ih =>
        intro hm
        have h1 := hm b (by simp)
        have h2 := ih (fun s hs => hm s (by simp [hs]))
        rw [size_len] at h1
        simp only [Lib.lens, List.map_cons, List.sum_cons, List.length_cons] at h2 ⊢
        rw [Nat.add_mul]
        omega
    have hk := key (a :: r) h
    simp only [List.length_map, List.length_cons, List.length_nil, List.map_cons] at hk ⊢
    rw [Nat.mul_add]
    omega
theorem long_l0' (r : List ByteArray) : ∀ (p : List ByteArray) (n : Int), 0 ≤ n → (p.length : Int) + n ≤ 4611686018427387904 → Ev (fun k => lockkeeperlaw0_Long.l0 k n (p ++ r) (p.length : Int)) (longS n r) := by
  induction r with
  | nil =>
    intro p n _ _
    refine Ev.step (f := fun _ => some false) (fun k => ?_) (Ev.now _)
    simp only [lockkeeperlaw0_Long.l0]
    rw [if_neg (by simp)]
  | cons s r ih =>
    intro p n h0 hn
    have hr : rdOf ByteArray.empty (p ++ s :: r) (p.length : Int) = s := by simp [rdOf, List.getD_eq_getElem?_getD]
    have hlen : (p ++ s :: r).length = p.length + (r.length + 1) := by simp
    by_cases h : (s.size : Int) ≥ n
    · refine Ev.step (f := fun _ => some true) (fun k => ?_) (by rw [longS, if_pos h]; exact Ev.now _)
      simp only [lockkeeperlaw0_Long.l0]
      rw [if_pos (by omega), if_pos (by omega), hr, if_pos h]
    · refine Ev.step (f := fun k => lockkeeperlaw0_Long.l0 k (n - s.size - 1) ((p ++ [s]) ++ r) ((p ++ [s]).length : Int)) (fun k => ?_) ?_
      · simp only [lockkeeperlaw0_Long.l0]
        rw [if_pos (by omega), if_pos (by omega), hr, if_neg h]
        have e1 : wrap64 (wrap64 (n - (s.size : Int)) - 1) = n - s.size - 1 := by unfold wrap64; omega
        have e2 : wrap64 ((p.length : Int) + 1) = ((p ++ [s]).length : Int) := by simp; unfold wrap64; omega
        rw [e1, e2]
        simp
      · rw [longS, if_neg h]
        exact ih (p ++ [s]) _ (by omega) (by simp; omega)
theorem long_any (n : Int) (l : List ByteArray) (h0 : 0 ≤ n) (hn : n ≤ 4611686018427387904) : Ev (fun k => lockkeeperlaw0_Long.f k n l) (longS n l) := by
  have := long_l0' l [] n h0 (by simpa using hn)
  simpa [lockkeeperlaw0_Long.f] using this

/-! ### ref1.Lower, Fold -/
theorem rlower_f (s : ByteArray) (h : s.size ≤ 9223372036854775807) : lockkeeperref1_Lower.f s = some (lowB s) := by
  unfold lockkeeperref1_Lower.f
  rw [if_pos h, lowS_eq]
  rfl
theorem rfold_f (a b : ByteArray) (ha : a.size ≤ 9223372036854775807) (hb : b.size ≤ 9223372036854775807) : lockkeeperref1_Fold.f a b = some (foldB a b) := by
  unfold lockkeeperref1_Fold.f
  rw [rlower_f a ha, rlower_f b hb]
  simp only [Option.bind_some]
  rw [tl_beq]
  rfl

/-! ### ref1.Token -/
def rmarks : ByteArray := (⟨#[33, 35, 36, 37, 38, 39, 42, 43, 45, 46, 94, 95, 124, 126]⟩ : ByteArray)
def isPl (c : UInt8) : Bool := (lockkeeperref1_Plain.f (c.toNat : Int)).getD false
theorem plain_f (c : UInt8) : lockkeeperref1_Plain.f (c.toNat : Int) = some (isPl c) := by
  unfold isPl lockkeeperref1_Plain.f
  repeat' split
  all_goals rfl
theorem rtok_all : ∀ n : Fin 256, isTok (UInt8.ofNat n.val) = (isPl (UInt8.ofNat n.val) || rmarks.data.toList.contains (UInt8.ofNat n.val) || UInt8.ofNat n.val == 96) := by decide +kernel
theorem rtok_c (c : UInt8) : isTok c = (isPl c || rmarks.data.toList.contains c || c == 96) := by
  have := rtok_all ⟨c.toNat, c.toNat_lt⟩
  simpa using this
theorem rtoken_l0 (s : ByteArray) (hs : s.size ≤ 4611686018427387904) (r : Bs) : ∀ (p : Bs), s.data.toList = p ++ r →
    Ev (fun k => lockkeeperref1_Token.l0 k s (p.length : Int)) (r.all isTok && s.data.toList != []) := by
  induction r with
  | nil =>
    intro p hp
    have hl : s.size = p.length := by rw [size_len, hp]; simp
    refine evSucc ?_
    simp only [lockkeeperref1_Token.l0]
    refine evNeg (by omega) (evEq (Ev.now _) ?_)
    rw [hp, List.append_nil, List.all_nil, Bool.true_and, hl]
    cases p with
    | nil => rfl
    | cons c p => simp
  | cons c r ih =>
    intro p hp
    have hl : s.size = p.length + (r.length + 1) := by rw [size_len, hp]; simp
    have hb := bt_mid s p c r hp
    have e2 : wrap64 ((p.length : Int) + 1) = ((p ++ [c]).length : Int) := by simp; unfold wrap64; omega
    have ih' := ih (p ++ [c]) (by rw [hp]; simp)
    refine evSucc ?_
    simp only [lockkeeperref1_Token.l0, hb, e2]
    refine evPos (by omega) (evPos (by omega) (evBind (plain_f c) ?_))
    rw [List.all_cons, rtok_c c]
    cases h1 : isPl c with
    | true =>
      rw [Bool.true_or, Bool.true_or, Bool.true_and]
      exact evPos rfl ih'
    | false =>
      rw [Bool.false_or]
      refine evNeg (by decide) (Ev.bind (in_ev rmarks c (by decide)) ?_)
      cases h2 : rmarks.data.toList.contains c with
      | true =>
        rw [Bool.true_or, Bool.true_and]
        exact evPos rfl ih'
      | false =>
        rw [Bool.false_or]
        refine evNeg (by decide) ?_
        by_cases h3 : c = 96
        · subst h3
          exact evPos rfl (evEq ih' (by simp))
        · have h4 : (c == 96) = false := by simpa using h3
          rw [h4, Bool.false_and, Bool.false_and]
          refine evNeg (fun e => h3 (UInt8.toNat_inj.1 ?_)) (Ev.now _)
          have : (96 : UInt8).toNat = 96 := rfl
          omega
theorem rtoken_ev (s : ByteArray) (hs : s.size ≤ 4611686018427387904) : Ev (fun k => lockkeeperref1_Token.f k s) (tokS s) := rtoken_l0 s hs s.data.toList [] rfl

/-! ### ref1.Split -/
theorem keepT_one (x : Bs) : keepT [x] = if trimL x = [] then [] else [bsOf (trimL x)] := by
  unfold keepT
  by_cases h : trimL x = []
  · rw [if_pos h]; simp [h]
  · rw [if_neg h]; simp [h]
theorem rsplit_l0 (s : ByteArray) (hs : s.size ≤ 1000000000) (r : Bs) : ∀ (p cur : Bs) (acc : List ByteArray), s.data.toList = p ++ cur ++ r → (44 : UInt8) ∉ cur → acc.length ≤ p.length →
    Ev (fun k => lockkeeperref1_Split.l0 k s acc (p.length : Int) ((p.length + cur.length : Nat) : Int)) (acc ++ keepT (splitC 44 (cur ++ r))) := by
  have hj : ∀ (p cur r : Bs) (acc : List ByteArray), s.data.toList = p ++ cur ++ r → acc.length ≤ p.length → ∀ R, (Ev (fun k => lockkeeperref1_Split.l0 k s (acc ++ keepT [cur]) ((p.length + cur.length + 1 : Nat) : Int) ((p.length + cur.length + 1 : Nat) : Int)) R) →
      Ev (fun k => lockkeeperref1_Split.j1 k s acc (p.length : Int) ((p.length + cur.length : Nat) : Int) false) R := by
    intro p cur r acc hp ha R hR
    have hl : s.size = p.length + cur.length + r.length := by rw [size_len, hp]; simp; omega
    have e2 : wrap64 (((p.length + cur.length : Nat) : Int) + 1) = ((p.length + cur.length + 1 : Nat) : Int) := by unfold wrap64; omega
    have he : (s.extract ((p.length : Int)).toNat (((p.length + cur.length : Nat) : Int)).toNat).data.toList = cur := by
      rw [extract_list, hp]
      simp only [Int.toNat_natCast]
      rw [List.take_append_of_le_length (by simp), List.take_of_length_le (by simp)]
      simp
    have hz : (s.extract ((p.length : Int)).toNat (((p.length + cur.length : Nat) : Int)).toNat).size ≤ 4611686018427387904 := by
      rw [size_len, he]; omega
    refine evSucc ?_
    simp only [lockkeeperref1_Split.j1, e2]
    refine evNeg (by decide) (evPos (by omega) (evPos (by omega) (evPos (by omega) (Ev.bind (rtrim_ev _ hz) ?_))))
    have ht : trimS (s.extract ((p.length : Int)).toNat (((p.length + cur.length : Nat) : Int)).toNat) = bsOf (trimL cur) := by unfold trimS; rw [he]
    rw [ht, tl, bsOf_data]
    rw [keepT_one] at hR
    by_cases h0 : trimL cur = []
    · rw [if_pos h0, List.append_nil] at hR
      exact evPos h0 hR
    · rw [if_neg h0] at hR
      exact evNeg h0 (evPos (by omega) hR)
  induction r with
  | nil =>
    intro p cur acc hp hc ha
    have hl : s.size = p.length + cur.length := by rw [size_len, hp]; simp
    refine evSucc ?_
    simp only [lockkeeperref1_Split.l0]
    refine evPos (by omega) (evNeg (by omega) (hj p cur [] acc hp ha _ ?_))
    refine evSucc ?_
    simp only [lockkeeperref1_Split.l0]
    refine evNeg (by omega) (evEq (Ev.now _) ?_)
    rw [List.append_nil, splitC_not 44 cur hc]
  | cons c r ih =>
    intro p cur acc hp hc ha
    have hl : s.size = p.length + cur.length + (r.length + 1) := by rw [size_len, hp]; simp; omega
    have hb : bt s ((p.length + cur.length : Nat) : Int) = (c.toNat : Int) := by
      have := bt_mid s (p ++ cur) c r (by rw [hp])
      rwa [List.length_append] at this
    refine evSucc ?_
    simp only [lockkeeperref1_Split.l0, hb]
    refine evPos (by omega) (evPos (by omega) (evPos (by omega) ?_))
    by_cases h : c = 44
    · subst h
      rw [splitC_at 44 cur r hc, show cur :: splitC 44 r = [cur] ++ splitC 44 r from rfl, keepT_append [cur], ← List.append_assoc, show (((44 : UInt8).toNat : Int) != 44) = false from rfl]
      have := ih (p ++ cur ++ [44]) [] (acc ++ keepT [cur]) (by rw [hp]; simp) (by simp) (by
        have := keepT_length [cur]
        simp at this ⊢
        omega)
      refine hj p cur (44 :: r) acc hp ha _ (evEq ?_ rfl)
      simpa [Nat.add_assoc] using this
    · have hne : ((c.toNat : Int) != 44) = true := by
        simp only [bne_iff_ne, ne_eq]
        intro e
        refine h (UInt8.toNat_inj.1 ?_)
        have : (44 : UInt8).toNat = 44 := rfl
        omega
      rw [hne]
      have e2 : wrap64 (((p.length + cur.length : Nat) : Int) + 1) = ((p.length + (cur ++ [c]).length : Nat) : Int) := by
        rw [List.length_append, List.length_singleton]; unfold wrap64; omega
      refine evSucc ?_
      simp only [lockkeeperref1_Split.j1, e2]
      have := ih p (cur ++ [c]) acc (by rw [hp]; simp) (by
        intro hm
        rcases List.mem_append.1 hm with hm | hm
        · exact hc hm
        · rw [List.mem_singleton] at hm; exact h hm.symm) ha
      refine evPos trivial (evEq this ?_)
      rw [List.append_assoc]
      rfl
theorem rsplit_ev (s : ByteArray) (h : s.size ≤ 1000000000) : Ev (fun k => lockkeeperref1_Split.f k s) (splitS s) := by
  have := rsplit_l0 s h s.data.toList [] [] [] rfl (by simp) (by simp)
  simpa [lockkeeperref1_Split.f, splitS] using this

/-! ### ref1.Join -/
theorem joinL_snoc (sep : Bs) : ∀ (m : List Bs) (x : Bs), Lib.join (m ++ [x]) sep = if m = [] then x else Lib.join m sep ++ sep ++ x := by
  intro m
  induction m with
  | nil => intro x; simp [Lib.join, List.intercalate, List.intersperse]
  | cons a m ih =>
    intro x
    cases m with
    | nil => simp [Lib.join, List.intercalate, List.intersperse]
    | cons b m =>
      have := ih x
      simp only [Lib.join, List.intercalate, List.cons_append, List.intersperse, List.flatten_cons, List.append_assoc] at this ⊢
      simp only [reduceCtorEq, if_false] at this ⊢
      rw [this]
theorem joinS_snoc (m : List ByteArray) (x : ByteArray) : joinS (m ++ [x]) = if m = [] then x else joinS m ++ (⟨#[44, 32]⟩ : ByteArray) ++ x := by
  unfold joinS joinB
  rw [List.map_append, List.map_singleton, joinL_snoc]
  by_cases h : m = []
  · subst h; simp [bsOf_of]
  · rw [if_neg h, if_neg (by simpa using h)]
    apply ba_ext
    rw [append_list, append_list, bsOf_data, bsOf_data]
theorem rjoin_l0 (l : List ByteArray) (n : Nat) (hl : l.length ≤ 1000000) (hn : n ≤ 1000000) (hs : ∀ x ∈ l, x.size ≤ n) : ∀ (d i : Nat), i + d = l.length → Ev (fun k => lockkeeperref1_Join.l0 k l (joinS (l.take i)) (i : Int)) (joinS l) := by
  intro d
  induction d with
  | zero =>
    intro i hi
    refine evSucc ?_
    simp only [lockkeeperref1_Join.l0]
    refine evNeg (by omega) (evEq (Ev.now _) ?_)
    rw [List.take_of_length_le (by omega)]
  | succ d ih =>
    intro i hi
    have hlt : i < l.length := by omega
    have e2 : wrap64 ((i : Int) + 1) = ((i + 1 : Nat) : Int) := by unfold wrap64; omega
    have hx := hs _ (List.getElem_mem hlt)
    have hj := os_join_size (l.take i) n (fun x hx => hs x (List.mem_of_mem_take hx))
    have hj2 : (l.take i).length * (n + 2) ≤ 1000000 * (1000000 + 2) := Nat.mul_le_mul (by rw [List.length_take]; omega) (by omega)
    have ih' := ih (i + 1) (by omega)
    rw [List.take_succ_eq_append_getElem hlt, joinS_snoc] at ih'
    refine evSucc ?_
    simp only [lockkeeperref1_Join.l0, e2]
    rw [rdOf_get _ _ hlt]
    refine evPos (by omega) ?_
    by_cases h0 : i = 0
    · subst h0
      rw [List.take_zero, if_pos rfl] at ih'
      refine evNeg (by omega) (evPos (by omega) (evPos ?_ (evEq ih' rfl)))
      · have : (joinS (l.take 0)).size = 0 := by rw [List.take_zero]; rfl
        omega
    · have hne : ¬ l.take i = [] := by
        intro e
        have := congrArg List.length e
        rw [List.length_take, List.length_nil] at this
        omega
      rw [if_neg hne] at ih'
      have hc : (joinS (l.take i) ++ (⟨#[44, 32]⟩ : ByteArray)).size = (joinS (l.take i)).size + 2 := by rw [ByteArray.size_append]; rfl
      refine evPos (by omega) (evPos (by omega) (evPos (by omega) (evPos (by rw [hc]; omega) ih')))
theorem rjoin_ev (l : List ByteArray) (n : Nat) (hl : l.length ≤ 1000000) (hn : n ≤ 1000000) (hs : ∀ x ∈ l, x.size ≤ n) : Ev (fun k => lockkeeperref1_Join.f k l) (joinS l) :=
  rjoin_l0 l n hl hn hs l.length 0 (by omega)
end Go.Proofs.YtojcceafgkdchaaDoor.Pr
