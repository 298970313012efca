/- The printed law OctetSplits tells true for every row of texts (of the form's own reach). -/
import Derived.Test.YtojcceafgkdchaaDoorD3
import Derived.Test.YtojcceafgkdchaaDoorPr13
import Derived.Test.YtojcceafgkdchaaDoorPr9
namespace Go.Proofs.YtojcceafgkdchaaDoor.Pure
open Go.RowKit Go.Proofs.YtojcceafgkdchaaDoor.Pr Go.Proofs.YtojcceafgkdchaaDoorW.PrintWords Go.Proofs.YtojcceafgkdchaaDoorW.PrintLast
set_option linter.unusedVariables false
set_option linter.unusedSimpArgs false

theorem in_l0 (s : ByteArray) (c : UInt8) (hs : s.size ≤ 4611686018427387904) (r : Bs) : ∀ p : Bs, s.data.toList = p ++ r → Ev (fun k => lockkeeperref1_In.l0 k (c.toNat : Int) s (p.length : Int)) (r.contains c) := by
  induction r with
  | nil =>
    intro p hp
    have hl : s.size = p.length := by rw [size_len, hp]; simp
    refine evSucc ?_
    simp only [lockkeeperref1_In.l0]
    exact evNeg (by omega) (Ev.now _)
  | cons b r ih =>
    intro p hp
    have hl : s.size = p.length + (r.length + 1) := by rw [size_len, hp]; simp
    have hb := bt_mid s p b r hp
    have e2 : wrap64 ((p.length : Int) + 1) = ((p ++ [b]).length : Int) := by simp; unfold wrap64; omega
    refine evSucc ?_
    simp only [lockkeeperref1_In.l0, hb, e2]
    refine evPos (by omega) (evPos (by omega) ?_)
    rw [List.contains_cons]
    by_cases h : b = c
    · subst h
      exact evPos rfl (evEq (Ev.now _) (by simp))
    · have hn : ¬ (b.toNat : Int) = (c.toNat : Int) := fun e => h (UInt8.toNat_inj.1 (by omega))
      have hc : (c == b) = false := by simpa using fun e => h e.symm
      refine evNeg hn (evEq (ih (p ++ [b]) (by simpa using hp)) ?_)
      rw [hc, Bool.false_or]
theorem in_ev (s : ByteArray) (c : UInt8) (hs : s.size ≤ 4611686018427387904) : Ev (fun k => lockkeeperref1_In.f k (c.toNat : Int) s) (s.data.toList.contains c) := in_l0 s c hs s.data.toList [] rfl
theorem trimL_space (x : Bs) : trimL (32 :: x) = trimL x := by
  unfold trimL
  rw [show (32 :: x).dropWhile isBl = x.dropWhile isBl by simp [show isBl 32 = true by decide]]
theorem keepT_cons (x : Bs) (xs : List Bs) : keepT (x :: xs) = keepT [x] ++ keepT xs := keepT_append [x] xs
theorem keepT_space (m : Bs) : keepT (splitC 44 (32 :: m)) = keepT (splitC 44 m) := by
  rw [splitC, if_neg (by decide)]
  cases h : splitC 44 m with
  | nil => exact absurd h (splitC_ne 44 m)
  | cons x xs =>
    rw [keepT_cons (32 :: x), keepT_cons x]
    unfold keepT
    simp only [List.map_cons, List.map_nil, trimL_space]
theorem join_split (xs : List Bs) (h : ∀ x ∈ xs, (44 : UInt8) ∉ x) : keepT (splitC 44 (Lib.join xs [44, 32])) = keepT xs := by
  induction xs with
  | nil => rfl
  | cons a xs ih =>
    have ha := h a (by simp)
    cases xs with
    | nil =>
      have : Lib.join [a] [44, 32] = a := by simp [Lib.join, List.intercalate, List.intersperse]
      rw [this, splitC_not 44 a ha]
    | cons b xs =>
      have hi := ih (fun x hx => h x (by simp [hx]))
      have : Lib.join (a :: b :: xs) [44, 32] = a ++ 44 :: (32 :: Lib.join (b :: xs) [44, 32]) := by simp [Lib.join, List.intercalate, List.intersperse]
      rw [this, splitC_at 44 a _ ha, keepT_cons, keepT_space, hi, ← keepT_cons]
theorem longS_len : ∀ (l : List ByteArray) (n : Int), longS n l = false → 0 ≤ n → (l.length : Int) ≤ n := by
  intro l
  induction l with
  | nil => intro n _ h; simpa using h
  | cons a r ih =>
    intro n h hn
    rw [longS] at h
    by_cases ha : (a.size : Int) ≥ n
    · rw [if_pos ha] at h; cases h
    · rw [if_neg ha] at h
      have := ih _ h (by omega)
      simp
      omega
theorem os_join_size (l : List ByteArray) (n : Nat) (h : ∀ s ∈ l, s.size ≤ n) : (joinS l).size ≤ l.length * (n + 2) := by
  unfold joinS joinB
  rw [size_bsOf]
  cases l with
  | nil => simp [Lib.join]
  | cons a r =>
    have hj := Lib.join_length a.data.toList (r.map (·.data.toList)) [44, 32]
    rw [List.map_cons, hj]
    have key : ∀ m : List ByteArray, (∀ s ∈ m, s.size ≤ n) → Lib.lens (m.map (·.data.toList)) ≤ m.length * n := by
      intro m
      induction m with
      | nil => intro _; simp [Lib.lens]
      | cons b m ih =>
        intro hm
        have h1 := hm b (by simp)
        have h2 := ih (fun s hs => hm s (by simp [hs]))
        rw [size_len] at h1
        simp only [Lib.lens, List.map_cons, List.sum_cons, List.length_cons] at h2 ⊢
        rw [Nat.add_mul]
        omega
    have hk := key (a :: r) h
    simp only [List.length_map, List.length_cons, List.length_nil, List.map_cons] at hk ⊢
    rw [Nat.mul_add]
    omega

theorem OctetSplits_l0 (l : List ByteArray) (hl : l.length ≤ 2000) (hs : ∀ x ∈ l, x.size < 2000) : ∀ n i, i + n = l.length → (∀ x ∈ l.take i, (44 : UInt8) ∉ x.data.toList) →
    Ev (fun k => lockkeeperlaw1_OctetSplits.l0 k l (keepT ((l.take i).map (·.data.toList))) (i : Int)) true := by
  intro n
  induction n with
  | zero =>
    intro i hi hno
    rw [List.take_of_length_le (by omega)] at hno ⊢
    have hj := os_join_size l 2000 (fun x hx => by have := hs x hx; omega)
    have hj2 : l.length * (2000 + 2) ≤ 2000 * (2000 + 2) := Nat.mul_le_mul_right _ hl
    have hk := keepT_length (l.map (·.data.toList))
    rw [List.length_map] at hk
    refine evSucc ?_
    simp only [lockkeeperlaw1_OctetSplits.l0]
    have e : splitS (joinS l) = keepT (l.map (·.data.toList)) := by
      unfold splitS joinS joinB
      rw [bsOf_data]
      refine join_split _ fun x hx => ?_
      obtain ⟨y, hy, rfl⟩ := List.mem_map.1 hx
      exact hno y hy
    exact evNeg (by omega) (evBind (join_f l (by omega) (by omega)) (Ev.bind (evEq (osplit_ev _ (by omega)) e) (Ev.bind (texts_refl _ (by omega)) (evPos rfl (Ev.bind awake1_ev (Ev.now _))))))
  | succ n ih =>
    intro i hi hno
    have hlt : i < l.length := by omega
    have hsz := hs _ (List.getElem_mem hlt)
    have e2 : wrap64 ((i : Int) + 1) = ((i + 1 : Nat) : Int) := by unfold wrap64; omega
    have hk := keepT_length ((l.take i).map (·.data.toList))
    rw [List.length_map, List.length_take] at hk
    refine evSucc ?_
    simp only [lockkeeperlaw1_OctetSplits.l0, e2]
    rw [rdOf_get _ _ hlt]
    refine evPos (by omega) (evPos (by omega) (Ev.bind (in_ev l[i] 44 (by omega)) ?_))
    cases hc : l[i].data.toList.contains 44 with
    | true => exact evPos rfl (Ev.bind awake1_ev (Ev.now _))
    | false =>
      have hni : (44 : UInt8) ∉ l[i].data.toList := by simpa using hc
      have ih' := ih (i + 1) (by omega) (by
        rw [List.take_succ_eq_append_getElem hlt]
        intro x hx
        rcases List.mem_append.1 hx with hx | hx
        · exact hno x hx
        · rw [List.mem_singleton.1 hx]; exact hni)
      rw [List.take_succ_eq_append_getElem hlt, List.map_append, keepT_append] at ih'
      refine evNeg (by decide) (Ev.bind (trim_ev _ (by omega)) ?_)
      rw [tl]
      by_cases hz : (trimS l[i]).data.toList = []
      · refine evPos hz ?_
        have : keepT (([l[i]] : List ByteArray).map (·.data.toList)) = [] := by
          have hz' : trimL l[i].data.toList = [] := hz
          simp [keepT, hz']
        rw [this, List.append_nil] at ih'
        exact ih'
      · refine evNeg hz (evPos (by omega) ?_)
        have : keepT (([l[i]] : List ByteArray).map (·.data.toList)) = [trimS l[i]] := by
          have hz' : ¬ trimL l[i].data.toList = [] := hz
          simp [keepT, hz', trimS]
        rw [this] at ih'
        exact ih'
theorem long_l0' (r : List ByteArray) : ∀ (p : List ByteArray) (n : Int), 0 ≤ n → (p.length : Int) + n ≤ 4611686018427387904 → Ev (fun k => lockkeeperlaw0_Long.l0 k n (p ++ r) (p.length : Int)) (longS n r) := by
  induction r with
  | nil =>
    intro p n _ _
    refine Ev.step (f := fun _ => some false) (fun k => ?_) (Ev.now _)
    simp only [lockkeeperlaw0_Long.l0]
    rw [if_neg (by simp)]
  | cons s r ih =>
    intro p n h0 hn
    have hr : rdOf ByteArray.empty (p ++ s :: r) (p.length : Int) = s := by simp [rdOf, List.getD_eq_getElem?_getD]
    have hlen : (p ++ s :: r).length = p.length + (r.length + 1) := by simp
    by_cases h : (s.size : Int) ≥ n
    · refine Ev.step (f := fun _ => some true) (fun k => ?_) (by rw [longS, if_pos h]; exact Ev.now _)
      simp only [lockkeeperlaw0_Long.l0]
      rw [if_pos (by omega), if_pos (by omega), hr, if_pos h]
    · refine Ev.step (f := fun k => lockkeeperlaw0_Long.l0 k (n - s.size - 1) ((p ++ [s]) ++ r) ((p ++ [s]).length : Int)) (fun k => ?_) ?_
      · simp only [lockkeeperlaw0_Long.l0]
        rw [if_pos (by omega), if_pos (by omega), hr, if_neg h]
        have e1 : wrap64 (wrap64 (n - (s.size : Int)) - 1) = n - s.size - 1 := by unfold wrap64; omega
        have e2 : wrap64 ((p.length : Int) + 1) = ((p ++ [s]).length : Int) := by simp; unfold wrap64; omega
        rw [e1, e2]
        simp
      · rw [longS, if_neg h]
        exact ih (p ++ [s]) _ (by omega) (by simp; omega)
theorem long_any (n : Int) (l : List ByteArray) (h0 : 0 ≤ n) (hn : n ≤ 4611686018427387904) : Ev (fun k => lockkeeperlaw0_Long.f k n l) (longS n l) := by
  have := long_l0' l [] n h0 (by simpa using hn)
  simpa [lockkeeperlaw0_Long.f] using this
theorem OctetSplits : ∀ (l0 : List (ByteArray)), (l0.length ≤ maxLen ∧ ∀ x_ ∈ l0, x_.size ≤ maxLen) → ∃ k, lockkeeperlaw1_OctetSplits.f k l0 = some true := by
  intro l hb
  refine Ev.rounds (g := fun k => lockkeeperlaw1_OctetSplits.f k l) ?_
  unfold lockkeeperlaw1_OctetSplits.f
  refine Ev.bind (long_any 2000 l (by omega) (by omega)) ?_
  cases hL : longS 2000 l with
  | true => exact evPos rfl (Ev.bind awake1_ev (Ev.now _))
  | false =>
    have s1 := longS_size _ _ hL
    have s2 := longS_len _ _ hL (by omega)
    refine evNeg (by decide) ?_
    have := OctetSplits_l0 l (by omega) (fun x hx => by have := s1 x hx; omega) l.length 0 (by omega) (by simp)
    simpa [keepT] using this
end Go.Proofs.YtojcceafgkdchaaDoor.Pure
