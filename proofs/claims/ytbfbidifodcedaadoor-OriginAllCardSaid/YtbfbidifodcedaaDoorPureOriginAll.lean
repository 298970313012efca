/- The printed law OriginAll tells true for every text and every origin (of the form's own reach). -/
import Derived.Test.YtbfbidifodcedaaDoorB3
import Derived.Test.YtbfbidifodcedaaDoorR1
import Derived.Test.YtbfbidifodcedaaDoorPr17
import Derived.Test.YtbfbidifodcedaaDoorPr14
import Derived.Test.YtbfbidifodcedaaDoorPr16
import Derived.Test.YtbfbidifodcedaaDoorPr15
namespace Go.Proofs.YtbfbidifodcedaaDoor.Pure
open Go.RowKit Go.Proofs.YtbfbidifodcedaaDoor.Pr Go.Proofs.YtbfbidifodcedaaDoorW.PrintWords Go.Proofs.YtbfbidifodcedaaDoorW.PrintLast
set_option linter.unusedVariables false
set_option linter.unusedSimpArgs false

theorem def3_f (s : ByteArray) : lockkeeperref3_Default.f s = some (defP s) := by
  unfold lockkeeperref3_Default.f defP
  split
  · rfl
  · split <;> rfl

/-! ### hosts -/
theorem bt_sub (s : ByteArray) (p q r : Bs) (hs : s.data.toList = p ++ (q ++ r)) (j : Nat) (hj : j < q.length) : bt s ((p.length + j : Nat) : Int) = bt (bsOf q) (j : Int) := by
  have hl : s.size = p.length + (q.length + r.length) := by rw [size_len, hs]; simp
  rw [bt_get s _ (by omega), bt_get (bsOf q) j (by rw [size_bsOf]; exact hj), hs, bsOf_data]
  congr 2
  simp [List.getD_eq_getElem?_getD, List.getElem?_append_right, List.getElem?_append_left, hj]
theorem labC46 : labC 46 = false := by decide
def hostV (q r : Bs) : Bool := match splitC 46 r with
  | [] => true
  | x :: xs => labB (bsOf (q ++ x)) && (xs.map bsOf).all labB
theorem hostV_dot (q r : Bs) : hostV q (46 :: r) = (labB (bsOf q) && hostV [] r) := by
  unfold hostV
  rw [splitC, if_pos rfl]
  cases h : splitC 46 r with
  | nil => exact absurd h (splitC_ne 46 r)
  | cons x xs => simp
theorem hostV_cons (q r : Bs) (c : UInt8) (h : c ≠ 46) : hostV q (c :: r) = hostV (q ++ [c]) r := by
  unfold hostV
  rw [splitC, if_neg h]
  cases h : splitC 46 r with
  | nil => exact absurd h (splitC_ne 46 r)
  | cons x xs => simp
theorem labB_bad (q x : Bs) (c : UInt8) (h : labC c = false) : labB (bsOf (q ++ c :: x)) = false := by
  unfold labB
  repeat' split
  all_goals first
    | rfl
    | (rw [bsOf_data, List.all_append, List.all_cons, h]; simp)
theorem hostV_bad (q r : Bs) (c : UInt8) (h46 : c ≠ 46) (h : labC c = false) : hostV q (c :: r) = false := by
  unfold hostV
  rw [splitC, if_neg h46]
  cases hr : splitC 46 r with
  | nil => exact absurd hr (splitC_ne 46 r)
  | cons x xs =>
    dsimp only
    rw [labB_bad q x c h, Bool.false_and]
/-- what is asked at a label's end -/
theorem label_end (s : ByteArray) (p q r : Bs) (hs : s.data.toList = p ++ (q ++ r)) (hq : ∀ c ∈ q, labC c = true) (hz : s.size ≤ 4611686018427387904) (X : Nat → Option Bool) (v : Bool) (hX : Ev X v) :
    Ev (fun k => if (wrap64 (((p.length + q.length : Nat) : Int) - (p.length : Int))) < 1 then (some false) else (if (wrap64 (((p.length + q.length : Nat) : Int) - (p.length : Int))) > 63 then (some false) else (if 0 ≤ (p.length : Int) then (if (p.length : Int) < (s.size : Int) then (if (bt s (p.length : Int)) = 45 then (some false) else (if 0 ≤ (wrap64 (((p.length + q.length : Nat) : Int) - 1)) then (if (wrap64 (((p.length + q.length : Nat) : Int) - 1)) < (s.size : Int) then (if (bt s (wrap64 (((p.length + q.length : Nat) : Int) - 1))) = 45 then (some false) else X k) else (none)) else (none))) else (none)) else (none)))) (labB (bsOf q) && v) := by
  have hl : s.size = p.length + (q.length + r.length) := by rw [size_len, hs]; simp
  have e1 : wrap64 (((p.length + q.length : Nat) : Int) - (p.length : Int)) = (q.length : Int) := by unfold wrap64; omega
  rw [e1]
  have hzq : (bsOf q).size = q.length := size_bsOf q
  unfold labB
  rw [hzq]
  by_cases h1 : (q.length : Int) < 1
  · rw [if_pos h1]; exact evPos h1 (Ev.now _)
  · rw [if_neg h1]
    refine evNeg h1 ?_
    by_cases h2 : (q.length : Int) > 63
    · rw [if_pos h2]; exact evPos h2 (Ev.now _)
    · rw [if_neg h2]
      have e2 : wrap64 (((p.length + q.length : Nat) : Int) - 1) = ((p.length + (q.length - 1) : Nat) : Int) := by unfold wrap64; omega
      have b0 := bt_sub s p q r hs 0 (by omega)
      have b1 := bt_sub s p q r hs (q.length - 1) (by omega)
      rw [Nat.add_zero] at b0
      rw [e2, b0, b1]
      refine evNeg h2 (evPos (by omega) (evPos (by omega) ?_))
      rw [show ((0 : Nat) : Int) = 0 from rfl]
      by_cases h3 : bt (bsOf q) 0 = 45
      · rw [if_pos h3]; exact evPos h3 (Ev.now _)
      · rw [if_neg h3]
        refine evNeg h3 (evPos (by omega) (evPos (by omega) ?_))
        by_cases h4 : bt (bsOf q) ((q.length - 1 : Nat) : Int) = 45
        · rw [if_pos h4]; exact evPos h4 (Ev.now _)
        · rw [if_neg h4]
          refine evNeg h4 (evEq hX ?_)
          rw [bsOf_data, List.all_eq_true.2 hq, Bool.true_and]
theorem host3_l0 (s : ByteArray) (hz : s.size ≤ 4611686018427387904) : ∀ (r p q : Bs), s.data.toList = p ++ (q ++ r) → (∀ c ∈ q, labC c = true) →
    Ev (fun k => lockkeeperref3_host.l0 k s (p.length : Int) ((p.length + q.length : Nat) : Int)) (hostV q r) := by
  intro r
  induction r with
  | nil =>
    intro p q hs hq
    have hl : s.size = p.length + q.length := by rw [size_len, hs]; simp
    have e : hostV q [] = (labB (bsOf q) && true) := by unfold hostV; simp [splitC]
    rw [e]
    refine evSucc ?_
    simp only [lockkeeperref3_host.l0]
    refine evPos (by omega) (evNeg (by omega) (evSucc ?_))
    simp only [lockkeeperref3_host.j1, Bool.false_eq_true, if_false]
    refine label_end s p q [] hs hq hz (fun k => lockkeeperref3_host.l0 k s (wrap64 (((p.length + q.length : Nat) : Int) + 1)) (wrap64 (((p.length + q.length : Nat) : Int) + 1))) true ?_
    have e2 : wrap64 (((p.length + q.length : Nat) : Int) + 1) = ((p.length + q.length + 1 : Nat) : Int) := by unfold wrap64; omega
    rw [e2]
    refine evSucc ?_
    simp only [lockkeeperref3_host.l0]
    exact evNeg (by omega) (Ev.now _)
  | cons c r ih =>
    intro p q hs hq
    have hl : s.size = p.length + (q.length + (r.length + 1)) := by rw [size_len, hs]; simp
    have hb : bt s ((p.length + q.length : Nat) : Int) = (c.toNat : Int) := by
      have := bt_mid s (p ++ q) c r (by rw [hs]; simp)
      rw [List.length_append] at this
      exact this
    have e2 : wrap64 (((p.length + q.length : Nat) : Int) + 1) = ((p.length + q.length + 1 : Nat) : Int) := by unfold wrap64; omega
    refine evSucc ?_
    simp only [lockkeeperref3_host.l0, hb]
    refine evPos (by omega) (evPos (by omega) (evPos (by omega) ?_))
    by_cases h46 : c = 46
    · subst h46
      rw [hostV_dot]
      refine evSucc ?_
      simp only [lockkeeperref3_host.j1]
      refine evNeg (by decide) ?_
      refine label_end s p q (46 :: r) hs hq hz (fun k => lockkeeperref3_host.l0 k s (wrap64 (((p.length + q.length : Nat) : Int) + 1)) (wrap64 (((p.length + q.length : Nat) : Int) + 1))) (hostV [] r) ?_
      rw [e2]
      have := ih (p ++ (q ++ [46])) [] (by rw [hs]; simp) (by intro d hd; cases hd)
      simp only [List.length_append, List.length_cons, List.length_nil, Nat.add_zero, Nat.zero_add] at this
      rw [show p.length + q.length + 1 = p.length + (q.length + 1) by omega]
      exact this
    · have hn : ((c.toNat : Int) != 46) = true := by
        rw [bne_iff_ne]
        intro e
        refine h46 (UInt8.toNat_inj.1 ?_)
        have : (46 : UInt8).toNat = 46 := rfl
        omega
      rw [hn]
      have j2t : labC c = false → Ev (fun k => lockkeeperref3_host.j2 k s (p.length : Int) ((p.length + q.length : Nat) : Int) true) (hostV q (c :: r)) := fun h => by
        rw [hostV_bad q r c h46 h]
        refine evSucc ?_
        simp only [lockkeeperref3_host.j2, if_true]
        exact Ev.now _
      have j2f : labC c = true → Ev (fun k => lockkeeperref3_host.j2 k s (p.length : Int) ((p.length + q.length : Nat) : Int) false) (hostV q (c :: r)) := fun h => by
        rw [hostV_cons q r c h46]
        refine evSucc ?_
        simp only [lockkeeperref3_host.j2, Bool.false_eq_true, if_false, e2]
        have := ih p (q ++ [c]) (by rw [hs]; simp) (by
          intro d hd
          rcases List.mem_append.1 hd with hd | hd
          · exact hq d hd
          · rw [List.mem_singleton.1 hd]; exact h)
        rw [List.length_append, List.length_singleton] at this
        rw [show p.length + q.length + 1 = p.length + (q.length + 1) by omega]
        exact this
      refine evSucc ?_
      simp only [lockkeeperref3_host.j1, hb, if_true]
      refine evPos (by omega) (evPos (by omega) ?_)
      by_cases h45 : (c.toNat : Int) = 45
      · exact evPos h45 (j2f (by unfold labC; exact decide_eq_true (by omega)))
      · refine evNeg h45 ?_
        by_cases h97 : (c.toNat : Int) < 97
        · refine evPos h97 ?_
          by_cases h48 : (c.toNat : Int) < 48
          · exact evPos h48 (j2t (by unfold labC; exact decide_eq_false (by omega)))
          · refine evNeg h48 ?_
            by_cases h57 : (c.toNat : Int) > 57
            · rw [decide_eq_true h57]; exact j2t (by unfold labC; exact decide_eq_false (by omega))
            · rw [decide_eq_false h57]; exact j2f (by unfold labC; exact decide_eq_true (by omega))
        · refine evNeg h97 ?_
          by_cases h122 : (c.toNat : Int) > 122
          · refine evPos h122 (evNeg (by omega) ?_)
            rw [decide_eq_true (show (c.toNat : Int) > 57 by omega)]
            exact j2t (by unfold labC; exact decide_eq_false (by omega))
          · exact evNeg h122 (j2f (by unfold labC; exact decide_eq_true (by omega)))
theorem host3_ev (s : ByteArray) (hs : s.size ≤ 100000) : Ev (fun k => lockkeeperref3_host.f k s) (hostB s) := by
  unfold lockkeeperref3_host.f hostB
  refine evIte (fun _ => Ev.now _) fun h => evEq (host3_l0 s (by omega) s.data.toList [] [] rfl (by intro c hc; cases hc)) ?_
  unfold hostV
  cases h : splitC 46 s.data.toList with
  | nil => exact absurd h (splitC_ne 46 _)
  | cons x xs => simp
theorem chk3_ev (a b : ByteArray) (p : Int) (hb : b.size ≤ 100000) : Ev (fun k => lockkeeperref3_Check.f k a b p) (chkS a b p) := by
  unfold lockkeeperref3_Check.f chkS
  exact evBind (def3_f a) (evIte (fun _ => Ev.now _) fun _ => Ev.bind (host3_ev b hb) (evIte (fun _ => evIte (fun _ => Ev.now _) fun _ => Ev.now _) fun _ => Ev.now _))

/-! ### Show, Key -/
theorem u64w (n : Nat) (h : n < 18446744073709551616) : IntKind.u64.wrap (n : Int) = (n : Int) := u64_wrap n h
theorem key3_ev (a b : ByteArray) (p : Int) (ha : a.size ≤ 100000) (hb : b.size ≤ 100000) : Ev (fun k => lockkeeperref3_Key.f k a b p) (keyS a b p) := by
  unfold lockkeeperref3_Key.f keyS
  refine Ev.bind (chk3_ev a b p hb) (evIte (fun h => ?_) fun _ => Ev.now _)
  obtain ⟨p1, p2⟩ := chk_port h
  obtain ⟨n, rfl⟩ := Int.eq_ofNat_of_zero_le (show 0 ≤ p by omega)
  have z1 : (a ++ sSep).size = a.size + 3 := by rw [ByteArray.size_append]; rfl
  have z2 : (a ++ sSep ++ b).size = a.size + 3 + b.size := by rw [ByteArray.size_append, z1]
  have z3 : (a ++ sSep ++ b ++ sCol).size = a.size + 3 + b.size + 1 := by rw [ByteArray.size_append, z2]; rfl
  have hl := numL_length 19 n (by omega)
  have z4 : (bsOf (numL n)).size = (numL n).length := size_bsOf _
  rw [u64w n (by omega)]
  refine evPos (by omega) (evPos (by show (a ++ sSep).size + b.size ≤ _; omega) (evPos (by show (a ++ sSep ++ b).size + 1 ≤ _; omega) (Ev.bind (num_ev n (by omega)) (evPos (by show (a ++ sSep ++ b ++ sCol).size + _ ≤ _; omega) (Ev.now _)))))
theorem show3_ev (a b : ByteArray) (p : Int) (ha : a.size ≤ 100000) (hb : b.size ≤ 100000) : Ev (fun k => lockkeeperref3_Show.f k a b p) (showS a b p) := by
  unfold lockkeeperref3_Show.f showS
  have z1 : (a ++ sSep).size = a.size + 3 := by rw [ByteArray.size_append]; rfl
  have z2 : (a ++ sSep ++ b).size = a.size + 3 + b.size := by rw [ByteArray.size_append, z1]
  have z3 : (a ++ sSep ++ b ++ sCol).size = a.size + 3 + b.size + 1 := by rw [ByteArray.size_append, z2]; rfl
  refine Ev.bind (chk3_ev a b p hb) (evIte (fun h => ?_) fun hn => evEq (Ev.now _) ?_)
  · obtain ⟨p1, p2⟩ := chk_port h
    obtain ⟨n, rfl⟩ := Int.eq_ofNat_of_zero_le (show 0 ≤ p by omega)
    have hl := numL_length 19 n (by omega)
    have z4 : (bsOf (numL n)).size = (numL n).length := size_bsOf _
    rw [u64w n (by omega)]
    refine evPos (by omega) (evPos (by show (a ++ sSep).size + b.size ≤ _; omega) (evBind (def3_f a) (evIte (fun _ => Ev.now _) fun _ => evEq (evPos (by show (a ++ sSep ++ b).size + 1 ≤ _; omega) (Ev.bind (num_ev n (by omega)) (evPos (by show (a ++ sSep ++ b ++ sCol).size + _ ≤ _; omega) (Ev.now _)))) ?_)))
    unfold keyS
    rw [if_pos h]
    rfl
  · unfold keyS
    rw [if_neg hn]

/-! ### Count -/
theorem digStep_lt (n : Int) (c : UInt8) : digStep n c < 18446744073709551616 := by
  unfold digStep
  split
  · omega
  · rw [show ∀ x : Int, IntKind.u64.wrap x = x % 18446744073709551616 from fun x => by simp [IntKind.wrap, IntKind.bits, IntKind.signed]]
    omega
theorem digGo_lt (l : Bs) : ∀ n v, n < 18446744073709551616 → digGo n l = some v → v < 18446744073709551616 := by
  induction l with
  | nil => intro n v h0 h; rw [digGo] at h; injection h with h; omega
  | cons c l ih =>
    intro n v h0 h
    rw [digGo] at h
    split at h
    · exact ih _ v (digStep_lt n c) h
    · cases h
theorem digS_lt (s : ByteArray) : (digS s).1 < 18446744073709551616 := by
  unfold digS
  cases h : digGo 0 s.data.toList with
  | none => simp
  | some v => exact digGo_lt _ 0 v (by omega) h
def countS (t : ByteArray) (m : Int) : Int × Bool := if (digS t).2 = true then (if (t.size : Int) > 20 then (0, false) else if (bsOf (numL (digS t).1.toNat)).toList = t.toList then (if (digS t).1 > m then (0, false) else ((digS t).1, true)) else (0, false)) else (0, false)
theorem count_ev (t : ByteArray) (m : Int) (ht : t.size ≤ 100000) : Ev (fun k => lockkeeperref1_Count.f k t m) (countS t m) := by
  unfold lockkeeperref1_Count.f countS
  have h0 := digS_nonneg t
  have h1 := digS_lt t
  refine Ev.bind (rdig_ev t (by omega)) (evIte (fun _ => evIte (fun _ => Ev.now _) fun _ => ?_) fun _ => Ev.now _)
  have hn := num_ev (digS t).1.toNat (by omega)
  rw [Int.toNat_of_nonneg h0] at hn
  exact Ev.bind hn (evIte (fun _ => evIte (fun _ => Ev.now _) fun _ => Ev.now _) fun _ => Ev.now _)
theorem low_dig_all : ∀ n : Fin 256, isDig (lowC (UInt8.ofNat n.val)) = isDig (UInt8.ofNat n.val) ∧ (isDig (UInt8.ofNat n.val) = true → lowC (UInt8.ofNat n.val) = UInt8.ofNat n.val) := by decide +kernel
theorem low_dig (c : UInt8) : isDig (lowC c) = isDig c ∧ (isDig c = true → lowC c = c) := by
  have := low_dig_all ⟨c.toNat, c.toNat_lt⟩
  simpa using this
theorem digGo_low (l : Bs) : ∀ n, digGo n (lowL l) = digGo n l ∧ (∀ v, digGo n l = some v → lowL l = l) := by
  induction l with
  | nil => intro n; exact ⟨rfl, fun _ _ => rfl⟩
  | cons c l ih =>
    intro n
    obtain ⟨h1, h2⟩ := low_dig c
    show digGo n (lowC c :: lowL l) = digGo n (c :: l) ∧ (∀ v, digGo n (c :: l) = some v → lowC c :: lowL l = c :: l)
    rw [digGo, digGo, h1]
    cases hc : isDig c with
    | false => exact ⟨rfl, fun v h => by cases h⟩
    | true =>
      rw [h2 hc]
      simp only [if_true]
      exact ⟨(ih _).1, fun v h => by rw [(ih _).2 v h]⟩
theorem digS_low (t : ByteArray) : digS (lowB t) = digS t ∧ ((digS t).2 = true → lowB t = t) := by
  have h := digGo_low t.data.toList 0
  constructor
  · unfold digS
    rw [lowB_data, h.1]
    cases digGo 0 t.data.toList with
    | none => rfl
    | some v => cases t.data.toList <;> rfl
  · intro hd
    unfold digS at hd
    cases hg : digGo 0 t.data.toList with
    | none => rw [hg] at hd; cases hd
    | some v => exact ba_ext (by rw [lowB_data]; exact h.2 v hg)
theorem dig_char (c : UInt8) (h : isDig c = true) : ∃ d : Nat, d < 10 ∧ c = UInt8.ofNat (48 + d) := by
  unfold isDig at h
  simp at h
  refine ⟨c.toNat - 48, by omega, UInt8.toNat_inj.1 ?_⟩
  rw [num_char _ (by omega)]
  omega
theorem rev_rec {P : Bs → Prop} (h0 : P []) (h1 : ∀ xs c, P xs → P (xs ++ [c])) (l : Bs) : P l := by
  have : ∀ l : Bs, P l.reverse := by
    intro l
    induction l with
    | nil => exact h0
    | cons c l ih => rw [List.reverse_cons]; exact h1 _ c ih
  simpa using this l.reverse
theorem canon (xs : Bs) : ∀ v, xs.length ≤ 5 → (∀ c l, xs = c :: l → c ≠ 48) → xs ≠ [] → digGo 0 xs = some v → ∃ n : Nat, v = (n : Int) ∧ numL n = xs ∧ 1 ≤ n ∧ n < 10 ^ xs.length := by
  induction xs using rev_rec with
  | h0 => intro v _ _ h _; exact absurd rfl h
  | h1 xs c ih =>
    intro v hl hh _ hg
    rw [digGo_append] at hg
    rw [List.length_append, List.length_singleton] at hl
    cases xs with
    | nil =>
      rw [digGo] at hg
      simp only [Option.bind_some] at hg
      split at hg
      case isFalse => cases hg
      rename_i hc
      obtain ⟨d, hd, rfl⟩ := dig_char c hc
      have := digStep_num 0 d hd (by omega)
      rw [show ((0 : Nat) : Int) = 0 from rfl] at this
      rw [this] at hg
      injection hg with hg
      refine ⟨0 * 10 + d, hg.symm, ?_, ?_, ?_⟩
      · rw [show 0 * 10 + d = d by omega, numL_small (by omega)]; rfl
      · rcases Nat.eq_zero_or_pos d with rfl | h
        · exact absurd rfl (hh _ [] rfl)
        · omega
      · simp; omega
    | cons x xs =>
      cases hv : digGo 0 (x :: xs) with
      | none => rw [hv] at hg; cases hg
      | some w =>
        obtain ⟨n, rfl, hn, h1, hlt⟩ := ih w (by omega) (fun c' l' e => hh c' (l' ++ [c]) (by rw [e]; rfl)) (by simp) hv
        rw [hv] at hg
        simp only [Option.bind_some] at hg
        split at hg
        case isFalse => cases hg
        rename_i hc
        obtain ⟨d, hd, rfl⟩ := dig_char c hc
        have hb : n < 100000 := by
          have : 10 ^ (x :: xs).length ≤ 10 ^ 5 := Nat.pow_le_pow_right (by omega) (by simp at hl ⊢; omega)
          omega
        rw [digStep_num n d hd (by omega)] at hg
        injection hg with hg
        refine ⟨n * 10 + d, hg.symm, ?_, by omega, ?_⟩
        · rw [numL_great (by omega), show (n * 10 + d) / 10 = n by omega, hn, show (n * 10 + d) % 10 = d by omega]
        · rw [List.length_append, List.length_singleton, Nat.pow_succ]; omega
theorem portS_bad (z n : Nat) (hn : n < 18446744073709551616) (h : 0 < z ∨ n < 1 ∨ 65535 < n) : portS (bsOf (List.replicate z 48 ++ numL n)) = 0 := by
  have hd : digS (bsOf (List.replicate z 48 ++ numL n)) = ((n : Int), true) := by
    rw [digS_L, bsOf_data]
    exact digL_num z n hn
  unfold portS
  rw [hd, if_pos rfl]
  split
  · rfl
  · split
    · rfl
    · rename_i h48
      rw [if_pos]
      show (n : Int) > 65535
      have key : z = 0 ∧ n ≠ 0 := by
        refine ⟨?_, ?_⟩
        · cases z with
          | zero => rfl
          | succ z =>
            exfalso
            refine h48 ?_
            rw [show (0 : Int) = (([] : Bs).length : Int) from rfl, bt_mid (bsOf (List.replicate (z + 1) 48 ++ numL n)) [] 48 (List.replicate z 48 ++ numL n) (by rw [bsOf_data, List.replicate_succ]; rfl)]
            rfl
        · rintro rfl
          cases z with
          | zero =>
            refine h48 ?_
            have e0 : numL 0 = [48] := by decide +kernel
            rw [e0]
            rfl
          | succ z =>
            refine h48 ?_
            rw [show (0 : Int) = (([] : Bs).length : Int) from rfl, bt_mid (bsOf (List.replicate (z + 1) 48 ++ numL 0)) [] 48 (List.replicate z 48 ++ numL 0) (by rw [bsOf_data, List.replicate_succ]; rfl)]
            rfl
      omega
theorem port_count (t : ByteArray) : portS (lowB t) = if (countS t 65535).2 = true then (if (countS t 65535).1 < 1 then 0 else (countS t 65535).1) else 0 := by
  obtain ⟨e1, e2⟩ := digS_low t
  have h0 := digS_nonneg t
  have h1 := digS_lt t
  by_cases hd : (digS t).2 = true
  · rw [e2 hd]
    unfold countS
    rw [if_pos hd]
    by_cases h20 : (t.size : Int) > 20
    · rw [if_pos h20]
      unfold portS
      rw [if_pos hd, if_pos (by omega)]
      rfl
    · rw [if_neg h20]
      by_cases hc : (bsOf (numL (digS t).1.toNat)).toList = t.toList
      · rw [if_pos hc]
        have et : t = bsOf (numL (digS t).1.toNat) := ((tl_eq _ _).1 hc).symm
        by_cases hm : (digS t).1 > 65535
        · rw [if_pos hm]
          have := portS_bad 0 (digS t).1.toNat (by omega) (.inr (.inr (by omega)))
          rw [List.replicate_zero, List.nil_append, ← et] at this
          rw [this]
          rfl
        · rw [if_neg hm]
          dsimp only
          rw [if_pos rfl]
          by_cases h1 : (digS t).1 < 1
          · rw [if_pos h1]
            have := portS_bad 0 (digS t).1.toNat (by omega) (.inr (.inl (by omega)))
            rw [List.replicate_zero, List.nil_append, ← et] at this
            exact this
          · rw [if_neg h1]
            have := portS_num (digS t).1.toNat (by omega) (by omega)
            rw [← et, Int.toNat_of_nonneg h0] at this
            exact this
      · rw [if_neg hc]
        unfold portS
        rw [if_pos hd]
        by_cases h5 : (t.size : Int) > 5
        · rw [if_pos h5]; rfl
        · rw [if_neg h5]
          by_cases h48 : bt t 0 = 48
          · rw [if_pos h48]; rfl
          · exfalso
            have hz := digS_pos t hd
            have hl := size_len t
            unfold digS at hd hc
            cases hg : digGo 0 t.data.toList with
            | none => rw [hg] at hd; cases hd
            | some v =>
              rw [hg] at hc
              obtain ⟨n, rfl, hn, _, _⟩ := canon t.data.toList v (by omega) (fun c l e e48 => h48 (by
                have := bt_mid t [] c l e
                rw [show ((([] : Bs).length : Nat) : Int) = 0 from rfl] at this
                rw [this, e48]
                rfl)) (by intro e; rw [e] at hl; have : t.size = 0 := hl; omega) hg
              refine hc ?_
              rw [Int.toNat_natCast, hn, bsOf_of]
  · unfold countS portS
    rw [e1, if_neg hd, if_neg hd]
    rfl

/-! ### Parse -/
theorem low_sep_all : ∀ n : Fin 256, (47 == lowC (UInt8.ofNat n.val)) = (47 == UInt8.ofNat n.val) ∧ (58 == lowC (UInt8.ofNat n.val)) = (58 == UInt8.ofNat n.val) := by decide +kernel
theorem low_sep (c : UInt8) : (47 == lowC c) = (47 == c) ∧ (58 == lowC c) = (58 == c) := by
  have := low_sep_all ⟨c.toNat, c.toNat_lt⟩
  simpa using this
theorem pre_low (l : Bs) : (([58, 47, 47] : List UInt8) : Bs).isPrefixOf (lowL l) = (([58, 47, 47] : List UInt8) : Bs).isPrefixOf l := by
  cases l with
  | nil => rfl
  | cons a l =>
    cases l with
    | nil => show ((58 == lowC a) && false) = ((58 == a) && false); simp
    | cons b l =>
      cases l with
      | nil => show ((58 == lowC a) && ((47 == lowC b) && false)) = ((58 == a) && ((47 == b) && false)); simp
      | cons c l =>
        show ((58 == lowC a) && ((47 == lowC b) && ((47 == lowC c) && true))) = ((58 == a) && ((47 == b) && ((47 == c) && true)))
        rw [(low_sep a).2, (low_sep b).1, (low_sep c).1]
theorem index_low (l : Bs) : Lib.index (lowL l) ([58, 47, 47] : List UInt8) = Lib.index l ([58, 47, 47] : List UInt8) := by
  induction l with
  | nil => rfl
  | cons c l ih =>
    have := pre_low (c :: l)
    show Lib.index (lowC c :: lowL l) _ = _
    rw [Lib.index, Lib.index, show (lowC c :: lowL l) = lowL (c :: l) from rfl, this, ih]
theorem index_short (l : Bs) (h : l.length < 3) : Lib.index l ([58, 47, 47] : List UInt8) = -1 := by
  match l, h with
  | [], _ => rfl
  | [a], _ => simp [Lib.index, List.isPrefixOf]
  | [a, b], _ => simp [Lib.index, List.isPrefixOf]
theorem pre_take (l : Bs) (h : 3 ≤ l.length) : ((l.take 3) = ([58, 47, 47] : List UInt8)) ↔ (([58, 47, 47] : List UInt8) : Bs).isPrefixOf l = true := by
  match l, h with
  | a :: b :: c :: l, _ =>
    simp [List.isPrefixOf]
    constructor
    · rintro ⟨rfl, rfl, rfl⟩; exact ⟨rfl, rfl, rfl⟩
    · rintro ⟨rfl, rfl, rfl⟩; exact ⟨rfl, rfl, rfl⟩
theorem behind_l0 (s : ByteArray) (hs : s.size ≤ 1000000) : ∀ (r p : Bs), s.data.toList = p ++ r →
    Ev (fun k => lockkeeperref3_Behind.l0 k s (p.length : Int)) (if Lib.index r ([58, 47, 47] : List UInt8) == -1 then -1 else (p.length : Int) + Lib.index r ([58, 47, 47] : List UInt8)) := by
  intro r
  induction r with
  | nil =>
    intro p hp
    have hl : s.size = p.length := by rw [size_len, hp]; simp
    have e3 : wrap64 ((p.length : Int) + 3) = ((p.length + 3 : Nat) : Int) := by unfold wrap64; omega
    refine evSucc ?_
    simp only [lockkeeperref3_Behind.l0, e3]
    exact evNeg (by omega) (Ev.now _)
  | cons c r ih =>
    intro p hp
    have hl : s.size = p.length + (r.length + 1) := by rw [size_len, hp]; simp
    have e3 : wrap64 ((p.length : Int) + 3) = ((p.length + 3 : Nat) : Int) := by unfold wrap64; omega
    have e1 : wrap64 ((p.length : Int) + 1) = ((p ++ [c]).length : Int) := by simp; unfold wrap64; omega
    refine evSucc ?_
    simp only [lockkeeperref3_Behind.l0, e3, e1]
    by_cases h3 : 3 ≤ r.length + 1
    · have ex : (s.extract ((p.length : Int)).toNat (((p.length + 3 : Nat) : Int)).toNat).toList = (c :: r).take 3 := by
        rw [tl, extract_list, hp, Int.toNat_natCast, Int.toNat_natCast]
        simp [List.take_append, List.drop_append]
      refine evPos (by omega) (evPos (by omega) (evPos (by omega) ?_))
      rw [ex]
      by_cases hpre : (c :: r).take 3 = ([58, 47, 47] : List UInt8)
      · have hq := (pre_take (c :: r) (by simpa using h3)).1 hpre
        refine evPos hpre (evEq (Ev.now _) ?_)
        rw [Lib.index, if_pos hq]
        simp
      · have hq : ¬ (([58, 47, 47] : List UInt8) : Bs).isPrefixOf (c :: r) = true := fun h => hpre ((pre_take (c :: r) (by simpa using h3)).2 h)
        refine evNeg hpre (evEq (ih (p ++ [c]) (by rw [hp]; simp)) ?_)
        rw [Lib.index.eq_2, if_neg hq]
        have hge := Lib.index_ge r ([58, 47, 47] : List UInt8)
        by_cases hi : Lib.index r ([58, 47, 47] : List UInt8) = -1
        · simp [hi]
        · have h1 : (Lib.index r ([58, 47, 47] : List UInt8) == -1) = false := by simpa using hi
          have h2 : (Lib.index r ([58, 47, 47] : List UInt8) + 1 == -1) = false := by
            simp only [beq_eq_false_iff_ne]
            omega
          rw [h1]
          simp only [Bool.false_eq_true, if_false, h2, List.length_append, List.length_singleton]
          omega
    · refine evNeg (by omega) (evEq (Ev.now _) ?_)
      rw [index_short (c :: r) (by simp; omega)]
      rfl
theorem behind_ev (s : ByteArray) (hs : s.size ≤ 1000000) : Ev (fun k => lockkeeperref3_Behind.f k s) (Lib.index s.data.toList ([58, 47, 47] : List UInt8)) := by
  unfold lockkeeperref3_Behind.f
  refine evEq (behind_l0 s hs s.data.toList [] rfl) ?_
  by_cases hi : Lib.index s.data.toList ([58, 47, 47] : List UInt8) = -1
  · simp [hi]
  · have h1 : (Lib.index s.data.toList ([58, 47, 47] : List UInt8) == -1) = false := by simpa using hi
    rw [h1]
    simp
theorem made_nought (a b : ByteArray) : madeS a b 0 = noO := by
  have : chkS a b 0 = false := by
    unfold chkS
    split
    · rfl
    · split <;> rfl
  unfold madeS
  rw [this]
  rfl
theorem parse_j1 (x6 sch e : ByteArray) (p : Int) (h : x6.size ≤ 100000) : Ev (fun k => lockkeeperref3_Parse.j1 k x6 sch e p) (madeS sch (lowB x6) p) := by
  have hz := lowB_size x6
  refine evSucc ?_
  simp only [lockkeeperref3_Parse.j1]
  unfold madeS
  exact evBind (rlower_f x6 (by omega)) (Ev.bind (chk3_ev _ _ _ (by omega)) (evIte (fun _ => Ev.now _) fun _ => Ev.now _))
def restS (x6 sch : ByteArray) : OT := if (cutS (lowB x6) sCol).2.2 = true then madeS sch (cutS (lowB x6) sCol).1 (portS (cutS (lowB x6) sCol).2.1) else madeS sch (cutS (lowB x6) sCol).1 (defP sch)
theorem low58 (c : UInt8) : lowC c = 58 ↔ c = 58 := by
  have := (low_sep c).2
  constructor
  · intro h
    rw [h] at this
    have h' : ((58 : UInt8) == c) = true := this.symm.trans (by decide)
    exact (beq_iff_eq.1 h').symm
  · intro h; rw [h]; decide
theorem parse_l0 (x6 sch e : ByteArray) (h : x6.size ≤ 100000) : ∀ (r p : Bs), x6.data.toList = p ++ r → 58 ∉ p →
    Ev (fun k => lockkeeperref3_Parse.l0 k x6 (p.length : Int) sch e (defP sch)) (restS x6 sch) := by
  intro r
  have no58 : ∀ p : Bs, 58 ∉ p → 58 ∉ lowL p := by
    intro p hp hm
    obtain ⟨d, hd, e⟩ := List.mem_map.1 hm
    rw [(low58 d).1 e] at hd
    exact hp hd
  induction r with
  | nil =>
    intro p hp h58
    rw [List.append_nil] at hp
    have hl : x6.size = p.length := by rw [size_len, hp]
    refine evSucc ?_
    simp only [lockkeeperref3_Parse.l0]
    refine evNeg (by omega) (evEq (parse_j1 x6 sch e _ h) ?_)
    unfold restS
    rw [show sCol = (⟨#[58]⟩ : ByteArray) from rfl, cutS_not (lowB x6) 58 (by rw [lowB_data, hp]; exact no58 p h58)]
    rfl
  | cons c r ih =>
    intro p hp h58
    have hl : x6.size = p.length + (r.length + 1) := by rw [size_len, hp]; simp
    have hb := bt_mid x6 p c r hp
    have e1 : wrap64 ((p.length : Int) + 1) = ((p ++ [c]).length : Int) := by simp; unfold wrap64; omega
    refine evSucc ?_
    simp only [lockkeeperref3_Parse.l0, hb, e1]
    by_cases hc : c = 58
    · subst hc
      have ex : x6.extract (((p ++ [(58 : UInt8)]).length : Int)).toNat x6.size = bsOf r := by
        apply ba_ext
        rw [extract_list, bsOf_data, Int.toNat_natCast, hl, hp]
        simp [List.take_append, List.drop_append]
      have ey : x6.extract 0 ((p.length : Int)).toNat = bsOf p := by
        apply ba_ext
        rw [extract_list, bsOf_data, Int.toNat_natCast, hp]
        simp
      have zr : (bsOf r).size = r.length := size_bsOf r
      have zp : (bsOf p).size = p.length := size_bsOf p
      have hlow : (lowB x6).data.toList = lowL p ++ 58 :: lowL r := by
        rw [lowB_data, hp]
        unfold lowL
        rw [List.map_append, List.map_cons]
        rfl
      have hF : restS x6 sch = madeS sch (lowB (bsOf p)) (portS (lowB (bsOf r))) := by
        unfold restS
        rw [show sCol = (⟨#[58]⟩ : ByteArray) from rfl, cutS_at (lowB x6) (lowL p) (lowL r) 58 hlow (no58 p h58)]
        dsimp only
        rw [if_pos rfl]
        unfold lowB
        rw [bsOf_data, bsOf_data]
      rw [ex, ey, hF, port_count]
      refine evPos (by omega) (evPos (by omega) (evPos rfl (evPos (by omega) (evPos (by simp; omega) (Ev.bind (count_ev (bsOf r) 65535 (by omega)) ?_)))))
      by_cases h2 : (countS (bsOf r) 65535).2 = true
      · rw [if_pos h2]
        refine evPos h2 ?_
        by_cases h1 : (countS (bsOf r) 65535).1 < 1
        · rw [if_pos h1, made_nought]
          exact evPos h1 (Ev.now _)
        · rw [if_neg h1]
          have hw : wrap64 (countS (bsOf r) 65535).1 = (countS (bsOf r) 65535).1 := by
            have hm : (countS (bsOf r) 65535).1 ≤ 65535 := by
              unfold countS
              repeat' split
              all_goals dsimp only
              all_goals omega
            unfold wrap64
            omega
          rw [hw]
          exact evNeg h1 (evPos (by omega) (parse_j1 _ _ _ _ (by omega)))
      · rw [if_neg h2, made_nought]
        exact evNeg h2 (Ev.now _)
    · have hn : ¬ (c.toNat : Int) = 58 := fun e => hc (UInt8.toNat_inj.1 (by have : (58 : UInt8).toNat = 58 := rfl; omega))
      exact evPos (by omega) (evPos (by omega) (evNeg hn (ih (p ++ [c]) (by rw [hp]; simp) (by
        intro hm
        rcases List.mem_append.1 hm with hm | hm
        · exact h58 hm
        · exact hc (List.mem_singleton.1 hm).symm))))
theorem parse3_ev (s : ByteArray) (hs : s.size ≤ 100000) : Ev (fun k => lockkeeperref3_Parse.f k s) (parseS s) := by
  unfold lockkeeperref3_Parse.f parseS
  refine evIte (fun _ => Ev.now _) fun h => Ev.bind (behind_ev s (by omega)) ?_
  have hge := Lib.index_ge s.data.toList ([58, 47, 47] : List UInt8)
  have hle := size_len s
  by_cases hi : Lib.index s.data.toList ([58, 47, 47] : List UInt8) < 0
  · have hc : cutS (lowB s) sSep = (lowB s, ⟨#[]⟩, false) := by
      unfold cutS Lib.cut
      rw [lowB_data, show sSep.data.toList = ([58, 47, 47] : List UInt8) from rfl, index_low, if_neg (by omega)]
      unfold lowB
      rfl
    rw [hc]
    exact evPos hi (Ev.now _)
  · obtain ⟨i, hi'⟩ := Int.eq_ofNat_of_zero_le (show 0 ≤ Lib.index s.data.toList ([58, 47, 47] : List UInt8) by omega)
    have hi3 : i + 3 ≤ s.size := by
      have key : ∀ l : Bs, ∀ i : Nat, Lib.index l ([58, 47, 47] : List UInt8) = (i : Int) → i + 3 ≤ l.length := by
        intro l
        induction l with
        | nil => intro i h; have : Lib.index [] ([58, 47, 47] : List UInt8) = -1 := rfl; omega
        | cons c l ih =>
          intro i h
          by_cases h3 : (c :: l).length < 3
          · have := index_short (c :: l) h3; omega
          · rw [Lib.index] at h
            split at h
            · simp at h3 ⊢; omega
            · split at h
              · omega
              · have := Lib.index_ge l ([58, 47, 47] : List UInt8)
                rename_i hne
                have hne' : Lib.index l ([58, 47, 47] : List UInt8) ≠ -1 := by simpa using hne
                have := ih (i - 1) (by omega)
                simp; omega
      rw [size_len]
      exact key _ i hi'
    have hc : cutS (lowB s) sSep = (lowB (s.extract 0 i), lowB (s.extract (i + 3) s.size), true) := by
      unfold cutS Lib.cut
      rw [lowB_data, show sSep.data.toList = ([58, 47, 47] : List UInt8) from rfl, index_low, hi', if_pos (by omega)]
      unfold lowB
      rw [extract_list, extract_list, Int.toNat_natCast]
      unfold lowL
      rw [← List.map_take, ← List.map_drop, size_len, List.take_length]
      rfl
    have e3 : wrap64 ((i : Int) + 3) = ((i + 3 : Nat) : Int) := by unfold wrap64; omega
    have z1 : (s.extract 0 i).size ≤ s.size := by rw [ByteArray.size_extract]; omega
    have z2 : (s.extract (i + 3) s.size).size ≤ s.size := by rw [ByteArray.size_extract]; omega
    rw [hi', hc, e3, Int.toNat_natCast, Int.toNat_natCast]
    dsimp only
    refine evNeg (by omega) (evPos (by omega) (evPos (by omega) (evBind (rlower_f _ (by omega)) (evPos (by omega) (evPos (by omega) (evBind (def3_f _) (evEq (parse_l0 (s.extract (i + 3) s.size) (lowB (s.extract 0 i)) _ (by omega) (s.extract (i + 3) s.size).data.toList [] rfl (by simp)) ?_)))))))
    rw [if_pos rfl]
    rfl
theorem OriginAll : ∀ (a0 : ByteArray) (x1 : S23), a0.size ≤ 140737488351232 → (bT23 x1) → ∃ k, lockkeeperlaw3_OriginAll.f k a0 x1.f0 x1.f1 x1.f2 = some true := by
  rintro s ⟨a, b, p⟩ h0 ⟨ha, hb, hp⟩
  refine Ev.rounds (g := fun k => lockkeeperlaw3_OriginAll.f k s a b p) ?_
  dsimp only at ha hb hp
  rw [show maxLen = 9223372036854775807 from rfl] at ha hb
  have jt : Ev (fun k => lockkeeperlaw3_OriginAll.j0 k s true a b p) true := by
    refine evSucc ?_
    simp only [lockkeeperlaw3_OriginAll.j0, if_true]
    exact Ev.bind awake3_ev (Ev.now _)
  unfold lockkeeperlaw3_OriginAll.f
  refine Ev.bind (long_ev 700 [s] (by omega) (by omega) (by simp)) ?_
  cases hL : longS 700 [s] with
  | true => exact evPos rfl jt
  | false =>
    have hs := longS_size _ _ hL s (by simp)
    refine evNeg (by decide) (Ev.bind (long_ev 700 [a, b] (by omega) (by omega) (by simp)) ?_)
    cases hM : longS 700 [a, b] with
    | true => exact jt
    | false =>
      have za := longS_size _ _ hM a (by simp)
      have zb := longS_size _ _ hM b (by simp)
      refine evSucc ?_
      simp only [lockkeeperlaw3_OriginAll.j0, Bool.false_eq_true, if_false]
      refine Ev.bind (parse_ev s (by omega)) (Ev.bind (parse3_ev s (by omega)) (evPos (by simp) (evPos rfl ?_)))
      refine Ev.bind (chk_ev a b p (by omega)) (Ev.bind (chk3_ev a b p (by omega)) (evPos (by simp) ?_))
      refine Ev.bind (show_ev a b p (by omega) (by omega)) (Ev.bind (show3_ev a b p (by omega) (by omega)) (evPos rfl ?_))
      refine Ev.bind (key_ev a b p (by omega) (by omega)) (Ev.bind (key3_ev a b p (by omega) (by omega)) (evPos rfl ?_))
      exact evBind (def_f s) (evBind (def3_f s) (evPos rfl (Ev.bind awake3_ev (Ev.now _))))
end Go.Proofs.YtbfbidifodcedaaDoor.Pure
