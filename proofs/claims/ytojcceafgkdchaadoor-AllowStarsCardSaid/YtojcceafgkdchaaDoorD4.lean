/- Plain laws of the reference's words of chapter 1 (ref1): Trim, Fold, Token, Digits. -/
import Derived.Test.YtojcceafgkdchaaDoorD3
import Derived.Test.YtojcceafgkdchaaDoorPr7
import Derived.Test.YtojcceafgkdchaaDoorPr6
namespace Go.Proofs.YtojcceafgkdchaaDoor.Pr
open Go.RowKit Go.Proofs.YtojcceafgkdchaaDoorW.PrintWords Go.Proofs.YtojcceafgkdchaaDoorW.PrintLast
set_option linter.unusedVariables false
set_option linter.unusedSimpArgs false

theorem rdig_l0 (s : ByteArray) (hs : s.size ≤ 4611686018427387904) (r : Bs) : ∀ (p : Bs) (n : Int), s.data.toList = p ++ r →
    Ev (fun k => lockkeeperref1_Digits.l0 k s n (p.length : Int)) (match digGo n r with | some n => (n, s.data.toList != []) | none => (0, false)) := by
  induction r with
  | nil =>
    intro p n hp
    have hl : s.size = p.length := by rw [size_len, hp]; simp
    refine evSucc ?_
    simp only [lockkeeperref1_Digits.l0]
    refine evNeg (by omega) (evEq (Ev.now _) ?_)
    rw [digGo, hp, hl]
    cases p with
    | nil => rfl
    | cons c p => simp
  | cons c r ih =>
    intro p n hp
    have hl : s.size = p.length + (r.length + 1) := by rw [size_len, hp]; simp
    have hb := bt_mid s p c r hp
    have e2 : wrap64 ((p.length : Int) + 1) = ((p ++ [c]).length : Int) := by simp; unfold wrap64; omega
    have hj : ∀ x : Bool, x = !isDig c → Ev (fun k => lockkeeperref1_Digits.j1 k s n (p.length : Int) x) (match digGo n (c :: r) with | some n => (n, s.data.toList != []) | none => (0, false)) := by
      intro x hx
      refine evSucc ?_
      simp only [lockkeeperref1_Digits.j1, hb, e2]
      rw [digGo, hx]
      cases hd : isDig c with
      | false => exact evPos rfl (evEq (Ev.now _) (by simp))
      | true =>
        have := ih (p ++ [c]) (digStep n c) (by simpa using hp)
        simp only [if_true]
        refine evNeg (by decide) (evPos (by omega) (evPos (by omega) ?_))
        by_cases hg : n > (18446744073709551615 - (((c.toNat : Int) - 48) % 256)) / 10
        · refine evPos hg ?_
          rw [show digStep n c = 18446744073709551615 by unfold digStep; rw [if_pos hg]] at this ⊢
          exact this
        · refine evNeg hg ?_
          rw [show digStep n c = IntKind.u64.wrap ((IntKind.u64.wrap (n * 10)) + (((c.toNat : Int) - 48) % 256)) by unfold digStep; rw [if_neg hg]] at this ⊢
          rw [show (10 : Int) * n = n * 10 by omega]
          exact this
    refine evSucc ?_
    simp only [lockkeeperref1_Digits.l0, hb]
    refine evPos (by omega) (evPos (by omega) ?_)
    by_cases h : (c.toNat : Int) < 48
    · exact evPos h (hj true (by unfold isDig; simp; omega))
    · refine evNeg h (hj _ ?_)
      unfold isDig
      rw [show decide ((c.toNat : Int) ≥ 48) = true by simp; omega, Bool.true_and, Bool.eq_iff_iff]
      simp
theorem rdig_ev (s : ByteArray) (hs : s.size ≤ 4611686018427387904) : Ev (fun k => lockkeeperref1_Digits.f k s) (digS s) := by
  have := rdig_l0 s hs s.data.toList [] 0 rfl
  exact evEq this (by unfold digS; cases digGo 0 s.data.toList <;> rfl)

/-! ### ref1.Trim -/
theorem isBl_cases (c : UInt8) : isBl c = true ↔ ((c.toNat : Int) = 9 ∨ (c.toNat : Int) = 10 ∨ (c.toNat : Int) = 13 ∨ (c.toNat : Int) = 32) := by
  have h : ∀ d : UInt8, (c = d) ↔ ((c.toNat : Int) = (d.toNat : Int)) := fun d => ⟨fun e => by rw [e], fun e => UInt8.toNat_inj.1 (by omega)⟩
  unfold isBl
  simp only [Bool.or_eq_true, beq_iff_eq, or_assoc]
  rw [h 9, h 10, h 13, h 32]
  rfl
theorem rtrim_l1 (s : ByteArray) (hs : s.size ≤ 4611686018427387904) (p : Bs) (n : Nat) : ∀ (m q : Bs), m.length = n → s.data.toList = p ++ m ++ q →
    Ev (fun k => lockkeeperref1_Trim.l1 k s (p.length : Int) ((p.length + m.length : Nat) : Int)) (bsOf (trimR m)) := by
  induction n with
  | zero =>
    intro m q hm he
    obtain rfl := List.eq_nil_of_length_eq_zero hm
    have hl : s.size = p.length + q.length := by rw [size_len, he]; simp
    refine evSucc ?_
    simp only [lockkeeperref1_Trim.l1]
    refine evNeg (by simp) (evPos (by omega) (evPos (by simp) (evPos (by simp; omega) (evEq (Ev.now _) ?_))))
    apply ba_ext
    rw [extract_list]
    simp [bsOf_data, trimR, List.drop_take]
  | succ n ih =>
    intro m q hm he
    obtain ⟨m', c, rfl⟩ : ∃ l c, m = l ++ [c] := by
      have hne : m ≠ [] := by intro e; rw [e] at hm; simp at hm
      exact ⟨_, _, (List.dropLast_concat_getLast hne).symm⟩
    have hml : m'.length = n := by simpa using hm
    have hl : s.size = p.length + (n + 1) + q.length := by rw [size_len, he]; simp; omega
    have hb : bt s ((p.length + n : Nat) : Int) = (c.toNat : Int) := by
      have := bt_mid s (p ++ m') c q (by rw [he]; simp)
      rw [show ((p ++ m').length : Int) = ((p.length + n : Nat) : Int) by rw [List.length_append, hml]] at this
      exact this
    have e1 : ((p.length + (m' ++ [c]).length : Nat) : Int) = ((p.length + n + 1 : Nat) : Int) := by simp; omega
    have e2 : wrap64 (((p.length + n + 1 : Nat) : Int) - 1) = ((p.length + n : Nat) : Int) := by unfold wrap64; omega
    rw [e1]
    have ih' := ih m' (c :: q) hml (by rw [he]; simp)
    rw [hml] at ih'
    refine evSucc ?_
    simp only [lockkeeperref1_Trim.l1, e2, hb]
    refine evPos (by omega) (evPos (by omega) (evPos (by omega) ?_))
    cases hc : isBl c with
    | true =>
      have et : trimR (m' ++ [c]) = trimR m' := by unfold trimR; simp [hc]
      rw [et]
      have hcc := (isBl_cases c).1 hc
      by_cases h1 : (c.toNat : Int) = 9
      · exact evPos h1 ih'
      · refine evNeg h1 ?_
        by_cases h2 : (c.toNat : Int) = 10
        · exact evPos h2 ih'
        · refine evNeg h2 ?_
          by_cases h3 : (c.toNat : Int) = 13
          · exact evPos h3 ih'
          · exact evNeg h3 (evPos (by omega) ih')
    | false =>
      have hcc : ¬ ((c.toNat : Int) = 9 ∨ (c.toNat : Int) = 10 ∨ (c.toNat : Int) = 13 ∨ (c.toNat : Int) = 32) := fun h => by rw [(isBl_cases c).2 h] at hc; cases hc
      refine evNeg (by omega) (evNeg (by omega) (evNeg (by omega) (evNeg (by omega) (evPos (by omega) (evPos (by omega) (evPos (by omega) (evEq (Ev.now _) ?_)))))))
      have et : trimR (m' ++ [c]) = m' ++ [c] := by unfold trimR; simp [hc]
      rw [et]
      apply ba_ext
      rw [extract_list, bsOf_data, he]
      simp only [Int.toNat_natCast]
      have : (p ++ (m' ++ [c]) ++ q).take (p.length + n + 1) = p ++ (m' ++ [c]) := by
        rw [List.take_append_of_le_length (by simp; omega), List.take_of_length_le (by simp; omega)]
      rw [this]
      simp
theorem rtrim_l0 (s : ByteArray) (hs : s.size ≤ 4611686018427387904) (r : Bs) : ∀ p : Bs, s.data.toList = p ++ r →
    Ev (fun k => lockkeeperref1_Trim.l0 k s (p.length : Int) (s.size : Int)) (bsOf (trimL r)) := by
  have hj : ∀ p r : Bs, s.data.toList = p ++ r → Ev (fun k => lockkeeperref1_Trim.j1 k s (p.length : Int) (s.size : Int)) (bsOf (trimR r)) := by
    intro p r hp
    have hl : s.size = p.length + r.length := by rw [size_len, hp]; simp
    refine evSucc ?_
    simp only [lockkeeperref1_Trim.j1]
    have := rtrim_l1 s hs p r.length r [] rfl (by rw [hp]; simp)
    rw [← hl] at this
    exact this
  induction r with
  | nil =>
    intro p hp
    have hl : s.size = p.length := by rw [size_len, hp]; simp
    refine evSucc ?_
    simp only [lockkeeperref1_Trim.l0]
    exact evNeg (by omega) (hj p [] hp)
  | cons c r ih =>
    intro p hp
    have hl : s.size = p.length + (r.length + 1) := by rw [size_len, hp]; simp
    have hb := bt_mid s p c r hp
    have e2 : wrap64 ((p.length : Int) + 1) = ((p ++ [c]).length : Int) := by simp; unfold wrap64; omega
    have ih' := ih (p ++ [c]) (by rw [hp]; simp)
    refine evSucc ?_
    simp only [lockkeeperref1_Trim.l0, hb, e2]
    refine evPos (by omega) (evPos (by omega) (evPos (by omega) ?_))
    cases hc : isBl c with
    | true =>
      have et : trimL (c :: r) = trimL r := by unfold trimL; simp [hc]
      rw [et]
      have hcc := (isBl_cases c).1 hc
      by_cases h1 : (c.toNat : Int) = 9
      · exact evPos h1 ih'
      · refine evNeg h1 ?_
        by_cases h2 : (c.toNat : Int) = 10
        · exact evPos h2 ih'
        · refine evNeg h2 ?_
          by_cases h3 : (c.toNat : Int) = 13
          · exact evPos h3 ih'
          · exact evNeg h3 (evPos (by omega) ih')
    | false =>
      have hcc : ¬ ((c.toNat : Int) = 9 ∨ (c.toNat : Int) = 10 ∨ (c.toNat : Int) = 13 ∨ (c.toNat : Int) = 32) := fun h => by rw [(isBl_cases c).2 h] at hc; cases hc
      have et : trimL (c :: r) = trimR (c :: r) := by unfold trimL; simp [hc]
      rw [et]
      exact evNeg (by omega) (evNeg (by omega) (evNeg (by omega) (evNeg (by omega) (hj p (c :: r) hp))))
theorem rtrim_ev (s : ByteArray) (hs : s.size ≤ 4611686018427387904) : Ev (fun k => lockkeeperref1_Trim.f k s) (trimS s) := by
  have := rtrim_l0 s hs s.data.toList [] rfl
  exact this
end Go.Proofs.YtojcceafgkdchaaDoor.Pr
