/- The printed law OctetTokens tells true for every text (of the form's own reach). -/
import Derived.Test.YtojcceafgkdchaaDoorD2
import Derived.Test.YtojcceafgkdchaaDoorPr7
namespace Go.Proofs.YtojcceafgkdchaaDoor.Pure
open Go.RowKit Go.Proofs.YtojcceafgkdchaaDoor.Pr Go.Proofs.YtojcceafgkdchaaDoorW.PrintWords Go.Proofs.YtojcceafgkdchaaDoorW.PrintLast
set_option linter.unusedVariables false
set_option linter.unusedSimpArgs false

theorem OctetTokens_l0 (s : ByteArray) (hs : s.size ≤ 1000) (r : Bs) : ∀ p : Bs, s.data.toList = p ++ r →
    Ev (fun k => lockkeeperlaw1_OctetTokens.l0 k s (decide ((s.size : Int) > 0) && p.all isTok) (p.length : Int)) true := by
  induction r with
  | nil =>
    intro p hp
    rw [List.append_nil] at hp
    have hl : s.size = p.length := by rw [size_len, hp]
    refine evSucc ?_
    simp only [lockkeeperlaw1_OctetTokens.l0]
    refine evNeg (by omega) (Ev.bind (token_ev s (by omega)) (evPos ?_ (Ev.bind awake1_ev (Ev.now _))))
    unfold tokS
    rw [hp]
    cases p with
    | nil => simp at hl; simp [hl]
    | cons c p => simp at hl; simp [hl]
  | cons c r ih =>
    intro p hp
    have hl : s.size = p.length + (r.length + 1) := by rw [size_len, hp]; simp
    have e2 : wrap64 ((p.length : Int) + 1) = ((p.length + 1 : Nat) : Int) := by unfold wrap64; omega
    have ih' := ih (p ++ [c]) (by simpa using hp)
    rw [show (p ++ [c]).length = p.length + 1 by simp, show (p ++ [c]).all isTok = (p.all isTok && isTok c) by simp] at ih'
    have hpos : decide ((s.size : Int) > 0) = true := by simp; omega
    rw [hpos, Bool.true_and] at ih' ⊢
    refine evSucc ?_
    simp only [lockkeeperlaw1_OctetTokens.l0, e2, Int.toNat_natCast]
    refine evPos (by omega) ?_
    cases hx : p.all isTok with
    | true =>
      have hd : (s.extract p.length (p.length + 1)).data.toList = [c] := by
        rw [extract_list, hp]
        simp [List.drop_take]
      have hsz : (s.extract p.length (p.length + 1)).size = 1 := by rw [size_len, hd]; rfl
      have ht : tokS (s.extract p.length (p.length + 1)) = isTok c := by
        unfold tokS
        rw [hd]
        simp
      rw [hx, Bool.true_and] at ih'
      refine evPos rfl (evPos (by omega) (evPos (by omega) (evPos (by omega) (Ev.bind (evEq (token_ev _ (by omega)) ht) ?_))))
      exact ih'
    | false =>
      rw [hx, Bool.false_and] at ih'
      exact evNeg (by decide) ih'
theorem OctetTokens : ∀ (a0 : ByteArray), a0.size ≤ 140737488351232 → ∃ k, lockkeeperlaw1_OctetTokens.f k a0 = some true := by
  intro s _
  refine Ev.rounds (g := fun k => lockkeeperlaw1_OctetTokens.f k s) ?_
  unfold lockkeeperlaw1_OctetTokens.f
  refine Ev.bind (long_ev 500 [s] (by omega) (by omega) (by simp)) ?_
  cases hL : longS 500 [s] with
  | true => exact evPos rfl (Ev.bind awake1_ev (Ev.now _))
  | false =>
    have s1 := longS_size _ _ hL s (by simp)
    refine evNeg (by decide) ?_
    have := OctetTokens_l0 s (by omega) s.data.toList [] rfl
    simpa using this
end Go.Proofs.YtojcceafgkdchaaDoor.Pure
