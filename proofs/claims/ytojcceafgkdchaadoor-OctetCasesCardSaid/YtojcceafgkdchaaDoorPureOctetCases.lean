/- The printed law OctetCases tells true for every text and every mask (of the form's own reach). -/
import Derived.Test.YtojcceafgkdchaaDoorD2
import Derived.Test.YtojcceafgkdchaaDoorPr4
namespace Go.Proofs.YtojcceafgkdchaaDoor.Pure
open Go.RowKit Go.Proofs.YtojcceafgkdchaaDoor.Pr Go.Proofs.YtojcceafgkdchaaDoorW.PrintWords Go.Proofs.YtojcceafgkdchaaDoorW.PrintLast
set_option linter.unusedVariables false
set_option linter.unusedSimpArgs false

theorem oc_tok_all : ∀ n : Nat, n < 256 → isTok (lowC (UInt8.ofNat n)) = isTok (UInt8.ofNat n) := by decide +kernel
theorem oc_tok_low (c : UInt8) : isTok (lowC c) = isTok c := by
  have := oc_tok_all c.toNat c.toNat_lt
  rwa [UInt8.ofNat_toNat] at this
theorem oc_tokS (s : ByteArray) : tokS s = ((lowL s.data.toList).all isTok && lowL s.data.toList != []) := by
  unfold tokS lowL
  congr 1
  · rw [List.all_map]
    congr 1
    funext c
    exact (oc_tok_low c).symm
  · cases s.data.toList with
    | nil => rfl
    | cons c l => rfl
theorem OctetCases : ∀ (a0 : ByteArray) (a1 : Int), a0.size ≤ 140737488351232 → (Lit.int .u64 a1).wf = true → ∃ k, lockkeeperlaw1_OctetCases.f k a0 a1 = some true := by
  intro s b _ hb
  refine Ev.rounds (g := fun k => lockkeeperlaw1_OctetCases.f k s b) ?_
  unfold lockkeeperlaw1_OctetCases.f
  refine Ev.bind (long_ev 2000 [s] (by omega) (by omega) (by simp)) ?_
  cases hL : longS 2000 [s] with
  | true => exact evPos rfl (Ev.bind awake1_ev (Ev.now _))
  | false =>
    have s1 := longS_size _ _ hL s (by simp)
    have hf := flip_size s b
    have hl := flip_lowL s b
    have hlz : (bsOf (lowL s.data.toList)).size = s.size := lowB_size s
    have hid : lowL (bsOf (lowL s.data.toList)).data.toList = lowL s.data.toList := by rw [bsOf_data, lowL_idem]
    refine evNeg (by decide) (evBind (flip_f s b (by omega) hb) (evBind (lower_f s (by omega)) (evBind (fold_f _ _ (by omega) (by omega)) (evPos ?_ (evBind (lower_f _ (by omega)) (evPos ?_ (evBind (lower_f _ (by omega)) (evPos ?_ (evPos ?_ ?_)))))))))
    · rw [foldB_eq, hl]
    · rw [hl]
    · rw [hid]
    · rw [hlz]
    · refine Ev.bind (token_ev s (by omega)) (Ev.bind (token_ev _ (by omega)) (evPos ?_ (Ev.bind awake1_ev (Ev.now _))))
      rw [oc_tokS s, oc_tokS (flipS s b), hl]
      simp
end Go.Proofs.YtojcceafgkdchaaDoor.Pure
