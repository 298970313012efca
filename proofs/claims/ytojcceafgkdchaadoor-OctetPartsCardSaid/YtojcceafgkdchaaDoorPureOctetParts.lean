/- The printed law OctetParts tells true for every two texts (of the form's own reach). -/
import Derived.Test.YtojcceafgkdchaaDoorD3
import Derived.Test.YtojcceafgkdchaaDoorPr8
namespace Go.Proofs.YtojcceafgkdchaaDoor.Pure
open Go.RowKit Go.Proofs.YtojcceafgkdchaaDoor.Pr Go.Proofs.YtojcceafgkdchaaDoorW.PrintWords Go.Proofs.YtojcceafgkdchaaDoorW.PrintLast
set_option linter.unusedVariables false
set_option linter.unusedSimpArgs false

theorem splitC_length (c : UInt8) (l : Bs) : (splitC c l).length ≤ l.length + 1 := by
  induction l with
  | nil => simp [splitC]
  | cons b l ih =>
    rw [splitC]
    split
    · simp; omega
    · split
      · simp
      · rename_i h
        rw [h] at ih
        simp at ih ⊢
        omega
theorem splitS_length (s : ByteArray) : (splitS s).length ≤ s.size + 1 := by
  have h1 := keepT_length (splitC 44 s.data.toList)
  have h2 := splitC_length 44 s.data.toList
  rw [← size_len] at h2
  unfold splitS
  omega
theorem OctetParts : ∀ (a0 : ByteArray) (a1 : ByteArray), a0.size ≤ 140737488351232 → a1.size ≤ 140737488351232 → ∃ k, lockkeeperlaw1_OctetParts.f k a0 a1 = some true := by
  intro s t _ _
  refine Ev.rounds (g := fun k => lockkeeperlaw1_OctetParts.f k s t) ?_
  unfold lockkeeperlaw1_OctetParts.f
  refine Ev.bind (long_ev 2000 [s, t] (by omega) (by omega) (by simp)) ?_
  cases hL : longS 2000 [s, t] with
  | true => exact evPos rfl (Ev.bind awake1_ev (Ev.now _))
  | false =>
    have s1 := longS_size _ _ hL s (by simp)
    have s2 := longS_size _ _ hL t (by simp)
    have l1 := splitS_length s
    have l2 := splitS_length t
    have m0 : ((⟨#[44]⟩ : ByteArray)).size = 1 := rfl
    have m1 := ByteArray.size_append (a := s) (b := (⟨#[44]⟩ : ByteArray))
    have m2 := ByteArray.size_append (a := s ++ (⟨#[44]⟩ : ByteArray)) (b := t)
    refine evNeg (by decide) (Ev.bind (osplit_ev s (by omega)) (evPos (by simp; omega) (evBind rfl (Ev.bind (osplit_ev t (by omega)) (evPos (by simp; omega) (evPos (by omega) (evPos (by omega) ?_)))))))
    rw [List.nil_append]
    have e : splitS (s ++ (⟨#[44]⟩ : ByteArray) ++ t) = splitS s ++ splitS t := by
      unfold splitS
      rw [append_list, append_list]
      rw [show s.data.toList ++ ((⟨#[44]⟩ : ByteArray)).data.toList ++ t.data.toList = s.data.toList ++ 44 :: t.data.toList by simp]
      rw [splitC_append, keepT_append]
    refine Ev.bind (evEq (osplit_ev _ (by omega)) e) (Ev.bind (texts_refl _ (by rw [List.length_append]; omega)) (evPos rfl (Ev.bind awake1_ev (Ev.now _))))
end Go.Proofs.YtojcceafgkdchaaDoor.Pure
