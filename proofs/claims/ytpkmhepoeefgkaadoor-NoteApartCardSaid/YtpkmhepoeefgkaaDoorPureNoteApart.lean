
/- The printed law NoteApart tells true for every two events (of the form's own reach). -/
import Derived.Test.YtpkmhepoeefgkaaDoorBENoteApart
import Derived.Test.YtpkmhepoeefgkaaDoorR1
import Derived.Test.YtpkmhepoeefgkaaDoorPr6
namespace Go.Proofs.YtpkmhepoeefgkaaDoor.Pure
open Go.RowKit Go.Proofs.YtpkmhepoeefgkaaDoor.Pr Go.Proofs.YtpkmhepoeefgkaaDoorW.PrintWords Go.Proofs.YtpkmhepoeefgkaaDoorW.PrintLast
set_option linter.unusedVariables false
set_option linter.unusedSimpArgs false

theorem wfE_of {e : EvT} (h : bT24 e) : wfE e := ⟨wf_int h.1, wf_u64 h.2.1, wf_int h.2.2.1, wf_int h.2.2.2.1, wf_int h.2.2.2.2.1, wf_int h.2.2.2.2.2.1, wf_int h.2.2.2.2.2.2⟩
theorem NoteApart : ∀ (x0 : S24) (x1 : S24), (bT24 x0) → (bT24 x1) → ∃ k, lockkeeperlaw24_NoteApart.f k x0.f0 x0.f1 x0.f2 x0.f3 x0.f4 x0.f5 x0.f6 x1.f0 x1.f1 x1.f2 x1.f3 x1.f4 x1.f5 x1.f6 = some true := by
  intro a b ha hb
  have wa := wfE_of ha
  have wb := wfE_of hb
  refine Ev.rounds (g := fun k => lockkeeperlaw24_NoteApart.f k a.f0 a.f1 a.f2 a.f3 a.f4 a.f5 a.f6 b.f0 b.f1 b.f2 b.f3 b.f4 b.f5 b.f6) ?_
  unfold lockkeeperlaw24_NoteApart.f
  refine evBind (show note_Check.f a.f0 a.f1 a.f2 a.f3 a.f4 a.f5 a.f6 = some (okE a) from rfl) ?_
  cases oa : okE a with
  | false => exact evNeg (by decide) (Ev.bind awake24_ev (Ev.now _))
  | true =>
    refine evPos rfl (evBind (show note_Check.f b.f0 b.f1 b.f2 b.f3 b.f4 b.f5 b.f6 = some (okE b) from rfl) ?_)
    cases ob : okE b with
    | false => exact evNeg (by decide) (Ev.bind awake24_ev (Ev.now _))
    | true =>
      refine evPos rfl (Ev.bind (show_ev a wa) (Ev.bind (show_ev b wb) (evPos ?_ (Ev.bind awake24_ev (Ev.now _)))))
      have hi := show_inj wa wb oa ob
      rw [tl, tl]
      by_cases h : showE a = showE b
      · have e := hi h
        subst e
        simp
      · have h1 : ((showE a).data.toList == (showE b).data.toList) = false := by
          simp only [beq_eq_false_iff_ne]
          exact fun e => h (ba_ext e)
        rw [h1]
        have h2 : ¬ a = b := fun e => h (by rw [e])
        obtain ⟨a0, a1, a2, a3, a4, a5, a6⟩ := a
        obtain ⟨b0, b1, b2, b3, b4, b5, b6⟩ := b
        simp only [beq_iff_eq, Bool.false_eq, Bool.and_eq_false_imp, beq_eq_false_iff_ne]
        intro e0 e1 e2 e3 e4 e5 e6
        exact h2 (by rw [e0, e1, e2, e3, e4, e5, e6])
end Go.Proofs.YtpkmhepoeefgkaaDoor.Pure
