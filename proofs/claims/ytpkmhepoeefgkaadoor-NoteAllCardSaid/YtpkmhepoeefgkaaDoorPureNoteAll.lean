
/- The printed law NoteAll tells true for every event, text and number (of the form's own reach). -/
import Derived.Test.YtpkmhepoeefgkaaDoorBENoteAll
import Derived.Test.YtpkmhepoeefgkaaDoorR1
import Derived.Test.YtpkmhepoeefgkaaDoorPr11
namespace Go.Proofs.YtpkmhepoeefgkaaDoor.Pure
open Go.RowKit Go.Proofs.YtpkmhepoeefgkaaDoor.Pr Go.Proofs.YtpkmhepoeefgkaaDoorW.PrintWords Go.Proofs.YtpkmhepoeefgkaaDoorW.PrintLast
set_option linter.unusedVariables false
set_option linter.unusedSimpArgs false

theorem wfE_of {e : EvT} (h : bT24 e) : wfE e := ⟨wf_int h.1, wf_u64 h.2.1, wf_int h.2.2.1, wf_int h.2.2.2.1, wf_int h.2.2.2.2.1, wf_int h.2.2.2.2.2.1, wf_int h.2.2.2.2.2.2⟩
theorem splitV_len (T : List Bs) : ∀ (acc : List EvT) (n : Int), (splitV T acc n).1.length ≤ acc.length + T.length := by
  induction T with
  | nil => intro acc n; simp [splitV]
  | cons x T ih =>
    intro acc n
    cases T with
    | nil =>
      rw [splitV]
      split
      · simp
      · simp
    | cons y r =>
      rw [splitV]
      split
      · have := ih (acc ++ [evOf x]) (n + 1)
        simp only [List.length_append, List.length_cons, List.length_nil] at this ⊢
        omega
      · simp
theorem NoteAll : ∀ (x0 : S24) (a1 : ByteArray) (a2 : Int), (bT24 x0) → a1.size ≤ 140737488351232 → (Lit.int .i64 a2).wf = true → ∃ k, lockkeeperlaw24_NoteAll.f k x0.f0 x0.f1 x0.f2 x0.f3 x0.f4 x0.f5 x0.f6 a1 a2 = some true := by
  intro e s q he _ _
  have hw := wfE_of he
  refine Ev.rounds (g := fun k => lockkeeperlaw24_NoteAll.f k e.f0 e.f1 e.f2 e.f3 e.f4 e.f5 e.f6 s q) ?_
  unfold lockkeeperlaw24_NoteAll.f
  refine Ev.bind (long_ev 2000 [s] (by omega) (by omega) (by simp)) ?_
  cases hL : longS 2000 [s] with
  | true => exact evPos rfl (Ev.bind awake24_ev (Ev.now _))
  | false =>
    have hz := longS_size _ _ hL s (by simp)
    have hcnt := splitC_count 10 s.data.toList
    have hsl := size_len s
    have hal := splitV_len (splitC 10 s.data.toList) [] 1
    rw [List.length_nil] at hal
    have hov : note_Over.f q = lockkeeperref24_Over.f q := rfl
    obtain ⟨v, hv⟩ : ∃ v, lockkeeperref24_Over.f q = some v := by
      unfold lockkeeperref24_Over.f
      split
      · exact ⟨_, rfl⟩
      · exact ⟨_, rfl⟩
    refine evNeg (by decide) (Ev.bind (read_ev s (by omega)) (Ev.bind (rread_ev s (by omega)) (Ev.bind (split_ev s (by omega)) (Ev.bind (rsplit_ev s (by omega)) (evBind (show note_Check.f e.f0 e.f1 e.f2 e.f3 e.f4 e.f5 e.f6 = some (okE e) from rfl) (evBind (rcheck_f e) (evPos (by simp) (Ev.bind (show_ev e hw) (Ev.bind (rshow_ev e hw) (evPos rfl (evPos (by simp) (evPos rfl (Ev.bind (events_same _ (by omega)) (evPos rfl (evPos rfl (evPos rfl ?_))))))))))))))))
    exact evBind (show note_Name.f q = some _ from rfl) (evBind (rname_f q) (evPos rfl (evBind (hov.trans hv) (evBind hv (evPos (by simp) (Ev.bind awake24_ev (Ev.now _)))))))
end Go.Proofs.YtpkmhepoeefgkaaDoor.Pure
