
/- The printed law NoteJoins tells true for every row of events and every text (of the form's own reach). -/
import Derived.Test.YtpkmhepoeefgkaaDoorBENoteJoins
import Derived.Test.YtpkmhepoeefgkaaDoorR1
import Derived.Test.YtpkmhepoeefgkaaDoorPr13
namespace Go.Proofs.YtpkmhepoeefgkaaDoor.Pure
open Go.RowKit Go.Proofs.YtpkmhepoeefgkaaDoor.Pr Go.Proofs.YtpkmhepoeefgkaaDoorW.PrintWords Go.Proofs.YtpkmhepoeefgkaaDoorW.PrintLast
set_option linter.unusedVariables false
set_option linter.unusedSimpArgs false

theorem wfE_of {e : EvT} (h : bT24 e) : wfE e := ⟨wf_int h.1, wf_u64 h.2.1, wf_int h.2.2.1, wf_int h.2.2.2.1, wf_int h.2.2.2.2.1, wf_int h.2.2.2.2.2.1, wf_int h.2.2.2.2.2.2⟩
theorem splitV_len (T : List Bs) : ∀ (acc : List EvT) (n : Int), (splitV T acc n).1.length ≤ acc.length + T.length := by
  induction T with
  | nil => intro acc n; simp [splitV]
  | cons x T ih =>
    intro acc n
    cases T with
    | nil =>
      rw [splitV]
      split
      · simp
      · simp
    | cons y r =>
      rw [splitV]
      split
      · have := ih (acc ++ [evOf x]) (n + 1)
        simp only [List.length_append, List.length_cons, List.length_nil] at this ⊢
        omega
      · simp
theorem NoteJoins : ∀ (l0 : List (S24)) (a1 : ByteArray), (l0.length ≤ maxLen ∧ ∀ x_ ∈ l0, bT24 x_) → a1.size ≤ 140737488351232 → ∃ k, lockkeeperlaw24_NoteJoins.f k l0 a1 = some true := by
  rintro l t ⟨_, hb⟩ ht
  have hw : ∀ e ∈ l, wfE e := fun e he => wfE_of (hb e he)
  refine Ev.rounds (g := fun k => lockkeeperlaw24_NoteJoins.f k l t) ?_
  have jt : Ev (fun k => lockkeeperlaw24_NoteJoins.j0 k l t true) true := by
    refine evSucc ?_
    simp only [lockkeeperlaw24_NoteJoins.j0, if_true]
    exact Ev.bind awake24_ev (Ev.now _)
  unfold lockkeeperlaw24_NoteJoins.f
  by_cases h : (l.length : Int) > 40
  · exact evPos h jt
  · refine evNeg h (Ev.bind (long_ev 2000 [t] (by omega) (by omega) (by simp)) ?_)
    cases hL : longS 2000 [t] with
    | true => exact jt
    | false =>
      have hz := longS_size _ _ hL t (by simp)
      have htl := size_len t
      refine evSucc ?_
      simp only [lockkeeperlaw24_NoteJoins.j0, Bool.false_eq_true, if_false]
      refine Ev.bind (lines_ev l (by omega) hw) ?_
      cases hall : l.all okE with
      | false =>
        rw [if_neg (by decide)]
        exact evNeg (by decide) (Ev.bind awake24_ev (Ev.now _))
      | true =>
        have ho : ∀ e ∈ l, okE e = true := fun e he => List.all_eq_true.1 hall e he
        have hlen := linesT_length l hw
        have hsz : (bsOf (linesT l)).size = (linesT l).length := size_bsOf _
        have z2 : (bsOf (linesT l) ++ t).size = (linesT l).length + t.size := by rw [ByteArray.size_append, hsz]
        have s1 := split_ev t (by omega)
        have s2 := split_ev (bsOf (linesT l) ++ t) (by omega)
        have hcnt := splitC_count 10 t.data.toList
        rw [append_list, bsOf_data, split_lines, splitV_shows l hw ho _ (splitC_ne _ _), List.nil_append] at s2
        have hal := splitV_len (splitC 10 t.data.toList) [] 1
        rw [if_pos rfl]
        refine evPos rfl (Ev.bind s1 (evPos (by show (bsOf (linesT l)).size + t.size ≤ _; omega) (Ev.bind s2 ?_)))
        rcases splitV_shift (splitC 10 t.data.toList) [] l 1 (1 + l.length) with ⟨a, h1, h2⟩ | ⟨d, h1, h2, h3, h4⟩
        · rw [h1] at hal
          rw [h1, h2]
          simp only [List.nil_append, List.length_nil] at hal ⊢
          refine evPos (by simp) (evPos (by simp) (evPos (by simp) (evPos (by omega) (evBind rfl (evPos (by omega) (Ev.bind (events_same (l ++ a) (by simp; omega)) (evPos rfl (Ev.bind awake24_ev (Ev.now _)))))))))
        · rw [h1, h2]
          have e1 : wrap64 ((l.length : Int) + (1 + d)) = 1 + (l.length : Int) + d := by unfold wrap64; omega
          exact evNeg (by simp) (evPos rfl (evPos e1.symm (evPos rfl (Ev.bind awake24_ev (Ev.now _)))))
end Go.Proofs.YtpkmhepoeefgkaaDoor.Pure
