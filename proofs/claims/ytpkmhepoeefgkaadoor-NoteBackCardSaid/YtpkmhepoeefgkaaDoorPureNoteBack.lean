
/- The printed law NoteBack tells true for every event, number and byte (of the form's own reach). -/
import Derived.Test.YtpkmhepoeefgkaaDoorBENoteBack
import Derived.Test.YtpkmhepoeefgkaaDoorR1
import Derived.Test.YtpkmhepoeefgkaaDoorPr5
namespace Go.Proofs.YtpkmhepoeefgkaaDoor.Pure
open Go.RowKit Go.Proofs.YtpkmhepoeefgkaaDoor.Pr Go.Proofs.YtpkmhepoeefgkaaDoorW.PrintWords Go.Proofs.YtpkmhepoeefgkaaDoorW.PrintLast
set_option linter.unusedVariables false
set_option linter.unusedSimpArgs false

theorem wfE_of {e : EvT} (h : bT24 e) : wfE e := ⟨wf_int h.1, wf_u64 h.2.1, wf_int h.2.2.1, wf_int h.2.2.2.1, wf_int h.2.2.2.2.1, wf_int h.2.2.2.2.2.1, wf_int h.2.2.2.2.2.2⟩
theorem differs (y e : EvT) (h : ¬ y = e) : ((!(y.f0 == e.f0) || (!(y.f1 == e.f1) || (!(y.f2 == e.f2) || (!(y.f3 == e.f3) || (!(y.f4 == e.f4) || (!(y.f5 == e.f5) || (!(y.f6 == e.f6))))))))) = true := by
  cases hd : ((!(y.f0 == e.f0) || (!(y.f1 == e.f1) || (!(y.f2 == e.f2) || (!(y.f3 == e.f3) || (!(y.f4 == e.f4) || (!(y.f5 == e.f5) || (!(y.f6 == e.f6))))))))) with
  | true => rfl
  | false =>
    exfalso
    simp only [Bool.or_eq_false_iff, Bool.not_eq_false', beq_iff_eq] at hd
    obtain ⟨h0, h1, h2, h3, h4, h5, h6⟩ := hd
    obtain ⟨y0, y1, y2, y3, y4, y5, y6⟩ := y
    obtain ⟨e0, e1, e2, e3, e4, e5, e6⟩ := e
    dsimp only at h0 h1 h2 h3 h4 h5 h6
    exact h (by rw [h0, h1, h2, h3, h4, h5, h6])
theorem NoteBack : ∀ (x0 : S24) (a1 : Int) (a2 : Int), (bT24 x0) → (Lit.int .i64 a1).wf = true → (Lit.int .u8 a2).wf = true → ∃ k, lockkeeperlaw24_NoteBack.f k x0.f0 x0.f1 x0.f2 x0.f3 x0.f4 x0.f5 x0.f6 a1 a2 = some true := by
  intro e at' b he hat hb
  have hw := wfE_of he
  have hz := show_size e hw
  refine Ev.rounds (g := fun k => lockkeeperlaw24_NoteBack.f k e.f0 e.f1 e.f2 e.f3 e.f4 e.f5 e.f6 at' b) ?_
  unfold lockkeeperlaw24_NoteBack.f
  refine Ev.bind (show_ev e hw) (evBind (show note_Check.f e.f0 e.f1 e.f2 e.f3 e.f4 e.f5 e.f6 = some (okE e) from rfl) ?_)
  cases ok : okE e with
  | false => exact evNeg (by decide) (evPos (by unfold showE; rw [ok, tl]; rfl) (Ev.bind awake24_ev (Ev.now _)))
  | true =>
    have hp := show_pos ok
    refine evPos rfl (Ev.bind (evEq (read_ev _ (by omega)) (read_show hw ok)) (evPos rfl (evNeg (by simp [toT]) ?_)))
    rw [decide_eq_false (by omega)]
    have e1 : wrap64 (((showE e).size : Int) + 1) = ((showE e).size : Int) + 1 := by unfold wrap64; omega
    obtain ⟨r, hr, r0, r1⟩ := low_f at' (((showE e).size : Int) + 1) hat (by omega) (by omega)
    obtain ⟨n, rfl⟩ := Int.eq_ofNat_of_zero_le r0
    have zb : (strOfNums ([b] : List Int)).size = 1 := rfl
    have z1 : ((showE e).extract 0 n).size = n := by rw [ByteArray.size_extract]; omega
    have z2 : ((showE e).extract n (showE e).size).size = (showE e).size - n := by rw [ByteArray.size_extract]; omega
    have z3 : ((showE e).extract 0 n ++ strOfNums ([b] : List Int)).size = n + 1 := by rw [ByteArray.size_append, z1, zb]
    have z4 : ((showE e).extract 0 n ++ strOfNums ([b] : List Int) ++ (showE e).extract n (showE e).size).size = (showE e).size + 1 := by rw [ByteArray.size_append, z3, z2]; omega
    generalize ht : (showE e).extract 0 n ++ strOfNums ([b] : List Int) ++ (showE e).extract n (showE e).size = t at z4
    refine evSucc ?_
    simp only [lockkeeperlaw24_NoteBack.j0, Bool.false_eq_true, if_false, e1, Int.toNat_natCast]
    refine evBind hr (evPos (by omega) (evPos (by omega) (evBind rfl ?_)))
    simp only [Int.toNat_natCast]
    refine evPos (by omega) (evPos (by omega) ?_)
    simp only [ht]
    rcases readS_cases t with ⟨_, h2⟩ | ⟨_, h2, h3, h4, h5⟩
    · exact Ev.bind (evEq (read_ev t (by omega)) h2) (evNeg (by decide) (Ev.bind awake24_ev (Ev.now _)))
    · generalize ofW (splitC 32 t.data.toList) = y at h2 h3 h4 h5
      refine Ev.bind (evEq (read_ev t (by omega)) h2) (evPos rfl (evPos (differs y e fun hy => ?_) (Ev.bind (show_ev y h5) (evPos (by rw [h3]) (Ev.bind awake24_ev (Ev.now _))))))
      rw [hy] at h3
      rw [h3] at z4
      omega
end Go.Proofs.YtpkmhepoeefgkaaDoor.Pure
