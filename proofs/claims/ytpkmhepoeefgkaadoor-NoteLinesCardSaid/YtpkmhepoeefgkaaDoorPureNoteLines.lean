
/- The printed law NoteLines tells true for every row of events and every number (of the form's own reach). -/
import Derived.Test.YtpkmhepoeefgkaaDoorBENoteLines
import Derived.Test.YtpkmhepoeefgkaaDoorR1
import Derived.Test.YtpkmhepoeefgkaaDoorPr12
namespace Go.Proofs.YtpkmhepoeefgkaaDoor.Pure
open Go.RowKit Go.Proofs.YtpkmhepoeefgkaaDoor.Pr Go.Proofs.YtpkmhepoeefgkaaDoorW.PrintWords Go.Proofs.YtpkmhepoeefgkaaDoorW.PrintLast
set_option linter.unusedVariables false
set_option linter.unusedSimpArgs false

theorem wfE_of {e : EvT} (h : bT24 e) : wfE e := ⟨wf_int h.1, wf_u64 h.2.1, wf_int h.2.2.1, wf_int h.2.2.2.1, wf_int h.2.2.2.2.1, wf_int h.2.2.2.2.2.1, wf_int h.2.2.2.2.2.2⟩
theorem lines_j3 (j : Nat) (hj : j ≤ 60) (es : List EvT) (r : ST) (flag : Bool) (h : (flag = true ∧ r = (es, 0, 0) ∧ es.length = j) ∨ (flag = false ∧ r = ([], 1 + (j : Int), 3))) :
    Ev (fun k => lockkeeperlaw24_NoteLines.j3 k (j : Int) r.1 r.2.1 r.2.2 flag) true := by
  refine evSucc ?_
  rcases h with ⟨rfl, rfl, h⟩ | ⟨rfl, rfl⟩
  · simp only [lockkeeperlaw24_NoteLines.j3, if_true]
    exact evPos (by rw [h]) (Ev.bind awake24_ev (Ev.now _))
  · have e1 : wrap64 ((j : Int) + 1) = 1 + (j : Int) := by unfold wrap64; omega
    simp only [lockkeeperlaw24_NoteLines.j3, Bool.false_eq_true, if_false, e1]
    exact evPos (by simp) (evPos (by simp) (evPos (by simp) (Ev.bind awake24_ev (Ev.now _))))
theorem lines_l1 (s : ByteArray) (hs : s.size ≤ 1000000) (k : Nat) (hk : k < s.size) (fin : Ev (fun q => if 0 ≤ (k : Int) then (if (k : Int) ≤ (s.size : Int) then ((note_Split.f q (s.extract 0 ((k : Int)).toNat)).bind fun bt343 => (if (k : Int) = 0 then (lockkeeperlaw24_NoteLines.j3 q (((s.data.toList.take k).count 10 : Nat) : Int) bt343.1 bt343.2.1 bt343.2.2 true) else (if 0 ≤ (wrap64 ((k : Int) - 1)) then (if (wrap64 ((k : Int) - 1)) < (s.size : Int) then (lockkeeperlaw24_NoteLines.j3 q (((s.data.toList.take k).count 10 : Nat) : Int) bt343.1 bt343.2.1 bt343.2.2 ((bt s (wrap64 ((k : Int) - 1))) == 10)) else (none)) else (none)))) else (none)) else (none)) true) :
    ∀ n i : Nat, i + n = k → Ev (fun q => lockkeeperlaw24_NoteLines.l1 q s (k : Int) (((s.data.toList.take i).count 10 : Nat) : Int) (i : Int)) true := by
  have hz := size_len s
  intro n
  induction n with
  | zero =>
    intro i hi
    obtain rfl : i = k := by omega
    refine evSucc ?_
    simp only [lockkeeperlaw24_NoteLines.l1]
    exact evNeg (by omega) fin
  | succ n ih =>
    intro i hi
    have hlt : i < s.data.toList.length := by omega
    have e2 : wrap64 ((i : Int) + 1) = ((i + 1 : Nat) : Int) := by unfold wrap64; omega
    have hb : bt s (i : Int) = ((s.data.toList[i]).toNat : Int) := by
      rw [bt_get s i (by omega), List.getD_eq_getElem?_getD, List.getElem?_eq_getElem hlt]
      rfl
    have hc := List.count_le_length (a := (10 : UInt8)) (l := s.data.toList.take i)
    have ht : s.data.toList.take (i + 1) = s.data.toList.take i ++ [s.data.toList[i]] := by
      rw [List.take_add_one, List.getElem?_eq_getElem hlt]
      rfl
    rw [List.length_take] at hc
    have IH := ih (i + 1) (by omega)
    rw [ht, List.count_append] at IH
    refine evSucc ?_
    simp only [lockkeeperlaw24_NoteLines.l1, e2, hb]
    refine evPos (by omega) (evPos (by omega) (evPos (by omega) ?_))
    by_cases h : s.data.toList[i] = 10
    · rw [h] at IH ⊢
      rw [show List.count (10 : UInt8) [10] = 1 from rfl] at IH
      refine evPos rfl ?_
      have e3 : wrap64 (((List.count (10 : UInt8) (s.data.toList.take i) : Nat) : Int) + 1) = ((List.count (10 : UInt8) (s.data.toList.take i) + 1 : Nat) : Int) := by unfold wrap64; omega
      rw [e3]
      exact IH
    · rw [show List.count (10 : UInt8) [s.data.toList[i]] = 0 from List.count_eq_zero_of_not_mem (by simpa using fun e => h e.symm), Nat.add_zero] at IH
      exact evNeg (fun e => h (UInt8.toNat_inj.1 (show s.data.toList[i].toNat = (10 : UInt8).toNat by rw [show (10 : UInt8).toNat = 10 from rfl]; omega))) IH
theorem lines_j1 (l : List EvT) (hl : l.length ≤ 60) (hw : ∀ e ∈ l, wfE e) (ho : ∀ e ∈ l, okE e = true) (a : Int) (ha : (Lit.int .i64 a).wf = true) :
    Ev (fun k => lockkeeperlaw24_NoteLines.j1 k a (bsOf (linesT l)) false) true := by
  have hlen := linesT_length l hw
  have hsz : (bsOf (linesT l)).size = (linesT l).length := size_bsOf _
  refine evSucc ?_
  simp only [lockkeeperlaw24_NoteLines.j1, Bool.false_eq_true, if_false]
  by_cases h0 : ((bsOf (linesT l)).size : Int) = 0
  · exact evPos h0 (Ev.bind awake24_ev (Ev.now _))
  · obtain ⟨r, hr, r0, r1⟩ := low_f a ((bsOf (linesT l)).size : Int) ha (by omega) (by omega)
    obtain ⟨k, rfl⟩ := Int.eq_ofNat_of_zero_le r0
    refine evNeg h0 (evBind hr ?_)
    obtain ⟨j, x, hj, hx, hn⟩ := lines_take l k
    have hcount : (linesT l |>.take k).count 10 = j := by
      rw [hx, List.count_append, count_lines, List.count_eq_zero_of_not_mem hn, List.length_take]
      omega
    have hsplit : splitC 10 ((linesT l).take k) = (l.take j).map showL ++ [x] := by
      rw [hx, split_lines, splitC_not _ _ hn]
    have hex : ((bsOf (linesT l)).extract 0 ((k : Int)).toNat).data.toList = (linesT l).take k := by
      rw [extract_list, bsOf_data, Int.toNat_natCast]
      simp
    have hsp := split_ev ((bsOf (linesT l)).extract 0 ((k : Int)).toNat) (by rw [ByteArray.size_extract]; omega)
    rw [hex, hsplit, splitV_shows _ (fun e he => hw e (List.mem_of_mem_take he)) (fun e he => ho e (List.mem_of_mem_take he)) [x] (by simp), List.nil_append, splitV] at hsp
    have hjl : (l.take j).length = j := by rw [List.length_take]; omega
    have key := lines_l1 (bsOf (linesT l)) (by omega) k (by omega)
    rw [bsOf_data, hcount] at key
    have start := key ?_ k 0 (Nat.zero_add _)
    · rw [List.take_zero] at start
      exact start
    · have hpk : ((linesT l).take k).length = k := by rw [List.length_take]; omega
      have e1 : 0 < k → wrap64 ((k : Int) - 1) = ((k - 1 : Nat) : Int) := fun h => by unfold wrap64; omega
      refine evPos (by omega) (evPos (by omega) (Ev.bind hsp ?_))
      by_cases hx0 : x = []
      · rw [if_pos hx0]
        have j3 := fun flag hf => lines_j3 j (by omega) (l.take j) (l.take j, 0, 0) flag (.inl ⟨hf, rfl, hjl⟩)
        by_cases hk : (k : Int) = 0
        · exact evPos hk (j3 true rfl)
        · have hj0 : l.take j ≠ [] := fun e => by
            rw [e, hx0] at hx
            have := congrArg List.length hx
            rw [hpk] at this
            simp [linesT] at this
            omega
          obtain ⟨q, hq⟩ := linesT_last _ hj0
          have hb : bt (bsOf (linesT l)) ((k - 1 : Nat) : Int) = 10 := by
            have hd : (bsOf (linesT l)).data.toList = q ++ 10 :: (linesT l).drop k := by
              rw [bsOf_data]
              conv => lhs; rw [← List.take_append_drop k (linesT l), hx, hx0, hq]
              simp
            have hql : q.length = k - 1 := by
              have := congrArg List.length hx
              rw [hpk, hx0, hq] at this
              simp at this
              omega
            rw [← hql]
            exact bt_mid _ q 10 _ hd
          rw [e1 (by omega), hb]
          exact evNeg hk (evPos (by omega) (evPos (by omega) (j3 _ rfl)))
      · rw [if_neg hx0]
        have j3 := fun flag hf => lines_j3 j (by omega) (l.take j) ([], 1 + (j : Int), 3) flag (.inr ⟨hf, rfl⟩)
        rw [hjl]
        rcases List.eq_nil_or_concat x with e | ⟨x', c, e⟩
        · exact absurd e hx0
        · rw [List.concat_eq_append] at e
          have hc : c ≠ 10 := fun h => hn (by rw [e, h]; simp)
          have hlen2 : (linesT (l.take j) ++ x').length = k - 1 := by
            have := congrArg List.length hx
            rw [hpk, e] at this
            simp at this ⊢
            omega
          have hk : ¬ (k : Int) = 0 := fun h => by
            have := congrArg List.length hx
            rw [hpk, e] at this
            simp at this
            omega
          have hb : bt (bsOf (linesT l)) ((k - 1 : Nat) : Int) = (c.toNat : Int) := by
            have hd : (bsOf (linesT l)).data.toList = (linesT (l.take j) ++ x') ++ c :: (linesT l).drop k := by
              rw [bsOf_data]
              conv => lhs; rw [← List.take_append_drop k (linesT l), hx, e]
              simp
            rw [← hlen2]
            exact bt_mid _ _ c _ hd
          rw [e1 (by omega), hb, show ((c.toNat : Int) == 10) = false by simpa using fun h => hc (UInt8.toNat_inj.1 (by simpa using (by omega : c.toNat = 10)))]
          exact evNeg hk (evPos (by omega) (evPos (by omega) (j3 _ rfl)))
theorem NoteLines : ∀ (l0 : List (S24)) (a1 : Int), (l0.length ≤ maxLen ∧ ∀ x_ ∈ l0, bT24 x_) → (Lit.int .i64 a1).wf = true → ∃ k, lockkeeperlaw24_NoteLines.f k l0 a1 = some true := by
  rintro l a ⟨_, hb⟩ ha
  have hw : ∀ e ∈ l, wfE e := fun e he => wfE_of (hb e he)
  refine Ev.rounds (g := fun k => lockkeeperlaw24_NoteLines.f k l a) ?_
  unfold lockkeeperlaw24_NoteLines.f
  by_cases h : (l.length : Int) > 60
  · exact evPos h (Ev.bind awake24_ev (Ev.now _))
  · refine evNeg h ?_
    have hl : l.length ≤ 60 := by omega
    have fin : Ev (fun k => (note_Lines.f k l).bind fun bt332 => (if l.all okE = true then ((note_Split.f k bt332.1).bind fun bt335 => (if bt332.2 = 0 then (if bt335.2.2 = 0 then (if bt335.2.1 = 0 then ((lockkeeperlaw0_Events.f k l bt335.1).bind fun t340 => (lockkeeperlaw24_NoteLines.j1 k a bt332.1 (!t340))) else (lockkeeperlaw24_NoteLines.j1 k a bt332.1 true)) else (lockkeeperlaw24_NoteLines.j1 k a bt332.1 true)) else (lockkeeperlaw24_NoteLines.j1 k a bt332.1 true))) else (if bt332.1.toList = ([] : List UInt8) then (if bt332.2 = 2 then ((lockkeeperlaw24_awake.f k).bind fun t334 => (some t334)) else (some false)) else (some false)))) true := by
      refine Ev.bind (lines_ev l (by omega) hw) ?_
      cases hall : l.all okE with
      | true =>
        have ho : ∀ e ∈ l, okE e = true := fun e he => List.all_eq_true.1 hall e he
        have hlen := linesT_length l hw
        have hsp := split_ev (bsOf (linesT l)) (by rw [size_bsOf]; omega)
        have h1 := split_lines l []
        rw [List.append_nil, show splitC 10 [] = [[]] from rfl] at h1
        rw [bsOf_data, h1, splitV_shows l hw ho [[]] (by simp), List.nil_append, splitV, if_pos rfl] at hsp
        rw [if_pos rfl]
        exact evPos rfl (Ev.bind hsp (evPos rfl (evPos rfl (evPos rfl (Ev.bind (events_same l (by omega)) (lines_j1 l hl hw ho a ha))))))
      | false =>
        rw [if_neg (by decide)]
        exact evNeg (by decide) (evPos (by rw [tl]) (evPos rfl (Ev.bind awake24_ev (Ev.now _))))
    have key : ∀ n i : Nat, i + n = l.length → Ev (fun k => lockkeeperlaw24_NoteLines.l0 k l a ((l.take i).all okE) (i : Int)) true := by
      intro n
      induction n with
      | zero =>
        intro i hi
        rw [List.take_of_length_le (by omega)]
        refine evSucc ?_
        simp only [lockkeeperlaw24_NoteLines.l0]
        exact evNeg (by omega) fin
      | succ n ih =>
        intro i hi
        have hlt : i < l.length := by omega
        have e2 : wrap64 ((i : Int) + 1) = ((i + 1 : Nat) : Int) := by unfold wrap64; omega
        have hrd : rd_T24 l (i : Int) = l[i] := by simp [rd_T24, List.getD_eq_getElem?_getD, hlt]
        have IH := ih (i + 1) (by omega)
        rw [List.take_add_one, List.getElem?_eq_getElem hlt, List.all_append] at IH
        simp only [Option.toList_some, List.all_cons, List.all_nil, Bool.and_true] at IH
        refine evSucc ?_
        simp only [lockkeeperlaw24_NoteLines.l0, e2, hrd]
        refine evPos (by omega) ?_
        cases hq : (l.take i).all okE with
        | true =>
          rw [hq, Bool.true_and] at IH
          exact evPos rfl (evPos (by omega) (evBind (show note_Check.f l[i].f0 l[i].f1 l[i].f2 l[i].f3 l[i].f4 l[i].f5 l[i].f6 = some (okE l[i]) from rfl) IH))
        | false =>
          rw [hq, Bool.false_and] at IH
          exact evNeg (by decide) IH
    exact key l.length 0 (Nat.zero_add _)
end Go.Proofs.YtpkmhepoeefgkaaDoor.Pure
