/- The printed law CorsOthers tells true for every text, bool, row of headers, header and number (of the form's own reach). -/
import Derived.Test.YtojcceafgkdchaaP3
import Derived.Test.YtojcceafgkdchaaR1
import Derived.Test.YtojcceafgkdchaaPr6
namespace Go.Proofs.Ytojcceafgkdchaa.Pure
open Go.RowKit Go.Proofs.Ytojcceafgkdchaa.Pr Go.Proofs.YtojcceafgkdchaaW.PrintWords Go.Proofs.YtojcceafgkdchaaW.PrintLast
set_option linter.unusedVariables false
set_option linter.unusedSimpArgs false

theorem vals_insert (l : List Hd) (h : Hd) (n : Nat) (name : ByteArray) (hn : foldB h.f0 name = false) : vals (l.take n ++ [h] ++ l.drop n) name = vals l name := by
  rw [vals_append, vals_append]
  have : vals [h] name = [] := by simp [vals, hn]
  rw [this, List.append_nil, ← vals_append, List.take_append_drop]

theorem CorsOthers : ∀ (a0 : ByteArray) (a1 : Bool) (l2 : List (S26)) (x3 : S26) (a4 : Int), a0.size ≤ 140737488351232 → (l2.length ≤ maxLen ∧ ∀ x_ ∈ l2, bT26 x_) → (bT26 x3) → (Lit.int .i64 a4).wf = true → ∃ k, lockkeeperlaw15_CorsOthers.f k a0 a1 l2 x3.f0 x3.f1 a4 = some true := by
  intro o c l h n _ _ _ hn
  obtain ⟨h0, h1⟩ := h
  dsimp only
  refine Ev.rounds (g := fun k => lockkeeperlaw15_CorsOthers.f k o c l h0 h1 n) ?_
  have aw : Ev (fun k => (lockkeeperlaw15_awake.f k).bind fun t => some t) true := Ev.bind awake15_ev (Ev.now _)
  have jt : Ev (fun k => lockkeeperlaw15_CorsOthers.j0 k o c l n true h0 h1) true := by
    refine evSucc ?_
    simp only [lockkeeperlaw15_CorsOthers.j0, if_true]
    exact aw
  unfold lockkeeperlaw15_CorsOthers.f
  refine Ev.bind (long_ev 700 [o] (by omega) (by omega) (by simp)) ?_
  cases hL : longS 700 [o] with
  | true => exact evPos rfl jt
  | false =>
    have s0 := longS_size _ _ hL o (by simp)
    obtain ⟨b, hb, hB⟩ := great_ev l
    refine evNeg (by decide) (Ev.bind hb ?_)
    cases b with
    | true => exact evPos rfl jt
    | false =>
      obtain ⟨d, hd, hD⟩ := great_ev [⟨h0, h1⟩]
      refine evNeg (by decide) (Ev.bind hd ?_)
      cases d with
      | true => exact evPos rfl jt
      | false =>
        have hl := hB rfl
        have hh := (hD rfl).2 ⟨h0, h1⟩ (by simp)
        dsimp only at hh
        refine evNeg (by decide) (evBind (fold_f h0 sFrom (by omega) (by decide)) ?_)
        cases f1 : foldB h0 sFrom with
        | true => exact evPos rfl jt
        | false =>
          refine evNeg (by decide) (evBind (fold_f h0 sTrusts (by omega) (by decide)) ?_)
          cases f2 : foldB h0 sTrusts with
          | true => exact jt
          | false =>
            have hl1 := hl.1
            obtain ⟨r, hr, r0, r1⟩ := low_f n ((l.length : Int) + 1) hn (by omega) (by omega)
            have ew : wrap64 ((l.length : Int) + 1) = (l.length : Int) + 1 := by unfold wrap64; omega
            refine evSucc ?_
            simp only [lockkeeperlaw15_CorsOthers.j0, Bool.false_eq_true, if_false]
            rw [ew]
            refine evBind hr (evPos r0 (evPos (by omega) ?_))
            obtain ⟨q, rfl⟩ := Int.eq_ofNat_of_zero_le r0
            simp only [Int.toNat_natCast, Option.bind_some, List.nil_append]
            have ht : (l.take q).length ≤ 40 := by rw [List.length_take]; omega
            have hdr : (l.drop q).length ≤ 40 := by rw [List.length_drop]; omega
            refine evPos (by simp only [List.length_nil]; omega) (evPos (by simp only [List.length_cons, List.length_nil]; omega) (evPos (by rw [List.length_append]; simp only [List.length_cons, List.length_nil]; omega) ?_))
            have hm : HOk (l.take q ++ [⟨h0, h1⟩] ++ l.drop q) := by
              refine ⟨by simp; omega, fun x hx => ?_⟩
              rcases List.mem_append.1 hx with hx | hx
              · rcases List.mem_append.1 hx with hx | hx
                · have := hl.2 x (List.mem_of_mem_take hx); omega
                · rw [List.mem_singleton.1 hx]; dsimp only; omega
              · have := hl.2 x (List.mem_of_mem_drop hx); omega
            refine Ev.bind (cors_ev o c _ hm) (Ev.bind (cors_ev o c l hl.ok) (evPos ?_ aw))
            unfold corsS getS
            rw [vals_insert l ⟨h0, h1⟩ q sFrom f1, vals_insert l ⟨h0, h1⟩ q sTrusts f2]
end Go.Proofs.Ytojcceafgkdchaa.Pure
