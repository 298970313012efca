/- The printed law CorsOnes tells true for every three texts (each of the form's own reach). -/
import Derived.Test.YtojcceafgkdchaaP2
import Derived.Test.YtojcceafgkdchaaPr4
namespace Go.Proofs.Ytojcceafgkdchaa.Pure
open Go.RowKit Go.Proofs.Ytojcceafgkdchaa.Pr Go.Proofs.YtojcceafgkdchaaW.PrintWords Go.Proofs.YtojcceafgkdchaaW.PrintLast
set_option linter.unusedVariables false
set_option linter.unusedSimpArgs false

theorem ff : foldB sFrom sFrom = true := by decide +kernel
theorem tt : foldB sTrusts sTrusts = true := by decide +kernel
theorem ft : foldB sFrom sTrusts = false := by decide +kernel
theorem tf : foldB sTrusts sFrom = false := by decide +kernel
theorem joinS_one (x : ByteArray) : joinS [x] = x := by
  unfold joinS joinB
  simp [Lib.join, bsOf_of]
theorem joinS_two (x y : ByteArray) : (joinS [x, y]).data.toList = x.data.toList ++ ([44, 32] ++ y.data.toList) := by
  unfold joinS joinB
  rw [bsOf_data]
  simp [Lib.join, List.intercalate]
theorem joinS_nil : joinS [] = bsOf [] := by
  unfold joinS joinB
  simp [Lib.join]

theorem j0t (a0 a1 a2 : ByteArray) : Ev (fun k => lockkeeperlaw15_CorsOnes.j0 k a0 a1 a2 true) true := by
  refine evSucc ?_
  simp only [lockkeeperlaw15_CorsOnes.j0, if_true]
  exact Ev.bind awake15_ev (Ev.now _)

theorem main (a0 a1 a2 : ByteArray) (s0 : a0.size < 300) (s1 : a1.size < 300) (s2 : a2.size < 300) (e0 : trimS a0 = a0) (e1 : trimS a1 ≠ a0) (e2 : a0.data.toList ≠ ([42] : List UInt8)) (e3 : (trimS a1).data.toList ≠ ([42] : List UInt8)) :
    Ev (fun k => lockkeeperlaw15_CorsOnes.j0 k a0 a1 a2 false) true := by
  have c1 : corsS a0 false [⟨sFrom, a0⟩] = 0 := by
    simp [corsS, getS, vals, ff, e0, joinS_one, e2]
  have c2 : corsS a0 false [⟨sFrom, a1⟩] = 15 := by
    simp [corsS, getS, vals, ff, joinS_one, e3, e1]
  have c3 : corsS a0 false [⟨sFrom, a0⟩, ⟨sFrom, a0⟩] = 15 := by
    have h1 : (joinS [a0, a0]).data.toList ≠ ([42] : List UInt8) := by
      rw [joinS_two]
      intro h
      have := congrArg List.length h
      simp at this
      omega
    have h2 : joinS [a0, a0] ≠ a0 := by
      intro h
      have := congrArg (fun s : ByteArray => s.data.toList.length) h
      simp only [joinS_two] at this
      simp at this
    simp [corsS, getS, vals, ff, e0, h1, h2]
  have c4 : corsS a0 true [⟨sFrom, a0⟩] = 15 := by
    simp [corsS, getS, vals, ff, ft, e0, joinS_one, joinS_nil, bsOf]
  have c5 : corsS a0 true [⟨sFrom, a0⟩, ⟨sTrusts, a2⟩] = if (trimS a2).data.toList = ([116, 114, 117, 101] : List UInt8) then 0 else 15 := by
    simp [corsS, getS, vals, ff, ft, tt, tf, e0, joinS_one]
  have o1 : HOk [⟨sFrom, a0⟩] := ⟨by simp, fun h hh => by simp at hh; subst hh; exact ⟨by dsimp only; decide, by dsimp only; omega⟩⟩
  have o2 : HOk [⟨sFrom, a1⟩] := ⟨by simp, fun h hh => by simp at hh; subst hh; exact ⟨by dsimp only; decide, by dsimp only; omega⟩⟩
  have o3 : HOk [⟨sFrom, a0⟩, ⟨sFrom, a0⟩] := ⟨by simp, fun h hh => by simp at hh; subst hh; exact ⟨by dsimp only; decide, by dsimp only; omega⟩⟩
  have o5 : HOk [⟨sFrom, a0⟩, ⟨sTrusts, a2⟩] := ⟨by simp, fun h hh => by simp at hh; rcases hh with rfl | rfl; all_goals exact ⟨by dsimp only; decide, by dsimp only; omega⟩⟩
  refine evSucc ?_
  simp only [lockkeeperlaw15_CorsOnes.j0, Bool.false_eq_true, if_false]
  refine Ev.bind (evEq (cors_ev a0 false _ o1) c1) (evPos rfl ?_)
  refine Ev.bind (evEq (cors_ev a0 false _ o2) c2) (evPos rfl ?_)
  refine Ev.bind (evEq (cors_ev a0 false _ o3) c3) (evPos rfl ?_)
  refine Ev.bind (evEq (cors_ev a0 true _ o1) c4) (evPos rfl ?_)
  refine Ev.bind (evEq (cors_ev a0 true _ o5) c5) (Ev.bind (trim_ev a2 (by omega)) (evPos ?_ (Ev.bind awake15_ev (Ev.now _))))
  rw [tl]
  by_cases h : (trimS a2).data.toList = ([116, 114, 117, 101] : List UInt8)
  · rw [if_pos h, h]; rfl
  · rw [if_neg h]
    simp [h]

theorem CorsOnes : lockkeeperlaw15_CorsOnes.Pure := by
  intro a0 a1 a2 _ _ _
  refine Ev.rounds (g := fun k => lockkeeperlaw15_CorsOnes.f k a0 a1 a2) ?_
  unfold lockkeeperlaw15_CorsOnes.f
  refine Ev.bind (long_ev 300 [a0, a1, a2] (by omega) (by omega) (by simp)) ?_
  cases hL : longS 300 [a0, a1, a2] with
  | true => exact evPos rfl (j0t a0 a1 a2)
  | false =>
    have hs := longS_size _ _ hL
    have s0 := hs a0 (by simp)
    have s1 := hs a1 (by simp)
    have s2 := hs a2 (by simp)
    refine evNeg (by decide) (Ev.bind (trim_ev a0 (by omega)) ?_)
    by_cases e0 : trimS a0 = a0
    · refine evPos ((tl_eq _ _).2 e0) (Ev.bind (trim_ev a1 (by omega)) ?_)
      by_cases e1 : trimS a1 = a0
      · exact evPos ((tl_eq _ _).2 e1) (j0t a0 a1 a2)
      · refine evNeg (fun h => e1 ((tl_eq _ _).1 h)) ?_
        rw [tl, tl]
        by_cases e2 : a0.data.toList = ([42] : List UInt8)
        · exact evPos e2 (j0t a0 a1 a2)
        · refine evNeg e2 ?_
          by_cases e3 : (trimS a1).data.toList = ([42] : List UInt8)
          · rw [e3]
            exact j0t a0 a1 a2
          · have : ((trimS a1).data.toList == ([42] : List UInt8)) = false := by simpa using e3
            rw [this]
            exact main a0 a1 a2 (by omega) (by omega) (by omega) e0 e1 e2 e3
    · exact evNeg (fun h => e0 ((tl_eq _ _).1 h)) (j0t a0 a1 a2)
end Go.Proofs.Ytojcceafgkdchaa.Pure
