/- The printed law SafeSizes tells true for every three whole numbers (of the form's own reach). -/
import Derived.Test.YtojcceafgkdchaaP5
import Derived.Test.YtojcceafgkdchaaPr19
import Derived.Test.YtojcceafgkdchaaPr5
namespace Go.Proofs.Ytojcceafgkdchaa.Pure
open Go.RowKit Go.Proofs.Ytojcceafgkdchaa.Pr Go.Proofs.YtojcceafgkdchaaW.PrintWords Go.Proofs.YtojcceafgkdchaaW.PrintLast
set_option linter.unusedVariables false
set_option linter.unusedSimpArgs false

def sAccept : ByteArray := (⟨#[97, 99, 99, 101, 112, 116]⟩ : ByteArray)
def sLang : ByteArray := (⟨#[65, 99, 99, 101, 112, 116, 45, 76, 97, 110, 103, 117, 97, 103, 101]⟩ : ByteArray)
def hA : Hd := ⟨sAccept, repS 128 97⟩
def hL (d : Nat) : Hd := ⟨sLang, repS d 98⟩
theorem byteA : (safe_Byte.f 97).getD false = true := by decide +kernel
theorem wordB : (safe_word.f 98).getD false = true := by decide +kernel
theorem allByte_rep (n : Nat) : allByte (repS n 97) = true := by
  unfold allByte
  rw [bytesOf_rep, List.all_eq_true]
  intro x hx
  rw [List.eq_of_mem_replicate hx]
  exact byteA
theorem allWord_rep (n : Nat) : allWord (repS n 98) = true := by
  unfold allWord
  rw [bytesOf_rep, List.all_eq_true]
  intro x hx
  rw [List.eq_of_mem_replicate hx]
  exact wordB
theorem lowAccept : (lowB sAccept).toList = ([97, 99, 99, 101, 112, 116] : List UInt8) := by rw [tl]; rfl
theorem lowLang : (lowB sLang).toList = ([97, 99, 99, 101, 112, 116, 45, 108, 97, 110, 103, 117, 97, 103, 101] : List UInt8) := by rw [tl]; rfl
theorem safe_accept (n : Nat) : safeS sAccept (repS n 97) = decide ((n : Int) ≤ 128) := by
  unfold safeS
  rw [trimS_rep n 97 (by decide), repS_size, lowAccept, allByte_rep]
  by_cases h : (n : Int) > 128
  · rw [if_pos h]; simp; omega
  · rw [if_neg h, if_pos rfl]; simp; omega
theorem safe_lang (d : Nat) (hd : d ≤ 128) : safeS sLang (repS d 98) = true := by
  unfold safeS
  rw [trimS_rep d 98 (by decide), repS_size, lowLang]
  rw [if_neg (by omega), if_neg (by decide), if_pos rfl]
  unfold jointS
  rw [allWord_rep]
  rfl
theorem hA_safe : hsafe hA = true := by
  unfold hsafe
  exact safe_accept 128
theorem hL_safe (d : Nat) (hd : d ≤ 128) : hsafe (hL d) = true := safe_lang d hd
theorem filt_rep (c : Nat) : (List.replicate c hA).filter hsafe = List.replicate c hA := List.filter_eq_self.2 fun x hx => by rw [List.eq_of_mem_replicate hx]; exact hA_safe
theorem total_rep (c d : Nat) (hd : d ≤ 128) : totalN (List.replicate c hA ++ [hL d]) = 128 * c + d := by
  have h1 : totalN (List.replicate c hA) = 128 * c := by
    unfold totalN
    rw [filt_rep, List.map_replicate, List.sum_replicate_nat]
    rw [show hA.f1 = repS 128 97 from rfl, trimS_rep 128 97 (by decide), repS_size]
    omega
  have h2 : totalN [hL d] = d := by
    unfold totalN
    rw [show [hL d].filter hsafe = [hL d] by simp [hL_safe d hd]]
    rw [List.map_singleton, List.sum_singleton]
    rw [show (hL d).f1 = repS d 98 from rfl, trimS_rep d 98 (by decide), repS_size]
  rw [totalN_append, h1, h2]
theorem unsafe_rep (c d : Nat) (hd : d ≤ 128) : unsafeN (List.replicate c hA ++ [hL d]) = [] := by
  unfold unsafeN
  rw [List.filter_eq_nil_iff.2]
  · rfl
  · intro x hx
    rcases List.mem_append.1 hx with hx | hx
    · rw [List.eq_of_mem_replicate hx, hA_safe]; decide
    · rw [List.mem_singleton.1 hx, hL_safe d hd]; decide
theorem safe_rep (c d : Nat) (hd : d ≤ 128) : safeN (List.replicate c hA ++ [hL d]) = List.replicate c (lowB sAccept) ++ [lowB sLang] := by
  unfold safeN lowN
  rw [List.filter_append, filt_rep, show [hL d].filter hsafe = [hL d] by simp [hL_safe d hd]]
  rw [List.map_append, List.map_replicate]
  rfl
theorem rise_two (c : Nat) (hc : 0 < c) : riseB (List.replicate c (lowB sAccept) ++ [lowB sLang]) = [lowB sAccept, lowB sLang] := by
  unfold riseB
  have : riseL (lists (List.replicate c (lowB sAccept) ++ [lowB sLang])) = [(lowB sAccept).data.toList, (lowB sLang).data.toList] := by
    refine rises_eq (riseL_rises _) ?_ fun x => ?_
    · have : (lowB sAccept).data.toList < (lowB sLang).data.toList := by decide
      simpa [Rises] using this
    · rw [riseL_mem]
      simp only [lists, List.map_append, List.map_replicate, List.map_singleton, List.mem_append, List.mem_replicate, List.mem_cons, List.not_mem_nil, or_false]
      constructor
      · rintro (⟨_, h⟩ | h)
        · exact .inl h
        · exact .inr h
      · rintro (h | h)
        · exact .inl ⟨by omega, h⟩
        · exact .inr h
  rw [this]
  simp [bsOf_of]

theorem SafeSizes_end (c d : Nat) (hc : c < 12) (hd : d ≤ 128) : Ev (fun k => lockkeeperlaw7_SafeSizes.l0 k (c : Int) (d : Int) (List.replicate c hA) (c : Int)) true := by
  refine evSucc ?_
  simp only [lockkeeperlaw7_SafeSizes.l0]
  refine evNeg (by omega) (Ev.bind (text_ev d 98 (by omega)) (evPos (by simp; omega) ?_))
  have hok : HOk (List.replicate c hA ++ [hL d]) := by
    refine ⟨by simp; omega, fun x hx => ?_⟩
    rcases List.mem_append.1 hx with hx | hx
    · rw [List.eq_of_mem_replicate hx]
      exact ⟨by decide, by show (repS 128 97).size ≤ _; rw [repS_size]; omega⟩
    · rw [List.mem_singleton.1 hx]
      exact ⟨by show sLang.size ≤ _; decide, by show (repS d 98).size ≤ _; rw [repS_size]; omega⟩
  have ht := total_rep c d hd
  have hu := unsafe_rep c d hd
  have hs := safe_rep c d hd
  have ew : wrap64 (wrap64 (128 * (c : Int)) + (d : Int)) = ((128 * c + d : Nat) : Int) := by unfold wrap64; omega
  rw [ew]
  have aw : Ev (fun k => (lockkeeperlaw7_awake.f k).bind fun t => some t) true := Ev.bind awake7_ev (Ev.now _)
  by_cases hg : ((128 * c + d : Nat) : Int) ≤ 1024
  · have e : snames (List.replicate c hA ++ [hL d]) = [] := by
      unfold snames
      rw [ht, hu, if_neg (by omega)]
      exact List.eq_nil_of_length_eq_zero (Nat.le_zero.1 (riseB_length []))
    exact Ev.bind (evEq (snames_ev _ hok) e) (evPos hg (evPos (by simp) aw))
  · have e : snames (List.replicate c hA ++ [hL d]) = [lowB sAccept, lowB sLang] := by
      unfold snames
      rw [ht, hu, hs, if_pos (by omega), List.nil_append]
      exact rise_two c (by omega)
    refine Ev.bind (evEq (snames_ev _ hok) e) (evNeg hg (evPos (by simp) (evPos (by simp) (evPos ?_ (evPos (by simp) (evPos ?_ aw))))))
    · exact lowAccept
    · exact lowLang
theorem SafeSizes_l0 (c d : Nat) (hc : c < 12) (hd : d ≤ 128) : ∀ n i, i + n = c → Ev (fun k => lockkeeperlaw7_SafeSizes.l0 k (c : Int) (d : Int) (List.replicate i hA) (i : Int)) true := by
  intro n
  induction n with
  | zero =>
    intro i hi
    have : i = c := by omega
    rw [this]
    exact SafeSizes_end c d hc hd
  | succ n ih =>
    intro i hi
    have e2 : wrap64 ((i : Int) + 1) = ((i + 1 : Nat) : Int) := by unfold wrap64; omega
    refine evSucc ?_
    simp only [lockkeeperlaw7_SafeSizes.l0, e2]
    refine evPos (by omega) (Ev.bind (text_ev 128 97 (by omega)) (evPos (by simp; omega) ?_))
    have := ih (i + 1) (by omega)
    rw [List.replicate_succ'] at this
    exact this

theorem SafeSizes : lockkeeperlaw7_SafeSizes.Pure := by
  intro a0 a1 a2 w0 w1 w2
  refine Ev.rounds (g := fun k => lockkeeperlaw7_SafeSizes.f k a0 a1 a2) ?_
  unfold lockkeeperlaw7_SafeSizes.f
  obtain ⟨n, hn, n0, n1⟩ := low_f a0 200 w0 (by omega) (by omega)
  obtain ⟨c, hc, c0, c1⟩ := low_f a1 12 w1 (by omega) (by omega)
  obtain ⟨d, hd, d0, d1⟩ := low_f a2 129 w2 (by omega) (by omega)
  obtain ⟨n, rfl⟩ := Int.eq_ofNat_of_zero_le n0
  obtain ⟨c, rfl⟩ := Int.eq_ofNat_of_zero_le c0
  obtain ⟨d, rfl⟩ := Int.eq_ofNat_of_zero_le d0
  refine evBind hn (Ev.bind (text_ev n 97 (by omega)) (Ev.bind (header_ev sAccept (repS n 97) (by decide) (by rw [repS_size]; omega)) ?_))
  rw [safe_accept]
  refine evNeg (by simp) (evBind hc (evBind hd ?_))
  have := SafeSizes_l0 c d (by omega) (by omega) c 0 (by omega)
  simpa using this
end Go.Proofs.Ytojcceafgkdchaa.Pure
