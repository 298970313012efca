/- The printed law AllowAges tells true for every number, every count of noughts and every text (of the form's own reach). -/
import Derived.Test.YtojcceafgkdchaaDoorD6
import Derived.Test.YtojcceafgkdchaaDoorPr17
namespace Go.Proofs.YtojcceafgkdchaaDoor.Pure
open Go.RowKit Go.Proofs.YtojcceafgkdchaaDoor.Pr Go.Proofs.YtojcceafgkdchaaDoorW.PrintWords Go.Proofs.YtojcceafgkdchaaDoorW.PrintLast
set_option linter.unusedVariables false
set_option linter.unusedSimpArgs false

theorem wf_u64 {b : Int} (hb : (Lit.int .u64 b).wf = true) : 0 ≤ b ∧ b ≤ 18446744073709551615 := by
  have h : IntKind.u64.min ≤ b ∧ b ≤ IntKind.u64.max := by simpa [Lit.wf] using hb
  rw [show IntKind.u64.min = 0 from rfl, show IntKind.u64.max = 18446744073709551615 from rfl] at h
  exact h
theorem get_none (v : ByteArray) (name : ByteArray) (h : foldB sAge name = false) : getS [⟨sAge, v⟩] name = (⟨#[]⟩, false) := by
  have : vals [⟨sAge, v⟩] name = [] := by simp [vals, h]
  unfold getS
  rw [this]
  rfl
theorem get_one (v : ByteArray) : getS [⟨sAge, v⟩] sAge = (trimS v, true) := by
  have : vals [⟨sAge, v⟩] sAge = [trimS v] := by simp [vals, foldB_refl]
  unfold getS
  rw [this]
  simp [joinS, joinB, Lib.join, bsOf_of]
theorem read_age (v : ByteArray) : readS [⟨sAge, v⟩] = ([], [], (if (digS (trimS v)).2 = true then mn (digS (trimS v)).1 7200 else 5), 0) := by
  have h1 : toksS [⟨sAge, v⟩] sMeths = ([], true) := by
    unfold toksS
    rw [get_none v sMeths (by decide +kernel)]
    rfl
  have h2 : toksS [⟨sAge, v⟩] sHeads = ([], true) := by
    unfold toksS
    rw [get_none v sHeads (by decide +kernel)]
    rfl
  unfold readS
  rw [h1, h2, get_one]
  unfold ageS
  rw [trimS_idem]
  rfl
theorem AllowAges : ∀ (a0 : Int) (a1 : Int) (a2 : ByteArray), (Lit.int .u64 a0).wf = true → (Lit.int .i64 a1).wf = true → a2.size ≤ 140737488351232 → ∃ k, lockkeeperlaw14_AllowAges.f k a0 a1 a2 = some true := by
  intro a0 a1 s h0 h1 h2
  refine Ev.rounds (g := fun k => lockkeeperlaw14_AllowAges.f k a0 a1 s) ?_
  unfold lockkeeperlaw14_AllowAges.f
  refine Ev.bind (long_ev 30 [s] (by omega) (by omega) (by simp)) ?_
  cases hL : longS 30 [s] with
  | true => exact evPos rfl (Ev.bind awake14_ev (Ev.now _))
  | false =>
    have hs := longS_size _ _ hL s (by simp)
    obtain ⟨r, hr, r0, r9⟩ := low_f a1 9 h1 (by omega) (by omega)
    obtain ⟨z, rfl⟩ := Int.eq_ofNat_of_zero_le r0
    have hw := wf_u64 h0
    obtain ⟨n, rfl⟩ := Int.eq_ofNat_of_zero_le hw.1
    have hn : n < 18446744073709551616 := by omega
    have hl := numL_length 19 n (by omega)
    have hz := repS_size z 48
    have hsp : ((⟨#[32]⟩ : ByteArray) ++ repS z 48).size = 1 + z := by rw [ByteArray.size_append, hz]; rfl
    have hnum : (bsOf (numL n)).size = (numL n).length := size_bsOf _
    refine evNeg (by decide) (evBind hr (Ev.bind (text_ev z 48 (by omega)) (evPos (by omega) (Ev.bind (num_ev n hn) (evPos (by omega) ?_)))))
    have hv : trimS (((⟨#[32]⟩ : ByteArray) ++ repS z 48) ++ bsOf (numL n)) = bsOf (List.replicate z 48 ++ numL n) := by
      apply ba_ext
      unfold trimS
      rw [bsOf_data, bsOf_data, append_list, append_list, repS_data, bsOf_data]
      have hb : ∀ c ∈ List.replicate z (48 : UInt8) ++ numL n, isBl c = false := by
        intro c hc
        rcases List.mem_append.1 hc with hc | hc
        · rw [List.eq_of_mem_replicate hc]; decide
        · have := numL_chars n c hc
          unfold isNum at this
          have h9 : ∀ d : UInt8, d.toNat < 48 → (c == d) = false := by
            intro d hd
            simp only [beq_eq_false_iff_ne]
            intro e
            subst e
            omega
          unfold isBl
          rw [h9 9 (by decide), h9 10 (by decide), h9 13 (by decide), h9 32 (by decide)]
          rfl
      have e : trimL ([32] ++ List.replicate z (48 : UInt8) ++ numL n) = trimL (List.replicate z (48 : UInt8) ++ numL n) := by
        unfold trimL
        rw [show [32] ++ List.replicate z (48 : UInt8) ++ numL n = 32 :: (List.replicate z (48 : UInt8) ++ numL n) from rfl, List.dropWhile_cons, if_pos (by decide)]
      exact e.trans (trim_none _ hb)
    have hd : digS (trimS (((⟨#[32]⟩ : ByteArray) ++ repS z 48) ++ bsOf (numL n))) = ((n : Int), true) := by
      rw [hv, digS_L, bsOf_data]
      exact digL_num z n hn
    have hT : ∀ v : ByteArray, v.size ≤ 100000 → HT [⟨sAge, v⟩] := fun v hv => ⟨by simp, fun h hh => by rw [List.mem_singleton.1 hh]; exact ⟨by show sAge.size ≤ 100000; decide, hv⟩⟩
    have r1 := read_age (((⟨#[32]⟩ : ByteArray) ++ repS z 48) ++ bsOf (numL n))
    rw [hd] at r1
    refine Ev.bind (evEq (read_ev _ (hT _ (by rw [ByteArray.size_append, hsp, hnum]; omega))) r1) (Ev.bind (evEq (read_ev _ (hT s (by omega))) (read_age s)) ?_)
    have ht := trimS_size s
    refine Ev.bind (trim_ev s (by omega)) (Ev.bind (digits_ev _ (by omega)) ?_)
    by_cases h : (digS (trimS s)).2 = true
    · refine evPos h (evPos rfl (evPos rfl (evPos rfl (evPos ?_ (Ev.bind awake14_ev (Ev.now _))))))
      show (if (digS (trimS s)).2 = true then mn (digS (trimS s)).1 7200 else 5) = _
      rw [if_pos h]
    · refine evNeg h (evPos rfl (evPos rfl (evPos rfl (evPos ?_ (Ev.bind awake14_ev (Ev.now _))))))
      show (if (digS (trimS s)).2 = true then mn (digS (trimS s)).1 7200 else 5) = _
      rw [if_neg h]
      rfl
end Go.Proofs.YtojcceafgkdchaaDoor.Pure
