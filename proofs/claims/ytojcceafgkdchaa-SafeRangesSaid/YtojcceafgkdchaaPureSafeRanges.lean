/- The printed law SafeRanges tells true for every three whole numbers (of the form's own reach). -/
import Derived.Test.YtojcceafgkdchaaP7
import Derived.Test.YtojcceafgkdchaaPr13
import Derived.Test.YtojcceafgkdchaaPr5
namespace Go.Proofs.Ytojcceafgkdchaa.Pure
open Go.RowKit Go.Proofs.Ytojcceafgkdchaa.Pr Go.Proofs.YtojcceafgkdchaaW.PrintWords Go.Proofs.YtojcceafgkdchaaW.PrintLast
set_option linter.unusedVariables false
set_option linter.unusedSimpArgs false

theorem wf_u64 {b : Int} (hb : (Lit.int .u64 b).wf = true) : 0 ≤ b ∧ b ≤ 18446744073709551615 := by
  have h : IntKind.u64.min ≤ b ∧ b ≤ IntKind.u64.max := by simpa [Lit.wf] using hb
  rw [show IntKind.u64.min = 0 from rfl, show IntKind.u64.max = 18446744073709551615 from rfl] at h
  exact h
def zn (z n : Nat) : Bs := List.replicate z 48 ++ numL n
theorem zn_chars (z n : Nat) : ∀ c ∈ zn z n, isNum c := by
  intro c hc
  rcases List.mem_append.1 hc with hc | hc
  · rw [List.eq_of_mem_replicate hc]; unfold isNum; decide
  · exact numL_chars n c hc
theorem num_not (l : Bs) (h : ∀ c ∈ l, isNum c) : (45 : UInt8) ∉ l := by
  intro hm
  have := h 45 hm
  unfold isNum at this
  revert this
  decide
theorem num_blank (c : UInt8) (h : isNum c) : isBl c = false := by
  unfold isNum at h
  unfold isBl
  have h1 : ∀ d : UInt8, d.toNat < 48 → (c == d) = false := by
    intro d hd
    simp only [beq_eq_false_iff_ne]
    intro e
    rw [e] at h
    omega
  rw [h1 9 (by decide), h1 10 (by decide), h1 13 (by decide), h1 32 (by decide)]
  rfl
theorem SafeRanges : lockkeeperlaw7_SafeRanges.Pure := by
  intro a b z w0 w1 w2
  refine Ev.rounds (g := fun k => lockkeeperlaw7_SafeRanges.f k a b z) ?_
  unfold lockkeeperlaw7_SafeRanges.f
  have ha := wf_u64 w0
  have hb := wf_u64 w1
  obtain ⟨z, hz, z0, z1⟩ := low_f z 4 w2 (by omega) (by omega)
  obtain ⟨z, rfl⟩ := Int.eq_ofNat_of_zero_le z0
  obtain ⟨a, rfl⟩ := Int.eq_ofNat_of_zero_le ha.1
  obtain ⟨b, rfl⟩ := Int.eq_ofNat_of_zero_le hb.1
  have la := numL_length 19 a (by omega)
  have lb := numL_length 19 b (by omega)
  have sa : (bsOf (numL a)).size = (numL a).length := size_bsOf _
  have sb : (bsOf (numL b)).size = (numL b).length := size_bsOf _
  have sz : (repS z 48).size = z := repS_size z 48
  have s6 : ((⟨#[98, 121, 116, 101, 115, 61]⟩ : ByteArray)).size = 6 := rfl
  have s6' : ((⟨#[66, 121, 116, 101, 115, 61]⟩ : ByteArray)).size = 6 := rfl
  have s7 : ((⟨#[98, 121, 116, 101, 115, 61, 45]⟩ : ByteArray)).size = 7 := rfl
  have s1 : ((⟨#[45]⟩ : ByteArray)).size = 1 := rfl
  refine evBind hz (Ev.bind (text_ev z 48 (by omega)) (Ev.bind (num_ev a (by omega)) ?_))
  have m1 := ByteArray.size_append (a := repS z 48) (b := bsOf (numL a))
  have m2 := ByteArray.size_append (a := (⟨#[98, 121, 116, 101, 115, 61]⟩ : ByteArray)) (b := repS z 48 ++ bsOf (numL a))
  have m3 := ByteArray.size_append (a := (⟨#[98, 121, 116, 101, 115, 61]⟩ : ByteArray) ++ (repS z 48 ++ bsOf (numL a))) (b := (⟨#[45]⟩ : ByteArray))
  have m4 := ByteArray.size_append (a := (⟨#[98, 121, 116, 101, 115, 61]⟩ : ByteArray) ++ (repS z 48 ++ bsOf (numL a)) ++ (⟨#[45]⟩ : ByteArray)) (b := bsOf (numL b))
  have m5 := ByteArray.size_append (a := (⟨#[98, 121, 116, 101, 115, 61, 45]⟩ : ByteArray)) (b := bsOf (numL b))
  have m6 := ByteArray.size_append (a := (⟨#[66, 121, 116, 101, 115, 61]⟩ : ByteArray)) (b := repS z 48 ++ bsOf (numL a))
  have m7 := ByteArray.size_append (a := (⟨#[66, 121, 116, 101, 115, 61]⟩ : ByteArray) ++ (repS z 48 ++ bsOf (numL a))) (b := (⟨#[45]⟩ : ByteArray))
  refine evPos (by omega) (Ev.bind (num_ev b (by omega)) (evPos (by omega) (evPos (by omega) (evPos (by omega) ?_))))
  have hxd := num_not _ (zn_chars z a)
  have d1 : digL (zn z a) = ((a : Int), true) := digL_num z a (by omega)
  have d2 : digL (numL b) = ((b : Int), true) := digL_num 0 b (by omega)
  have r1 : rangeS ((⟨#[98, 121, 116, 101, 115, 61]⟩ : ByteArray) ++ (repS z 48 ++ bsOf (numL a)) ++ (⟨#[45]⟩ : ByteArray) ++ bsOf (numL b)) = decide ((b : Int) ≥ (a : Int)) := by
    rw [range_full _ (zn z a) (numL b) (by simp only [append_list, bsOf_data, repS_data, zn]; simp) hxd, d1, d2, if_pos rfl, if_neg (numL_ne b), if_pos rfl]
  have r2 : rangeS ((⟨#[98, 121, 116, 101, 115, 61]⟩ : ByteArray) ++ (repS z 48 ++ bsOf (numL a)) ++ (⟨#[45]⟩ : ByteArray)) = true := by
    rw [range_full _ (zn z a) [] (by simp only [append_list, bsOf_data, repS_data, zn]; simp) hxd, d1, if_pos rfl, if_pos rfl]
  have r3 : rangeS ((⟨#[98, 121, 116, 101, 115, 61, 45]⟩ : ByteArray) ++ bsOf (numL b)) = false := by
    rw [range_full _ [] (numL b) (by simp only [append_list, bsOf_data]; simp) (by simp), digL_nil, if_neg (by decide)]
  have r4 : rangeS ((⟨#[98, 121, 116, 101, 115, 61]⟩ : ByteArray) ++ (repS z 48 ++ bsOf (numL a))) = false := by
    rw [range_whole _ (zn z a) (by simp only [append_list, bsOf_data, repS_data, zn]) hxd]
  have r5 : rangeS ((⟨#[66, 121, 116, 101, 115, 61]⟩ : ByteArray) ++ (repS z 48 ++ bsOf (numL a)) ++ (⟨#[45]⟩ : ByteArray)) = false := by
    refine range_other _ ?_
    rw [append_list, append_list]
    simp
  have hnb : ∀ c ∈ ((⟨#[98, 121, 116, 101, 115, 61]⟩ : ByteArray) ++ (repS z 48 ++ bsOf (numL a)) ++ (⟨#[45]⟩ : ByteArray) ++ bsOf (numL b)).data.toList, isBl c = false := by
    intro c hc
    simp only [append_list, List.mem_append] at hc
    rcases hc with ((hc | hc | hc) | hc) | hc
    · have : ∀ d ∈ ((⟨#[98, 121, 116, 101, 115, 61]⟩ : ByteArray)).data.toList, isBl d = false := by decide
      exact this c hc
    · exact num_blank c (zn_chars z a c (List.mem_append_left _ hc))
    · exact num_blank c (zn_chars z a c (List.mem_append_right _ hc))
    · have : ∀ d ∈ ((⟨#[45]⟩ : ByteArray)).data.toList, isBl d = false := by decide
      exact this c hc
    · exact num_blank c (numL_chars b c hc)
  have r6 : safeS (⟨#[82, 65, 78, 71, 69]⟩ : ByteArray) ((⟨#[98, 121, 116, 101, 115, 61]⟩ : ByteArray) ++ (repS z 48 ++ bsOf (numL a)) ++ (⟨#[45]⟩ : ByteArray) ++ bsOf (numL b)) = decide ((b : Int) ≥ (a : Int)) := by
    have e : (lowB (⟨#[82, 65, 78, 71, 69]⟩ : ByteArray)).toList = ([114, 97, 110, 103, 101] : List UInt8) := by rw [tl]; rfl
    unfold safeS
    rw [trimS_none _ hnb, e, if_neg (by omega), if_neg (by decide), if_neg (by decide)]
    unfold jointS
    rw [e, if_neg (by decide), if_neg (by decide), if_pos rfl]
    exact r1
  refine Ev.bind (evEq (range_ev _ (by omega)) r1) (evPos (by simp) (Ev.bind (evEq (range_ev _ (by omega)) r2) (evPos rfl (evPos (by omega) ?_))))
  refine Ev.bind (evEq (range_ev _ (by omega)) r3) (evNeg (by decide) (Ev.bind (evEq (range_ev _ (by omega)) r4) (evNeg (by decide) (evPos (by omega) ?_))))
  refine Ev.bind (evEq (range_ev _ (by omega)) r5) (evNeg (by decide) (Ev.bind (evEq (header_ev _ _ (by decide) (by omega)) r6) (evPos (by simp) (Ev.bind awake7_ev (Ev.now _)))))
end Go.Proofs.Ytojcceafgkdchaa.Pure
