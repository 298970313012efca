/- The printed law OctetDigits tells true for every four whole numbers (of the form's own reach). -/
import Derived.Test.YtojcceafgkdchaaDoorD2
import Derived.Test.YtojcceafgkdchaaDoorPr13
namespace Go.Proofs.YtojcceafgkdchaaDoor.Pure
open Go.RowKit Go.Proofs.YtojcceafgkdchaaDoor.Pr Go.Proofs.YtojcceafgkdchaaDoorW.PrintWords Go.Proofs.YtojcceafgkdchaaDoorW.PrintLast
set_option linter.unusedVariables false
set_option linter.unusedSimpArgs false

theorem digGo_not (p : Bs) (c : UInt8) (r : Bs) (hc : isDig c = false) : ∀ n, digGo n (p ++ c :: r) = none := by
  induction p with
  | nil => intro n; simp [digGo, hc]
  | cons b p ih =>
    intro n
    rw [List.cons_append, digGo]
    cases isDig b with
    | true => simpa using ih (digStep n b)
    | false => simp
theorem od_low (a n : Int) (h1 : 1 ≤ n) (h2 : n ≤ 9223372036854775807) (ha : (Lit.int .i64 a).wf = true) : ∃ r, lockkeeperlaw0_Low.f a n = some r ∧ 0 ≤ r ∧ r < n := low_f a n ha h1 h2

theorem OctetDigits_j1 (by_ : Int) (s : ByteArray) (k0 : Nat) (hs : s.size ≤ 1000) (hk : k0 ≤ s.size) (hb : 0 ≤ by_ ∧ by_ ≤ 255) (x : Bool) (hx : x = false → ¬ (48 ≤ by_ ∧ by_ ≤ 57)) :
    Ev (fun k => lockkeeperlaw1_OctetDigits.j1 k by_ s (k0 : Int) x) true := by
  refine evSucc ?_
  simp only [lockkeeperlaw1_OctetDigits.j1, Int.toNat_natCast]
  cases x with
  | true => exact evPos rfl (Ev.bind awake1_ev (Ev.now _))
  | false =>
    have hn := hx rfl
    have hsz : (strOfNums [by_]).size = 1 := by rw [strOfNums_size]; rfl
    have h1 : (s.extract 0 k0).size = k0 := by rw [ByteArray.size_extract]; omega
    have h2 : (s.extract k0 s.size).size = s.size - k0 := by rw [ByteArray.size_extract]; omega
    have m1 := ByteArray.size_append (a := s.extract 0 k0) (b := strOfNums [by_])
    have m2 := ByteArray.size_append (a := s.extract 0 k0 ++ strOfNums [by_]) (b := s.extract k0 s.size)
    refine evNeg (by decide) (evPos (by omega) (evPos (by omega) (evBind rfl (evPos (by omega) (evPos (by omega) ?_)))))
    have hd : (s.extract 0 k0 ++ strOfNums [by_] ++ s.extract k0 s.size).data.toList = (s.extract 0 k0).data.toList ++ UInt8.ofNat by_.toNat :: (s.extract k0 s.size).data.toList := by
      rw [append_list, append_list, strOfNums_data]
      simp
    have hc : isDig (UInt8.ofNat by_.toNat) = false := by
      unfold isDig
      have e : ((UInt8.ofNat by_.toNat).toNat : Int) = by_ := by rw [UInt8.toNat_ofNat']; omega
      rw [e]
      by_cases q : by_ ≥ 48
      · have : ¬ by_ ≤ 57 := fun h => hn ⟨q, h⟩
        simp [this]
      · simp [q]
    have hr : digS (s.extract 0 k0 ++ strOfNums [by_] ++ s.extract k0 s.size) = (0, false) := by
      rw [digS_L, hd]
      unfold digL
      rw [digGo_not _ _ _ hc]
    exact Ev.bind (evEq (digits_ev _ (by omega)) hr) (evNeg (by decide) (evPos rfl (Ev.bind awake1_ev (Ev.now _))))
theorem OctetDigits : ∀ (a0 : Int) (a1 : Int) (a2 : Int) (a3 : Int), (Lit.int .u64 a0).wf = true → (Lit.int .i64 a1).wf = true → (Lit.int .i64 a2).wf = true → (Lit.int .u8 a3).wf = true → ∃ k, lockkeeperlaw1_OctetDigits.f k a0 a1 a2 a3 = some true := by
  intro n z at_ by_ w0 w1 w2 w3
  refine Ev.rounds (g := fun k => lockkeeperlaw1_OctetDigits.f k n z at_ by_) ?_
  unfold lockkeeperlaw1_OctetDigits.f
  have hn : 0 ≤ n ∧ n ≤ 18446744073709551615 := by
    have h : IntKind.u64.min ≤ n ∧ n ≤ IntKind.u64.max := by simpa [Lit.wf] using w0
    exact h
  have hb : 0 ≤ by_ ∧ by_ ≤ 255 := by
    have h : IntKind.u8.min ≤ by_ ∧ by_ ≤ IntKind.u8.max := by simpa [Lit.wf] using w3
    exact h
  obtain ⟨n, rfl⟩ := Int.eq_ofNat_of_zero_le hn.1
  obtain ⟨z, hz, z0, z1⟩ := od_low z 30 (by omega) (by omega) w1
  obtain ⟨z, rfl⟩ := Int.eq_ofNat_of_zero_le z0
  have la := numL_length 19 n (by omega)
  have sa : (bsOf (numL n)).size = (numL n).length := size_bsOf _
  have sz : (repS z 48).size = z := repS_size z 48
  have m1 := ByteArray.size_append (a := repS z 48) (b := bsOf (numL n))
  have hdig : digS (repS z 48 ++ bsOf (numL n)) = ((n : Int), true) := by
    rw [digS_L, append_list, repS_data, bsOf_data]
    exact digL_num z n (by omega)
  refine evBind hz (Ev.bind (text_ev z 48 (by omega)) (Ev.bind (num_ev n (by omega)) (evPos (by omega) (Ev.bind (evEq (digits_ev _ (by omega)) hdig) (evPos rfl ?_)))))
  have e : (((n : Int), true).1 != (n : Int)) = false := by simp
  rw [e]
  refine evSucc ?_
  simp only [lockkeeperlaw1_OctetDigits.j0, Bool.false_eq_true, if_false]
  have ew : wrap64 (((repS z 48 ++ bsOf (numL n)).size : Int) + 1) = (((repS z 48 ++ bsOf (numL n)).size + 1 : Nat) : Int) := by unfold wrap64; omega
  rw [ew]
  obtain ⟨k0, hk, k1, k2⟩ := od_low at_ (((repS z 48 ++ bsOf (numL n)).size + 1 : Nat) : Int) (by omega) (by omega) w2
  obtain ⟨k0, rfl⟩ := Int.eq_ofNat_of_zero_le k1
  refine evBind hk ?_
  by_cases q : by_ ≥ 48
  · refine evPos q (OctetDigits_j1 by_ _ k0 (by omega) (by omega) hb _ ?_)
    intro h
    have : ¬ by_ ≤ 57 := by simpa using h
    exact fun h' => this h'.2
  · exact evNeg q (OctetDigits_j1 by_ _ k0 (by omega) (by omega) hb _ (fun _ h' => q h'.1))
end Go.Proofs.YtojcceafgkdchaaDoor.Pure
