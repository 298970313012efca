/- The printed law OriginPorts tells true for every number, every count of noughts and either scheme (of the form's own reach). -/
import Derived.Test.YtbfbidifodcedaaDoorB3
import Derived.Test.YtbfbidifodcedaaDoorPr13
namespace Go.Proofs.YtbfbidifodcedaaDoor.Pure
open Go.RowKit Go.Proofs.YtbfbidifodcedaaDoor.Pr Go.Proofs.YtbfbidifodcedaaDoorW.PrintWords Go.Proofs.YtbfbidifodcedaaDoorW.PrintLast
set_option linter.unusedVariables false
set_option linter.unusedSimpArgs false

theorem wf_u64 {b : Int} (hb : (Lit.int .u64 b).wf = true) : 0 ≤ b ∧ b ≤ 18446744073709551615 := by
  have h : IntKind.u64.min ≤ b ∧ b ≤ IntKind.u64.max := by simpa [Lit.wf] using hb
  rw [show IntKind.u64.min = 0 from rfl, show IntKind.u64.max = 18446744073709551615 from rfl] at h
  exact h
theorem portS_bad (z n : Nat) (hn : n < 18446744073709551616) (h : 0 < z ∨ n < 1 ∨ 65535 < n) : portS (bsOf (List.replicate z 48 ++ numL n)) = 0 := by
  have hd : digS (bsOf (List.replicate z 48 ++ numL n)) = ((n : Int), true) := by
    rw [digS_L, bsOf_data]
    exact digL_num z n hn
  unfold portS
  rw [hd, if_pos rfl]
  split
  · rfl
  · split
    · rfl
    · rename_i h48
      rw [if_pos]
      show (n : Int) > 65535
      have key : z = 0 ∧ n ≠ 0 := by
        refine ⟨?_, ?_⟩
        · cases z with
          | zero => rfl
          | succ z =>
            exfalso
            refine h48 ?_
            rw [show (0 : Int) = (([] : Bs).length : Int) from rfl, bt_mid (bsOf (List.replicate (z + 1) 48 ++ numL n)) [] 48 (List.replicate z 48 ++ numL n) (by rw [bsOf_data, List.replicate_succ]; rfl)]
            rfl
        · rintro rfl
          cases z with
          | zero =>
            refine h48 ?_
            have e0 : numL 0 = [48] := by decide +kernel
            rw [e0]
            rfl
          | succ z =>
            refine h48 ?_
            rw [show (0 : Int) = (([] : Bs).length : Int) from rfl, bt_mid (bsOf (List.replicate (z + 1) 48 ++ numL 0)) [] 48 (List.replicate z 48 ++ numL 0) (by rw [bsOf_data, List.replicate_succ]; rfl)]
            rfl
      omega
def sH : ByteArray := (⟨#[104]⟩ : ByteArray)
theorem host_h : hostB sH = true := by decide +kernel
theorem chk_h (sch : ByteArray) (p : Int) (hd : defP sch ≠ 0) : chkS sch sH p = if p ≥ 1 then decide (p ≤ 65535) else false := by
  unfold chkS
  rw [if_neg hd, host_h, if_pos rfl]
theorem parse_h (sch : ByteArray) (A T : Bs) (ha : sch.data.toList = A) (hA : A = ([104, 116, 116, 112] : List UInt8) ∨ A = ([104, 116, 116, 112, 115] : List UInt8)) (s : ByteArray) (hs : s.data.toList = A ++ (([58, 47, 47] : List UInt8) ++ (104 :: 58 :: T))) (hT : ∀ c ∈ T, isNum c) (hl : T.length ≤ 400) :
    parseS s = madeS sch sH (portS (bsOf T)) := by
  have hlow : lowB s = s := by
    refine low_all _ fun c hc => ?_
    rw [hs, ← List.append_assoc] at hc
    rcases List.mem_append.1 hc with hc | hc
    · exact low_sch _ hA c hc
    · rcases List.mem_cons.1 hc with rfl | hc
      · decide
      · rcases List.mem_cons.1 hc with rfl | hc
        · decide
        · exact (num_low c (hT c hc)).1
  have hsz : s.size ≤ 512 := by
    rw [size_len, hs]
    have : A.length ≤ 5 := by rcases hA with e | e <;> rw [e] <;> decide
    simp
    omega
  have c1 := cut_sep s _ _ hA hs
  have c2 : cutS (bsOf (104 :: 58 :: T)) sCol = (bsOf [104], bsOf T, true) := cutS_at _ [104] T 58 rfl (by decide)
  unfold parseS
  rw [if_neg (by omega), hlow, c1]
  dsimp only
  rw [if_pos rfl, c2]
  dsimp only
  rw [if_pos rfl, ← ha, bsOf_of]
  rfl
theorem Ports_j1 (n : Nat) (hn : n < 18446744073709551616) (sch : ByteArray) (dp : Int) (hsz : sch.size ≤ 5) (hdp : defP sch = dp) (h0 : dp ≠ 0) (hdr : 1 ≤ dp ∧ dp ≤ 65535) (h1 : 1 ≤ n) (h2 : n ≤ 65535) :
    Ev (fun k => lockkeeperlaw3_OriginPorts.j1 k (n : Int) sch dp 0 false sch sH (n : Int)) true := by
  have hc : chkS sch sH (n : Int) = true := by
    rw [chk_h _ _ (by rw [hdp]; exact h0), if_pos (by omega), decide_eq_true (by omega)]
  have hw : (n : Int) = wrap64 (n : Int) := by unfold wrap64; omega
  have zh : sH.size = 1 := rfl
  have zs : (sch ++ ((⟨#[58, 47, 47, 104]⟩ : ByteArray) : ByteArray)).size = sch.size + 4 := by rw [ByteArray.size_append]; rfl
  have zc : (sch ++ ((⟨#[58, 47, 47, 104]⟩ : ByteArray) : ByteArray) ++ ((⟨#[58]⟩ : ByteArray) : ByteArray)).size = sch.size + 5 := by rw [ByteArray.size_append, zs]; rfl
  have hl := numL_length 19 n (by omega)
  have zn : (bsOf (numL n)).size = (numL n).length := size_bsOf _
  refine evSucc ?_
  simp only [lockkeeperlaw3_OriginPorts.j1]
  refine evNeg (by decide) (evPos (by omega) ?_)
  by_cases hp : (n : Int) = dp
  · refine evPos hp (evPos trivial (evPos hw (Ev.bind (show_ev _ _ _ (by omega) (by omega)) (evPos ?_ (Ev.bind awake3_ev (Ev.now _))))))
    unfold showS
    rw [if_pos hc, if_pos (by rw [hdp]; exact hp), tl_eq]
    apply ba_ext
    rw [append_list, append_list, append_list]
    show (sch.data.toList ++ ([58, 47, 47] : List UInt8)) ++ [104] = sch.data.toList ++ ([58, 47, 47, 104] : List UInt8)
    simp
  · refine evNeg hp (evPos (by omega) (Ev.bind (num_ev n hn) (evPos (by omega) (evPos trivial (evPos hw (Ev.bind (show_ev _ _ _ (by omega) (by omega)) (evPos ?_ (Ev.bind awake3_ev (Ev.now _)))))))))
    unfold showS
    rw [if_pos hc, if_neg (by rw [hdp]; exact hp)]
    unfold keyS
    rw [if_pos hc, tl_eq, Int.toNat_natCast]
    apply ba_ext
    rw [append_list, append_list, append_list, append_list, append_list, append_list, append_list]
    show ((sch.data.toList ++ ([58, 47, 47] : List UInt8)) ++ [104] ++ ([58] : List UInt8)) ++ _ = (sch.data.toList ++ ([58, 47, 47, 104] : List UInt8) ++ ([58] : List UInt8)) ++ _
    simp
theorem Ports_bad (n : Int) (sch : ByteArray) (dp : Int) : Ev (fun k => lockkeeperlaw3_OriginPorts.j1 k n sch dp 3 true (⟨#[]⟩ : ByteArray) (⟨#[]⟩ : ByteArray) 0) true := by
  refine evSucc ?_
  simp only [lockkeeperlaw3_OriginPorts.j1]
  exact evPos trivial (evPos trivial (evPos (by rw [tl]; rfl) (Ev.bind awake3_ev (Ev.now _))))
theorem Ports_j0 (n : Nat) (hn : n < 18446744073709551616) (a1 : Int) (h1 : (Lit.int .i64 a1).wf = true) (sch : ByteArray) (A : Bs) (ha : sch.data.toList = A) (hA : A = ([104, 116, 116, 112] : List UInt8) ∨ A = ([104, 116, 116, 112, 115] : List UInt8)) (dp : Int) (hdp : defP sch = dp) (hdr : 1 ≤ dp ∧ dp ≤ 65535) :
    Ev (fun k => lockkeeperlaw3_OriginPorts.j0 k (n : Int) a1 sch dp) true := by
  obtain ⟨r, hr, r0, r3⟩ := low_f a1 3 h1 (by omega) (by omega)
  obtain ⟨z, rfl⟩ := Int.eq_ofNat_of_zero_le r0
  have hsz : sch.size ≤ 5 := by
    rw [size_len, ha]
    rcases hA with e | e <;> rw [e] <;> decide
  have hl := numL_length 19 n (by omega)
  have hz := repS_size z 48
  have zn : (bsOf (numL n)).size = (numL n).length := size_bsOf _
  have z1 : (sch ++ ((⟨#[58, 47, 47, 104, 58]⟩ : ByteArray) : ByteArray)).size = sch.size + 5 := by rw [ByteArray.size_append]; rfl
  have z2 : (sch ++ ((⟨#[58, 47, 47, 104, 58]⟩ : ByteArray) : ByteArray) ++ repS z 48).size = sch.size + 5 + z := by rw [ByteArray.size_append, z1, hz]
  have z3 : (sch ++ ((⟨#[58, 47, 47, 104, 58]⟩ : ByteArray) : ByteArray) ++ repS z 48 ++ bsOf (numL n)).size = sch.size + 5 + z + (numL n).length := by rw [ByteArray.size_append, z2, zn]
  have hp : parseS (sch ++ ((⟨#[58, 47, 47, 104, 58]⟩ : ByteArray) : ByteArray) ++ repS z 48 ++ bsOf (numL n)) = madeS sch sH (portS (bsOf (List.replicate z 48 ++ numL n))) := by
    refine parse_h sch A _ ha hA _ ?_ ?_ (by simp; omega)
    · rw [append_list, append_list, append_list, repS_data, bsOf_data, ha]
      show (A ++ ([58, 47, 47, 104, 58] : List UInt8)) ++ List.replicate z 48 ++ numL n = _
      simp
    · intro c hc
      rcases List.mem_append.1 hc with hc | hc
      · rw [List.eq_of_mem_replicate hc]
        unfold isNum
        decide
      · exact numL_chars n c hc
  have hd0 : defP sch ≠ 0 := by omega
  have bad : (0 < z ∨ n < 1 ∨ 65535 < n) → parseS (sch ++ ((⟨#[58, 47, 47, 104, 58]⟩ : ByteArray) : ByteArray) ++ repS z 48 ++ bsOf (numL n)) = ((⟨#[]⟩ : ByteArray), (⟨#[]⟩ : ByteArray), 0, 3) := by
    intro h
    rw [hp, portS_bad z n hn h]
    unfold madeS
    rw [chk_h _ _ hd0]
    rfl
  refine evSucc ?_
  simp only [lockkeeperlaw3_OriginPorts.j0]
  refine evBind hr (evPos (by omega) (Ev.bind (text_ev z 48 (by omega)) (evPos (by omega) (Ev.bind (num_ev n hn) (evPos (by omega) ?_)))))
  by_cases hz0 : 0 < z
  · refine Ev.bind (evEq (parse_ev _ (by omega)) (bad (.inl hz0))) (evPos (by omega) (Ports_bad _ _ _))
  · by_cases h1 : n < 1
    · refine Ev.bind (evEq (parse_ev _ (by omega)) (bad (.inr (.inl h1)))) (evNeg (by omega) (evPos (by omega) (Ports_bad _ _ _)))
    · by_cases h2 : 65535 < n
      · refine Ev.bind (evEq (parse_ev _ (by omega)) (bad (.inr (.inr h2)))) (evNeg (by omega) (evNeg (by omega) ?_))
        rw [decide_eq_true (show (n : Int) > 65535 by omega)]
        exact Ports_bad _ _ _
      · have good : parseS (sch ++ ((⟨#[58, 47, 47, 104, 58]⟩ : ByteArray) : ByteArray) ++ repS z 48 ++ bsOf (numL n)) = (sch, sH, (n : Int), 0) := by
          rw [hp, show z = 0 by omega, List.replicate_zero, List.nil_append, portS_num n (by omega) (by omega)]
          unfold madeS
          rw [chk_h _ _ hd0, if_pos (show (n : Int) ≥ 1 by omega), decide_eq_true (show (n : Int) ≤ 65535 by omega)]
          rfl
        refine Ev.bind (evEq (parse_ev _ (by omega)) good) (evNeg (by omega) (evNeg (by omega) ?_))
        rw [decide_eq_false (show ¬ (n : Int) > 65535 by omega)]
        exact Ports_j1 n hn sch dp hsz hdp (by omega) hdr (by omega) (by omega)
theorem OriginPorts : ∀ (a0 : Int) (a1 : Int) (a2 : Bool), (Lit.int .u64 a0).wf = true → (Lit.int .i64 a1).wf = true → ∃ k, lockkeeperlaw3_OriginPorts.f k a0 a1 a2 = some true := by
  intro a0 a1 a2 h0 h1
  refine Ev.rounds (g := fun k => lockkeeperlaw3_OriginPorts.f k a0 a1 a2) ?_
  have hw := wf_u64 h0
  obtain ⟨n, rfl⟩ := Int.eq_ofNat_of_zero_le hw.1
  unfold lockkeeperlaw3_OriginPorts.f
  cases a2 with
  | true => exact evPos rfl (Ports_j0 n (by omega) a1 h1 _ ([104, 116, 116, 112, 115] : List UInt8) rfl (.inr rfl) 443 (by unfold defP; rw [tl]; rfl) (by decide))
  | false => exact evNeg (by decide) (Ports_j0 n (by omega) a1 h1 _ ([104, 116, 116, 112] : List UInt8) rfl (.inl rfl) 80 (by unfold defP; rw [tl]; rfl) (by decide))
end Go.Proofs.YtbfbidifodcedaaDoor.Pure
