/- The printed law TargetOrigins tells true for every two texts (of the form's own reach). -/
import Derived.Test.YtbfbidifodcedaaDoorBTOrigins
import Derived.Test.YtbfbidifodcedaaDoorPr17
namespace Go.Proofs.YtbfbidifodcedaaDoor.Pure
open Go.RowKit Go.Proofs.YtbfbidifodcedaaDoor.Pr Go.Proofs.YtbfbidifodcedaaDoorW.PrintWords Go.Proofs.YtbfbidifodcedaaDoorW.PrintLast
set_option linter.unusedVariables false
set_option linter.unusedSimpArgs false

theorem pre_more (l r : Bs) (h : (([58, 47, 47] : List UInt8) : Bs).isPrefixOf l = true) : (([58, 47, 47] : List UInt8) : Bs).isPrefixOf (l ++ r) = true := by
  rw [List.isPrefixOf_iff_prefix] at h ⊢
  exact h.trans (List.prefix_append _ _)
theorem pre_less (l r : Bs) (hl : 3 ≤ l.length) (h : (([58, 47, 47] : List UInt8) : Bs).isPrefixOf (l ++ r) = true) : (([58, 47, 47] : List UInt8) : Bs).isPrefixOf l = true := by
  rw [List.isPrefixOf_iff_prefix] at h ⊢
  exact List.prefix_of_prefix_length_le h (List.prefix_append _ _) hl
theorem index_len (l : Bs) : ∀ i : Nat, Lib.index l ([58, 47, 47] : List UInt8) = (i : Int) → i + 3 ≤ l.length := by
  induction l with
  | nil => intro i h; have : Lib.index [] ([58, 47, 47] : List UInt8) = -1 := rfl; omega
  | cons b l ih =>
    intro i h
    rw [Lib.index] at h
    split at h
    · rename_i hp
      have := (List.isPrefixOf_iff_prefix.1 hp).length_le
      simp at this ⊢
      omega
    · split at h
      · omega
      · rename_i hn
        have hn' : Lib.index l ([58, 47, 47] : List UInt8) ≠ -1 := by simpa using hn
        have := Lib.index_ge l ([58, 47, 47] : List UInt8)
        have := ih (i - 1) (by omega)
        simp
        omega
theorem index_more (l r : Bs) : ∀ i : Nat, Lib.index l ([58, 47, 47] : List UInt8) = (i : Int) → Lib.index (l ++ r) ([58, 47, 47] : List UInt8) = (i : Int) := by
  induction l with
  | nil => intro i h; have : Lib.index [] ([58, 47, 47] : List UInt8) = -1 := rfl; omega
  | cons b l ih =>
    intro i h
    have hlen := index_len (b :: l) i h
    have hge := Lib.index_ge l ([58, 47, 47] : List UInt8)
    rw [Lib.index] at h
    rw [List.cons_append, Lib.index]
    by_cases hp : (([58, 47, 47] : List UInt8) : Bs).isPrefixOf (b :: l) = true
    · rw [if_pos hp] at h
      rw [if_pos (by rw [← List.cons_append]; exact pre_more _ _ hp)]
      exact h
    · rw [if_neg hp] at h
      rw [if_neg (by rw [← List.cons_append]; exact fun hq => hp (pre_less _ _ (by simp at hlen ⊢; omega) hq))]
      by_cases hn : Lib.index l ([58, 47, 47] : List UInt8) = -1
      · rw [hn] at h
        simp at h
      · have e : (Lib.index l ([58, 47, 47] : List UInt8) == -1) = false := by simpa using hn
        rw [e, if_neg (by decide)] at h
        rw [ih (i - 1) (by omega), if_neg (by simp only [beq_iff_eq]; omega)]
        omega
theorem cut_index (s : ByteArray) (i : Nat) (h : Lib.index s.data.toList ([58, 47, 47] : List UInt8) = (i : Int)) : cutS s sSep = (bsOf (s.data.toList.take i), bsOf (s.data.toList.drop (i + 3)), true) := by
  unfold cutS Lib.cut
  rw [show sSep.data.toList = ([58, 47, 47] : List UInt8) from rfl, h, if_pos (by omega)]
  rfl
theorem made_show (sch host : ByteArray) (p : Int) (h : (madeS sch host p).2.2.2 = 0) : madeS sch host p = (sch, host, p, 0) ∧ (showS sch host p).size ≤ sch.size + 3 + host.size + 6 := by
  unfold madeS at h ⊢
  by_cases hc : chkS sch host p = true
  · rw [if_pos hc]
    refine ⟨rfl, ?_⟩
    have hp := chk_port hc
    have hn := numL_length 4 p.toNat (by omega)
    unfold showS keyS
    rw [if_pos hc, if_pos hc]
    have z1 : sSep.size = 3 := rfl
    have z2 : sCol.size = 1 := rfl
    split
    · rw [ByteArray.size_append, ByteArray.size_append]; omega
    · rw [ByteArray.size_append, ByteArray.size_append, ByteArray.size_append, ByteArray.size_append, size_bsOf]; omega
  · rw [if_neg hc] at h
    exact absurd h (by decide)
theorem cut_add (s : ByteArray) (i : Nat) (h : Lib.index s.data.toList ([58, 47, 47] : List UInt8) = (i : Int)) : (cutS s sSep).1.size + 3 + (cutS s sSep).2.1.size = s.size := by
  have := index_len _ i h
  rw [cut_index s i h]
  dsimp only
  rw [size_bsOf, size_bsOf, List.length_take, List.length_drop, size_len]
  omega
theorem parse_show_size (s : ByteArray) (h : (parseS s).2.2.2 = 0) : (showS (parseS s).1 (parseS s).2.1 (parseS s).2.2.1).size ≤ s.size + 6 := by
  have hls := lowB_size s
  unfold parseS at h ⊢
  split at h
  · exact absurd h (by decide)
  · rename_i hz
    rw [if_neg hz]
    split at h
    · rename_i hc
      rw [if_pos hc]
      have hi : ∃ i : Nat, Lib.index (lowB s).data.toList ([58, 47, 47] : List UInt8) = (i : Int) := by
        by_cases hn : 0 ≤ Lib.index (lowB s).data.toList ([58, 47, 47] : List UInt8)
        · exact Int.eq_ofNat_of_zero_le hn
        · exfalso
          revert hc
          unfold cutS Lib.cut
          rw [show sSep.data.toList = ([58, 47, 47] : List UInt8) from rfl, if_neg hn]
          exact fun h => Bool.false_ne_true h
      obtain ⟨i, hi⟩ := hi
      have hadd := cut_add (lowB s) i hi
      have c2 := cutS_size (cutS (lowB s) sSep).2.1 sCol
      split at h
      · rename_i hc2
        rw [if_pos hc2]
        obtain ⟨e, hs⟩ := made_show _ _ _ h
        rw [e]
        dsimp only
        omega
      · rename_i hc2
        rw [if_neg hc2]
        obtain ⟨e, hs⟩ := made_show _ _ _ h
        rw [e]
        dsimp only
        omega
    · exact absurd h (by decide)
theorem ends_at (H R : Bs) (c : UInt8) (hH : ∀ x ∈ H, (([47, 63] : List UInt8) : Bs).contains x = false) (hc : c = 47 ∨ c = 63) : endsAt (bsOf (H ++ c :: R)) = H.length := by
  unfold endsAt
  rw [bsOf_data, indexAny_at _ H R c hH (by rcases hc with rfl | rfl <;> decide), if_neg (by omega)]
  omega
theorem cut_pq (q : ByteArray) : (cutS q (⟨#[63]⟩ : ByteArray)).1.size + (askQ (cutS q (⟨#[63]⟩ : ByteArray))).size = q.size := by
  by_cases h : (63 : UInt8) ∈ q.data.toList
  · obtain ⟨p, r, e, hp⟩ := List.eq_append_cons_of_mem h
    rw [cutS_at q p r 63 e hp]
    unfold askQ
    rw [if_pos rfl]
    dsimp only
    rw [ByteArray.size_append, size_bsOf, size_bsOf, show ((⟨#[63]⟩ : ByteArray)).size = 1 from rfl, size_len q, e, List.length_append, List.length_cons]
    omega
  · rw [cutS_not q 63 h]
    unfold askQ
    rw [if_neg (by simp)]
    rfl
/-- what is read of such a text, with whatever behind a slash. -/
theorem origins_read (s p : ByteArray) (k : Nat) (hk : Lib.index s.data.toList ([58, 47, 47] : List UInt8) = (k : Int)) (h35 : (35 : UInt8) ∉ s.data.toList) (h47 : (47 : UInt8) ∉ s.data.toList.drop (k + 3)) (h63 : (63 : UInt8) ∉ s.data.toList) (hz : s.size + p.size ≤ 499) :
    ((parseS s).2.2.2 ≠ 0 ∧ tparseS (s ++ (⟨#[47]⟩ : ByteArray) ++ p) = noU (parseS s).2.2.2) ∨ ((parseS s).2.2.2 = 0 ∧ (tparseS (s ++ (⟨#[47]⟩ : ByteArray) ++ p) = noU 3 ∨ ∃ c d, tparseS (s ++ (⟨#[47]⟩ : ByteArray) ++ p) = ((parseS s).1, (parseS s).2.1, (parseS s).2.2.1, c, d, 0))) := by
  have hlen := index_len _ k hk
  have hsl := size_len s
  have z1 : (s ++ (⟨#[47]⟩ : ByteArray) ++ p).size = s.size + 1 + p.size := by rw [ByteArray.size_append, ByteArray.size_append]; rfl
  obtain ⟨P, hP, hPz⟩ : ∃ P : Bs, (cutS (s ++ (⟨#[47]⟩ : ByteArray) ++ p) (⟨#[35]⟩ : ByteArray)).1.data.toList = s.data.toList ++ 47 :: P ∧ P.length ≤ p.size := by
    have e : (s ++ (⟨#[47]⟩ : ByteArray) ++ p).data.toList = s.data.toList ++ 47 :: p.data.toList := by
      rw [append_list, append_list, List.append_assoc]
      rfl
    by_cases h : (35 : UInt8) ∈ p.data.toList
    · obtain ⟨x, y, ep, hx⟩ := List.eq_append_cons_of_mem h
      refine ⟨x, ?_, by rw [size_len, ep]; simp⟩
      rw [cutS_at _ (s.data.toList ++ 47 :: x) y 35 (by rw [e, ep]; simp) (fun hm => by
        rcases List.mem_append.1 hm with hm | hm
        · exact h35 hm
        · rcases List.mem_cons.1 hm with hm | hm
          · revert hm; decide
          · exact hx hm)]
      exact bsOf_data _
    · refine ⟨p.data.toList, ?_, by rw [size_len]; exact Nat.le_refl _⟩
      rw [cutS_not _ 35 (fun hm => by
        rw [e] at hm
        rcases List.mem_append.1 hm with hm | hm
        · exact h35 hm
        · rcases List.mem_cons.1 hm with hm | hm
          · revert hm; decide
          · exact h hm)]
      exact e
  generalize hu : (cutS (s ++ (⟨#[47]⟩ : ByteArray) ++ p) (⟨#[35]⟩ : ByteArray)).1 = u at hP
  have hix : Lib.index u.data.toList ([58, 47, 47] : List UInt8) = (k : Int) := by rw [hP]; exact index_more _ _ k hk
  have e0 : (s.data.toList ++ 47 :: P).take k = s.data.toList.take k := List.take_append_of_le_length (by omega)
  have e1 : (s.data.toList ++ 47 :: P).drop (k + 3) = s.data.toList.drop (k + 3) ++ 47 :: P := List.drop_append_of_le_length (by omega)
  have hplain : ∀ x ∈ s.data.toList.drop (k + 3), (([47, 63] : List UInt8) : Bs).contains x = false := by
    intro x hx
    simp only [List.contains_cons, List.contains_nil, Bool.or_false, Bool.or_eq_false_iff, beq_eq_false_iff_ne]
    exact ⟨fun e => h47 (e ▸ hx), fun e => h63 (List.mem_of_mem_drop (e ▸ hx))⟩
  have en := ends_at (s.data.toList.drop (k + 3)) P 47 hplain (.inl rfl)
  have x1 : (bsOf (s.data.toList.drop (k + 3) ++ 47 :: P)).extract 0 (s.data.toList.drop (k + 3)).length = bsOf (s.data.toList.drop (k + 3)) := ba_ext (by rw [extract_list, bsOf_data, bsOf_data]; simp)
  have x2 : (bsOf (s.data.toList.drop (k + 3) ++ 47 :: P)).extract (s.data.toList.drop (k + 3)).length (bsOf (s.data.toList.drop (k + 3) ++ 47 :: P)).size = bsOf (47 :: P) := ba_ext (by
    rw [extract_list, bsOf_data, bsOf_data, size_bsOf, List.take_length]
    simp)
  have es : bsOf (s.data.toList.take k) ++ sSep ++ bsOf (s.data.toList.drop (k + 3)) = s := ba_ext (by
    rw [append_list, append_list, bsOf_data, bsOf_data]
    have h3 : (s.data.toList.drop k).take 3 = ([58, 47, 47] : List UInt8) := by
      have key : ∀ (l : Bs) (i : Nat), Lib.index l ([58, 47, 47] : List UInt8) = (i : Int) → (l.drop i).take 3 = ([58, 47, 47] : List UInt8) := by
        intro l
        induction l with
        | nil => intro i h; have : Lib.index [] ([58, 47, 47] : List UInt8) = -1 := rfl; omega
        | cons b l ih =>
          intro i h
          rw [Lib.index] at h
          split at h
          · rename_i hp
            obtain rfl : i = 0 := by omega
            obtain ⟨t, ht⟩ := List.isPrefixOf_iff_prefix.1 hp
            rw [List.drop_zero, ← ht]
            rfl
          · split at h
            · omega
            · have := Lib.index_ge l ([58, 47, 47] : List UInt8)
              rename_i hn
              have hn' : Lib.index l ([58, 47, 47] : List UInt8) ≠ -1 := by simpa using hn
              have h2 := ih (i - 1) (by omega)
              rw [show i = (i - 1) + 1 by omega, List.drop_succ_cons]
              exact h2
      exact key _ k hk
    show s.data.toList.take k ++ ([58, 47, 47] : List UInt8) ++ s.data.toList.drop (k + 3) = _
    rw [← h3, List.append_assoc, ← List.drop_drop, List.take_append_drop, List.take_append_drop])
  have hbody : tparseS (s ++ (⟨#[47]⟩ : ByteArray) ++ p) = if (parseS s).2.2.2 = 0 then urlS (parseS s) (cutS (bsOf (47 :: P)) (⟨#[63]⟩ : ByteArray)) else noU (parseS s).2.2.2 := by
    unfold tparseS
    rw [if_neg (by omega), hu]
    unfold bodyU
    rw [cut_index u k hix, if_pos rfl]
    dsimp only
    unfold restU
    rw [hP, e0, e1, en, x1, x2, es]
  rw [hbody]
  by_cases h0 : (parseS s).2.2.2 = 0
  · refine .inr ⟨h0, ?_⟩
    rw [if_pos h0]
    unfold urlS
    split
    · have hss := parse_show_size s h0
      have hpq := cut_pq (bsOf (47 :: P))
      have hcl := clean_length (cutS (bsOf (47 :: P)) (⟨#[63]⟩ : ByteArray)).1.data.toList
      rw [← size_len] at hcl
      rw [size_bsOf, List.length_cons] at hpq
      have hts : (tshowS (parseS s).1 (parseS s).2.1 (parseS s).2.2.1 (bsOf (cleanV (cutS (bsOf (47 :: P)) (⟨#[63]⟩ : ByteArray)).1.data.toList)) (askQ (cutS (bsOf (47 :: P)) (⟨#[63]⟩ : ByteArray)))).size ≤ 512 := by
        unfold tshowS
        rw [ByteArray.size_append, ByteArray.size_append, size_bsOf]
        omega
      refine .inr ⟨bsOf (cleanV (cutS (bsOf (47 :: P)) (⟨#[63]⟩ : ByteArray)).1.data.toList), askQ (cutS (bsOf (47 :: P)) (⟨#[63]⟩ : ByteArray)), ?_⟩
      unfold fitU
      rw [if_neg (by omega)]
    · exact .inl rfl
  · exact .inl ⟨h0, by rw [if_neg h0]⟩
theorem TargetOrigins : ∀ (a0 : ByteArray) (a1 : ByteArray), a0.size ≤ 140737488351232 → a1.size ≤ 140737488351232 → ∃ k, lockkeeperlaw4_TargetOrigins.f k a0 a1 = some true := by
  intro s p h0 h1
  refine Ev.rounds (g := fun k => lockkeeperlaw4_TargetOrigins.f k s p) ?_
  have jt : Ev (fun k => lockkeeperlaw4_TargetOrigins.j0 k s p true) true := by
    refine evSucc ?_
    simp only [lockkeeperlaw4_TargetOrigins.j0, if_true]
    exact Ev.bind awake4_ev (Ev.now _)
  have i35 := in_ev s 35 (by omega)
  have i63 := in_ev s 63 (by omega)
  rw [show (((35 : UInt8).toNat : Nat) : Int) = 35 from rfl] at i35
  rw [show (((63 : UInt8).toNat : Nat) : Int) = 63 from rfl] at i63
  unfold lockkeeperlaw4_TargetOrigins.f
  refine Ev.bind (behind_ev s (by omega)) (Ev.bind (long_ev 500 [s, p] (by omega) (by omega) (by simp)) ?_)
  cases hL : longS 500 [s, p] with
  | true => exact evPos rfl jt
  | false =>
    have hz : (s.size : Int) + 1 + p.size < 500 := by
      unfold longS at hL
      split at hL
      · cases hL
      · unfold longS at hL
        split at hL
        · cases hL
        · omega
    refine evNeg (by decide) ?_
    by_cases hk : Lib.index s.data.toList ([58, 47, 47] : List UInt8) < 0
    · exact evPos hk jt
    · obtain ⟨k, hk'⟩ := Int.eq_ofNat_of_zero_le (show 0 ≤ Lib.index s.data.toList ([58, 47, 47] : List UInt8) by omega)
      have hlen := index_len _ k hk'
      have hsl := size_len s
      refine evNeg hk (Ev.bind i35 ?_)
      cases e35 : s.data.toList.contains 35 with
      | true => exact evPos rfl jt
      | false =>
        have n35 : (35 : UInt8) ∉ s.data.toList := by simpa using e35
        have e3 : wrap64 (Lib.index s.data.toList ([58, 47, 47] : List UInt8) + 3) = ((k + 3 : Nat) : Int) := by rw [hk']; unfold wrap64; omega
        have hx : (s.extract (k + 3) s.size).data.toList = s.data.toList.drop (k + 3) := by rw [extract_list, hsl, List.take_length]
        have i47 := in_ev (s.extract (k + 3) s.size) 47 (by rw [ByteArray.size_extract]; omega)
        rw [show (((47 : UInt8).toNat : Nat) : Int) = 47 from rfl, hx] at i47
        rw [e3, Int.toNat_natCast]
        refine evNeg (by decide) (evPos (by omega) (evPos (by omega) (Ev.bind i47 ?_)))
        cases e47 : (s.data.toList.drop (k + 3)).contains 47 with
        | true => exact evPos rfl jt
        | false =>
          have n47 : (47 : UInt8) ∉ s.data.toList.drop (k + 3) := by simpa using e47
          refine evNeg (by decide) (Ev.bind i63 ?_)
          cases e63 : s.data.toList.contains 63 with
          | true => exact jt
          | false =>
            have n63 : (63 : UInt8) ∉ s.data.toList := by simpa using e63
            have z1 : (s ++ (⟨#[47]⟩ : ByteArray)).size = s.size + 1 := by rw [ByteArray.size_append]; rfl
            have z2 : (s ++ (⟨#[47]⟩ : ByteArray) ++ p).size = s.size + 1 + p.size := by rw [ByteArray.size_append, z1]
            refine evSucc ?_
            simp only [lockkeeperlaw4_TargetOrigins.j0, Bool.false_eq_true, if_false]
            rcases origins_read s p k hk' n35 n47 n63 (by omega) with ⟨hc, ht⟩ | ⟨hc, ht | ⟨c, d, ht⟩⟩
            · refine Ev.bind (parse_ev s (by omega)) (evPos (by omega) (evPos (by omega) (Ev.bind (evEq (tparse_ev _ (by omega)) ht) (evNeg hc (evPos rfl (evPos (by simp [noU, tl]) (Ev.bind awake4_ev (Ev.now _))))))))
            · refine Ev.bind (parse_ev s (by omega)) (evPos (by omega) (evPos (by omega) (Ev.bind (evEq (tparse_ev _ (by omega)) ht) (evPos hc (evNeg (by decide) (evPos rfl (evPos (by simp [noU, tl]) (Ev.bind awake4_ev (Ev.now _)))))))))
            · refine Ev.bind (parse_ev s (by omega)) (evPos (by omega) (evPos (by omega) (Ev.bind (evEq (tparse_ev _ (by omega)) ht) (evPos hc (evPos rfl (evPos (by simp) (Ev.bind awake4_ev (Ev.now _))))))))
end Go.Proofs.YtbfbidifodcedaaDoor.Pure
