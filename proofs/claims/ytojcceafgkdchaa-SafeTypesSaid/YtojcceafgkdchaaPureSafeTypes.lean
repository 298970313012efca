/- The printed law SafeTypes tells true for every two whole numbers and every text (of the form's own reach). -/
import Derived.Test.YtojcceafgkdchaaP7
import Derived.Test.YtojcceafgkdchaaPr35
import Derived.Test.YtojcceafgkdchaaPr5
namespace Go.Proofs.Ytojcceafgkdchaa.Pure
open Go.RowKit Go.Proofs.Ytojcceafgkdchaa.Pr Go.Proofs.YtojcceafgkdchaaW.PrintWords Go.Proofs.YtojcceafgkdchaaW.PrintLast
set_option linter.unusedVariables false
set_option linter.unusedSimpArgs false

abbrev arrT : List ByteArray := [(⟨#[97, 112, 112, 108, 105, 99, 97, 116, 105, 111, 110, 47, 120, 45, 119, 119, 119, 45, 102, 111, 114, 109, 45, 117, 114, 108, 101, 110, 99, 111, 100, 101, 100]⟩ : ByteArray), (⟨#[109, 117, 108, 116, 105, 112, 97, 114, 116, 47, 102, 111, 114, 109, 45, 100, 97, 116, 97]⟩ : ByteArray), (⟨#[116, 101, 120, 116, 47, 112, 108, 97, 105, 110]⟩ : ByteArray), (⟨#[116, 101, 120, 116, 47, 104, 116, 109, 108]⟩ : ByteArray), (⟨#[116, 101, 120, 116]⟩ : ByteArray), (⟨#[116, 101, 120, 116, 47, 112, 108, 97, 105, 110, 47, 120]⟩ : ByteArray)]
def goodC (c : UInt8) : Bool := (decide (97 ≤ c.toNat) && decide (c.toNat ≤ 122)) || c == 47 || c == 45
def okB (c : UInt8) : Bool := (safe_Byte.f (c.toNat : Int)).getD false
def goodT (t : ByteArray) (b : Bool) : Bool :=
  t.data.toList.all goodC && (lowL t.data.toList == t.data.toList) && decide (t.size ≤ 33) && decide (1 ≤ t.size) &&
  ((if (cutS t (⟨#[47]⟩ : ByteArray)).2.2 = true then (if tokS (cutS t (⟨#[47]⟩ : ByteArray)).1 = true then (if tokS (cutS t (⟨#[47]⟩ : ByteArray)).2.1 = true then
    (t.data.toList == ([97, 112, 112, 108, 105, 99, 97, 116, 105, 111, 110, 47, 120, 45, 119, 119, 119, 45, 102, 111, 114, 109, 45, 117, 114, 108, 101, 110, 99, 111, 100, 101, 100] : List UInt8) || t.data.toList == ([109, 117, 108, 116, 105, 112, 97, 114, 116, 47, 102, 111, 114, 109, 45, 100, 97, 116, 97] : List UInt8) || t.data.toList == ([116, 101, 120, 116, 47, 112, 108, 97, 105, 110] : List UInt8)) else false) else false) else false) == b)
theorem goodT_all : ∀ i : Fin 6, goodT (arrT.getD i.val ByteArray.empty) (decide (i.val < 3)) = true := by decide +kernel
theorem low_good : ∀ n : Nat, n < 256 → goodC (lowC (UInt8.ofNat n)) = true → (okB (UInt8.ofNat n) = true ∧ isBl (UInt8.ofNat n) = false ∧ UInt8.ofNat n ≠ 59) := by decide +kernel
theorem low_slash : ∀ n : Nat, n < 256 → (lowC (UInt8.ofNat n) == 47) = (UInt8.ofNat n == 47) := by decide +kernel
theorem tok_all : ∀ n : Nat, n < 256 → isTok (lowC (UInt8.ofNat n)) = isTok (UInt8.ofNat n) := by decide +kernel
theorem tok_low (c : UInt8) : isTok (lowC c) = isTok c := by
  have := tok_all c.toNat c.toNat_lt
  rwa [UInt8.ofNat_toNat] at this
theorem tokL_low (l : Bs) : tokS (bsOf (lowL l)) = tokS (bsOf l) := by
  unfold tokS
  rw [bsOf_data, bsOf_data]
  unfold lowL
  congr 1
  · rw [List.all_map]
    congr 1
    funext c
    exact tok_low c
  · cases l with
    | nil => rfl
    | cons c l => rfl
theorem index_low (l : Bs) : Lib.indexByte (lowL l) 47 = Lib.indexByte l 47 := by
  induction l with
  | nil => rfl
  | cons c l ih =>
    have := low_slash c.toNat c.toNat_lt
    rw [UInt8.ofNat_toNat] at this
    rw [show lowL (c :: l) = lowC c :: lowL l from rfl, Lib.indexByte, Lib.indexByte, this, ih]
theorem cut_low (x t : ByteArray) (h : lowL x.data.toList = t.data.toList) :
    (cutS x (⟨#[47]⟩ : ByteArray)).2.2 = (cutS t (⟨#[47]⟩ : ByteArray)).2.2 ∧ tokS (cutS x (⟨#[47]⟩ : ByteArray)).1 = tokS (cutS t (⟨#[47]⟩ : ByteArray)).1 ∧ tokS (cutS x (⟨#[47]⟩ : ByteArray)).2.1 = tokS (cutS t (⟨#[47]⟩ : ByteArray)).2.1 := by
  have e1 : Lib.index x.data.toList ((⟨#[47]⟩ : ByteArray)).data.toList = Lib.indexByte x.data.toList 47 := Lib.index_one _ _
  have e2 : Lib.index t.data.toList ((⟨#[47]⟩ : ByteArray)).data.toList = Lib.indexByte t.data.toList 47 := Lib.index_one _ _
  unfold cutS Lib.cut
  rw [e1, e2, ← h, index_low]
  by_cases hi : 0 ≤ Lib.indexByte x.data.toList 47
  · rw [if_pos hi, if_pos hi]
    refine ⟨rfl, ?_, ?_⟩
    · have : (lowL x.data.toList).take (Lib.indexByte x.data.toList 47).toNat = lowL (x.data.toList.take (Lib.indexByte x.data.toList 47).toNat) := by unfold lowL; rw [List.map_take]
      rw [this, tokL_low]
    · have : (lowL x.data.toList).drop ((Lib.indexByte x.data.toList 47).toNat + ((⟨#[47]⟩ : ByteArray)).data.toList.length) = lowL (x.data.toList.drop ((Lib.indexByte x.data.toList 47).toNat + ((⟨#[47]⟩ : ByteArray)).data.toList.length)) := by unfold lowL; rw [List.map_drop]
      rw [this, tokL_low]
  · rw [if_neg hi, if_neg hi]
    exact ⟨rfl, (tokL_low _).symm, rfl⟩
theorem trimR_end (m : Bs) (d : UInt8) (h : isBl d = false) : trimR (m ++ [d]) = m ++ [d] := by
  unfold trimR
  simp [h]
theorem trimR_blank (m : Bs) (d : UInt8) (h : isBl d = true) : trimR (m ++ [d]) = trimR m := by
  unfold trimR
  simp [h]
theorem drop_head (c : UInt8) (r : Bs) (h : isBl c = false) : (c :: r).dropWhile isBl = c :: r := by simp [h]

theorem SafeTypes_header (x more t : ByteArray) (b : Bool) (hx : lowL x.data.toList = t.data.toList) (hg : goodT t b = true) (hm : more.size < 60) :
    safeS (⟨#[67, 111, 110, 116, 101, 110, 116, 45, 84, 121, 112, 101]⟩ : ByteArray) (((x ++ (⟨#[32, 59]⟩ : ByteArray)) ++ more) ++ (⟨#[59]⟩ : ByteArray)) = (b && (more.data.toList.all okB)) := by
  unfold goodT at hg
  simp only [Bool.and_eq_true, decide_eq_true_eq] at hg
  obtain ⟨⟨⟨⟨g1, g2⟩, g3⟩, g4⟩, g5⟩ := hg
  have hxs : x.size = t.size := by
    have := congrArg List.length hx
    rwa [lowL, List.length_map, ← size_len, ← size_len] at this
  have hc : ∀ c ∈ x.data.toList, okB c = true ∧ isBl c = false ∧ c ≠ 59 := by
    intro c hc
    have h1 : lowC c ∈ t.data.toList := by rw [← hx]; exact List.mem_map.2 ⟨c, hc, rfl⟩
    have h2 := List.all_eq_true.1 g1 _ h1
    have := low_good c.toNat c.toNat_lt
    rw [UInt8.ofNat_toNat] at this
    exact this h2
  have hv : (((x ++ (⟨#[32, 59]⟩ : ByteArray)) ++ more) ++ (⟨#[59]⟩ : ByteArray)).data.toList = (x.data.toList ++ [32]) ++ 59 :: (more.data.toList ++ [59]) := by
    rw [append_list, append_list, append_list]
    simp
  generalize hvv : (((x ++ (⟨#[32, 59]⟩ : ByteArray)) ++ more) ++ (⟨#[59]⟩ : ByteArray)) = v at hv
  have hvs : v.size ≤ 128 := by
    rw [← hvv]
    simp only [ByteArray.size_append]
    have e1 : ((⟨#[32, 59]⟩ : ByteArray)).size = 2 := rfl
    have e2 : ((⟨#[59]⟩ : ByteArray)).size = 1 := rfl
    omega
  obtain ⟨c, r, hcr⟩ : ∃ c r, x.data.toList = c :: r := by
    cases h : x.data.toList with
    | nil => rw [size_len, h] at hxs; simp at hxs; omega
    | cons c r => exact ⟨c, r, rfl⟩
  have hcb := (hc c (by rw [hcr]; simp)).2.1
  have ht : trimS v = v := by
    unfold trimS trimL
    have e1 : v.data.toList = c :: (r ++ [32] ++ 59 :: (more.data.toList ++ [59])) := by rw [hv, hcr]; simp
    have e2 : v.data.toList = (x.data.toList ++ [32] ++ 59 :: more.data.toList) ++ [59] := by rw [hv]; simp
    rw [show v.data.toList.dropWhile isBl = v.data.toList by rw [e1]; exact drop_head _ _ hcb]
    rw [show trimR v.data.toList = v.data.toList by rw [e2]; exact trimR_end _ _ (by decide)]
    exact bsOf_of v
  have hall : allByte v = more.data.toList.all okB := by
    have e0 : allByte v = v.data.toList.all okB := by
      unfold allByte bytesOf
      rw [List.all_map]
      rfl
    rw [e0, hv]
    have h1 : x.data.toList.all okB = true := List.all_eq_true.2 fun c hc' => (hc c hc').1
    have h2 : okB 32 = true := by decide +kernel
    have h3 : okB 59 = true := by decide +kernel
    simp [h1, h2, h3]
  have hlow : (lowB (⟨#[67, 111, 110, 116, 101, 110, 116, 45, 84, 121, 112, 101]⟩ : ByteArray)).toList = ([99, 111, 110, 116, 101, 110, 116, 45, 116, 121, 112, 101] : List UInt8) := by rw [tl]; rfl
  have hcut : cutS v (⟨#[59]⟩ : ByteArray) = (bsOf (x.data.toList ++ [32]), bsOf (more.data.toList ++ [59]), true) := by
    refine cutS_at v _ _ 59 hv ?_
    intro hm
    rcases List.mem_append.1 hm with hm | hm
    · exact (hc 59 hm).2.2 rfl
    · revert hm; decide
  have hinner : trimS (cutS v (⟨#[59]⟩ : ByteArray)).1 = x := by
    rw [hcut]
    unfold trimS trimL
    rw [bsOf_data]
    rw [show List.dropWhile isBl (x.data.toList ++ [(32 : UInt8)]) = x.data.toList ++ [(32 : UInt8)] by rw [hcr]; exact drop_head _ _ hcb]
    rw [trimR_blank _ _ (by decide)]
    have : trimL x.data.toList = x.data.toList := trim_none _ fun c hc' => (hc c hc').2.1
    unfold trimL at this
    rw [show x.data.toList.dropWhile isBl = x.data.toList by rw [hcr]; exact drop_head _ _ hcb] at this
    rw [this, bsOf_of]
  have hform : formS v = b := by
    obtain ⟨q1, q2, q3⟩ := cut_low x t hx
    have hlx : (lowB x).toList = t.data.toList := by rw [tl, lowB_data, hx]
    unfold formS essS
    rw [hinner, q1, q2, q3]
    rw [← beq_iff_eq.1 g5]
    have h0 : (⟨#[]⟩ : ByteArray).toList = ([] : List UInt8) := by rw [tl]
    by_cases c1 : (cutS t (⟨#[47]⟩ : ByteArray)).2.2 = true
    · by_cases c2 : tokS (cutS t (⟨#[47]⟩ : ByteArray)).1 = true
      · by_cases c3 : tokS (cutS t (⟨#[47]⟩ : ByteArray)).2.1 = true
        · rw [if_pos c1, if_pos c2, if_pos c3, if_pos c1, if_pos c2, if_pos c3]
          dsimp only
          rw [hlx]
          by_cases d1 : t.data.toList = ([97, 112, 112, 108, 105, 99, 97, 116, 105, 111, 110, 47, 120, 45, 119, 119, 119, 45, 102, 111, 114, 109, 45, 117, 114, 108, 101, 110, 99, 111, 100, 101, 100] : List UInt8)
          · rw [if_pos d1, beq_iff_eq.2 d1]; rfl
          · rw [if_neg d1]
            have d1' : (t.data.toList == ([97, 112, 112, 108, 105, 99, 97, 116, 105, 111, 110, 47, 120, 45, 119, 119, 119, 45, 102, 111, 114, 109, 45, 117, 114, 108, 101, 110, 99, 111, 100, 101, 100] : List UInt8)) = false := by simpa using d1
            rw [d1']
            by_cases d2 : t.data.toList = ([109, 117, 108, 116, 105, 112, 97, 114, 116, 47, 102, 111, 114, 109, 45, 100, 97, 116, 97] : List UInt8)
            · rw [if_pos d2, beq_iff_eq.2 d2]; rfl
            · have d2' : (t.data.toList == ([109, 117, 108, 116, 105, 112, 97, 114, 116, 47, 102, 111, 114, 109, 45, 100, 97, 116, 97] : List UInt8)) = false := by simpa using d2
              rw [if_neg d2, d2']; rfl
        · rw [if_pos c1, if_pos c2, if_neg c3, if_pos c1, if_pos c2, if_neg c3]
          dsimp only
          rw [h0]
          rfl
      · rw [if_pos c1, if_neg c2, if_pos c1, if_neg c2]
        dsimp only
        rw [h0]
        rfl
    · rw [if_neg c1, if_neg c1]
      dsimp only
      rw [h0]
      rfl
  unfold safeS
  rw [ht, hlow, if_neg (by omega), if_neg (by decide), if_neg (by decide)]
  unfold jointS
  rw [hlow, if_neg (by decide), if_pos rfl, hall, hform]
  cases more.data.toList.all okB with
  | true => simp
  | false => simp

theorem SafeTypes_l0 (bits : Int) (hb : (Lit.int .u64 bits).wf = true) (more t : ByteArray) (b : Bool) (hg : goodT t b = true) (hm : more.size < 60) (r : Bs) : ∀ p : Bs, more.data.toList = p ++ r →
    Ev (fun k => lockkeeperlaw7_SafeTypes.l0 k bits more t (b && p.all okB) (p.length : Int)) true := by
  have hts : t.size ≤ 33 := by
    unfold goodT at hg
    simp only [Bool.and_eq_true, decide_eq_true_eq] at hg
    exact hg.1.1.2
  induction r with
  | nil =>
    intro p hp
    rw [List.append_nil] at hp
    have hl : more.size = p.length := by rw [size_len, hp]
    have hf := flip_size t bits
    have e1 : ((⟨#[32, 59]⟩ : ByteArray)).size = 2 := rfl
    have e2 : ((⟨#[59]⟩ : ByteArray)).size = 1 := rfl
    have m1 := ByteArray.size_append (a := flipS t bits) (b := (⟨#[32, 59]⟩ : ByteArray))
    have m2 := ByteArray.size_append (a := flipS t bits ++ (⟨#[32, 59]⟩ : ByteArray)) (b := more)
    have m3 := ByteArray.size_append (a := flipS t bits ++ (⟨#[32, 59]⟩ : ByteArray) ++ more) (b := (⟨#[59]⟩ : ByteArray))
    have hh := SafeTypes_header (flipS t bits) more t b (by
      unfold goodT at hg
      simp only [Bool.and_eq_true, beq_iff_eq] at hg
      rw [flip_lowL]
      exact hg.1.1.1.2) hg hm
    refine evSucc ?_
    simp only [lockkeeperlaw7_SafeTypes.l0]
    refine evNeg (by omega) (evBind (flip_f t bits (by omega) hb) (evPos (by omega) (evPos (by omega) (evPos (by omega) ?_))))
    refine Ev.bind (evEq (header_ev _ _ (by decide) (by omega)) hh) (evPos ?_ (Ev.bind awake7_ev (Ev.now _)))
    rw [← hp]
    simp
  | cons c r ih =>
    intro p hp
    have hl : more.size = p.length + (r.length + 1) := by rw [size_len, hp]; simp
    have hbt := bt_mid more p c r hp
    have e2 : wrap64 ((p.length : Int) + 1) = ((p ++ [c]).length : Int) := by simp; unfold wrap64; omega
    have ih' := ih (p ++ [c]) (by simpa using hp)
    have es : ((p ++ [c]).all okB) = (p.all okB && okB c) := by simp
    rw [es] at ih'
    refine evSucc ?_
    simp only [lockkeeperlaw7_SafeTypes.l0, hbt, e2]
    refine evPos (by omega) ?_
    cases hx : (b && p.all okB) with
    | true =>
      refine evPos rfl (evPos (by omega) (evBind (allByte_total (c.toNat : Int)) ?_))
      rw [← Bool.and_assoc, hx, Bool.true_and] at ih'
      exact ih'
    | false =>
      rw [← Bool.and_assoc, hx, Bool.false_and] at ih'
      exact evNeg (by decide) ih'

theorem SafeTypes : lockkeeperlaw7_SafeTypes.Pure := by
  intro a0 a1 a2 w0 w1 w2
  refine Ev.rounds (g := fun k => lockkeeperlaw7_SafeTypes.f k a0 a1 a2) ?_
  unfold lockkeeperlaw7_SafeTypes.f
  refine Ev.bind (long_ev 60 [a2] (by omega) (by omega) (by simp)) ?_
  cases hL : longS 60 [a2] with
  | true => exact evPos rfl (Ev.bind awake7_ev (Ev.now _))
  | false =>
    have s1 := longS_size _ _ hL a2 (by simp)
    obtain ⟨i, hi, i0, i1⟩ := low_f a0 6 w0 (by omega) (by omega)
    obtain ⟨i, rfl⟩ := Int.eq_ofNat_of_zero_le i0
    have hg := goodT_all ⟨i, by omega⟩
    refine evNeg (by decide) (evBind hi (evPos (by omega) (evPos (by omega) (evBind hi ?_))))
    have e1 : decide ((i : Int) < 3) = decide (i < 3) := by
      rw [Bool.eq_iff_iff, decide_eq_true_iff, decide_eq_true_iff]
      omega
    rw [e1]
    have := SafeTypes_l0 a1 w1 a2 (arrT.getD i ByteArray.empty) (decide (i < 3)) hg (by omega) a2.data.toList [] rfl
    simpa [rdOf] using this
end Go.Proofs.Ytojcceafgkdchaa.Pure
