/- The printed law SafeAll tells true for every header, every row of headers, every text and every byte (of the form's own reach). -/
import Derived.Test.YtojcceafgkdchaaPT
import Derived.Test.YtojcceafgkdchaaR1
import Derived.Test.YtojcceafgkdchaaPr7
import Derived.Test.YtojcceafgkdchaaPr3
import Derived.Test.YtojcceafgkdchaaPr4
import Derived.Test.YtojcceafgkdchaaPr6
namespace Go.Proofs.Ytojcceafgkdchaa.Pure
open Go.RowKit Go.Proofs.Ytojcceafgkdchaa.Pr Go.Proofs.YtojcceafgkdchaaW.PrintWords Go.Proofs.YtojcceafgkdchaaW.PrintLast
set_option linter.unusedVariables false
set_option linter.unusedSimpArgs false

/-! ### bytes -/
def byteB (c : UInt8) : Bool := (safe_Byte.f (c.toNat : Int)).getD false
def wordB (c : UInt8) : Bool := (safe_word.f (c.toNat : Int)).getD false
def sBad : ByteArray := (⟨#[34, 40, 41, 58, 60, 62, 63, 64, 91, 92, 93, 123, 125]⟩ : ByteArray)
def sGood : ByteArray := (⟨#[32, 42, 44, 45, 46, 59, 61]⟩ : ByteArray)
def rbyteB (c : UInt8) : Bool := if (c.toNat : Int) = 9 then true else if (c.toNat : Int) ≥ 32 then (if (c.toNat : Int) = 127 then false else !(sBad.data.toList.contains c)) else false
theorem rbyte_all : ∀ n : Fin 256, rbyteB (UInt8.ofNat n.val) = byteB (UInt8.ofNat n.val) := by decide +kernel
theorem rbyte_eq (c : UInt8) : rbyteB c = byteB c := by
  have := rbyte_all ⟨c.toNat, c.toNat_lt⟩
  simpa using this
theorem rbyte_ev (c : UInt8) : Ev (fun k => lockkeeperref7_Byte.f k (c.toNat : Int)) (byteB c) := by
  rw [← rbyte_eq]
  unfold lockkeeperref7_Byte.f rbyteB
  exact evIte (fun _ => Ev.now _) fun _ => evIte (fun _ => evIte (fun _ => Ev.now _) fun _ => Ev.bind (in_ev sBad c (by decide)) (Ev.now _)) fun _ => Ev.now _
theorem rword_all : ∀ n : Fin 256, (isPl (UInt8.ofNat n.val) || sGood.data.toList.contains (UInt8.ofNat n.val)) = wordB (UInt8.ofNat n.val) := by decide +kernel
theorem rword_eq (c : UInt8) : (isPl c || sGood.data.toList.contains c) = wordB c := by
  have := rword_all ⟨c.toNat, c.toNat_lt⟩
  simpa using this
theorem allByte_eq (s : ByteArray) : allByte s = s.data.toList.all byteB := by
  unfold allByte bytesOf
  rw [List.all_map]
  rfl
theorem allWord_eq (s : ByteArray) : allWord s = s.data.toList.all wordB := by
  unfold allWord bytesOf
  rw [List.all_map]
  rfl
theorem each_l0 (s : ByteArray) (hs : s.size ≤ 4611686018427387904) (x : Bool) (r : Bs) : ∀ p : Bs, s.data.toList = p ++ r →
    Ev (fun k => lockkeeperref7_each.l0 k s x (p.length : Int)) (if x = true then r.all wordB else r.all byteB) := by
  induction r with
  | nil =>
    intro p hp
    have hl : s.size = p.length := by rw [size_len, hp]; simp
    refine evSucc ?_
    simp only [lockkeeperref7_each.l0]
    exact evNeg (by omega) (evEq (Ev.now _) (by cases x <;> rfl))
  | cons c r ih =>
    intro p hp
    have hl : s.size = p.length + (r.length + 1) := by rw [size_len, hp]; simp
    have hb := bt_mid s p c r hp
    have e1 : wrap64 ((p.length : Int) + 1) = ((p ++ [c]).length : Int) := by simp; unfold wrap64; omega
    have ih' := ih (p ++ [c]) (by rw [hp]; simp)
    refine evSucc ?_
    simp only [lockkeeperref7_each.l0, hb, e1]
    refine evPos (by omega) ?_
    cases x with
    | true =>
      refine evPos rfl (evPos (by omega) (evBind (plain_f c) ?_))
      simp only [if_true] at ih' ⊢
      rw [List.all_cons, ← rword_eq]
      cases hp1 : isPl c with
      | true => exact evPos rfl (by simpa using ih')
      | false =>
        refine evNeg (by decide) (Ev.bind (in_ev sGood c (by decide)) ?_)
        cases hc : sGood.data.toList.contains c with
        | true => exact evPos rfl (by simpa using ih')
        | false => exact evNeg (by decide) (evEq (Ev.now _) (by simp))
    | false =>
      refine evNeg (by decide) (evPos (by omega) (Ev.bind (rbyte_ev c) ?_))
      simp only [Bool.false_eq_true, if_false] at ih' ⊢
      rw [List.all_cons]
      cases hc : byteB c with
      | true => exact evPos rfl (by simpa using ih')
      | false => exact evNeg (by decide) (evEq (Ev.now _) (by simp))
theorem eachW_ev (s : ByteArray) (hs : s.size ≤ 4611686018427387904) : Ev (fun k => lockkeeperref7_each.f k s true) (allWord s) := by
  have := each_l0 s hs true s.data.toList [] rfl
  rw [if_pos rfl, ← allWord_eq] at this
  exact this
theorem eachB_ev (s : ByteArray) (hs : s.size ≤ 4611686018427387904) : Ev (fun k => lockkeeperref7_each.f k s false) (allByte s) := by
  have := each_l0 s hs false s.data.toList [] rfl
  rw [if_neg (by decide), ← allByte_eq] at this
  exact this

/-! ### Essence -/
theorem ext_pre (s : ByteArray) (p r : Bs) (hp : s.data.toList = p ++ r) : s.extract 0 ((p.length : Int)).toNat = bsOf p := by
  apply ba_ext
  rw [extract_list, bsOf_data, Int.toNat_natCast, hp]
  simp
theorem ext_post (s : ByteArray) (p r : Bs) (c : UInt8) (hp : s.data.toList = p ++ c :: r) : s.extract (((p ++ [c]).length : Int)).toNat s.size = bsOf r := by
  have hl : s.size = p.length + (r.length + 1) := by rw [size_len, hp]; simp
  apply ba_ext
  rw [extract_list, bsOf_data, Int.toNat_natCast, hl, hp]
  simp [List.take_append, List.drop_append]
def essT (t : ByteArray) : ByteArray × Bool :=
  if (cutS t (⟨#[47]⟩ : ByteArray)).2.2 = true then (if tokS (cutS t (⟨#[47]⟩ : ByteArray)).1 = true then (if tokS (cutS t (⟨#[47]⟩ : ByteArray)).2.1 = true then (lowB t, true) else (⟨#[]⟩, false)) else (⟨#[]⟩, false)) else (⟨#[]⟩, false)
theorem ess_l1 (t : ByteArray) (ht : t.size ≤ 4611686018427387904) (r : Bs) : ∀ p : Bs, t.data.toList = p ++ r → 47 ∉ p → Ev (fun k => lockkeeperref7_Essence.l1 k t (p.length : Int)) (essT t) := by
  induction r with
  | nil =>
    intro p hp h47
    have hl : t.size = p.length := by rw [size_len, hp]; simp
    rw [List.append_nil] at hp
    refine evSucc ?_
    simp only [lockkeeperref7_Essence.l1]
    refine evNeg (by omega) (evSucc ?_)
    simp only [lockkeeperref7_Essence.j3]
    refine evPos (by omega) (evEq (Ev.now _) ?_)
    unfold essT
    rw [cutS_not t 47 (by rw [hp]; exact h47)]
    rfl
  | cons c r ih =>
    intro p hp h47
    have hl : t.size = p.length + (r.length + 1) := by rw [size_len, hp]; simp
    have hb := bt_mid t p c r hp
    have e1 : wrap64 ((p.length : Int) + 1) = ((p ++ [c]).length : Int) := by simp; unfold wrap64; omega
    refine evSucc ?_
    simp only [lockkeeperref7_Essence.l1, hb, e1]
    refine evPos (by omega) (evPos (by omega) ?_)
    by_cases hc : c = 47
    · subst hc
      have zp : (bsOf p).size = p.length := size_bsOf p
      have zr : (bsOf r).size = r.length := size_bsOf r
      have zl : (p ++ [(47 : UInt8)]).length = p.length + 1 := by simp
      refine evPos rfl (evSucc ?_)
      simp only [lockkeeperref7_Essence.j3, e1]
      rw [ext_pre t p (47 :: r) hp, ext_post t p r 47 hp]
      unfold essT
      rw [cutS_at t p r 47 hp h47, if_pos rfl]
      dsimp only
      refine evNeg (by omega) (evPos (by omega) (evPos (by omega) (Ev.bind (rtoken_ev _ (by omega)) (evIte (fun _ => evPos (by omega) (evPos (by omega) (Ev.bind (rtoken_ev _ (by omega)) (evIte (fun _ => evBind (rlower_f t (by omega)) (Ev.now _)) fun _ => Ev.now _)))) fun _ => Ev.now _))))
    · have hn : ¬ (c.toNat : Int) = 47 := fun e => hc (UInt8.toNat_inj.1 (by have : (47 : UInt8).toNat = 47 := rfl; omega))
      exact evNeg hn (ih (p ++ [c]) (by rw [hp]; simp) (by
        intro hm
        rcases List.mem_append.1 hm with hm | hm
        · exact h47 hm
        · exact hc (List.mem_singleton.1 hm).symm))
theorem ess_j1 (s : ByteArray) (hs : s.size ≤ 4611686018427387904) (p r : Bs) (hp : s.data.toList = p ++ r) : Ev (fun k => lockkeeperref7_Essence.j1 k s (p.length : Int)) (essT (trimS (bsOf p))) := by
  have hl : s.size = p.length + r.length := by rw [size_len, hp]; simp
  have zp : (bsOf p).size = p.length := size_bsOf p
  have zt := trimS_size (bsOf p)
  refine evSucc ?_
  simp only [lockkeeperref7_Essence.j1]
  rw [ext_pre s p r hp]
  exact evPos (by omega) (evPos (by omega) (Ev.bind (rtrim_ev _ (by omega)) (ess_l1 _ (by omega) _ [] rfl (by simp))))
theorem ess_l0 (s : ByteArray) (hs : s.size ≤ 4611686018427387904) (r : Bs) : ∀ p : Bs, s.data.toList = p ++ r → 59 ∉ p → Ev (fun k => lockkeeperref7_Essence.l0 k s (p.length : Int)) (essS s) := by
  induction r with
  | nil =>
    intro p hp h59
    have hl : s.size = p.length := by rw [size_len, hp]; simp
    refine evSucc ?_
    simp only [lockkeeperref7_Essence.l0]
    refine evNeg (by omega) (evEq (ess_j1 s hs p [] hp) ?_)
    rw [List.append_nil] at hp
    unfold essS
    rw [cutS_not s 59 (by rw [hp]; exact h59), ← hp, bsOf_of]
    rfl
  | cons c r ih =>
    intro p hp h59
    have hl : s.size = p.length + (r.length + 1) := by rw [size_len, hp]; simp
    have hb := bt_mid s p c r hp
    have e1 : wrap64 ((p.length : Int) + 1) = ((p ++ [c]).length : Int) := by simp; unfold wrap64; omega
    refine evSucc ?_
    simp only [lockkeeperref7_Essence.l0, hb, e1]
    refine evPos (by omega) (evPos (by omega) ?_)
    by_cases hc : c = 59
    · subst hc
      refine evPos rfl (evEq (ess_j1 s hs p (59 :: r) hp) ?_)
      unfold essS
      rw [cutS_at s p r 59 hp h59]
      rfl
    · have hn : ¬ (c.toNat : Int) = 59 := fun e => hc (UInt8.toNat_inj.1 (by have : (59 : UInt8).toNat = 59 := rfl; omega))
      exact evNeg hn (ih (p ++ [c]) (by rw [hp]; simp) (by
        intro hm
        rcases List.mem_append.1 hm with hm | hm
        · exact h59 hm
        · exact hc (List.mem_singleton.1 hm).symm))
theorem ress_ev (s : ByteArray) (hs : s.size ≤ 4611686018427387904) : Ev (fun k => lockkeeperref7_Essence.f k s) (essS s) := ess_l0 s hs s.data.toList [] rfl (by simp)

/-! ### Range -/
def rT (t : ByteArray) : Bool :=
  if (cutS t (⟨#[45]⟩ : ByteArray)).2.2 = true then (if (digS (cutS t (⟨#[45]⟩ : ByteArray)).1).2 = true then
    (if (cutS t (⟨#[45]⟩ : ByteArray)).2.1.toList = ([] : List UInt8) then true else if (digS (cutS t (⟨#[45]⟩ : ByteArray)).2.1).2 = true then decide ((digS (cutS t (⟨#[45]⟩ : ByteArray)).2.1).1 ≥ (digS (cutS t (⟨#[45]⟩ : ByteArray)).1).1) else false)
    else false) else false
theorem range_l0 (t : ByteArray) (ht : t.size ≤ 4611686018427387904) (r : Bs) : ∀ p : Bs, t.data.toList = p ++ r → 45 ∉ p → Ev (fun k => lockkeeperref7_Range.l0 k t (p.length : Int)) (rT t) := by
  induction r with
  | nil =>
    intro p hp h45
    have hl : t.size = p.length := by rw [size_len, hp]; simp
    rw [List.append_nil] at hp
    refine evSucc ?_
    simp only [lockkeeperref7_Range.l0]
    refine evNeg (by omega) (evSucc ?_)
    simp only [lockkeeperref7_Range.j2]
    refine evPos (by omega) (evEq (Ev.now _) ?_)
    unfold rT
    rw [cutS_not t 45 (by rw [hp]; exact h45)]
    rfl
  | cons c r ih =>
    intro p hp h45
    have hl : t.size = p.length + (r.length + 1) := by rw [size_len, hp]; simp
    have hb := bt_mid t p c r hp
    have e1 : wrap64 ((p.length : Int) + 1) = ((p ++ [c]).length : Int) := by simp; unfold wrap64; omega
    refine evSucc ?_
    simp only [lockkeeperref7_Range.l0, hb, e1]
    refine evPos (by omega) (evPos (by omega) ?_)
    by_cases hc : c = 45
    · subst hc
      have zp : (bsOf p).size = p.length := size_bsOf p
      have zr : (bsOf r).size = r.length := size_bsOf r
      have zl : (p ++ [(45 : UInt8)]).length = p.length + 1 := by simp
      refine evPos rfl (evSucc ?_)
      simp only [lockkeeperref7_Range.j2, e1]
      rw [ext_pre t p (45 :: r) hp, ext_post t p r 45 hp]
      unfold rT
      rw [cutS_at t p r 45 hp h45, if_pos rfl]
      dsimp only
      refine evNeg (by omega) (evPos (by omega) (evPos (by omega) (Ev.bind (rdig_ev _ (by omega)) (evIte (fun _ => ?_) fun _ => Ev.now _))))
      by_cases hr : r = []
      · subst hr
        rw [if_pos (by rw [tl]; rfl)]
        exact evPos (by simp at hl; omega) (Ev.now _)
      · have hlen : 0 < r.length := by cases r with
          | nil => exact absurd rfl hr
          | cons => simp
        rw [if_neg (by rw [tl, bsOf_data]; exact hr)]
        exact evNeg (by omega) (evPos (by omega) (evPos (by omega) (Ev.bind (rdig_ev _ (by omega)) (evIte (fun _ => Ev.now _) fun _ => Ev.now _))))
    · have hn : ¬ (c.toNat : Int) = 45 := fun e => hc (UInt8.toNat_inj.1 (by have : (45 : UInt8).toNat = 45 := rfl; omega))
      exact evNeg hn (ih (p ++ [c]) (by rw [hp]; simp) (by
        intro hm
        rcases List.mem_append.1 hm with hm | hm
        · exact h45 hm
        · exact hc (List.mem_singleton.1 hm).symm))
theorem rrange_ev (s : ByteArray) (hs : s.size ≤ 4611686018427387904) : Ev (fun k => lockkeeperref7_Range.f k s) (rangeS s) := by
  have hl := size_len s
  have jt : Ev (fun k => lockkeeperref7_Range.j0 k s true) false := by
    refine evSucc ?_
    simp only [lockkeeperref7_Range.j0, if_true]
    exact Ev.now _
  have e1 : (s.extract 0 6).toList = s.data.toList.take 6 := by rw [tl, extract_list]; rfl
  have e2 : s.extract 6 s.size = bsOf (s.data.toList.drop 6) := by
    apply ba_ext
    rw [extract_list, size_len, List.take_length]
    rfl
  unfold lockkeeperref7_Range.f
  by_cases h6 : (s.size : Int) < 6
  · have hn : ¬ s.data.toList.take 6 = ([98, 121, 116, 101, 115, 61] : List UInt8) := by
      intro e
      have := congrArg List.length e
      rw [List.length_take] at this
      simp at this
      omega
    refine evPos h6 (evEq jt ?_)
    unfold rangeS preS
    rw [if_neg hn]
    rfl
  · refine evNeg h6 (evPos (by omega) (evPos (by omega) ?_))
    rw [e1]
    by_cases hy : s.data.toList.take 6 = ([98, 121, 116, 101, 115, 61] : List UInt8)
    · rw [hy, show (([98, 121, 116, 101, 115, 61] : List UInt8) != ([98, 121, 116, 101, 115, 61] : List UInt8)) = false by decide]
      refine evSucc ?_
      simp only [lockkeeperref7_Range.j0, Bool.false_eq_true, if_false]
      rw [e2]
      have zd : (bsOf (s.data.toList.drop 6)).size ≤ s.size := by rw [size_bsOf, List.length_drop]; omega
      refine evPos (by omega) (evEq (range_l0 (bsOf (s.data.toList.drop 6)) (by omega) _ [] rfl (by simp)) ?_)
      unfold rangeS preS rT
      rw [if_pos hy]
      rfl
    · rw [show (s.data.toList.take 6 != ([98, 121, 116, 101, 115, 61] : List UInt8)) = true by rw [bne_iff_ne]; exact hy]
      refine evEq jt ?_
      unfold rangeS preS
      rw [if_neg hy]
      rfl

/-! ### Header, Names -/
theorem rheader_j0 (t n : ByteArray) (ht : t.size ≤ 4611686018427387904) (x : Bool) : Ev (fun k => lockkeeperref7_Header.j0 k t n x) (jointS t n x) := by
  refine evSucc ?_
  simp only [lockkeeperref7_Header.j0]
  unfold jointS
  refine evIte (fun _ => Ev.bind (eachW_ev t ht) (Ev.now _)) fun _ => evIte (fun _ => Ev.bind (ress_ev t ht) (Ev.bind (eachB_ev t ht) (evIte (fun _ => ?_) fun _ => Ev.now _))) fun _ => evIte (fun _ => Ev.bind (rrange_ev t ht) (Ev.now _)) fun _ => Ev.now _
  unfold formS
  exact evIte (fun _ => Ev.now _) fun _ => evIte (fun _ => Ev.now _) fun _ => Ev.now _
theorem rheader_ev (f0 f1 : ByteArray) (h0 : f0.size ≤ 1000000) (h1 : f1.size ≤ 1000000) : Ev (fun k => lockkeeperref7_Header.f k f0 f1) (safeS f0 f1) := by
  unfold lockkeeperref7_Header.f safeS
  have ht := trimS_size f1
  refine Ev.bind (rtrim_ev f1 (by omega)) (evIte (fun _ => Ev.now _) fun _ => evBind (rlower_f f0 (by omega)) ?_)
  exact evIte (fun _ => Ev.bind (eachB_ev _ (by omega)) (Ev.now _)) fun _ => evIte (fun _ => rheader_j0 _ _ (by omega) _) fun _ => rheader_j0 _ _ (by omega) _
theorem lowN_append (l m : List Hd) : lowN (l ++ m) = lowN l ++ lowN m := by simp [lowN]
theorem lowN_length (l : List Hd) : (lowN l).length = l.length := by simp [lowN]
theorem rnames_l0 (l : List Hd) (hl : HOk l) (r : List Hd) : ∀ p, p ++ r = l →
    Ev (fun k => lockkeeperref7_Names.l0 k l (unsafeN p) (lowN p) (totalN p : Int) (p.length : Int)) (snames l) := by
  have h1 := hl.1
  induction r with
  | nil =>
    intro p hp
    rw [List.append_nil] at hp
    subst hp
    have hu := unsafeN_length p
    have hn := lowN_length p
    refine evSucc ?_
    simp only [lockkeeperref7_Names.l0]
    refine evNeg (by omega) ?_
    unfold snames
    have e : riseB (lowN p) = riseB (unsafeN p ++ safeN p) := by
      refine riseB_congr fun x => ?_
      unfold unsafeN safeN lowN
      rw [List.mem_append, List.mem_map, List.mem_map, List.mem_map]
      constructor
      · rintro ⟨h, hh, rfl⟩
        by_cases hs : hsafe h = true
        · exact .inr ⟨h, List.mem_filter.2 ⟨hh, hs⟩, rfl⟩
        · exact .inl ⟨h, List.mem_filter.2 ⟨hh, by simpa using hs⟩, rfl⟩
      · rintro (⟨h, hh, rfl⟩ | ⟨h, hh, rfl⟩)
        · exact ⟨h, (List.mem_filter.1 hh).1, rfl⟩
        · exact ⟨h, (List.mem_filter.1 hh).1, rfl⟩
    rw [← e]
    exact evIte (fun _ => Ev.bind (rising_ev _ (by omega)) (Ev.now _)) fun _ => Ev.bind (rising_ev _ (by omega)) (Ev.now _)
  | cons h r ih =>
    intro p hp
    have hlen : l.length = p.length + (r.length + 1) := by rw [← hp]; simp
    have hh := hl.2 h (by rw [← hp]; simp)
    have hr : rd_T26 l (p.length : Int) = h := by rw [← hp]; exact rd_mid p h r
    have e2 : wrap64 ((p.length : Int) + 1) = ((p ++ [h]).length : Int) := by simp; unfold wrap64; omega
    have hp' : (p ++ [h]) ++ r = l := by simpa using hp
    have hpo : HOk p := by rw [← hp] at hl; exact hl.left
    have ht := totalN_le hpo
    have hu := unsafeN_length p
    have hn := lowN_length p
    have htr := trimS_size h.f1
    have ih' := ih (p ++ [h]) hp'
    have e6 : lowN [h] = [lowB h.f0] := rfl
    rw [unsafeN_append, lowN_append, totalN_append, e6] at ih'
    refine evSucc ?_
    simp only [lockkeeperref7_Names.l0, hr, e2]
    refine evPos (by omega) (evPos (by omega) (evBind (rlower_f _ (by omega)) (evPos (by omega) (evBind rfl (Ev.bind (rheader_ev _ _ hh.1 hh.2) ?_)))))
    cases hd : safeS h.f0 h.f1 with
    | true =>
      refine evPos rfl (Ev.bind (rtrim_ev _ (by omega)) ?_)
      have e3 : wrap64 ((totalN p : Int) + ((trimS h.f1).size : Int)) = ((totalN p + totalN [h] : Nat) : Int) := by
        have : totalN [h] = (trimS h.f1).size := by simp [totalN, hsafe, hd]
        rw [this]
        unfold wrap64
        omega
      rw [e3]
      have e4 : unsafeN [h] = [] := by simp [unsafeN, lowN, hsafe, hd]
      rw [e4, List.append_nil] at ih'
      exact ih'
    | false =>
      refine evNeg (by decide) (evPos (by omega) ?_)
      have e3 : totalN [h] = 0 := by simp [totalN, hsafe, hd]
      have e4 : unsafeN [h] = [lowB h.f0] := by simp [unsafeN, lowN, hsafe, hd]
      rw [e3, e4, Nat.add_zero] at ih'
      exact ih'
theorem rsnames_ev (l : List Hd) (hl : HOk l) : Ev (fun k => lockkeeperref7_Names.f k l) (snames l) := by
  have := rnames_l0 l hl l [] rfl
  exact this
theorem SafeAll : ∀ (x0 : S26) (l1 : List (S26)) (a2 : ByteArray) (a3 : Int), (bT26 x0) → (l1.length ≤ maxLen ∧ ∀ x_ ∈ l1, bT26 x_) → a2.size ≤ 140737488351232 → (Lit.int .u8 a3).wf = true → ∃ k, lockkeeperlaw7_SafeAll.f k x0.f0 x0.f1 l1 a2 a3 = some true := by
  rintro ⟨f0, f1⟩ l s b ⟨q0, q1⟩ _ _ hb
  dsimp only at q0 q1
  rw [show maxLen = 9223372036854775807 from rfl] at q0 q1
  refine Ev.rounds (g := fun k => lockkeeperlaw7_SafeAll.f k f0 f1 l s b) ?_
  have hbb : 0 ≤ b ∧ b ≤ 255 := by
    have h : IntKind.u8.min ≤ b ∧ b ≤ IntKind.u8.max := by simpa [Lit.wf] using hb
    rw [show IntKind.u8.min = 0 from rfl, show IntKind.u8.max = 255 from rfl] at h
    exact h
  obtain ⟨c, rfl⟩ : ∃ c : UInt8, b = (c.toNat : Int) := ⟨UInt8.ofNat b.toNat, by
    have e : (UInt8.ofNat b.toNat).toNat = b.toNat % 256 := by simp
    rw [e]
    omega⟩
  have jt : Ev (fun k => lockkeeperlaw7_SafeAll.j0 k l s (c.toNat : Int) true f0 f1) true := by
    refine evSucc ?_
    simp only [lockkeeperlaw7_SafeAll.j0, if_true]
    exact Ev.bind awake7_ev (Ev.now _)
  unfold lockkeeperlaw7_SafeAll.f
  obtain ⟨g, hg, hG⟩ := great_ev l
  refine Ev.bind hg ?_
  cases g with
  | true => exact evPos rfl jt
  | false =>
    refine evNeg (by decide) (Ev.bind (long_ev 600 [s] (by omega) (by omega) (by simp)) ?_)
    cases hL : longS 600 [s] with
    | true => exact evPos rfl jt
    | false =>
      have hs := longS_size _ _ hL s (by simp)
      refine evNeg (by decide) (Ev.bind (long_ev 2000 [f0, f1] (by omega) (by omega) (by simp)) ?_)
      cases hM : longS 2000 [f0, f1] with
      | true => exact jt
      | false =>
        have z0 := longS_size _ _ hM f0 (by simp)
        have z1 := longS_size _ _ hM f1 (by simp)
        have hl := (hG rfl).ok
        have l1 := hl.1
        have ns := snames_length l
        refine evSucc ?_
        simp only [lockkeeperlaw7_SafeAll.j0, Bool.false_eq_true, if_false]
        refine Ev.bind (ess_ev s (by omega)) (Ev.bind (ress_ev s (by omega)) (evBind (allByte_total _) (Ev.bind (rbyte_ev c) (evPos (by simp [byteB]) (evPos rfl (evPos (by simp) ?_))))))
        refine Ev.bind (range_ev s (by omega)) (Ev.bind (rrange_ev s (by omega)) (evPos (by simp) ?_))
        refine Ev.bind (header_ev f0 f1 (by omega) (by omega)) (Ev.bind (rheader_ev f0 f1 (by omega) (by omega)) (evPos (by simp) ?_))
        refine Ev.bind (snames_ev l hl) (Ev.bind (rsnames_ev l hl) (Ev.bind (texts_refl _ (by omega)) (evPos rfl ?_)))
        exact Ev.bind awake7_ev (Ev.now _)
end Go.Proofs.Ytojcceafgkdchaa.Pure
