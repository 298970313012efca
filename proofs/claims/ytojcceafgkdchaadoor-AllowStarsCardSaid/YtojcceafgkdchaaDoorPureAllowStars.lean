/- The printed law AllowStars tells true for every text, with credentials or without, and every mask (of the form's own reach). -/
import Derived.Test.YtojcceafgkdchaaDoorD6
import Derived.Test.YtojcceafgkdchaaDoorPr18
namespace Go.Proofs.YtojcceafgkdchaaDoor.Pure
open Go.RowKit Go.Proofs.YtojcceafgkdchaaDoor.Pr Go.Proofs.YtojcceafgkdchaaDoorW.PrintWords Go.Proofs.YtojcceafgkdchaaDoorW.PrintLast
set_option linter.unusedVariables false
set_option linter.unusedSimpArgs false

def sAuth : ByteArray := (⟨#[97, 117, 116, 104, 111, 114, 105, 122, 97, 116, 105, 111, 110]⟩ : ByteArray)
theorem star_mem (x : ByteArray) : Lib.containsS [sStar] x = (x.toList == ([42] : List UInt8)) := by
  rw [Bool.eq_iff_iff, Lib.containsS_iff, List.mem_singleton, beq_iff_eq]
  constructor
  · rintro rfl; rw [tl]; rfl
  · intro h
    rw [tl] at h
    exact ba_ext h
theorem low42_all : ∀ n : Fin 256, lowC (UInt8.ofNat n.val) = 42 → UInt8.ofNat n.val = 42 := by decide +kernel
theorem low42 (c : UInt8) (h : lowC c = 42) : c = 42 := by
  have := low42_all ⟨c.toNat, c.toNat_lt⟩
  simp at this
  exact this h
theorem star_low (x : ByteArray) : ((lowB x).toList == ([42] : List UInt8)) = (x.toList == ([42] : List UInt8)) := by
  rw [Bool.eq_iff_iff, beq_iff_eq, beq_iff_eq, tl, tl, lowB_data]
  unfold lowL
  constructor
  · intro h
    cases hx : x.data.toList with
    | nil => rw [hx] at h; cases h
    | cons c l =>
      rw [hx, List.map_cons] at h
      injection h with h1 h2
      rw [low42 c h1, List.map_eq_nil_iff.1 h2]
  · intro h
    rw [h]
    rfl
theorem AllowStars : ∀ (a0 : ByteArray) (a1 : Bool) (a2 : Int), a0.size ≤ 140737488351232 → (Lit.int .u64 a2).wf = true → ∃ k, lockkeeperlaw14_AllowStars.f k a0 a1 a2 = some true := by
  intro s creds bits h0 hb
  refine Ev.rounds (g := fun k => lockkeeperlaw14_AllowStars.f k s creds bits) ?_
  unfold lockkeeperlaw14_AllowStars.f
  refine Ev.bind (long_ev 60 [s] (by omega) (by omega) (by simp)) ?_
  cases hL : longS 60 [s] with
  | true => exact evPos rfl (Ev.bind awake14_ev (Ev.now _))
  | false =>
    have hs := longS_size _ _ hL s (by simp)
    have hf := flip_f sAuth bits (by decide) hb
    have hz := flip_size sAuth bits
    have hsz : sAuth.size = 13 := rfl
    have hlow : lowB (flipS sAuth bits) = sAuth := by rw [flip_lowB]; decide +kernel
    have e1 : hasS [sStar] s false = true := by
      unfold hasS
      repeat' split
      all_goals first | rfl | simp_all [sStar]
    have e2 : hasS [sStar] s true = (if safeM s = true then true else (s.toList == ([42] : List UInt8))) := by
      unfold hasS
      rw [star_mem]
      cases safeM s <;> cases (s.toList == ([42] : List UInt8)) <;> rfl
    have c1 : covS [sStar] (flipS sAuth bits) creds = false := by
      unfold covS
      rw [star_mem, hlow, if_neg (by decide +kernel)]
      cases creds
      · rw [if_neg (by decide), if_pos (by rw [tl]; rfl)]
      · rfl
    have c2 : covS [sStar] s true = (s.toList == ([42] : List UInt8)) := by
      unfold covS
      rw [star_mem, star_low]
      cases (s.toList == ([42] : List UInt8)) <;> rfl
    have c3 : foldB s (flipS sAuth bits) = false → covS [sStar] s false = true := by
      intro hn
      unfold covS
      have : ¬ (lowB s).toList = ([97, 117, 116, 104, 111, 114, 105, 122, 97, 116, 105, 111, 110] : List UInt8) := by
        intro e
        rw [tl, lowB_data] at e
        have e' : lowL (flipS sAuth bits).data.toList = ([97, 117, 116, 104, 111, 114, 105, 122, 97, 116, 105, 111, 110] : List UInt8) := by
          have := congrArg (fun x : ByteArray => x.data.toList) hlow
          rw [lowB_data] at this
          exact this
        unfold foldB at hn
        rw [e, e'] at hn
        simp at hn
      rw [if_neg this]
      cases Lib.containsS [sStar] (lowB s) <;> rfl
    have cov : ∀ n : ByteArray, ∀ c : Bool, n.size ≤ 1000 → allow_Covers.f [sStar] [sStar] 0 n c = some (covS [sStar] n c) := fun n c hn => cov_f [sStar] [sStar] 0 n c (by decide) (by omega)
    have tail : ∀ g : Bool, Ev (fun k => (allow_Covers.f [sStar] [sStar] 0 (flipS sAuth bits) creds).bind fun t => if t = true then some false else (octet_Fold.f s (flipS sAuth bits)).bind fun t => if t = true then (allow_Covers.f [sStar] [sStar] 0 s true).bind fun t => (if (t == (s.toList == ([42] : List UInt8))) = true then (lockkeeperlaw14_awake.f k).bind fun t => some t else some false) else (allow_Covers.f [sStar] [sStar] 0 s false).bind fun t => if t = true then (allow_Covers.f [sStar] [sStar] 0 s true).bind fun t => (if (t == (s.toList == ([42] : List UInt8))) = true then (lockkeeperlaw14_awake.f k).bind fun t => some t else some false) else some false) true := by
      intro g
      refine evBind (cov _ creds (by omega)) ?_
      rw [c1]
      refine evNeg (by decide) (evBind (fold_f s _ (by omega) (by omega)) ?_)
      have fin : Ev (fun k => (allow_Covers.f [sStar] [sStar] 0 s true).bind fun t => (if (t == (s.toList == ([42] : List UInt8))) = true then (lockkeeperlaw14_awake.f k).bind fun t => some t else some false)) true := by
        refine evBind (cov s true (by omega)) ?_
        rw [c2]
        exact evPos (by simp) (Ev.bind awake14_ev (Ev.now _))
      cases hfo : foldB s (flipS sAuth bits) with
      | true => exact evPos rfl fin
      | false =>
        refine evNeg (by decide) (evBind (cov s false (by omega)) ?_)
        rw [c3 hfo]
        exact evPos rfl fin
    refine evNeg (by decide) (evBind rfl (evBind rfl (evBind hf (Ev.bind (has_ev [sStar] [sStar] 0 s false (by decide) (by omega)) ?_))))
    rw [e1]
    refine evPos rfl (Ev.bind (has_ev [sStar] [sStar] 0 s true (by decide) (by omega)) ?_)
    rw [e2]
    by_cases h : s.toList = ([42] : List UInt8)
    · refine evPos h (evPos ?_ (tail true))
      have : (s.toList == ([42] : List UInt8)) = true := by simp [h]
      rw [this]
      cases safeM s <;> rfl
    · refine evNeg h (Ev.bind (safeM_ev s (by omega)) (evPos ?_ (tail true)))
      have : (s.toList == ([42] : List UInt8)) = false := by simp [h]
      rw [this]
      cases safeM s <;> rfl
end Go.Proofs.YtojcceafgkdchaaDoor.Pure
