/- The printed law AllowNames tells true for every row of texts and every two numbers (of the form's own reach). -/
import Derived.Test.YtojcceafgkdchaaDoorD6
import Derived.Test.YtojcceafgkdchaaDoorPr16
namespace Go.Proofs.YtojcceafgkdchaaDoor.Pure
open Go.RowKit Go.Proofs.YtojcceafgkdchaaDoor.Pr Go.Proofs.YtojcceafgkdchaaDoorW.PrintWords Go.Proofs.YtojcceafgkdchaaDoorW.PrintLast
set_option linter.unusedVariables false
set_option linter.unusedSimpArgs false

theorem trimL_space (x : Bs) : trimL (32 :: x) = trimL x := by
  unfold trimL
  rw [show (32 :: x).dropWhile isBl = x.dropWhile isBl by simp [show isBl 32 = true by decide]]
theorem keepT_cons (x : Bs) (xs : List Bs) : keepT (x :: xs) = keepT [x] ++ keepT xs := keepT_append [x] xs
theorem keepT_space (m : Bs) : keepT (splitC 44 (32 :: m)) = keepT (splitC 44 m) := by
  rw [splitC, if_neg (by decide)]
  cases h : splitC 44 m with
  | nil => exact absurd h (splitC_ne 44 m)
  | cons x xs =>
    rw [keepT_cons (32 :: x), keepT_cons x]
    unfold keepT
    simp only [List.map_cons, List.map_nil, trimL_space]
theorem join_split (xs : List Bs) (h : ∀ x ∈ xs, (44 : UInt8) ∉ x) : keepT (splitC 44 (Lib.join xs [44, 32])) = keepT xs := by
  induction xs with
  | nil => rfl
  | cons a xs ih =>
    have ha := h a (by simp)
    cases xs with
    | nil =>
      have : Lib.join [a] [44, 32] = a := by simp [Lib.join, List.intercalate, List.intersperse]
      rw [this, splitC_not 44 a ha]
    | cons b xs =>
      have hi := ih (fun x hx => h x (by simp [hx]))
      have : Lib.join (a :: b :: xs) [44, 32] = a ++ 44 :: (32 :: Lib.join (b :: xs) [44, 32]) := by simp [Lib.join, List.intercalate, List.intersperse]
      rw [this, splitC_at 44 a _ ha, keepT_cons, keepT_space, hi, ← keepT_cons]
theorem tok_all : ∀ n : Fin 256, isTok (UInt8.ofNat n.val) = true → UInt8.ofNat n.val ≠ 44 ∧ isBl (UInt8.ofNat n.val) = false := by decide +kernel
theorem tok_c (c : UInt8) (h : isTok c = true) : c ≠ 44 ∧ isBl c = false := by
  have := tok_all ⟨c.toNat, c.toNat_lt⟩
  simp at this
  exact this h
theorem tok_text {x : ByteArray} (h : tokS x = true) : (44 : UInt8) ∉ x.data.toList ∧ trimL x.data.toList = x.data.toList ∧ x.data.toList ≠ [] := by
  unfold tokS at h
  rw [Bool.and_eq_true, List.all_eq_true] at h
  refine ⟨fun hm => (tok_c 44 (h.1 44 hm)).1 rfl, trim_none _ fun c hc => (tok_c c (h.1 c hc)).2, ?_⟩
  simpa using h.2
theorem keepT_toks (L : List ByteArray) (h : ∀ x ∈ L, tokS x = true) : keepT (L.map fun x => x.data.toList) = L := by
  induction L with
  | nil => rfl
  | cons x L ih =>
    obtain ⟨_, h2, h3⟩ := tok_text (h x (by simp))
    rw [List.map_cons, keepT_cons, ih (fun y hy => h y (by simp [hy])), keepT_one, h2, if_neg h3, bsOf_of]
    rfl
theorem split_join (L : List ByteArray) (h : ∀ x ∈ L, tokS x = true) : splitS (joinS L) = L := by
  have e : (joinS L).data.toList = Lib.join (L.map fun x => x.data.toList) [44, 32] := by
    unfold joinS joinB
    first | rfl | (simp [bsOf_data]; done) | (rw [bsOf_data]; rfl)
  unfold splitS
  rw [e, join_split _ (fun x hx => by
    obtain ⟨y, hy, rfl⟩ := List.mem_map.1 hx
    exact (tok_text (h y hy)).1), keepT_toks L h]
theorem trimS_tok {x : ByteArray} (h : tokS x = true) : trimS x = x := by
  unfold trimS
  rw [(tok_text h).2.1, bsOf_of]
theorem wf_wrap (z : Int) : (Lit.int .u64 (IntKind.u64.wrap z)).wf = true := by
  have e : IntKind.u64.wrap z = z % 18446744073709551616 := by simp [IntKind.wrap, IntKind.bits, IntKind.signed]
  rw [e]
  have h : IntKind.u64.min ≤ z % 18446744073709551616 ∧ z % 18446744073709551616 ≤ IntKind.u64.max := by
    rw [show IntKind.u64.min = 0 from rfl, show IntKind.u64.max = 18446744073709551615 from rfl]
    omega
  simpa [Lit.wf] using h
theorem wf_xor (a b : Int) : (Lit.int .u64 (Go.bits .xor .u64 a b)).wf = true := by
  obtain ⟨z, hz⟩ : ∃ z, Go.bits .xor .u64 a b = IntKind.u64.wrap z := ⟨_, rfl⟩
  rw [hz]
  exact wf_wrap z
theorem fold_flip (s t : ByteArray) (b : Int) : foldB (flipS s b) t = foldB s t := by
  unfold foldB
  rw [flip_lowL]
def Inv (L : List ByteArray) (x7 : List Hd) (i : Nat) : Prop := x7.length = 2 * i ∧ (∀ h ∈ x7, h.f0.size ≤ 100000 ∧ h.f1.size ≤ 100000) ∧ vals x7 sMeths = L.take i ∧ vals x7 sHeads = L.take i ∧ (∀ x ∈ L.take i, tokS x = true ∧ x.size ≤ 30)
theorem Inv.next {L : List ByteArray} {x7 : List Hd} {i : Nat} (h : Inv L x7 i) (hi : i < L.length) (ht : tokS L[i] = true) (hz : L[i].size ≤ 30) (b c : Int) : Inv L (x7 ++ [⟨flipS sMeths b, L[i]⟩, ⟨flipS sHeads c, L[i]⟩]) (i + 1) := by
  obtain ⟨h1, h2, h3, h4, h5⟩ := h
  have e1 : vals [⟨flipS sMeths b, L[i]⟩, ⟨flipS sHeads c, L[i]⟩] sMeths = [L[i]] := by
    have f1 : foldB (flipS sMeths b) sMeths = true := (fold_flip _ _ _).trans (by decide +kernel)
    have f2 : foldB (flipS sHeads c) sMeths = false := (fold_flip _ _ _).trans (by decide +kernel)
    simp [vals, f1, f2, trimS_tok ht]
  have e2 : vals [⟨flipS sMeths b, L[i]⟩, ⟨flipS sHeads c, L[i]⟩] sHeads = [L[i]] := by
    have f1 : foldB (flipS sMeths b) sHeads = false := (fold_flip _ _ _).trans (by decide +kernel)
    have f2 : foldB (flipS sHeads c) sHeads = true := (fold_flip _ _ _).trans (by decide +kernel)
    simp [vals, f1, f2, trimS_tok ht]
  have z1 := flip_size sMeths b
  have z2 := flip_size sHeads c
  have y1 : sMeths.size = 28 := rfl
  have y2 : sHeads.size = 28 := rfl
  refine ⟨by simp; omega, ?_, ?_, ?_, ?_⟩
  · intro x hx
    rcases List.mem_append.1 hx with hx | hx
    · exact h2 x hx
    · rcases List.mem_cons.1 hx with rfl | hx
      · exact ⟨by show (flipS sMeths b).size ≤ _; omega, by show L[i].size ≤ _; omega⟩
      · rw [List.mem_singleton.1 hx]
        exact ⟨by show (flipS sHeads c).size ≤ _; omega, by show L[i].size ≤ _; omega⟩
  · rw [vals_append, h3, e1, List.take_succ_eq_append_getElem hi]
  · rw [vals_append, h4, e2, List.take_succ_eq_append_getElem hi]
  · intro x hx
    rw [List.take_succ_eq_append_getElem hi] at hx
    rcases List.mem_append.1 hx with hx | hx
    · exact h5 x hx
    · rw [List.mem_singleton.1 hx]; exact ⟨ht, hz⟩
theorem toks_of (L : List ByteArray) (x7 : List Hd) (name : ByteArray) (hv : vals x7 name = L) (h : ∀ x ∈ L, tokS x = true) : toksS x7 name = (L, true) := by
  have e : (getS x7 name).1 = joinS L := by unfold getS; rw [hv]
  unfold toksS
  rw [e, split_join L h, if_pos (List.all_eq_true.2 h)]
theorem cont (l : List ByteArray) (x : ByteArray) (h : x ∈ l) : Lib.containsS l x = true := (Lib.containsS_iff _ _).2 h
theorem names_l0 (L : List ByteArray) (x1 x2 : Int) (h1 : (Lit.int .i64 x1).wf = true) (h2 : (Lit.int .u64 x2).wf = true) (hl : 1 ≤ L.length ∧ L.length ≤ 30) (hm : ∀ x ∈ L, x.size ≤ 9223372036854775807) :
    ∀ n i x7, i + n = L.length → Inv L x7 i → Ev (fun k => lockkeeperlaw14_AllowNames.l0 k L x1 x2 x7 (i : Int)) true := by
  intro n
  induction n with
  | zero =>
    intro i x7 hi hI
    obtain rfl : i = L.length := by omega
    obtain ⟨i1, i2, i3, i4, i5⟩ := hI
    rw [List.take_length] at i3 i4 i5
    have hT : HT x7 := ⟨by omega, i2⟩
    have ht : ∀ x ∈ L, tokS x = true := fun x hx => (i5 x hx).1
    have hr : readS x7 = (L, L.map lowB, ageS (getS x7 sAge).1, 0) := by
      unfold readS
      rw [toks_of L x7 sMeths i3 ht, toks_of L x7 sHeads i4 ht]
      rfl
    obtain ⟨r, hlow, r0, rn⟩ := low_f x1 (L.length : Int) h1 (by omega) (by omega)
    obtain ⟨j, rfl⟩ := Int.eq_ofNat_of_zero_le r0
    have hj : j < L.length := by omega
    have hj' : j < (L.map lowB).length := by simp; omega
    have g1 := rdOf_get L j hj
    have g2 := rdOf_get (L.map lowB) j hj'
    rw [List.getElem_map] at g2
    have hs := hm _ (List.getElem_mem hj)
    have hz := flip_size L[j] x2
    refine evSucc ?_
    simp only [lockkeeperlaw14_AllowNames.l0]
    refine evNeg (by omega) (Ev.bind (evEq (read_ev x7 hT) hr) (evBind hlow (evPos rfl (evPos rfl (evPos (by simp) (evPos r0 (evPos (by omega) (evPos (by omega) ?_))))))))
    rw [g1, g2]
    refine evPos rfl (evPos (by simp; omega) (evBind (lower_f _ hs) (evPos rfl (Ev.bind (has_ev L (L.map lowB) _ L[j] true (by omega) hs) (evPos ?_ (evBind (flip_f _ _ hs h2) (evBind (cov_f L (L.map lowB) _ _ true (by simp; omega) (by omega)) (evPos ?_ (Ev.bind awake14_ev (Ev.now _))))))))))
    · unfold hasS
      rw [cont L L[j] (List.getElem_mem hj)]
      cases safeM L[j] <;> rfl
    · unfold covS
      rw [flip_lowB, cont (L.map lowB) (lowB L[j]) (List.mem_map.2 ⟨_, List.getElem_mem hj, rfl⟩)]
      rfl
  | succ n ih =>
    intro i x7 hi hI
    have hlt : i < L.length := by omega
    have e2 : wrap64 ((i : Int) + 1) = ((i + 1 : Nat) : Int) := by unfold wrap64; omega
    have g1 := rdOf_get L i hlt
    have hs := hm _ (List.getElem_mem hlt)
    have jt : Ev (fun k => lockkeeperlaw14_AllowNames.j2 k L x1 x2 x7 (i : Int) true) true := by
      refine evSucc ?_
      simp only [lockkeeperlaw14_AllowNames.j2, if_true]
      exact Ev.bind awake14_ev (Ev.now _)
    refine evSucc ?_
    simp only [lockkeeperlaw14_AllowNames.l0, g1]
    refine evPos (by omega) (evPos (by omega) ?_)
    by_cases h30 : (L[i].size : Int) > 30
    · exact evPos h30 jt
    · refine evNeg h30 (Ev.bind (token_ev _ (by omega)) ?_)
      cases ht : tokS L[i] with
      | false => exact jt
      | true =>
        refine evSucc ?_
        simp only [lockkeeperlaw14_AllowNames.j2, Bool.not_true, Bool.false_eq_true, if_false, g1, e2]
        have i1 := hI.1
        refine evBind (flip_f sMeths _ (by decide) (wf_wrap _)) (evPos (by omega) (evPos (by omega) (evBind (flip_f sHeads _ (by decide) (wf_xor _ _)) (evBind rfl (evPos (by simp; omega) ?_)))))
        exact ih (i + 1) _ (by omega) (hI.next hlt ht (by omega) _ _)
theorem AllowNames : ∀ (l0 : List (ByteArray)) (a1 : Int) (a2 : Int), (l0.length ≤ maxLen ∧ ∀ x_ ∈ l0, x_.size ≤ maxLen) → (Lit.int .i64 a1).wf = true → (Lit.int .u64 a2).wf = true → ∃ k, lockkeeperlaw14_AllowNames.f k l0 a1 a2 = some true := by
  intro L x1 x2 h0 h1 h2
  rw [show maxLen = 9223372036854775807 from rfl] at h0
  refine Ev.rounds (g := fun k => lockkeeperlaw14_AllowNames.f k L x1 x2) ?_
  have jt : Ev (fun k => lockkeeperlaw14_AllowNames.j0 k L x1 x2 true) true := by
    refine evSucc ?_
    simp only [lockkeeperlaw14_AllowNames.j0, if_true]
    exact Ev.bind awake14_ev (Ev.now _)
  unfold lockkeeperlaw14_AllowNames.f
  by_cases ha : (L.length : Int) < 1
  · exact evPos ha jt
  · refine evNeg ha ?_
    by_cases hb : (L.length : Int) > 30
    · rw [decide_eq_true hb]; exact jt
    · rw [decide_eq_false hb]
      refine evSucc ?_
      simp only [lockkeeperlaw14_AllowNames.j0, Bool.false_eq_true, if_false]
      exact names_l0 L x1 x2 h1 h2 (by omega) h0.2 L.length 0 [] (by omega) ⟨rfl, (by intro h hh; cases hh), by rw [List.take_zero]; rfl, by rw [List.take_zero]; rfl, (by intro x hx; rw [List.take_zero] at hx; cases hx)⟩
end Go.Proofs.YtojcceafgkdchaaDoor.Pure
