/- The printed law TargetUps tells true for every row of numbers and every number (of the form's own reach). -/
import Derived.Test.YtbfbidifodcedaaDoorBTUps
import Derived.Test.YtbfbidifodcedaaDoorPr14
namespace Go.Proofs.YtbfbidifodcedaaDoor.Pure
open Go.RowKit Go.Proofs.YtbfbidifodcedaaDoor.Pr Go.Proofs.YtbfbidifodcedaaDoorW.PrintWords Go.Proofs.YtbfbidifodcedaaDoorW.PrintLast
set_option linter.unusedVariables false
set_option linter.unusedSimpArgs false

theorem seg4 (t : Int) (h0 : 0 ≤ t) (h1 : t < 4) : ∃ s : Bs, rdOf ByteArray.empty ([(⟨#[97]⟩ : ByteArray), (⟨#[98, 99]⟩ : ByteArray), (⟨#[46, 46, 46]⟩ : ByteArray), (⟨#[37, 52, 49]⟩ : ByteArray)] : List ByteArray) t = bsOf s ∧ dotV s = 0 ∧ (47 : UInt8) ∉ s ∧ s.length ≤ 3 := by
  rcases (by omega : t = 0 ∨ t = 1 ∨ t = 2 ∨ t = 3) with rfl | rfl | rfl | rfl
  · exact ⟨([97] : List UInt8), rfl, by decide, by decide, by decide⟩
  · exact ⟨([98, 99] : List UInt8), rfl, by decide, by decide, by decide⟩
  · exact ⟨([46, 46, 46] : List UInt8), rfl, by decide, by decide, by decide⟩
  · exact ⟨([37, 52, 49] : List UInt8), rfl, by decide, by decide, by decide⟩
theorem up3 (t : Int) (h0 : 0 ≤ t) (h1 : t < 3) : ∃ s : Bs, rdOf ByteArray.empty ([(⟨#[46, 46, 47]⟩ : ByteArray), (⟨#[46, 37, 50, 101, 47]⟩ : ByteArray), (⟨#[37, 50, 69, 46, 47]⟩ : ByteArray)] : List ByteArray) t = bsOf (s ++ ([47] : List UInt8)) ∧ dotV s = 2 ∧ (47 : UInt8) ∉ s ∧ s.length ≤ 4 := by
  rcases (by omega : t = 0 ∨ t = 1 ∨ t = 2) with rfl | rfl | rfl
  · exact ⟨([46, 46] : List UInt8), rfl, by decide, by decide, by decide⟩
  · exact ⟨([46, 37, 50, 101] : List UInt8), rfl, by decide, by decide, by decide⟩
  · exact ⟨([37, 50, 69, 46] : List UInt8), rfl, by decide, by decide, by decide⟩
theorem segsV_wt (l : List Bs) : (segsV l).length = wtV l := by
  induction l with
  | nil => rfl
  | cons a l ih => rw [segsV_cons, wtV_cons, ← ih, List.length_append, List.length_cons]; omega
theorem ups_l1 (L : List Bs) (hL : ∀ s ∈ L, dotV s = 0 ∧ (47 : UInt8) ∉ s) (hw : wtV L ≤ 200) (K : Nat) (hK : K ≤ 40) : ∀ n j (U : List Bs), j + n = K → U.length = j → (∀ s ∈ U, dotV s = 2 ∧ (47 : UInt8) ∉ s) → wtV U ≤ 5 * j →
    Ev (fun k => lockkeeperlaw4_TargetUps.l1 k (K : Int) (bsOf (47 :: segsV (L ++ U))) (bsOf (47 :: segsV (L.take (L.length - K)))) (j : Int)) true := by
  intro n
  induction n with
  | zero =>
    intro j U hj hU hg hz
    have z1 : (bsOf (47 :: segsV (L ++ U))).size = 1 + (wtV L + wtV U) := by rw [size_bsOf, List.length_cons, segsV_wt, wtV_append]; omega
    have hcl := clean_ev (bsOf (47 :: segsV (L ++ U))) (by omega)
    rw [bsOf_data, clean_ups L U hL hg, show U.length = K by omega] at hcl
    refine evSucc ?_
    simp only [lockkeeperlaw4_TargetUps.l1]
    exact evNeg (by omega) (Ev.bind hcl (evPos rfl (Ev.bind awake4_ev (Ev.now _))))
  | succ n ih =>
    intro j U hj hU hg hz
    have z1 : (bsOf (47 :: segsV (L ++ U))).size = 1 + (wtV L + wtV U) := by rw [size_bsOf, List.length_cons, segsV_wt, wtV_append]; omega
    have e2 : wrap64 ((j : Int) + 1) = ((j + 1 : Nat) : Int) := by unfold wrap64; omega
    have m0 : 0 ≤ Int.tmod (j : Int) 3 ∧ Int.tmod (j : Int) 3 < 3 := by
      rw [Int.tmod_eq_emod_of_nonneg (by omega)]
      omega
    obtain ⟨s, es, hs2, hs47, hsl⟩ := up3 _ m0.1 m0.2
    have z2 : (bsOf (s ++ ([47] : List UInt8))).size = s.length + 1 := by rw [size_bsOf, List.length_append]; rfl
    have e3 : bsOf (47 :: segsV (L ++ U)) ++ bsOf (s ++ ([47] : List UInt8)) = bsOf (47 :: segsV (L ++ (U ++ [s]))) := ba_ext (by
      rw [append_list, bsOf_data, bsOf_data, bsOf_data, ← List.append_assoc L, segsV_append (L ++ U), segsV_one]
      simp)
    refine evSucc ?_
    simp only [lockkeeperlaw4_TargetUps.l1, es, e2]
    refine evPos (by omega) (evPos m0.1 (evPos m0.2 (evPos (by omega) ?_)))
    rw [e3]
    refine ih (j + 1) (U ++ [s]) (by omega) (by simp; omega) (fun x hx => ?_) (by rw [wtV_append, wtV_one]; omega)
    rcases List.mem_append.1 hx with hx | hx
    · exact hg x hx
    · rw [List.mem_singleton.1 hx]; exact ⟨hs2, hs47⟩
theorem rd_at (l : List Int) (i : Nat) (h : i < l.length) : rd l (i : Int) = l[i] := by simp [rd, List.getD_eq_getElem?_getD, h]
theorem ups_l0 (l : List Int) (hl : l.length ≤ 30) (hwf : ∀ x ∈ l, (Lit.int .i64 x).wf = true) (K : Nat) (hK : K ≤ 40) : ∀ n i (L : List Bs), i + n = l.length → L.length = i → (∀ s ∈ L, dotV s = 0 ∧ (47 : UInt8) ∉ s) → wtV L ≤ 4 * i →
    Ev (fun k => lockkeeperlaw4_TargetUps.l0 k l (K : Int) (bsOf (47 :: segsV L)) (bsOf (47 :: segsV (L.take (l.length - K)))) (i : Int)) true := by
  intro n
  induction n with
  | zero =>
    intro i L hi hL hg hz
    refine evSucc ?_
    simp only [lockkeeperlaw4_TargetUps.l0]
    refine evNeg (by omega) ?_
    have := ups_l1 L hg (by omega) K hK K 0 [] (by omega) rfl (by intro s hs; cases hs) (Nat.zero_le _)
    rw [List.append_nil, show L.length = l.length by omega] at this
    exact this
  | succ n ih =>
    intro i L hi hL hg hz
    have hlt : i < l.length := by omega
    have z1 : (bsOf (47 :: segsV L)).size = 1 + wtV L := by rw [size_bsOf, List.length_cons, segsV_wt]; omega
    have z3 : (bsOf (47 :: segsV (L.take (l.length - K)))).size ≤ 1 + wtV L := by
      have := wtV_append (L.take (l.length - K)) (L.drop (l.length - K))
      rw [List.take_append_drop] at this
      rw [size_bsOf, List.length_cons, segsV_wt]
      omega
    have e2 : wrap64 ((i : Int) + 1) = ((i + 1 : Nat) : Int) := by unfold wrap64; omega
    have e4 : wrap64 ((l.length : Int) - (K : Int)) = (l.length : Int) - (K : Int) := by unfold wrap64; omega
    obtain ⟨t, ht, t0, t4⟩ := low_f l[i] 4 (hwf _ (List.getElem_mem hlt)) (by omega) (by omega)
    obtain ⟨s, es, hs0, hs47, hsl⟩ := seg4 t t0 t4
    have z2 : (bsOf s ++ (⟨#[47]⟩ : ByteArray)).size = s.length + 1 := by rw [ByteArray.size_append, size_bsOf]; rfl
    have e3 : ∀ M : List Bs, bsOf (47 :: segsV M) ++ (bsOf s ++ (⟨#[47]⟩ : ByteArray)) = bsOf (47 :: segsV (M ++ [s])) := fun M => ba_ext (by
      rw [append_list, append_list, bsOf_data, bsOf_data, bsOf_data, segsV_append, segsV_one]
      rfl)
    have z5 : (bsOf s).size = s.length := size_bsOf _
    have hg' : ∀ x ∈ L ++ [s], dotV x = 0 ∧ (47 : UInt8) ∉ x := fun x hx => by
      rcases List.mem_append.1 hx with hx | hx
      · exact hg x hx
      · rw [List.mem_singleton.1 hx]; exact ⟨hs0, hs47⟩
    have IH := ih (i + 1) (L ++ [s]) (by omega) (by simp; omega) hg' (by rw [wtV_append, wtV_one]; omega)
    refine evSucc ?_
    simp only [lockkeeperlaw4_TargetUps.l0, e2, e4]
    rw [rd_at l i hlt]
    refine evPos (by omega) (evPos (by omega) (evBind ht ?_))
    simp only [es, e3]
    refine evPos t0 (evPos t4 (evPos (by omega) (evPos (by omega) ?_)))
    by_cases hc : (i : Int) < (l.length : Int) - (K : Int)
    · refine evPos hc (evPos (by omega) ?_)
      rw [List.take_of_length_le (by simp; omega)] at IH
      rw [List.take_of_length_le (by omega)]
      exact IH
    · refine evNeg hc ?_
      rw [List.take_append_of_le_length (by omega)] at IH
      exact IH
theorem TargetUps : ∀ (l0 : List Int) (a1 : Int), (l0.length ≤ maxLen ∧ ∀ x_ ∈ l0, (Lit.int .i64 x_).wf = true) → (Lit.int .i64 a1).wf = true → ∃ k, lockkeeperlaw4_TargetUps.f k l0 a1 = some true := by
  rintro l a ⟨h0, hx⟩ ha
  refine Ev.rounds (g := fun k => lockkeeperlaw4_TargetUps.f k l a) ?_
  unfold lockkeeperlaw4_TargetUps.f
  by_cases h : (l.length : Int) > 30
  · exact evPos h (Ev.bind awake4_ev (Ev.now _))
  · obtain ⟨t, ht, t0, t41⟩ := low_f a 41 ha (by omega) (by omega)
    obtain ⟨K, rfl⟩ := Int.eq_ofNat_of_zero_le t0
    refine evNeg h (evBind ht ?_)
    have h := ups_l0 l (by omega) hx K (by omega) l.length 0 [] (Nat.zero_add _) rfl (by intro s hs; cases hs) (Nat.zero_le _)
    rw [List.take_nil] at h
    exact h
end Go.Proofs.YtbfbidifodcedaaDoor.Pure
