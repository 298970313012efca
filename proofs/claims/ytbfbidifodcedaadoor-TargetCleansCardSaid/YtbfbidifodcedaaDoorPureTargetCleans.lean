/- The printed law TargetCleans tells true for every text (of the form's own reach). -/
import Derived.Test.YtbfbidifodcedaaDoorBTCleans
import Derived.Test.YtbfbidifodcedaaDoorPr12
namespace Go.Proofs.YtbfbidifodcedaaDoor.Pure
open Go.RowKit Go.Proofs.YtbfbidifodcedaaDoor.Pr Go.Proofs.YtbfbidifodcedaaDoorW.PrintWords Go.Proofs.YtbfbidifodcedaaDoorW.PrintLast
set_option linter.unusedVariables false
set_option linter.unusedSimpArgs false

theorem dot_not (cur w : Bs) (h : dotV cur = 0) (hw : dotV w ≠ 0) : ¬ cur = w := fun e => hw (e ▸ h)
theorem cleans_l0 (P : ByteArray) (hP : P.size ≤ 500000) : ∀ (r d cur : Bs), P.data.toList = d ++ (cur ++ r) → (47 : UInt8) ∉ cur → (∀ s ∈ splitC 47 (cur ++ r), dotV s = 0) →
    Ev (fun k => lockkeeperlaw4_TargetCleans.l0 k P (d.length : Int) ((d.length + cur.length : Nat) : Int)) true := by
  have step : ∀ (d cur : Bs) (v : Bool), d.length + cur.length ≤ P.size → P.extract d.length (d.length + cur.length) = bsOf cur → dotV cur = 0 →
      Ev (fun k => lockkeeperlaw4_TargetCleans.l0 k P ((d.length + cur.length + 1 : Nat) : Int) ((d.length + cur.length + 1 : Nat) : Int)) v →
      Ev (fun k => lockkeeperlaw4_TargetCleans.j2 k P (d.length : Int) ((d.length + cur.length : Nat) : Int) false) v := by
    intro d cur v hz hx h0 hn
    have e2 : wrap64 (((d.length + cur.length : Nat) : Int) + 1) = ((d.length + cur.length + 1 : Nat) : Int) := by unfold wrap64; omega
    refine evSucc ?_
    simp only [lockkeeperlaw4_TargetCleans.j2, Bool.false_eq_true, if_false, Int.toNat_natCast, hx, tl, bsOf_data, e2]
    exact evPos (by omega) (evPos (by omega) (evPos (by omega) (evNeg (dot_not _ _ h0 (by decide)) (evNeg (dot_not _ _ h0 (by decide)) (evNeg (dot_not _ _ h0 (by decide)) (evNeg (dot_not _ _ h0 (by decide)) (evNeg (dot_not _ _ h0 (by decide)) hn)))))))
  intro r
  induction r with
  | nil =>
    intro d cur hd hc hs
    have hz : P.size = d.length + cur.length := by rw [size_len, hd]; simp
    have hx : P.extract d.length (d.length + cur.length) = bsOf cur := ba_ext (by rw [extract_list, bsOf_data, hd, List.append_nil, ← List.length_append, List.take_length]; simp)
    have h0 : dotV cur = 0 := hs cur (by rw [List.append_nil, splitC_not _ _ hc]; simp)
    refine evSucc ?_
    simp only [lockkeeperlaw4_TargetCleans.l0]
    refine evPos (by omega) (evNeg (by omega) (step d cur true (by omega) hx h0 (evSucc ?_)))
    simp only [lockkeeperlaw4_TargetCleans.l0]
    exact evNeg (by omega) (Ev.bind awake4_ev (Ev.now _))
  | cons b r ih =>
    intro d cur hd hc hs
    have hz : P.size = d.length + cur.length + (r.length + 1) := by rw [size_len, hd]; simp; omega
    have hb := bt_mid P (d ++ cur) b r (by rw [hd]; simp)
    rw [List.length_append] at hb
    refine evSucc ?_
    simp only [lockkeeperlaw4_TargetCleans.l0, hb]
    refine evPos (by omega) (evPos (by omega) (evPos (by omega) ?_))
    by_cases h : b = 47
    · subst h
      have hx : P.extract d.length (d.length + cur.length) = bsOf cur := ba_ext (by rw [extract_list, bsOf_data, hd, ← List.append_assoc, ← List.length_append, List.take_left]; simp)
      rw [splitC_at 47 cur r hc] at hs
      have IH := ih (d ++ (cur ++ ([47] : List UInt8))) [] (by rw [hd]; simp) (by simp) (by rw [List.nil_append]; exact fun s h => hs s (by simp [h]))
      have el : (d ++ (cur ++ ([47] : List UInt8))).length = d.length + cur.length + 1 := by simp; omega
      rw [el, List.length_nil, Nat.add_zero] at IH
      rw [show (((47 : UInt8).toNat : Int) != 47) = false from rfl]
      exact step d cur true (by omega) hx (hs cur (by simp)) IH
    · rw [show ((b.toNat : Int) != 47) = true by simpa using fun e => h (UInt8.toNat_inj.1 (by simpa using (by omega : b.toNat = 47)))]
      have e2 : wrap64 (((d.length + cur.length : Nat) : Int) + 1) = ((d.length + (cur ++ [b]).length : Nat) : Int) := by simp; unfold wrap64; omega
      have IH := ih d (cur ++ [b]) (by rw [hd]; simp) (by intro hx; rcases List.mem_append.1 hx with hx | hx; exact hc hx; exact h (List.mem_singleton.1 hx).symm) (by rw [List.append_assoc]; exact hs)
      refine evSucc ?_
      simp only [lockkeeperlaw4_TargetCleans.j2, if_true, e2]
      exact IH
theorem TargetCleans : ∀ (a0 : ByteArray), a0.size ≤ 140737488351232 → ∃ k, lockkeeperlaw4_TargetCleans.f k a0 = some true := by
  intro s h0
  refine Ev.rounds (g := fun k => lockkeeperlaw4_TargetCleans.f k s) ?_
  unfold lockkeeperlaw4_TargetCleans.f
  refine Ev.bind (long_ev 700 [s] (by omega) (by omega) (by simp)) ?_
  cases hL : longS 700 [s] with
  | true => exact evPos rfl (Ev.bind awake4_ev (Ev.now _))
  | false =>
    have zs := longS_size _ _ hL s (by simp)
    have hlen := clean_length s.data.toList
    have hz := size_len s
    have hcz : (bsOf (cleanV s.data.toList)).size = (cleanV s.data.toList).length := size_bsOf _
    have hpos : 1 ≤ (cleanV s.data.toList).length := by unfold cleanV; simp
    have hb : bt (bsOf (cleanV s.data.toList)) 0 = 47 := bt_mid _ [] 47 (joinV (keptV s.data.toList)) rfl
    have e1 : wrap64 ((s.size : Int) + 1) = (s.size : Int) + 1 := by unfold wrap64; omega
    have hcl := clean_ev (bsOf (cleanV s.data.toList)) (by omega)
    rw [bsOf_data, clean_idem] at hcl
    refine evNeg (by decide) (Ev.bind (clean_ev s (by omega)) (evNeg (by omega) (evPos (by omega) (evPos hb (Ev.bind hcl (evPos rfl ?_))))))
    rw [e1, decide_eq_false (by omega)]
    refine evSucc ?_
    simp only [lockkeeperlaw4_TargetCleans.j0, Bool.false_eq_true, if_false]
    refine cleans_l0 _ (by omega) (joinV (keptV s.data.toList)) ([47] : List UInt8) [] rfl (by simp) ?_
    rw [List.nil_append, split_join 47 rfl _ (kept_ne _) fun x hx => (kept_good _ x hx).2]
    exact fun x hx => (kept_good _ x hx).1
end Go.Proofs.YtbfbidifodcedaaDoor.Pure
