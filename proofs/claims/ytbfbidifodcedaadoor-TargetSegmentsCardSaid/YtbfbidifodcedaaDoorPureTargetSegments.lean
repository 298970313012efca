
/- The printed law TargetSegments tells true for every row of numbers and all bits (of the form's own reach). -/
import Derived.Test.YtbfbidifodcedaaDoorBTSegments
import Derived.Test.YtbfbidifodcedaaDoorPr15
namespace Go.Proofs.YtbfbidifodcedaaDoor.Pure
open Go.RowKit Go.Proofs.YtbfbidifodcedaaDoor.Pr Go.Proofs.YtbfbidifodcedaaDoorW.PrintWords Go.Proofs.YtbfbidifodcedaaDoorW.PrintLast
set_option linter.unusedVariables false
set_option linter.unusedSimpArgs false

theorem lowC47 (c : UInt8) (h : c = 47) : lowC c = 47 := by subst h; decide
theorem flip_47 (s : ByteArray) (b : Int) (h : (47 : UInt8) ∉ lowL s.data.toList) : (47 : UInt8) ∉ (flipS s b).data.toList := by
  intro hx
  apply h
  rw [← flip_lowL s b]
  exact List.mem_map.2 ⟨47, hx, by decide⟩
theorem dotV_low (a b : Bs) (h : lowL a = lowL b) : dotV a = dotV b := by unfold dotV; rw [h]
theorem flip_dot (s : ByteArray) (b : Int) : dotV (flipS s b).data.toList = dotV s.data.toList := dotV_low _ _ (flip_lowL s b)
/-- the eight segments: how many dots each is. -/
theorem seg8 (t : Int) (h0 : 0 ≤ t) (h8 : t < 8) : ∃ s : ByteArray, rdOf ByteArray.empty ([(⟨#[97]⟩ : ByteArray), (⟨#[]⟩ : ByteArray), (⟨#[98, 99]⟩ : ByteArray), (⟨#[46, 46, 46]⟩ : ByteArray), (⟨#[46]⟩ : ByteArray), (⟨#[37, 50, 101]⟩ : ByteArray), (⟨#[46, 46]⟩ : ByteArray), (⟨#[37, 50, 101, 46]⟩ : ByteArray)] : List ByteArray) t = s ∧ s.size ≤ 4 ∧ (47 : UInt8) ∉ lowL s.data.toList ∧ dotV s.data.toList = (if t < 4 then 0 else if t > 5 then 2 else 1) := by
  rcases (by omega : t = 0 ∨ t = 1 ∨ t = 2 ∨ t = 3 ∨ t = 4 ∨ t = 5 ∨ t = 6 ∨ t = 7) with rfl | rfl | rfl | rfl | rfl | rfl | rfl | rfl
  all_goals exact ⟨_, rfl, by decide, by decide, by decide⟩
theorem rd_at (l : List Int) (i : Nat) (h : i < l.length) : rd l (i : Int) = l[i] := by simp [rd, List.getD_eq_getElem?_getD, h]
def keptN (n : Nat) (L : List Bs) : List Bs := if L.length = n then endV L (L.foldl stepK []) else L.foldl stepK []
theorem slashV_wt (l : List Bs) : (slashV l).length = wtV l := by
  induction l with
  | nil => rfl
  | cons a l ih =>
    rw [wtV_cons, ← ih]
    simp [slashV]
    omega
theorem wtV_take (l : List Bs) (i : Nat) : wtV (l.take i) ≤ wtV l := by
  have := wtV_append (l.take i) (l.drop i)
  rw [List.take_append_drop] at this
  omega
theorem segs_l1 (L : List Bs) (hne : L ≠ []) (hL : ∀ s ∈ L, (47 : UInt8) ∉ s) (hw : wtV L ≤ 200) (K : List Bs) (hK : K = endV L (L.foldl stepK [])) : ∀ n i, i + n = K.length →
    Ev (fun k => lockkeeperlaw4_TargetSegments.l1 k (bsOf (slashV L)) (K.map bsOf) (bsOf (slashV (K.take i))) (i : Int)) true := by
  have hwk : wtV K ≤ 200 := by rw [hK]; exact Nat.le_trans (wt_end L hne) hw
  have hl := wtV_length K
  have hm : (K.map bsOf).length = K.length := by simp
  intro n
  induction n with
  | zero =>
    intro i hi
    have hcl := clean_ev (bsOf (slashV L)) (by rw [size_bsOf, slashV_wt]; omega)
    rw [bsOf_data, clean_slash L hne hL, ← hK] at hcl
    refine evSucc ?_
    simp only [lockkeeperlaw4_TargetSegments.l1, hm]
    refine evNeg (by omega) (Ev.bind hcl (evPos ?_ (Ev.bind awake4_ev (Ev.now _))))
    rw [List.take_of_length_le (by omega)]
  | succ n ih =>
    intro i hi
    have hlt : i < K.length := by omega
    have hlt' : i < (K.map bsOf).length := by omega
    have e2 : wrap64 ((i : Int) + 1) = ((i + 1 : Nat) : Int) := by unfold wrap64; omega
    have z1 : (bsOf (slashV (K.take i)) ++ (⟨#[47]⟩ : ByteArray)).size = wtV (K.take i) + 1 := by rw [ByteArray.size_append, size_bsOf, slashV_wt]; rfl
    have z2 := wtV_take K i
    have z3 := wtV_mem (List.getElem_mem hlt)
    have z4 : (bsOf (slashV (K.take i))).size = wtV (K.take i) := by rw [size_bsOf, slashV_wt]
    have z5 : (bsOf K[i]).size = K[i].length := size_bsOf _
    have e3 : bsOf (slashV (K.take i)) ++ (⟨#[47]⟩ : ByteArray) ++ bsOf K[i] = bsOf (slashV (K.take (i + 1))) := ba_ext (by
      rw [append_list, append_list, bsOf_data, bsOf_data, bsOf_data, List.take_add_one, List.getElem?_eq_getElem hlt, slashV_append, List.append_assoc]
      simp [slashV])
    refine evSucc ?_
    simp only [lockkeeperlaw4_TargetSegments.l1, hm, e2]
    rw [rdOf_get _ _ hlt', List.getElem_map]
    refine evPos (by omega) (evPos (by omega) (evPos (by omega) (evPos (by omega) ?_)))
    rw [e3]
    exact ih (i + 1) (by omega)
theorem segs_l0 (l : List Int) (hl : 1 ≤ l.length ∧ l.length ≤ 30) (hwf : ∀ x ∈ l, (Lit.int .i64 x).wf = true) (b : Int) (hb : (Lit.int .u64 b).wf = true) : ∀ n i (L : List Bs), i + n = l.length → L.length = i → (∀ s ∈ L, (47 : UInt8) ∉ s) → wtV L ≤ 5 * i →
    Ev (fun k => lockkeeperlaw4_TargetSegments.l0 k l b (bsOf (slashV L)) ((keptN l.length L).map bsOf) (i : Int)) true := by
  intro n
  induction n with
  | zero =>
    intro i L hi hL hg hz
    have hne : L ≠ [] := fun e => by rw [e] at hL; simp at hL; omega
    refine evSucc ?_
    simp only [lockkeeperlaw4_TargetSegments.l0]
    refine evNeg (by omega) ?_
    have ek : keptN l.length L = endV L (L.foldl stepK []) := by unfold keptN; rw [if_pos (by omega)]
    rw [ek]
    exact segs_l1 L hne hg (by omega) _ rfl _ 0 (Nat.zero_add _)
  | succ n ih =>
    intro i L hi hL hg hz
    have hlt : i < l.length := by omega
    have z1 : (bsOf (slashV L)).size = wtV L := by rw [size_bsOf, slashV_wt]
    have e2 : wrap64 ((i : Int) + 1) = ((i + 1 : Nat) : Int) := by unfold wrap64; omega
    have e4 : wrap64 ((l.length : Int) - 1) = ((l.length - 1 : Nat) : Int) := by unfold wrap64; omega
    obtain ⟨t, ht, t0, t8⟩ := low_f l[i] 8 (hwf _ (List.getElem_mem hlt)) (by omega) (by omega)
    obtain ⟨s, es, hsz, hs47, hdot⟩ := seg8 t t0 t8
    have hfl := flip_f s b (by omega) hb
    have hfz := flip_size s b
    have hf47 := flip_47 s b hs47
    have hfd := flip_dot s b
    rw [hdot] at hfd
    have hflen := size_len (flipS s b)
    have hK0 : wtV (L.foldl stepK []) ≤ wtV L := by have := wt_fold L []; rw [show wtV ([] : List Bs) = 0 from rfl] at this; omega
    have hKl := wtV_length (L.foldl stepK [])
    have ek : keptN l.length L = L.foldl stepK [] := by unfold keptN; rw [if_neg (by omega)]
    have ek' : keptN l.length (L ++ [(flipS s b).data.toList]) = if i = l.length - 1 then (if dotV (flipS s b).data.toList > 0 then stepK (L.foldl stepK []) (flipS s b).data.toList ++ [[]] else stepK (L.foldl stepK []) (flipS s b).data.toList) else stepK (L.foldl stepK []) (flipS s b).data.toList := by
      unfold keptN endV
      rw [getLastD_append, List.foldl_append, List.foldl_cons, List.foldl_nil]
      by_cases h : i = l.length - 1
      · rw [if_pos (by simp; omega), if_pos h]
      · rw [if_neg (by simp; omega), if_neg h]
    generalize hKK : L.foldl stepK [] = K at ek ek' hK0 hKl
    have hm : (K.map bsOf).length = K.length := by simp
    have e3 : bsOf (slashV L) ++ (⟨#[47]⟩ : ByteArray) ++ flipS s b = bsOf (slashV (L ++ [(flipS s b).data.toList])) := ba_ext (by
      rw [append_list, append_list, bsOf_data, bsOf_data, slashV_append, slashV_one, List.append_assoc]
      rfl)
    have z2 : (bsOf (slashV L) ++ (⟨#[47]⟩ : ByteArray)).size = wtV L + 1 := by rw [ByteArray.size_append, z1]; rfl
    have IH := ih (i + 1) (L ++ [(flipS s b).data.toList]) (by omega) (by simp; omega) (fun x hx => by
      rcases List.mem_append.1 hx with hx | hx
      · exact hg x hx
      · rw [List.mem_singleton.1 hx]; exact hf47) (by rw [wtV_append, wtV_one]; omega)
    rw [ek'] at IH
    rw [ek]
    refine evSucc ?_
    simp only [lockkeeperlaw4_TargetSegments.l0, e2]
    rw [rd_at l i hlt]
    refine evPos (by omega) (evPos (by omega) (evBind ht (evPos t0 (evPos t8 (evBind ht (evPos (by omega) ?_))))))
    simp only [es]
    refine evBind hfl (evPos (by omega) ?_)
    simp only [e3]
    by_cases h4 : t < 4
    · rw [if_pos h4] at hfd
      have es0 : stepK K (flipS s b).data.toList = K ++ [(flipS s b).data.toList] := by unfold stepK; rw [if_pos hfd]
      rw [hfd, if_neg (show ¬ (0 : Int) > 0 by omega), es0, ite_self, List.map_append] at IH
      refine evPos h4 (evBind hfl (evPos (by omega) ?_))
      rw [List.map_cons, bsOf_of] at IH
      exact IH
    · rw [if_neg h4] at hfd
      refine evNeg h4 ?_
      have jn : ∀ K' : List Bs, K'.length ≤ 1000000 → Ev (fun k => lockkeeperlaw4_TargetSegments.l0 k l b (bsOf (slashV (L ++ [(flipS s b).data.toList]))) ((if i = l.length - 1 then K' ++ [[]] else K').map bsOf) ((i + 1 : Nat) : Int)) true → Ev (fun k => if (i : Int) = ((l.length - 1 : Nat) : Int) then (if (K'.map bsOf).length < 8796093022208 then lockkeeperlaw4_TargetSegments.l0 k l b (bsOf (slashV (L ++ [(flipS s b).data.toList]))) (K'.map bsOf ++ [⟨#[]⟩]) ((i + 1 : Nat) : Int) else none) else lockkeeperlaw4_TargetSegments.l0 k l b (bsOf (slashV (L ++ [(flipS s b).data.toList]))) (K'.map bsOf) ((i + 1 : Nat) : Int)) true := by
        intro K' hK' h
        by_cases he : i = l.length - 1
        · rw [if_pos he, List.map_append] at h
          exact evPos (by omega) (evPos (by rw [List.length_map]; omega) h)
        · rw [if_neg he] at h
          exact evNeg (by omega) h
      have hpos : dotV (flipS s b).data.toList > 0 := by rw [hfd]; split <;> omega
      rw [if_pos hpos] at IH
      have eK : wrap64 ((K.length : Int) - 1) = (K.length : Int) - 1 := by unfold wrap64; omega
      by_cases h5 : t > 5
      · rw [if_pos h5] at hfd
        have es2 : stepK K (flipS s b).data.toList = K.dropLast := by unfold stepK; rw [if_neg (by omega), if_pos hfd]
        rw [es2] at IH
        refine evPos h5 (evSucc ?_)
        simp only [lockkeeperlaw4_TargetSegments.j2, hm, eK, e2, e4]
        by_cases hz0 : (K.length : Int) > 0
        · rw [decide_eq_true hz0]
          have et : (K.map bsOf).take ((K.length : Int) - 1).toNat = K.dropLast.map bsOf := by
            rw [List.dropLast_eq_take, List.map_take]
            congr 1
            omega
          refine evPos rfl (evPos (by omega) (evPos (by omega) (evBind (congrArg some et) ?_)))
          exact jn K.dropLast (by rw [List.length_dropLast]; omega) IH
        · rw [decide_eq_false hz0]
          have en : K = [] := List.length_eq_zero_iff.1 (by omega)
          have ed : K.dropLast = K := by rw [en]; rfl
          rw [ed] at IH
          exact evNeg (by decide) (by have := jn K (by omega) IH; simpa only [hm] using this)
      · rw [if_neg h5] at hfd
        have es1 : stepK K (flipS s b).data.toList = K := by unfold stepK; rw [if_neg (by omega), if_neg (by omega)]
        rw [es1] at IH
        refine evNeg h5 (evSucc ?_)
        simp only [lockkeeperlaw4_TargetSegments.j2, Bool.false_eq_true, if_false, e2, e4]
        exact jn K (by omega) IH
theorem TargetSegments : ∀ (l0 : List Int) (a1 : Int), (l0.length ≤ maxLen ∧ ∀ x_ ∈ l0, (Lit.int .i64 x_).wf = true) → (Lit.int .u64 a1).wf = true → ∃ k, lockkeeperlaw4_TargetSegments.f k l0 a1 = some true := by
  rintro l b ⟨h0, hx⟩ hb
  refine Ev.rounds (g := fun k => lockkeeperlaw4_TargetSegments.f k l b) ?_
  have jt : Ev (fun k => lockkeeperlaw4_TargetSegments.j0 k l b true) true := by
    refine evSucc ?_
    simp only [lockkeeperlaw4_TargetSegments.j0, if_true]
    exact Ev.bind awake4_ev (Ev.now _)
  unfold lockkeeperlaw4_TargetSegments.f
  by_cases h1 : (l.length : Int) < 1
  · exact evPos h1 jt
  · refine evNeg h1 ?_
    by_cases h2 : (l.length : Int) > 30
    · rw [decide_eq_true h2]
      exact jt
    · rw [decide_eq_false h2]
      refine evSucc ?_
      simp only [lockkeeperlaw4_TargetSegments.j0, Bool.false_eq_true, if_false]
      have := segs_l0 l (by omega) hx b hb l.length 0 [] (Nat.zero_add _) rfl (by intro s hs; cases hs) (Nat.zero_le _)
      have ek : keptN l.length [] = [] := by unfold keptN; rw [if_neg (by simp; omega)]; rfl
      rw [ek] at this
      exact this
end Go.Proofs.YtbfbidifodcedaaDoor.Pure
