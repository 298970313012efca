
/- The printed law CorsSeen tells true for every row of headers and every two bools (of the form's own reach). -/
import Derived.Test.YtnbkfneolgeeeaaDoorBCorsSeen
import Derived.Test.YtnbkfneolgeeeaaDoorR1
import Derived.Test.YtnbkfneolgeeeaaDoorPr7
namespace Go.Proofs.YtnbkfneolgeeeaaDoor.Pure
open Go.RowKit Go.Proofs.YtnbkfneolgeeeaaDoor.Pr Go.Proofs.YtnbkfneolgeeeaaDoorW.PrintWords Go.Proofs.YtnbkfneolgeeeaaDoorW.PrintLast
set_option linter.unusedVariables false
set_option linter.unusedSimpArgs false

def exH (v : ByteArray) : Hd := ⟨(⟨#[65, 99, 99, 101, 115, 115, 45, 67, 111, 110, 116, 114, 111, 108, 45, 69, 120, 112, 111, 115, 101, 45, 72, 101, 97, 100, 101, 114, 115]⟩ : ByteArray), v⟩
def vv (star : Bool) (h : Hd) : ByteArray := if star = true then sStar1 else h.f0
def mm (star : Bool) (L : List Hd) : List Hd := L.flatMap fun h => [h, exH (vv star h)]
def goodH (h : Hd) : Prop := tokS h.f0 = true ∧ foldB h.f0 sExpose = false
theorem mm_cons (star : Bool) (h : Hd) (L : List Hd) : mm star (h :: L) = h :: exH (vv star h) :: mm star L := rfl
theorem mm_snoc (star : Bool) (L : List Hd) (h : Hd) : mm star (L ++ [h]) = mm star L ++ [h] ++ [exH (vv star h)] := by
  unfold mm
  rw [List.flatMap_append]
  simp
theorem mm_length (star : Bool) (L : List Hd) : (mm star L).length = 2 * L.length := by
  induction L with
  | nil => rfl
  | cons h L ih => rw [mm_cons, List.length_cons, List.length_cons, ih, List.length_cons]; omega
theorem mm_ht (star : Bool) (l : List Hd) (hl : HSmall l) : HT (mm star l) := by
  refine ⟨by rw [mm_length]; have := hl.1; omega, fun x hx => ?_⟩
  obtain ⟨h, hh, hx⟩ := List.mem_flatMap.1 hx
  have hz := hl.2 h hh
  rcases List.mem_cons.1 hx with rfl | hx
  · omega
  · obtain rfl := List.mem_singleton.1 hx
    refine ⟨by show 29 ≤ _; omega, ?_⟩
    show (vv star h).size ≤ _
    unfold vv
    split
    · show 1 ≤ _; omega
    · omega
theorem star_tok : tokS sStar1 = true := by decide
theorem vv_tok (star : Bool) (h : Hd) (hg : goodH h) : tokS (vv star h) = true := by
  unfold vv
  split
  · exact star_tok
  · exact hg.1
theorem vals_mm (star : Bool) (l : List Hd) (hg : ∀ h ∈ l, goodH h) : vals (mm star l) sExpose = l.map (vv star) := by
  induction l with
  | nil => rfl
  | cons h l ih =>
    have h1 := hg h (by simp)
    have h2 : foldB (exH (vv star h)).f0 sExpose = true := by show foldB (⟨#[65, 99, 99, 101, 115, 115, 45, 67, 111, 110, 116, 114, 111, 108, 45, 69, 120, 112, 111, 115, 101, 45, 72, 101, 97, 100, 101, 114, 115]⟩ : ByteArray) sExpose = true; decide
    have IH := ih fun x hx => hg x (by simp [hx])
    unfold vals at IH ⊢
    rw [mm_cons, List.filter_cons, List.filter_cons, h1.2, h2]
    simp only [Bool.false_eq_true, if_false, if_true, List.map_cons, IH]
    rw [show trimS (exH (vv star h)).f1 = vv star h from trimS_tok (vv_tok star h h1)]
theorem told_mm (star : Bool) (l : List Hd) (hg : ∀ h ∈ l, goodH h) : toldS (mm star l) = l.map (vv star) := by
  unfold toldS getS
  rw [vals_mm star l hg]
  refine split_join _ fun x hx => ?_
  obtain ⟨h, hh, rfl⟩ := List.mem_map.1 hx
  exact vv_tok star h (hg h hh)
theorem ok_mm (creds star : Bool) (l : List Hd) (hg : ∀ h ∈ l, goodH h) (hs : (star && creds) = false) (h : Hd) (hh : h ∈ l) : seenB (toldS (mm star l)) (allS creds (mm star l)) (normH h) = !isCookie (lowB h.f0) := by
  have key : (allS creds (mm star l) || (toldS (mm star l)).any fun t => foldB t (lowB h.f0)) = true := by
    unfold allS
    rw [told_mm star l hg]
    cases star with
    | true =>
      obtain rfl : creds = false := by simpa using hs
      have : Lib.containsS (l.map (vv true)) sStar1 = true := (Lib.containsS_iff _ _).2 (List.mem_map.2 ⟨h, hh, rfl⟩)
      rw [this]
      rfl
    | false =>
      rw [Bool.or_eq_true]
      refine Or.inr (List.any_eq_true.2 ⟨h.f0, List.mem_map.2 ⟨h, hh, rfl⟩, ?_⟩)
      have := congrArg (fun x : ByteArray => x.data.toList) (lowB_idem h.f0)
      unfold lowB at this
      simp only [bsOf_data] at this
      unfold foldB lowB
      rw [bsOf_data, this]
      simp
  unfold seenB
  show (isSeven (lowB h.f0) || (!isCookie (lowB h.f0) && (allS creds (mm star l) || (toldS (mm star l)).any fun t => foldB t (lowB h.f0)))) = _
  rw [key, Bool.and_true]
  cases h7 : isSeven (lowB h.f0) with
  | true => rw [seven_cookie _ h7]; rfl
  | false => rfl
theorem name_ne (h : Hd) (hg : goodH h) : (normH h).f0.toList ≠ ([97, 99, 99, 101, 115, 115, 45, 99, 111, 110, 116, 114, 111, 108, 45, 101, 120, 112, 111, 115, 101, 45, 104, 101, 97, 100, 101, 114, 115] : List UInt8) := by
  intro e
  have h2 := hg.2
  unfold foldB at h2
  rw [tl] at e
  have e' : lowL h.f0.data.toList = ([97, 99, 99, 101, 115, 115, 45, 99, 111, 110, 116, 114, 111, 108, 45, 101, 120, 112, 111, 115, 101, 45, 104, 101, 97, 100, 101, 114, 115] : List UInt8) := by
    have : (normH h).f0.data.toList = lowL h.f0.data.toList := by show (lowB h.f0).data.toList = _; unfold lowB; rw [bsOf_data]
    rw [← this]; exact e
  rw [e'] at h2
  exact absurd h2 (by decide)
theorem ex_name (v : ByteArray) : (normH (exH v)).f0.toList = ([97, 99, 99, 101, 115, 115, 45, 99, 111, 110, 116, 114, 111, 108, 45, 101, 120, 112, 111, 115, 101, 45, 104, 101, 97, 100, 101, 114, 115] : List UInt8) := by
  rw [tl]
  show (lowB (⟨#[65, 99, 99, 101, 115, 115, 45, 67, 111, 110, 116, 114, 111, 108, 45, 69, 120, 112, 111, 115, 101, 45, 72, 101, 97, 100, 101, 114, 115]⟩ : ByteArray)).data.toList = _
  unfold lowB
  rw [bsOf_data]
  decide
theorem cs_l2 (creds star : Bool) (m s N : List Hd) (i : Nat) (hi : i < N.length) (rest : List Hd) (hne : (N[i]).f0.toList ≠ ([97, 99, 99, 101, 115, 115, 45, 99, 111, 110, 116, 114, 111, 108, 45, 101, 120, 112, 111, 115, 101, 45, 104, 101, 97, 100, 101, 114, 115] : List UInt8)) (R : Bool) (hs : s.length ≤ 1000000) (hN : N.length ≤ 1000000) : ∀ (X P : List Hd), s = P ++ (X ++ (N[i] :: rest)) → (∀ x ∈ X, x.f0.toList = ([97, 99, 99, 101, 115, 115, 45, 99, 111, 110, 116, 114, 111, 108, 45, 101, 120, 112, 111, 115, 101, 45, 104, 101, 97, 100, 101, 114, 115] : List UInt8)) →
    Ev (fun k => lockkeeperlaw15_CorsSeen.l1 k creds star m s N ((P.length + X.length + 1 : Nat) : Int) ((i + 1 : Nat) : Int)) R → Ev (fun k => lockkeeperlaw15_CorsSeen.l2 k creds star m s N (P.length : Int) (i : Int)) R := by
  have e3 : wrap64 ((i : Int) + 1) = ((i + 1 : Nat) : Int) := by unfold wrap64; omega
  intro X
  induction X with
  | nil =>
    intro P hP _ h
    have hlen : s.length = P.length + (rest.length + 1) := by rw [hP]; simp
    have hlt : P.length < s.length := by omega
    have hg : s[P.length] = N[i] := by simp [hP]
    have e2 : wrap64 ((P.length : Int) + 1) = ((P.length + 1 : Nat) : Int) := by unfold wrap64; omega
    refine evSucc ?_
    simp only [lockkeeperlaw15_CorsSeen.l2, e2, e3]
    rw [rdT_get _ _ hlt, rdT_get _ _ hi, hg]
    exact evPos (by omega) (evPos (by omega) (evNeg hne (evNeg (by omega) (evPos (by omega) (evPos (by omega) (evNeg (fun e => (hd_ne _ _).1 e rfl) (by simpa using h)))))))
  | cons x X ih =>
    intro P hP hX h
    have hlen : s.length = P.length + (X.length + 1 + (rest.length + 1)) := by rw [hP]; simp; omega
    have hlt : P.length < s.length := by omega
    have hg : s[P.length] = x := by simp [hP]
    have hx := hX x (by simp)
    have e2 : wrap64 ((P.length : Int) + 1) = ((P ++ [x]).length : Int) := by simp; unfold wrap64; omega
    refine evSucc ?_
    simp only [lockkeeperlaw15_CorsSeen.l2, e2, e3]
    rw [rdT_get _ _ hlt, rdT_get _ _ hi, hg]
    refine evPos (by omega) (evPos (by omega) (evPos hx (evPos (by omega) (evPos (by omega) (evPos ((hd_ne _ _).2 fun e => hne (by rw [← e]; exact hx)) ?_)))))
    refine ih (P ++ [x]) (by rw [hP]; simp) (fun y hy => hX y (by simp [hy])) ?_
    have : ((P ++ [x]).length + X.length + 1 : Nat) = P.length + (x :: X).length + 1 := by simp; omega
    rw [this]
    exact h
theorem cs_j3 (creds star : Bool) (m s N : List Hd) (P i : Int) (R : Bool) (c : Bool) (x : Hd) (hc : c = isCookie x.f0) (h : Ev (fun k => lockkeeperlaw15_CorsSeen.j3 k creds star m s N P i c) R) :
    Ev (fun k => if x.f0.toList = ([115, 101, 116, 45, 99, 111, 111, 107, 105, 101] : List UInt8) then lockkeeperlaw15_CorsSeen.j3 k creds star m s N P i true else lockkeeperlaw15_CorsSeen.j3 k creds star m s N P i (x.f0.toList == ([115, 101, 116, 45, 99, 111, 111, 107, 105, 101, 50] : List UInt8))) R := by
  subst hc
  by_cases c : x.f0.toList = ([115, 101, 116, 45, 99, 111, 111, 107, 105, 101] : List UInt8)
  · have e : (x.f0.toList == ([115, 101, 116, 45, 99, 111, 111, 107, 105, 101] : List UInt8)) = true := beq_iff_eq.mpr c
    rw [isCookie, e, Bool.true_or] at h
    exact evPos c h
  · have e : (x.f0.toList == ([115, 101, 116, 45, 99, 111, 111, 107, 105, 101] : List UInt8)) = false := beq_eq_false_iff_ne.mpr c
    rw [isCookie, e, Bool.false_or] at h
    exact evNeg c h
theorem cs_l1s (m s N : List Hd) (hN : N.length ≤ 1000000) (fin : Ev (fun k => lockkeeperlaw15_CorsSeen.l3 k m s 0) true) : ∀ n i : Nat, i + n = N.length → Ev (fun k => lockkeeperlaw15_CorsSeen.l1 k true true m s N 0 (i : Int)) true := by
  intro n
  induction n with
  | zero =>
    intro i hi
    refine evSucc ?_
    simp only [lockkeeperlaw15_CorsSeen.l1]
    exact evNeg (by omega) fin
  | succ n ih =>
    intro i hi
    have hlt : i < N.length := by omega
    have e2 : wrap64 ((i : Int) + 1) = ((i + 1 : Nat) : Int) := by unfold wrap64; omega
    have IH := ih (i + 1) (by omega)
    refine evSucc ?_
    simp only [lockkeeperlaw15_CorsSeen.l1]
    rw [rdT_get _ _ hlt]
    refine evPos (by omega) (evPos (by omega) (cs_j3 true true m s N 0 i true _ N[i] rfl ?_))
    refine evSucc ?_
    simp only [lockkeeperlaw15_CorsSeen.j3, e2]
    cases isCookie (N[i]).f0 with
    | true => exact evPos rfl IH
    | false =>
      refine evNeg (by decide) (evPos trivial (evSucc ?_))
      simp only [lockkeeperlaw15_CorsSeen.j4, e2]
      exact evPos trivial IH
theorem cs_l1 (creds star : Bool) (hcs : (star && creds) = false) (l m s : List Hd) (ok : Hd → Bool) (hl : l.length ≤ 1000) (hs : s.length ≤ 1000000) (hg : ∀ h ∈ l, goodH h) (hok : ∀ h ∈ l, ok (normH h) = !isCookie (lowB h.f0)) (fin : Ev (fun k => lockkeeperlaw15_CorsSeen.l3 k m s 0) true) : ∀ (n i : Nat) (P X : List Hd), i + n = l.length → s = P ++ (X ++ (normS (mm star (l.drop i))).filter ok) → (∀ x ∈ X, x.f0.toList = ([97, 99, 99, 101, 115, 115, 45, 99, 111, 110, 116, 114, 111, 108, 45, 101, 120, 112, 111, 115, 101, 45, 104, 101, 97, 100, 101, 114, 115] : List UInt8)) →
    Ev (fun k => lockkeeperlaw15_CorsSeen.l1 k creds star m s (normS l) (P.length : Int) (i : Int)) true := by
  have hN : (normS l).length = l.length := by unfold normS; simp
  intro n
  induction n with
  | zero =>
    intro i P X hi _ _
    refine evSucc ?_
    simp only [lockkeeperlaw15_CorsSeen.l1]
    exact evNeg (by omega) fin
  | succ n ih =>
    intro i P X hi hP hX
    have hlt : i < l.length := by omega
    have hlt' : i < (normS l).length := by omega
    have hm : l[i] ∈ l := List.getElem_mem hlt
    have hni : (normS l)[i] = normH l[i] := by simp [normS]
    have e2 : wrap64 ((i : Int) + 1) = ((i + 1 : Nat) : Int) := by unfold wrap64; omega
    have hne := name_ne l[i] (hg _ hm)
    have hk := hok _ hm
    rw [List.drop_eq_getElem_cons hlt, mm_cons] at hP
    have hG : (normS (l[i] :: exH (vv star l[i]) :: mm star (l.drop (i + 1)))).filter ok = (if ok (normH l[i]) = true then [normH l[i]] else []) ++ ((if ok (normH (exH (vv star l[i]))) = true then [normH (exH (vv star l[i]))] else []) ++ (normS (mm star (l.drop (i + 1)))).filter ok) := by
      unfold normS
      rw [List.map_cons, List.map_cons, List.filter_cons, List.filter_cons]
      cases ok (normH l[i]) <;> cases ok (normH (exH (vv star l[i]))) <;> simp
    rw [hG] at hP
    have hE : ∀ x ∈ (if ok (normH (exH (vv star l[i]))) = true then [normH (exH (vv star l[i]))] else []), x.f0.toList = ([97, 99, 99, 101, 115, 115, 45, 99, 111, 110, 116, 114, 111, 108, 45, 101, 120, 112, 111, 115, 101, 45, 104, 101, 97, 100, 101, 114, 115] : List UInt8) := by
      intro x hx
      split at hx
      · obtain rfl := List.mem_singleton.1 hx
        exact ex_name _
      · cases hx
    generalize (if ok (normH (exH (vv star l[i]))) = true then [normH (exH (vv star l[i]))] else []) = E at hP hE
    refine evSucc ?_
    simp only [lockkeeperlaw15_CorsSeen.l1]
    rw [rdT_get _ _ hlt', hni]
    refine evPos (by omega) (evPos (by omega) (cs_j3 creds star m s (normS l) P.length i true _ (normH l[i]) rfl ?_))
    refine evSucc ?_
    simp only [lockkeeperlaw15_CorsSeen.j3, e2]
    have hk' : ok (normH l[i]) = !isCookie (normH l[i]).f0 := hk
    cases hc : isCookie (normH l[i]).f0 with
    | true =>
      rw [hc] at hk'
      rw [hk', if_neg (by decide), List.nil_append] at hP
      refine evPos rfl (ih (i + 1) P (X ++ E) (by omega) (by rw [hP]; simp) ?_)
      intro x hx
      exact (List.mem_append.1 hx).elim (hX x) (hE x)
    | false =>
      rw [hc] at hk'
      rw [hk', Bool.not_false, if_pos rfl] at hP
      have hnext := ih (i + 1) (P ++ X ++ [normH l[i]]) E (by omega) (by rw [hP]; simp) hE
      have hl2 : Ev (fun k => lockkeeperlaw15_CorsSeen.l2 k creds star m s (normS l) (P.length : Int) (i : Int)) true := by
        refine cs_l2 creds star m s (normS l) i hlt' (E ++ (normS (mm star (l.drop (i + 1)))).filter ok) (by rw [hni]; exact hne) true hs (by omega) X P (by rw [hni, hP]; simp) hX ?_
        have : ((P ++ X ++ [normH l[i]]).length : Nat) = P.length + X.length + 1 := by simp; omega
        rw [← this]
        exact hnext
      have hj4 : Ev (fun k => lockkeeperlaw15_CorsSeen.j4 k creds star m s (normS l) (P.length : Int) (i : Int) false) true := by
        refine evSucc ?_
        simp only [lockkeeperlaw15_CorsSeen.j4]
        exact evNeg (by decide) hl2
      refine evNeg (by decide) ?_
      cases star with
      | true =>
        obtain rfl : creds = false := by simpa using hcs
        exact evPos rfl hj4
      | false => exact evNeg (by decide) hj4
theorem cs_l3 (m s : List Hd) (hs : s.length ≤ 1000000) (hle : s.length ≤ m.length) (hc : ∀ x ∈ s, isCookie x.f0 = false) : ∀ n i : Nat, i + n = s.length → Ev (fun k => lockkeeperlaw15_CorsSeen.l3 k m s (i : Int)) true := by
  intro n
  induction n with
  | zero =>
    intro i hi
    refine evSucc ?_
    simp only [lockkeeperlaw15_CorsSeen.l3]
    exact evNeg (by omega) (evPos (by omega) (Ev.bind awake15_ev (Ev.now _)))
  | succ n ih =>
    intro i hi
    have hlt : i < s.length := by omega
    have e2 : wrap64 ((i : Int) + 1) = ((i + 1 : Nat) : Int) := by unfold wrap64; omega
    have h := hc _ (List.getElem_mem hlt)
    unfold isCookie at h
    rw [Bool.or_eq_false_iff, beq_eq_false_iff_ne, beq_eq_false_iff_ne] at h
    refine evSucc ?_
    simp only [lockkeeperlaw15_CorsSeen.l3, e2]
    rw [rdT_get _ _ hlt]
    exact evPos (by omega) (evPos (by omega) (evNeg h.1 (evNeg h.2 (ih (i + 1) (by omega)))))
theorem cs_fin (l : List Hd) (creds star : Bool) (hl : HSmall l) (hg : ∀ h ∈ l, goodH h) : Ev (fun k => (cors_Seen.f k creds (mm star l)).bind fun t182 => ((header_Norm.f k l).bind fun t185 => (lockkeeperlaw15_CorsSeen.l1 k creds star (mm star l) t182 t185 0 0))) true := by
  have hT := mm_ht star l hl
  have hlen := mm_length star l
  have h40 := hl.1
  have hsl : (seenS creds (mm star l)).length ≤ (mm star l).length := by
    unfold seenS
    have h1 := List.length_filter_le (seenB (toldS (mm star l)) (allS creds (mm star l))) (normS (mm star l))
    have h2 : (normS (mm star l)).length = (mm star l).length := by unfold normS; simp
    omega
  have fin : Ev (fun k => lockkeeperlaw15_CorsSeen.l3 k (mm star l) (seenS creds (mm star l)) 0) true := by
    refine cs_l3 _ _ (by omega) hsl (fun x hx => ?_) _ 0 (Nat.zero_add _)
    unfold seenS at hx
    have := (List.mem_filter.1 hx).2
    unfold seenB at this
    cases hk : isCookie x.f0 with
    | false => rfl
    | true =>
      rw [hk] at this
      have h7 : isSeven x.f0 = true := by simpa using this
      rw [seven_cookie _ h7] at hk
      cases hk
  refine Ev.bind (seen_ev creds (mm star l) hT.ok (hT.get sExpose)) (Ev.bind (norm_ev l hl.ok) ?_)
  have hN : (normS l).length = l.length := by unfold normS; simp
  cases hcs : (star && creds) with
  | true =>
    obtain ⟨rfl, rfl⟩ : star = true ∧ creds = true := by simpa using hcs
    exact cs_l1s _ _ _ (by omega) fin _ 0 (Nat.zero_add _)
  | false => exact cs_l1 creds star hcs l (mm star l) (seenS creds (mm star l)) (seenB (toldS (mm star l)) (allS creds (mm star l))) (by omega) (by omega) hg (fun h hh => ok_mm creds star l hg hcs h hh) fin _ 0 [] [] (Nat.zero_add _) rfl (by simp)
theorem cs_l0 (l : List Hd) (creds star : Bool) (hl : HSmall l) : ∀ n i : Nat, i + n = l.length → (∀ h ∈ l.take i, goodH h) → Ev (fun k => lockkeeperlaw15_CorsSeen.l0 k l creds star (mm star (l.take i)) (i : Int)) true := by
  have h40 := hl.1
  intro n
  induction n with
  | zero =>
    intro i hi hg
    rw [List.take_of_length_le (by omega)] at hg ⊢
    refine evSucc ?_
    simp only [lockkeeperlaw15_CorsSeen.l0]
    exact evNeg (by omega) (cs_fin l creds star hl hg)
  | succ n ih =>
    intro i hi hg
    have hlt : i < l.length := by omega
    have e2 : wrap64 ((i : Int) + 1) = ((i + 1 : Nat) : Int) := by unfold wrap64; omega
    have hz := hl.2 _ (List.getElem_mem hlt)
    have htake : l.take (i + 1) = l.take i ++ [l[i]] := by rw [List.take_add_one, List.getElem?_eq_getElem hlt]; rfl
    have IH := ih (i + 1) (by omega)
    rw [htake, mm_snoc] at IH
    have hml : (mm star (l.take i)).length ≤ 80 := by rw [mm_length, List.length_take]; omega
    have jt : Ev (fun k => lockkeeperlaw15_CorsSeen.j1 k l creds star (mm star (l.take i)) (i : Int) true) true := by
      refine evSucc ?_
      simp only [lockkeeperlaw15_CorsSeen.j1, if_true]
      exact Ev.bind awake15_ev (Ev.now _)
    refine evSucc ?_
    simp only [lockkeeperlaw15_CorsSeen.l0]
    rw [rdT_get _ _ hlt]
    refine evPos (by omega) (evPos (by omega) (Ev.bind (token_ev _ (by omega)) ?_))
    cases ht : tokS (l[i]).f0 with
    | false => exact evNeg (by decide) jt
    | true =>
      refine evPos rfl (evBind (fold_f _ sExpose (by omega) (by decide)) ?_)
      cases hf : foldB (l[i]).f0 sExpose with
      | true => exact jt
      | false =>
        have IH' := IH (fun h hh => by
          rcases List.mem_append.1 hh with hh | hh
          · exact hg h hh
          · obtain rfl := List.mem_singleton.1 hh
            exact ⟨ht, hf⟩)
        refine evSucc ?_
        simp only [lockkeeperlaw15_CorsSeen.j1, Bool.false_eq_true, if_false, e2]
        rw [rdT_get _ _ hlt]
        refine evPos (by omega) (evPos (by omega) (evPos (by omega) (evBind rfl ?_)))
        cases star with
        | true => exact evPos rfl (evPos (by rw [List.length_append]; show _ + 1 < _; omega) IH')
        | false => exact evNeg (by decide) (evPos (by rw [List.length_append]; show _ + 1 < _; omega) IH')
theorem CorsSeen : ∀ (l0 : List (S35)) (a1 : Bool) (a2 : Bool), (l0.length ≤ maxLen ∧ ∀ x_ ∈ l0, bT35 x_) → ∃ k, lockkeeperlaw15_CorsSeen.f k l0 a1 a2 = some true := by
  intro l creds star _
  refine Ev.rounds (g := fun k => lockkeeperlaw15_CorsSeen.f k l creds star) ?_
  unfold lockkeeperlaw15_CorsSeen.f
  obtain ⟨b, hb, hB⟩ := great_ev l
  refine Ev.bind hb ?_
  cases b with
  | true => exact evPos rfl (Ev.bind awake15_ev (Ev.now _))
  | false =>
    have := cs_l0 l creds star (hB rfl) l.length 0 (Nat.zero_add _) (by simp)
    exact evNeg (by decide) (by simpa [mm] using this)
end Go.Proofs.YtnbkfneolgeeeaaDoor.Pure
