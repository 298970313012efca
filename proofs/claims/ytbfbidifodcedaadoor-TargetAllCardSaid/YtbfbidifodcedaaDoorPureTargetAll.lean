
/- The printed law TargetAll tells true for every text (of the form's own reach). -/
import Derived.Test.YtbfbidifodcedaaDoorBTAll
import Derived.Test.YtbfbidifodcedaaDoorR1
import Derived.Test.YtbfbidifodcedaaDoorPr10
import Derived.Test.YtbfbidifodcedaaDoorPr9
import Derived.Test.YtbfbidifodcedaaDoorPr8
namespace Go.Proofs.YtbfbidifodcedaaDoor.Pure
open Go.RowKit Go.Proofs.YtbfbidifodcedaaDoor.Pr Go.Proofs.YtbfbidifodcedaaDoorW.PrintWords Go.Proofs.YtbfbidifodcedaaDoorW.PrintLast
set_option linter.unusedVariables false
set_option linter.unusedSimpArgs false

def firstN (m : Bs) : Bs → Nat
  | [] => 0
  | c :: r => if m.contains c = true then 0 else firstN m r + 1
theorem fcase (m : Bs) : ∀ l : Bs, ∃ p r, l = p ++ r ∧ firstN m l = p.length ∧ (∀ x ∈ p, m.contains x = false) ∧ (r = [] ∨ ∃ c r', r = c :: r' ∧ m.contains c = true)
  | [] => ⟨[], [], rfl, rfl, by simp, Or.inl rfl⟩
  | c :: l => by
    by_cases h : m.contains c = true
    · exact ⟨[], c :: l, rfl, by rw [firstN, if_pos h]; rfl, by simp, Or.inr ⟨c, l, rfl, h⟩⟩
    · obtain ⟨p, r, e, hn, hp, hr⟩ := fcase m l
      refine ⟨c :: p, r, by rw [e]; rfl, by rw [firstN, if_neg h, hn]; rfl, ?_, hr⟩
      intro x hx
      rcases List.mem_cons.1 hx with rfl | hx
      · simpa using h
      · exact hp x hx
theorem first_l0 (s m : ByteArray) (hs : s.size ≤ 1000000) (hm : m.size ≤ 1000) : ∀ (r x : Bs), s.data.toList = x ++ r → Ev (fun k => lockkeeperref4_first.l0 k s m (x.length : Int)) (((x.length + firstN m.data.toList r : Nat) : Int)) := by
  intro r
  induction r with
  | nil =>
    intro x hx
    have hz : s.size = x.length := by rw [size_len, hx]; simp
    refine evSucc ?_
    simp only [lockkeeperref4_first.l0]
    exact evNeg (by omega) (evEq (Ev.now _) (by simp [firstN]))
  | cons y r ih =>
    intro x hx
    have hz : s.size = x.length + (r.length + 1) := by rw [size_len, hx]; simp
    have hb := bt_mid s x y r hx
    have e2 : wrap64 ((x.length : Int) + 1) = ((x ++ [y]).length : Int) := by simp; unfold wrap64; omega
    have IH := ih (x ++ [y]) (by rw [hx]; simp)
    refine evSucc ?_
    simp only [lockkeeperref4_first.l0, hb, e2]
    rw [firstN]
    refine evPos (by omega) (evPos (by omega) (Ev.bind (in_ev m y (by omega)) ?_))
    by_cases h : m.data.toList.contains y = true
    · rw [if_pos h]; exact evPos h (Ev.now _)
    · rw [if_neg h]; exact evNeg h (evEq IH (by simp; omega))
theorem first_ev (s m : ByteArray) (x r : Bs) (hs : s.size ≤ 1000000) (hm : m.size ≤ 1000) (h : s.data.toList = x ++ r) : Ev (fun k => lockkeeperref4_first.f k s (x.length : Int) m) (((x.length + firstN m.data.toList r : Nat) : Int)) := first_l0 s m hs hm r x h
theorem cut_first (s : ByteArray) (c : UInt8) : (cutS s ⟨#[c]⟩).1 = s.extract 0 (firstN [c] s.data.toList) := by
  obtain ⟨p, r, e, hn, hp, hr⟩ := fcase [c] s.data.toList
  have hx : s.extract 0 (firstN [c] s.data.toList) = bsOf p := by
    refine ba_ext ?_
    rw [extract_list, hn, e, bsOf_data]
    simp
  have hc : c ∉ p := fun h => by have := hp c h; simp at this
  rw [hx]
  rcases hr with rfl | ⟨d, r', rfl, hd⟩
  · rw [cutS_not s c (by rw [e]; simpa using hc)]
    refine ba_ext ?_
    rw [e, bsOf_data]
    simp
  · obtain rfl : d = c := by simpa using hd
    rw [cutS_at s p r' d e hc]
theorem ends_first (rest : ByteArray) : endsAt rest = firstN ([47, 63] : List UInt8) rest.data.toList := by
  obtain ⟨p, r, e, hn, hp, hr⟩ := fcase ([47, 63] : List UInt8) rest.data.toList
  rw [hn]
  unfold endsAt
  rw [size_len, e]
  rcases hr with rfl | ⟨d, r', rfl, hd⟩
  · rw [List.append_nil, indexAny_not _ _ hp, if_pos (by decide)]
  · rw [indexAny_at _ _ _ _ hp hd, if_neg (by omega)]
    exact Int.toNat_natCast _
theorem index_cases (l sub : Bs) : Lib.index l sub = -1 ∨ ∃ A R, l = A ++ (sub ++ R) ∧ Lib.index l sub = (A.length : Int) := by
  rcases Lib.index_spec l sub with ⟨h, _⟩ | ⟨i, h, hi, ho, _⟩
  · exact Or.inl h
  · refine Or.inr ⟨l.take i, l.drop (i + sub.length), ?_, by rw [h, List.length_take]; omega⟩
    have hp : sub <+: l.drop i := by simpa [Lib.occAt] using ho
    obtain ⟨t, ht⟩ := hp
    have : l.drop (i + sub.length) = t := by rw [← List.drop_drop, ← ht]; simp
    rw [this, ht, List.take_append_drop]
theorem sum3 (x y z : Nat) (hx : x ≤ 1000) (hy : y ≤ 601) (hz : z ≤ 600) : wrap64 (wrap64 ((x : Int) + (y : Int)) + (z : Int)) = ((x + y + z : Nat) : Int) := by unfold wrap64; omega
theorem rp_end (a b c q : ByteArray) (p i : Int) (ha : a.size ≤ 100000) (hb : b.size ≤ 100000) (hc : c.size ≤ 600) (hq : q.size ≤ 600) (hi : ¬ i < (q.size : Int)) : Ev (fun k => lockkeeperref4_Parse.l1 k i a b p a b p c q) (fitU a b p (bsOf (cleanV c.data.toList)) q) := by
  have hcl := clean_length c.data.toList
  have hcz := size_len c
  have hz2 : (bsOf (cleanV c.data.toList)).size ≤ 601 := by rw [size_bsOf]; omega
  have hsh := showS_size a b p
  refine evSucc ?_
  simp only [lockkeeperref4_Parse.l1]
  refine evNeg hi (Ev.bind (rclean_ev c (by omega)) (Ev.bind (show3_ev a b p ha hb) ?_))
  unfold fitU
  have e1 : (tshowS a b p (bsOf (cleanV c.data.toList)) q).size = (showS a b p).size + (bsOf (cleanV c.data.toList)).size + q.size := by unfold tshowS; rw [ByteArray.size_append, ByteArray.size_append]
  generalize bsOf (cleanV c.data.toList) = d at hz2 e1 ⊢
  rw [sum3 _ _ _ hsh hz2 hq, ← e1]
  exact evIte (fun _ => Ev.now _) fun _ => Ev.now _
theorem rp_l1 (a b c q : ByteArray) (p : Int) (ha : a.size ≤ 100000) (hb : b.size ≤ 100000) (hc : c.size ≤ 600) (hq : q.size ≤ 600) : ∀ (r x : Bs), (x ≠ [] → q.data.toList = x ++ r) → (x = [] → False) → Ev (fun k => lockkeeperref4_Parse.l1 k (x.length : Int) a b p a b p c q) (if allV notQ r = true then fitU a b p (bsOf (cleanV c.data.toList)) q else noU 3) := by
  intro r
  induction r with
  | nil =>
    intro x hx hn
    have hx := hx hn
    have hz : q.size = x.length := by rw [size_len, hx]; simp
    rw [show allV notQ [] = true from rfl, if_pos rfl]
    exact rp_end a b c q p _ ha hb hc hq (by omega)
  | cons y r ih =>
    intro x hx hn
    have hx := hx hn
    have hz : q.size = x.length + (r.length + 1) := by rw [size_len, hx]; simp
    have hbt := bt_mid q x y r hx
    have e2 : wrap64 ((x.length : Int) + 1) = ((x ++ [y]).length : Int) := by simp; unfold wrap64; omega
    have IH := ih (x ++ [y]) (fun _ => by rw [hx]; simp) (by simp)
    refine evSucc ?_
    simp only [lockkeeperref4_Parse.l1, hbt, e2]
    rw [allV_cons]
    refine evPos (by omega) (evPos (by omega) (Ev.bind (queryByte_ev y) ?_))
    cases allC notQ y with
    | true => rw [Bool.true_and]; exact evPos rfl IH
    | false => rw [Bool.false_and, if_neg (by decide)]; exact evNeg (by decide) (Ev.now _)
theorem rp_l0 (a b c q : ByteArray) (p : Int) (R : UT) (hc : c.size ≤ 600) (hR : Ev (fun k => lockkeeperref4_Parse.l1 k 1 a b p a b p c q) R) : ∀ (r x : Bs), c.data.toList = x ++ r → Ev (fun k => lockkeeperref4_Parse.l0 k (x.length : Int) a b p a b p c q) (if allV notP r = true then R else noU 3) := by
  intro r
  induction r with
  | nil =>
    intro x hx
    have hz : c.size = x.length := by rw [size_len, hx]; simp
    rw [show allV notP [] = true from rfl, if_pos rfl]
    refine evSucc ?_
    simp only [lockkeeperref4_Parse.l0]
    exact evNeg (by omega) hR
  | cons y r ih =>
    intro x hx
    have hz : c.size = x.length + (r.length + 1) := by rw [size_len, hx]; simp
    have hbt := bt_mid c x y r hx
    have e2 : wrap64 ((x.length : Int) + 1) = ((x ++ [y]).length : Int) := by simp; unfold wrap64; omega
    have IH := ih (x ++ [y]) (by rw [hx]; simp)
    refine evSucc ?_
    simp only [lockkeeperref4_Parse.l0, hbt, e2]
    rw [allV_cons]
    refine evPos (by omega) (evPos (by omega) (Ev.bind (pathByte_ev y) ?_))
    cases allC notP y with
    | true => rw [Bool.true_and]; exact evPos rfl IH
    | false => rw [Bool.false_and, if_neg (by decide)]; exact evNeg (by decide) (Ev.now _)
theorem rp_loop (a b : ByteArray) (p e : Int) (D F : Bs) (ha : a.size ≤ 100000) (hb : b.size ≤ 100000) (hD : D.length ≤ 600) (hF : F.length ≤ 600) (hp : ∀ x ∈ D, (([63] : List UInt8) : Bs).contains x = false) (hr : F = [] ∨ ∃ c F', F = c :: F' ∧ (([63] : List UInt8) : Bs).contains c = true) :
    Ev (fun k => lockkeeperref4_Parse.l0 k 0 a b p a b p (bsOf D) (bsOf F)) (urlS (a, b, p, e) (cutS (bsOf (D ++ F)) (⟨#[63]⟩ : ByteArray))) := by
  have zD : (bsOf D).size ≤ 600 := by rw [size_bsOf]; exact hD
  have zF : (bsOf F).size ≤ 600 := by rw [size_bsOf]; exact hF
  have hn : (63 : UInt8) ∉ D := fun h => by have := hp _ h; simp at this
  have h0 := fun R hR => rp_l0 a b (bsOf D) (bsOf F) p R zD hR D [] rfl
  rcases hr with rfl | ⟨c, F', rfl, hc⟩
  · have hcut : cutS (bsOf (D ++ [])) (⟨#[63]⟩ : ByteArray) = (bsOf D, ⟨#[]⟩, false) := by rw [List.append_nil]; exact cutS_not _ _ (by rw [bsOf_data]; exact hn)
    rw [hcut]
    have h1 := rp_end a b (bsOf D) (bsOf []) p 1 ha hb zD zF (by rw [size_bsOf]; decide)
    refine evEq (h0 _ h1) ?_
    unfold urlS
    show _ = if allV notP (bsOf D).data.toList = true ∧ allV notQ (⟨#[]⟩ : ByteArray).data.toList = true then fitU a b p (bsOf (cleanV (bsOf D).data.toList)) (bsOf []) else noU 3
    rw [bsOf_data]
    by_cases h : allV notP D = true
    · rw [if_pos h, if_pos ⟨h, rfl⟩]
    · rw [if_neg h, if_neg (fun x => h x.1)]
  · obtain rfl : c = 63 := by simpa using hc
    have hcut : cutS (bsOf (D ++ 63 :: F')) (⟨#[63]⟩ : ByteArray) = (bsOf D, bsOf F', true) := cutS_at _ D F' 63 (bsOf_data _) hn
    rw [hcut]
    have h1 := rp_l1 a b (bsOf D) (bsOf (63 :: F')) p ha hb zD zF F' [63] (fun _ => rfl) (by simp)
    refine evEq (h0 _ h1) ?_
    have hask : askQ (bsOf D, bsOf F', true) = bsOf (63 :: F') := ba_ext (by unfold askQ; rw [if_pos rfl, append_list]; rfl)
    unfold urlS
    show _ = if allV notP (bsOf D).data.toList = true ∧ allV notQ (bsOf F').data.toList = true then fitU a b p (bsOf (cleanV (bsOf D).data.toList)) (askQ (bsOf D, bsOf F', true)) else noU 3
    rw [hask, bsOf_data, bsOf_data]
    by_cases h : allV notP D = true
    · rw [if_pos h]
      by_cases h2 : allV notQ F' = true
      · rw [if_pos h2, if_pos ⟨h, h2⟩]
      · rw [if_neg h2, if_neg (fun x => h2 x.2)]
    · rw [if_neg h, if_neg (fun x => h x.1)]
theorem rp_ev (s : ByteArray) (hs : s.size ≤ 100000) : Ev (fun k => lockkeeperref4_Parse.f k s) (tparseS s) := by
  unfold lockkeeperref4_Parse.f tparseS
  refine evIte (fun _ => Ev.now _) fun h => ?_
  have hf0 : firstN ([35] : List UInt8) s.data.toList ≤ s.size := by
    obtain ⟨p, r, e, hn, _⟩ := fcase ([35] : List UInt8) s.data.toList
    rw [hn, size_len, e]
    simp
  have h1 := first_ev s (⟨#[35]⟩ : ByteArray) [] s.data.toList (by omega) (by decide) rfl
  rw [List.length_nil, Nat.zero_add] at h1
  refine Ev.bind h1 (evPos (by omega) (evPos (by
    show ((firstN ([35] : List UInt8) s.data.toList : Nat) : Int) ≤ _
    omega) ?_))
  simp only [Int.toNat_natCast]
  rw [show (cutS s (⟨#[35]⟩ : ByteArray)).1 = s.extract 0 (firstN ((⟨#[35]⟩ : ByteArray)).data.toList s.data.toList) from cut_first s 35]
  have hz : (s.extract 0 (firstN ((⟨#[35]⟩ : ByteArray)).data.toList s.data.toList)).size ≤ 512 := by rw [ByteArray.size_extract]; omega
  generalize s.extract 0 (firstN ((⟨#[35]⟩ : ByteArray)).data.toList s.data.toList) = t at hz ⊢
  refine Ev.bind (behind_ev t (by omega)) ?_
  unfold bodyU
  rcases index_cases t.data.toList ([58, 47, 47] : List UInt8) with hi | ⟨A, R, hl, hi⟩
  · have hc : (cutS t sSep).2.2 = false := by
      unfold cutS Lib.cut
      rw [show sSep.data.toList = ([58, 47, 47] : List UInt8) from rfl, hi, if_neg (by decide)]
    rw [hc, hi]
    exact evPos (by decide) (Ev.now _)
  · have hlen : t.size = A.length + (3 + R.length) := by rw [size_len, hl]; simp; omega
    have hc : cutS t sSep = (bsOf A, bsOf R, true) := by
      unfold cutS Lib.cut
      rw [show sSep.data.toList = ([58, 47, 47] : List UInt8) from rfl, hi, if_pos (by omega), hl]
      simp
    rw [hc, hi, if_pos rfl]
    have e3 : wrap64 ((A.length : Int) + 3) = ((A ++ ([58, 47, 47] : List UInt8)).length : Int) := by simp; unfold wrap64; omega
    rw [e3]
    obtain ⟨B, C, eR, hE, hB, hCr⟩ := fcase ([47, 63] : List UInt8) R
    obtain ⟨D, F, eC, hQ, hD, hF⟩ := fcase ([63] : List UInt8) C
    have lR : R.length = B.length + (D.length + F.length) := by rw [eR, eC]; simp
    refine evNeg (by omega) (Ev.bind (first_ev t (⟨#[47, 63]⟩ : ByteArray) (A ++ ([58, 47, 47] : List UInt8)) R (by omega) (by decide) (by rw [hl]; simp)) ?_)
    have n1 : (A ++ ([58, 47, 47] : List UInt8)).length + firstN ((⟨#[47, 63]⟩ : ByteArray)).data.toList R = (A ++ ([58, 47, 47] : List UInt8) ++ B).length := by
      rw [show ((⟨#[47, 63]⟩ : ByteArray)).data.toList = ([47, 63] : List UInt8) from rfl, hE]
      simp
      omega
    rw [n1]
    have ln : (A ++ ([58, 47, 47] : List UInt8) ++ B).length = A.length + 3 + B.length := by simp; omega
    have x1 : t.extract 0 (A ++ ([58, 47, 47] : List UInt8) ++ B).length = bsOf A ++ sSep ++ (bsOf R).extract 0 B.length := by
      refine ba_ext ?_
      rw [extract_list, append_list, append_list, extract_list, hl, eR]
      simp only [bsOf_data, List.drop_zero, show sSep.data.toList = ([58, 47, 47] : List UInt8) from rfl]
      rw [List.take_left, show A ++ (([58, 47, 47] : List UInt8) ++ (B ++ C)) = (A ++ ([58, 47, 47] : List UInt8) ++ B) ++ C by simp, List.take_left]
    have x2 : (bsOf R).extract B.length (bsOf R).size = bsOf (D ++ F) := by
      refine ba_ext ?_
      rw [extract_list, size_bsOf]
      simp only [bsOf_data]
      rw [List.take_length, eR, eC, List.drop_left]
    have hen : endsAt (bsOf R) = B.length := by rw [ends_first, bsOf_data]; exact hE
    unfold restU
    rw [hen, ← x1, x2]
    simp only [Int.toNat_natCast]
    refine evPos (by omega) (evPos (by omega) (Ev.bind (parse3_ev _ (by rw [ByteArray.size_extract]; omega)) ?_))
    obtain ⟨p1, p2⟩ := parse_sizes (t.extract 0 (A ++ ([58, 47, 47] : List UInt8) ++ B).length) (by rw [ByteArray.size_extract]; omega)
    generalize parseS (t.extract 0 (A ++ ([58, 47, 47] : List UInt8) ++ B).length) = o at p1 p2 ⊢
    refine evIte (fun h0 => ?_) fun h0 => Ev.now _
    refine Ev.bind (first_ev t (⟨#[63]⟩ : ByteArray) (A ++ ([58, 47, 47] : List UInt8) ++ B) C (by omega) (by decide) (by rw [hl, eR]; simp)) ?_
    have n2 : (A ++ ([58, 47, 47] : List UInt8) ++ B).length + firstN ((⟨#[63]⟩ : ByteArray)).data.toList C = (A ++ ([58, 47, 47] : List UInt8) ++ B ++ D).length := by
      rw [show ((⟨#[63]⟩ : ByteArray)).data.toList = ([63] : List UInt8) from rfl, hQ]
      simp
      omega
    have ln2 : (A ++ ([58, 47, 47] : List UInt8) ++ B ++ D).length = A.length + 3 + B.length + D.length := by simp; omega
    rw [n2]
    simp only [Int.toNat_natCast]
    have ht : t.data.toList = (A ++ ([58, 47, 47] : List UInt8) ++ B) ++ (D ++ F) := by rw [hl, eR, eC]; simp
    have x3 : t.extract (A ++ ([58, 47, 47] : List UInt8) ++ B).length (A ++ ([58, 47, 47] : List UInt8) ++ B ++ D).length = bsOf D := by
      refine ba_ext ?_
      rw [extract_list, bsOf_data, ht, show (A ++ ([58, 47, 47] : List UInt8) ++ B) ++ (D ++ F) = (A ++ ([58, 47, 47] : List UInt8) ++ B ++ D) ++ F by simp, List.take_left, List.drop_left]
    have x4 : t.extract (A ++ ([58, 47, 47] : List UInt8) ++ B ++ D).length t.size = bsOf F := by
      refine ba_ext ?_
      rw [extract_list, bsOf_data, size_len, List.take_length, ht, show (A ++ ([58, 47, 47] : List UInt8) ++ B) ++ (D ++ F) = (A ++ ([58, 47, 47] : List UInt8) ++ B ++ D) ++ F by simp, List.drop_left]
    rw [x3, x4]
    exact evPos (by omega) (evPos (by omega) (evPos (by omega) (rp_loop _ _ _ _ D F p1 p2 (by omega) (by omega) hD hF)))
theorem TargetAll : ∀ (a0 : ByteArray), a0.size ≤ 140737488351232 → ∃ k, lockkeeperlaw4_TargetAll.f k a0 = some true := by
  intro s _
  refine Ev.rounds (g := fun k => lockkeeperlaw4_TargetAll.f k s) ?_
  unfold lockkeeperlaw4_TargetAll.f
  refine Ev.bind (long_ev 700 [s] (by omega) (by omega) (by simp)) ?_
  cases hL : longS 700 [s] with
  | true => exact evPos rfl (Ev.bind awake4_ev (Ev.now _))
  | false =>
    have z := longS_size _ _ hL s (by simp)
    refine evNeg (by decide) (Ev.bind (tparse_ev s (by omega)) (Ev.bind (rp_ev s (by omega)) (evPos (by simp) (evPos rfl ?_))))
    exact Ev.bind (clean_ev s (by omega)) (Ev.bind (rclean_ev s (by omega)) (evPos rfl (Ev.bind awake4_ev (Ev.now _))))
end Go.Proofs.YtbfbidifodcedaaDoor.Pure
