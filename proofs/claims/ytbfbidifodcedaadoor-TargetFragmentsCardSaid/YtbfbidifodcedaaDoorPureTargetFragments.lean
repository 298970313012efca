/- The printed law TargetFragments tells true for every two texts (of the form's own reach). -/
import Derived.Test.YtbfbidifodcedaaDoorBT
import Derived.Test.YtbfbidifodcedaaDoorPr6
import Derived.Test.YtbfbidifodcedaaDoorPr4
import Derived.Test.YtbfbidifodcedaaDoorPr3
import Derived.Test.YtbfbidifodcedaaDoorPr2
import Derived.Test.YtbfbidifodcedaaDoorPr5
namespace Go.Proofs.YtbfbidifodcedaaDoor.Pure
open Go.RowKit Go.Proofs.YtbfbidifodcedaaDoor.Pr Go.Proofs.YtbfbidifodcedaaDoorW.PrintWords Go.Proofs.YtbfbidifodcedaaDoorW.PrintLast
set_option linter.unusedVariables false
set_option linter.unusedSimpArgs false

def dotsJ (t : ByteArray) (b : Bool) : Int := if b = true then 1 else if t.toList = ([46, 46] : List UInt8) then 2 else if t.toList = ([46, 37, 50, 101] : List UInt8) then 2 else if t.toList = ([37, 50, 101, 46] : List UInt8) then 2 else if t.toList = ([37, 50, 101, 37, 50, 101] : List UInt8) then 2 else 0
theorem dots_j0 (t : ByteArray) (b : Bool) : Ev (fun k => target_dots.j0 k t b) (dotsJ t b) := by
  refine evSucc ?_
  simp only [target_dots.j0]
  unfold dotsJ
  exact evIte (fun _ => Ev.now _) fun _ => evIte (fun _ => Ev.now _) fun _ => evIte (fun _ => Ev.now _) fun _ => evIte (fun _ => Ev.now _) fun _ => evIte (fun _ => Ev.now _) fun _ => Ev.now _
theorem dots_ex (x : ByteArray) (h : x.size ≤ 9223372036854775807) : ∃ d, Ev (fun k => target_dots.f k x) d := by
  unfold target_dots.f
  by_cases hd : (lowB x).toList = ([46] : List UInt8)
  · exact ⟨_, evBind (lower_f x h) (evPos hd (dots_j0 _ _))⟩
  · exact ⟨_, evBind (lower_f x h) (evNeg hd (dots_j0 _ _))⟩
theorem join_length (S : Nat) (sep : Bs) (hsep : sep.length = 1) (l : List Bs) (h : ∀ x ∈ l, x.length ≤ S) : (Lib.join l sep).length ≤ l.length * (S + 1) := by
  induction l with
  | nil => simp [Lib.join, List.intercalate]
  | cons a l ih =>
    have ha := h a (by simp)
    cases l with
    | nil =>
      have : Lib.join [a] sep = a := by simp [Lib.join, List.intercalate, List.intersperse]
      rw [this]
      simp
      omega
    | cons b l =>
      have hi := ih (fun x hx => h x (by simp [hx]))
      have : Lib.join (a :: b :: l) sep = a ++ (sep ++ Lib.join (b :: l) sep) := by simp [Lib.join, List.intercalate, List.intersperse]
      rw [this, List.length_append, List.length_append, hsep, List.length_cons (a := a), Nat.succ_mul]
      omega
theorem join_ex (S : Nat) (hS : S ≤ 1000) (l : List ByteArray) (hl : l.length ≤ 2000) (h : ∀ x ∈ l, x.size ≤ S) : ∃ r, strings_Join.f l (⟨#[47]⟩ : ByteArray) = some r ∧ r.size ≤ 2002000 := by
  have hj := join_length S ([47] : List UInt8) rfl (l.map (·.data.toList)) (fun x hx => by
    obtain ⟨y, hy, rfl⟩ := List.mem_map.1 hx
    rw [← size_len]
    exact h y hy)
  rw [List.length_map] at hj
  have h2 : l.length * (S + 1) ≤ 2000 * 1001 := Nat.mul_le_mul hl (by omega)
  have hj' : (Lib.join (l.map (·.data.toList)) ((⟨#[47]⟩ : ByteArray)).data.toList).length ≤ 2002000 := Nat.le_trans hj (by omega)
  refine ⟨joinB l (⟨#[47]⟩ : ByteArray), ?_, ?_⟩
  · unfold strings_Join.f
    rw [if_pos ⟨by omega, by omega⟩]
  · unfold joinB
    first | (rw [size_bsOf]; exact hj') | exact hj' | (rw [size_len]; exact hj')
theorem clean_l0 (L : List ByteArray) (S : Nat) (hS : S ≤ 1000) (hL : 1 ≤ L.length ∧ L.length ≤ 1000) (hs : ∀ x ∈ L, x.size ≤ S) : ∀ n i (K : List ByteArray), i + n = L.length → K.length ≤ i → (∀ x ∈ K, x.size ≤ S) →
    ∃ r, Ev (fun k => target_Clean.l0 k L K L (L.length : Int) (i : Int)) r ∧ r.size ≤ 2002001 := by
  intro n
  induction n with
  | zero =>
    intro i K hi hK hk
    have e1 : wrap64 ((L.length : Int) - 1) = ((L.length - 1 : Nat) : Int) := by unfold wrap64; omega
    have hlt : L.length - 1 < L.length := by omega
    obtain ⟨d, hd⟩ := dots_ex L[L.length - 1] (by have := hs _ (List.getElem_mem hlt); omega)
    obtain ⟨r1, j1, z1⟩ := join_ex S hS (K ++ [(⟨#[]⟩ : ByteArray)]) (by simp; omega) (fun x hx => by
      rcases List.mem_append.1 hx with hx | hx
      · exact hk x hx
      · rw [List.mem_singleton.1 hx]; exact Nat.zero_le _)
    obtain ⟨r2, j2, z2⟩ := join_ex S hS K (by omega) hk
    have y1 : ((⟨#[47]⟩ : ByteArray) ++ r1).size = 1 + r1.size := by rw [ByteArray.size_append]; rfl
    have y2 : ((⟨#[47]⟩ : ByteArray) ++ r2).size = 1 + r2.size := by rw [ByteArray.size_append]; rfl
    by_cases h0 : d > 0
    · refine ⟨(⟨#[47]⟩ : ByteArray) ++ r1, evSucc ?_, by omega⟩
      simp only [target_Clean.l0, e1]
      rw [rdOf_get _ _ hlt]
      exact evNeg (by omega) (evPos (by omega) (evPos (by omega) (Ev.bind hd (evPos h0 (evPos (by omega) (evBind j1 (evPos (by omega) (Ev.now _))))))))
    · refine ⟨(⟨#[47]⟩ : ByteArray) ++ r2, evSucc ?_, by omega⟩
      simp only [target_Clean.l0, e1]
      rw [rdOf_get _ _ hlt]
      exact evNeg (by omega) (evPos (by omega) (evPos (by omega) (Ev.bind hd (evNeg h0 (evBind j2 (evPos (by omega) (Ev.now _)))))))
  | succ n ih =>
    intro i K hi hK hk
    have hlt : i < L.length := by omega
    have e2 : wrap64 ((i : Int) + 1) = ((i + 1 : Nat) : Int) := by unfold wrap64; omega
    have hx := hs _ (List.getElem_mem hlt)
    obtain ⟨d, hd⟩ := dots_ex L[i] (by omega)
    have eK : wrap64 ((K.length : Int) - 1) = (K.length : Int) - 1 := by unfold wrap64; omega
    have m0 : 0 ≤ mx ((K.length : Int) - 1) 0 ∧ mx ((K.length : Int) - 1) 0 ≤ (K.length : Int) := by unfold mx; split <;> omega
    by_cases h0 : d = 0
    · obtain ⟨r, hr, hz⟩ := ih (i + 1) (K ++ [L[i]]) (by omega) (by simp; omega) (fun x hx' => by
        rcases List.mem_append.1 hx' with h | h
        · exact hk x h
        · rw [List.mem_singleton.1 h]; exact hx)
      refine ⟨r, evSucc ?_, hz⟩
      simp only [target_Clean.l0, e2]
      rw [rdOf_get _ _ hlt]
      exact evPos (by omega) (evPos (by omega) (evPos (by omega) (Ev.bind hd (evPos h0 (evPos (by omega) hr)))))
    · by_cases h2 : d = 2
      · obtain ⟨r, hr, hz⟩ := ih (i + 1) (K.take (mx ((K.length : Int) - 1) 0).toNat) (by omega) (by rw [List.length_take]; omega) (fun x hx' => hk x (List.mem_of_mem_take hx'))
        refine ⟨r, evSucc ?_, hz⟩
        simp only [target_Clean.l0, e2, eK]
        rw [rdOf_get _ _ hlt]
        exact evPos (by omega) (evPos (by omega) (evPos (by omega) (Ev.bind hd (evNeg h0 (evPos h2 (evPos m0.1 (evPos m0.2 hr)))))))
      · obtain ⟨r, hr, hz⟩ := ih (i + 1) K (by omega) (by omega) hk
        refine ⟨r, evSucc ?_, hz⟩
        simp only [target_Clean.l0, e2, eK]
        rw [rdOf_get _ _ hlt]
        exact evPos (by omega) (evPos (by omega) (evPos (by omega) (Ev.bind hd (evNeg h0 (evNeg h2 hr)))))
theorem trimp_ex (s : ByteArray) : ∃ t, strings_TrimPrefix.f s (⟨#[47]⟩ : ByteArray) = some t ∧ t.size ≤ s.size := by
  unfold strings_TrimPrefix.f stringslite_TrimPrefix.f stringslite_HasPrefix.f
  have h1 : ((⟨#[47]⟩ : ByteArray)).size = 1 := rfl
  rw [h1]
  by_cases h : (s.size : Int) ≥ ((1 : Nat) : Int)
  · rw [if_pos h, if_pos (by omega), if_pos (by omega)]
    simp only [Option.bind_some]
    split
    · exact ⟨_, rfl, by rw [ByteArray.size_extract]; omega⟩
    · exact ⟨_, rfl, Nat.le_refl _⟩
  · rw [if_neg h]
    exact ⟨s, rfl, Nat.le_refl _⟩
theorem clean_ex (s : ByteArray) (h : s.size ≤ 600) : ∃ r, Ev (fun k => target_Clean.f k s) r ∧ r.size ≤ 2002001 := by
  obtain ⟨t, ht, hz⟩ := trimp_ex s
  have hc := splitC_count 47 t.data.toList
  rw [← size_len] at hc
  have hne := splitC_ne 47 t.data.toList
  have hpos : 1 ≤ (splitC 47 t.data.toList).length := by
    cases he : splitC 47 t.data.toList with
    | nil => exact absurd he hne
    | cons => simp
  obtain ⟨r, hr, hrz⟩ := clean_l0 ((splitC 47 t.data.toList).map bsOf) 600 (by omega) ⟨by simp; omega, by simp; omega⟩ (fun x hx => by
    obtain ⟨y, hy, rfl⟩ := List.mem_map.1 hx
    have := (splitC_mem 47 _ y hy).2
    rw [← size_len] at this
    rw [size_bsOf]
    omega) _ 0 [] (Nat.zero_add _) (Nat.zero_le _) (by intro x hx; cases hx)
  refine ⟨r, ?_, hrz⟩
  unfold target_Clean.f
  refine evBind ht (evBind (split1_f t 47 (by omega)) ?_)
  rw [splitL_bs]
  exact hr
theorem all_ex (s m : ByteArray) (hs : s.size ≤ 100000) : ∃ b, Ev (fun k => target_all.f k s m) b := by
  have key : ∀ r p : Bs, s.data.toList = p ++ r → ∃ b, Ev (fun k => target_all.l0 k s m (s.size : Int) (p.length : Int)) b := by
    intro r
    induction r with
    | nil =>
      intro p hp
      have hl : s.size = p.length := by rw [size_len, hp]; simp
      refine ⟨true, evSucc ?_⟩
      simp only [target_all.l0]
      exact evNeg (by omega) (Ev.now _)
    | cons c r ih =>
      intro p hp
      have hl : s.size = p.length + (r.length + 1) := by rw [size_len, hp]; simp
      have hb := bt_mid s p c r hp
      have e1 : wrap64 ((p.length : Int) + 1) = ((p ++ [c]).length : Int) := by simp; unfold wrap64; omega
      obtain ⟨b, hr⟩ := ih (p ++ [c]) (by rw [hp]; simp)
      by_cases h1 : (c.toNat : Int) < 33
      · refine ⟨false, evSucc ?_⟩
        simp only [target_all.l0, hb, e1]
        exact evPos (by omega) (evPos (by omega) (evPos (by omega) (evPos h1 (Ev.now _))))
      · by_cases h2 : (c.toNat : Int) > 126
        · refine ⟨false, evSucc ?_⟩
          simp only [target_all.l0, hb, e1]
          exact evPos (by omega) (evPos (by omega) (evPos (by omega) (evNeg h1 (evPos h2 (Ev.now _)))))
        · by_cases h3 : Lib.indexByte m.data.toList ((c.toNat : Int)).toNat.toUInt8 ≥ 0
          · refine ⟨false, evSucc ?_⟩
            simp only [target_all.l0, hb, e1]
            exact evPos (by omega) (evPos (by omega) (evPos (by omega) (evNeg h1 (evNeg h2 (evBind (show strings_IndexByte.f m (c.toNat : Int) = some _ from rfl) (evPos h3 (Ev.now _)))))))
          · refine ⟨b, evSucc ?_⟩
            simp only [target_all.l0, hb, e1]
            exact evPos (by omega) (evPos (by omega) (evPos (by omega) (evNeg h1 (evNeg h2 (evBind (show strings_IndexByte.f m (c.toNat : Int) = some _ from rfl) (evNeg h3 hr))))))
  unfold target_all.f
  exact key s.data.toList [] rfl
theorem showS_size (a b : ByteArray) (p : Int) : (showS a b p).size ≤ 1000 := by
  by_cases h : chkS a b p = true
  · exact (chk_size h).1
  · unfold showS keyS
    rw [if_neg h, if_neg h]
    exact Nat.zero_le _
theorem tshow_ex (a b c d : ByteArray) (p : Int) (ha : a.size ≤ 100000) (hb : b.size ≤ 100000) (hc : c.size ≤ 10000000) (hd : d.size ≤ 10000000) : ∃ r, Ev (fun k => target_show.f k a b p c d) r := by
  have hz := showS_size a b p
  have z1 : (showS a b p ++ c).size = (showS a b p).size + c.size := ByteArray.size_append
  unfold target_show.f
  exact ⟨_, Ev.bind (show_ev a b p ha hb) (evPos (by omega) (evPos (by omega) (Ev.now _)))⟩
theorem tparse_j1 (x10 x11 : ByteArray) (x12 x68 : Bool) (a b : ByteArray) (p : Int) (h0 : x10.size ≤ 600) (h1 : x11.size ≤ 600) (ha : a.size ≤ 100000) (hb : b.size ≤ 100000) :
    ∃ r, Ev (fun k => target_Parse.j1 k x10 x11 x12 x68 a b p) r := by
  cases x68 with
  | true =>
    refine ⟨((⟨#[]⟩ : ByteArray), (⟨#[]⟩ : ByteArray), 0, (⟨#[]⟩ : ByteArray), (⟨#[]⟩ : ByteArray), 3), evSucc ?_⟩
    simp only [target_Parse.j1, if_true]
    exact Ev.now _
  | false =>
    obtain ⟨c, hc, hz⟩ := clean_ex x10 h0
    cases x12 with
    | true =>
      have zq : ((⟨#[63]⟩ : ByteArray) ++ x11).size = 1 + x11.size := by rw [ByteArray.size_append]; rfl
      obtain ⟨t, ht⟩ := tshow_ex a b c ((⟨#[63]⟩ : ByteArray) ++ x11) p ha hb (by omega) (by omega)
      by_cases h5 : (t.size : Int) > 512
      · refine ⟨((⟨#[]⟩ : ByteArray), (⟨#[]⟩ : ByteArray), 0, (⟨#[]⟩ : ByteArray), (⟨#[]⟩ : ByteArray), 4), evSucc ?_⟩
        simp only [target_Parse.j1, Bool.false_eq_true, if_false, if_true]
        exact Ev.bind hc (evPos (by omega) (Ev.bind ht (evPos h5 (Ev.now _))))
      · refine ⟨(a, b, p, c, (⟨#[63]⟩ : ByteArray) ++ x11, 0), evSucc ?_⟩
        simp only [target_Parse.j1, Bool.false_eq_true, if_false, if_true]
        exact Ev.bind hc (evPos (by omega) (Ev.bind ht (evNeg h5 (Ev.now _))))
    | false =>
      obtain ⟨t, ht⟩ := tshow_ex a b c (⟨#[]⟩ : ByteArray) p ha hb (by omega) (Nat.zero_le _)
      by_cases h5 : (t.size : Int) > 512
      · refine ⟨((⟨#[]⟩ : ByteArray), (⟨#[]⟩ : ByteArray), 0, (⟨#[]⟩ : ByteArray), (⟨#[]⟩ : ByteArray), 4), evSucc ?_⟩
        simp only [target_Parse.j1, Bool.false_eq_true, if_false]
        exact Ev.bind hc (Ev.bind ht (evPos h5 (Ev.now _)))
      · refine ⟨(a, b, p, c, (⟨#[]⟩ : ByteArray), 0), evSucc ?_⟩
        simp only [target_Parse.j1, Bool.false_eq_true, if_false]
        exact Ev.bind hc (Ev.bind ht (evNeg h5 (Ev.now _)))
theorem tparse_j0 (a b : ByteArray) (n : Nat) (ha : a.size ≤ 512) (hb : b.size ≤ 512) (hn : n ≤ b.size) : ∃ r, Ev (fun k => target_Parse.j0 k a b (n : Int)) r := by
  have z1 : (a ++ ((⟨#[58, 47, 47]⟩ : ByteArray) : ByteArray)).size = a.size + 3 := by rw [ByteArray.size_append]; rfl
  have z2 : (b.extract 0 ((n : Int)).toNat).size ≤ 512 := by rw [ByteArray.size_extract]; omega
  have z3 : (b.extract ((n : Int)).toNat b.size).size ≤ 512 := by rw [ByteArray.size_extract]; omega
  have z4 : (a ++ ((⟨#[58, 47, 47]⟩ : ByteArray) : ByteArray) ++ b.extract 0 ((n : Int)).toNat).size ≤ 1100 := by rw [ByteArray.size_append, z1]; omega
  have hp := parse_ev (a ++ ((⟨#[58, 47, 47]⟩ : ByteArray) : ByteArray) ++ b.extract 0 ((n : Int)).toNat) (by omega)
  obtain ⟨p1, p2⟩ := parse_sizes (a ++ ((⟨#[58, 47, 47]⟩ : ByteArray) : ByteArray) ++ b.extract 0 ((n : Int)).toNat) (by omega)
  have c1 := cutS_size (b.extract ((n : Int)).toNat b.size) (⟨#[63]⟩ : ByteArray)
  by_cases h0 : (parseS (a ++ ((⟨#[58, 47, 47]⟩ : ByteArray) : ByteArray) ++ b.extract 0 ((n : Int)).toNat)).2.2.2 = 0
  · obtain ⟨b1, hb1⟩ := all_ex (cutS (b.extract ((n : Int)).toNat b.size) (⟨#[63]⟩ : ByteArray)).1 (⟨#[34, 35, 60, 62, 63, 92, 94, 123, 124, 125, 96]⟩ : ByteArray) (by omega)
    cases b1 with
    | true =>
      obtain ⟨b2, hb2⟩ := all_ex (cutS (b.extract ((n : Int)).toNat b.size) (⟨#[63]⟩ : ByteArray)).2.1 (⟨#[34, 35, 60, 62]⟩ : ByteArray) (by omega)
      obtain ⟨r, hr⟩ := tparse_j1 (cutS (b.extract ((n : Int)).toNat b.size) (⟨#[63]⟩ : ByteArray)).1 (cutS (b.extract ((n : Int)).toNat b.size) (⟨#[63]⟩ : ByteArray)).2.1 (cutS (b.extract ((n : Int)).toNat b.size) (⟨#[63]⟩ : ByteArray)).2.2 (!b2) _ _ (parseS (a ++ ((⟨#[58, 47, 47]⟩ : ByteArray) : ByteArray) ++ b.extract 0 ((n : Int)).toNat)).2.2.1 (by omega) (by omega) p1 p2
      refine ⟨r, evSucc ?_⟩
      simp only [target_Parse.j0]
      exact evPos (by omega) (evPos (by omega) (evPos (by omega) (evPos (by omega) (Ev.bind hp (evPos h0 (evBind (cut_f _ _ (by omega)) (Ev.bind hb1 (evPos rfl (Ev.bind hb2 hr)))))))))
    | false =>
      obtain ⟨r, hr⟩ := tparse_j1 (cutS (b.extract ((n : Int)).toNat b.size) (⟨#[63]⟩ : ByteArray)).1 (cutS (b.extract ((n : Int)).toNat b.size) (⟨#[63]⟩ : ByteArray)).2.1 (cutS (b.extract ((n : Int)).toNat b.size) (⟨#[63]⟩ : ByteArray)).2.2 true _ _ (parseS (a ++ ((⟨#[58, 47, 47]⟩ : ByteArray) : ByteArray) ++ b.extract 0 ((n : Int)).toNat)).2.2.1 (by omega) (by omega) p1 p2
      refine ⟨r, evSucc ?_⟩
      simp only [target_Parse.j0]
      exact evPos (by omega) (evPos (by omega) (evPos (by omega) (evPos (by omega) (Ev.bind hp (evPos h0 (evBind (cut_f _ _ (by omega)) (Ev.bind hb1 (evNeg (by decide) hr))))))))
  · refine ⟨((⟨#[]⟩ : ByteArray), (⟨#[]⟩ : ByteArray), 0, (⟨#[]⟩ : ByteArray), (⟨#[]⟩ : ByteArray), (parseS (a ++ ((⟨#[58, 47, 47]⟩ : ByteArray) : ByteArray) ++ b.extract 0 ((n : Int)).toNat)).2.2.2), evSucc ?_⟩
    simp only [target_Parse.j0]
    exact evPos (by omega) (evPos (by omega) (evPos (by omega) (evPos (by omega) (Ev.bind hp (evNeg h0 (Ev.now _))))))
theorem tail_ex (u : ByteArray) (hu : u.size ≤ 512) : ∃ r, ∀ t : ByteArray, t.size ≤ 512 → (cutS t (⟨#[35]⟩ : ByteArray)).1 = u → Ev (fun k => target_Parse.f k t) r := by
  have c1 := cutS_size u sSep
  have hgo : ∃ r, Ev (fun k => (strings_Cut.f u sSep).bind fun bt317 => (if bt317.2.2 = true then ((strings_IndexAny.f bt317.2.1 (⟨#[47, 63]⟩ : ByteArray)).bind fun t320 => (if t320 < 0 then (target_Parse.j0 k bt317.1 bt317.2.1 (bt317.2.1.size : Int)) else (target_Parse.j0 k bt317.1 bt317.2.1 t320))) else (some ((⟨#[]⟩ : ByteArray), (⟨#[]⟩ : ByteArray), 0, (⟨#[]⟩ : ByteArray), (⟨#[]⟩ : ByteArray), 3)))) r := by
    by_cases hf : (cutS u sSep).2.2 = true
    · have hia : strings_IndexAny.f (cutS u sSep).2.1 (⟨#[47, 63]⟩ : ByteArray) = some (Lib.indexAny (cutS u sSep).2.1.data.toList ((⟨#[47, 63]⟩ : ByteArray)).data.toList) := by
        unfold strings_IndexAny.f
        rw [if_pos ⟨by decide, by decide, by omega, by decide⟩]
      have hle : Lib.indexAny (cutS u sSep).2.1.data.toList ((⟨#[47, 63]⟩ : ByteArray)).data.toList ≤ ((cutS u sSep).2.1.size : Int) := by
        have key : ∀ (m l : Bs), Lib.indexAny l m ≤ (l.length : Int) := by
          intro m l
          induction l with
          | nil => simp [Lib.indexAny]
          | cons b l ih =>
            rw [Lib.indexAny]
            split
            · simp; omega
            · split
              · simp; omega
              · simp; omega
        rw [size_len]
        exact key _ _
      by_cases h0 : Lib.indexAny (cutS u sSep).2.1.data.toList ((⟨#[47, 63]⟩ : ByteArray)).data.toList < 0
      · obtain ⟨r, hr⟩ := tparse_j0 (cutS u sSep).1 (cutS u sSep).2.1 (cutS u sSep).2.1.size (by omega) (by omega) (Nat.le_refl _)
        exact ⟨r, evBind (cut_f u sSep (by omega)) (evPos hf (evBind hia (evPos h0 hr)))⟩
      · obtain ⟨n, hn⟩ := Int.eq_ofNat_of_zero_le (show 0 ≤ Lib.indexAny (cutS u sSep).2.1.data.toList ((⟨#[47, 63]⟩ : ByteArray)).data.toList by omega)
        obtain ⟨r, hr⟩ := tparse_j0 (cutS u sSep).1 (cutS u sSep).2.1 n (by omega) (by omega) (by omega)
        refine ⟨r, evBind (cut_f u sSep (by omega)) (evPos hf (evBind hia (evNeg h0 ?_)))⟩
        rw [hn]
        exact hr
    · exact ⟨_, evBind (cut_f u sSep (by omega)) (evNeg hf (Ev.now _))⟩
  obtain ⟨r, hr⟩ := hgo
  refine ⟨r, fun t ht he => ?_⟩
  unfold target_Parse.f
  refine evNeg (by omega) (evBind (cut_f t (⟨#[35]⟩ : ByteArray) (by omega)) ?_)
  rw [he]
  exact hr
theorem cut_more (a b : ByteArray) : (cutS (a ++ ((⟨#[35]⟩ : ByteArray) : ByteArray) ++ b) (⟨#[35]⟩ : ByteArray)).1 = (cutS a (⟨#[35]⟩ : ByteArray)).1 := by
  have hd : (a ++ ((⟨#[35]⟩ : ByteArray) : ByteArray) ++ b).data.toList = a.data.toList ++ 35 :: b.data.toList := by
    rw [append_list, append_list]
    show (a.data.toList ++ [35]) ++ b.data.toList = _
    simp
  by_cases h : (35 : UInt8) ∈ a.data.toList
  · obtain ⟨p, r, e, hp⟩ := List.eq_append_cons_of_mem h
    rw [cutS_at a p r 35 e hp, cutS_at _ p (r ++ 35 :: b.data.toList) 35 (by rw [hd, e]; simp) hp]
  · rw [cutS_not a 35 h, cutS_at _ a.data.toList b.data.toList 35 hd h, bsOf_of]
theorem awake4 : ∃ k, lockkeeperlaw4_awake.f k = some true := ⟨60, by decide +kernel⟩
theorem awake4_ev : Ev (fun k => lockkeeperlaw4_awake.f k) true := Ev.of lockkeeperlaw4_awake.mono awake4.choose_spec
theorem TargetFragments : ∀ (a0 : ByteArray) (a1 : ByteArray), a0.size ≤ 140737488351232 → a1.size ≤ 140737488351232 → ∃ k, lockkeeperlaw4_TargetFragments.f k a0 a1 = some true := by
  intro a b h0 h1
  refine Ev.rounds (g := fun k => lockkeeperlaw4_TargetFragments.f k a b) ?_
  unfold lockkeeperlaw4_TargetFragments.f
  refine Ev.bind (long_ev 512 [a, b] (by omega) (by omega) (by simp)) ?_
  cases hL : longS 512 [a, b] with
  | true => exact evPos rfl (Ev.bind awake4_ev (Ev.now _))
  | false =>
    have hs : (a.size : Int) + 1 + b.size < 512 := by
      unfold longS at hL
      split at hL
      · cases hL
      · unfold longS at hL
        split at hL
        · cases hL
        · omega
    have z1 : (a ++ ((⟨#[35]⟩ : ByteArray) : ByteArray)).size = a.size + 1 := by rw [ByteArray.size_append]; rfl
    have z2 : (a ++ ((⟨#[35]⟩ : ByteArray) : ByteArray) ++ b).size = a.size + 1 + b.size := by rw [ByteArray.size_append, z1]
    have c1 := cutS_size a (⟨#[35]⟩ : ByteArray)
    obtain ⟨r, hr⟩ := tail_ex (cutS a (⟨#[35]⟩ : ByteArray)).1 (by omega)
    refine evNeg (by decide) (Ev.bind (hr a (by omega) rfl) (evPos (by omega) (evPos (by omega) (Ev.bind (hr _ (by omega) (cut_more a b)) (evPos (by simp) (evPos rfl (Ev.bind awake4_ev (Ev.now _))))))))
end Go.Proofs.YtbfbidifodcedaaDoor.Pure
