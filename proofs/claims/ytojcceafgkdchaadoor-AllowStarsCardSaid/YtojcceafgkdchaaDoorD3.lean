/- Plain laws of octet.Split. -/
import Derived.Test.YtojcceafgkdchaaDoorD2
import Derived.Test.YtojcceafgkdchaaDoorG4
import Derived.Test.YtojcceafgkdchaaDoorPr2
namespace Go.Proofs.YtojcceafgkdchaaDoor.Pr
open Go.RowKit Go.Proofs.YtojcceafgkdchaaDoorW.PrintWords Go.Proofs.YtojcceafgkdchaaDoorW.PrintLast
set_option linter.unusedVariables false
set_option linter.unusedSimpArgs false

def splitC (c : UInt8) : Bs → List Bs
  | [] => [[]]
  | b :: l => if b = c then [] :: splitC c l else match splitC c l with
    | [] => [[b]]
    | x :: xs => (b :: x) :: xs
theorem sp_index_at (p r : Bs) (c : UInt8) (h : c ∉ p) : Lib.indexByte (p ++ c :: r) c = (p.length : Int) := by
  induction p with
  | nil => simp [Lib.indexByte]
  | cons b p ih =>
    have hb : (b == c) = false := by
      simp only [beq_eq_false_iff_ne]
      intro e
      exact h (by simp [e])
    have := ih (fun hc => h (by simp [hc]))
    rw [List.cons_append, Lib.indexByte, hb, this]
    have h2 : (((p.length : Int)) == -1) = false := by
      simp only [beq_eq_false_iff_ne]
      omega
    rw [h2]
    simp
theorem sp_index_not (p : Bs) (c : UInt8) (h : c ∉ p) : Lib.indexByte p c = -1 := by
  induction p with
  | nil => rfl
  | cons b p ih =>
    have hb : (b == c) = false := by
      simp only [beq_eq_false_iff_ne]
      intro e
      exact h (by simp [e])
    have := ih (fun hc => h (by simp [hc]))
    rw [Lib.indexByte, hb, this]
    simp
theorem splitC_not (c : UInt8) (l : Bs) (h : c ∉ l) : splitC c l = [l] := by
  induction l with
  | nil => rfl
  | cons b l ih =>
    have hb : ¬ b = c := fun e => h (by simp [e])
    rw [splitC, if_neg hb, ih (fun hc => h (by simp [hc]))]
theorem splitC_at (c : UInt8) (p r : Bs) (h : c ∉ p) : splitC c (p ++ c :: r) = p :: splitC c r := by
  induction p with
  | nil => rw [List.nil_append, splitC, if_pos rfl]
  | cons b p ih =>
    have hb : ¬ b = c := fun e => h (by simp [e])
    rw [List.cons_append, splitC, if_neg hb, ih (fun hc => h (by simp [hc]))]
theorem splitC_ne (c : UInt8) (l : Bs) : splitC c l ≠ [] := by
  cases l with
  | nil => simp [splitC]
  | cons b l =>
    rw [splitC]
    split
    · simp
    · split <;> simp
theorem splitC_append (c : UInt8) (a b : Bs) : splitC c (a ++ c :: b) = splitC c a ++ splitC c b := by
  induction a with
  | nil =>
    show splitC c (c :: b) = [[]] ++ splitC c b
    conv => lhs; rw [splitC]
    rw [if_pos rfl]
    rfl
  | cons x a ih =>
    rw [List.cons_append, splitC, splitC]
    by_cases hx : x = c
    · rw [if_pos hx, if_pos hx, ih]; rfl
    · rw [if_neg hx, if_neg hx, ih]
      cases h : splitC c a with
      | nil => exact absurd h (splitC_ne c a)
      | cons y ys => rfl
theorem splitL_data (c : UInt8) : ∀ (k : Nat) (s : ByteArray), Lib.countB s ⟨#[c]⟩ = k → (Lib.splitB ⟨#[c]⟩ 0 k s).map (·.data.toList) = splitC c s.data.toList := by
  intro k
  induction k with
  | zero =>
    intro s hk
    by_cases hm : c ∈ s.data.toList
    · obtain ⟨p, r, e, hp⟩ := List.eq_append_cons_of_mem hm
      have hix : Lib.indexB s ⟨#[c]⟩ = ((p.length : Nat) : Int) := by
        refine (Lib.index_one _ _).trans ?_
        rw [e]
        exact sp_index_at p r c hp
      have := Lib.countB_hit s ⟨#[c]⟩ p.length (Nat.le_refl 1) hix
      omega
    · rw [splitC_not c _ hm]
      rfl
  | succ k ih =>
    intro s hk
    by_cases hm : c ∈ s.data.toList
    · obtain ⟨p, r, e, hp⟩ := List.eq_append_cons_of_mem hm
      have hix : Lib.indexB s ⟨#[c]⟩ = ((p.length : Nat) : Int) := by
        refine (Lib.index_one _ _).trans ?_
        rw [e]
        exact sp_index_at p r c hp
      have hc := Lib.countB_hit s ⟨#[c]⟩ p.length (Nat.le_refl 1) hix
      rw [Lib.splitB_hit _ _ _ s p.length hix, List.map_cons, ih _ (by omega), e, splitC_at c p r hp]
      have e1 : (s.extract 0 (p.length + 0)).data.toList = p := by
        rw [extract_list, e]
        simp
      have e2 : (s.extract (p.length + (⟨#[c]⟩ : ByteArray).size) s.size).data.toList = r := by
        have hz : s.size = (p ++ c :: r).length := by rw [size_len, e]
        rw [show (⟨#[c]⟩ : ByteArray).size = 1 from rfl, extract_list, e, hz, List.take_length]
        simp
      rw [e1, e2]
    · have hix : Lib.indexB s ⟨#[c]⟩ = -1 := (Lib.index_one _ _).trans (sp_index_not _ c hm)
      rw [Lib.splitB_miss _ _ _ s hix, splitC_not c _ hm]
      rfl
def keepT (l : List Bs) : List ByteArray := ((l.map trimL).filter fun x => x != []).map bsOf
theorem keepT_append (a b : List Bs) : keepT (a ++ b) = keepT a ++ keepT b := by simp [keepT]
def splitS (s : ByteArray) : List ByteArray := keepT (splitC 44 s.data.toList)
theorem split_f (s : ByteArray) (h : s.size < 4294967281) : strings_Split.f s (⟨#[44]⟩ : ByteArray) = some (splitL s (⟨#[44]⟩ : ByteArray)) := by
  unfold strings_Split.f
  rw [if_pos ⟨h, rfl⟩]
theorem keepT_length (l : List Bs) : (keepT l).length ≤ l.length := by
  have := List.length_filter_le (fun x : Bs => x != []) (l.map trimL)
  simpa [keepT] using this
theorem osplit_l0 (l : List ByteArray) (hl : l.length ≤ 1000000000) (hs : ∀ x ∈ l, x.size ≤ 4611686018427387904) : ∀ n i, i + n = l.length →
    Ev (fun k => octet_Split.l0 k (keepT ((l.take i).map (·.data.toList))) l (l.length : Int) (i : Int)) (keepT (l.map (·.data.toList))) := by
  intro n
  induction n with
  | zero =>
    intro i hi
    refine evSucc ?_
    simp only [octet_Split.l0]
    refine evNeg (by omega) (evEq (Ev.now _) ?_)
    rw [List.take_of_length_le (by omega)]
  | succ n ih =>
    intro i hi
    have hlt : i < l.length := by omega
    have e2 : wrap64 ((i : Int) + 1) = ((i + 1 : Nat) : Int) := by unfold wrap64; omega
    have ih' := ih (i + 1) (by omega)
    rw [List.take_succ_eq_append_getElem hlt, List.map_append, keepT_append] at ih'
    have hk := keepT_length ((l.take i).map (·.data.toList))
    rw [List.length_map, List.length_take] at hk
    refine evSucc ?_
    simp only [octet_Split.l0, e2]
    rw [rdOf_get _ _ hlt]
    refine evPos (by omega) (evPos (by omega) (evPos (by omega) (Ev.bind (trim_ev _ (hs _ (List.getElem_mem hlt))) ?_)))
    rw [tl]
    by_cases hz : (trimS l[i]).data.toList = []
    · refine evPos hz ?_
      have : keepT (([l[i]] : List ByteArray).map (·.data.toList)) = [] := by
        have hz' : trimL l[i].data.toList = [] := hz
        simp [keepT, hz']
      rw [this, List.append_nil] at ih'
      exact ih'
    · refine evNeg hz (evPos (by omega) ?_)
      have : keepT (([l[i]] : List ByteArray).map (·.data.toList)) = [trimS l[i]] := by
        have hz' : ¬ trimL l[i].data.toList = [] := hz
        simp [keepT, hz', trimS]
      rw [this] at ih'
      exact ih'
theorem osplit_ev (s : ByteArray) (h : s.size ≤ 100000000) : Ev (fun k => octet_Split.f k s) (splitS s) := by
  unfold octet_Split.f
  have hd := splitL_data 44 _ s rfl
  have hc : Lib.countB s ⟨#[44]⟩ ≤ s.size := Lib.countB_le (⟨#[44]⟩ : ByteArray) (Nat.le_refl 1) s.size s (Nat.le_refl _)
  have hl := splitL_length s 44
  have hall : ∀ (k : Nat) (s : ByteArray), ∀ x ∈ Lib.splitB (⟨#[44]⟩ : ByteArray) 0 k s, x.size ≤ s.size := by
    intro k
    induction k with
    | zero => intro s x hx; rw [Lib.splitB_zero, List.mem_singleton] at hx; rw [hx]; exact Nat.le_refl _
    | succ k ih =>
      intro s x hx
      unfold Lib.splitB at hx
      split at hx
      · rw [List.mem_singleton] at hx; rw [hx]; exact Nat.le_refl _
      · rcases List.mem_cons.1 hx with hx | hx
        · rw [hx, ByteArray.size_extract]; omega
        · have := ih _ x hx
          rw [ByteArray.size_extract] at this
          omega
  refine evBind (split_f s (by omega)) ?_
  have := osplit_l0 (splitL s ⟨#[44]⟩) (by omega) (fun x hx => by have := hall _ s x hx; omega) (splitL s ⟨#[44]⟩).length 0 (by omega)
  rw [show (splitL s ⟨#[44]⟩).map (·.data.toList) = splitC 44 s.data.toList from hd] at this
  simpa [keepT, splitS] using this
end Go.Proofs.YtojcceafgkdchaaDoor.Pr
