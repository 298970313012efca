/- Plain laws of the printed functions of chapter 6 (header.Set), and of the statements' own words on headers. -/
import Derived.Test.YtojcceafgkdchaaP2
import Derived.Test.YtojcceafgkdchaaPr7
import Derived.Test.YtojcceafgkdchaaPr5
namespace Go.Proofs.Ytojcceafgkdchaa.Pr
open Go.RowKit Go.Proofs.YtojcceafgkdchaaW.PrintWords Go.Proofs.YtojcceafgkdchaaW.PrintLast
set_option linter.unusedVariables false
set_option linter.unusedSimpArgs false

/-! ### GreatHeaders -/
theorem great_l0 (l : List Hd) (hl : l.length ≤ 40) (r : List Hd) : ∀ (p : List Hd) (n : Int), p ++ r = l → (∀ h ∈ p, h.f0.size ≤ 100 ∧ h.f1.size ≤ 5000) → 0 ≤ n → n ≤ 5000 * p.length →
    ∃ b, Ev (fun k => lockkeeperlaw0_GreatHeaders.l0 k l n (p.length : Int)) b ∧ (b = false → ∀ h ∈ l, h.f0.size ≤ 100 ∧ h.f1.size ≤ 5000) := by
  induction r with
  | nil =>
    intro p n hp hall h0 hn
    rw [List.append_nil] at hp
    subst hp
    refine ⟨decide (n > 12000), evSucc ?_, fun _ => hall⟩
    simp only [lockkeeperlaw0_GreatHeaders.l0]
    exact evNeg (by omega) (Ev.now _)
  | cons h r ih =>
    intro p n hp hall h0 hn
    have hlen : l.length = p.length + (r.length + 1) := by rw [← hp]; simp
    have hr : rd_T26 l (p.length : Int) = h := by rw [← hp]; exact rd_mid p h r
    by_cases h1 : (h.f0.size : Int) > 100
    · refine ⟨true, evSucc ?_, fun h => by cases h⟩
      simp only [lockkeeperlaw0_GreatHeaders.l0, hr]
      exact evPos (by omega) (evPos (by omega) (evPos h1 (Ev.now _)))
    · by_cases h2 : (h.f1.size : Int) > 5000
      · refine ⟨true, evSucc ?_, fun h => by cases h⟩
        simp only [lockkeeperlaw0_GreatHeaders.l0, hr]
        exact evPos (by omega) (evPos (by omega) (evNeg h1 (evPos h2 (Ev.now _))))
      · obtain ⟨b, hb, hB⟩ := ih (p ++ [h]) (n + h.f1.size) (by simpa using hp) (fun x hx => by
          rcases List.mem_append.1 hx with hx | hx
          · exact hall x hx
          · rw [List.mem_singleton.1 hx]; omega) (by omega) (by simp; omega)
        refine ⟨b, evSucc ?_, hB⟩
        simp only [lockkeeperlaw0_GreatHeaders.l0, hr]
        refine evPos (by omega) (evPos (by omega) (evNeg h1 (evNeg h2 ?_)))
        have e1 : wrap64 (n + (h.f1.size : Int)) = n + h.f1.size := by unfold wrap64; omega
        have e2 : wrap64 ((p.length : Int) + 1) = ((p ++ [h]).length : Int) := by simp; unfold wrap64; omega
        rw [e1, e2]
        exact hb
/-- Headers that the statements go through. -/
def HSmall (l : List Hd) : Prop := l.length ≤ 40 ∧ ∀ h ∈ l, h.f0.size ≤ 100 ∧ h.f1.size ≤ 5000
theorem HSmall.ok {l : List Hd} (h : HSmall l) : HOk l := ⟨by have := h.1; omega, fun x hx => by have := h.2 x hx; omega⟩
theorem great_ev (l : List Hd) : ∃ b, Ev (fun k => lockkeeperlaw0_GreatHeaders.f k l) b ∧ (b = false → HSmall l) := by
  unfold lockkeeperlaw0_GreatHeaders.f
  by_cases h : (l.length : Int) > 40
  · exact ⟨true, evPos h (Ev.now _), fun h => by cases h⟩
  · obtain ⟨b, hb, hB⟩ := great_l0 l (by omega) l [] 0 rfl (by simp) (by omega) (by simp)
    exact ⟨b, evNeg h hb, fun e => ⟨by omega, hB e⟩⟩

/-! ### Headers -/
theorem headers_l0 (l : List Hd) (hl : l.length ≤ 9223372036854775806) (r : List Hd) : ∀ p : List Hd, p ++ r = l → Ev (fun k => lockkeeperlaw0_Headers.l0 k l l (p.length : Int)) true := by
  induction r with
  | nil =>
    intro p hp
    rw [List.append_nil] at hp
    subst hp
    refine evSucc ?_
    simp only [lockkeeperlaw0_Headers.l0]
    exact evNeg (by omega) (Ev.now _)
  | cons h r ih =>
    intro p hp
    have hlen : l.length = p.length + (r.length + 1) := by rw [← hp]; simp
    refine evSucc ?_
    simp only [lockkeeperlaw0_Headers.l0]
    refine evPos (by omega) (evPos (by omega) (evPos (by omega) (evNeg (by simp) ?_)))
    have e2 : wrap64 ((p.length : Int) + 1) = ((p ++ [h]).length : Int) := by simp; unfold wrap64; omega
    rw [e2]
    exact ih (p ++ [h]) (by simpa using hp)
theorem headers_refl (l : List Hd) (hl : l.length ≤ 9223372036854775806) : Ev (fun k => lockkeeperlaw0_Headers.f k l l) true := by
  unfold lockkeeperlaw0_Headers.f
  exact evPos rfl (headers_l0 l hl l [] rfl)

/-! ### header.Set -/
def setGo (name value : ByteArray) : Bool → List Hd → List Hd
  | b, [] => if b then [] else [⟨name, value⟩]
  | b, h :: r => if foldB h.f0 name then (if b then setGo name value b r else ⟨h.f0, value⟩ :: setGo name value true r) else h :: setGo name value b r
def setS (l : List Hd) (name value : ByteArray) : List Hd := setGo name value false l
theorem setGo_length (name value : ByteArray) : ∀ (r : List Hd) (b : Bool), (setGo name value b r).length ≤ r.length + 1 := by
  intro r
  induction r with
  | nil => intro b; cases b <;> simp [setGo]
  | cons h r ih =>
    intro b
    have h1 := ih b
    have h2 := ih true
    unfold setGo
    split
    · split
      · simp; omega
      · simp; omega
    · simp; omega
theorem set_l0 (name value : ByteArray) (hn : name.size ≤ 1000000) (l : List Hd) (hl : HOk l) (r : List Hd) : ∀ (p acc : List Hd) (b : Bool), p ++ r = l → acc.length ≤ p.length →
    Ev (fun k => header_Set.l0 k name value acc b l (l.length : Int) (p.length : Int)) (acc ++ setGo name value b r) := by
  have hL := hl.1
  induction r with
  | nil =>
    intro p acc b hp ha
    rw [List.append_nil] at hp
    subst hp
    refine evSucc ?_
    simp only [header_Set.l0]
    refine evNeg (by omega) ?_
    cases b with
    | true => exact evPos rfl (evEq (Ev.now _) (by simp [setGo]))
    | false => exact evNeg (by decide) (evPos (by omega) (evEq (Ev.now _) (by simp [setGo])))
  | cons h r ih =>
    intro p acc b hp ha
    have hlen : l.length = p.length + (r.length + 1) := by rw [← hp]; simp
    have hr : rd_T26 l (p.length : Int) = h := by rw [← hp]; exact rd_mid p h r
    have hh := hl.2 h (by rw [← hp]; simp)
    have e2 : wrap64 ((p.length : Int) + 1) = ((p ++ [h]).length : Int) := by simp; unfold wrap64; omega
    have hp' : (p ++ [h]) ++ r = l := by simpa using hp
    refine evSucc ?_
    simp only [header_Set.l0, hr, e2]
    refine evPos (by omega) (evPos (by omega) (evPos (by omega) (evBind (fold_f _ _ (by omega) (by omega)) ?_)))
    cases hf : foldB h.f0 name with
    | true =>
      refine evPos rfl ?_
      cases b with
      | true =>
        refine evPos rfl (evEq (ih (p ++ [h]) acc true hp' (by simp; omega)) ?_)
        rw [setGo]
        simp [hf]
      | false =>
        refine evNeg (by decide) (evPos (by omega) (evEq (ih (p ++ [h]) (acc ++ [⟨h.f0, value⟩]) true hp' (by simp; omega)) ?_))
        rw [setGo]
        simp [hf]
    | false =>
      refine evNeg (by decide) (evPos (by omega) (evEq (ih (p ++ [h]) (acc ++ [⟨h.f0, h.f1⟩]) b hp' (by simp; omega)) ?_))
      rw [setGo]
      simp [hf]
theorem set_ev (l : List Hd) (name value : ByteArray) (hl : HOk l) (hn : name.size ≤ 1000000) : Ev (fun k => header_Set.f k l name value) (setS l name value) := by
  have := set_l0 name value hn l hl l [] [] false rfl (by simp)
  simpa [header_Set.f, setS] using this

theorem foldB_refl (a : ByteArray) : foldB a a = true := by simp [foldB]
theorem foldB_eq (a b : ByteArray) : foldB a b = true ↔ lowL a.data.toList = lowL b.data.toList := by simp [foldB]
theorem foldB_trans {a b c : ByteArray} (h : foldB a b = true) : foldB a c = foldB b c := by
  rw [foldB_eq] at h
  unfold foldB
  rw [h]

theorem awake6 : ∃ k, lockkeeperlaw6_awake.f k = some true := ⟨60, by decide +kernel⟩
theorem awake6_ev : Ev (fun k => lockkeeperlaw6_awake.f k) true := Ev.of lockkeeperlaw6_awake.mono awake6.choose_spec

/-! ### Low -/
theorem low_f (a n : Int) (ha : (Lit.int .i64 a).wf = true) (h1 : 1 ≤ n) (h2 : n ≤ 9223372036854775807) : ∃ r, lockkeeperlaw0_Low.f a n = some r ∧ 0 ≤ r ∧ r < n := by
  have hn : IntKind.u64.wrap n = n := by
    rw [show IntKind.u64.wrap n = n % 18446744073709551616 by simp [IntKind.wrap, IntKind.bits, IntKind.signed]]
    omega
  have ha' : 0 ≤ IntKind.u64.wrap a := by
    rw [show IntKind.u64.wrap a = a % 18446744073709551616 by simp [IntKind.wrap, IntKind.bits, IntKind.signed]]
    omega
  unfold lockkeeperlaw0_Low.f
  rw [hn, if_neg (by omega)]
  have e : Int.tmod (IntKind.u64.wrap a) n = IntKind.u64.wrap a % n := Int.tmod_eq_emod_of_nonneg ha'
  have h3 : 0 ≤ IntKind.u64.wrap a % n := Int.emod_nonneg _ (by omega)
  have h4 : IntKind.u64.wrap a % n < n := Int.emod_lt_of_pos _ (by omega)
  refine ⟨IntKind.u64.wrap a % n, ?_, h3, h4⟩
  rw [e]
  congr 1
  unfold wrap64
  omega
end Go.Proofs.Ytojcceafgkdchaa.Pr
