/- Plain laws of the printed functions of chapters 6 and 15 (header.Get, cors.Check), and of the limits that the statements share. -/
import Derived.Test.YtojcceafgkdchaaP1
import Derived.Test.YtojcceafgkdchaaPr2
import Derived.Test.YtojcceafgkdchaaPr3
import Derived.Test.YtojcceafgkdchaaPr5
namespace Go.Proofs.Ytojcceafgkdchaa.Pr
open Go.RowKit Go.Proofs.YtojcceafgkdchaaW.PrintWords Go.Proofs.YtojcceafgkdchaaW.PrintLast
set_option linter.unusedVariables false
set_option linter.unusedSimpArgs false

abbrev Hd := S26
theorem evSucc {α : Type} {g : Nat → Option α} {r : α} (h : Ev (fun k => g (k + 1)) r) : Ev g r := Ev.step (fun _ => rfl) h
theorem evEq {α : Type} {g : Nat → Option α} {r r' : α} (h : Ev g r) (e : r = r') : Ev g r' := e ▸ h
theorem evPos {α : Type} {c : Prop} [Decidable c] {g h : Nat → Option α} {r : α} (hc : c) (hg : Ev g r) : Ev (fun k => if c then g k else h k) r := by
  simp only [if_pos hc]
  exact hg
theorem evNeg {α : Type} {c : Prop} [Decidable c] {g h : Nat → Option α} {r : α} (hc : ¬ c) (hg : Ev h r) : Ev (fun k => if c then g k else h k) r := by
  simp only [if_neg hc]
  exact hg
theorem evBind {α β : Type} {a : Option α} {x : α} {f : Nat → α → Option β} {r : β} (h : a = some x) (k : Ev (fun n => f n x) r) : Ev (fun n => a.bind (f n)) r := by
  subst h
  exact k

/-- Headers that are not too great for anything that is done with them. -/
def HOk (l : List Hd) : Prop := l.length ≤ 1000 ∧ ∀ h ∈ l, h.f0.size ≤ 1000000 ∧ h.f1.size ≤ 1000000
theorem HOk.append {l m : List Hd} (hl : HOk l) (hm : HOk m) (h : (l ++ m).length ≤ 1000) : HOk (l ++ m) :=
  ⟨h, fun x hx => (List.mem_append.1 hx).elim (hl.2 x) (hm.2 x)⟩

def vals (l : List Hd) (name : ByteArray) : List ByteArray := (l.filter fun h => foldB h.f0 name).map fun h => trimS h.f1
def getS (l : List Hd) (name : ByteArray) : ByteArray × Bool := (joinS (vals l name), decide (((vals l name).length : Int) > 0))

theorem trimL_length (l : Bs) : (trimL l).length ≤ l.length := by
  unfold trimL trimR
  have h1 := (List.dropWhile_sublist isBl (l := l)).length_le
  have h2 := (List.dropWhile_sublist isBl (l := (l.dropWhile isBl).reverse)).length_le
  simp only [List.length_reverse] at h2 ⊢
  omega
theorem trimS_size (s : ByteArray) : (trimS s).size ≤ s.size := by
  unfold trimS
  rw [size_bsOf, size_len]
  exact trimL_length _

theorem joinS_size (l : List ByteArray) (n : Nat) (h : ∀ s ∈ l, s.size ≤ n) : (joinS l).size ≤ l.length * (n + 2) := by
  unfold joinS joinB
  rw [size_bsOf]
  cases l with
  | nil => simp [Lib.join]
  | cons a r =>
    have hj := Lib.join_length a.data.toList (r.map (·.data.toList)) [44, 32]
    rw [List.map_cons, hj]
    have key : ∀ m : List ByteArray, (∀ s ∈ m, s.size ≤ n) → Lib.lens (m.map (·.data.toList)) ≤ m.length * n := by
      intro m
      induction m with
      | nil => intro _; simp [Lib.lens]
      | cons b m ih =>
        intro hm
        have h1 := hm b (by simp)
        have h2 := ih (fun s hs => hm s (by simp [hs]))
        rw [size_len] at h1
        simp only [Lib.lens, List.map_cons, List.sum_cons, List.length_cons] at h2 ⊢
        rw [Nat.add_mul]
        omega
    have hk := key (a :: r) h
    simp only [List.length_map, List.length_cons, List.length_nil, List.map_cons] at hk ⊢
    rw [Nat.mul_add]
    omega

theorem vals_length (l : List Hd) (name : ByteArray) : (vals l name).length ≤ l.length := by
  unfold vals
  rw [List.length_map]
  exact List.length_filter_le _ _
theorem vals_size {l : List Hd} (h : HOk l) (name : ByteArray) : ∀ s ∈ vals l name, s.size ≤ 1000000 := by
  intro s hs
  obtain ⟨x, hx, rfl⟩ := List.mem_map.1 hs
  have := trimS_size x.f1
  have := (h.2 x (List.mem_filter.1 hx).1).2
  omega
theorem vals_join {l : List Hd} (h : HOk l) (name : ByteArray) : (joinS (vals l name)).size ≤ 1000002000 := by
  have h1 := joinS_size _ _ (vals_size h name)
  have h2 := vals_length l name
  have h3 := h.1
  have : (vals l name).length * (1000000 + 2) ≤ 1000 * (1000000 + 2) := Nat.mul_le_mul_right _ (by omega)
  omega
theorem vals_append (l m : List Hd) (name : ByteArray) : vals (l ++ m) name = vals l name ++ vals m name := by simp [vals]

theorem rd_mid (p : List Hd) (h : Hd) (r : List Hd) : rd_T26 (p ++ h :: r) (p.length : Int) = h := by
  simp [rd_T26, List.getD_eq_getElem?_getD]

theorem get_l0 (name : ByteArray) (hn : name.size ≤ 1000000) (l : List Hd) (hl : HOk l) (r : List Hd) : ∀ p acc, p ++ r = l → acc = vals p name →
    Ev (fun k => header_Get.l0 k name acc l (l.length : Int) (p.length : Int)) (getS l name) := by
  induction r with
  | nil =>
    intro p acc hp hacc
    rw [List.append_nil] at hp
    subst hp
    subst hacc
    refine evSucc ?_
    simp only [header_Get.l0]
    have hlen := vals_length p name
    have h1 := hl.1
    refine evNeg (by omega) ?_
    rw [join_f (vals p name) (by omega) (by have := vals_join hl name; omega)]
    exact Ev.now _
  | cons h r ih =>
    intro p acc hp hacc
    have hlen : l.length = p.length + (r.length + 1) := by rw [← hp]; simp
    have h1 := hl.1
    have hh := hl.2 h (by rw [← hp]; simp)
    refine evSucc ?_
    simp only [header_Get.l0]
    refine evPos (by omega) (evPos (by omega) (evPos (by omega) ?_))
    have hr : rd_T26 l (p.length : Int) = h := by rw [← hp]; exact rd_mid p h r
    rw [hr]
    refine evBind (fold_f _ _ (by omega) (by omega)) ?_
    have e2 : wrap64 ((p.length : Int) + 1) = ((p ++ [h]).length : Int) := by simp; unfold wrap64; omega
    rw [e2]
    cases hf : foldB h.f0 name with
    | true =>
      simp only [if_true]
      refine Ev.bind (trim_ev h.f1 (by omega)) ?_
      have hlv := vals_length p name
      refine evPos (by rw [hacc]; omega) ?_
      exact ih (p ++ [h]) _ (by simpa using hp) (by rw [hacc, vals_append]; simp [vals, hf])
    | false =>
      simp only [Bool.false_eq_true, if_false]
      exact ih (p ++ [h]) _ (by simpa using hp) (by rw [hacc, vals_append]; simp [vals, hf])
theorem get_ev (l : List Hd) (name : ByteArray) (hl : HOk l) (hn : name.size ≤ 1000000) : Ev (fun k => header_Get.f k l name) (getS l name) := by
  have := get_l0 name hn l hl l [] [] rfl (by simp [vals])
  simpa [header_Get.f] using this

/-! ### cors.Check -/
def sFrom : ByteArray := (⟨#[97, 99, 99, 101, 115, 115, 45, 99, 111, 110, 116, 114, 111, 108, 45, 97, 108, 108, 111, 119, 45, 111, 114, 105, 103, 105, 110]⟩ : ByteArray)
def sTrusts : ByteArray := (⟨#[97, 99, 99, 101, 115, 115, 45, 99, 111, 110, 116, 114, 111, 108, 45, 97, 108, 108, 111, 119, 45, 99, 114, 101, 100, 101, 110, 116, 105, 97, 108, 115]⟩ : ByteArray)
def corsS (origin : ByteArray) (creds : Bool) (l : List Hd) : Int :=
  if (getS l sFrom).2 = true then
    (if (getS l sFrom).1.data.toList = ([42] : List UInt8) ∧ creds = false then 0
     else if (getS l sFrom).1 ≠ origin then 15
     else if creds = true ∧ (getS l sTrusts).1.data.toList ≠ ([116, 114, 117, 101] : List UInt8) then 15 else 0)
  else 15
theorem cors_j1 (x1 : Bool) (x2 : List Hd) (x31 : Bool) (hl : HOk x2) : Ev (fun k => cors_Check.j1 k x1 x2 x31) (if x31 = true then 15 else if x1 = true ∧ (getS x2 sTrusts).1.data.toList ≠ ([116, 114, 117, 101] : List UInt8) then 15 else 0) := by
  refine evSucc ?_
  simp only [cors_Check.j1]
  cases x31 with
  | true => simp only [if_true]; exact Ev.now _
  | false =>
    simp only [Bool.false_eq_true, if_false]
    refine Ev.bind (get_ev x2 sTrusts hl (by decide)) ?_
    rw [tl]
    cases x1 with
    | true =>
      simp only [if_true, true_and]
      by_cases h : (getS x2 sTrusts).1.data.toList = ([116, 114, 117, 101] : List UInt8)
      · rw [if_pos h, if_neg (fun h' => h' h)]; exact Ev.now _
      · rw [if_neg h, if_pos h]; exact Ev.now _
    | false =>
      simp only [Bool.false_eq_true, if_false, false_and]
      exact Ev.now _
theorem cors_ev (origin : ByteArray) (creds : Bool) (l : List Hd) (hl : HOk l) : Ev (fun k => cors_Check.f k origin creds l) (corsS origin creds l) := by
  unfold cors_Check.f corsS
  refine Ev.bind (get_ev l sFrom hl (by decide)) ?_
  generalize getS l sFrom = g
  obtain ⟨v, ok⟩ := g
  rw [tl]
  have hne : (v.toList != origin.toList) = decide (v ≠ origin) := by
    rw [Bool.eq_iff_iff]
    simp [tl_eq]
  cases ok with
  | false =>
    simp only [Bool.false_eq_true, if_false]
    refine evSucc ?_
    simp only [cors_Check.j0, Bool.false_eq_true, if_false]
    exact evEq (cors_j1 creds l true hl) (by simp)
  | true =>
    simp only [if_true]
    by_cases h1 : v.data.toList = ([42] : List UInt8)
    · refine evPos h1 ?_
      refine evSucc ?_
      simp only [cors_Check.j0]
      cases creds with
      | false => simp only [Bool.not_false, if_true, h1, true_and]; exact Ev.now _
      | true =>
        simp only [Bool.not_true, Bool.false_eq_true, if_false, if_true, and_false, Bool.true_eq_false]
        rw [hne]
        refine evEq (cors_j1 true l _ hl) ?_
        simp
    · refine evNeg h1 ?_
      refine evSucc ?_
      simp only [cors_Check.j0, Bool.false_eq_true, if_false, if_true]
      rw [if_neg (fun h => h1 h.1), hne]
      refine evEq (cors_j1 creds l _ hl) ?_
      simp

theorem awake15 : ∃ k, lockkeeperlaw15_awake.f k = some true := ⟨60, by decide +kernel⟩
theorem awake15_ev : Ev (fun k => lockkeeperlaw15_awake.f k) true := Ev.of lockkeeperlaw15_awake.mono awake15.choose_spec
end Go.Proofs.Ytojcceafgkdchaa.Pr
