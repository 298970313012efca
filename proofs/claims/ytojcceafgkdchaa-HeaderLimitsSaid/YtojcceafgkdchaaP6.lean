/- Plain laws of header.Check. -/
import Derived.Test.YtojcceafgkdchaaP5
import Derived.Test.YtojcceafgkdchaaPr14
namespace Go.Proofs.Ytojcceafgkdchaa.Pr
open Go.RowKit Go.Proofs.YtojcceafgkdchaaW.PrintWords Go.Proofs.YtojcceafgkdchaaW.PrintLast
set_option linter.unusedVariables false
set_option linter.unusedSimpArgs false

def hasLine (s : ByteArray) : Bool := decide (0 ≤ Lib.indexAny s.data.toList (⟨#[0, 10, 13]⟩ : ByteArray).data.toList)
theorem line_f (s : ByteArray) (h : s.size < 4294967281) : strings_ContainsAny.f s (⟨#[0, 10, 13]⟩ : ByteArray) = some (hasLine s) := by
  unfold strings_ContainsAny.f
  rw [if_pos ⟨by decide, by decide, h, by decide⟩]
  rfl
def isHS (f0 f1 : ByteArray) : Bool := if tokS f0 = true then (if (f0.size : Int) ≤ 64 then (if ((trimS f1).size : Int) ≤ 4096 then !hasLine (trimS f1) else false) else false) else false
theorem isHeader_ev (f0 f1 : ByteArray) (h0 : f0.size ≤ 1000000) (h1 : f1.size ≤ 1000000) : Ev (fun k => header_isHeader.f k f0 f1) (isHS f0 f1) := by
  unfold header_isHeader.f isHS
  have ht := trimS_size f1
  exact Ev.bind (trim_ev f1 (by omega)) (Ev.bind (token_ev f0 (by omega)) (evIte (fun _ => evIte (fun _ => evIte (fun _ => evBind (line_f _ (by omega)) (Ev.now _)) fun _ => Ev.now _) fun _ => Ev.now _) fun _ => Ev.now _))
def goodH (h : Hd) : Bool := isHS h.f0 h.f1
def checkS (l : List Hd) : Int := if (l.length : Int) > 32 then 4 else if l.all goodH = true then 0 else 6
theorem check_l0 (l : List Hd) (hl : HOk l) (r : List Hd) : ∀ p, p ++ r = l →
    Ev (fun k => header_Check.l0 k l (l.length : Int) (p.length : Int)) (if r.all goodH = true then 0 else 6) := by
  have h1 := hl.1
  induction r with
  | nil =>
    intro p hp
    rw [List.append_nil] at hp
    subst hp
    refine evSucc ?_
    simp only [header_Check.l0]
    exact evNeg (by omega) (Ev.now _)
  | cons h r ih =>
    intro p hp
    have hlen : l.length = p.length + (r.length + 1) := by rw [← hp]; simp
    have hh := hl.2 h (by rw [← hp]; simp)
    have hr : rd_T26 l (p.length : Int) = h := by rw [← hp]; exact rd_mid p h r
    have e2 : wrap64 ((p.length : Int) + 1) = ((p ++ [h]).length : Int) := by simp; unfold wrap64; omega
    have ih' := ih (p ++ [h]) (by simpa using hp)
    refine evSucc ?_
    simp only [header_Check.l0, hr, e2]
    refine evPos (by omega) (evPos (by omega) (evPos (by omega) (Ev.bind (isHeader_ev _ _ hh.1 hh.2) ?_)))
    rw [List.all_cons]
    cases hg : isHS h.f0 h.f1 with
    | true =>
      rw [show goodH h = true from hg, Bool.true_and]
      exact evPos rfl ih'
    | false =>
      rw [show goodH h = false from hg, Bool.false_and]
      exact evNeg (by decide) (Ev.now _)
theorem check_ev (l : List Hd) (hl : HOk l) : Ev (fun k => header_Check.f k l) (checkS l) := by
  unfold header_Check.f checkS
  refine evIte (fun _ => Ev.now _) fun _ => ?_
  have := check_l0 l hl l [] rfl
  simpa using this
end Go.Proofs.Ytojcceafgkdchaa.Pr
