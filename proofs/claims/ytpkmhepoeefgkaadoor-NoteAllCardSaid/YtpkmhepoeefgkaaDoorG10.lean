
/- note.Lines: walked by hand over the shelf's strings.Builder. -/
import Derived.Test.YtpkmhepoeefgkaaDoorG9
import Derived.Shelf.Strings.BuilderK
import Derived.Test.YtpkmhepoeefgkaaDoorPr2
namespace Go.Proofs.YtpkmhepoeefgkaaDoor.Pr
open Go.RowKit Go.Proofs.YtpkmhepoeefgkaaDoorW.PrintWords Go.Proofs.YtpkmhepoeefgkaaDoorW.PrintLast Go.Proofs.YtpkmhepoeefgkaaDoorW.PrintMore
set_option linter.unusedVariables false
set_option linter.unusedSimpArgs false

theorem builder_below {T e : TypeId} {B b : Nat} {p : Value} {bs : List Value} {w w' : World} (h : Lib.BuilderAtF T e B b p bs w) (k : Below w.heap.size w w') : Lib.BuilderAtF T e B b p bs w' := by
  have hlt := h.lt
  obtain ⟨hB, v, hb, hown, hne⟩ := h
  exact ⟨hB, v, (k.block b hlt).trans hb, hown.kept (row := none) ⟨k.os, k.tape, k.output, k.size, fun j hj _ => k.block j hj⟩ (by cases hv : v.ownBlock <;> simp), hne⟩
theorem isBuilder_below {T e : TypeId} {B b : Nat} {bs : List Value} {w w' : World} (h : Lib.IsBuilderF T e B b bs w) (k : Below w.heap.size w w') : Lib.IsBuilderF T e B b bs w' :=
  h.elim (fun x => .inl (builder_below x k)) (fun x => .inr (builder_below x k))
theorem writeString_k (B b : Nat) (bs : List Value) (s : ByteArray) (w : World) (h : Lib.IsBuilderF 67 5 B b bs w) (hlen : bs.length + s.size ≤ 140737488355328) (hBw : B ≤ w.heap.size) :
    Calls Tryd.prog 39 #[.pointer (some ⟨b, 0, none⟩), .string s] w fun e w' => e = .returned (.tuple #[.int .i64 s.size, .nilIface]) ∧ (Lib.BuilderAtF 67 5 B b (.pointer (some ⟨b, 0, none⟩)) (bs ++ Lib.strCells s) w' ∧ Below B w w' ∧ Lib.OthersKept 5 (some b) w w') :=
  Any.Builder_WriteString_k { Tryd.lays156 with } Tryd.Builder_Extra_156 B b bs s w h hlen hBw
def linesGo (k : Nat) : List S24 → ByteArray → Option (ByteArray × Int)
  | [], acc => some (acc, 0)
  | e :: r, acc => if evOk e.f0 e.f2 e.f3 e.f4 e.f5 e.f6 = true then ((note_Show.f k e.f0 e.f1 e.f2 e.f3 e.f4 e.f5 e.f6).bind fun s => if acc.size + (s.size + 1) ≤ 140737488355328 then linesGo k r (acc ++ (s ++ (⟨#[10]⟩ : ByteArray))) else none) else some (⟨#[]⟩, 2)
def note_Lines.f (k : Nat) (l0 : List S24) : Option (ByteArray × Int) := if l0.length ≤ 9223372036854775806 then linesGo k l0 ⟨#[]⟩ else none
theorem linesGo_mono (k : Nat) (l : List S24) : ∀ acc, LeO (linesGo k l acc) (linesGo (k + 1) l acc) := by
  induction l with
  | nil => intro acc; exact LeO.refl _
  | cons e r ih =>
    intro acc
    rw [linesGo, linesGo]
    refine LeO.ite (LeO.bind (note_Show.mono _ _ _ _ _ _ _ _) (fun s => LeO.ite (ih _) (LeO.none _))) (LeO.refl _)
theorem note_Lines.mono : ∀ a0 k, LeO (note_Lines.f k a0) (note_Lines.f (k + 1) a0) := by
  intro a0 k
  unfold note_Lines.f
  exact LeO.ite (linesGo_mono k a0 _) (LeO.none _)
set_option maxHeartbeats 8000000 in
set_option maxRecDepth 100000 in
theorem note_Lines.calls (k : Nat) (A0 : Option Addr) (c0 : Nat) (l0 : List S24) (r1 : ByteArray) (r2 : Int) (w : World) (hr0 : Kd.C k24 w A0 l0.length l0) (hc0 : l0.length ≤ c0) (hM_ : Aside0 (LaidW w)) (h : note_Lines.f k l0 = some (r1, r2)) :
    Calls Tryd.prog 24 #[.slice A0 l0.length c0] w fun e w' => e = .returned (.tuple #[.string r1, .int .i64 r2]) ∧ Below w.heap.size w w' := by
  have hu24 := Tryd.underlying24
  have HR0 := Aside0.mk hr0
  clear hr0 hc0
  unfold note_Lines.f at h
  split at h
  case isFalse => cases h
  rename_i hlen
  have HH := Aside0.mk h
  clear h
  go_enter Tryd.func24, Tryd.ntmps24
  go_wp2
  go_loopw [9] (fun v9 wr => ∃ (kk : Nat) (acc : ByteArray), kk ≤ l0.length ∧ v9 = .int .i64 kk ∧ Aside0 (linesGo k (l0.drop kk) acc = some (r1, r2)) ∧ Aside0 (Below w.heap.size w wr) ∧ Aside0 (Lib.IsBuilderF 67 5 w.heap.size w.heap.size (Lib.byteCells acc.data.toList) wr)) (fun v9 _ => l0.length - (intOf v9).toNat)
  case atStart => exact ⟨0, ⟨#[]⟩, Nat.zero_le _, rfl, ⟨by rw [List.drop_zero]; exact HH.out⟩, ⟨below_alloc (Below.refl _ _) _⟩, ⟨.of (Lib.fresh_isBuilder 67 5 w)⟩⟩
  case round =>
    clear HH
    obtain ⟨kk, acc, hkk, rfl, HE, HB, HI⟩ := hrel
    by_cases hlt : kk < l0.length
    · have hdrop := List.drop_eq_getElem_cons hlt
      have hE := HE.out
      rw [hdrop, linesGo] at hE
      have p1 : (0 : Int) ≤ (kk : Int) := by omega
      have p2 : (kk : Int) < (l0.length : Int) := by omega
      obtain ⟨ad, ead, hx0, hx1, hx2, hx3, hx4, hx5, hx6⟩ := at_T24 HR0.out (kk : Int) p1 p2
      cases ead
      have hrd : rd_T24 l0 (kk : Int) = l0[kk] := by simp [rd_T24, List.getD_eq_getElem?_getD, hlt]
      rw [hrd] at hx0 hx1 hx2 hx3 hx4 hx5 hx6
      simp only [Int.toNat_natCast] at hx0 hx1 hx2 hx3 hx4 hx5 hx6
      replace hx0 := (HB.out.cell (World.block_lt_of_cell? w _ hx0)).trans hx0
      replace hx1 := (HB.out.cell (World.block_lt_of_cell? w _ hx1)).trans hx1
      replace hx2 := (HB.out.cell (World.block_lt_of_cell? w _ hx2)).trans hx2
      replace hx3 := (HB.out.cell (World.block_lt_of_cell? w _ hx3)).trans hx3
      replace hx4 := (HB.out.cell (World.block_lt_of_cell? w _ hx4)).trans hx4
      replace hx5 := (HB.out.cell (World.block_lt_of_cell? w _ hx5)).trans hx5
      replace hx6 := (HB.out.cell (World.block_lt_of_cell? w _ hx6)).trans hx6
      have hBs := HB.out.size
      generalize l0[kk] = ev at hE hx0 hx1 hx2 hx3 hx4 hx5 hx6
      clear hdrop hrd HE
      by_cases hok : evOk ev.f0 ev.f2 ev.f3 ev.f4 ev.f5 ev.f6 = true
      · rw [if_pos hok] at hE
        obtain ⟨s, hs, hE⟩ := Option.bind_eq_some_iff.mp hE
        by_cases hz : acc.size + (s.size + 1) ≤ 140737488355328
        · rw [if_pos hz] at hE
          have HS := Aside0.mk hs
          have HE := Aside0.mk hE
          have HC := Aside0.mk (show note_Check.f ev.f0 ev.f1 ev.f2 ev.f3 ev.f4 ev.f5 ev.f6 = some true by unfold note_Check.f; rw [hok])
          have p3 : s.size + 1 ≤ 9223372036854775807 := by omega
          have HZ := Aside0.mk hz
          clear hs hE hok hz
          go_wp2_with (first
            | (go_at_call 9; refine (note_Check.calls _ _ _ _ _ _ _ true _ HC.out).mono ?_; rintro e w2 ⟨rfl, hd⟩; have q0 : w2.cell? ⟨wr.heap.size, 0, none⟩ = some (.int .i64 ev.f0) := (hd.cell (by simp)).trans (by simp); have q1 : w2.cell? ⟨wr.heap.size, 1, none⟩ = some (.int .u64 ev.f1) := (hd.cell (by simp)).trans (by simp); have q2 : w2.cell? ⟨wr.heap.size, 2, none⟩ = some (.int .i64 ev.f2) := (hd.cell (by simp)).trans (by simp); have q3 : w2.cell? ⟨wr.heap.size, 3, none⟩ = some (.int .i64 ev.f3) := (hd.cell (by simp)).trans (by simp); have q4 : w2.cell? ⟨wr.heap.size, 4, none⟩ = some (.int .i64 ev.f4) := (hd.cell (by simp)).trans (by simp); have q5 : w2.cell? ⟨wr.heap.size, 5, none⟩ = some (.int .i64 ev.f5) := (hd.cell (by simp)).trans (by simp); have q6 : w2.cell? ⟨wr.heap.size, 6, none⟩ = some (.int .i64 ev.f6) := (hd.cell (by simp)).trans (by simp); have HD2 := Aside0.mk (below_step (below_alloc (Below.refl _ wr) _) hd); clear hd)
            | (go_at_call 8; refine (note_Show.calls k _ _ _ _ _ _ _ s _ ⟨LaidW.below hM_.out (HB.out.trans (HD2.out.mono HB.out.size))⟩ HS.out).mono ?_; rintro e w3 ⟨rfl, hd⟩; have HD3 := Aside0.mk (below_step HD2.out hd); clear hd)
            | (go_at_call 39; refine (writeString_k w.heap.size w.heap.size _ _ _ (isBuilder_below HI.out HD3.out) (by have := HZ.out; rw [Lib.byteCells_length, ByteArray.size_append, show (⟨#[10]⟩ : ByteArray).size = 1 from rfl, data_length]; omega) (Nat.le_trans HB.out.size HD3.out.size)).mono ?_; rintro e w4 ⟨rfl, hi, hb, _⟩; have HI4 := Aside0.mk hi; have HB4 := Aside0.mk ((HB.out.trans (HD3.out.mono HB.out.size)).trans hb); clear hi hb))
          exact ⟨⟨kk + 1, _, by omega, by go_num, HE, HB4, ⟨by
            have h4 := HI4.out
            rw [Lib.strCells_eq, ← Lib.byteCells_append] at h4
            refine .inr ?_
            rw [show (acc ++ (s ++ (⟨#[10]⟩ : ByteArray))).data.toList = acc.data.toList ++ (s ++ (⟨#[10]⟩ : ByteArray)).data.toList by simp]
            exact h4⟩⟩, by simp [intOf]; omega⟩
        · rw [if_neg hz] at hE
          cases hE
      · rw [if_neg hok] at hE
        obtain ⟨rfl, rfl⟩ := Prod.mk.injEq _ _ _ _ ▸ Option.some.inj hE
        have HC := Aside0.mk (show note_Check.f ev.f0 ev.f1 ev.f2 ev.f3 ev.f4 ev.f5 ev.f6 = some false by unfold note_Check.f; rw [show evOk ev.f0 ev.f2 ev.f3 ev.f4 ev.f5 ev.f6 = false by simpa using hok])
        clear hE hok
        go_wp2_with (go_at_call 9; refine (note_Check.calls _ _ _ _ _ _ _ false _ HC.out).mono ?_; rintro e w2 ⟨rfl, hd⟩; have HD2 := Aside0.mk (below_step (below_alloc (Below.refl _ wr) _) hd); clear hd)
        go_ret2
        exact ⟨rfl, HB.out.trans (HD2.out.mono HB.out.size)⟩
    · have e : kk = l0.length := by omega
      subst e
      have hE := HE.out
      rw [List.drop_length, linesGo] at hE
      obtain ⟨rfl, rfl⟩ := Prod.mk.injEq _ _ _ _ ▸ Option.some.inj hE
      clear hE HE
      go_wp2_with (go_at_call 40; refine (Tryd.Builder_String_any_k w.heap.size w.heap.size acc.data.toList _ HI.out HB.out.size).mono ?_; rintro e w2 ⟨rfl, _, hb, _⟩; have HD2 := Aside0.mk hb; clear hb)
      go_ret2
      exact ⟨rfl, HB.out.trans HD2.out⟩
end Go.Proofs.YtpkmhepoeefgkaaDoor.Pr
