
/- Contracts of strings.IndexRune (a text of ASCII bytes, a rune beyond), strings.IndexAny and ContainsAny (any text, at least two ASCII signs). -/
import Derived.Test.YtfmajangcbgooaaGreatDoorG2
import Derived.Laws.RangeAny
import Derived.Laws.Runes
import Derived.Lib.IndexAny
import Derived.Lib.OthersKept
import Derived.Shelf.Strings.IndexAnyAll
namespace Go.Proofs.YtfmajangcbgooaaGreatDoor.Pr
open Go.RowKit Go.Proofs.YtfmajangcbgooaaGreatDoorW.PrintWords Go.Proofs.YtfmajangcbgooaaGreatDoorW.PrintLast Go.Proofs.YtfmajangcbgooaaGreatDoorW.PrintMore
set_option linter.unusedVariables false
set_option linter.unusedSimpArgs false

theorem beyond_end (w : World) (s : ByteArray) (i : Nat) : Below w.heap.size w (w.iter s i) := (Below.refl _ _).alloc (Nat.le_refl _) _

set_option maxHeartbeats 8000000 in
set_option maxRecDepth 100000 in
theorem indexRune_err (s : ByteArray) (w : World) (hs : ∀ (j : Nat) b, s.data.toList[j]? = some b → b.toNat < 128) (hsz : s.size ≤ 4611686018427387904) :
    Calls Tryz.prog 137 #[.string s, .int .i32 65533] w fun e w' => e = .returned (.int .i64 (-1)) ∧ Below w.heap.size w w' := by
  have HA := Aside0.mk hs
  clear hs
  go_enter Tryz.func137, Tryz.ntmps137
  go_wp2
  go_loopg [5, 6] s.size (fun g _ _ wx => ∃ i : Nat, i + g = s.size ∧ wx = w.iter s i)
  case atStart => exact ⟨0, by omega, rfl⟩
  case round =>
    obtain ⟨i, hig, rfl⟩ := hrel
    cases gk with
    | zero =>
      obtain rfl : i = s.size := by omega
      have hnx := run_next_end (P := Tryz.prog) w s s.size
      go_wp2
      go_ret
      exact ⟨rfl, beyond_end w s _⟩
    | succ g =>
      have hi : i < s.size := by omega
      obtain ⟨x, hx⟩ : ∃ x : UInt8, s[i]'hi = x := ⟨_, rfl⟩
      have hxl : s.data.toList[i]? = some x := by rw [← hx]; exact Lib.data_getElem? s i hi
      have hx128 : x.toNat < 128 := HA.out i x hxl
      have hnx := fun ty => run_next_ascii (P := Tryz.prog) w s i ty hi (by rw [hx]; exact hx128)
      rw [hx] at hnx
      have hne : ((x.toNat : Int) == 65533) = false := beq_eq_false_iff_ne.2 (by omega)
      clear hxl hx
      go_wp2
      go_roundg g
      case measure => omega
      case rel => exact ⟨i + 1, by omega, rfl⟩

theorem quiet_again {P : Program} {f : FuncId} {args : Array Value} {w : World} {a n : Nat} {v : Value} (h : Calls P f args (w.drewN (a + n)) fun e w' => e = .returned v ∧ w' = w.drewN (a + n)) :
    Calls P f args (w.drewN (a + n)) fun e w'' => e = .returned v ∧ ∃ m, w'' = w.drewN (a + m) :=
  h.mono fun _ _ ⟨he, hm⟩ => ⟨he, n, hm⟩
theorem indexByte_none (l : List UInt8) (c : UInt8) (h : ∀ b ∈ l, b ≠ c) : Lib.indexByte l c = -1 := by
  induction l with
  | nil => rfl
  | cons b l ih =>
    unfold Lib.indexByte
    have h1 : (b == c) = false := by simpa using h b (by simp)
    rw [h1, ih (fun x hx => h x (by simp [hx]))]
    rfl
theorem indexByte_high (s : ByteArray) (y : UInt8) (m : Nat) (W : World) (hs : ∀ (j : Nat) b, s.data.toList[j]? = some b → b.toNat < 128) (hy : 128 ≤ y.toNat) :
    Calls Tryz.prog 141 #[.string (s.extract m s.size), .int .u8 (y.toNat : Int)] W fun e w' => e = .returned (.int .i64 (-1)) ∧ w' = W := by
  refine (Tryz.strings_IndexByte _ _ W).mono ?_
  rintro e w' ⟨rfl, rfl⟩
  refine ⟨?_, rfl⟩
  rw [indexByte_none]
  intro b hb e
  have h1 := mem_extract hb
  obtain ⟨i, hi, rfl⟩ := List.getElem_of_mem h1
  have := hs i _ (List.getElem?_eq_getElem hi)
  rw [e] at this
  simp at this
  omega

set_option maxHeartbeats 8000000 in
set_option maxRecDepth 100000 in
theorem indexRune_far (s : ByteArray) (r : Int) (w : World) (hs : ∀ (j : Nat) b, s.data.toList[j]? = some b → b.toNat < 128) (hsz : s.size ≤ 4611686018427387904) (h1 : 128 ≤ r) (h2 : r ≠ 65533) :
    Calls Tryz.prog 137 #[.string s, .int .i32 r] w fun e w' => e = .returned (.int .i64 (-1)) ∧ Below w.heap.size w w' := by
  have HA := Aside0.mk hs
  clear hs
  have b1 : decide (0 ≤ r) = true := decide_eq_true (by omega)
  have b2 : decide (r < 128) = false := decide_eq_false (by omega)
  have b3 : (r == 65533) = false := beq_eq_false_iff_ne.2 h2
  cases hv : Lib.validRune r with
  | false =>
    have HV := hid0 hv
    clear hv
    go_enter Tryz.func137, Tryz.ntmps137
    go_wp2_with (go_at_call 176; refine (Tryz.utf8_ValidRune _ _).mono ?_; rintro e w' ⟨rfl, hw⟩; rw [hw, HV.out])
    go_ret
    exact ⟨rfl, Below.refl _ _⟩
  | true =>
    have HV := hid0 hv
    have hv' : Utf8.valid r = true := by rw [validRune_eq]; exact hv
    obtain ⟨z1, z2, z3⟩ := encode_facts r hv' h1
    clear hv hv'
    obtain ⟨E, hE⟩ : ∃ E, Utf8.encode r = E := ⟨_, rfl⟩
    have hcv := fun (W : World) => run_convert_int_string (P := Tryz.prog) W 21 9 .i32 r (by kernel_rfl) Tryz.underlying9
    rw [hE] at z1 z2 z3 hcv
    have HE := hid0 hE
    clear hE
    obtain ⟨m, hm⟩ : ∃ m, E.size = m + 1 := ⟨E.size - 1, by omega⟩
    have hEi : (E.size : Int) = (m : Int) + 1 := by omega
    have hEl : m < E.size := by omega
    obtain ⟨y, hy⟩ : ∃ y : UInt8, E[m]'hEl = y := ⟨_, rfl⟩
    have hy128 : 128 ≤ y.toNat := by
      have h3 := z3 (by omega)
      simp only [hm, Nat.add_sub_cancel] at h3
      rw [← hy]
      exact h3
    clear z3
    go_enter Tryz.func137, Tryz.ntmps137
    go_wp2_with (go_at_call 176; refine (Tryz.utf8_ValidRune _ _).mono ?_; rintro e w' ⟨rfl, hw⟩; rw [hw, HV.out])
    go_step3
    go_wp2
    refine wp_loop_rounds 1 ?_
    rw [rounds_succ]
    have p0 : 0 ≤ (m : Int) := by omega
    have pE : (m : Int) < (m : Int) + 1 := by omega
    by_cases hlt : m < s.size
    · have hls : (m : Int) < (s.size : Int) := by omega
      have hls2 : (m : Int) + 1 ≤ (s.size : Int) := by omega
      have HIB := hid0 (fun W => indexByte_high s y (m + 1) W HA.out hy128)
      obtain ⟨x, hx⟩ : ∃ x : UInt8, s[m]'hlt = x := ⟨_, rfl⟩
      have hx128 : x.toNat < 128 := HA.out m x (by rw [← hx]; exact Lib.data_getElem? s m hlt)
      have hne : ((x.toNat : Int) != (y.toNat : Int)) = true := bne_iff_ne.2 (by omega)
      go_wp2
      go_step3
      go_wp2
      go_quiet (fail)
      go_wp2
      have s1 : IntKind.i64.wrap ((m : Int) + 1) = (m : Int) + 1 := wrap_small _ (by omega) (by omega)
      have s2 : 0 ≤ (m : Int) + 1 := by omega
      have s3 : ((m : Int) + 1).toNat = m + 1 := by omega
      go_quiet ((go_at_call 141; exact quiet_again (HIB.out _)))
      go_wp2
      rw [Exit.noGoto_ret]
      try go_wp2
      try rw [Exit.noGoto_ret]
      go_outline
      go_ret
      exact ⟨rfl, pw_below_drewN (Below.refl _ _) _⟩
    · go_wp2
      rw [Exit.noGoto_ret]
      try go_wp2
      try go_ret
      exact ⟨rfl, Below.refl _ _⟩

/-- The bytes that one decoding goes over, the first of them beyond ASCII, are all beyond ASCII. -/
theorem decode_over (s : ByteArray) (i : Nat) (h : i < s.size) (ha : 128 ≤ (s[i]'h).toNat) : i + (Utf8.decode s i).2 ≤ s.size ∧ ∀ j, j < (Utf8.decode s i).2 → ∀ b, s.data.toList[i + j]? = some b → 128 ≤ b.toNat := by
  have g : ∀ k, (hk : i + k < s.size) → s.get! (i + k) = s[i + k]'hk := fun k hk => by
    show s.get! (i + k) = _
    simp [ByteArray.get!, getElem!_pos, hk]
    rfl
  have d : ∀ k b, s.data.toList[i + k]? = some b → ∃ hk : i + k < s.size, s[i + k]'hk = b := fun k b hb => by
    have hk : i + k < s.size := by have := (List.getElem?_eq_some_iff.1 hb).1; rw [data_length] at this; exact this
    refine ⟨hk, ?_⟩
    have := Lib.data_getElem? s (i + k) hk
    rw [this] at hb
    exact Option.some.inj hb
  have c0 : ∀ b, s.data.toList[i + 0]? = some b → 128 ≤ b.toNat := fun b hb => by
    obtain ⟨_, rfl⟩ := d 0 b hb
    exact ha
  have ck : ∀ k, (decide (i + k < s.size) && ((s.get! (i + k)).toNat / 64 == 2)) = true → i + k < s.size ∧ ∀ b, s.data.toList[i + k]? = some b → 128 ≤ b.toNat := fun k hk => by
    simp only [Bool.and_eq_true, decide_eq_true_eq, beq_iff_eq] at hk
    refine ⟨hk.1, fun b hb => ?_⟩
    obtain ⟨hk', rfl⟩ := d k b hb
    have := hk.2
    rw [g k hk'] at this
    omega
  have one : i + 1 ≤ s.size ∧ ∀ j, j < 1 → ∀ b, s.data.toList[i + j]? = some b → 128 ≤ b.toNat := ⟨by omega, fun j hj b hb => by
    obtain rfl : j = 0 := by omega
    exact c0 b hb⟩
  have hn : ¬ (s.get! (i + 0)).toNat < 128 := by rw [g 0 h]; simpa using ha
  simp only [Utf8.decode, hn, if_false]
  split
  · rename_i h1
    obtain ⟨_, h1⟩ := Bool.and_eq_true_iff.1 h1
    have k1 := ck 1 h1
    split
    · refine ⟨by have := k1.1; dsimp only; omega, fun j hj b hb => ?_⟩
      match j, hj with
      | 0, _ => exact c0 b hb
      | 1, _ => exact k1.2 b hb
    · exact one
  · split
    · rename_i h1
      obtain ⟨h1, h2⟩ := Bool.and_eq_true_iff.1 h1
      obtain ⟨_, h1⟩ := Bool.and_eq_true_iff.1 h1
      have k1 := ck 1 h1
      have k2 := ck 2 h2
      split
      · refine ⟨by have := k2.1; dsimp only; omega, fun j hj b hb => ?_⟩
        match j, hj with
        | 0, _ => exact c0 b hb
        | 1, _ => exact k1.2 b hb
        | 2, _ => exact k2.2 b hb
      · exact one
    · split
      · rename_i h1
        obtain ⟨h1, h3⟩ := Bool.and_eq_true_iff.1 h1
        obtain ⟨h1, h2⟩ := Bool.and_eq_true_iff.1 h1
        obtain ⟨_, h1⟩ := Bool.and_eq_true_iff.1 h1
        have k1 := ck 1 h1
        have k2 := ck 2 h2
        have k3 := ck 3 h3
        split
        · refine ⟨by have := k3.1; dsimp only; omega, fun j hj b hb => ?_⟩
          match j, hj with
          | 0, _ => exact c0 b hb
          | 1, _ => exact k1.2 b hb
          | 2, _ => exact k2.2 b hb
          | 3, _ => exact k3.2 b hb
        · exact one
      · exact one

theorem noAny_over {s chars : List UInt8} {i n : Nat} (h : Lib.NoAny s chars i) (hc : ∀ (j : Nat) b, chars[j]? = some b → b.toNat < 128) (hn : ∀ j, j < n → ∀ b, s[i + j]? = some b → 128 ≤ b.toNat) : Lib.NoAny s chars (i + n) := by
  intro j b hj hb
  by_cases hi : j < i
  · exact h j b hi hb
  · have := hn (j - i) (by omega) b (by rw [show i + (j - i) = j by omega]; exact hb)
    cases hcb : chars.contains b with
    | false => rfl
    | true =>
      have hm := List.contains_iff_mem.1 hcb
      obtain ⟨q, hq, rfl⟩ := List.getElem_of_mem hm
      have := hc q _ (List.getElem?_eq_getElem hq)
      omega

/-- strings.IndexRune at a text of ASCII bytes and a rune beyond: it isn't there. -/
theorem indexRune_none (s : ByteArray) (r : Int) (w : World) (hs : ∀ (j : Nat) b, s.data.toList[j]? = some b → b.toNat < 128) (hsz : s.size ≤ 4611686018427387904) (h1 : 128 ≤ r) :
    Calls Tryz.prog 137 #[.string s, .int .i32 r] w fun e w' => e = .returned (.int .i64 (-1)) ∧ Below w.heap.size w w' := by
  by_cases h : r = 65533
  · subst h
    exact indexRune_err s w hs hsz
  · exact indexRune_far s r w hs hsz h1 h

set_option maxHeartbeats 8000000 in
set_option maxRecDepth 100000 in
theorem indexAny_short (s chars : ByteArray) (w : World) (h2 : 2 ≤ chars.size) (hc : chars.size ≤ 1000) (h8 : s.size ≤ 8) (hac : ∀ (j : Nat) b, chars.data.toList[j]? = some b → b.toNat < 128) :
    Calls Tryz.prog 91 #[.string s, .string chars] w fun e w' => e = .returned (.int .i64 (Lib.indexAny s.data.toList chars.data.toList)) ∧ Below w.heap.size w w' := by
  have HA := Aside0.mk hac
  clear hac
  have hemp : chars.toList.isEmpty = false := by
    rw [ByteArray.toList_eq]
    cases h : chars.data.toList with
    | nil => have := data_length chars; rw [h, List.length_nil] at this; omega
    | cons _ _ => rfl
  have hn1 : ((chars.size : Int) == 1) = false := beq_eq_false_iff_ne.2 (by omega)
  have h8z : decide ((8 : Int) < (s.size : Int)) = false := decide_eq_false (by omega)
  go_enter Tryz.func91, Tryz.ntmps91
  go_wp2_with (go_at_call 138; refine (Tryz.strings_shouldUseASCIISet _ _).mono ?_; rintro e w' ⟨rfl, hw⟩; rw [hw, h8z])
  go_loopg [9, 10] s.size (fun g _ _ wx => ∃ i : Nat, i + g = s.size ∧ Aside0 (wx.heap[w.heap.size]? = some (.stringIter s i)) ∧ Aside0 (Below w.heap.size w wx) ∧ Aside0 (Lib.NoAny s.data.toList chars.data.toList i))
  case atStart => exact ⟨0, by omega, ⟨World.iter_heap w s 0⟩, ⟨beyond_end w s 0⟩, ⟨Lib.NoAny.zero _ _⟩⟩
  case round =>
    obtain ⟨i, hig, HK, HB, HN⟩ := hrel
    cases gk with
    | zero =>
      obtain rfl : i = s.size := by omega
      have hnx := fun ty => Lib.run_next_end_at (P := Tryz.prog) wr w.heap.size s s.size ty HK.out (by omega)
      go_wp2
      go_ret
      exact ⟨by rw [Lib.indexAny_none (by rw [data_length]; exact HN.out)]; rfl, HB.out⟩
    | succ g =>
      have hi : i < s.size := by omega
      obtain ⟨x, hx⟩ : ∃ x : UInt8, s[i]'hi = x := ⟨_, rfl⟩
      have hxl : s.data.toList[i]? = some x := by rw [← hx]; exact Lib.data_getElem? s i hi
      by_cases hx128 : x.toNat < 128
      · have hnx := fun ty => Lib.run_next_ascii_at (P := Tryz.prog) wr w.heap.size s i ty HK.out hi (by rw [hx]; exact hx128)
        rw [hx] at hnx
        have HX := Aside0.mk hxl
        clear hxl hx
        have HK1 := Aside0.mk (Lib.iterAt_heap wr w.heap.size s i (i + 1) HK.out)
        have HB1 := Aside0.mk (Lib.below_iterAt HB.out (Nat.le_refl _) s (i + 1))
        have hcon := Lib.contains_iff_indexByte chars.data.toList x
        have hback : ((x.toNat : Int)).toNat.toUInt8 = x := by simp
        cases hin : chars.data.toList.contains x
        · rw [hin] at hcon
          have hlt : ¬ ((0 : Int) ≤ Lib.indexByte chars.data.toList x) := of_decide_eq_false hcon.symm
          clear hcon
          go_wp2_with (go_at_call 137; refine (Tryz.strings_IndexRune_ascii _ _ _ (by omega) (by omega)).mono ?_; rintro e w' ⟨rfl, hw⟩; rw [hw, hback])
          go_roundg g
          case measure => omega
          case rel => exact ⟨i + 1, by omega, HK1, HB1, ⟨HN.out.succ HX.out hin⟩⟩
        · rw [hin] at hcon
          have hge : (0 : Int) ≤ Lib.indexByte chars.data.toList x := of_decide_eq_true hcon.symm
          clear hcon
          go_wp2_with (go_at_call 137; refine (Tryz.strings_IndexRune_ascii _ _ _ (by omega) (by omega)).mono ?_; rintro e w' ⟨rfl, hw⟩; rw [hw, hback])
          go_ret
          exact ⟨by rw [Lib.indexAny_hit HN.out HX.out hin]; rfl, HB1.out⟩
      · have hdh := decode_high s i hi (by rw [hx]; omega)
        have hov := decode_over s i hi (by rw [hx]; omega)
        have hnx := fun ty => Lib.run_next_any_at (P := Tryz.prog) wr w.heap.size s i ty HK.out hi
        obtain ⟨r, n, hrn⟩ : ∃ r n, Utf8.decode s i = (r, n) := ⟨_, _, rfl⟩
        rw [hrn] at hnx hdh hov
        dsimp only at hnx hdh hov
        obtain ⟨hr128, hn1⟩ := hdh
        have HO := Aside0.mk hov
        have hin := hov.1
        clear hov hrn hxl hx
        have HK1 := Aside0.mk (Lib.iterAt_heap wr w.heap.size s i (i + n) HK.out)
        have HB1 := Aside0.mk (Lib.below_iterAt HB.out (Nat.le_refl _) s (i + n))
        have hlt1 : w.heap.size < (wr.iterAt w.heap.size s (i + n)).heap.size := (Array.getElem?_eq_some_iff.1 HK1.out).1
        have HL1 := Aside0.mk hlt1
        clear hlt1
        go_wp2_with (go_at_call 137; refine (indexRune_none _ _ _ HA.out (by omega) (by omega)).mono ?_; rintro e w2 ⟨rfl, hb2⟩; have HB2 := Aside0.mk hb2; clear hb2)
        go_roundg (s.size - (i + n))
        case measure => omega
        case rel => exact ⟨i + n, by omega, ⟨(HB2.out.block _ HL1.out).trans HK1.out⟩, ⟨below_then HB1.out (Nat.le_of_lt HL1.out) HB2.out⟩, ⟨noAny_over HN.out HA.out HO.out.2⟩⟩

theorem zero_set : (Tryz.prog.info? 146).map (fun i => (i.zero, i.size)) = some (some (.agg (Array.replicate 256 (.bool false))), 256) := by kernel_rfl
theorem indexAny_any (s chars : ByteArray) (w : World) (h2 : 2 ≤ chars.size) (hc : chars.size ≤ 1000) (hs : s.size < 4294967281) (hac : ∀ (j : Nat) b, chars.data.toList[j]? = some b → b.toNat < 128) :
    Calls Tryz.prog 91 #[.string s, .string chars] w fun e w' => e = .returned (.int .i64 (Lib.indexAny s.data.toList chars.data.toList)) ∧ Below w.heap.size w w' := by
  by_cases h8 : s.size ≤ 8
  · exact indexAny_short s chars w h2 hc h8 hac
  · refine (Tryz.strings_IndexAny_long (zero_of_info zero_set).1 s chars w h2 (by omega) hs (by omega) hac).mono fun e w' ⟨h1, h3⟩ => ⟨h1, ?_⟩
    rw [h3]
    exact ((Below.refl _ _).alloc (Nat.le_refl _) _).alloc (by simp) _

def ascii (s : ByteArray) : Bool := s.data.toList.all fun b => decide (b.toNat < 128)
theorem ascii_at {s : ByteArray} (h : ascii s = true) : ∀ (j : Nat) b, s.data.toList[j]? = some b → b.toNat < 128 := fun j b hb => by
  have := List.all_eq_true.1 h b (List.mem_of_getElem? hb)
  simpa using this
def strings_IndexAny.f (a0 a1 : ByteArray) : Option Int := if 2 ≤ a1.size ∧ a1.size ≤ 1000 ∧ a0.size < 4294967281 ∧ ascii a1 = true then some (Lib.indexAny a0.data.toList a1.data.toList) else none
theorem strings_IndexAny.calls (a0 a1 : ByteArray) (r : Int) (w : World) (h : strings_IndexAny.f a0 a1 = some r) :
    Calls Tryz.prog 91 #[.string a0, .string a1] w fun e w' => e = .returned (.int .i64 r) ∧ Below w.heap.size w w' := by
  unfold strings_IndexAny.f at h
  split at h
  case isFalse => cases h
  rename_i hc
  obtain rfl := Option.some.inj h
  exact indexAny_any a0 a1 w hc.1 hc.2.1 hc.2.2.1 (ascii_at hc.2.2.2)
def strings_ContainsAny.f (a0 a1 : ByteArray) : Option Bool := if 2 ≤ a1.size ∧ a1.size ≤ 1000 ∧ a0.size < 4294967281 ∧ ascii a1 = true then some (decide (0 ≤ Lib.indexAny a0.data.toList a1.data.toList)) else none
theorem strings_ContainsAny.calls (a0 a1 : ByteArray) (r : Bool) (w : World) (h : strings_ContainsAny.f a0 a1 = some r) :
    Calls Tryz.prog 184 #[.string a0, .string a1] w fun e w' => e = .returned (.bool r) ∧ Below w.heap.size w w' := by
  unfold strings_ContainsAny.f at h
  split at h
  case isFalse => cases h
  rename_i hc
  obtain rfl := Option.some.inj h
  have hac := ascii_at hc.2.2.2
  obtain ⟨h1, h2, h3, _⟩ := hc
  have HA := Aside0.mk hac
  clear hac h
  go_enter Tryz.func184, Tryz.ntmps184
  go_wp2_with (go_at_call 91; refine (indexAny_any _ _ _ h1 h2 h3 HA.out).mono ?_; rintro e w2 ⟨rfl, hb2⟩; have HB2 := Aside0.mk hb2; clear hb2)
  go_ret
  exact ⟨rfl, HB2.out⟩
end Go.Proofs.YtfmajangcbgooaaGreatDoor.Pr
