
/- Plain laws: what TargetSegments leans on, in one text. -/
import Derived.Test.YtbfbidifodcedaaDoorG4
import Derived.Test.YtbfbidifodcedaaDoorG5
import Derived.Test.YtbfbidifodcedaaDoorPr13
import Derived.Test.YtbfbidifodcedaaDoorPr5
import Derived.Test.YtbfbidifodcedaaDoorPr11
namespace Go.Proofs.YtbfbidifodcedaaDoor.Pr
open Go.RowKit Go.Proofs.YtbfbidifodcedaaDoorW.PrintWords Go.Proofs.YtbfbidifodcedaaDoorW.PrintLast
set_option linter.unusedVariables false
set_option linter.unusedSimpArgs false
abbrev Bs := List UInt8
theorem tl (s : ByteArray) : s.toList = s.data.toList := ByteArray.toList_eq s
theorem ba_ext {a b : ByteArray} (h : a.data.toList = b.data.toList) : a = b := by
  rw [← bsOf_of a, ← bsOf_of b, h]
theorem size_len (s : ByteArray) : s.size = s.data.toList.length := (data_length s).symm
theorem size_bsOf (l : Bs) : (bsOf l).size = l.length := by rw [size_len]; rfl
theorem extract_list (s : ByteArray) (a b : Nat) : (s.extract a b).data.toList = (s.data.toList.take b).drop a := by
  simp [List.drop_take]
theorem append_list (s t : ByteArray) : (s ++ t).data.toList = s.data.toList ++ t.data.toList := by simp
def lowC (c : UInt8) : UInt8 := if 65 ≤ c ∧ c ≤ 90 then c + 32 else c
def lowL (l : Bs) : Bs := l.map lowC
theorem strOfNums_bytes (l : Bs) : strOfNums (l.map fun b => (b.toNat : Int)) = bsOf l := by
  unfold strOfNums bsOf
  congr 1
  congr 1
  rw [List.map_map]
  conv => rhs; rw [← List.map_id l]
  apply List.map_congr_left
  intro b _
  simp
theorem lowI_lowC (c : UInt8) : lowI (c.toNat : Int) = ((lowC c).toNat : Int) := by
  unfold lowI lowC
  have hc := c.toNat_lt
  simp only [UInt8.le_iff_toNat_le, UInt8.toNat_ofNat]
  by_cases h : 65 ≤ c.toNat ∧ c.toNat ≤ 90
  · rw [if_pos (by omega), if_pos (by simpa using h)]
    simp [UInt8.toNat_add]
    omega
  · rw [if_neg (by omega), if_neg (by simpa using h)]
theorem lowS_eq (s : ByteArray) : lowS s = bsOf (lowL s.data.toList) := by
  unfold lowS lowL
  rw [← strOfNums_bytes]
  congr 1
  apply List.ext_getElem?
  intro i
  simp only [bytesOf, List.getElem?_mapIdx, List.getElem?_map]
  cases s.data.toList[i]? with
  | none => rfl
  | some c => simp [lowI_lowC]
theorem lower_f (s : ByteArray) (h : s.size ≤ 9223372036854775807) : octet_Lower.f s = some (bsOf (lowL s.data.toList)) := by
  unfold octet_Lower.f
  rw [if_pos h, lowS_eq]
theorem evSucc {α : Type} {g : Nat → Option α} {r : α} (h : Ev (fun k => g (k + 1)) r) : Ev g r := Ev.step (fun _ => rfl) h
theorem evEq {α : Type} {g : Nat → Option α} {r r' : α} (h : Ev g r) (e : r = r') : Ev g r' := e ▸ h
theorem evPos {α : Type} {c : Prop} [Decidable c] {g h : Nat → Option α} {r : α} (hc : c) (hg : Ev g r) : Ev (fun k => if c then g k else h k) r := by
  simp only [if_pos hc]
  exact hg
theorem evNeg {α : Type} {c : Prop} [Decidable c] {g h : Nat → Option α} {r : α} (hc : ¬ c) (hg : Ev h r) : Ev (fun k => if c then g k else h k) r := by
  simp only [if_neg hc]
  exact hg
theorem evBind {α β : Type} {a : Option α} {x : α} {f : Nat → α → Option β} {r : β} (h : a = some x) (k : Ev (fun n => f n x) r) : Ev (fun n => a.bind (f n)) r := by
  subst h
  exact k
theorem evIte {α : Type} {c : Prop} [Decidable c] {g h : Nat → Option α} {r s : α} (hp : c → Ev g r) (hn : ¬ c → Ev h s) : Ev (fun k => if c then g k else h k) (if c then r else s) := by
  by_cases hc : c
  · rw [if_pos hc]; exact evPos hc (hp hc)
  · rw [if_neg hc]; exact evNeg hc (hn hc)
def lowB (s : ByteArray) : ByteArray := bsOf (lowL s.data.toList)
theorem lowB_data (s : ByteArray) : (lowB s).data.toList = lowL s.data.toList := rfl
def flipD (t : Bool) (c : Int) : Int :=
  if 65 ≤ c ∧ c ≤ 90 then (if t then c + 32 else c)
  else if 97 ≤ c ∧ c ≤ 122 then (if t then c - 32 else c) else c
theorem flipD_all : ∀ t : Bool, ∀ n : Nat, n < 256 → lowC (UInt8.ofNat (flipD t (n : Int)).toNat) = lowC (UInt8.ofNat n) := by decide +kernel
theorem flip_lowC (b : Int) (i : Nat) (c : UInt8) : lowC (UInt8.ofNat (flipI b i (c.toNat : Int)).toNat) = lowC c := by
  have := flipD_all (b.toNat.testBit (i % 64)) c.toNat c.toNat_lt
  rw [UInt8.ofNat_toNat] at this
  exact this
theorem flip_lowL (s : ByteArray) (b : Int) : lowL (flipS s b).data.toList = lowL s.data.toList := by
  unfold flipS strOfNums lowL
  apply List.ext_getElem?
  intro i
  simp only [List.getElem?_map, List.getElem?_mapIdx, bytesOf]
  cases s.data.toList[i]? with
  | none => rfl
  | some c =>
    simp only [Option.map_some]
    rw [flip_lowC]
theorem flip_size (s : ByteArray) (b : Int) : (flipS s b).size = s.size := by
  have := congrArg List.length (flip_lowL s b)
  rwa [lowL, lowL, List.length_map, List.length_map, ← size_len, ← size_len] at this
theorem flip_f (s : ByteArray) (b : Int) (hs : s.size ≤ 9223372036854775807) (hb : (Lit.int .u64 b).wf = true) : lockkeeperlaw0_Flip.f s b = some (flipS s b) := by
  unfold lockkeeperlaw0_Flip.f
  have h : IntKind.u64.min ≤ b ∧ b ≤ IntKind.u64.max := by simpa [Lit.wf] using hb
  rw [show IntKind.u64.min = 0 from rfl, show IntKind.u64.max = 18446744073709551615 from rfl] at h
  rw [if_pos ⟨hs, by omega, by omega⟩]
theorem rdOf_get (l : List ByteArray) (i : Nat) (h : i < l.length) : rdOf ByteArray.empty l (i : Int) = l[i] := by
  simp [rdOf, List.getD_eq_getElem?_getD, h]
theorem low_f (a n : Int) (ha : (Lit.int .i64 a).wf = true) (h1 : 1 ≤ n) (h2 : n ≤ 9223372036854775807) : ∃ r, lockkeeperlaw0_Low.f a n = some r ∧ 0 ≤ r ∧ r < n := by
  have hn : IntKind.u64.wrap n = n := by
    rw [show IntKind.u64.wrap n = n % 18446744073709551616 by simp [IntKind.wrap, IntKind.bits, IntKind.signed]]
    omega
  have ha' : 0 ≤ IntKind.u64.wrap a := by
    rw [show IntKind.u64.wrap a = a % 18446744073709551616 by simp [IntKind.wrap, IntKind.bits, IntKind.signed]]
    omega
  unfold lockkeeperlaw0_Low.f
  rw [hn, if_neg (by omega)]
  have e : Int.tmod (IntKind.u64.wrap a) n = IntKind.u64.wrap a % n := Int.tmod_eq_emod_of_nonneg ha'
  have h3 : 0 ≤ IntKind.u64.wrap a % n := Int.emod_nonneg _ (by omega)
  have h4 : IntKind.u64.wrap a % n < n := Int.emod_lt_of_pos _ (by omega)
  refine ⟨IntKind.u64.wrap a % n, ?_, h3, h4⟩
  rw [e]
  congr 1
  unfold wrap64
  omega
def splitC (c : UInt8) : Bs → List Bs
  | [] => [[]]
  | b :: l => if b = c then [] :: splitC c l else match splitC c l with
    | [] => [[b]]
    | x :: xs => (b :: x) :: xs
theorem sp_index_at (p r : Bs) (c : UInt8) (h : c ∉ p) : Lib.indexByte (p ++ c :: r) c = (p.length : Int) := by
  induction p with
  | nil => simp [Lib.indexByte]
  | cons b p ih =>
    have hb : (b == c) = false := by
      simp only [beq_eq_false_iff_ne]
      intro e
      exact h (by simp [e])
    have := ih (fun hc => h (by simp [hc]))
    rw [List.cons_append, Lib.indexByte, hb, this]
    have h2 : (((p.length : Int)) == -1) = false := by
      simp only [beq_eq_false_iff_ne]
      omega
    rw [h2]
    simp
theorem sp_index_not (p : Bs) (c : UInt8) (h : c ∉ p) : Lib.indexByte p c = -1 := by
  induction p with
  | nil => rfl
  | cons b p ih =>
    have hb : (b == c) = false := by
      simp only [beq_eq_false_iff_ne]
      intro e
      exact h (by simp [e])
    have := ih (fun hc => h (by simp [hc]))
    rw [Lib.indexByte, hb, this]
    simp
theorem splitC_not (c : UInt8) (l : Bs) (h : c ∉ l) : splitC c l = [l] := by
  induction l with
  | nil => rfl
  | cons b l ih =>
    have hb : ¬ b = c := fun e => h (by simp [e])
    rw [splitC, if_neg hb, ih (fun hc => h (by simp [hc]))]
theorem splitC_at (c : UInt8) (p r : Bs) (h : c ∉ p) : splitC c (p ++ c :: r) = p :: splitC c r := by
  induction p with
  | nil => rw [List.nil_append, splitC, if_pos rfl]
  | cons b p ih =>
    have hb : ¬ b = c := fun e => h (by simp [e])
    rw [List.cons_append, splitC, if_neg hb, ih (fun hc => h (by simp [hc]))]
theorem splitC_ne (c : UInt8) (l : Bs) : splitC c l ≠ [] := by
  cases l with
  | nil => simp [splitC]
  | cons b l =>
    rw [splitC]
    split
    · simp
    · split <;> simp
theorem splitL_data (c : UInt8) : ∀ (k : Nat) (s : ByteArray), Lib.countB s ⟨#[c]⟩ = k → (Lib.splitB ⟨#[c]⟩ 0 k s).map (·.data.toList) = splitC c s.data.toList := by
  intro k
  induction k with
  | zero =>
    intro s hk
    by_cases hm : c ∈ s.data.toList
    · obtain ⟨p, r, e, hp⟩ := List.eq_append_cons_of_mem hm
      have hix : Lib.indexB s ⟨#[c]⟩ = ((p.length : Nat) : Int) := by
        refine (Lib.index_one _ _).trans ?_
        rw [e]
        exact sp_index_at p r c hp
      have := Lib.countB_hit s ⟨#[c]⟩ p.length (Nat.le_refl 1) hix
      omega
    · rw [splitC_not c _ hm]
      rfl
  | succ k ih =>
    intro s hk
    by_cases hm : c ∈ s.data.toList
    · obtain ⟨p, r, e, hp⟩ := List.eq_append_cons_of_mem hm
      have hix : Lib.indexB s ⟨#[c]⟩ = ((p.length : Nat) : Int) := by
        refine (Lib.index_one _ _).trans ?_
        rw [e]
        exact sp_index_at p r c hp
      have hc := Lib.countB_hit s ⟨#[c]⟩ p.length (Nat.le_refl 1) hix
      rw [Lib.splitB_hit _ _ _ s p.length hix, List.map_cons, ih _ (by omega), e, splitC_at c p r hp]
      have e1 : (s.extract 0 (p.length + 0)).data.toList = p := by
        rw [extract_list, e]
        simp
      have e2 : (s.extract (p.length + (⟨#[c]⟩ : ByteArray).size) s.size).data.toList = r := by
        have hz : s.size = (p ++ c :: r).length := by rw [size_len, e]
        rw [show (⟨#[c]⟩ : ByteArray).size = 1 from rfl, extract_list, e, hz, List.take_length]
        simp
      rw [e1, e2]
    · have hix : Lib.indexB s ⟨#[c]⟩ = -1 := (Lib.index_one _ _).trans (sp_index_not _ c hm)
      rw [Lib.splitB_miss _ _ _ s hix, splitC_not c _ hm]
      rfl
theorem split1_f (s : ByteArray) (c : UInt8) (h : s.size < 4294967281) : strings_Split.f s ⟨#[c]⟩ = some (splitL s ⟨#[c]⟩) := by
  unfold strings_Split.f
  rw [if_pos ⟨h, rfl⟩]
theorem splitL_bs (s : ByteArray) (c : UInt8) : splitL s ⟨#[c]⟩ = (splitC c s.data.toList).map bsOf := by
  have := splitL_data c _ s rfl
  have h2 := congrArg (List.map bsOf) this
  rw [List.map_map] at h2
  rw [← h2]
  simp [splitL, Function.comp_def, bsOf_of]
def dotV (s : Bs) : Int := if lowL s = ([46] : List UInt8) then 1 else if lowL s = ([37, 50, 101] : List UInt8) then 1 else if lowL s = ([46, 46] : List UInt8) then 2 else if lowL s = ([46, 37, 50, 101] : List UInt8) then 2 else if lowL s = ([37, 50, 101, 46] : List UInt8) then 2 else if lowL s = ([37, 50, 101, 37, 50, 101] : List UInt8) then 2 else 0
theorem dots_ev (x : ByteArray) (h : x.size ≤ 9223372036854775807) : Ev (fun k => target_dots.f k x) (dotV x.data.toList) := by
  have hj : ∀ b : Bool, Ev (fun k => target_dots.j0 k (lowB x) b) (if b = true then 1 else if lowL x.data.toList = ([46, 46] : List UInt8) then 2 else if lowL x.data.toList = ([46, 37, 50, 101] : List UInt8) then 2 else if lowL x.data.toList = ([37, 50, 101, 46] : List UInt8) then 2 else if lowL x.data.toList = ([37, 50, 101, 37, 50, 101] : List UInt8) then 2 else 0) := fun b => by
    refine evSucc ?_
    simp only [target_dots.j0, tl, lowB_data]
    exact evIte (fun _ => Ev.now _) fun _ => evIte (fun _ => Ev.now _) fun _ => evIte (fun _ => Ev.now _) fun _ => evIte (fun _ => Ev.now _) fun _ => evIte (fun _ => Ev.now _) fun _ => Ev.now _
  unfold target_dots.f
  refine evBind (lower_f x h) ?_
  show Ev (fun k => if (lowB x).toList = ([46] : List UInt8) then target_dots.j0 k (lowB x) ((lowB x).toList == ([46] : List UInt8)) else target_dots.j0 k (lowB x) ((lowB x).toList == ([37, 50, 101] : List UInt8))) _
  simp only [tl, lowB_data]
  unfold dotV
  by_cases h1 : lowL x.data.toList = ([46] : List UInt8)
  · rw [if_pos h1]
    refine evPos h1 ?_
    rw [h1]
    exact hj true
  · rw [if_neg h1]
    refine evNeg h1 ?_
    by_cases h2 : lowL x.data.toList = ([37, 50, 101] : List UInt8)
    · rw [if_pos h2, h2]
      exact hj true
    · rw [if_neg h2, show (lowL x.data.toList == ([37, 50, 101] : List UInt8)) = false by simpa using h2]
      exact hj false
theorem dotV_cases (s : Bs) : dotV s = 0 ∨ dotV s = 1 ∨ dotV s = 2 := by
  unfold dotV
  repeat' split
  all_goals simp
theorem dotV_ne {s : Bs} (h : dotV s ≠ 0) : 1 ≤ s.length := by
  cases s with
  | nil => exact absurd (by decide) h
  | cons => simp
def stepK (K : List Bs) (s : Bs) : List Bs := if dotV s = 0 then K ++ [s] else if dotV s = 2 then K.dropLast else K
def endV (parts K : List Bs) : List Bs := if dotV (parts.getLastD []) > 0 then K ++ [[]] else K
def joinV (l : List Bs) : Bs := Lib.join l ([47] : List UInt8)
def trimV (p : Bs) : Bs := match p with
  | [] => []
  | c :: r => if c = 47 then r else c :: r
def keptV (p : Bs) : List Bs := endV (splitC 47 (trimV p)) ((splitC 47 (trimV p)).foldl stepK [])
def cleanV (p : Bs) : Bs := 47 :: joinV (keptV p)
theorem joinV_nil : joinV [] = [] := by simp [joinV, Lib.join, List.intercalate]
theorem joinV_one (a : Bs) : joinV [a] = a := by simp [joinV, Lib.join, List.intercalate, List.intersperse]
theorem joinV_cons (a b : Bs) (l : List Bs) : joinV (a :: b :: l) = a ++ 47 :: joinV (b :: l) := by simp [joinV, Lib.join, List.intercalate, List.intersperse]
def wtV (l : List Bs) : Nat := (l.map fun s => s.length + 1).sum
theorem wtV_append (a b : List Bs) : wtV (a ++ b) = wtV a + wtV b := by simp [wtV]
theorem wtV_cons (a : Bs) (b : List Bs) : wtV (a :: b) = a.length + 1 + wtV b := by simp [wtV]
theorem wtV_one (a : Bs) : wtV [a] = a.length + 1 := by simp [wtV]
theorem wtV_mem {l : List Bs} {s : Bs} (h : s ∈ l) : s.length + 1 ≤ wtV l := by
  induction l with
  | nil => cases h
  | cons a l ih =>
    rw [wtV_cons]
    rcases List.mem_cons.1 h with rfl | h
    · omega
    · have := ih h; omega
theorem wtV_length (l : List Bs) : l.length ≤ wtV l := by
  induction l with
  | nil => simp
  | cons a l ih => rw [wtV_cons, List.length_cons]; omega
theorem joinV_wt (l : List Bs) (h : l ≠ []) : (joinV l).length + 1 = wtV l := by
  induction l with
  | nil => exact absurd rfl h
  | cons a l ih =>
    cases l with
    | nil => rw [joinV_one, wtV_one]
    | cons b l =>
      have := ih (by simp)
      rw [joinV_cons, wtV_cons, List.length_append, List.length_cons]
      omega
theorem joinV_le (l : List Bs) : (joinV l).length ≤ wtV l := by
  cases l with
  | nil => rw [joinV_nil]; exact Nat.zero_le _
  | cons a l => have := joinV_wt (a :: l) (by simp); omega
theorem wtV_split (c : UInt8) (l : Bs) : wtV (splitC c l) = l.length + 1 := by
  induction l with
  | nil => rfl
  | cons b l ih =>
    rw [splitC]
    split
    · rw [wtV_cons, ih]; simp; omega
    · split
      · rename_i e; exact absurd e (splitC_ne c l)
      · rename_i x xs e
        rw [e, wtV_cons] at ih
        rw [wtV_cons, List.length_cons, List.length_cons]
        omega
theorem wtV_dropLast (l : List Bs) : wtV l.dropLast ≤ wtV l := by
  rcases List.eq_nil_or_concat l with rfl | ⟨a, b, rfl⟩
  · exact Nat.le_refl _
  · simp [wtV]
theorem wt_step (K : List Bs) (s : Bs) : wtV (stepK K s) ≤ wtV K + (s.length + 1) := by
  have := wtV_dropLast K
  unfold stepK
  split
  · rw [wtV_append, wtV_one]; omega
  · split <;> omega
theorem wt_fold (L : List Bs) : ∀ K, wtV (L.foldl stepK K) ≤ wtV K + wtV L := by
  induction L with
  | nil => intro K; simp [wtV]
  | cons s L ih =>
    intro K
    have h1 := ih (stepK K s)
    have h2 := wt_step K s
    rw [List.foldl_cons, wtV_cons]
    omega
theorem wt_step0 (K : List Bs) (s : Bs) (h : dotV s ≠ 0) : wtV (stepK K s) ≤ wtV K := by
  have := wtV_dropLast K
  unfold stepK
  rw [if_neg h]
  split <;> omega
theorem getLastD_append (P : List Bs) (x : Bs) : (P ++ [x]).getLastD [] = x := by simp
theorem wt_end (L : List Bs) (hL : L ≠ []) : wtV (endV L (L.foldl stepK [])) ≤ wtV L := by
  rcases List.eq_nil_or_concat L with rfl | ⟨P, x, rfl⟩
  · exact absurd rfl hL
  · rw [List.concat_eq_append]
    have h1 := wt_fold P []
    have h0 : wtV ([] : List Bs) = 0 := rfl
    unfold endV
    rw [getLastD_append, List.foldl_append, wtV_append, wtV_one, List.foldl_cons, List.foldl_nil]
    split
    · rename_i h
      have h2 := wt_step0 (P.foldl stepK []) x (by omega)
      have h3 := dotV_ne (s := x) (by omega)
      rw [wtV_append, wtV_one]
      simp only [List.length_nil]
      omega
    · have h2 := wt_step (P.foldl stepK []) x
      omega
theorem trimV_le (p : Bs) : (trimV p).length ≤ p.length := by
  unfold trimV
  split
  · exact Nat.le_refl _
  · split
    · rw [List.length_cons]; omega
    · exact Nat.le_refl _
theorem split_join (c : UInt8) (hc : c = 47) (E : List Bs) (h : E ≠ []) (hE : ∀ s ∈ E, c ∉ s) : splitC c (joinV E) = E := by
  subst hc
  induction E with
  | nil => exact absurd rfl h
  | cons a l ih =>
    cases l with
    | nil => rw [joinV_one, splitC_not _ _ (hE a (by simp))]
    | cons b l => rw [joinV_cons, splitC_at _ _ _ (hE a (by simp)), ih (by simp) fun x hx => hE x (by simp [hx])]
theorem end_ne (L : List Bs) (hL : L ≠ []) : endV L (L.foldl stepK []) ≠ [] := by
  rcases List.eq_nil_or_concat L with rfl | ⟨P, x, rfl⟩
  · exact absurd rfl hL
  · rw [List.concat_eq_append]
    unfold endV
    rw [getLastD_append]
    split
    · simp
    · rename_i h
      have h0 : dotV x = 0 := by rcases dotV_cases x with h | h | h <;> omega
      rw [List.foldl_append, List.foldl_cons, List.foldl_nil, stepK, if_pos h0]
      simp
theorem join_data (l : List Bs) : joinB (l.map bsOf) (⟨#[47]⟩ : ByteArray) = bsOf (joinV l) := by
  unfold joinB joinV
  rw [List.map_map]
  congr 1
  show Lib.join (l.map fun x => (bsOf x).data.toList) ([47] : List UInt8) = _
  simp [bsOf_data]
theorem join_evV (l : List Bs) (h : wtV l ≤ 100000) : strings_Join.f (l.map bsOf) (⟨#[47]⟩ : ByteArray) = some (bsOf (joinV l)) := by
  have h1 := wtV_length l
  have h2 := joinV_le l
  have h3 : (Lib.join ((l.map bsOf).map (·.data.toList)) ((⟨#[47]⟩ : ByteArray)).data.toList).length = (joinV l).length := by
    have := congrArg (fun s : ByteArray => s.data.toList.length) (join_data l)
    simpa [joinB, bsOf_data] using this
  unfold strings_Join.f
  rw [if_pos ⟨by rw [List.length_map]; omega, by rw [h3]; omega⟩, join_data]
theorem cleanl0_ev (L : List Bs) (hL : L ≠ []) (hw : wtV L ≤ 50000) : ∀ n i (K : List Bs), i + n = L.length → wtV K + wtV (L.drop i) ≤ 60000 →
    Ev (fun k => target_Clean.l0 k (L.map bsOf) (K.map bsOf) (L.map bsOf) (L.length : Int) (i : Int)) (bsOf (47 :: joinV (endV L ((L.drop i).foldl stepK K)))) := by
  have hl := wtV_length L
  intro n
  induction n with
  | zero =>
    intro i K hi hK
    rw [List.drop_of_length_le (by omega)] at hK ⊢
    rw [show wtV ([] : List Bs) = 0 from rfl] at hK
    have hpos : 0 < L.length := List.length_pos_iff.2 hL
    have e1 : wrap64 ((L.length : Int) - 1) = ((L.length - 1 : Nat) : Int) := by unfold wrap64; omega
    have hlt : L.length - 1 < L.length := by omega
    have hlt' : L.length - 1 < (L.map bsOf).length := by simpa using hlt
    have hm : (L.map bsOf).length = L.length := by simp
    have hlast : (L.map bsOf)[L.length - 1] = bsOf (L.getLastD []) := by
      rw [List.getElem_map]
      congr 1
      rw [List.getLastD_eq_getLast?, List.getLast?_eq_getElem?, List.getElem?_eq_getElem hlt]
      rfl
    have hmem : L.getLastD [] ∈ L := by
      rcases List.eq_nil_or_concat L with rfl | ⟨P, x, rfl⟩
      · exact absurd rfl hL
      · simp
    have hz := wtV_mem hmem
    have hd := dots_ev (bsOf (L.getLastD [])) (by rw [size_bsOf]; omega)
    rw [bsOf_data] at hd
    refine evSucc ?_
    simp only [target_Clean.l0, e1, List.foldl_nil, hm]
    rw [rdOf_get _ _ hlt', hlast]
    have hk := wtV_length K
    have hj := joinV_le K
    by_cases h0 : dotV (L.getLastD []) > 0
    · have hjoin := join_evV (K ++ [[]]) (by rw [wtV_append, wtV_one]; simp only [List.length_nil]; omega)
      have hj1 := joinV_le (K ++ [[]])
      rw [wtV_append, wtV_one, List.length_nil] at hj1
      rw [List.map_append] at hjoin
      unfold endV
      rw [if_pos h0]
      exact evNeg (by omega) (evPos (by omega) (evPos (by omega) (Ev.bind hd (evPos h0 (evPos (by rw [List.length_map]; omega) (evBind hjoin (evPos (by rw [size_bsOf]; omega) (evEq (Ev.now _) (ba_ext (by rw [append_list, bsOf_data, bsOf_data]; rfl)))))))))) 
    · have hjoin := join_evV K (by omega)
      unfold endV
      rw [if_neg h0]
      exact evNeg (by omega) (evPos (by omega) (evPos (by omega) (Ev.bind hd (evNeg h0 (evBind hjoin (evPos (by rw [size_bsOf]; omega) (evEq (Ev.now _) (ba_ext (by rw [append_list, bsOf_data, bsOf_data]; rfl)))))))))
  | succ n ih =>
    intro i K hi hK
    have hlt : i < L.length := by omega
    have hlt' : i < (L.map bsOf).length := by simpa using hlt
    have hm : (L.map bsOf).length = L.length := by simp
    have e2 : wrap64 ((i : Int) + 1) = ((i + 1 : Nat) : Int) := by unfold wrap64; omega
    rw [List.drop_eq_getElem_cons hlt, wtV_cons] at hK
    have hk := wtV_length K
    have eK : wrap64 ((K.length : Int) - 1) = (K.length : Int) - 1 := by unfold wrap64; omega
    have m0 : 0 ≤ mx ((K.length : Int) - 1) 0 ∧ mx ((K.length : Int) - 1) 0 ≤ (K.length : Int) := by unfold mx; split <;> omega
    have m1 : (mx ((K.length : Int) - 1) 0).toNat = K.length - 1 := by unfold mx; split <;> omega
    have hd := dots_ev (bsOf L[i]) (by rw [size_bsOf]; omega)
    rw [bsOf_data] at hd
    have hs := wt_step K L[i]
    have IH := ih (i + 1) (stepK K L[i]) (by omega) (by omega)
    rw [List.drop_eq_getElem_cons hlt, List.foldl_cons]
    have eK' : ((K.map bsOf).length : Int) = (K.length : Int) := by simp
    refine evSucc ?_
    simp only [target_Clean.l0, e2, eK', eK]
    rw [rdOf_get _ _ hlt', List.getElem_map, m1]
    unfold stepK at IH ⊢
    by_cases h0 : dotV L[i] = 0
    · rw [if_pos h0] at IH ⊢
      rw [List.map_append] at IH
      exact evPos (by omega) (evPos (by omega) (evPos (by omega) (Ev.bind hd (evPos h0 (evPos (by rw [List.length_map]; omega) IH)))))
    · rw [if_neg h0] at IH ⊢
      by_cases h2 : dotV L[i] = 2
      · rw [if_pos h2] at IH ⊢
        rw [List.map_dropLast, List.dropLast_eq_take, List.length_map] at IH
        exact evPos (by omega) (evPos (by omega) (evPos (by omega) (Ev.bind hd (evNeg h0 (evPos h2 (evPos m0.1 (evPos m0.2 IH)))))))
      · rw [if_neg h2] at IH ⊢
        exact evPos (by omega) (evPos (by omega) (evPos (by omega) (Ev.bind hd (evNeg h0 (evNeg h2 IH)))))
theorem prefix1_f (s : ByteArray) (c : UInt8) : stringslite_HasPrefix.f s ⟨#[c]⟩ = some (s.data.toList.head? == some c) := by
  unfold stringslite_HasPrefix.f
  have h1 : (⟨#[c]⟩ : ByteArray).size = 1 := rfl
  have hz := size_len s
  rw [h1]
  cases hs : s.data.toList with
  | nil =>
    rw [hs] at hz
    simp only [List.length_nil] at hz
    rw [if_neg (by omega)]
    rfl
  | cons b r =>
    rw [hs, List.length_cons] at hz
    rw [if_pos (by omega), if_pos (by omega), if_pos (by omega), tl, tl, extract_list, hs]
    show some ((b :: r).take 1 == [c]) = some (some b == some c)
    by_cases e : b = c
    · subst e; simp
    · rw [show ((b :: r).take 1 == [c]) = false by simpa using e, show (some b == some c) = false by simpa using e]
theorem trim_evV (s : ByteArray) : strings_TrimPrefix.f s (⟨#[47]⟩ : ByteArray) = some (bsOf (trimV s.data.toList)) := by
  unfold strings_TrimPrefix.f stringslite_TrimPrefix.f
  rw [prefix1_f]
  have h1 : ((⟨#[47]⟩ : ByteArray)).size = 1 := rfl
  have hz := size_len s
  rw [h1]
  cases hs : s.data.toList with
  | nil =>
    simp only [Option.bind_some]
    show some s = _
    rw [← bsOf_of s, hs]
    rfl
  | cons b r =>
    rw [hs, List.length_cons] at hz
    simp only [Option.bind_some]
    by_cases e : b = 47
    · subst e
      rw [if_pos (by simp), if_pos (by omega), if_pos (by omega)]
      show some (s.extract ((1 : Nat) : Int).toNat s.size) = some _
      refine congrArg some (ba_ext ?_)
      rw [extract_list, bsOf_data, hs, hz]
      simp [trimV]
    · rw [if_neg (by simpa using e)]
      show some s = _
      rw [← bsOf_of s, hs]
      simp [trimV, e]
theorem clean_ev (s : ByteArray) (h : s.size ≤ 20000) : Ev (fun k => target_Clean.f k s) (bsOf (cleanV s.data.toList)) := by
  have h0 := size_len s
  have h1 := trimV_le s.data.toList
  have h2 := wtV_split 47 (trimV s.data.toList)
  have := cleanl0_ev (splitC 47 (trimV s.data.toList)) (splitC_ne _ _) (by omega) _ 0 [] (Nat.zero_add _) (by simp only [List.drop_zero]; rw [show wtV ([] : List Bs) = 0 from rfl]; omega)
  unfold target_Clean.f
  refine evBind (trim_evV s) (evBind (split1_f _ 47 (by rw [size_bsOf]; omega)) ?_)
  rw [splitL_bs, bsOf_data]
  exact evEq (r := bsOf (47 :: joinV (endV (splitC 47 (trimV s.data.toList)) ((splitC 47 (trimV s.data.toList)).foldl stepK [])))) (by simpa using this) rfl
theorem awake4 : ∃ k, lockkeeperlaw4_awake.f k = some true := ⟨60, by decide +kernel⟩
theorem awake4_ev : Ev (fun k => lockkeeperlaw4_awake.f k) true := Ev.of lockkeeperlaw4_awake.mono awake4.choose_spec
def slashV (l : List Bs) : Bs := (l.map (fun s => 47 :: s)).flatten
theorem slashV_append (a b : List Bs) : slashV (a ++ b) = slashV a ++ slashV b := by simp [slashV]
theorem slashV_one (a : Bs) : slashV [a] = 47 :: a := by simp [slashV]
theorem slashV_join (l : List Bs) (h : l ≠ []) : slashV l = 47 :: joinV l := by
  induction l with
  | nil => exact absurd rfl h
  | cons a l ih =>
    cases l with
    | nil => rw [slashV_one, joinV_one]
    | cons b l =>
      rw [joinV_cons, ← ih (by simp)]
      simp [slashV]
theorem clean_slash (L : List Bs) (hL : L ≠ []) (h : ∀ s ∈ L, (47 : UInt8) ∉ s) : cleanV (slashV L) = slashV (endV L (L.foldl stepK [])) := by
  rw [slashV_join _ (end_ne L hL), slashV_join L hL]
  unfold cleanV keptV
  rw [show trimV (47 :: joinV L) = joinV L by simp [trimV], split_join 47 rfl L hL h]
end Go.Proofs.YtbfbidifodcedaaDoor.Pr
