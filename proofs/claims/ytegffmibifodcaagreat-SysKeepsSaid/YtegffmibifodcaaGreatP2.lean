import Derived.Test.YtegffmibifodcaaGreatP1
import Derived.Test.YtegffmibifodcaaGreatFc
/-
  TEXTS: whether a slash or a nought stands in a text.
-/
namespace Go.Proofs.YtegffmibifodcaaGreat
open Go.Ab
set_option linter.unusedVariables false
set_option linter.unusedSimpArgs false
set_option maxRecDepth 8000
set_option maxHeartbeats 400000


theorem if_and_t {α : Type} {p : Prop} [Decidable p] (a b : α) : (if True ∧ p then a else b) = if p then a else b := by
  by_cases h : p
  · rw [if_pos ⟨trivial, h⟩, if_pos h]
  · rw [if_neg (fun x => h x.2), if_neg h]
/-- Is a byte a slash or a nought? -/
def sl0 (c : UInt8) : Bool := decide (c = 47) || decide (c = 0)
def irF (r : Int) : Int := if r = 47 then 0 else if r = 0 then 1 else -1
theorem encS_facts {r : Int} (hv : Utf8.valid r = true) (h128 : 128 ≤ r) : 2 ≤ (encS r).length ∧ (encS r).length ≤ 4 ∧ 128 ≤ ((encS r).getD ((encS r).length - 1) 0).toNat := by
  obtain ⟨h1, h2, h3⟩ := encode_facts r hv h128
  have e : (encS r).length = (Utf8.encode r).size := Array.length_toList
  refine ⟨by omega, by omega, ?_⟩
  have hlt : (Utf8.encode r).size - 1 < (encS r).length := by omega
  have := h3 (by omega)
  rw [e, List.getD_eq_getElem?_getD, List.getElem?_eq_getElem hlt, Option.getD_some]
  exact this
theorem ib_fin : ∀ r : Fin 128, Lib.indexByte [47, 0] (UInt8.ofNat r.val) = irF r.val := by decide +kernel
theorem ib_rune {r : Int} (h0 : 0 ≤ r) (h1 : r < 128) : Lib.indexByte [47, 0] (UInt8.ofNat r.toNat) = irF r := by
  have := ib_fin ⟨r.toNat, by omega⟩
  simp only [Int.toNat_of_nonneg h0] at this
  exact this
theorem u8_rune {r : Int} (h0 : 0 ≤ r) (h1 : r < 128) : ((UInt8.ofNat r.toNat).toNat : Int) = r := by simp; omega
theorem irF_high {r : Int} (h : 128 ≤ r) : irF r = -1 := by unfold irF; rw [if_neg (by omega), if_neg (by omega)]
theorem dec470 {pos : Nat} (h : pos < 2) : dec [47, 0] pos = (([47, 0] : List UInt8).getD pos 0 |>.toNat, 1) := dec_ascii h (by
  have : pos = 0 ∨ pos = 1 := by omega
  rcases this with rfl | rfl <;> decide)
theorem getD470 {pos : Nat} (h : pos < 2) : (([47, 0] : List UInt8).getD pos 0).toNat = 47 ∨ (([47, 0] : List UInt8).getD pos 0).toNat = 0 := by
  have : pos = 0 ∨ pos = 1 := by omega
  rcases this with rfl | rfl
  · exact .inl rfl
  · exact .inr rfl
/-- What is read as one letter above ASCII has no byte below. -/
theorem decode_span (s : ByteArray) (pos : Nat) (h : pos < s.size) (ha : 128 ≤ (s.get! (pos + 0)).toNat) : ∀ k, k < (Utf8.decode s pos).2 → pos + k < s.size ∧ 128 ≤ (s.get! (pos + k)).toNat := by
  have hn : ¬ (s.get! (pos + 0)).toNat < 128 := by omega
  simp only [Utf8.decode, hn, if_false]
  intro k hk
  have h0 : pos + 0 < s.size ∧ 128 ≤ (s.get! (pos + 0)).toNat := ⟨h, ha⟩
  repeat' split at hk
  all_goals simp only [Bool.and_eq_true, decide_eq_true_eq, beq_iff_eq] at *
  all_goals (
    have hc : k = 0 ∨ k = 1 ∨ k = 2 ∨ k = 3 := by omega
    rcases hc with rfl | rfl | rfl | rfl <;> first | exact h0 | (exfalso; omega) | (refine ⟨?_, ?_⟩ <;> omega))
theorem dec_span {l : List UInt8} {pos : Nat} (h : pos < l.length) (ha : 128 ≤ (l.getD pos 0).toNat) : ∀ k, k < (dec l pos).2 → pos + k < l.length ∧ 128 ≤ (l.getD (pos + k) 0).toNat := by
  have e : ∀ i, i < l.length → (⟨l.toArray⟩ : ByteArray).get! i = l.getD i 0 := fun i hi => by
    simp [ByteArray.get!, List.getD_eq_getElem?_getD, hi]
  intro k hk
  have := decode_span ⟨l.toArray⟩ pos (by simpa [ByteArray.size] using h) (by rw [e _ (by omega)]; exact ha) k hk
  have hl : pos + k < l.length := by simpa [ByteArray.size] using this.1
  exact ⟨hl, by rw [← e _ hl]; exact this.2⟩
theorem any_take_false {l : List UInt8} {n : Nat} (h : ∀ j, j < n → sl0 (l.getD j 0) = false) (hn : l.length ≤ n) : l.any sl0 = false := by
  rw [List.any_eq_false]
  intro c hc
  obtain ⟨j, hj, rfl⟩ := List.mem_iff_getElem.1 hc
  have := h j (by omega)
  simp [List.getD_eq_getElem?_getD, hj] at this
  simp [this]
theorem any_get_true {l : List UInt8} {j : Nat} (hj : j < l.length) (h : sl0 (l.getD j 0) = true) : l.any sl0 = true := by
  rw [List.any_eq_true]
  exact ⟨l.getD j 0, by simp [List.getD_eq_getElem?_getD, hj], h⟩
theorem sl0_high {c : UInt8} (h : 128 ≤ c.toNat) : sl0 c = false := by
  unfold sl0
  rw [decide_eq_false (by rintro rfl; exact absurd h (by decide)), decide_eq_false (by rintro rfl; exact absurd h (by decide))]; rfl
theorem irF_byte (c : UInt8) : decide (0 ≤ irF c.toNat) = sl0 c := by
  unfold irF sl0
  by_cases h1 : c = 47
  · subst h1; rfl
  · by_cases h2 : c = 0
    · subst h2; rfl
    · have e1 : ¬ ((c.toNat : Int) = 47) := fun h => h1 (UInt8.toNat_inj.1 (by have : c.toNat = 47 := (by omega); rw [this]; rfl))
      have e2 : ¬ ((c.toNat : Int) = 0) := fun h => h2 (UInt8.toNat_inj.1 (by have : c.toNat = 0 := (by omega); rw [this]; rfl))
      rw [if_neg e1, if_neg e2, decide_eq_false h1, decide_eq_false h2]; rfl
/-- At each step of a range over a text: is it a slash or a nought? -/
theorem ir_step {l : List UInt8} {pos : Nat} (h : pos < l.length) : decide (0 ≤ irF (dec l pos).1) = sl0 (l.getD pos 0) ∧ (sl0 (l.getD pos 0) = false → (pos + (dec l pos).2 ≤ l.length ∧ pos < pos + (dec l pos).2 ∧ ∀ j, pos ≤ j → j < pos + (dec l pos).2 → sl0 (l.getD j 0) = false)) := by
  by_cases ha : (l.getD pos 0).toNat < 128
  · rw [dec_ascii h ha]
    refine ⟨irF_byte _, fun hs => ⟨by dsimp only; omega, by dsimp only; omega, fun j h1 h2 => ?_⟩⟩
    dsimp only at h2
    rw [show j = pos by omega]; exact hs
  · obtain ⟨h1, h2⟩ := dec_high h (by omega)
    have hsp := dec_span h (by omega)
    refine ⟨?_, fun _ => ⟨?_, by omega, fun j hj hj' => ?_⟩⟩
    · rw [irF_high (by omega), sl0_high (by omega)]; rfl
    · have := (hsp ((dec l pos).2 - 1) (by omega)).1; omega
    · have := (hsp (j - pos) (by omega)).2
      rw [show pos + (j - pos) = j by omega] at this
      exact sl0_high this
/-- The set of ASCII's letters, as a row of booleans. -/
def as0 : List AV := List.replicate 256 (.bool false)
def as1 : List AV := as0.set 47 (.bool true)
def as2 : List AV := as1.set 0 (.bool true)
theorem azero_as : azero Tryz.prog 282 = some (.agg as0) := by kernel_rfl
theorem tk_as : tk Tryz.prog 282 = some (.agg 256) := by kernel_rfl
theorem as0_len : as0.length = 256 := List.length_replicate
theorem as1_len : as1.length = 256 := by rw [as1, List.length_set, as0_len]
theorem as2_len : as2.length = 256 := by rw [as2, List.length_set, as1_len]
theorem as0_take : as0.take 256 = as0 := List.take_of_length_le (by rw [as0_len]; omega)
theorem as2_take : as2.take 256 = as2 := List.take_of_length_le (by rw [as2_len]; omega)
theorem putAt_all {α : Type} : ∀ (v c : List α) (off : Nat), off + v.length = c.length → putAt c off v = c.take off ++ v
  | [], c, off, h => by
    show c = _
    rw [List.append_nil, List.take_of_length_le (by simp at h; omega)]
  | x :: v, c, off, h => by
    show putAt (c.set off x) (off + 1) v = _
    simp at h
    rw [putAt_all v _ _ (by simp; omega), List.take_succ_eq_append_getElem (by simp; omega)]
    simp [List.take_set_of_le]
theorem as_put (c : List AV) (hc : c.length = 256) : putAt c 0 as2 = as2 := by
  rw [putAt_all _ _ _ (by rw [as2_len, hc])]; rfl
theorem as_put0 : putAt as0 0 as2 = as2 := as_put _ as0_len
theorem as_put2 : putAt as2 0 as2 = as2 := as_put _ as2_len
theorem as2_er : AV.erL as2 = as2 := by kernel_rfl
theorem as2_get (c : UInt8) : as2[0 + c.toNat * 1]? = some (.bool (sl0 c)) := by
  have hc := c.toNat_lt
  rw [Nat.zero_add, Nat.mul_one]
  unfold as2 as1 as0 sl0
  rw [List.getElem?_set, List.getElem?_set, List.getElem?_replicate]
  by_cases h1 : c = 0
  · subst h1; rw [if_pos (by decide), if_pos (by rw [List.length_set, List.length_replicate]; omega)]; rfl
  · have e1 : ¬ 0 = c.toNat := fun h => h1 (UInt8.toNat_inj.1 h.symm)
    rw [if_neg e1]
    by_cases h2 : c = 47
    · subst h2; rw [if_pos (by decide), if_pos (by rw [List.length_replicate]; omega)]; rfl
    · have e2 : ¬ 47 = c.toNat := fun h => h2 (UInt8.toNat_inj.1 h.symm)
      rw [if_neg e2, if_pos (by omega), decide_eq_false h1, decide_eq_false h2]; rfl
theorem clL_as (n : Nat) (l : List AV) (h : ∀ x ∈ l, ∃ b, x = AV.bool b) : AV.clL n l := by
  rw [AV.clL_mem]; intro x hx; obtain ⟨b, rfl⟩ := h x hx; trivial
theorem as0_b : ∀ x ∈ as0, ∃ b, x = AV.bool b := fun x hx => ⟨false, (List.mem_replicate.1 hx).2⟩
theorem as1_b : ∀ x ∈ as1, ∃ b, x = AV.bool b := fun x hx => by
  rcases List.mem_or_eq_of_mem_set hx with h | h
  · exact as0_b x h
  · exact ⟨_, h⟩
theorem as2_b : ∀ x ∈ as2, ∃ b, x = AV.bool b := fun x hx => by
  rcases List.mem_or_eq_of_mem_set hx with h | h
  · exact as1_b x h
  · exact ⟨_, h⟩
def asI (i : Nat) : List AV := if i = 0 then as0 else if i = 1 then as1 else as2
theorem asI_len (i : Nat) : (asI i).length = 256 := by
  unfold asI; split
  · exact as0_len
  · split
    · exact as1_len
    · exact as2_len
theorem asI_cl (n i : Nat) : AV.clL n (asI i) := by
  unfold asI; split
  · exact clL_as _ _ as0_b
  · split
    · exact clL_as _ _ as1_b
    · exact clL_as _ _ as2_b
theorem asI_set {i : Nat} (h : i < 2) : (asI i).set (0 + (([47, 0] : List UInt8).getD i 0).toNat * 1) (.bool true) = asI (i + 1) := by
  have : i = 0 ∨ i = 1 := by omega
  rcases this with rfl | rfl <;> rfl

theorem c227 (n : Int) (h : List Blk) (live : List Nat) : ACalls Tryz.prog 227 [.int .i64 n] h live (ret (.bool (decide (8 < n))) h live) := by
  refine ab_ Tryz.func227 (hw := fun hH hX => ?_)
  have sx := sx0
  refine rg_ [0] ?_
  refine rg_ [2] ?_
  refine awp_ret (up_ ?_)
  refine fp_ Tryz.results227 (hK := ?_)
  exact ⟨rfl, rfl, rfl⟩

theorem c229 (k : Nat) (c : UInt8) (h : List Blk) (live : List Nat) (hk : h[k]? = some (.cells as2)) : ACalls Tryz.prog 229 [.ptr k 0, .int .u8 c.toNat] h live (ret (.bool (sl0 c)) h live) := by
  refine ab_ Tryz.func229 (hw := fun hH hX => ?_)
  have hc := c.toNat_lt
  have sx := (And.intro @hk (And.intro @as2_get sx0))
  refine rg_ [0, 1] ?_
  refine rg_ [4] ?_
  refine awp_ret (up_ ?_)
  refine fp_ Tryz.results229 (hK := ?_)
  exact ⟨rfl, rfl, rfl⟩

theorem c249 (r : Int) (h : List Blk) (live : List Nat) : ACalls Tryz.prog 249 [.int .i32 r] h live (ret (.bool (Utf8.valid r)) h live) := by
  refine ab_ Tryz.func249 (hw := fun hH hX => ?_)
  have sx := sx0
  refine rg_ [0] ?_
  refine sk_ fun K1 hK1 => ?_
  refine awp_block ?_
  refine rg_ [0, 3] ?_
  refine cd_ (ht := fun hb1 => ?_) (hf := fun hb1 => ?_)
  · refine rg_ [2] ?_
    refine awp_ret (up_ ?_)
    refine fp_ Tryz.results249 (hK := ?_)
    exact ⟨by rw [validRune_eq, validRune, decide_eq_true (by omega)], rfl, rfl⟩
  refine rg_ [10] ?_
  refine cd_ (ht := fun hb2 => ?_) (hf := fun hb2 => ?_)
  · refine rg_ [2] ?_
    refine awp_ret (up_ ?_)
    refine fp_ Tryz.results249 (hK := ?_)
    exact ⟨by rw [validRune_eq, validRune, decide_eq_true (by omega)], rfl, rfl⟩
  refine awp_skip (up_ ?_)
  refine hK1 _ ?_
  refine rg_ [2] ?_
  refine awp_ret (up_ ?_)
  refine fp_ Tryz.results249 (hK := ?_)
  exact ⟨by rw [validRune_eq, validRune, decide_eq_false (by omega)], rfl, rfl⟩


theorem asI_get : (47 : UInt8).toNat = 47 := rfl
theorem bytes470 (i : Nat) (h : i < 2) : (([47, 0] : List UInt8).getD i 0).toNat < 128 := by
  have : i = 0 ∨ i = 1 := by omega
  rcases this with rfl | rfl <;> decide
theorem asI_take (i : Nat) : (asI i).take 256 = asI i := List.take_of_length_le (by rw [asI_len]; omega)
theorem as_putI (i : Nat) : putAt (asI i) 0 (asI i) = asI i := by rw [putAt_all _ _ _ (by omega)]; rfl
theorem asI_2 : asI 2 = as2 := rfl
def nameF (s : List UInt8) : Bool := !decide (s = []) && decide ((s.length : Int) ≤ 12) && !decide (s = [46]) && !decide (s = [46, 46]) && !s.any sl0
def fitsF (s : List UInt8) : Bool := !decide (s = []) && decide ((s.length : Int) ≤ 64) && decide (Lib.indexByte s 0 < 0)

theorem c228 (h : List Blk) (live : List Nat) : ACalls Tryz.prog 228 [.str [47, 0]] h live (ret (.tup [.agg as2, .bool true]) h live) := by
  refine ab_ Tryz.func228 (hw := fun hH hX => ?_)
  have sx := (And.intro @azero_as (And.intro @tk_as (And.intro @asI_take (And.intro @as_putI (And.intro @asI_len (And.intro @asI_2 (And.intro @as2_take (And.intro @as_put2 (And.intro @if_and_t (And.intro @asI_set sx0))))))))))
  refine rg_ [0, 2] ?_
  refine sk_ fun K1 hK1 => ?_
  refine rg_ [0, 2, 4] ?_
  refine awp_block ?_
  refine awp_loop' (X := {i : Nat // i ≤ 2}) (fun x => ⟨Tryz.f228.ntmps, fget [(0, .str [47, 0]), (2, .ptr h.length 0), (4, .int .i64 (x.1 : Nat))], h ++ [.cells (asI x.1)], live⟩) (fun x => 2 - x.1) (⟨0, by omega⟩) ?_ (by first | rfl | (simp only [List.length_set]; done) | simp) (fun ⟨i, hi⟩ => ?_)
  · try dsimp only
    exact tf_ (HCl.snoc hH (asI_cl _ _)) (fun _ h => h)
  try dsimp only
  refine sk_ fun K2 hK2 => ?_
  refine rg_ [0, 2, 4, 9] ?_
  refine cb_ (ht := fun hb1 => ?_) (hf := fun hb1 => ?_)
  rotate_left
  · simp only [decide_eq_true_eq, decide_eq_false_iff_not, Bool.not_eq_true', Bool.not_eq_false', Bool.or_eq_true, Bool.and_eq_true, Bool.or_eq_false_iff, Bool.and_eq_false_imp, Int.not_lt, Int.not_le, push_cast] at hb1
    have hie : i = 2 := by omega
    subst hie
    refine awp_exit (up_ ?_)
    refine hK1 _ ?_
    refine rg_ [2, 3] ?_
    refine awp_ret (up_ ?_)
    refine fp_ Tryz.results228 (hx := by (simp only [atuple, AV.er, AV.erL, push_cast, as2_er, asI_2]) <;> rfl) (hcl := (by simp [AV.cl, AV.clL, clL_as _ _ as2_b])) (hK := ?_)
    exact ⟨rfl, rfl, rfl⟩
  simp only [decide_eq_true_eq, decide_eq_false_iff_not, Bool.not_eq_true', Bool.not_eq_false', Bool.or_eq_true, Bool.and_eq_true, Bool.or_eq_false_iff, Bool.and_eq_false_imp, Int.not_lt, Int.not_le, push_cast] at hb1
  have hil : i < 2 := by omega
  have h47 := bytes470 i hil
  refine awp_skip (up_ ?_)
  refine hK2 _ ?_
  refine sk_ fun K3 hK3 => ?_
  refine awp_block ?_
  refine rg_ [0, 2, 4, 5] ?_
  refine sk_ fun K4 hK4 => ?_
  refine rg_ [0, 2, 4, 5, 16] ?_
  refine cd_ (ht := fun hb2 => ?_) (hf := fun hb2 => ?_)
  · exfalso; omega
  refine awp_skip (up_ ?_)
  refine hK4 _ ?_
  refine rt_ [0, 2, 4] ?_
  refine sg_ ?_
  refine rn_ (up_ ?_)
  refine hK3 _ ?_
  refine rt_ [0, 2, 4] ?_
  refine sg_ ?_
  refine rn_ (up_ ?_)
  refine ⟨⟨i + 1, by omega⟩, ?_, (by first | rfl | trivial | (simp only [List.length_set]; done) | simp), by dsimp only; omega⟩
  try dsimp only
  exact tf_ (HCl.snoc hH (asI_cl _ _)) (fun _ h => h)

theorem c226 (r : Int) (h : List Blk) (live : List Nat) (h0 : 0 ≤ r) (h1 : r ≤ 2147483647) : ACalls Tryz.prog 226 [.str [47, 0], .int .i32 r] h live (ret (.int .i64 (irF r)) h live) := by
  refine ab_ Tryz.func226 (hw := fun hH hX => ?_)
  have hib : 0 ≤ r → r < 128 → ACalls Tryz.prog 132 [.str [47, 0], .int .u8 r] h live (ret (.int .i64 (irF r)) h live) := fun a b => by
    have := c132 [47, 0] (UInt8.ofNat r.toNat) h live
    rw [ib_rune a b, u8_rune a b] at this; exact this
  have sx := sx0
  refine rs_ [0, 1] ?_
  refine dawp_p rfl (by (simp (disch := omega) only [push_cast, ↓reduceIte, Nat.reduceEqDiff, Nat.reduceAdd, Nat.reduceLeDiff, sx, Int.reduceSub, Int.reduceToNat, Int.reduceAdd]) <;> rfl) rfl rfl ?_
  refine re_ (hf := by (simp (disch := omega) only [push_cast, ↓reduceIte, Nat.reduceEqDiff, Nat.reduceAdd, Nat.reduceLeDiff, sx, Int.reduceSub, Int.reduceToNat, Int.reduceAdd]) <;> rfl) (hh := by (try simp (disch := omega) only [push_cast, ↓reduceIte, Nat.reduceEqDiff, Nat.reduceAdd, Nat.reduceLeDiff, sx, Int.reduceSub, Int.reduceToNat, Int.reduceAdd]) <;> rfl) ?_
  refine awp_block ?_
  refine rs_ [0, 1, 160] ?_
  iterate 3 (refine dawp_p rfl (by (simp (disch := omega) only [push_cast, ↓reduceIte, Nat.reduceEqDiff, Nat.reduceAdd, Nat.reduceLeDiff, sx, Int.reduceSub, Int.reduceToNat, Int.reduceAdd]) <;> rfl) rfl rfl ?_)
  iterate 2 (refine dawp_g rfl rfl (by simp only [push_cast, ↓reduceIte, Nat.reduceEqDiff, Nat.reduceAdd, Nat.reduceLeDiff, sx, Int.reduceSub, Int.reduceToNat, Int.reduceAdd]; rfl) (fun hg => by simp (disch := omega) only [hg, push_cast, ↓reduceIte, Nat.reduceEqDiff, Nat.reduceAdd, Nat.reduceLeDiff, sx, Int.reduceSub, Int.reduceToNat, Int.reduceAdd]; rfl) rfl rfl ?_)
  iterate 2 (refine dawp_p rfl (by (simp (disch := omega) only [push_cast, ↓reduceIte, Nat.reduceEqDiff, Nat.reduceAdd, Nat.reduceLeDiff, sx, Int.reduceSub, Int.reduceToNat, Int.reduceAdd]) <;> rfl) rfl rfl ?_)
  refine re_ (hf := by (simp (disch := omega) only [push_cast, ↓reduceIte, Nat.reduceEqDiff, Nat.reduceAdd, Nat.reduceLeDiff, sx, Int.reduceSub, Int.reduceToNat, Int.reduceAdd]) <;> rfl) (hh := by (try simp (disch := omega) only [push_cast, ↓reduceIte, Nat.reduceEqDiff, Nat.reduceAdd, Nat.reduceLeDiff, sx, Int.reduceSub, Int.reduceToNat, Int.reduceAdd]) <;> rfl) ?_
  refine cd_ (hb := by (simp (disch := omega) only [push_cast, ↓reduceIte, Nat.reduceEqDiff, Nat.reduceAdd, Nat.reduceLeDiff, sx, Int.reduceSub, Int.reduceToNat, Int.reduceAdd]) <;> rfl) (ht := fun hb1 => ?_) (hf := fun hb1 => ?_)
  · refine rs_ [4] ?_
    iterate 3 (refine dawp_p rfl (by (simp (disch := omega) only [push_cast, ↓reduceIte, Nat.reduceEqDiff, Nat.reduceAdd, Nat.reduceLeDiff, sx, Int.reduceSub, Int.reduceToNat, Int.reduceAdd]) <;> rfl) rfl rfl ?_)
    refine dawp_w rfl rfl rfl rfl (AOp.callx _ _ _ rfl (by (simp (disch := omega) only [push_cast, ↓reduceIte, Nat.reduceEqDiff, Nat.reduceAdd, Nat.reduceLeDiff, sx, Int.reduceSub, Int.reduceToNat, Int.reduceAdd]) <;> rfl) (by (simp (disch := omega) only [push_cast, ↓reduceIte, Nat.reduceEqDiff, Nat.reduceAdd, Nat.reduceLeDiff, sx, Int.reduceSub, Int.reduceToNat, Int.reduceAdd]) <;> rfl) ?_)
    refine (hib hb1.1 hb1.2).mono ?_; rintro _ _ _ ⟨rfl, rfl, rfl⟩
    refine dawp_p rfl (by (simp (disch := omega) only [push_cast, ↓reduceIte, Nat.reduceEqDiff, Nat.reduceAdd, Nat.reduceLeDiff, sx, Int.reduceSub, Int.reduceToNat, Int.reduceAdd]) <;> rfl) rfl rfl ?_
    refine re_ (hf := by (simp (disch := omega) only [push_cast, ↓reduceIte, Nat.reduceEqDiff, Nat.reduceAdd, Nat.reduceLeDiff, sx, Int.reduceSub, Int.reduceToNat, Int.reduceAdd]) <;> rfl) (hh := by (try simp (disch := omega) only [push_cast, ↓reduceIte, Nat.reduceEqDiff, Nat.reduceAdd, Nat.reduceLeDiff, sx, Int.reduceSub, Int.reduceToNat, Int.reduceAdd]) <;> rfl) ?_
    refine awp_ret (up_ ?_)
    refine fp_ (hres := by (simp (disch := omega) only [aresults, aresult, push_cast, ↓reduceIte, Nat.reduceEqDiff, Nat.reduceAdd, Nat.reduceLeDiff, sx, Int.reduceSub, Int.reduceToNat, Int.reduceAdd]) <;> rfl) Tryz.results226 (hK := ?_)
    exact ⟨rfl, rfl, rfl⟩
  have hr : 128 ≤ r := by omega
  refine rs_ [0, 1, 171] ?_
  iterate 3 (refine dawp_p rfl (by (simp (disch := omega) only [push_cast, ↓reduceIte, Nat.reduceEqDiff, Nat.reduceAdd, Nat.reduceLeDiff, sx, Int.reduceSub, Int.reduceToNat, Int.reduceAdd]) <;> rfl) rfl rfl ?_)
  refine re_ (hf := by (simp (disch := omega) only [push_cast, ↓reduceIte, Nat.reduceEqDiff, Nat.reduceAdd, Nat.reduceLeDiff, sx, Int.reduceSub, Int.reduceToNat, Int.reduceAdd]) <;> rfl) (hh := by (try simp (disch := omega) only [push_cast, ↓reduceIte, Nat.reduceEqDiff, Nat.reduceAdd, Nat.reduceLeDiff, sx, Int.reduceSub, Int.reduceToNat, Int.reduceAdd]) <;> rfl) ?_
  refine cd_ (hb := by (simp (disch := omega) only [push_cast, ↓reduceIte, Nat.reduceEqDiff, Nat.reduceAdd, Nat.reduceLeDiff, sx, Int.reduceSub, Int.reduceToNat, Int.reduceAdd]) <;> rfl) (ht := fun hb2 => ?_) (hf := fun hb2 => ?_)
  · refine sk_ fun K1 hK1 => ?_
    refine rs_ [175] ?_
    refine dawp_p rfl (by (simp (disch := omega) only [push_cast, ↓reduceIte, Nat.reduceEqDiff, Nat.reduceAdd, Nat.reduceLeDiff, sx, Int.reduceSub, Int.reduceToNat, Int.reduceAdd]) <;> rfl) rfl rfl ?_
    refine dawp_w rfl rfl rfl rfl (AOp.rangeS _ _ rfl Ty.isStrT_9 (by (simp (disch := omega) only [push_cast, ↓reduceIte, Nat.reduceEqDiff, Nat.reduceAdd, Nat.reduceLeDiff, sx, Int.reduceSub, Int.reduceToNat, Int.reduceAdd]) <;> rfl) ?_)
    refine re_ (hf := by (simp (disch := omega) only [push_cast, ↓reduceIte, Nat.reduceEqDiff, Nat.reduceAdd, Nat.reduceLeDiff, sx, Int.reduceSub, Int.reduceToNat, Int.reduceAdd]) <;> rfl) (hh := by (try simp (disch := omega) only [push_cast, ↓reduceIte, Nat.reduceEqDiff, Nat.reduceAdd, Nat.reduceLeDiff, sx, Int.reduceSub, Int.reduceToNat, Int.reduceAdd]) <;> rfl) ?_
    refine awp_block ?_
    refine awp_loop' (X := {i : Nat // i ≤ 2}) (fun x => ⟨Tryz.f226.ntmps, fget [(175, .ptr h.length 0)], h ++ [.siter [47, 0] x.1], live⟩) (fun x => 2 - x.1) (⟨0, by omega⟩) ?_ (by first | rfl | (simp only [List.length_set]; done) | simp) (fun ⟨i, hi⟩ => ?_)
    · try dsimp only
      refine Trunc.of (by first | exact (List.append_nil _).symm | exact rfl | (rw [List.append_assoc]; rfl)) ?_ (HCl.snoc hH trivial) (fun _ h => h)
      refine FTr.cons (by first | rfl | ((simp (disch := omega) only [push_cast, ↓reduceIte, Nat.reduceEqDiff, Nat.reduceAdd, Nat.reduceLeDiff, sx, Int.reduceSub, Int.reduceToNat, Int.reduceAdd]) <;> rfl)) (by simp [AV.cl, AV.clL]) ?_
      exact FTr.nil
    try dsimp only
    refine rs_ [175, 176, 177] ?_
    refine dawp_w rfl rfl rfl rfl (AOp.nextS _ rfl (by (simp (disch := omega) only [push_cast, ↓reduceIte, Nat.reduceEqDiff, Nat.reduceAdd, Nat.reduceLeDiff, sx, Int.reduceSub, Int.reduceToNat, Int.reduceAdd]) <;> rfl) (by (simp (disch := omega) only [push_cast, ↓reduceIte, Nat.reduceEqDiff, Nat.reduceAdd, Nat.reduceLeDiff, sx, Int.reduceSub, Int.reduceToNat, Int.reduceAdd]) <;> rfl) ?_)
    refine dawp_p rfl (by (simp (disch := omega) only [push_cast, ↓reduceIte, Nat.reduceEqDiff, Nat.reduceAdd, Nat.reduceLeDiff, sx, Int.reduceSub, Int.reduceToNat, Int.reduceAdd]) <;> rfl) rfl rfl ?_
    refine re_ (hf := by (simp (disch := omega) only [push_cast, ↓reduceIte, Nat.reduceEqDiff, Nat.reduceAdd, Nat.reduceLeDiff, sx, Int.reduceSub, Int.reduceToNat, Int.reduceAdd]) <;> rfl) (hh := by (try simp (disch := omega) only [push_cast, ↓reduceIte, Nat.reduceEqDiff, Nat.reduceAdd, Nat.reduceLeDiff, sx, Int.reduceSub, Int.reduceToNat, Int.reduceAdd]) <;> rfl) ?_
    refine sk_ fun K2 hK2 => ?_
    refine cb_ (hb := by (simp (disch := omega) only [push_cast, ↓reduceIte, Nat.reduceEqDiff, Nat.reduceAdd, Nat.reduceLeDiff, sx, Int.reduceSub, Int.reduceToNat, Int.reduceAdd]) <;> rfl) (ht := fun hb3 => ?_) (hf := fun hb3 => ?_)
    rotate_left
    · simp only [hb3, nextV_f, cond_false]
      refine awp_exit (up_ ?_)
      refine hK1 _ ?_
      refine rs_ [4] ?_
      refine dawp_p rfl (by (simp (disch := omega) only [push_cast, ↓reduceIte, Nat.reduceEqDiff, Nat.reduceAdd, Nat.reduceLeDiff, sx, Int.reduceSub, Int.reduceToNat, Int.reduceAdd]) <;> rfl) rfl rfl ?_
      refine re_ (hf := by (simp (disch := omega) only [push_cast, ↓reduceIte, Nat.reduceEqDiff, Nat.reduceAdd, Nat.reduceLeDiff, sx, Int.reduceSub, Int.reduceToNat, Int.reduceAdd]) <;> rfl) (hh := by (try simp (disch := omega) only [push_cast, ↓reduceIte, Nat.reduceEqDiff, Nat.reduceAdd, Nat.reduceLeDiff, sx, Int.reduceSub, Int.reduceToNat, Int.reduceAdd]) <;> rfl) ?_
      refine awp_ret (up_ ?_)
      refine fp_ (hres := by (simp (disch := omega) only [aresults, aresult, push_cast, ↓reduceIte, Nat.reduceEqDiff, Nat.reduceAdd, Nat.reduceLeDiff, sx, Int.reduceSub, Int.reduceToNat, Int.reduceAdd]) <;> rfl) Tryz.results226 (hK := ?_)
      exact ⟨by rw [hb2]; rfl, rfl, rfl⟩
    simp only [hb3, nextV_t, cond_true]
    simp only [decide_eq_true_eq, decide_eq_false_iff_not, Bool.not_eq_true', Bool.not_eq_false', Bool.or_eq_true, Bool.and_eq_true, Bool.or_eq_false_iff, Bool.and_eq_false_imp, Int.not_lt, Int.not_le, push_cast] at hb3
    have hil : i < 2 := by omega
    have hdec := dec470 hil
    have hgd := getD470 hil
    rw [hdec]
    simp only []
    refine awp_skip (up_ ?_)
    refine hK2 _ ?_
    refine awp_block ?_
    refine rs_ [5, 6, 175] ?_
    iterate 4 (refine dawp_p rfl (by (simp (disch := omega) only [push_cast, ↓reduceIte, Nat.reduceEqDiff, Nat.reduceAdd, Nat.reduceLeDiff, sx, Int.reduceSub, Int.reduceToNat, Int.reduceAdd]) <;> rfl) rfl rfl ?_)
    refine re_ (hf := by (simp (disch := omega) only [push_cast, ↓reduceIte, Nat.reduceEqDiff, Nat.reduceAdd, Nat.reduceLeDiff, sx, Int.reduceSub, Int.reduceToNat, Int.reduceAdd]) <;> rfl) (hh := by (try simp (disch := omega) only [push_cast, ↓reduceIte, Nat.reduceEqDiff, Nat.reduceAdd, Nat.reduceLeDiff, sx, Int.reduceSub, Int.reduceToNat, Int.reduceAdd]) <;> rfl) ?_
    refine rs_ [5, 175, 181] ?_
    iterate 2 (refine dawp_p rfl (by (simp (disch := omega) only [push_cast, ↓reduceIte, Nat.reduceEqDiff, Nat.reduceAdd, Nat.reduceLeDiff, sx, Int.reduceSub, Int.reduceToNat, Int.reduceAdd]) <;> rfl) rfl rfl ?_)
    refine re_ (hf := by (simp (disch := omega) only [push_cast, ↓reduceIte, Nat.reduceEqDiff, Nat.reduceAdd, Nat.reduceLeDiff, sx, Int.reduceSub, Int.reduceToNat, Int.reduceAdd]) <;> rfl) (hh := by (try simp (disch := omega) only [push_cast, ↓reduceIte, Nat.reduceEqDiff, Nat.reduceAdd, Nat.reduceLeDiff, sx, Int.reduceSub, Int.reduceToNat, Int.reduceAdd]) <;> rfl) ?_
    refine cd_ (hb := by (simp (disch := omega) only [push_cast, ↓reduceIte, Nat.reduceEqDiff, Nat.reduceAdd, Nat.reduceLeDiff, sx, Int.reduceSub, Int.reduceToNat, Int.reduceAdd]) <;> rfl) (ht := fun hb4 => ?_) (hf := fun hb4 => ?_)
    · exfalso; omega
    refine awp_skip (up_ ?_)
    refine ⟨⟨i + 1, by omega⟩, ?_, (by first | rfl | trivial | (simp only [List.length_set]; done) | simp), by dsimp only; omega⟩
    try dsimp only
    refine Trunc.of (by first | exact (List.append_nil _).symm | exact rfl | (rw [List.append_assoc]; rfl)) ?_ (HCl.snoc hH trivial) (fun _ h => h)
    refine FTr.cons (by (simp (disch := omega) only [push_cast, ↓reduceIte, Nat.reduceEqDiff, Nat.reduceAdd, Nat.reduceLeDiff, sx, Int.reduceSub, Int.reduceToNat, Int.reduceAdd]) <;> first | rfl | (congr 2; omega)) (by simp [AV.cl, AV.clL]) ?_
    exact FTr.nil
  refine rs_ [0, 1, 183] ?_
  refine dawp_p rfl (by (simp (disch := omega) only [push_cast, ↓reduceIte, Nat.reduceEqDiff, Nat.reduceAdd, Nat.reduceLeDiff, sx, Int.reduceSub, Int.reduceToNat, Int.reduceAdd]) <;> rfl) rfl rfl ?_
  refine dawp_w rfl rfl rfl rfl (AOp.callx _ _ _ rfl (by (simp (disch := omega) only [push_cast, ↓reduceIte, Nat.reduceEqDiff, Nat.reduceAdd, Nat.reduceLeDiff, sx, Int.reduceSub, Int.reduceToNat, Int.reduceAdd]) <;> rfl) (by (simp (disch := omega) only [push_cast, ↓reduceIte, Nat.reduceEqDiff, Nat.reduceAdd, Nat.reduceLeDiff, sx, Int.reduceSub, Int.reduceToNat, Int.reduceAdd]) <;> rfl) ?_)
  refine (c249 _ _ _).mono ?_; rintro _ _ _ ⟨rfl, rfl, rfl⟩
  iterate 2 (refine dawp_p rfl (by (simp (disch := omega) only [push_cast, ↓reduceIte, Nat.reduceEqDiff, Nat.reduceAdd, Nat.reduceLeDiff, sx, Int.reduceSub, Int.reduceToNat, Int.reduceAdd]) <;> rfl) rfl rfl ?_)
  refine re_ (hf := by (simp (disch := omega) only [push_cast, ↓reduceIte, Nat.reduceEqDiff, Nat.reduceAdd, Nat.reduceLeDiff, sx, Int.reduceSub, Int.reduceToNat, Int.reduceAdd]) <;> rfl) (hh := by (try simp (disch := omega) only [push_cast, ↓reduceIte, Nat.reduceEqDiff, Nat.reduceAdd, Nat.reduceLeDiff, sx, Int.reduceSub, Int.reduceToNat, Int.reduceAdd]) <;> rfl) ?_
  refine cdn_ (hb := by (simp (disch := omega) only [push_cast, ↓reduceIte, Nat.reduceEqDiff, Nat.reduceAdd, Nat.reduceLeDiff, sx, Int.reduceSub, Int.reduceToNat, Int.reduceAdd]) <;> rfl) (ht := fun hb5 => ?_) (hf := fun hb5 => ?_)
  · refine rs_ [4] ?_
    refine dawp_p rfl (by (simp (disch := omega) only [push_cast, ↓reduceIte, Nat.reduceEqDiff, Nat.reduceAdd, Nat.reduceLeDiff, sx, Int.reduceSub, Int.reduceToNat, Int.reduceAdd]) <;> rfl) rfl rfl ?_
    refine re_ (hf := by (simp (disch := omega) only [push_cast, ↓reduceIte, Nat.reduceEqDiff, Nat.reduceAdd, Nat.reduceLeDiff, sx, Int.reduceSub, Int.reduceToNat, Int.reduceAdd]) <;> rfl) (hh := by (try simp (disch := omega) only [push_cast, ↓reduceIte, Nat.reduceEqDiff, Nat.reduceAdd, Nat.reduceLeDiff, sx, Int.reduceSub, Int.reduceToNat, Int.reduceAdd]) <;> rfl) ?_
    refine awp_ret (up_ ?_)
    refine fp_ (hres := by (simp (disch := omega) only [aresults, aresult, push_cast, ↓reduceIte, Nat.reduceEqDiff, Nat.reduceAdd, Nat.reduceLeDiff, sx, Int.reduceSub, Int.reduceToNat, Int.reduceAdd]) <;> rfl) Tryz.results226 (hK := ?_)
    exact ⟨by rw [irF_high hr], rfl, rfl⟩
  obtain ⟨hl1, hl2, hl3⟩ := encS_facts hb5 hr
  refine awp_scope ?_
  refine rs_ [0, 7] ?_
  iterate 3 (refine dawp_p rfl (by (simp (disch := omega) only [push_cast, ↓reduceIte, Nat.reduceEqDiff, Nat.reduceAdd, Nat.reduceLeDiff, sx, Int.reduceSub, Int.reduceToNat, Int.reduceAdd]) <;> rfl) rfl rfl ?_)
  refine re_ (hf := by (simp (disch := omega) only [push_cast, ↓reduceIte, Nat.reduceEqDiff, Nat.reduceAdd, Nat.reduceLeDiff, sx, Int.reduceSub, Int.reduceToNat, Int.reduceAdd]) <;> rfl) (hh := by (try simp (disch := omega) only [push_cast, ↓reduceIte, Nat.reduceEqDiff, Nat.reduceAdd, Nat.reduceLeDiff, sx, Int.reduceSub, Int.reduceToNat, Int.reduceAdd]) <;> rfl) ?_
  refine rs_ [0, 7, 8] ?_
  iterate 4 (refine dawp_p rfl (by (simp (disch := omega) only [push_cast, ↓reduceIte, Nat.reduceEqDiff, Nat.reduceAdd, Nat.reduceLeDiff, sx, Int.reduceSub, Int.reduceToNat, Int.reduceAdd]) <;> rfl) rfl rfl ?_)
  refine re_ (hf := by (simp (disch := omega) only [push_cast, ↓reduceIte, Nat.reduceEqDiff, Nat.reduceAdd, Nat.reduceLeDiff, sx, Int.reduceSub, Int.reduceToNat, Int.reduceAdd]) <;> rfl) (hh := by (try simp (disch := omega) only [push_cast, ↓reduceIte, Nat.reduceEqDiff, Nat.reduceAdd, Nat.reduceLeDiff, sx, Int.reduceSub, Int.reduceToNat, Int.reduceAdd]) <;> rfl) ?_
  refine rs_ [0, 7, 8, 9] ?_
  iterate 2 (refine dawp_p rfl (by (simp (disch := omega) only [push_cast, ↓reduceIte, Nat.reduceEqDiff, Nat.reduceAdd, Nat.reduceLeDiff, sx, Int.reduceSub, Int.reduceToNat, Int.reduceAdd]) <;> rfl) rfl rfl ?_)
  refine re_ (hf := by (simp (disch := omega) only [push_cast, ↓reduceIte, Nat.reduceEqDiff, Nat.reduceAdd, Nat.reduceLeDiff, sx, Int.reduceSub, Int.reduceToNat, Int.reduceAdd]) <;> rfl) (hh := by (try simp (disch := omega) only [push_cast, ↓reduceIte, Nat.reduceEqDiff, Nat.reduceAdd, Nat.reduceLeDiff, sx, Int.reduceSub, Int.reduceToNat, Int.reduceAdd]) <;> rfl) ?_
  refine rs_ [0, 7, 8, 9] ?_
  refine dawp_p rfl (by (simp (disch := omega) only [push_cast, ↓reduceIte, Nat.reduceEqDiff, Nat.reduceAdd, Nat.reduceLeDiff, sx, Int.reduceSub, Int.reduceToNat, Int.reduceAdd]) <;> rfl) rfl rfl ?_
  refine re_ (hf := by (simp (disch := omega) only [push_cast, ↓reduceIte, Nat.reduceEqDiff, Nat.reduceAdd, Nat.reduceLeDiff, sx, Int.reduceSub, Int.reduceToNat, Int.reduceAdd]) <;> rfl) (hh := by (try simp (disch := omega) only [push_cast, ↓reduceIte, Nat.reduceEqDiff, Nat.reduceAdd, Nat.reduceLeDiff, sx, Int.reduceSub, Int.reduceToNat, Int.reduceAdd]) <;> rfl) ?_
  refine sk_ fun K3 hK3 => ?_
  refine awp_block ?_
  refine awp_loop' (X := Unit) (fun x => ⟨Tryz.f226.ntmps, fget [(0, .str [47, 0]), (7, .str (encS r)), (8, .int .i64 (((encS r).length : Nat) - 1)), (9, .int .i64 (((encS r).length : Nat) - 1))], h, live⟩) (fun x => 0) (()) ?_ (by first | rfl | (simp only [List.length_set]; done) | simp) (fun x => ?_)
  · try dsimp only
    refine Trunc.same ?_ hH
    refine FTr.cons (by first | rfl | ((simp (disch := omega) only [push_cast, ↓reduceIte, Nat.reduceEqDiff, Nat.reduceAdd, Nat.reduceLeDiff, sx, Int.reduceSub, Int.reduceToNat, Int.reduceAdd]) <;> rfl)) (by simp [AV.cl, AV.clL, clL_str]) ?_
    refine FTr.cons (by first | rfl | ((simp (disch := omega) only [push_cast, ↓reduceIte, Nat.reduceEqDiff, Nat.reduceAdd, Nat.reduceLeDiff, sx, Int.reduceSub, Int.reduceToNat, Int.reduceAdd]) <;> rfl)) (by simp [AV.cl, AV.clL, clL_str]) ?_
    refine FTr.cons (by first | rfl | ((simp (disch := omega) only [push_cast, ↓reduceIte, Nat.reduceEqDiff, Nat.reduceAdd, Nat.reduceLeDiff, sx, Int.reduceSub, Int.reduceToNat, Int.reduceAdd]) <;> rfl)) (by simp [AV.cl, AV.clL, clL_str]) ?_
    refine FTr.cons (by first | rfl | ((simp (disch := omega) only [push_cast, ↓reduceIte, Nat.reduceEqDiff, Nat.reduceAdd, Nat.reduceLeDiff, sx, Int.reduceSub, Int.reduceToNat, Int.reduceAdd]) <;> rfl)) (by simp [AV.cl, AV.clL, clL_str]) ?_
    exact FTr.nil
  try dsimp only
  refine sk_ fun K4 hK4 => ?_
  refine rs_ [0, 7, 8, 9, 26] ?_
  iterate 4 (refine dawp_p rfl (by (simp (disch := omega) only [push_cast, ↓reduceIte, Nat.reduceEqDiff, Nat.reduceAdd, Nat.reduceLeDiff, sx, Int.reduceSub, Int.reduceToNat, Int.reduceAdd]) <;> rfl) rfl rfl ?_)
  refine re_ (hf := by (simp (disch := omega) only [push_cast, ↓reduceIte, Nat.reduceEqDiff, Nat.reduceAdd, Nat.reduceLeDiff, sx, Int.reduceSub, Int.reduceToNat, Int.reduceAdd]) <;> rfl) (hh := by (try simp (disch := omega) only [push_cast, ↓reduceIte, Nat.reduceEqDiff, Nat.reduceAdd, Nat.reduceLeDiff, sx, Int.reduceSub, Int.reduceToNat, Int.reduceAdd]) <;> rfl) ?_
  refine cdn_ (hb := by (simp (disch := omega) only [push_cast, ↓reduceIte, Nat.reduceEqDiff, Nat.reduceAdd, Nat.reduceLeDiff, sx, Int.reduceSub, Int.reduceToNat, Int.reduceAdd]) <;> rfl) (ht := fun hb6 => ?_) (hf := fun hb6 => ?_)
  rotate_left
  · refine awp_exit (up_ ?_)
    refine hK3 _ ?_
    refine sk_ fun K5 hK5 => ?_
    refine rs_ [4] ?_
    refine dawp_p rfl (by (simp (disch := omega) only [push_cast, ↓reduceIte, Nat.reduceEqDiff, Nat.reduceAdd, Nat.reduceLeDiff, sx, Int.reduceSub, Int.reduceToNat, Int.reduceAdd]) <;> rfl) rfl rfl ?_
    refine re_ (hf := by (simp (disch := omega) only [push_cast, ↓reduceIte, Nat.reduceEqDiff, Nat.reduceAdd, Nat.reduceLeDiff, sx, Int.reduceSub, Int.reduceToNat, Int.reduceAdd]) <;> rfl) (hh := by (try simp (disch := omega) only [push_cast, ↓reduceIte, Nat.reduceEqDiff, Nat.reduceAdd, Nat.reduceLeDiff, sx, Int.reduceSub, Int.reduceToNat, Int.reduceAdd]) <;> rfl) ?_
    refine awp_ret (up_ ?_)
    refine fp_ (hres := by (simp (disch := omega) only [aresults, aresult, push_cast, ↓reduceIte, Nat.reduceEqDiff, Nat.reduceAdd, Nat.reduceLeDiff, sx, Int.reduceSub, Int.reduceToNat, Int.reduceAdd]) <;> rfl) Tryz.results226 (hK := ?_)
    exact ⟨by rw [irF_high hr], rfl, rfl⟩
  simp only [decide_eq_true_eq, decide_eq_false_iff_not, Bool.not_eq_true', Bool.not_eq_false', Bool.or_eq_true, Bool.and_eq_true, Bool.or_eq_false_iff, Bool.and_eq_false_imp, Int.not_lt, Int.not_le, push_cast] at hb6
  have hl : (encS r).length = 2 := by omega
  simp only [hl]
  refine awp_skip (up_ ?_)
  refine hK4 _ ?_
  refine awp_block ?_
  refine awp_scope ?_
  refine sk_ fun K6 hK6 => ?_
  refine rsq_ [0, 7, 8, 9, 33] ⟨false, [], [], [], [], [], 0⟩ (fun _ => ⟨by kernel_rfl, by kernel_rfl⟩) ?_
  iterate 7 (refine dawp_p rfl (by (simp (disch := omega) only [push_cast, ↓reduceIte, Nat.reduceEqDiff, Nat.reduceAdd, Nat.reduceLeDiff, sx, Int.reduceSub, Int.reduceToNat, Int.reduceAdd]) <;> rfl) rfl rfl ?_)
  refine re_ (hf := by (simp (disch := omega) only [push_cast, ↓reduceIte, Nat.reduceEqDiff, Nat.reduceAdd, Nat.reduceLeDiff, sx, Int.reduceSub, Int.reduceToNat, Int.reduceAdd]) <;> rfl) (hh := by (try simp (disch := omega) only [push_cast, ↓reduceIte, Nat.reduceEqDiff, Nat.reduceAdd, Nat.reduceLeDiff, sx, Int.reduceSub, Int.reduceToNat, Int.reduceAdd]) <;> rfl) ?_
  refine cd_ (hb := by (simp (disch := omega) only [push_cast, ↓reduceIte, Nat.reduceEqDiff, Nat.reduceAdd, Nat.reduceLeDiff, sx, Int.reduceSub, Int.reduceToNat, Int.reduceAdd]) <;> rfl) (ht := fun hb7 => ?_) (hf := fun hb7 => ?_)
  rotate_left
  · exfalso; rw [hl] at hl3; change 128 ≤ ((encS r).getD 1 0).toNat at hl3; have : (([47, 0] : List UInt8).getD 1 0).toNat = 0 := rfl; omega
  refine rsq_ [0, 7, 8, 9, 11] ⟨false, [], [], [], [], [], 0⟩ (fun _ => ⟨by kernel_rfl, by kernel_rfl⟩) ?_
  iterate 7 (refine dawp_p rfl (by (simp (disch := omega) only [push_cast, ↓reduceIte, Nat.reduceEqDiff, Nat.reduceAdd, Nat.reduceLeDiff, sx, Int.reduceSub, Int.reduceToNat, Int.reduceAdd]) <;> rfl) rfl rfl ?_)
  refine dawp_w rfl rfl rfl rfl (AOp.callx _ _ _ rfl (by (simp (disch := omega) only [push_cast, ↓reduceIte, Nat.reduceEqDiff, Nat.reduceAdd, Nat.reduceLeDiff, sx, Int.reduceSub, Int.reduceToNat, Int.reduceAdd]) <;> rfl) (by (simp (disch := omega) only [push_cast, ↓reduceIte, Nat.reduceEqDiff, Nat.reduceAdd, Nat.reduceLeDiff, sx, Int.reduceSub, Int.reduceToNat, Int.reduceAdd]) <;> rfl) ?_)
  refine (c132 _ _ _ _).mono ?_; rintro _ _ _ ⟨rfl, rfl, rfl⟩
  refine dawp_p rfl (by (simp (disch := omega) only [push_cast, ↓reduceIte, Nat.reduceEqDiff, Nat.reduceAdd, Nat.reduceLeDiff, sx, Int.reduceSub, Int.reduceToNat, Int.reduceAdd]) <;> rfl) rfl rfl ?_
  refine re_ (hf := by (simp (disch := omega) only [push_cast, ↓reduceIte, Nat.reduceEqDiff, Nat.reduceAdd, Nat.reduceLeDiff, sx, Int.reduceSub, Int.reduceToNat, Int.reduceAdd]) <;> rfl) (hh := by (try simp (disch := omega) only [push_cast, ↓reduceIte, Nat.reduceEqDiff, Nat.reduceAdd, Nat.reduceLeDiff, sx, Int.reduceSub, Int.reduceToNat, Int.reduceAdd]) <;> rfl) ?_
  refine sk_ fun K7 hK7 => ?_
  refine rs_ [0, 7, 8, 9, 11, 43] ?_
  iterate 2 (refine dawp_p rfl (by (simp (disch := omega) only [push_cast, ↓reduceIte, Nat.reduceEqDiff, Nat.reduceAdd, Nat.reduceLeDiff, sx, Int.reduceSub, Int.reduceToNat, Int.reduceAdd]) <;> rfl) rfl rfl ?_)
  refine re_ (hf := by (simp (disch := omega) only [push_cast, ↓reduceIte, Nat.reduceEqDiff, Nat.reduceAdd, Nat.reduceLeDiff, sx, Int.reduceSub, Int.reduceToNat, Int.reduceAdd]) <;> rfl) (hh := by (try simp (disch := omega) only [push_cast, ↓reduceIte, Nat.reduceEqDiff, Nat.reduceAdd, Nat.reduceLeDiff, sx, Int.reduceSub, Int.reduceToNat, Int.reduceAdd]) <;> rfl) ?_
  refine cd_ (hb := by (simp (disch := omega) only [push_cast, ↓reduceIte, Nat.reduceEqDiff, Nat.reduceAdd, Nat.reduceLeDiff, sx, Int.reduceSub, Int.reduceToNat, Int.reduceAdd]) <;> rfl) (ht := fun hb8 => ?_) (hf := fun hb8 => ?_)
  · refine rs_ [4] ?_
    refine dawp_p rfl (by (simp (disch := omega) only [push_cast, ↓reduceIte, Nat.reduceEqDiff, Nat.reduceAdd, Nat.reduceLeDiff, sx, Int.reduceSub, Int.reduceToNat, Int.reduceAdd]) <;> rfl) rfl rfl ?_
    refine re_ (hf := by (simp (disch := omega) only [push_cast, ↓reduceIte, Nat.reduceEqDiff, Nat.reduceAdd, Nat.reduceLeDiff, sx, Int.reduceSub, Int.reduceToNat, Int.reduceAdd]) <;> rfl) (hh := by (try simp (disch := omega) only [push_cast, ↓reduceIte, Nat.reduceEqDiff, Nat.reduceAdd, Nat.reduceLeDiff, sx, Int.reduceSub, Int.reduceToNat, Int.reduceAdd]) <;> rfl) ?_
    refine awp_ret (up_ ?_)
    refine fp_ (hres := by (simp (disch := omega) only [aresults, aresult, push_cast, ↓reduceIte, Nat.reduceEqDiff, Nat.reduceAdd, Nat.reduceLeDiff, sx, Int.reduceSub, Int.reduceToNat, Int.reduceAdd]) <;> rfl) Tryz.results226 (hK := ?_)
    exact ⟨by rw [irF_high hr], rfl, rfl⟩
  exfalso; have : Lib.indexByte (List.take (2 - 2) ([] : List UInt8)) ((encS r).getD 1 0) = -1 := rfl; omega

theorem c204 (s : List UInt8) (h : List Blk) (live : List Nat) (hs : s.length ≤ 9223372036854775807) : ACalls Tryz.prog 204 [.str s, .str [47, 0]] h live (fun x h' l' => ∃ r : Int, x = .int .i64 r ∧ decide (0 ≤ r) = s.any sl0 ∧ h' = h ∧ l' = live) := by
  refine ab_ Tryz.func204 (hw := fun hH hX => ?_)
  have hno : s.any sl0 = false → decide ((0 : Int) ≤ -1) = s.any sl0 := fun e => by rw [e]; rfl
  have hyes : ∀ i : Nat, s.any sl0 = true → decide ((0 : Int) ≤ i) = s.any sl0 := fun i e => by rw [e]; exact decide_eq_true (Int.natCast_nonneg i)
  have sx := (And.intro @azero_as (And.intro @tk_as (And.intro @as_put0 (And.intro @as2_take sx0))))
  refine rg_ [0, 1] ?_
  refine sk_ fun K1 hK1 => ?_
  refine rg_ [0, 1, 12] ?_
  refine cdn_ (ht := fun hb1 => ?_) (hf := fun hb1 => ?_)
  · exfalso; simp at hb1
  refine awp_skip (up_ ?_)
  refine hK1 _ ?_
  refine sk_ fun K2 hK2 => ?_
  refine rg_ [0, 1, 15] ?_
  refine cdn_ (ht := fun hb2 => ?_) (hf := fun hb2 => ?_)
  · exfalso; simp at hb2
  refine awp_skip (up_ ?_)
  refine hK2 _ ?_
  refine sk_ fun K3 hK3 => ?_
  refine rs_ [0, 1, 26] ?_
  refine sg_ ?_
  refine cl_ (hc := c227 _ _ _) (k := ?_)
  refine re_ ?_
  refine cb_ (ht := fun hb4 => ?_) (hf := fun hb4 => ?_)
  · refine rs_ [0, 1, 6, 7] ?_
    refine sg_ ?_
    refine cl_ (hc := c228 _ _) (k := ?_)
    refine sg_ ?_
    refine re_ ?_
    refine rg_ [0, 1, 6, 32] ?_
    refine cb_ (ht := fun hb5 => ?_) (hf := fun hb5 => ?_)
    · refine sk_ fun K4 hK4 => ?_
      refine rg_ [0, 6, 8] ?_
      refine awp_block ?_
      refine awp_loop' (X := {i : Nat // i ≤ s.length ∧ ∀ j, j < i → sl0 (s.getD j 0) = false}) (fun x => ⟨Tryz.f204.ntmps, fget [(0, .str s), (6, .ptr h.length 0), (8, .int .i64 (x.1 : Nat))], h ++ [.cells as2], live⟩) (fun x => s.length - x.1) (⟨0, by omega, fun j hj => by omega⟩) ?_ (by first | rfl | (simp only [List.length_set]; done) | simp) (fun ⟨i, hi, hn⟩ => ?_)
      · try dsimp only
        exact tf_ (HCl.snoc hH (clL_as _ _ as2_b)) (fun _ h => h)
      try dsimp only
      refine sk_ fun K5 hK5 => ?_
      refine rg_ [0, 6, 8, 36] ?_
      refine cd_ (ht := fun hb6 => ?_) (hf := fun hb6 => ?_)
      rotate_left
      · have hf := hno (any_take_false hn (by omega))
        refine awp_exit (up_ ?_)
        refine hK4 _ ?_
        refine rg_ [4] ?_
        refine awp_ret (up_ ?_)
        refine fp_ Tryz.results204 (hK := ?_)
        first | exact ⟨_, rfl, hf, rfl, rfl⟩ | exact ⟨_, rfl, ht, rfl, rfl⟩
      have hil : i < s.length := by omega
      refine awp_skip (up_ ?_)
      refine hK5 _ ?_
      refine sk_ fun K6 hK6 => ?_
      refine awp_block ?_
      refine rs_ [0, 6, 8, 42] ?_
      refine sg_ ?_
      refine cl_ (hc := c229 _ (s.getD i 0) _ _ (by simp only [push_cast])) (k := ?_)
      refine re_ ?_
      refine cb_ (ht := fun hb7 => ?_) (hf := fun hb7 => ?_)
      · have ht := hyes i (any_get_true hil hb7)
        refine rg_ [4] ?_
        refine awp_ret (up_ ?_)
        refine fp_ Tryz.results204 (hK := ?_)
        first | exact ⟨_, rfl, hf, rfl, rfl⟩ | exact ⟨_, rfl, ht, rfl, rfl⟩
      refine awp_skip (up_ ?_)
      refine hK6 _ ?_
      refine rt_ [0, 6, 8] ?_
      refine sg_ ?_
      refine rn_ (up_ ?_)
      refine ⟨⟨i + 1, by omega, fun j hj => by rcases Nat.lt_succ_iff_lt_or_eq.1 hj with h | h; exact hn j h; subst h; exact hb7⟩, ?_, (by first | rfl | trivial | (simp only [List.length_set]; done) | simp), by dsimp only; omega⟩
      try dsimp only
      exact tf_ (HCl.snoc hH (clL_as _ _ as2_b)) (fun _ h => h)
    exfalso; simp at hb5
  refine awp_skip (up_ ?_)
  refine hK3 _ ?_
  refine sk_ fun K7 hK7 => ?_
  refine rs_ [1, 45] ?_
  refine sg_ ?_
  refine dawp_w rfl rfl rfl rfl (AOp.rangeS _ _ rfl Ty.isStrT_9 (by (simp (disch := omega) only [push_cast, ↓reduceIte, Nat.reduceEqDiff, Nat.reduceAdd, Nat.reduceLeDiff, sx]) <;> rfl) ?_)
  refine re_ ?_
  refine awp_block ?_
  refine awp_loop' (X := {i : Nat // i ≤ s.length ∧ ∀ j, j < i → sl0 (s.getD j 0) = false}) (fun x => ⟨Tryz.f204.ntmps, fget [(1, .str [47, 0]), (45, .ptr h.length 0)], h ++ [.siter s x.1], live⟩) (fun x => s.length - x.1) (⟨0, by omega, fun j hj => by omega⟩) ?_ (by first | rfl | (simp only [List.length_set]; done) | simp) (fun ⟨i, hi, hn⟩ => ?_)
  · try dsimp only
    exact tf_ (HCl.snoc hH trivial) (fun _ h => h)
  try dsimp only
  refine rs_ [1, 45, 46, 47] ?_
  refine dawp_w rfl rfl rfl rfl (AOp.nextS _ rfl (by (simp (disch := omega) only [push_cast, ↓reduceIte, Nat.reduceEqDiff, Nat.reduceAdd, Nat.reduceLeDiff, sx]) <;> rfl) (by (simp (disch := omega) only [push_cast, ↓reduceIte, Nat.reduceEqDiff, Nat.reduceAdd, Nat.reduceLeDiff, sx]) <;> rfl) ?_)
  refine sg_ ?_
  refine re_ ?_
  refine sk_ fun K8 hK8 => ?_
  refine cb_ (ht := fun hb8 => ?_) (hf := fun hb8 => ?_)
  rotate_left
  · simp only [hb8, nextV_f, cond_false]
    simp only [decide_eq_true_eq, decide_eq_false_iff_not, Bool.not_eq_true', Bool.not_eq_false', Bool.or_eq_true, Bool.and_eq_true, Bool.or_eq_false_iff, Bool.and_eq_false_imp, Int.not_lt, Int.not_le] at hb8
    have hf := hno (any_take_false hn (by omega))
    refine awp_exit (up_ ?_)
    refine hK7 _ ?_
    refine rg_ [4] ?_
    refine awp_ret (up_ ?_)
    refine fp_ Tryz.results204 (hK := ?_)
    first | exact ⟨_, rfl, hf, rfl, rfl⟩ | exact ⟨_, rfl, ht, rfl, rfl⟩
  simp only [hb8, nextV_t, cond_true]
  simp only [decide_eq_true_eq, decide_eq_false_iff_not, Bool.not_eq_true', Bool.not_eq_false', Bool.or_eq_true, Bool.and_eq_true, Bool.or_eq_false_iff, Bool.and_eq_false_imp, Int.not_lt, Int.not_le] at hb8
  have hil : i < s.length := by omega
  have hst := ir_step hil
  have hle := dec_le s i
  refine awp_skip (up_ ?_)
  refine hK8 _ ?_
  refine awp_block ?_
  refine rg_ [1, 9, 10, 45] ?_
  refine rs_ [1, 9, 45, 53] ?_
  refine sg_ ?_
  refine cl_ (hc := c226 _ _ _ (by omega) (by omega)) (k := ?_)
  refine sg_ ?_
  refine re_ ?_
  refine cb_ (ht := fun hb9 => ?_) (hf := fun hb9 => ?_)
  · rw [hst.1] at hb9
    have ht := hyes i (any_get_true hil hb9)
    refine rg_ [4] ?_
    refine awp_ret (up_ ?_)
    refine fp_ Tryz.results204 (hK := ?_)
    first | exact ⟨_, rfl, hf, rfl, rfl⟩ | exact ⟨_, rfl, ht, rfl, rfl⟩
  rw [hst.1] at hb9
  have hsl := hb9
  refine awp_skip (up_ ?_)
  refine ⟨⟨i + (dec s i).2, (hst.2 hsl).1, fun j hj => by by_cases hji : j < i; exact hn j hji; exact (hst.2 hsl).2.2 j (by omega) hj⟩, ?_, (by first | rfl | trivial | (simp only [List.length_set]; done) | simp), by have := (hst.2 hsl).2.1; have := (hst.2 hsl).1; dsimp only; omega⟩
  try dsimp only
  exact tf_ (HCl.snoc hH trivial) (fun _ h => h)

theorem c165 (s : List UInt8) (h : List Blk) (live : List Nat) (hs : s.length ≤ 9223372036854775807) : ACalls Tryz.prog 165 [.str s, .str [47, 0]] h live (ret (.bool (s.any sl0)) h live) := by
  refine ab_ Tryz.func165 (hw := fun hH hX => ?_)
  have sx := sx0
  refine rg_ [0, 1] ?_
  refine rs_ [4] ?_
  refine sg_ ?_
  refine ck_ (k := ?_)
  refine (c204 s _ _ hs).mono ?_; rintro _ _ _ ⟨r, rfl, hr, rfl, rfl⟩
  refine sg_ ?_
  refine re_ ?_
  refine awp_ret (up_ ?_)
  refine fp_ Tryz.results165 (hK := ?_)
  exact ⟨by rw [hr], rfl, rfl⟩

end Go.Proofs.YtegffmibifodcaaGreat

/-
  TABLES: nodes by themselves.
-/
namespace Go.Proofs.YtegffmibifodcaaGreat
open Go.Ab
set_option linter.unusedVariables false
set_option linter.unusedSimpArgs false
set_option maxRecDepth 8000
set_option maxHeartbeats 400000


def idB (n : Int) : Bool := decide (0 ≤ n) && decide (n ≤ 65535)
def badE (l : List En) (i : Nat) : Bool := !nameF (l.getD i ([], 0)).1 || decide ((l.getD i ([], 0)).2 < 1) || (decide (0 < (i : Int)) && !Op.bytesLess (l.getD ((i : Int) - 1).toNat ([], 0)).1 (l.getD i ([], 0)).1)
def risingF (l : List En) : Bool := !((List.range l.length).any (badE l)) && decide ((l.length : Int) ≤ 8)
def rightF (n : Nd) : Bool :=
  bif (decide (n.mode < 0) || decide (4095 < n.mode) || !idB n.uid || !idB n.gid) then false
  else if n.kind = 1 then decide ((n.ents.length : Int) = 0) && decide (n.target = []) && decide ((n.data.length : Int) ≤ 48)
  else if n.kind = 2 then decide ((n.data.length : Int) = 0) && decide (n.target = []) && risingF n.ents
  else if n.kind = 3 then decide ((n.data.length : Int) + n.ents.length = 0) && decide (n.mode = 511) && fitsF n.target
  else false
theorem anyR_t {p : Nat → Bool} {m n : Nat} (hm : m < n) (h : p m = true) : (List.range n).any p = true := List.any_eq_true.2 ⟨m, List.mem_range.2 hm, h⟩
theorem anyR_f {p : Nat → Bool} {n : Nat} (h : ∀ j, j < n → p j = false) : (List.range n).any p = false := List.any_eq_false.2 fun j hj => by simp [h j (List.mem_range.1 hj)]
theorem rightF_kind {n : Nd} (h : rightF n = true) : n.kind ≠ 0 := by
  intro h0
  unfold rightF at h
  rw [h0] at h
  cases hc : (decide (n.mode < 0) || decide (4095 < n.mode) || !idB n.uid || !idB n.gid) <;> rw [hc] at h <;> cases h
def eqS (s : List UInt8) (e : En) : Bool := decide (e.1 = s)
def gtS (s : List UInt8) (e : En) : Bool := !(Op.bytesLess e.1 s || decide (e.1 = s))

theorem c162 (n : Int) (h : List Blk) (live : List Nat) : ACalls Tryz.prog 162 [.int .i64 n] h live (ret (.bool (idB n)) h live) := by
  refine ab_ Tryz.func162 (hw := fun hH hX => ?_)
  have sx := sx0
  refine rg_ [0] ?_
  refine rg_ [2] ?_
  refine awp_ret (up_ ?_)
  refine fp_ Tryz.results162 (hK := ?_)
  exact ⟨rfl, rfl, rfl⟩

theorem c203 (s : List UInt8) (h : List Blk) (live : List Nat) (hs : s.length ≤ 9223372036854775807) : ACalls Tryz.prog 203 [.str s] h live (ret (.bool (nameF s)) h live) := by
  refine ab_ Tryz.func203 (hw := fun hH hX => ?_)
  have sx := sx0
  refine rg_ [0] ?_
  refine rs_ [2] ?_
  refine sg_ ?_
  refine cg_ (hc := fun hg => c165 s _ _ hs) (k := ?_)
  refine sg_ ?_
  refine re_ ?_
  refine awp_ret (up_ ?_)
  refine fp_ Tryz.results203 (hK := ?_)
  exact ⟨rfl, rfl, rfl⟩

theorem c164 (s : List UInt8) (h : List Blk) (live : List Nat) (hs : s.length ≤ 9223372036854775807) : ACalls Tryz.prog 164 [.str s] h live (ret (.bool (fitsF s)) h live) := by
  refine ab_ Tryz.func164 (hw := fun hH hX => ?_)
  have sx := sx0
  refine rg_ [0] ?_
  refine rs_ [2] ?_
  refine sg_ ?_
  refine cg_ (hc := fun hg => c132 s 0 _ _) (k := ?_)
  refine sg_ ?_
  refine re_ ?_
  refine awp_ret (up_ ?_)
  refine fp_ Tryz.results164 (hK := ?_)
  exact ⟨rfl, rfl, rfl⟩

theorem c163 (l : List En) (h : List Blk) (live : List Nat) (hl : l.length ≤ 1000000) (hn : ∀ e ∈ l, e.1.length ≤ 9223372036854775807) : ACalls Tryz.prog 163 [.slice (l.map eV) .none] h live (ret (.bool (risingF l)) h live) := by
  refine ab_ Tryz.func163 (hw := fun hH hX => ?_)
  have hnl : ∀ i, (l.getD i ([], 0)).1.length ≤ 9223372036854775807 := fun i => by
    by_cases h : i < l.length
    · rw [List.getD_eq_getElem?_getD, List.getElem?_eq_getElem h]; exact hn _ (List.getElem_mem h)
    · rw [List.getD_eq_getElem?_getD, List.getElem?_eq_none (by omega)]; exact Nat.zero_le _
  have sx := (And.intro @Bool.true_and sx0)
  refine rg_ [0] ?_
  refine sk_ fun K1 hK1 => ?_
  refine rg_ [0, 5, 6, 7] ?_
  refine awp_block ?_
  refine awp_loop' (X := {i : Nat // i ≤ l.length ∧ ∀ j, j < i → badE l j = false}) (fun x => ⟨Tryz.f163.ntmps, fget [(0, .slice (l.map eV) .none), (5, .slice (l.map eV) .none), (6, .int .i64 l.length), (7, .int .i64 (x.1 : Nat))], h, live⟩) (fun x => l.length - x.1) (⟨0, by omega, fun j hj => by omega⟩) ?_ (by first | rfl | (simp only [List.length_set]; done) | simp) (fun ⟨i, hi, hb⟩ => ?_)
  · try dsimp only
    exact tf_ hH (fun _ h => h)
  try dsimp only
  refine rg_ [0, 5, 6, 7, 8] ?_
  refine sk_ fun K2 hK2 => ?_
  refine cd_ (ht := fun hb1 => ?_) (hf := fun hb1 => ?_)
  rotate_left
  · have hie : i = l.length := by omega
    subst hie
    refine awp_exit (up_ ?_)
    refine hK1 _ ?_
    refine rg_ [2] ?_
    refine awp_ret (up_ ?_)
    refine fp_ Tryz.results163 (hK := ?_)
    exact ⟨by unfold risingF; rw [anyR_f hb]; rfl, rfl, rfl⟩
  have hil : i < l.length := by omega
  have hnli := hnl i
  refine awp_skip (up_ ?_)
  refine hK2 _ ?_
  refine sk_ fun K3 hK3 => ?_
  refine awp_block ?_
  refine rg_ [0, 3, 4, 5, 6, 7] ?_
  refine rsq_ [0, 5, 6, 7, 35] ⟨true, [], [], [], [], [], 0⟩ (fun _ => ⟨by kernel_rfl, by kernel_rfl⟩) ?_
  refine sg_ ?_
  refine cr_ (hc := c203 _ _ _ (by omega)) (k := ?_)
  refine sg_ ?_
  refine re_ ?_
  refine cb_ (ht := fun hb2 => ?_) (hf := fun hb2 => ?_)
  · have hbe : badE l i = true := hb2
    refine rg_ [2] ?_
    refine awp_ret (up_ ?_)
    refine fp_ Tryz.results163 (hK := ?_)
    exact ⟨by unfold risingF; rw [anyR_t hil hbe]; rfl, rfl, rfl⟩
  have hbe : badE l i = false := hb2
  refine awp_skip (up_ ?_)
  refine hK3 _ ?_
  refine rt_ [0, 5, 6, 7] ?_
  refine sg_ ?_
  refine rn_ (up_ ?_)
  refine ⟨⟨i + 1, by omega, fun j hj => by rcases Nat.lt_succ_iff_lt_or_eq.1 hj with h | h; exact hb j h; subst h; exact hbe⟩, ?_, (by first | rfl | trivial | (simp only [List.length_set]; done) | simp), by dsimp only; omega⟩
  try dsimp only
  exact tf_ hH (fun _ h => h)

theorem c110 (n : Nd) (h : List Blk) (live : List Nat) (ho : NdOk n) : ACalls Tryz.prog 110 [.agg (ndC n)] h live (ret (.bool (rightF n)) h live) := by
  refine ab_ Tryz.func110 (hw := fun hH hX => ?_)
  obtain ⟨ho1, ho2, ho3⟩ := ho
  have sx := sx0
  refine rg_ [1] ?_
  refine sk_ fun K1 hK1 => ?_
  refine rs_ [1, 22] ?_
  refine sg_ ?_
  refine cg_ (hc := fun hg => c162 _ _ _) (k := ?_)
  refine sg_ ?_
  refine cg_ (hc := fun hg => c162 _ _ _) (k := ?_)
  refine sg_ ?_
  refine re_ ?_
  refine cb_ (ht := fun hb1 => ?_) (hf := fun hb1 => ?_)
  · refine rg_ [2] ?_
    refine awp_ret (up_ ?_)
    refine fp_ Tryz.results110 (hK := ?_)
    exact ⟨by unfold rightF; rw [hb1]; rfl, rfl, rfl⟩
  refine awp_skip (up_ ?_)
  refine hK1 _ ?_
  refine sk_ fun K2 hK2 => ?_
  refine rg_ [1, 24] ?_
  refine awp_block ?_
  refine rg_ [1, 24, 25] ?_
  refine cd_ (ht := fun hb2 => ?_) (hf := fun hb2 => ?_)
  · refine rg_ [2] ?_
    refine awp_ret (up_ ?_)
    refine fp_ Tryz.results110 (hK := ?_)
    exact ⟨by unfold rightF; rw [hb1, cond_false, if_pos hb2], rfl, rfl⟩
  refine rg_ [1, 24, 42] ?_
  refine cd_ (ht := fun hb3 => ?_) (hf := fun hb3 => ?_)
  · refine rs_ [2] ?_
    refine sg_ ?_
    refine cg_ (hc := fun hg => c163 _ _ _ (by omega) (fun e he => Nat.le_trans (ho3.2 e he) (by decide))) (k := ?_)
    refine sg_ ?_
    refine re_ ?_
    refine awp_ret (up_ ?_)
    refine fp_ Tryz.results110 (hK := ?_)
    exact ⟨by unfold rightF; rw [hb1, cond_false, if_neg hb2, if_pos hb3], rfl, rfl⟩
  refine rg_ [1, 58] ?_
  refine cd_ (ht := fun hb4 => ?_) (hf := fun hb4 => ?_)
  · refine rs_ [2] ?_
    refine sg_ ?_
    refine cg_ (hc := fun hg => c164 _ _ _ (by omega)) (k := ?_)
    refine sg_ ?_
    refine re_ ?_
    refine awp_ret (up_ ?_)
    refine fp_ Tryz.results110 (hK := ?_)
    exact ⟨by unfold rightF; rw [hb1, cond_false, if_neg hb2, if_neg hb3, if_pos hb4], rfl, rfl⟩
  refine awp_skip (up_ ?_)
  refine hK2 _ ?_
  refine rg_ [2] ?_
  refine awp_ret (up_ ?_)
  refine fp_ Tryz.results110 (hK := ?_)
  exact ⟨by unfold rightF; rw [hb1, cond_false, if_neg hb2, if_neg hb3, if_neg hb4], rfl, rfl⟩

theorem c205 (b : Nat) (s : List UInt8) (e : En) (h : List Blk) (live : List Nat) (hb : h[b]? = some (.cells [.str s])) : ACalls Tryz.prog 205 (.agg [.str e.1, .int .i64 e.2] :: [.ptr b 0]) h live (ret (.bool (eqS s e)) h live) := by
  refine ab_ Tryz.func205 (hw := fun hH hX => ?_)
  have hbl := lt_of_get hb
  have hb' := fun g : List Blk => atApp (g := g) hb
  have sx := (And.intro @hb' (And.intro @hb sx0))
  refine rg_ [1, 2] ?_
  refine rg_ [3] ?_
  refine awp_ret (up_ ?_)
  refine fp_ Tryz.results205 (hK := ?_)
  exact ⟨rfl, rfl, rfl⟩

theorem c168 (b : Nat) (s : List UInt8) (e : En) (h : List Blk) (live : List Nat) (hb : h[b]? = some (.cells [.str s])) : ACalls Tryz.prog 168 (.agg [.str e.1, .int .i64 e.2] :: [.ptr b 0]) h live (ret (.bool (gtS s e)) h live) := by
  refine ab_ Tryz.func168 (hw := fun hH hX => ?_)
  have hbl := lt_of_get hb
  have hb' := fun g : List Blk => atApp (g := g) hb
  have sx := (And.intro @hb' (And.intro @hb sx0))
  refine rg_ [1, 2] ?_
  refine rg_ [3] ?_
  refine awp_ret (up_ ?_)
  refine fp_ Tryz.results168 (hK := ?_)
  exact ⟨rfl, rfl, rfl⟩

theorem c166 (n : Nd) (s : List UInt8) (h : List Blk) (live : List Nat) (ho : NdOk n) : ACalls Tryz.prog 166 [.agg (ndC n), .str s] h live (ret (.int .i64 (idxP (eqS s) n.ents)) h live) := by
  refine ab_ Tryz.func166 (hw := fun hH hX => ?_)
  obtain ⟨ho1, ho2, ho3⟩ := ho
  have sx := sx0
  refine rg_ [2, 3] ?_
  refine rs_ [4] ?_
  refine sg_ ?_
  refine cl_ (hc := c167 n.ents _ 205 [.ptr (h.length + 1) 0] (eqS s) _ _ (by omega) (fun e => c205 (h.length + 1) s e _ _ (by simp only [push_cast])) (by simp [AV.cl, AV.clL])) (k := ?_)
  refine sg_ ?_
  refine re_ ?_
  refine awp_ret (up_ ?_)
  refine fp_ Tryz.results166 (hK := ?_)
  exact ⟨rfl, rfl, rfl⟩


/-- A node with other entries. -/
def nWith (n : Nd) (l : List En) : Nd := ⟨n.kind, n.mode, n.uid, n.gid, n.data, l, n.target⟩
theorem putAt_eq {α : Type} : ∀ (v c : List α) (off : Nat), off + v.length ≤ c.length → putAt c off v = c.take off ++ v ++ c.drop (off + v.length)
  | [], c, off, h => by
    show c = _
    simp
  | x :: v, c, off, h => by
    show putAt (c.set off x) (off + 1) v = _
    simp at h
    rw [putAt_eq v _ _ (by simp; omega), List.take_succ_eq_append_getElem (by simp; omega)]
    simp [List.take_set_of_le, List.drop_set_of_lt, show off < off + 1 + v.length by omega, show off + 1 + v.length = off + (v.length + 1) by omega]
theorem flat_len (l : List En) : (flat (l.map eV)).length = l.length * 2 := by
  rw [flat_length (sz := 2) (cells_eV l), List.length_map]
theorem flat_app (a b : List AV) : flat (a ++ b) = flat a ++ flat b := by simp [flat]
/-- What three times was written one behind the other. -/
theorem put3 (A B C : List En) (c : List AV) (hc : (A.length + B.length + C.length) * 2 ≤ c.length) :
    (putAt (putAt (putAt c 0 (flat (A.map eV))) (A.length * 2) (flat (B.map eV))) ((A.length + B.length) * 2) (flat (C.map eV))).take ((A ++ B ++ C).length * 2) = flat ((A ++ B ++ C).map eV) := by
  have hA := flat_len A; have hB := flat_len B; have hC := flat_len C
  rw [putAt_eq (flat (A.map eV)) c 0 (by omega), List.take_zero, List.nil_append]
  have e1 : putAt (flat (A.map eV) ++ c.drop (0 + (flat (A.map eV)).length)) (A.length * 2) (flat (B.map eV)) = flat (A.map eV) ++ (flat (B.map eV) ++ (c.drop (A.length * 2)).drop (B.length * 2)) := by
    rw [show A.length * 2 = (flat (A.map eV)).length + 0 by omega, putAt_right, putAt_eq _ _ _ (by rw [List.length_drop]; omega)]
    simp [hA, hB]
  rw [e1]
  have e2 : putAt (flat (A.map eV) ++ (flat (B.map eV) ++ (c.drop (A.length * 2)).drop (B.length * 2))) ((A.length + B.length) * 2) (flat (C.map eV)) = (flat (A.map eV) ++ flat (B.map eV)) ++ (flat (C.map eV) ++ ((c.drop (A.length * 2)).drop (B.length * 2)).drop (C.length * 2)) := by
    rw [← List.append_assoc, show (A.length + B.length) * 2 = (flat (A.map eV) ++ flat (B.map eV)).length + 0 by simp; omega, putAt_right, putAt_eq _ _ _ (by rw [List.length_drop, List.length_drop]; omega)]
    simp [hC]
  rw [e2, List.map_append, List.map_append, flat_app, flat_app, ← List.append_assoc]
  exact List.take_left' (by simp; omega)
theorem put3_len (A B C : List En) (c : List AV) (hc : (A.length + B.length + C.length) * 2 ≤ c.length) :
    (putAt (putAt (putAt c 0 (flat (A.map eV))) (A.length * 2) (flat (B.map eV))) ((A.length + B.length) * 2) (flat (C.map eV))).length = c.length := by
  have hA := flat_len A; have hB := flat_len B; have hC := flat_len C
  have h : ∀ (v c : List AV) (off : Nat), (putAt c off v).length = c.length := fun v => by
    induction v with
    | nil => intro c off; rfl
    | cons x v ih => intro c off; show (putAt (c.set off x) (off + 1) v).length = _; rw [ih, List.length_set]
  rw [h, h, h]
theorem flat_el : ∀ (M : List En) (i : Nat) (h : i < M.length), AV.agg (((flat (M.map eV)).drop (i * 2)).take 2) = eV M[i]
  | x :: r, 0, _ => rfl
  | x :: r, i + 1, h => by
    have := flat_el r i (by simpa using h)
    rw [List.map_cons, show flat (eV x :: r.map eV) = [.str x.1, .int .i64 x.2] ++ flat (r.map eV) from rfl, show (i + 1) * 2 = 2 + i * 2 by omega, List.drop_append, List.drop_of_length_le (show 2 ≤ 2 + i * 2 by omega), List.nil_append]
    simpa using this
/-- What was frozen out of a block that begins with a list's cells. -/
theorem frozen (M : List En) (cs : List AV) (h : cs.take (M.length * 2) = flat (M.map eV)) : ((List.range M.length).map fun i => mkEl true ((cs.drop (0 + i * 2)).take 2)) = M.map eV := by
  refine List.ext_getElem (by simp) fun i h1 h2 => ?_
  simp only [List.length_map, List.length_range] at h1
  rw [List.getElem_map, List.getElem_map, List.getElem_range, Nat.zero_add]
  have e : (cs.drop (i * 2)).take 2 = ((cs.take (M.length * 2)).drop (i * 2)).take 2 := by
    rw [List.drop_take, List.take_take, Nat.min_eq_left (by omega)]
  show AV.agg _ = eV _
  rw [e, h]
  exact flat_el M i h1


theorem with_frz (n : Nd) (A B C : List En) (h : List Blk) (x y : Blk) (c : List AV) (cap : Nat) (hc : (A.length + B.length + C.length) * 2 ≤ c.length) (t : Nat) (ht : t = (A ++ B ++ C).length) (l1 l2 : Nat) (h1 : l1 = A.length * 2) (h2 : l2 = (A.length + B.length) * 2) :
    ((AV.agg [.int .i64 n.kind, .int .i64 n.mode, .int .i64 n.uid, .int .i64 n.gid, .slice (n.data.map bV) .none, .bsl (h.length + 2) 0 2 true t cap, .str n.target]).frz (h ++ [x, y, .cells (putAt (putAt (putAt c 0 (flat (A.map eV))) l1 (flat (B.map eV))) l2 (flat (C.map eV)))]) h.length).er = .agg (ndC (nWith n (A ++ B ++ C))) := by
  subst ht h1 h2
  have hl := put3_len A B C c hc
  have hg : (h ++ [x, y, Blk.cells (putAt (putAt (putAt c 0 (flat (A.map eV))) (A.length * 2) (flat (B.map eV))) ((A.length + B.length) * 2) (flat (C.map eV)))])[h.length + 2]? = some (.cells (putAt (putAt (putAt c 0 (flat (A.map eV))) (A.length * 2) (flat (B.map eV))) ((A.length + B.length) * 2) (flat (C.map eV)))) := by
    rw [List.getElem?_append_right (by omega), show h.length + 2 - h.length = 2 by omega]; rfl
  have hab : (A ++ B ++ C).length = A.length + B.length + C.length := by rw [List.length_append, List.length_append]
  simp only [AV.frz, AV.frzL]
  rw [if_pos (by omega), hg]
  simp only []
  rw [if_pos ⟨by rw [hl]; omega, by decide, .inl trivial⟩, frozen _ _ (put3 A B C c hc)]
  simp only [AV.er, AV.erL, erL_bV, erL_eV]
  rfl
theorem putAt_len : ∀ (v c : List AV) (off : Nat), (putAt c off v).length = c.length
  | [], _, _ => rfl
  | x :: v, c, off => by show (putAt (c.set off x) (off + 1) v).length = _; rw [putAt_len, List.length_set]
def rep2 (n : Nat) : List AV := rep n [.str [], .int .i64 0]
theorem rep2_len (n : Nat) : (rep2 n).length = n * 2 := rep_length _ _

theorem c169 (n : Nd) (a b : Nat) (m : List En) (c : Cap) (h : List Blk) (live : List Nat) (ho : NdOk n) (ha : a ≤ n.ents.length) (hb : b ≤ n.ents.length) (hm : m.length ≤ 1000) (hf : a + m.length ≤ b + 1) : ACalls Tryz.prog 169 [.agg (ndC n), .int .i64 (a : Int), .int .i64 (b : Int), .slice (m.map eV) c] h live (ret (.agg (ndC (nWith n (n.ents.take a ++ (m ++ n.ents.drop b))))) h live) := by
  refine ab_ Tryz.func169 (hw := fun hH hX => ?_)
  obtain ⟨ho1, ho2, ho3⟩ := ho
  have hmin : min n.ents.length a = a := Nat.min_eq_right ha
  have sx := (And.intro @hmin sx0)
  refine rs_ [1, 2, 3, 4, 8] ?_
  iterate 2 (refine dawp_h rfl (by (simp (disch := omega) only [push_cast, ↓reduceIte, Nat.reduceEqDiff, Nat.reduceAdd, Nat.reduceLeDiff, sx, ← List.map_take, ← List.map_drop, List.length_take, List.length_drop]) <;> rfl) rfl rfl ?_)
  refine re_ (hf := by (simp (disch := omega) only [push_cast, ↓reduceIte, Nat.reduceEqDiff, Nat.reduceAdd, Nat.reduceLeDiff, sx, ← List.map_take, ← List.map_drop, List.length_take, List.length_drop]) <;> rfl) (hh := by (try simp (disch := omega) only [push_cast, ↓reduceIte, Nat.reduceEqDiff, Nat.reduceAdd, Nat.reduceLeDiff, sx, ← List.map_take, ← List.map_drop, List.length_take, List.length_drop]) <;> rfl) ?_
  refine rs_ [2, 3, 4, 8, 9] ?_
  iterate 2 (refine dawp_p rfl (by (simp (disch := omega) only [push_cast, ↓reduceIte, Nat.reduceEqDiff, Nat.reduceAdd, Nat.reduceLeDiff, sx, ← List.map_take, ← List.map_drop, List.length_take, List.length_drop]) <;> rfl) rfl rfl ?_)
  refine dawp_h rfl (by (simp (disch := omega) only [push_cast, ↓reduceIte, Nat.reduceEqDiff, Nat.reduceAdd, Nat.reduceLeDiff, sx, ← List.map_take, ← List.map_drop, List.length_take, List.length_drop]) <;> rfl) rfl rfl ?_
  iterate 2 (refine dawp_p rfl (by (simp (disch := omega) only [push_cast, ↓reduceIte, Nat.reduceEqDiff, Nat.reduceAdd, Nat.reduceLeDiff, sx, ← List.map_take, ← List.map_drop, List.length_take, List.length_drop]) <;> rfl) rfl rfl ?_)
  refine dawp_w rfl rfl rfl rfl (AOp.makeSlice _ _ _ rfl Ty.makeT_78 (n := a) (m := n.ents.length + 1) rfl rfl (by omega) (by omega) (by omega) ?_)
  refine dawp_p rfl (by (simp (disch := omega) only [push_cast, ↓reduceIte, Nat.reduceEqDiff, Nat.reduceAdd, Nat.reduceLeDiff, sx, ← List.map_take, ← List.map_drop, List.length_take, List.length_drop]) <;> rfl) rfl rfl ?_
  refine re_ (hf := by (simp (disch := omega) only [push_cast, ↓reduceIte, Nat.reduceEqDiff, Nat.reduceAdd, Nat.reduceLeDiff, sx, ← List.map_take, ← List.map_drop, List.length_take, List.length_drop]) <;> rfl) (hh := by (try simp (disch := omega) only [push_cast, ↓reduceIte, Nat.reduceEqDiff, Nat.reduceAdd, Nat.reduceLeDiff, sx, ← List.map_take, ← List.map_drop, List.length_take, List.length_drop]) <;> rfl) ?_
  refine rs_ [2, 3, 4, 8, 9] ?_
  iterate 2 (refine dawp_p rfl (by (simp (disch := omega) only [push_cast, ↓reduceIte, Nat.reduceEqDiff, Nat.reduceAdd, Nat.reduceLeDiff, sx, ← List.map_take, ← List.map_drop, List.length_take, List.length_drop]) <;> rfl) rfl rfl ?_)
  refine dawp_h rfl (by (simp (disch := omega) only [push_cast, ↓reduceIte, Nat.reduceEqDiff, Nat.reduceAdd, Nat.reduceLeDiff, sx, ← List.map_take, ← List.map_drop, List.length_take, List.length_drop]) <;> rfl) rfl rfl ?_
  refine dawp_w rfl rfl rfl rfl (AOp.copyB _ _ _ _ rfl Ty.sliceSz_78 (by (simp (disch := omega) only [push_cast, ↓reduceIte, Nat.reduceEqDiff, Nat.reduceAdd, Nat.reduceLeDiff, sx, ← List.map_take, ← List.map_drop, List.length_take, List.length_drop]) <;> rfl) (by (simp (disch := omega) only [push_cast, ↓reduceIte, Nat.reduceEqDiff, Nat.reduceAdd, Nat.reduceLeDiff, sx, ← List.map_take, ← List.map_drop, List.length_take, List.length_drop]) <;> rfl) (by (simp (disch := omega) only [push_cast, ↓reduceIte, Nat.reduceEqDiff, Nat.reduceAdd, Nat.reduceLeDiff, sx, ← List.map_take, ← List.map_drop, List.length_take, List.length_drop]) <;> rfl) (cells_eV _) (by rw [rep_length]; simp; omega) ?_)
  refine re_ (hf := by (simp (disch := omega) only [push_cast, ↓reduceIte, Nat.reduceEqDiff, Nat.reduceAdd, Nat.reduceLeDiff, sx, ← List.map_take, ← List.map_drop, List.length_take, List.length_drop]) <;> rfl) (hh := by (try simp (disch := omega) only [push_cast, ↓reduceIte, Nat.reduceEqDiff, Nat.reduceAdd, Nat.reduceLeDiff, sx, ← List.map_take, ← List.map_drop, List.length_take, List.length_drop]) <;> rfl) ?_
  refine rs_ [2, 4, 8, 9] ?_
  iterate 2 (refine dawp_p rfl (by (simp (disch := omega) only [push_cast, ↓reduceIte, Nat.reduceEqDiff, Nat.reduceAdd, Nat.reduceLeDiff, sx, ← List.map_take, ← List.map_drop, List.length_take, List.length_drop]) <;> rfl) rfl rfl ?_)
  refine dawp_w rfl rfl rfl rfl (AOp.appendB _ _ _ rfl Ty.sliceSz_78 (by (simp (disch := omega) only [push_cast, ↓reduceIte, Nat.reduceEqDiff, Nat.reduceAdd, Nat.reduceLeDiff, sx, ← List.map_take, ← List.map_drop, List.length_take, List.length_drop]) <;> rfl) (by (simp (disch := omega) only [push_cast, ↓reduceIte, Nat.reduceEqDiff, Nat.reduceAdd, Nat.reduceLeDiff, sx, ← List.map_take, ← List.map_drop, List.length_take, List.length_drop]) <;> rfl) (by (simp (disch := omega) only [push_cast, ↓reduceIte, Nat.reduceEqDiff, Nat.reduceAdd, Nat.reduceLeDiff, sx, ← List.map_take, ← List.map_drop, List.length_take, List.length_drop]) <;> rfl) (cells_eV _) (by simp; omega) (by rw [putAt_len, rep_length]; simp; omega) ?_)
  refine dawp_p rfl (by (simp (disch := omega) only [push_cast, ↓reduceIte, Nat.reduceEqDiff, Nat.reduceAdd, Nat.reduceLeDiff, sx, ← List.map_take, ← List.map_drop, List.length_take, List.length_drop]) <;> rfl) rfl rfl ?_
  refine re_ (hf := by (simp (disch := omega) only [push_cast, ↓reduceIte, Nat.reduceEqDiff, Nat.reduceAdd, Nat.reduceLeDiff, sx, ← List.map_take, ← List.map_drop, List.length_take, List.length_drop]) <;> rfl) (hh := by (try simp (disch := omega) only [push_cast, ↓reduceIte, Nat.reduceEqDiff, Nat.reduceAdd, Nat.reduceLeDiff, sx, ← List.map_take, ← List.map_drop, List.length_take, List.length_drop]) <;> rfl) ?_
  refine rs_ [4, 8] ?_
  iterate 2 (refine dawp_p rfl (by (simp (disch := omega) only [push_cast, ↓reduceIte, Nat.reduceEqDiff, Nat.reduceAdd, Nat.reduceLeDiff, sx, ← List.map_take, ← List.map_drop, List.length_take, List.length_drop]) <;> rfl) rfl rfl ?_)
  refine dawp_h rfl (by (simp (disch := omega) only [push_cast, ↓reduceIte, Nat.reduceEqDiff, Nat.reduceAdd, Nat.reduceLeDiff, sx, ← List.map_take, ← List.map_drop, List.length_take, List.length_drop]) <;> rfl) rfl rfl ?_
  iterate 2 (refine dawp_p rfl (by (simp (disch := omega) only [push_cast, ↓reduceIte, Nat.reduceEqDiff, Nat.reduceAdd, Nat.reduceLeDiff, sx, ← List.map_take, ← List.map_drop, List.length_take, List.length_drop]) <;> rfl) rfl rfl ?_)
  refine dawp_w rfl rfl rfl rfl (AOp.appendB _ _ _ rfl Ty.sliceSz_78 (by (simp (disch := omega) only [push_cast, ↓reduceIte, Nat.reduceEqDiff, Nat.reduceAdd, Nat.reduceLeDiff, sx, ← List.map_take, ← List.map_drop, List.length_take, List.length_drop]) <;> rfl) (by (simp (disch := omega) only [push_cast, ↓reduceIte, Nat.reduceEqDiff, Nat.reduceAdd, Nat.reduceLeDiff, sx, ← List.map_take, ← List.map_drop, List.length_take, List.length_drop]) <;> rfl) (by (simp (disch := omega) only [push_cast, ↓reduceIte, Nat.reduceEqDiff, Nat.reduceAdd, Nat.reduceLeDiff, sx, ← List.map_take, ← List.map_drop, List.length_take, List.length_drop]) <;> rfl) (cells_eV _) (by simp; omega) (by rw [putAt_len, putAt_len, rep_length]; simp; omega) ?_)
  refine dawp_p rfl (by (simp (disch := omega) only [push_cast, ↓reduceIte, Nat.reduceEqDiff, Nat.reduceAdd, Nat.reduceLeDiff, sx, ← List.map_take, ← List.map_drop, List.length_take, List.length_drop]) <;> rfl) rfl rfl ?_
  refine dawp_hn rfl (by (simp (disch := omega) only [push_cast, ↓reduceIte, Nat.reduceEqDiff, Nat.reduceAdd, Nat.reduceLeDiff, sx, ← List.map_take, ← List.map_drop, List.length_take, List.length_drop]) <;> rfl) rfl ?_
  refine re_ (hf := by (simp (disch := omega) only [push_cast, ↓reduceIte, Nat.reduceEqDiff, Nat.reduceAdd, Nat.reduceLeDiff, sx, ← List.map_take, ← List.map_drop, List.length_take, List.length_drop]) <;> rfl) (hh := by (try simp (disch := omega) only [push_cast, ↓reduceIte, Nat.reduceEqDiff, Nat.reduceAdd, Nat.reduceLeDiff, sx, ← List.map_take, ← List.map_drop, List.length_take, List.length_drop]) <;> rfl) ?_
  refine rs_ [4, 8] ?_
  refine dawp_p rfl (by (simp (disch := omega) only [push_cast, ↓reduceIte, Nat.reduceEqDiff, Nat.reduceAdd, Nat.reduceLeDiff, sx, ← List.map_take, ← List.map_drop, List.length_take, List.length_drop]) <;> rfl) rfl rfl ?_
  refine dawp_h rfl (by (simp (disch := omega) only [push_cast, ↓reduceIte, Nat.reduceEqDiff, Nat.reduceAdd, Nat.reduceLeDiff, sx, ← List.map_take, ← List.map_drop, List.length_take, List.length_drop]) <;> rfl) rfl rfl ?_
  refine dawp_w rfl rfl rfl rfl (AOp.callx _ _ _ rfl (by (simp (disch := omega) only [push_cast, ↓reduceIte, Nat.reduceEqDiff, Nat.reduceAdd, Nat.reduceLeDiff, sx, ← List.map_take, ← List.map_drop, List.length_take, List.length_drop]) <;> rfl) (by (simp (disch := omega) only [push_cast, ↓reduceIte, Nat.reduceEqDiff, Nat.reduceAdd, Nat.reduceLeDiff, sx, ← List.map_take, ← List.map_drop, List.length_take, List.length_drop]) <;> rfl) ?_)
  refine (c102 _ _ _ _ (by omega)).mono ?_; rintro _ _ _ ⟨rfl, rfl, rfl⟩
  refine dawp_p rfl (by (simp (disch := omega) only [push_cast, ↓reduceIte, Nat.reduceEqDiff, Nat.reduceAdd, Nat.reduceLeDiff, sx, ← List.map_take, ← List.map_drop, List.length_take, List.length_drop]) <;> rfl) rfl rfl ?_
  refine dawp_hn rfl (by (simp (disch := omega) only [push_cast, ↓reduceIte, Nat.reduceEqDiff, Nat.reduceAdd, Nat.reduceLeDiff, sx, ← List.map_take, ← List.map_drop, List.length_take, List.length_drop]) <;> rfl) rfl ?_
  refine re_ (hf := by (simp (disch := omega) only [push_cast, ↓reduceIte, Nat.reduceEqDiff, Nat.reduceAdd, Nat.reduceLeDiff, sx, ← List.map_take, ← List.map_drop, List.length_take, List.length_drop]) <;> rfl) (hh := by (try simp (disch := omega) only [push_cast, ↓reduceIte, Nat.reduceEqDiff, Nat.reduceAdd, Nat.reduceLeDiff, sx, ← List.map_take, ← List.map_drop, List.length_take, List.length_drop]) <;> rfl) ?_
  refine rs_ [8] ?_
  refine dawp_h rfl (by (simp (disch := omega) only [push_cast, ↓reduceIte, Nat.reduceEqDiff, Nat.reduceAdd, Nat.reduceLeDiff, sx, ← List.map_take, ← List.map_drop, List.length_take, List.length_drop]) <;> rfl) rfl rfl ?_
  refine dawp_hn rfl (by (simp (disch := omega) only [push_cast, ↓reduceIte, Nat.reduceEqDiff, Nat.reduceAdd, Nat.reduceLeDiff, sx, ← List.map_take, ← List.map_drop, List.length_take, List.length_drop]) <;> rfl) rfl ?_
  refine re_ (hf := by (simp (disch := omega) only [push_cast, ↓reduceIte, Nat.reduceEqDiff, Nat.reduceAdd, Nat.reduceLeDiff, sx, ← List.map_take, ← List.map_drop, List.length_take, List.length_drop]) <;> rfl) (hh := by (try simp (disch := omega) only [push_cast, ↓reduceIte, Nat.reduceEqDiff, Nat.reduceAdd, Nat.reduceLeDiff, sx, ← List.map_take, ← List.map_drop, List.length_take, List.length_drop]) <;> rfl) ?_
  refine awp_ret (up_ ?_)
  refine fz_ (h1 := h) (hres := by (simp (disch := omega) only [aresults, aresult, push_cast, ↓reduceIte, Nat.reduceEqDiff, Nat.reduceAdd, Nat.reduceLeDiff, sx, ← List.map_take, ← List.map_drop, List.length_take, List.length_drop]) <;> rfl) Tryz.results169 (hx := (with_frz n (n.ents.take a) m (n.ents.drop b) h _ _ (rep (n.ents.length + 1) [.str [], .int .i64 0]) (n.ents.length + 1) (by rw [rep_length]; simp; omega) (a + m.length + (n.ents.length - b)) (by simp [Nat.min_eq_left ha]; omega) (a * 2) ((a + m.length) * 2) (by simp [Nat.min_eq_left ha]) (by simp [Nat.min_eq_left ha]))) (hcl := (by exact clL_ndC _ _)) (hK := ?_)
  exact ⟨by first | rfl | rw [List.append_assoc], rfl, rfl⟩


def badN (s : List UInt8) (id : Int) : Bool := decide (id < 1) || decide (s = []) || decide (s = [46]) || decide (s = [46, 46]) || s.any sl0
/-- Where a name is to stand. -/
def spot (l : List En) (s : List UInt8) : Nat := if idxP (gtS s) l < 0 then l.length else (idxP (gtS s) l).toNat
def insF (l : List En) (s : List UInt8) (id : Int) : List En := l.take (spot l s) ++ ([(s, id)] ++ l.drop (spot l s))
def withN (n : Nd) (s : List UInt8) (id : Int) : Nd × Int :=
  if n.kind ≠ 2 then (nd0, 20) else bif badN s id then (nd0, 22) else if (12 : Int) < s.length then (nd0, 36) else if 0 ≤ idxP (eqS s) n.ents then (nd0, 17) else if (8 : Int) ≤ n.ents.length then (nd0, 28) else (nWith n (insF n.ents s id), 0)
theorem spot_le (l : List En) (s : List UInt8) : spot l s ≤ l.length := by
  unfold spot
  have := idxP_range (gtS s) l
  split <;> omega
theorem spot_neg {l : List En} {s : List UInt8} (h : idxP (gtS s) l < 0) : spot l s = l.length := if_pos h
theorem spot_pos {l : List En} {s : List UInt8} (h : 0 ≤ idxP (gtS s) l) : idxP (gtS s) l = (spot l s : Nat) := by
  unfold spot; rw [if_neg (by omega)]; omega
theorem withN_ok {n : Nd} {s : List UInt8} {id : Int} (ho : NdOk n) (hs : s.length ≤ 9223372036854775807) : NdOk (withN n s id).1 := by
  unfold withN
  split
  · exact ndOk_0
  · cases badN s id with
    | true => exact ndOk_0
    | false =>
      rw [cond_false]
      split
      · exact ndOk_0
      · split
        · exact ndOk_0
        · split
          · exact ndOk_0
          · have := spot_le n.ents s
            refine ⟨ho.1, ?_, ho.2.2.1, fun e he => ?_⟩
            · show (insF n.ents s id).length ≤ 1000
              simp [insF]; omega
            · rcases List.mem_append.1 he with h | h
              · exact ho.2.2.2 e (List.mem_of_mem_take h)
              · rcases List.mem_append.1 h with h | h
                · rw [List.mem_singleton.1 h]; exact hs
                · exact ho.2.2.2 e (List.mem_of_mem_drop h)

theorem c112 (n : Nd) (s : List UInt8) (id : Int) (h : List Blk) (live : List Nat) (ho : NdOk n) (hs : s.length ≤ 9223372036854775807) : ACalls Tryz.prog 112 [.agg (ndC n), .str s, .int .i64 id] h live (ret (.tup [.agg (ndC (withN n s id).1), .int .i64 (withN n s id).2]) h live) := by
  refine ab_ Tryz.func112 (hw := fun hH hX => ?_)
  have ho' := ho
  obtain ⟨ho1, ho2, ho3⟩ := ho'
  have hsl := spot_le n.ents s
  have sx := sx0
  refine rg_ [2, 3, 4, 6] ?_
  refine sk_ fun K1 hK1 => ?_
  refine awp_block ?_
  refine rg_ [2, 3, 4, 6, 9] ?_
  refine cd_ (ht := fun hb1 => ?_) (hf := fun hb1 => ?_)
  · refine rg_ [6, 7] ?_
    refine awp_ret (up_ ?_)
    refine fp_ Tryz.results112 (hx := by (simp only [atuple, AV.er, AV.erL, push_cast, erL_bV, erL_eV, er_ndC]) <;> rfl) (hcl := (by simp [AV.cl, AV.clL, clL_ndC, nd0, -List.map_map])) (hK := ?_)
    exact ⟨by unfold withN; rw [if_pos hb1]; rfl, rfl, rfl⟩
  refine rs_ [2, 3, 4, 6, 14] ?_
  refine sg_ ?_
  refine cg_ (hc := fun hg => c165 s _ _ (by omega)) (k := ?_)
  refine sg_ ?_
  refine re_ ?_
  refine cb_ (ht := fun hb2 => ?_) (hf := fun hb2 => ?_)
  · have hbd : badN s id = true := hb2
    refine rg_ [6, 7] ?_
    refine awp_ret (up_ ?_)
    refine fp_ Tryz.results112 (hx := by (simp only [atuple, AV.er, AV.erL, push_cast, erL_bV, erL_eV, er_ndC]) <;> rfl) (hcl := (by simp [AV.cl, AV.clL, clL_ndC, nd0, -List.map_map])) (hK := ?_)
    exact ⟨by unfold withN; rw [if_neg (fun h => h hb1), hbd]; rfl, rfl, rfl⟩
  have hbd : badN s id = false := hb2
  refine rg_ [2, 3, 4, 6, 34] ?_
  refine cd_ (ht := fun hb3 => ?_) (hf := fun hb3 => ?_)
  · refine rg_ [6, 7] ?_
    refine awp_ret (up_ ?_)
    refine fp_ Tryz.results112 (hx := by (simp only [atuple, AV.er, AV.erL, push_cast, erL_bV, erL_eV, er_ndC]) <;> rfl) (hcl := (by simp [AV.cl, AV.clL, clL_ndC, nd0, -List.map_map])) (hK := ?_)
    exact ⟨by unfold withN; rw [if_neg (fun h => h hb1), hbd, cond_false, if_pos hb3]; rfl, rfl, rfl⟩
  refine rs_ [2, 3, 4, 6, 39] ?_
  refine sg_ ?_
  refine cl_ (hc := c166 _ _ _ _ ho) (k := ?_)
  refine sg_ ?_
  refine re_ ?_
  refine cd_ (ht := fun hb4 => ?_) (hf := fun hb4 => ?_)
  · refine rg_ [6, 7] ?_
    refine awp_ret (up_ ?_)
    refine fp_ Tryz.results112 (hx := by (simp only [atuple, AV.er, AV.erL, push_cast, erL_bV, erL_eV, er_ndC]) <;> rfl) (hcl := (by simp [AV.cl, AV.clL, clL_ndC, nd0, -List.map_map])) (hK := ?_)
    exact ⟨by unfold withN; rw [if_neg (fun h => h hb1), hbd, cond_false, if_neg (by omega), if_pos hb4]; rfl, rfl, rfl⟩
  refine rg_ [2, 3, 4, 6, 45] ?_
  refine cd_ (ht := fun hb5 => ?_) (hf := fun hb5 => ?_)
  · refine rg_ [6, 7] ?_
    refine awp_ret (up_ ?_)
    refine fp_ Tryz.results112 (hx := by (simp only [atuple, AV.er, AV.erL, push_cast, erL_bV, erL_eV, er_ndC]) <;> rfl) (hcl := (by simp [AV.cl, AV.clL, clL_ndC, nd0, -List.map_map])) (hK := ?_)
    exact ⟨by unfold withN; rw [if_neg (fun h => h hb1), hbd, cond_false, if_neg (by omega), if_neg (by omega), if_pos hb5]; rfl, rfl, rfl⟩
  refine awp_skip (up_ ?_)
  refine hK1 _ ?_
  refine rs_ [2, 3, 4, 6, 8] ?_
  refine sg_ ?_
  refine cl_ (hc := c167 n.ents _ 168 [.ptr (h.length + 1) 0] (gtS s) _ _ (by omega) (fun e => c168 (h.length + 1) s e _ _ (by simp only [push_cast])) (by simp [AV.cl, AV.clL])) (k := ?_)
  refine sg_ ?_
  refine re_ ?_
  refine sk_ fun K2 hK2 => ?_
  refine rg_ [2, 3, 4, 6, 8, 56] ?_
  refine cd_ (ht := fun hb6 => ?_) (hf := fun hb6 => ?_)
  · have hspl : (n.ents.length : Int) = (spot n.ents s : Nat) := by rw [spot_neg hb6]
    refine rt_ [2, 3, 4, 6, 8] ?_
    refine sg_ ?_
    refine rn_ (up_ ?_)
    refine hK2 _ ?_
    refine rs_ [6, 7] ?_
    refine sg_ ?_
    try simp only [hspl]
    refine cl_ (hc := c169 n (spot n.ents s) (spot n.ents s) [(s, id)] _ _ _ ho hsl hsl (by simp) (by simp)) (k := ?_)
    refine sg_ ?_
    refine re_ ?_
    refine awp_ret (up_ ?_)
    refine fp_ Tryz.results112 (hx := by (simp only [atuple, AV.er, AV.erL, push_cast, erL_bV, erL_eV, er_ndC]) <;> rfl) (hcl := (by simp [AV.cl, AV.clL, clL_ndC, nd0, -List.map_map])) (hK := ?_)
    exact ⟨by unfold withN; rw [if_neg (fun h => h hb1), hbd, cond_false, if_neg (by omega), if_neg (by omega), if_neg (by omega)]; rfl, rfl, rfl⟩
  have hsp := spot_pos hb6
  simp only [hsp]
  refine awp_skip (up_ ?_)
  refine hK2 _ ?_
  refine rs_ [6, 7] ?_
  refine sg_ ?_
  try simp only [hspl]
  refine cl_ (hc := c169 n (spot n.ents s) (spot n.ents s) [(s, id)] _ _ _ ho hsl hsl (by simp) (by simp)) (k := ?_)
  refine sg_ ?_
  refine re_ ?_
  refine awp_ret (up_ ?_)
  refine fp_ Tryz.results112 (hx := by (simp only [atuple, AV.er, AV.erL, push_cast, erL_bV, erL_eV, er_ndC]) <;> rfl) (hcl := (by simp [AV.cl, AV.clL, clL_ndC, nd0, -List.map_map])) (hK := ?_)
  exact ⟨by unfold withN; rw [if_neg (fun h => h hb1), hbd, cond_false, if_neg (by omega), if_neg (by omega), if_neg (by omega)]; rfl, rfl, rfl⟩

end Go.Proofs.YtegffmibifodcaaGreat

