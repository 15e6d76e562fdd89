import Derived.Test.YtjoklidphbmpoaaGreatA6
import Derived.Test.YtjoklidphbmpoaaGreatAb19
/-
  TEXTS: whether a slash or a nought stands in a text.
-/
namespace Go.Proofs.YtjoklidphbmpoaaGreat
open Go.Ab
set_option linter.unusedVariables false
set_option linter.unusedSimpArgs false
set_option maxRecDepth 8000
set_option maxHeartbeats 400000


theorem if_and_t {α : Type} {p : Prop} [Decidable p] (a b : α) : (if True ∧ p then a else b) = if p then a else b := by
  by_cases h : p
  · rw [if_pos ⟨trivial, h⟩, if_pos h]
  · rw [if_neg (fun x => h x.2), if_neg h]
/-- Is a byte a slash or a nought? -/
def sl0 (c : UInt8) : Bool := decide (c = 47) || decide (c = 0)
def irF (r : Int) : Int := if r = 47 then 0 else if r = 0 then 1 else -1
theorem encS_facts {r : Int} (hv : Utf8.valid r = true) (h128 : 128 ≤ r) : 2 ≤ (encS r).length ∧ (encS r).length ≤ 4 ∧ 128 ≤ ((encS r).getD ((encS r).length - 1) 0).toNat := by
  obtain ⟨h1, h2, h3⟩ := encode_facts r hv h128
  have e : (encS r).length = (Utf8.encode r).size := Array.length_toList
  refine ⟨by omega, by omega, ?_⟩
  have hlt : (Utf8.encode r).size - 1 < (encS r).length := by omega
  have := h3 (by omega)
  rw [e, List.getD_eq_getElem?_getD, List.getElem?_eq_getElem hlt, Option.getD_some]
  exact this
theorem ib_fin : ∀ r : Fin 128, Lib.indexByte [47, 0] (UInt8.ofNat r.val) = irF r.val := by decide +kernel
theorem ib_rune {r : Int} (h0 : 0 ≤ r) (h1 : r < 128) : Lib.indexByte [47, 0] (UInt8.ofNat r.toNat) = irF r := by
  have := ib_fin ⟨r.toNat, by omega⟩
  simp only [Int.toNat_of_nonneg h0] at this
  exact this
theorem u8_rune {r : Int} (h0 : 0 ≤ r) (h1 : r < 128) : ((UInt8.ofNat r.toNat).toNat : Int) = r := by simp; omega
theorem irF_high {r : Int} (h : 128 ≤ r) : irF r = -1 := by unfold irF; rw [if_neg (by omega), if_neg (by omega)]
theorem dec470 {pos : Nat} (h : pos < 2) : dec [47, 0] pos = (([47, 0] : List UInt8).getD pos 0 |>.toNat, 1) := dec_ascii h (by
  have : pos = 0 ∨ pos = 1 := by omega
  rcases this with rfl | rfl <;> decide)
theorem getD470 {pos : Nat} (h : pos < 2) : (([47, 0] : List UInt8).getD pos 0).toNat = 47 ∨ (([47, 0] : List UInt8).getD pos 0).toNat = 0 := by
  have : pos = 0 ∨ pos = 1 := by omega
  rcases this with rfl | rfl
  · exact .inl rfl
  · exact .inr rfl
/-- What is read as one letter above ASCII has no byte below. -/
theorem decode_span (s : ByteArray) (pos : Nat) (h : pos < s.size) (ha : 128 ≤ (s.get! (pos + 0)).toNat) : ∀ k, k < (Utf8.decode s pos).2 → pos + k < s.size ∧ 128 ≤ (s.get! (pos + k)).toNat := by
  have hn : ¬ (s.get! (pos + 0)).toNat < 128 := by omega
  simp only [Utf8.decode, hn, if_false]
  intro k hk
  have h0 : pos + 0 < s.size ∧ 128 ≤ (s.get! (pos + 0)).toNat := ⟨h, ha⟩
  repeat' split at hk
  all_goals simp only [Bool.and_eq_true, decide_eq_true_eq, beq_iff_eq] at *
  all_goals (
    have hc : k = 0 ∨ k = 1 ∨ k = 2 ∨ k = 3 := by omega
    rcases hc with rfl | rfl | rfl | rfl <;> first | exact h0 | (exfalso; omega) | (refine ⟨?_, ?_⟩ <;> omega))
theorem dec_span {l : List UInt8} {pos : Nat} (h : pos < l.length) (ha : 128 ≤ (l.getD pos 0).toNat) : ∀ k, k < (dec l pos).2 → pos + k < l.length ∧ 128 ≤ (l.getD (pos + k) 0).toNat := by
  have e : ∀ i, i < l.length → (⟨l.toArray⟩ : ByteArray).get! i = l.getD i 0 := fun i hi => by
    simp [ByteArray.get!, List.getD_eq_getElem?_getD, hi]
  intro k hk
  have := decode_span ⟨l.toArray⟩ pos (by simpa [ByteArray.size] using h) (by rw [e _ (by omega)]; exact ha) k hk
  have hl : pos + k < l.length := by simpa [ByteArray.size] using this.1
  exact ⟨hl, by rw [← e _ hl]; exact this.2⟩
theorem any_take_false {l : List UInt8} {n : Nat} (h : ∀ j, j < n → sl0 (l.getD j 0) = false) (hn : l.length ≤ n) : l.any sl0 = false := by
  rw [List.any_eq_false]
  intro c hc
  obtain ⟨j, hj, rfl⟩ := List.mem_iff_getElem.1 hc
  have := h j (by omega)
  simp [List.getD_eq_getElem?_getD, hj] at this
  simp [this]
theorem any_get_true {l : List UInt8} {j : Nat} (hj : j < l.length) (h : sl0 (l.getD j 0) = true) : l.any sl0 = true := by
  rw [List.any_eq_true]
  exact ⟨l.getD j 0, by simp [List.getD_eq_getElem?_getD, hj], h⟩
theorem sl0_high {c : UInt8} (h : 128 ≤ c.toNat) : sl0 c = false := by
  unfold sl0
  rw [decide_eq_false (by rintro rfl; exact absurd h (by decide)), decide_eq_false (by rintro rfl; exact absurd h (by decide))]; rfl
theorem irF_byte (c : UInt8) : decide (0 ≤ irF c.toNat) = sl0 c := by
  unfold irF sl0
  by_cases h1 : c = 47
  · subst h1; rfl
  · by_cases h2 : c = 0
    · subst h2; rfl
    · have e1 : ¬ ((c.toNat : Int) = 47) := fun h => h1 (UInt8.toNat_inj.1 (by have : c.toNat = 47 := (by omega); rw [this]; rfl))
      have e2 : ¬ ((c.toNat : Int) = 0) := fun h => h2 (UInt8.toNat_inj.1 (by have : c.toNat = 0 := (by omega); rw [this]; rfl))
      rw [if_neg e1, if_neg e2, decide_eq_false h1, decide_eq_false h2]; rfl
/-- At each step of a range over a text: is it a slash or a nought? -/
theorem ir_step {l : List UInt8} {pos : Nat} (h : pos < l.length) : decide (0 ≤ irF (dec l pos).1) = sl0 (l.getD pos 0) ∧ (sl0 (l.getD pos 0) = false → (pos + (dec l pos).2 ≤ l.length ∧ pos < pos + (dec l pos).2 ∧ ∀ j, pos ≤ j → j < pos + (dec l pos).2 → sl0 (l.getD j 0) = false)) := by
  by_cases ha : (l.getD pos 0).toNat < 128
  · rw [dec_ascii h ha]
    refine ⟨irF_byte _, fun hs => ⟨by dsimp only; omega, by dsimp only; omega, fun j h1 h2 => ?_⟩⟩
    dsimp only at h2
    rw [show j = pos by omega]; exact hs
  · obtain ⟨h1, h2⟩ := dec_high h (by omega)
    have hsp := dec_span h (by omega)
    refine ⟨?_, fun _ => ⟨?_, by omega, fun j hj hj' => ?_⟩⟩
    · rw [irF_high (by omega), sl0_high (by omega)]; rfl
    · have := (hsp ((dec l pos).2 - 1) (by omega)).1; omega
    · have := (hsp (j - pos) (by omega)).2
      rw [show pos + (j - pos) = j by omega] at this
      exact sl0_high this
/-- The set of ASCII's letters, as a row of booleans. -/
def as0 : List AV := List.replicate 256 (.bool false)
def as1 : List AV := as0.set 47 (.bool true)
def as2 : List AV := as1.set 0 (.bool true)
theorem azero_as : azero Tryz.prog 176 = some (.agg as0) := by kernel_rfl
theorem tk_as : tk Tryz.prog 176 = some (.agg 256) := by kernel_rfl
theorem as0_len : as0.length = 256 := List.length_replicate
theorem as1_len : as1.length = 256 := by rw [as1, List.length_set, as0_len]
theorem as2_len : as2.length = 256 := by rw [as2, List.length_set, as1_len]
theorem as0_take : as0.take 256 = as0 := List.take_of_length_le (by rw [as0_len]; omega)
theorem as2_take : as2.take 256 = as2 := List.take_of_length_le (by rw [as2_len]; omega)
theorem putAt_all {α : Type} : ∀ (v c : List α) (off : Nat), off + v.length = c.length → putAt c off v = c.take off ++ v
  | [], c, off, h => by
    show c = _
    rw [List.append_nil, List.take_of_length_le (by simp at h; omega)]
  | x :: v, c, off, h => by
    show putAt (c.set off x) (off + 1) v = _
    simp at h
    rw [putAt_all v _ _ (by simp; omega), List.take_succ_eq_append_getElem (by simp; omega)]
    simp [List.take_set_of_le]
theorem as_put (c : List AV) (hc : c.length = 256) : putAt c 0 as2 = as2 := by
  rw [putAt_all _ _ _ (by rw [as2_len, hc])]; rfl
theorem as_put0 : putAt as0 0 as2 = as2 := as_put _ as0_len
theorem as_put2 : putAt as2 0 as2 = as2 := as_put _ as2_len
theorem as2_er : AV.erL as2 = as2 := by kernel_rfl
theorem as2_get (c : UInt8) : as2[0 + c.toNat * 1]? = some (.bool (sl0 c)) := by
  have hc := c.toNat_lt
  rw [Nat.zero_add, Nat.mul_one]
  unfold as2 as1 as0 sl0
  rw [List.getElem?_set, List.getElem?_set, List.getElem?_replicate]
  by_cases h1 : c = 0
  · subst h1; rw [if_pos (by decide), if_pos (by rw [List.length_set, List.length_replicate]; omega)]; rfl
  · have e1 : ¬ 0 = c.toNat := fun h => h1 (UInt8.toNat_inj.1 h.symm)
    rw [if_neg e1]
    by_cases h2 : c = 47
    · subst h2; rw [if_pos (by decide), if_pos (by rw [List.length_replicate]; omega)]; rfl
    · have e2 : ¬ 47 = c.toNat := fun h => h2 (UInt8.toNat_inj.1 h.symm)
      rw [if_neg e2, if_pos (by omega), decide_eq_false h1, decide_eq_false h2]; rfl
theorem clL_as (n : Nat) (l : List AV) (h : ∀ x ∈ l, ∃ b, x = AV.bool b) : AV.clL n l := by
  rw [AV.clL_mem]; intro x hx; obtain ⟨b, rfl⟩ := h x hx; trivial
theorem as0_b : ∀ x ∈ as0, ∃ b, x = AV.bool b := fun x hx => ⟨false, (List.mem_replicate.1 hx).2⟩
theorem as1_b : ∀ x ∈ as1, ∃ b, x = AV.bool b := fun x hx => by
  rcases List.mem_or_eq_of_mem_set hx with h | h
  · exact as0_b x h
  · exact ⟨_, h⟩
theorem as2_b : ∀ x ∈ as2, ∃ b, x = AV.bool b := fun x hx => by
  rcases List.mem_or_eq_of_mem_set hx with h | h
  · exact as1_b x h
  · exact ⟨_, h⟩
def asI (i : Nat) : List AV := if i = 0 then as0 else if i = 1 then as1 else as2
theorem asI_len (i : Nat) : (asI i).length = 256 := by
  unfold asI; split
  · exact as0_len
  · split
    · exact as1_len
    · exact as2_len
theorem asI_cl (n i : Nat) : AV.clL n (asI i) := by
  unfold asI; split
  · exact clL_as _ _ as0_b
  · split
    · exact clL_as _ _ as1_b
    · exact clL_as _ _ as2_b
theorem asI_set {i : Nat} (h : i < 2) : (asI i).set (0 + (([47, 0] : List UInt8).getD i 0).toNat * 1) (.bool true) = asI (i + 1) := by
  have : i = 0 ∨ i = 1 := by omega
  rcases this with rfl | rfl <;> rfl

theorem c135 (n : Int) (h : List Blk) (live : List Nat) : ACalls Tryz.prog 135 [.int .i64 n] h live (ret (.bool (decide (8 < n))) h live) := by
  refine ab_ Tryz.func135 (hw := fun hH hX => ?_)
  have sx := sx0
  refine rg_ [0] ?_
  refine rg_ [2] ?_
  refine awp_ret (up_ ?_)
  refine fp_ Tryz.results135 (hK := ?_)
  exact ⟨rfl, rfl, rfl⟩

theorem c137 (k : Nat) (c : UInt8) (h : List Blk) (live : List Nat) (hk : h[k]? = some (.cells as2)) : ACalls Tryz.prog 137 [.ptr k 0, .int .u8 c.toNat] h live (ret (.bool (sl0 c)) h live) := by
  refine ab_ Tryz.func137 (hw := fun hH hX => ?_)
  have hc := c.toNat_lt
  have sx := (And.intro @hk (And.intro @as2_get sx0))
  refine rg_ [0, 1] ?_
  refine rg_ [4] ?_
  refine awp_ret (up_ ?_)
  refine fp_ Tryz.results137 (hK := ?_)
  exact ⟨rfl, rfl, rfl⟩

theorem c140 (r : Int) (h : List Blk) (live : List Nat) : ACalls Tryz.prog 140 [.int .i32 r] h live (ret (.bool (Utf8.valid r)) h live) := by
  refine ab_ Tryz.func140 (hw := fun hH hX => ?_)
  have sx := sx0
  refine rg_ [0] ?_
  refine sk_ fun K1 hK1 => ?_
  refine awp_block ?_
  refine rg_ [0, 3] ?_
  refine cd_ (ht := fun hb1 => ?_) (hf := fun hb1 => ?_)
  · refine rg_ [2] ?_
    refine awp_ret (up_ ?_)
    refine fp_ Tryz.results140 (hK := ?_)
    exact ⟨by rw [validRune_eq, validRune, decide_eq_true (by omega)], rfl, rfl⟩
  refine rg_ [10] ?_
  refine cd_ (ht := fun hb2 => ?_) (hf := fun hb2 => ?_)
  · refine rg_ [2] ?_
    refine awp_ret (up_ ?_)
    refine fp_ Tryz.results140 (hK := ?_)
    exact ⟨by rw [validRune_eq, validRune, decide_eq_true (by omega)], rfl, rfl⟩
  refine awp_skip (up_ ?_)
  refine hK1 _ ?_
  refine rg_ [2] ?_
  refine awp_ret (up_ ?_)
  refine fp_ Tryz.results140 (hK := ?_)
  exact ⟨by rw [validRune_eq, validRune, decide_eq_false (by omega)], rfl, rfl⟩


theorem asI_get : (47 : UInt8).toNat = 47 := rfl
theorem bytes470 (i : Nat) (h : i < 2) : (([47, 0] : List UInt8).getD i 0).toNat < 128 := by
  have : i = 0 ∨ i = 1 := by omega
  rcases this with rfl | rfl <;> decide
theorem asI_take (i : Nat) : (asI i).take 256 = asI i := List.take_of_length_le (by rw [asI_len]; omega)
theorem as_putI (i : Nat) : putAt (asI i) 0 (asI i) = asI i := by rw [putAt_all _ _ _ (by omega)]; rfl
theorem asI_2 : asI 2 = as2 := rfl
def nameF (s : List UInt8) : Bool := !decide (s = []) && decide ((s.length : Int) ≤ 12) && !decide (s = [46]) && !decide (s = [46, 46]) && !s.any sl0
def fitsF (s : List UInt8) : Bool := !decide (s = []) && decide ((s.length : Int) ≤ 64) && decide (Lib.indexByte s 0 < 0)

theorem c136 (h : List Blk) (live : List Nat) : ACalls Tryz.prog 136 [.str [47, 0]] h live (ret (.tup [.agg as2, .bool true]) h live) := by
  refine ab_ Tryz.func136 (hw := fun hH hX => ?_)
  have sx := (And.intro @azero_as (And.intro @tk_as (And.intro @asI_take (And.intro @as_putI (And.intro @asI_len (And.intro @asI_2 (And.intro @as2_take (And.intro @as_put2 (And.intro @if_and_t (And.intro @asI_set sx0))))))))))
  refine rg_ [0, 2] ?_
  refine sk_ fun K1 hK1 => ?_
  refine rg_ [0, 2, 4] ?_
  refine awp_block ?_
  refine awp_loop' (X := {i : Nat // i ≤ 2}) (fun x => ⟨Tryz.f136.ntmps, fget [(0, .str [47, 0]), (2, .ptr h.length 0), (4, .int .i64 (x.1 : Nat))], h ++ [.cells (asI x.1)], live⟩) (fun x => 2 - x.1) (⟨0, by omega⟩) ?_ (by first | rfl | simp only [List.length_set]) (fun ⟨i, hi⟩ => ?_)
  · try dsimp only
    exact tf_ (HCl.snoc hH (asI_cl _ _)) (fun _ h => h)
  try dsimp only
  refine sk_ fun K2 hK2 => ?_
  refine rg_ [0, 2, 4, 9] ?_
  refine cb_ (ht := fun hb1 => ?_) (hf := fun hb1 => ?_)
  rotate_left
  · simp only [decide_eq_true_eq, decide_eq_false_iff_not, Bool.not_eq_true', Bool.not_eq_false', Bool.or_eq_true, Bool.and_eq_true, Bool.or_eq_false_iff, Bool.and_eq_false_imp, Int.not_lt, Int.not_le, push_cast] at hb1
    have hie : i = 2 := by omega
    subst hie
    refine awp_exit (up_ ?_)
    refine hK1 _ ?_
    refine rg_ [2, 3] ?_
    refine awp_ret (up_ ?_)
    refine fp_ Tryz.results136 (hx := by (simp only [atuple, AV.er, AV.erL, push_cast, as2_er, asI_2]) <;> rfl) (hcl := (by simp [AV.cl, AV.clL, clL_as _ _ as2_b])) (hK := ?_)
    exact ⟨rfl, rfl, rfl⟩
  simp only [decide_eq_true_eq, decide_eq_false_iff_not, Bool.not_eq_true', Bool.not_eq_false', Bool.or_eq_true, Bool.and_eq_true, Bool.or_eq_false_iff, Bool.and_eq_false_imp, Int.not_lt, Int.not_le, push_cast] at hb1
  have hil : i < 2 := by omega
  have h47 := bytes470 i hil
  refine awp_skip (up_ ?_)
  refine hK2 _ ?_
  refine sk_ fun K3 hK3 => ?_
  refine awp_block ?_
  refine rg_ [0, 2, 4, 5] ?_
  refine sk_ fun K4 hK4 => ?_
  refine rg_ [0, 2, 4, 5, 16] ?_
  refine cd_ (ht := fun hb2 => ?_) (hf := fun hb2 => ?_)
  · exfalso; omega
  refine awp_skip (up_ ?_)
  refine hK4 _ ?_
  refine rt_ [0, 2, 4] ?_
  refine sg_ ?_
  refine rn_ (up_ ?_)
  refine hK3 _ ?_
  refine rt_ [0, 2, 4] ?_
  refine sg_ ?_
  refine rn_ (up_ ?_)
  refine ⟨⟨i + 1, by omega⟩, ?_, (by first | rfl | trivial | (simp only [List.length_set]; done) | simp), by dsimp only; omega⟩
  try dsimp only
  exact tf_ (HCl.snoc hH (asI_cl _ _)) (fun _ h => h)

theorem c134 (r : Int) (h : List Blk) (live : List Nat) (h0 : 0 ≤ r) (h1 : r ≤ 2147483647) : ACalls Tryz.prog 134 [.str [47, 0], .int .i32 r] h live (ret (.int .i64 (irF r)) h live) := by
  refine ab_ Tryz.func134 (hw := fun hH hX => ?_)
  have hib : 0 ≤ r → r < 128 → ACalls Tryz.prog 117 [.str [47, 0], .int .u8 r] h live (ret (.int .i64 (irF r)) h live) := fun a b => by
    have := c117 [47, 0] (UInt8.ofNat r.toNat) h live
    rw [ib_rune a b, u8_rune a b] at this; exact this
  have sx := sx0
  refine rs_ [0, 1] ?_
  refine dawp_p rfl (by (simp (disch := omega) only [push_cast, ↓reduceIte, Nat.reduceEqDiff, Nat.reduceAdd, Nat.reduceLeDiff, sx, Int.reduceSub, Int.reduceToNat, Int.reduceAdd]) <;> rfl) rfl rfl ?_
  refine re_ (hf := by (simp (disch := omega) only [push_cast, ↓reduceIte, Nat.reduceEqDiff, Nat.reduceAdd, Nat.reduceLeDiff, sx, Int.reduceSub, Int.reduceToNat, Int.reduceAdd]) <;> rfl) (hh := by (try simp (disch := omega) only [push_cast, ↓reduceIte, Nat.reduceEqDiff, Nat.reduceAdd, Nat.reduceLeDiff, sx, Int.reduceSub, Int.reduceToNat, Int.reduceAdd]) <;> rfl) ?_
  refine awp_block ?_
  refine rs_ [0, 1, 160] ?_
  iterate 3 (refine dawp_p rfl (by (simp (disch := omega) only [push_cast, ↓reduceIte, Nat.reduceEqDiff, Nat.reduceAdd, Nat.reduceLeDiff, sx, Int.reduceSub, Int.reduceToNat, Int.reduceAdd]) <;> rfl) rfl rfl ?_)
  iterate 2 (refine dawp_g rfl rfl (by simp only [push_cast, ↓reduceIte, Nat.reduceEqDiff, Nat.reduceAdd, Nat.reduceLeDiff, sx, Int.reduceSub, Int.reduceToNat, Int.reduceAdd]; rfl) (fun hg => by simp (disch := omega) only [hg, push_cast, ↓reduceIte, Nat.reduceEqDiff, Nat.reduceAdd, Nat.reduceLeDiff, sx, Int.reduceSub, Int.reduceToNat, Int.reduceAdd]; rfl) rfl rfl ?_)
  iterate 2 (refine dawp_p rfl (by (simp (disch := omega) only [push_cast, ↓reduceIte, Nat.reduceEqDiff, Nat.reduceAdd, Nat.reduceLeDiff, sx, Int.reduceSub, Int.reduceToNat, Int.reduceAdd]) <;> rfl) rfl rfl ?_)
  refine re_ (hf := by (simp (disch := omega) only [push_cast, ↓reduceIte, Nat.reduceEqDiff, Nat.reduceAdd, Nat.reduceLeDiff, sx, Int.reduceSub, Int.reduceToNat, Int.reduceAdd]) <;> rfl) (hh := by (try simp (disch := omega) only [push_cast, ↓reduceIte, Nat.reduceEqDiff, Nat.reduceAdd, Nat.reduceLeDiff, sx, Int.reduceSub, Int.reduceToNat, Int.reduceAdd]) <;> rfl) ?_
  refine cd_ (hb := by (simp (disch := omega) only [push_cast, ↓reduceIte, Nat.reduceEqDiff, Nat.reduceAdd, Nat.reduceLeDiff, sx, Int.reduceSub, Int.reduceToNat, Int.reduceAdd]) <;> rfl) (ht := fun hb1 => ?_) (hf := fun hb1 => ?_)
  · refine rs_ [4] ?_
    iterate 3 (refine dawp_p rfl (by (simp (disch := omega) only [push_cast, ↓reduceIte, Nat.reduceEqDiff, Nat.reduceAdd, Nat.reduceLeDiff, sx, Int.reduceSub, Int.reduceToNat, Int.reduceAdd]) <;> rfl) rfl rfl ?_)
    refine dawp_w rfl rfl rfl rfl (AOp.callx _ _ _ rfl (by (simp (disch := omega) only [push_cast, ↓reduceIte, Nat.reduceEqDiff, Nat.reduceAdd, Nat.reduceLeDiff, sx, Int.reduceSub, Int.reduceToNat, Int.reduceAdd]) <;> rfl) (by (simp (disch := omega) only [push_cast, ↓reduceIte, Nat.reduceEqDiff, Nat.reduceAdd, Nat.reduceLeDiff, sx, Int.reduceSub, Int.reduceToNat, Int.reduceAdd]) <;> rfl) ?_)
    refine (hib hb1.1 hb1.2).mono ?_; rintro _ _ _ ⟨rfl, rfl, rfl⟩
    refine dawp_p rfl (by (simp (disch := omega) only [push_cast, ↓reduceIte, Nat.reduceEqDiff, Nat.reduceAdd, Nat.reduceLeDiff, sx, Int.reduceSub, Int.reduceToNat, Int.reduceAdd]) <;> rfl) rfl rfl ?_
    refine re_ (hf := by (simp (disch := omega) only [push_cast, ↓reduceIte, Nat.reduceEqDiff, Nat.reduceAdd, Nat.reduceLeDiff, sx, Int.reduceSub, Int.reduceToNat, Int.reduceAdd]) <;> rfl) (hh := by (try simp (disch := omega) only [push_cast, ↓reduceIte, Nat.reduceEqDiff, Nat.reduceAdd, Nat.reduceLeDiff, sx, Int.reduceSub, Int.reduceToNat, Int.reduceAdd]) <;> rfl) ?_
    refine awp_ret (up_ ?_)
    refine fp_ (hres := by (simp (disch := omega) only [aresults, aresult, push_cast, ↓reduceIte, Nat.reduceEqDiff, Nat.reduceAdd, Nat.reduceLeDiff, sx, Int.reduceSub, Int.reduceToNat, Int.reduceAdd]) <;> rfl) Tryz.results134 (hK := ?_)
    exact ⟨rfl, rfl, rfl⟩
  have hr : 128 ≤ r := by omega
  refine rs_ [0, 1, 171] ?_
  iterate 3 (refine dawp_p rfl (by (simp (disch := omega) only [push_cast, ↓reduceIte, Nat.reduceEqDiff, Nat.reduceAdd, Nat.reduceLeDiff, sx, Int.reduceSub, Int.reduceToNat, Int.reduceAdd]) <;> rfl) rfl rfl ?_)
  refine re_ (hf := by (simp (disch := omega) only [push_cast, ↓reduceIte, Nat.reduceEqDiff, Nat.reduceAdd, Nat.reduceLeDiff, sx, Int.reduceSub, Int.reduceToNat, Int.reduceAdd]) <;> rfl) (hh := by (try simp (disch := omega) only [push_cast, ↓reduceIte, Nat.reduceEqDiff, Nat.reduceAdd, Nat.reduceLeDiff, sx, Int.reduceSub, Int.reduceToNat, Int.reduceAdd]) <;> rfl) ?_
  refine cd_ (hb := by (simp (disch := omega) only [push_cast, ↓reduceIte, Nat.reduceEqDiff, Nat.reduceAdd, Nat.reduceLeDiff, sx, Int.reduceSub, Int.reduceToNat, Int.reduceAdd]) <;> rfl) (ht := fun hb2 => ?_) (hf := fun hb2 => ?_)
  · refine sk_ fun K1 hK1 => ?_
    refine rs_ [175] ?_
    refine dawp_p rfl (by (simp (disch := omega) only [push_cast, ↓reduceIte, Nat.reduceEqDiff, Nat.reduceAdd, Nat.reduceLeDiff, sx, Int.reduceSub, Int.reduceToNat, Int.reduceAdd]) <;> rfl) rfl rfl ?_
    refine dawp_w rfl rfl rfl rfl (AOp.rangeS _ _ rfl Ty.isStrT_9 (by (simp (disch := omega) only [push_cast, ↓reduceIte, Nat.reduceEqDiff, Nat.reduceAdd, Nat.reduceLeDiff, sx, Int.reduceSub, Int.reduceToNat, Int.reduceAdd]) <;> rfl) ?_)
    refine re_ (hf := by (simp (disch := omega) only [push_cast, ↓reduceIte, Nat.reduceEqDiff, Nat.reduceAdd, Nat.reduceLeDiff, sx, Int.reduceSub, Int.reduceToNat, Int.reduceAdd]) <;> rfl) (hh := by (try simp (disch := omega) only [push_cast, ↓reduceIte, Nat.reduceEqDiff, Nat.reduceAdd, Nat.reduceLeDiff, sx, Int.reduceSub, Int.reduceToNat, Int.reduceAdd]) <;> rfl) ?_
    refine awp_block ?_
    refine awp_loop' (X := {i : Nat // i ≤ 2}) (fun x => ⟨Tryz.f134.ntmps, fget [(175, .ptr h.length 0)], h ++ [.siter [47, 0] x.1], live⟩) (fun x => 2 - x.1) (⟨0, by omega⟩) ?_ (by first | rfl | simp only [List.length_set]) (fun ⟨i, hi⟩ => ?_)
    · try dsimp only
      refine Trunc.of (by first | exact (List.append_nil _).symm | exact rfl | (rw [List.append_assoc]; rfl)) ?_ (HCl.snoc hH trivial) (fun _ h => h)
      refine FTr.cons (by first | rfl | ((simp (disch := omega) only [push_cast, ↓reduceIte, Nat.reduceEqDiff, Nat.reduceAdd, Nat.reduceLeDiff, sx, Int.reduceSub, Int.reduceToNat, Int.reduceAdd]) <;> rfl)) (by simp [AV.cl, AV.clL]) ?_
      exact FTr.nil
    try dsimp only
    refine rs_ [175, 176, 177] ?_
    refine dawp_w rfl rfl rfl rfl (AOp.nextS _ rfl (by (simp (disch := omega) only [push_cast, ↓reduceIte, Nat.reduceEqDiff, Nat.reduceAdd, Nat.reduceLeDiff, sx, Int.reduceSub, Int.reduceToNat, Int.reduceAdd]) <;> rfl) (by (simp (disch := omega) only [push_cast, ↓reduceIte, Nat.reduceEqDiff, Nat.reduceAdd, Nat.reduceLeDiff, sx, Int.reduceSub, Int.reduceToNat, Int.reduceAdd]) <;> rfl) ?_)
    refine dawp_p rfl (by (simp (disch := omega) only [push_cast, ↓reduceIte, Nat.reduceEqDiff, Nat.reduceAdd, Nat.reduceLeDiff, sx, Int.reduceSub, Int.reduceToNat, Int.reduceAdd]) <;> rfl) rfl rfl ?_
    refine re_ (hf := by (simp (disch := omega) only [push_cast, ↓reduceIte, Nat.reduceEqDiff, Nat.reduceAdd, Nat.reduceLeDiff, sx, Int.reduceSub, Int.reduceToNat, Int.reduceAdd]) <;> rfl) (hh := by (try simp (disch := omega) only [push_cast, ↓reduceIte, Nat.reduceEqDiff, Nat.reduceAdd, Nat.reduceLeDiff, sx, Int.reduceSub, Int.reduceToNat, Int.reduceAdd]) <;> rfl) ?_
    refine sk_ fun K2 hK2 => ?_
    refine cb_ (hb := by (simp (disch := omega) only [push_cast, ↓reduceIte, Nat.reduceEqDiff, Nat.reduceAdd, Nat.reduceLeDiff, sx, Int.reduceSub, Int.reduceToNat, Int.reduceAdd]) <;> rfl) (ht := fun hb3 => ?_) (hf := fun hb3 => ?_)
    rotate_left
    · simp only [hb3, nextV_f, cond_false]
      refine awp_exit (up_ ?_)
      refine hK1 _ ?_
      refine rs_ [4] ?_
      refine dawp_p rfl (by (simp (disch := omega) only [push_cast, ↓reduceIte, Nat.reduceEqDiff, Nat.reduceAdd, Nat.reduceLeDiff, sx, Int.reduceSub, Int.reduceToNat, Int.reduceAdd]) <;> rfl) rfl rfl ?_
      refine re_ (hf := by (simp (disch := omega) only [push_cast, ↓reduceIte, Nat.reduceEqDiff, Nat.reduceAdd, Nat.reduceLeDiff, sx, Int.reduceSub, Int.reduceToNat, Int.reduceAdd]) <;> rfl) (hh := by (try simp (disch := omega) only [push_cast, ↓reduceIte, Nat.reduceEqDiff, Nat.reduceAdd, Nat.reduceLeDiff, sx, Int.reduceSub, Int.reduceToNat, Int.reduceAdd]) <;> rfl) ?_
      refine awp_ret (up_ ?_)
      refine fp_ (hres := by (simp (disch := omega) only [aresults, aresult, push_cast, ↓reduceIte, Nat.reduceEqDiff, Nat.reduceAdd, Nat.reduceLeDiff, sx, Int.reduceSub, Int.reduceToNat, Int.reduceAdd]) <;> rfl) Tryz.results134 (hK := ?_)
      exact ⟨by rw [hb2]; rfl, rfl, rfl⟩
    simp only [hb3, nextV_t, cond_true]
    simp only [decide_eq_true_eq, decide_eq_false_iff_not, Bool.not_eq_true', Bool.not_eq_false', Bool.or_eq_true, Bool.and_eq_true, Bool.or_eq_false_iff, Bool.and_eq_false_imp, Int.not_lt, Int.not_le, push_cast] at hb3
    have hil : i < 2 := by omega
    have hdec := dec470 hil
    have hgd := getD470 hil
    rw [hdec]
    simp only []
    refine awp_skip (up_ ?_)
    refine hK2 _ ?_
    refine awp_block ?_
    refine rs_ [5, 6, 175] ?_
    iterate 4 (refine dawp_p rfl (by (simp (disch := omega) only [push_cast, ↓reduceIte, Nat.reduceEqDiff, Nat.reduceAdd, Nat.reduceLeDiff, sx, Int.reduceSub, Int.reduceToNat, Int.reduceAdd]) <;> rfl) rfl rfl ?_)
    refine re_ (hf := by (simp (disch := omega) only [push_cast, ↓reduceIte, Nat.reduceEqDiff, Nat.reduceAdd, Nat.reduceLeDiff, sx, Int.reduceSub, Int.reduceToNat, Int.reduceAdd]) <;> rfl) (hh := by (try simp (disch := omega) only [push_cast, ↓reduceIte, Nat.reduceEqDiff, Nat.reduceAdd, Nat.reduceLeDiff, sx, Int.reduceSub, Int.reduceToNat, Int.reduceAdd]) <;> rfl) ?_
    refine rs_ [5, 175, 181] ?_
    iterate 2 (refine dawp_p rfl (by (simp (disch := omega) only [push_cast, ↓reduceIte, Nat.reduceEqDiff, Nat.reduceAdd, Nat.reduceLeDiff, sx, Int.reduceSub, Int.reduceToNat, Int.reduceAdd]) <;> rfl) rfl rfl ?_)
    refine re_ (hf := by (simp (disch := omega) only [push_cast, ↓reduceIte, Nat.reduceEqDiff, Nat.reduceAdd, Nat.reduceLeDiff, sx, Int.reduceSub, Int.reduceToNat, Int.reduceAdd]) <;> rfl) (hh := by (try simp (disch := omega) only [push_cast, ↓reduceIte, Nat.reduceEqDiff, Nat.reduceAdd, Nat.reduceLeDiff, sx, Int.reduceSub, Int.reduceToNat, Int.reduceAdd]) <;> rfl) ?_
    refine cd_ (hb := by (simp (disch := omega) only [push_cast, ↓reduceIte, Nat.reduceEqDiff, Nat.reduceAdd, Nat.reduceLeDiff, sx, Int.reduceSub, Int.reduceToNat, Int.reduceAdd]) <;> rfl) (ht := fun hb4 => ?_) (hf := fun hb4 => ?_)
    · exfalso; omega
    refine awp_skip (up_ ?_)
    refine ⟨⟨i + 1, by omega⟩, ?_, (by first | rfl | trivial | (simp only [List.length_set]; done) | simp), by dsimp only; omega⟩
    try dsimp only
    refine Trunc.of (by first | exact (List.append_nil _).symm | exact rfl | (rw [List.append_assoc]; rfl)) ?_ (HCl.snoc hH trivial) (fun _ h => h)
    refine FTr.cons (by (simp (disch := omega) only [push_cast, ↓reduceIte, Nat.reduceEqDiff, Nat.reduceAdd, Nat.reduceLeDiff, sx, Int.reduceSub, Int.reduceToNat, Int.reduceAdd]) <;> first | rfl | (congr 2; omega)) (by simp [AV.cl, AV.clL]) ?_
    exact FTr.nil
  refine rs_ [0, 1, 183] ?_
  refine dawp_p rfl (by (simp (disch := omega) only [push_cast, ↓reduceIte, Nat.reduceEqDiff, Nat.reduceAdd, Nat.reduceLeDiff, sx, Int.reduceSub, Int.reduceToNat, Int.reduceAdd]) <;> rfl) rfl rfl ?_
  refine dawp_w rfl rfl rfl rfl (AOp.callx _ _ _ rfl (by (simp (disch := omega) only [push_cast, ↓reduceIte, Nat.reduceEqDiff, Nat.reduceAdd, Nat.reduceLeDiff, sx, Int.reduceSub, Int.reduceToNat, Int.reduceAdd]) <;> rfl) (by (simp (disch := omega) only [push_cast, ↓reduceIte, Nat.reduceEqDiff, Nat.reduceAdd, Nat.reduceLeDiff, sx, Int.reduceSub, Int.reduceToNat, Int.reduceAdd]) <;> rfl) ?_)
  refine (c140 _ _ _).mono ?_; rintro _ _ _ ⟨rfl, rfl, rfl⟩
  iterate 2 (refine dawp_p rfl (by (simp (disch := omega) only [push_cast, ↓reduceIte, Nat.reduceEqDiff, Nat.reduceAdd, Nat.reduceLeDiff, sx, Int.reduceSub, Int.reduceToNat, Int.reduceAdd]) <;> rfl) rfl rfl ?_)
  refine re_ (hf := by (simp (disch := omega) only [push_cast, ↓reduceIte, Nat.reduceEqDiff, Nat.reduceAdd, Nat.reduceLeDiff, sx, Int.reduceSub, Int.reduceToNat, Int.reduceAdd]) <;> rfl) (hh := by (try simp (disch := omega) only [push_cast, ↓reduceIte, Nat.reduceEqDiff, Nat.reduceAdd, Nat.reduceLeDiff, sx, Int.reduceSub, Int.reduceToNat, Int.reduceAdd]) <;> rfl) ?_
  refine cdn_ (hb := by (simp (disch := omega) only [push_cast, ↓reduceIte, Nat.reduceEqDiff, Nat.reduceAdd, Nat.reduceLeDiff, sx, Int.reduceSub, Int.reduceToNat, Int.reduceAdd]) <;> rfl) (ht := fun hb5 => ?_) (hf := fun hb5 => ?_)
  · refine rs_ [4] ?_
    refine dawp_p rfl (by (simp (disch := omega) only [push_cast, ↓reduceIte, Nat.reduceEqDiff, Nat.reduceAdd, Nat.reduceLeDiff, sx, Int.reduceSub, Int.reduceToNat, Int.reduceAdd]) <;> rfl) rfl rfl ?_
    refine re_ (hf := by (simp (disch := omega) only [push_cast, ↓reduceIte, Nat.reduceEqDiff, Nat.reduceAdd, Nat.reduceLeDiff, sx, Int.reduceSub, Int.reduceToNat, Int.reduceAdd]) <;> rfl) (hh := by (try simp (disch := omega) only [push_cast, ↓reduceIte, Nat.reduceEqDiff, Nat.reduceAdd, Nat.reduceLeDiff, sx, Int.reduceSub, Int.reduceToNat, Int.reduceAdd]) <;> rfl) ?_
    refine awp_ret (up_ ?_)
    refine fp_ (hres := by (simp (disch := omega) only [aresults, aresult, push_cast, ↓reduceIte, Nat.reduceEqDiff, Nat.reduceAdd, Nat.reduceLeDiff, sx, Int.reduceSub, Int.reduceToNat, Int.reduceAdd]) <;> rfl) Tryz.results134 (hK := ?_)
    exact ⟨by rw [irF_high hr], rfl, rfl⟩
  obtain ⟨hl1, hl2, hl3⟩ := encS_facts hb5 hr
  refine awp_scope ?_
  refine rs_ [0, 7] ?_
  iterate 3 (refine dawp_p rfl (by (simp (disch := omega) only [push_cast, ↓reduceIte, Nat.reduceEqDiff, Nat.reduceAdd, Nat.reduceLeDiff, sx, Int.reduceSub, Int.reduceToNat, Int.reduceAdd]) <;> rfl) rfl rfl ?_)
  refine re_ (hf := by (simp (disch := omega) only [push_cast, ↓reduceIte, Nat.reduceEqDiff, Nat.reduceAdd, Nat.reduceLeDiff, sx, Int.reduceSub, Int.reduceToNat, Int.reduceAdd]) <;> rfl) (hh := by (try simp (disch := omega) only [push_cast, ↓reduceIte, Nat.reduceEqDiff, Nat.reduceAdd, Nat.reduceLeDiff, sx, Int.reduceSub, Int.reduceToNat, Int.reduceAdd]) <;> rfl) ?_
  refine rs_ [0, 7, 8] ?_
  iterate 4 (refine dawp_p rfl (by (simp (disch := omega) only [push_cast, ↓reduceIte, Nat.reduceEqDiff, Nat.reduceAdd, Nat.reduceLeDiff, sx, Int.reduceSub, Int.reduceToNat, Int.reduceAdd]) <;> rfl) rfl rfl ?_)
  refine re_ (hf := by (simp (disch := omega) only [push_cast, ↓reduceIte, Nat.reduceEqDiff, Nat.reduceAdd, Nat.reduceLeDiff, sx, Int.reduceSub, Int.reduceToNat, Int.reduceAdd]) <;> rfl) (hh := by (try simp (disch := omega) only [push_cast, ↓reduceIte, Nat.reduceEqDiff, Nat.reduceAdd, Nat.reduceLeDiff, sx, Int.reduceSub, Int.reduceToNat, Int.reduceAdd]) <;> rfl) ?_
  refine rs_ [0, 7, 8, 9] ?_
  iterate 2 (refine dawp_p rfl (by (simp (disch := omega) only [push_cast, ↓reduceIte, Nat.reduceEqDiff, Nat.reduceAdd, Nat.reduceLeDiff, sx, Int.reduceSub, Int.reduceToNat, Int.reduceAdd]) <;> rfl) rfl rfl ?_)
  refine re_ (hf := by (simp (disch := omega) only [push_cast, ↓reduceIte, Nat.reduceEqDiff, Nat.reduceAdd, Nat.reduceLeDiff, sx, Int.reduceSub, Int.reduceToNat, Int.reduceAdd]) <;> rfl) (hh := by (try simp (disch := omega) only [push_cast, ↓reduceIte, Nat.reduceEqDiff, Nat.reduceAdd, Nat.reduceLeDiff, sx, Int.reduceSub, Int.reduceToNat, Int.reduceAdd]) <;> rfl) ?_
  refine rs_ [0, 7, 8, 9] ?_
  refine dawp_p rfl (by (simp (disch := omega) only [push_cast, ↓reduceIte, Nat.reduceEqDiff, Nat.reduceAdd, Nat.reduceLeDiff, sx, Int.reduceSub, Int.reduceToNat, Int.reduceAdd]) <;> rfl) rfl rfl ?_
  refine re_ (hf := by (simp (disch := omega) only [push_cast, ↓reduceIte, Nat.reduceEqDiff, Nat.reduceAdd, Nat.reduceLeDiff, sx, Int.reduceSub, Int.reduceToNat, Int.reduceAdd]) <;> rfl) (hh := by (try simp (disch := omega) only [push_cast, ↓reduceIte, Nat.reduceEqDiff, Nat.reduceAdd, Nat.reduceLeDiff, sx, Int.reduceSub, Int.reduceToNat, Int.reduceAdd]) <;> rfl) ?_
  refine sk_ fun K3 hK3 => ?_
  refine awp_block ?_
  refine awp_loop' (X := Unit) (fun x => ⟨Tryz.f134.ntmps, fget [(0, .str [47, 0]), (7, .str (encS r)), (8, .int .i64 (((encS r).length : Nat) - 1)), (9, .int .i64 (((encS r).length : Nat) - 1))], h, live⟩) (fun x => 0) (()) ?_ (by first | rfl | simp only [List.length_set]) (fun x => ?_)
  · try dsimp only
    refine Trunc.same ?_ hH
    refine FTr.cons (by first | rfl | ((simp (disch := omega) only [push_cast, ↓reduceIte, Nat.reduceEqDiff, Nat.reduceAdd, Nat.reduceLeDiff, sx, Int.reduceSub, Int.reduceToNat, Int.reduceAdd]) <;> rfl)) (by simp [AV.cl, AV.clL, clL_str]) ?_
    refine FTr.cons (by first | rfl | ((simp (disch := omega) only [push_cast, ↓reduceIte, Nat.reduceEqDiff, Nat.reduceAdd, Nat.reduceLeDiff, sx, Int.reduceSub, Int.reduceToNat, Int.reduceAdd]) <;> rfl)) (by simp [AV.cl, AV.clL, clL_str]) ?_
    refine FTr.cons (by first | rfl | ((simp (disch := omega) only [push_cast, ↓reduceIte, Nat.reduceEqDiff, Nat.reduceAdd, Nat.reduceLeDiff, sx, Int.reduceSub, Int.reduceToNat, Int.reduceAdd]) <;> rfl)) (by simp [AV.cl, AV.clL, clL_str]) ?_
    refine FTr.cons (by first | rfl | ((simp (disch := omega) only [push_cast, ↓reduceIte, Nat.reduceEqDiff, Nat.reduceAdd, Nat.reduceLeDiff, sx, Int.reduceSub, Int.reduceToNat, Int.reduceAdd]) <;> rfl)) (by simp [AV.cl, AV.clL, clL_str]) ?_
    exact FTr.nil
  try dsimp only
  refine sk_ fun K4 hK4 => ?_
  refine rs_ [0, 7, 8, 9, 26] ?_
  iterate 4 (refine dawp_p rfl (by (simp (disch := omega) only [push_cast, ↓reduceIte, Nat.reduceEqDiff, Nat.reduceAdd, Nat.reduceLeDiff, sx, Int.reduceSub, Int.reduceToNat, Int.reduceAdd]) <;> rfl) rfl rfl ?_)
  refine re_ (hf := by (simp (disch := omega) only [push_cast, ↓reduceIte, Nat.reduceEqDiff, Nat.reduceAdd, Nat.reduceLeDiff, sx, Int.reduceSub, Int.reduceToNat, Int.reduceAdd]) <;> rfl) (hh := by (try simp (disch := omega) only [push_cast, ↓reduceIte, Nat.reduceEqDiff, Nat.reduceAdd, Nat.reduceLeDiff, sx, Int.reduceSub, Int.reduceToNat, Int.reduceAdd]) <;> rfl) ?_
  refine cdn_ (hb := by (simp (disch := omega) only [push_cast, ↓reduceIte, Nat.reduceEqDiff, Nat.reduceAdd, Nat.reduceLeDiff, sx, Int.reduceSub, Int.reduceToNat, Int.reduceAdd]) <;> rfl) (ht := fun hb6 => ?_) (hf := fun hb6 => ?_)
  rotate_left
  · refine awp_exit (up_ ?_)
    refine hK3 _ ?_
    refine sk_ fun K5 hK5 => ?_
    refine rs_ [4] ?_
    refine dawp_p rfl (by (simp (disch := omega) only [push_cast, ↓reduceIte, Nat.reduceEqDiff, Nat.reduceAdd, Nat.reduceLeDiff, sx, Int.reduceSub, Int.reduceToNat, Int.reduceAdd]) <;> rfl) rfl rfl ?_
    refine re_ (hf := by (simp (disch := omega) only [push_cast, ↓reduceIte, Nat.reduceEqDiff, Nat.reduceAdd, Nat.reduceLeDiff, sx, Int.reduceSub, Int.reduceToNat, Int.reduceAdd]) <;> rfl) (hh := by (try simp (disch := omega) only [push_cast, ↓reduceIte, Nat.reduceEqDiff, Nat.reduceAdd, Nat.reduceLeDiff, sx, Int.reduceSub, Int.reduceToNat, Int.reduceAdd]) <;> rfl) ?_
    refine awp_ret (up_ ?_)
    refine fp_ (hres := by (simp (disch := omega) only [aresults, aresult, push_cast, ↓reduceIte, Nat.reduceEqDiff, Nat.reduceAdd, Nat.reduceLeDiff, sx, Int.reduceSub, Int.reduceToNat, Int.reduceAdd]) <;> rfl) Tryz.results134 (hK := ?_)
    exact ⟨by rw [irF_high hr], rfl, rfl⟩
  simp only [decide_eq_true_eq, decide_eq_false_iff_not, Bool.not_eq_true', Bool.not_eq_false', Bool.or_eq_true, Bool.and_eq_true, Bool.or_eq_false_iff, Bool.and_eq_false_imp, Int.not_lt, Int.not_le, push_cast] at hb6
  have hl : (encS r).length = 2 := by omega
  simp only [hl]
  refine awp_skip (up_ ?_)
  refine hK4 _ ?_
  refine awp_block ?_
  refine awp_scope ?_
  refine sk_ fun K6 hK6 => ?_
  refine rsq_ [0, 7, 8, 9, 33] ⟨false, [], [], [], [], [], 0⟩ (fun _ => ⟨by kernel_rfl, by kernel_rfl⟩) ?_
  iterate 7 (refine dawp_p rfl (by (simp (disch := omega) only [push_cast, ↓reduceIte, Nat.reduceEqDiff, Nat.reduceAdd, Nat.reduceLeDiff, sx, Int.reduceSub, Int.reduceToNat, Int.reduceAdd]) <;> rfl) rfl rfl ?_)
  refine re_ (hf := by (simp (disch := omega) only [push_cast, ↓reduceIte, Nat.reduceEqDiff, Nat.reduceAdd, Nat.reduceLeDiff, sx, Int.reduceSub, Int.reduceToNat, Int.reduceAdd]) <;> rfl) (hh := by (try simp (disch := omega) only [push_cast, ↓reduceIte, Nat.reduceEqDiff, Nat.reduceAdd, Nat.reduceLeDiff, sx, Int.reduceSub, Int.reduceToNat, Int.reduceAdd]) <;> rfl) ?_
  refine cd_ (hb := by (simp (disch := omega) only [push_cast, ↓reduceIte, Nat.reduceEqDiff, Nat.reduceAdd, Nat.reduceLeDiff, sx, Int.reduceSub, Int.reduceToNat, Int.reduceAdd]) <;> rfl) (ht := fun hb7 => ?_) (hf := fun hb7 => ?_)
  rotate_left
  · exfalso; rw [hl] at hl3; change 128 ≤ ((encS r).getD 1 0).toNat at hl3; have : (([47, 0] : List UInt8).getD 1 0).toNat = 0 := rfl; omega
  refine rsq_ [0, 7, 8, 9, 11] ⟨false, [], [], [], [], [], 0⟩ (fun _ => ⟨by kernel_rfl, by kernel_rfl⟩) ?_
  iterate 7 (refine dawp_p rfl (by (simp (disch := omega) only [push_cast, ↓reduceIte, Nat.reduceEqDiff, Nat.reduceAdd, Nat.reduceLeDiff, sx, Int.reduceSub, Int.reduceToNat, Int.reduceAdd]) <;> rfl) rfl rfl ?_)
  refine dawp_w rfl rfl rfl rfl (AOp.callx _ _ _ rfl (by (simp (disch := omega) only [push_cast, ↓reduceIte, Nat.reduceEqDiff, Nat.reduceAdd, Nat.reduceLeDiff, sx, Int.reduceSub, Int.reduceToNat, Int.reduceAdd]) <;> rfl) (by (simp (disch := omega) only [push_cast, ↓reduceIte, Nat.reduceEqDiff, Nat.reduceAdd, Nat.reduceLeDiff, sx, Int.reduceSub, Int.reduceToNat, Int.reduceAdd]) <;> rfl) ?_)
  refine (c117 _ _ _ _).mono ?_; rintro _ _ _ ⟨rfl, rfl, rfl⟩
  refine dawp_p rfl (by (simp (disch := omega) only [push_cast, ↓reduceIte, Nat.reduceEqDiff, Nat.reduceAdd, Nat.reduceLeDiff, sx, Int.reduceSub, Int.reduceToNat, Int.reduceAdd]) <;> rfl) rfl rfl ?_
  refine re_ (hf := by (simp (disch := omega) only [push_cast, ↓reduceIte, Nat.reduceEqDiff, Nat.reduceAdd, Nat.reduceLeDiff, sx, Int.reduceSub, Int.reduceToNat, Int.reduceAdd]) <;> rfl) (hh := by (try simp (disch := omega) only [push_cast, ↓reduceIte, Nat.reduceEqDiff, Nat.reduceAdd, Nat.reduceLeDiff, sx, Int.reduceSub, Int.reduceToNat, Int.reduceAdd]) <;> rfl) ?_
  refine sk_ fun K7 hK7 => ?_
  refine rs_ [0, 7, 8, 9, 11, 43] ?_
  iterate 2 (refine dawp_p rfl (by (simp (disch := omega) only [push_cast, ↓reduceIte, Nat.reduceEqDiff, Nat.reduceAdd, Nat.reduceLeDiff, sx, Int.reduceSub, Int.reduceToNat, Int.reduceAdd]) <;> rfl) rfl rfl ?_)
  refine re_ (hf := by (simp (disch := omega) only [push_cast, ↓reduceIte, Nat.reduceEqDiff, Nat.reduceAdd, Nat.reduceLeDiff, sx, Int.reduceSub, Int.reduceToNat, Int.reduceAdd]) <;> rfl) (hh := by (try simp (disch := omega) only [push_cast, ↓reduceIte, Nat.reduceEqDiff, Nat.reduceAdd, Nat.reduceLeDiff, sx, Int.reduceSub, Int.reduceToNat, Int.reduceAdd]) <;> rfl) ?_
  refine cd_ (hb := by (simp (disch := omega) only [push_cast, ↓reduceIte, Nat.reduceEqDiff, Nat.reduceAdd, Nat.reduceLeDiff, sx, Int.reduceSub, Int.reduceToNat, Int.reduceAdd]) <;> rfl) (ht := fun hb8 => ?_) (hf := fun hb8 => ?_)
  · refine rs_ [4] ?_
    refine dawp_p rfl (by (simp (disch := omega) only [push_cast, ↓reduceIte, Nat.reduceEqDiff, Nat.reduceAdd, Nat.reduceLeDiff, sx, Int.reduceSub, Int.reduceToNat, Int.reduceAdd]) <;> rfl) rfl rfl ?_
    refine re_ (hf := by (simp (disch := omega) only [push_cast, ↓reduceIte, Nat.reduceEqDiff, Nat.reduceAdd, Nat.reduceLeDiff, sx, Int.reduceSub, Int.reduceToNat, Int.reduceAdd]) <;> rfl) (hh := by (try simp (disch := omega) only [push_cast, ↓reduceIte, Nat.reduceEqDiff, Nat.reduceAdd, Nat.reduceLeDiff, sx, Int.reduceSub, Int.reduceToNat, Int.reduceAdd]) <;> rfl) ?_
    refine awp_ret (up_ ?_)
    refine fp_ (hres := by (simp (disch := omega) only [aresults, aresult, push_cast, ↓reduceIte, Nat.reduceEqDiff, Nat.reduceAdd, Nat.reduceLeDiff, sx, Int.reduceSub, Int.reduceToNat, Int.reduceAdd]) <;> rfl) Tryz.results134 (hK := ?_)
    exact ⟨by rw [irF_high hr], rfl, rfl⟩
  exfalso; have : Lib.indexByte (List.take (2 - 2) ([] : List UInt8)) ((encS r).getD 1 0) = -1 := rfl; omega

theorem c124 (s : List UInt8) (h : List Blk) (live : List Nat) (hs : s.length ≤ 9223372036854775807) : ACalls Tryz.prog 124 [.str s, .str [47, 0]] h live (fun x h' l' => ∃ r : Int, x = .int .i64 r ∧ decide (0 ≤ r) = s.any sl0 ∧ h' = h ∧ l' = live) := by
  refine ab_ Tryz.func124 (hw := fun hH hX => ?_)
  have hno : s.any sl0 = false → decide ((0 : Int) ≤ -1) = s.any sl0 := fun e => by rw [e]; rfl
  have hyes : ∀ i : Nat, s.any sl0 = true → decide ((0 : Int) ≤ i) = s.any sl0 := fun i e => by rw [e]; exact decide_eq_true (Int.natCast_nonneg i)
  have sx := (And.intro @azero_as (And.intro @tk_as (And.intro @as_put0 (And.intro @as2_take sx0))))
  refine rg_ [0, 1] ?_
  refine sk_ fun K1 hK1 => ?_
  refine rg_ [0, 1, 12] ?_
  refine cdn_ (ht := fun hb1 => ?_) (hf := fun hb1 => ?_)
  · exfalso; simp at hb1
  refine awp_skip (up_ ?_)
  refine hK1 _ ?_
  refine sk_ fun K2 hK2 => ?_
  refine rg_ [0, 1, 15] ?_
  refine cdn_ (ht := fun hb2 => ?_) (hf := fun hb2 => ?_)
  · exfalso; simp at hb2
  refine awp_skip (up_ ?_)
  refine hK2 _ ?_
  refine sk_ fun K3 hK3 => ?_
  refine rs_ [0, 1, 26] ?_
  refine sg_ ?_
  refine cl_ (hc := c135 _ _ _) (k := ?_)
  refine re_ ?_
  refine cb_ (ht := fun hb4 => ?_) (hf := fun hb4 => ?_)
  · refine rs_ [0, 1, 6, 7] ?_
    refine sg_ ?_
    refine cl_ (hc := c136 _ _) (k := ?_)
    refine sg_ ?_
    refine re_ ?_
    refine rg_ [0, 1, 6, 32] ?_
    refine cb_ (ht := fun hb5 => ?_) (hf := fun hb5 => ?_)
    · refine sk_ fun K4 hK4 => ?_
      refine rg_ [0, 6, 8] ?_
      refine awp_block ?_
      refine awp_loop' (X := {i : Nat // i ≤ s.length ∧ ∀ j, j < i → sl0 (s.getD j 0) = false}) (fun x => ⟨Tryz.f124.ntmps, fget [(0, .str s), (6, .ptr h.length 0), (8, .int .i64 (x.1 : Nat))], h ++ [.cells as2], live⟩) (fun x => s.length - x.1) (⟨0, by omega, fun j hj => by omega⟩) ?_ (by first | rfl | simp only [List.length_set]) (fun ⟨i, hi, hn⟩ => ?_)
      · try dsimp only
        exact tf_ (HCl.snoc hH (clL_as _ _ as2_b)) (fun _ h => h)
      try dsimp only
      refine sk_ fun K5 hK5 => ?_
      refine rg_ [0, 6, 8, 36] ?_
      refine cd_ (ht := fun hb6 => ?_) (hf := fun hb6 => ?_)
      rotate_left
      · have hf := hno (any_take_false hn (by omega))
        refine awp_exit (up_ ?_)
        refine hK4 _ ?_
        refine rg_ [4] ?_
        refine awp_ret (up_ ?_)
        refine fp_ Tryz.results124 (hK := ?_)
        first | exact ⟨_, rfl, hf, rfl, rfl⟩ | exact ⟨_, rfl, ht, rfl, rfl⟩
      have hil : i < s.length := by omega
      refine awp_skip (up_ ?_)
      refine hK5 _ ?_
      refine sk_ fun K6 hK6 => ?_
      refine awp_block ?_
      refine rs_ [0, 6, 8, 42] ?_
      refine sg_ ?_
      refine cl_ (hc := c137 _ (s.getD i 0) _ _ (by simp only [push_cast])) (k := ?_)
      refine re_ ?_
      refine cb_ (ht := fun hb7 => ?_) (hf := fun hb7 => ?_)
      · have ht := hyes i (any_get_true hil hb7)
        refine rg_ [4] ?_
        refine awp_ret (up_ ?_)
        refine fp_ Tryz.results124 (hK := ?_)
        first | exact ⟨_, rfl, hf, rfl, rfl⟩ | exact ⟨_, rfl, ht, rfl, rfl⟩
      refine awp_skip (up_ ?_)
      refine hK6 _ ?_
      refine rt_ [0, 6, 8] ?_
      refine sg_ ?_
      refine rn_ (up_ ?_)
      refine ⟨⟨i + 1, by omega, fun j hj => by rcases Nat.lt_succ_iff_lt_or_eq.1 hj with h | h; exact hn j h; subst h; exact hb7⟩, ?_, (by first | rfl | trivial | (simp only [List.length_set]; done) | simp), by dsimp only; omega⟩
      try dsimp only
      exact tf_ (HCl.snoc hH (clL_as _ _ as2_b)) (fun _ h => h)
    exfalso; simp at hb5
  refine awp_skip (up_ ?_)
  refine hK3 _ ?_
  refine sk_ fun K7 hK7 => ?_
  refine rs_ [1, 45] ?_
  refine sg_ ?_
  refine dawp_w rfl rfl rfl rfl (AOp.rangeS _ _ rfl Ty.isStrT_9 (by (simp (disch := omega) only [push_cast, ↓reduceIte, Nat.reduceEqDiff, Nat.reduceAdd, Nat.reduceLeDiff, sx]) <;> rfl) ?_)
  refine re_ ?_
  refine awp_block ?_
  refine awp_loop' (X := {i : Nat // i ≤ s.length ∧ ∀ j, j < i → sl0 (s.getD j 0) = false}) (fun x => ⟨Tryz.f124.ntmps, fget [(1, .str [47, 0]), (45, .ptr h.length 0)], h ++ [.siter s x.1], live⟩) (fun x => s.length - x.1) (⟨0, by omega, fun j hj => by omega⟩) ?_ (by first | rfl | simp only [List.length_set]) (fun ⟨i, hi, hn⟩ => ?_)
  · try dsimp only
    exact tf_ (HCl.snoc hH trivial) (fun _ h => h)
  try dsimp only
  refine rs_ [1, 45, 46, 47] ?_
  refine dawp_w rfl rfl rfl rfl (AOp.nextS _ rfl (by (simp (disch := omega) only [push_cast, ↓reduceIte, Nat.reduceEqDiff, Nat.reduceAdd, Nat.reduceLeDiff, sx]) <;> rfl) (by (simp (disch := omega) only [push_cast, ↓reduceIte, Nat.reduceEqDiff, Nat.reduceAdd, Nat.reduceLeDiff, sx]) <;> rfl) ?_)
  refine sg_ ?_
  refine re_ ?_
  refine sk_ fun K8 hK8 => ?_
  refine cb_ (ht := fun hb8 => ?_) (hf := fun hb8 => ?_)
  rotate_left
  · simp only [hb8, nextV_f, cond_false]
    simp only [decide_eq_true_eq, decide_eq_false_iff_not, Bool.not_eq_true', Bool.not_eq_false', Bool.or_eq_true, Bool.and_eq_true, Bool.or_eq_false_iff, Bool.and_eq_false_imp, Int.not_lt, Int.not_le] at hb8
    have hf := hno (any_take_false hn (by omega))
    refine awp_exit (up_ ?_)
    refine hK7 _ ?_
    refine rg_ [4] ?_
    refine awp_ret (up_ ?_)
    refine fp_ Tryz.results124 (hK := ?_)
    first | exact ⟨_, rfl, hf, rfl, rfl⟩ | exact ⟨_, rfl, ht, rfl, rfl⟩
  simp only [hb8, nextV_t, cond_true]
  simp only [decide_eq_true_eq, decide_eq_false_iff_not, Bool.not_eq_true', Bool.not_eq_false', Bool.or_eq_true, Bool.and_eq_true, Bool.or_eq_false_iff, Bool.and_eq_false_imp, Int.not_lt, Int.not_le] at hb8
  have hil : i < s.length := by omega
  have hst := ir_step hil
  have hle := dec_le s i
  refine awp_skip (up_ ?_)
  refine hK8 _ ?_
  refine awp_block ?_
  refine rg_ [1, 9, 10, 45] ?_
  refine rs_ [1, 9, 45, 53] ?_
  refine sg_ ?_
  refine cl_ (hc := c134 _ _ _ (by omega) (by omega)) (k := ?_)
  refine sg_ ?_
  refine re_ ?_
  refine cb_ (ht := fun hb9 => ?_) (hf := fun hb9 => ?_)
  · rw [hst.1] at hb9
    have ht := hyes i (any_get_true hil hb9)
    refine rg_ [4] ?_
    refine awp_ret (up_ ?_)
    refine fp_ Tryz.results124 (hK := ?_)
    first | exact ⟨_, rfl, hf, rfl, rfl⟩ | exact ⟨_, rfl, ht, rfl, rfl⟩
  rw [hst.1] at hb9
  have hsl := hb9
  refine awp_skip (up_ ?_)
  refine ⟨⟨i + (dec s i).2, (hst.2 hsl).1, fun j hj => by by_cases hji : j < i; exact hn j hji; exact (hst.2 hsl).2.2 j (by omega) hj⟩, ?_, (by first | rfl | trivial | (simp only [List.length_set]; done) | simp), by have := (hst.2 hsl).2.1; have := (hst.2 hsl).1; dsimp only; omega⟩
  try dsimp only
  exact tf_ (HCl.snoc hH trivial) (fun _ h => h)

theorem c108 (s : List UInt8) (h : List Blk) (live : List Nat) (hs : s.length ≤ 9223372036854775807) : ACalls Tryz.prog 108 [.str s, .str [47, 0]] h live (ret (.bool (s.any sl0)) h live) := by
  refine ab_ Tryz.func108 (hw := fun hH hX => ?_)
  have sx := sx0
  refine rg_ [0, 1] ?_
  refine rs_ [4] ?_
  refine sg_ ?_
  refine ck_ (k := ?_)
  refine (c124 s _ _ hs).mono ?_; rintro _ _ _ ⟨r, rfl, hr, rfl, rfl⟩
  refine sg_ ?_
  refine re_ ?_
  refine awp_ret (up_ ?_)
  refine fp_ Tryz.results108 (hK := ?_)
  exact ⟨by rw [hr], rfl, rfl⟩

end Go.Proofs.YtjoklidphbmpoaaGreat
