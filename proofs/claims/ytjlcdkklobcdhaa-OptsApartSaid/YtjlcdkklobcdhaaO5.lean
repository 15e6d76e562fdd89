import Derived.Test.YtjlcdkklobcdhaaO3
/-
  OPTIONS: a word's letters, and how words are read.
-/
namespace Go.Proofs.Ytjlcdkklobcdhaa
open Go.Ab
set_option linter.unusedVariables false
set_option linter.unusedSimpArgs false


/-- A word's letters: the options, and the words that are left behind it. -/
def letters (may : List UInt8) : List UInt8 → List Fl → List (List UInt8) → Option (List Fl × List (List UInt8))
  | [], fl, left => some (fl, left)
  | c :: s, fl, left =>
    bif mayB may c then
      bif valB may c then
        match s with
        | [] => match left with
          | [] => none
          | a :: r => some (fl ++ [(c, a)], r)
        | d :: s => some (fl ++ [(c, d :: s)], left)
      else letters may s (fl ++ [(c, [])]) left
    else none

theorem drop_getD {α : Type} (s : List α) (i : Nat) (d : α) (hi : i < s.length) : s.drop i = s.getD i d :: s.drop (i + 1) := by
  rw [List.drop_eq_getElem_cons hi]; simp [List.getD_eq_getElem?_getD, hi]

theorem letters_cons (may : List UInt8) (c : UInt8) (s : List UInt8) (fl : List Fl) (left : List (List UInt8)) : letters may (c :: s) fl left = bif mayB may c then bif valB may c then (match s with
        | [] => match left with
          | [] => none
          | a :: r => some (fl ++ [(c, a)], r)
        | d :: s => some (fl ++ [(c, d :: s)], left)) else letters may s (fl ++ [(c, [])]) left else none := by
  cases s <;> cases left <;> rfl

section
variable {may s : List UInt8} {i : Nat} {fl : List Fl} {left : List (List UInt8)}
theorem letters_no (hi : i < s.length) (hm : mayB may (s.getD i 0) = false) : letters may (s.drop i) fl left = none := by
  rw [drop_getD s i 0 hi, letters_cons, hm]; rfl
theorem letters_plain (hi : i < s.length) (hm : mayB may (s.getD i 0) = true) (hv : valB may (s.getD i 0) = false) : letters may (s.drop i) fl left = letters may (s.drop (i + 1)) (fl ++ [(s.getD i 0, [])]) left := by
  rw [drop_getD s i 0 hi, letters_cons, hm, hv]; rfl
theorem letters_own (hi : i < s.length) (hm : mayB may (s.getD i 0) = true) (hv : valB may (s.getD i 0) = true) (he : s.drop (i + 1) ≠ []) : letters may (s.drop i) fl left = some (fl ++ [(s.getD i 0, s.drop (i + 1))], left) := by
  rw [drop_getD s i 0 hi, letters_cons, hm, hv]
  cases h : s.drop (i + 1) with
  | nil => exact absurd h he
  | cons d s' => rfl
theorem letters_next (hi : i < s.length) (hm : mayB may (s.getD i 0) = true) (hv : valB may (s.getD i 0) = true) (he : s.drop (i + 1) = []) (hl : 0 < left.length) : letters may (s.drop i) fl left = some (fl ++ [(s.getD i 0, left.getD 0 [])], left.drop 1) := by
  rw [drop_getD s i 0 hi, letters_cons, hm, hv, he]
  cases left with
  | nil => simp at hl
  | cons a r => rfl
theorem letters_none (hi : i < s.length) (hm : mayB may (s.getD i 0) = true) (hv : valB may (s.getD i 0) = true) (he : s.drop (i + 1) = []) (hl : left.length = 0) : letters may (s.drop i) fl left = none := by
  rw [drop_getD s i 0 hi, letters_cons, hm, hv, he]
  cases left with
  | nil => rfl
  | cons a r => simp at hl
theorem letters_end (hi : s.length ≤ i) : letters may (s.drop i) fl left = some (fl, left) := by
  rw [List.drop_of_length_le hi]; rfl
end

theorem cells_eF (l : List Fl) : ∀ y ∈ l.map eF, y.cells.length = 2 := by
  intro y hy; obtain ⟨x, _, rfl⟩ := List.mem_map.1 hy; rfl
theorem cells_strs (l : List (List UInt8)) : ∀ y ∈ l.map AV.str, y.cells.length = 1 := by
  intro y hy; obtain ⟨x, _, rfl⟩ := List.mem_map.1 hy; rfl

theorem eF_snoc (l : List Fl) (a : UInt8) (v : List UInt8) : l.map eF ++ [.agg [.int .u8 a.toNat, .str v]] = (l ++ [(a, v)]).map eF := by simp [eF]
theorem len_snoc {α : Type} (l : List α) (a : α) : (l ++ [a]).length = l.length + 1 := by simp
/-- What a word leaves in the reader. -/
def wordK (k : Nat) (may : List UInt8) (rst : AV) (h : List Blk) (live : List Nat) (c : Cap) (res : Option (List Fl × List (List UInt8))) : KT := fun x h' live' =>
  x = .bool res.isSome ∧ ∃ b c', h' = h.set k b ∧ Keeps live c live' c' ∧ ∀ fl left, res = some (fl, left) → ∃ cl', b = .cells [.slice (fl.map eF) c', rst, .str may, .slice (left.map .str) cl']

theorem letters_spec (may : List UInt8) : ∀ (s : List UInt8) (fl : List Fl) (left : List (List UInt8)) (fl' : List Fl) (left' : List (List UInt8)), letters may s fl left = some (fl', left') → (left' = left ∨ left' = left.drop 1) ∧ fl'.length ≤ fl.length + s.length
  | [], fl, left, fl', left', h => by cases h; exact ⟨.inl rfl, by simp⟩
  | c :: s, fl, left, fl', left', h => by
    rw [letters_cons] at h
    cases hm : mayB may c <;> rw [hm] at h
    · cases h
    · cases hv : valB may c <;> rw [hv] at h
      · have := letters_spec may s (fl ++ [(c, [])]) left fl' left' h
        simp at this ⊢
        exact ⟨this.1, by omega⟩
      · cases s with
        | nil => cases left with
          | nil => cases h
          | cons a r => cases h; exact ⟨.inr rfl, by simp⟩
        | cons d s => cases h; exact ⟨.inl rfl, by simp⟩

set_option maxHeartbeats 400000 in
theorem c18 (may s : List UInt8) (fl : List Fl) (left : List (List UInt8)) (c cl : Cap) (rst : AV) (k : Nat) (h : List Blk) (live : List Nat) (hk : h[k]? = some (.cells [.slice (fl.map eF) c, rst, .str may, .slice (left.map .str) cl])) (hc : CapOK live c) (hrst : rst.cl h.length) (hm : may.length ≤ 1000000) (hs : s.length ≤ 1000000) (hfl : fl.length ≤ 1000000) (hleft : left.length ≤ 1000000) :
    ACalls Try.prog 18 [.ptr k 0, .str s] h live (wordK k may rst h live c (letters may s fl left)) := by
  refine acalls_of_awp Try.func18 rfl rfl (Nat.le_of_ble_eq_true rfl) fun hH hX => ?_
  simp only [fargs]
  have hkl : k < h.length := (List.getElem?_eq_some_iff.1 hk).1
  have hB : ∀ (a : List Fl) b (d : List (List UInt8)) e, HCl (h.set k (.cells [.slice (a.map eF) b, rst, .str may, .slice (d.map .str) e])) := fun a b d e => HCl.set hH k (by simp [Blk.cl, AV.cl, AV.clL, clL_eF, clL_str, hrst])
  refine awp_seq_k fun K1 hK1 => ?_
  refine awp_region_keep [0, 1] ⟨false, [], [], []⟩ (fun h => nomatch h) ?_
  refine dawp_p rfl (by (simp (disch := omega) only [push_cast, and_true, cond_true, cond_false, if_pos, if_neg, ↓reduceIte, Nat.reduceEqDiff, Nat.reduceAdd, Nat.reduceLeDiff, eF_snoc]) <;> rfl) rfl rfl ?_
  refine dawp_nil ?_
  simp (disch := omega) only [push_cast, and_true, cond_true, cond_false, if_pos, if_neg, ↓reduceIte, Nat.reduceEqDiff, Nat.reduceAdd, Nat.reduceLeDiff, eF_snoc]
  refine hK1 _ ?_
  refine awp_seq_k fun K2 hK2 => ?_
  refine awp_seq_k fun K3 hK3 => ?_
  refine awp_region_keep [0, 1, 10, 11] ⟨false, [], [], []⟩ (fun h => nomatch h) ?_
  iterate 3 (refine dawp_p rfl (by (simp (disch := omega) only [push_cast, and_true, cond_true, cond_false, if_pos, if_neg, ↓reduceIte, Nat.reduceEqDiff, Nat.reduceAdd, Nat.reduceLeDiff, eF_snoc]) <;> rfl) rfl rfl ?_)
  refine dawp_nil ?_
  simp (disch := omega) only [push_cast, and_true, cond_true, cond_false, if_pos, if_neg, ↓reduceIte, Nat.reduceEqDiff, Nat.reduceAdd, Nat.reduceLeDiff, eF_snoc]
  refine hK3 _ ?_
  refine awp_block ?_
  refine awp_loop' (X := {p : Nat × List Fl × Cap × List Nat // p.1 ≤ s.length ∧ p.2.1.length ≤ fl.length + p.1 ∧ Keeps live c p.2.2.2 p.2.2.1 ∧ letters may (s.drop p.1) p.2.1 left = letters may s fl left}) (fun x => ⟨Try.f18.ntmps, fget [(0, .ptr k 0), (1, .str s), (10, .int .i64 s.length), (11, .int .i64 (x.1.1 : Nat))], h.set k (.cells [.slice (x.1.2.1.map eF) x.1.2.2.1, rst, .str may, .slice (left.map .str) cl]), x.1.2.2.2⟩) (fun x => s.length - x.1.1) (⟨⟨0, fl, c, live⟩, by simp, by simp, Keeps.refl hc, rfl⟩) ?_ (by first | rfl | simp only [List.length_set]) (fun ⟨⟨i, fl', c', live'⟩, hi, hfl', hkp, hlt⟩ => ?_)
  · skip
    dsimp only
    refine Trunc.of (by first | exact (List.append_nil _).symm | (rw [List.append_nil, set_self hk]) | rfl) ?_ (hB _ _ _ _) (fun _ h => h)
    refine FTr.cons (by first | rfl | (simp (disch := omega) only [push_cast, and_true, cond_true, cond_false, if_pos, if_neg, ↓reduceIte, Nat.reduceEqDiff, Nat.reduceAdd, Nat.reduceLeDiff, eF_snoc]; rfl)) (by simp [AV.cl, AV.clL, clL_eF, clL_str, hkl]) ?_
    refine FTr.cons (by first | rfl | (simp (disch := omega) only [push_cast, and_true, cond_true, cond_false, if_pos, if_neg, ↓reduceIte, Nat.reduceEqDiff, Nat.reduceAdd, Nat.reduceLeDiff, eF_snoc]; rfl)) (by simp [AV.cl, AV.clL, clL_eF, clL_str, hkl]) ?_
    refine FTr.cons (by first | rfl | (simp (disch := omega) only [push_cast, and_true, cond_true, cond_false, if_pos, if_neg, ↓reduceIte, Nat.reduceEqDiff, Nat.reduceAdd, Nat.reduceLeDiff, eF_snoc]; rfl)) (by simp [AV.cl, AV.clL, clL_eF, clL_str, hkl]) ?_
    refine FTr.cons (by first | rfl | (simp (disch := omega) only [push_cast, and_true, cond_true, cond_false, if_pos, if_neg, ↓reduceIte, Nat.reduceEqDiff, Nat.reduceAdd, Nat.reduceLeDiff, eF_snoc]; rfl)) (by simp [AV.cl, AV.clL, clL_eF, clL_str, hkl]) ?_
    exact FTr.nil
  dsimp only
  have hcok := hkp.ok
  dsimp only at hi hfl'
  refine awp_seq_k fun K4 hK4 => ?_
  refine awp_region_keep [0, 1, 10, 11, 12] ⟨false, [], [], []⟩ (fun h => nomatch h) ?_
  refine dawp_p rfl (by (simp (disch := omega) only [push_cast, and_true, cond_true, cond_false, if_pos, if_neg, ↓reduceIte, Nat.reduceEqDiff, Nat.reduceAdd, Nat.reduceLeDiff, eF_snoc]) <;> rfl) rfl rfl ?_
  refine dawp_nil ?_
  simp (disch := omega) only [push_cast, and_true, cond_true, cond_false, if_pos, if_neg, ↓reduceIte, Nat.reduceEqDiff, Nat.reduceAdd, Nat.reduceLeDiff, eF_snoc]
  refine hK4 _ ?_
  refine awp_seq_k fun K5 hK5 => ?_
  refine awp_cond (by (simp (disch := omega) only [push_cast, and_true, cond_true, cond_false, if_pos, if_neg, ↓reduceIte, Nat.reduceEqDiff, Nat.reduceAdd, Nat.reduceLeDiff, eF_snoc]) <;> rfl) (fun hb1 => ?_) (fun hb1 => ?_)
  rotate_left
  · skip
    try simp only [decide_eq_true_eq, decide_eq_false_iff_not, Bool.not_eq_true', Bool.not_eq_false', Bool.or_eq_true, Bool.and_eq_true, Bool.or_eq_false_iff, Bool.and_eq_false_imp, Int.not_lt, Int.not_le] at hb1
    refine awp_exit ?_
    simp (disch := omega) only [push_cast, and_true, cond_true, cond_false, if_pos, if_neg, ↓reduceIte, Nat.reduceEqDiff, Nat.reduceAdd, Nat.reduceLeDiff, eF_snoc]
    refine hK2 _ ?_
    refine awp_seq_k fun K6 hK6 => ?_
    refine awp_region_keep [4] ⟨false, [], [], []⟩ (fun h => nomatch h) ?_
    refine dawp_p rfl (by (simp (disch := omega) only [push_cast, and_true, cond_true, cond_false, if_pos, if_neg, ↓reduceIte, Nat.reduceEqDiff, Nat.reduceAdd, Nat.reduceLeDiff, eF_snoc]) <;> rfl) rfl rfl ?_
    refine dawp_nil ?_
    simp (disch := omega) only [push_cast, and_true, cond_true, cond_false, if_pos, if_neg, ↓reduceIte, Nat.reduceEqDiff, Nat.reduceAdd, Nat.reduceLeDiff, eF_snoc]
    refine hK6 _ ?_
    refine awp_ret ?_
    try simp only [push_cast]
    refine fin_gen (h1 := h.set k _) (live := _) (by (simp (disch := omega) only [Try.results18, aresults, aresult, push_cast, and_true, cond_true, cond_false, if_pos, if_neg, ↓reduceIte, Nat.reduceEqDiff, Nat.reduceAdd, Nat.reduceLeDiff, eF_snoc]) <;> rfl) (.inr (by simp only [atuple, AV.er, AV.erL, push_cast]; rfl)) (by simp [AV.cl, AV.clL]) (by first | exact ⟨_, rfl⟩ | exact ⟨[], (List.append_nil _).symm⟩ | exact ⟨_, by rw [List.append_assoc]; rfl⟩) ((hB _ _ _ _)) (by simp) (fun _ h => h) ?_
    rw [← hlt, letters_end (by omega)]
    exact ⟨rfl, _, c', rfl, hkp, by rintro _ _ ⟨⟩; exact ⟨_, rfl⟩⟩
  try simp only [decide_eq_true_eq, decide_eq_false_iff_not, Bool.not_eq_true', Bool.not_eq_false', Bool.or_eq_true, Bool.and_eq_true, Bool.or_eq_false_iff, Bool.and_eq_false_imp, Int.not_lt, Int.not_le] at hb1
  refine awp_skip ?_
  try simp only [push_cast]
  refine hK5 _ ?_
  refine awp_seq_k fun K7 hK7 => ?_
  refine awp_block ?_
  refine awp_seq_k fun K8 hK8 => ?_
  refine awp_region_keep [0, 1, 5, 10, 11] ⟨false, [], [], []⟩ (fun h => nomatch h) ?_
  iterate 2 (refine dawp_p rfl (by (simp (disch := omega) only [push_cast, and_true, cond_true, cond_false, if_pos, if_neg, ↓reduceIte, Nat.reduceEqDiff, Nat.reduceAdd, Nat.reduceLeDiff, eF_snoc]) <;> rfl) rfl rfl ?_)
  refine dawp_nil ?_
  simp (disch := omega) only [push_cast, and_true, cond_true, cond_false, if_pos, if_neg, ↓reduceIte, Nat.reduceEqDiff, Nat.reduceAdd, Nat.reduceLeDiff, eF_snoc]
  refine hK8 _ ?_
  refine awp_seq_k fun K9 hK9 => ?_
  refine awp_region_keep [0, 1, 5, 6, 7, 10, 11] ⟨false, [], [], []⟩ (fun h => nomatch h) ?_
  iterate 4 (refine dawp_p rfl (by (simp (disch := omega) only [push_cast, and_true, cond_true, cond_false, if_pos, if_neg, ↓reduceIte, Nat.reduceEqDiff, Nat.reduceAdd, Nat.reduceLeDiff, eF_snoc]) <;> rfl) rfl rfl ?_)
  refine dawp_w rfl rfl rfl rfl (AOp.callx _ _ _ rfl (by (simp (disch := omega) only [push_cast, and_true, cond_true, cond_false, if_pos, if_neg, ↓reduceIte, Nat.reduceEqDiff, Nat.reduceAdd, Nat.reduceLeDiff, eF_snoc]) <;> rfl) (by (simp (disch := omega) only [push_cast, and_true, cond_true, cond_false, if_pos, if_neg, ↓reduceIte, Nat.reduceEqDiff, Nat.reduceAdd, Nat.reduceLeDiff, eF_snoc]) <;> rfl) ?_)  
  refine (c22 may _ _ _ k _ _ _ (by rw [get_setk hkl]) hm).mono ?_; rintro _ _ _ ⟨rfl, rfl, rfl⟩
  iterate 5 (refine dawp_p rfl (by (simp (disch := omega) only [push_cast, and_true, cond_true, cond_false, if_pos, if_neg, ↓reduceIte, Nat.reduceEqDiff, Nat.reduceAdd, Nat.reduceLeDiff, eF_snoc]) <;> rfl) rfl rfl ?_)
  refine dawp_nil ?_
  simp (disch := omega) only [push_cast, and_true, cond_true, cond_false, if_pos, if_neg, ↓reduceIte, Nat.reduceEqDiff, Nat.reduceAdd, Nat.reduceLeDiff, eF_snoc]
  refine hK9 _ ?_
  refine awp_seq_k fun K10 hK10 => ?_
  refine awp_seq_k fun K11 hK11 => ?_
  refine awp_region_keep [0, 1, 5, 7, 10, 11, 23] ⟨false, [], [], []⟩ (fun h => nomatch h) ?_
  iterate 2 (refine dawp_p rfl (by (simp (disch := omega) only [push_cast, and_true, cond_true, cond_false, if_pos, if_neg, ↓reduceIte, Nat.reduceEqDiff, Nat.reduceAdd, Nat.reduceLeDiff, eF_snoc]) <;> rfl) rfl rfl ?_)
  refine dawp_nil ?_
  simp (disch := omega) only [push_cast, and_true, cond_true, cond_false, if_pos, if_neg, ↓reduceIte, Nat.reduceEqDiff, Nat.reduceAdd, Nat.reduceLeDiff, eF_snoc]
  refine hK11 _ ?_
  refine awp_cond (by (simp (disch := omega) only [push_cast, and_true, cond_true, cond_false, if_pos, if_neg, ↓reduceIte, Nat.reduceEqDiff, Nat.reduceAdd, Nat.reduceLeDiff, eF_snoc]) <;> rfl) (fun hb2 => ?_) (fun hb2 => ?_)
  · skip
    try simp only [decide_eq_true_eq, decide_eq_false_iff_not, Bool.not_eq_true', Bool.not_eq_false', Bool.or_eq_true, Bool.and_eq_true, Bool.or_eq_false_iff, Bool.and_eq_false_imp, Int.not_lt, Int.not_le] at hb2
    refine awp_seq_k fun K12 hK12 => ?_
    refine awp_region_keep [4] ⟨false, [], [], []⟩ (fun h => nomatch h) ?_
    refine dawp_p rfl (by (simp (disch := omega) only [push_cast, and_true, cond_true, cond_false, if_pos, if_neg, ↓reduceIte, Nat.reduceEqDiff, Nat.reduceAdd, Nat.reduceLeDiff, eF_snoc]) <;> rfl) rfl rfl ?_
    refine dawp_nil ?_
    simp (disch := omega) only [push_cast, and_true, cond_true, cond_false, if_pos, if_neg, ↓reduceIte, Nat.reduceEqDiff, Nat.reduceAdd, Nat.reduceLeDiff, eF_snoc]
    refine hK12 _ ?_
    refine awp_ret ?_
    try simp only [push_cast]
    refine fin_gen (h1 := h.set k _) (live := _) (by (simp (disch := omega) only [Try.results18, aresults, aresult, push_cast, and_true, cond_true, cond_false, if_pos, if_neg, ↓reduceIte, Nat.reduceEqDiff, Nat.reduceAdd, Nat.reduceLeDiff, eF_snoc]) <;> rfl) (.inr (by simp only [atuple, AV.er, AV.erL, push_cast]; rfl)) (by simp [AV.cl, AV.clL]) (by first | exact ⟨_, rfl⟩ | exact ⟨[], (List.append_nil _).symm⟩ | exact ⟨_, by rw [List.append_assoc]; rfl⟩) ((hB _ _ _ _)) (by simp) (fun _ h => h) ?_
    rw [← hlt, letters_no (by omega) (by simpa using hb2)]
    exact ⟨rfl, _, c', rfl, hkp, by rintro _ _ ⟨⟩⟩
  try simp only [decide_eq_true_eq, decide_eq_false_iff_not, Bool.not_eq_true', Bool.not_eq_false', Bool.or_eq_true, Bool.and_eq_true, Bool.or_eq_false_iff, Bool.and_eq_false_imp, Int.not_lt, Int.not_le] at hb2
  refine awp_skip ?_
  try simp only [push_cast]
  refine hK10 _ ?_
  refine awp_seq_k fun K13 hK13 => ?_
  refine awp_region_keep [0, 1, 5, 7, 8, 10, 11] ⟨false, [], [], []⟩ (fun h => nomatch h) ?_
  iterate 4 (refine dawp_p rfl (by (simp (disch := omega) only [push_cast, and_true, cond_true, cond_false, if_pos, if_neg, ↓reduceIte, Nat.reduceEqDiff, Nat.reduceAdd, Nat.reduceLeDiff, eF_snoc]) <;> rfl) rfl rfl ?_)
  refine dawp_h rfl (by (simp (disch := omega) only [push_cast, and_true, cond_true, cond_false, if_pos, if_neg, ↓reduceIte, Nat.reduceEqDiff, Nat.reduceAdd, Nat.reduceLeDiff, eF_snoc]) <;> rfl) rfl rfl ?_
  refine dawp_hn rfl (by (simp (disch := omega) only [push_cast, and_true, cond_true, cond_false, if_pos, if_neg, ↓reduceIte, Nat.reduceEqDiff, Nat.reduceAdd, Nat.reduceLeDiff, eF_snoc]) <;> rfl) rfl ?_
  refine dawp_nil ?_
  simp (disch := omega) only [push_cast, and_true, cond_true, cond_false, if_pos, if_neg, ↓reduceIte, Nat.reduceEqDiff, Nat.reduceAdd, Nat.reduceLeDiff, eF_snoc]
  refine hK13 _ ?_
  refine awp_seq_k fun K14 hK14 => ?_
  refine awp_seq_k fun K15 hK15 => ?_
  refine awp_region_keep [0, 1, 5, 7, 8, 10, 11, 28] ⟨false, [], [], []⟩ (fun h => nomatch h) ?_
  refine dawp_p rfl (by (simp (disch := omega) only [push_cast, and_true, cond_true, cond_false, if_pos, if_neg, ↓reduceIte, Nat.reduceEqDiff, Nat.reduceAdd, Nat.reduceLeDiff, eF_snoc]) <;> rfl) rfl rfl ?_
  refine dawp_nil ?_
  simp (disch := omega) only [push_cast, and_true, cond_true, cond_false, if_pos, if_neg, ↓reduceIte, Nat.reduceEqDiff, Nat.reduceAdd, Nat.reduceLeDiff, eF_snoc]
  refine hK15 _ ?_
  refine awp_cond (by (simp (disch := omega) only [push_cast, and_true, cond_true, cond_false, if_pos, if_neg, ↓reduceIte, Nat.reduceEqDiff, Nat.reduceAdd, Nat.reduceLeDiff, eF_snoc]) <;> rfl) (fun hb3 => ?_) (fun hb3 => ?_)
  · skip
    try simp only [decide_eq_true_eq, decide_eq_false_iff_not, Bool.not_eq_true', Bool.not_eq_false', Bool.or_eq_true, Bool.and_eq_true, Bool.or_eq_false_iff, Bool.and_eq_false_imp, Int.not_lt, Int.not_le] at hb3
    refine awp_seq_k fun K16 hK16 => ?_
    refine awp_region_keep [0, 1, 7, 8, 10, 11] ⟨false, [], [], []⟩ (fun h => nomatch h) ?_
    iterate 5 (refine dawp_p rfl (by (simp (disch := omega) only [push_cast, and_true, cond_true, cond_false, if_pos, if_neg, ↓reduceIte, Nat.reduceEqDiff, Nat.reduceAdd, Nat.reduceLeDiff, eF_snoc]) <;> rfl) rfl rfl ?_)
    refine dawp_hn rfl (by (simp (disch := omega) only [push_cast, and_true, cond_true, cond_false, if_pos, if_neg, ↓reduceIte, Nat.reduceEqDiff, Nat.reduceAdd, Nat.reduceLeDiff, eF_snoc]) <;> rfl) rfl ?_
    refine dawp_nil ?_
    simp (disch := omega) only [push_cast, and_true, cond_true, cond_false, if_pos, if_neg, ↓reduceIte, Nat.reduceEqDiff, Nat.reduceAdd, Nat.reduceLeDiff, eF_snoc]
    refine hK16 _ ?_
    refine awp_seq_k fun K17 hK17 => ?_
    refine awp_region_keep [0, 1, 7, 8, 10, 11, 36] ⟨false, [], [], []⟩ (fun h => nomatch h) ?_
    refine dawp_p rfl (by (simp (disch := omega) only [push_cast, and_true, cond_true, cond_false, if_pos, if_neg, ↓reduceIte, Nat.reduceEqDiff, Nat.reduceAdd, Nat.reduceLeDiff, eF_snoc]) <;> rfl) rfl rfl ?_
    refine dawp_h rfl (by (simp (disch := omega) only [push_cast, and_true, cond_true, cond_false, if_pos, if_neg, ↓reduceIte, Nat.reduceEqDiff, Nat.reduceAdd, Nat.reduceLeDiff, eF_snoc]) <;> rfl) rfl rfl ?_
    refine dawp_p rfl (by (simp (disch := omega) only [push_cast, and_true, cond_true, cond_false, if_pos, if_neg, ↓reduceIte, Nat.reduceEqDiff, Nat.reduceAdd, Nat.reduceLeDiff, eF_snoc]) <;> rfl) rfl rfl ?_
    refine dawp_nil ?_
    simp (disch := omega) only [push_cast, and_true, cond_true, cond_false, if_pos, if_neg, ↓reduceIte, Nat.reduceEqDiff, Nat.reduceAdd, Nat.reduceLeDiff, eF_snoc]
    refine hK17 _ ?_
    refine awp_cond (by (simp (disch := omega) only [push_cast, and_true, cond_true, cond_false, if_pos, if_neg, ↓reduceIte, Nat.reduceEqDiff, Nat.reduceAdd, Nat.reduceLeDiff, eF_snoc]) <;> rfl) (fun hb4 => ?_) (fun hb4 => ?_)
    · skip
      try simp only [decide_eq_true_eq, decide_eq_false_iff_not, Bool.not_eq_true', Bool.not_eq_false', Bool.or_eq_true, Bool.and_eq_true, Bool.or_eq_false_iff, Bool.and_eq_false_imp, Int.not_lt, Int.not_le] at hb4
      refine awp_seq_k fun K18 hK18 => ?_
      refine awp_seq_k fun K19 hK19 => ?_
      refine awp_region_keep [0, 1, 7, 8, 10, 11, 42] ⟨false, [], [], []⟩ (fun h => nomatch h) ?_
      iterate 3 (refine dawp_p rfl (by (simp (disch := omega) only [push_cast, and_true, cond_true, cond_false, if_pos, if_neg, ↓reduceIte, Nat.reduceEqDiff, Nat.reduceAdd, Nat.reduceLeDiff, eF_snoc]) <;> rfl) rfl rfl ?_)
      refine dawp_h rfl (by (simp (disch := omega) only [push_cast, and_true, cond_true, cond_false, if_pos, if_neg, ↓reduceIte, Nat.reduceEqDiff, Nat.reduceAdd, Nat.reduceLeDiff, eF_snoc]) <;> rfl) rfl rfl ?_
      iterate 2 (refine dawp_p rfl (by (simp (disch := omega) only [push_cast, and_true, cond_true, cond_false, if_pos, if_neg, ↓reduceIte, Nat.reduceEqDiff, Nat.reduceAdd, Nat.reduceLeDiff, eF_snoc]) <;> rfl) rfl rfl ?_)
      refine dawp_nil ?_
      simp (disch := omega) only [push_cast, and_true, cond_true, cond_false, if_pos, if_neg, ↓reduceIte, Nat.reduceEqDiff, Nat.reduceAdd, Nat.reduceLeDiff, eF_snoc]
      refine hK19 _ ?_
      refine awp_cond (by (simp (disch := omega) only [push_cast, and_true, cond_true, cond_false, if_pos, if_neg, ↓reduceIte, Nat.reduceEqDiff, Nat.reduceAdd, Nat.reduceLeDiff, eF_snoc]) <;> rfl) (fun hb5 => ?_) (fun hb5 => ?_)
      · skip
        try simp only [decide_eq_true_eq, decide_eq_false_iff_not, Bool.not_eq_true', Bool.not_eq_false', Bool.or_eq_true, Bool.and_eq_true, Bool.or_eq_false_iff, Bool.and_eq_false_imp, Int.not_lt, Int.not_le] at hb5
        refine awp_seq_k fun K20 hK20 => ?_
        refine awp_region_keep [4] ⟨false, [], [], []⟩ (fun h => nomatch h) ?_
        refine dawp_p rfl (by (simp (disch := omega) only [push_cast, and_true, cond_true, cond_false, if_pos, if_neg, ↓reduceIte, Nat.reduceEqDiff, Nat.reduceAdd, Nat.reduceLeDiff, eF_snoc]) <;> rfl) rfl rfl ?_
        refine dawp_nil ?_
        simp (disch := omega) only [push_cast, and_true, cond_true, cond_false, if_pos, if_neg, ↓reduceIte, Nat.reduceEqDiff, Nat.reduceAdd, Nat.reduceLeDiff, eF_snoc]
        refine hK20 _ ?_
        refine awp_ret ?_
        try simp only [push_cast]
        refine fin_gen (h1 := h.set k _) (live := _) (by (simp (disch := omega) only [Try.results18, aresults, aresult, push_cast, and_true, cond_true, cond_false, if_pos, if_neg, ↓reduceIte, Nat.reduceEqDiff, Nat.reduceAdd, Nat.reduceLeDiff, eF_snoc]) <;> rfl) (.inr (by simp only [atuple, AV.er, AV.erL, push_cast]; rfl)) (by simp [AV.cl, AV.clL]) (by first | exact ⟨_, rfl⟩ | exact ⟨[], (List.append_nil _).symm⟩ | exact ⟨_, by rw [List.append_assoc]; rfl⟩) ((hB _ _ _ _)) (by simp) (fun _ h => h) ?_
        rw [← hlt, letters_none (by omega) hb2 hb3.2 hb4 (by omega)]
        exact ⟨rfl, _, c', rfl, hkp, by rintro _ _ ⟨⟩⟩
      try simp only [decide_eq_true_eq, decide_eq_false_iff_not, Bool.not_eq_true', Bool.not_eq_false', Bool.or_eq_true, Bool.and_eq_true, Bool.or_eq_false_iff, Bool.and_eq_false_imp, Int.not_lt, Int.not_le] at hb5
      refine awp_skip ?_
      try simp only [push_cast]
      refine hK18 _ ?_
      refine awp_region_keep [0, 1, 7, 8, 10, 11] ⟨false, [(k, 3, .one)], [53], [55]⟩ (fun _ => ⟨by kernel_rfl, by kernel_rfl⟩) ?_
      iterate 4 (refine dawp_p rfl (by (simp (disch := omega) only [push_cast, and_true, cond_true, cond_false, if_pos, if_neg, ↓reduceIte, Nat.reduceEqDiff, Nat.reduceAdd, Nat.reduceLeDiff, eF_snoc]) <;> rfl) rfl rfl ?_)
      refine dawp_h rfl (by (simp (disch := omega) only [push_cast, and_true, cond_true, cond_false, if_pos, if_neg, ↓reduceIte, Nat.reduceEqDiff, Nat.reduceAdd, Nat.reduceLeDiff, eF_snoc]) <;> rfl) rfl rfl ?_
      refine dawp_p rfl (by (simp (disch := omega) only [push_cast, and_true, cond_true, cond_false, if_pos, if_neg, ↓reduceIte, Nat.reduceEqDiff, Nat.reduceAdd, Nat.reduceLeDiff, eF_snoc]) <;> rfl) rfl rfl ?_
      refine dawp_h rfl (by (simp (disch := omega) only [push_cast, and_true, cond_true, cond_false, if_pos, if_neg, ↓reduceIte, Nat.reduceEqDiff, Nat.reduceAdd, Nat.reduceLeDiff, eF_snoc]) <;> rfl) rfl rfl ?_
      iterate 3 (refine dawp_p rfl (by (simp (disch := omega) only [push_cast, and_true, cond_true, cond_false, if_pos, if_neg, ↓reduceIte, Nat.reduceEqDiff, Nat.reduceAdd, Nat.reduceLeDiff, eF_snoc]) <;> rfl) rfl rfl ?_)
      refine dawp_f rfl rfl (by simp (disch := omega) only [push_cast, and_true, cond_true, cond_false, if_pos, if_neg, ↓reduceIte, Nat.reduceEqDiff, Nat.reduceAdd, Nat.reduceLeDiff, eF_snoc]; first | rfl | (simp; rfl)) rfl rfl ?_
      iterate 2 (refine dawp_p rfl (by (simp (disch := omega) only [push_cast, and_true, cond_true, cond_false, if_pos, if_neg, ↓reduceIte, Nat.reduceEqDiff, Nat.reduceAdd, Nat.reduceLeDiff, eF_snoc]) <;> rfl) rfl rfl ?_)
      refine dawp_gs rfl rfl (by (simp (disch := omega) only [push_cast, and_true, cond_true, cond_false, if_pos, if_neg, ↓reduceIte, Nat.reduceEqDiff, Nat.reduceAdd, Nat.reduceLeDiff, eF_snoc]) <;> rfl) rfl (by exact stab.cons (by simp (disch := omega) only [push_cast, and_true, cond_true, cond_false, if_pos, if_neg, ↓reduceIte, Nat.reduceEqDiff, Nat.reduceAdd, Nat.reduceLeDiff, eF_snoc]) (stab.nil)) ?_
      iterate 2 (refine dawp_p rfl (by (simp (disch := omega) only [push_cast, and_true, cond_true, cond_false, if_pos, if_neg, ↓reduceIte, Nat.reduceEqDiff, Nat.reduceAdd, Nat.reduceLeDiff, eF_snoc]) <;> rfl) rfl rfl ?_)
      refine dawp_hn rfl (by (simp (disch := omega) only [push_cast, and_true, cond_true, cond_false, if_pos, if_neg, ↓reduceIte, Nat.reduceEqDiff, Nat.reduceAdd, Nat.reduceLeDiff, eF_snoc]) <;> rfl) rfl ?_
      refine dawp_nil ?_
      simp (disch := omega) only [push_cast, and_true, cond_true, cond_false, if_pos, if_neg, ↓reduceIte, Nat.reduceEqDiff, Nat.reduceAdd, Nat.reduceLeDiff, eF_snoc]
      refine hK14 _ ?_
      refine awp_seq_k fun K21 hK21 => ?_
      refine awp_region_keep [0, 1, 7, 10, 11] ⟨false, [], [], []⟩ (fun _ => ⟨by kernel_rfl, by kernel_rfl⟩) ?_
      iterate 5 (refine dawp_p rfl (by (simp (disch := omega) only [push_cast, and_true, cond_true, cond_false, if_pos, if_neg, ↓reduceIte, Nat.reduceEqDiff, Nat.reduceAdd, Nat.reduceLeDiff, eF_snoc]) <;> rfl) rfl rfl ?_)
      iterate 2 (refine dawp_h rfl (by (simp (disch := omega) only [push_cast, and_true, cond_true, cond_false, if_pos, if_neg, ↓reduceIte, Nat.reduceEqDiff, Nat.reduceAdd, Nat.reduceLeDiff, eF_snoc]) <;> rfl) rfl rfl ?_)
      refine dawp_p rfl (by (simp (disch := omega) only [push_cast, and_true, cond_true, cond_false, if_pos, if_neg, ↓reduceIte, Nat.reduceEqDiff, Nat.reduceAdd, Nat.reduceLeDiff, eF_snoc]) <;> rfl) rfl rfl ?_
      refine dawp_w rfl rfl rfl rfl (AOp.append _ _ _ rfl (by (simp (disch := omega) only [push_cast, and_true, cond_true, cond_false, if_pos, if_neg, ↓reduceIte, Nat.reduceEqDiff, Nat.reduceAdd, Nat.reduceLeDiff, eF_snoc]) <;> rfl) (by (simp (disch := omega) only [push_cast, and_true, cond_true, cond_false, if_pos, if_neg, ↓reduceIte, Nat.reduceEqDiff, Nat.reduceAdd, Nat.reduceLeDiff, eF_snoc]) <;> rfl) (by (simp (disch := omega) only [push_cast, and_true, cond_true, cond_false, if_pos, if_neg, ↓reduceIte, Nat.reduceEqDiff, Nat.reduceAdd, Nat.reduceLeDiff, eF_snoc]) <;> rfl) hcok (cells_eF _) (by simp [AV.cells]) (by simp; omega) (by simp; omega) ?_)
      intro c66 live66 hk66
      iterate 3 (refine dawp_p rfl (by (simp (disch := omega) only [push_cast, and_true, cond_true, cond_false, if_pos, if_neg, ↓reduceIte, Nat.reduceEqDiff, Nat.reduceAdd, Nat.reduceLeDiff, eF_snoc]) <;> rfl) rfl rfl ?_)
      refine dawp_hn rfl (by (simp (disch := omega) only [push_cast, and_true, cond_true, cond_false, if_pos, if_neg, ↓reduceIte, Nat.reduceEqDiff, Nat.reduceAdd, Nat.reduceLeDiff, eF_snoc]) <;> rfl) rfl ?_
      refine dawp_nil ?_
      simp (disch := omega) only [push_cast, and_true, cond_true, cond_false, if_pos, if_neg, ↓reduceIte, Nat.reduceEqDiff, Nat.reduceAdd, Nat.reduceLeDiff, eF_snoc]
      refine hK21 _ ?_
      refine awp_seq_k fun K22 hK22 => ?_
      refine awp_region_keep [0, 1, 10, 11, 70] ⟨false, [], [], []⟩ (fun h => nomatch h) ?_
      refine dawp_p rfl (by (simp (disch := omega) only [push_cast, and_true, cond_true, cond_false, if_pos, if_neg, ↓reduceIte, Nat.reduceEqDiff, Nat.reduceAdd, Nat.reduceLeDiff, eF_snoc]) <;> rfl) rfl rfl ?_
      refine dawp_nil ?_
      simp (disch := omega) only [push_cast, and_true, cond_true, cond_false, if_pos, if_neg, ↓reduceIte, Nat.reduceEqDiff, Nat.reduceAdd, Nat.reduceLeDiff, eF_snoc]
      refine hK22 _ ?_
      refine awp_cond (by (simp (disch := omega) only [push_cast, and_true, cond_true, cond_false, if_pos, if_neg, ↓reduceIte, Nat.reduceEqDiff, Nat.reduceAdd, Nat.reduceLeDiff, eF_snoc]) <;> rfl) (fun hb6 => ?_) (fun hb6 => ?_)
      · skip
        try simp only [decide_eq_true_eq, decide_eq_false_iff_not, Bool.not_eq_true', Bool.not_eq_false', Bool.or_eq_true, Bool.and_eq_true, Bool.or_eq_false_iff, Bool.and_eq_false_imp, Int.not_lt, Int.not_le] at hb6
        refine awp_exit ?_
        simp (disch := omega) only [push_cast, and_true, cond_true, cond_false, if_pos, if_neg, ↓reduceIte, Nat.reduceEqDiff, Nat.reduceAdd, Nat.reduceLeDiff, eF_snoc]
        refine hK2 _ ?_
        refine awp_seq_k fun K23 hK23 => ?_
        refine awp_region_keep [4] ⟨false, [], [], []⟩ (fun h => nomatch h) ?_
        refine dawp_p rfl (by (simp (disch := omega) only [push_cast, and_true, cond_true, cond_false, if_pos, if_neg, ↓reduceIte, Nat.reduceEqDiff, Nat.reduceAdd, Nat.reduceLeDiff, eF_snoc]) <;> rfl) rfl rfl ?_
        refine dawp_nil ?_
        simp (disch := omega) only [push_cast, and_true, cond_true, cond_false, if_pos, if_neg, ↓reduceIte, Nat.reduceEqDiff, Nat.reduceAdd, Nat.reduceLeDiff, eF_snoc]
        refine hK23 _ ?_
        refine awp_ret ?_
        try simp only [push_cast]
        refine fin_gen (h1 := h.set k _) (live := _) (by (simp (disch := omega) only [Try.results18, aresults, aresult, push_cast, and_true, cond_true, cond_false, if_pos, if_neg, ↓reduceIte, Nat.reduceEqDiff, Nat.reduceAdd, Nat.reduceLeDiff, eF_snoc]) <;> rfl) (.inr (by simp only [atuple, AV.er, AV.erL, push_cast]; rfl)) (by simp [AV.cl, AV.clL]) (by first | exact ⟨_, rfl⟩ | exact ⟨[], (List.append_nil _).symm⟩ | exact ⟨_, by rw [List.append_assoc]; rfl⟩) ((hB _ _ _ _)) (by simp) (fun _ h => h) ?_
        rw [← hlt, letters_next (by omega) hb2 hb3.2 hb4 (by omega)]
        exact ⟨rfl, _, c66, rfl, hkp.trans hk66, by rintro _ _ ⟨⟩; exact ⟨_, rfl⟩⟩
      exfalso; rw [hb3.1, hb3.2] at hb6; exact Bool.noConfusion hb6
    try simp only [decide_eq_true_eq, decide_eq_false_iff_not, Bool.not_eq_true', Bool.not_eq_false', Bool.or_eq_true, Bool.and_eq_true, Bool.or_eq_false_iff, Bool.and_eq_false_imp, Int.not_lt, Int.not_le] at hb4
    refine awp_skip ?_
    try simp only [push_cast]
    refine hK14 _ ?_
    refine awp_seq_k fun K24 hK24 => ?_
    refine awp_region_keep [0, 1, 7, 10, 11] ⟨false, [], [], []⟩ (fun _ => ⟨by kernel_rfl, by kernel_rfl⟩) ?_
    iterate 5 (refine dawp_p rfl (by (simp (disch := omega) only [push_cast, and_true, cond_true, cond_false, if_pos, if_neg, ↓reduceIte, Nat.reduceEqDiff, Nat.reduceAdd, Nat.reduceLeDiff, eF_snoc]) <;> rfl) rfl rfl ?_)
    iterate 2 (refine dawp_h rfl (by (simp (disch := omega) only [push_cast, and_true, cond_true, cond_false, if_pos, if_neg, ↓reduceIte, Nat.reduceEqDiff, Nat.reduceAdd, Nat.reduceLeDiff, eF_snoc]) <;> rfl) rfl rfl ?_)
    refine dawp_p rfl (by (simp (disch := omega) only [push_cast, and_true, cond_true, cond_false, if_pos, if_neg, ↓reduceIte, Nat.reduceEqDiff, Nat.reduceAdd, Nat.reduceLeDiff, eF_snoc]) <;> rfl) rfl rfl ?_
    refine dawp_w rfl rfl rfl rfl (AOp.append _ _ _ rfl (by (simp (disch := omega) only [push_cast, and_true, cond_true, cond_false, if_pos, if_neg, ↓reduceIte, Nat.reduceEqDiff, Nat.reduceAdd, Nat.reduceLeDiff, eF_snoc]) <;> rfl) (by (simp (disch := omega) only [push_cast, and_true, cond_true, cond_false, if_pos, if_neg, ↓reduceIte, Nat.reduceEqDiff, Nat.reduceAdd, Nat.reduceLeDiff, eF_snoc]) <;> rfl) (by (simp (disch := omega) only [push_cast, and_true, cond_true, cond_false, if_pos, if_neg, ↓reduceIte, Nat.reduceEqDiff, Nat.reduceAdd, Nat.reduceLeDiff, eF_snoc]) <;> rfl) hcok (cells_eF _) (by simp [AV.cells]) (by simp; omega) (by simp; omega) ?_)
    intro c66 live66 hk66
    iterate 3 (refine dawp_p rfl (by (simp (disch := omega) only [push_cast, and_true, cond_true, cond_false, if_pos, if_neg, ↓reduceIte, Nat.reduceEqDiff, Nat.reduceAdd, Nat.reduceLeDiff, eF_snoc]) <;> rfl) rfl rfl ?_)
    refine dawp_hn rfl (by (simp (disch := omega) only [push_cast, and_true, cond_true, cond_false, if_pos, if_neg, ↓reduceIte, Nat.reduceEqDiff, Nat.reduceAdd, Nat.reduceLeDiff, eF_snoc]) <;> rfl) rfl ?_
    refine dawp_nil ?_
    simp (disch := omega) only [push_cast, and_true, cond_true, cond_false, if_pos, if_neg, ↓reduceIte, Nat.reduceEqDiff, Nat.reduceAdd, Nat.reduceLeDiff, eF_snoc]
    refine hK24 _ ?_
    refine awp_seq_k fun K25 hK25 => ?_
    refine awp_region_keep [0, 1, 10, 11, 70] ⟨false, [], [], []⟩ (fun h => nomatch h) ?_
    refine dawp_p rfl (by (simp (disch := omega) only [push_cast, and_true, cond_true, cond_false, if_pos, if_neg, ↓reduceIte, Nat.reduceEqDiff, Nat.reduceAdd, Nat.reduceLeDiff, eF_snoc]) <;> rfl) rfl rfl ?_
    refine dawp_nil ?_
    simp (disch := omega) only [push_cast, and_true, cond_true, cond_false, if_pos, if_neg, ↓reduceIte, Nat.reduceEqDiff, Nat.reduceAdd, Nat.reduceLeDiff, eF_snoc]
    refine hK25 _ ?_
    refine awp_cond (by (simp (disch := omega) only [push_cast, and_true, cond_true, cond_false, if_pos, if_neg, ↓reduceIte, Nat.reduceEqDiff, Nat.reduceAdd, Nat.reduceLeDiff, eF_snoc]) <;> rfl) (fun hb6 => ?_) (fun hb6 => ?_)
    · skip
      try simp only [decide_eq_true_eq, decide_eq_false_iff_not, Bool.not_eq_true', Bool.not_eq_false', Bool.or_eq_true, Bool.and_eq_true, Bool.or_eq_false_iff, Bool.and_eq_false_imp, Int.not_lt, Int.not_le] at hb6
      refine awp_exit ?_
      simp (disch := omega) only [push_cast, and_true, cond_true, cond_false, if_pos, if_neg, ↓reduceIte, Nat.reduceEqDiff, Nat.reduceAdd, Nat.reduceLeDiff, eF_snoc]
      refine hK2 _ ?_
      refine awp_seq_k fun K26 hK26 => ?_
      refine awp_region_keep [4] ⟨false, [], [], []⟩ (fun h => nomatch h) ?_
      refine dawp_p rfl (by (simp (disch := omega) only [push_cast, and_true, cond_true, cond_false, if_pos, if_neg, ↓reduceIte, Nat.reduceEqDiff, Nat.reduceAdd, Nat.reduceLeDiff, eF_snoc]) <;> rfl) rfl rfl ?_
      refine dawp_nil ?_
      simp (disch := omega) only [push_cast, and_true, cond_true, cond_false, if_pos, if_neg, ↓reduceIte, Nat.reduceEqDiff, Nat.reduceAdd, Nat.reduceLeDiff, eF_snoc]
      refine hK26 _ ?_
      refine awp_ret ?_
      try simp only [push_cast]
      refine fin_gen (h1 := h.set k _) (live := _) (by (simp (disch := omega) only [Try.results18, aresults, aresult, push_cast, and_true, cond_true, cond_false, if_pos, if_neg, ↓reduceIte, Nat.reduceEqDiff, Nat.reduceAdd, Nat.reduceLeDiff, eF_snoc]) <;> rfl) (.inr (by simp only [atuple, AV.er, AV.erL, push_cast]; rfl)) (by simp [AV.cl, AV.clL]) (by first | exact ⟨_, rfl⟩ | exact ⟨[], (List.append_nil _).symm⟩ | exact ⟨_, by rw [List.append_assoc]; rfl⟩) ((hB _ _ _ _)) (by simp) (fun _ h => h) ?_
      rw [← hlt, letters_own (by omega) hb2 hb3.2 hb4]
      exact ⟨rfl, _, c66, rfl, hkp.trans hk66, by rintro _ _ ⟨⟩; exact ⟨_, rfl⟩⟩
    exfalso; rw [hb3.1, hb3.2] at hb6; exact Bool.noConfusion hb6
  try simp only [decide_eq_true_eq, decide_eq_false_iff_not, Bool.not_eq_true', Bool.not_eq_false', Bool.or_eq_true, Bool.and_eq_true, Bool.or_eq_false_iff, Bool.and_eq_false_imp, Int.not_lt, Int.not_le] at hb3
  refine awp_skip ?_
  try simp only [push_cast]
  refine hK14 _ ?_
  refine awp_seq_k fun K27 hK27 => ?_
  refine awp_region_keep [0, 1, 7, 10, 11] ⟨false, [], [], []⟩ (fun _ => ⟨by kernel_rfl, by kernel_rfl⟩) ?_
  iterate 5 (refine dawp_p rfl (by (simp (disch := omega) only [push_cast, and_true, cond_true, cond_false, if_pos, if_neg, ↓reduceIte, Nat.reduceEqDiff, Nat.reduceAdd, Nat.reduceLeDiff, eF_snoc]) <;> rfl) rfl rfl ?_)
  iterate 2 (refine dawp_h rfl (by (simp (disch := omega) only [push_cast, and_true, cond_true, cond_false, if_pos, if_neg, ↓reduceIte, Nat.reduceEqDiff, Nat.reduceAdd, Nat.reduceLeDiff, eF_snoc]) <;> rfl) rfl rfl ?_)
  refine dawp_p rfl (by (simp (disch := omega) only [push_cast, and_true, cond_true, cond_false, if_pos, if_neg, ↓reduceIte, Nat.reduceEqDiff, Nat.reduceAdd, Nat.reduceLeDiff, eF_snoc]) <;> rfl) rfl rfl ?_
  refine dawp_w rfl rfl rfl rfl (AOp.append _ _ _ rfl (by (simp (disch := omega) only [push_cast, and_true, cond_true, cond_false, if_pos, if_neg, ↓reduceIte, Nat.reduceEqDiff, Nat.reduceAdd, Nat.reduceLeDiff, eF_snoc]) <;> rfl) (by (simp (disch := omega) only [push_cast, and_true, cond_true, cond_false, if_pos, if_neg, ↓reduceIte, Nat.reduceEqDiff, Nat.reduceAdd, Nat.reduceLeDiff, eF_snoc]) <;> rfl) (by (simp (disch := omega) only [push_cast, and_true, cond_true, cond_false, if_pos, if_neg, ↓reduceIte, Nat.reduceEqDiff, Nat.reduceAdd, Nat.reduceLeDiff, eF_snoc]) <;> rfl) hcok (cells_eF _) (by simp [AV.cells]) (by simp; omega) (by simp; omega) ?_)
  intro c66 live66 hk66
  iterate 3 (refine dawp_p rfl (by (simp (disch := omega) only [push_cast, and_true, cond_true, cond_false, if_pos, if_neg, ↓reduceIte, Nat.reduceEqDiff, Nat.reduceAdd, Nat.reduceLeDiff, eF_snoc]) <;> rfl) rfl rfl ?_)
  refine dawp_hn rfl (by (simp (disch := omega) only [push_cast, and_true, cond_true, cond_false, if_pos, if_neg, ↓reduceIte, Nat.reduceEqDiff, Nat.reduceAdd, Nat.reduceLeDiff, eF_snoc]) <;> rfl) rfl ?_
  refine dawp_nil ?_
  simp (disch := omega) only [push_cast, and_true, cond_true, cond_false, if_pos, if_neg, ↓reduceIte, Nat.reduceEqDiff, Nat.reduceAdd, Nat.reduceLeDiff, eF_snoc]
  refine hK27 _ ?_
  refine awp_seq_k fun K28 hK28 => ?_
  refine awp_region_keep [0, 1, 10, 11, 70] ⟨false, [], [], []⟩ (fun h => nomatch h) ?_
  refine dawp_p rfl (by (simp (disch := omega) only [push_cast, and_true, cond_true, cond_false, if_pos, if_neg, ↓reduceIte, Nat.reduceEqDiff, Nat.reduceAdd, Nat.reduceLeDiff, eF_snoc]) <;> rfl) rfl rfl ?_
  refine dawp_nil ?_
  simp (disch := omega) only [push_cast, and_true, cond_true, cond_false, if_pos, if_neg, ↓reduceIte, Nat.reduceEqDiff, Nat.reduceAdd, Nat.reduceLeDiff, eF_snoc]
  refine hK28 _ ?_
  refine awp_cond (by (simp (disch := omega) only [push_cast, and_true, cond_true, cond_false, if_pos, if_neg, ↓reduceIte, Nat.reduceEqDiff, Nat.reduceAdd, Nat.reduceLeDiff, eF_snoc]) <;> rfl) (fun hb6 => ?_) (fun hb6 => ?_)
  · skip
    exfalso; simp only [Bool.and_eq_true] at hb6; have := hb3 hb6.1; rw [hb6.2] at this; exact Bool.noConfusion this
  try simp only [decide_eq_true_eq, decide_eq_false_iff_not, Bool.not_eq_true', Bool.not_eq_false', Bool.or_eq_true, Bool.and_eq_true, Bool.or_eq_false_iff, Bool.and_eq_false_imp, Int.not_lt, Int.not_le] at hb6
  refine awp_skip ?_
  try simp only [push_cast]
  refine hK7 _ ?_
  refine awp_region_keep [0, 1, 10, 11] ⟨false, [], [], []⟩ (fun h => nomatch h) ?_
  iterate 2 (refine dawp_p rfl (by (simp (disch := omega) only [push_cast, and_true, cond_true, cond_false, if_pos, if_neg, ↓reduceIte, Nat.reduceEqDiff, Nat.reduceAdd, Nat.reduceLeDiff, eF_snoc]) <;> rfl) rfl rfl ?_)
  refine dawp_nil ?_
  simp (disch := omega) only [push_cast, and_true, cond_true, cond_false, if_pos, if_neg, ↓reduceIte, Nat.reduceEqDiff, Nat.reduceAdd, Nat.reduceLeDiff, eF_snoc]
  refine ⟨⟨⟨i + 1, fl' ++ [(s.getD i 0, [])], c66, live66⟩, by dsimp only; omega, by simp; omega, hkp.trans hk66, by rw [← hlt, letters_plain (by omega) hb2 (hb3 hb2)]⟩, ?_, (by first | rfl | trivial | simp only [List.length_set]), by dsimp only; omega⟩
  dsimp only
  refine Trunc.of (by first | exact (List.append_nil _).symm | (rw [List.append_nil, set_self hk]) | rfl) ?_ (hB _ _ _ _) (fun _ h => h)
  refine FTr.cons (by (simp (disch := omega) only [push_cast, and_true, cond_true, cond_false, if_pos, if_neg, ↓reduceIte, Nat.reduceEqDiff, Nat.reduceAdd, Nat.reduceLeDiff, eF_snoc]) <;> first | rfl | (congr 2; omega)) (by simp [AV.cl, AV.clL, clL_eF, clL_str, hkl]) ?_
  refine FTr.cons (by (simp (disch := omega) only [push_cast, and_true, cond_true, cond_false, if_pos, if_neg, ↓reduceIte, Nat.reduceEqDiff, Nat.reduceAdd, Nat.reduceLeDiff, eF_snoc]) <;> first | rfl | (congr 2; omega)) (by simp [AV.cl, AV.clL, clL_eF, clL_str, hkl]) ?_
  refine FTr.cons (by (simp (disch := omega) only [push_cast, and_true, cond_true, cond_false, if_pos, if_neg, ↓reduceIte, Nat.reduceEqDiff, Nat.reduceAdd, Nat.reduceLeDiff, eF_snoc]) <;> first | rfl | (congr 2; omega)) (by simp [AV.cl, AV.clL, clL_eF, clL_str, hkl]) ?_
  refine FTr.cons (by (simp (disch := omega) only [push_cast, and_true, cond_true, cond_false, if_pos, if_neg, ↓reduceIte, Nat.reduceEqDiff, Nat.reduceAdd, Nat.reduceLeDiff, eF_snoc]) <;> first | rfl | (congr 2; omega)) (by simp [AV.cl, AV.clL, clL_eF, clL_str, hkl]) ?_
  exact FTr.nil

end Go.Proofs.Ytjlcdkklobcdhaa
