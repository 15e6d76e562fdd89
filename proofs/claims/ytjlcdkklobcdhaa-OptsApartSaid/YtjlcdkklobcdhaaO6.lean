import Derived.Test.YtjlcdkklobcdhaaO5
/-
  OPTIONS: the reference's letters.
-/
namespace Go.Proofs.Ytjlcdkklobcdhaa
open Go.Ab
set_option linter.unusedVariables false
set_option linter.unusedSimpArgs false


theorem valB_not (may : List UInt8) (c : UInt8) : valB may c = !(decide ((may.length : Int) ≤ Lib.indexByte may c + 1) || !decide (((may.getD (Lib.indexByte may c + 1).toNat 0).toNat : Int) = 58)) := by
  unfold valB
  rw [show decide (Lib.indexByte may c + 1 < (may.length : Int)) = !decide ((may.length : Int) ≤ Lib.indexByte may c + 1) from by rw [← decide_not]; congr 1; rw [Int.not_le]]
  cases decide ((may.length : Int) ≤ Lib.indexByte may c + 1) <;> cases decide (((may.getD (Lib.indexByte may c + 1).toNat 0).toNat : Int) = 58) <;> rfl

def zO : List AV := [.slice [] .full, .slice [] .full, .bool false]
def lettersK (rst : AV) (h : List Blk) (live : List Nat) (c : Cap) (res : Option (List Fl × List (List UInt8))) : KT := fun x h' live' => h' = h ∧
  ∃ F R L c', x = .tup [.agg [F, R, .bool res.isSome], L] ∧ Keeps live c live' c' ∧ ∀ fl left, res = some (fl, left) → ∃ cl', F = .slice (fl.map eF) c' ∧ R = rst ∧ L = .slice (left.map .str) cl'
theorem clL_str_tail (n : Nat) (l : List (List UInt8)) : AV.clL n (l.map AV.str).tail := by
  rw [← List.map_tail]; exact clL_str _ _
theorem clL_eF_snoc (n : Nat) (l : List Fl) (f : Fl) : AV.clL n (l.map eF ++ [eF f]) := by
  rw [show l.map eF ++ [eF f] = (l ++ [f]).map eF by simp]; exact clL_eF _ _

set_option maxHeartbeats 400000 in
theorem c19 (may s : List UInt8) (fl : List Fl) (left : List (List UInt8)) (c cl : Cap) (rst : AV) (h : List Blk) (live : List Nat) (hc : CapOK live c) (hrst : rst.cl h.length) (hm : may.length ≤ 1000000) (hs : s.length ≤ 1000000) (hfl : fl.length ≤ 1000000) (hleft : left.length ≤ 1000000) :
    ACalls Try.prog 19 [.str may, .agg [.slice (fl.map eF) c, rst, .bool true], .str s, .slice (left.map .str) cl] h live (lettersK rst h live c (letters may s fl left)) := by
  refine acalls_of_awp Try.func19 rfl rfl (Nat.le_of_ble_eq_true rfl) fun hH hX => ?_
  simp only [fargs]
  have hrst2 := AV.cl_mono (show h.length ≤ h.length + 1 + 1 by omega) rst hrst
  have hB : ∀ (a : List Fl) b, HCl (h ++ [.cells [.slice (a.map eF) b, rst, .bool true], .cells zO]) := fun a b => by
    have := HCl.snoc (HCl.snoc hH (b := .cells [.slice (a.map eF) b, rst, .bool true]) (by simp [Blk.cl, AV.cl, AV.clL, clL_eF]; exact AV.cl_mono (by omega) rst hrst)) (b := .cells zO) (by simp [Blk.cl, AV.cl, AV.clL, zO])
    simpa using this
  refine awp_seq_k fun K1 hK1 => ?_
  refine awp_region_keep [0, 2, 3, 5, 8] ⟨false, [], [], []⟩ (fun h => nomatch h) ?_
  iterate 2 (refine dawp_h rfl (by (simp (disch := omega) only [push_cast, and_true, cond_true, cond_false, if_pos, if_neg, ↓reduceIte, Nat.reduceEqDiff, Nat.reduceAdd, Nat.reduceLeDiff, eF_snoc]) <;> rfl) rfl rfl ?_)
  refine dawp_p rfl (by (simp (disch := omega) only [push_cast, and_true, cond_true, cond_false, if_pos, if_neg, ↓reduceIte, Nat.reduceEqDiff, Nat.reduceAdd, Nat.reduceLeDiff, eF_snoc]) <;> rfl) rfl rfl ?_
  refine dawp_nil ?_
  simp (disch := omega) only [push_cast, and_true, cond_true, cond_false, if_pos, if_neg, ↓reduceIte, Nat.reduceEqDiff, Nat.reduceAdd, Nat.reduceLeDiff, eF_snoc]
  refine hK1 _ ?_
  refine awp_seq_k fun K2 hK2 => ?_
  refine awp_seq_k fun K3 hK3 => ?_
  refine awp_region_keep [0, 2, 3, 5, 8, 10] ⟨false, [], [], []⟩ (fun h => nomatch h) ?_
  refine dawp_p rfl (by (simp (disch := omega) only [push_cast, and_true, cond_true, cond_false, if_pos, if_neg, ↓reduceIte, Nat.reduceEqDiff, Nat.reduceAdd, Nat.reduceLeDiff, eF_snoc]) <;> rfl) rfl rfl ?_
  refine dawp_nil ?_
  simp (disch := omega) only [push_cast, and_true, cond_true, cond_false, if_pos, if_neg, ↓reduceIte, Nat.reduceEqDiff, Nat.reduceAdd, Nat.reduceLeDiff, eF_snoc]
  refine hK3 _ ?_
  refine awp_block ?_
  refine awp_loop' (X := {p : Nat × List Fl × Cap × List Nat // p.1 ≤ s.length ∧ p.2.1.length ≤ fl.length + p.1 ∧ Keeps live c p.2.2.2 p.2.2.1 ∧ letters may (s.drop p.1) p.2.1 left = letters may s fl left}) (fun x => ⟨Try.f19.ntmps, fget [(0, .str may), (2, .str s), (3, .slice (left.map .str) cl), (5, .ptr h.length 0), (8, .ptr (h.length + 1) 0), (10, .int .i64 (x.1.1 : Nat))], h ++ [.cells [.slice (x.1.2.1.map eF) x.1.2.2.1, rst, .bool true], .cells zO], x.1.2.2.2⟩) (fun x => s.length - x.1.1) (⟨⟨0, fl, c, live⟩, by simp, by simp, Keeps.refl hc, rfl⟩) ?_ (by first | rfl | simp only [List.length_set]) (fun ⟨⟨i, fl', c', live'⟩, hi, hfl', hkp, hlt⟩ => ?_)
  · skip
    dsimp only
    refine Trunc.of (by first | exact (List.append_nil _).symm | (rw [List.append_assoc]; rfl)) ?_ (hB _ _) (fun _ h => h)
    refine FTr.cons (by first | rfl | (simp (disch := omega) only [push_cast, and_true, cond_true, cond_false, if_pos, if_neg, ↓reduceIte, Nat.reduceEqDiff, Nat.reduceAdd, Nat.reduceLeDiff, eF_snoc]; rfl)) (by simp [AV.cl, AV.clL, clL_eF, clL_str]) ?_
    refine FTr.cons (by first | rfl | (simp (disch := omega) only [push_cast, and_true, cond_true, cond_false, if_pos, if_neg, ↓reduceIte, Nat.reduceEqDiff, Nat.reduceAdd, Nat.reduceLeDiff, eF_snoc]; rfl)) (by simp [AV.cl, AV.clL, clL_eF, clL_str]) ?_
    refine FTr.cons (by first | rfl | (simp (disch := omega) only [push_cast, and_true, cond_true, cond_false, if_pos, if_neg, ↓reduceIte, Nat.reduceEqDiff, Nat.reduceAdd, Nat.reduceLeDiff, eF_snoc]; rfl)) (by simp [AV.cl, AV.clL, clL_eF, clL_str]) ?_
    refine FTr.cons (by first | rfl | (simp (disch := omega) only [push_cast, and_true, cond_true, cond_false, if_pos, if_neg, ↓reduceIte, Nat.reduceEqDiff, Nat.reduceAdd, Nat.reduceLeDiff, eF_snoc]; rfl)) (by simp [AV.cl, AV.clL, clL_eF, clL_str]) ?_
    refine FTr.cons (by first | rfl | (simp (disch := omega) only [push_cast, and_true, cond_true, cond_false, if_pos, if_neg, ↓reduceIte, Nat.reduceEqDiff, Nat.reduceAdd, Nat.reduceLeDiff, eF_snoc]; rfl)) (by simp [AV.cl, AV.clL, clL_eF, clL_str]) ?_
    refine FTr.cons (by first | rfl | (simp (disch := omega) only [push_cast, and_true, cond_true, cond_false, if_pos, if_neg, ↓reduceIte, Nat.reduceEqDiff, Nat.reduceAdd, Nat.reduceLeDiff, eF_snoc]; rfl)) (by simp [AV.cl, AV.clL, clL_eF, clL_str]) ?_
    exact FTr.nil
  dsimp only
  have hcok := hkp.ok
  dsimp only at hi hfl'
  refine awp_seq_k fun K4 hK4 => ?_
  refine awp_seq_k fun K5 hK5 => ?_
  refine awp_region_keep [0, 2, 3, 5, 8, 10, 15] ⟨false, [], [], []⟩ (fun h => nomatch h) ?_
  iterate 4 (refine dawp_p rfl (by (simp (disch := omega) only [push_cast, and_true, cond_true, cond_false, if_pos, if_neg, ↓reduceIte, Nat.reduceEqDiff, Nat.reduceAdd, Nat.reduceLeDiff, eF_snoc]) <;> rfl) rfl rfl ?_)
  refine dawp_nil ?_
  simp (disch := omega) only [push_cast, and_true, cond_true, cond_false, if_pos, if_neg, ↓reduceIte, Nat.reduceEqDiff, Nat.reduceAdd, Nat.reduceLeDiff, eF_snoc]
  refine hK5 _ ?_
  refine awp_cond (by (simp (disch := omega) only [push_cast, and_true, cond_true, cond_false, if_pos, if_neg, ↓reduceIte, Nat.reduceEqDiff, Nat.reduceAdd, Nat.reduceLeDiff, eF_snoc]) <;> rfl) (fun hb1 => ?_) (fun hb1 => ?_)
  rotate_left
  · skip
    try simp only [decide_eq_true_eq, decide_eq_false_iff_not, Bool.not_eq_true', Bool.not_eq_false', Bool.or_eq_true, Bool.and_eq_true, Bool.or_eq_false_iff, Bool.and_eq_false_imp, Int.not_lt, Int.not_le] at hb1
    refine awp_exit ?_
    simp (disch := omega) only [push_cast, and_true, cond_true, cond_false, if_pos, if_neg, ↓reduceIte, Nat.reduceEqDiff, Nat.reduceAdd, Nat.reduceLeDiff, eF_snoc]
    refine hK2 _ ?_
    refine awp_seq_k fun K6 hK6 => ?_
    refine awp_region_keep [8, 9] ⟨false, [], [], []⟩ (fun h => nomatch h) ?_
    refine dawp_h rfl (by (simp (disch := omega) only [push_cast, and_true, cond_true, cond_false, if_pos, if_neg, ↓reduceIte, Nat.reduceEqDiff, Nat.reduceAdd, Nat.reduceLeDiff, eF_snoc]) <;> rfl) rfl rfl ?_
    refine dawp_p rfl (by (simp (disch := omega) only [push_cast, and_true, cond_true, cond_false, if_pos, if_neg, ↓reduceIte, Nat.reduceEqDiff, Nat.reduceAdd, Nat.reduceLeDiff, eF_snoc]) <;> rfl) rfl rfl ?_
    refine dawp_hn rfl (by (simp (disch := omega) only [push_cast, and_true, cond_true, cond_false, if_pos, if_neg, ↓reduceIte, Nat.reduceEqDiff, Nat.reduceAdd, Nat.reduceLeDiff, eF_snoc]) <;> rfl) rfl ?_
    refine dawp_p rfl (by (simp (disch := omega) only [push_cast, and_true, cond_true, cond_false, if_pos, if_neg, ↓reduceIte, Nat.reduceEqDiff, Nat.reduceAdd, Nat.reduceLeDiff, eF_snoc]) <;> rfl) rfl rfl ?_
    refine dawp_nil ?_
    simp (disch := omega) only [push_cast, and_true, cond_true, cond_false, if_pos, if_neg, ↓reduceIte, Nat.reduceEqDiff, Nat.reduceAdd, Nat.reduceLeDiff, eF_snoc]
    refine hK6 _ ?_
    refine awp_ret ?_
    try simp only [push_cast]
    refine fin_gen (h1 := h) (live := _) (by (simp (disch := omega) only [Try.results19, aresults, aresult, push_cast, and_true, cond_true, cond_false, if_pos, if_neg, ↓reduceIte, Nat.reduceEqDiff, Nat.reduceAdd, Nat.reduceLeDiff, eF_snoc]) <;> rfl) (.inl rfl) (by simp [atuple, AV.cl, AV.clL, zO, clL_eF, clL_eF_snoc, clL_str, clL_str_tail, hrst]) (by first | exact ⟨_, rfl⟩ | exact ⟨[], (List.append_nil _).symm⟩ | exact ⟨_, by rw [List.append_assoc]; rfl⟩) (hH) (Nat.le_refl _) (fun _ h => h) ?_
    rw [← hlt, letters_end (by omega)]
    exact ⟨rfl, _, _, _, c', rfl, hkp, by rintro _ _ ⟨⟩; exact ⟨_, rfl, rfl, rfl⟩⟩
  try simp only [decide_eq_true_eq, decide_eq_false_iff_not, Bool.not_eq_true', Bool.not_eq_false', Bool.or_eq_true, Bool.and_eq_true, Bool.or_eq_false_iff, Bool.and_eq_false_imp, Int.not_lt, Int.not_le] at hb1
  refine awp_skip ?_
  try simp only [push_cast]
  refine hK4 _ ?_
  refine awp_seq_k fun K7 hK7 => ?_
  refine awp_block ?_
  refine awp_seq_k fun K8 hK8 => ?_
  refine awp_region_keep [0, 2, 3, 5, 8, 10, 11] ⟨false, [], [], []⟩ (fun h => nomatch h) ?_
  iterate 4 (refine dawp_p rfl (by (simp (disch := omega) only [push_cast, and_true, cond_true, cond_false, if_pos, if_neg, ↓reduceIte, Nat.reduceEqDiff, Nat.reduceAdd, Nat.reduceLeDiff, eF_snoc]) <;> rfl) rfl rfl ?_)
  refine dawp_w rfl rfl rfl rfl (AOp.callx _ _ _ rfl (by (simp (disch := omega) only [push_cast, and_true, cond_true, cond_false, if_pos, if_neg, ↓reduceIte, Nat.reduceEqDiff, Nat.reduceAdd, Nat.reduceLeDiff, eF_snoc]) <;> rfl) (by (simp (disch := omega) only [push_cast, and_true, cond_true, cond_false, if_pos, if_neg, ↓reduceIte, Nat.reduceEqDiff, Nat.reduceAdd, Nat.reduceLeDiff, eF_snoc]) <;> rfl) ?_)  
  refine (c21 _ _ _ _ hm).mono ?_; rintro _ _ _ ⟨rfl, rfl, rfl⟩
  refine dawp_p rfl (by (simp (disch := omega) only [push_cast, and_true, cond_true, cond_false, if_pos, if_neg, ↓reduceIte, Nat.reduceEqDiff, Nat.reduceAdd, Nat.reduceLeDiff, eF_snoc]) <;> rfl) rfl rfl ?_
  refine dawp_nil ?_
  simp (disch := omega) only [push_cast, and_true, cond_true, cond_false, if_pos, if_neg, ↓reduceIte, Nat.reduceEqDiff, Nat.reduceAdd, Nat.reduceLeDiff, eF_snoc]
  refine hK8 _ ?_
  refine awp_seq_k fun K9 hK9 => ?_
  refine awp_seq_k fun K10 hK10 => ?_
  refine awp_region_keep [0, 2, 3, 5, 8, 10, 11, 36] ⟨false, [], [], []⟩ (fun h => nomatch h) ?_
  iterate 3 (refine dawp_p rfl (by (simp (disch := omega) only [push_cast, and_true, cond_true, cond_false, if_pos, if_neg, ↓reduceIte, Nat.reduceEqDiff, Nat.reduceAdd, Nat.reduceLeDiff, eF_snoc]) <;> rfl) rfl rfl ?_)
  iterate 4 (refine dawp_g rfl rfl (by simp only [push_cast, and_true, cond_true, cond_false, if_pos, if_neg, ↓reduceIte, Nat.reduceEqDiff, Nat.reduceAdd, Nat.reduceLeDiff, eF_snoc]; rfl) (fun hg => by simp (disch := omega) only [hg, push_cast, and_true, cond_true, cond_false, if_pos, if_neg, ↓reduceIte, Nat.reduceEqDiff, Nat.reduceAdd, Nat.reduceLeDiff, eF_snoc]; rfl) rfl rfl ?_)
  iterate 2 (refine dawp_p rfl (by (simp (disch := omega) only [push_cast, and_true, cond_true, cond_false, if_pos, if_neg, ↓reduceIte, Nat.reduceEqDiff, Nat.reduceAdd, Nat.reduceLeDiff, eF_snoc]) <;> rfl) rfl rfl ?_)
  iterate 4 (refine dawp_g rfl rfl (by simp only [push_cast, and_true, cond_true, cond_false, if_pos, if_neg, ↓reduceIte, Nat.reduceEqDiff, Nat.reduceAdd, Nat.reduceLeDiff, eF_snoc]; rfl) (fun hg => by simp (disch := omega) only [hg, push_cast, and_true, cond_true, cond_false, if_pos, if_neg, ↓reduceIte, Nat.reduceEqDiff, Nat.reduceAdd, Nat.reduceLeDiff, eF_snoc]; rfl) rfl rfl ?_)
  refine dawp_p rfl (by (simp (disch := omega) only [push_cast, and_true, cond_true, cond_false, if_pos, if_neg, ↓reduceIte, Nat.reduceEqDiff, Nat.reduceAdd, Nat.reduceLeDiff, eF_snoc]) <;> rfl) rfl rfl ?_
  refine dawp_nil ?_
  simp (disch := omega) only [push_cast, and_true, cond_true, cond_false, if_pos, if_neg, ↓reduceIte, Nat.reduceEqDiff, Nat.reduceAdd, Nat.reduceLeDiff, eF_snoc]
  refine hK10 _ ?_
  refine awp_cond (by (simp (disch := omega) only [push_cast, and_true, cond_true, cond_false, if_pos, if_neg, ↓reduceIte, Nat.reduceEqDiff, Nat.reduceAdd, Nat.reduceLeDiff, eF_snoc]) <;> rfl) (fun hb2 => ?_) (fun hb2 => ?_)
  · skip
    refine awp_seq_k fun K11 hK11 => ?_
    refine awp_region_keep [8, 9] ⟨false, [], [], []⟩ (fun h => nomatch h) ?_
    refine dawp_p rfl (by (simp (disch := omega) only [push_cast, and_true, cond_true, cond_false, if_pos, if_neg, ↓reduceIte, Nat.reduceEqDiff, Nat.reduceAdd, Nat.reduceLeDiff, eF_snoc]) <;> rfl) rfl rfl ?_
    refine dawp_hn rfl (by (simp (disch := omega) only [push_cast, and_true, cond_true, cond_false, if_pos, if_neg, ↓reduceIte, Nat.reduceEqDiff, Nat.reduceAdd, Nat.reduceLeDiff, eF_snoc]) <;> rfl) rfl ?_
    refine dawp_p rfl (by (simp (disch := omega) only [push_cast, and_true, cond_true, cond_false, if_pos, if_neg, ↓reduceIte, Nat.reduceEqDiff, Nat.reduceAdd, Nat.reduceLeDiff, eF_snoc]) <;> rfl) rfl rfl ?_
    refine dawp_nil ?_
    simp (disch := omega) only [push_cast, and_true, cond_true, cond_false, if_pos, if_neg, ↓reduceIte, Nat.reduceEqDiff, Nat.reduceAdd, Nat.reduceLeDiff, eF_snoc]
    refine hK11 _ ?_
    refine awp_ret ?_
    try simp only [push_cast]
    refine fin_gen (h1 := h) (live := _) (by (simp (disch := omega) only [Try.results19, aresults, aresult, push_cast, and_true, cond_true, cond_false, if_pos, if_neg, ↓reduceIte, Nat.reduceEqDiff, Nat.reduceAdd, Nat.reduceLeDiff, eF_snoc]) <;> rfl) (.inl rfl) (by simp [atuple, AV.cl, AV.clL, zO, clL_eF, clL_eF_snoc, clL_str, clL_str_tail, hrst]) (by first | exact ⟨_, rfl⟩ | exact ⟨[], (List.append_nil _).symm⟩ | exact ⟨_, by rw [List.append_assoc]; rfl⟩) (hH) (Nat.le_refl _) (fun _ h => h) ?_
    rw [← hlt, letters_no (by omega) (by rw [mayB, hb2]; rfl)]
    exact ⟨rfl, _, _, _, c', rfl, hkp, by rintro _ _ ⟨⟩⟩
  have hi0 := idx_range may (s.getD i 0)
  have hj0 : 0 ≤ Lib.indexByte may (s.getD i 0) := by
    have := hb2; simp only [Bool.or_eq_false_iff, decide_eq_false_iff_not] at this; omega
  refine awp_skip ?_
  try simp only [push_cast]
  refine hK9 _ ?_
  refine awp_seq_k fun K12 hK12 => ?_
  refine awp_seq_k fun K13 hK13 => ?_
  refine awp_region_keep [0, 2, 3, 5, 8, 10, 49] ⟨false, [], [], []⟩ (fun h => nomatch h) ?_
  iterate 6 (refine dawp_p rfl (by (simp (disch := omega) only [push_cast, and_true, cond_true, cond_false, if_pos, if_neg, ↓reduceIte, Nat.reduceEqDiff, Nat.reduceAdd, Nat.reduceLeDiff, eF_snoc]) <;> rfl) rfl rfl ?_)
  iterate 3 (refine dawp_g rfl rfl (by simp only [push_cast, and_true, cond_true, cond_false, if_pos, if_neg, ↓reduceIte, Nat.reduceEqDiff, Nat.reduceAdd, Nat.reduceLeDiff, eF_snoc]; rfl) (fun hg => by simp (disch := omega) only [hg, push_cast, and_true, cond_true, cond_false, if_pos, if_neg, ↓reduceIte, Nat.reduceEqDiff, Nat.reduceAdd, Nat.reduceLeDiff, eF_snoc]; rfl) rfl rfl ?_)
  refine dawp_g rfl rfl (by simp only [push_cast, and_true, cond_true, cond_false, if_pos, if_neg, ↓reduceIte, Nat.reduceEqDiff, Nat.reduceAdd, Nat.reduceLeDiff, eF_snoc]; rfl) (fun hg => by have hg2 := hg; simp only [Bool.not_eq_true', decide_eq_false_iff_not] at hg2; simp (disch := omega) only [hg, push_cast, and_true, cond_true, cond_false, if_pos, if_neg, ↓reduceIte, Nat.reduceEqDiff, Nat.reduceAdd, Nat.reduceLeDiff, eF_snoc]; rfl) rfl rfl ?_
  refine dawp_g rfl rfl (by simp only [push_cast, and_true, cond_true, cond_false, if_pos, if_neg, ↓reduceIte, Nat.reduceEqDiff, Nat.reduceAdd, Nat.reduceLeDiff, eF_snoc]; rfl) (fun hg => by simp (disch := omega) only [hg, push_cast, and_true, cond_true, cond_false, if_pos, if_neg, ↓reduceIte, Nat.reduceEqDiff, Nat.reduceAdd, Nat.reduceLeDiff, eF_snoc]; rfl) rfl rfl ?_
  refine dawp_p rfl (by (simp (disch := omega) only [push_cast, and_true, cond_true, cond_false, if_pos, if_neg, ↓reduceIte, Nat.reduceEqDiff, Nat.reduceAdd, Nat.reduceLeDiff, eF_snoc]) <;> rfl) rfl rfl ?_
  refine dawp_nil ?_
  simp (disch := omega) only [push_cast, and_true, cond_true, cond_false, if_pos, if_neg, ↓reduceIte, Nat.reduceEqDiff, Nat.reduceAdd, Nat.reduceLeDiff, eF_snoc]
  refine hK13 _ ?_
  refine awp_cond (by (simp (disch := omega) only [push_cast, and_true, cond_true, cond_false, if_pos, if_neg, ↓reduceIte, Nat.reduceEqDiff, Nat.reduceAdd, Nat.reduceLeDiff, eF_snoc]) <;> rfl) (fun hb3 => ?_) (fun hb3 => ?_)
  · skip
    refine awp_seq_k fun K14 hK14 => ?_
    refine awp_region_keep [0, 2, 3, 5, 8, 10] ⟨false, [], [], []⟩ (fun _ => ⟨by kernel_rfl, by kernel_rfl⟩) ?_
    refine dawp_p rfl (by (simp (disch := omega) only [push_cast, and_true, cond_true, cond_false, if_pos, if_neg, ↓reduceIte, Nat.reduceEqDiff, Nat.reduceAdd, Nat.reduceLeDiff, eF_snoc]) <;> rfl) rfl rfl ?_
    refine dawp_h rfl (by (simp (disch := omega) only [push_cast, and_true, cond_true, cond_false, if_pos, if_neg, ↓reduceIte, Nat.reduceEqDiff, Nat.reduceAdd, Nat.reduceLeDiff, eF_snoc]) <;> rfl) rfl rfl ?_
    iterate 5 (refine dawp_p rfl (by (simp (disch := omega) only [push_cast, and_true, cond_true, cond_false, if_pos, if_neg, ↓reduceIte, Nat.reduceEqDiff, Nat.reduceAdd, Nat.reduceLeDiff, eF_snoc]) <;> rfl) rfl rfl ?_)
    refine dawp_w rfl rfl rfl rfl (AOp.append _ _ _ rfl (by (simp (disch := omega) only [push_cast, and_true, cond_true, cond_false, if_pos, if_neg, ↓reduceIte, Nat.reduceEqDiff, Nat.reduceAdd, Nat.reduceLeDiff, eF_snoc]) <;> rfl) (by (simp (disch := omega) only [push_cast, and_true, cond_true, cond_false, if_pos, if_neg, ↓reduceIte, Nat.reduceEqDiff, Nat.reduceAdd, Nat.reduceLeDiff, eF_snoc]) <;> rfl) (by (simp (disch := omega) only [push_cast, and_true, cond_true, cond_false, if_pos, if_neg, ↓reduceIte, Nat.reduceEqDiff, Nat.reduceAdd, Nat.reduceLeDiff, eF_snoc]) <;> rfl) hcok (cells_eF _) (by simp [AV.cells]) (by simp; omega) (by simp; omega) ?_)
    intro c57 live57 hk57
    refine dawp_p rfl (by (simp (disch := omega) only [push_cast, and_true, cond_true, cond_false, if_pos, if_neg, ↓reduceIte, Nat.reduceEqDiff, Nat.reduceAdd, Nat.reduceLeDiff, eF_snoc]) <;> rfl) rfl rfl ?_
    refine dawp_hn rfl (by (simp (disch := omega) only [push_cast, and_true, cond_true, cond_false, if_pos, if_neg, ↓reduceIte, Nat.reduceEqDiff, Nat.reduceAdd, Nat.reduceLeDiff, eF_snoc]) <;> rfl) rfl ?_
    refine dawp_nil ?_
    simp (disch := omega) only [push_cast, and_true, cond_true, cond_false, if_pos, if_neg, ↓reduceIte, Nat.reduceEqDiff, Nat.reduceAdd, Nat.reduceLeDiff, eF_snoc]
    refine hK14 _ ?_
    refine awp_exit ?_
    simp (disch := omega) only [push_cast, and_true, cond_true, cond_false, if_pos, if_neg, ↓reduceIte, Nat.reduceEqDiff, Nat.reduceAdd, Nat.reduceLeDiff, eF_snoc]
    refine hK7 _ ?_
    refine awp_region_keep [0, 2, 3, 5, 8, 10] ⟨false, [], [], []⟩ (fun h => nomatch h) ?_
    iterate 3 (refine dawp_p rfl (by (simp (disch := omega) only [push_cast, and_true, cond_true, cond_false, if_pos, if_neg, ↓reduceIte, Nat.reduceEqDiff, Nat.reduceAdd, Nat.reduceLeDiff, eF_snoc]) <;> rfl) rfl rfl ?_)
    refine dawp_nil ?_
    simp (disch := omega) only [push_cast, and_true, cond_true, cond_false, if_pos, if_neg, ↓reduceIte, Nat.reduceEqDiff, Nat.reduceAdd, Nat.reduceLeDiff, eF_snoc]
    refine ⟨⟨⟨i + 1, fl' ++ [(s.getD i 0, [])], c57, live57⟩, by dsimp only; omega, by simp; omega, hkp.trans hk57, (letters_plain (by omega) (by rw [mayB, hb2]; rfl) (by rw [valB_not, hb3]; rfl)).symm.trans hlt⟩, ?_, (by first | rfl | trivial | simp only [List.length_set]), by dsimp only; omega⟩
    dsimp only
    refine Trunc.of (by first | exact (List.append_nil _).symm | (rw [List.append_assoc]; rfl)) ?_ (hB _ _) (fun _ h => h)
    refine FTr.cons (by (simp (disch := omega) only [push_cast, and_true, cond_true, cond_false, if_pos, if_neg, ↓reduceIte, Nat.reduceEqDiff, Nat.reduceAdd, Nat.reduceLeDiff, eF_snoc]) <;> first | rfl | (congr 2; omega)) (by simp [AV.cl, AV.clL, clL_eF, clL_str]) ?_
    refine FTr.cons (by (simp (disch := omega) only [push_cast, and_true, cond_true, cond_false, if_pos, if_neg, ↓reduceIte, Nat.reduceEqDiff, Nat.reduceAdd, Nat.reduceLeDiff, eF_snoc]) <;> first | rfl | (congr 2; omega)) (by simp [AV.cl, AV.clL, clL_eF, clL_str]) ?_
    refine FTr.cons (by (simp (disch := omega) only [push_cast, and_true, cond_true, cond_false, if_pos, if_neg, ↓reduceIte, Nat.reduceEqDiff, Nat.reduceAdd, Nat.reduceLeDiff, eF_snoc]) <;> first | rfl | (congr 2; omega)) (by simp [AV.cl, AV.clL, clL_eF, clL_str]) ?_
    refine FTr.cons (by (simp (disch := omega) only [push_cast, and_true, cond_true, cond_false, if_pos, if_neg, ↓reduceIte, Nat.reduceEqDiff, Nat.reduceAdd, Nat.reduceLeDiff, eF_snoc]) <;> first | rfl | (congr 2; omega)) (by simp [AV.cl, AV.clL, clL_eF, clL_str]) ?_
    refine FTr.cons (by (simp (disch := omega) only [push_cast, and_true, cond_true, cond_false, if_pos, if_neg, ↓reduceIte, Nat.reduceEqDiff, Nat.reduceAdd, Nat.reduceLeDiff, eF_snoc]) <;> first | rfl | (congr 2; omega)) (by simp [AV.cl, AV.clL, clL_eF, clL_str]) ?_
    refine FTr.cons (by (simp (disch := omega) only [push_cast, and_true, cond_true, cond_false, if_pos, if_neg, ↓reduceIte, Nat.reduceEqDiff, Nat.reduceAdd, Nat.reduceLeDiff, eF_snoc]) <;> first | rfl | (congr 2; omega)) (by simp [AV.cl, AV.clL, clL_eF, clL_str]) ?_
    exact FTr.nil
  refine awp_skip ?_
  try simp only [push_cast]
  refine hK12 _ ?_
  refine awp_seq_k fun K15 hK15 => ?_
  refine awp_seq_k fun K16 hK16 => ?_
  refine awp_region_keep [2, 3, 5, 8, 10, 63] ⟨false, [], [], []⟩ (fun h => nomatch h) ?_
  iterate 5 (refine dawp_p rfl (by (simp (disch := omega) only [push_cast, and_true, cond_true, cond_false, if_pos, if_neg, ↓reduceIte, Nat.reduceEqDiff, Nat.reduceAdd, Nat.reduceLeDiff, eF_snoc]) <;> rfl) rfl rfl ?_)
  refine dawp_nil ?_
  simp (disch := omega) only [push_cast, and_true, cond_true, cond_false, if_pos, if_neg, ↓reduceIte, Nat.reduceEqDiff, Nat.reduceAdd, Nat.reduceLeDiff, eF_snoc]
  refine hK16 _ ?_
  refine awp_cond (by (simp (disch := omega) only [push_cast, and_true, cond_true, cond_false, if_pos, if_neg, ↓reduceIte, Nat.reduceEqDiff, Nat.reduceAdd, Nat.reduceLeDiff, eF_snoc]) <;> rfl) (fun hb4 => ?_) (fun hb4 => ?_)
  · skip
    try simp only [decide_eq_true_eq, decide_eq_false_iff_not, Bool.not_eq_true', Bool.not_eq_false', Bool.or_eq_true, Bool.and_eq_true, Bool.or_eq_false_iff, Bool.and_eq_false_imp, Int.not_lt, Int.not_le] at hb4
    refine awp_seq_k fun K17 hK17 => ?_
    refine awp_region_keep [3, 5, 8] ⟨false, [], [], []⟩ (fun _ => ⟨by kernel_rfl, by kernel_rfl⟩) ?_
    refine dawp_p rfl (by (simp (disch := omega) only [push_cast, and_true, cond_true, cond_false, if_pos, if_neg, ↓reduceIte, Nat.reduceEqDiff, Nat.reduceAdd, Nat.reduceLeDiff, eF_snoc]) <;> rfl) rfl rfl ?_
    refine dawp_h rfl (by (simp (disch := omega) only [push_cast, and_true, cond_true, cond_false, if_pos, if_neg, ↓reduceIte, Nat.reduceEqDiff, Nat.reduceAdd, Nat.reduceLeDiff, eF_snoc]) <;> rfl) rfl rfl ?_
    iterate 9 (refine dawp_p rfl (by (simp (disch := omega) only [push_cast, and_true, cond_true, cond_false, if_pos, if_neg, ↓reduceIte, Nat.reduceEqDiff, Nat.reduceAdd, Nat.reduceLeDiff, eF_snoc]) <;> rfl) rfl rfl ?_)
    refine dawp_w rfl rfl rfl rfl (AOp.append _ _ _ rfl (by (simp (disch := omega) only [push_cast, and_true, cond_true, cond_false, if_pos, if_neg, ↓reduceIte, Nat.reduceEqDiff, Nat.reduceAdd, Nat.reduceLeDiff, eF_snoc]) <;> rfl) (by (simp (disch := omega) only [push_cast, and_true, cond_true, cond_false, if_pos, if_neg, ↓reduceIte, Nat.reduceEqDiff, Nat.reduceAdd, Nat.reduceLeDiff, eF_snoc]) <;> rfl) (by (simp (disch := omega) only [push_cast, and_true, cond_true, cond_false, if_pos, if_neg, ↓reduceIte, Nat.reduceEqDiff, Nat.reduceAdd, Nat.reduceLeDiff, eF_snoc]) <;> rfl) hcok (cells_eF _) (by simp [AV.cells]) (by simp; omega) (by simp; omega) ?_)
    intro c75 live75 hk75
    refine dawp_p rfl (by (simp (disch := omega) only [push_cast, and_true, cond_true, cond_false, if_pos, if_neg, ↓reduceIte, Nat.reduceEqDiff, Nat.reduceAdd, Nat.reduceLeDiff, eF_snoc]) <;> rfl) rfl rfl ?_
    refine dawp_hn rfl (by (simp (disch := omega) only [push_cast, and_true, cond_true, cond_false, if_pos, if_neg, ↓reduceIte, Nat.reduceEqDiff, Nat.reduceAdd, Nat.reduceLeDiff, eF_snoc]) <;> rfl) rfl ?_
    refine dawp_nil ?_
    simp (disch := omega) only [push_cast, and_true, cond_true, cond_false, if_pos, if_neg, ↓reduceIte, Nat.reduceEqDiff, Nat.reduceAdd, Nat.reduceLeDiff, eF_snoc]
    refine hK17 _ ?_
    refine awp_seq_k fun K18 hK18 => ?_
    refine awp_region_keep [8, 9] ⟨false, [], [], []⟩ (fun h => nomatch h) ?_
    refine dawp_h rfl (by (simp (disch := omega) only [push_cast, and_true, cond_true, cond_false, if_pos, if_neg, ↓reduceIte, Nat.reduceEqDiff, Nat.reduceAdd, Nat.reduceLeDiff, eF_snoc]) <;> rfl) rfl rfl ?_
    refine dawp_p rfl (by (simp (disch := omega) only [push_cast, and_true, cond_true, cond_false, if_pos, if_neg, ↓reduceIte, Nat.reduceEqDiff, Nat.reduceAdd, Nat.reduceLeDiff, eF_snoc]) <;> rfl) rfl rfl ?_
    refine dawp_hn rfl (by (simp (disch := omega) only [push_cast, and_true, cond_true, cond_false, if_pos, if_neg, ↓reduceIte, Nat.reduceEqDiff, Nat.reduceAdd, Nat.reduceLeDiff, eF_snoc]) <;> rfl) rfl ?_
    refine dawp_p rfl (by (simp (disch := omega) only [push_cast, and_true, cond_true, cond_false, if_pos, if_neg, ↓reduceIte, Nat.reduceEqDiff, Nat.reduceAdd, Nat.reduceLeDiff, eF_snoc]) <;> rfl) rfl rfl ?_
    refine dawp_nil ?_
    simp (disch := omega) only [push_cast, and_true, cond_true, cond_false, if_pos, if_neg, ↓reduceIte, Nat.reduceEqDiff, Nat.reduceAdd, Nat.reduceLeDiff, eF_snoc]
    refine hK18 _ ?_
    refine awp_ret ?_
    try simp only [push_cast]
    refine fin_gen (h1 := h) (live := _) (by (simp (disch := omega) only [Try.results19, aresults, aresult, push_cast, and_true, cond_true, cond_false, if_pos, if_neg, ↓reduceIte, Nat.reduceEqDiff, Nat.reduceAdd, Nat.reduceLeDiff, eF_snoc]) <;> rfl) (.inl rfl) (by simp [atuple, AV.cl, AV.clL, zO, clL_eF, clL_eF_snoc, clL_str, clL_str_tail, hrst]) (by first | exact ⟨_, rfl⟩ | exact ⟨[], (List.append_nil _).symm⟩ | exact ⟨_, by rw [List.append_assoc]; rfl⟩) (hH) (Nat.le_refl _) (fun _ h => h) ?_
    rw [← hlt, letters_own (by omega) (by rw [mayB, hb2]; rfl) (by rw [valB_not, hb3]; rfl) (by intro e; have := congrArg List.length e; simp at this; omega)]
    exact ⟨rfl, _, _, _, c75, rfl, hkp.trans hk75, by rintro _ _ ⟨⟩; exact ⟨_, rfl, rfl, rfl⟩⟩
  try simp only [decide_eq_true_eq, decide_eq_false_iff_not, Bool.not_eq_true', Bool.not_eq_false', Bool.or_eq_true, Bool.and_eq_true, Bool.or_eq_false_iff, Bool.and_eq_false_imp, Int.not_lt, Int.not_le] at hb4
  refine awp_skip ?_
  try simp only [push_cast]
  refine hK15 _ ?_
  refine awp_seq_k fun K19 hK19 => ?_
  refine awp_seq_k fun K20 hK20 => ?_
  refine awp_region_keep [2, 3, 5, 8, 10, 81] ⟨false, [], [], []⟩ (fun h => nomatch h) ?_
  iterate 3 (refine dawp_p rfl (by (simp (disch := omega) only [push_cast, and_true, cond_true, cond_false, if_pos, if_neg, ↓reduceIte, Nat.reduceEqDiff, Nat.reduceAdd, Nat.reduceLeDiff, eF_snoc]) <;> rfl) rfl rfl ?_)
  refine dawp_nil ?_
  simp (disch := omega) only [push_cast, and_true, cond_true, cond_false, if_pos, if_neg, ↓reduceIte, Nat.reduceEqDiff, Nat.reduceAdd, Nat.reduceLeDiff, eF_snoc]
  refine hK20 _ ?_
  refine awp_cond (by (simp (disch := omega) only [push_cast, and_true, cond_true, cond_false, if_pos, if_neg, ↓reduceIte, Nat.reduceEqDiff, Nat.reduceAdd, Nat.reduceLeDiff, eF_snoc]) <;> rfl) (fun hb5 => ?_) (fun hb5 => ?_)
  · skip
    try simp only [decide_eq_true_eq, decide_eq_false_iff_not, Bool.not_eq_true', Bool.not_eq_false', Bool.or_eq_true, Bool.and_eq_true, Bool.or_eq_false_iff, Bool.and_eq_false_imp, Int.not_lt, Int.not_le] at hb5
    refine awp_seq_k fun K21 hK21 => ?_
    refine awp_region_keep [8, 9] ⟨false, [], [], []⟩ (fun h => nomatch h) ?_
    refine dawp_p rfl (by (simp (disch := omega) only [push_cast, and_true, cond_true, cond_false, if_pos, if_neg, ↓reduceIte, Nat.reduceEqDiff, Nat.reduceAdd, Nat.reduceLeDiff, eF_snoc]) <;> rfl) rfl rfl ?_
    refine dawp_hn rfl (by (simp (disch := omega) only [push_cast, and_true, cond_true, cond_false, if_pos, if_neg, ↓reduceIte, Nat.reduceEqDiff, Nat.reduceAdd, Nat.reduceLeDiff, eF_snoc]) <;> rfl) rfl ?_
    refine dawp_p rfl (by (simp (disch := omega) only [push_cast, and_true, cond_true, cond_false, if_pos, if_neg, ↓reduceIte, Nat.reduceEqDiff, Nat.reduceAdd, Nat.reduceLeDiff, eF_snoc]) <;> rfl) rfl rfl ?_
    refine dawp_nil ?_
    simp (disch := omega) only [push_cast, and_true, cond_true, cond_false, if_pos, if_neg, ↓reduceIte, Nat.reduceEqDiff, Nat.reduceAdd, Nat.reduceLeDiff, eF_snoc]
    refine hK21 _ ?_
    refine awp_ret ?_
    try simp only [push_cast]
    refine fin_gen (h1 := h) (live := _) (by (simp (disch := omega) only [Try.results19, aresults, aresult, push_cast, and_true, cond_true, cond_false, if_pos, if_neg, ↓reduceIte, Nat.reduceEqDiff, Nat.reduceAdd, Nat.reduceLeDiff, eF_snoc]) <;> rfl) (.inl rfl) (by simp [atuple, AV.cl, AV.clL, zO, clL_eF, clL_eF_snoc, clL_str, clL_str_tail, hrst]) (by first | exact ⟨_, rfl⟩ | exact ⟨[], (List.append_nil _).symm⟩ | exact ⟨_, by rw [List.append_assoc]; rfl⟩) (hH) (Nat.le_refl _) (fun _ h => h) ?_
    rw [← hlt, letters_none (by omega) (by rw [mayB, hb2]; rfl) (by rw [valB_not, hb3]; rfl) (List.drop_of_length_le (by omega)) (by omega)]
    exact ⟨rfl, _, _, _, c', rfl, hkp, by rintro _ _ ⟨⟩⟩
  try simp only [decide_eq_true_eq, decide_eq_false_iff_not, Bool.not_eq_true', Bool.not_eq_false', Bool.or_eq_true, Bool.and_eq_true, Bool.or_eq_false_iff, Bool.and_eq_false_imp, Int.not_lt, Int.not_le] at hb5
  refine awp_skip ?_
  try simp only [push_cast]
  refine hK19 _ ?_
  refine awp_seq_k fun K22 hK22 => ?_
  refine awp_region_keep [3, 5, 8] ⟨false, [], [], []⟩ (fun _ => ⟨by kernel_rfl, by kernel_rfl⟩) ?_
  refine dawp_p rfl (by (simp (disch := omega) only [push_cast, and_true, cond_true, cond_false, if_pos, if_neg, ↓reduceIte, Nat.reduceEqDiff, Nat.reduceAdd, Nat.reduceLeDiff, eF_snoc]) <;> rfl) rfl rfl ?_
  refine dawp_h rfl (by (simp (disch := omega) only [push_cast, and_true, cond_true, cond_false, if_pos, if_neg, ↓reduceIte, Nat.reduceEqDiff, Nat.reduceAdd, Nat.reduceLeDiff, eF_snoc]) <;> rfl) rfl rfl ?_
  iterate 5 (refine dawp_p rfl (by (simp (disch := omega) only [push_cast, and_true, cond_true, cond_false, if_pos, if_neg, ↓reduceIte, Nat.reduceEqDiff, Nat.reduceAdd, Nat.reduceLeDiff, eF_snoc]) <;> rfl) rfl rfl ?_)
  refine dawp_h rfl (by (simp (disch := omega) only [push_cast, and_true, cond_true, cond_false, if_pos, if_neg, ↓reduceIte, Nat.reduceEqDiff, Nat.reduceAdd, Nat.reduceLeDiff, eF_snoc]) <;> rfl) rfl rfl ?_
  iterate 2 (refine dawp_p rfl (by (simp (disch := omega) only [push_cast, and_true, cond_true, cond_false, if_pos, if_neg, ↓reduceIte, Nat.reduceEqDiff, Nat.reduceAdd, Nat.reduceLeDiff, eF_snoc]) <;> rfl) rfl rfl ?_)
  refine dawp_w rfl rfl rfl rfl (AOp.append _ _ _ rfl (by (simp (disch := omega) only [push_cast, and_true, cond_true, cond_false, if_pos, if_neg, ↓reduceIte, Nat.reduceEqDiff, Nat.reduceAdd, Nat.reduceLeDiff, eF_snoc]) <;> rfl) (by (simp (disch := omega) only [push_cast, and_true, cond_true, cond_false, if_pos, if_neg, ↓reduceIte, Nat.reduceEqDiff, Nat.reduceAdd, Nat.reduceLeDiff, eF_snoc]) <;> rfl) (by (simp (disch := omega) only [push_cast, and_true, cond_true, cond_false, if_pos, if_neg, ↓reduceIte, Nat.reduceEqDiff, Nat.reduceAdd, Nat.reduceLeDiff, eF_snoc]) <;> rfl) hcok (cells_eF _) (by simp [AV.cells]) (by simp; omega) (by simp; omega) ?_)
  intro c93 live93 hk93
  refine dawp_p rfl (by (simp (disch := omega) only [push_cast, and_true, cond_true, cond_false, if_pos, if_neg, ↓reduceIte, Nat.reduceEqDiff, Nat.reduceAdd, Nat.reduceLeDiff, eF_snoc]) <;> rfl) rfl rfl ?_
  refine dawp_hn rfl (by (simp (disch := omega) only [push_cast, and_true, cond_true, cond_false, if_pos, if_neg, ↓reduceIte, Nat.reduceEqDiff, Nat.reduceAdd, Nat.reduceLeDiff, eF_snoc]) <;> rfl) rfl ?_
  refine dawp_nil ?_
  simp (disch := omega) only [push_cast, and_true, cond_true, cond_false, if_pos, if_neg, ↓reduceIte, Nat.reduceEqDiff, Nat.reduceAdd, Nat.reduceLeDiff, eF_snoc]
  refine hK22 _ ?_
  refine awp_seq_k fun K23 hK23 => ?_
  refine awp_region_keep [8, 9] ⟨false, [], [], []⟩ (fun _ => ⟨by kernel_rfl, by kernel_rfl⟩) ?_
  refine dawp_h rfl (by (simp (disch := omega) only [push_cast, and_true, cond_true, cond_false, if_pos, if_neg, ↓reduceIte, Nat.reduceEqDiff, Nat.reduceAdd, Nat.reduceLeDiff, eF_snoc]) <;> rfl) rfl rfl ?_
  iterate 2 (refine dawp_p rfl (by (simp (disch := omega) only [push_cast, and_true, cond_true, cond_false, if_pos, if_neg, ↓reduceIte, Nat.reduceEqDiff, Nat.reduceAdd, Nat.reduceLeDiff, eF_snoc]) <;> rfl) rfl rfl ?_)
  refine dawp_hn rfl (by (simp (disch := omega) only [push_cast, and_true, cond_true, cond_false, if_pos, if_neg, ↓reduceIte, Nat.reduceEqDiff, Nat.reduceAdd, Nat.reduceLeDiff, eF_snoc]) <;> rfl) rfl ?_
  refine dawp_p rfl (by (simp (disch := omega) only [push_cast, and_true, cond_true, cond_false, if_pos, if_neg, ↓reduceIte, Nat.reduceEqDiff, Nat.reduceAdd, Nat.reduceLeDiff, eF_snoc]) <;> rfl) rfl rfl ?_
  refine dawp_nil ?_
  simp (disch := omega) only [push_cast, and_true, cond_true, cond_false, if_pos, if_neg, ↓reduceIte, Nat.reduceEqDiff, Nat.reduceAdd, Nat.reduceLeDiff, eF_snoc]
  refine hK23 _ ?_
  refine awp_ret ?_
  try simp only [push_cast]
  refine fin_gen (h1 := h) (live := _) (by (simp (disch := omega) only [Try.results19, aresults, aresult, push_cast, and_true, cond_true, cond_false, if_pos, if_neg, ↓reduceIte, Nat.reduceEqDiff, Nat.reduceAdd, Nat.reduceLeDiff, eF_snoc]) <;> rfl) (.inl rfl) (by simp [atuple, AV.cl, AV.clL, zO, clL_eF, clL_eF_snoc, clL_str, clL_str_tail, hrst]) (by first | exact ⟨_, rfl⟩ | exact ⟨[], (List.append_nil _).symm⟩ | exact ⟨_, by rw [List.append_assoc]; rfl⟩) (hH) (Nat.le_refl _) (fun _ h => h) ?_
  rw [← hlt, letters_next (by omega) (by rw [mayB, hb2]; rfl) (by rw [valB_not, hb3]; rfl) (List.drop_of_length_le (by omega)) (by omega)]
  exact ⟨rfl, _, _, _, c93, rfl, hkp.trans hk93, by rintro _ _ ⟨⟩; exact ⟨_, rfl, rfl, rfl⟩⟩

end Go.Proofs.Ytjlcdkklobcdhaa
