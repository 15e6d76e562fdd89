import Derived.Test.YtjlcdkklobcdhaaO14
/-
  OPTIONS: OptsApart: the walk.
-/
namespace Go.Proofs.Ytjlcdkklobcdhaa
open Go.Ab
set_option linter.unusedVariables false
set_option linter.unusedSimpArgs false


def bV (p : UInt8) : AV := .int .u8 p.toNat
theorem getD_bV {l : List UInt8} {i : Nat} {d : AV} (h : i < l.length) : (l.map bV).getD i d = .int .u8 (l.getD i 0).toNat := by
  simp [List.getD_eq_getElem?_getD, h, bV]
attribute [push_cast] getD_bV
theorem clL_bV (n : Nat) (l : List UInt8) : AV.clL n (l.map bV) := by
  rw [AV.clL_mem]; intro x hx; obtain ⟨y, _, rfl⟩ := List.mem_map.1 hx; trivial
def dl (p : UInt8) : List UInt8 := [45, lt p]
theorem take_one (l : List UInt8) (i : Nat) (hi : i < l.length) : l.take (i + 1) = l.take i ++ [l.getD i 0] := by
  rw [List.take_succ_eq_append_getElem hi]; simp [List.getD_eq_getElem?_getD, hi]
theorem take_lt (l : List UInt8) (i : Nat) (hi : i < l.length) : (l.take i).map lt ++ [lt (l.getD i 0)] = (l.take (i + 1)).map lt := by
  rw [take_one l i hi, List.map_append]; rfl
theorem take_dl (l : List UInt8) (i : Nat) (hi : i < l.length) : (l.take i).map dl ++ [dl (l.getD i 0)] = (l.take (i + 1)).map dl := by
  rw [take_one l i hi, List.map_append]; rfl
def lx (p : UInt8) : Nat := p.toNat % 4
theorem lx_lt (p : UInt8) : lx p < 4 := Nat.mod_lt _ (by omega)
theorem tmod4 (p : UInt8) : ((p.toNat : Int)).tmod 4 = ((lx p : Nat) : Int) := by
  rw [Int.tmod_eq_emod_of_nonneg (by omega)]; rfl
theorem lt_sl (p : UInt8) : (([82, 72, 76, 80] : List UInt8).drop (lx p)).take (lx p + 1 - lx p) = [lt p] := by
  have := lt_slice p
  rw [List.drop_take] at this
  rw [← this]; rfl
theorem lt_get (p : UInt8) : ([82, 72, 76, 80] : List UInt8).getD (lx p) 0 = lt p := rfl
theorem stop_of {rest : List (List UInt8)} (h : 0 < (rest.length : Int) → 1 < ((rest.getD 0 []).length : Int) → ¬ (((rest.getD 0 []).getD 0 0).toNat : Int) = 45) : stopR rest := by
  cases rest with
  | nil => exact .inl rfl
  | cons s r =>
    refine .inr ?_
    rw [isOpt_eq]
    have h1 := h (by simp)
    by_cases h2 : 1 < (((s :: r).getD 0 []).length : Int)
    · rw [decide_eq_true h2, decide_eq_false (h1 h2)]; rfl
    · rw [decide_eq_false h2]; rfl
theorem _root_.Go.Ab.CapOK.thru {la lb : List Nat} {b c : Cap} (hk : Keeps la .full lb b) (h : CapOK la c) : CapOK lb c := h.imp id fun ⟨t, e, ht⟩ => ⟨t, e, (hk.2 t ht (fun k => by cases k)).1⟩
theorem one_app (w : List UInt8) (r : List (List UInt8)) : AV.str w :: r.map AV.str = (w :: r).map AV.str := rfl
theorem two_app (w r : List (List UInt8)) : w.map AV.str ++ r.map AV.str = (w ++ r).map AV.str := by simp
theorem dl_snoc (w : List (List UInt8)) (p : UInt8) : w.map AV.str ++ [AV.str [45, lt p]] = (w ++ [dl p]).map AV.str := by simp [dl]

set_option maxHeartbeats 400000 in
theorem c6 (picks : List UInt8) (rest : List (List UInt8)) (cp cr : Cap) (h : List Blk) (live : List Nat) (hlr : rest.length ≤ 9223372036854775807) (hlp : picks.length ≤ 9223372036854775807) : ACalls Try.prog 6 [.slice (picks.map bV) cp, .slice (rest.map .str) cr] h live (ret (.bool true) h live) := by
  refine acalls_of_awp Try.func6 rfl rfl (Nat.le_of_ble_eq_true rfl) fun hH hX => ?_
  simp only [fargs]
  refine awp_seq_k fun K1 hK1 => ?_
  refine awp_region_keep [0, 1] ⟨false, [], [], []⟩ (fun h => nomatch h) ?_
  refine dawp_p rfl (by (simp (disch := omega) only [push_cast, and_true, cond_true, cond_false, if_pos, if_neg, ↓reduceIte, Nat.reduceEqDiff, Nat.reduceAdd, Nat.reduceLeDiff, parseV, Bool.true_and, two_app, tmod4, lt_sl, lt_get, plF_getD, dl_snoc, take_lt, take_dl]) <;> rfl) rfl rfl ?_
  refine dawp_nil ?_
  simp (disch := omega) only [push_cast, and_true, cond_true, cond_false, if_pos, if_neg, ↓reduceIte, Nat.reduceEqDiff, Nat.reduceAdd, Nat.reduceLeDiff, parseV, Bool.true_and, two_app, tmod4, lt_sl, lt_get, plF_getD, dl_snoc, take_lt, take_dl]
  refine hK1 _ ?_
  refine awp_seq_k fun K2 hK2 => ?_
  refine awp_region_keep [0, 1, 5] ⟨false, [], [], []⟩ (fun h => nomatch h) ?_
  refine dawp_w rfl rfl rfl rfl (AOp.callx _ _ _ rfl (by (simp (disch := omega) only [push_cast, and_true, cond_true, cond_false, if_pos, if_neg, ↓reduceIte, Nat.reduceEqDiff, Nat.reduceAdd, Nat.reduceLeDiff, parseV, Bool.true_and, two_app, tmod4, lt_sl, lt_get, plF_getD, dl_snoc, take_lt, take_dl]) <;> rfl) (by (simp (disch := omega) only [push_cast, and_true, cond_true, cond_false, if_pos, if_neg, ↓reduceIte, Nat.reduceEqDiff, Nat.reduceAdd, Nat.reduceLeDiff, parseV, Bool.true_and, two_app, tmod4, lt_sl, lt_get, plF_getD, dl_snoc, take_lt, take_dl]) <;> rfl) ?_)  
  refine (c8 _ _).mono ?_; rintro _ _ _ ⟨rfl, rfl, rfl⟩
  refine dawp_p rfl (by (simp (disch := omega) only [push_cast, and_true, cond_true, cond_false, if_pos, if_neg, ↓reduceIte, Nat.reduceEqDiff, Nat.reduceAdd, Nat.reduceLeDiff, parseV, Bool.true_and, two_app, tmod4, lt_sl, lt_get, plF_getD, dl_snoc, take_lt, take_dl]) <;> rfl) rfl rfl ?_
  refine dawp_nil ?_
  simp (disch := omega) only [push_cast, and_true, cond_true, cond_false, if_pos, if_neg, ↓reduceIte, Nat.reduceEqDiff, Nat.reduceAdd, Nat.reduceLeDiff, parseV, Bool.true_and, two_app, tmod4, lt_sl, lt_get, plF_getD, dl_snoc, take_lt, take_dl]
  refine hK2 _ ?_
  refine awp_seq_k fun K3 hK3 => ?_
  refine awp_seq_k fun K4 hK4 => ?_
  refine awp_region_keep [0, 1, 19] ⟨false, [], [], []⟩ (fun h => nomatch h) ?_
  iterate 2 (refine dawp_p rfl (by (simp (disch := omega) only [push_cast, and_true, cond_true, cond_false, if_pos, if_neg, ↓reduceIte, Nat.reduceEqDiff, Nat.reduceAdd, Nat.reduceLeDiff, parseV, Bool.true_and, two_app, tmod4, lt_sl, lt_get, plF_getD, dl_snoc, take_lt, take_dl]) <;> rfl) rfl rfl ?_)
  refine dawp_nil ?_
  simp (disch := omega) only [push_cast, and_true, cond_true, cond_false, if_pos, if_neg, ↓reduceIte, Nat.reduceEqDiff, Nat.reduceAdd, Nat.reduceLeDiff, parseV, Bool.true_and, two_app, tmod4, lt_sl, lt_get, plF_getD, dl_snoc, take_lt, take_dl]
  refine hK4 _ ?_
  refine awp_cond (by (simp (disch := omega) only [push_cast, and_true, cond_true, cond_false, if_pos, if_neg, ↓reduceIte, Nat.reduceEqDiff, Nat.reduceAdd, Nat.reduceLeDiff, parseV, Bool.true_and, two_app, tmod4, lt_sl, lt_get, plF_getD, dl_snoc, take_lt, take_dl]) <;> rfl) (fun hb1 => ?_) (fun hb1 => ?_)
  · skip
    exfalso; simp at hb1
  try simp only [decide_eq_true_eq, decide_eq_false_iff_not, Bool.not_eq_true', Bool.not_eq_false', Bool.or_eq_true, Bool.and_eq_true, Bool.or_eq_false_iff, Bool.and_eq_false_imp, Int.not_lt, Int.not_le] at hb1
  refine awp_skip ?_
  try simp only [push_cast]
  refine hK3 _ ?_
  refine awp_seq_k fun K5 hK5 => ?_
  refine awp_region_keep [0, 1, 6] ⟨false, [], [], []⟩ (fun h => nomatch h) ?_
  refine dawp_p rfl (by (simp (disch := omega) only [push_cast, and_true, cond_true, cond_false, if_pos, if_neg, ↓reduceIte, Nat.reduceEqDiff, Nat.reduceAdd, Nat.reduceLeDiff, parseV, Bool.true_and, two_app, tmod4, lt_sl, lt_get, plF_getD, dl_snoc, take_lt, take_dl]) <;> rfl) rfl rfl ?_
  refine dawp_w rfl rfl rfl rfl (AOp.callx _ _ _ rfl (by (simp (disch := omega) only [push_cast, and_true, cond_true, cond_false, if_pos, if_neg, ↓reduceIte, Nat.reduceEqDiff, Nat.reduceAdd, Nat.reduceLeDiff, parseV, Bool.true_and, two_app, tmod4, lt_sl, lt_get, plF_getD, dl_snoc, take_lt, take_dl]) <;> rfl) (by (simp (disch := omega) only [push_cast, and_true, cond_true, cond_false, if_pos, if_neg, ↓reduceIte, Nat.reduceEqDiff, Nat.reduceAdd, Nat.reduceLeDiff, parseV, Bool.true_and, two_app, tmod4, lt_sl, lt_get, plF_getD, dl_snoc, take_lt, take_dl]) <;> rfl) ?_)  
  refine (c9 _ _ _ _ hlr).mono ?_; rintro _ _ _ ⟨rfl, rfl, rfl⟩
  refine dawp_p rfl (by (simp (disch := omega) only [push_cast, and_true, cond_true, cond_false, if_pos, if_neg, ↓reduceIte, Nat.reduceEqDiff, Nat.reduceAdd, Nat.reduceLeDiff, parseV, Bool.true_and, two_app, tmod4, lt_sl, lt_get, plF_getD, dl_snoc, take_lt, take_dl]) <;> rfl) rfl rfl ?_
  refine dawp_nil ?_
  simp (disch := omega) only [push_cast, and_true, cond_true, cond_false, if_pos, if_neg, ↓reduceIte, Nat.reduceEqDiff, Nat.reduceAdd, Nat.reduceLeDiff, parseV, Bool.true_and, two_app, tmod4, lt_sl, lt_get, plF_getD, dl_snoc, take_lt, take_dl]
  refine hK5 _ ?_
  refine awp_seq_k fun K6 hK6 => ?_
  refine awp_seq_k fun K7 hK7 => ?_
  refine awp_region_keep [0, 1, 52] ⟨false, [], [], []⟩ (fun h => nomatch h) ?_
  iterate 3 (refine dawp_p rfl (by (simp (disch := omega) only [push_cast, and_true, cond_true, cond_false, if_pos, if_neg, ↓reduceIte, Nat.reduceEqDiff, Nat.reduceAdd, Nat.reduceLeDiff, parseV, Bool.true_and, two_app, tmod4, lt_sl, lt_get, plF_getD, dl_snoc, take_lt, take_dl]) <;> rfl) rfl rfl ?_)
  iterate 3 (refine dawp_g rfl rfl (by simp only [push_cast, and_true, cond_true, cond_false, if_pos, if_neg, ↓reduceIte, Nat.reduceEqDiff, Nat.reduceAdd, Nat.reduceLeDiff, parseV, Bool.true_and, two_app, tmod4, lt_sl, lt_get, plF_getD, dl_snoc, take_lt, take_dl]; rfl) (fun hg => by simp (disch := omega) only [hg, push_cast, and_true, cond_true, cond_false, if_pos, if_neg, ↓reduceIte, Nat.reduceEqDiff, Nat.reduceAdd, Nat.reduceLeDiff, parseV, Bool.true_and, two_app, tmod4, lt_sl, lt_get, plF_getD, dl_snoc, take_lt, take_dl]; rfl) rfl rfl ?_)
  iterate 2 (refine dawp_p rfl (by (simp (disch := omega) only [push_cast, and_true, cond_true, cond_false, if_pos, if_neg, ↓reduceIte, Nat.reduceEqDiff, Nat.reduceAdd, Nat.reduceLeDiff, parseV, Bool.true_and, two_app, tmod4, lt_sl, lt_get, plF_getD, dl_snoc, take_lt, take_dl]) <;> rfl) rfl rfl ?_)
  iterate 3 (refine dawp_g rfl rfl (by simp only [push_cast, and_true, cond_true, cond_false, if_pos, if_neg, ↓reduceIte, Nat.reduceEqDiff, Nat.reduceAdd, Nat.reduceLeDiff, parseV, Bool.true_and, two_app, tmod4, lt_sl, lt_get, plF_getD, dl_snoc, take_lt, take_dl]; rfl) (fun hg => by simp (disch := omega) only [hg, push_cast, and_true, cond_true, cond_false, if_pos, if_neg, ↓reduceIte, Nat.reduceEqDiff, Nat.reduceAdd, Nat.reduceLeDiff, parseV, Bool.true_and, two_app, tmod4, lt_sl, lt_get, plF_getD, dl_snoc, take_lt, take_dl]; rfl) rfl rfl ?_)
  iterate 2 (refine dawp_p rfl (by (simp (disch := omega) only [push_cast, and_true, cond_true, cond_false, if_pos, if_neg, ↓reduceIte, Nat.reduceEqDiff, Nat.reduceAdd, Nat.reduceLeDiff, parseV, Bool.true_and, two_app, tmod4, lt_sl, lt_get, plF_getD, dl_snoc, take_lt, take_dl]) <;> rfl) rfl rfl ?_)
  iterate 5 (refine dawp_g rfl rfl (by simp only [push_cast, and_true, cond_true, cond_false, if_pos, if_neg, ↓reduceIte, Nat.reduceEqDiff, Nat.reduceAdd, Nat.reduceLeDiff, parseV, Bool.true_and, two_app, tmod4, lt_sl, lt_get, plF_getD, dl_snoc, take_lt, take_dl]; rfl) (fun hg => by simp (disch := omega) only [hg, push_cast, and_true, cond_true, cond_false, if_pos, if_neg, ↓reduceIte, Nat.reduceEqDiff, Nat.reduceAdd, Nat.reduceLeDiff, parseV, Bool.true_and, two_app, tmod4, lt_sl, lt_get, plF_getD, dl_snoc, take_lt, take_dl]; rfl) rfl rfl ?_)
  refine dawp_g rfl rfl (by simp only [push_cast, and_true, cond_true, cond_false, if_pos, if_neg, ↓reduceIte, Nat.reduceEqDiff, Nat.reduceAdd, Nat.reduceLeDiff, parseV, Bool.true_and, two_app, tmod4, lt_sl, lt_get, plF_getD, dl_snoc, take_lt, take_dl]; rfl) (fun hg => by have hg2 := hg; simp only [Bool.and_eq_true, decide_eq_true_eq] at hg2; simp (disch := omega) only [hg, push_cast, and_true, cond_true, cond_false, if_pos, if_neg, ↓reduceIte, Nat.reduceEqDiff, Nat.reduceAdd, Nat.reduceLeDiff, parseV, Bool.true_and, two_app, tmod4, lt_sl, lt_get, plF_getD, dl_snoc, take_lt, take_dl]; rfl) rfl rfl ?_
  refine dawp_gh rfl rfl (by simp only [push_cast, and_true, cond_true, cond_false, if_pos, if_neg, ↓reduceIte, Nat.reduceEqDiff, Nat.reduceAdd, Nat.reduceLeDiff, parseV, Bool.true_and, two_app, tmod4, lt_sl, lt_get, plF_getD, dl_snoc, take_lt, take_dl]; rfl) (fun hg => by have hg2 := hg; simp only [Bool.and_eq_true, decide_eq_true_eq] at hg2; simp (disch := omega) only [hg, push_cast, and_true, cond_true, cond_false, if_pos, if_neg, ↓reduceIte, Nat.reduceEqDiff, Nat.reduceAdd, Nat.reduceLeDiff, parseV, Bool.true_and, two_app, tmod4, lt_sl, lt_get, plF_getD, dl_snoc, take_lt, take_dl]; rfl) rfl rfl ?_
  iterate 4 (refine dawp_g rfl rfl (by simp only [push_cast, and_true, cond_true, cond_false, if_pos, if_neg, ↓reduceIte, Nat.reduceEqDiff, Nat.reduceAdd, Nat.reduceLeDiff, parseV, Bool.true_and, two_app, tmod4, lt_sl, lt_get, plF_getD, dl_snoc, take_lt, take_dl]; rfl) (fun hg => by simp (disch := omega) only [hg, push_cast, and_true, cond_true, cond_false, if_pos, if_neg, ↓reduceIte, Nat.reduceEqDiff, Nat.reduceAdd, Nat.reduceLeDiff, parseV, Bool.true_and, two_app, tmod4, lt_sl, lt_get, plF_getD, dl_snoc, take_lt, take_dl]; rfl) rfl rfl ?_)
  refine dawp_g rfl rfl (by simp only [push_cast, and_true, cond_true, cond_false, if_pos, if_neg, ↓reduceIte, Nat.reduceEqDiff, Nat.reduceAdd, Nat.reduceLeDiff, parseV, Bool.true_and, two_app, tmod4, lt_sl, lt_get, plF_getD, dl_snoc, take_lt, take_dl]; rfl) (fun hg => by have hg2 := hg; simp only [Bool.and_eq_true, decide_eq_true_eq] at hg2; simp (disch := omega) only [hg, push_cast, and_true, cond_true, cond_false, if_pos, if_neg, ↓reduceIte, Nat.reduceEqDiff, Nat.reduceAdd, Nat.reduceLeDiff, parseV, Bool.true_and, two_app, tmod4, lt_sl, lt_get, plF_getD, dl_snoc, take_lt, take_dl]; rfl) rfl rfl ?_
  refine dawp_gh rfl rfl (by simp only [push_cast, and_true, cond_true, cond_false, if_pos, if_neg, ↓reduceIte, Nat.reduceEqDiff, Nat.reduceAdd, Nat.reduceLeDiff, parseV, Bool.true_and, two_app, tmod4, lt_sl, lt_get, plF_getD, dl_snoc, take_lt, take_dl]; rfl) (fun hg => by have hg2 := hg; simp only [Bool.and_eq_true, decide_eq_true_eq] at hg2; simp (disch := omega) only [hg, push_cast, and_true, cond_true, cond_false, if_pos, if_neg, ↓reduceIte, Nat.reduceEqDiff, Nat.reduceAdd, Nat.reduceLeDiff, parseV, Bool.true_and, two_app, tmod4, lt_sl, lt_get, plF_getD, dl_snoc, take_lt, take_dl]; rfl) rfl rfl ?_
  refine dawp_g rfl rfl (by simp only [push_cast, and_true, cond_true, cond_false, if_pos, if_neg, ↓reduceIte, Nat.reduceEqDiff, Nat.reduceAdd, Nat.reduceLeDiff, parseV, Bool.true_and, two_app, tmod4, lt_sl, lt_get, plF_getD, dl_snoc, take_lt, take_dl]; rfl) (fun hg => by have hg2 := hg; simp only [Bool.and_eq_true, decide_eq_true_eq] at hg2; simp (disch := omega) only [hg, push_cast, and_true, cond_true, cond_false, if_pos, if_neg, ↓reduceIte, Nat.reduceEqDiff, Nat.reduceAdd, Nat.reduceLeDiff, parseV, Bool.true_and, two_app, tmod4, lt_sl, lt_get, plF_getD, dl_snoc, take_lt, take_dl]; rfl) rfl rfl ?_
  iterate 3 (refine dawp_g rfl rfl (by simp only [push_cast, and_true, cond_true, cond_false, if_pos, if_neg, ↓reduceIte, Nat.reduceEqDiff, Nat.reduceAdd, Nat.reduceLeDiff, parseV, Bool.true_and, two_app, tmod4, lt_sl, lt_get, plF_getD, dl_snoc, take_lt, take_dl]; rfl) (fun hg => by simp (disch := omega) only [hg, push_cast, and_true, cond_true, cond_false, if_pos, if_neg, ↓reduceIte, Nat.reduceEqDiff, Nat.reduceAdd, Nat.reduceLeDiff, parseV, Bool.true_and, two_app, tmod4, lt_sl, lt_get, plF_getD, dl_snoc, take_lt, take_dl]; rfl) rfl rfl ?_)
  refine dawp_p rfl (by (simp (disch := omega) only [push_cast, and_true, cond_true, cond_false, if_pos, if_neg, ↓reduceIte, Nat.reduceEqDiff, Nat.reduceAdd, Nat.reduceLeDiff, parseV, Bool.true_and, two_app, tmod4, lt_sl, lt_get, plF_getD, dl_snoc, take_lt, take_dl]) <;> rfl) rfl rfl ?_
  refine dawp_nil ?_
  simp (disch := omega) only [push_cast, and_true, cond_true, cond_false, if_pos, if_neg, ↓reduceIte, Nat.reduceEqDiff, Nat.reduceAdd, Nat.reduceLeDiff, parseV, Bool.true_and, two_app, tmod4, lt_sl, lt_get, plF_getD, dl_snoc, take_lt, take_dl]
  refine hK7 _ ?_
  refine awp_cond (by (simp (disch := omega) only [push_cast, and_true, cond_true, cond_false, if_pos, if_neg, ↓reduceIte, Nat.reduceEqDiff, Nat.reduceAdd, Nat.reduceLeDiff, parseV, Bool.true_and, two_app, tmod4, lt_sl, lt_get, plF_getD, dl_snoc, take_lt, take_dl]) <;> rfl) (fun hb2 => ?_) (fun hb2 => ?_)
  · skip
    refine awp_seq_k fun K8 hK8 => ?_
    refine awp_region_keep [4] ⟨false, [], [], []⟩ (fun h => nomatch h) ?_
    refine dawp_p rfl (by (simp (disch := omega) only [push_cast, and_true, cond_true, cond_false, if_pos, if_neg, ↓reduceIte, Nat.reduceEqDiff, Nat.reduceAdd, Nat.reduceLeDiff, parseV, Bool.true_and, two_app, tmod4, lt_sl, lt_get, plF_getD, dl_snoc, take_lt, take_dl]) <;> rfl) rfl rfl ?_
    refine dawp_nil ?_
    simp (disch := omega) only [push_cast, and_true, cond_true, cond_false, if_pos, if_neg, ↓reduceIte, Nat.reduceEqDiff, Nat.reduceAdd, Nat.reduceLeDiff, parseV, Bool.true_and, two_app, tmod4, lt_sl, lt_get, plF_getD, dl_snoc, take_lt, take_dl]
    refine hK8 _ ?_
    refine awp_ret ?_
    try simp only [push_cast]
    refine fin_pure (by (simp (disch := omega) only [Try.results6, aresults, aresult, push_cast, and_true, cond_true, cond_false, if_pos, if_neg, ↓reduceIte, Nat.reduceEqDiff, Nat.reduceAdd, Nat.reduceLeDiff, parseV, Bool.true_and, two_app, tmod4, lt_sl, lt_get, plF_getD, dl_snoc, take_lt, take_dl]) <;> rfl) (by simp only [atuple, AV.er, AV.erL, push_cast]; rfl) (by simp [AV.cl, AV.clL]) (by first | exact ⟨_, rfl⟩ | exact ⟨[], (List.append_nil _).symm⟩) hH (fun _ h => h) ?_
    exact ⟨rfl, rfl, rfl⟩
  simp only [decide_eq_true_eq, decide_eq_false_iff_not, Bool.not_eq_true', Bool.not_eq_false', Bool.or_eq_true, Bool.and_eq_true, Bool.or_eq_false_iff, Bool.and_eq_false_imp, Int.not_lt, Int.not_le] at hb2
  obtain ⟨⟨⟨hfr, hpl⟩, hpn⟩, hst⟩ := hb2
  obtain ⟨hrw, hrl⟩ := few_spec hfr
  have hstop := stop_of hst
  have hv1 := apart_one (l := picks) (fun e => by rw [e] at hpn; simp at hpn) hstop
  have hv2 : parse PL (picks.map dl ++ rest) = some (plF picks, rest) := apart_two (l := picks) hstop
  have hpf := plF_len picks
  refine awp_skip ?_
  try simp only [push_cast]
  refine hK6 _ ?_
  refine awp_seq_k fun K9 hK9 => ?_
  refine awp_region_keep [0, 1, 7] ⟨false, [], [], []⟩ (fun h => nomatch h) ?_
  refine dawp_p rfl (by (simp (disch := omega) only [push_cast, and_true, cond_true, cond_false, if_pos, if_neg, ↓reduceIte, Nat.reduceEqDiff, Nat.reduceAdd, Nat.reduceLeDiff, parseV, Bool.true_and, two_app, tmod4, lt_sl, lt_get, plF_getD, dl_snoc, take_lt, take_dl]) <;> rfl) rfl rfl ?_
  refine dawp_nil ?_
  simp (disch := omega) only [push_cast, and_true, cond_true, cond_false, if_pos, if_neg, ↓reduceIte, Nat.reduceEqDiff, Nat.reduceAdd, Nat.reduceLeDiff, parseV, Bool.true_and, two_app, tmod4, lt_sl, lt_get, plF_getD, dl_snoc, take_lt, take_dl]
  refine hK9 _ ?_
  refine awp_seq_k fun K10 hK10 => ?_
  refine awp_region_keep [0, 1, 7, 8] ⟨false, [], [], []⟩ (fun h => nomatch h) ?_
  refine dawp_p rfl (by (simp (disch := omega) only [push_cast, and_true, cond_true, cond_false, if_pos, if_neg, ↓reduceIte, Nat.reduceEqDiff, Nat.reduceAdd, Nat.reduceLeDiff, parseV, Bool.true_and, two_app, tmod4, lt_sl, lt_get, plF_getD, dl_snoc, take_lt, take_dl]) <;> rfl) rfl rfl ?_
  refine dawp_nil ?_
  simp (disch := omega) only [push_cast, and_true, cond_true, cond_false, if_pos, if_neg, ↓reduceIte, Nat.reduceEqDiff, Nat.reduceAdd, Nat.reduceLeDiff, parseV, Bool.true_and, two_app, tmod4, lt_sl, lt_get, plF_getD, dl_snoc, take_lt, take_dl]
  refine hK10 _ ?_
  refine awp_seq_k fun K11 hK11 => ?_
  refine awp_seq_k fun K12 hK12 => ?_
  refine awp_region_keep [0, 1, 7, 8, 9] ⟨false, [], [], []⟩ (fun h => nomatch h) ?_
  refine dawp_p rfl (by (simp (disch := omega) only [push_cast, and_true, cond_true, cond_false, if_pos, if_neg, ↓reduceIte, Nat.reduceEqDiff, Nat.reduceAdd, Nat.reduceLeDiff, parseV, Bool.true_and, two_app, tmod4, lt_sl, lt_get, plF_getD, dl_snoc, take_lt, take_dl]) <;> rfl) rfl rfl ?_
  refine dawp_nil ?_
  simp (disch := omega) only [push_cast, and_true, cond_true, cond_false, if_pos, if_neg, ↓reduceIte, Nat.reduceEqDiff, Nat.reduceAdd, Nat.reduceLeDiff, parseV, Bool.true_and, two_app, tmod4, lt_sl, lt_get, plF_getD, dl_snoc, take_lt, take_dl]
  refine hK12 _ ?_
  refine awp_block ?_
  refine awp_loop' (X := {p : Nat × Cap × List Nat // p.1 ≤ picks.length ∧ Keeps live .full p.2.2 p.2.1}) (fun x => ⟨Try.f6.ntmps, fget [(0, .slice (picks.map bV) cp), (1, .slice (rest.map .str) cr), (7, .str (45 :: (picks.take x.1.1).map lt)), (8, .slice (((picks.take x.1.1).map dl).map .str) x.1.2.1), (9, .int .i64 (x.1.1 : Nat))], h, x.1.2.2⟩) (fun x => picks.length - x.1.1) (⟨⟨0, .full, live⟩, by simp, Keeps.refl (.inl rfl)⟩) ?_ (by first | rfl | simp only [List.length_set]) (fun ⟨⟨i, c', live'⟩, hi, hkp⟩ => ?_)
  · skip
    dsimp only
    refine Trunc.of (by first | exact (List.append_nil _).symm | (rw [List.append_assoc]; rfl)) ?_ hH (fun _ h => h)
    refine FTr.cons (by first | rfl | (simp (disch := omega) only [push_cast, and_true, cond_true, cond_false, if_pos, if_neg, ↓reduceIte, Nat.reduceEqDiff, Nat.reduceAdd, Nat.reduceLeDiff, parseV, Bool.true_and, two_app, tmod4, lt_sl, lt_get, plF_getD, dl_snoc, take_lt, take_dl]; rfl)) (by simp [AV.cl, AV.clL, clL_eF, clL_str, clL_bV, -List.map_take, -List.map_map]) ?_
    refine FTr.cons (by first | rfl | (simp (disch := omega) only [push_cast, and_true, cond_true, cond_false, if_pos, if_neg, ↓reduceIte, Nat.reduceEqDiff, Nat.reduceAdd, Nat.reduceLeDiff, parseV, Bool.true_and, two_app, tmod4, lt_sl, lt_get, plF_getD, dl_snoc, take_lt, take_dl]; rfl)) (by simp [AV.cl, AV.clL, clL_eF, clL_str, clL_bV, -List.map_take, -List.map_map]) ?_
    refine FTr.cons (by first | rfl | (simp (disch := omega) only [push_cast, and_true, cond_true, cond_false, if_pos, if_neg, ↓reduceIte, Nat.reduceEqDiff, Nat.reduceAdd, Nat.reduceLeDiff, parseV, Bool.true_and, two_app, tmod4, lt_sl, lt_get, plF_getD, dl_snoc, take_lt, take_dl]; rfl)) (by simp [AV.cl, AV.clL, clL_eF, clL_str, clL_bV, -List.map_take, -List.map_map]) ?_
    refine FTr.cons (by first | rfl | (simp (disch := omega) only [push_cast, and_true, cond_true, cond_false, if_pos, if_neg, ↓reduceIte, Nat.reduceEqDiff, Nat.reduceAdd, Nat.reduceLeDiff, parseV, Bool.true_and, two_app, tmod4, lt_sl, lt_get, plF_getD, dl_snoc, take_lt, take_dl]; rfl)) (by simp [AV.cl, AV.clL, clL_eF, clL_str, clL_bV, -List.map_take, -List.map_map]) ?_
    refine FTr.cons (by first | rfl | (simp (disch := omega) only [push_cast, and_true, cond_true, cond_false, if_pos, if_neg, ↓reduceIte, Nat.reduceEqDiff, Nat.reduceAdd, Nat.reduceLeDiff, parseV, Bool.true_and, two_app, tmod4, lt_sl, lt_get, plF_getD, dl_snoc, take_lt, take_dl]; rfl)) (by simp [AV.cl, AV.clL, clL_eF, clL_str, clL_bV, -List.map_take, -List.map_map]) ?_
    exact FTr.nil
  dsimp only
  have hcok := hkp.ok
  dsimp only at hi hkp hcok
  refine awp_seq_k fun K13 hK13 => ?_
  refine awp_seq_k fun K14 hK14 => ?_
  refine awp_region_keep [0, 1, 7, 8, 9, 56] ⟨false, [], [], []⟩ (fun h => nomatch h) ?_
  iterate 4 (refine dawp_p rfl (by (simp (disch := omega) only [push_cast, and_true, cond_true, cond_false, if_pos, if_neg, ↓reduceIte, Nat.reduceEqDiff, Nat.reduceAdd, Nat.reduceLeDiff, parseV, Bool.true_and, two_app, tmod4, lt_sl, lt_get, plF_getD, dl_snoc, take_lt, take_dl]) <;> rfl) rfl rfl ?_)
  refine dawp_nil ?_
  simp (disch := omega) only [push_cast, and_true, cond_true, cond_false, if_pos, if_neg, ↓reduceIte, Nat.reduceEqDiff, Nat.reduceAdd, Nat.reduceLeDiff, parseV, Bool.true_and, two_app, tmod4, lt_sl, lt_get, plF_getD, dl_snoc, take_lt, take_dl]
  refine hK14 _ ?_
  refine awp_cond (by (simp (disch := omega) only [push_cast, and_true, cond_true, cond_false, if_pos, if_neg, ↓reduceIte, Nat.reduceEqDiff, Nat.reduceAdd, Nat.reduceLeDiff, parseV, Bool.true_and, two_app, tmod4, lt_sl, lt_get, plF_getD, dl_snoc, take_lt, take_dl]) <;> rfl) (fun hb3 => ?_) (fun hb3 => ?_)
  rotate_left
  · skip
    simp only [decide_eq_false_iff_not, Int.not_lt] at hb3
    have hil : i = picks.length := by omega
    subst hil
    rw [List.take_length]
    refine awp_exit ?_
    simp (disch := omega) only [push_cast, and_true, cond_true, cond_false, if_pos, if_neg, ↓reduceIte, Nat.reduceEqDiff, Nat.reduceAdd, Nat.reduceLeDiff, parseV, Bool.true_and, two_app, tmod4, lt_sl, lt_get, plF_getD, dl_snoc, take_lt, take_dl]
    refine hK11 _ ?_
    refine awp_seq_k fun K15 hK15 => ?_
    refine awp_region_keep [0, 1, 8, 11] ⟨false, [], [], []⟩ (fun h => nomatch h) ?_
    iterate 3 (refine dawp_p rfl (by (simp (disch := omega) only [push_cast, and_true, cond_true, cond_false, if_pos, if_neg, ↓reduceIte, Nat.reduceEqDiff, Nat.reduceAdd, Nat.reduceLeDiff, parseV, Bool.true_and, two_app, tmod4, lt_sl, lt_get, plF_getD, dl_snoc, take_lt, take_dl]) <;> rfl) rfl rfl ?_)
    refine dawp_nil ?_
    simp (disch := omega) only [push_cast, and_true, cond_true, cond_false, if_pos, if_neg, ↓reduceIte, Nat.reduceEqDiff, Nat.reduceAdd, Nat.reduceLeDiff, parseV, Bool.true_and, two_app, tmod4, lt_sl, lt_get, plF_getD, dl_snoc, take_lt, take_dl]
    refine hK15 _ ?_
    refine awp_seq_k fun K16 hK16 => ?_
    refine awp_region_keep [0, 1, 8, 11] ⟨false, [], [], []⟩ (fun h => nomatch h) ?_
    iterate 2 (refine dawp_p rfl (by (simp (disch := omega) only [push_cast, and_true, cond_true, cond_false, if_pos, if_neg, ↓reduceIte, Nat.reduceEqDiff, Nat.reduceAdd, Nat.reduceLeDiff, parseV, Bool.true_and, two_app, tmod4, lt_sl, lt_get, plF_getD, dl_snoc, take_lt, take_dl]) <;> rfl) rfl rfl ?_)
    refine dawp_w rfl rfl rfl rfl (AOp.append _ _ _ rfl (by (simp (disch := omega) only [push_cast, and_true, cond_true, cond_false, if_pos, if_neg, ↓reduceIte, Nat.reduceEqDiff, Nat.reduceAdd, Nat.reduceLeDiff, parseV, Bool.true_and, two_app, tmod4, lt_sl, lt_get, plF_getD, dl_snoc, take_lt, take_dl]) <;> rfl) (by (simp (disch := omega) only [push_cast, and_true, cond_true, cond_false, if_pos, if_neg, ↓reduceIte, Nat.reduceEqDiff, Nat.reduceAdd, Nat.reduceLeDiff, parseV, Bool.true_and, two_app, tmod4, lt_sl, lt_get, plF_getD, dl_snoc, take_lt, take_dl]) <;> rfl) (by (simp (disch := omega) only [push_cast, and_true, cond_true, cond_false, if_pos, if_neg, ↓reduceIte, Nat.reduceEqDiff, Nat.reduceAdd, Nat.reduceLeDiff, parseV, Bool.true_and, two_app, tmod4, lt_sl, lt_get, plF_getD, dl_snoc, take_lt, take_dl]) <;> rfl) (.inl rfl) (by simp [AV.cells]) (cells_strs _) (by simp; omega) (by simp; omega) ?_)
    intro c83 live83 hk83
    refine dawp_p rfl (by (simp (disch := omega) only [push_cast, and_true, cond_true, cond_false, if_pos, if_neg, ↓reduceIte, Nat.reduceEqDiff, Nat.reduceAdd, Nat.reduceLeDiff, parseV, Bool.true_and, two_app, tmod4, lt_sl, lt_get, plF_getD, dl_snoc, take_lt, take_dl]) <;> rfl) rfl rfl ?_
    refine dawp_nil ?_
    simp (disch := omega) only [push_cast, and_true, cond_true, cond_false, if_pos, if_neg, ↓reduceIte, Nat.reduceEqDiff, Nat.reduceAdd, Nat.reduceLeDiff, parseV, Bool.true_and, two_app, tmod4, lt_sl, lt_get, plF_getD, dl_snoc, take_lt, take_dl]
    refine hK16 _ ?_
    refine awp_seq_k fun K17 hK17 => ?_
    refine awp_region_keep [0, 1, 8, 11] ⟨false, [], [], []⟩ (fun h => nomatch h) ?_
    iterate 2 (refine dawp_p rfl (by (simp (disch := omega) only [push_cast, and_true, cond_true, cond_false, if_pos, if_neg, ↓reduceIte, Nat.reduceEqDiff, Nat.reduceAdd, Nat.reduceLeDiff, parseV, Bool.true_and, two_app, tmod4, lt_sl, lt_get, plF_getD, dl_snoc, take_lt, take_dl]) <;> rfl) rfl rfl ?_)
    refine dawp_w rfl rfl rfl rfl (AOp.append _ _ _ rfl (by (simp (disch := omega) only [push_cast, and_true, cond_true, cond_false, if_pos, if_neg, ↓reduceIte, Nat.reduceEqDiff, Nat.reduceAdd, Nat.reduceLeDiff, parseV, Bool.true_and, two_app, tmod4, lt_sl, lt_get, plF_getD, dl_snoc, take_lt, take_dl]) <;> rfl) (by (simp (disch := omega) only [push_cast, and_true, cond_true, cond_false, if_pos, if_neg, ↓reduceIte, Nat.reduceEqDiff, Nat.reduceAdd, Nat.reduceLeDiff, parseV, Bool.true_and, two_app, tmod4, lt_sl, lt_get, plF_getD, dl_snoc, take_lt, take_dl]) <;> rfl) (by (simp (disch := omega) only [push_cast, and_true, cond_true, cond_false, if_pos, if_neg, ↓reduceIte, Nat.reduceEqDiff, Nat.reduceAdd, Nat.reduceLeDiff, parseV, Bool.true_and, two_app, tmod4, lt_sl, lt_get, plF_getD, dl_snoc, take_lt, take_dl]) <;> rfl) (hcok.thru hk83) (cells_strs _) (cells_strs _) (by simp; omega) (by simp; omega) ?_)
    intro c86 live86 hk86
    refine dawp_p rfl (by (simp (disch := omega) only [push_cast, and_true, cond_true, cond_false, if_pos, if_neg, ↓reduceIte, Nat.reduceEqDiff, Nat.reduceAdd, Nat.reduceLeDiff, parseV, Bool.true_and, two_app, tmod4, lt_sl, lt_get, plF_getD, dl_snoc, take_lt, take_dl]) <;> rfl) rfl rfl ?_
    refine dawp_nil ?_
    simp (disch := omega) only [push_cast, and_true, cond_true, cond_false, if_pos, if_neg, ↓reduceIte, Nat.reduceEqDiff, Nat.reduceAdd, Nat.reduceLeDiff, parseV, Bool.true_and, two_app, tmod4, lt_sl, lt_get, plF_getD, dl_snoc, take_lt, take_dl]
    refine hK17 _ ?_
    refine awp_seq_k fun K18 hK18 => ?_
    refine awp_region_keep [0, 1, 8, 12, 13] ⟨false, [], [], []⟩ (fun h => nomatch h) ?_
    refine dawp_p rfl (by (simp (disch := omega) only [push_cast, and_true, cond_true, cond_false, if_pos, if_neg, ↓reduceIte, Nat.reduceEqDiff, Nat.reduceAdd, Nat.reduceLeDiff, parseV, Bool.true_and, two_app, tmod4, lt_sl, lt_get, plF_getD, dl_snoc, take_lt, take_dl]) <;> rfl) rfl rfl ?_
    refine dawp_w rfl rfl rfl rfl (AOp.callx _ _ _ rfl (by (simp (disch := omega) only [hv1, pfs, prs, Option.isSome_some, push_cast, and_true, cond_true, cond_false, if_pos, if_neg, ↓reduceIte, Nat.reduceEqDiff, Nat.reduceAdd, Nat.reduceLeDiff, parseV, Bool.true_and, two_app, tmod4, lt_sl, lt_get, plF_getD, dl_snoc, take_lt, take_dl]) <;> rfl) (by (simp (disch := omega) only [hv1, pfs, prs, Option.isSome_some, push_cast, and_true, cond_true, cond_false, if_pos, if_neg, ↓reduceIte, Nat.reduceEqDiff, Nat.reduceAdd, Nat.reduceLeDiff, parseV, Bool.true_and, two_app, tmod4, lt_sl, lt_get, plF_getD, dl_snoc, take_lt, take_dl]) <;> rfl) ?_)  
    refine (c10 PL ((45 :: picks.map lt) :: rest) _ _ _ (by decide) (by simp; omega) (fun s hs => by simp only [List.mem_cons] at hs; rcases hs with hs | hs; subst hs; simp; omega; have := hrw s hs; omega)).mono ?_; rintro _ _ _ ⟨rfl, rfl, rfl⟩
    refine dawp_p rfl (by (simp (disch := omega) only [push_cast, and_true, cond_true, cond_false, if_pos, if_neg, ↓reduceIte, Nat.reduceEqDiff, Nat.reduceAdd, Nat.reduceLeDiff, parseV, Bool.true_and, two_app, tmod4, lt_sl, lt_get, plF_getD, dl_snoc, take_lt, take_dl]) <;> rfl) rfl rfl ?_
    refine dawp_p rfl (by (simp (disch := omega) only [hv1, pfs, prs, Option.isSome_some, push_cast, and_true, cond_true, cond_false, if_pos, if_neg, ↓reduceIte, Nat.reduceEqDiff, Nat.reduceAdd, Nat.reduceLeDiff, parseV, Bool.true_and, two_app, tmod4, lt_sl, lt_get, plF_getD, dl_snoc, take_lt, take_dl]) <;> rfl) rfl rfl ?_
    refine dawp_p rfl (by (simp (disch := omega) only [push_cast, and_true, cond_true, cond_false, if_pos, if_neg, ↓reduceIte, Nat.reduceEqDiff, Nat.reduceAdd, Nat.reduceLeDiff, parseV, Bool.true_and, two_app, tmod4, lt_sl, lt_get, plF_getD, dl_snoc, take_lt, take_dl]) <;> rfl) rfl rfl ?_
    refine dawp_h rfl (by (simp (disch := omega) only [push_cast, and_true, cond_true, cond_false, if_pos, if_neg, ↓reduceIte, Nat.reduceEqDiff, Nat.reduceAdd, Nat.reduceLeDiff, parseV, Bool.true_and, two_app, tmod4, lt_sl, lt_get, plF_getD, dl_snoc, take_lt, take_dl]) <;> rfl) rfl rfl ?_
    refine dawp_hn rfl (by (simp (disch := omega) only [push_cast, and_true, cond_true, cond_false, if_pos, if_neg, ↓reduceIte, Nat.reduceEqDiff, Nat.reduceAdd, Nat.reduceLeDiff, parseV, Bool.true_and, two_app, tmod4, lt_sl, lt_get, plF_getD, dl_snoc, take_lt, take_dl]) <;> rfl) rfl ?_
    refine dawp_p rfl (by (simp (disch := omega) only [push_cast, and_true, cond_true, cond_false, if_pos, if_neg, ↓reduceIte, Nat.reduceEqDiff, Nat.reduceAdd, Nat.reduceLeDiff, parseV, Bool.true_and, two_app, tmod4, lt_sl, lt_get, plF_getD, dl_snoc, take_lt, take_dl]) <;> rfl) rfl rfl ?_
    refine dawp_nil ?_
    simp (disch := omega) only [push_cast, and_true, cond_true, cond_false, if_pos, if_neg, ↓reduceIte, Nat.reduceEqDiff, Nat.reduceAdd, Nat.reduceLeDiff, parseV, Bool.true_and, two_app, tmod4, lt_sl, lt_get, plF_getD, dl_snoc, take_lt, take_dl]
    refine hK18 _ ?_
    refine awp_seq_k fun K19 hK19 => ?_
    refine awp_region_keep [0, 1, 12, 13, 14, 15] ⟨false, [], [], []⟩ (fun h => nomatch h) ?_
    refine dawp_p rfl (by (simp (disch := omega) only [push_cast, and_true, cond_true, cond_false, if_pos, if_neg, ↓reduceIte, Nat.reduceEqDiff, Nat.reduceAdd, Nat.reduceLeDiff, parseV, Bool.true_and, two_app, tmod4, lt_sl, lt_get, plF_getD, dl_snoc, take_lt, take_dl]) <;> rfl) rfl rfl ?_
    refine dawp_w rfl rfl rfl rfl (AOp.callx _ _ _ rfl (by (simp (disch := omega) only [hv2, pfs, prs, Option.isSome_some, push_cast, and_true, cond_true, cond_false, if_pos, if_neg, ↓reduceIte, Nat.reduceEqDiff, Nat.reduceAdd, Nat.reduceLeDiff, parseV, Bool.true_and, two_app, tmod4, lt_sl, lt_get, plF_getD, dl_snoc, take_lt, take_dl]) <;> rfl) (by (simp (disch := omega) only [hv2, pfs, prs, Option.isSome_some, push_cast, and_true, cond_true, cond_false, if_pos, if_neg, ↓reduceIte, Nat.reduceEqDiff, Nat.reduceAdd, Nat.reduceLeDiff, parseV, Bool.true_and, two_app, tmod4, lt_sl, lt_get, plF_getD, dl_snoc, take_lt, take_dl]) <;> rfl) ?_)  
    refine (c10 PL (picks.map dl ++ rest) _ _ _ (by decide) (by simp; omega) (fun s hs => by rw [List.mem_append, List.mem_map] at hs; rcases hs with ⟨p, _, hs⟩ | hs; subst hs; simp [dl]; have := hrw s hs; omega)).mono ?_; rintro _ _ _ ⟨rfl, rfl, rfl⟩
    refine dawp_p rfl (by (simp (disch := omega) only [push_cast, and_true, cond_true, cond_false, if_pos, if_neg, ↓reduceIte, Nat.reduceEqDiff, Nat.reduceAdd, Nat.reduceLeDiff, parseV, Bool.true_and, two_app, tmod4, lt_sl, lt_get, plF_getD, dl_snoc, take_lt, take_dl]) <;> rfl) rfl rfl ?_
    refine dawp_p rfl (by (simp (disch := omega) only [hv2, pfs, prs, Option.isSome_some, push_cast, and_true, cond_true, cond_false, if_pos, if_neg, ↓reduceIte, Nat.reduceEqDiff, Nat.reduceAdd, Nat.reduceLeDiff, parseV, Bool.true_and, two_app, tmod4, lt_sl, lt_get, plF_getD, dl_snoc, take_lt, take_dl]) <;> rfl) rfl rfl ?_
    refine dawp_p rfl (by (simp (disch := omega) only [push_cast, and_true, cond_true, cond_false, if_pos, if_neg, ↓reduceIte, Nat.reduceEqDiff, Nat.reduceAdd, Nat.reduceLeDiff, parseV, Bool.true_and, two_app, tmod4, lt_sl, lt_get, plF_getD, dl_snoc, take_lt, take_dl]) <;> rfl) rfl rfl ?_
    refine dawp_h rfl (by (simp (disch := omega) only [push_cast, and_true, cond_true, cond_false, if_pos, if_neg, ↓reduceIte, Nat.reduceEqDiff, Nat.reduceAdd, Nat.reduceLeDiff, parseV, Bool.true_and, two_app, tmod4, lt_sl, lt_get, plF_getD, dl_snoc, take_lt, take_dl]) <;> rfl) rfl rfl ?_
    refine dawp_hn rfl (by (simp (disch := omega) only [push_cast, and_true, cond_true, cond_false, if_pos, if_neg, ↓reduceIte, Nat.reduceEqDiff, Nat.reduceAdd, Nat.reduceLeDiff, parseV, Bool.true_and, two_app, tmod4, lt_sl, lt_get, plF_getD, dl_snoc, take_lt, take_dl]) <;> rfl) rfl ?_
    refine dawp_p rfl (by (simp (disch := omega) only [push_cast, and_true, cond_true, cond_false, if_pos, if_neg, ↓reduceIte, Nat.reduceEqDiff, Nat.reduceAdd, Nat.reduceLeDiff, parseV, Bool.true_and, two_app, tmod4, lt_sl, lt_get, plF_getD, dl_snoc, take_lt, take_dl]) <;> rfl) rfl rfl ?_
    refine dawp_nil ?_
    simp (disch := omega) only [push_cast, and_true, cond_true, cond_false, if_pos, if_neg, ↓reduceIte, Nat.reduceEqDiff, Nat.reduceAdd, Nat.reduceLeDiff, parseV, Bool.true_and, two_app, tmod4, lt_sl, lt_get, plF_getD, dl_snoc, take_lt, take_dl]
    refine hK19 _ ?_
    refine awp_seq_k fun K20 hK20 => ?_
    refine awp_seq_k fun K21 hK21 => ?_
    refine awp_region_keep [0, 12, 14, 134] ⟨false, [], [], []⟩ (fun h => nomatch h) ?_
    iterate 3 (refine dawp_p rfl (by (simp (disch := omega) only [push_cast, and_true, cond_true, cond_false, if_pos, if_neg, ↓reduceIte, Nat.reduceEqDiff, Nat.reduceAdd, Nat.reduceLeDiff, parseV, Bool.true_and, two_app, tmod4, lt_sl, lt_get, plF_getD, dl_snoc, take_lt, take_dl]) <;> rfl) rfl rfl ?_)
    iterate 2 (refine dawp_g rfl rfl (by simp only [push_cast, and_true, cond_true, cond_false, if_pos, if_neg, ↓reduceIte, Nat.reduceEqDiff, Nat.reduceAdd, Nat.reduceLeDiff, parseV, Bool.true_and, two_app, tmod4, lt_sl, lt_get, plF_getD, dl_snoc, take_lt, take_dl]; rfl) (fun hg => by simp (disch := omega) only [hg, push_cast, and_true, cond_true, cond_false, if_pos, if_neg, ↓reduceIte, Nat.reduceEqDiff, Nat.reduceAdd, Nat.reduceLeDiff, parseV, Bool.true_and, two_app, tmod4, lt_sl, lt_get, plF_getD, dl_snoc, take_lt, take_dl]; rfl) rfl rfl ?_)
    iterate 2 (refine dawp_p rfl (by (simp (disch := omega) only [push_cast, and_true, cond_true, cond_false, if_pos, if_neg, ↓reduceIte, Nat.reduceEqDiff, Nat.reduceAdd, Nat.reduceLeDiff, parseV, Bool.true_and, two_app, tmod4, lt_sl, lt_get, plF_getD, dl_snoc, take_lt, take_dl]) <;> rfl) rfl rfl ?_)
    refine dawp_g rfl rfl (by simp only [push_cast, and_true, cond_true, cond_false, if_pos, if_neg, ↓reduceIte, Nat.reduceEqDiff, Nat.reduceAdd, Nat.reduceLeDiff, parseV, Bool.true_and, two_app, tmod4, lt_sl, lt_get, plF_getD, dl_snoc, take_lt, take_dl]; rfl) (fun hg => by simp (disch := omega) only [hg, push_cast, and_true, cond_true, cond_false, if_pos, if_neg, ↓reduceIte, Nat.reduceEqDiff, Nat.reduceAdd, Nat.reduceLeDiff, parseV, Bool.true_and, two_app, tmod4, lt_sl, lt_get, plF_getD, dl_snoc, take_lt, take_dl]; rfl) rfl rfl ?_
    refine dawp_gh rfl rfl (by simp only [push_cast, and_true, cond_true, cond_false, if_pos, if_neg, ↓reduceIte, Nat.reduceEqDiff, Nat.reduceAdd, Nat.reduceLeDiff, parseV, Bool.true_and, two_app, tmod4, lt_sl, lt_get, plF_getD, dl_snoc, take_lt, take_dl]; rfl) (fun hg => by simp (disch := omega) only [hg, push_cast, and_true, cond_true, cond_false, if_pos, if_neg, ↓reduceIte, Nat.reduceEqDiff, Nat.reduceAdd, Nat.reduceLeDiff, parseV, Bool.true_and, two_app, tmod4, lt_sl, lt_get, plF_getD, dl_snoc, take_lt, take_dl]; rfl) rfl rfl ?_
    iterate 4 (refine dawp_g rfl rfl (by simp only [push_cast, and_true, cond_true, cond_false, if_pos, if_neg, ↓reduceIte, Nat.reduceEqDiff, Nat.reduceAdd, Nat.reduceLeDiff, parseV, Bool.true_and, two_app, tmod4, lt_sl, lt_get, plF_getD, dl_snoc, take_lt, take_dl]; rfl) (fun hg => by simp (disch := omega) only [hg, push_cast, and_true, cond_true, cond_false, if_pos, if_neg, ↓reduceIte, Nat.reduceEqDiff, Nat.reduceAdd, Nat.reduceLeDiff, parseV, Bool.true_and, two_app, tmod4, lt_sl, lt_get, plF_getD, dl_snoc, take_lt, take_dl]; rfl) rfl rfl ?_)
    iterate 2 (refine dawp_p rfl (by (simp (disch := omega) only [push_cast, and_true, cond_true, cond_false, if_pos, if_neg, ↓reduceIte, Nat.reduceEqDiff, Nat.reduceAdd, Nat.reduceLeDiff, parseV, Bool.true_and, two_app, tmod4, lt_sl, lt_get, plF_getD, dl_snoc, take_lt, take_dl]) <;> rfl) rfl rfl ?_)
    refine dawp_g rfl rfl (by simp only [push_cast, and_true, cond_true, cond_false, if_pos, if_neg, ↓reduceIte, Nat.reduceEqDiff, Nat.reduceAdd, Nat.reduceLeDiff, parseV, Bool.true_and, two_app, tmod4, lt_sl, lt_get, plF_getD, dl_snoc, take_lt, take_dl]; rfl) (fun hg => by simp (disch := omega) only [hg, push_cast, and_true, cond_true, cond_false, if_pos, if_neg, ↓reduceIte, Nat.reduceEqDiff, Nat.reduceAdd, Nat.reduceLeDiff, parseV, Bool.true_and, two_app, tmod4, lt_sl, lt_get, plF_getD, dl_snoc, take_lt, take_dl]; rfl) rfl rfl ?_
    refine dawp_gh rfl rfl (by simp only [push_cast, and_true, cond_true, cond_false, if_pos, if_neg, ↓reduceIte, Nat.reduceEqDiff, Nat.reduceAdd, Nat.reduceLeDiff, parseV, Bool.true_and, two_app, tmod4, lt_sl, lt_get, plF_getD, dl_snoc, take_lt, take_dl]; rfl) (fun hg => by simp (disch := omega) only [hg, push_cast, and_true, cond_true, cond_false, if_pos, if_neg, ↓reduceIte, Nat.reduceEqDiff, Nat.reduceAdd, Nat.reduceLeDiff, parseV, Bool.true_and, two_app, tmod4, lt_sl, lt_get, plF_getD, dl_snoc, take_lt, take_dl]; rfl) rfl rfl ?_
    iterate 4 (refine dawp_g rfl rfl (by simp only [push_cast, and_true, cond_true, cond_false, if_pos, if_neg, ↓reduceIte, Nat.reduceEqDiff, Nat.reduceAdd, Nat.reduceLeDiff, parseV, Bool.true_and, two_app, tmod4, lt_sl, lt_get, plF_getD, dl_snoc, take_lt, take_dl]; rfl) (fun hg => by simp (disch := omega) only [hg, push_cast, and_true, cond_true, cond_false, if_pos, if_neg, ↓reduceIte, Nat.reduceEqDiff, Nat.reduceAdd, Nat.reduceLeDiff, parseV, Bool.true_and, two_app, tmod4, lt_sl, lt_get, plF_getD, dl_snoc, take_lt, take_dl]; rfl) rfl rfl ?_)
    iterate 2 (refine dawp_p rfl (by (simp (disch := omega) only [push_cast, and_true, cond_true, cond_false, if_pos, if_neg, ↓reduceIte, Nat.reduceEqDiff, Nat.reduceAdd, Nat.reduceLeDiff, parseV, Bool.true_and, two_app, tmod4, lt_sl, lt_get, plF_getD, dl_snoc, take_lt, take_dl]) <;> rfl) rfl rfl ?_)
    refine dawp_g rfl rfl (by simp only [push_cast, and_true, cond_true, cond_false, if_pos, if_neg, ↓reduceIte, Nat.reduceEqDiff, Nat.reduceAdd, Nat.reduceLeDiff, parseV, Bool.true_and, two_app, tmod4, lt_sl, lt_get, plF_getD, dl_snoc, take_lt, take_dl]; rfl) (fun hg => by simp (disch := omega) only [hg, push_cast, and_true, cond_true, cond_false, if_pos, if_neg, ↓reduceIte, Nat.reduceEqDiff, Nat.reduceAdd, Nat.reduceLeDiff, parseV, Bool.true_and, two_app, tmod4, lt_sl, lt_get, plF_getD, dl_snoc, take_lt, take_dl]; rfl) rfl rfl ?_
    refine dawp_gh rfl rfl (by simp only [push_cast, and_true, cond_true, cond_false, if_pos, if_neg, ↓reduceIte, Nat.reduceEqDiff, Nat.reduceAdd, Nat.reduceLeDiff, parseV, Bool.true_and, two_app, tmod4, lt_sl, lt_get, plF_getD, dl_snoc, take_lt, take_dl]; rfl) (fun hg => by simp (disch := omega) only [hg, push_cast, and_true, cond_true, cond_false, if_pos, if_neg, ↓reduceIte, Nat.reduceEqDiff, Nat.reduceAdd, Nat.reduceLeDiff, parseV, Bool.true_and, two_app, tmod4, lt_sl, lt_get, plF_getD, dl_snoc, take_lt, take_dl]; rfl) rfl rfl ?_
    iterate 4 (refine dawp_g rfl rfl (by simp only [push_cast, and_true, cond_true, cond_false, if_pos, if_neg, ↓reduceIte, Nat.reduceEqDiff, Nat.reduceAdd, Nat.reduceLeDiff, parseV, Bool.true_and, two_app, tmod4, lt_sl, lt_get, plF_getD, dl_snoc, take_lt, take_dl]; rfl) (fun hg => by simp (disch := omega) only [hg, push_cast, and_true, cond_true, cond_false, if_pos, if_neg, ↓reduceIte, Nat.reduceEqDiff, Nat.reduceAdd, Nat.reduceLeDiff, parseV, Bool.true_and, two_app, tmod4, lt_sl, lt_get, plF_getD, dl_snoc, take_lt, take_dl]; rfl) rfl rfl ?_)
    iterate 2 (refine dawp_p rfl (by (simp (disch := omega) only [push_cast, and_true, cond_true, cond_false, if_pos, if_neg, ↓reduceIte, Nat.reduceEqDiff, Nat.reduceAdd, Nat.reduceLeDiff, parseV, Bool.true_and, two_app, tmod4, lt_sl, lt_get, plF_getD, dl_snoc, take_lt, take_dl]) <;> rfl) rfl rfl ?_)
    refine dawp_g rfl rfl (by simp only [push_cast, and_true, cond_true, cond_false, if_pos, if_neg, ↓reduceIte, Nat.reduceEqDiff, Nat.reduceAdd, Nat.reduceLeDiff, parseV, Bool.true_and, two_app, tmod4, lt_sl, lt_get, plF_getD, dl_snoc, take_lt, take_dl]; rfl) (fun hg => by simp (disch := omega) only [hg, push_cast, and_true, cond_true, cond_false, if_pos, if_neg, ↓reduceIte, Nat.reduceEqDiff, Nat.reduceAdd, Nat.reduceLeDiff, parseV, Bool.true_and, two_app, tmod4, lt_sl, lt_get, plF_getD, dl_snoc, take_lt, take_dl]; rfl) rfl rfl ?_
    refine dawp_gh rfl rfl (by simp only [push_cast, and_true, cond_true, cond_false, if_pos, if_neg, ↓reduceIte, Nat.reduceEqDiff, Nat.reduceAdd, Nat.reduceLeDiff, parseV, Bool.true_and, two_app, tmod4, lt_sl, lt_get, plF_getD, dl_snoc, take_lt, take_dl]; rfl) (fun hg => by simp (disch := omega) only [hg, push_cast, and_true, cond_true, cond_false, if_pos, if_neg, ↓reduceIte, Nat.reduceEqDiff, Nat.reduceAdd, Nat.reduceLeDiff, parseV, Bool.true_and, two_app, tmod4, lt_sl, lt_get, plF_getD, dl_snoc, take_lt, take_dl]; rfl) rfl rfl ?_
    iterate 4 (refine dawp_g rfl rfl (by simp only [push_cast, and_true, cond_true, cond_false, if_pos, if_neg, ↓reduceIte, Nat.reduceEqDiff, Nat.reduceAdd, Nat.reduceLeDiff, parseV, Bool.true_and, two_app, tmod4, lt_sl, lt_get, plF_getD, dl_snoc, take_lt, take_dl]; rfl) (fun hg => by simp (disch := omega) only [hg, push_cast, and_true, cond_true, cond_false, if_pos, if_neg, ↓reduceIte, Nat.reduceEqDiff, Nat.reduceAdd, Nat.reduceLeDiff, parseV, Bool.true_and, two_app, tmod4, lt_sl, lt_get, plF_getD, dl_snoc, take_lt, take_dl]; rfl) rfl rfl ?_)
    refine dawp_p rfl (by (simp (disch := omega) only [push_cast, and_true, cond_true, cond_false, if_pos, if_neg, ↓reduceIte, Nat.reduceEqDiff, Nat.reduceAdd, Nat.reduceLeDiff, parseV, Bool.true_and, two_app, tmod4, lt_sl, lt_get, plF_getD, dl_snoc, take_lt, take_dl]) <;> rfl) rfl rfl ?_
    refine dawp_nil ?_
    simp (disch := omega) only [push_cast, and_true, cond_true, cond_false, if_pos, if_neg, ↓reduceIte, Nat.reduceEqDiff, Nat.reduceAdd, Nat.reduceLeDiff, parseV, Bool.true_and, two_app, tmod4, lt_sl, lt_get, plF_getD, dl_snoc, take_lt, take_dl]
    refine hK21 _ ?_
    refine awp_cond (by (simp (disch := omega) only [push_cast, and_true, cond_true, cond_false, if_pos, if_neg, ↓reduceIte, Nat.reduceEqDiff, Nat.reduceAdd, Nat.reduceLeDiff, parseV, Bool.true_and, two_app, tmod4, lt_sl, lt_get, plF_getD, dl_snoc, take_lt, take_dl]) <;> rfl) (fun hb4 => ?_) (fun hb4 => ?_)
    · skip
      exfalso; simp [hv1, hv2, hpf] at hb4
    have hB2 : HCl (h ++ [.cells [.slice ((plF picks).map eF) .none, .slice (rest.map .str) .none], .cells [.slice ((plF picks).map eF) .none, .slice (rest.map .str) .none]]) := by
      have := HCl.snoc (HCl.snoc hH (b := .cells [.slice ((plF picks).map eF) .none, .slice (rest.map .str) .none]) (by simp [Blk.cl, AV.cl, AV.clL, clL_eF, clL_str])) (b := .cells [.slice ((plF picks).map eF) .none, .slice (rest.map .str) .none]) (by simp [Blk.cl, AV.cl, AV.clL, clL_eF, clL_str])
      simpa using this
    refine awp_skip ?_
    try simp only [push_cast]
    refine hK20 _ ?_
    refine awp_seq_k fun K22 hK22 => ?_
    refine awp_seq_k fun K23 hK23 => ?_
    refine awp_region_keep [0, 12, 14, 16] ⟨false, [], [], []⟩ (fun h => nomatch h) ?_
    refine dawp_p rfl (by (simp (disch := omega) only [push_cast, and_true, cond_true, cond_false, if_pos, if_neg, ↓reduceIte, Nat.reduceEqDiff, Nat.reduceAdd, Nat.reduceLeDiff, parseV, Bool.true_and, two_app, tmod4, lt_sl, lt_get, plF_getD, dl_snoc, take_lt, take_dl]) <;> rfl) rfl rfl ?_
    refine dawp_nil ?_
    simp (disch := omega) only [push_cast, and_true, cond_true, cond_false, if_pos, if_neg, ↓reduceIte, Nat.reduceEqDiff, Nat.reduceAdd, Nat.reduceLeDiff, parseV, Bool.true_and, two_app, tmod4, lt_sl, lt_get, plF_getD, dl_snoc, take_lt, take_dl]
    refine hK23 _ ?_
    refine awp_block ?_
    refine awp_loop' (X := {i : Nat // i ≤ picks.length}) (fun x => ⟨Try.f6.ntmps, fget [(0, .slice (picks.map bV) cp), (12, .ptr h.length 0), (14, .ptr (h.length + 1) 0), (16, .int .i64 (x.1 : Nat))], h ++ [.cells [.slice ((plF picks).map eF) .none, .slice (rest.map .str) .none], .cells [.slice ((plF picks).map eF) .none, .slice (rest.map .str) .none]], live86⟩) (fun x => picks.length - x.1) (⟨0, by omega⟩) ?_ (by first | rfl | simp only [List.length_set]) (fun ⟨i, hi⟩ => ?_)
    · skip
      dsimp only
      refine Trunc.of (by first | exact (List.append_nil _).symm | (rw [List.append_assoc]; rfl)) ?_ hB2 (fun _ h => h)
      refine FTr.cons (by first | rfl | (simp (disch := omega) only [push_cast, and_true, cond_true, cond_false, if_pos, if_neg, ↓reduceIte, Nat.reduceEqDiff, Nat.reduceAdd, Nat.reduceLeDiff, parseV, Bool.true_and, two_app, tmod4, lt_sl, lt_get, plF_getD, dl_snoc, take_lt, take_dl]; rfl)) (by simp [AV.cl, AV.clL, clL_eF, clL_str, clL_bV, -List.map_take, -List.map_map]) ?_
      refine FTr.cons (by first | rfl | (simp (disch := omega) only [push_cast, and_true, cond_true, cond_false, if_pos, if_neg, ↓reduceIte, Nat.reduceEqDiff, Nat.reduceAdd, Nat.reduceLeDiff, parseV, Bool.true_and, two_app, tmod4, lt_sl, lt_get, plF_getD, dl_snoc, take_lt, take_dl]; rfl)) (by simp [AV.cl, AV.clL, clL_eF, clL_str, clL_bV, -List.map_take, -List.map_map]) ?_
      refine FTr.cons (by first | rfl | (simp (disch := omega) only [push_cast, and_true, cond_true, cond_false, if_pos, if_neg, ↓reduceIte, Nat.reduceEqDiff, Nat.reduceAdd, Nat.reduceLeDiff, parseV, Bool.true_and, two_app, tmod4, lt_sl, lt_get, plF_getD, dl_snoc, take_lt, take_dl]; rfl)) (by simp [AV.cl, AV.clL, clL_eF, clL_str, clL_bV, -List.map_take, -List.map_map]) ?_
      refine FTr.cons (by first | rfl | (simp (disch := omega) only [push_cast, and_true, cond_true, cond_false, if_pos, if_neg, ↓reduceIte, Nat.reduceEqDiff, Nat.reduceAdd, Nat.reduceLeDiff, parseV, Bool.true_and, two_app, tmod4, lt_sl, lt_get, plF_getD, dl_snoc, take_lt, take_dl]; rfl)) (by simp [AV.cl, AV.clL, clL_eF, clL_str, clL_bV, -List.map_take, -List.map_map]) ?_
      exact FTr.nil
    dsimp only
    refine awp_seq_k fun K24 hK24 => ?_
    refine awp_seq_k fun K25 hK25 => ?_
    refine awp_region_keep [0, 12, 14, 16, 138] ⟨false, [], [], []⟩ (fun h => nomatch h) ?_
    iterate 4 (refine dawp_p rfl (by (simp (disch := omega) only [push_cast, and_true, cond_true, cond_false, if_pos, if_neg, ↓reduceIte, Nat.reduceEqDiff, Nat.reduceAdd, Nat.reduceLeDiff, parseV, Bool.true_and, two_app, tmod4, lt_sl, lt_get, plF_getD, dl_snoc, take_lt, take_dl]) <;> rfl) rfl rfl ?_)
    refine dawp_nil ?_
    simp (disch := omega) only [push_cast, and_true, cond_true, cond_false, if_pos, if_neg, ↓reduceIte, Nat.reduceEqDiff, Nat.reduceAdd, Nat.reduceLeDiff, parseV, Bool.true_and, two_app, tmod4, lt_sl, lt_get, plF_getD, dl_snoc, take_lt, take_dl]
    refine hK25 _ ?_
    refine awp_cond (by (simp (disch := omega) only [push_cast, and_true, cond_true, cond_false, if_pos, if_neg, ↓reduceIte, Nat.reduceEqDiff, Nat.reduceAdd, Nat.reduceLeDiff, parseV, Bool.true_and, two_app, tmod4, lt_sl, lt_get, plF_getD, dl_snoc, take_lt, take_dl]) <;> rfl) (fun hb5 => ?_) (fun hb5 => ?_)
    rotate_left
    · skip
      try simp only [decide_eq_true_eq, decide_eq_false_iff_not, Bool.not_eq_true', Bool.not_eq_false', Bool.or_eq_true, Bool.and_eq_true, Bool.or_eq_false_iff, Bool.and_eq_false_imp, Int.not_lt, Int.not_le] at hb5
      refine awp_exit ?_
      simp (disch := omega) only [push_cast, and_true, cond_true, cond_false, if_pos, if_neg, ↓reduceIte, Nat.reduceEqDiff, Nat.reduceAdd, Nat.reduceLeDiff, parseV, Bool.true_and, two_app, tmod4, lt_sl, lt_get, plF_getD, dl_snoc, take_lt, take_dl]
      refine hK22 _ ?_
      refine awp_seq_k fun K26 hK26 => ?_
      refine awp_region_keep [4] ⟨true, [], [], []⟩ (fun _ => ⟨by kernel_rfl, by kernel_rfl⟩) ?_
      refine dawp_h rfl (by (simp (disch := omega) only [push_cast, and_true, cond_true, cond_false, if_pos, if_neg, ↓reduceIte, Nat.reduceEqDiff, Nat.reduceAdd, Nat.reduceLeDiff, parseV, Bool.true_and, two_app, tmod4, lt_sl, lt_get, plF_getD, dl_snoc, take_lt, take_dl]) <;> rfl) rfl rfl ?_
      refine dawp_r rfl rfl rfl rfl (AOp.callx _ _ _ rfl (by (simp (disch := omega) only [push_cast, and_true, cond_true, cond_false, if_pos, if_neg, ↓reduceIte, Nat.reduceEqDiff, Nat.reduceAdd, Nat.reduceLeDiff, parseV, Bool.true_and, two_app, tmod4, lt_sl, lt_get, plF_getD, dl_snoc, take_lt, take_dl]) <;> rfl) (by (simp (disch := omega) only [push_cast, and_true, cond_true, cond_false, if_pos, if_neg, ↓reduceIte, Nat.reduceEqDiff, Nat.reduceAdd, Nat.reduceLeDiff, parseV, Bool.true_and, two_app, tmod4, lt_sl, lt_get, plF_getD, dl_snoc, take_lt, take_dl]) <;> rfl) (c16 (plF picks) _ rest _ [72, 76, 80] _ _ (by rw [plF_len]; omega))) ?_  
      refine dawp_h rfl (by (simp (disch := omega) only [push_cast, and_true, cond_true, cond_false, if_pos, if_neg, ↓reduceIte, Nat.reduceEqDiff, Nat.reduceAdd, Nat.reduceLeDiff, parseV, Bool.true_and, two_app, tmod4, lt_sl, lt_get, plF_getD, dl_snoc, take_lt, take_dl]) <;> rfl) rfl rfl ?_
      refine dawp_r rfl rfl rfl rfl (AOp.callx _ _ _ rfl (by (simp (disch := omega) only [push_cast, and_true, cond_true, cond_false, if_pos, if_neg, ↓reduceIte, Nat.reduceEqDiff, Nat.reduceAdd, Nat.reduceLeDiff, parseV, Bool.true_and, two_app, tmod4, lt_sl, lt_get, plF_getD, dl_snoc, take_lt, take_dl]) <;> rfl) (by (simp (disch := omega) only [push_cast, and_true, cond_true, cond_false, if_pos, if_neg, ↓reduceIte, Nat.reduceEqDiff, Nat.reduceAdd, Nat.reduceLeDiff, parseV, Bool.true_and, two_app, tmod4, lt_sl, lt_get, plF_getD, dl_snoc, take_lt, take_dl]) <;> rfl) (c16 (plF picks) _ rest _ [72, 76, 80] _ _ (by rw [plF_len]; omega))) ?_  
      iterate 2 (refine dawp_p rfl (by (simp (disch := omega) only [push_cast, and_true, cond_true, cond_false, if_pos, if_neg, ↓reduceIte, Nat.reduceEqDiff, Nat.reduceAdd, Nat.reduceLeDiff, parseV, Bool.true_and, two_app, tmod4, lt_sl, lt_get, plF_getD, dl_snoc, take_lt, take_dl]) <;> rfl) rfl rfl ?_)
      refine dawp_gh rfl rfl (by simp only [push_cast, and_true, cond_true, cond_false, if_pos, if_neg, ↓reduceIte, Nat.reduceEqDiff, Nat.reduceAdd, Nat.reduceLeDiff, parseV, Bool.true_and, two_app, tmod4, lt_sl, lt_get, plF_getD, dl_snoc, take_lt, take_dl]; rfl) (fun hg => by simp (disch := omega) only [hg, push_cast, and_true, cond_true, cond_false, if_pos, if_neg, ↓reduceIte, Nat.reduceEqDiff, Nat.reduceAdd, Nat.reduceLeDiff, parseV, Bool.true_and, two_app, tmod4, lt_sl, lt_get, plF_getD, dl_snoc, take_lt, take_dl]; rfl) rfl rfl ?_
      refine dawp_gr rfl rfl rfl (by simp only [push_cast, and_true, cond_true, cond_false, if_pos, if_neg, ↓reduceIte, Nat.reduceEqDiff, Nat.reduceAdd, Nat.reduceLeDiff, parseV, Bool.true_and, two_app, tmod4, lt_sl, lt_get, plF_getD, dl_snoc, take_lt, take_dl]; rfl) (fun hg => AOp.callx _ _ _ rfl (by (simp (disch := omega) only [hg, push_cast, and_true, cond_true, cond_false, if_pos, if_neg, ↓reduceIte, Nat.reduceEqDiff, Nat.reduceAdd, Nat.reduceLeDiff, parseV, Bool.true_and, two_app, tmod4, lt_sl, lt_get, plF_getD, dl_snoc, take_lt, take_dl]) <;> rfl) (by (simp (disch := omega) only [hg, push_cast, and_true, cond_true, cond_false, if_pos, if_neg, ↓reduceIte, Nat.reduceEqDiff, Nat.reduceAdd, Nat.reduceLeDiff, parseV, Bool.true_and, two_app, tmod4, lt_sl, lt_get, plF_getD, dl_snoc, take_lt, take_dl]) <;> rfl) (c15 (plF picks) _ rest _ 109 _ _ (by rw [plF_len]; omega))) rfl rfl ?_
      refine dawp_g rfl rfl (by simp only [push_cast, and_true, cond_true, cond_false, if_pos, if_neg, ↓reduceIte, Nat.reduceEqDiff, Nat.reduceAdd, Nat.reduceLeDiff, parseV, Bool.true_and, two_app, tmod4, lt_sl, lt_get, plF_getD, dl_snoc, take_lt, take_dl]; rfl) (fun hg => by simp (disch := omega) only [hg, push_cast, and_true, cond_true, cond_false, if_pos, if_neg, ↓reduceIte, Nat.reduceEqDiff, Nat.reduceAdd, Nat.reduceLeDiff, parseV, Bool.true_and, two_app, tmod4, lt_sl, lt_get, plF_getD, dl_snoc, take_lt, take_dl]; rfl) rfl rfl ?_
      iterate 2 (refine dawp_p rfl (by (simp (disch := omega) only [push_cast, and_true, cond_true, cond_false, if_pos, if_neg, ↓reduceIte, Nat.reduceEqDiff, Nat.reduceAdd, Nat.reduceLeDiff, parseV, Bool.true_and, two_app, tmod4, lt_sl, lt_get, plF_getD, dl_snoc, take_lt, take_dl]) <;> rfl) rfl rfl ?_)
      refine dawp_nil ?_
      simp (disch := omega) only [push_cast, and_true, cond_true, cond_false, if_pos, if_neg, ↓reduceIte, Nat.reduceEqDiff, Nat.reduceAdd, Nat.reduceLeDiff, parseV, Bool.true_and, two_app, tmod4, lt_sl, lt_get, plF_getD, dl_snoc, take_lt, take_dl]
      refine hK26 _ ?_
      refine awp_ret ?_
      try simp only [push_cast]
      refine fin_pure (by (simp (disch := omega) only [Try.results6, aresults, aresult, push_cast, and_true, cond_true, cond_false, if_pos, if_neg, ↓reduceIte, Nat.reduceEqDiff, Nat.reduceAdd, Nat.reduceLeDiff, parseV, Bool.true_and, two_app, tmod4, lt_sl, lt_get, plF_getD, dl_snoc, take_lt, take_dl]) <;> rfl) (by simp only [atuple, AV.er, AV.erL, push_cast]; rfl) (by simp [AV.cl, AV.clL]) (by first | exact ⟨_, rfl⟩ | exact ⟨[], (List.append_nil _).symm⟩) hH (fun u hu => by
        have k1 := hkp.2 u hu (fun e => by cases e)
        have k2 := hk83.2 u k1.1 (fun e => by cases e)
        exact (hk86.2 u k2.1 k1.2).1) ?_
      refine ⟨?_, rfl, rfl⟩
      simp [plF_val]
    simp only [decide_eq_true_eq, decide_eq_false_iff_not, Bool.not_eq_true', Bool.not_eq_false', Bool.or_eq_true, Bool.and_eq_true, Bool.or_eq_false_iff, Bool.and_eq_false_imp, Int.not_lt, Int.not_le] at hb5
    have hlx := lx_lt (picks.getD i 0)
    refine awp_skip ?_
    try simp only [push_cast]
    refine hK24 _ ?_
    refine awp_seq_k fun K27 hK27 => ?_
    refine awp_block ?_
    refine awp_seq_k fun K28 hK28 => ?_
    refine awp_region_keep [0, 12, 14, 16, 166] ⟨false, [], [], []⟩ (fun _ => ⟨by kernel_rfl, by kernel_rfl⟩) ?_
    refine dawp_p rfl (by (simp (disch := omega) only [push_cast, and_true, cond_true, cond_false, if_pos, if_neg, ↓reduceIte, Nat.reduceEqDiff, Nat.reduceAdd, Nat.reduceLeDiff, parseV, Bool.true_and, two_app, tmod4, lt_sl, lt_get, plF_getD, dl_snoc, take_lt, take_dl]) <;> rfl) rfl rfl ?_
    refine dawp_h rfl (by (simp (disch := omega) only [push_cast, and_true, cond_true, cond_false, if_pos, if_neg, ↓reduceIte, Nat.reduceEqDiff, Nat.reduceAdd, Nat.reduceLeDiff, parseV, Bool.true_and, two_app, tmod4, lt_sl, lt_get, plF_getD, dl_snoc, take_lt, take_dl]) <;> rfl) rfl rfl ?_
    iterate 2 (refine dawp_p rfl (by (simp (disch := omega) only [push_cast, and_true, cond_true, cond_false, if_pos, if_neg, ↓reduceIte, Nat.reduceEqDiff, Nat.reduceAdd, Nat.reduceLeDiff, parseV, Bool.true_and, two_app, tmod4, lt_sl, lt_get, plF_getD, dl_snoc, take_lt, take_dl]) <;> rfl) rfl rfl ?_)
    refine dawp_h rfl (by (simp (disch := omega) only [push_cast, and_true, cond_true, cond_false, if_pos, if_neg, ↓reduceIte, Nat.reduceEqDiff, Nat.reduceAdd, Nat.reduceLeDiff, parseV, Bool.true_and, two_app, tmod4, lt_sl, lt_get, plF_getD, dl_snoc, take_lt, take_dl]) <;> rfl) rfl rfl ?_
    refine dawp_p rfl (by (simp (disch := omega) only [push_cast, and_true, cond_true, cond_false, if_pos, if_neg, ↓reduceIte, Nat.reduceEqDiff, Nat.reduceAdd, Nat.reduceLeDiff, parseV, Bool.true_and, two_app, tmod4, lt_sl, lt_get, plF_getD, dl_snoc, take_lt, take_dl]) <;> rfl) rfl rfl ?_
    refine dawp_h rfl (by (simp (disch := omega) only [push_cast, and_true, cond_true, cond_false, if_pos, if_neg, ↓reduceIte, Nat.reduceEqDiff, Nat.reduceAdd, Nat.reduceLeDiff, parseV, Bool.true_and, two_app, tmod4, lt_sl, lt_get, plF_getD, dl_snoc, take_lt, take_dl]) <;> rfl) rfl rfl ?_
    iterate 2 (refine dawp_p rfl (by (simp (disch := omega) only [push_cast, and_true, cond_true, cond_false, if_pos, if_neg, ↓reduceIte, Nat.reduceEqDiff, Nat.reduceAdd, Nat.reduceLeDiff, parseV, Bool.true_and, two_app, tmod4, lt_sl, lt_get, plF_getD, dl_snoc, take_lt, take_dl]) <;> rfl) rfl rfl ?_)
    refine dawp_h rfl (by (simp (disch := omega) only [push_cast, and_true, cond_true, cond_false, if_pos, if_neg, ↓reduceIte, Nat.reduceEqDiff, Nat.reduceAdd, Nat.reduceLeDiff, parseV, Bool.true_and, two_app, tmod4, lt_sl, lt_get, plF_getD, dl_snoc, take_lt, take_dl]) <;> rfl) rfl rfl ?_
    iterate 2 (refine dawp_p rfl (by (simp (disch := omega) only [push_cast, and_true, cond_true, cond_false, if_pos, if_neg, ↓reduceIte, Nat.reduceEqDiff, Nat.reduceAdd, Nat.reduceLeDiff, parseV, Bool.true_and, two_app, tmod4, lt_sl, lt_get, plF_getD, dl_snoc, take_lt, take_dl]) <;> rfl) rfl rfl ?_)
    refine dawp_g rfl rfl (by simp only [push_cast, and_true, cond_true, cond_false, if_pos, if_neg, ↓reduceIte, Nat.reduceEqDiff, Nat.reduceAdd, Nat.reduceLeDiff, parseV, Bool.true_and, two_app, tmod4, lt_sl, lt_get, plF_getD, dl_snoc, take_lt, take_dl]; rfl) (fun hg => by simp (disch := omega) only [hg, push_cast, and_true, cond_true, cond_false, if_pos, if_neg, ↓reduceIte, Nat.reduceEqDiff, Nat.reduceAdd, Nat.reduceLeDiff, parseV, Bool.true_and, two_app, tmod4, lt_sl, lt_get, plF_getD, dl_snoc, take_lt, take_dl]; rfl) rfl rfl ?_
    refine dawp_gh rfl rfl (by simp only [push_cast, and_true, cond_true, cond_false, if_pos, if_neg, ↓reduceIte, Nat.reduceEqDiff, Nat.reduceAdd, Nat.reduceLeDiff, parseV, Bool.true_and, two_app, tmod4, lt_sl, lt_get, plF_getD, dl_snoc, take_lt, take_dl]; rfl) (fun hg => by simp (disch := omega) only [hg, push_cast, and_true, cond_true, cond_false, if_pos, if_neg, ↓reduceIte, Nat.reduceEqDiff, Nat.reduceAdd, Nat.reduceLeDiff, parseV, Bool.true_and, two_app, tmod4, lt_sl, lt_get, plF_getD, dl_snoc, take_lt, take_dl]; rfl) rfl rfl ?_
    iterate 3 (refine dawp_g rfl rfl (by simp only [push_cast, and_true, cond_true, cond_false, if_pos, if_neg, ↓reduceIte, Nat.reduceEqDiff, Nat.reduceAdd, Nat.reduceLeDiff, parseV, Bool.true_and, two_app, tmod4, lt_sl, lt_get, plF_getD, dl_snoc, take_lt, take_dl]; rfl) (fun hg => by simp (disch := omega) only [hg, push_cast, and_true, cond_true, cond_false, if_pos, if_neg, ↓reduceIte, Nat.reduceEqDiff, Nat.reduceAdd, Nat.reduceLeDiff, parseV, Bool.true_and, two_app, tmod4, lt_sl, lt_get, plF_getD, dl_snoc, take_lt, take_dl]; rfl) rfl rfl ?_)
    refine dawp_gh rfl rfl (by simp only [push_cast, and_true, cond_true, cond_false, if_pos, if_neg, ↓reduceIte, Nat.reduceEqDiff, Nat.reduceAdd, Nat.reduceLeDiff, parseV, Bool.true_and, two_app, tmod4, lt_sl, lt_get, plF_getD, dl_snoc, take_lt, take_dl]; rfl) (fun hg => by simp (disch := omega) only [hg, push_cast, and_true, cond_true, cond_false, if_pos, if_neg, ↓reduceIte, Nat.reduceEqDiff, Nat.reduceAdd, Nat.reduceLeDiff, parseV, Bool.true_and, two_app, tmod4, lt_sl, lt_get, plF_getD, dl_snoc, take_lt, take_dl]; rfl) rfl rfl ?_
    iterate 3 (refine dawp_g rfl rfl (by simp only [push_cast, and_true, cond_true, cond_false, if_pos, if_neg, ↓reduceIte, Nat.reduceEqDiff, Nat.reduceAdd, Nat.reduceLeDiff, parseV, Bool.true_and, two_app, tmod4, lt_sl, lt_get, plF_getD, dl_snoc, take_lt, take_dl]; rfl) (fun hg => by simp (disch := omega) only [hg, push_cast, and_true, cond_true, cond_false, if_pos, if_neg, ↓reduceIte, Nat.reduceEqDiff, Nat.reduceAdd, Nat.reduceLeDiff, parseV, Bool.true_and, two_app, tmod4, lt_sl, lt_get, plF_getD, dl_snoc, take_lt, take_dl]; rfl) rfl rfl ?_)
    refine dawp_gh rfl rfl (by simp only [push_cast, and_true, cond_true, cond_false, if_pos, if_neg, ↓reduceIte, Nat.reduceEqDiff, Nat.reduceAdd, Nat.reduceLeDiff, parseV, Bool.true_and, two_app, tmod4, lt_sl, lt_get, plF_getD, dl_snoc, take_lt, take_dl]; rfl) (fun hg => by simp (disch := omega) only [hg, push_cast, and_true, cond_true, cond_false, if_pos, if_neg, ↓reduceIte, Nat.reduceEqDiff, Nat.reduceAdd, Nat.reduceLeDiff, parseV, Bool.true_and, two_app, tmod4, lt_sl, lt_get, plF_getD, dl_snoc, take_lt, take_dl]; rfl) rfl rfl ?_
    iterate 3 (refine dawp_g rfl rfl (by simp only [push_cast, and_true, cond_true, cond_false, if_pos, if_neg, ↓reduceIte, Nat.reduceEqDiff, Nat.reduceAdd, Nat.reduceLeDiff, parseV, Bool.true_and, two_app, tmod4, lt_sl, lt_get, plF_getD, dl_snoc, take_lt, take_dl]; rfl) (fun hg => by simp (disch := omega) only [hg, push_cast, and_true, cond_true, cond_false, if_pos, if_neg, ↓reduceIte, Nat.reduceEqDiff, Nat.reduceAdd, Nat.reduceLeDiff, parseV, Bool.true_and, two_app, tmod4, lt_sl, lt_get, plF_getD, dl_snoc, take_lt, take_dl]; rfl) rfl rfl ?_)
    refine dawp_p rfl (by (simp (disch := omega) only [push_cast, and_true, cond_true, cond_false, if_pos, if_neg, ↓reduceIte, Nat.reduceEqDiff, Nat.reduceAdd, Nat.reduceLeDiff, parseV, Bool.true_and, two_app, tmod4, lt_sl, lt_get, plF_getD, dl_snoc, take_lt, take_dl]) <;> rfl) rfl rfl ?_
    refine dawp_nil ?_
    simp (disch := omega) only [push_cast, and_true, cond_true, cond_false, if_pos, if_neg, ↓reduceIte, Nat.reduceEqDiff, Nat.reduceAdd, Nat.reduceLeDiff, parseV, Bool.true_and, two_app, tmod4, lt_sl, lt_get, plF_getD, dl_snoc, take_lt, take_dl]
    refine hK28 _ ?_
    refine awp_cond (by (simp (disch := omega) only [push_cast, and_true, cond_true, cond_false, if_pos, if_neg, ↓reduceIte, Nat.reduceEqDiff, Nat.reduceAdd, Nat.reduceLeDiff, parseV, Bool.true_and, two_app, tmod4, lt_sl, lt_get, plF_getD, dl_snoc, take_lt, take_dl]) <;> rfl) (fun hb6 => ?_) (fun hb6 => ?_)
    · skip
      exfalso; simp at hb6
    try simp only [decide_eq_true_eq, decide_eq_false_iff_not, Bool.not_eq_true', Bool.not_eq_false', Bool.or_eq_true, Bool.and_eq_true, Bool.or_eq_false_iff, Bool.and_eq_false_imp, Int.not_lt, Int.not_le] at hb6
    refine awp_skip ?_
    try simp only [push_cast]
    refine hK27 _ ?_
    refine awp_region_keep [0, 12, 14, 16] ⟨false, [], [], []⟩ (fun h => nomatch h) ?_
    iterate 3 (refine dawp_p rfl (by (simp (disch := omega) only [push_cast, and_true, cond_true, cond_false, if_pos, if_neg, ↓reduceIte, Nat.reduceEqDiff, Nat.reduceAdd, Nat.reduceLeDiff, parseV, Bool.true_and, two_app, tmod4, lt_sl, lt_get, plF_getD, dl_snoc, take_lt, take_dl]) <;> rfl) rfl rfl ?_)
    refine dawp_nil ?_
    simp (disch := omega) only [push_cast, and_true, cond_true, cond_false, if_pos, if_neg, ↓reduceIte, Nat.reduceEqDiff, Nat.reduceAdd, Nat.reduceLeDiff, parseV, Bool.true_and, two_app, tmod4, lt_sl, lt_get, plF_getD, dl_snoc, take_lt, take_dl]
    refine ⟨⟨i + 1, by omega⟩, ?_, (by first | rfl | trivial | simp only [List.length_set]), by dsimp only; omega⟩
    dsimp only
    refine Trunc.of (by first | exact (List.append_nil _).symm | (rw [List.append_assoc]; rfl)) ?_ hB2 (fun _ h => h)
    refine FTr.cons (by (simp (disch := omega) only [push_cast, and_true, cond_true, cond_false, if_pos, if_neg, ↓reduceIte, Nat.reduceEqDiff, Nat.reduceAdd, Nat.reduceLeDiff, parseV, Bool.true_and, two_app, tmod4, lt_sl, lt_get, plF_getD, dl_snoc, take_lt, take_dl]) <;> first | rfl | (congr 2; omega)) (by simp [AV.cl, AV.clL, clL_eF, clL_str, clL_bV, -List.map_take, -List.map_map]) ?_
    refine FTr.cons (by (simp (disch := omega) only [push_cast, and_true, cond_true, cond_false, if_pos, if_neg, ↓reduceIte, Nat.reduceEqDiff, Nat.reduceAdd, Nat.reduceLeDiff, parseV, Bool.true_and, two_app, tmod4, lt_sl, lt_get, plF_getD, dl_snoc, take_lt, take_dl]) <;> first | rfl | (congr 2; omega)) (by simp [AV.cl, AV.clL, clL_eF, clL_str, clL_bV, -List.map_take, -List.map_map]) ?_
    refine FTr.cons (by (simp (disch := omega) only [push_cast, and_true, cond_true, cond_false, if_pos, if_neg, ↓reduceIte, Nat.reduceEqDiff, Nat.reduceAdd, Nat.reduceLeDiff, parseV, Bool.true_and, two_app, tmod4, lt_sl, lt_get, plF_getD, dl_snoc, take_lt, take_dl]) <;> first | rfl | (congr 2; omega)) (by simp [AV.cl, AV.clL, clL_eF, clL_str, clL_bV, -List.map_take, -List.map_map]) ?_
    refine FTr.cons (by (simp (disch := omega) only [push_cast, and_true, cond_true, cond_false, if_pos, if_neg, ↓reduceIte, Nat.reduceEqDiff, Nat.reduceAdd, Nat.reduceLeDiff, parseV, Bool.true_and, two_app, tmod4, lt_sl, lt_get, plF_getD, dl_snoc, take_lt, take_dl]) <;> first | rfl | (congr 2; omega)) (by simp [AV.cl, AV.clL, clL_eF, clL_str, clL_bV, -List.map_take, -List.map_map]) ?_
    exact FTr.nil
  simp only [decide_eq_true_eq, decide_eq_false_iff_not, Bool.not_eq_true', Bool.not_eq_false', Bool.or_eq_true, Bool.and_eq_true, Bool.or_eq_false_iff, Bool.and_eq_false_imp, Int.not_lt, Int.not_le] at hb3
  have hlx := lx_lt (picks.getD i 0)
  have hti : (picks.take i).length = i := by simp; omega
  refine awp_skip ?_
  try simp only [push_cast]
  refine hK13 _ ?_
  refine awp_seq_k fun K29 hK29 => ?_
  refine awp_block ?_
  refine awp_seq_k fun K30 hK30 => ?_
  refine awp_region_keep [0, 1, 7, 8, 9, 10] ⟨false, [], [], []⟩ (fun h => nomatch h) ?_
  iterate 3 (refine dawp_p rfl (by (simp (disch := omega) only [push_cast, and_true, cond_true, cond_false, if_pos, if_neg, ↓reduceIte, Nat.reduceEqDiff, Nat.reduceAdd, Nat.reduceLeDiff, parseV, Bool.true_and, two_app, tmod4, lt_sl, lt_get, plF_getD, dl_snoc, take_lt, take_dl]) <;> rfl) rfl rfl ?_)
  refine dawp_h rfl (by (simp (disch := omega) only [push_cast, and_true, cond_true, cond_false, if_pos, if_neg, ↓reduceIte, Nat.reduceEqDiff, Nat.reduceAdd, Nat.reduceLeDiff, parseV, Bool.true_and, two_app, tmod4, lt_sl, lt_get, plF_getD, dl_snoc, take_lt, take_dl]) <;> rfl) rfl rfl ?_
  iterate 3 (refine dawp_p rfl (by (simp (disch := omega) only [push_cast, and_true, cond_true, cond_false, if_pos, if_neg, ↓reduceIte, Nat.reduceEqDiff, Nat.reduceAdd, Nat.reduceLeDiff, parseV, Bool.true_and, two_app, tmod4, lt_sl, lt_get, plF_getD, dl_snoc, take_lt, take_dl]) <;> rfl) rfl rfl ?_)
  refine dawp_nil ?_
  simp (disch := omega) only [push_cast, and_true, cond_true, cond_false, if_pos, if_neg, ↓reduceIte, Nat.reduceEqDiff, Nat.reduceAdd, Nat.reduceLeDiff, parseV, Bool.true_and, two_app, tmod4, lt_sl, lt_get, plF_getD, dl_snoc, take_lt, take_dl]
  refine hK30 _ ?_
  refine awp_seq_k fun K31 hK31 => ?_
  refine awp_region_keep [0, 1, 7, 8, 9, 10] ⟨false, [], [], []⟩ (fun h => nomatch h) ?_
  iterate 7 (refine dawp_p rfl (by (simp (disch := omega) only [push_cast, and_true, cond_true, cond_false, if_pos, if_neg, ↓reduceIte, Nat.reduceEqDiff, Nat.reduceAdd, Nat.reduceLeDiff, parseV, Bool.true_and, two_app, tmod4, lt_sl, lt_get, plF_getD, dl_snoc, take_lt, take_dl]) <;> rfl) rfl rfl ?_)
  refine dawp_nil ?_
  simp (disch := omega) only [push_cast, and_true, cond_true, cond_false, if_pos, if_neg, ↓reduceIte, Nat.reduceEqDiff, Nat.reduceAdd, Nat.reduceLeDiff, parseV, Bool.true_and, two_app, tmod4, lt_sl, lt_get, plF_getD, dl_snoc, take_lt, take_dl]
  refine hK31 _ ?_
  refine awp_region_keep [0, 1, 7, 8, 9] ⟨false, [], [], []⟩ (fun h => nomatch h) ?_
  iterate 7 (refine dawp_p rfl (by (simp (disch := omega) only [push_cast, and_true, cond_true, cond_false, if_pos, if_neg, ↓reduceIte, Nat.reduceEqDiff, Nat.reduceAdd, Nat.reduceLeDiff, parseV, Bool.true_and, two_app, tmod4, lt_sl, lt_get, plF_getD, dl_snoc, take_lt, take_dl]) <;> rfl) rfl rfl ?_)
  refine dawp_w rfl rfl rfl rfl (AOp.append _ _ _ rfl (by (simp (disch := omega) only [push_cast, and_true, cond_true, cond_false, if_pos, if_neg, ↓reduceIte, Nat.reduceEqDiff, Nat.reduceAdd, Nat.reduceLeDiff, parseV, Bool.true_and, two_app, tmod4, lt_sl, lt_get, plF_getD, dl_snoc, take_lt, take_dl]) <;> rfl) (by (simp (disch := omega) only [push_cast, and_true, cond_true, cond_false, if_pos, if_neg, ↓reduceIte, Nat.reduceEqDiff, Nat.reduceAdd, Nat.reduceLeDiff, parseV, Bool.true_and, two_app, tmod4, lt_sl, lt_get, plF_getD, dl_snoc, take_lt, take_dl]) <;> rfl) (by (simp (disch := omega) only [push_cast, and_true, cond_true, cond_false, if_pos, if_neg, ↓reduceIte, Nat.reduceEqDiff, Nat.reduceAdd, Nat.reduceLeDiff, parseV, Bool.true_and, two_app, tmod4, lt_sl, lt_get, plF_getD, dl_snoc, take_lt, take_dl]) <;> rfl) hcok (cells_strs _) (by simp [AV.cells]) (by simp; omega) (by simp; omega) ?_)
  intro c78 live78 hk78
  refine dawp_p rfl (by (simp (disch := omega) only [push_cast, and_true, cond_true, cond_false, if_pos, if_neg, ↓reduceIte, Nat.reduceEqDiff, Nat.reduceAdd, Nat.reduceLeDiff, parseV, Bool.true_and, two_app, tmod4, lt_sl, lt_get, plF_getD, dl_snoc, take_lt, take_dl]) <;> rfl) rfl rfl ?_
  refine dawp_nil ?_
  simp (disch := omega) only [push_cast, and_true, cond_true, cond_false, if_pos, if_neg, ↓reduceIte, Nat.reduceEqDiff, Nat.reduceAdd, Nat.reduceLeDiff, parseV, Bool.true_and, two_app, tmod4, lt_sl, lt_get, plF_getD, dl_snoc, take_lt, take_dl]
  refine hK29 _ ?_
  refine awp_region_keep [0, 1, 7, 8, 9] ⟨false, [], [], []⟩ (fun h => nomatch h) ?_
  iterate 3 (refine dawp_p rfl (by (simp (disch := omega) only [push_cast, and_true, cond_true, cond_false, if_pos, if_neg, ↓reduceIte, Nat.reduceEqDiff, Nat.reduceAdd, Nat.reduceLeDiff, parseV, Bool.true_and, two_app, tmod4, lt_sl, lt_get, plF_getD, dl_snoc, take_lt, take_dl]) <;> rfl) rfl rfl ?_)
  refine dawp_nil ?_
  simp (disch := omega) only [push_cast, and_true, cond_true, cond_false, if_pos, if_neg, ↓reduceIte, Nat.reduceEqDiff, Nat.reduceAdd, Nat.reduceLeDiff, parseV, Bool.true_and, two_app, tmod4, lt_sl, lt_get, plF_getD, dl_snoc, take_lt, take_dl]
  refine ⟨⟨⟨i + 1, c78, live78⟩, by dsimp only; omega, hkp.trans hk78⟩, ?_, (by first | rfl | trivial | simp only [List.length_set]), by dsimp only; omega⟩
  dsimp only
  refine Trunc.of (by first | exact (List.append_nil _).symm | (rw [List.append_assoc]; rfl)) ?_ hH (fun _ h => h)
  refine FTr.cons (by (simp (disch := omega) only [push_cast, and_true, cond_true, cond_false, if_pos, if_neg, ↓reduceIte, Nat.reduceEqDiff, Nat.reduceAdd, Nat.reduceLeDiff, parseV, Bool.true_and, two_app, tmod4, lt_sl, lt_get, plF_getD, dl_snoc, take_lt, take_dl]) <;> first | rfl | (congr 2; omega)) (by simp [AV.cl, AV.clL, clL_eF, clL_str, clL_bV, -List.map_take, -List.map_map]) ?_
  refine FTr.cons (by (simp (disch := omega) only [push_cast, and_true, cond_true, cond_false, if_pos, if_neg, ↓reduceIte, Nat.reduceEqDiff, Nat.reduceAdd, Nat.reduceLeDiff, parseV, Bool.true_and, two_app, tmod4, lt_sl, lt_get, plF_getD, dl_snoc, take_lt, take_dl]) <;> first | rfl | (congr 2; omega)) (by simp [AV.cl, AV.clL, clL_eF, clL_str, clL_bV, -List.map_take, -List.map_map]) ?_
  refine FTr.cons (by (simp (disch := omega) only [push_cast, and_true, cond_true, cond_false, if_pos, if_neg, ↓reduceIte, Nat.reduceEqDiff, Nat.reduceAdd, Nat.reduceLeDiff, parseV, Bool.true_and, two_app, tmod4, lt_sl, lt_get, plF_getD, dl_snoc, take_lt, take_dl]) <;> first | rfl | (congr 2; omega)) (by simp [AV.cl, AV.clL, clL_eF, clL_str, clL_bV, -List.map_take, -List.map_map]) ?_
  refine FTr.cons (by (simp (disch := omega) only [push_cast, and_true, cond_true, cond_false, if_pos, if_neg, ↓reduceIte, Nat.reduceEqDiff, Nat.reduceAdd, Nat.reduceLeDiff, parseV, Bool.true_and, two_app, tmod4, lt_sl, lt_get, plF_getD, dl_snoc, take_lt, take_dl]) <;> first | rfl | (congr 2; omega)) (by simp [AV.cl, AV.clL, clL_eF, clL_str, clL_bV, -List.map_take, -List.map_map]) ?_
  refine FTr.cons (by (simp (disch := omega) only [push_cast, and_true, cond_true, cond_false, if_pos, if_neg, ↓reduceIte, Nat.reduceEqDiff, Nat.reduceAdd, Nat.reduceLeDiff, parseV, Bool.true_and, two_app, tmod4, lt_sl, lt_get, plF_getD, dl_snoc, take_lt, take_dl]) <;> first | rfl | (congr 2; omega)) (by simp [AV.cl, AV.clL, clL_eF, clL_str, clL_bV, -List.map_take, -List.map_map]) ?_
  exact FTr.nil

end Go.Proofs.Ytjlcdkklobcdhaa
