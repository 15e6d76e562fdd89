import Derived.Test.YtjlcdkklobcdhaaO12
/-
  OPTIONS: OptsValues: the walk.
-/
namespace Go.Proofs.Ytjlcdkklobcdhaa
open Go.Ab
set_option linter.unusedVariables false
set_option linter.unusedSimpArgs false


theorem vv1 (a b : List UInt8) : valF [(109, a), (82, []), (109, b)] 109 = (b, true) := rfl
theorem vv2 (a b : List UInt8) : valF [(109, a), (82, []), (109, b)] 82 = ([], true) := rfl
theorem cat1 (x1 x2 x3 x4 : List UInt8) (r : List (List UInt8)) : AV.str x1 :: AV.str x2 :: AV.str x3 :: AV.str x4 :: r.map AV.str = (x1 :: x2 :: x3 :: x4 :: r).map AV.str := rfl

set_option maxHeartbeats 400000 in
theorem c7 (a b : List UInt8) (rest : List (List UInt8)) (cr : Cap) (h : List Blk) (live : List Nat) (hlr : rest.length ≤ 9223372036854775807) : ACalls Try.prog 7 [.str a, .str b, .slice (rest.map .str) cr] h live (ret (.bool true) h live) := by
  refine acalls_of_awp Try.func7 rfl rfl (Nat.le_of_ble_eq_true rfl) fun hH hX => ?_
  simp only [fargs]
  refine awp_seq_k fun K1 hK1 => ?_
  refine awp_region_keep [0, 1, 2] ⟨false, [], [], []⟩ (fun h => nomatch h) ?_
  refine dawp_p rfl (by (simp (disch := omega) only [push_cast, and_true, cond_true, cond_false, if_pos, if_neg, ↓reduceIte, Nat.reduceEqDiff, Nat.reduceAdd, Nat.reduceLeDiff, parseV, vv1, vv2]) <;> rfl) rfl rfl ?_
  refine dawp_nil ?_
  simp (disch := omega) only [push_cast, and_true, cond_true, cond_false, if_pos, if_neg, ↓reduceIte, Nat.reduceEqDiff, Nat.reduceAdd, Nat.reduceLeDiff, parseV, vv1, vv2]
  refine hK1 _ ?_
  refine awp_seq_k fun K2 hK2 => ?_
  refine awp_region_keep [0, 1, 2, 7] ⟨false, [], [], []⟩ (fun h => nomatch h) ?_
  refine dawp_w rfl rfl rfl rfl (AOp.callx _ _ _ rfl (by (simp (disch := omega) only [push_cast, and_true, cond_true, cond_false, if_pos, if_neg, ↓reduceIte, Nat.reduceEqDiff, Nat.reduceAdd, Nat.reduceLeDiff, parseV, vv1, vv2]) <;> rfl) (by (simp (disch := omega) only [push_cast, and_true, cond_true, cond_false, if_pos, if_neg, ↓reduceIte, Nat.reduceEqDiff, Nat.reduceAdd, Nat.reduceLeDiff, parseV, vv1, vv2]) <;> rfl) ?_)  
  refine (c8 _ _).mono ?_; rintro _ _ _ ⟨rfl, rfl, rfl⟩
  refine dawp_p rfl (by (simp (disch := omega) only [push_cast, and_true, cond_true, cond_false, if_pos, if_neg, ↓reduceIte, Nat.reduceEqDiff, Nat.reduceAdd, Nat.reduceLeDiff, parseV, vv1, vv2]) <;> rfl) rfl rfl ?_
  refine dawp_nil ?_
  simp (disch := omega) only [push_cast, and_true, cond_true, cond_false, if_pos, if_neg, ↓reduceIte, Nat.reduceEqDiff, Nat.reduceAdd, Nat.reduceLeDiff, parseV, vv1, vv2]
  refine hK2 _ ?_
  refine awp_seq_k fun K3 hK3 => ?_
  refine awp_seq_k fun K4 hK4 => ?_
  refine awp_region_keep [0, 1, 2, 21] ⟨false, [], [], []⟩ (fun h => nomatch h) ?_
  iterate 2 (refine dawp_p rfl (by (simp (disch := omega) only [push_cast, and_true, cond_true, cond_false, if_pos, if_neg, ↓reduceIte, Nat.reduceEqDiff, Nat.reduceAdd, Nat.reduceLeDiff, parseV, vv1, vv2]) <;> rfl) rfl rfl ?_)
  refine dawp_nil ?_
  simp (disch := omega) only [push_cast, and_true, cond_true, cond_false, if_pos, if_neg, ↓reduceIte, Nat.reduceEqDiff, Nat.reduceAdd, Nat.reduceLeDiff, parseV, vv1, vv2]
  refine hK4 _ ?_
  refine awp_cond (by (simp (disch := omega) only [push_cast, and_true, cond_true, cond_false, if_pos, if_neg, ↓reduceIte, Nat.reduceEqDiff, Nat.reduceAdd, Nat.reduceLeDiff, parseV, vv1, vv2]) <;> rfl) (fun hb1 => ?_) (fun hb1 => ?_)
  · skip
    exfalso; simp at hb1
  try simp only [decide_eq_true_eq, decide_eq_false_iff_not, Bool.not_eq_true', Bool.not_eq_false', Bool.or_eq_true, Bool.and_eq_true, Bool.or_eq_false_iff, Bool.and_eq_false_imp, Int.not_lt, Int.not_le] at hb1
  refine awp_skip ?_
  try simp only [push_cast]
  refine hK3 _ ?_
  refine awp_seq_k fun K5 hK5 => ?_
  refine awp_region_keep [0, 1, 2, 8] ⟨false, [], [], []⟩ (fun h => nomatch h) ?_
  refine dawp_p rfl (by (simp (disch := omega) only [push_cast, and_true, cond_true, cond_false, if_pos, if_neg, ↓reduceIte, Nat.reduceEqDiff, Nat.reduceAdd, Nat.reduceLeDiff, parseV, vv1, vv2]) <;> rfl) rfl rfl ?_
  refine dawp_w rfl rfl rfl rfl (AOp.callx _ _ _ rfl (by (simp (disch := omega) only [push_cast, and_true, cond_true, cond_false, if_pos, if_neg, ↓reduceIte, Nat.reduceEqDiff, Nat.reduceAdd, Nat.reduceLeDiff, parseV, vv1, vv2]) <;> rfl) (by (simp (disch := omega) only [push_cast, and_true, cond_true, cond_false, if_pos, if_neg, ↓reduceIte, Nat.reduceEqDiff, Nat.reduceAdd, Nat.reduceLeDiff, parseV, vv1, vv2]) <;> rfl) ?_)  
  refine (c9 _ _ _ _ hlr).mono ?_; rintro _ _ _ ⟨rfl, rfl, rfl⟩
  refine dawp_p rfl (by (simp (disch := omega) only [push_cast, and_true, cond_true, cond_false, if_pos, if_neg, ↓reduceIte, Nat.reduceEqDiff, Nat.reduceAdd, Nat.reduceLeDiff, parseV, vv1, vv2]) <;> rfl) rfl rfl ?_
  refine dawp_nil ?_
  simp (disch := omega) only [push_cast, and_true, cond_true, cond_false, if_pos, if_neg, ↓reduceIte, Nat.reduceEqDiff, Nat.reduceAdd, Nat.reduceLeDiff, parseV, vv1, vv2]
  refine hK5 _ ?_
  refine awp_seq_k fun K6 hK6 => ?_
  refine awp_seq_k fun K7 hK7 => ?_
  refine awp_region_keep [0, 1, 2, 43] ⟨false, [], [], []⟩ (fun h => nomatch h) ?_
  iterate 3 (refine dawp_p rfl (by (simp (disch := omega) only [push_cast, and_true, cond_true, cond_false, if_pos, if_neg, ↓reduceIte, Nat.reduceEqDiff, Nat.reduceAdd, Nat.reduceLeDiff, parseV, vv1, vv2]) <;> rfl) rfl rfl ?_)
  iterate 3 (refine dawp_g rfl rfl (by simp only [push_cast, and_true, cond_true, cond_false, if_pos, if_neg, ↓reduceIte, Nat.reduceEqDiff, Nat.reduceAdd, Nat.reduceLeDiff, parseV, vv1, vv2]; rfl) (fun hg => by simp (disch := omega) only [hg, push_cast, and_true, cond_true, cond_false, if_pos, if_neg, ↓reduceIte, Nat.reduceEqDiff, Nat.reduceAdd, Nat.reduceLeDiff, parseV, vv1, vv2]; rfl) rfl rfl ?_)
  iterate 2 (refine dawp_p rfl (by (simp (disch := omega) only [push_cast, and_true, cond_true, cond_false, if_pos, if_neg, ↓reduceIte, Nat.reduceEqDiff, Nat.reduceAdd, Nat.reduceLeDiff, parseV, vv1, vv2]) <;> rfl) rfl rfl ?_)
  iterate 3 (refine dawp_g rfl rfl (by simp only [push_cast, and_true, cond_true, cond_false, if_pos, if_neg, ↓reduceIte, Nat.reduceEqDiff, Nat.reduceAdd, Nat.reduceLeDiff, parseV, vv1, vv2]; rfl) (fun hg => by simp (disch := omega) only [hg, push_cast, and_true, cond_true, cond_false, if_pos, if_neg, ↓reduceIte, Nat.reduceEqDiff, Nat.reduceAdd, Nat.reduceLeDiff, parseV, vv1, vv2]; rfl) rfl rfl ?_)
  iterate 2 (refine dawp_p rfl (by (simp (disch := omega) only [push_cast, and_true, cond_true, cond_false, if_pos, if_neg, ↓reduceIte, Nat.reduceEqDiff, Nat.reduceAdd, Nat.reduceLeDiff, parseV, vv1, vv2]) <;> rfl) rfl rfl ?_)
  iterate 2 (refine dawp_g rfl rfl (by simp only [push_cast, and_true, cond_true, cond_false, if_pos, if_neg, ↓reduceIte, Nat.reduceEqDiff, Nat.reduceAdd, Nat.reduceLeDiff, parseV, vv1, vv2]; rfl) (fun hg => by simp (disch := omega) only [hg, push_cast, and_true, cond_true, cond_false, if_pos, if_neg, ↓reduceIte, Nat.reduceEqDiff, Nat.reduceAdd, Nat.reduceLeDiff, parseV, vv1, vv2]; rfl) rfl rfl ?_)
  iterate 2 (refine dawp_p rfl (by (simp (disch := omega) only [push_cast, and_true, cond_true, cond_false, if_pos, if_neg, ↓reduceIte, Nat.reduceEqDiff, Nat.reduceAdd, Nat.reduceLeDiff, parseV, vv1, vv2]) <;> rfl) rfl rfl ?_)
  iterate 2 (refine dawp_g rfl rfl (by simp only [push_cast, and_true, cond_true, cond_false, if_pos, if_neg, ↓reduceIte, Nat.reduceEqDiff, Nat.reduceAdd, Nat.reduceLeDiff, parseV, vv1, vv2]; rfl) (fun hg => by simp (disch := omega) only [hg, push_cast, and_true, cond_true, cond_false, if_pos, if_neg, ↓reduceIte, Nat.reduceEqDiff, Nat.reduceAdd, Nat.reduceLeDiff, parseV, vv1, vv2]; rfl) rfl rfl ?_)
  refine dawp_p rfl (by (simp (disch := omega) only [push_cast, and_true, cond_true, cond_false, if_pos, if_neg, ↓reduceIte, Nat.reduceEqDiff, Nat.reduceAdd, Nat.reduceLeDiff, parseV, vv1, vv2]) <;> rfl) rfl rfl ?_
  refine dawp_nil ?_
  simp (disch := omega) only [push_cast, and_true, cond_true, cond_false, if_pos, if_neg, ↓reduceIte, Nat.reduceEqDiff, Nat.reduceAdd, Nat.reduceLeDiff, parseV, vv1, vv2]
  refine hK7 _ ?_
  refine awp_cond (by (simp (disch := omega) only [push_cast, and_true, cond_true, cond_false, if_pos, if_neg, ↓reduceIte, Nat.reduceEqDiff, Nat.reduceAdd, Nat.reduceLeDiff, parseV, vv1, vv2]) <;> rfl) (fun hb2 => ?_) (fun hb2 => ?_)
  · skip
    refine awp_seq_k fun K8 hK8 => ?_
    refine awp_region_keep [6] ⟨false, [], [], []⟩ (fun h => nomatch h) ?_
    refine dawp_p rfl (by (simp (disch := omega) only [push_cast, and_true, cond_true, cond_false, if_pos, if_neg, ↓reduceIte, Nat.reduceEqDiff, Nat.reduceAdd, Nat.reduceLeDiff, parseV, vv1, vv2]) <;> rfl) rfl rfl ?_
    refine dawp_nil ?_
    simp (disch := omega) only [push_cast, and_true, cond_true, cond_false, if_pos, if_neg, ↓reduceIte, Nat.reduceEqDiff, Nat.reduceAdd, Nat.reduceLeDiff, parseV, vv1, vv2]
    refine hK8 _ ?_
    refine awp_ret ?_
    try simp only [push_cast]
    refine fin_pure (by (simp (disch := omega) only [Try.results7, aresults, aresult, push_cast, and_true, cond_true, cond_false, if_pos, if_neg, ↓reduceIte, Nat.reduceEqDiff, Nat.reduceAdd, Nat.reduceLeDiff, parseV, vv1, vv2]) <;> rfl) (by simp only [atuple, AV.er, AV.erL, push_cast]; rfl) (by simp [AV.cl, AV.clL]) (by first | exact ⟨_, rfl⟩ | exact ⟨[], (List.append_nil _).symm⟩) hH (fun _ h => h) ?_
    exact ⟨rfl, rfl, rfl⟩
  simp only [Bool.or_eq_false_iff, Bool.not_eq_false', decide_eq_false_iff_not, Int.not_lt] at hb2
  obtain ⟨⟨⟨⟨hfr, hal⟩, hbl⟩, ha⟩, hb⟩ := hb2
  obtain ⟨hrw, hrl⟩ := few_spec hfr
  have hv1 := vals_one a b rest ha
  have hv2 := vals_two a b rest hb
  refine awp_skip ?_
  try simp only [push_cast]
  refine hK6 _ ?_
  refine awp_seq_k fun K9 hK9 => ?_
  refine awp_region_keep [0, 1, 2, 9] ⟨false, [], [], []⟩ (fun h => nomatch h) ?_
  iterate 5 (refine dawp_p rfl (by (simp (disch := omega) only [push_cast, and_true, cond_true, cond_false, if_pos, if_neg, ↓reduceIte, Nat.reduceEqDiff, Nat.reduceAdd, Nat.reduceLeDiff, parseV, vv1, vv2]) <;> rfl) rfl rfl ?_)
  refine dawp_nil ?_
  simp (disch := omega) only [push_cast, and_true, cond_true, cond_false, if_pos, if_neg, ↓reduceIte, Nat.reduceEqDiff, Nat.reduceAdd, Nat.reduceLeDiff, parseV, vv1, vv2]
  refine hK9 _ ?_
  refine awp_seq_k fun K10 hK10 => ?_
  refine awp_region_keep [0, 1, 2, 9, 10] ⟨false, [], [], []⟩ (fun h => nomatch h) ?_
  iterate 5 (refine dawp_p rfl (by (simp (disch := omega) only [push_cast, and_true, cond_true, cond_false, if_pos, if_neg, ↓reduceIte, Nat.reduceEqDiff, Nat.reduceAdd, Nat.reduceLeDiff, parseV, vv1, vv2]) <;> rfl) rfl rfl ?_)
  refine dawp_nil ?_
  simp (disch := omega) only [push_cast, and_true, cond_true, cond_false, if_pos, if_neg, ↓reduceIte, Nat.reduceEqDiff, Nat.reduceAdd, Nat.reduceLeDiff, parseV, vv1, vv2]
  refine hK10 _ ?_
  refine awp_seq_k fun K11 hK11 => ?_
  refine awp_region_keep [0, 1, 2, 9, 10] ⟨false, [], [], []⟩ (fun h => nomatch h) ?_
  iterate 2 (refine dawp_p rfl (by (simp (disch := omega) only [push_cast, and_true, cond_true, cond_false, if_pos, if_neg, ↓reduceIte, Nat.reduceEqDiff, Nat.reduceAdd, Nat.reduceLeDiff, parseV, vv1, vv2]) <;> rfl) rfl rfl ?_)
  refine dawp_w rfl rfl rfl rfl (AOp.append _ _ _ rfl (by (simp (disch := omega) only [push_cast, and_true, cond_true, cond_false, if_pos, if_neg, ↓reduceIte, Nat.reduceEqDiff, Nat.reduceAdd, Nat.reduceLeDiff, parseV, vv1, vv2]) <;> rfl) (by (simp (disch := omega) only [push_cast, and_true, cond_true, cond_false, if_pos, if_neg, ↓reduceIte, Nat.reduceEqDiff, Nat.reduceAdd, Nat.reduceLeDiff, parseV, vv1, vv2]) <;> rfl) (by (simp (disch := omega) only [push_cast, and_true, cond_true, cond_false, if_pos, if_neg, ↓reduceIte, Nat.reduceEqDiff, Nat.reduceAdd, Nat.reduceLeDiff, parseV, vv1, vv2]) <;> rfl) (.inl rfl) (by simp [AV.cells]) (cells_strs _) (by simp; omega) (by simp; omega) ?_)
  intro c54 live54 hk54
  refine dawp_p rfl (by (simp (disch := omega) only [push_cast, and_true, cond_true, cond_false, if_pos, if_neg, ↓reduceIte, Nat.reduceEqDiff, Nat.reduceAdd, Nat.reduceLeDiff, parseV, vv1, vv2]) <;> rfl) rfl rfl ?_
  refine dawp_nil ?_
  simp (disch := omega) only [push_cast, and_true, cond_true, cond_false, if_pos, if_neg, ↓reduceIte, Nat.reduceEqDiff, Nat.reduceAdd, Nat.reduceLeDiff, parseV, vv1, vv2]
  refine hK11 _ ?_
  refine awp_seq_k fun K12 hK12 => ?_
  refine awp_region_keep [0, 1, 2, 9, 10] ⟨false, [], [], []⟩ (fun h => nomatch h) ?_
  iterate 2 (refine dawp_p rfl (by (simp (disch := omega) only [push_cast, and_true, cond_true, cond_false, if_pos, if_neg, ↓reduceIte, Nat.reduceEqDiff, Nat.reduceAdd, Nat.reduceLeDiff, parseV, vv1, vv2]) <;> rfl) rfl rfl ?_)
  refine dawp_w rfl rfl rfl rfl (AOp.append _ _ _ rfl (by (simp (disch := omega) only [push_cast, and_true, cond_true, cond_false, if_pos, if_neg, ↓reduceIte, Nat.reduceEqDiff, Nat.reduceAdd, Nat.reduceLeDiff, parseV, vv1, vv2]) <;> rfl) (by (simp (disch := omega) only [push_cast, and_true, cond_true, cond_false, if_pos, if_neg, ↓reduceIte, Nat.reduceEqDiff, Nat.reduceAdd, Nat.reduceLeDiff, parseV, vv1, vv2]) <;> rfl) (by (simp (disch := omega) only [push_cast, and_true, cond_true, cond_false, if_pos, if_neg, ↓reduceIte, Nat.reduceEqDiff, Nat.reduceAdd, Nat.reduceLeDiff, parseV, vv1, vv2]) <;> rfl) (.inl rfl) (by simp [AV.cells]) (cells_strs _) (by simp; omega) (by simp; omega) ?_)
  intro c57 live57 hk57
  refine dawp_p rfl (by (simp (disch := omega) only [push_cast, and_true, cond_true, cond_false, if_pos, if_neg, ↓reduceIte, Nat.reduceEqDiff, Nat.reduceAdd, Nat.reduceLeDiff, parseV, vv1, vv2]) <;> rfl) rfl rfl ?_
  refine dawp_nil ?_
  simp (disch := omega) only [push_cast, and_true, cond_true, cond_false, if_pos, if_neg, ↓reduceIte, Nat.reduceEqDiff, Nat.reduceAdd, Nat.reduceLeDiff, parseV, vv1, vv2]
  refine hK12 _ ?_
  refine awp_seq_k fun K13 hK13 => ?_
  refine awp_region_keep [0, 1, 2, 10, 11, 12] ⟨false, [], [], []⟩ (fun h => nomatch h) ?_
  refine dawp_p rfl (by (simp (disch := omega) only [push_cast, and_true, cond_true, cond_false, if_pos, if_neg, ↓reduceIte, Nat.reduceEqDiff, Nat.reduceAdd, Nat.reduceLeDiff, parseV, vv1, vv2]) <;> rfl) rfl rfl ?_
  refine dawp_w rfl rfl rfl rfl (AOp.callx _ _ _ rfl (by (simp (disch := omega) only [push_cast, and_true, cond_true, cond_false, if_pos, if_neg, ↓reduceIte, Nat.reduceEqDiff, Nat.reduceAdd, Nat.reduceLeDiff, parseV, vv1, vv2]) <;> rfl) (by (simp (disch := omega) only [push_cast, and_true, cond_true, cond_false, if_pos, if_neg, ↓reduceIte, Nat.reduceEqDiff, Nat.reduceAdd, Nat.reduceLeDiff, parseV, vv1, vv2]) <;> rfl) ?_)  
  refine (c10 [82, 109, 58] ((45 :: 109 :: a) :: [45, 82, 109] :: b :: [45, 45] :: rest) _ _ _ (by decide) (by simp; omega) (fun s hs => by simp only [List.mem_cons] at hs; rcases hs with hs | hs | hs | hs | hs; subst hs; simp; omega; subst hs; decide; subst hs; omega; subst hs; decide; have := hrw s hs; omega)).mono ?_; rintro _ _ _ ⟨rfl, rfl, rfl⟩
  refine dawp_p rfl (by (simp (disch := omega) only [push_cast, and_true, cond_true, cond_false, if_pos, if_neg, ↓reduceIte, Nat.reduceEqDiff, Nat.reduceAdd, Nat.reduceLeDiff, parseV, vv1, vv2]) <;> rfl) rfl rfl ?_
  iterate 2 (refine dawp_p rfl (by (simp (disch := omega) only [hv1, pfs, prs, Option.isSome_some, push_cast, and_true, cond_true, cond_false, if_pos, if_neg, ↓reduceIte, Nat.reduceEqDiff, Nat.reduceAdd, Nat.reduceLeDiff, parseV, vv1, vv2]) <;> rfl) rfl rfl ?_)
  refine dawp_h rfl (by (simp (disch := omega) only [push_cast, and_true, cond_true, cond_false, if_pos, if_neg, ↓reduceIte, Nat.reduceEqDiff, Nat.reduceAdd, Nat.reduceLeDiff, parseV, vv1, vv2]) <;> rfl) rfl rfl ?_
  refine dawp_hn rfl (by (simp (disch := omega) only [push_cast, and_true, cond_true, cond_false, if_pos, if_neg, ↓reduceIte, Nat.reduceEqDiff, Nat.reduceAdd, Nat.reduceLeDiff, parseV, vv1, vv2]) <;> rfl) rfl ?_
  refine dawp_p rfl (by (simp (disch := omega) only [push_cast, and_true, cond_true, cond_false, if_pos, if_neg, ↓reduceIte, Nat.reduceEqDiff, Nat.reduceAdd, Nat.reduceLeDiff, parseV, vv1, vv2]) <;> rfl) rfl rfl ?_
  refine dawp_nil ?_
  simp (disch := omega) only [push_cast, and_true, cond_true, cond_false, if_pos, if_neg, ↓reduceIte, Nat.reduceEqDiff, Nat.reduceAdd, Nat.reduceLeDiff, parseV, vv1, vv2]
  refine hK13 _ ?_
  refine awp_seq_k fun K14 hK14 => ?_
  refine awp_region_keep [0, 1, 2, 11, 12, 13, 14] ⟨false, [], [], []⟩ (fun h => nomatch h) ?_
  refine dawp_p rfl (by (simp (disch := omega) only [push_cast, and_true, cond_true, cond_false, if_pos, if_neg, ↓reduceIte, Nat.reduceEqDiff, Nat.reduceAdd, Nat.reduceLeDiff, parseV, vv1, vv2]) <;> rfl) rfl rfl ?_
  refine dawp_w rfl rfl rfl rfl (AOp.callx _ _ _ rfl (by (simp (disch := omega) only [push_cast, and_true, cond_true, cond_false, if_pos, if_neg, ↓reduceIte, Nat.reduceEqDiff, Nat.reduceAdd, Nat.reduceLeDiff, parseV, vv1, vv2]) <;> rfl) (by (simp (disch := omega) only [push_cast, and_true, cond_true, cond_false, if_pos, if_neg, ↓reduceIte, Nat.reduceEqDiff, Nat.reduceAdd, Nat.reduceLeDiff, parseV, vv1, vv2]) <;> rfl) ?_)  
  refine (c10 [82, 109, 58] ([45, 109] :: a :: (45 :: 82 :: 109 :: b) :: [45, 45] :: rest) _ _ _ (by decide) (by simp; omega) (fun s hs => by simp only [List.mem_cons] at hs; rcases hs with hs | hs | hs | hs | hs; subst hs; decide; subst hs; omega; subst hs; simp; omega; subst hs; decide; have := hrw s hs; omega)).mono ?_; rintro _ _ _ ⟨rfl, rfl, rfl⟩
  refine dawp_p rfl (by (simp (disch := omega) only [push_cast, and_true, cond_true, cond_false, if_pos, if_neg, ↓reduceIte, Nat.reduceEqDiff, Nat.reduceAdd, Nat.reduceLeDiff, parseV, vv1, vv2]) <;> rfl) rfl rfl ?_
  iterate 2 (refine dawp_p rfl (by (simp (disch := omega) only [hv2, pfs, prs, Option.isSome_some, push_cast, and_true, cond_true, cond_false, if_pos, if_neg, ↓reduceIte, Nat.reduceEqDiff, Nat.reduceAdd, Nat.reduceLeDiff, parseV, vv1, vv2]) <;> rfl) rfl rfl ?_)
  refine dawp_h rfl (by (simp (disch := omega) only [push_cast, and_true, cond_true, cond_false, if_pos, if_neg, ↓reduceIte, Nat.reduceEqDiff, Nat.reduceAdd, Nat.reduceLeDiff, parseV, vv1, vv2]) <;> rfl) rfl rfl ?_
  refine dawp_hn rfl (by (simp (disch := omega) only [push_cast, and_true, cond_true, cond_false, if_pos, if_neg, ↓reduceIte, Nat.reduceEqDiff, Nat.reduceAdd, Nat.reduceLeDiff, parseV, vv1, vv2]) <;> rfl) rfl ?_
  refine dawp_p rfl (by (simp (disch := omega) only [push_cast, and_true, cond_true, cond_false, if_pos, if_neg, ↓reduceIte, Nat.reduceEqDiff, Nat.reduceAdd, Nat.reduceLeDiff, parseV, vv1, vv2]) <;> rfl) rfl rfl ?_
  refine dawp_nil ?_
  simp (disch := omega) only [push_cast, and_true, cond_true, cond_false, if_pos, if_neg, ↓reduceIte, Nat.reduceEqDiff, Nat.reduceAdd, Nat.reduceLeDiff, parseV, vv1, vv2]
  refine hK14 _ ?_
  refine awp_seq_k fun K15 hK15 => ?_
  refine awp_region_keep [0, 1, 2, 11, 12, 13, 14, 15, 16] ⟨false, [], [], []⟩ (fun h => nomatch h) ?_
  refine dawp_h rfl (by (simp (disch := omega) only [push_cast, and_true, cond_true, cond_false, if_pos, if_neg, ↓reduceIte, Nat.reduceEqDiff, Nat.reduceAdd, Nat.reduceLeDiff, parseV, vv1, vv2]) <;> rfl) rfl rfl ?_
  refine dawp_w rfl rfl rfl rfl (AOp.callx _ _ _ rfl (by (simp (disch := omega) only [push_cast, and_true, cond_true, cond_false, if_pos, if_neg, ↓reduceIte, Nat.reduceEqDiff, Nat.reduceAdd, Nat.reduceLeDiff, parseV, vv1, vv2]) <;> rfl) (by (simp (disch := omega) only [push_cast, and_true, cond_true, cond_false, if_pos, if_neg, ↓reduceIte, Nat.reduceEqDiff, Nat.reduceAdd, Nat.reduceLeDiff, parseV, vv1, vv2]) <;> rfl) ?_)  
  refine (c13 [(109, a), (82, []), (109, b)] _ rest _ 109 _ _ (by simp)).mono ?_; rintro _ _ _ ⟨rfl, rfl, rfl⟩
  iterate 5 (refine dawp_p rfl (by (simp (disch := omega) only [push_cast, and_true, cond_true, cond_false, if_pos, if_neg, ↓reduceIte, Nat.reduceEqDiff, Nat.reduceAdd, Nat.reduceLeDiff, parseV, vv1, vv2]) <;> rfl) rfl rfl ?_)
  refine dawp_nil ?_
  simp (disch := omega) only [push_cast, and_true, cond_true, cond_false, if_pos, if_neg, ↓reduceIte, Nat.reduceEqDiff, Nat.reduceAdd, Nat.reduceLeDiff, parseV, vv1, vv2]
  refine hK15 _ ?_
  refine awp_seq_k fun K16 hK16 => ?_
  refine awp_region_keep [0, 1, 2, 11, 12, 13, 14, 15, 16, 17, 18] ⟨false, [], [], []⟩ (fun h => nomatch h) ?_
  refine dawp_h rfl (by (simp (disch := omega) only [push_cast, and_true, cond_true, cond_false, if_pos, if_neg, ↓reduceIte, Nat.reduceEqDiff, Nat.reduceAdd, Nat.reduceLeDiff, parseV, vv1, vv2]) <;> rfl) rfl rfl ?_
  refine dawp_w rfl rfl rfl rfl (AOp.callx _ _ _ rfl (by (simp (disch := omega) only [push_cast, and_true, cond_true, cond_false, if_pos, if_neg, ↓reduceIte, Nat.reduceEqDiff, Nat.reduceAdd, Nat.reduceLeDiff, parseV, vv1, vv2]) <;> rfl) (by (simp (disch := omega) only [push_cast, and_true, cond_true, cond_false, if_pos, if_neg, ↓reduceIte, Nat.reduceEqDiff, Nat.reduceAdd, Nat.reduceLeDiff, parseV, vv1, vv2]) <;> rfl) ?_)  
  refine (c13 [(109, a), (82, []), (109, b)] _ rest _ 109 _ _ (by simp)).mono ?_; rintro _ _ _ ⟨rfl, rfl, rfl⟩
  iterate 5 (refine dawp_p rfl (by (simp (disch := omega) only [push_cast, and_true, cond_true, cond_false, if_pos, if_neg, ↓reduceIte, Nat.reduceEqDiff, Nat.reduceAdd, Nat.reduceLeDiff, parseV, vv1, vv2]) <;> rfl) rfl rfl ?_)
  refine dawp_nil ?_
  simp (disch := omega) only [push_cast, and_true, cond_true, cond_false, if_pos, if_neg, ↓reduceIte, Nat.reduceEqDiff, Nat.reduceAdd, Nat.reduceLeDiff, parseV, vv1, vv2]
  refine hK16 _ ?_
  refine awp_seq_k fun K17 hK17 => ?_
  refine awp_seq_k fun K18 hK18 => ?_
  refine awp_region_keep [0, 1, 11, 13, 15, 16, 17, 18, 111] ⟨false, [], [], []⟩ (fun h => nomatch h) ?_
  iterate 3 (refine dawp_p rfl (by (simp (disch := omega) only [push_cast, and_true, cond_true, cond_false, if_pos, if_neg, ↓reduceIte, Nat.reduceEqDiff, Nat.reduceAdd, Nat.reduceLeDiff, parseV, vv1, vv2]) <;> rfl) rfl rfl ?_)
  iterate 2 (refine dawp_g rfl rfl (by simp only [push_cast, and_true, cond_true, cond_false, if_pos, if_neg, ↓reduceIte, Nat.reduceEqDiff, Nat.reduceAdd, Nat.reduceLeDiff, parseV, vv1, vv2]; rfl) (fun hg => by simp (disch := omega) only [hg, push_cast, and_true, cond_true, cond_false, if_pos, if_neg, ↓reduceIte, Nat.reduceEqDiff, Nat.reduceAdd, Nat.reduceLeDiff, parseV, vv1, vv2]; rfl) rfl rfl ?_)
  iterate 2 (refine dawp_p rfl (by (simp (disch := omega) only [push_cast, and_true, cond_true, cond_false, if_pos, if_neg, ↓reduceIte, Nat.reduceEqDiff, Nat.reduceAdd, Nat.reduceLeDiff, parseV, vv1, vv2]) <;> rfl) rfl rfl ?_)
  refine dawp_g rfl rfl (by simp only [push_cast, and_true, cond_true, cond_false, if_pos, if_neg, ↓reduceIte, Nat.reduceEqDiff, Nat.reduceAdd, Nat.reduceLeDiff, parseV, vv1, vv2]; rfl) (fun hg => by simp (disch := omega) only [hg, push_cast, and_true, cond_true, cond_false, if_pos, if_neg, ↓reduceIte, Nat.reduceEqDiff, Nat.reduceAdd, Nat.reduceLeDiff, parseV, vv1, vv2]; rfl) rfl rfl ?_
  refine dawp_gh rfl rfl (by simp only [push_cast, and_true, cond_true, cond_false, if_pos, if_neg, ↓reduceIte, Nat.reduceEqDiff, Nat.reduceAdd, Nat.reduceLeDiff, parseV, vv1, vv2]; rfl) (fun hg => by simp (disch := omega) only [hg, push_cast, and_true, cond_true, cond_false, if_pos, if_neg, ↓reduceIte, Nat.reduceEqDiff, Nat.reduceAdd, Nat.reduceLeDiff, parseV, vv1, vv2]; rfl) rfl rfl ?_
  iterate 2 (refine dawp_g rfl rfl (by simp only [push_cast, and_true, cond_true, cond_false, if_pos, if_neg, ↓reduceIte, Nat.reduceEqDiff, Nat.reduceAdd, Nat.reduceLeDiff, parseV, vv1, vv2]; rfl) (fun hg => by simp (disch := omega) only [hg, push_cast, and_true, cond_true, cond_false, if_pos, if_neg, ↓reduceIte, Nat.reduceEqDiff, Nat.reduceAdd, Nat.reduceLeDiff, parseV, vv1, vv2]; rfl) rfl rfl ?_)
  iterate 2 (refine dawp_p rfl (by (simp (disch := omega) only [push_cast, and_true, cond_true, cond_false, if_pos, if_neg, ↓reduceIte, Nat.reduceEqDiff, Nat.reduceAdd, Nat.reduceLeDiff, parseV, vv1, vv2]) <;> rfl) rfl rfl ?_)
  refine dawp_g rfl rfl (by simp only [push_cast, and_true, cond_true, cond_false, if_pos, if_neg, ↓reduceIte, Nat.reduceEqDiff, Nat.reduceAdd, Nat.reduceLeDiff, parseV, vv1, vv2]; rfl) (fun hg => by simp (disch := omega) only [hg, push_cast, and_true, cond_true, cond_false, if_pos, if_neg, ↓reduceIte, Nat.reduceEqDiff, Nat.reduceAdd, Nat.reduceLeDiff, parseV, vv1, vv2]; rfl) rfl rfl ?_
  refine dawp_gh rfl rfl (by simp only [push_cast, and_true, cond_true, cond_false, if_pos, if_neg, ↓reduceIte, Nat.reduceEqDiff, Nat.reduceAdd, Nat.reduceLeDiff, parseV, vv1, vv2]; rfl) (fun hg => by simp (disch := omega) only [hg, push_cast, and_true, cond_true, cond_false, if_pos, if_neg, ↓reduceIte, Nat.reduceEqDiff, Nat.reduceAdd, Nat.reduceLeDiff, parseV, vv1, vv2]; rfl) rfl rfl ?_
  iterate 2 (refine dawp_g rfl rfl (by simp only [push_cast, and_true, cond_true, cond_false, if_pos, if_neg, ↓reduceIte, Nat.reduceEqDiff, Nat.reduceAdd, Nat.reduceLeDiff, parseV, vv1, vv2]; rfl) (fun hg => by simp (disch := omega) only [hg, push_cast, and_true, cond_true, cond_false, if_pos, if_neg, ↓reduceIte, Nat.reduceEqDiff, Nat.reduceAdd, Nat.reduceLeDiff, parseV, vv1, vv2]; rfl) rfl rfl ?_)
  iterate 2 (refine dawp_p rfl (by (simp (disch := omega) only [push_cast, and_true, cond_true, cond_false, if_pos, if_neg, ↓reduceIte, Nat.reduceEqDiff, Nat.reduceAdd, Nat.reduceLeDiff, parseV, vv1, vv2]) <;> rfl) rfl rfl ?_)
  refine dawp_g rfl rfl (by simp only [push_cast, and_true, cond_true, cond_false, if_pos, if_neg, ↓reduceIte, Nat.reduceEqDiff, Nat.reduceAdd, Nat.reduceLeDiff, parseV, vv1, vv2]; rfl) (fun hg => by simp (disch := omega) only [hg, push_cast, and_true, cond_true, cond_false, if_pos, if_neg, ↓reduceIte, Nat.reduceEqDiff, Nat.reduceAdd, Nat.reduceLeDiff, parseV, vv1, vv2]; rfl) rfl rfl ?_
  refine dawp_gh rfl rfl (by simp only [push_cast, and_true, cond_true, cond_false, if_pos, if_neg, ↓reduceIte, Nat.reduceEqDiff, Nat.reduceAdd, Nat.reduceLeDiff, parseV, vv1, vv2]; rfl) (fun hg => by simp (disch := omega) only [hg, push_cast, and_true, cond_true, cond_false, if_pos, if_neg, ↓reduceIte, Nat.reduceEqDiff, Nat.reduceAdd, Nat.reduceLeDiff, parseV, vv1, vv2]; rfl) rfl rfl ?_
  iterate 4 (refine dawp_g rfl rfl (by simp only [push_cast, and_true, cond_true, cond_false, if_pos, if_neg, ↓reduceIte, Nat.reduceEqDiff, Nat.reduceAdd, Nat.reduceLeDiff, parseV, vv1, vv2]; rfl) (fun hg => by simp (disch := omega) only [hg, push_cast, and_true, cond_true, cond_false, if_pos, if_neg, ↓reduceIte, Nat.reduceEqDiff, Nat.reduceAdd, Nat.reduceLeDiff, parseV, vv1, vv2]; rfl) rfl rfl ?_)
  iterate 2 (refine dawp_p rfl (by (simp (disch := omega) only [push_cast, and_true, cond_true, cond_false, if_pos, if_neg, ↓reduceIte, Nat.reduceEqDiff, Nat.reduceAdd, Nat.reduceLeDiff, parseV, vv1, vv2]) <;> rfl) rfl rfl ?_)
  refine dawp_g rfl rfl (by simp only [push_cast, and_true, cond_true, cond_false, if_pos, if_neg, ↓reduceIte, Nat.reduceEqDiff, Nat.reduceAdd, Nat.reduceLeDiff, parseV, vv1, vv2]; rfl) (fun hg => by simp (disch := omega) only [hg, push_cast, and_true, cond_true, cond_false, if_pos, if_neg, ↓reduceIte, Nat.reduceEqDiff, Nat.reduceAdd, Nat.reduceLeDiff, parseV, vv1, vv2]; rfl) rfl rfl ?_
  refine dawp_gh rfl rfl (by simp only [push_cast, and_true, cond_true, cond_false, if_pos, if_neg, ↓reduceIte, Nat.reduceEqDiff, Nat.reduceAdd, Nat.reduceLeDiff, parseV, vv1, vv2]; rfl) (fun hg => by simp (disch := omega) only [hg, push_cast, and_true, cond_true, cond_false, if_pos, if_neg, ↓reduceIte, Nat.reduceEqDiff, Nat.reduceAdd, Nat.reduceLeDiff, parseV, vv1, vv2]; rfl) rfl rfl ?_
  iterate 4 (refine dawp_g rfl rfl (by simp only [push_cast, and_true, cond_true, cond_false, if_pos, if_neg, ↓reduceIte, Nat.reduceEqDiff, Nat.reduceAdd, Nat.reduceLeDiff, parseV, vv1, vv2]; rfl) (fun hg => by simp (disch := omega) only [hg, push_cast, and_true, cond_true, cond_false, if_pos, if_neg, ↓reduceIte, Nat.reduceEqDiff, Nat.reduceAdd, Nat.reduceLeDiff, parseV, vv1, vv2]; rfl) rfl rfl ?_)
  refine dawp_p rfl (by (simp (disch := omega) only [push_cast, and_true, cond_true, cond_false, if_pos, if_neg, ↓reduceIte, Nat.reduceEqDiff, Nat.reduceAdd, Nat.reduceLeDiff, parseV, vv1, vv2]) <;> rfl) rfl rfl ?_
  refine dawp_nil ?_
  simp (disch := omega) only [push_cast, and_true, cond_true, cond_false, if_pos, if_neg, ↓reduceIte, Nat.reduceEqDiff, Nat.reduceAdd, Nat.reduceLeDiff, parseV, vv1, vv2]
  refine hK18 _ ?_
  refine awp_cond (by (simp (disch := omega) only [push_cast, and_true, cond_true, cond_false, if_pos, if_neg, ↓reduceIte, Nat.reduceEqDiff, Nat.reduceAdd, Nat.reduceLeDiff, parseV, vv1, vv2]) <;> rfl) (fun hb3 => ?_) (fun hb3 => ?_)
  · skip
    exfalso; simp at hb3
  try simp only [decide_eq_true_eq, decide_eq_false_iff_not, Bool.not_eq_true', Bool.not_eq_false', Bool.or_eq_true, Bool.and_eq_true, Bool.or_eq_false_iff, Bool.and_eq_false_imp, Int.not_lt, Int.not_le] at hb3
  refine awp_skip ?_
  try simp only [push_cast]
  refine hK17 _ ?_
  refine awp_seq_k fun K19 hK19 => ?_
  refine awp_region_keep [6] ⟨true, [], [], []⟩ (fun _ => ⟨by kernel_rfl, by kernel_rfl⟩) ?_
  iterate 4 (refine dawp_p rfl (by (simp (disch := omega) only [push_cast, and_true, cond_true, cond_false, if_pos, if_neg, ↓reduceIte, Nat.reduceEqDiff, Nat.reduceAdd, Nat.reduceLeDiff, parseV, vv1, vv2]) <;> rfl) rfl rfl ?_)
  iterate 3 (refine dawp_g rfl rfl (by simp only [push_cast, and_true, cond_true, cond_false, if_pos, if_neg, ↓reduceIte, Nat.reduceEqDiff, Nat.reduceAdd, Nat.reduceLeDiff, parseV, vv1, vv2]; rfl) (fun hg => by simp (disch := omega) only [hg, push_cast, and_true, cond_true, cond_false, if_pos, if_neg, ↓reduceIte, Nat.reduceEqDiff, Nat.reduceAdd, Nat.reduceLeDiff, parseV, vv1, vv2]; rfl) rfl rfl ?_)
  iterate 2 (refine dawp_p rfl (by (simp (disch := omega) only [push_cast, and_true, cond_true, cond_false, if_pos, if_neg, ↓reduceIte, Nat.reduceEqDiff, Nat.reduceAdd, Nat.reduceLeDiff, parseV, vv1, vv2]) <;> rfl) rfl rfl ?_)
  refine dawp_g rfl rfl (by simp only [push_cast, and_true, cond_true, cond_false, if_pos, if_neg, ↓reduceIte, Nat.reduceEqDiff, Nat.reduceAdd, Nat.reduceLeDiff, parseV, vv1, vv2]; rfl) (fun hg => by simp (disch := omega) only [hg, push_cast, and_true, cond_true, cond_false, if_pos, if_neg, ↓reduceIte, Nat.reduceEqDiff, Nat.reduceAdd, Nat.reduceLeDiff, parseV, vv1, vv2]; rfl) rfl rfl ?_
  iterate 2 (refine dawp_p rfl (by (simp (disch := omega) only [push_cast, and_true, cond_true, cond_false, if_pos, if_neg, ↓reduceIte, Nat.reduceEqDiff, Nat.reduceAdd, Nat.reduceLeDiff, parseV, vv1, vv2]) <;> rfl) rfl rfl ?_)
  refine dawp_g rfl rfl (by simp only [push_cast, and_true, cond_true, cond_false, if_pos, if_neg, ↓reduceIte, Nat.reduceEqDiff, Nat.reduceAdd, Nat.reduceLeDiff, parseV, vv1, vv2]; rfl) (fun hg => by simp (disch := omega) only [hg, push_cast, and_true, cond_true, cond_false, if_pos, if_neg, ↓reduceIte, Nat.reduceEqDiff, Nat.reduceAdd, Nat.reduceLeDiff, parseV, vv1, vv2]; rfl) rfl rfl ?_
  iterate 2 (refine dawp_p rfl (by (simp (disch := omega) only [push_cast, and_true, cond_true, cond_false, if_pos, if_neg, ↓reduceIte, Nat.reduceEqDiff, Nat.reduceAdd, Nat.reduceLeDiff, parseV, vv1, vv2]) <;> rfl) rfl rfl ?_)
  refine dawp_g rfl rfl (by simp only [push_cast, and_true, cond_true, cond_false, if_pos, if_neg, ↓reduceIte, Nat.reduceEqDiff, Nat.reduceAdd, Nat.reduceLeDiff, parseV, vv1, vv2]; rfl) (fun hg => by simp (disch := omega) only [hg, push_cast, and_true, cond_true, cond_false, if_pos, if_neg, ↓reduceIte, Nat.reduceEqDiff, Nat.reduceAdd, Nat.reduceLeDiff, parseV, vv1, vv2]; rfl) rfl rfl ?_
  refine dawp_gh rfl rfl (by simp only [push_cast, and_true, cond_true, cond_false, if_pos, if_neg, ↓reduceIte, Nat.reduceEqDiff, Nat.reduceAdd, Nat.reduceLeDiff, parseV, vv1, vv2]; rfl) (fun hg => by simp (disch := omega) only [hg, push_cast, and_true, cond_true, cond_false, if_pos, if_neg, ↓reduceIte, Nat.reduceEqDiff, Nat.reduceAdd, Nat.reduceLeDiff, parseV, vv1, vv2]; rfl) rfl rfl ?_
  refine dawp_g rfl rfl (by simp only [push_cast, and_true, cond_true, cond_false, if_pos, if_neg, ↓reduceIte, Nat.reduceEqDiff, Nat.reduceAdd, Nat.reduceLeDiff, parseV, vv1, vv2]; rfl) (fun hg => by simp (disch := omega) only [hg, push_cast, and_true, cond_true, cond_false, if_pos, if_neg, ↓reduceIte, Nat.reduceEqDiff, Nat.reduceAdd, Nat.reduceLeDiff, parseV, vv1, vv2]; rfl) rfl rfl ?_
  refine dawp_gh rfl rfl (by simp only [push_cast, and_true, cond_true, cond_false, if_pos, if_neg, ↓reduceIte, Nat.reduceEqDiff, Nat.reduceAdd, Nat.reduceLeDiff, parseV, vv1, vv2]; rfl) (fun hg => by simp (disch := omega) only [hg, push_cast, and_true, cond_true, cond_false, if_pos, if_neg, ↓reduceIte, Nat.reduceEqDiff, Nat.reduceAdd, Nat.reduceLeDiff, parseV, vv1, vv2]; rfl) rfl rfl ?_
  refine dawp_g rfl rfl (by simp only [push_cast, and_true, cond_true, cond_false, if_pos, if_neg, ↓reduceIte, Nat.reduceEqDiff, Nat.reduceAdd, Nat.reduceLeDiff, parseV, vv1, vv2]; rfl) (fun hg => by simp (disch := omega) only [hg, push_cast, and_true, cond_true, cond_false, if_pos, if_neg, ↓reduceIte, Nat.reduceEqDiff, Nat.reduceAdd, Nat.reduceLeDiff, parseV, vv1, vv2]; rfl) rfl rfl ?_
  refine dawp_gh rfl rfl (by simp only [push_cast, and_true, cond_true, cond_false, if_pos, if_neg, ↓reduceIte, Nat.reduceEqDiff, Nat.reduceAdd, Nat.reduceLeDiff, parseV, vv1, vv2]; rfl) (fun hg => by simp (disch := omega) only [hg, push_cast, and_true, cond_true, cond_false, if_pos, if_neg, ↓reduceIte, Nat.reduceEqDiff, Nat.reduceAdd, Nat.reduceLeDiff, parseV, vv1, vv2]; rfl) rfl rfl ?_
  refine dawp_g rfl rfl (by simp only [push_cast, and_true, cond_true, cond_false, if_pos, if_neg, ↓reduceIte, Nat.reduceEqDiff, Nat.reduceAdd, Nat.reduceLeDiff, parseV, vv1, vv2]; rfl) (fun hg => by simp (disch := omega) only [hg, push_cast, and_true, cond_true, cond_false, if_pos, if_neg, ↓reduceIte, Nat.reduceEqDiff, Nat.reduceAdd, Nat.reduceLeDiff, parseV, vv1, vv2]; rfl) rfl rfl ?_
  refine dawp_gh rfl rfl (by simp only [push_cast, and_true, cond_true, cond_false, if_pos, if_neg, ↓reduceIte, Nat.reduceEqDiff, Nat.reduceAdd, Nat.reduceLeDiff, parseV, vv1, vv2]; rfl) (fun hg => by simp (disch := omega) only [hg, push_cast, and_true, cond_true, cond_false, if_pos, if_neg, ↓reduceIte, Nat.reduceEqDiff, Nat.reduceAdd, Nat.reduceLeDiff, parseV, vv1, vv2]; rfl) rfl rfl ?_
  refine dawp_g rfl rfl (by simp only [push_cast, and_true, cond_true, cond_false, if_pos, if_neg, ↓reduceIte, Nat.reduceEqDiff, Nat.reduceAdd, Nat.reduceLeDiff, parseV, vv1, vv2]; rfl) (fun hg => by simp (disch := omega) only [hg, push_cast, and_true, cond_true, cond_false, if_pos, if_neg, ↓reduceIte, Nat.reduceEqDiff, Nat.reduceAdd, Nat.reduceLeDiff, parseV, vv1, vv2]; rfl) rfl rfl ?_
  iterate 2 (refine dawp_p rfl (by (simp (disch := omega) only [push_cast, and_true, cond_true, cond_false, if_pos, if_neg, ↓reduceIte, Nat.reduceEqDiff, Nat.reduceAdd, Nat.reduceLeDiff, parseV, vv1, vv2]) <;> rfl) rfl rfl ?_)
  refine dawp_g rfl rfl (by simp only [push_cast, and_true, cond_true, cond_false, if_pos, if_neg, ↓reduceIte, Nat.reduceEqDiff, Nat.reduceAdd, Nat.reduceLeDiff, parseV, vv1, vv2]; rfl) (fun hg => by simp (disch := omega) only [hg, push_cast, and_true, cond_true, cond_false, if_pos, if_neg, ↓reduceIte, Nat.reduceEqDiff, Nat.reduceAdd, Nat.reduceLeDiff, parseV, vv1, vv2]; rfl) rfl rfl ?_
  refine dawp_gh rfl rfl (by simp only [push_cast, and_true, cond_true, cond_false, if_pos, if_neg, ↓reduceIte, Nat.reduceEqDiff, Nat.reduceAdd, Nat.reduceLeDiff, parseV, vv1, vv2]; rfl) (fun hg => by simp (disch := omega) only [hg, push_cast, and_true, cond_true, cond_false, if_pos, if_neg, ↓reduceIte, Nat.reduceEqDiff, Nat.reduceAdd, Nat.reduceLeDiff, parseV, vv1, vv2]; rfl) rfl rfl ?_
  iterate 2 (refine dawp_g rfl rfl (by simp only [push_cast, and_true, cond_true, cond_false, if_pos, if_neg, ↓reduceIte, Nat.reduceEqDiff, Nat.reduceAdd, Nat.reduceLeDiff, parseV, vv1, vv2]; rfl) (fun hg => by simp (disch := omega) only [hg, push_cast, and_true, cond_true, cond_false, if_pos, if_neg, ↓reduceIte, Nat.reduceEqDiff, Nat.reduceAdd, Nat.reduceLeDiff, parseV, vv1, vv2]; rfl) rfl rfl ?_)
  refine dawp_gh rfl rfl (by simp only [push_cast, and_true, cond_true, cond_false, if_pos, if_neg, ↓reduceIte, Nat.reduceEqDiff, Nat.reduceAdd, Nat.reduceLeDiff, parseV, vv1, vv2]; rfl) (fun hg => by simp (disch := omega) only [hg, push_cast, and_true, cond_true, cond_false, if_pos, if_neg, ↓reduceIte, Nat.reduceEqDiff, Nat.reduceAdd, Nat.reduceLeDiff, parseV, vv1, vv2]; rfl) rfl rfl ?_
  iterate 2 (refine dawp_g rfl rfl (by simp only [push_cast, and_true, cond_true, cond_false, if_pos, if_neg, ↓reduceIte, Nat.reduceEqDiff, Nat.reduceAdd, Nat.reduceLeDiff, parseV, vv1, vv2]; rfl) (fun hg => by simp (disch := omega) only [hg, push_cast, and_true, cond_true, cond_false, if_pos, if_neg, ↓reduceIte, Nat.reduceEqDiff, Nat.reduceAdd, Nat.reduceLeDiff, parseV, vv1, vv2]; rfl) rfl rfl ?_)
  iterate 2 (refine dawp_p rfl (by (simp (disch := omega) only [push_cast, and_true, cond_true, cond_false, if_pos, if_neg, ↓reduceIte, Nat.reduceEqDiff, Nat.reduceAdd, Nat.reduceLeDiff, parseV, vv1, vv2]) <;> rfl) rfl rfl ?_)
  refine dawp_gh rfl rfl (by simp only [push_cast, and_true, cond_true, cond_false, if_pos, if_neg, ↓reduceIte, Nat.reduceEqDiff, Nat.reduceAdd, Nat.reduceLeDiff, parseV, vv1, vv2]; rfl) (fun hg => by simp (disch := omega) only [hg, push_cast, and_true, cond_true, cond_false, if_pos, if_neg, ↓reduceIte, Nat.reduceEqDiff, Nat.reduceAdd, Nat.reduceLeDiff, parseV, vv1, vv2]; rfl) rfl rfl ?_
  refine dawp_gr rfl rfl rfl (by simp only [push_cast, and_true, cond_true, cond_false, if_pos, if_neg, ↓reduceIte, Nat.reduceEqDiff, Nat.reduceAdd, Nat.reduceLeDiff, parseV, vv1, vv2]; rfl) (fun hg => AOp.callx _ _ _ rfl (by (simp (disch := omega) only [hg, push_cast, and_true, cond_true, cond_false, if_pos, if_neg, ↓reduceIte, Nat.reduceEqDiff, Nat.reduceAdd, Nat.reduceLeDiff, parseV, vv1, vv2]) <;> rfl) (by (simp (disch := omega) only [hg, push_cast, and_true, cond_true, cond_false, if_pos, if_neg, ↓reduceIte, Nat.reduceEqDiff, Nat.reduceAdd, Nat.reduceLeDiff, parseV, vv1, vv2]) <;> rfl) (c15 [(109, a), (82, []), (109, b)] _ rest _ 82 _ _ (by simp))) rfl rfl ?_
  iterate 2 (refine dawp_p rfl (by (simp (disch := omega) only [push_cast, and_true, cond_true, cond_false, if_pos, if_neg, ↓reduceIte, Nat.reduceEqDiff, Nat.reduceAdd, Nat.reduceLeDiff, parseV, vv1, vv2]) <;> rfl) rfl rfl ?_)
  refine dawp_nil ?_
  simp (disch := omega) only [push_cast, and_true, cond_true, cond_false, if_pos, if_neg, ↓reduceIte, Nat.reduceEqDiff, Nat.reduceAdd, Nat.reduceLeDiff, parseV, vv1, vv2]
  refine hK19 _ ?_
  refine awp_ret ?_
  try simp only [push_cast]
  refine fin_pure (by (simp (disch := omega) only [Try.results7, aresults, aresult, push_cast, and_true, cond_true, cond_false, if_pos, if_neg, ↓reduceIte, Nat.reduceEqDiff, Nat.reduceAdd, Nat.reduceLeDiff, parseV, vv1, vv2]) <;> rfl) (by simp only [atuple, AV.er, AV.erL, push_cast]; rfl) (by simp [AV.cl, AV.clL]) (by first | exact ⟨_, rfl⟩ | exact ⟨[], (List.append_nil _).symm⟩) hH (fun u hu => ((hk54.2 u hu (fun e => by cases e)) |> fun k => (hk57.2 u k.1 (fun e => by cases e)).1)) ?_
  refine ⟨?_, rfl, rfl⟩
  simp

end Go.Proofs.Ytjlcdkklobcdhaa
