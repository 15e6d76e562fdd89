import Derived.Test.YtjlcdkklobcdhaaO7
/-
  OPTIONS: how the reference reads words.
-/
namespace Go.Proofs.Ytjlcdkklobcdhaa
open Go.Ab
set_option linter.unusedVariables false
set_option linter.unusedSimpArgs false


theorem isOpt_eq (s : List UInt8) : isOpt s = (decide (1 < (s.length : Int)) && decide (((s.getD 0 0).toNat : Int) = 45)) := by
  unfold isOpt
  rw [show decide ((s.length : Int) < 2) = !decide (1 < (s.length : Int)) from by rw [← decide_not]; congr 1; rw [Int.not_lt]; exact propext ⟨fun h => by omega, fun h => by omega⟩]
  cases decide (1 < (s.length : Int)) <;> cases decide (((s.getD 0 0).toNat : Int) = 45) <;> rfl

set_option maxHeartbeats 400000 in
theorem c11 (may : List UInt8) (args : List (List UInt8)) (cl : Cap) (h : List Blk) (live : List Nat) (hm : may.length ≤ 1000000) (hargs : args.length ≤ 1000) (hw : ∀ s ∈ args, s.length ≤ 1000) :
    ACalls Try.prog 11 [.str may, .slice (args.map .str) cl] h live (ret (refV (parse may args)) h live) := by
  refine acalls_of_awp Try.func11 rfl rfl (Nat.le_of_ble_eq_true rfl) fun hH hX => ?_
  simp only [fargs]
  have hB : ∀ (a : List Fl) b, HCl (h ++ [.cells [.slice [] .full, .slice [] .full, .bool false], .cells [.slice (a.map eF) b, .slice [] .full, .bool true]]) := fun a b => by
    have := HCl.snoc (HCl.snoc hH (b := .cells [.slice [] .full, .slice [] .full, .bool false]) (by simp [Blk.cl, AV.cl, AV.clL])) (b := .cells [.slice (a.map eF) b, .slice [] .full, .bool true]) (by simp [Blk.cl, AV.cl, AV.clL, clL_eF, clL_str])
    simpa using this
  refine awp_seq_k fun K1 hK1 => ?_
  refine awp_region_keep [0, 1, 4] ⟨false, [], [], []⟩ (fun h => nomatch h) ?_
  refine dawp_h rfl (by (simp (disch := omega) only [push_cast, and_true, cond_true, cond_false, if_pos, if_neg, ↓reduceIte, Nat.reduceEqDiff, Nat.reduceAdd, Nat.reduceLeDiff, eF_snoc]) <;> rfl) rfl rfl ?_
  refine dawp_nil ?_
  simp (disch := omega) only [push_cast, and_true, cond_true, cond_false, if_pos, if_neg, ↓reduceIte, Nat.reduceEqDiff, Nat.reduceAdd, Nat.reduceLeDiff, eF_snoc]
  refine hK1 _ ?_
  refine awp_seq_k fun K2 hK2 => ?_
  refine awp_region_keep [0, 1, 4, 5] ⟨false, [], [], []⟩ (fun h => nomatch h) ?_
  refine dawp_p rfl (by (simp (disch := omega) only [push_cast, and_true, cond_true, cond_false, if_pos, if_neg, ↓reduceIte, Nat.reduceEqDiff, Nat.reduceAdd, Nat.reduceLeDiff, eF_snoc]) <;> rfl) rfl rfl ?_
  refine dawp_h rfl (by (simp (disch := omega) only [push_cast, and_true, cond_true, cond_false, if_pos, if_neg, ↓reduceIte, Nat.reduceEqDiff, Nat.reduceAdd, Nat.reduceLeDiff, eF_snoc]) <;> rfl) rfl rfl ?_
  refine dawp_hn rfl (by (simp (disch := omega) only [push_cast, and_true, cond_true, cond_false, if_pos, if_neg, ↓reduceIte, Nat.reduceEqDiff, Nat.reduceAdd, Nat.reduceLeDiff, eF_snoc]) <;> rfl) rfl ?_
  refine dawp_nil ?_
  simp (disch := omega) only [push_cast, and_true, cond_true, cond_false, if_pos, if_neg, ↓reduceIte, Nat.reduceEqDiff, Nat.reduceAdd, Nat.reduceLeDiff, eF_snoc]
  refine hK2 _ ?_
  refine awp_seq_k fun K3 hK3 => ?_
  refine awp_region_keep [0, 4, 5, 6] ⟨false, [], [], []⟩ (fun h => nomatch h) ?_
  iterate 2 (refine dawp_p rfl (by (simp (disch := omega) only [push_cast, and_true, cond_true, cond_false, if_pos, if_neg, ↓reduceIte, Nat.reduceEqDiff, Nat.reduceAdd, Nat.reduceLeDiff, eF_snoc]) <;> rfl) rfl rfl ?_)
  refine dawp_nil ?_
  simp (disch := omega) only [push_cast, and_true, cond_true, cond_false, if_pos, if_neg, ↓reduceIte, Nat.reduceEqDiff, Nat.reduceAdd, Nat.reduceLeDiff, eF_snoc]
  refine hK3 _ ?_
  refine awp_seq_k fun K4 hK4 => ?_
  refine awp_block ?_
  refine awp_loop' (X := {p : Nat × List Fl × Cap × List Nat × List (List UInt8) × Cap // p.2.2.2.2.1.length ≤ p.1 ∧ p.1 ≤ args.length ∧ p.2.1.length ≤ 1000 * (args.length - p.1) ∧ Keeps live .full p.2.2.2.1 p.2.2.1 ∧ (∀ s ∈ p.2.2.2.2.1, s.length ≤ 1000) ∧ parseF may p.1 p.2.2.2.2.1 p.2.1 = parse may args}) (fun x => ⟨Try.f11.ntmps, fget [(0, .str may), (4, .ptr h.length 0), (5, .ptr (h.length + 1) 0), (6, .slice (x.1.2.2.2.2.1.map .str) x.1.2.2.2.2.2)], h ++ [.cells [.slice [] .full, .slice [] .full, .bool false], .cells [.slice (x.1.2.1.map eF) x.1.2.2.1, .slice [] .full, .bool true]], x.1.2.2.2.1⟩) (fun x => x.1.1) (⟨⟨args.length, [], .full, live, args, cl⟩, Nat.le_refl _, Nat.le_refl _, by simp, Keeps.refl (.inl rfl), hw, rfl⟩) ?_ (by first | rfl | simp only [List.length_set]) (fun ⟨⟨n, fl', c', live', left, cl'⟩, hln, hna, hfl', hkp, hws, hlt⟩ => ?_)
  · skip
    dsimp only
    refine Trunc.of (by first | exact (List.append_nil _).symm | (rw [List.append_assoc]; rfl)) ?_ (hB _ _) (fun _ h => h)
    refine FTr.cons (by first | rfl | (simp (disch := omega) only [push_cast, and_true, cond_true, cond_false, if_pos, if_neg, ↓reduceIte, Nat.reduceEqDiff, Nat.reduceAdd, Nat.reduceLeDiff, eF_snoc]; rfl)) (by simp [AV.cl, AV.clL, clL_eF, clL_str]) ?_
    refine FTr.cons (by first | rfl | (simp (disch := omega) only [push_cast, and_true, cond_true, cond_false, if_pos, if_neg, ↓reduceIte, Nat.reduceEqDiff, Nat.reduceAdd, Nat.reduceLeDiff, eF_snoc]; rfl)) (by simp [AV.cl, AV.clL, clL_eF, clL_str]) ?_
    refine FTr.cons (by first | rfl | (simp (disch := omega) only [push_cast, and_true, cond_true, cond_false, if_pos, if_neg, ↓reduceIte, Nat.reduceEqDiff, Nat.reduceAdd, Nat.reduceLeDiff, eF_snoc]; rfl)) (by simp [AV.cl, AV.clL, clL_eF, clL_str]) ?_
    refine FTr.cons (by first | rfl | (simp (disch := omega) only [push_cast, and_true, cond_true, cond_false, if_pos, if_neg, ↓reduceIte, Nat.reduceEqDiff, Nat.reduceAdd, Nat.reduceLeDiff, eF_snoc]; rfl)) (by simp [AV.cl, AV.clL, clL_eF, clL_str]) ?_
    exact FTr.nil
  dsimp only
  have hcok := hkp.ok
  dsimp only at hln hna hfl' hws hlt hkp hcok
  refine awp_seq_k fun K5 hK5 => ?_
  refine awp_seq_k fun K6 hK6 => ?_
  refine awp_region_keep [0, 4, 5, 6, 26] ⟨false, [], [], []⟩ (fun h => nomatch h) ?_
  iterate 4 (refine dawp_p rfl (by (simp (disch := omega) only [push_cast, and_true, cond_true, cond_false, if_pos, if_neg, ↓reduceIte, Nat.reduceEqDiff, Nat.reduceAdd, Nat.reduceLeDiff, eF_snoc]) <;> rfl) rfl rfl ?_)
  refine dawp_g rfl rfl (by simp only [push_cast, and_true, cond_true, cond_false, if_pos, if_neg, ↓reduceIte, Nat.reduceEqDiff, Nat.reduceAdd, Nat.reduceLeDiff, eF_snoc]; rfl) (fun hg => by simp (disch := omega) only [hg, push_cast, and_true, cond_true, cond_false, if_pos, if_neg, ↓reduceIte, Nat.reduceEqDiff, Nat.reduceAdd, Nat.reduceLeDiff, eF_snoc]; rfl) rfl rfl ?_
  refine dawp_g rfl rfl (by simp only [push_cast, and_true, cond_true, cond_false, if_pos, if_neg, ↓reduceIte, Nat.reduceEqDiff, Nat.reduceAdd, Nat.reduceLeDiff, eF_snoc]; rfl) (fun hg => by have hg2 := hg; simp only [decide_eq_true_eq] at hg2; simp (disch := omega) only [hg, push_cast, and_true, cond_true, cond_false, if_pos, if_neg, ↓reduceIte, Nat.reduceEqDiff, Nat.reduceAdd, Nat.reduceLeDiff, eF_snoc]; rfl) rfl rfl ?_
  refine dawp_gh rfl rfl (by simp only [push_cast, and_true, cond_true, cond_false, if_pos, if_neg, ↓reduceIte, Nat.reduceEqDiff, Nat.reduceAdd, Nat.reduceLeDiff, eF_snoc]; rfl) (fun hg => by have hg2 := hg; simp only [decide_eq_true_eq] at hg2; simp (disch := omega) only [hg, push_cast, and_true, cond_true, cond_false, if_pos, if_neg, ↓reduceIte, Nat.reduceEqDiff, Nat.reduceAdd, Nat.reduceLeDiff, eF_snoc]; rfl) rfl rfl ?_
  iterate 2 (refine dawp_g rfl rfl (by simp only [push_cast, and_true, cond_true, cond_false, if_pos, if_neg, ↓reduceIte, Nat.reduceEqDiff, Nat.reduceAdd, Nat.reduceLeDiff, eF_snoc]; rfl) (fun hg => by have hg2 := hg; simp only [decide_eq_true_eq] at hg2; simp (disch := omega) only [hg, push_cast, and_true, cond_true, cond_false, if_pos, if_neg, ↓reduceIte, Nat.reduceEqDiff, Nat.reduceAdd, Nat.reduceLeDiff, eF_snoc]; rfl) rfl rfl ?_)
  iterate 2 (refine dawp_p rfl (by (simp (disch := omega) only [push_cast, and_true, cond_true, cond_false, if_pos, if_neg, ↓reduceIte, Nat.reduceEqDiff, Nat.reduceAdd, Nat.reduceLeDiff, eF_snoc]) <;> rfl) rfl rfl ?_)
  refine dawp_g rfl rfl (by simp only [push_cast, and_true, cond_true, cond_false, if_pos, if_neg, ↓reduceIte, Nat.reduceEqDiff, Nat.reduceAdd, Nat.reduceLeDiff, eF_snoc]; rfl) (fun hg => by simp (disch := omega) only [hg, push_cast, and_true, cond_true, cond_false, if_pos, if_neg, ↓reduceIte, Nat.reduceEqDiff, Nat.reduceAdd, Nat.reduceLeDiff, eF_snoc]; rfl) rfl rfl ?_
  refine dawp_g rfl rfl (by simp only [push_cast, and_true, cond_true, cond_false, if_pos, if_neg, ↓reduceIte, Nat.reduceEqDiff, Nat.reduceAdd, Nat.reduceLeDiff, eF_snoc]; rfl) (fun hg => by have hg2 := hg; simp only [Bool.and_eq_true, decide_eq_true_eq] at hg2; simp (disch := omega) only [hg, push_cast, and_true, cond_true, cond_false, if_pos, if_neg, ↓reduceIte, Nat.reduceEqDiff, Nat.reduceAdd, Nat.reduceLeDiff, eF_snoc]; rfl) rfl rfl ?_
  refine dawp_gh rfl rfl (by simp only [push_cast, and_true, cond_true, cond_false, if_pos, if_neg, ↓reduceIte, Nat.reduceEqDiff, Nat.reduceAdd, Nat.reduceLeDiff, eF_snoc]; rfl) (fun hg => by have hg2 := hg; simp only [Bool.and_eq_true, decide_eq_true_eq] at hg2; simp (disch := omega) only [hg, push_cast, and_true, cond_true, cond_false, if_pos, if_neg, ↓reduceIte, Nat.reduceEqDiff, Nat.reduceAdd, Nat.reduceLeDiff, eF_snoc]; rfl) rfl rfl ?_
  refine dawp_g rfl rfl (by simp only [push_cast, and_true, cond_true, cond_false, if_pos, if_neg, ↓reduceIte, Nat.reduceEqDiff, Nat.reduceAdd, Nat.reduceLeDiff, eF_snoc]; rfl) (fun hg => by have hg2 := hg; simp only [Bool.and_eq_true, decide_eq_true_eq] at hg2; simp (disch := omega) only [hg, push_cast, and_true, cond_true, cond_false, if_pos, if_neg, ↓reduceIte, Nat.reduceEqDiff, Nat.reduceAdd, Nat.reduceLeDiff, eF_snoc]; rfl) rfl rfl ?_
  refine dawp_g rfl rfl (by simp only [push_cast, and_true, cond_true, cond_false, if_pos, if_neg, ↓reduceIte, Nat.reduceEqDiff, Nat.reduceAdd, Nat.reduceLeDiff, eF_snoc]; rfl) (fun hg => by simp (disch := omega) only [hg, push_cast, and_true, cond_true, cond_false, if_pos, if_neg, ↓reduceIte, Nat.reduceEqDiff, Nat.reduceAdd, Nat.reduceLeDiff, eF_snoc]; rfl) rfl rfl ?_
  refine dawp_p rfl (by (simp (disch := omega) only [push_cast, and_true, cond_true, cond_false, if_pos, if_neg, ↓reduceIte, Nat.reduceEqDiff, Nat.reduceAdd, Nat.reduceLeDiff, eF_snoc]) <;> rfl) rfl rfl ?_
  refine dawp_nil ?_
  simp (disch := omega) only [push_cast, and_true, cond_true, cond_false, if_pos, if_neg, ↓reduceIte, Nat.reduceEqDiff, Nat.reduceAdd, Nat.reduceLeDiff, eF_snoc]
  refine hK6 _ ?_
  refine awp_cond (by (simp (disch := omega) only [push_cast, and_true, cond_true, cond_false, if_pos, if_neg, ↓reduceIte, Nat.reduceEqDiff, Nat.reduceAdd, Nat.reduceLeDiff, eF_snoc]) <;> rfl) (fun hb1 => ?_) (fun hb1 => ?_)
  rotate_left
  · skip
    refine awp_exit ?_
    simp (disch := omega) only [push_cast, and_true, cond_true, cond_false, if_pos, if_neg, ↓reduceIte, Nat.reduceEqDiff, Nat.reduceAdd, Nat.reduceLeDiff, eF_snoc]
    refine hK4 _ ?_
    refine awp_seq_k fun K7 hK7 => ?_
    refine awp_region_keep [4, 5] ⟨false, [], [], []⟩ (fun h => nomatch h) ?_
    iterate 2 (refine dawp_p rfl (by (simp (disch := omega) only [push_cast, and_true, cond_true, cond_false, if_pos, if_neg, ↓reduceIte, Nat.reduceEqDiff, Nat.reduceAdd, Nat.reduceLeDiff, eF_snoc]) <;> rfl) rfl rfl ?_)
    refine dawp_hn rfl (by (simp (disch := omega) only [push_cast, and_true, cond_true, cond_false, if_pos, if_neg, ↓reduceIte, Nat.reduceEqDiff, Nat.reduceAdd, Nat.reduceLeDiff, eF_snoc]) <;> rfl) rfl ?_
    refine dawp_nil ?_
    simp (disch := omega) only [push_cast, and_true, cond_true, cond_false, if_pos, if_neg, ↓reduceIte, Nat.reduceEqDiff, Nat.reduceAdd, Nat.reduceLeDiff, eF_snoc]
    refine hK7 _ ?_
    refine awp_seq_k fun K8 hK8 => ?_
    refine awp_region_keep [4] ⟨false, [], [], []⟩ (fun h => nomatch h) ?_
    refine dawp_h rfl (by (simp (disch := omega) only [push_cast, and_true, cond_true, cond_false, if_pos, if_neg, ↓reduceIte, Nat.reduceEqDiff, Nat.reduceAdd, Nat.reduceLeDiff, eF_snoc]) <;> rfl) rfl rfl ?_
    refine dawp_hn rfl (by (simp (disch := omega) only [push_cast, and_true, cond_true, cond_false, if_pos, if_neg, ↓reduceIte, Nat.reduceEqDiff, Nat.reduceAdd, Nat.reduceLeDiff, eF_snoc]) <;> rfl) rfl ?_
    refine dawp_nil ?_
    simp (disch := omega) only [push_cast, and_true, cond_true, cond_false, if_pos, if_neg, ↓reduceIte, Nat.reduceEqDiff, Nat.reduceAdd, Nat.reduceLeDiff, eF_snoc]
    refine hK8 _ ?_
    refine awp_ret ?_
    try simp only [push_cast]
    refine fin_pure (by (simp (disch := omega) only [Try.results11, aresults, aresult, push_cast, and_true, cond_true, cond_false, if_pos, if_neg, ↓reduceIte, Nat.reduceEqDiff, Nat.reduceAdd, Nat.reduceLeDiff, eF_snoc]) <;> rfl) (by simp only [atuple, AV.er, AV.erL, push_cast, eFs_er, erL_str]; rfl) (by simp [AV.cl, AV.clL, clL_eF, clL_str, clL_str_tail, eFs_er, erL_str]) (by first | exact ⟨_, rfl⟩ | exact ⟨[], (List.append_nil _).symm⟩) hH (fun u hu => (hkp.2 u hu (fun e => by cases e)).1) ?_
    have hst : parseF may n left fl' = some (fl', left) := by
      by_cases e : 0 < left.length
      · refine parseF_stop e ?_
        rw [isOpt_eq]
        have hd : decide ((0 : Int) < left.length) = true := by simp; omega
        rw [hd, Bool.true_and] at hb1; exact hb1
      · have e2 : left = [] := List.length_eq_zero_iff.1 (by omega)
        subst e2; exact parseF_nil rfl
    have hp : parse may args = _ := hlt.symm.trans (hst)
    rw [hp]
    exact ⟨rfl, rfl, rfl⟩
  simp only [Bool.and_eq_true, decide_eq_true_eq] at hb1
  have hopt : isOpt (left.getD 0 []) = true := by rw [isOpt_eq]; simp only [Bool.and_eq_true, decide_eq_true_eq]; exact ⟨hb1.1.2, hb1.2⟩
  obtain ⟨⟨hb1a, hb1b⟩, hb1c⟩ := hb1
  refine awp_skip ?_
  try simp only [push_cast]
  refine hK5 _ ?_
  refine awp_block ?_
  refine awp_seq_k fun K9 hK9 => ?_
  refine awp_region_keep [0, 4, 5, 6, 7] ⟨false, [], [], []⟩ (fun h => nomatch h) ?_
  iterate 2 (refine dawp_p rfl (by (simp (disch := omega) only [push_cast, and_true, cond_true, cond_false, if_pos, if_neg, ↓reduceIte, Nat.reduceEqDiff, Nat.reduceAdd, Nat.reduceLeDiff, eF_snoc]) <;> rfl) rfl rfl ?_)
  refine dawp_h rfl (by (simp (disch := omega) only [push_cast, and_true, cond_true, cond_false, if_pos, if_neg, ↓reduceIte, Nat.reduceEqDiff, Nat.reduceAdd, Nat.reduceLeDiff, eF_snoc]) <;> rfl) rfl rfl ?_
  refine dawp_p rfl (by (simp (disch := omega) only [push_cast, and_true, cond_true, cond_false, if_pos, if_neg, ↓reduceIte, Nat.reduceEqDiff, Nat.reduceAdd, Nat.reduceLeDiff, eF_snoc]) <;> rfl) rfl rfl ?_
  refine dawp_nil ?_
  simp (disch := omega) only [push_cast, and_true, cond_true, cond_false, if_pos, if_neg, ↓reduceIte, Nat.reduceEqDiff, Nat.reduceAdd, Nat.reduceLeDiff, eF_snoc]
  refine hK9 _ ?_
  refine awp_seq_k fun K10 hK10 => ?_
  refine awp_region_keep [0, 4, 5, 6, 7] ⟨false, [], [], []⟩ (fun h => nomatch h) ?_
  iterate 3 (refine dawp_p rfl (by (simp (disch := omega) only [push_cast, and_true, cond_true, cond_false, if_pos, if_neg, ↓reduceIte, Nat.reduceEqDiff, Nat.reduceAdd, Nat.reduceLeDiff, eF_snoc]) <;> rfl) rfl rfl ?_)
  refine dawp_nil ?_
  simp (disch := omega) only [push_cast, and_true, cond_true, cond_false, if_pos, if_neg, ↓reduceIte, Nat.reduceEqDiff, Nat.reduceAdd, Nat.reduceLeDiff, eF_snoc]
  refine hK10 _ ?_
  refine awp_seq_k fun K11 hK11 => ?_
  refine awp_seq_k fun K12 hK12 => ?_
  refine awp_region_keep [0, 4, 5, 6, 7, 33] ⟨false, [], [], []⟩ (fun h => nomatch h) ?_
  iterate 2 (refine dawp_p rfl (by (simp (disch := omega) only [push_cast, and_true, cond_true, cond_false, if_pos, if_neg, ↓reduceIte, Nat.reduceEqDiff, Nat.reduceAdd, Nat.reduceLeDiff, eF_snoc]) <;> rfl) rfl rfl ?_)
  refine dawp_nil ?_
  simp (disch := omega) only [push_cast, and_true, cond_true, cond_false, if_pos, if_neg, ↓reduceIte, Nat.reduceEqDiff, Nat.reduceAdd, Nat.reduceLeDiff, eF_snoc]
  refine hK12 _ ?_
  refine awp_cond (by (simp (disch := omega) only [push_cast, and_true, cond_true, cond_false, if_pos, if_neg, ↓reduceIte, Nat.reduceEqDiff, Nat.reduceAdd, Nat.reduceLeDiff, eF_snoc]) <;> rfl) (fun hb2 => ?_) (fun hb2 => ?_)
  · skip
    try simp only [decide_eq_true_eq, decide_eq_false_iff_not, Bool.not_eq_true', Bool.not_eq_false', Bool.or_eq_true, Bool.and_eq_true, Bool.or_eq_false_iff, Bool.and_eq_false_imp, Int.not_lt, Int.not_le] at hb2
    refine awp_seq_k fun K13 hK13 => ?_
    refine awp_region_keep [4, 5] ⟨false, [], [], []⟩ (fun h => nomatch h) ?_
    iterate 2 (refine dawp_p rfl (by (simp (disch := omega) only [push_cast, and_true, cond_true, cond_false, if_pos, if_neg, ↓reduceIte, Nat.reduceEqDiff, Nat.reduceAdd, Nat.reduceLeDiff, eF_snoc]) <;> rfl) rfl rfl ?_)
    refine dawp_hn rfl (by (simp (disch := omega) only [push_cast, and_true, cond_true, cond_false, if_pos, if_neg, ↓reduceIte, Nat.reduceEqDiff, Nat.reduceAdd, Nat.reduceLeDiff, eF_snoc]) <;> rfl) rfl ?_
    refine dawp_nil ?_
    simp (disch := omega) only [push_cast, and_true, cond_true, cond_false, if_pos, if_neg, ↓reduceIte, Nat.reduceEqDiff, Nat.reduceAdd, Nat.reduceLeDiff, eF_snoc]
    refine hK13 _ ?_
    refine awp_seq_k fun K14 hK14 => ?_
    refine awp_region_keep [4] ⟨false, [], [], []⟩ (fun h => nomatch h) ?_
    refine dawp_h rfl (by (simp (disch := omega) only [push_cast, and_true, cond_true, cond_false, if_pos, if_neg, ↓reduceIte, Nat.reduceEqDiff, Nat.reduceAdd, Nat.reduceLeDiff, eF_snoc]) <;> rfl) rfl rfl ?_
    refine dawp_hn rfl (by (simp (disch := omega) only [push_cast, and_true, cond_true, cond_false, if_pos, if_neg, ↓reduceIte, Nat.reduceEqDiff, Nat.reduceAdd, Nat.reduceLeDiff, eF_snoc]) <;> rfl) rfl ?_
    refine dawp_nil ?_
    simp (disch := omega) only [push_cast, and_true, cond_true, cond_false, if_pos, if_neg, ↓reduceIte, Nat.reduceEqDiff, Nat.reduceAdd, Nat.reduceLeDiff, eF_snoc]
    refine hK14 _ ?_
    refine awp_ret ?_
    try simp only [push_cast]
    refine fin_pure (by (simp (disch := omega) only [Try.results11, aresults, aresult, push_cast, and_true, cond_true, cond_false, if_pos, if_neg, ↓reduceIte, Nat.reduceEqDiff, Nat.reduceAdd, Nat.reduceLeDiff, eF_snoc]) <;> rfl) (by simp only [atuple, AV.er, AV.erL, push_cast, eFs_er, erL_str]; rfl) (by simp [AV.cl, AV.clL, clL_eF, clL_str, clL_str_tail, eFs_er, erL_str]) (by first | exact ⟨_, rfl⟩ | exact ⟨[], (List.append_nil _).symm⟩) hH (fun u hu => (hkp.2 u hu (fun e => by cases e)).1) ?_
    have hp : parse may args = _ := hlt.symm.trans (parseF_dash (by omega) hln hopt hb2)
    rw [hp]
    exact ⟨rfl, rfl, rfl⟩
  try simp only [decide_eq_true_eq, decide_eq_false_iff_not, Bool.not_eq_true', Bool.not_eq_false', Bool.or_eq_true, Bool.and_eq_true, Bool.or_eq_false_iff, Bool.and_eq_false_imp, Int.not_lt, Int.not_le] at hb2
  refine awp_skip ?_
  try simp only [push_cast]
  refine hK11 _ ?_
  refine awp_seq_k fun K15 hK15 => ?_
  refine awp_region_keep [0, 4, 5, 6] ⟨false, [], [], []⟩ (fun _ => ⟨by kernel_rfl, by kernel_rfl⟩) ?_
  refine dawp_p rfl (by (simp (disch := omega) only [push_cast, and_true, cond_true, cond_false, if_pos, if_neg, ↓reduceIte, Nat.reduceEqDiff, Nat.reduceAdd, Nat.reduceLeDiff, eF_snoc]) <;> rfl) rfl rfl ?_
  refine dawp_h rfl (by (simp (disch := omega) only [push_cast, and_true, cond_true, cond_false, if_pos, if_neg, ↓reduceIte, Nat.reduceEqDiff, Nat.reduceAdd, Nat.reduceLeDiff, eF_snoc]) <;> rfl) rfl rfl ?_
  iterate 3 (refine dawp_p rfl (by (simp (disch := omega) only [push_cast, and_true, cond_true, cond_false, if_pos, if_neg, ↓reduceIte, Nat.reduceEqDiff, Nat.reduceAdd, Nat.reduceLeDiff, eF_snoc]) <;> rfl) rfl rfl ?_)
  refine dawp_w rfl rfl rfl rfl (AOp.callx _ _ _ rfl (by (simp (disch := omega) only [push_cast, and_true, cond_true, cond_false, if_pos, if_neg, ↓reduceIte, Nat.reduceEqDiff, Nat.reduceAdd, Nat.reduceLeDiff, eF_snoc]) <;> rfl) (by (simp (disch := omega) only [push_cast, and_true, cond_true, cond_false, if_pos, if_neg, ↓reduceIte, Nat.reduceEqDiff, Nat.reduceAdd, Nat.reduceLeDiff, eF_snoc]) <;> rfl) ?_)  
  refine (c19 may _ fl' (left.drop 1) c' _ (.slice [] .full) _ _ hcok (by simp [AV.cl, AV.clL]) hm (by have := hws _ (getD0_mem [] (show 0 < left.length by omega)); simp only [List.length_drop]; omega) (by omega) (by simp only [List.length_drop]; omega)).mono ?_
  rintro _ _ live2 ⟨rfl, F, R, L, c2, rfl, hk2, hb⟩
  iterate 3 (refine dawp_p rfl (by (simp (disch := omega) only [push_cast, and_true, cond_true, cond_false, if_pos, if_neg, ↓reduceIte, Nat.reduceEqDiff, Nat.reduceAdd, Nat.reduceLeDiff, eF_snoc]) <;> rfl) rfl rfl ?_)
  refine dawp_hn rfl (by (simp (disch := omega) only [push_cast, and_true, cond_true, cond_false, if_pos, if_neg, ↓reduceIte, Nat.reduceEqDiff, Nat.reduceAdd, Nat.reduceLeDiff, eF_snoc]) <;> rfl) rfl ?_
  refine dawp_p rfl (by (simp (disch := omega) only [push_cast, and_true, cond_true, cond_false, if_pos, if_neg, ↓reduceIte, Nat.reduceEqDiff, Nat.reduceAdd, Nat.reduceLeDiff, eF_snoc]) <;> rfl) rfl rfl ?_
  refine dawp_nil ?_
  simp (disch := omega) only [push_cast, and_true, cond_true, cond_false, if_pos, if_neg, ↓reduceIte, Nat.reduceEqDiff, Nat.reduceAdd, Nat.reduceLeDiff, eF_snoc]
  refine hK15 _ ?_
  refine awp_seq_k fun K16 hK16 => ?_
  refine awp_region_keep [0, 4, 5, 6, 48] ⟨false, [], [], []⟩ (fun h => nomatch h) ?_
  refine dawp_p rfl (by (simp (disch := omega) only [push_cast, and_true, cond_true, cond_false, if_pos, if_neg, ↓reduceIte, Nat.reduceEqDiff, Nat.reduceAdd, Nat.reduceLeDiff, eF_snoc]) <;> rfl) rfl rfl ?_
  refine dawp_h rfl (by (simp (disch := omega) only [push_cast, and_true, cond_true, cond_false, if_pos, if_neg, ↓reduceIte, Nat.reduceEqDiff, Nat.reduceAdd, Nat.reduceLeDiff, eF_snoc]) <;> rfl) rfl rfl ?_
  refine dawp_p rfl (by (simp (disch := omega) only [push_cast, and_true, cond_true, cond_false, if_pos, if_neg, ↓reduceIte, Nat.reduceEqDiff, Nat.reduceAdd, Nat.reduceLeDiff, eF_snoc]) <;> rfl) rfl rfl ?_
  refine dawp_nil ?_
  simp (disch := omega) only [push_cast, and_true, cond_true, cond_false, if_pos, if_neg, ↓reduceIte, Nat.reduceEqDiff, Nat.reduceAdd, Nat.reduceLeDiff, eF_snoc]
  refine hK16 _ ?_
  refine awp_cond (by (simp (disch := omega) only [push_cast, and_true, cond_true, cond_false, if_pos, if_neg, ↓reduceIte, Nat.reduceEqDiff, Nat.reduceAdd, Nat.reduceLeDiff, eF_snoc]) <;> rfl) (fun hb3 => ?_) (fun hb3 => ?_)
  · skip
    refine awp_seq_k fun K17 hK17 => ?_
    refine awp_region_keep [4] ⟨false, [], [], []⟩ (fun h => nomatch h) ?_
    refine dawp_p rfl (by (simp (disch := omega) only [push_cast, and_true, cond_true, cond_false, if_pos, if_neg, ↓reduceIte, Nat.reduceEqDiff, Nat.reduceAdd, Nat.reduceLeDiff, eF_snoc]) <;> rfl) rfl rfl ?_
    refine dawp_hn rfl (by (simp (disch := omega) only [push_cast, and_true, cond_true, cond_false, if_pos, if_neg, ↓reduceIte, Nat.reduceEqDiff, Nat.reduceAdd, Nat.reduceLeDiff, eF_snoc]) <;> rfl) rfl ?_
    refine dawp_nil ?_
    simp (disch := omega) only [push_cast, and_true, cond_true, cond_false, if_pos, if_neg, ↓reduceIte, Nat.reduceEqDiff, Nat.reduceAdd, Nat.reduceLeDiff, eF_snoc]
    refine hK17 _ ?_
    refine awp_ret ?_
    try simp only [push_cast]
    refine fin_pure (by (simp (disch := omega) only [Try.results11, aresults, aresult, push_cast, and_true, cond_true, cond_false, if_pos, if_neg, ↓reduceIte, Nat.reduceEqDiff, Nat.reduceAdd, Nat.reduceLeDiff, eF_snoc]) <;> rfl) (by simp only [atuple, AV.er, AV.erL, push_cast, eFs_er, erL_str]; rfl) (by simp [AV.cl, AV.clL, clL_eF, clL_str, clL_str_tail, eFs_er, erL_str]) (by first | exact ⟨_, rfl⟩ | exact ⟨[], (List.append_nil _).symm⟩) hH (fun u hu => ((hkp.trans hk2).2 u hu (fun e => by cases e)).1) ?_
    have hn4 : letters may ((left.getD 0 []).drop 1) fl' (left.drop 1) = none := by simpa using hb3
    have hp : parse may args = _ := hlt.symm.trans ((parseF_word (by omega) hln hopt hb2).trans (by rw [hn4]))
    rw [hp]
    exact ⟨rfl, rfl, rfl⟩
  simp only [Bool.not_eq_false'] at hb3
  obtain ⟨⟨fl2, left2⟩, hres⟩ := Option.isSome_iff_exists.1 hb3
  obtain ⟨cl2, rfl, rfl, rfl⟩ := hb _ _ hres
  have hsp := letters_spec _ _ _ _ _ _ hres
  refine awp_skip ?_
  try simp only [push_cast]
  have hl0 : 0 < left.length := by omega
  have hl2 : left2.length ≤ left.length - 1 := by rcases hsp.1 with e | e <;> rw [e] <;> simp <;> omega
  have hs0 : (left.getD 0 []).length ≤ 1000 := hws _ (getD0_mem _ hl0)
  have hf2 : fl2.length ≤ 1000 * (args.length - (n - 1)) := by
    have := hsp.2; simp only [List.length_drop] at this; omega
  have hw2 : ∀ s ∈ left2, s.length ≤ 1000 := by
    intro s hs
    rcases hsp.1 with e | e <;> rw [e] at hs
    · exact hws _ (List.mem_of_mem_drop hs)
    · exact hws _ (List.mem_of_mem_drop (List.mem_of_mem_drop hs))
  have hp2 : parseF may (n - 1) left2 fl2 = parse may args := by
    rw [parseF_word hl0 (by omega) hopt hb2, hres] at hlt; exact hlt
  simp only [hb3]
  refine ⟨⟨⟨n - 1, fl2, c2, live2, left2, cl2⟩, by dsimp only; omega, by dsimp only; omega, hf2, hkp.trans hk2, hw2, hp2⟩, ?_, (by first | rfl | trivial | simp only [List.length_set]), by dsimp only; omega⟩
  dsimp only
  refine Trunc.of (by first | exact (List.append_nil _).symm | (rw [List.append_assoc]; rfl)) ?_ (hB _ _) (fun _ h => h)
  refine FTr.cons (by (simp (disch := omega) only [push_cast, and_true, cond_true, cond_false, if_pos, if_neg, ↓reduceIte, Nat.reduceEqDiff, Nat.reduceAdd, Nat.reduceLeDiff, eF_snoc]) <;> first | rfl | (congr 2; omega)) (by simp [AV.cl, AV.clL, clL_eF, clL_str]) ?_
  refine FTr.cons (by (simp (disch := omega) only [push_cast, and_true, cond_true, cond_false, if_pos, if_neg, ↓reduceIte, Nat.reduceEqDiff, Nat.reduceAdd, Nat.reduceLeDiff, eF_snoc]) <;> first | rfl | (congr 2; omega)) (by simp [AV.cl, AV.clL, clL_eF, clL_str]) ?_
  refine FTr.cons (by (simp (disch := omega) only [push_cast, and_true, cond_true, cond_false, if_pos, if_neg, ↓reduceIte, Nat.reduceEqDiff, Nat.reduceAdd, Nat.reduceLeDiff, eF_snoc]) <;> first | rfl | (congr 2; omega)) (by simp [AV.cl, AV.clL, clL_eF, clL_str]) ?_
  refine FTr.cons (by (simp (disch := omega) only [push_cast, and_true, cond_true, cond_false, if_pos, if_neg, ↓reduceIte, Nat.reduceEqDiff, Nat.reduceAdd, Nat.reduceLeDiff, eF_snoc]) <;> first | rfl | (congr 2; omega)) (by simp [AV.cl, AV.clL, clL_eF, clL_str]) ?_
  exact FTr.nil

end Go.Proofs.Ytjlcdkklobcdhaa
