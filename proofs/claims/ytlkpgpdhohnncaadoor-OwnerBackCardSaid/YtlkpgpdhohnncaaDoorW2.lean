import Derived.Test.YtlkpgpdhohnncaaDoorW1
/-
  OWNER: names, and numbers.
-/
namespace Go.Proofs.YtlkpgpdhohnncaaDoor
open Go.Ab
set_option linter.unusedVariables false
set_option linter.unusedSimpArgs false


theorem range_fold {β : Type} (f : β → Nat → β) (b : β) (n : Nat) : (List.range (n + 1)).foldl f b = f ((List.range n).foldl f b) n := by
  rw [List.range_succ, List.foldl_append]; rfl
/-- Names' numbers, one by one. -/
def namesM (l : List (List UInt8)) (n : Nat) : List (AV × AV) := (List.range n).foldl (fun es i => aput (.str (l.getD i [])) (.int .i64 (i : Nat)) es) []
theorem namesM_succ (l : List (List UInt8)) (n : Nat) : aput (.str (l.getD n [])) (.int .i64 (n : Nat)) (namesM l n) = namesM l (n + 1) := by
  unfold namesM; rw [range_fold]
theorem okKeys_aput (m : MK) (k v : AV) (hk : okKey m k = true) : ∀ es : List (AV × AV), okKeys m es = true → okKeys m (aput k v es) = true
  | [], _ => by simp [aput, okKeys, hk]
  | p :: r, h => by
    simp only [okKeys, List.all_cons, Bool.and_eq_true] at h
    unfold aput
    cases keyEq p.1 k with
    | true => simp only [cond_true, okKeys, List.all_cons, Bool.and_eq_true]; exact ⟨hk, h.2⟩
    | false => simp only [cond_false, okKeys, List.all_cons, Bool.and_eq_true]; exact ⟨h.1, okKeys_aput m k v hk r h.2⟩
theorem okKeys_names (l : List (List UInt8)) : ∀ n, okKeys .str (namesM l n) = true
  | 0 => rfl
  | n + 1 => by rw [← namesM_succ]; exact okKeys_aput _ _ _ rfl _ (okKeys_names l n)
theorem aput_cl {n : Nat} {k v : AV} (hk : k.cl n) (hv : v.cl n) : ∀ es : List (AV × AV), (∀ p ∈ es, p.1.cl n ∧ p.2.cl n) → ∀ p ∈ aput k v es, p.1.cl n ∧ p.2.cl n
  | [], _, p, hp => by simp [aput] at hp; subst hp; exact ⟨hk, hv⟩
  | q :: r, h, p, hp => by
    unfold aput at hp
    cases hq : keyEq q.1 k <;> rw [hq] at hp
    · simp only [cond_false, List.mem_cons] at hp
      rcases hp with rfl | hp
      · exact h _ (by simp)
      · exact aput_cl hk hv r (fun x hx => h x (by simp [hx])) p hp
    · simp only [cond_true, List.mem_cons] at hp
      rcases hp with rfl | hp
      · exact ⟨hk, hv⟩
      · exact h p (by simp [hp])
theorem names_cl (N : Nat) (l : List (List UInt8)) : ∀ n, ∀ p ∈ namesM l n, p.1.cl N ∧ p.2.cl N
  | 0 => by simp [namesM]
  | n + 1 => by rw [← namesM_succ]; exact aput_cl (k := .str _) (v := .int .i64 _) trivial trivial _ (names_cl N l n)
theorem names_blk (N : Nat) (l : List (List UInt8)) (n : Nat) : Blk.cl N (.map (namesM l n)) := names_cl N l n

set_option maxHeartbeats 400000 in
theorem c26 (l : List (List UInt8)) (c : Cap) (h : List Blk) (live : List Nat) (hl : l.length ≤ 1000000) : ACalls Tryd.prog 26 [.slice (l.map .str) c] h live (ret (.map h.length) (h ++ [.map (namesM l l.length)]) live) := by
  refine acalls_of_awp Tryd.func26 rfl rfl (Nat.le_of_ble_eq_true rfl) fun hH hX => ?_
  simp only [fargs]
  refine awp_seq_k fun K1 hK1 => ?_
  refine awp_region_keep [0] ⟨false, [], [], []⟩ (fun h => nomatch h) ?_
  refine dawp_p rfl (by (simp (disch := omega) only [push_cast, and_true, cond_true, cond_false, if_pos, if_neg, ↓reduceIte, Nat.reduceEqDiff, Nat.reduceAdd, Nat.reduceLeDiff, namesM_succ]) <;> rfl) rfl rfl ?_
  refine dawp_nil ?_
  simp (disch := omega) only [push_cast, and_true, cond_true, cond_false, if_pos, if_neg, ↓reduceIte, Nat.reduceEqDiff, Nat.reduceAdd, Nat.reduceLeDiff, namesM_succ]
  refine hK1 _ ?_
  refine awp_seq_k fun K2 hK2 => ?_
  refine awp_region_keep [0, 3] ⟨false, [], [], []⟩ (fun h => nomatch h) ?_
  refine dawp_w rfl rfl rfl rfl (AOp.makeMap _ rfl ?_)
  refine dawp_p rfl (by (simp (disch := omega) only [push_cast, and_true, cond_true, cond_false, if_pos, if_neg, ↓reduceIte, Nat.reduceEqDiff, Nat.reduceAdd, Nat.reduceLeDiff, namesM_succ]) <;> rfl) rfl rfl ?_
  refine dawp_nil ?_
  simp (disch := omega) only [push_cast, and_true, cond_true, cond_false, if_pos, if_neg, ↓reduceIte, Nat.reduceEqDiff, Nat.reduceAdd, Nat.reduceLeDiff, namesM_succ]
  refine hK2 _ ?_
  refine awp_seq_k fun K3 hK3 => ?_
  refine awp_seq_k fun K4 hK4 => ?_
  refine awp_region_keep [3, 7, 8, 9] ⟨false, [], [], []⟩ (fun h => nomatch h) ?_
  iterate 3 (refine dawp_p rfl (by (simp (disch := omega) only [push_cast, and_true, cond_true, cond_false, if_pos, if_neg, ↓reduceIte, Nat.reduceEqDiff, Nat.reduceAdd, Nat.reduceLeDiff, namesM_succ]) <;> rfl) rfl rfl ?_)
  refine dawp_nil ?_
  simp (disch := omega) only [push_cast, and_true, cond_true, cond_false, if_pos, if_neg, ↓reduceIte, Nat.reduceEqDiff, Nat.reduceAdd, Nat.reduceLeDiff, namesM_succ]
  refine hK4 _ ?_
  refine awp_block ?_
  refine awp_loop' (X := {i : Nat // i ≤ l.length}) (fun x => ⟨Tryd.f26.ntmps, fget [(3, .map h.length), (7, .slice (l.map .str) c), (8, .int .i64 l.length), (9, .int .i64 (x.1 : Nat))], h ++ [.map (namesM l x.1)], live⟩) (fun x => l.length - x.1) (⟨0, by omega⟩) ?_ (by first | rfl | simp only [List.length_set]) (fun ⟨i, hi⟩ => ?_)
  · skip
    dsimp only
    refine Trunc.of (by first | exact (List.append_nil _).symm | (rw [List.append_assoc]; rfl)) ?_ (HCl.snoc hH (names_blk _ l _)) (fun _ h => h)
    refine FTr.cons (by first | rfl | (simp (disch := omega) only [push_cast, and_true, cond_true, cond_false, if_pos, if_neg, ↓reduceIte, Nat.reduceEqDiff, Nat.reduceAdd, Nat.reduceLeDiff, namesM_succ]; rfl)) (by simp [AV.cl, AV.clL, clL_str]) ?_
    refine FTr.cons (by first | rfl | (simp (disch := omega) only [push_cast, and_true, cond_true, cond_false, if_pos, if_neg, ↓reduceIte, Nat.reduceEqDiff, Nat.reduceAdd, Nat.reduceLeDiff, namesM_succ]; rfl)) (by simp [AV.cl, AV.clL, clL_str]) ?_
    refine FTr.cons (by first | rfl | (simp (disch := omega) only [push_cast, and_true, cond_true, cond_false, if_pos, if_neg, ↓reduceIte, Nat.reduceEqDiff, Nat.reduceAdd, Nat.reduceLeDiff, namesM_succ]; rfl)) (by simp [AV.cl, AV.clL, clL_str]) ?_
    refine FTr.cons (by first | rfl | (simp (disch := omega) only [push_cast, and_true, cond_true, cond_false, if_pos, if_neg, ↓reduceIte, Nat.reduceEqDiff, Nat.reduceAdd, Nat.reduceLeDiff, namesM_succ]; rfl)) (by simp [AV.cl, AV.clL, clL_str]) ?_
    exact FTr.nil
  dsimp only
  refine awp_seq_k fun K5 hK5 => ?_
  refine awp_region_keep [3, 7, 8, 9, 10] ⟨false, [], [], []⟩ (fun h => nomatch h) ?_
  refine dawp_p rfl (by (simp (disch := omega) only [push_cast, and_true, cond_true, cond_false, if_pos, if_neg, ↓reduceIte, Nat.reduceEqDiff, Nat.reduceAdd, Nat.reduceLeDiff, namesM_succ]) <;> rfl) rfl rfl ?_
  refine dawp_nil ?_
  simp (disch := omega) only [push_cast, and_true, cond_true, cond_false, if_pos, if_neg, ↓reduceIte, Nat.reduceEqDiff, Nat.reduceAdd, Nat.reduceLeDiff, namesM_succ]
  refine hK5 _ ?_
  refine awp_seq_k fun K6 hK6 => ?_
  refine awp_cond (by (simp (disch := omega) only [push_cast, and_true, cond_true, cond_false, if_pos, if_neg, ↓reduceIte, Nat.reduceEqDiff, Nat.reduceAdd, Nat.reduceLeDiff, namesM_succ]) <;> rfl) (fun hb1 => ?_) (fun hb1 => ?_)
  rotate_left
  · skip
    simp only [decide_eq_false_iff_not, Int.not_lt] at hb1
    have hil : i = l.length := by omega
    subst hil
    refine awp_exit ?_
    simp (disch := omega) only [push_cast, and_true, cond_true, cond_false, if_pos, if_neg, ↓reduceIte, Nat.reduceEqDiff, Nat.reduceAdd, Nat.reduceLeDiff, namesM_succ]
    refine hK3 _ ?_
    refine awp_seq_k fun K7 hK7 => ?_
    refine awp_region_keep [2] ⟨false, [], [], []⟩ (fun h => nomatch h) ?_
    iterate 2 (refine dawp_p rfl (by (simp (disch := omega) only [push_cast, and_true, cond_true, cond_false, if_pos, if_neg, ↓reduceIte, Nat.reduceEqDiff, Nat.reduceAdd, Nat.reduceLeDiff, namesM_succ]) <;> rfl) rfl rfl ?_)
    refine dawp_nil ?_
    simp (disch := omega) only [push_cast, and_true, cond_true, cond_false, if_pos, if_neg, ↓reduceIte, Nat.reduceEqDiff, Nat.reduceAdd, Nat.reduceLeDiff, namesM_succ]
    refine hK7 _ ?_
    refine awp_ret ?_
    try simp only [push_cast]
    refine fin_gen (h1 := h ++ [.map (namesM l l.length)]) (live := _) (by (simp (disch := omega) only [Tryd.results26, aresults, aresult, push_cast, and_true, cond_true, cond_false, if_pos, if_neg, ↓reduceIte, Nat.reduceEqDiff, Nat.reduceAdd, Nat.reduceLeDiff, namesM_succ]) <;> rfl) (.inl rfl) (by simp [AV.cl, AV.clL, atuple]) (by first | exact ⟨_, rfl⟩ | exact ⟨[], (List.append_nil _).symm⟩ | exact ⟨_, by rw [List.append_assoc]; rfl⟩) ((HCl.snoc hH (names_blk _ l _))) (by simp) (fun _ h => h) ?_
    exact ⟨rfl, rfl, rfl⟩
  try simp only [decide_eq_true_eq, decide_eq_false_iff_not, Bool.not_eq_true', Bool.not_eq_false', Bool.or_eq_true, Bool.and_eq_true, Bool.or_eq_false_iff, Bool.and_eq_false_imp, Int.not_lt, Int.not_le] at hb1
  refine awp_skip ?_
  try simp only [push_cast]
  refine hK6 _ ?_
  refine awp_seq_k fun K8 hK8 => ?_
  refine awp_block ?_
  refine awp_seq_k fun K9 hK9 => ?_
  refine awp_region_keep [3, 4, 5, 7, 8, 9] ⟨false, [], [], []⟩ (fun h => nomatch h) ?_
  iterate 2 (refine dawp_p rfl (by (simp (disch := omega) only [push_cast, and_true, cond_true, cond_false, if_pos, if_neg, ↓reduceIte, Nat.reduceEqDiff, Nat.reduceAdd, Nat.reduceLeDiff, namesM_succ]) <;> rfl) rfl rfl ?_)
  refine dawp_h rfl (by (simp (disch := omega) only [push_cast, and_true, cond_true, cond_false, if_pos, if_neg, ↓reduceIte, Nat.reduceEqDiff, Nat.reduceAdd, Nat.reduceLeDiff, namesM_succ]) <;> rfl) rfl rfl ?_
  iterate 2 (refine dawp_p rfl (by (simp (disch := omega) only [push_cast, and_true, cond_true, cond_false, if_pos, if_neg, ↓reduceIte, Nat.reduceEqDiff, Nat.reduceAdd, Nat.reduceLeDiff, namesM_succ]) <;> rfl) rfl rfl ?_)
  refine dawp_nil ?_
  simp (disch := omega) only [push_cast, and_true, cond_true, cond_false, if_pos, if_neg, ↓reduceIte, Nat.reduceEqDiff, Nat.reduceAdd, Nat.reduceLeDiff, namesM_succ]
  refine hK9 _ ?_
  refine awp_region_keep [3, 7, 8, 9] ⟨false, [], [], []⟩ (fun h => nomatch h) ?_
  iterate 3 (refine dawp_p rfl (by (simp (disch := omega) only [push_cast, and_true, cond_true, cond_false, if_pos, if_neg, ↓reduceIte, Nat.reduceEqDiff, Nat.reduceAdd, Nat.reduceLeDiff, namesM_succ]) <;> rfl) rfl rfl ?_)
  refine dawp_wn rfl rfl rfl (AOp.mapUpdate _ _ _ _ rfl Ty.mapT_43 (by (simp (disch := omega) only [push_cast, and_true, cond_true, cond_false, if_pos, if_neg, ↓reduceIte, Nat.reduceEqDiff, Nat.reduceAdd, Nat.reduceLeDiff, namesM_succ]) <;> rfl) (by (simp (disch := omega) only [push_cast, and_true, cond_true, cond_false, if_pos, if_neg, ↓reduceIte, Nat.reduceEqDiff, Nat.reduceAdd, Nat.reduceLeDiff, namesM_succ]) <;> rfl) (by (simp (disch := omega) only [push_cast, and_true, cond_true, cond_false, if_pos, if_neg, ↓reduceIte, Nat.reduceEqDiff, Nat.reduceAdd, Nat.reduceLeDiff, namesM_succ]) <;> rfl) (by (simp (disch := omega) only [push_cast, and_true, cond_true, cond_false, if_pos, if_neg, ↓reduceIte, Nat.reduceEqDiff, Nat.reduceAdd, Nat.reduceLeDiff, namesM_succ]) <;> rfl) rfl (okKeys_names _ _) ?_)
  refine dawp_nil ?_
  simp (disch := omega) only [push_cast, and_true, cond_true, cond_false, if_pos, if_neg, ↓reduceIte, Nat.reduceEqDiff, Nat.reduceAdd, Nat.reduceLeDiff, namesM_succ]
  refine hK8 _ ?_
  refine awp_region_keep [3, 7, 8, 9] ⟨false, [], [], []⟩ (fun h => nomatch h) ?_
  iterate 2 (refine dawp_p rfl (by (simp (disch := omega) only [push_cast, and_true, cond_true, cond_false, if_pos, if_neg, ↓reduceIte, Nat.reduceEqDiff, Nat.reduceAdd, Nat.reduceLeDiff, namesM_succ]) <;> rfl) rfl rfl ?_)
  refine dawp_nil ?_
  simp (disch := omega) only [push_cast, and_true, cond_true, cond_false, if_pos, if_neg, ↓reduceIte, Nat.reduceEqDiff, Nat.reduceAdd, Nat.reduceLeDiff, namesM_succ]
  refine ⟨⟨i + 1, by omega⟩, ?_, (by first | rfl | trivial | simp only [List.length_set]), by dsimp only; omega⟩
  dsimp only
  refine Trunc.of (by first | exact (List.append_nil _).symm | (rw [List.append_assoc]; rfl)) ?_ (HCl.snoc hH (names_blk _ l _)) (fun _ h => h)
  refine FTr.cons (by (simp (disch := omega) only [push_cast, and_true, cond_true, cond_false, if_pos, if_neg, ↓reduceIte, Nat.reduceEqDiff, Nat.reduceAdd, Nat.reduceLeDiff, namesM_succ]) <;> first | rfl | (congr 2; omega)) (by simp [AV.cl, AV.clL, clL_str]) ?_
  refine FTr.cons (by (simp (disch := omega) only [push_cast, and_true, cond_true, cond_false, if_pos, if_neg, ↓reduceIte, Nat.reduceEqDiff, Nat.reduceAdd, Nat.reduceLeDiff, namesM_succ]) <;> first | rfl | (congr 2; omega)) (by simp [AV.cl, AV.clL, clL_str]) ?_
  refine FTr.cons (by (simp (disch := omega) only [push_cast, and_true, cond_true, cond_false, if_pos, if_neg, ↓reduceIte, Nat.reduceEqDiff, Nat.reduceAdd, Nat.reduceLeDiff, namesM_succ]) <;> first | rfl | (congr 2; omega)) (by simp [AV.cl, AV.clL, clL_str]) ?_
  refine FTr.cons (by (simp (disch := omega) only [push_cast, and_true, cond_true, cond_false, if_pos, if_neg, ↓reduceIte, Nat.reduceEqDiff, Nat.reduceAdd, Nat.reduceLeDiff, namesM_succ]) <;> first | rfl | (congr 2; omega)) (by simp [AV.cl, AV.clL, clL_str]) ?_
  exact FTr.nil

end Go.Proofs.YtlkpgpdhohnncaaDoor
