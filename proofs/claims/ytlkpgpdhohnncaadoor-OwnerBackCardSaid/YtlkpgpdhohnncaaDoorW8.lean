import Derived.Test.YtlkpgpdhohnncaaDoorW7
/-
  OWNER: the reference's Parse and Show.
-/
namespace Go.Proofs.YtlkpgpdhohnncaaDoor
open Go.Ab
set_option linter.unusedVariables false
set_option linter.unusedSimpArgs false


theorem idx_at {c : UInt8} : ∀ {s : List UInt8} {i : Nat}, i < s.length → s.getD i 0 = c → (∀ j, j < i → s.getD j 0 ≠ c) → Lib.indexByte s c = i
  | b :: s, 0, _, h, _ => by
    simp at h; subst h
    simp [Lib.indexByte]
  | b :: s, i + 1, hi, h, hn => by
    have h0 : b ≠ c := by simpa using hn 0 (by omega)
    have ih := idx_at (s := s) (i := i) (by simpa using hi) (by simpa using h) (fun j hj => by simpa using hn (j + 1) (by omega))
    unfold Lib.indexByte
    rw [if_neg (by simpa using h0), ih]
    simp
theorem idx_none {c : UInt8} : ∀ {s : List UInt8}, (∀ j, j < s.length → s.getD j 0 ≠ c) → Lib.indexByte s c = -1
  | [], _ => rfl
  | b :: s, hn => by
    have h0 : b ≠ c := by simpa using hn 0 (by simp)
    have ih := idx_none (s := s) (fun j hj => by simpa using hn (j + 1) (by simpa using hj))
    unfold Lib.indexByte
    rw [if_neg (by simpa using h0), ih]
    simp
def refR (u g : Option Int) : AV := bif u.isSome && g.isSome then .tup [.int .i64 (u.getD 0), .int .i64 (g.getD 0), .bool true] else .tup [.int .i64 0, .int .i64 0, .bool false]
theorem own_at {s : List UInt8} {i : Nat} (hi : i < s.length) (hx : Lib.indexByte s 58 = i) : ownU s = (if i = 0 then some (-1) else natO (numF usersL (s.take i))) ∧ ownG s = natO (numF groupsL (s.drop (i + 1))) := by
  have e : decide (0 ≤ Lib.indexByte s 58) = true := decide_eq_true (by rw [hx]; omega)
  have hB : cutB s 58 = s.take i := by unfold cutB; rw [e, hx]; rfl
  have hA : cutA s 58 = s.drop (i + 1) := by unfold cutA; rw [e, hx]; rfl
  unfold ownU ownG hasC
  rw [hB, hA, e]
  refine ⟨?_, rfl⟩
  by_cases h0 : i = 0
  · subst h0; simp
  · rw [if_neg h0]
    have : s.take i ≠ [] := fun e => by
      rcases List.take_eq_nil_iff.1 e with h | h
      · exact h0 h
      · subst h; simp at hi
    simp [this]
theorem own_none {s : List UInt8} (hx : Lib.indexByte s 58 = -1) : ownU s = natO (numF usersL s) ∧ ownG s = some (-1) := by
  have e : decide (0 ≤ Lib.indexByte s 58) = false := decide_eq_false (by rw [hx]; omega)
  have hB : cutB s 58 = s := by unfold cutB; rw [e]; rfl
  unfold ownU ownG hasC
  rw [hB, e]
  refine ⟨?_, rfl⟩
  simp
theorem refR_no (u g : Option Int) (h : u = none ∨ g = none) : refR u g = .tup [.int .i64 0, .int .i64 0, .bool false] := by
  rcases h with rfl | rfl
  · rfl
  · cases u <;> rfl
theorem optI_ge {o : Option Nat} (h : 0 ≤ optI o) : ∃ n : Nat, o = some n ∧ optI o = n := by
  cases o with
  | none => simp [optI] at h
  | some n => exact ⟨n, rfl, rfl⟩
theorem optI_lt {o : Option Nat} (h : optI o < 0) : o = none := by
  cases o with
  | none => rfl
  | some n => have : (n : Int) < 0 := h; omega
theorem u8_eq {a : UInt8} (h : (a.toNat : Int) = 58) : a = 58 := by
  apply UInt8.toNat_inj.1
  show a.toNat = 58
  omega
theorem u8_ne {a : UInt8} (h : ¬ (a.toNat : Int) = 58) : a ≠ 58 := fun e => h (by subst e; rfl)

set_option maxHeartbeats 400000 in
theorem c10 (s : List UInt8) (h : List Blk) (live : List Nat) (hs : s.length ≤ 1000000) : ACalls Tryd.prog 10 [.str s] h live (ret (refR (ownU s) (ownG s)) h live) := by
  refine acalls_of_awp Tryd.func10 rfl rfl (Nat.le_of_ble_eq_true rfl) fun hH hX => ?_
  simp only [fargs]
  refine awp_seq_k fun K1 hK1 => ?_
  refine awp_region_keep [0] ⟨false, [], [], []⟩ (fun h => nomatch h) ?_
  iterate 3 (refine dawp_p rfl (by (simp (disch := omega) only [push_cast, and_true, cond_true, cond_false, if_pos, if_neg, ↓reduceIte, Nat.reduceEqDiff, Nat.reduceAdd, Nat.reduceLeDiff, Bool.true_and, Nat.sub_zero]) <;> rfl) rfl rfl ?_)
  refine dawp_nil ?_
  simp (disch := omega) only [push_cast, and_true, cond_true, cond_false, if_pos, if_neg, ↓reduceIte, Nat.reduceEqDiff, Nat.reduceAdd, Nat.reduceLeDiff, Bool.true_and, Nat.sub_zero]
  refine hK1 _ ?_
  refine awp_seq_k fun K2 hK2 => ?_
  refine awp_seq_k fun K3 hK3 => ?_
  refine awp_region_keep [0, 5] ⟨false, [], [], []⟩ (fun h => nomatch h) ?_
  refine dawp_p rfl (by (simp (disch := omega) only [push_cast, and_true, cond_true, cond_false, if_pos, if_neg, ↓reduceIte, Nat.reduceEqDiff, Nat.reduceAdd, Nat.reduceLeDiff, Bool.true_and, Nat.sub_zero]) <;> rfl) rfl rfl ?_
  refine dawp_nil ?_
  simp (disch := omega) only [push_cast, and_true, cond_true, cond_false, if_pos, if_neg, ↓reduceIte, Nat.reduceEqDiff, Nat.reduceAdd, Nat.reduceLeDiff, Bool.true_and, Nat.sub_zero]
  refine hK3 _ ?_
  refine awp_block ?_
  refine awp_loop' (X := {i : Nat // i ≤ s.length ∧ ∀ j, j < i → s.getD j 0 ≠ 58}) (fun x => ⟨Tryd.f10.ntmps, fget [(0, .str s), (5, .int .i64 (x.1 : Nat))], h, live⟩) (fun x => s.length - x.1) (⟨0, by omega, fun j hj => by omega⟩) ?_ (by first | rfl | simp only [List.length_set]) (fun ⟨i, hi, hn⟩ => ?_)
  · skip
    dsimp only
    refine Trunc.same ?_ hH
    refine FTr.cons (by first | rfl | (simp (disch := omega) only [push_cast, and_true, cond_true, cond_false, if_pos, if_neg, ↓reduceIte, Nat.reduceEqDiff, Nat.reduceAdd, Nat.reduceLeDiff, Bool.true_and, Nat.sub_zero]; rfl)) (by simp [AV.cl, AV.clL, clL_str]) ?_
    refine FTr.cons (by first | rfl | (simp (disch := omega) only [push_cast, and_true, cond_true, cond_false, if_pos, if_neg, ↓reduceIte, Nat.reduceEqDiff, Nat.reduceAdd, Nat.reduceLeDiff, Bool.true_and, Nat.sub_zero]; rfl)) (by simp [AV.cl, AV.clL, clL_str]) ?_
    exact FTr.nil
  dsimp only
  refine awp_seq_k fun K4 hK4 => ?_
  refine awp_seq_k fun K5 hK5 => ?_
  refine awp_region_keep [0, 5, 12] ⟨false, [], [], []⟩ (fun h => nomatch h) ?_
  iterate 4 (refine dawp_p rfl (by (simp (disch := omega) only [push_cast, and_true, cond_true, cond_false, if_pos, if_neg, ↓reduceIte, Nat.reduceEqDiff, Nat.reduceAdd, Nat.reduceLeDiff, Bool.true_and, Nat.sub_zero]) <;> rfl) rfl rfl ?_)
  refine dawp_nil ?_
  simp (disch := omega) only [push_cast, and_true, cond_true, cond_false, if_pos, if_neg, ↓reduceIte, Nat.reduceEqDiff, Nat.reduceAdd, Nat.reduceLeDiff, Bool.true_and, Nat.sub_zero]
  refine hK5 _ ?_
  refine awp_cond (by (simp (disch := omega) only [push_cast, and_true, cond_true, cond_false, if_pos, if_neg, ↓reduceIte, Nat.reduceEqDiff, Nat.reduceAdd, Nat.reduceLeDiff, Bool.true_and, Nat.sub_zero]) <;> rfl) (fun hb1 => ?_) (fun hb1 => ?_)
  rotate_left
  · skip
    simp only [decide_eq_true_eq, decide_eq_false_iff_not, Bool.not_eq_true', Bool.not_eq_false', Bool.or_eq_true, Bool.and_eq_true, Bool.or_eq_false_iff, Bool.and_eq_false_imp, Int.not_lt, Int.not_le] at hb1
    have hx := idx_none (s := s) (c := 58) fun j hj => hn j (by omega)
    obtain ⟨hU, hG⟩ := own_none hx
    refine awp_exit ?_
    simp (disch := omega) only [push_cast, and_true, cond_true, cond_false, if_pos, if_neg, ↓reduceIte, Nat.reduceEqDiff, Nat.reduceAdd, Nat.reduceLeDiff, Bool.true_and, Nat.sub_zero]
    refine hK2 _ ?_
    refine awp_seq_k fun K6 hK6 => ?_
    refine awp_region_keep [8] ⟨false, [], [], []⟩ (fun h => nomatch h) ?_
    refine dawp_p rfl (by (simp (disch := omega) only [push_cast, and_true, cond_true, cond_false, if_pos, if_neg, ↓reduceIte, Nat.reduceEqDiff, Nat.reduceAdd, Nat.reduceLeDiff, Bool.true_and, Nat.sub_zero]) <;> rfl) rfl rfl ?_
    refine dawp_w rfl rfl rfl rfl (AOp.callx _ _ _ rfl (by (simp (disch := omega) only [push_cast, and_true, cond_true, cond_false, if_pos, if_neg, ↓reduceIte, Nat.reduceEqDiff, Nat.reduceAdd, Nat.reduceLeDiff, Bool.true_and, Nat.sub_zero]) <;> rfl) (by (simp (disch := omega) only [push_cast, and_true, cond_true, cond_false, if_pos, if_neg, ↓reduceIte, Nat.reduceEqDiff, Nat.reduceAdd, Nat.reduceLeDiff, Bool.true_and, Nat.sub_zero]) <;> rfl) ?_)  
    refine (c13 s _ _ (by omega)).mono ?_; rintro _ _ _ ⟨rfl, rfl, rfl⟩
    refine dawp_p rfl (by (simp (disch := omega) only [push_cast, and_true, cond_true, cond_false, if_pos, if_neg, ↓reduceIte, Nat.reduceEqDiff, Nat.reduceAdd, Nat.reduceLeDiff, Bool.true_and, Nat.sub_zero]) <;> rfl) rfl rfl ?_
    refine dawp_nil ?_
    simp (disch := omega) only [push_cast, and_true, cond_true, cond_false, if_pos, if_neg, ↓reduceIte, Nat.reduceEqDiff, Nat.reduceAdd, Nat.reduceLeDiff, Bool.true_and, Nat.sub_zero]
    refine hK6 _ ?_
    refine awp_seq_k fun K7 hK7 => ?_
    refine awp_seq_k fun K8 hK8 => ?_
    refine awp_region_keep [8, 46] ⟨false, [], [], []⟩ (fun h => nomatch h) ?_
    iterate 2 (refine dawp_p rfl (by (simp (disch := omega) only [push_cast, and_true, cond_true, cond_false, if_pos, if_neg, ↓reduceIte, Nat.reduceEqDiff, Nat.reduceAdd, Nat.reduceLeDiff, Bool.true_and, Nat.sub_zero]) <;> rfl) rfl rfl ?_)
    refine dawp_nil ?_
    simp (disch := omega) only [push_cast, and_true, cond_true, cond_false, if_pos, if_neg, ↓reduceIte, Nat.reduceEqDiff, Nat.reduceAdd, Nat.reduceLeDiff, Bool.true_and, Nat.sub_zero]
    refine hK8 _ ?_
    refine awp_cond (by (simp (disch := omega) only [push_cast, and_true, cond_true, cond_false, if_pos, if_neg, ↓reduceIte, Nat.reduceEqDiff, Nat.reduceAdd, Nat.reduceLeDiff, Bool.true_and, Nat.sub_zero]) <;> rfl) (fun hb5 => ?_) (fun hb5 => ?_)
    · skip
      try simp only [decide_eq_true_eq, decide_eq_false_iff_not, Bool.not_eq_true', Bool.not_eq_false', Bool.or_eq_true, Bool.and_eq_true, Bool.or_eq_false_iff, Bool.and_eq_false_imp, Int.not_lt, Int.not_le] at hb5
      refine awp_seq_k fun K9 hK9 => ?_
      refine awp_region_keep [2, 3, 4] ⟨false, [], [], []⟩ (fun h => nomatch h) ?_
      iterate 3 (refine dawp_p rfl (by (simp (disch := omega) only [push_cast, and_true, cond_true, cond_false, if_pos, if_neg, ↓reduceIte, Nat.reduceEqDiff, Nat.reduceAdd, Nat.reduceLeDiff, Bool.true_and, Nat.sub_zero]) <;> rfl) rfl rfl ?_)
      refine dawp_nil ?_
      simp (disch := omega) only [push_cast, and_true, cond_true, cond_false, if_pos, if_neg, ↓reduceIte, Nat.reduceEqDiff, Nat.reduceAdd, Nat.reduceLeDiff, Bool.true_and, Nat.sub_zero]
      refine hK9 _ ?_
      refine awp_ret ?_
      try simp only [push_cast]
      refine fin_pure (by (simp (disch := omega) only [Tryd.results10, aresults, aresult, push_cast, and_true, cond_true, cond_false, if_pos, if_neg, ↓reduceIte, Nat.reduceEqDiff, Nat.reduceAdd, Nat.reduceLeDiff, Bool.true_and, Nat.sub_zero]) <;> rfl) (by simp only [atuple, AV.er, AV.erL, push_cast]; rfl) (by simp [AV.cl, AV.clL]) (by first | exact ⟨_, rfl⟩ | exact ⟨[], (List.append_nil _).symm⟩) hH (fun _ h => h) ?_
      refine ⟨?_, rfl, rfl⟩
      rw [refR_no]
      exact .inl (by rw [hU, optI_lt hb5]; rfl)
    try simp only [decide_eq_true_eq, decide_eq_false_iff_not, Bool.not_eq_true', Bool.not_eq_false', Bool.or_eq_true, Bool.and_eq_true, Bool.or_eq_false_iff, Bool.and_eq_false_imp, Int.not_lt, Int.not_le] at hb5
    refine awp_skip ?_
    try simp only [push_cast]
    refine hK7 _ ?_
    refine awp_seq_k fun K10 hK10 => ?_
    refine awp_region_keep [2, 3, 4] ⟨false, [], [], []⟩ (fun h => nomatch h) ?_
    iterate 4 (refine dawp_p rfl (by (simp (disch := omega) only [push_cast, and_true, cond_true, cond_false, if_pos, if_neg, ↓reduceIte, Nat.reduceEqDiff, Nat.reduceAdd, Nat.reduceLeDiff, Bool.true_and, Nat.sub_zero]) <;> rfl) rfl rfl ?_)
    refine dawp_nil ?_
    simp (disch := omega) only [push_cast, and_true, cond_true, cond_false, if_pos, if_neg, ↓reduceIte, Nat.reduceEqDiff, Nat.reduceAdd, Nat.reduceLeDiff, Bool.true_and, Nat.sub_zero]
    refine hK10 _ ?_
    refine awp_ret ?_
    try simp only [push_cast]
    refine fin_pure (by (simp (disch := omega) only [Tryd.results10, aresults, aresult, push_cast, and_true, cond_true, cond_false, if_pos, if_neg, ↓reduceIte, Nat.reduceEqDiff, Nat.reduceAdd, Nat.reduceLeDiff, Bool.true_and, Nat.sub_zero]) <;> rfl) (by simp only [atuple, AV.er, AV.erL, push_cast]; rfl) (by simp [AV.cl, AV.clL]) (by first | exact ⟨_, rfl⟩ | exact ⟨[], (List.append_nil _).symm⟩) hH (fun _ h => h) ?_
    refine ⟨?_, rfl, rfl⟩
    obtain ⟨n, h1, h2⟩ := optI_ge (by omega)
    rw [hU, hG, h1]; rfl
  try simp only [decide_eq_true_eq, decide_eq_false_iff_not, Bool.not_eq_true', Bool.not_eq_false', Bool.or_eq_true, Bool.and_eq_true, Bool.or_eq_false_iff, Bool.and_eq_false_imp, Int.not_lt, Int.not_le] at hb1
  refine awp_skip ?_
  try simp only [push_cast]
  refine hK4 _ ?_
  refine awp_seq_k fun K11 hK11 => ?_
  refine awp_block ?_
  refine awp_seq_k fun K12 hK12 => ?_
  refine awp_seq_k fun K13 hK13 => ?_
  refine awp_region_keep [0, 5, 18] ⟨false, [], [], []⟩ (fun h => nomatch h) ?_
  iterate 4 (refine dawp_p rfl (by (simp (disch := omega) only [push_cast, and_true, cond_true, cond_false, if_pos, if_neg, ↓reduceIte, Nat.reduceEqDiff, Nat.reduceAdd, Nat.reduceLeDiff, Bool.true_and, Nat.sub_zero]) <;> rfl) rfl rfl ?_)
  refine dawp_nil ?_
  simp (disch := omega) only [push_cast, and_true, cond_true, cond_false, if_pos, if_neg, ↓reduceIte, Nat.reduceEqDiff, Nat.reduceAdd, Nat.reduceLeDiff, Bool.true_and, Nat.sub_zero]
  refine hK13 _ ?_
  refine awp_cond (by (simp (disch := omega) only [push_cast, and_true, cond_true, cond_false, if_pos, if_neg, ↓reduceIte, Nat.reduceEqDiff, Nat.reduceAdd, Nat.reduceLeDiff, Bool.true_and, Nat.sub_zero]) <;> rfl) (fun hb2 => ?_) (fun hb2 => ?_)
  · skip
    simp only [Bool.not_eq_true', decide_eq_false_iff_not] at hb2
    refine awp_exit ?_
    simp (disch := omega) only [push_cast, and_true, cond_true, cond_false, if_pos, if_neg, ↓reduceIte, Nat.reduceEqDiff, Nat.reduceAdd, Nat.reduceLeDiff, Bool.true_and, Nat.sub_zero]
    refine hK11 _ ?_
    refine awp_region_keep [0, 5] ⟨false, [], [], []⟩ (fun h => nomatch h) ?_
    iterate 3 (refine dawp_p rfl (by (simp (disch := omega) only [push_cast, and_true, cond_true, cond_false, if_pos, if_neg, ↓reduceIte, Nat.reduceEqDiff, Nat.reduceAdd, Nat.reduceLeDiff, Bool.true_and, Nat.sub_zero]) <;> rfl) rfl rfl ?_)
    refine dawp_nil ?_
    simp (disch := omega) only [push_cast, and_true, cond_true, cond_false, if_pos, if_neg, ↓reduceIte, Nat.reduceEqDiff, Nat.reduceAdd, Nat.reduceLeDiff, Bool.true_and, Nat.sub_zero]
    refine ⟨⟨i + 1, by omega, fun j hj => by rcases Nat.lt_succ_iff_lt_or_eq.1 hj with h | h; exact hn j h; subst h; exact u8_ne hb2⟩, ?_, (by first | rfl | trivial | simp only [List.length_set]), by dsimp only; omega⟩
    dsimp only
    refine Trunc.same ?_ hH
    refine FTr.cons (by (simp (disch := omega) only [push_cast, and_true, cond_true, cond_false, if_pos, if_neg, ↓reduceIte, Nat.reduceEqDiff, Nat.reduceAdd, Nat.reduceLeDiff, Bool.true_and, Nat.sub_zero]) <;> first | rfl | (congr 2; omega)) (by simp [AV.cl, AV.clL, clL_str]) ?_
    refine FTr.cons (by (simp (disch := omega) only [push_cast, and_true, cond_true, cond_false, if_pos, if_neg, ↓reduceIte, Nat.reduceEqDiff, Nat.reduceAdd, Nat.reduceLeDiff, Bool.true_and, Nat.sub_zero]) <;> first | rfl | (congr 2; omega)) (by simp [AV.cl, AV.clL, clL_str]) ?_
    exact FTr.nil
  simp only [Bool.not_eq_false', decide_eq_true_eq] at hb2
  have hil : i < s.length := by omega
  have hx := idx_at hil (u8_eq hb2) hn
  obtain ⟨hU, hG⟩ := own_at hil hx
  refine awp_skip ?_
  try simp only [push_cast]
  refine hK12 _ ?_
  refine awp_seq_k fun K14 hK14 => ?_
  refine awp_region_keep [0, 5, 6] ⟨false, [], [], []⟩ (fun h => nomatch h) ?_
  iterate 4 (refine dawp_p rfl (by (simp (disch := omega) only [push_cast, and_true, cond_true, cond_false, if_pos, if_neg, ↓reduceIte, Nat.reduceEqDiff, Nat.reduceAdd, Nat.reduceLeDiff, Bool.true_and, Nat.sub_zero]) <;> rfl) rfl rfl ?_)
  refine dawp_w rfl rfl rfl rfl (AOp.callx _ _ _ rfl (by (simp (disch := omega) only [push_cast, and_true, cond_true, cond_false, if_pos, if_neg, ↓reduceIte, Nat.reduceEqDiff, Nat.reduceAdd, Nat.reduceLeDiff, Bool.true_and, Nat.sub_zero]) <;> rfl) (by (simp (disch := omega) only [push_cast, and_true, cond_true, cond_false, if_pos, if_neg, ↓reduceIte, Nat.reduceEqDiff, Nat.reduceAdd, Nat.reduceLeDiff, Bool.true_and, Nat.sub_zero]) <;> rfl) ?_)  
  refine (c14 _ _ _ (by simp; omega)).mono ?_; rintro _ _ _ ⟨rfl, rfl, rfl⟩
  refine dawp_p rfl (by (simp (disch := omega) only [push_cast, and_true, cond_true, cond_false, if_pos, if_neg, ↓reduceIte, Nat.reduceEqDiff, Nat.reduceAdd, Nat.reduceLeDiff, Bool.true_and, Nat.sub_zero]) <;> rfl) rfl rfl ?_
  refine dawp_nil ?_
  simp (disch := omega) only [push_cast, and_true, cond_true, cond_false, if_pos, if_neg, ↓reduceIte, Nat.reduceEqDiff, Nat.reduceAdd, Nat.reduceLeDiff, Bool.true_and, Nat.sub_zero]
  refine hK14 _ ?_
  refine awp_seq_k fun K15 hK15 => ?_
  refine awp_region_keep [5, 6, 7] ⟨false, [], [], []⟩ (fun h => nomatch h) ?_
  iterate 3 (refine dawp_p rfl (by (simp (disch := omega) only [push_cast, and_true, cond_true, cond_false, if_pos, if_neg, ↓reduceIte, Nat.reduceEqDiff, Nat.reduceAdd, Nat.reduceLeDiff, Bool.true_and, Nat.sub_zero]) <;> rfl) rfl rfl ?_)
  refine dawp_w rfl rfl rfl rfl (AOp.callx _ _ _ rfl (by (simp (disch := omega) only [push_cast, and_true, cond_true, cond_false, if_pos, if_neg, ↓reduceIte, Nat.reduceEqDiff, Nat.reduceAdd, Nat.reduceLeDiff, Bool.true_and, Nat.sub_zero]) <;> rfl) (by (simp (disch := omega) only [push_cast, and_true, cond_true, cond_false, if_pos, if_neg, ↓reduceIte, Nat.reduceEqDiff, Nat.reduceAdd, Nat.reduceLeDiff, Bool.true_and, Nat.sub_zero]) <;> rfl) ?_)  
  refine (c13 _ _ _ (by simp; omega)).mono ?_; rintro _ _ _ ⟨rfl, rfl, rfl⟩
  refine dawp_p rfl (by (simp (disch := omega) only [push_cast, and_true, cond_true, cond_false, if_pos, if_neg, ↓reduceIte, Nat.reduceEqDiff, Nat.reduceAdd, Nat.reduceLeDiff, Bool.true_and, Nat.sub_zero]) <;> rfl) rfl rfl ?_
  refine dawp_nil ?_
  simp (disch := omega) only [push_cast, and_true, cond_true, cond_false, if_pos, if_neg, ↓reduceIte, Nat.reduceEqDiff, Nat.reduceAdd, Nat.reduceLeDiff, Bool.true_and, Nat.sub_zero]
  refine hK15 _ ?_
  refine awp_seq_k fun K16 hK16 => ?_
  refine awp_seq_k fun K17 hK17 => ?_
  refine awp_region_keep [5, 6, 7, 37] ⟨false, [], [], []⟩ (fun h => nomatch h) ?_
  iterate 3 (refine dawp_p rfl (by (simp (disch := omega) only [push_cast, and_true, cond_true, cond_false, if_pos, if_neg, ↓reduceIte, Nat.reduceEqDiff, Nat.reduceAdd, Nat.reduceLeDiff, Bool.true_and, Nat.sub_zero]) <;> rfl) rfl rfl ?_)
  iterate 6 (refine dawp_g rfl rfl (by simp only [push_cast, and_true, cond_true, cond_false, if_pos, if_neg, ↓reduceIte, Nat.reduceEqDiff, Nat.reduceAdd, Nat.reduceLeDiff, Bool.true_and, Nat.sub_zero]; rfl) (fun hg => by simp (disch := omega) only [hg, push_cast, and_true, cond_true, cond_false, if_pos, if_neg, ↓reduceIte, Nat.reduceEqDiff, Nat.reduceAdd, Nat.reduceLeDiff, Bool.true_and, Nat.sub_zero]; rfl) rfl rfl ?_)
  refine dawp_p rfl (by (simp (disch := omega) only [push_cast, and_true, cond_true, cond_false, if_pos, if_neg, ↓reduceIte, Nat.reduceEqDiff, Nat.reduceAdd, Nat.reduceLeDiff, Bool.true_and, Nat.sub_zero]) <;> rfl) rfl rfl ?_
  refine dawp_nil ?_
  simp (disch := omega) only [push_cast, and_true, cond_true, cond_false, if_pos, if_neg, ↓reduceIte, Nat.reduceEqDiff, Nat.reduceAdd, Nat.reduceLeDiff, Bool.true_and, Nat.sub_zero]
  refine hK17 _ ?_
  refine awp_cond (by (simp (disch := omega) only [push_cast, and_true, cond_true, cond_false, if_pos, if_neg, ↓reduceIte, Nat.reduceEqDiff, Nat.reduceAdd, Nat.reduceLeDiff, Bool.true_and, Nat.sub_zero]) <;> rfl) (fun hb3 => ?_) (fun hb3 => ?_)
  · skip
    try simp only [decide_eq_true_eq, decide_eq_false_iff_not, Bool.not_eq_true', Bool.not_eq_false', Bool.or_eq_true, Bool.and_eq_true, Bool.or_eq_false_iff, Bool.and_eq_false_imp, Int.not_lt, Int.not_le] at hb3
    refine awp_seq_k fun K18 hK18 => ?_
    refine awp_region_keep [2, 3, 4] ⟨false, [], [], []⟩ (fun h => nomatch h) ?_
    iterate 3 (refine dawp_p rfl (by (simp (disch := omega) only [push_cast, and_true, cond_true, cond_false, if_pos, if_neg, ↓reduceIte, Nat.reduceEqDiff, Nat.reduceAdd, Nat.reduceLeDiff, Bool.true_and, Nat.sub_zero]) <;> rfl) rfl rfl ?_)
    refine dawp_nil ?_
    simp (disch := omega) only [push_cast, and_true, cond_true, cond_false, if_pos, if_neg, ↓reduceIte, Nat.reduceEqDiff, Nat.reduceAdd, Nat.reduceLeDiff, Bool.true_and, Nat.sub_zero]
    refine hK18 _ ?_
    refine awp_ret ?_
    try simp only [push_cast]
    refine fin_pure (by (simp (disch := omega) only [Tryd.results10, aresults, aresult, push_cast, and_true, cond_true, cond_false, if_pos, if_neg, ↓reduceIte, Nat.reduceEqDiff, Nat.reduceAdd, Nat.reduceLeDiff, Bool.true_and, Nat.sub_zero]) <;> rfl) (by simp only [atuple, AV.er, AV.erL, push_cast]; rfl) (by simp [AV.cl, AV.clL]) (by first | exact ⟨_, rfl⟩ | exact ⟨[], (List.append_nil _).symm⟩) hH (fun _ h => h) ?_
    refine ⟨?_, rfl, rfl⟩
    rw [refR_no]
    rcases hb3 with hb3 | ⟨hb3, hb3'⟩
    · exact .inr (by rw [hG, optI_lt hb3]; rfl)
    · exact .inl (by rw [hU, if_neg (by omega), optI_lt hb3]; rfl)
  try simp only [decide_eq_true_eq, decide_eq_false_iff_not, Bool.not_eq_true', Bool.not_eq_false', Bool.or_eq_true, Bool.and_eq_true, Bool.or_eq_false_iff, Bool.and_eq_false_imp, Int.not_lt, Int.not_le] at hb3
  refine awp_skip ?_
  try simp only [push_cast]
  refine hK16 _ ?_
  refine awp_seq_k fun K19 hK19 => ?_
  refine awp_seq_k fun K20 hK20 => ?_
  refine awp_region_keep [6, 7, 39] ⟨false, [], [], []⟩ (fun h => nomatch h) ?_
  iterate 2 (refine dawp_p rfl (by (simp (disch := omega) only [push_cast, and_true, cond_true, cond_false, if_pos, if_neg, ↓reduceIte, Nat.reduceEqDiff, Nat.reduceAdd, Nat.reduceLeDiff, Bool.true_and, Nat.sub_zero]) <;> rfl) rfl rfl ?_)
  refine dawp_nil ?_
  simp (disch := omega) only [push_cast, and_true, cond_true, cond_false, if_pos, if_neg, ↓reduceIte, Nat.reduceEqDiff, Nat.reduceAdd, Nat.reduceLeDiff, Bool.true_and, Nat.sub_zero]
  refine hK20 _ ?_
  refine awp_cond (by (simp (disch := omega) only [push_cast, and_true, cond_true, cond_false, if_pos, if_neg, ↓reduceIte, Nat.reduceEqDiff, Nat.reduceAdd, Nat.reduceLeDiff, Bool.true_and, Nat.sub_zero]) <;> rfl) (fun hb4 => ?_) (fun hb4 => ?_)
  · skip
    try simp only [decide_eq_true_eq, decide_eq_false_iff_not, Bool.not_eq_true', Bool.not_eq_false', Bool.or_eq_true, Bool.and_eq_true, Bool.or_eq_false_iff, Bool.and_eq_false_imp, Int.not_lt, Int.not_le] at hb4
    refine awp_seq_k fun K21 hK21 => ?_
    refine awp_region_keep [2, 3, 4] ⟨false, [], [], []⟩ (fun h => nomatch h) ?_
    iterate 4 (refine dawp_p rfl (by (simp (disch := omega) only [push_cast, and_true, cond_true, cond_false, if_pos, if_neg, ↓reduceIte, Nat.reduceEqDiff, Nat.reduceAdd, Nat.reduceLeDiff, Bool.true_and, Nat.sub_zero]) <;> rfl) rfl rfl ?_)
    refine dawp_nil ?_
    simp (disch := omega) only [push_cast, and_true, cond_true, cond_false, if_pos, if_neg, ↓reduceIte, Nat.reduceEqDiff, Nat.reduceAdd, Nat.reduceLeDiff, Bool.true_and, Nat.sub_zero]
    refine hK21 _ ?_
    refine awp_ret ?_
    try simp only [push_cast]
    refine fin_pure (by (simp (disch := omega) only [Tryd.results10, aresults, aresult, push_cast, and_true, cond_true, cond_false, if_pos, if_neg, ↓reduceIte, Nat.reduceEqDiff, Nat.reduceAdd, Nat.reduceLeDiff, Bool.true_and, Nat.sub_zero]) <;> rfl) (by simp only [atuple, AV.er, AV.erL, push_cast]; rfl) (by simp [AV.cl, AV.clL]) (by first | exact ⟨_, rfl⟩ | exact ⟨[], (List.append_nil _).symm⟩) hH (fun _ h => h) ?_
    refine ⟨?_, rfl, rfl⟩
    obtain ⟨n, h1, h2⟩ := optI_ge hb3.1
    rw [hU, hG, h1, if_pos (by omega)]; rfl
  try simp only [decide_eq_true_eq, decide_eq_false_iff_not, Bool.not_eq_true', Bool.not_eq_false', Bool.or_eq_true, Bool.and_eq_true, Bool.or_eq_false_iff, Bool.and_eq_false_imp, Int.not_lt, Int.not_le] at hb4
  refine awp_skip ?_
  try simp only [push_cast]
  refine hK19 _ ?_
  refine awp_seq_k fun K22 hK22 => ?_
  refine awp_region_keep [2, 3, 4] ⟨false, [], [], []⟩ (fun h => nomatch h) ?_
  iterate 5 (refine dawp_p rfl (by (simp (disch := omega) only [push_cast, and_true, cond_true, cond_false, if_pos, if_neg, ↓reduceIte, Nat.reduceEqDiff, Nat.reduceAdd, Nat.reduceLeDiff, Bool.true_and, Nat.sub_zero]) <;> rfl) rfl rfl ?_)
  refine dawp_nil ?_
  simp (disch := omega) only [push_cast, and_true, cond_true, cond_false, if_pos, if_neg, ↓reduceIte, Nat.reduceEqDiff, Nat.reduceAdd, Nat.reduceLeDiff, Bool.true_and, Nat.sub_zero]
  refine hK22 _ ?_
  refine awp_ret ?_
  try simp only [push_cast]
  refine fin_pure (by (simp (disch := omega) only [Tryd.results10, aresults, aresult, push_cast, and_true, cond_true, cond_false, if_pos, if_neg, ↓reduceIte, Nat.reduceEqDiff, Nat.reduceAdd, Nat.reduceLeDiff, Bool.true_and, Nat.sub_zero]) <;> rfl) (by simp only [atuple, AV.er, AV.erL, push_cast]; rfl) (by simp [AV.cl, AV.clL]) (by first | exact ⟨_, rfl⟩ | exact ⟨[], (List.append_nil _).symm⟩) hH (fun _ h => h) ?_
  refine ⟨?_, rfl, rfl⟩
  obtain ⟨n, h1, h2⟩ := optI_ge hb3.1
  obtain ⟨m, h3, h4⟩ := optI_ge (o := numF usersL (s.take i)) (by have := hb3.2; omega)
  rw [hU, hG, h1, if_neg (by omega), h3]; rfl

set_option maxHeartbeats 400000 in
theorem c16 (u g : Int) (h : List Blk) (live : List Nat) (hu0 : -9223372036854775808 ≤ u) (hu1 : u ≤ 9223372036854775807) (hg0 : -9223372036854775808 ≤ g) (hg1 : g ≤ 9223372036854775807) : ACalls Tryd.prog 16 [.int .i64 u, .int .i64 g] h live (ret (.str (showF u g)) h live) := by
  refine acalls_of_awp Tryd.func16 rfl rfl (Nat.le_of_ble_eq_true rfl) fun hH hX => ?_
  simp only [fargs]
  have hul : usersL.length = 4 := rfl
  have hgl : groupsL.length = 4 := rfl
  have hui := Lib.itoa_length_le u hu0 hu1
  have hgi := Lib.itoa_length_le g hg0 hg1
  have hug := getD_len (L := usersL) (B := 5) (by decide) u.toNat
  have hgg := getD_len (L := groupsL) (B := 5) (by decide) g.toNat
  refine awp_seq_k fun K1 hK1 => ?_
  refine awp_region_keep [0, 1] ⟨false, [], [], []⟩ (fun h => nomatch h) ?_
  refine dawp_p rfl (by (simp (disch := omega) only [push_cast, and_true, cond_true, cond_false, if_pos, if_neg, ↓reduceIte, Nat.reduceEqDiff, Nat.reduceAdd, Nat.reduceLeDiff, users_lit, groups_lit, users_len, groups_len, Bool.true_and]) <;> rfl) rfl rfl ?_
  refine dawp_nil ?_
  simp (disch := omega) only [push_cast, and_true, cond_true, cond_false, if_pos, if_neg, ↓reduceIte, Nat.reduceEqDiff, Nat.reduceAdd, Nat.reduceLeDiff, users_lit, groups_lit, users_len, groups_len, Bool.true_and]
  refine hK1 _ ?_
  refine awp_seq_k fun K2 hK2 => ?_
  refine awp_region_keep [0, 1, 5] ⟨false, [], [], []⟩ (fun h => nomatch h) ?_
  refine dawp_p rfl (by (simp (disch := omega) only [push_cast, and_true, cond_true, cond_false, if_pos, if_neg, ↓reduceIte, Nat.reduceEqDiff, Nat.reduceAdd, Nat.reduceLeDiff, users_lit, groups_lit, users_len, groups_len, Bool.true_and]) <;> rfl) rfl rfl ?_
  refine dawp_nil ?_
  simp (disch := omega) only [push_cast, and_true, cond_true, cond_false, if_pos, if_neg, ↓reduceIte, Nat.reduceEqDiff, Nat.reduceAdd, Nat.reduceLeDiff, users_lit, groups_lit, users_len, groups_len, Bool.true_and]
  refine hK2 _ ?_
  refine awp_seq_k fun K3 hK3 => ?_
  refine awp_seq_k fun K4 hK4 => ?_
  refine awp_region_keep [0, 1, 5, 9] ⟨false, [], [], []⟩ (fun h => nomatch h) ?_
  iterate 2 (refine dawp_p rfl (by (simp (disch := omega) only [push_cast, and_true, cond_true, cond_false, if_pos, if_neg, ↓reduceIte, Nat.reduceEqDiff, Nat.reduceAdd, Nat.reduceLeDiff, users_lit, groups_lit, users_len, groups_len, Bool.true_and]) <;> rfl) rfl rfl ?_)
  refine dawp_nil ?_
  simp (disch := omega) only [push_cast, and_true, cond_true, cond_false, if_pos, if_neg, ↓reduceIte, Nat.reduceEqDiff, Nat.reduceAdd, Nat.reduceLeDiff, users_lit, groups_lit, users_len, groups_len, Bool.true_and]
  refine hK4 _ ?_
  refine awp_cond (by (simp (disch := omega) only [push_cast, and_true, cond_true, cond_false, if_pos, if_neg, ↓reduceIte, Nat.reduceEqDiff, Nat.reduceAdd, Nat.reduceLeDiff, users_lit, groups_lit, users_len, groups_len, Bool.true_and]) <;> rfl) (fun hb1 => ?_) (fun hb1 => ?_)
  · skip
    try simp only [decide_eq_true_eq, decide_eq_false_iff_not, Bool.not_eq_true', Bool.not_eq_false', Bool.or_eq_true, Bool.and_eq_true, Bool.or_eq_false_iff, Bool.and_eq_false_imp, Int.not_lt, Int.not_le] at hb1
    refine awp_region_keep [0, 1, 5] ⟨false, [], [], []⟩ (fun h => nomatch h) ?_
    refine dawp_p rfl (by (simp (disch := omega) only [push_cast, and_true, cond_true, cond_false, if_pos, if_neg, ↓reduceIte, Nat.reduceEqDiff, Nat.reduceAdd, Nat.reduceLeDiff, users_lit, groups_lit, users_len, groups_len, Bool.true_and]) <;> rfl) rfl rfl ?_
    refine dawp_w rfl rfl rfl rfl (AOp.callx _ _ _ rfl (by (simp (disch := omega) only [push_cast, and_true, cond_true, cond_false, if_pos, if_neg, ↓reduceIte, Nat.reduceEqDiff, Nat.reduceAdd, Nat.reduceLeDiff, users_lit, groups_lit, users_len, groups_len, Bool.true_and]) <;> rfl) (by (simp (disch := omega) only [push_cast, and_true, cond_true, cond_false, if_pos, if_neg, ↓reduceIte, Nat.reduceEqDiff, Nat.reduceAdd, Nat.reduceLeDiff, users_lit, groups_lit, users_len, groups_len, Bool.true_and]) <;> rfl) ?_)  
    refine (c17 u _ _ (by omega) (by omega)).mono ?_; rintro _ _ _ ⟨rfl, rfl, rfl⟩
    refine dawp_p rfl (by (simp (disch := omega) only [push_cast, and_true, cond_true, cond_false, if_pos, if_neg, ↓reduceIte, Nat.reduceEqDiff, Nat.reduceAdd, Nat.reduceLeDiff, users_lit, groups_lit, users_len, groups_len, Bool.true_and]) <;> rfl) rfl rfl ?_
    refine dawp_nil ?_
    simp (disch := omega) only [push_cast, and_true, cond_true, cond_false, if_pos, if_neg, ↓reduceIte, Nat.reduceEqDiff, Nat.reduceAdd, Nat.reduceLeDiff, users_lit, groups_lit, users_len, groups_len, Bool.true_and]
    refine hK3 _ ?_
    refine awp_seq_k fun K5 hK5 => ?_
    refine awp_seq_k fun K6 hK6 => ?_
    refine awp_region_keep [0, 1, 5, 17] ⟨false, [], [], []⟩ (fun h => nomatch h) ?_
    iterate 3 (refine dawp_p rfl (by (simp (disch := omega) only [push_cast, and_true, cond_true, cond_false, if_pos, if_neg, ↓reduceIte, Nat.reduceEqDiff, Nat.reduceAdd, Nat.reduceLeDiff, users_lit, groups_lit, users_len, groups_len, Bool.true_and]) <;> rfl) rfl rfl ?_)
    iterate 2 (refine dawp_g rfl rfl (by simp only [push_cast, and_true, cond_true, cond_false, if_pos, if_neg, ↓reduceIte, Nat.reduceEqDiff, Nat.reduceAdd, Nat.reduceLeDiff, users_lit, groups_lit, users_len, groups_len, Bool.true_and]; rfl) (fun hg => by simp (disch := omega) only [hg, push_cast, and_true, cond_true, cond_false, if_pos, if_neg, ↓reduceIte, Nat.reduceEqDiff, Nat.reduceAdd, Nat.reduceLeDiff, users_lit, groups_lit, users_len, groups_len, Bool.true_and]; rfl) rfl rfl ?_)
    refine dawp_p rfl (by (simp (disch := omega) only [push_cast, and_true, cond_true, cond_false, if_pos, if_neg, ↓reduceIte, Nat.reduceEqDiff, Nat.reduceAdd, Nat.reduceLeDiff, users_lit, groups_lit, users_len, groups_len, Bool.true_and]) <;> rfl) rfl rfl ?_
    refine dawp_nil ?_
    simp (disch := omega) only [push_cast, and_true, cond_true, cond_false, if_pos, if_neg, ↓reduceIte, Nat.reduceEqDiff, Nat.reduceAdd, Nat.reduceLeDiff, users_lit, groups_lit, users_len, groups_len, Bool.true_and]
    refine hK6 _ ?_
    refine awp_cond (by (simp (disch := omega) only [push_cast, and_true, cond_true, cond_false, if_pos, if_neg, ↓reduceIte, Nat.reduceEqDiff, Nat.reduceAdd, Nat.reduceLeDiff, users_lit, groups_lit, users_len, groups_len, Bool.true_and]) <;> rfl) (fun hb2 => ?_) (fun hb2 => ?_)
    · skip
      try simp only [decide_eq_true_eq, decide_eq_false_iff_not, Bool.not_eq_true', Bool.not_eq_false', Bool.or_eq_true, Bool.and_eq_true, Bool.or_eq_false_iff, Bool.and_eq_false_imp, Int.not_lt, Int.not_le] at hb2
      refine awp_seq_k fun K7 hK7 => ?_
      refine awp_region_keep [0, 1, 6] ⟨false, [], [], []⟩ (fun h => nomatch h) ?_
      iterate 2 (refine dawp_p rfl (by (simp (disch := omega) only [push_cast, and_true, cond_true, cond_false, if_pos, if_neg, ↓reduceIte, Nat.reduceEqDiff, Nat.reduceAdd, Nat.reduceLeDiff, users_lit, groups_lit, users_len, groups_len, Bool.true_and]) <;> rfl) rfl rfl ?_)
      refine dawp_nil ?_
      simp (disch := omega) only [push_cast, and_true, cond_true, cond_false, if_pos, if_neg, ↓reduceIte, Nat.reduceEqDiff, Nat.reduceAdd, Nat.reduceLeDiff, users_lit, groups_lit, users_len, groups_len, Bool.true_and]
      refine hK7 _ ?_
      refine awp_region_keep [1, 5] ⟨false, [], [], []⟩ (fun h => nomatch h) ?_
      iterate 3 (refine dawp_p rfl (by (simp (disch := omega) only [push_cast, and_true, cond_true, cond_false, if_pos, if_neg, ↓reduceIte, Nat.reduceEqDiff, Nat.reduceAdd, Nat.reduceLeDiff, users_lit, groups_lit, users_len, groups_len, Bool.true_and]) <;> rfl) rfl rfl ?_)
      refine dawp_h rfl (by (simp (disch := omega) only [push_cast, and_true, cond_true, cond_false, if_pos, if_neg, ↓reduceIte, Nat.reduceEqDiff, Nat.reduceAdd, Nat.reduceLeDiff, users_lit, groups_lit, users_len, groups_len, Bool.true_and]) <;> rfl) rfl rfl ?_
      refine dawp_p rfl (by (simp (disch := omega) only [push_cast, and_true, cond_true, cond_false, if_pos, if_neg, ↓reduceIte, Nat.reduceEqDiff, Nat.reduceAdd, Nat.reduceLeDiff, users_lit, groups_lit, users_len, groups_len, Bool.true_and]) <;> rfl) rfl rfl ?_
      refine dawp_nil ?_
      simp (disch := omega) only [push_cast, and_true, cond_true, cond_false, if_pos, if_neg, ↓reduceIte, Nat.reduceEqDiff, Nat.reduceAdd, Nat.reduceLeDiff, users_lit, groups_lit, users_len, groups_len, Bool.true_and]
      refine hK5 _ ?_
      refine awp_seq_k fun K8 hK8 => ?_
      refine awp_seq_k fun K9 hK9 => ?_
      refine awp_region_keep [1, 5, 24] ⟨false, [], [], []⟩ (fun h => nomatch h) ?_
      iterate 2 (refine dawp_p rfl (by (simp (disch := omega) only [push_cast, and_true, cond_true, cond_false, if_pos, if_neg, ↓reduceIte, Nat.reduceEqDiff, Nat.reduceAdd, Nat.reduceLeDiff, users_lit, groups_lit, users_len, groups_len, Bool.true_and]) <;> rfl) rfl rfl ?_)
      refine dawp_nil ?_
      simp (disch := omega) only [push_cast, and_true, cond_true, cond_false, if_pos, if_neg, ↓reduceIte, Nat.reduceEqDiff, Nat.reduceAdd, Nat.reduceLeDiff, users_lit, groups_lit, users_len, groups_len, Bool.true_and]
      refine hK9 _ ?_
      refine awp_cond (by (simp (disch := omega) only [push_cast, and_true, cond_true, cond_false, if_pos, if_neg, ↓reduceIte, Nat.reduceEqDiff, Nat.reduceAdd, Nat.reduceLeDiff, users_lit, groups_lit, users_len, groups_len, Bool.true_and]) <;> rfl) (fun hb3 => ?_) (fun hb3 => ?_)
      · skip
        try simp only [decide_eq_true_eq, decide_eq_false_iff_not, Bool.not_eq_true', Bool.not_eq_false', Bool.or_eq_true, Bool.and_eq_true, Bool.or_eq_false_iff, Bool.and_eq_false_imp, Int.not_lt, Int.not_le] at hb3
        refine awp_seq_k fun K10 hK10 => ?_
        refine awp_region_keep [4] ⟨false, [], [], []⟩ (fun h => nomatch h) ?_
        iterate 2 (refine dawp_p rfl (by (simp (disch := omega) only [push_cast, and_true, cond_true, cond_false, if_pos, if_neg, ↓reduceIte, Nat.reduceEqDiff, Nat.reduceAdd, Nat.reduceLeDiff, users_lit, groups_lit, users_len, groups_len, Bool.true_and]) <;> rfl) rfl rfl ?_)
        refine dawp_nil ?_
        simp (disch := omega) only [push_cast, and_true, cond_true, cond_false, if_pos, if_neg, ↓reduceIte, Nat.reduceEqDiff, Nat.reduceAdd, Nat.reduceLeDiff, users_lit, groups_lit, users_len, groups_len, Bool.true_and]
        refine hK10 _ ?_
        refine awp_ret ?_
        try simp only [push_cast]
        refine fin_pure (by (simp (disch := omega) only [Tryd.results16, aresults, aresult, push_cast, and_true, cond_true, cond_false, if_pos, if_neg, ↓reduceIte, Nat.reduceEqDiff, Nat.reduceAdd, Nat.reduceLeDiff, users_lit, groups_lit, users_len, groups_len, Bool.true_and]) <;> rfl) (by simp only [atuple, AV.er, AV.erL, push_cast]; rfl) (by simp [AV.cl, AV.clL]) (by first | exact ⟨_, rfl⟩ | exact ⟨[], (List.append_nil _).symm⟩) hH (fun _ h => h) ?_
        refine ⟨?_, rfl, rfl⟩
        unfold showF txtF
        by_cases a1 : 0 ≤ u <;> by_cases a2 : u < 4 <;> by_cases a3 : 0 ≤ g <;> by_cases a4 : g < 4 <;> first | (exfalso; omega) | simp [a1, a2, a3, a4]
      try simp only [decide_eq_true_eq, decide_eq_false_iff_not, Bool.not_eq_true', Bool.not_eq_false', Bool.or_eq_true, Bool.and_eq_true, Bool.or_eq_false_iff, Bool.and_eq_false_imp, Int.not_lt, Int.not_le] at hb3
      refine awp_skip ?_
      try simp only [push_cast]
      refine hK8 _ ?_
      refine awp_seq_k fun K11 hK11 => ?_
      refine awp_seq_k fun K12 hK12 => ?_
      refine awp_region_keep [1, 5, 27] ⟨false, [], [], []⟩ (fun h => nomatch h) ?_
      iterate 2 (refine dawp_p rfl (by (simp (disch := omega) only [push_cast, and_true, cond_true, cond_false, if_pos, if_neg, ↓reduceIte, Nat.reduceEqDiff, Nat.reduceAdd, Nat.reduceLeDiff, users_lit, groups_lit, users_len, groups_len, Bool.true_and]) <;> rfl) rfl rfl ?_)
      refine dawp_nil ?_
      simp (disch := omega) only [push_cast, and_true, cond_true, cond_false, if_pos, if_neg, ↓reduceIte, Nat.reduceEqDiff, Nat.reduceAdd, Nat.reduceLeDiff, users_lit, groups_lit, users_len, groups_len, Bool.true_and]
      refine hK12 _ ?_
      refine awp_cond (by (simp (disch := omega) only [push_cast, and_true, cond_true, cond_false, if_pos, if_neg, ↓reduceIte, Nat.reduceEqDiff, Nat.reduceAdd, Nat.reduceLeDiff, users_lit, groups_lit, users_len, groups_len, Bool.true_and]) <;> rfl) (fun hb4 => ?_) (fun hb4 => ?_)
      · skip
        try simp only [decide_eq_true_eq, decide_eq_false_iff_not, Bool.not_eq_true', Bool.not_eq_false', Bool.or_eq_true, Bool.and_eq_true, Bool.or_eq_false_iff, Bool.and_eq_false_imp, Int.not_lt, Int.not_le] at hb4
        refine awp_seq_k fun K13 hK13 => ?_
        refine awp_region_keep [1, 5, 7] ⟨false, [], [], []⟩ (fun h => nomatch h) ?_
        iterate 2 (refine dawp_p rfl (by (simp (disch := omega) only [push_cast, and_true, cond_true, cond_false, if_pos, if_neg, ↓reduceIte, Nat.reduceEqDiff, Nat.reduceAdd, Nat.reduceLeDiff, users_lit, groups_lit, users_len, groups_len, Bool.true_and]) <;> rfl) rfl rfl ?_)
        refine dawp_nil ?_
        simp (disch := omega) only [push_cast, and_true, cond_true, cond_false, if_pos, if_neg, ↓reduceIte, Nat.reduceEqDiff, Nat.reduceAdd, Nat.reduceLeDiff, users_lit, groups_lit, users_len, groups_len, Bool.true_and]
        refine hK13 _ ?_
        refine awp_seq_k fun K14 hK14 => ?_
        refine awp_region_keep [4] ⟨false, [], [], []⟩ (fun h => nomatch h) ?_
        iterate 5 (refine dawp_p rfl (by (simp (disch := omega) only [push_cast, and_true, cond_true, cond_false, if_pos, if_neg, ↓reduceIte, Nat.reduceEqDiff, Nat.reduceAdd, Nat.reduceLeDiff, users_lit, groups_lit, users_len, groups_len, Bool.true_and]) <;> rfl) rfl rfl ?_)
        refine dawp_h rfl (by (simp (disch := omega) only [push_cast, and_true, cond_true, cond_false, if_pos, if_neg, ↓reduceIte, Nat.reduceEqDiff, Nat.reduceAdd, Nat.reduceLeDiff, users_lit, groups_lit, users_len, groups_len, Bool.true_and]) <;> rfl) rfl rfl ?_
        iterate 2 (refine dawp_p rfl (by (simp (disch := omega) only [push_cast, and_true, cond_true, cond_false, if_pos, if_neg, ↓reduceIte, Nat.reduceEqDiff, Nat.reduceAdd, Nat.reduceLeDiff, users_lit, groups_lit, users_len, groups_len, Bool.true_and]) <;> rfl) rfl rfl ?_)
        refine dawp_nil ?_
        simp (disch := omega) only [push_cast, and_true, cond_true, cond_false, if_pos, if_neg, ↓reduceIte, Nat.reduceEqDiff, Nat.reduceAdd, Nat.reduceLeDiff, users_lit, groups_lit, users_len, groups_len, Bool.true_and]
        refine hK14 _ ?_
        refine awp_ret ?_
        try simp only [push_cast]
        refine fin_pure (by (simp (disch := omega) only [Tryd.results16, aresults, aresult, push_cast, and_true, cond_true, cond_false, if_pos, if_neg, ↓reduceIte, Nat.reduceEqDiff, Nat.reduceAdd, Nat.reduceLeDiff, users_lit, groups_lit, users_len, groups_len, Bool.true_and]) <;> rfl) (by simp only [atuple, AV.er, AV.erL, push_cast]; rfl) (by simp [AV.cl, AV.clL]) (by first | exact ⟨_, rfl⟩ | exact ⟨[], (List.append_nil _).symm⟩) hH (fun _ h => h) ?_
        refine ⟨?_, rfl, rfl⟩
        unfold showF txtF
        by_cases a1 : 0 ≤ u <;> by_cases a2 : u < 4 <;> by_cases a3 : 0 ≤ g <;> by_cases a4 : g < 4 <;> first | (exfalso; omega) | simp [a1, a2, a3, a4]
      try simp only [decide_eq_true_eq, decide_eq_false_iff_not, Bool.not_eq_true', Bool.not_eq_false', Bool.or_eq_true, Bool.and_eq_true, Bool.or_eq_false_iff, Bool.and_eq_false_imp, Int.not_lt, Int.not_le] at hb4
      refine awp_skip ?_
      try simp only [push_cast]
      refine hK11 _ ?_
      refine awp_seq_k fun K15 hK15 => ?_
      refine awp_region_keep [4] ⟨false, [], [], []⟩ (fun h => nomatch h) ?_
      iterate 3 (refine dawp_p rfl (by (simp (disch := omega) only [push_cast, and_true, cond_true, cond_false, if_pos, if_neg, ↓reduceIte, Nat.reduceEqDiff, Nat.reduceAdd, Nat.reduceLeDiff, users_lit, groups_lit, users_len, groups_len, Bool.true_and]) <;> rfl) rfl rfl ?_)
      refine dawp_w rfl rfl rfl rfl (AOp.callx _ _ _ rfl (by (simp (disch := omega) only [push_cast, and_true, cond_true, cond_false, if_pos, if_neg, ↓reduceIte, Nat.reduceEqDiff, Nat.reduceAdd, Nat.reduceLeDiff, users_lit, groups_lit, users_len, groups_len, Bool.true_and]) <;> rfl) (by (simp (disch := omega) only [push_cast, and_true, cond_true, cond_false, if_pos, if_neg, ↓reduceIte, Nat.reduceEqDiff, Nat.reduceAdd, Nat.reduceLeDiff, users_lit, groups_lit, users_len, groups_len, Bool.true_and]) <;> rfl) ?_)  
      refine (c17 g _ _ (by omega) (by omega)).mono ?_; rintro _ _ _ ⟨rfl, rfl, rfl⟩
      iterate 2 (refine dawp_p rfl (by (simp (disch := omega) only [push_cast, and_true, cond_true, cond_false, if_pos, if_neg, ↓reduceIte, Nat.reduceEqDiff, Nat.reduceAdd, Nat.reduceLeDiff, users_lit, groups_lit, users_len, groups_len, Bool.true_and]) <;> rfl) rfl rfl ?_)
      refine dawp_nil ?_
      simp (disch := omega) only [push_cast, and_true, cond_true, cond_false, if_pos, if_neg, ↓reduceIte, Nat.reduceEqDiff, Nat.reduceAdd, Nat.reduceLeDiff, users_lit, groups_lit, users_len, groups_len, Bool.true_and]
      refine hK15 _ ?_
      refine awp_ret ?_
      try simp only [push_cast]
      refine fin_pure (by (simp (disch := omega) only [Tryd.results16, aresults, aresult, push_cast, and_true, cond_true, cond_false, if_pos, if_neg, ↓reduceIte, Nat.reduceEqDiff, Nat.reduceAdd, Nat.reduceLeDiff, users_lit, groups_lit, users_len, groups_len, Bool.true_and]) <;> rfl) (by simp only [atuple, AV.er, AV.erL, push_cast]; rfl) (by simp [AV.cl, AV.clL]) (by first | exact ⟨_, rfl⟩ | exact ⟨[], (List.append_nil _).symm⟩) hH (fun _ h => h) ?_
      refine ⟨?_, rfl, rfl⟩
      unfold showF txtF
      by_cases a1 : 0 ≤ u <;> by_cases a2 : u < 4 <;> by_cases a3 : 0 ≤ g <;> by_cases a4 : g < 4 <;> first | (exfalso; omega) | simp [a1, a2, a3, a4]
    try simp only [decide_eq_true_eq, decide_eq_false_iff_not, Bool.not_eq_true', Bool.not_eq_false', Bool.or_eq_true, Bool.and_eq_true, Bool.or_eq_false_iff, Bool.and_eq_false_imp, Int.not_lt, Int.not_le] at hb2
    refine awp_skip ?_
    try simp only [push_cast]
    refine hK5 _ ?_
    refine awp_seq_k fun K16 hK16 => ?_
    refine awp_seq_k fun K17 hK17 => ?_
    refine awp_region_keep [1, 5, 24] ⟨false, [], [], []⟩ (fun h => nomatch h) ?_
    iterate 2 (refine dawp_p rfl (by (simp (disch := omega) only [push_cast, and_true, cond_true, cond_false, if_pos, if_neg, ↓reduceIte, Nat.reduceEqDiff, Nat.reduceAdd, Nat.reduceLeDiff, users_lit, groups_lit, users_len, groups_len, Bool.true_and]) <;> rfl) rfl rfl ?_)
    refine dawp_nil ?_
    simp (disch := omega) only [push_cast, and_true, cond_true, cond_false, if_pos, if_neg, ↓reduceIte, Nat.reduceEqDiff, Nat.reduceAdd, Nat.reduceLeDiff, users_lit, groups_lit, users_len, groups_len, Bool.true_and]
    refine hK17 _ ?_
    refine awp_cond (by (simp (disch := omega) only [push_cast, and_true, cond_true, cond_false, if_pos, if_neg, ↓reduceIte, Nat.reduceEqDiff, Nat.reduceAdd, Nat.reduceLeDiff, users_lit, groups_lit, users_len, groups_len, Bool.true_and]) <;> rfl) (fun hb3 => ?_) (fun hb3 => ?_)
    · skip
      try simp only [decide_eq_true_eq, decide_eq_false_iff_not, Bool.not_eq_true', Bool.not_eq_false', Bool.or_eq_true, Bool.and_eq_true, Bool.or_eq_false_iff, Bool.and_eq_false_imp, Int.not_lt, Int.not_le] at hb3
      refine awp_seq_k fun K18 hK18 => ?_
      refine awp_region_keep [4] ⟨false, [], [], []⟩ (fun h => nomatch h) ?_
      iterate 2 (refine dawp_p rfl (by (simp (disch := omega) only [push_cast, and_true, cond_true, cond_false, if_pos, if_neg, ↓reduceIte, Nat.reduceEqDiff, Nat.reduceAdd, Nat.reduceLeDiff, users_lit, groups_lit, users_len, groups_len, Bool.true_and]) <;> rfl) rfl rfl ?_)
      refine dawp_nil ?_
      simp (disch := omega) only [push_cast, and_true, cond_true, cond_false, if_pos, if_neg, ↓reduceIte, Nat.reduceEqDiff, Nat.reduceAdd, Nat.reduceLeDiff, users_lit, groups_lit, users_len, groups_len, Bool.true_and]
      refine hK18 _ ?_
      refine awp_ret ?_
      try simp only [push_cast]
      refine fin_pure (by (simp (disch := omega) only [Tryd.results16, aresults, aresult, push_cast, and_true, cond_true, cond_false, if_pos, if_neg, ↓reduceIte, Nat.reduceEqDiff, Nat.reduceAdd, Nat.reduceLeDiff, users_lit, groups_lit, users_len, groups_len, Bool.true_and]) <;> rfl) (by simp only [atuple, AV.er, AV.erL, push_cast]; rfl) (by simp [AV.cl, AV.clL]) (by first | exact ⟨_, rfl⟩ | exact ⟨[], (List.append_nil _).symm⟩) hH (fun _ h => h) ?_
      refine ⟨?_, rfl, rfl⟩
      unfold showF txtF
      by_cases a1 : 0 ≤ u <;> by_cases a2 : u < 4 <;> by_cases a3 : 0 ≤ g <;> by_cases a4 : g < 4 <;> first | (exfalso; omega) | simp [a1, a2, a3, a4]
    try simp only [decide_eq_true_eq, decide_eq_false_iff_not, Bool.not_eq_true', Bool.not_eq_false', Bool.or_eq_true, Bool.and_eq_true, Bool.or_eq_false_iff, Bool.and_eq_false_imp, Int.not_lt, Int.not_le] at hb3
    refine awp_skip ?_
    try simp only [push_cast]
    refine hK16 _ ?_
    refine awp_seq_k fun K19 hK19 => ?_
    refine awp_seq_k fun K20 hK20 => ?_
    refine awp_region_keep [1, 5, 27] ⟨false, [], [], []⟩ (fun h => nomatch h) ?_
    iterate 2 (refine dawp_p rfl (by (simp (disch := omega) only [push_cast, and_true, cond_true, cond_false, if_pos, if_neg, ↓reduceIte, Nat.reduceEqDiff, Nat.reduceAdd, Nat.reduceLeDiff, users_lit, groups_lit, users_len, groups_len, Bool.true_and]) <;> rfl) rfl rfl ?_)
    refine dawp_nil ?_
    simp (disch := omega) only [push_cast, and_true, cond_true, cond_false, if_pos, if_neg, ↓reduceIte, Nat.reduceEqDiff, Nat.reduceAdd, Nat.reduceLeDiff, users_lit, groups_lit, users_len, groups_len, Bool.true_and]
    refine hK20 _ ?_
    refine awp_cond (by (simp (disch := omega) only [push_cast, and_true, cond_true, cond_false, if_pos, if_neg, ↓reduceIte, Nat.reduceEqDiff, Nat.reduceAdd, Nat.reduceLeDiff, users_lit, groups_lit, users_len, groups_len, Bool.true_and]) <;> rfl) (fun hb4 => ?_) (fun hb4 => ?_)
    · skip
      try simp only [decide_eq_true_eq, decide_eq_false_iff_not, Bool.not_eq_true', Bool.not_eq_false', Bool.or_eq_true, Bool.and_eq_true, Bool.or_eq_false_iff, Bool.and_eq_false_imp, Int.not_lt, Int.not_le] at hb4
      refine awp_seq_k fun K21 hK21 => ?_
      refine awp_region_keep [1, 5, 7] ⟨false, [], [], []⟩ (fun h => nomatch h) ?_
      iterate 2 (refine dawp_p rfl (by (simp (disch := omega) only [push_cast, and_true, cond_true, cond_false, if_pos, if_neg, ↓reduceIte, Nat.reduceEqDiff, Nat.reduceAdd, Nat.reduceLeDiff, users_lit, groups_lit, users_len, groups_len, Bool.true_and]) <;> rfl) rfl rfl ?_)
      refine dawp_nil ?_
      simp (disch := omega) only [push_cast, and_true, cond_true, cond_false, if_pos, if_neg, ↓reduceIte, Nat.reduceEqDiff, Nat.reduceAdd, Nat.reduceLeDiff, users_lit, groups_lit, users_len, groups_len, Bool.true_and]
      refine hK21 _ ?_
      refine awp_seq_k fun K22 hK22 => ?_
      refine awp_region_keep [4] ⟨false, [], [], []⟩ (fun h => nomatch h) ?_
      iterate 5 (refine dawp_p rfl (by (simp (disch := omega) only [push_cast, and_true, cond_true, cond_false, if_pos, if_neg, ↓reduceIte, Nat.reduceEqDiff, Nat.reduceAdd, Nat.reduceLeDiff, users_lit, groups_lit, users_len, groups_len, Bool.true_and]) <;> rfl) rfl rfl ?_)
      refine dawp_h rfl (by (simp (disch := omega) only [push_cast, and_true, cond_true, cond_false, if_pos, if_neg, ↓reduceIte, Nat.reduceEqDiff, Nat.reduceAdd, Nat.reduceLeDiff, users_lit, groups_lit, users_len, groups_len, Bool.true_and]) <;> rfl) rfl rfl ?_
      iterate 2 (refine dawp_p rfl (by (simp (disch := omega) only [push_cast, and_true, cond_true, cond_false, if_pos, if_neg, ↓reduceIte, Nat.reduceEqDiff, Nat.reduceAdd, Nat.reduceLeDiff, users_lit, groups_lit, users_len, groups_len, Bool.true_and]) <;> rfl) rfl rfl ?_)
      refine dawp_nil ?_
      simp (disch := omega) only [push_cast, and_true, cond_true, cond_false, if_pos, if_neg, ↓reduceIte, Nat.reduceEqDiff, Nat.reduceAdd, Nat.reduceLeDiff, users_lit, groups_lit, users_len, groups_len, Bool.true_and]
      refine hK22 _ ?_
      refine awp_ret ?_
      try simp only [push_cast]
      refine fin_pure (by (simp (disch := omega) only [Tryd.results16, aresults, aresult, push_cast, and_true, cond_true, cond_false, if_pos, if_neg, ↓reduceIte, Nat.reduceEqDiff, Nat.reduceAdd, Nat.reduceLeDiff, users_lit, groups_lit, users_len, groups_len, Bool.true_and]) <;> rfl) (by simp only [atuple, AV.er, AV.erL, push_cast]; rfl) (by simp [AV.cl, AV.clL]) (by first | exact ⟨_, rfl⟩ | exact ⟨[], (List.append_nil _).symm⟩) hH (fun _ h => h) ?_
      refine ⟨?_, rfl, rfl⟩
      unfold showF txtF
      by_cases a1 : 0 ≤ u <;> by_cases a2 : u < 4 <;> by_cases a3 : 0 ≤ g <;> by_cases a4 : g < 4 <;> first | (exfalso; omega) | simp [a1, a2, a3, a4]
    try simp only [decide_eq_true_eq, decide_eq_false_iff_not, Bool.not_eq_true', Bool.not_eq_false', Bool.or_eq_true, Bool.and_eq_true, Bool.or_eq_false_iff, Bool.and_eq_false_imp, Int.not_lt, Int.not_le] at hb4
    refine awp_skip ?_
    try simp only [push_cast]
    refine hK19 _ ?_
    refine awp_seq_k fun K23 hK23 => ?_
    refine awp_region_keep [4] ⟨false, [], [], []⟩ (fun h => nomatch h) ?_
    iterate 3 (refine dawp_p rfl (by (simp (disch := omega) only [push_cast, and_true, cond_true, cond_false, if_pos, if_neg, ↓reduceIte, Nat.reduceEqDiff, Nat.reduceAdd, Nat.reduceLeDiff, users_lit, groups_lit, users_len, groups_len, Bool.true_and]) <;> rfl) rfl rfl ?_)
    refine dawp_w rfl rfl rfl rfl (AOp.callx _ _ _ rfl (by (simp (disch := omega) only [push_cast, and_true, cond_true, cond_false, if_pos, if_neg, ↓reduceIte, Nat.reduceEqDiff, Nat.reduceAdd, Nat.reduceLeDiff, users_lit, groups_lit, users_len, groups_len, Bool.true_and]) <;> rfl) (by (simp (disch := omega) only [push_cast, and_true, cond_true, cond_false, if_pos, if_neg, ↓reduceIte, Nat.reduceEqDiff, Nat.reduceAdd, Nat.reduceLeDiff, users_lit, groups_lit, users_len, groups_len, Bool.true_and]) <;> rfl) ?_)  
    refine (c17 g _ _ (by omega) (by omega)).mono ?_; rintro _ _ _ ⟨rfl, rfl, rfl⟩
    iterate 2 (refine dawp_p rfl (by (simp (disch := omega) only [push_cast, and_true, cond_true, cond_false, if_pos, if_neg, ↓reduceIte, Nat.reduceEqDiff, Nat.reduceAdd, Nat.reduceLeDiff, users_lit, groups_lit, users_len, groups_len, Bool.true_and]) <;> rfl) rfl rfl ?_)
    refine dawp_nil ?_
    simp (disch := omega) only [push_cast, and_true, cond_true, cond_false, if_pos, if_neg, ↓reduceIte, Nat.reduceEqDiff, Nat.reduceAdd, Nat.reduceLeDiff, users_lit, groups_lit, users_len, groups_len, Bool.true_and]
    refine hK23 _ ?_
    refine awp_ret ?_
    try simp only [push_cast]
    refine fin_pure (by (simp (disch := omega) only [Tryd.results16, aresults, aresult, push_cast, and_true, cond_true, cond_false, if_pos, if_neg, ↓reduceIte, Nat.reduceEqDiff, Nat.reduceAdd, Nat.reduceLeDiff, users_lit, groups_lit, users_len, groups_len, Bool.true_and]) <;> rfl) (by simp only [atuple, AV.er, AV.erL, push_cast]; rfl) (by simp [AV.cl, AV.clL]) (by first | exact ⟨_, rfl⟩ | exact ⟨[], (List.append_nil _).symm⟩) hH (fun _ h => h) ?_
    refine ⟨?_, rfl, rfl⟩
    unfold showF txtF
    by_cases a1 : 0 ≤ u <;> by_cases a2 : u < 4 <;> by_cases a3 : 0 ≤ g <;> by_cases a4 : g < 4 <;> first | (exfalso; omega) | simp [a1, a2, a3, a4]
  try simp only [decide_eq_true_eq, decide_eq_false_iff_not, Bool.not_eq_true', Bool.not_eq_false', Bool.or_eq_true, Bool.and_eq_true, Bool.or_eq_false_iff, Bool.and_eq_false_imp, Int.not_lt, Int.not_le] at hb1
  refine awp_skip ?_
  try simp only [push_cast]
  refine hK3 _ ?_
  refine awp_seq_k fun K24 hK24 => ?_
  refine awp_seq_k fun K25 hK25 => ?_
  refine awp_region_keep [0, 1, 5, 17] ⟨false, [], [], []⟩ (fun h => nomatch h) ?_
  iterate 3 (refine dawp_p rfl (by (simp (disch := omega) only [push_cast, and_true, cond_true, cond_false, if_pos, if_neg, ↓reduceIte, Nat.reduceEqDiff, Nat.reduceAdd, Nat.reduceLeDiff, users_lit, groups_lit, users_len, groups_len, Bool.true_and]) <;> rfl) rfl rfl ?_)
  iterate 2 (refine dawp_g rfl rfl (by simp only [push_cast, and_true, cond_true, cond_false, if_pos, if_neg, ↓reduceIte, Nat.reduceEqDiff, Nat.reduceAdd, Nat.reduceLeDiff, users_lit, groups_lit, users_len, groups_len, Bool.true_and]; rfl) (fun hg => by simp (disch := omega) only [hg, push_cast, and_true, cond_true, cond_false, if_pos, if_neg, ↓reduceIte, Nat.reduceEqDiff, Nat.reduceAdd, Nat.reduceLeDiff, users_lit, groups_lit, users_len, groups_len, Bool.true_and]; rfl) rfl rfl ?_)
  refine dawp_p rfl (by (simp (disch := omega) only [push_cast, and_true, cond_true, cond_false, if_pos, if_neg, ↓reduceIte, Nat.reduceEqDiff, Nat.reduceAdd, Nat.reduceLeDiff, users_lit, groups_lit, users_len, groups_len, Bool.true_and]) <;> rfl) rfl rfl ?_
  refine dawp_nil ?_
  simp (disch := omega) only [push_cast, and_true, cond_true, cond_false, if_pos, if_neg, ↓reduceIte, Nat.reduceEqDiff, Nat.reduceAdd, Nat.reduceLeDiff, users_lit, groups_lit, users_len, groups_len, Bool.true_and]
  refine hK25 _ ?_
  refine awp_cond (by (simp (disch := omega) only [push_cast, and_true, cond_true, cond_false, if_pos, if_neg, ↓reduceIte, Nat.reduceEqDiff, Nat.reduceAdd, Nat.reduceLeDiff, users_lit, groups_lit, users_len, groups_len, Bool.true_and]) <;> rfl) (fun hb2 => ?_) (fun hb2 => ?_)
  · skip
    try simp only [decide_eq_true_eq, decide_eq_false_iff_not, Bool.not_eq_true', Bool.not_eq_false', Bool.or_eq_true, Bool.and_eq_true, Bool.or_eq_false_iff, Bool.and_eq_false_imp, Int.not_lt, Int.not_le] at hb2
    refine awp_seq_k fun K26 hK26 => ?_
    refine awp_region_keep [0, 1, 6] ⟨false, [], [], []⟩ (fun h => nomatch h) ?_
    iterate 2 (refine dawp_p rfl (by (simp (disch := omega) only [push_cast, and_true, cond_true, cond_false, if_pos, if_neg, ↓reduceIte, Nat.reduceEqDiff, Nat.reduceAdd, Nat.reduceLeDiff, users_lit, groups_lit, users_len, groups_len, Bool.true_and]) <;> rfl) rfl rfl ?_)
    refine dawp_nil ?_
    simp (disch := omega) only [push_cast, and_true, cond_true, cond_false, if_pos, if_neg, ↓reduceIte, Nat.reduceEqDiff, Nat.reduceAdd, Nat.reduceLeDiff, users_lit, groups_lit, users_len, groups_len, Bool.true_and]
    refine hK26 _ ?_
    refine awp_region_keep [1, 5] ⟨false, [], [], []⟩ (fun h => nomatch h) ?_
    iterate 3 (refine dawp_p rfl (by (simp (disch := omega) only [push_cast, and_true, cond_true, cond_false, if_pos, if_neg, ↓reduceIte, Nat.reduceEqDiff, Nat.reduceAdd, Nat.reduceLeDiff, users_lit, groups_lit, users_len, groups_len, Bool.true_and]) <;> rfl) rfl rfl ?_)
    refine dawp_h rfl (by (simp (disch := omega) only [push_cast, and_true, cond_true, cond_false, if_pos, if_neg, ↓reduceIte, Nat.reduceEqDiff, Nat.reduceAdd, Nat.reduceLeDiff, users_lit, groups_lit, users_len, groups_len, Bool.true_and]) <;> rfl) rfl rfl ?_
    refine dawp_p rfl (by (simp (disch := omega) only [push_cast, and_true, cond_true, cond_false, if_pos, if_neg, ↓reduceIte, Nat.reduceEqDiff, Nat.reduceAdd, Nat.reduceLeDiff, users_lit, groups_lit, users_len, groups_len, Bool.true_and]) <;> rfl) rfl rfl ?_
    refine dawp_nil ?_
    simp (disch := omega) only [push_cast, and_true, cond_true, cond_false, if_pos, if_neg, ↓reduceIte, Nat.reduceEqDiff, Nat.reduceAdd, Nat.reduceLeDiff, users_lit, groups_lit, users_len, groups_len, Bool.true_and]
    refine hK24 _ ?_
    refine awp_seq_k fun K27 hK27 => ?_
    refine awp_seq_k fun K28 hK28 => ?_
    refine awp_region_keep [1, 5, 24] ⟨false, [], [], []⟩ (fun h => nomatch h) ?_
    iterate 2 (refine dawp_p rfl (by (simp (disch := omega) only [push_cast, and_true, cond_true, cond_false, if_pos, if_neg, ↓reduceIte, Nat.reduceEqDiff, Nat.reduceAdd, Nat.reduceLeDiff, users_lit, groups_lit, users_len, groups_len, Bool.true_and]) <;> rfl) rfl rfl ?_)
    refine dawp_nil ?_
    simp (disch := omega) only [push_cast, and_true, cond_true, cond_false, if_pos, if_neg, ↓reduceIte, Nat.reduceEqDiff, Nat.reduceAdd, Nat.reduceLeDiff, users_lit, groups_lit, users_len, groups_len, Bool.true_and]
    refine hK28 _ ?_
    refine awp_cond (by (simp (disch := omega) only [push_cast, and_true, cond_true, cond_false, if_pos, if_neg, ↓reduceIte, Nat.reduceEqDiff, Nat.reduceAdd, Nat.reduceLeDiff, users_lit, groups_lit, users_len, groups_len, Bool.true_and]) <;> rfl) (fun hb3 => ?_) (fun hb3 => ?_)
    · skip
      try simp only [decide_eq_true_eq, decide_eq_false_iff_not, Bool.not_eq_true', Bool.not_eq_false', Bool.or_eq_true, Bool.and_eq_true, Bool.or_eq_false_iff, Bool.and_eq_false_imp, Int.not_lt, Int.not_le] at hb3
      refine awp_seq_k fun K29 hK29 => ?_
      refine awp_region_keep [4] ⟨false, [], [], []⟩ (fun h => nomatch h) ?_
      iterate 2 (refine dawp_p rfl (by (simp (disch := omega) only [push_cast, and_true, cond_true, cond_false, if_pos, if_neg, ↓reduceIte, Nat.reduceEqDiff, Nat.reduceAdd, Nat.reduceLeDiff, users_lit, groups_lit, users_len, groups_len, Bool.true_and]) <;> rfl) rfl rfl ?_)
      refine dawp_nil ?_
      simp (disch := omega) only [push_cast, and_true, cond_true, cond_false, if_pos, if_neg, ↓reduceIte, Nat.reduceEqDiff, Nat.reduceAdd, Nat.reduceLeDiff, users_lit, groups_lit, users_len, groups_len, Bool.true_and]
      refine hK29 _ ?_
      refine awp_ret ?_
      try simp only [push_cast]
      refine fin_pure (by (simp (disch := omega) only [Tryd.results16, aresults, aresult, push_cast, and_true, cond_true, cond_false, if_pos, if_neg, ↓reduceIte, Nat.reduceEqDiff, Nat.reduceAdd, Nat.reduceLeDiff, users_lit, groups_lit, users_len, groups_len, Bool.true_and]) <;> rfl) (by simp only [atuple, AV.er, AV.erL, push_cast]; rfl) (by simp [AV.cl, AV.clL]) (by first | exact ⟨_, rfl⟩ | exact ⟨[], (List.append_nil _).symm⟩) hH (fun _ h => h) ?_
      refine ⟨?_, rfl, rfl⟩
      unfold showF txtF
      by_cases a1 : 0 ≤ u <;> by_cases a2 : u < 4 <;> by_cases a3 : 0 ≤ g <;> by_cases a4 : g < 4 <;> first | (exfalso; omega) | simp [a1, a2, a3, a4]
    try simp only [decide_eq_true_eq, decide_eq_false_iff_not, Bool.not_eq_true', Bool.not_eq_false', Bool.or_eq_true, Bool.and_eq_true, Bool.or_eq_false_iff, Bool.and_eq_false_imp, Int.not_lt, Int.not_le] at hb3
    refine awp_skip ?_
    try simp only [push_cast]
    refine hK27 _ ?_
    refine awp_seq_k fun K30 hK30 => ?_
    refine awp_seq_k fun K31 hK31 => ?_
    refine awp_region_keep [1, 5, 27] ⟨false, [], [], []⟩ (fun h => nomatch h) ?_
    iterate 2 (refine dawp_p rfl (by (simp (disch := omega) only [push_cast, and_true, cond_true, cond_false, if_pos, if_neg, ↓reduceIte, Nat.reduceEqDiff, Nat.reduceAdd, Nat.reduceLeDiff, users_lit, groups_lit, users_len, groups_len, Bool.true_and]) <;> rfl) rfl rfl ?_)
    refine dawp_nil ?_
    simp (disch := omega) only [push_cast, and_true, cond_true, cond_false, if_pos, if_neg, ↓reduceIte, Nat.reduceEqDiff, Nat.reduceAdd, Nat.reduceLeDiff, users_lit, groups_lit, users_len, groups_len, Bool.true_and]
    refine hK31 _ ?_
    refine awp_cond (by (simp (disch := omega) only [push_cast, and_true, cond_true, cond_false, if_pos, if_neg, ↓reduceIte, Nat.reduceEqDiff, Nat.reduceAdd, Nat.reduceLeDiff, users_lit, groups_lit, users_len, groups_len, Bool.true_and]) <;> rfl) (fun hb4 => ?_) (fun hb4 => ?_)
    · skip
      try simp only [decide_eq_true_eq, decide_eq_false_iff_not, Bool.not_eq_true', Bool.not_eq_false', Bool.or_eq_true, Bool.and_eq_true, Bool.or_eq_false_iff, Bool.and_eq_false_imp, Int.not_lt, Int.not_le] at hb4
      refine awp_seq_k fun K32 hK32 => ?_
      refine awp_region_keep [1, 5, 7] ⟨false, [], [], []⟩ (fun h => nomatch h) ?_
      iterate 2 (refine dawp_p rfl (by (simp (disch := omega) only [push_cast, and_true, cond_true, cond_false, if_pos, if_neg, ↓reduceIte, Nat.reduceEqDiff, Nat.reduceAdd, Nat.reduceLeDiff, users_lit, groups_lit, users_len, groups_len, Bool.true_and]) <;> rfl) rfl rfl ?_)
      refine dawp_nil ?_
      simp (disch := omega) only [push_cast, and_true, cond_true, cond_false, if_pos, if_neg, ↓reduceIte, Nat.reduceEqDiff, Nat.reduceAdd, Nat.reduceLeDiff, users_lit, groups_lit, users_len, groups_len, Bool.true_and]
      refine hK32 _ ?_
      refine awp_seq_k fun K33 hK33 => ?_
      refine awp_region_keep [4] ⟨false, [], [], []⟩ (fun h => nomatch h) ?_
      iterate 5 (refine dawp_p rfl (by (simp (disch := omega) only [push_cast, and_true, cond_true, cond_false, if_pos, if_neg, ↓reduceIte, Nat.reduceEqDiff, Nat.reduceAdd, Nat.reduceLeDiff, users_lit, groups_lit, users_len, groups_len, Bool.true_and]) <;> rfl) rfl rfl ?_)
      refine dawp_h rfl (by (simp (disch := omega) only [push_cast, and_true, cond_true, cond_false, if_pos, if_neg, ↓reduceIte, Nat.reduceEqDiff, Nat.reduceAdd, Nat.reduceLeDiff, users_lit, groups_lit, users_len, groups_len, Bool.true_and]) <;> rfl) rfl rfl ?_
      iterate 2 (refine dawp_p rfl (by (simp (disch := omega) only [push_cast, and_true, cond_true, cond_false, if_pos, if_neg, ↓reduceIte, Nat.reduceEqDiff, Nat.reduceAdd, Nat.reduceLeDiff, users_lit, groups_lit, users_len, groups_len, Bool.true_and]) <;> rfl) rfl rfl ?_)
      refine dawp_nil ?_
      simp (disch := omega) only [push_cast, and_true, cond_true, cond_false, if_pos, if_neg, ↓reduceIte, Nat.reduceEqDiff, Nat.reduceAdd, Nat.reduceLeDiff, users_lit, groups_lit, users_len, groups_len, Bool.true_and]
      refine hK33 _ ?_
      refine awp_ret ?_
      try simp only [push_cast]
      refine fin_pure (by (simp (disch := omega) only [Tryd.results16, aresults, aresult, push_cast, and_true, cond_true, cond_false, if_pos, if_neg, ↓reduceIte, Nat.reduceEqDiff, Nat.reduceAdd, Nat.reduceLeDiff, users_lit, groups_lit, users_len, groups_len, Bool.true_and]) <;> rfl) (by simp only [atuple, AV.er, AV.erL, push_cast]; rfl) (by simp [AV.cl, AV.clL]) (by first | exact ⟨_, rfl⟩ | exact ⟨[], (List.append_nil _).symm⟩) hH (fun _ h => h) ?_
      refine ⟨?_, rfl, rfl⟩
      unfold showF txtF
      by_cases a1 : 0 ≤ u <;> by_cases a2 : u < 4 <;> by_cases a3 : 0 ≤ g <;> by_cases a4 : g < 4 <;> first | (exfalso; omega) | simp [a1, a2, a3, a4]
    try simp only [decide_eq_true_eq, decide_eq_false_iff_not, Bool.not_eq_true', Bool.not_eq_false', Bool.or_eq_true, Bool.and_eq_true, Bool.or_eq_false_iff, Bool.and_eq_false_imp, Int.not_lt, Int.not_le] at hb4
    refine awp_skip ?_
    try simp only [push_cast]
    refine hK30 _ ?_
    refine awp_seq_k fun K34 hK34 => ?_
    refine awp_region_keep [4] ⟨false, [], [], []⟩ (fun h => nomatch h) ?_
    iterate 3 (refine dawp_p rfl (by (simp (disch := omega) only [push_cast, and_true, cond_true, cond_false, if_pos, if_neg, ↓reduceIte, Nat.reduceEqDiff, Nat.reduceAdd, Nat.reduceLeDiff, users_lit, groups_lit, users_len, groups_len, Bool.true_and]) <;> rfl) rfl rfl ?_)
    refine dawp_w rfl rfl rfl rfl (AOp.callx _ _ _ rfl (by (simp (disch := omega) only [push_cast, and_true, cond_true, cond_false, if_pos, if_neg, ↓reduceIte, Nat.reduceEqDiff, Nat.reduceAdd, Nat.reduceLeDiff, users_lit, groups_lit, users_len, groups_len, Bool.true_and]) <;> rfl) (by (simp (disch := omega) only [push_cast, and_true, cond_true, cond_false, if_pos, if_neg, ↓reduceIte, Nat.reduceEqDiff, Nat.reduceAdd, Nat.reduceLeDiff, users_lit, groups_lit, users_len, groups_len, Bool.true_and]) <;> rfl) ?_)  
    refine (c17 g _ _ (by omega) (by omega)).mono ?_; rintro _ _ _ ⟨rfl, rfl, rfl⟩
    iterate 2 (refine dawp_p rfl (by (simp (disch := omega) only [push_cast, and_true, cond_true, cond_false, if_pos, if_neg, ↓reduceIte, Nat.reduceEqDiff, Nat.reduceAdd, Nat.reduceLeDiff, users_lit, groups_lit, users_len, groups_len, Bool.true_and]) <;> rfl) rfl rfl ?_)
    refine dawp_nil ?_
    simp (disch := omega) only [push_cast, and_true, cond_true, cond_false, if_pos, if_neg, ↓reduceIte, Nat.reduceEqDiff, Nat.reduceAdd, Nat.reduceLeDiff, users_lit, groups_lit, users_len, groups_len, Bool.true_and]
    refine hK34 _ ?_
    refine awp_ret ?_
    try simp only [push_cast]
    refine fin_pure (by (simp (disch := omega) only [Tryd.results16, aresults, aresult, push_cast, and_true, cond_true, cond_false, if_pos, if_neg, ↓reduceIte, Nat.reduceEqDiff, Nat.reduceAdd, Nat.reduceLeDiff, users_lit, groups_lit, users_len, groups_len, Bool.true_and]) <;> rfl) (by simp only [atuple, AV.er, AV.erL, push_cast]; rfl) (by simp [AV.cl, AV.clL]) (by first | exact ⟨_, rfl⟩ | exact ⟨[], (List.append_nil _).symm⟩) hH (fun _ h => h) ?_
    refine ⟨?_, rfl, rfl⟩
    unfold showF txtF
    by_cases a1 : 0 ≤ u <;> by_cases a2 : u < 4 <;> by_cases a3 : 0 ≤ g <;> by_cases a4 : g < 4 <;> first | (exfalso; omega) | simp [a1, a2, a3, a4]
  try simp only [decide_eq_true_eq, decide_eq_false_iff_not, Bool.not_eq_true', Bool.not_eq_false', Bool.or_eq_true, Bool.and_eq_true, Bool.or_eq_false_iff, Bool.and_eq_false_imp, Int.not_lt, Int.not_le] at hb2
  refine awp_skip ?_
  try simp only [push_cast]
  refine hK24 _ ?_
  refine awp_seq_k fun K35 hK35 => ?_
  refine awp_seq_k fun K36 hK36 => ?_
  refine awp_region_keep [1, 5, 24] ⟨false, [], [], []⟩ (fun h => nomatch h) ?_
  iterate 2 (refine dawp_p rfl (by (simp (disch := omega) only [push_cast, and_true, cond_true, cond_false, if_pos, if_neg, ↓reduceIte, Nat.reduceEqDiff, Nat.reduceAdd, Nat.reduceLeDiff, users_lit, groups_lit, users_len, groups_len, Bool.true_and]) <;> rfl) rfl rfl ?_)
  refine dawp_nil ?_
  simp (disch := omega) only [push_cast, and_true, cond_true, cond_false, if_pos, if_neg, ↓reduceIte, Nat.reduceEqDiff, Nat.reduceAdd, Nat.reduceLeDiff, users_lit, groups_lit, users_len, groups_len, Bool.true_and]
  refine hK36 _ ?_
  refine awp_cond (by (simp (disch := omega) only [push_cast, and_true, cond_true, cond_false, if_pos, if_neg, ↓reduceIte, Nat.reduceEqDiff, Nat.reduceAdd, Nat.reduceLeDiff, users_lit, groups_lit, users_len, groups_len, Bool.true_and]) <;> rfl) (fun hb3 => ?_) (fun hb3 => ?_)
  · skip
    try simp only [decide_eq_true_eq, decide_eq_false_iff_not, Bool.not_eq_true', Bool.not_eq_false', Bool.or_eq_true, Bool.and_eq_true, Bool.or_eq_false_iff, Bool.and_eq_false_imp, Int.not_lt, Int.not_le] at hb3
    refine awp_seq_k fun K37 hK37 => ?_
    refine awp_region_keep [4] ⟨false, [], [], []⟩ (fun h => nomatch h) ?_
    iterate 2 (refine dawp_p rfl (by (simp (disch := omega) only [push_cast, and_true, cond_true, cond_false, if_pos, if_neg, ↓reduceIte, Nat.reduceEqDiff, Nat.reduceAdd, Nat.reduceLeDiff, users_lit, groups_lit, users_len, groups_len, Bool.true_and]) <;> rfl) rfl rfl ?_)
    refine dawp_nil ?_
    simp (disch := omega) only [push_cast, and_true, cond_true, cond_false, if_pos, if_neg, ↓reduceIte, Nat.reduceEqDiff, Nat.reduceAdd, Nat.reduceLeDiff, users_lit, groups_lit, users_len, groups_len, Bool.true_and]
    refine hK37 _ ?_
    refine awp_ret ?_
    try simp only [push_cast]
    refine fin_pure (by (simp (disch := omega) only [Tryd.results16, aresults, aresult, push_cast, and_true, cond_true, cond_false, if_pos, if_neg, ↓reduceIte, Nat.reduceEqDiff, Nat.reduceAdd, Nat.reduceLeDiff, users_lit, groups_lit, users_len, groups_len, Bool.true_and]) <;> rfl) (by simp only [atuple, AV.er, AV.erL, push_cast]; rfl) (by simp [AV.cl, AV.clL]) (by first | exact ⟨_, rfl⟩ | exact ⟨[], (List.append_nil _).symm⟩) hH (fun _ h => h) ?_
    refine ⟨?_, rfl, rfl⟩
    unfold showF txtF
    by_cases a1 : 0 ≤ u <;> by_cases a2 : u < 4 <;> by_cases a3 : 0 ≤ g <;> by_cases a4 : g < 4 <;> first | (exfalso; omega) | simp [a1, a2, a3, a4]
  try simp only [decide_eq_true_eq, decide_eq_false_iff_not, Bool.not_eq_true', Bool.not_eq_false', Bool.or_eq_true, Bool.and_eq_true, Bool.or_eq_false_iff, Bool.and_eq_false_imp, Int.not_lt, Int.not_le] at hb3
  refine awp_skip ?_
  try simp only [push_cast]
  refine hK35 _ ?_
  refine awp_seq_k fun K38 hK38 => ?_
  refine awp_seq_k fun K39 hK39 => ?_
  refine awp_region_keep [1, 5, 27] ⟨false, [], [], []⟩ (fun h => nomatch h) ?_
  iterate 2 (refine dawp_p rfl (by (simp (disch := omega) only [push_cast, and_true, cond_true, cond_false, if_pos, if_neg, ↓reduceIte, Nat.reduceEqDiff, Nat.reduceAdd, Nat.reduceLeDiff, users_lit, groups_lit, users_len, groups_len, Bool.true_and]) <;> rfl) rfl rfl ?_)
  refine dawp_nil ?_
  simp (disch := omega) only [push_cast, and_true, cond_true, cond_false, if_pos, if_neg, ↓reduceIte, Nat.reduceEqDiff, Nat.reduceAdd, Nat.reduceLeDiff, users_lit, groups_lit, users_len, groups_len, Bool.true_and]
  refine hK39 _ ?_
  refine awp_cond (by (simp (disch := omega) only [push_cast, and_true, cond_true, cond_false, if_pos, if_neg, ↓reduceIte, Nat.reduceEqDiff, Nat.reduceAdd, Nat.reduceLeDiff, users_lit, groups_lit, users_len, groups_len, Bool.true_and]) <;> rfl) (fun hb4 => ?_) (fun hb4 => ?_)
  · skip
    try simp only [decide_eq_true_eq, decide_eq_false_iff_not, Bool.not_eq_true', Bool.not_eq_false', Bool.or_eq_true, Bool.and_eq_true, Bool.or_eq_false_iff, Bool.and_eq_false_imp, Int.not_lt, Int.not_le] at hb4
    refine awp_seq_k fun K40 hK40 => ?_
    refine awp_region_keep [1, 5, 7] ⟨false, [], [], []⟩ (fun h => nomatch h) ?_
    iterate 2 (refine dawp_p rfl (by (simp (disch := omega) only [push_cast, and_true, cond_true, cond_false, if_pos, if_neg, ↓reduceIte, Nat.reduceEqDiff, Nat.reduceAdd, Nat.reduceLeDiff, users_lit, groups_lit, users_len, groups_len, Bool.true_and]) <;> rfl) rfl rfl ?_)
    refine dawp_nil ?_
    simp (disch := omega) only [push_cast, and_true, cond_true, cond_false, if_pos, if_neg, ↓reduceIte, Nat.reduceEqDiff, Nat.reduceAdd, Nat.reduceLeDiff, users_lit, groups_lit, users_len, groups_len, Bool.true_and]
    refine hK40 _ ?_
    refine awp_seq_k fun K41 hK41 => ?_
    refine awp_region_keep [4] ⟨false, [], [], []⟩ (fun h => nomatch h) ?_
    iterate 5 (refine dawp_p rfl (by (simp (disch := omega) only [push_cast, and_true, cond_true, cond_false, if_pos, if_neg, ↓reduceIte, Nat.reduceEqDiff, Nat.reduceAdd, Nat.reduceLeDiff, users_lit, groups_lit, users_len, groups_len, Bool.true_and]) <;> rfl) rfl rfl ?_)
    refine dawp_h rfl (by (simp (disch := omega) only [push_cast, and_true, cond_true, cond_false, if_pos, if_neg, ↓reduceIte, Nat.reduceEqDiff, Nat.reduceAdd, Nat.reduceLeDiff, users_lit, groups_lit, users_len, groups_len, Bool.true_and]) <;> rfl) rfl rfl ?_
    iterate 2 (refine dawp_p rfl (by (simp (disch := omega) only [push_cast, and_true, cond_true, cond_false, if_pos, if_neg, ↓reduceIte, Nat.reduceEqDiff, Nat.reduceAdd, Nat.reduceLeDiff, users_lit, groups_lit, users_len, groups_len, Bool.true_and]) <;> rfl) rfl rfl ?_)
    refine dawp_nil ?_
    simp (disch := omega) only [push_cast, and_true, cond_true, cond_false, if_pos, if_neg, ↓reduceIte, Nat.reduceEqDiff, Nat.reduceAdd, Nat.reduceLeDiff, users_lit, groups_lit, users_len, groups_len, Bool.true_and]
    refine hK41 _ ?_
    refine awp_ret ?_
    try simp only [push_cast]
    refine fin_pure (by (simp (disch := omega) only [Tryd.results16, aresults, aresult, push_cast, and_true, cond_true, cond_false, if_pos, if_neg, ↓reduceIte, Nat.reduceEqDiff, Nat.reduceAdd, Nat.reduceLeDiff, users_lit, groups_lit, users_len, groups_len, Bool.true_and]) <;> rfl) (by simp only [atuple, AV.er, AV.erL, push_cast]; rfl) (by simp [AV.cl, AV.clL]) (by first | exact ⟨_, rfl⟩ | exact ⟨[], (List.append_nil _).symm⟩) hH (fun _ h => h) ?_
    refine ⟨?_, rfl, rfl⟩
    unfold showF txtF
    by_cases a1 : 0 ≤ u <;> by_cases a2 : u < 4 <;> by_cases a3 : 0 ≤ g <;> by_cases a4 : g < 4 <;> first | (exfalso; omega) | simp [a1, a2, a3, a4]
  try simp only [decide_eq_true_eq, decide_eq_false_iff_not, Bool.not_eq_true', Bool.not_eq_false', Bool.or_eq_true, Bool.and_eq_true, Bool.or_eq_false_iff, Bool.and_eq_false_imp, Int.not_lt, Int.not_le] at hb4
  refine awp_skip ?_
  try simp only [push_cast]
  refine hK38 _ ?_
  refine awp_seq_k fun K42 hK42 => ?_
  refine awp_region_keep [4] ⟨false, [], [], []⟩ (fun h => nomatch h) ?_
  iterate 3 (refine dawp_p rfl (by (simp (disch := omega) only [push_cast, and_true, cond_true, cond_false, if_pos, if_neg, ↓reduceIte, Nat.reduceEqDiff, Nat.reduceAdd, Nat.reduceLeDiff, users_lit, groups_lit, users_len, groups_len, Bool.true_and]) <;> rfl) rfl rfl ?_)
  refine dawp_w rfl rfl rfl rfl (AOp.callx _ _ _ rfl (by (simp (disch := omega) only [push_cast, and_true, cond_true, cond_false, if_pos, if_neg, ↓reduceIte, Nat.reduceEqDiff, Nat.reduceAdd, Nat.reduceLeDiff, users_lit, groups_lit, users_len, groups_len, Bool.true_and]) <;> rfl) (by (simp (disch := omega) only [push_cast, and_true, cond_true, cond_false, if_pos, if_neg, ↓reduceIte, Nat.reduceEqDiff, Nat.reduceAdd, Nat.reduceLeDiff, users_lit, groups_lit, users_len, groups_len, Bool.true_and]) <;> rfl) ?_)  
  refine (c17 g _ _ (by omega) (by omega)).mono ?_; rintro _ _ _ ⟨rfl, rfl, rfl⟩
  iterate 2 (refine dawp_p rfl (by (simp (disch := omega) only [push_cast, and_true, cond_true, cond_false, if_pos, if_neg, ↓reduceIte, Nat.reduceEqDiff, Nat.reduceAdd, Nat.reduceLeDiff, users_lit, groups_lit, users_len, groups_len, Bool.true_and]) <;> rfl) rfl rfl ?_)
  refine dawp_nil ?_
  simp (disch := omega) only [push_cast, and_true, cond_true, cond_false, if_pos, if_neg, ↓reduceIte, Nat.reduceEqDiff, Nat.reduceAdd, Nat.reduceLeDiff, users_lit, groups_lit, users_len, groups_len, Bool.true_and]
  refine hK42 _ ?_
  refine awp_ret ?_
  try simp only [push_cast]
  refine fin_pure (by (simp (disch := omega) only [Tryd.results16, aresults, aresult, push_cast, and_true, cond_true, cond_false, if_pos, if_neg, ↓reduceIte, Nat.reduceEqDiff, Nat.reduceAdd, Nat.reduceLeDiff, users_lit, groups_lit, users_len, groups_len, Bool.true_and]) <;> rfl) (by simp only [atuple, AV.er, AV.erL, push_cast]; rfl) (by simp [AV.cl, AV.clL]) (by first | exact ⟨_, rfl⟩ | exact ⟨[], (List.append_nil _).symm⟩) hH (fun _ h => h) ?_
  refine ⟨?_, rfl, rfl⟩
  unfold showF txtF
  by_cases a1 : 0 ≤ u <;> by_cases a2 : u < 4 <;> by_cases a3 : 0 ≤ g <;> by_cases a4 : g < 4 <;> first | (exfalso; omega) | simp [a1, a2, a3, a4]

end Go.Proofs.YtlkpgpdhohnncaaDoor
