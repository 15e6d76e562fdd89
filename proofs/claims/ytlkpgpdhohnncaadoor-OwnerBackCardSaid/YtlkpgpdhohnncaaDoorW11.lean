import Derived.Test.YtlkpgpdhohnncaaDoorW10
/-
  OWNER: OwnerBack, OwnerJoins, OwnerDigits.
-/
namespace Go.Proofs.YtlkpgpdhohnncaaDoor
open Go.Ab
set_option linter.unusedVariables false
set_option linter.unusedSimpArgs false


theorem showF_len {u g : Int} (hu0 : -9223372036854775808 ≤ u) (hu1 : u ≤ 9223372036854775807) (hg0 : -9223372036854775808 ≤ g) (hg1 : g ≤ 9223372036854775807) : (showF u g).length ≤ 50 := by
  have h1 := txtU_len hu0 hu1
  have h2 := txtG_len hg0 hg1
  unfold showF
  cases decide (0 ≤ u) <;> cases decide (0 ≤ g) <;> simp <;> omega
def k9 (a : Nat) : Nat := a % 9000 + 4
theorem k9_bd (a : Nat) : 4 ≤ k9 a ∧ k9 a ≤ 9999 := by unfold k9; omega
def m9 (a : Nat) : Nat := a % 9000
theorem m9_bd (a : Nat) : m9 a ≤ 8999 := by unfold m9; omega
theorem tmod9000 (m : Nat) : ((m : Nat) : Int).tmod 9000 = ((m9 m : Nat) : Int) := by
  rw [Int.tmod_eq_emod_of_nonneg (by omega)]; rfl
theorem m9_k9 (a : Nat) : ((m9 a : Nat) : Int) + 4 = ((k9 a : Nat) : Int) := by unfold m9 k9; omega
theorem show_none : showF (-1) (-1) = [] := rfl
def k7 (a : Nat) : Nat := a % 70000
theorem k7_bd (a : Nat) : k7 a < 70000 := Nat.mod_lt _ (by omega)
theorem tmod70000 (m : Nat) : ((m : Nat) : Int).tmod 70000 = ((k7 m : Nat) : Int) := by
  rw [Int.tmod_eq_emod_of_nonneg (by omega)]; rfl
theorem tmod5 (m : Nat) : ((m : Nat) : Int).tmod 5 = (m : Int) % 5 := Int.tmod_eq_emod_of_nonneg (by omega)
theorem app58 (a b : List UInt8) : a ++ [58] ++ b = a ++ 58 :: b := by simp
theorem bothB_nat (o p : Option Nat) : bothB (natO o) (natO p) = (o.isSome && p.isSome) := by cases o <;> cases p <;> rfl
theorem bothB_one (o : Option Nat) : bothB (natO o) (some (-1)) = o.isSome := by cases o <;> rfl
theorem bothB_ss (a b : Int) : bothB (some a) (some b) = true := rfl

set_option maxHeartbeats 1000000 in
theorem c5 (a b : Nat) (u g : Bool) (h : List Blk) (live : List Nat) (htb : globOf h 1 = some pow10T) (ha : a ≤ 65535) (hb : b ≤ 65535) : ACalls Tryd.prog 5 [.int .u16 (a : Nat), .int .u16 (b : Nat), .bool u, .bool g] h live (ret (.bool true) h live) := by
  refine acalls_of_awp Tryd.func5 rfl rfl (Nat.le_of_ble_eq_true rfl) fun hH hX => ?_
  simp only [fargs]
  obtain ⟨hk1, hk2⟩ := k9_bd a
  have hm9 := m9_bd a
  have hz := back_zero hk1 hk2
  have hsl := showF_len (u := (k9 a : Nat)) (g := -1) (by omega) (by omega) (by omega) (by omega)
  have hs1 := showF_len (u := (a : Nat)) (g := (b : Nat)) (by omega) (by omega) (by omega) (by omega)
  have hs2 := showF_len (u := (a : Nat)) (g := -1) (by omega) (by omega) (by omega) (by omega)
  have hs3 := showF_len (u := -1) (g := (b : Nat)) (by omega) (by omega) (by omega) (by omega)
  refine awp_seq_k fun K1 hK1 => ?_
  refine awp_region_keep [0, 1, 2, 3] ⟨false, [], [], []⟩ (fun h => nomatch h) ?_
  refine dawp_p rfl (by (simp (disch := omega) only [push_cast, and_true, cond_true, cond_false, if_pos, if_neg, ↓reduceIte, Nat.reduceEqDiff, Nat.reduceAdd, Nat.reduceLeDiff, tmod9000, m9_k9, show_none, hz, (back_both ha hb).1, (back_both ha hb).2, (back_user ha).1, (back_user ha).2, (back_group hb).1, (back_group hb).2, bothB_ss, err_d, Option.getD_some, Bool.true_and]) <;> rfl) rfl rfl ?_
  refine dawp_nil ?_
  simp (disch := omega) only [push_cast, and_true, cond_true, cond_false, if_pos, if_neg, ↓reduceIte, Nat.reduceEqDiff, Nat.reduceAdd, Nat.reduceLeDiff, tmod9000, m9_k9, show_none, hz, (back_both ha hb).1, (back_both ha hb).2, (back_user ha).1, (back_user ha).2, (back_group hb).1, (back_group hb).2, bothB_ss, err_d, Option.getD_some, Bool.true_and]
  refine hK1 _ ?_
  refine awp_seq_k fun K2 hK2 => ?_
  refine awp_region_keep [0, 1, 2, 3, 9] ⟨false, [], [], []⟩ (fun h => nomatch h) ?_
  refine dawp_w rfl rfl rfl rfl (AOp.callx _ _ _ rfl (by (simp (disch := omega) only [push_cast, and_true, cond_true, cond_false, if_pos, if_neg, ↓reduceIte, Nat.reduceEqDiff, Nat.reduceAdd, Nat.reduceLeDiff, tmod9000, m9_k9, show_none, hz, (back_both ha hb).1, (back_both ha hb).2, (back_user ha).1, (back_user ha).2, (back_group hb).1, (back_group hb).2, bothB_ss, err_d, Option.getD_some, Bool.true_and]) <;> rfl) (by (simp (disch := omega) only [push_cast, and_true, cond_true, cond_false, if_pos, if_neg, ↓reduceIte, Nat.reduceEqDiff, Nat.reduceAdd, Nat.reduceLeDiff, tmod9000, m9_k9, show_none, hz, (back_both ha hb).1, (back_both ha hb).2, (back_user ha).1, (back_user ha).2, (back_group hb).1, (back_group hb).2, bothB_ss, err_d, Option.getD_some, Bool.true_and]) <;> rfl) ?_)  
  refine (c8 _ _ htb).mono ?_; rintro _ _ _ ⟨rfl, rfl, rfl⟩
  refine dawp_p rfl (by (simp (disch := omega) only [push_cast, and_true, cond_true, cond_false, if_pos, if_neg, ↓reduceIte, Nat.reduceEqDiff, Nat.reduceAdd, Nat.reduceLeDiff, tmod9000, m9_k9, show_none, hz, (back_both ha hb).1, (back_both ha hb).2, (back_user ha).1, (back_user ha).2, (back_group hb).1, (back_group hb).2, bothB_ss, err_d, Option.getD_some, Bool.true_and]) <;> rfl) rfl rfl ?_
  refine dawp_nil ?_
  simp (disch := omega) only [push_cast, and_true, cond_true, cond_false, if_pos, if_neg, ↓reduceIte, Nat.reduceEqDiff, Nat.reduceAdd, Nat.reduceLeDiff, tmod9000, m9_k9, show_none, hz, (back_both ha hb).1, (back_both ha hb).2, (back_user ha).1, (back_user ha).2, (back_group hb).1, (back_group hb).2, bothB_ss, err_d, Option.getD_some, Bool.true_and]
  refine hK2 _ ?_
  refine awp_seq_k fun K3 hK3 => ?_
  refine awp_seq_k fun K4 hK4 => ?_
  refine awp_region_keep [0, 1, 2, 3, 19] ⟨false, [], [], []⟩ (fun h => nomatch h) ?_
  iterate 2 (refine dawp_p rfl (by (simp (disch := omega) only [push_cast, and_true, cond_true, cond_false, if_pos, if_neg, ↓reduceIte, Nat.reduceEqDiff, Nat.reduceAdd, Nat.reduceLeDiff, tmod9000, m9_k9, show_none, hz, (back_both ha hb).1, (back_both ha hb).2, (back_user ha).1, (back_user ha).2, (back_group hb).1, (back_group hb).2, bothB_ss, err_d, Option.getD_some, Bool.true_and]) <;> rfl) rfl rfl ?_)
  refine dawp_nil ?_
  simp (disch := omega) only [push_cast, and_true, cond_true, cond_false, if_pos, if_neg, ↓reduceIte, Nat.reduceEqDiff, Nat.reduceAdd, Nat.reduceLeDiff, tmod9000, m9_k9, show_none, hz, (back_both ha hb).1, (back_both ha hb).2, (back_user ha).1, (back_user ha).2, (back_group hb).1, (back_group hb).2, bothB_ss, err_d, Option.getD_some, Bool.true_and]
  refine hK4 _ ?_
  refine awp_cond (by (simp (disch := omega) only [push_cast, and_true, cond_true, cond_false, if_pos, if_neg, ↓reduceIte, Nat.reduceEqDiff, Nat.reduceAdd, Nat.reduceLeDiff, tmod9000, m9_k9, show_none, hz, (back_both ha hb).1, (back_both ha hb).2, (back_user ha).1, (back_user ha).2, (back_group hb).1, (back_group hb).2, bothB_ss, err_d, Option.getD_some, Bool.true_and]) <;> rfl) (fun hb1 => ?_) (fun hb1 => ?_)
  · skip
    exfalso; simp at hb1
  refine awp_skip ?_
  try simp only [push_cast]
  refine hK3 _ ?_
  refine awp_seq_k fun K5 hK5 => ?_
  refine awp_region_keep [0, 1, 2, 3, 10] ⟨false, [], [], []⟩ (fun h => nomatch h) ?_
  iterate 3 (refine dawp_p rfl (by (simp (disch := omega) only [push_cast, and_true, cond_true, cond_false, if_pos, if_neg, ↓reduceIte, Nat.reduceEqDiff, Nat.reduceAdd, Nat.reduceLeDiff, tmod9000, m9_k9, show_none, hz, (back_both ha hb).1, (back_both ha hb).2, (back_user ha).1, (back_user ha).2, (back_group hb).1, (back_group hb).2, bothB_ss, err_d, Option.getD_some, Bool.true_and]) <;> rfl) rfl rfl ?_)
  refine dawp_nil ?_
  simp (disch := omega) only [push_cast, and_true, cond_true, cond_false, if_pos, if_neg, ↓reduceIte, Nat.reduceEqDiff, Nat.reduceAdd, Nat.reduceLeDiff, tmod9000, m9_k9, show_none, hz, (back_both ha hb).1, (back_both ha hb).2, (back_user ha).1, (back_user ha).2, (back_group hb).1, (back_group hb).2, bothB_ss, err_d, Option.getD_some, Bool.true_and]
  refine hK5 _ ?_
  refine awp_seq_k fun K6 hK6 => ?_
  refine awp_region_keep [0, 2, 3, 10, 11] ⟨false, [], [], []⟩ (fun h => nomatch h) ?_
  iterate 3 (refine dawp_p rfl (by (simp (disch := omega) only [push_cast, and_true, cond_true, cond_false, if_pos, if_neg, ↓reduceIte, Nat.reduceEqDiff, Nat.reduceAdd, Nat.reduceLeDiff, tmod9000, m9_k9, show_none, hz, (back_both ha hb).1, (back_both ha hb).2, (back_user ha).1, (back_user ha).2, (back_group hb).1, (back_group hb).2, bothB_ss, err_d, Option.getD_some, Bool.true_and]) <;> rfl) rfl rfl ?_)
  refine dawp_nil ?_
  simp (disch := omega) only [push_cast, and_true, cond_true, cond_false, if_pos, if_neg, ↓reduceIte, Nat.reduceEqDiff, Nat.reduceAdd, Nat.reduceLeDiff, tmod9000, m9_k9, show_none, hz, (back_both ha hb).1, (back_both ha hb).2, (back_user ha).1, (back_user ha).2, (back_group hb).1, (back_group hb).2, bothB_ss, err_d, Option.getD_some, Bool.true_and]
  refine hK6 _ ?_
  refine awp_seq_k fun K7 hK7 => ?_
  refine awp_seq_k fun K8 hK8 => ?_
  refine awp_region_keep [0, 2, 3, 10, 11, 25] ⟨false, [], [], []⟩ (fun h => nomatch h) ?_
  iterate 2 (refine dawp_p rfl (by (simp (disch := omega) only [push_cast, and_true, cond_true, cond_false, if_pos, if_neg, ↓reduceIte, Nat.reduceEqDiff, Nat.reduceAdd, Nat.reduceLeDiff, tmod9000, m9_k9, show_none, hz, (back_both ha hb).1, (back_both ha hb).2, (back_user ha).1, (back_user ha).2, (back_group hb).1, (back_group hb).2, bothB_ss, err_d, Option.getD_some, Bool.true_and]) <;> rfl) rfl rfl ?_)
  refine dawp_nil ?_
  simp (disch := omega) only [push_cast, and_true, cond_true, cond_false, if_pos, if_neg, ↓reduceIte, Nat.reduceEqDiff, Nat.reduceAdd, Nat.reduceLeDiff, tmod9000, m9_k9, show_none, hz, (back_both ha hb).1, (back_both ha hb).2, (back_user ha).1, (back_user ha).2, (back_group hb).1, (back_group hb).2, bothB_ss, err_d, Option.getD_some, Bool.true_and]
  refine hK8 _ ?_
  refine awp_cond (by (simp (disch := omega) only [push_cast, and_true, cond_true, cond_false, if_pos, if_neg, ↓reduceIte, Nat.reduceEqDiff, Nat.reduceAdd, Nat.reduceLeDiff, tmod9000, m9_k9, show_none, hz, (back_both ha hb).1, (back_both ha hb).2, (back_user ha).1, (back_user ha).2, (back_group hb).1, (back_group hb).2, bothB_ss, err_d, Option.getD_some, Bool.true_and]) <;> rfl) (fun hb2 => ?_) (fun hb2 => ?_)
  · skip
    simp only [Bool.not_eq_true'] at hb2
    subst hb2
    refine awp_region_keep [0, 2, 3, 10, 11] ⟨false, [], [], []⟩ (fun h => nomatch h) ?_
    refine dawp_p rfl (by (simp (disch := omega) only [push_cast, and_true, cond_true, cond_false, if_pos, if_neg, ↓reduceIte, Nat.reduceEqDiff, Nat.reduceAdd, Nat.reduceLeDiff, tmod9000, m9_k9, show_none, hz, (back_both ha hb).1, (back_both ha hb).2, (back_user ha).1, (back_user ha).2, (back_group hb).1, (back_group hb).2, bothB_ss, err_d, Option.getD_some, Bool.true_and]) <;> rfl) rfl rfl ?_
    refine dawp_nil ?_
    simp (disch := omega) only [push_cast, and_true, cond_true, cond_false, if_pos, if_neg, ↓reduceIte, Nat.reduceEqDiff, Nat.reduceAdd, Nat.reduceLeDiff, tmod9000, m9_k9, show_none, hz, (back_both ha hb).1, (back_both ha hb).2, (back_user ha).1, (back_user ha).2, (back_group hb).1, (back_group hb).2, bothB_ss, err_d, Option.getD_some, Bool.true_and]
    refine hK7 _ ?_
    refine awp_seq_k fun K9 hK9 => ?_
    refine awp_seq_k fun K10 hK10 => ?_
    refine awp_region_keep [0, 2, 3, 10, 11, 27] ⟨false, [], [], []⟩ (fun h => nomatch h) ?_
    iterate 2 (refine dawp_p rfl (by (simp (disch := omega) only [push_cast, and_true, cond_true, cond_false, if_pos, if_neg, ↓reduceIte, Nat.reduceEqDiff, Nat.reduceAdd, Nat.reduceLeDiff, tmod9000, m9_k9, show_none, hz, (back_both ha hb).1, (back_both ha hb).2, (back_user ha).1, (back_user ha).2, (back_group hb).1, (back_group hb).2, bothB_ss, err_d, Option.getD_some, Bool.true_and]) <;> rfl) rfl rfl ?_)
    refine dawp_nil ?_
    simp (disch := omega) only [push_cast, and_true, cond_true, cond_false, if_pos, if_neg, ↓reduceIte, Nat.reduceEqDiff, Nat.reduceAdd, Nat.reduceLeDiff, tmod9000, m9_k9, show_none, hz, (back_both ha hb).1, (back_both ha hb).2, (back_user ha).1, (back_user ha).2, (back_group hb).1, (back_group hb).2, bothB_ss, err_d, Option.getD_some, Bool.true_and]
    refine hK10 _ ?_
    refine awp_cond (by (simp (disch := omega) only [push_cast, and_true, cond_true, cond_false, if_pos, if_neg, ↓reduceIte, Nat.reduceEqDiff, Nat.reduceAdd, Nat.reduceLeDiff, tmod9000, m9_k9, show_none, hz, (back_both ha hb).1, (back_both ha hb).2, (back_user ha).1, (back_user ha).2, (back_group hb).1, (back_group hb).2, bothB_ss, err_d, Option.getD_some, Bool.true_and]) <;> rfl) (fun hb3 => ?_) (fun hb3 => ?_)
    · skip
      simp only [Bool.not_eq_true'] at hb3
      subst hb3
      refine awp_region_keep [0, 2, 3, 10, 11] ⟨false, [], [], []⟩ (fun h => nomatch h) ?_
      refine dawp_p rfl (by (simp (disch := omega) only [push_cast, and_true, cond_true, cond_false, if_pos, if_neg, ↓reduceIte, Nat.reduceEqDiff, Nat.reduceAdd, Nat.reduceLeDiff, tmod9000, m9_k9, show_none, hz, (back_both ha hb).1, (back_both ha hb).2, (back_user ha).1, (back_user ha).2, (back_group hb).1, (back_group hb).2, bothB_ss, err_d, Option.getD_some, Bool.true_and]) <;> rfl) rfl rfl ?_
      refine dawp_nil ?_
      simp (disch := omega) only [push_cast, and_true, cond_true, cond_false, if_pos, if_neg, ↓reduceIte, Nat.reduceEqDiff, Nat.reduceAdd, Nat.reduceLeDiff, tmod9000, m9_k9, show_none, hz, (back_both ha hb).1, (back_both ha hb).2, (back_user ha).1, (back_user ha).2, (back_group hb).1, (back_group hb).2, bothB_ss, err_d, Option.getD_some, Bool.true_and]
      refine hK9 _ ?_
      refine awp_seq_k fun K11 hK11 => ?_
      refine awp_seq_k fun K12 hK12 => ?_
      refine awp_region_keep [0, 10, 11, 33] ⟨false, [], [], []⟩ (fun h => nomatch h) ?_
      iterate 3 (refine dawp_p rfl (by (simp (disch := omega) only [push_cast, and_true, cond_true, cond_false, if_pos, if_neg, ↓reduceIte, Nat.reduceEqDiff, Nat.reduceAdd, Nat.reduceLeDiff, tmod9000, m9_k9, show_none, hz, (back_both ha hb).1, (back_both ha hb).2, (back_user ha).1, (back_user ha).2, (back_group hb).1, (back_group hb).2, bothB_ss, err_d, Option.getD_some, Bool.true_and]) <;> rfl) rfl rfl ?_)
      iterate 2 (refine dawp_g rfl rfl (by simp only [push_cast, and_true, cond_true, cond_false, if_pos, if_neg, ↓reduceIte, Nat.reduceEqDiff, Nat.reduceAdd, Nat.reduceLeDiff, tmod9000, m9_k9, show_none, hz, (back_both ha hb).1, (back_both ha hb).2, (back_user ha).1, (back_user ha).2, (back_group hb).1, (back_group hb).2, bothB_ss, err_d, Option.getD_some, Bool.true_and]; rfl) (fun hg => by simp (disch := omega) only [hg, push_cast, and_true, cond_true, cond_false, if_pos, if_neg, ↓reduceIte, Nat.reduceEqDiff, Nat.reduceAdd, Nat.reduceLeDiff, tmod9000, m9_k9, show_none, hz, (back_both ha hb).1, (back_both ha hb).2, (back_user ha).1, (back_user ha).2, (back_group hb).1, (back_group hb).2, bothB_ss, err_d, Option.getD_some, Bool.true_and]; rfl) rfl rfl ?_)
      refine dawp_p rfl (by (simp (disch := omega) only [push_cast, and_true, cond_true, cond_false, if_pos, if_neg, ↓reduceIte, Nat.reduceEqDiff, Nat.reduceAdd, Nat.reduceLeDiff, tmod9000, m9_k9, show_none, hz, (back_both ha hb).1, (back_both ha hb).2, (back_user ha).1, (back_user ha).2, (back_group hb).1, (back_group hb).2, bothB_ss, err_d, Option.getD_some, Bool.true_and]) <;> rfl) rfl rfl ?_
      refine dawp_nil ?_
      simp (disch := omega) only [push_cast, and_true, cond_true, cond_false, if_pos, if_neg, ↓reduceIte, Nat.reduceEqDiff, Nat.reduceAdd, Nat.reduceLeDiff, tmod9000, m9_k9, show_none, hz, (back_both ha hb).1, (back_both ha hb).2, (back_user ha).1, (back_user ha).2, (back_group hb).1, (back_group hb).2, bothB_ss, err_d, Option.getD_some, Bool.true_and]
      refine hK12 _ ?_
      refine awp_cond (by (simp (disch := omega) only [push_cast, and_true, cond_true, cond_false, if_pos, if_neg, ↓reduceIte, Nat.reduceEqDiff, Nat.reduceAdd, Nat.reduceLeDiff, tmod9000, m9_k9, show_none, hz, (back_both ha hb).1, (back_both ha hb).2, (back_user ha).1, (back_user ha).2, (back_group hb).1, (back_group hb).2, bothB_ss, err_d, Option.getD_some, Bool.true_and]) <;> rfl) (fun hb4 => ?_) (fun hb4 => ?_)
      · skip
        refine awp_seq_k fun K13 hK13 => ?_
        refine awp_region_keep [8] ⟨false, [], [], []⟩ (fun h => nomatch h) ?_
        iterate 2 (refine dawp_p rfl (by (simp (disch := omega) only [push_cast, and_true, cond_true, cond_false, if_pos, if_neg, ↓reduceIte, Nat.reduceEqDiff, Nat.reduceAdd, Nat.reduceLeDiff, tmod9000, m9_k9, show_none, hz, (back_both ha hb).1, (back_both ha hb).2, (back_user ha).1, (back_user ha).2, (back_group hb).1, (back_group hb).2, bothB_ss, err_d, Option.getD_some, Bool.true_and]) <;> rfl) rfl rfl ?_)
        refine dawp_w rfl rfl rfl rfl (AOp.callx _ _ _ rfl (by (simp (disch := omega) only [push_cast, and_true, cond_true, cond_false, if_pos, if_neg, ↓reduceIte, Nat.reduceEqDiff, Nat.reduceAdd, Nat.reduceLeDiff, tmod9000, m9_k9, show_none, hz, (back_both ha hb).1, (back_both ha hb).2, (back_user ha).1, (back_user ha).2, (back_group hb).1, (back_group hb).2, bothB_ss, err_d, Option.getD_some, Bool.true_and]) <;> rfl) (by (simp (disch := omega) only [push_cast, and_true, cond_true, cond_false, if_pos, if_neg, ↓reduceIte, Nat.reduceEqDiff, Nat.reduceAdd, Nat.reduceLeDiff, tmod9000, m9_k9, show_none, hz, (back_both ha hb).1, (back_both ha hb).2, (back_user ha).1, (back_user ha).2, (back_group hb).1, (back_group hb).2, bothB_ss, err_d, Option.getD_some, Bool.true_and]) <;> rfl) ?_)  
        refine (c15 _ _ _ _ htb (by omega) (by omega) (by omega) (by omega)).mono ?_; rintro _ _ _ ⟨rfl, rfl, rfl⟩
        iterate 2 (refine dawp_p rfl (by (simp (disch := omega) only [push_cast, and_true, cond_true, cond_false, if_pos, if_neg, ↓reduceIte, Nat.reduceEqDiff, Nat.reduceAdd, Nat.reduceLeDiff, tmod9000, m9_k9, show_none, hz, (back_both ha hb).1, (back_both ha hb).2, (back_user ha).1, (back_user ha).2, (back_group hb).1, (back_group hb).2, bothB_ss, err_d, Option.getD_some, Bool.true_and]) <;> rfl) rfl rfl ?_)
        refine dawp_nil ?_
        simp (disch := omega) only [push_cast, and_true, cond_true, cond_false, if_pos, if_neg, ↓reduceIte, Nat.reduceEqDiff, Nat.reduceAdd, Nat.reduceLeDiff, tmod9000, m9_k9, show_none, hz, (back_both ha hb).1, (back_both ha hb).2, (back_user ha).1, (back_user ha).2, (back_group hb).1, (back_group hb).2, bothB_ss, err_d, Option.getD_some, Bool.true_and]
        refine hK13 _ ?_
        refine awp_ret ?_
        try simp only [push_cast]
        refine fin_pure (by (simp (disch := omega) only [Tryd.results5, aresults, aresult, push_cast, and_true, cond_true, cond_false, if_pos, if_neg, ↓reduceIte, Nat.reduceEqDiff, Nat.reduceAdd, Nat.reduceLeDiff, tmod9000, m9_k9, show_none, hz, (back_both ha hb).1, (back_both ha hb).2, (back_user ha).1, (back_user ha).2, (back_group hb).1, (back_group hb).2, bothB_ss, err_d, Option.getD_some, Bool.true_and]) <;> rfl) (by simp only [atuple, AV.er, AV.erL, push_cast]; rfl) (by simp [AV.cl, AV.clL]) (by first | exact ⟨_, rfl⟩ | exact ⟨[], (List.append_nil _).symm⟩) hH (fun _ h => h) ?_
        exact ⟨rfl, rfl, rfl⟩
      exfalso; simp at hb4
    simp only [Bool.not_eq_false'] at hb3
    subst hb3
    refine awp_skip ?_
    try simp only [push_cast]
    refine hK9 _ ?_
    refine awp_seq_k fun K14 hK14 => ?_
    refine awp_seq_k fun K15 hK15 => ?_
    refine awp_region_keep [0, 10, 11, 33] ⟨false, [], [], []⟩ (fun h => nomatch h) ?_
    iterate 3 (refine dawp_p rfl (by (simp (disch := omega) only [push_cast, and_true, cond_true, cond_false, if_pos, if_neg, ↓reduceIte, Nat.reduceEqDiff, Nat.reduceAdd, Nat.reduceLeDiff, tmod9000, m9_k9, show_none, hz, (back_both ha hb).1, (back_both ha hb).2, (back_user ha).1, (back_user ha).2, (back_group hb).1, (back_group hb).2, bothB_ss, err_d, Option.getD_some, Bool.true_and]) <;> rfl) rfl rfl ?_)
    iterate 2 (refine dawp_g rfl rfl (by simp only [push_cast, and_true, cond_true, cond_false, if_pos, if_neg, ↓reduceIte, Nat.reduceEqDiff, Nat.reduceAdd, Nat.reduceLeDiff, tmod9000, m9_k9, show_none, hz, (back_both ha hb).1, (back_both ha hb).2, (back_user ha).1, (back_user ha).2, (back_group hb).1, (back_group hb).2, bothB_ss, err_d, Option.getD_some, Bool.true_and]; rfl) (fun hg => by simp (disch := omega) only [hg, push_cast, and_true, cond_true, cond_false, if_pos, if_neg, ↓reduceIte, Nat.reduceEqDiff, Nat.reduceAdd, Nat.reduceLeDiff, tmod9000, m9_k9, show_none, hz, (back_both ha hb).1, (back_both ha hb).2, (back_user ha).1, (back_user ha).2, (back_group hb).1, (back_group hb).2, bothB_ss, err_d, Option.getD_some, Bool.true_and]; rfl) rfl rfl ?_)
    refine dawp_p rfl (by (simp (disch := omega) only [push_cast, and_true, cond_true, cond_false, if_pos, if_neg, ↓reduceIte, Nat.reduceEqDiff, Nat.reduceAdd, Nat.reduceLeDiff, tmod9000, m9_k9, show_none, hz, (back_both ha hb).1, (back_both ha hb).2, (back_user ha).1, (back_user ha).2, (back_group hb).1, (back_group hb).2, bothB_ss, err_d, Option.getD_some, Bool.true_and]) <;> rfl) rfl rfl ?_
    refine dawp_nil ?_
    simp (disch := omega) only [push_cast, and_true, cond_true, cond_false, if_pos, if_neg, ↓reduceIte, Nat.reduceEqDiff, Nat.reduceAdd, Nat.reduceLeDiff, tmod9000, m9_k9, show_none, hz, (back_both ha hb).1, (back_both ha hb).2, (back_user ha).1, (back_user ha).2, (back_group hb).1, (back_group hb).2, bothB_ss, err_d, Option.getD_some, Bool.true_and]
    refine hK15 _ ?_
    refine awp_cond (by (simp (disch := omega) only [push_cast, and_true, cond_true, cond_false, if_pos, if_neg, ↓reduceIte, Nat.reduceEqDiff, Nat.reduceAdd, Nat.reduceLeDiff, tmod9000, m9_k9, show_none, hz, (back_both ha hb).1, (back_both ha hb).2, (back_user ha).1, (back_user ha).2, (back_group hb).1, (back_group hb).2, bothB_ss, err_d, Option.getD_some, Bool.true_and]) <;> rfl) (fun hb4 => ?_) (fun hb4 => ?_)
    · skip
      exfalso; simp at hb4
    refine awp_skip ?_
    try simp only [push_cast]
    refine hK14 _ ?_
    refine awp_seq_k fun K16 hK16 => ?_
    refine awp_region_keep [0, 10, 11, 12, 13, 14] ⟨false, [], [], []⟩ (fun h => nomatch h) ?_
    iterate 2 (refine dawp_p rfl (by (simp (disch := omega) only [push_cast, and_true, cond_true, cond_false, if_pos, if_neg, ↓reduceIte, Nat.reduceEqDiff, Nat.reduceAdd, Nat.reduceLeDiff, tmod9000, m9_k9, show_none, hz, (back_both ha hb).1, (back_both ha hb).2, (back_user ha).1, (back_user ha).2, (back_group hb).1, (back_group hb).2, bothB_ss, err_d, Option.getD_some, Bool.true_and]) <;> rfl) rfl rfl ?_)
    refine dawp_w rfl rfl rfl rfl (AOp.callx _ _ _ rfl (by (simp (disch := omega) only [push_cast, and_true, cond_true, cond_false, if_pos, if_neg, ↓reduceIte, Nat.reduceEqDiff, Nat.reduceAdd, Nat.reduceLeDiff, tmod9000, m9_k9, show_none, hz, (back_both ha hb).1, (back_both ha hb).2, (back_user ha).1, (back_user ha).2, (back_group hb).1, (back_group hb).2, bothB_ss, err_d, Option.getD_some, Bool.true_and]) <;> rfl) (by (simp (disch := omega) only [push_cast, and_true, cond_true, cond_false, if_pos, if_neg, ↓reduceIte, Nat.reduceEqDiff, Nat.reduceAdd, Nat.reduceLeDiff, tmod9000, m9_k9, show_none, hz, (back_both ha hb).1, (back_both ha hb).2, (back_user ha).1, (back_user ha).2, (back_group hb).1, (back_group hb).2, bothB_ss, err_d, Option.getD_some, Bool.true_and]) <;> rfl) ?_)  
    refine (c15 _ _ _ _ htb (by omega) (by omega) (by omega) (by omega)).mono ?_; rintro _ _ _ ⟨rfl, rfl, rfl⟩
    refine dawp_w rfl rfl rfl rfl (AOp.callx _ _ _ rfl (by (simp (disch := omega) only [push_cast, and_true, cond_true, cond_false, if_pos, if_neg, ↓reduceIte, Nat.reduceEqDiff, Nat.reduceAdd, Nat.reduceLeDiff, tmod9000, m9_k9, show_none, hz, (back_both ha hb).1, (back_both ha hb).2, (back_user ha).1, (back_user ha).2, (back_group hb).1, (back_group hb).2, bothB_ss, err_d, Option.getD_some, Bool.true_and]) <;> rfl) (by (simp (disch := omega) only [push_cast, and_true, cond_true, cond_false, if_pos, if_neg, ↓reduceIte, Nat.reduceEqDiff, Nat.reduceAdd, Nat.reduceLeDiff, tmod9000, m9_k9, show_none, hz, (back_both ha hb).1, (back_both ha hb).2, (back_user ha).1, (back_user ha).2, (back_group hb).1, (back_group hb).2, bothB_ss, err_d, Option.getD_some, Bool.true_and]) <;> rfl) ?_)  
    refine (c9 _ _ _ (by omega)).mono ?_; rintro _ _ _ ⟨rfl, rfl, rfl⟩
    iterate 7 (refine dawp_p rfl (by (simp (disch := omega) only [push_cast, and_true, cond_true, cond_false, if_pos, if_neg, ↓reduceIte, Nat.reduceEqDiff, Nat.reduceAdd, Nat.reduceLeDiff, tmod9000, m9_k9, show_none, hz, (back_both ha hb).1, (back_both ha hb).2, (back_user ha).1, (back_user ha).2, (back_group hb).1, (back_group hb).2, bothB_ss, err_d, Option.getD_some, Bool.true_and]) <;> rfl) rfl rfl ?_)
    refine dawp_nil ?_
    simp (disch := omega) only [push_cast, and_true, cond_true, cond_false, if_pos, if_neg, ↓reduceIte, Nat.reduceEqDiff, Nat.reduceAdd, Nat.reduceLeDiff, tmod9000, m9_k9, show_none, hz, (back_both ha hb).1, (back_both ha hb).2, (back_user ha).1, (back_user ha).2, (back_group hb).1, (back_group hb).2, bothB_ss, err_d, Option.getD_some, Bool.true_and]
    refine hK16 _ ?_
    refine awp_seq_k fun K17 hK17 => ?_
    refine awp_region_keep [0, 10, 11, 12, 13, 14, 15, 16] ⟨false, [], [], []⟩ (fun h => nomatch h) ?_
    iterate 4 (refine dawp_p rfl (by (simp (disch := omega) only [push_cast, and_true, cond_true, cond_false, if_pos, if_neg, ↓reduceIte, Nat.reduceEqDiff, Nat.reduceAdd, Nat.reduceLeDiff, tmod9000, m9_k9, show_none, hz, (back_both ha hb).1, (back_both ha hb).2, (back_user ha).1, (back_user ha).2, (back_group hb).1, (back_group hb).2, bothB_ss, err_d, Option.getD_some, Bool.true_and]) <;> rfl) rfl rfl ?_)
    refine dawp_w rfl rfl rfl rfl (AOp.callx _ _ _ rfl (by (simp (disch := omega) only [push_cast, and_true, cond_true, cond_false, if_pos, if_neg, ↓reduceIte, Nat.reduceEqDiff, Nat.reduceAdd, Nat.reduceLeDiff, tmod9000, m9_k9, show_none, hz, (back_both ha hb).1, (back_both ha hb).2, (back_user ha).1, (back_user ha).2, (back_group hb).1, (back_group hb).2, bothB_ss, err_d, Option.getD_some, Bool.true_and]) <;> rfl) (by (simp (disch := omega) only [push_cast, and_true, cond_true, cond_false, if_pos, if_neg, ↓reduceIte, Nat.reduceEqDiff, Nat.reduceAdd, Nat.reduceLeDiff, tmod9000, m9_k9, show_none, hz, (back_both ha hb).1, (back_both ha hb).2, (back_user ha).1, (back_user ha).2, (back_group hb).1, (back_group hb).2, bothB_ss, err_d, Option.getD_some, Bool.true_and]) <;> rfl) ?_)  
    refine (c15 _ _ _ _ htb (by omega) (by omega) (by omega) (by omega)).mono ?_; rintro _ _ _ ⟨rfl, rfl, rfl⟩
    refine dawp_p rfl (by (simp (disch := omega) only [push_cast, and_true, cond_true, cond_false, if_pos, if_neg, ↓reduceIte, Nat.reduceEqDiff, Nat.reduceAdd, Nat.reduceLeDiff, tmod9000, m9_k9, show_none, hz, (back_both ha hb).1, (back_both ha hb).2, (back_user ha).1, (back_user ha).2, (back_group hb).1, (back_group hb).2, bothB_ss, err_d, Option.getD_some, Bool.true_and]) <;> rfl) rfl rfl ?_
    refine dawp_w rfl rfl rfl rfl (AOp.callx _ _ _ rfl (by (simp (disch := omega) only [push_cast, and_true, cond_true, cond_false, if_pos, if_neg, ↓reduceIte, Nat.reduceEqDiff, Nat.reduceAdd, Nat.reduceLeDiff, tmod9000, m9_k9, show_none, hz, (back_both ha hb).1, (back_both ha hb).2, (back_user ha).1, (back_user ha).2, (back_group hb).1, (back_group hb).2, bothB_ss, err_d, Option.getD_some, Bool.true_and]) <;> rfl) (by (simp (disch := omega) only [push_cast, and_true, cond_true, cond_false, if_pos, if_neg, ↓reduceIte, Nat.reduceEqDiff, Nat.reduceAdd, Nat.reduceLeDiff, tmod9000, m9_k9, show_none, hz, (back_both ha hb).1, (back_both ha hb).2, (back_user ha).1, (back_user ha).2, (back_group hb).1, (back_group hb).2, bothB_ss, err_d, Option.getD_some, Bool.true_and]) <;> rfl) ?_)  
    refine (c11 _ _ _ (by simp only [List.length_cons]; omega)).mono ?_; rintro _ _ _ ⟨rfl, rfl, rfl⟩
    iterate 5 (refine dawp_p rfl (by (simp (disch := omega) only [push_cast, and_true, cond_true, cond_false, if_pos, if_neg, ↓reduceIte, Nat.reduceEqDiff, Nat.reduceAdd, Nat.reduceLeDiff, tmod9000, m9_k9, show_none, hz, (back_both ha hb).1, (back_both ha hb).2, (back_user ha).1, (back_user ha).2, (back_group hb).1, (back_group hb).2, bothB_ss, err_d, Option.getD_some, Bool.true_and]) <;> rfl) rfl rfl ?_)
    refine dawp_nil ?_
    simp (disch := omega) only [push_cast, and_true, cond_true, cond_false, if_pos, if_neg, ↓reduceIte, Nat.reduceEqDiff, Nat.reduceAdd, Nat.reduceLeDiff, tmod9000, m9_k9, show_none, hz, (back_both ha hb).1, (back_both ha hb).2, (back_user ha).1, (back_user ha).2, (back_group hb).1, (back_group hb).2, bothB_ss, err_d, Option.getD_some, Bool.true_and]
    refine hK17 _ ?_
    refine awp_seq_k fun K18 hK18 => ?_
    refine awp_region_keep [8] ⟨false, [], [], []⟩ (fun h => nomatch h) ?_
    iterate 4 (refine dawp_p rfl (by (simp (disch := omega) only [push_cast, and_true, cond_true, cond_false, if_pos, if_neg, ↓reduceIte, Nat.reduceEqDiff, Nat.reduceAdd, Nat.reduceLeDiff, tmod9000, m9_k9, show_none, hz, (back_both ha hb).1, (back_both ha hb).2, (back_user ha).1, (back_user ha).2, (back_group hb).1, (back_group hb).2, bothB_ss, err_d, Option.getD_some, Bool.true_and]) <;> rfl) rfl rfl ?_)
    iterate 3 (refine dawp_g rfl rfl (by simp only [push_cast, and_true, cond_true, cond_false, if_pos, if_neg, ↓reduceIte, Nat.reduceEqDiff, Nat.reduceAdd, Nat.reduceLeDiff, tmod9000, m9_k9, show_none, hz, (back_both ha hb).1, (back_both ha hb).2, (back_user ha).1, (back_user ha).2, (back_group hb).1, (back_group hb).2, bothB_ss, err_d, Option.getD_some, Bool.true_and]; rfl) (fun hg => by simp (disch := omega) only [hg, push_cast, and_true, cond_true, cond_false, if_pos, if_neg, ↓reduceIte, Nat.reduceEqDiff, Nat.reduceAdd, Nat.reduceLeDiff, tmod9000, m9_k9, show_none, hz, (back_both ha hb).1, (back_both ha hb).2, (back_user ha).1, (back_user ha).2, (back_group hb).1, (back_group hb).2, bothB_ss, err_d, Option.getD_some, Bool.true_and]; rfl) rfl rfl ?_)
    iterate 2 (refine dawp_p rfl (by (simp (disch := omega) only [push_cast, and_true, cond_true, cond_false, if_pos, if_neg, ↓reduceIte, Nat.reduceEqDiff, Nat.reduceAdd, Nat.reduceLeDiff, tmod9000, m9_k9, show_none, hz, (back_both ha hb).1, (back_both ha hb).2, (back_user ha).1, (back_user ha).2, (back_group hb).1, (back_group hb).2, bothB_ss, err_d, Option.getD_some, Bool.true_and]) <;> rfl) rfl rfl ?_)
    iterate 2 (refine dawp_g rfl rfl (by simp only [push_cast, and_true, cond_true, cond_false, if_pos, if_neg, ↓reduceIte, Nat.reduceEqDiff, Nat.reduceAdd, Nat.reduceLeDiff, tmod9000, m9_k9, show_none, hz, (back_both ha hb).1, (back_both ha hb).2, (back_user ha).1, (back_user ha).2, (back_group hb).1, (back_group hb).2, bothB_ss, err_d, Option.getD_some, Bool.true_and]; rfl) (fun hg => by simp (disch := omega) only [hg, push_cast, and_true, cond_true, cond_false, if_pos, if_neg, ↓reduceIte, Nat.reduceEqDiff, Nat.reduceAdd, Nat.reduceLeDiff, tmod9000, m9_k9, show_none, hz, (back_both ha hb).1, (back_both ha hb).2, (back_user ha).1, (back_user ha).2, (back_group hb).1, (back_group hb).2, bothB_ss, err_d, Option.getD_some, Bool.true_and]; rfl) rfl rfl ?_)
    iterate 2 (refine dawp_p rfl (by (simp (disch := omega) only [push_cast, and_true, cond_true, cond_false, if_pos, if_neg, ↓reduceIte, Nat.reduceEqDiff, Nat.reduceAdd, Nat.reduceLeDiff, tmod9000, m9_k9, show_none, hz, (back_both ha hb).1, (back_both ha hb).2, (back_user ha).1, (back_user ha).2, (back_group hb).1, (back_group hb).2, bothB_ss, err_d, Option.getD_some, Bool.true_and]) <;> rfl) rfl rfl ?_)
    iterate 6 (refine dawp_g rfl rfl (by simp only [push_cast, and_true, cond_true, cond_false, if_pos, if_neg, ↓reduceIte, Nat.reduceEqDiff, Nat.reduceAdd, Nat.reduceLeDiff, tmod9000, m9_k9, show_none, hz, (back_both ha hb).1, (back_both ha hb).2, (back_user ha).1, (back_user ha).2, (back_group hb).1, (back_group hb).2, bothB_ss, err_d, Option.getD_some, Bool.true_and]; rfl) (fun hg => by simp (disch := omega) only [hg, push_cast, and_true, cond_true, cond_false, if_pos, if_neg, ↓reduceIte, Nat.reduceEqDiff, Nat.reduceAdd, Nat.reduceLeDiff, tmod9000, m9_k9, show_none, hz, (back_both ha hb).1, (back_both ha hb).2, (back_user ha).1, (back_user ha).2, (back_group hb).1, (back_group hb).2, bothB_ss, err_d, Option.getD_some, Bool.true_and]; rfl) rfl rfl ?_)
    iterate 2 (refine dawp_p rfl (by (simp (disch := omega) only [push_cast, and_true, cond_true, cond_false, if_pos, if_neg, ↓reduceIte, Nat.reduceEqDiff, Nat.reduceAdd, Nat.reduceLeDiff, tmod9000, m9_k9, show_none, hz, (back_both ha hb).1, (back_both ha hb).2, (back_user ha).1, (back_user ha).2, (back_group hb).1, (back_group hb).2, bothB_ss, err_d, Option.getD_some, Bool.true_and]) <;> rfl) rfl rfl ?_)
    iterate 2 (refine dawp_g rfl rfl (by simp only [push_cast, and_true, cond_true, cond_false, if_pos, if_neg, ↓reduceIte, Nat.reduceEqDiff, Nat.reduceAdd, Nat.reduceLeDiff, tmod9000, m9_k9, show_none, hz, (back_both ha hb).1, (back_both ha hb).2, (back_user ha).1, (back_user ha).2, (back_group hb).1, (back_group hb).2, bothB_ss, err_d, Option.getD_some, Bool.true_and]; rfl) (fun hg => by simp (disch := omega) only [hg, push_cast, and_true, cond_true, cond_false, if_pos, if_neg, ↓reduceIte, Nat.reduceEqDiff, Nat.reduceAdd, Nat.reduceLeDiff, tmod9000, m9_k9, show_none, hz, (back_both ha hb).1, (back_both ha hb).2, (back_user ha).1, (back_user ha).2, (back_group hb).1, (back_group hb).2, bothB_ss, err_d, Option.getD_some, Bool.true_and]; rfl) rfl rfl ?_)
    iterate 2 (refine dawp_p rfl (by (simp (disch := omega) only [push_cast, and_true, cond_true, cond_false, if_pos, if_neg, ↓reduceIte, Nat.reduceEqDiff, Nat.reduceAdd, Nat.reduceLeDiff, tmod9000, m9_k9, show_none, hz, (back_both ha hb).1, (back_both ha hb).2, (back_user ha).1, (back_user ha).2, (back_group hb).1, (back_group hb).2, bothB_ss, err_d, Option.getD_some, Bool.true_and]) <;> rfl) rfl rfl ?_)
    refine dawp_nil ?_
    simp (disch := omega) only [push_cast, and_true, cond_true, cond_false, if_pos, if_neg, ↓reduceIte, Nat.reduceEqDiff, Nat.reduceAdd, Nat.reduceLeDiff, tmod9000, m9_k9, show_none, hz, (back_both ha hb).1, (back_both ha hb).2, (back_user ha).1, (back_user ha).2, (back_group hb).1, (back_group hb).2, bothB_ss, err_d, Option.getD_some, Bool.true_and]
    refine hK18 _ ?_
    refine awp_ret ?_
    try simp only [push_cast]
    refine fin_pure (by (simp (disch := omega) only [Tryd.results5, aresults, aresult, push_cast, and_true, cond_true, cond_false, if_pos, if_neg, ↓reduceIte, Nat.reduceEqDiff, Nat.reduceAdd, Nat.reduceLeDiff, tmod9000, m9_k9, show_none, hz, (back_both ha hb).1, (back_both ha hb).2, (back_user ha).1, (back_user ha).2, (back_group hb).1, (back_group hb).2, bothB_ss, err_d, Option.getD_some, Bool.true_and]) <;> rfl) (by simp only [atuple, AV.er, AV.erL, push_cast]; rfl) (by simp [AV.cl, AV.clL]) (by first | exact ⟨_, rfl⟩ | exact ⟨[], (List.append_nil _).symm⟩) hH (fun _ h => h) ?_
    refine ⟨?_, rfl, rfl⟩
    simp
  simp only [Bool.not_eq_false'] at hb2
  subst hb2
  refine awp_skip ?_
  try simp only [push_cast]
  refine hK7 _ ?_
  refine awp_seq_k fun K19 hK19 => ?_
  refine awp_seq_k fun K20 hK20 => ?_
  refine awp_region_keep [0, 2, 3, 10, 11, 27] ⟨false, [], [], []⟩ (fun h => nomatch h) ?_
  iterate 2 (refine dawp_p rfl (by (simp (disch := omega) only [push_cast, and_true, cond_true, cond_false, if_pos, if_neg, ↓reduceIte, Nat.reduceEqDiff, Nat.reduceAdd, Nat.reduceLeDiff, tmod9000, m9_k9, show_none, hz, (back_both ha hb).1, (back_both ha hb).2, (back_user ha).1, (back_user ha).2, (back_group hb).1, (back_group hb).2, bothB_ss, err_d, Option.getD_some, Bool.true_and]) <;> rfl) rfl rfl ?_)
  refine dawp_nil ?_
  simp (disch := omega) only [push_cast, and_true, cond_true, cond_false, if_pos, if_neg, ↓reduceIte, Nat.reduceEqDiff, Nat.reduceAdd, Nat.reduceLeDiff, tmod9000, m9_k9, show_none, hz, (back_both ha hb).1, (back_both ha hb).2, (back_user ha).1, (back_user ha).2, (back_group hb).1, (back_group hb).2, bothB_ss, err_d, Option.getD_some, Bool.true_and]
  refine hK20 _ ?_
  refine awp_cond (by (simp (disch := omega) only [push_cast, and_true, cond_true, cond_false, if_pos, if_neg, ↓reduceIte, Nat.reduceEqDiff, Nat.reduceAdd, Nat.reduceLeDiff, tmod9000, m9_k9, show_none, hz, (back_both ha hb).1, (back_both ha hb).2, (back_user ha).1, (back_user ha).2, (back_group hb).1, (back_group hb).2, bothB_ss, err_d, Option.getD_some, Bool.true_and]) <;> rfl) (fun hb3 => ?_) (fun hb3 => ?_)
  · skip
    simp only [Bool.not_eq_true'] at hb3
    subst hb3
    refine awp_region_keep [0, 2, 3, 10, 11] ⟨false, [], [], []⟩ (fun h => nomatch h) ?_
    refine dawp_p rfl (by (simp (disch := omega) only [push_cast, and_true, cond_true, cond_false, if_pos, if_neg, ↓reduceIte, Nat.reduceEqDiff, Nat.reduceAdd, Nat.reduceLeDiff, tmod9000, m9_k9, show_none, hz, (back_both ha hb).1, (back_both ha hb).2, (back_user ha).1, (back_user ha).2, (back_group hb).1, (back_group hb).2, bothB_ss, err_d, Option.getD_some, Bool.true_and]) <;> rfl) rfl rfl ?_
    refine dawp_nil ?_
    simp (disch := omega) only [push_cast, and_true, cond_true, cond_false, if_pos, if_neg, ↓reduceIte, Nat.reduceEqDiff, Nat.reduceAdd, Nat.reduceLeDiff, tmod9000, m9_k9, show_none, hz, (back_both ha hb).1, (back_both ha hb).2, (back_user ha).1, (back_user ha).2, (back_group hb).1, (back_group hb).2, bothB_ss, err_d, Option.getD_some, Bool.true_and]
    refine hK19 _ ?_
    refine awp_seq_k fun K21 hK21 => ?_
    refine awp_seq_k fun K22 hK22 => ?_
    refine awp_region_keep [0, 10, 11, 33] ⟨false, [], [], []⟩ (fun h => nomatch h) ?_
    iterate 3 (refine dawp_p rfl (by (simp (disch := omega) only [push_cast, and_true, cond_true, cond_false, if_pos, if_neg, ↓reduceIte, Nat.reduceEqDiff, Nat.reduceAdd, Nat.reduceLeDiff, tmod9000, m9_k9, show_none, hz, (back_both ha hb).1, (back_both ha hb).2, (back_user ha).1, (back_user ha).2, (back_group hb).1, (back_group hb).2, bothB_ss, err_d, Option.getD_some, Bool.true_and]) <;> rfl) rfl rfl ?_)
    iterate 2 (refine dawp_g rfl rfl (by simp only [push_cast, and_true, cond_true, cond_false, if_pos, if_neg, ↓reduceIte, Nat.reduceEqDiff, Nat.reduceAdd, Nat.reduceLeDiff, tmod9000, m9_k9, show_none, hz, (back_both ha hb).1, (back_both ha hb).2, (back_user ha).1, (back_user ha).2, (back_group hb).1, (back_group hb).2, bothB_ss, err_d, Option.getD_some, Bool.true_and]; rfl) (fun hg => by simp (disch := omega) only [hg, push_cast, and_true, cond_true, cond_false, if_pos, if_neg, ↓reduceIte, Nat.reduceEqDiff, Nat.reduceAdd, Nat.reduceLeDiff, tmod9000, m9_k9, show_none, hz, (back_both ha hb).1, (back_both ha hb).2, (back_user ha).1, (back_user ha).2, (back_group hb).1, (back_group hb).2, bothB_ss, err_d, Option.getD_some, Bool.true_and]; rfl) rfl rfl ?_)
    refine dawp_p rfl (by (simp (disch := omega) only [push_cast, and_true, cond_true, cond_false, if_pos, if_neg, ↓reduceIte, Nat.reduceEqDiff, Nat.reduceAdd, Nat.reduceLeDiff, tmod9000, m9_k9, show_none, hz, (back_both ha hb).1, (back_both ha hb).2, (back_user ha).1, (back_user ha).2, (back_group hb).1, (back_group hb).2, bothB_ss, err_d, Option.getD_some, Bool.true_and]) <;> rfl) rfl rfl ?_
    refine dawp_nil ?_
    simp (disch := omega) only [push_cast, and_true, cond_true, cond_false, if_pos, if_neg, ↓reduceIte, Nat.reduceEqDiff, Nat.reduceAdd, Nat.reduceLeDiff, tmod9000, m9_k9, show_none, hz, (back_both ha hb).1, (back_both ha hb).2, (back_user ha).1, (back_user ha).2, (back_group hb).1, (back_group hb).2, bothB_ss, err_d, Option.getD_some, Bool.true_and]
    refine hK22 _ ?_
    refine awp_cond (by (simp (disch := omega) only [push_cast, and_true, cond_true, cond_false, if_pos, if_neg, ↓reduceIte, Nat.reduceEqDiff, Nat.reduceAdd, Nat.reduceLeDiff, tmod9000, m9_k9, show_none, hz, (back_both ha hb).1, (back_both ha hb).2, (back_user ha).1, (back_user ha).2, (back_group hb).1, (back_group hb).2, bothB_ss, err_d, Option.getD_some, Bool.true_and]) <;> rfl) (fun hb4 => ?_) (fun hb4 => ?_)
    · skip
      exfalso; simp at hb4
    refine awp_skip ?_
    try simp only [push_cast]
    refine hK21 _ ?_
    refine awp_seq_k fun K23 hK23 => ?_
    refine awp_region_keep [0, 10, 11, 12, 13, 14] ⟨false, [], [], []⟩ (fun h => nomatch h) ?_
    iterate 2 (refine dawp_p rfl (by (simp (disch := omega) only [push_cast, and_true, cond_true, cond_false, if_pos, if_neg, ↓reduceIte, Nat.reduceEqDiff, Nat.reduceAdd, Nat.reduceLeDiff, tmod9000, m9_k9, show_none, hz, (back_both ha hb).1, (back_both ha hb).2, (back_user ha).1, (back_user ha).2, (back_group hb).1, (back_group hb).2, bothB_ss, err_d, Option.getD_some, Bool.true_and]) <;> rfl) rfl rfl ?_)
    refine dawp_w rfl rfl rfl rfl (AOp.callx _ _ _ rfl (by (simp (disch := omega) only [push_cast, and_true, cond_true, cond_false, if_pos, if_neg, ↓reduceIte, Nat.reduceEqDiff, Nat.reduceAdd, Nat.reduceLeDiff, tmod9000, m9_k9, show_none, hz, (back_both ha hb).1, (back_both ha hb).2, (back_user ha).1, (back_user ha).2, (back_group hb).1, (back_group hb).2, bothB_ss, err_d, Option.getD_some, Bool.true_and]) <;> rfl) (by (simp (disch := omega) only [push_cast, and_true, cond_true, cond_false, if_pos, if_neg, ↓reduceIte, Nat.reduceEqDiff, Nat.reduceAdd, Nat.reduceLeDiff, tmod9000, m9_k9, show_none, hz, (back_both ha hb).1, (back_both ha hb).2, (back_user ha).1, (back_user ha).2, (back_group hb).1, (back_group hb).2, bothB_ss, err_d, Option.getD_some, Bool.true_and]) <;> rfl) ?_)  
    refine (c15 _ _ _ _ htb (by omega) (by omega) (by omega) (by omega)).mono ?_; rintro _ _ _ ⟨rfl, rfl, rfl⟩
    refine dawp_w rfl rfl rfl rfl (AOp.callx _ _ _ rfl (by (simp (disch := omega) only [push_cast, and_true, cond_true, cond_false, if_pos, if_neg, ↓reduceIte, Nat.reduceEqDiff, Nat.reduceAdd, Nat.reduceLeDiff, tmod9000, m9_k9, show_none, hz, (back_both ha hb).1, (back_both ha hb).2, (back_user ha).1, (back_user ha).2, (back_group hb).1, (back_group hb).2, bothB_ss, err_d, Option.getD_some, Bool.true_and]) <;> rfl) (by (simp (disch := omega) only [push_cast, and_true, cond_true, cond_false, if_pos, if_neg, ↓reduceIte, Nat.reduceEqDiff, Nat.reduceAdd, Nat.reduceLeDiff, tmod9000, m9_k9, show_none, hz, (back_both ha hb).1, (back_both ha hb).2, (back_user ha).1, (back_user ha).2, (back_group hb).1, (back_group hb).2, bothB_ss, err_d, Option.getD_some, Bool.true_and]) <;> rfl) ?_)  
    refine (c9 _ _ _ (by omega)).mono ?_; rintro _ _ _ ⟨rfl, rfl, rfl⟩
    iterate 7 (refine dawp_p rfl (by (simp (disch := omega) only [push_cast, and_true, cond_true, cond_false, if_pos, if_neg, ↓reduceIte, Nat.reduceEqDiff, Nat.reduceAdd, Nat.reduceLeDiff, tmod9000, m9_k9, show_none, hz, (back_both ha hb).1, (back_both ha hb).2, (back_user ha).1, (back_user ha).2, (back_group hb).1, (back_group hb).2, bothB_ss, err_d, Option.getD_some, Bool.true_and]) <;> rfl) rfl rfl ?_)
    refine dawp_nil ?_
    simp (disch := omega) only [push_cast, and_true, cond_true, cond_false, if_pos, if_neg, ↓reduceIte, Nat.reduceEqDiff, Nat.reduceAdd, Nat.reduceLeDiff, tmod9000, m9_k9, show_none, hz, (back_both ha hb).1, (back_both ha hb).2, (back_user ha).1, (back_user ha).2, (back_group hb).1, (back_group hb).2, bothB_ss, err_d, Option.getD_some, Bool.true_and]
    refine hK23 _ ?_
    refine awp_seq_k fun K24 hK24 => ?_
    refine awp_region_keep [0, 10, 11, 12, 13, 14, 15, 16] ⟨false, [], [], []⟩ (fun h => nomatch h) ?_
    iterate 4 (refine dawp_p rfl (by (simp (disch := omega) only [push_cast, and_true, cond_true, cond_false, if_pos, if_neg, ↓reduceIte, Nat.reduceEqDiff, Nat.reduceAdd, Nat.reduceLeDiff, tmod9000, m9_k9, show_none, hz, (back_both ha hb).1, (back_both ha hb).2, (back_user ha).1, (back_user ha).2, (back_group hb).1, (back_group hb).2, bothB_ss, err_d, Option.getD_some, Bool.true_and]) <;> rfl) rfl rfl ?_)
    refine dawp_w rfl rfl rfl rfl (AOp.callx _ _ _ rfl (by (simp (disch := omega) only [push_cast, and_true, cond_true, cond_false, if_pos, if_neg, ↓reduceIte, Nat.reduceEqDiff, Nat.reduceAdd, Nat.reduceLeDiff, tmod9000, m9_k9, show_none, hz, (back_both ha hb).1, (back_both ha hb).2, (back_user ha).1, (back_user ha).2, (back_group hb).1, (back_group hb).2, bothB_ss, err_d, Option.getD_some, Bool.true_and]) <;> rfl) (by (simp (disch := omega) only [push_cast, and_true, cond_true, cond_false, if_pos, if_neg, ↓reduceIte, Nat.reduceEqDiff, Nat.reduceAdd, Nat.reduceLeDiff, tmod9000, m9_k9, show_none, hz, (back_both ha hb).1, (back_both ha hb).2, (back_user ha).1, (back_user ha).2, (back_group hb).1, (back_group hb).2, bothB_ss, err_d, Option.getD_some, Bool.true_and]) <;> rfl) ?_)  
    refine (c15 _ _ _ _ htb (by omega) (by omega) (by omega) (by omega)).mono ?_; rintro _ _ _ ⟨rfl, rfl, rfl⟩
    refine dawp_p rfl (by (simp (disch := omega) only [push_cast, and_true, cond_true, cond_false, if_pos, if_neg, ↓reduceIte, Nat.reduceEqDiff, Nat.reduceAdd, Nat.reduceLeDiff, tmod9000, m9_k9, show_none, hz, (back_both ha hb).1, (back_both ha hb).2, (back_user ha).1, (back_user ha).2, (back_group hb).1, (back_group hb).2, bothB_ss, err_d, Option.getD_some, Bool.true_and]) <;> rfl) rfl rfl ?_
    refine dawp_w rfl rfl rfl rfl (AOp.callx _ _ _ rfl (by (simp (disch := omega) only [push_cast, and_true, cond_true, cond_false, if_pos, if_neg, ↓reduceIte, Nat.reduceEqDiff, Nat.reduceAdd, Nat.reduceLeDiff, tmod9000, m9_k9, show_none, hz, (back_both ha hb).1, (back_both ha hb).2, (back_user ha).1, (back_user ha).2, (back_group hb).1, (back_group hb).2, bothB_ss, err_d, Option.getD_some, Bool.true_and]) <;> rfl) (by (simp (disch := omega) only [push_cast, and_true, cond_true, cond_false, if_pos, if_neg, ↓reduceIte, Nat.reduceEqDiff, Nat.reduceAdd, Nat.reduceLeDiff, tmod9000, m9_k9, show_none, hz, (back_both ha hb).1, (back_both ha hb).2, (back_user ha).1, (back_user ha).2, (back_group hb).1, (back_group hb).2, bothB_ss, err_d, Option.getD_some, Bool.true_and]) <;> rfl) ?_)  
    refine (c11 _ _ _ (by simp only [List.length_cons]; omega)).mono ?_; rintro _ _ _ ⟨rfl, rfl, rfl⟩
    iterate 5 (refine dawp_p rfl (by (simp (disch := omega) only [push_cast, and_true, cond_true, cond_false, if_pos, if_neg, ↓reduceIte, Nat.reduceEqDiff, Nat.reduceAdd, Nat.reduceLeDiff, tmod9000, m9_k9, show_none, hz, (back_both ha hb).1, (back_both ha hb).2, (back_user ha).1, (back_user ha).2, (back_group hb).1, (back_group hb).2, bothB_ss, err_d, Option.getD_some, Bool.true_and]) <;> rfl) rfl rfl ?_)
    refine dawp_nil ?_
    simp (disch := omega) only [push_cast, and_true, cond_true, cond_false, if_pos, if_neg, ↓reduceIte, Nat.reduceEqDiff, Nat.reduceAdd, Nat.reduceLeDiff, tmod9000, m9_k9, show_none, hz, (back_both ha hb).1, (back_both ha hb).2, (back_user ha).1, (back_user ha).2, (back_group hb).1, (back_group hb).2, bothB_ss, err_d, Option.getD_some, Bool.true_and]
    refine hK24 _ ?_
    refine awp_seq_k fun K25 hK25 => ?_
    refine awp_region_keep [8] ⟨false, [], [], []⟩ (fun h => nomatch h) ?_
    iterate 4 (refine dawp_p rfl (by (simp (disch := omega) only [push_cast, and_true, cond_true, cond_false, if_pos, if_neg, ↓reduceIte, Nat.reduceEqDiff, Nat.reduceAdd, Nat.reduceLeDiff, tmod9000, m9_k9, show_none, hz, (back_both ha hb).1, (back_both ha hb).2, (back_user ha).1, (back_user ha).2, (back_group hb).1, (back_group hb).2, bothB_ss, err_d, Option.getD_some, Bool.true_and]) <;> rfl) rfl rfl ?_)
    iterate 3 (refine dawp_g rfl rfl (by simp only [push_cast, and_true, cond_true, cond_false, if_pos, if_neg, ↓reduceIte, Nat.reduceEqDiff, Nat.reduceAdd, Nat.reduceLeDiff, tmod9000, m9_k9, show_none, hz, (back_both ha hb).1, (back_both ha hb).2, (back_user ha).1, (back_user ha).2, (back_group hb).1, (back_group hb).2, bothB_ss, err_d, Option.getD_some, Bool.true_and]; rfl) (fun hg => by simp (disch := omega) only [hg, push_cast, and_true, cond_true, cond_false, if_pos, if_neg, ↓reduceIte, Nat.reduceEqDiff, Nat.reduceAdd, Nat.reduceLeDiff, tmod9000, m9_k9, show_none, hz, (back_both ha hb).1, (back_both ha hb).2, (back_user ha).1, (back_user ha).2, (back_group hb).1, (back_group hb).2, bothB_ss, err_d, Option.getD_some, Bool.true_and]; rfl) rfl rfl ?_)
    iterate 2 (refine dawp_p rfl (by (simp (disch := omega) only [push_cast, and_true, cond_true, cond_false, if_pos, if_neg, ↓reduceIte, Nat.reduceEqDiff, Nat.reduceAdd, Nat.reduceLeDiff, tmod9000, m9_k9, show_none, hz, (back_both ha hb).1, (back_both ha hb).2, (back_user ha).1, (back_user ha).2, (back_group hb).1, (back_group hb).2, bothB_ss, err_d, Option.getD_some, Bool.true_and]) <;> rfl) rfl rfl ?_)
    iterate 2 (refine dawp_g rfl rfl (by simp only [push_cast, and_true, cond_true, cond_false, if_pos, if_neg, ↓reduceIte, Nat.reduceEqDiff, Nat.reduceAdd, Nat.reduceLeDiff, tmod9000, m9_k9, show_none, hz, (back_both ha hb).1, (back_both ha hb).2, (back_user ha).1, (back_user ha).2, (back_group hb).1, (back_group hb).2, bothB_ss, err_d, Option.getD_some, Bool.true_and]; rfl) (fun hg => by simp (disch := omega) only [hg, push_cast, and_true, cond_true, cond_false, if_pos, if_neg, ↓reduceIte, Nat.reduceEqDiff, Nat.reduceAdd, Nat.reduceLeDiff, tmod9000, m9_k9, show_none, hz, (back_both ha hb).1, (back_both ha hb).2, (back_user ha).1, (back_user ha).2, (back_group hb).1, (back_group hb).2, bothB_ss, err_d, Option.getD_some, Bool.true_and]; rfl) rfl rfl ?_)
    iterate 2 (refine dawp_p rfl (by (simp (disch := omega) only [push_cast, and_true, cond_true, cond_false, if_pos, if_neg, ↓reduceIte, Nat.reduceEqDiff, Nat.reduceAdd, Nat.reduceLeDiff, tmod9000, m9_k9, show_none, hz, (back_both ha hb).1, (back_both ha hb).2, (back_user ha).1, (back_user ha).2, (back_group hb).1, (back_group hb).2, bothB_ss, err_d, Option.getD_some, Bool.true_and]) <;> rfl) rfl rfl ?_)
    iterate 6 (refine dawp_g rfl rfl (by simp only [push_cast, and_true, cond_true, cond_false, if_pos, if_neg, ↓reduceIte, Nat.reduceEqDiff, Nat.reduceAdd, Nat.reduceLeDiff, tmod9000, m9_k9, show_none, hz, (back_both ha hb).1, (back_both ha hb).2, (back_user ha).1, (back_user ha).2, (back_group hb).1, (back_group hb).2, bothB_ss, err_d, Option.getD_some, Bool.true_and]; rfl) (fun hg => by simp (disch := omega) only [hg, push_cast, and_true, cond_true, cond_false, if_pos, if_neg, ↓reduceIte, Nat.reduceEqDiff, Nat.reduceAdd, Nat.reduceLeDiff, tmod9000, m9_k9, show_none, hz, (back_both ha hb).1, (back_both ha hb).2, (back_user ha).1, (back_user ha).2, (back_group hb).1, (back_group hb).2, bothB_ss, err_d, Option.getD_some, Bool.true_and]; rfl) rfl rfl ?_)
    iterate 2 (refine dawp_p rfl (by (simp (disch := omega) only [push_cast, and_true, cond_true, cond_false, if_pos, if_neg, ↓reduceIte, Nat.reduceEqDiff, Nat.reduceAdd, Nat.reduceLeDiff, tmod9000, m9_k9, show_none, hz, (back_both ha hb).1, (back_both ha hb).2, (back_user ha).1, (back_user ha).2, (back_group hb).1, (back_group hb).2, bothB_ss, err_d, Option.getD_some, Bool.true_and]) <;> rfl) rfl rfl ?_)
    iterate 2 (refine dawp_g rfl rfl (by simp only [push_cast, and_true, cond_true, cond_false, if_pos, if_neg, ↓reduceIte, Nat.reduceEqDiff, Nat.reduceAdd, Nat.reduceLeDiff, tmod9000, m9_k9, show_none, hz, (back_both ha hb).1, (back_both ha hb).2, (back_user ha).1, (back_user ha).2, (back_group hb).1, (back_group hb).2, bothB_ss, err_d, Option.getD_some, Bool.true_and]; rfl) (fun hg => by simp (disch := omega) only [hg, push_cast, and_true, cond_true, cond_false, if_pos, if_neg, ↓reduceIte, Nat.reduceEqDiff, Nat.reduceAdd, Nat.reduceLeDiff, tmod9000, m9_k9, show_none, hz, (back_both ha hb).1, (back_both ha hb).2, (back_user ha).1, (back_user ha).2, (back_group hb).1, (back_group hb).2, bothB_ss, err_d, Option.getD_some, Bool.true_and]; rfl) rfl rfl ?_)
    iterate 2 (refine dawp_p rfl (by (simp (disch := omega) only [push_cast, and_true, cond_true, cond_false, if_pos, if_neg, ↓reduceIte, Nat.reduceEqDiff, Nat.reduceAdd, Nat.reduceLeDiff, tmod9000, m9_k9, show_none, hz, (back_both ha hb).1, (back_both ha hb).2, (back_user ha).1, (back_user ha).2, (back_group hb).1, (back_group hb).2, bothB_ss, err_d, Option.getD_some, Bool.true_and]) <;> rfl) rfl rfl ?_)
    refine dawp_nil ?_
    simp (disch := omega) only [push_cast, and_true, cond_true, cond_false, if_pos, if_neg, ↓reduceIte, Nat.reduceEqDiff, Nat.reduceAdd, Nat.reduceLeDiff, tmod9000, m9_k9, show_none, hz, (back_both ha hb).1, (back_both ha hb).2, (back_user ha).1, (back_user ha).2, (back_group hb).1, (back_group hb).2, bothB_ss, err_d, Option.getD_some, Bool.true_and]
    refine hK25 _ ?_
    refine awp_ret ?_
    try simp only [push_cast]
    refine fin_pure (by (simp (disch := omega) only [Tryd.results5, aresults, aresult, push_cast, and_true, cond_true, cond_false, if_pos, if_neg, ↓reduceIte, Nat.reduceEqDiff, Nat.reduceAdd, Nat.reduceLeDiff, tmod9000, m9_k9, show_none, hz, (back_both ha hb).1, (back_both ha hb).2, (back_user ha).1, (back_user ha).2, (back_group hb).1, (back_group hb).2, bothB_ss, err_d, Option.getD_some, Bool.true_and]) <;> rfl) (by simp only [atuple, AV.er, AV.erL, push_cast]; rfl) (by simp [AV.cl, AV.clL]) (by first | exact ⟨_, rfl⟩ | exact ⟨[], (List.append_nil _).symm⟩) hH (fun _ h => h) ?_
    refine ⟨?_, rfl, rfl⟩
    simp
  simp only [Bool.not_eq_false'] at hb3
  subst hb3
  refine awp_skip ?_
  try simp only [push_cast]
  refine hK19 _ ?_
  refine awp_seq_k fun K26 hK26 => ?_
  refine awp_seq_k fun K27 hK27 => ?_
  refine awp_region_keep [0, 10, 11, 33] ⟨false, [], [], []⟩ (fun h => nomatch h) ?_
  iterate 3 (refine dawp_p rfl (by (simp (disch := omega) only [push_cast, and_true, cond_true, cond_false, if_pos, if_neg, ↓reduceIte, Nat.reduceEqDiff, Nat.reduceAdd, Nat.reduceLeDiff, tmod9000, m9_k9, show_none, hz, (back_both ha hb).1, (back_both ha hb).2, (back_user ha).1, (back_user ha).2, (back_group hb).1, (back_group hb).2, bothB_ss, err_d, Option.getD_some, Bool.true_and]) <;> rfl) rfl rfl ?_)
  iterate 2 (refine dawp_g rfl rfl (by simp only [push_cast, and_true, cond_true, cond_false, if_pos, if_neg, ↓reduceIte, Nat.reduceEqDiff, Nat.reduceAdd, Nat.reduceLeDiff, tmod9000, m9_k9, show_none, hz, (back_both ha hb).1, (back_both ha hb).2, (back_user ha).1, (back_user ha).2, (back_group hb).1, (back_group hb).2, bothB_ss, err_d, Option.getD_some, Bool.true_and]; rfl) (fun hg => by simp (disch := omega) only [hg, push_cast, and_true, cond_true, cond_false, if_pos, if_neg, ↓reduceIte, Nat.reduceEqDiff, Nat.reduceAdd, Nat.reduceLeDiff, tmod9000, m9_k9, show_none, hz, (back_both ha hb).1, (back_both ha hb).2, (back_user ha).1, (back_user ha).2, (back_group hb).1, (back_group hb).2, bothB_ss, err_d, Option.getD_some, Bool.true_and]; rfl) rfl rfl ?_)
  refine dawp_p rfl (by (simp (disch := omega) only [push_cast, and_true, cond_true, cond_false, if_pos, if_neg, ↓reduceIte, Nat.reduceEqDiff, Nat.reduceAdd, Nat.reduceLeDiff, tmod9000, m9_k9, show_none, hz, (back_both ha hb).1, (back_both ha hb).2, (back_user ha).1, (back_user ha).2, (back_group hb).1, (back_group hb).2, bothB_ss, err_d, Option.getD_some, Bool.true_and]) <;> rfl) rfl rfl ?_
  refine dawp_nil ?_
  simp (disch := omega) only [push_cast, and_true, cond_true, cond_false, if_pos, if_neg, ↓reduceIte, Nat.reduceEqDiff, Nat.reduceAdd, Nat.reduceLeDiff, tmod9000, m9_k9, show_none, hz, (back_both ha hb).1, (back_both ha hb).2, (back_user ha).1, (back_user ha).2, (back_group hb).1, (back_group hb).2, bothB_ss, err_d, Option.getD_some, Bool.true_and]
  refine hK27 _ ?_
  refine awp_cond (by (simp (disch := omega) only [push_cast, and_true, cond_true, cond_false, if_pos, if_neg, ↓reduceIte, Nat.reduceEqDiff, Nat.reduceAdd, Nat.reduceLeDiff, tmod9000, m9_k9, show_none, hz, (back_both ha hb).1, (back_both ha hb).2, (back_user ha).1, (back_user ha).2, (back_group hb).1, (back_group hb).2, bothB_ss, err_d, Option.getD_some, Bool.true_and]) <;> rfl) (fun hb4 => ?_) (fun hb4 => ?_)
  · skip
    exfalso; simp at hb4
  refine awp_skip ?_
  try simp only [push_cast]
  refine hK26 _ ?_
  refine awp_seq_k fun K28 hK28 => ?_
  refine awp_region_keep [0, 10, 11, 12, 13, 14] ⟨false, [], [], []⟩ (fun h => nomatch h) ?_
  iterate 2 (refine dawp_p rfl (by (simp (disch := omega) only [push_cast, and_true, cond_true, cond_false, if_pos, if_neg, ↓reduceIte, Nat.reduceEqDiff, Nat.reduceAdd, Nat.reduceLeDiff, tmod9000, m9_k9, show_none, hz, (back_both ha hb).1, (back_both ha hb).2, (back_user ha).1, (back_user ha).2, (back_group hb).1, (back_group hb).2, bothB_ss, err_d, Option.getD_some, Bool.true_and]) <;> rfl) rfl rfl ?_)
  refine dawp_w rfl rfl rfl rfl (AOp.callx _ _ _ rfl (by (simp (disch := omega) only [push_cast, and_true, cond_true, cond_false, if_pos, if_neg, ↓reduceIte, Nat.reduceEqDiff, Nat.reduceAdd, Nat.reduceLeDiff, tmod9000, m9_k9, show_none, hz, (back_both ha hb).1, (back_both ha hb).2, (back_user ha).1, (back_user ha).2, (back_group hb).1, (back_group hb).2, bothB_ss, err_d, Option.getD_some, Bool.true_and]) <;> rfl) (by (simp (disch := omega) only [push_cast, and_true, cond_true, cond_false, if_pos, if_neg, ↓reduceIte, Nat.reduceEqDiff, Nat.reduceAdd, Nat.reduceLeDiff, tmod9000, m9_k9, show_none, hz, (back_both ha hb).1, (back_both ha hb).2, (back_user ha).1, (back_user ha).2, (back_group hb).1, (back_group hb).2, bothB_ss, err_d, Option.getD_some, Bool.true_and]) <;> rfl) ?_)  
  refine (c15 _ _ _ _ htb (by omega) (by omega) (by omega) (by omega)).mono ?_; rintro _ _ _ ⟨rfl, rfl, rfl⟩
  refine dawp_w rfl rfl rfl rfl (AOp.callx _ _ _ rfl (by (simp (disch := omega) only [push_cast, and_true, cond_true, cond_false, if_pos, if_neg, ↓reduceIte, Nat.reduceEqDiff, Nat.reduceAdd, Nat.reduceLeDiff, tmod9000, m9_k9, show_none, hz, (back_both ha hb).1, (back_both ha hb).2, (back_user ha).1, (back_user ha).2, (back_group hb).1, (back_group hb).2, bothB_ss, err_d, Option.getD_some, Bool.true_and]) <;> rfl) (by (simp (disch := omega) only [push_cast, and_true, cond_true, cond_false, if_pos, if_neg, ↓reduceIte, Nat.reduceEqDiff, Nat.reduceAdd, Nat.reduceLeDiff, tmod9000, m9_k9, show_none, hz, (back_both ha hb).1, (back_both ha hb).2, (back_user ha).1, (back_user ha).2, (back_group hb).1, (back_group hb).2, bothB_ss, err_d, Option.getD_some, Bool.true_and]) <;> rfl) ?_)  
  refine (c9 _ _ _ (by omega)).mono ?_; rintro _ _ _ ⟨rfl, rfl, rfl⟩
  iterate 7 (refine dawp_p rfl (by (simp (disch := omega) only [push_cast, and_true, cond_true, cond_false, if_pos, if_neg, ↓reduceIte, Nat.reduceEqDiff, Nat.reduceAdd, Nat.reduceLeDiff, tmod9000, m9_k9, show_none, hz, (back_both ha hb).1, (back_both ha hb).2, (back_user ha).1, (back_user ha).2, (back_group hb).1, (back_group hb).2, bothB_ss, err_d, Option.getD_some, Bool.true_and]) <;> rfl) rfl rfl ?_)
  refine dawp_nil ?_
  simp (disch := omega) only [push_cast, and_true, cond_true, cond_false, if_pos, if_neg, ↓reduceIte, Nat.reduceEqDiff, Nat.reduceAdd, Nat.reduceLeDiff, tmod9000, m9_k9, show_none, hz, (back_both ha hb).1, (back_both ha hb).2, (back_user ha).1, (back_user ha).2, (back_group hb).1, (back_group hb).2, bothB_ss, err_d, Option.getD_some, Bool.true_and]
  refine hK28 _ ?_
  refine awp_seq_k fun K29 hK29 => ?_
  refine awp_region_keep [0, 10, 11, 12, 13, 14, 15, 16] ⟨false, [], [], []⟩ (fun h => nomatch h) ?_
  iterate 4 (refine dawp_p rfl (by (simp (disch := omega) only [push_cast, and_true, cond_true, cond_false, if_pos, if_neg, ↓reduceIte, Nat.reduceEqDiff, Nat.reduceAdd, Nat.reduceLeDiff, tmod9000, m9_k9, show_none, hz, (back_both ha hb).1, (back_both ha hb).2, (back_user ha).1, (back_user ha).2, (back_group hb).1, (back_group hb).2, bothB_ss, err_d, Option.getD_some, Bool.true_and]) <;> rfl) rfl rfl ?_)
  refine dawp_w rfl rfl rfl rfl (AOp.callx _ _ _ rfl (by (simp (disch := omega) only [push_cast, and_true, cond_true, cond_false, if_pos, if_neg, ↓reduceIte, Nat.reduceEqDiff, Nat.reduceAdd, Nat.reduceLeDiff, tmod9000, m9_k9, show_none, hz, (back_both ha hb).1, (back_both ha hb).2, (back_user ha).1, (back_user ha).2, (back_group hb).1, (back_group hb).2, bothB_ss, err_d, Option.getD_some, Bool.true_and]) <;> rfl) (by (simp (disch := omega) only [push_cast, and_true, cond_true, cond_false, if_pos, if_neg, ↓reduceIte, Nat.reduceEqDiff, Nat.reduceAdd, Nat.reduceLeDiff, tmod9000, m9_k9, show_none, hz, (back_both ha hb).1, (back_both ha hb).2, (back_user ha).1, (back_user ha).2, (back_group hb).1, (back_group hb).2, bothB_ss, err_d, Option.getD_some, Bool.true_and]) <;> rfl) ?_)  
  refine (c15 _ _ _ _ htb (by omega) (by omega) (by omega) (by omega)).mono ?_; rintro _ _ _ ⟨rfl, rfl, rfl⟩
  refine dawp_p rfl (by (simp (disch := omega) only [push_cast, and_true, cond_true, cond_false, if_pos, if_neg, ↓reduceIte, Nat.reduceEqDiff, Nat.reduceAdd, Nat.reduceLeDiff, tmod9000, m9_k9, show_none, hz, (back_both ha hb).1, (back_both ha hb).2, (back_user ha).1, (back_user ha).2, (back_group hb).1, (back_group hb).2, bothB_ss, err_d, Option.getD_some, Bool.true_and]) <;> rfl) rfl rfl ?_
  refine dawp_w rfl rfl rfl rfl (AOp.callx _ _ _ rfl (by (simp (disch := omega) only [push_cast, and_true, cond_true, cond_false, if_pos, if_neg, ↓reduceIte, Nat.reduceEqDiff, Nat.reduceAdd, Nat.reduceLeDiff, tmod9000, m9_k9, show_none, hz, (back_both ha hb).1, (back_both ha hb).2, (back_user ha).1, (back_user ha).2, (back_group hb).1, (back_group hb).2, bothB_ss, err_d, Option.getD_some, Bool.true_and]) <;> rfl) (by (simp (disch := omega) only [push_cast, and_true, cond_true, cond_false, if_pos, if_neg, ↓reduceIte, Nat.reduceEqDiff, Nat.reduceAdd, Nat.reduceLeDiff, tmod9000, m9_k9, show_none, hz, (back_both ha hb).1, (back_both ha hb).2, (back_user ha).1, (back_user ha).2, (back_group hb).1, (back_group hb).2, bothB_ss, err_d, Option.getD_some, Bool.true_and]) <;> rfl) ?_)  
  refine (c11 _ _ _ (by simp only [List.length_cons]; omega)).mono ?_; rintro _ _ _ ⟨rfl, rfl, rfl⟩
  iterate 5 (refine dawp_p rfl (by (simp (disch := omega) only [push_cast, and_true, cond_true, cond_false, if_pos, if_neg, ↓reduceIte, Nat.reduceEqDiff, Nat.reduceAdd, Nat.reduceLeDiff, tmod9000, m9_k9, show_none, hz, (back_both ha hb).1, (back_both ha hb).2, (back_user ha).1, (back_user ha).2, (back_group hb).1, (back_group hb).2, bothB_ss, err_d, Option.getD_some, Bool.true_and]) <;> rfl) rfl rfl ?_)
  refine dawp_nil ?_
  simp (disch := omega) only [push_cast, and_true, cond_true, cond_false, if_pos, if_neg, ↓reduceIte, Nat.reduceEqDiff, Nat.reduceAdd, Nat.reduceLeDiff, tmod9000, m9_k9, show_none, hz, (back_both ha hb).1, (back_both ha hb).2, (back_user ha).1, (back_user ha).2, (back_group hb).1, (back_group hb).2, bothB_ss, err_d, Option.getD_some, Bool.true_and]
  refine hK29 _ ?_
  refine awp_seq_k fun K30 hK30 => ?_
  refine awp_region_keep [8] ⟨false, [], [], []⟩ (fun h => nomatch h) ?_
  iterate 4 (refine dawp_p rfl (by (simp (disch := omega) only [push_cast, and_true, cond_true, cond_false, if_pos, if_neg, ↓reduceIte, Nat.reduceEqDiff, Nat.reduceAdd, Nat.reduceLeDiff, tmod9000, m9_k9, show_none, hz, (back_both ha hb).1, (back_both ha hb).2, (back_user ha).1, (back_user ha).2, (back_group hb).1, (back_group hb).2, bothB_ss, err_d, Option.getD_some, Bool.true_and]) <;> rfl) rfl rfl ?_)
  iterate 3 (refine dawp_g rfl rfl (by simp only [push_cast, and_true, cond_true, cond_false, if_pos, if_neg, ↓reduceIte, Nat.reduceEqDiff, Nat.reduceAdd, Nat.reduceLeDiff, tmod9000, m9_k9, show_none, hz, (back_both ha hb).1, (back_both ha hb).2, (back_user ha).1, (back_user ha).2, (back_group hb).1, (back_group hb).2, bothB_ss, err_d, Option.getD_some, Bool.true_and]; rfl) (fun hg => by simp (disch := omega) only [hg, push_cast, and_true, cond_true, cond_false, if_pos, if_neg, ↓reduceIte, Nat.reduceEqDiff, Nat.reduceAdd, Nat.reduceLeDiff, tmod9000, m9_k9, show_none, hz, (back_both ha hb).1, (back_both ha hb).2, (back_user ha).1, (back_user ha).2, (back_group hb).1, (back_group hb).2, bothB_ss, err_d, Option.getD_some, Bool.true_and]; rfl) rfl rfl ?_)
  iterate 2 (refine dawp_p rfl (by (simp (disch := omega) only [push_cast, and_true, cond_true, cond_false, if_pos, if_neg, ↓reduceIte, Nat.reduceEqDiff, Nat.reduceAdd, Nat.reduceLeDiff, tmod9000, m9_k9, show_none, hz, (back_both ha hb).1, (back_both ha hb).2, (back_user ha).1, (back_user ha).2, (back_group hb).1, (back_group hb).2, bothB_ss, err_d, Option.getD_some, Bool.true_and]) <;> rfl) rfl rfl ?_)
  iterate 2 (refine dawp_g rfl rfl (by simp only [push_cast, and_true, cond_true, cond_false, if_pos, if_neg, ↓reduceIte, Nat.reduceEqDiff, Nat.reduceAdd, Nat.reduceLeDiff, tmod9000, m9_k9, show_none, hz, (back_both ha hb).1, (back_both ha hb).2, (back_user ha).1, (back_user ha).2, (back_group hb).1, (back_group hb).2, bothB_ss, err_d, Option.getD_some, Bool.true_and]; rfl) (fun hg => by simp (disch := omega) only [hg, push_cast, and_true, cond_true, cond_false, if_pos, if_neg, ↓reduceIte, Nat.reduceEqDiff, Nat.reduceAdd, Nat.reduceLeDiff, tmod9000, m9_k9, show_none, hz, (back_both ha hb).1, (back_both ha hb).2, (back_user ha).1, (back_user ha).2, (back_group hb).1, (back_group hb).2, bothB_ss, err_d, Option.getD_some, Bool.true_and]; rfl) rfl rfl ?_)
  iterate 2 (refine dawp_p rfl (by (simp (disch := omega) only [push_cast, and_true, cond_true, cond_false, if_pos, if_neg, ↓reduceIte, Nat.reduceEqDiff, Nat.reduceAdd, Nat.reduceLeDiff, tmod9000, m9_k9, show_none, hz, (back_both ha hb).1, (back_both ha hb).2, (back_user ha).1, (back_user ha).2, (back_group hb).1, (back_group hb).2, bothB_ss, err_d, Option.getD_some, Bool.true_and]) <;> rfl) rfl rfl ?_)
  iterate 6 (refine dawp_g rfl rfl (by simp only [push_cast, and_true, cond_true, cond_false, if_pos, if_neg, ↓reduceIte, Nat.reduceEqDiff, Nat.reduceAdd, Nat.reduceLeDiff, tmod9000, m9_k9, show_none, hz, (back_both ha hb).1, (back_both ha hb).2, (back_user ha).1, (back_user ha).2, (back_group hb).1, (back_group hb).2, bothB_ss, err_d, Option.getD_some, Bool.true_and]; rfl) (fun hg => by simp (disch := omega) only [hg, push_cast, and_true, cond_true, cond_false, if_pos, if_neg, ↓reduceIte, Nat.reduceEqDiff, Nat.reduceAdd, Nat.reduceLeDiff, tmod9000, m9_k9, show_none, hz, (back_both ha hb).1, (back_both ha hb).2, (back_user ha).1, (back_user ha).2, (back_group hb).1, (back_group hb).2, bothB_ss, err_d, Option.getD_some, Bool.true_and]; rfl) rfl rfl ?_)
  iterate 2 (refine dawp_p rfl (by (simp (disch := omega) only [push_cast, and_true, cond_true, cond_false, if_pos, if_neg, ↓reduceIte, Nat.reduceEqDiff, Nat.reduceAdd, Nat.reduceLeDiff, tmod9000, m9_k9, show_none, hz, (back_both ha hb).1, (back_both ha hb).2, (back_user ha).1, (back_user ha).2, (back_group hb).1, (back_group hb).2, bothB_ss, err_d, Option.getD_some, Bool.true_and]) <;> rfl) rfl rfl ?_)
  iterate 2 (refine dawp_g rfl rfl (by simp only [push_cast, and_true, cond_true, cond_false, if_pos, if_neg, ↓reduceIte, Nat.reduceEqDiff, Nat.reduceAdd, Nat.reduceLeDiff, tmod9000, m9_k9, show_none, hz, (back_both ha hb).1, (back_both ha hb).2, (back_user ha).1, (back_user ha).2, (back_group hb).1, (back_group hb).2, bothB_ss, err_d, Option.getD_some, Bool.true_and]; rfl) (fun hg => by simp (disch := omega) only [hg, push_cast, and_true, cond_true, cond_false, if_pos, if_neg, ↓reduceIte, Nat.reduceEqDiff, Nat.reduceAdd, Nat.reduceLeDiff, tmod9000, m9_k9, show_none, hz, (back_both ha hb).1, (back_both ha hb).2, (back_user ha).1, (back_user ha).2, (back_group hb).1, (back_group hb).2, bothB_ss, err_d, Option.getD_some, Bool.true_and]; rfl) rfl rfl ?_)
  iterate 2 (refine dawp_p rfl (by (simp (disch := omega) only [push_cast, and_true, cond_true, cond_false, if_pos, if_neg, ↓reduceIte, Nat.reduceEqDiff, Nat.reduceAdd, Nat.reduceLeDiff, tmod9000, m9_k9, show_none, hz, (back_both ha hb).1, (back_both ha hb).2, (back_user ha).1, (back_user ha).2, (back_group hb).1, (back_group hb).2, bothB_ss, err_d, Option.getD_some, Bool.true_and]) <;> rfl) rfl rfl ?_)
  refine dawp_nil ?_
  simp (disch := omega) only [push_cast, and_true, cond_true, cond_false, if_pos, if_neg, ↓reduceIte, Nat.reduceEqDiff, Nat.reduceAdd, Nat.reduceLeDiff, tmod9000, m9_k9, show_none, hz, (back_both ha hb).1, (back_both ha hb).2, (back_user ha).1, (back_user ha).2, (back_group hb).1, (back_group hb).2, bothB_ss, err_d, Option.getD_some, Bool.true_and]
  refine hK30 _ ?_
  refine awp_ret ?_
  try simp only [push_cast]
  refine fin_pure (by (simp (disch := omega) only [Tryd.results5, aresults, aresult, push_cast, and_true, cond_true, cond_false, if_pos, if_neg, ↓reduceIte, Nat.reduceEqDiff, Nat.reduceAdd, Nat.reduceLeDiff, tmod9000, m9_k9, show_none, hz, (back_both ha hb).1, (back_both ha hb).2, (back_user ha).1, (back_user ha).2, (back_group hb).1, (back_group hb).2, bothB_ss, err_d, Option.getD_some, Bool.true_and]) <;> rfl) (by simp only [atuple, AV.er, AV.erL, push_cast]; rfl) (by simp [AV.cl, AV.clL]) (by first | exact ⟨_, rfl⟩ | exact ⟨[], (List.append_nil _).symm⟩) hH (fun _ h => h) ?_
  refine ⟨?_, rfl, rfl⟩
  simp

set_option maxHeartbeats 400000 in
theorem c6 (s t : List UInt8) (h : List Blk) (live : List Nat) (htb : globOf h 1 = some pow10T) : ACalls Tryd.prog 6 [.str s, .str t] h live (ret (.bool true) h live) := by
  refine acalls_of_awp Tryd.func6 rfl rfl (Nat.le_of_ble_eq_true rfl) fun hH hX => ?_
  simp only [fargs]
  refine awp_seq_k fun K1 hK1 => ?_
  refine awp_region_keep [0, 1] ⟨false, [], [], []⟩ (fun h => nomatch h) ?_
  refine dawp_p rfl (by (simp (disch := omega) only [push_cast, and_true, cond_true, cond_false, if_pos, if_neg, ↓reduceIte, Nat.reduceEqDiff, Nat.reduceAdd, Nat.reduceLeDiff, app58, err_d, err22, Bool.true_and, natO_get, bothB_nat, bothB_one]) <;> rfl) rfl rfl ?_
  refine dawp_nil ?_
  simp (disch := omega) only [push_cast, and_true, cond_true, cond_false, if_pos, if_neg, ↓reduceIte, Nat.reduceEqDiff, Nat.reduceAdd, Nat.reduceLeDiff, app58, err_d, err22, Bool.true_and, natO_get, bothB_nat, bothB_one]
  refine hK1 _ ?_
  refine awp_seq_k fun K2 hK2 => ?_
  refine awp_region_keep [0, 1, 5] ⟨false, [], [], []⟩ (fun h => nomatch h) ?_
  refine dawp_w rfl rfl rfl rfl (AOp.callx _ _ _ rfl (by (simp (disch := omega) only [push_cast, and_true, cond_true, cond_false, if_pos, if_neg, ↓reduceIte, Nat.reduceEqDiff, Nat.reduceAdd, Nat.reduceLeDiff, app58, err_d, err22, Bool.true_and, natO_get, bothB_nat, bothB_one]) <;> rfl) (by (simp (disch := omega) only [push_cast, and_true, cond_true, cond_false, if_pos, if_neg, ↓reduceIte, Nat.reduceEqDiff, Nat.reduceAdd, Nat.reduceLeDiff, app58, err_d, err22, Bool.true_and, natO_get, bothB_nat, bothB_one]) <;> rfl) ?_)  
  refine (c8 _ _ htb).mono ?_; rintro _ _ _ ⟨rfl, rfl, rfl⟩
  refine dawp_p rfl (by (simp (disch := omega) only [push_cast, and_true, cond_true, cond_false, if_pos, if_neg, ↓reduceIte, Nat.reduceEqDiff, Nat.reduceAdd, Nat.reduceLeDiff, app58, err_d, err22, Bool.true_and, natO_get, bothB_nat, bothB_one]) <;> rfl) rfl rfl ?_
  refine dawp_nil ?_
  simp (disch := omega) only [push_cast, and_true, cond_true, cond_false, if_pos, if_neg, ↓reduceIte, Nat.reduceEqDiff, Nat.reduceAdd, Nat.reduceLeDiff, app58, err_d, err22, Bool.true_and, natO_get, bothB_nat, bothB_one]
  refine hK2 _ ?_
  refine awp_seq_k fun K3 hK3 => ?_
  refine awp_seq_k fun K4 hK4 => ?_
  refine awp_region_keep [0, 1, 19] ⟨false, [], [], []⟩ (fun h => nomatch h) ?_
  iterate 2 (refine dawp_p rfl (by (simp (disch := omega) only [push_cast, and_true, cond_true, cond_false, if_pos, if_neg, ↓reduceIte, Nat.reduceEqDiff, Nat.reduceAdd, Nat.reduceLeDiff, app58, err_d, err22, Bool.true_and, natO_get, bothB_nat, bothB_one]) <;> rfl) rfl rfl ?_)
  refine dawp_nil ?_
  simp (disch := omega) only [push_cast, and_true, cond_true, cond_false, if_pos, if_neg, ↓reduceIte, Nat.reduceEqDiff, Nat.reduceAdd, Nat.reduceLeDiff, app58, err_d, err22, Bool.true_and, natO_get, bothB_nat, bothB_one]
  refine hK4 _ ?_
  refine awp_cond (by (simp (disch := omega) only [push_cast, and_true, cond_true, cond_false, if_pos, if_neg, ↓reduceIte, Nat.reduceEqDiff, Nat.reduceAdd, Nat.reduceLeDiff, app58, err_d, err22, Bool.true_and, natO_get, bothB_nat, bothB_one]) <;> rfl) (fun hb1 => ?_) (fun hb1 => ?_)
  · skip
    exfalso; simp at hb1
  refine awp_skip ?_
  try simp only [push_cast]
  refine hK3 _ ?_
  refine awp_seq_k fun K5 hK5 => ?_
  refine awp_seq_k fun K6 hK6 => ?_
  refine awp_region_keep [0, 1, 31] ⟨false, [], [], []⟩ (fun h => nomatch h) ?_
  iterate 4 (refine dawp_p rfl (by (simp (disch := omega) only [push_cast, and_true, cond_true, cond_false, if_pos, if_neg, ↓reduceIte, Nat.reduceEqDiff, Nat.reduceAdd, Nat.reduceLeDiff, app58, err_d, err22, Bool.true_and, natO_get, bothB_nat, bothB_one]) <;> rfl) rfl rfl ?_)
  iterate 3 (refine dawp_g rfl rfl (by simp only [push_cast, and_true, cond_true, cond_false, if_pos, if_neg, ↓reduceIte, Nat.reduceEqDiff, Nat.reduceAdd, Nat.reduceLeDiff, app58, err_d, err22, Bool.true_and, natO_get, bothB_nat, bothB_one]; rfl) (fun hg => by simp (disch := omega) only [hg, push_cast, and_true, cond_true, cond_false, if_pos, if_neg, ↓reduceIte, Nat.reduceEqDiff, Nat.reduceAdd, Nat.reduceLeDiff, app58, err_d, err22, Bool.true_and, natO_get, bothB_nat, bothB_one]; rfl) rfl rfl ?_)
  iterate 2 (refine dawp_p rfl (by (simp (disch := omega) only [push_cast, and_true, cond_true, cond_false, if_pos, if_neg, ↓reduceIte, Nat.reduceEqDiff, Nat.reduceAdd, Nat.reduceLeDiff, app58, err_d, err22, Bool.true_and, natO_get, bothB_nat, bothB_one]) <;> rfl) rfl rfl ?_)
  iterate 2 (refine dawp_g rfl rfl (by simp only [push_cast, and_true, cond_true, cond_false, if_pos, if_neg, ↓reduceIte, Nat.reduceEqDiff, Nat.reduceAdd, Nat.reduceLeDiff, app58, err_d, err22, Bool.true_and, natO_get, bothB_nat, bothB_one]; rfl) (fun hg => by simp (disch := omega) only [hg, push_cast, and_true, cond_true, cond_false, if_pos, if_neg, ↓reduceIte, Nat.reduceEqDiff, Nat.reduceAdd, Nat.reduceLeDiff, app58, err_d, err22, Bool.true_and, natO_get, bothB_nat, bothB_one]; rfl) rfl rfl ?_)
  refine dawp_p rfl (by (simp (disch := omega) only [push_cast, and_true, cond_true, cond_false, if_pos, if_neg, ↓reduceIte, Nat.reduceEqDiff, Nat.reduceAdd, Nat.reduceLeDiff, app58, err_d, err22, Bool.true_and, natO_get, bothB_nat, bothB_one]) <;> rfl) rfl rfl ?_
  refine dawp_nil ?_
  simp (disch := omega) only [push_cast, and_true, cond_true, cond_false, if_pos, if_neg, ↓reduceIte, Nat.reduceEqDiff, Nat.reduceAdd, Nat.reduceLeDiff, app58, err_d, err22, Bool.true_and, natO_get, bothB_nat, bothB_one]
  refine hK6 _ ?_
  refine awp_cond (by (simp (disch := omega) only [push_cast, and_true, cond_true, cond_false, if_pos, if_neg, ↓reduceIte, Nat.reduceEqDiff, Nat.reduceAdd, Nat.reduceLeDiff, app58, err_d, err22, Bool.true_and, natO_get, bothB_nat, bothB_one]) <;> rfl) (fun hb2 => ?_) (fun hb2 => ?_)
  · skip
    refine awp_seq_k fun K7 hK7 => ?_
    refine awp_region_keep [4] ⟨false, [], [], []⟩ (fun h => nomatch h) ?_
    refine dawp_p rfl (by (simp (disch := omega) only [push_cast, and_true, cond_true, cond_false, if_pos, if_neg, ↓reduceIte, Nat.reduceEqDiff, Nat.reduceAdd, Nat.reduceLeDiff, app58, err_d, err22, Bool.true_and, natO_get, bothB_nat, bothB_one]) <;> rfl) rfl rfl ?_
    refine dawp_nil ?_
    simp (disch := omega) only [push_cast, and_true, cond_true, cond_false, if_pos, if_neg, ↓reduceIte, Nat.reduceEqDiff, Nat.reduceAdd, Nat.reduceLeDiff, app58, err_d, err22, Bool.true_and, natO_get, bothB_nat, bothB_one]
    refine hK7 _ ?_
    refine awp_ret ?_
    try simp only [push_cast]
    refine fin_pure (by (simp (disch := omega) only [Tryd.results6, aresults, aresult, push_cast, and_true, cond_true, cond_false, if_pos, if_neg, ↓reduceIte, Nat.reduceEqDiff, Nat.reduceAdd, Nat.reduceLeDiff, app58, err_d, err22, Bool.true_and, natO_get, bothB_nat, bothB_one]) <;> rfl) (by simp only [atuple, AV.er, AV.erL, push_cast]; rfl) (by simp [AV.cl, AV.clL]) (by first | exact ⟨_, rfl⟩ | exact ⟨[], (List.append_nil _).symm⟩) hH (fun _ h => h) ?_
    exact ⟨rfl, rfl, rfl⟩
  try simp only [decide_eq_true_eq, decide_eq_false_iff_not, Bool.not_eq_true', Bool.not_eq_false', Bool.or_eq_true, Bool.and_eq_true, Bool.or_eq_false_iff, Bool.and_eq_false_imp, Int.not_lt, Int.not_le] at hb2
  refine awp_skip ?_
  try simp only [push_cast]
  refine hK5 _ ?_
  refine awp_seq_k fun K8 hK8 => ?_
  refine awp_seq_k fun K9 hK9 => ?_
  refine awp_region_keep [0, 1, 6] ⟨false, [], [], []⟩ (fun h => nomatch h) ?_
  refine dawp_p rfl (by (simp (disch := omega) only [push_cast, and_true, cond_true, cond_false, if_pos, if_neg, ↓reduceIte, Nat.reduceEqDiff, Nat.reduceAdd, Nat.reduceLeDiff, app58, err_d, err22, Bool.true_and, natO_get, bothB_nat, bothB_one]) <;> rfl) rfl rfl ?_
  refine dawp_nil ?_
  simp (disch := omega) only [push_cast, and_true, cond_true, cond_false, if_pos, if_neg, ↓reduceIte, Nat.reduceEqDiff, Nat.reduceAdd, Nat.reduceLeDiff, app58, err_d, err22, Bool.true_and, natO_get, bothB_nat, bothB_one]
  refine hK9 _ ?_
  refine awp_block ?_
  refine awp_loop' (X := {i : Nat // i ≤ s.length ∧ ∀ j, j < i → s.getD j 0 ≠ 58}) (fun x => ⟨Tryd.f6.ntmps, fget [(0, .str s), (1, .str t), (6, .int .i64 (x.1 : Nat))], h, live⟩) (fun x => s.length - x.1) (⟨0, by omega, fun j hj => by omega⟩) ?_ (by first | rfl | simp only [List.length_set]) (fun ⟨i, hi, hn⟩ => ?_)
  · skip
    dsimp only
    refine Trunc.same ?_ hH
    refine FTr.cons (by first | rfl | (simp (disch := omega) only [push_cast, and_true, cond_true, cond_false, if_pos, if_neg, ↓reduceIte, Nat.reduceEqDiff, Nat.reduceAdd, Nat.reduceLeDiff, app58, err_d, err22, Bool.true_and, natO_get, bothB_nat, bothB_one]; rfl)) (by simp [AV.cl, AV.clL, clL_str]) ?_
    refine FTr.cons (by first | rfl | (simp (disch := omega) only [push_cast, and_true, cond_true, cond_false, if_pos, if_neg, ↓reduceIte, Nat.reduceEqDiff, Nat.reduceAdd, Nat.reduceLeDiff, app58, err_d, err22, Bool.true_and, natO_get, bothB_nat, bothB_one]; rfl)) (by simp [AV.cl, AV.clL, clL_str]) ?_
    refine FTr.cons (by first | rfl | (simp (disch := omega) only [push_cast, and_true, cond_true, cond_false, if_pos, if_neg, ↓reduceIte, Nat.reduceEqDiff, Nat.reduceAdd, Nat.reduceLeDiff, app58, err_d, err22, Bool.true_and, natO_get, bothB_nat, bothB_one]; rfl)) (by simp [AV.cl, AV.clL, clL_str]) ?_
    exact FTr.nil
  dsimp only
  refine awp_seq_k fun K10 hK10 => ?_
  refine awp_seq_k fun K11 hK11 => ?_
  refine awp_region_keep [0, 1, 6, 35] ⟨false, [], [], []⟩ (fun h => nomatch h) ?_
  iterate 4 (refine dawp_p rfl (by (simp (disch := omega) only [push_cast, and_true, cond_true, cond_false, if_pos, if_neg, ↓reduceIte, Nat.reduceEqDiff, Nat.reduceAdd, Nat.reduceLeDiff, app58, err_d, err22, Bool.true_and, natO_get, bothB_nat, bothB_one]) <;> rfl) rfl rfl ?_)
  refine dawp_nil ?_
  simp (disch := omega) only [push_cast, and_true, cond_true, cond_false, if_pos, if_neg, ↓reduceIte, Nat.reduceEqDiff, Nat.reduceAdd, Nat.reduceLeDiff, app58, err_d, err22, Bool.true_and, natO_get, bothB_nat, bothB_one]
  refine hK11 _ ?_
  refine awp_cond (by (simp (disch := omega) only [push_cast, and_true, cond_true, cond_false, if_pos, if_neg, ↓reduceIte, Nat.reduceEqDiff, Nat.reduceAdd, Nat.reduceLeDiff, app58, err_d, err22, Bool.true_and, natO_get, bothB_nat, bothB_one]) <;> rfl) (fun hb3 => ?_) (fun hb3 => ?_)
  rotate_left
  · skip
    simp only [decide_eq_true_eq, decide_eq_false_iff_not, Bool.not_eq_true', Bool.not_eq_false', Bool.or_eq_true, Bool.and_eq_true, Bool.or_eq_false_iff, Bool.and_eq_false_imp, Int.not_lt, Int.not_le] at hb3
    have hno : ∀ c ∈ s, c ≠ 58 := fun c hc => by
      obtain ⟨j, hj, rfl⟩ := List.mem_iff_getElem.1 hc
      have := hn j (by omega)
      simpa [List.getD_eq_getElem?_getD, hj] using this
    have hAu : ownU (s ++ 58 :: t) = natO (numF usersL s) := by rw [(own_app hno).1, if_neg hb2.2]
    have hAg := (own_app (b := t) hno).2
    obtain ⟨hNu, hNg⟩ := own_none (idx_no hno)
    obtain ⟨⟨hsl, htl⟩, hs0⟩ := hb2
    refine awp_exit ?_
    simp (disch := omega) only [push_cast, and_true, cond_true, cond_false, if_pos, if_neg, ↓reduceIte, Nat.reduceEqDiff, Nat.reduceAdd, Nat.reduceLeDiff, app58, err_d, err22, Bool.true_and, natO_get, bothB_nat, bothB_one]
    refine hK8 _ ?_
    refine awp_seq_k fun K12 hK12 => ?_
    refine awp_region_keep [0, 1, 7, 8] ⟨false, [], [], []⟩ (fun h => nomatch h) ?_
    refine dawp_p rfl (by (simp (disch := omega) only [push_cast, and_true, cond_true, cond_false, if_pos, if_neg, ↓reduceIte, Nat.reduceEqDiff, Nat.reduceAdd, Nat.reduceLeDiff, app58, err_d, err22, Bool.true_and, natO_get, bothB_nat, bothB_one]) <;> rfl) rfl rfl ?_
    refine dawp_w rfl rfl rfl rfl (AOp.callx _ _ _ rfl (by (simp (disch := omega) only [push_cast, and_true, cond_true, cond_false, if_pos, if_neg, ↓reduceIte, Nat.reduceEqDiff, Nat.reduceAdd, Nat.reduceLeDiff, app58, err_d, err22, Bool.true_and, natO_get, bothB_nat, bothB_one]) <;> rfl) (by (simp (disch := omega) only [push_cast, and_true, cond_true, cond_false, if_pos, if_neg, ↓reduceIte, Nat.reduceEqDiff, Nat.reduceAdd, Nat.reduceLeDiff, app58, err_d, err22, Bool.true_and, natO_get, bothB_nat, bothB_one]) <;> rfl) ?_)  
    refine (c11 s _ _ (by omega)).mono ?_; rintro _ _ _ ⟨rfl, rfl, rfl⟩
    iterate 5 (refine dawp_p rfl (by (simp (disch := omega) only [push_cast, and_true, cond_true, cond_false, if_pos, if_neg, ↓reduceIte, Nat.reduceEqDiff, Nat.reduceAdd, Nat.reduceLeDiff, app58, err_d, err22, Bool.true_and, natO_get, bothB_nat, bothB_one]) <;> rfl) rfl rfl ?_)
    refine dawp_nil ?_
    simp (disch := omega) only [push_cast, and_true, cond_true, cond_false, if_pos, if_neg, ↓reduceIte, Nat.reduceEqDiff, Nat.reduceAdd, Nat.reduceLeDiff, app58, err_d, err22, Bool.true_and, natO_get, bothB_nat, bothB_one]
    refine hK12 _ ?_
    refine awp_seq_k fun K13 hK13 => ?_
    refine awp_region_keep [0, 1, 7, 8, 9, 10] ⟨false, [], [], []⟩ (fun h => nomatch h) ?_
    refine dawp_p rfl (by (simp (disch := omega) only [push_cast, and_true, cond_true, cond_false, if_pos, if_neg, ↓reduceIte, Nat.reduceEqDiff, Nat.reduceAdd, Nat.reduceLeDiff, app58, err_d, err22, Bool.true_and, natO_get, bothB_nat, bothB_one]) <;> rfl) rfl rfl ?_
    refine dawp_w rfl rfl rfl rfl (AOp.callx _ _ _ rfl (by (simp (disch := omega) only [push_cast, and_true, cond_true, cond_false, if_pos, if_neg, ↓reduceIte, Nat.reduceEqDiff, Nat.reduceAdd, Nat.reduceLeDiff, app58, err_d, err22, Bool.true_and, natO_get, bothB_nat, bothB_one]) <;> rfl) (by (simp (disch := omega) only [push_cast, and_true, cond_true, cond_false, if_pos, if_neg, ↓reduceIte, Nat.reduceEqDiff, Nat.reduceAdd, Nat.reduceLeDiff, app58, err_d, err22, Bool.true_and, natO_get, bothB_nat, bothB_one]) <;> rfl) ?_)  
    refine (c12 t _ _ (by omega)).mono ?_; rintro _ _ _ ⟨rfl, rfl, rfl⟩
    iterate 5 (refine dawp_p rfl (by (simp (disch := omega) only [push_cast, and_true, cond_true, cond_false, if_pos, if_neg, ↓reduceIte, Nat.reduceEqDiff, Nat.reduceAdd, Nat.reduceLeDiff, app58, err_d, err22, Bool.true_and, natO_get, bothB_nat, bothB_one]) <;> rfl) rfl rfl ?_)
    refine dawp_nil ?_
    simp (disch := omega) only [push_cast, and_true, cond_true, cond_false, if_pos, if_neg, ↓reduceIte, Nat.reduceEqDiff, Nat.reduceAdd, Nat.reduceLeDiff, app58, err_d, err22, Bool.true_and, natO_get, bothB_nat, bothB_one]
    refine hK13 _ ?_
    refine awp_seq_k fun K14 hK14 => ?_
    refine awp_region_keep [0, 7, 8, 9, 10, 11, 12, 13] ⟨false, [], [], []⟩ (fun h => nomatch h) ?_
    iterate 4 (refine dawp_p rfl (by (simp (disch := omega) only [push_cast, and_true, cond_true, cond_false, if_pos, if_neg, ↓reduceIte, Nat.reduceEqDiff, Nat.reduceAdd, Nat.reduceLeDiff, app58, err_d, err22, Bool.true_and, natO_get, bothB_nat, bothB_one]) <;> rfl) rfl rfl ?_)
    refine dawp_w rfl rfl rfl rfl (AOp.callx _ _ _ rfl (by (simp (disch := omega) only [push_cast, and_true, cond_true, cond_false, if_pos, if_neg, ↓reduceIte, Nat.reduceEqDiff, Nat.reduceAdd, Nat.reduceLeDiff, app58, err_d, err22, Bool.true_and, natO_get, bothB_nat, bothB_one]) <;> rfl) (by (simp (disch := omega) only [push_cast, and_true, cond_true, cond_false, if_pos, if_neg, ↓reduceIte, Nat.reduceEqDiff, Nat.reduceAdd, Nat.reduceLeDiff, app58, err_d, err22, Bool.true_and, natO_get, bothB_nat, bothB_one]) <;> rfl) ?_)  
    refine (c9 _ _ _ (by simp only [List.length_append, List.length_cons]; omega)).mono ?_; rintro _ _ _ ⟨rfl, rfl, rfl⟩
    refine dawp_p rfl (by (simp (disch := omega) only [push_cast, and_true, cond_true, cond_false, if_pos, if_neg, ↓reduceIte, Nat.reduceEqDiff, Nat.reduceAdd, Nat.reduceLeDiff, app58, err_d, err22, Bool.true_and, natO_get, bothB_nat, bothB_one]) <;> rfl) rfl rfl ?_
    iterate 3 (refine dawp_p rfl (by (simp (disch := omega) only [hAu, hAg, push_cast, and_true, cond_true, cond_false, if_pos, if_neg, ↓reduceIte, Nat.reduceEqDiff, Nat.reduceAdd, Nat.reduceLeDiff, app58, err_d, err22, Bool.true_and, natO_get, bothB_nat, bothB_one]) <;> rfl) rfl rfl ?_)
    iterate 3 (refine dawp_p rfl (by (simp (disch := omega) only [push_cast, and_true, cond_true, cond_false, if_pos, if_neg, ↓reduceIte, Nat.reduceEqDiff, Nat.reduceAdd, Nat.reduceLeDiff, app58, err_d, err22, Bool.true_and, natO_get, bothB_nat, bothB_one]) <;> rfl) rfl rfl ?_)
    refine dawp_nil ?_
    simp (disch := omega) only [push_cast, and_true, cond_true, cond_false, if_pos, if_neg, ↓reduceIte, Nat.reduceEqDiff, Nat.reduceAdd, Nat.reduceLeDiff, app58, err_d, err22, Bool.true_and, natO_get, bothB_nat, bothB_one]
    refine hK14 _ ?_
    refine awp_seq_k fun K15 hK15 => ?_
    refine awp_region_keep [7, 8, 9, 10, 11, 12, 13, 14, 15, 16] ⟨false, [], [], []⟩ (fun h => nomatch h) ?_
    refine dawp_p rfl (by (simp (disch := omega) only [push_cast, and_true, cond_true, cond_false, if_pos, if_neg, ↓reduceIte, Nat.reduceEqDiff, Nat.reduceAdd, Nat.reduceLeDiff, app58, err_d, err22, Bool.true_and, natO_get, bothB_nat, bothB_one]) <;> rfl) rfl rfl ?_
    refine dawp_w rfl rfl rfl rfl (AOp.callx _ _ _ rfl (by (simp (disch := omega) only [push_cast, and_true, cond_true, cond_false, if_pos, if_neg, ↓reduceIte, Nat.reduceEqDiff, Nat.reduceAdd, Nat.reduceLeDiff, app58, err_d, err22, Bool.true_and, natO_get, bothB_nat, bothB_one]) <;> rfl) (by (simp (disch := omega) only [push_cast, and_true, cond_true, cond_false, if_pos, if_neg, ↓reduceIte, Nat.reduceEqDiff, Nat.reduceAdd, Nat.reduceLeDiff, app58, err_d, err22, Bool.true_and, natO_get, bothB_nat, bothB_one]) <;> rfl) ?_)  
    refine (c9 s _ _ (by omega)).mono ?_; rintro _ _ _ ⟨rfl, rfl, rfl⟩
    refine dawp_p rfl (by (simp (disch := omega) only [push_cast, and_true, cond_true, cond_false, if_pos, if_neg, ↓reduceIte, Nat.reduceEqDiff, Nat.reduceAdd, Nat.reduceLeDiff, app58, err_d, err22, Bool.true_and, natO_get, bothB_nat, bothB_one]) <;> rfl) rfl rfl ?_
    iterate 3 (refine dawp_p rfl (by (simp (disch := omega) only [hNu, hNg, push_cast, and_true, cond_true, cond_false, if_pos, if_neg, ↓reduceIte, Nat.reduceEqDiff, Nat.reduceAdd, Nat.reduceLeDiff, app58, err_d, err22, Bool.true_and, natO_get, bothB_nat, bothB_one]) <;> rfl) rfl rfl ?_)
    iterate 3 (refine dawp_p rfl (by (simp (disch := omega) only [push_cast, and_true, cond_true, cond_false, if_pos, if_neg, ↓reduceIte, Nat.reduceEqDiff, Nat.reduceAdd, Nat.reduceLeDiff, app58, err_d, err22, Bool.true_and, natO_get, bothB_nat, bothB_one]) <;> rfl) rfl rfl ?_)
    refine dawp_nil ?_
    simp (disch := omega) only [push_cast, and_true, cond_true, cond_false, if_pos, if_neg, ↓reduceIte, Nat.reduceEqDiff, Nat.reduceAdd, Nat.reduceLeDiff, app58, err_d, err22, Bool.true_and, natO_get, bothB_nat, bothB_one]
    refine hK15 _ ?_
    refine awp_seq_k fun K16 hK16 => ?_
    refine awp_seq_k fun K17 hK17 => ?_
    refine awp_region_keep [7, 9, 10, 11, 12, 13, 14, 15, 16, 68] ⟨false, [], [], []⟩ (fun h => nomatch h) ?_
    iterate 2 (refine dawp_p rfl (by (simp (disch := omega) only [push_cast, and_true, cond_true, cond_false, if_pos, if_neg, ↓reduceIte, Nat.reduceEqDiff, Nat.reduceAdd, Nat.reduceLeDiff, app58, err_d, err22, Bool.true_and, natO_get, bothB_nat, bothB_one]) <;> rfl) rfl rfl ?_)
    refine dawp_nil ?_
    simp (disch := omega) only [push_cast, and_true, cond_true, cond_false, if_pos, if_neg, ↓reduceIte, Nat.reduceEqDiff, Nat.reduceAdd, Nat.reduceLeDiff, app58, err_d, err22, Bool.true_and, natO_get, bothB_nat, bothB_one]
    refine hK17 _ ?_
    refine awp_cond (by (simp (disch := omega) only [push_cast, and_true, cond_true, cond_false, if_pos, if_neg, ↓reduceIte, Nat.reduceEqDiff, Nat.reduceAdd, Nat.reduceLeDiff, app58, err_d, err22, Bool.true_and, natO_get, bothB_nat, bothB_one]) <;> rfl) (fun hb5 => ?_) (fun hb5 => ?_)
    · skip
      refine awp_seq_k fun K18 hK18 => ?_
      refine awp_region_keep [4] ⟨false, [], [], []⟩ (fun h => nomatch h) ?_
      iterate 3 (refine dawp_p rfl (by (simp (disch := omega) only [push_cast, and_true, cond_true, cond_false, if_pos, if_neg, ↓reduceIte, Nat.reduceEqDiff, Nat.reduceAdd, Nat.reduceLeDiff, app58, err_d, err22, Bool.true_and, natO_get, bothB_nat, bothB_one]) <;> rfl) rfl rfl ?_)
      iterate 2 (refine dawp_g rfl rfl (by simp only [push_cast, and_true, cond_true, cond_false, if_pos, if_neg, ↓reduceIte, Nat.reduceEqDiff, Nat.reduceAdd, Nat.reduceLeDiff, app58, err_d, err22, Bool.true_and, natO_get, bothB_nat, bothB_one]; rfl) (fun hg => by simp (disch := omega) only [hg, push_cast, and_true, cond_true, cond_false, if_pos, if_neg, ↓reduceIte, Nat.reduceEqDiff, Nat.reduceAdd, Nat.reduceLeDiff, app58, err_d, err22, Bool.true_and, natO_get, bothB_nat, bothB_one]; rfl) rfl rfl ?_)
      iterate 2 (refine dawp_p rfl (by (simp (disch := omega) only [push_cast, and_true, cond_true, cond_false, if_pos, if_neg, ↓reduceIte, Nat.reduceEqDiff, Nat.reduceAdd, Nat.reduceLeDiff, app58, err_d, err22, Bool.true_and, natO_get, bothB_nat, bothB_one]) <;> rfl) rfl rfl ?_)
      iterate 2 (refine dawp_g rfl rfl (by simp only [push_cast, and_true, cond_true, cond_false, if_pos, if_neg, ↓reduceIte, Nat.reduceEqDiff, Nat.reduceAdd, Nat.reduceLeDiff, app58, err_d, err22, Bool.true_and, natO_get, bothB_nat, bothB_one]; rfl) (fun hg => by simp (disch := omega) only [hg, push_cast, and_true, cond_true, cond_false, if_pos, if_neg, ↓reduceIte, Nat.reduceEqDiff, Nat.reduceAdd, Nat.reduceLeDiff, app58, err_d, err22, Bool.true_and, natO_get, bothB_nat, bothB_one]; rfl) rfl rfl ?_)
      iterate 2 (refine dawp_p rfl (by (simp (disch := omega) only [push_cast, and_true, cond_true, cond_false, if_pos, if_neg, ↓reduceIte, Nat.reduceEqDiff, Nat.reduceAdd, Nat.reduceLeDiff, app58, err_d, err22, Bool.true_and, natO_get, bothB_nat, bothB_one]) <;> rfl) rfl rfl ?_)
      iterate 2 (refine dawp_g rfl rfl (by simp only [push_cast, and_true, cond_true, cond_false, if_pos, if_neg, ↓reduceIte, Nat.reduceEqDiff, Nat.reduceAdd, Nat.reduceLeDiff, app58, err_d, err22, Bool.true_and, natO_get, bothB_nat, bothB_one]; rfl) (fun hg => by simp (disch := omega) only [hg, push_cast, and_true, cond_true, cond_false, if_pos, if_neg, ↓reduceIte, Nat.reduceEqDiff, Nat.reduceAdd, Nat.reduceLeDiff, app58, err_d, err22, Bool.true_and, natO_get, bothB_nat, bothB_one]; rfl) rfl rfl ?_)
      iterate 2 (refine dawp_p rfl (by (simp (disch := omega) only [push_cast, and_true, cond_true, cond_false, if_pos, if_neg, ↓reduceIte, Nat.reduceEqDiff, Nat.reduceAdd, Nat.reduceLeDiff, app58, err_d, err22, Bool.true_and, natO_get, bothB_nat, bothB_one]) <;> rfl) rfl rfl ?_)
      refine dawp_nil ?_
      simp (disch := omega) only [push_cast, and_true, cond_true, cond_false, if_pos, if_neg, ↓reduceIte, Nat.reduceEqDiff, Nat.reduceAdd, Nat.reduceLeDiff, app58, err_d, err22, Bool.true_and, natO_get, bothB_nat, bothB_one]
      refine hK18 _ ?_
      refine awp_ret ?_
      try simp only [push_cast]
      refine fin_pure (by (simp (disch := omega) only [Tryd.results6, aresults, aresult, push_cast, and_true, cond_true, cond_false, if_pos, if_neg, ↓reduceIte, Nat.reduceEqDiff, Nat.reduceAdd, Nat.reduceLeDiff, app58, err_d, err22, Bool.true_and, natO_get, bothB_nat, bothB_one]) <;> rfl) (by simp only [atuple, AV.er, AV.erL, push_cast]; rfl) (by simp [AV.cl, AV.clL]) (by first | exact ⟨_, rfl⟩ | exact ⟨[], (List.append_nil _).symm⟩) hH (fun _ h => h) ?_
      refine ⟨?_, rfl, rfl⟩
      clear hAu hAg hNu hNg
      first | (revert hb6 hb5; cases numF usersL s <;> cases numF groupsL t <;> simp; done) | (revert hb5; cases numF usersL s <;> cases numF groupsL t <;> simp; done)
    refine awp_skip ?_
    try simp only [push_cast]
    refine hK16 _ ?_
    refine awp_seq_k fun K19 hK19 => ?_
    refine awp_seq_k fun K20 hK20 => ?_
    refine awp_region_keep [7, 9, 11, 12, 13, 14, 15, 16, 84] ⟨false, [], [], []⟩ (fun h => nomatch h) ?_
    iterate 2 (refine dawp_p rfl (by (simp (disch := omega) only [push_cast, and_true, cond_true, cond_false, if_pos, if_neg, ↓reduceIte, Nat.reduceEqDiff, Nat.reduceAdd, Nat.reduceLeDiff, app58, err_d, err22, Bool.true_and, natO_get, bothB_nat, bothB_one]) <;> rfl) rfl rfl ?_)
    refine dawp_nil ?_
    simp (disch := omega) only [push_cast, and_true, cond_true, cond_false, if_pos, if_neg, ↓reduceIte, Nat.reduceEqDiff, Nat.reduceAdd, Nat.reduceLeDiff, app58, err_d, err22, Bool.true_and, natO_get, bothB_nat, bothB_one]
    refine hK20 _ ?_
    refine awp_cond (by (simp (disch := omega) only [push_cast, and_true, cond_true, cond_false, if_pos, if_neg, ↓reduceIte, Nat.reduceEqDiff, Nat.reduceAdd, Nat.reduceLeDiff, app58, err_d, err22, Bool.true_and, natO_get, bothB_nat, bothB_one]) <;> rfl) (fun hb6 => ?_) (fun hb6 => ?_)
    · skip
      refine awp_seq_k fun K21 hK21 => ?_
      refine awp_region_keep [4] ⟨false, [], [], []⟩ (fun h => nomatch h) ?_
      iterate 3 (refine dawp_p rfl (by (simp (disch := omega) only [push_cast, and_true, cond_true, cond_false, if_pos, if_neg, ↓reduceIte, Nat.reduceEqDiff, Nat.reduceAdd, Nat.reduceLeDiff, app58, err_d, err22, Bool.true_and, natO_get, bothB_nat, bothB_one]) <;> rfl) rfl rfl ?_)
      iterate 2 (refine dawp_g rfl rfl (by simp only [push_cast, and_true, cond_true, cond_false, if_pos, if_neg, ↓reduceIte, Nat.reduceEqDiff, Nat.reduceAdd, Nat.reduceLeDiff, app58, err_d, err22, Bool.true_and, natO_get, bothB_nat, bothB_one]; rfl) (fun hg => by simp (disch := omega) only [hg, push_cast, and_true, cond_true, cond_false, if_pos, if_neg, ↓reduceIte, Nat.reduceEqDiff, Nat.reduceAdd, Nat.reduceLeDiff, app58, err_d, err22, Bool.true_and, natO_get, bothB_nat, bothB_one]; rfl) rfl rfl ?_)
      iterate 2 (refine dawp_p rfl (by (simp (disch := omega) only [push_cast, and_true, cond_true, cond_false, if_pos, if_neg, ↓reduceIte, Nat.reduceEqDiff, Nat.reduceAdd, Nat.reduceLeDiff, app58, err_d, err22, Bool.true_and, natO_get, bothB_nat, bothB_one]) <;> rfl) rfl rfl ?_)
      iterate 2 (refine dawp_g rfl rfl (by simp only [push_cast, and_true, cond_true, cond_false, if_pos, if_neg, ↓reduceIte, Nat.reduceEqDiff, Nat.reduceAdd, Nat.reduceLeDiff, app58, err_d, err22, Bool.true_and, natO_get, bothB_nat, bothB_one]; rfl) (fun hg => by simp (disch := omega) only [hg, push_cast, and_true, cond_true, cond_false, if_pos, if_neg, ↓reduceIte, Nat.reduceEqDiff, Nat.reduceAdd, Nat.reduceLeDiff, app58, err_d, err22, Bool.true_and, natO_get, bothB_nat, bothB_one]; rfl) rfl rfl ?_)
      iterate 2 (refine dawp_p rfl (by (simp (disch := omega) only [push_cast, and_true, cond_true, cond_false, if_pos, if_neg, ↓reduceIte, Nat.reduceEqDiff, Nat.reduceAdd, Nat.reduceLeDiff, app58, err_d, err22, Bool.true_and, natO_get, bothB_nat, bothB_one]) <;> rfl) rfl rfl ?_)
      iterate 2 (refine dawp_g rfl rfl (by simp only [push_cast, and_true, cond_true, cond_false, if_pos, if_neg, ↓reduceIte, Nat.reduceEqDiff, Nat.reduceAdd, Nat.reduceLeDiff, app58, err_d, err22, Bool.true_and, natO_get, bothB_nat, bothB_one]; rfl) (fun hg => by simp (disch := omega) only [hg, push_cast, and_true, cond_true, cond_false, if_pos, if_neg, ↓reduceIte, Nat.reduceEqDiff, Nat.reduceAdd, Nat.reduceLeDiff, app58, err_d, err22, Bool.true_and, natO_get, bothB_nat, bothB_one]; rfl) rfl rfl ?_)
      iterate 2 (refine dawp_p rfl (by (simp (disch := omega) only [push_cast, and_true, cond_true, cond_false, if_pos, if_neg, ↓reduceIte, Nat.reduceEqDiff, Nat.reduceAdd, Nat.reduceLeDiff, app58, err_d, err22, Bool.true_and, natO_get, bothB_nat, bothB_one]) <;> rfl) rfl rfl ?_)
      iterate 3 (refine dawp_g rfl rfl (by simp only [push_cast, and_true, cond_true, cond_false, if_pos, if_neg, ↓reduceIte, Nat.reduceEqDiff, Nat.reduceAdd, Nat.reduceLeDiff, app58, err_d, err22, Bool.true_and, natO_get, bothB_nat, bothB_one]; rfl) (fun hg => by simp (disch := omega) only [hg, push_cast, and_true, cond_true, cond_false, if_pos, if_neg, ↓reduceIte, Nat.reduceEqDiff, Nat.reduceAdd, Nat.reduceLeDiff, app58, err_d, err22, Bool.true_and, natO_get, bothB_nat, bothB_one]; rfl) rfl rfl ?_)
      iterate 2 (refine dawp_p rfl (by (simp (disch := omega) only [push_cast, and_true, cond_true, cond_false, if_pos, if_neg, ↓reduceIte, Nat.reduceEqDiff, Nat.reduceAdd, Nat.reduceLeDiff, app58, err_d, err22, Bool.true_and, natO_get, bothB_nat, bothB_one]) <;> rfl) rfl rfl ?_)
      iterate 2 (refine dawp_g rfl rfl (by simp only [push_cast, and_true, cond_true, cond_false, if_pos, if_neg, ↓reduceIte, Nat.reduceEqDiff, Nat.reduceAdd, Nat.reduceLeDiff, app58, err_d, err22, Bool.true_and, natO_get, bothB_nat, bothB_one]; rfl) (fun hg => by simp (disch := omega) only [hg, push_cast, and_true, cond_true, cond_false, if_pos, if_neg, ↓reduceIte, Nat.reduceEqDiff, Nat.reduceAdd, Nat.reduceLeDiff, app58, err_d, err22, Bool.true_and, natO_get, bothB_nat, bothB_one]; rfl) rfl rfl ?_)
      iterate 2 (refine dawp_p rfl (by (simp (disch := omega) only [push_cast, and_true, cond_true, cond_false, if_pos, if_neg, ↓reduceIte, Nat.reduceEqDiff, Nat.reduceAdd, Nat.reduceLeDiff, app58, err_d, err22, Bool.true_and, natO_get, bothB_nat, bothB_one]) <;> rfl) rfl rfl ?_)
      refine dawp_nil ?_
      simp (disch := omega) only [push_cast, and_true, cond_true, cond_false, if_pos, if_neg, ↓reduceIte, Nat.reduceEqDiff, Nat.reduceAdd, Nat.reduceLeDiff, app58, err_d, err22, Bool.true_and, natO_get, bothB_nat, bothB_one]
      refine hK21 _ ?_
      refine awp_ret ?_
      try simp only [push_cast]
      refine fin_pure (by (simp (disch := omega) only [Tryd.results6, aresults, aresult, push_cast, and_true, cond_true, cond_false, if_pos, if_neg, ↓reduceIte, Nat.reduceEqDiff, Nat.reduceAdd, Nat.reduceLeDiff, app58, err_d, err22, Bool.true_and, natO_get, bothB_nat, bothB_one]) <;> rfl) (by simp only [atuple, AV.er, AV.erL, push_cast]; rfl) (by simp [AV.cl, AV.clL]) (by first | exact ⟨_, rfl⟩ | exact ⟨[], (List.append_nil _).symm⟩) hH (fun _ h => h) ?_
      refine ⟨?_, rfl, rfl⟩
      clear hAu hAg hNu hNg
      first | (revert hb6 hb5; cases numF usersL s <;> cases numF groupsL t <;> simp; done) | (revert hb5; cases numF usersL s <;> cases numF groupsL t <;> simp; done)
    refine awp_skip ?_
    try simp only [push_cast]
    refine hK19 _ ?_
    refine awp_seq_k fun K22 hK22 => ?_
    refine awp_region_keep [4] ⟨false, [], [], []⟩ (fun h => nomatch h) ?_
    iterate 3 (refine dawp_p rfl (by (simp (disch := omega) only [push_cast, and_true, cond_true, cond_false, if_pos, if_neg, ↓reduceIte, Nat.reduceEqDiff, Nat.reduceAdd, Nat.reduceLeDiff, app58, err_d, err22, Bool.true_and, natO_get, bothB_nat, bothB_one]) <;> rfl) rfl rfl ?_)
    iterate 3 (refine dawp_g rfl rfl (by simp only [push_cast, and_true, cond_true, cond_false, if_pos, if_neg, ↓reduceIte, Nat.reduceEqDiff, Nat.reduceAdd, Nat.reduceLeDiff, app58, err_d, err22, Bool.true_and, natO_get, bothB_nat, bothB_one]; rfl) (fun hg => by simp (disch := omega) only [hg, push_cast, and_true, cond_true, cond_false, if_pos, if_neg, ↓reduceIte, Nat.reduceEqDiff, Nat.reduceAdd, Nat.reduceLeDiff, app58, err_d, err22, Bool.true_and, natO_get, bothB_nat, bothB_one]; rfl) rfl rfl ?_)
    iterate 2 (refine dawp_p rfl (by (simp (disch := omega) only [push_cast, and_true, cond_true, cond_false, if_pos, if_neg, ↓reduceIte, Nat.reduceEqDiff, Nat.reduceAdd, Nat.reduceLeDiff, app58, err_d, err22, Bool.true_and, natO_get, bothB_nat, bothB_one]) <;> rfl) rfl rfl ?_)
    iterate 3 (refine dawp_g rfl rfl (by simp only [push_cast, and_true, cond_true, cond_false, if_pos, if_neg, ↓reduceIte, Nat.reduceEqDiff, Nat.reduceAdd, Nat.reduceLeDiff, app58, err_d, err22, Bool.true_and, natO_get, bothB_nat, bothB_one]; rfl) (fun hg => by simp (disch := omega) only [hg, push_cast, and_true, cond_true, cond_false, if_pos, if_neg, ↓reduceIte, Nat.reduceEqDiff, Nat.reduceAdd, Nat.reduceLeDiff, app58, err_d, err22, Bool.true_and, natO_get, bothB_nat, bothB_one]; rfl) rfl rfl ?_)
    iterate 2 (refine dawp_p rfl (by (simp (disch := omega) only [push_cast, and_true, cond_true, cond_false, if_pos, if_neg, ↓reduceIte, Nat.reduceEqDiff, Nat.reduceAdd, Nat.reduceLeDiff, app58, err_d, err22, Bool.true_and, natO_get, bothB_nat, bothB_one]) <;> rfl) rfl rfl ?_)
    iterate 3 (refine dawp_g rfl rfl (by simp only [push_cast, and_true, cond_true, cond_false, if_pos, if_neg, ↓reduceIte, Nat.reduceEqDiff, Nat.reduceAdd, Nat.reduceLeDiff, app58, err_d, err22, Bool.true_and, natO_get, bothB_nat, bothB_one]; rfl) (fun hg => by simp (disch := omega) only [hg, push_cast, and_true, cond_true, cond_false, if_pos, if_neg, ↓reduceIte, Nat.reduceEqDiff, Nat.reduceAdd, Nat.reduceLeDiff, app58, err_d, err22, Bool.true_and, natO_get, bothB_nat, bothB_one]; rfl) rfl rfl ?_)
    iterate 2 (refine dawp_p rfl (by (simp (disch := omega) only [push_cast, and_true, cond_true, cond_false, if_pos, if_neg, ↓reduceIte, Nat.reduceEqDiff, Nat.reduceAdd, Nat.reduceLeDiff, app58, err_d, err22, Bool.true_and, natO_get, bothB_nat, bothB_one]) <;> rfl) rfl rfl ?_)
    iterate 2 (refine dawp_g rfl rfl (by simp only [push_cast, and_true, cond_true, cond_false, if_pos, if_neg, ↓reduceIte, Nat.reduceEqDiff, Nat.reduceAdd, Nat.reduceLeDiff, app58, err_d, err22, Bool.true_and, natO_get, bothB_nat, bothB_one]; rfl) (fun hg => by simp (disch := omega) only [hg, push_cast, and_true, cond_true, cond_false, if_pos, if_neg, ↓reduceIte, Nat.reduceEqDiff, Nat.reduceAdd, Nat.reduceLeDiff, app58, err_d, err22, Bool.true_and, natO_get, bothB_nat, bothB_one]; rfl) rfl rfl ?_)
    iterate 2 (refine dawp_p rfl (by (simp (disch := omega) only [push_cast, and_true, cond_true, cond_false, if_pos, if_neg, ↓reduceIte, Nat.reduceEqDiff, Nat.reduceAdd, Nat.reduceLeDiff, app58, err_d, err22, Bool.true_and, natO_get, bothB_nat, bothB_one]) <;> rfl) rfl rfl ?_)
    refine dawp_nil ?_
    simp (disch := omega) only [push_cast, and_true, cond_true, cond_false, if_pos, if_neg, ↓reduceIte, Nat.reduceEqDiff, Nat.reduceAdd, Nat.reduceLeDiff, app58, err_d, err22, Bool.true_and, natO_get, bothB_nat, bothB_one]
    refine hK22 _ ?_
    refine awp_ret ?_
    try simp only [push_cast]
    refine fin_pure (by (simp (disch := omega) only [Tryd.results6, aresults, aresult, push_cast, and_true, cond_true, cond_false, if_pos, if_neg, ↓reduceIte, Nat.reduceEqDiff, Nat.reduceAdd, Nat.reduceLeDiff, app58, err_d, err22, Bool.true_and, natO_get, bothB_nat, bothB_one]) <;> rfl) (by simp only [atuple, AV.er, AV.erL, push_cast]; rfl) (by simp [AV.cl, AV.clL]) (by first | exact ⟨_, rfl⟩ | exact ⟨[], (List.append_nil _).symm⟩) hH (fun _ h => h) ?_
    refine ⟨?_, rfl, rfl⟩
    clear hAu hAg hNu hNg
    first | (revert hb6 hb5; cases numF usersL s <;> cases numF groupsL t <;> simp; done) | (revert hb5; cases numF usersL s <;> cases numF groupsL t <;> simp; done)
  try simp only [decide_eq_true_eq, decide_eq_false_iff_not, Bool.not_eq_true', Bool.not_eq_false', Bool.or_eq_true, Bool.and_eq_true, Bool.or_eq_false_iff, Bool.and_eq_false_imp, Int.not_lt, Int.not_le] at hb3
  refine awp_skip ?_
  try simp only [push_cast]
  refine hK10 _ ?_
  refine awp_seq_k fun K23 hK23 => ?_
  refine awp_block ?_
  refine awp_seq_k fun K24 hK24 => ?_
  refine awp_region_keep [0, 1, 6, 41] ⟨false, [], [], []⟩ (fun h => nomatch h) ?_
  iterate 4 (refine dawp_p rfl (by (simp (disch := omega) only [push_cast, and_true, cond_true, cond_false, if_pos, if_neg, ↓reduceIte, Nat.reduceEqDiff, Nat.reduceAdd, Nat.reduceLeDiff, app58, err_d, err22, Bool.true_and, natO_get, bothB_nat, bothB_one]) <;> rfl) rfl rfl ?_)
  refine dawp_nil ?_
  simp (disch := omega) only [push_cast, and_true, cond_true, cond_false, if_pos, if_neg, ↓reduceIte, Nat.reduceEqDiff, Nat.reduceAdd, Nat.reduceLeDiff, app58, err_d, err22, Bool.true_and, natO_get, bothB_nat, bothB_one]
  refine hK24 _ ?_
  refine awp_cond (by (simp (disch := omega) only [push_cast, and_true, cond_true, cond_false, if_pos, if_neg, ↓reduceIte, Nat.reduceEqDiff, Nat.reduceAdd, Nat.reduceLeDiff, app58, err_d, err22, Bool.true_and, natO_get, bothB_nat, bothB_one]) <;> rfl) (fun hb4 => ?_) (fun hb4 => ?_)
  · skip
    try simp only [decide_eq_true_eq, decide_eq_false_iff_not, Bool.not_eq_true', Bool.not_eq_false', Bool.or_eq_true, Bool.and_eq_true, Bool.or_eq_false_iff, Bool.and_eq_false_imp, Int.not_lt, Int.not_le] at hb4
    refine awp_seq_k fun K25 hK25 => ?_
    refine awp_region_keep [4] ⟨false, [], [], []⟩ (fun h => nomatch h) ?_
    refine dawp_p rfl (by (simp (disch := omega) only [push_cast, and_true, cond_true, cond_false, if_pos, if_neg, ↓reduceIte, Nat.reduceEqDiff, Nat.reduceAdd, Nat.reduceLeDiff, app58, err_d, err22, Bool.true_and, natO_get, bothB_nat, bothB_one]) <;> rfl) rfl rfl ?_
    refine dawp_nil ?_
    simp (disch := omega) only [push_cast, and_true, cond_true, cond_false, if_pos, if_neg, ↓reduceIte, Nat.reduceEqDiff, Nat.reduceAdd, Nat.reduceLeDiff, app58, err_d, err22, Bool.true_and, natO_get, bothB_nat, bothB_one]
    refine hK25 _ ?_
    refine awp_ret ?_
    try simp only [push_cast]
    refine fin_pure (by (simp (disch := omega) only [Tryd.results6, aresults, aresult, push_cast, and_true, cond_true, cond_false, if_pos, if_neg, ↓reduceIte, Nat.reduceEqDiff, Nat.reduceAdd, Nat.reduceLeDiff, app58, err_d, err22, Bool.true_and, natO_get, bothB_nat, bothB_one]) <;> rfl) (by simp only [atuple, AV.er, AV.erL, push_cast]; rfl) (by simp [AV.cl, AV.clL]) (by first | exact ⟨_, rfl⟩ | exact ⟨[], (List.append_nil _).symm⟩) hH (fun _ h => h) ?_
    exact ⟨rfl, rfl, rfl⟩
  try simp only [decide_eq_true_eq, decide_eq_false_iff_not, Bool.not_eq_true', Bool.not_eq_false', Bool.or_eq_true, Bool.and_eq_true, Bool.or_eq_false_iff, Bool.and_eq_false_imp, Int.not_lt, Int.not_le] at hb4
  refine awp_skip ?_
  try simp only [push_cast]
  refine hK23 _ ?_
  refine awp_region_keep [0, 1, 6] ⟨false, [], [], []⟩ (fun h => nomatch h) ?_
  iterate 3 (refine dawp_p rfl (by (simp (disch := omega) only [push_cast, and_true, cond_true, cond_false, if_pos, if_neg, ↓reduceIte, Nat.reduceEqDiff, Nat.reduceAdd, Nat.reduceLeDiff, app58, err_d, err22, Bool.true_and, natO_get, bothB_nat, bothB_one]) <;> rfl) rfl rfl ?_)
  refine dawp_nil ?_
  simp (disch := omega) only [push_cast, and_true, cond_true, cond_false, if_pos, if_neg, ↓reduceIte, Nat.reduceEqDiff, Nat.reduceAdd, Nat.reduceLeDiff, app58, err_d, err22, Bool.true_and, natO_get, bothB_nat, bothB_one]
  refine ⟨⟨i + 1, by omega, fun j hj => by rcases Nat.lt_succ_iff_lt_or_eq.1 hj with h | h; exact hn j h; subst h; exact u8_ne hb4⟩, ?_, (by first | rfl | trivial | simp only [List.length_set]), by dsimp only; omega⟩
  dsimp only
  refine Trunc.same ?_ hH
  refine FTr.cons (by (simp (disch := omega) only [push_cast, and_true, cond_true, cond_false, if_pos, if_neg, ↓reduceIte, Nat.reduceEqDiff, Nat.reduceAdd, Nat.reduceLeDiff, app58, err_d, err22, Bool.true_and, natO_get, bothB_nat, bothB_one]) <;> first | rfl | (congr 2; omega)) (by simp [AV.cl, AV.clL, clL_str]) ?_
  refine FTr.cons (by (simp (disch := omega) only [push_cast, and_true, cond_true, cond_false, if_pos, if_neg, ↓reduceIte, Nat.reduceEqDiff, Nat.reduceAdd, Nat.reduceLeDiff, app58, err_d, err22, Bool.true_and, natO_get, bothB_nat, bothB_one]) <;> first | rfl | (congr 2; omega)) (by simp [AV.cl, AV.clL, clL_str]) ?_
  refine FTr.cons (by (simp (disch := omega) only [push_cast, and_true, cond_true, cond_false, if_pos, if_neg, ↓reduceIte, Nat.reduceEqDiff, Nat.reduceAdd, Nat.reduceLeDiff, app58, err_d, err22, Bool.true_and, natO_get, bothB_nat, bothB_one]) <;> first | rfl | (congr 2; omega)) (by simp [AV.cl, AV.clL, clL_str]) ?_
  exact FTr.nil

set_option maxHeartbeats 400000 in
theorem c7 (n m : Nat) (h : List Blk) (live : List Nat) (htb : globOf h 1 = some pow10T) (hn : n ≤ 4294967295) (hm : m ≤ 255) : ACalls Tryd.prog 7 [.int .u32 (n : Nat), .int .u8 (m : Nat)] h live (ret (.bool true) h live) := by
  refine acalls_of_awp Tryd.func7 rfl rfl (Nat.le_of_ble_eq_true rfl) fun hH hX => ?_
  simp only [fargs]
  have hk := k7_bd n
  have hd5 := dec_len5 (k := k7 n) (by omega)
  refine awp_seq_k fun K1 hK1 => ?_
  refine awp_region_keep [0, 1] ⟨false, [], [], []⟩ (fun h => nomatch h) ?_
  refine dawp_p rfl (by (simp (disch := omega) only [push_cast, and_true, cond_true, cond_false, if_pos, if_neg, ↓reduceIte, Nat.reduceEqDiff, Nat.reduceAdd, Nat.reduceLeDiff, tmod70000, tmod5, itoa_nat, Bool.true_and, err_d, err22]) <;> rfl) rfl rfl ?_
  refine dawp_nil ?_
  simp (disch := omega) only [push_cast, and_true, cond_true, cond_false, if_pos, if_neg, ↓reduceIte, Nat.reduceEqDiff, Nat.reduceAdd, Nat.reduceLeDiff, tmod70000, tmod5, itoa_nat, Bool.true_and, err_d, err22]
  refine hK1 _ ?_
  refine awp_seq_k fun K2 hK2 => ?_
  refine awp_region_keep [0, 1, 5] ⟨false, [], [], []⟩ (fun h => nomatch h) ?_
  refine dawp_w rfl rfl rfl rfl (AOp.callx _ _ _ rfl (by (simp (disch := omega) only [push_cast, and_true, cond_true, cond_false, if_pos, if_neg, ↓reduceIte, Nat.reduceEqDiff, Nat.reduceAdd, Nat.reduceLeDiff, tmod70000, tmod5, itoa_nat, Bool.true_and, err_d, err22]) <;> rfl) (by (simp (disch := omega) only [push_cast, and_true, cond_true, cond_false, if_pos, if_neg, ↓reduceIte, Nat.reduceEqDiff, Nat.reduceAdd, Nat.reduceLeDiff, tmod70000, tmod5, itoa_nat, Bool.true_and, err_d, err22]) <;> rfl) ?_)  
  refine (c8 _ _ htb).mono ?_; rintro _ _ _ ⟨rfl, rfl, rfl⟩
  refine dawp_p rfl (by (simp (disch := omega) only [push_cast, and_true, cond_true, cond_false, if_pos, if_neg, ↓reduceIte, Nat.reduceEqDiff, Nat.reduceAdd, Nat.reduceLeDiff, tmod70000, tmod5, itoa_nat, Bool.true_and, err_d, err22]) <;> rfl) rfl rfl ?_
  refine dawp_nil ?_
  simp (disch := omega) only [push_cast, and_true, cond_true, cond_false, if_pos, if_neg, ↓reduceIte, Nat.reduceEqDiff, Nat.reduceAdd, Nat.reduceLeDiff, tmod70000, tmod5, itoa_nat, Bool.true_and, err_d, err22]
  refine hK2 _ ?_
  refine awp_seq_k fun K3 hK3 => ?_
  refine awp_seq_k fun K4 hK4 => ?_
  refine awp_region_keep [0, 1, 14] ⟨false, [], [], []⟩ (fun h => nomatch h) ?_
  iterate 2 (refine dawp_p rfl (by (simp (disch := omega) only [push_cast, and_true, cond_true, cond_false, if_pos, if_neg, ↓reduceIte, Nat.reduceEqDiff, Nat.reduceAdd, Nat.reduceLeDiff, tmod70000, tmod5, itoa_nat, Bool.true_and, err_d, err22]) <;> rfl) rfl rfl ?_)
  refine dawp_nil ?_
  simp (disch := omega) only [push_cast, and_true, cond_true, cond_false, if_pos, if_neg, ↓reduceIte, Nat.reduceEqDiff, Nat.reduceAdd, Nat.reduceLeDiff, tmod70000, tmod5, itoa_nat, Bool.true_and, err_d, err22]
  refine hK4 _ ?_
  refine awp_cond (by (simp (disch := omega) only [push_cast, and_true, cond_true, cond_false, if_pos, if_neg, ↓reduceIte, Nat.reduceEqDiff, Nat.reduceAdd, Nat.reduceLeDiff, tmod70000, tmod5, itoa_nat, Bool.true_and, err_d, err22]) <;> rfl) (fun hb1 => ?_) (fun hb1 => ?_)
  · skip
    exfalso; simp at hb1
  refine awp_skip ?_
  try simp only [push_cast]
  refine hK3 _ ?_
  refine awp_seq_k fun K5 hK5 => ?_
  refine awp_region_keep [1, 6] ⟨false, [], [], []⟩ (fun h => nomatch h) ?_
  iterate 4 (refine dawp_p rfl (by (simp (disch := omega) only [push_cast, and_true, cond_true, cond_false, if_pos, if_neg, ↓reduceIte, Nat.reduceEqDiff, Nat.reduceAdd, Nat.reduceLeDiff, tmod70000, tmod5, itoa_nat, Bool.true_and, err_d, err22]) <;> rfl) rfl rfl ?_)
  refine dawp_nil ?_
  simp (disch := omega) only [push_cast, and_true, cond_true, cond_false, if_pos, if_neg, ↓reduceIte, Nat.reduceEqDiff, Nat.reduceAdd, Nat.reduceLeDiff, tmod70000, tmod5, itoa_nat, Bool.true_and, err_d, err22]
  refine hK5 _ ?_
  refine awp_seq_k fun K6 hK6 => ?_
  refine awp_region_keep [1, 6, 7] ⟨false, [], [], []⟩ (fun h => nomatch h) ?_
  refine dawp_p rfl (by (simp (disch := omega) only [push_cast, and_true, cond_true, cond_false, if_pos, if_neg, ↓reduceIte, Nat.reduceEqDiff, Nat.reduceAdd, Nat.reduceLeDiff, tmod70000, tmod5, itoa_nat, Bool.true_and, err_d, err22]) <;> rfl) rfl rfl ?_
  refine dawp_w rfl rfl rfl rfl (AOp.callx _ _ _ rfl (by (simp (disch := omega) only [push_cast, and_true, cond_true, cond_false, if_pos, if_neg, ↓reduceIte, Nat.reduceEqDiff, Nat.reduceAdd, Nat.reduceLeDiff, tmod70000, tmod5, itoa_nat, Bool.true_and, err_d, err22]) <;> rfl) (by (simp (disch := omega) only [push_cast, and_true, cond_true, cond_false, if_pos, if_neg, ↓reduceIte, Nat.reduceEqDiff, Nat.reduceAdd, Nat.reduceLeDiff, tmod70000, tmod5, itoa_nat, Bool.true_and, err_d, err22]) <;> rfl) ?_)  
  refine (c17 _ _ _ (by omega) (by omega)).mono ?_; rintro _ _ _ ⟨rfl, rfl, rfl⟩
  refine dawp_p rfl (by (simp (disch := omega) only [push_cast, and_true, cond_true, cond_false, if_pos, if_neg, ↓reduceIte, Nat.reduceEqDiff, Nat.reduceAdd, Nat.reduceLeDiff, tmod70000, tmod5, itoa_nat, Bool.true_and, err_d, err22]) <;> rfl) rfl rfl ?_
  refine dawp_nil ?_
  simp (disch := omega) only [push_cast, and_true, cond_true, cond_false, if_pos, if_neg, ↓reduceIte, Nat.reduceEqDiff, Nat.reduceAdd, Nat.reduceLeDiff, tmod70000, tmod5, itoa_nat, Bool.true_and, err_d, err22]
  refine hK6 _ ?_
  refine awp_seq_k fun K7 hK7 => ?_
  refine awp_block ?_
  refine awp_loop' (X := {p : List UInt8 // digs p 0 = some (k7 n) ∧ p ≠ [] ∧ p.length ≤ 5}) (fun x => ⟨Tryd.f7.ntmps, fget [(1, .int .u8 (m : Nat)), (6, .int .i64 (k7 n : Nat)), (7, .str x.1)], h, live⟩) (fun x => 5 - x.1.length) (⟨Lib.decDigits (k7 n), digs_dec0 _, dec_ne _, hd5⟩) ?_ (by first | rfl | simp only [List.length_set]) (fun ⟨p, hp, hp0, hpl⟩ => ?_)
  · skip
    dsimp only
    refine Trunc.same ?_ hH
    refine FTr.cons (by first | rfl | (simp (disch := omega) only [push_cast, and_true, cond_true, cond_false, if_pos, if_neg, ↓reduceIte, Nat.reduceEqDiff, Nat.reduceAdd, Nat.reduceLeDiff, tmod70000, tmod5, itoa_nat, Bool.true_and, err_d, err22]; rfl)) (by simp [AV.cl, AV.clL, clL_str]) ?_
    refine FTr.cons (by first | rfl | (simp (disch := omega) only [push_cast, and_true, cond_true, cond_false, if_pos, if_neg, ↓reduceIte, Nat.reduceEqDiff, Nat.reduceAdd, Nat.reduceLeDiff, tmod70000, tmod5, itoa_nat, Bool.true_and, err_d, err22]; rfl)) (by simp [AV.cl, AV.clL, clL_str]) ?_
    refine FTr.cons (by first | rfl | (simp (disch := omega) only [push_cast, and_true, cond_true, cond_false, if_pos, if_neg, ↓reduceIte, Nat.reduceEqDiff, Nat.reduceAdd, Nat.reduceLeDiff, tmod70000, tmod5, itoa_nat, Bool.true_and, err_d, err22]; rfl)) (by simp [AV.cl, AV.clL, clL_str]) ?_
    exact FTr.nil
  dsimp only
  refine awp_seq_k fun K8 hK8 => ?_
  refine awp_seq_k fun K9 hK9 => ?_
  refine awp_region_keep [1, 6, 7, 31] ⟨false, [], [], []⟩ (fun h => nomatch h) ?_
  iterate 4 (refine dawp_p rfl (by (simp (disch := omega) only [push_cast, and_true, cond_true, cond_false, if_pos, if_neg, ↓reduceIte, Nat.reduceEqDiff, Nat.reduceAdd, Nat.reduceLeDiff, tmod70000, tmod5, itoa_nat, Bool.true_and, err_d, err22]) <;> rfl) rfl rfl ?_)
  iterate 7 (refine dawp_g rfl rfl (by simp only [push_cast, and_true, cond_true, cond_false, if_pos, if_neg, ↓reduceIte, Nat.reduceEqDiff, Nat.reduceAdd, Nat.reduceLeDiff, tmod70000, tmod5, itoa_nat, Bool.true_and, err_d, err22]; rfl) (fun hg => by simp (disch := omega) only [hg, push_cast, and_true, cond_true, cond_false, if_pos, if_neg, ↓reduceIte, Nat.reduceEqDiff, Nat.reduceAdd, Nat.reduceLeDiff, tmod70000, tmod5, itoa_nat, Bool.true_and, err_d, err22]; rfl) rfl rfl ?_)
  refine dawp_p rfl (by (simp (disch := omega) only [push_cast, and_true, cond_true, cond_false, if_pos, if_neg, ↓reduceIte, Nat.reduceEqDiff, Nat.reduceAdd, Nat.reduceLeDiff, tmod70000, tmod5, itoa_nat, Bool.true_and, err_d, err22]) <;> rfl) rfl rfl ?_
  refine dawp_nil ?_
  simp (disch := omega) only [push_cast, and_true, cond_true, cond_false, if_pos, if_neg, ↓reduceIte, Nat.reduceEqDiff, Nat.reduceAdd, Nat.reduceLeDiff, tmod70000, tmod5, itoa_nat, Bool.true_and, err_d, err22]
  refine hK9 _ ?_
  refine awp_cond (by (simp (disch := omega) only [push_cast, and_true, cond_true, cond_false, if_pos, if_neg, ↓reduceIte, Nat.reduceEqDiff, Nat.reduceAdd, Nat.reduceLeDiff, tmod70000, tmod5, itoa_nat, Bool.true_and, err_d, err22]) <;> rfl) (fun hb2 => ?_) (fun hb2 => ?_)
  rotate_left
  · skip
    have hU := numU_digs hp0 hpl hp
    have hG := numG_digs hp0 hpl hp
    refine awp_exit ?_
    simp (disch := omega) only [push_cast, and_true, cond_true, cond_false, if_pos, if_neg, ↓reduceIte, Nat.reduceEqDiff, Nat.reduceAdd, Nat.reduceLeDiff, tmod70000, tmod5, itoa_nat, Bool.true_and, err_d, err22]
    refine hK7 _ ?_
    refine awp_seq_k fun K10 hK10 => ?_
    refine awp_region_keep [6, 7, 8, 9] ⟨false, [], [], []⟩ (fun h => nomatch h) ?_
    refine dawp_p rfl (by (simp (disch := omega) only [push_cast, and_true, cond_true, cond_false, if_pos, if_neg, ↓reduceIte, Nat.reduceEqDiff, Nat.reduceAdd, Nat.reduceLeDiff, tmod70000, tmod5, itoa_nat, Bool.true_and, err_d, err22]) <;> rfl) rfl rfl ?_
    refine dawp_w rfl rfl rfl rfl (AOp.callx _ _ _ rfl (by (simp (disch := omega) only [push_cast, and_true, cond_true, cond_false, if_pos, if_neg, ↓reduceIte, Nat.reduceEqDiff, Nat.reduceAdd, Nat.reduceLeDiff, tmod70000, tmod5, itoa_nat, Bool.true_and, err_d, err22]) <;> rfl) (by (simp (disch := omega) only [push_cast, and_true, cond_true, cond_false, if_pos, if_neg, ↓reduceIte, Nat.reduceEqDiff, Nat.reduceAdd, Nat.reduceLeDiff, tmod70000, tmod5, itoa_nat, Bool.true_and, err_d, err22]) <;> rfl) ?_)  
    refine (c11 p _ _ (by omega)).mono ?_; rintro _ _ _ ⟨rfl, rfl, rfl⟩
    iterate 5 (refine dawp_p rfl (by (simp (disch := omega) only [push_cast, and_true, cond_true, cond_false, if_pos, if_neg, ↓reduceIte, Nat.reduceEqDiff, Nat.reduceAdd, Nat.reduceLeDiff, tmod70000, tmod5, itoa_nat, Bool.true_and, err_d, err22]) <;> rfl) rfl rfl ?_)
    refine dawp_nil ?_
    simp (disch := omega) only [push_cast, and_true, cond_true, cond_false, if_pos, if_neg, ↓reduceIte, Nat.reduceEqDiff, Nat.reduceAdd, Nat.reduceLeDiff, tmod70000, tmod5, itoa_nat, Bool.true_and, err_d, err22]
    refine hK10 _ ?_
    refine awp_seq_k fun K11 hK11 => ?_
    refine awp_region_keep [6, 8, 9, 10, 11] ⟨false, [], [], []⟩ (fun h => nomatch h) ?_
    refine dawp_p rfl (by (simp (disch := omega) only [push_cast, and_true, cond_true, cond_false, if_pos, if_neg, ↓reduceIte, Nat.reduceEqDiff, Nat.reduceAdd, Nat.reduceLeDiff, tmod70000, tmod5, itoa_nat, Bool.true_and, err_d, err22]) <;> rfl) rfl rfl ?_
    refine dawp_w rfl rfl rfl rfl (AOp.callx _ _ _ rfl (by (simp (disch := omega) only [push_cast, and_true, cond_true, cond_false, if_pos, if_neg, ↓reduceIte, Nat.reduceEqDiff, Nat.reduceAdd, Nat.reduceLeDiff, tmod70000, tmod5, itoa_nat, Bool.true_and, err_d, err22]) <;> rfl) (by (simp (disch := omega) only [push_cast, and_true, cond_true, cond_false, if_pos, if_neg, ↓reduceIte, Nat.reduceEqDiff, Nat.reduceAdd, Nat.reduceLeDiff, tmod70000, tmod5, itoa_nat, Bool.true_and, err_d, err22]) <;> rfl) ?_)  
    refine (c12 p _ _ (by omega)).mono ?_; rintro _ _ _ ⟨rfl, rfl, rfl⟩
    iterate 5 (refine dawp_p rfl (by (simp (disch := omega) only [push_cast, and_true, cond_true, cond_false, if_pos, if_neg, ↓reduceIte, Nat.reduceEqDiff, Nat.reduceAdd, Nat.reduceLeDiff, tmod70000, tmod5, itoa_nat, Bool.true_and, err_d, err22]) <;> rfl) rfl rfl ?_)
    refine dawp_nil ?_
    simp (disch := omega) only [push_cast, and_true, cond_true, cond_false, if_pos, if_neg, ↓reduceIte, Nat.reduceEqDiff, Nat.reduceAdd, Nat.reduceLeDiff, tmod70000, tmod5, itoa_nat, Bool.true_and, err_d, err22]
    refine hK11 _ ?_
    refine awp_seq_k fun K12 hK12 => ?_
    refine awp_seq_k fun K13 hK13 => ?_
    refine awp_region_keep [6, 8, 9, 10, 11, 45] ⟨false, [], [], []⟩ (fun h => nomatch h) ?_
    iterate 2 (refine dawp_p rfl (by (simp (disch := omega) only [push_cast, and_true, cond_true, cond_false, if_pos, if_neg, ↓reduceIte, Nat.reduceEqDiff, Nat.reduceAdd, Nat.reduceLeDiff, tmod70000, tmod5, itoa_nat, Bool.true_and, err_d, err22]) <;> rfl) rfl rfl ?_)
    refine dawp_nil ?_
    simp (disch := omega) only [push_cast, and_true, cond_true, cond_false, if_pos, if_neg, ↓reduceIte, Nat.reduceEqDiff, Nat.reduceAdd, Nat.reduceLeDiff, tmod70000, tmod5, itoa_nat, Bool.true_and, err_d, err22]
    refine hK13 _ ?_
    refine awp_cond (by (simp (disch := omega) only [push_cast, and_true, cond_true, cond_false, if_pos, if_neg, ↓reduceIte, Nat.reduceEqDiff, Nat.reduceAdd, Nat.reduceLeDiff, tmod70000, tmod5, itoa_nat, Bool.true_and, err_d, err22]) <;> rfl) (fun hb3 => ?_) (fun hb3 => ?_)
    · skip
      simp only [decide_eq_true_eq, decide_eq_false_iff_not, Bool.not_eq_true', Bool.not_eq_false', Bool.or_eq_true, Bool.and_eq_true, Bool.or_eq_false_iff, Bool.and_eq_false_imp, Int.not_lt, Int.not_le] at hb3
      have hc : capN (k7 n) = none := if_pos (by omega)
      refine awp_seq_k fun K14 hK14 => ?_
      refine awp_region_keep [4] ⟨false, [], [], []⟩ (fun h => nomatch h) ?_
      iterate 3 (refine dawp_p rfl (by (simp (disch := omega) only [push_cast, and_true, cond_true, cond_false, if_pos, if_neg, ↓reduceIte, Nat.reduceEqDiff, Nat.reduceAdd, Nat.reduceLeDiff, tmod70000, tmod5, itoa_nat, Bool.true_and, err_d, err22]) <;> rfl) rfl rfl ?_)
      iterate 2 (refine dawp_g rfl rfl (by simp only [push_cast, and_true, cond_true, cond_false, if_pos, if_neg, ↓reduceIte, Nat.reduceEqDiff, Nat.reduceAdd, Nat.reduceLeDiff, tmod70000, tmod5, itoa_nat, Bool.true_and, err_d, err22]; rfl) (fun hg => by simp (disch := omega) only [hg, push_cast, and_true, cond_true, cond_false, if_pos, if_neg, ↓reduceIte, Nat.reduceEqDiff, Nat.reduceAdd, Nat.reduceLeDiff, tmod70000, tmod5, itoa_nat, Bool.true_and, err_d, err22]; rfl) rfl rfl ?_)
      iterate 2 (refine dawp_p rfl (by (simp (disch := omega) only [push_cast, and_true, cond_true, cond_false, if_pos, if_neg, ↓reduceIte, Nat.reduceEqDiff, Nat.reduceAdd, Nat.reduceLeDiff, tmod70000, tmod5, itoa_nat, Bool.true_and, err_d, err22]) <;> rfl) rfl rfl ?_)
      iterate 2 (refine dawp_g rfl rfl (by simp only [push_cast, and_true, cond_true, cond_false, if_pos, if_neg, ↓reduceIte, Nat.reduceEqDiff, Nat.reduceAdd, Nat.reduceLeDiff, tmod70000, tmod5, itoa_nat, Bool.true_and, err_d, err22]; rfl) (fun hg => by simp (disch := omega) only [hg, push_cast, and_true, cond_true, cond_false, if_pos, if_neg, ↓reduceIte, Nat.reduceEqDiff, Nat.reduceAdd, Nat.reduceLeDiff, tmod70000, tmod5, itoa_nat, Bool.true_and, err_d, err22]; rfl) rfl rfl ?_)
      iterate 2 (refine dawp_p rfl (by (simp (disch := omega) only [push_cast, and_true, cond_true, cond_false, if_pos, if_neg, ↓reduceIte, Nat.reduceEqDiff, Nat.reduceAdd, Nat.reduceLeDiff, tmod70000, tmod5, itoa_nat, Bool.true_and, err_d, err22]) <;> rfl) rfl rfl ?_)
      iterate 2 (refine dawp_g rfl rfl (by simp only [push_cast, and_true, cond_true, cond_false, if_pos, if_neg, ↓reduceIte, Nat.reduceEqDiff, Nat.reduceAdd, Nat.reduceLeDiff, tmod70000, tmod5, itoa_nat, Bool.true_and, err_d, err22]; rfl) (fun hg => by simp (disch := omega) only [hg, push_cast, and_true, cond_true, cond_false, if_pos, if_neg, ↓reduceIte, Nat.reduceEqDiff, Nat.reduceAdd, Nat.reduceLeDiff, tmod70000, tmod5, itoa_nat, Bool.true_and, err_d, err22]; rfl) rfl rfl ?_)
      iterate 2 (refine dawp_p rfl (by (simp (disch := omega) only [push_cast, and_true, cond_true, cond_false, if_pos, if_neg, ↓reduceIte, Nat.reduceEqDiff, Nat.reduceAdd, Nat.reduceLeDiff, tmod70000, tmod5, itoa_nat, Bool.true_and, err_d, err22]) <;> rfl) rfl rfl ?_)
      refine dawp_nil ?_
      simp (disch := omega) only [push_cast, and_true, cond_true, cond_false, if_pos, if_neg, ↓reduceIte, Nat.reduceEqDiff, Nat.reduceAdd, Nat.reduceLeDiff, tmod70000, tmod5, itoa_nat, Bool.true_and, err_d, err22]
      refine hK14 _ ?_
      refine awp_ret ?_
      try simp only [push_cast]
      refine fin_pure (by (simp (disch := omega) only [Tryd.results7, aresults, aresult, push_cast, and_true, cond_true, cond_false, if_pos, if_neg, ↓reduceIte, Nat.reduceEqDiff, Nat.reduceAdd, Nat.reduceLeDiff, tmod70000, tmod5, itoa_nat, Bool.true_and, err_d, err22]) <;> rfl) (by simp only [atuple, AV.er, AV.erL, push_cast]; rfl) (by simp [AV.cl, AV.clL]) (by first | exact ⟨_, rfl⟩ | exact ⟨[], (List.append_nil _).symm⟩) hH (fun _ h => h) ?_
      refine ⟨?_, rfl, rfl⟩
      simp [hU, hG, hc]
    simp only [decide_eq_true_eq, decide_eq_false_iff_not, Bool.not_eq_true', Bool.not_eq_false', Bool.or_eq_true, Bool.and_eq_true, Bool.or_eq_false_iff, Bool.and_eq_false_imp, Int.not_lt, Int.not_le] at hb3
    have hc : capN (k7 n) = some (k7 n) := if_neg (by omega)
    refine awp_skip ?_
    try simp only [push_cast]
    refine hK12 _ ?_
    refine awp_seq_k fun K15 hK15 => ?_
    refine awp_region_keep [4] ⟨false, [], [], []⟩ (fun h => nomatch h) ?_
    iterate 3 (refine dawp_p rfl (by (simp (disch := omega) only [push_cast, and_true, cond_true, cond_false, if_pos, if_neg, ↓reduceIte, Nat.reduceEqDiff, Nat.reduceAdd, Nat.reduceLeDiff, tmod70000, tmod5, itoa_nat, Bool.true_and, err_d, err22]) <;> rfl) rfl rfl ?_)
    iterate 2 (refine dawp_g rfl rfl (by simp only [push_cast, and_true, cond_true, cond_false, if_pos, if_neg, ↓reduceIte, Nat.reduceEqDiff, Nat.reduceAdd, Nat.reduceLeDiff, tmod70000, tmod5, itoa_nat, Bool.true_and, err_d, err22]; rfl) (fun hg => by simp (disch := omega) only [hg, push_cast, and_true, cond_true, cond_false, if_pos, if_neg, ↓reduceIte, Nat.reduceEqDiff, Nat.reduceAdd, Nat.reduceLeDiff, tmod70000, tmod5, itoa_nat, Bool.true_and, err_d, err22]; rfl) rfl rfl ?_)
    iterate 2 (refine dawp_p rfl (by (simp (disch := omega) only [push_cast, and_true, cond_true, cond_false, if_pos, if_neg, ↓reduceIte, Nat.reduceEqDiff, Nat.reduceAdd, Nat.reduceLeDiff, tmod70000, tmod5, itoa_nat, Bool.true_and, err_d, err22]) <;> rfl) rfl rfl ?_)
    iterate 3 (refine dawp_g rfl rfl (by simp only [push_cast, and_true, cond_true, cond_false, if_pos, if_neg, ↓reduceIte, Nat.reduceEqDiff, Nat.reduceAdd, Nat.reduceLeDiff, tmod70000, tmod5, itoa_nat, Bool.true_and, err_d, err22]; rfl) (fun hg => by simp (disch := omega) only [hg, push_cast, and_true, cond_true, cond_false, if_pos, if_neg, ↓reduceIte, Nat.reduceEqDiff, Nat.reduceAdd, Nat.reduceLeDiff, tmod70000, tmod5, itoa_nat, Bool.true_and, err_d, err22]; rfl) rfl rfl ?_)
    iterate 2 (refine dawp_p rfl (by (simp (disch := omega) only [push_cast, and_true, cond_true, cond_false, if_pos, if_neg, ↓reduceIte, Nat.reduceEqDiff, Nat.reduceAdd, Nat.reduceLeDiff, tmod70000, tmod5, itoa_nat, Bool.true_and, err_d, err22]) <;> rfl) rfl rfl ?_)
    iterate 3 (refine dawp_g rfl rfl (by simp only [push_cast, and_true, cond_true, cond_false, if_pos, if_neg, ↓reduceIte, Nat.reduceEqDiff, Nat.reduceAdd, Nat.reduceLeDiff, tmod70000, tmod5, itoa_nat, Bool.true_and, err_d, err22]; rfl) (fun hg => by simp (disch := omega) only [hg, push_cast, and_true, cond_true, cond_false, if_pos, if_neg, ↓reduceIte, Nat.reduceEqDiff, Nat.reduceAdd, Nat.reduceLeDiff, tmod70000, tmod5, itoa_nat, Bool.true_and, err_d, err22]; rfl) rfl rfl ?_)
    iterate 2 (refine dawp_p rfl (by (simp (disch := omega) only [push_cast, and_true, cond_true, cond_false, if_pos, if_neg, ↓reduceIte, Nat.reduceEqDiff, Nat.reduceAdd, Nat.reduceLeDiff, tmod70000, tmod5, itoa_nat, Bool.true_and, err_d, err22]) <;> rfl) rfl rfl ?_)
    refine dawp_nil ?_
    simp (disch := omega) only [push_cast, and_true, cond_true, cond_false, if_pos, if_neg, ↓reduceIte, Nat.reduceEqDiff, Nat.reduceAdd, Nat.reduceLeDiff, tmod70000, tmod5, itoa_nat, Bool.true_and, err_d, err22]
    refine hK15 _ ?_
    refine awp_ret ?_
    try simp only [push_cast]
    refine fin_pure (by (simp (disch := omega) only [Tryd.results7, aresults, aresult, push_cast, and_true, cond_true, cond_false, if_pos, if_neg, ↓reduceIte, Nat.reduceEqDiff, Nat.reduceAdd, Nat.reduceLeDiff, tmod70000, tmod5, itoa_nat, Bool.true_and, err_d, err22]) <;> rfl) (by simp only [atuple, AV.er, AV.erL, push_cast]; rfl) (by simp [AV.cl, AV.clL]) (by first | exact ⟨_, rfl⟩ | exact ⟨[], (List.append_nil _).symm⟩) hH (fun _ h => h) ?_
    refine ⟨?_, rfl, rfl⟩
    simp [hU, hG, hc]
  simp only [decide_eq_true_eq, decide_eq_false_iff_not, Bool.not_eq_true', Bool.not_eq_false', Bool.or_eq_true, Bool.and_eq_true, Bool.or_eq_false_iff, Bool.and_eq_false_imp, Int.not_lt, Int.not_le] at hb2
  refine awp_skip ?_
  try simp only [push_cast]
  refine hK8 _ ?_
  refine awp_block ?_
  refine awp_region_keep [1, 6, 7] ⟨false, [], [], []⟩ (fun h => nomatch h) ?_
  iterate 3 (refine dawp_p rfl (by (simp (disch := omega) only [push_cast, and_true, cond_true, cond_false, if_pos, if_neg, ↓reduceIte, Nat.reduceEqDiff, Nat.reduceAdd, Nat.reduceLeDiff, tmod70000, tmod5, itoa_nat, Bool.true_and, err_d, err22]) <;> rfl) rfl rfl ?_)
  refine dawp_nil ?_
  simp (disch := omega) only [push_cast, and_true, cond_true, cond_false, if_pos, if_neg, ↓reduceIte, Nat.reduceEqDiff, Nat.reduceAdd, Nat.reduceLeDiff, tmod70000, tmod5, itoa_nat, Bool.true_and, err_d, err22]
  refine ⟨⟨48 :: p, by rw [digs_zero]; exact hp, by simp, by simp; omega⟩, ?_, (by first | rfl | trivial | simp only [List.length_set]), by simp only [List.length_cons]; omega⟩
  dsimp only
  refine Trunc.same ?_ hH
  refine FTr.cons (by (simp (disch := omega) only [push_cast, and_true, cond_true, cond_false, if_pos, if_neg, ↓reduceIte, Nat.reduceEqDiff, Nat.reduceAdd, Nat.reduceLeDiff, tmod70000, tmod5, itoa_nat, Bool.true_and, err_d, err22]) <;> first | rfl | (congr 2; omega)) (by simp [AV.cl, AV.clL, clL_str]) ?_
  refine FTr.cons (by (simp (disch := omega) only [push_cast, and_true, cond_true, cond_false, if_pos, if_neg, ↓reduceIte, Nat.reduceEqDiff, Nat.reduceAdd, Nat.reduceLeDiff, tmod70000, tmod5, itoa_nat, Bool.true_and, err_d, err22]) <;> first | rfl | (congr 2; omega)) (by simp [AV.cl, AV.clL, clL_str]) ?_
  refine FTr.cons (by (simp (disch := omega) only [push_cast, and_true, cond_true, cond_false, if_pos, if_neg, ↓reduceIte, Nat.reduceEqDiff, Nat.reduceAdd, Nat.reduceLeDiff, tmod70000, tmod5, itoa_nat, Bool.true_and, err_d, err22]) <;> first | rfl | (congr 2; omega)) (by simp [AV.cl, AV.clL, clL_str]) ?_
  exact FTr.nil

end Go.Proofs.YtlkpgpdhohnncaaDoor
