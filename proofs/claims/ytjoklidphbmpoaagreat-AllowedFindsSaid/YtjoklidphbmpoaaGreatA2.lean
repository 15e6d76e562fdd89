import Derived.Test.YtjoklidphbmpoaaGreatA1
import Derived.Laws.Bits128
/-
  TABLES: modes' classes, and who asks.
-/
namespace Go.Proofs.YtjoklidphbmpoaaGreat
open Go.Ab
set_option linter.unusedVariables false
set_option linter.unusedSimpArgs false
set_option maxRecDepth 8000
set_option maxHeartbeats 400000


/-- The three bits of a class. -/
def clsI (mode k : Int) : Int := if k = 0 then mode / 64 % 8 else if k = 1 then mode / 8 % 8 else if k = 2 then mode % 8 else 0
theorem clsI_bd (m k : Int) : 0 ≤ clsI m k ∧ clsI m k < 8 := by
  unfold clsI
  split
  · omega
  · split
    · omega
    · split <;> omega
theorem i64_and7 (n : Int) : bits .and .i64 n 7 = n % 8 := by
  have h7 : (BitVec.ofInt 64 7).toNat = 2 ^ 3 - 1 := by decide
  have key : (BitVec.ofInt 64 n &&& BitVec.ofInt 64 7).toNat = (n % ((2 ^ 64 : Nat) : Int)).toNat % 2 ^ 3 := by
    rw [BitVec.toNat_and, BitVec.toNat_ofInt, h7, Nat.and_two_pow_sub_one_eq_mod]
  show IntKind.i64.wrap ((BitVec.ofInt 64 n &&& BitVec.ofInt 64 7).toNat : Nat) = n % 8
  rw [key, IntKind.wrap_i64]
  omega
structure Cr where
  uid : Int
  gid : Int
  gs : List Int
def memF (c : Cr) (gid : Int) : Bool := decide (gid = c.gid) || c.gs.any fun y => decide (gid = y)
def classF (c : Cr) (uid gid : Int) : Int := bif decide (uid = c.uid) then 0 else bif memF c gid then 1 else 2
theorem fdiv64 (n : Int) : n.fdiv 64 = n / 64 := Int.fdiv_eq_ediv_of_nonneg _ (by decide)
theorem fdiv8 (n : Int) : n.fdiv 8 = n / 8 := Int.fdiv_eq_ediv_of_nonneg _ (by decide)
theorem fdiv1 (n : Int) : n.fdiv 1 = n := by
  rw [Int.fdiv_eq_ediv_of_nonneg _ (by decide)]; omega
theorem rest_lt {n b : Int} (hb : 0 < b) (h : n.tmod b < 0) : n.tmod b + b = n % b := by
  rw [Int.tmod_eq_emod] at h ⊢
  have h1 := Int.emod_nonneg n (show b ≠ 0 by omega)
  have h2 := Int.emod_lt_of_pos n hb
  split at h
  · omega
  · rename_i hc
    rw [if_neg hc]
    have : (b.natAbs : Int) = b := by omega
    omega
theorem rest_ge {n b : Int} (hb : 0 < b) (h : 0 ≤ n.tmod b) : n.tmod b = n % b := by
  rw [Int.tmod_eq_emod] at h ⊢
  have h1 := Int.emod_nonneg n (show b ≠ 0 by omega)
  have h2 := Int.emod_lt_of_pos n hb
  have : (b.natAbs : Int) = b := by omega
  split at h
  · rename_i hc; rw [if_pos hc]; omega
  · omega

theorem c113 (k : Int) (h : List Blk) (live : List Nat) (h0 : 0 ≤ k) (h1 : k ≤ 2) : ACalls Tryz.prog 113 [.int .i64 k] h live (ret (.int .i64 (3 * (2 - k))) h live) := by
  refine ab_ Tryz.func113 (hw := fun hH hX => ?_)
  have sx := sx0
  refine rg_ [0] ?_
  refine rg_ [2] ?_
  refine awp_ret (up_ ?_)
  refine fp_ Tryz.results113 (hK := ?_)
  exact ⟨rfl, rfl, rfl⟩

theorem c88 (m k : Int) (h : List Blk) (live : List Nat) : ACalls Tryz.prog 88 [.int .i64 m, .int .i64 k] h live (ret (.int .i64 (clsI m k)) h live) := by
  refine ab_ Tryz.func88 (hw := fun hH hX => ?_)
  have sx := (And.intro @i64_and7 sx0)
  refine rg_ [0, 1] ?_
  refine sk_ fun K1 hK1 => ?_
  refine rg_ [0, 1, 10] ?_
  refine cd_ (ht := fun hb1 => ?_) (hf := fun hb1 => ?_)
  · refine rg_ [4] ?_
    refine awp_ret (up_ ?_)
    refine fp_ Tryz.results88 (hK := ?_)
    refine ⟨?_, rfl, rfl⟩
    unfold clsI
    rw [if_neg (by omega), if_neg (by omega), if_neg (by omega)]
  refine awp_skip (up_ ?_)
  refine hK1 _ ?_
  refine rs_ [4] ?_
  refine sg_ ?_
  refine cl_ (hc := c113 _ _ _ (by omega) (by omega)) (k := ?_)
  refine sg_ ?_
  refine re_ ?_
  refine awp_ret (up_ ?_)
  refine fp_ Tryz.results88 (hK := ?_)
  refine ⟨?_, rfl, rfl⟩
  have hk : k = 0 ∨ k = 1 ∨ k = 2 := by omega
  rcases hk with rfl | rfl | rfl
  · show AV.int .i64 (m / 64 % 8) = AV.int .i64 (m.fdiv 64 % 8); rw [fdiv64]
  · show AV.int .i64 (m / 8 % 8) = AV.int .i64 (m.fdiv 8 % 8); rw [fdiv8]
  · show AV.int .i64 (m % 8) = AV.int .i64 (m.fdiv 1 % 8); rw [fdiv1]

theorem c127 (n b : Int) (h : List Blk) (live : List Nat) (hb0 : 0 < b) (hb1 : b ≤ 1000000) : ACalls Tryz.prog 127 [.int .i64 n, .int .i64 b] h live (ret (.int .i64 (n % b)) h live) := by
  refine ab_ Tryz.func127 (hw := fun hH hX => ?_)
  have hlt := Int.tmod_lt_of_pos n hb0
  have hge := Int.lt_tmod_of_pos n hb0
  have hne : ¬ b = 0 := by omega
  have sx := sx0
  refine rs_ [0, 1] ?_
  refine dawp_p rfl (by (simp (disch := omega) only [push_cast, ↓reduceIte, Nat.reduceEqDiff, Nat.reduceAdd, Nat.reduceLeDiff, sx, if_neg hne]) <;> rfl) rfl rfl ?_
  refine re_ (hf := by (simp (disch := omega) only [push_cast, ↓reduceIte, Nat.reduceEqDiff, Nat.reduceAdd, Nat.reduceLeDiff, sx, if_neg hne]) <;> rfl) (hh := by (try simp (disch := omega) only [push_cast, ↓reduceIte, Nat.reduceEqDiff, Nat.reduceAdd, Nat.reduceLeDiff, sx, if_neg hne]) <;> rfl) ?_
  refine rs_ [1, 5] ?_
  iterate 4 (refine dawp_p rfl (by (simp (disch := omega) only [push_cast, ↓reduceIte, Nat.reduceEqDiff, Nat.reduceAdd, Nat.reduceLeDiff, sx, if_neg hne]) <;> rfl) rfl rfl ?_)
  refine re_ (hf := by (simp (disch := omega) only [push_cast, ↓reduceIte, Nat.reduceEqDiff, Nat.reduceAdd, Nat.reduceLeDiff, sx, if_neg hne]) <;> rfl) (hh := by (try simp (disch := omega) only [push_cast, ↓reduceIte, Nat.reduceEqDiff, Nat.reduceAdd, Nat.reduceLeDiff, sx, if_neg hne]) <;> rfl) ?_
  refine sk_ fun K1 hK1 => ?_
  refine rs_ [1, 5, 10] ?_
  iterate 2 (refine dawp_p rfl (by (simp (disch := omega) only [push_cast, ↓reduceIte, Nat.reduceEqDiff, Nat.reduceAdd, Nat.reduceLeDiff, sx, if_neg hne]) <;> rfl) rfl rfl ?_)
  refine re_ (hf := by (simp (disch := omega) only [push_cast, ↓reduceIte, Nat.reduceEqDiff, Nat.reduceAdd, Nat.reduceLeDiff, sx, if_neg hne]) <;> rfl) (hh := by (try simp (disch := omega) only [push_cast, ↓reduceIte, Nat.reduceEqDiff, Nat.reduceAdd, Nat.reduceLeDiff, sx, if_neg hne]) <;> rfl) ?_
  refine cb_ (hb := by (simp (disch := omega) only [push_cast, ↓reduceIte, Nat.reduceEqDiff, Nat.reduceAdd, Nat.reduceLeDiff, sx, if_neg hne]) <;> rfl) (ht := fun hb1 => ?_) (hf := fun hb1 => ?_)
  · simp only [decide_eq_true_eq] at hb1
    have hb1' := hb1
    refine rt_ [5] ?_
    iterate 4 (refine dawp_p rfl (by (simp (disch := omega) only [push_cast, ↓reduceIte, Nat.reduceEqDiff, Nat.reduceAdd, Nat.reduceLeDiff, sx, if_neg hne]) <;> rfl) rfl rfl ?_)
    refine rn_ (hf := by (simp (disch := omega) only [push_cast, ↓reduceIte, Nat.reduceEqDiff, Nat.reduceAdd, Nat.reduceLeDiff, sx, if_neg hne]) <;> rfl) (hh := by (try simp (disch := omega) only [push_cast, ↓reduceIte, Nat.reduceEqDiff, Nat.reduceAdd, Nat.reduceLeDiff, sx, if_neg hne]) <;> rfl) (up_ ?_)
    refine hK1 _ ?_
    refine rs_ [4] ?_
    iterate 2 (refine dawp_p rfl (by (simp (disch := omega) only [push_cast, ↓reduceIte, Nat.reduceEqDiff, Nat.reduceAdd, Nat.reduceLeDiff, sx, if_neg hne]) <;> rfl) rfl rfl ?_)
    refine re_ (hf := by (simp (disch := omega) only [push_cast, ↓reduceIte, Nat.reduceEqDiff, Nat.reduceAdd, Nat.reduceLeDiff, sx, if_neg hne]) <;> rfl) (hh := by (try simp (disch := omega) only [push_cast, ↓reduceIte, Nat.reduceEqDiff, Nat.reduceAdd, Nat.reduceLeDiff, sx, if_neg hne]) <;> rfl) ?_
    refine awp_ret (up_ ?_)
    refine fp_ (hres := by (simp (disch := omega) only [aresults, aresult, push_cast, ↓reduceIte, Nat.reduceEqDiff, Nat.reduceAdd, Nat.reduceLeDiff, sx, if_neg hne]) <;> rfl) Tryz.results127 (hK := ?_)
    exact ⟨by rw [rest_lt hb0 hb1'], rfl, rfl⟩
  simp only [decide_eq_false_iff_not, Int.not_lt] at hb1
  have hb1' := hb1
  refine awp_skip (up_ ?_)
  refine hK1 _ ?_
  refine rs_ [4] ?_
  iterate 2 (refine dawp_p rfl (by (simp (disch := omega) only [push_cast, ↓reduceIte, Nat.reduceEqDiff, Nat.reduceAdd, Nat.reduceLeDiff, sx, if_neg hne]) <;> rfl) rfl rfl ?_)
  refine re_ (hf := by (simp (disch := omega) only [push_cast, ↓reduceIte, Nat.reduceEqDiff, Nat.reduceAdd, Nat.reduceLeDiff, sx, if_neg hne]) <;> rfl) (hh := by (try simp (disch := omega) only [push_cast, ↓reduceIte, Nat.reduceEqDiff, Nat.reduceAdd, Nat.reduceLeDiff, sx, if_neg hne]) <;> rfl) ?_
  refine awp_ret (up_ ?_)
  refine fp_ (hres := by (simp (disch := omega) only [aresults, aresult, push_cast, ↓reduceIte, Nat.reduceEqDiff, Nat.reduceAdd, Nat.reduceLeDiff, sx, if_neg hne]) <;> rfl) Tryz.results127 (hK := ?_)
  exact ⟨by rw [rest_ge hb0 hb1'], rfl, rfl⟩

theorem c114 (m : Int) (h : List Blk) (live : List Nat) : ACalls Tryz.prog 114 [.int .i64 m] h live (ret (.int .i64 (m % 4096)) h live) := by
  refine ab_ Tryz.func114 (hw := fun hH hX => ?_)
  have sx := sx0
  refine rg_ [0] ?_
  refine rs_ [2] ?_
  refine sg_ ?_
  refine cl_ (hc := c127 m 4096 _ _ (by omega) (by omega)) (k := ?_)
  refine sg_ ?_
  refine re_ ?_
  refine awp_ret (up_ ?_)
  refine fp_ Tryz.results114 (hK := ?_)
  exact ⟨rfl, rfl, rfl⟩

end Go.Proofs.YtjoklidphbmpoaaGreat
