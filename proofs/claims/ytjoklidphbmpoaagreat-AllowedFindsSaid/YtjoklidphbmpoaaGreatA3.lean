import Derived.Test.YtjoklidphbmpoaaGreatA2
/-
  TABLES: what who asks may do.
-/
namespace Go.Proofs.YtjoklidphbmpoaaGreat
open Go.Ab
set_option linter.unusedVariables false
set_option linter.unusedSimpArgs false
set_option maxRecDepth 8000
set_option maxHeartbeats 400000


theorem low_cls (m : Int) : m % 4096 / 64 % 8 = m / 64 % 8 ∧ m % 4096 / 8 % 8 = m / 8 % 8 ∧ m % 4096 % 8 = m % 8 := by omega
theorem tdivN {a : Int} (h : 0 ≤ a) (b : Int) : a.tdiv b = a / b := Int.tdiv_eq_ediv_of_nonneg h
theorem tmodN {a : Int} (h : 0 ≤ a) (b : Int) : a.tmod b = a % b := Int.tmod_eq_emod_of_nonneg h
theorem oV_two (a b : Bool) : [AV.bool a, AV.bool b] = [a, b].map oV := rfl
theorem oV_three (a b c : Bool) : [AV.bool a, AV.bool b, AV.bool c] = [a, b, c].map oV := rfl
theorem oV_four (a b c d : Bool) : [AV.bool a, AV.bool b, AV.bool c, AV.bool d] = [a, b, c, d].map oV := rfl
theorem any2 (a b : Bool) : ([a, b].any fun y => true == y) = (a || b) := by cases a <;> cases b <;> rfl
theorem any3 (a b c : Bool) : ([a, b, c].any fun y => true == y) = (a || b || c) := by cases a <;> cases b <;> cases c <;> rfl
theorem any4 (a b c d : Bool) : ([a, b, c, d].any fun y => true == y) = (a || b || c || d) := by cases a <;> cases b <;> cases c <;> cases d <;> rfl
def hasB (b w : Int) : Bool := decide (bits .and .i64 b w = w)
def canF (c : Cr) (uid gid mode want : Int) : Bool := decide (c.uid = 0) || hasB (clsI mode (classF c uid gid)) (want % 8)
theorem hasB_fin : ∀ b w : Fin 8, hasB b.val w.val = ((decide ((w.val : Int) < 4) || decide (4 ≤ (b.val : Int))) && (decide ((w.val : Int) / 2 % 2 = 0) || decide ((b.val : Int) / 2 % 2 = 1)) && (decide ((w.val : Int) % 2 = 0) || decide ((b.val : Int) % 2 = 1))) := by decide +kernel
theorem hasB_eq {b w : Int} (hb : 0 ≤ b ∧ b < 8) (hw : 0 ≤ w ∧ w < 8) : hasB b w = ((decide (w < 4) || decide (4 ≤ b)) && (decide (w / 2 % 2 = 0) || decide (b / 2 % 2 = 1)) && (decide (w % 2 = 0) || decide (b % 2 = 1))) := by
  obtain ⟨b, rfl⟩ := Int.eq_ofNat_of_zero_le hb.1
  obtain ⟨w, rfl⟩ := Int.eq_ofNat_of_zero_le hw.1
  exact hasB_fin ⟨b, by omega⟩ ⟨w, by omega⟩
def memS (l : List Int) (g : Int) (i : Nat) (a : Bool) : Bool := a || (l.take i).any fun y => decide (y = g)
theorem memS_0 (l : List Int) (g : Int) (a : Bool) : memS l g 0 a = a := by simp [memS]
theorem memS_succ (l : List Int) (g : Int) (i : Nat) (a : Bool) (hi : i < l.length) : (memS l g i a || decide (l.getD i 0 = g)) = memS l g (i + 1) a := by
  unfold memS
  rw [List.take_succ_eq_append_getElem hi, List.any_append, Bool.or_assoc]
  simp [List.getD_eq_getElem?_getD, hi]
theorem memS_all (c : Cr) (g : Int) : memS c.gs g c.gs.length (decide (c.gid = g)) = memF c g := by
  unfold memS memF
  rw [List.take_length]
  simp only [eq_comm]
theorem clsI_two (w : Int) : clsI w 2 = w % 8 := rfl

theorem c90 (m k : Int) (h : List Blk) (live : List Nat) : ACalls Tryz.prog 90 [.int .i64 m, .int .i64 k] h live (ret (.int .i64 (clsI m k)) h live) := by
  refine ab_ Tryz.func90 (hw := fun hH hX => ?_)
  have hm0 : 0 ≤ m % 4096 := by omega
  have hm1 : m % 4096 < 4096 := by omega
  have hm2 : 0 ≤ m % 4096 / 64 := by omega
  have hm3 : 0 ≤ m % 4096 / 8 := by omega
  obtain ⟨l1, l2, l3⟩ := low_cls m
  have sx := (And.intro @tdivN (And.intro @tmodN sx0))
  refine rg_ [0, 1] ?_
  refine rs_ [1, 5] ?_
  refine sg_ ?_
  refine cl_ (hc := c114 _ _ _) (k := ?_)
  refine sg_ ?_
  refine re_ ?_
  refine sk_ fun K1 hK1 => ?_
  refine rg_ [1, 5, 9] ?_
  refine cd_ (ht := fun hb1 => ?_) (hf := fun hb1 => ?_)
  · refine rg_ [4] ?_
    refine awp_ret (up_ ?_)
    refine fp_ Tryz.results90 (hK := ?_)
    refine ⟨?_, rfl, rfl⟩
    unfold clsI
    rw [if_pos hb1, l1]
  refine awp_skip (up_ ?_)
  refine hK1 _ ?_
  refine sk_ fun K2 hK2 => ?_
  refine rg_ [1, 5, 14] ?_
  refine cd_ (ht := fun hb2 => ?_) (hf := fun hb2 => ?_)
  · refine rg_ [4] ?_
    refine awp_ret (up_ ?_)
    refine fp_ Tryz.results90 (hK := ?_)
    refine ⟨?_, rfl, rfl⟩
    unfold clsI
    rw [if_neg hb1, if_pos hb2, l2]
  refine awp_skip (up_ ?_)
  refine hK2 _ ?_
  refine sk_ fun K3 hK3 => ?_
  refine rg_ [5, 19] ?_
  refine cd_ (ht := fun hb3 => ?_) (hf := fun hb3 => ?_)
  · refine rg_ [4] ?_
    refine awp_ret (up_ ?_)
    refine fp_ Tryz.results90 (hK := ?_)
    refine ⟨?_, rfl, rfl⟩
    unfold clsI
    rw [if_neg hb1, if_neg hb2, if_pos hb3, l3]
  refine awp_skip (up_ ?_)
  refine hK3 _ ?_
  refine rg_ [4] ?_
  refine awp_ret (up_ ?_)
  refine fp_ Tryz.results90 (hK := ?_)
  refine ⟨?_, rfl, rfl⟩
  unfold clsI
  rw [if_neg hb1, if_neg hb2, if_neg hb3]

theorem c87 (c : Cr) (k : Cap) (h : List Blk) (live : List Nat) : ACalls Tryz.prog 87 [.agg [.int .i64 c.uid, .int .i64 c.gid, .slice (c.gs.map iV) k]] h live (ret (.bool (decide (c.uid = 0))) h live) := by
  refine ab_ Tryz.func87 (hw := fun hH hX => ?_)
  have sx := sx0
  refine rg_ [1] ?_
  refine rg_ [2] ?_
  refine awp_ret (up_ ?_)
  refine fp_ Tryz.results87 (hK := ?_)
  exact ⟨rfl, rfl, rfl⟩

theorem c99 (c : Cr) (k : Cap) (g : Int) (h : List Blk) (live : List Nat) (hgs : c.gs.length ≤ 1000000000) : ACalls Tryz.prog 99 [.agg [.int .i64 c.uid, .int .i64 c.gid, .slice (c.gs.map iV) k], .int .i64 g] h live (ret (.bool (memF c g)) h live) := by
  refine ab_ Tryz.func99 (hw := fun hH hX => ?_)
  have sx := (And.intro @any2 sx0)
  refine rg_ [1, 2] ?_
  refine rsq_ [4] ⟨true, [], [], [], [], [], 0⟩ (fun _ => ⟨by kernel_rfl, by kernel_rfl⟩) ?_
  refine sg_ ?_
  refine cr_ (hc := c77 _ _ _ _ _ hgs) (k := ?_)
  refine sg_ ?_
  refine cr_ (hc := c86 [decide (g = c.gid), c.gs.any fun y => decide (g = y)] _ _ _ (by simp)) (k := ?_)
  refine sg_ ?_
  refine re_ ?_
  refine awp_ret (up_ ?_)
  refine fp_ Tryz.results99 (hK := ?_)
  exact ⟨rfl, rfl, rfl⟩

theorem c89 (c : Cr) (k : Cap) (u g : Int) (h : List Blk) (live : List Nat) (hgs : c.gs.length ≤ 1000000000) : ACalls Tryz.prog 89 [.agg [.int .i64 c.uid, .int .i64 c.gid, .slice (c.gs.map iV) k], .int .i64 u, .int .i64 g] h live (ret (.int .i64 (classF c u g)) h live) := by
  refine ab_ Tryz.func89 (hw := fun hH hX => ?_)
  have sx := sx0
  refine rg_ [1, 2, 3] ?_
  refine sk_ fun K1 hK1 => ?_
  refine awp_block ?_
  refine rg_ [2, 3, 7] ?_
  refine cd_ (ht := fun hb1 => ?_) (hf := fun hb1 => ?_)
  · refine rg_ [6] ?_
    refine awp_ret (up_ ?_)
    refine fp_ Tryz.results89 (hK := ?_)
    exact ⟨by rw [classF, decide_eq_true hb1]; rfl, rfl, rfl⟩
  refine rs_ [12] ?_
  refine sg_ ?_
  refine cl_ (hc := c99 c _ _ _ _ hgs) (k := ?_)
  refine sg_ ?_
  refine re_ ?_
  refine cb_ (ht := fun hb2 => ?_) (hf := fun hb2 => ?_)
  · refine rg_ [6] ?_
    refine awp_ret (up_ ?_)
    refine fp_ Tryz.results89 (hK := ?_)
    exact ⟨by rw [classF, decide_eq_false hb1, hb2]; rfl, rfl, rfl⟩
  refine awp_skip (up_ ?_)
  refine hK1 _ ?_
  refine rg_ [6] ?_
  refine awp_ret (up_ ?_)
  refine fp_ Tryz.results89 (hK := ?_)
  exact ⟨by rw [classF, decide_eq_false hb1, hb2]; rfl, rfl, rfl⟩

theorem c62 (c : Cr) (k : Cap) (u g m w : Int) (h : List Blk) (live : List Nat) (hgs : c.gs.length ≤ 1000000000) : ACalls Tryz.prog 62 [.agg [.int .i64 c.uid, .int .i64 c.gid, .slice (c.gs.map iV) k], .int .i64 u, .int .i64 g, .int .i64 m, .int .i64 w] h live (ret (.bool (canF c u g m w)) h live) := by
  refine ab_ Tryz.func62 (hw := fun hH hX => ?_)
  have sx := (And.intro @i64_and7 (And.intro @any2 sx0))
  refine rg_ [1, 2, 3, 4, 5] ?_
  refine rg_ [1, 2, 3, 4, 5] ?_
  refine rsq_ [10] ⟨true, [], [], [], [], [], 0⟩ (fun _ => ⟨by kernel_rfl, by kernel_rfl⟩) ?_
  refine sg_ ?_
  refine cr_ (hc := c87 c _ _ _) (k := ?_)
  refine sg_ ?_
  refine cr_ (hc := c89 c _ _ _ _ _ hgs) (k := ?_)
  refine cr_ (hc := c88 _ _ _ _) (k := ?_)
  refine sg_ ?_
  refine cr_ (hc := c86 [decide (c.uid = 0), decide (bits .and .i64 (clsI m (classF c u g)) (w % 8) = w % 8)] _ _ _ (by simp)) (k := ?_)
  refine sg_ ?_
  refine re_ ?_
  refine awp_ret (up_ ?_)
  refine fp_ Tryz.results62 (hK := ?_)
  exact ⟨rfl, rfl, rfl⟩

theorem c115 (c : Cr) (k : Cap) (g : Int) (h : List Blk) (live : List Nat) (hgs : c.gs.length ≤ 1000000000) : ACalls Tryz.prog 115 [.agg [.int .i64 c.uid, .int .i64 c.gid, .slice (c.gs.map iV) k], .int .i64 g] h live (ret (.bool (memF c g)) h live) := by
  refine ab_ Tryz.func115 (hw := fun hH hX => ?_)
  have hB : HCl (h ++ [.cells [.int .i64 c.uid, .int .i64 c.gid, .slice (c.gs.map iV) k]]) := HCl.snoc hH (by simp [Blk.cl, AV.cl, AV.clL, clL_iV, -List.map_map])
  have sx := (And.intro @memS_0 (And.intro @memS_succ sx0))
  refine rg_ [1, 2] ?_
  refine rg_ [1, 2, 5] ?_
  refine sk_ fun K1 hK1 => ?_
  refine rg_ [1, 2, 5, 6] ?_
  refine awp_block ?_
  refine awp_loop' (X := {i : Nat // i ≤ c.gs.length}) (fun x => ⟨Tryz.f115.ntmps, fget [(1, .int .i64 g), (2, .ptr h.length 0), (5, .bool (memS c.gs g x.1 (decide (c.gid = g)))), (6, .int .i64 (x.1 : Nat))], h ++ [.cells [.int .i64 c.uid, .int .i64 c.gid, .slice (c.gs.map iV) k]], live⟩) (fun x => c.gs.length - x.1) (⟨0, by omega⟩) ?_ (by first | rfl | simp only [List.length_set]) (fun ⟨i, hi⟩ => ?_)
  · try dsimp only
    exact tf_ hB (fun _ h => h)
  try dsimp only
  refine sk_ fun K2 hK2 => ?_
  refine rg_ [1, 2, 5, 6, 15] ?_
  refine cd_ (ht := fun hb1 => ?_) (hf := fun hb1 => ?_)
  rotate_left
  · have hil : i = c.gs.length := by omega
    subst hil
    refine awp_exit (up_ ?_)
    refine hK1 _ ?_
    refine rg_ [4] ?_
    refine awp_ret (up_ ?_)
    refine fp_ Tryz.results115 (hK := ?_)
    exact ⟨by rw [memS_all], rfl, rfl⟩
  refine awp_skip (up_ ?_)
  refine hK2 _ ?_
  refine sk_ fun K3 hK3 => ?_
  refine awp_block ?_
  refine rt_ [1, 2, 5, 6] ?_
  refine sg_ ?_
  refine rn_ (up_ ?_)
  refine hK3 _ ?_
  refine rt_ [1, 2, 5, 6] ?_
  refine sg_ ?_
  refine rn_ (up_ ?_)
  refine ⟨⟨i + 1, by omega⟩, ?_, (by first | rfl | trivial | (simp only [List.length_set]; done) | simp), by dsimp only; omega⟩
  try dsimp only
  exact tf_ hB (fun _ h => h)

theorem c91 (c : Cr) (k : Cap) (u g : Int) (h : List Blk) (live : List Nat) (hgs : c.gs.length ≤ 1000000000) : ACalls Tryz.prog 91 [.agg [.int .i64 c.uid, .int .i64 c.gid, .slice (c.gs.map iV) k], .int .i64 u, .int .i64 g] h live (ret (.int .i64 (classF c u g)) h live) := by
  refine ab_ Tryz.func91 (hw := fun hH hX => ?_)
  have sx := sx0
  refine rg_ [1, 2, 3] ?_
  refine sk_ fun K1 hK1 => ?_
  refine rg_ [2, 3, 10] ?_
  refine cd_ (ht := fun hb1 => ?_) (hf := fun hb1 => ?_)
  · refine rg_ [6] ?_
    refine awp_ret (up_ ?_)
    refine fp_ Tryz.results91 (hK := ?_)
    exact ⟨by rw [classF, decide_eq_true hb1.symm]; rfl, rfl, rfl⟩
  refine awp_skip (up_ ?_)
  refine hK1 _ ?_
  refine sk_ fun K2 hK2 => ?_
  refine rs_ [13] ?_
  refine sg_ ?_
  refine cl_ (hc := c115 c _ _ _ _ hgs) (k := ?_)
  refine re_ ?_
  refine cb_ (ht := fun hb2 => ?_) (hf := fun hb2 => ?_)
  · refine rg_ [6] ?_
    refine awp_ret (up_ ?_)
    refine fp_ Tryz.results91 (hK := ?_)
    exact ⟨by rw [classF, decide_eq_false (Ne.symm hb1), hb2]; rfl, rfl, rfl⟩
  refine awp_skip (up_ ?_)
  refine hK2 _ ?_
  refine rg_ [6] ?_
  refine awp_ret (up_ ?_)
  refine fp_ Tryz.results91 (hK := ?_)
  exact ⟨by rw [classF, decide_eq_false (Ne.symm hb1), hb2]; rfl, rfl, rfl⟩

theorem c63 (c : Cr) (k : Cap) (u g m w : Int) (h : List Blk) (live : List Nat) (hgs : c.gs.length ≤ 1000000000) : ACalls Tryz.prog 63 [.agg [.int .i64 c.uid, .int .i64 c.gid, .slice (c.gs.map iV) k], .int .i64 u, .int .i64 g, .int .i64 m, .int .i64 w] h live (ret (.bool (canF c u g m w)) h live) := by
  refine ab_ Tryz.func63 (hw := fun hH hX => ?_)
  have hcb := clsI_bd m (classF c u g)
  have hcw := clsI_bd w 2
  have hb0 := hcb.1
  have hw0 := hcw.1
  have hb2' : 0 ≤ clsI m (classF c u g) / 2 := by omega
  have hw2' : 0 ≤ clsI w 2 / 2 := by omega
  have sx := (And.intro @tdivN (And.intro @tmodN (And.intro @Bool.true_and (And.intro @Bool.and_true sx0))))
  refine rg_ [1, 2, 3, 4, 5] ?_
  refine sk_ fun K1 hK1 => ?_
  refine rg_ [1, 2, 3, 4, 5, 15] ?_
  refine cd_ (ht := fun hb1 => ?_) (hf := fun hb1 => ?_)
  · refine rg_ [10] ?_
    refine awp_ret (up_ ?_)
    refine fp_ Tryz.results63 (hK := ?_)
    exact ⟨by rw [canF, decide_eq_true hb1]; rfl, rfl, rfl⟩
  refine awp_skip (up_ ?_)
  refine hK1 _ ?_
  refine rs_ [4, 11] ?_
  refine sg_ ?_
  refine cl_ (hc := c91 c _ _ _ _ _ hgs) (k := ?_)
  refine cl_ (hc := c90 _ _ _ _) (k := ?_)
  refine sg_ ?_
  refine re_ ?_
  refine rs_ [11, 12] ?_
  refine sg_ ?_
  refine cl_ (hc := c90 _ _ _ _) (k := ?_)
  refine sg_ ?_
  refine re_ ?_
  refine rg_ [10] ?_
  refine awp_ret (up_ ?_)
  refine fp_ Tryz.results63 (hK := ?_)
  refine ⟨?_, rfl, rfl⟩
  rw [canF, decide_eq_false hb1, ← clsI_two, hasB_eq hcb hcw]
  try simp

end Go.Proofs.YtjoklidphbmpoaaGreat
