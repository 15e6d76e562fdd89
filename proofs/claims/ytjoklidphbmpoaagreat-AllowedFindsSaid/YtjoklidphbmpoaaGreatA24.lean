import Derived.Test.YtjoklidphbmpoaaGreatA23
/-
  PATHS: what is told of a node.
-/
namespace Go.Proofs.YtjoklidphbmpoaaGreat
open Go.Ab
set_option linter.unusedVariables false
set_option linter.unusedSimpArgs false
set_option maxRecDepth 8000
set_option maxHeartbeats 400000

theorem c107 (n : Nd) (h : List Blk) (live : List Nat) : ACalls Tryz.prog 107 [.agg (ndC n)] h live (ret (.int .i64 (sizeF n)) h live) := by
  refine ab_ Tryz.func107 (hw := fun hH hX => ?_)
  have sx := sx0
  refine rg_ [1] ?_
  refine sk_ fun K1 hK1 => ?_
  refine rg_ [1, 4] ?_
  refine awp_block ?_
  refine rg_ [1, 4, 5] ?_
  refine cd_ (ht := fun hb1 => ?_) (hf := fun hb1 => ?_)
  · refine rg_ [2] ?_
    refine awp_ret (up_ ?_)
    refine fp_ Tryz.results107 (hK := ?_)
    exact ⟨by unfold sizeF; rw [if_pos hb1], rfl, rfl⟩
  refine rg_ [1, 4, 10] ?_
  refine cd_ (ht := fun hb2 => ?_) (hf := fun hb2 => ?_)
  · refine rg_ [2] ?_
    refine awp_ret (up_ ?_)
    refine fp_ Tryz.results107 (hK := ?_)
    exact ⟨by unfold sizeF; rw [if_neg hb1, if_pos hb2], rfl, rfl⟩
  refine rg_ [1, 15] ?_
  refine cd_ (ht := fun hb3 => ?_) (hf := fun hb3 => ?_)
  · refine rg_ [2] ?_
    refine awp_ret (up_ ?_)
    refine fp_ Tryz.results107 (hK := ?_)
    exact ⟨by unfold sizeF; rw [if_neg hb1, if_neg hb2, if_pos hb3], rfl, rfl⟩
  refine awp_skip (up_ ?_)
  refine hK1 _ ?_
  refine rg_ [2] ?_
  refine awp_ret (up_ ?_)
  refine fp_ Tryz.results107 (hK := ?_)
  exact ⟨by unfold sizeF; rw [if_neg hb1, if_neg hb2, if_neg hb3], rfl, rfl⟩

theorem c82 (T : Tab) (k : Nat) (i : Int) (h : List Blk) (live : List Nat) (hk : h[k]? = some (tabBlk T)) (hT : T.Ok) : ACalls Tryz.prog 82 [.ptr k 0, .int .i64 i] h live (ret (.tup [.agg (staC (staF T i)), .bool (T.get i).2]) h live) := by
  refine ab_ Tryz.func82 (hw := fun hH hX => ?_)
  have sx := sx0
  refine rg_ [0, 1, 4] ?_
  refine rs_ [0, 1, 4, 6, 7] ?_
  refine sg_ ?_
  refine cl_ (hc := c18 T k _ _ _ (atApp hk) hT) (k := ?_)
  refine sg_ ?_
  refine re_ ?_
  refine sk_ fun K1 hK1 => ?_
  refine rg_ [0, 1, 4, 6, 15] ?_
  refine cd_ (ht := fun hb1 => ?_) (hf := fun hb1 => ?_)
  · refine rg_ [4, 5] ?_
    refine awp_ret (up_ ?_)
    refine fp_ Tryz.results82 (hK := ?_)
    exact ⟨by rw [hb1, staF_no hb1]; rfl, rfl, rfl⟩
  refine awp_skip (up_ ?_)
  refine hK1 _ ?_
  refine rsq_ [4, 5] ⟨true, [], [], [], [], [], 0⟩ (fun _ => ⟨by kernel_rfl, by kernel_rfl⟩) ?_
  refine sg_ ?_
  refine cr_ (hc := c50 T k _ _ _ (atApp hk) hT) (k := ?_)
  refine sg_ ?_
  refine cr_ (hc := c107 _ _ _) (k := ?_)
  refine sg_ ?_
  refine re_ ?_
  refine awp_ret (up_ ?_)
  refine fp_ Tryz.results82 (hK := ?_)
  exact ⟨by rw [hb1]; unfold staF; rw [if_pos hb1]; rfl, rfl, rfl⟩

theorem c56 (T : Tab) (k : Nat) (c : Cr) (p : List UInt8) (fl : Bool) (h : List Blk) (live : List Nat) (hk : h[k]? = some (tabBlk T)) (hT : T.Ok) (hgs : c.gs.length ≤ 1000000000) (hR : T.Rt) (hp : p.length ≤ 9223372036854775807) : ACalls Tryz.prog 56 [.ptr k 0, .agg [.int .i64 c.uid, .int .i64 c.gid, .slice (c.gs.map iV) .none], .str p, .bool fl] h live (ret (.tup [.agg (staC (statF T c p fl).1), .int .i64 (statF T c p fl).2]) h live) := by
  refine ab_ Tryz.func56 (hw := fun hH hX => ?_)
  have sx := sx0
  refine rg_ [0, 2, 3, 5, 8] ?_
  refine rs_ [0, 8, 10, 11] ?_
  refine sg_ ?_
  refine cl_ (hc := c81 T k c p fl _ _ (atApp hk) hT hgs hR hp) (k := ?_)
  refine sg_ ?_
  refine re_ ?_
  refine sk_ fun K1 hK1 => ?_
  refine rg_ [0, 8, 10, 11, 23] ?_
  refine cd_ (ht := fun hb1 => ?_) (hf := fun hb1 => ?_)
  · refine rg_ [8, 9] ?_
    refine awp_ret (up_ ?_)
    refine fp_ Tryz.results56 (hK := ?_)
    exact ⟨by unfold statF; rw [if_pos hb1]; rfl, rfl, rfl⟩
  refine awp_skip (up_ ?_)
  refine hK1 _ ?_
  refine rs_ [8, 12] ?_
  refine sg_ ?_
  refine cl_ (hc := c82 T k _ _ _ (atApp hk) hT) (k := ?_)
  refine sg_ ?_
  refine re_ ?_
  refine sk_ fun K2 hK2 => ?_
  refine rg_ [8, 12, 35] ?_
  refine cb_ (ht := fun hb2 => ?_) (hf := fun hb2 => ?_)
  · have hno : (T.get (resF T c p fl).1.2.2).2 = false := by
      cases hg : (T.get (resF T c p fl).1.2.2).2 with
      | false => rfl
      | true =>
        have h1 := get_pos hT hg
        rw [← staF_node hg] at h1
        simp only [Bool.and_eq_true, decide_eq_true_eq] at hb2
        have := hb2.1
        omega
    refine rg_ [8, 9] ?_
    refine awp_ret (up_ ?_)
    refine fp_ Tryz.results56 (hK := ?_)
    exact ⟨by unfold statF; rw [if_neg (fun h => h hb1), if_neg (by rw [hno]; decide), staF_no hno], rfl, rfl⟩
  have hye : (T.get (resF T c p fl).1.2.2).2 = true := by
    cases hg : (T.get (resF T c p fl).1.2.2).2 with
    | true => rfl
    | false => rw [staF_no hg] at hb2; simp [sta0] at hb2
  refine awp_skip (up_ ?_)
  refine hK2 _ ?_
  refine rg_ [8, 9] ?_
  refine awp_ret (up_ ?_)
  refine fp_ Tryz.results56 (hK := ?_)
  exact ⟨by unfold statF; rw [if_neg (fun h => h hb1), if_pos hye], rfl, rfl⟩

theorem c22 (T : Tab) (k : Nat) (c : Cr) (p : List UInt8) (h : List Blk) (live : List Nat) (hk : h[k]? = some (tabBlk T)) (hT : T.Ok) (hgs : c.gs.length ≤ 1000000000) (hR : T.Rt) (hp : p.length ≤ 9223372036854775807) : ACalls Tryz.prog 22 [.ptr k 0, .agg [.int .i64 c.uid, .int .i64 c.gid, .slice (c.gs.map iV) .none], .str p] h live (ret (.tup [.agg (staC (statF T c p true).1), .int .i64 (statF T c p true).2]) h live) := by
  refine ab_ Tryz.func22 (hw := fun hH hX => ?_)
  have sx := sx0
  refine rg_ [0, 2, 4, 6] ?_
  refine rs_ [6, 7] ?_
  refine sg_ ?_
  refine cl_ (hc := c56 T k c p true _ _ (atApp hk) hT hgs hR hp) (k := ?_)
  refine sg_ ?_
  refine re_ ?_
  refine awp_ret (up_ ?_)
  refine fp_ Tryz.results22 (hK := ?_)
  exact ⟨rfl, rfl, rfl⟩

end Go.Proofs.YtjoklidphbmpoaaGreat
