import Derived.Test.YtjoklidphbmpoaaGreatA5
/-
  TABLES: whether one may come to a directory, and to a node.
-/
namespace Go.Proofs.YtjoklidphbmpoaaGreat
open Go.Ab
set_option linter.unusedVariables false
set_option linter.unusedSimpArgs false
set_option maxRecDepth 8000
set_option maxHeartbeats 400000


def canT (c : Cr) (T : Tab) (i want : Int) : Bool := (T.get i).2 && canF c (T.get i).1.uid (T.get i).1.gid (T.get i).1.mode want
def wayL (T : Tab) (c : Cr) : Nat → Int → Bool
  | 0, _ => false
  | n + 1, d => if d = 1 then true else bif canT c T (T.parent d) 1 then wayL T c n (T.parent d) else false
def wayF (T : Tab) (c : Cr) (d : Int) : Bool := bif decide ((T.get d).1.kind = 2) then wayL T c 24 d else false
def seenAt (T : Tab) (c : Cr) (i : Int) (d : Nat) : Bool := ((T.get d).1.ents.any fun e => decide (e.2 = i)) && wayF T c d && canT c T d 1
def seenF (T : Tab) (c : Cr) (i : Int) : Bool := (T.get i).2 && (((List.range 25).any fun d => seenAt T c i d) || decide (i = 1))
theorem wayL_succ (T : Tab) (c : Cr) (n : Nat) (d : Int) : wayL T c (n + 1) d = if d = 1 then true else bif canT c T (T.parent d) 1 then wayL T c n (T.parent d) else false := rfl
theorem wayL_m (T : Tab) (c : Cr) {m : Nat} (hm : m < 24) (d : Int) : wayL T c (24 - m) d = if d = 1 then true else bif canT c T (T.parent d) 1 then wayL T c (24 - (m + 1)) (T.parent d) else false := by
  rw [show 24 - m = (24 - (m + 1)) + 1 by omega]; rfl
theorem any25_t {p : Nat → Bool} {m : Nat} (hm : m < 25) (h : p m = true) : (List.range 25).any p = true := List.any_eq_true.2 ⟨m, List.mem_range.2 hm, h⟩
theorem any25_f {p : Nat → Bool} (h : ∀ j, j < 25 → p j = false) : (List.range 25).any p = false := List.any_eq_false.2 fun j hj => by simp [h j (List.mem_range.1 hj)]
theorem eV_eq (e : En) : eV e = .agg [.str e.1, .int .i64 e.2] := rfl

theorem c26 (T : Tab) (k : Nat) (c : Cr) (q : Cap) (i w : Int) (h : List Blk) (live : List Nat) (hk : h[k]? = some (tabBlk T)) (hT : T.Ok) (hgs : c.gs.length ≤ 1000000000) : ACalls Tryz.prog 26 [.ptr k 0, .agg [.int .i64 c.uid, .int .i64 c.gid, .slice (c.gs.map iV) q], .int .i64 i, .int .i64 w] h live (ret (.bool (canT c T i w)) h live) := by
  refine ab_ Tryz.func26 (hw := fun hH hX => ?_)
  have sx := sx0
  refine rg_ [0, 2, 3, 5] ?_
  refine rs_ [3, 5, 9, 10] ?_
  refine sg_ ?_
  refine cl_ (hc := c18 T k _ _ _ (atApp hk) hT) (k := ?_)
  refine sg_ ?_
  refine re_ ?_
  refine rs_ [8] ?_
  refine sg_ ?_
  refine cg_ (hc := fun hg => c62 c _ _ _ _ _ _ _ hgs) (k := ?_)
  refine sg_ ?_
  refine re_ ?_
  refine awp_ret (up_ ?_)
  refine fp_ Tryz.results26 (hK := ?_)
  exact ⟨by unfold canT; rfl, rfl, rfl⟩

theorem c64 (l : List En) (c : Cap) (f : FuncId) (cs : List AV) (p : En → Bool) (h : List Blk) (live : List Nat) (hl : l.length ≤ 1000000000) (hp : ∀ e, ACalls Tryz.prog f (.agg [.str e.1, .int .i64 e.2] :: cs) h live (ret (.bool (p e)) h live)) (hcs : AV.clL h.length cs) : ACalls Tryz.prog 64 [.slice (l.map eV) c, .fn (.func f) [] cs] h live (ret (.int .i64 (idxP p l)) h live) := by
  refine ab_ Tryz.func64 (hw := fun hH hX => ?_)
  have sx := sx0
  refine rg_ [0, 1] ?_
  refine sk_ fun K1 hK1 => ?_
  refine rg_ [0, 1, 7, 8] ?_
  refine awp_block ?_
  refine awp_loop' (X := {i : Nat // i ≤ l.length ∧ ∀ j, j < i → p (l.getD j ([], 0)) = false}) (fun x => ⟨Tryz.f64.ntmps, fget [(0, .slice (l.map eV) c), (1, .fn (.func f) [] cs), (7, .int .i64 l.length), (8, .int .i64 (x.1 : Nat))], h, live⟩) (fun x => l.length - x.1) (⟨0, by omega, fun j hj => by omega⟩) ?_ (by first | rfl | simp only [List.length_set]) (fun ⟨i, hi, hn⟩ => ?_)
  · try dsimp only
    refine Trunc.same ?_ hH
    refine FTr.cons (by first | rfl | ((simp (disch := omega) only [push_cast, ↓reduceIte, Nat.reduceEqDiff, Nat.reduceAdd, Nat.reduceLeDiff, sx]) <;> rfl)) (by first | exact hcs | exact ⟨trivial, hcs⟩ | simp [AV.cl, AV.clL, clL_eV, -List.map_map]) ?_
    refine FTr.cons (by first | rfl | ((simp (disch := omega) only [push_cast, ↓reduceIte, Nat.reduceEqDiff, Nat.reduceAdd, Nat.reduceLeDiff, sx]) <;> rfl)) (by first | exact hcs | exact ⟨trivial, hcs⟩ | simp [AV.cl, AV.clL, clL_eV, -List.map_map]) ?_
    refine FTr.cons (by first | rfl | ((simp (disch := omega) only [push_cast, ↓reduceIte, Nat.reduceEqDiff, Nat.reduceAdd, Nat.reduceLeDiff, sx]) <;> rfl)) (by first | exact hcs | exact ⟨trivial, hcs⟩ | simp [AV.cl, AV.clL, clL_eV, -List.map_map]) ?_
    refine FTr.cons (by first | rfl | ((simp (disch := omega) only [push_cast, ↓reduceIte, Nat.reduceEqDiff, Nat.reduceAdd, Nat.reduceLeDiff, sx]) <;> rfl)) (by first | exact hcs | exact ⟨trivial, hcs⟩ | simp [AV.cl, AV.clL, clL_eV, -List.map_map]) ?_
    exact FTr.nil
  try dsimp only
  refine rg_ [0, 1, 7, 8, 9] ?_
  refine sk_ fun K2 hK2 => ?_
  refine cd_ (ht := fun hb1 => ?_) (hf := fun hb1 => ?_)
  rotate_left
  · have hx := idxP_none (p := p) ([], 0) (l := l) fun j hj => hn j (by omega)
    refine awp_exit (up_ ?_)
    refine hK1 _ ?_
    refine rg_ [4] ?_
    refine awp_ret (up_ ?_)
    refine fp_ Tryz.results64 (hK := ?_)
    refine ⟨?_, rfl, rfl⟩
    rw [hx]
  have hil : i < l.length := by omega
  refine awp_skip (up_ ?_)
  refine hK2 _ ?_
  refine sk_ fun K3 hK3 => ?_
  refine awp_block ?_
  refine rg_ [0, 1, 5, 7, 8] ?_
  refine rs_ [0, 1, 5, 7, 8, 16] ?_
  refine sg_ ?_
  refine cl_ (hc := hp (l.getD i ([], 0))) (k := ?_)
  refine re_ ?_
  refine cb_ (ht := fun hb2 => ?_) (hf := fun hb2 => ?_)
  · have hx := idxP_at (p := p) ([], 0) (l := l) (i := i) (by omega) hb2 hn
    refine rg_ [4] ?_
    refine awp_ret (up_ ?_)
    refine fp_ Tryz.results64 (hK := ?_)
    refine ⟨?_, rfl, rfl⟩
    rw [hx]
  refine awp_skip (up_ ?_)
  refine hK3 _ ?_
  refine rt_ [0, 1, 7, 8] ?_
  refine sg_ ?_
  refine rn_ (up_ ?_)
  refine ⟨⟨i + 1, by omega, fun j hj => by rcases Nat.lt_succ_iff_lt_or_eq.1 hj with h | h; exact hn j h; subst h; exact hb2⟩, ?_, (by first | rfl | trivial | (simp only [List.length_set]; done) | simp), by dsimp only; omega⟩
  try dsimp only
  refine Trunc.same ?_ hH
  refine FTr.cons (by (simp (disch := omega) only [push_cast, ↓reduceIte, Nat.reduceEqDiff, Nat.reduceAdd, Nat.reduceLeDiff, sx]) <;> first | rfl | (congr 2; omega)) (by first | exact hcs | exact ⟨trivial, hcs⟩ | simp [AV.cl, AV.clL, clL_eV, -List.map_map]) ?_
  refine FTr.cons (by (simp (disch := omega) only [push_cast, ↓reduceIte, Nat.reduceEqDiff, Nat.reduceAdd, Nat.reduceLeDiff, sx]) <;> first | rfl | (congr 2; omega)) (by first | exact hcs | exact ⟨trivial, hcs⟩ | simp [AV.cl, AV.clL, clL_eV, -List.map_map]) ?_
  refine FTr.cons (by (simp (disch := omega) only [push_cast, ↓reduceIte, Nat.reduceEqDiff, Nat.reduceAdd, Nat.reduceLeDiff, sx]) <;> first | rfl | (congr 2; omega)) (by first | exact hcs | exact ⟨trivial, hcs⟩ | simp [AV.cl, AV.clL, clL_eV, -List.map_map]) ?_
  refine FTr.cons (by (simp (disch := omega) only [push_cast, ↓reduceIte, Nat.reduceEqDiff, Nat.reduceAdd, Nat.reduceLeDiff, sx]) <;> first | rfl | (congr 2; omega)) (by first | exact hcs | exact ⟨trivial, hcs⟩ | simp [AV.cl, AV.clL, clL_eV, -List.map_map]) ?_
  exact FTr.nil

theorem c33 (l : List En) (c : Cap) (f : FuncId) (cs : List AV) (p : En → Bool) (h : List Blk) (live : List Nat) (hl : l.length ≤ 1000000000) (hp : ∀ e, ACalls Tryz.prog f (.agg [.str e.1, .int .i64 e.2] :: cs) h live (ret (.bool (p e)) h live)) (hcs : AV.clL h.length cs) : ACalls Tryz.prog 33 [.slice (l.map eV) c, .fn (.func f) [] cs] h live (ret (.bool (l.any p)) h live) := by
  refine ab_ Tryz.func33 (hw := fun hH hX => ?_)
  have sx := (And.intro @idxP_any sx0)
  refine rg_ [0, 1] ?_
  refine rs_ [4] ?_
  refine sg_ ?_
  refine cl_ (hc := c64 l _ f cs p _ _ hl hp hcs) (k := ?_)
  refine sg_ ?_
  refine re_ ?_
  refine awp_ret (up_ ?_)
  refine fp_ Tryz.results33 (hK := ?_)
  exact ⟨rfl, rfl, rfl⟩

theorem c34 (b : Nat) (i : Int) (e : En) (h : List Blk) (live : List Nat) (hb : h[b]? = some (.cells [.int .i64 i])) : ACalls Tryz.prog 34 (.agg [.str e.1, .int .i64 e.2] :: [.ptr b 0]) h live (ret (.bool (decide (e.2 = i))) h live) := by
  refine ab_ Tryz.func34 (hw := fun hH hX => ?_)
  have hbl := lt_of_get hb
  have sx := (And.intro @hb sx0)
  refine rs_ [1, 2] ?_
  refine dawp_h rfl (by (simp (disch := omega) only [push_cast, ↓reduceIte, Nat.reduceEqDiff, Nat.reduceAdd, Nat.reduceLeDiff, sx, List.getElem?_append_left hbl]) <;> rfl) rfl rfl ?_
  refine dawp_p rfl (by (simp (disch := omega) only [push_cast, ↓reduceIte, Nat.reduceEqDiff, Nat.reduceAdd, Nat.reduceLeDiff, sx, List.getElem?_append_left hbl]) <;> rfl) rfl rfl ?_
  refine re_ (hf := by (simp (disch := omega) only [push_cast, ↓reduceIte, Nat.reduceEqDiff, Nat.reduceAdd, Nat.reduceLeDiff, sx, List.getElem?_append_left hbl]) <;> rfl) (hh := by (try simp (disch := omega) only [push_cast, ↓reduceIte, Nat.reduceEqDiff, Nat.reduceAdd, Nat.reduceLeDiff, sx, List.getElem?_append_left hbl]) <;> rfl) ?_
  refine rs_ [3] ?_
  refine dawp_p rfl (by (simp (disch := omega) only [push_cast, ↓reduceIte, Nat.reduceEqDiff, Nat.reduceAdd, Nat.reduceLeDiff, sx, List.getElem?_append_left hbl]) <;> rfl) rfl rfl ?_
  iterate 2 (refine dawp_h rfl (by (simp (disch := omega) only [push_cast, ↓reduceIte, Nat.reduceEqDiff, Nat.reduceAdd, Nat.reduceLeDiff, sx, List.getElem?_append_left hbl]) <;> rfl) rfl rfl ?_)
  iterate 2 (refine dawp_p rfl (by (simp (disch := omega) only [push_cast, ↓reduceIte, Nat.reduceEqDiff, Nat.reduceAdd, Nat.reduceLeDiff, sx, List.getElem?_append_left hbl]) <;> rfl) rfl rfl ?_)
  refine re_ (hf := by (simp (disch := omega) only [push_cast, ↓reduceIte, Nat.reduceEqDiff, Nat.reduceAdd, Nat.reduceLeDiff, sx, List.getElem?_append_left hbl]) <;> rfl) (hh := by (try simp (disch := omega) only [push_cast, ↓reduceIte, Nat.reduceEqDiff, Nat.reduceAdd, Nat.reduceLeDiff, sx, List.getElem?_append_left hbl]) <;> rfl) ?_
  refine awp_ret (up_ ?_)
  refine fp_ (hres := by (simp (disch := omega) only [aresults, aresult, push_cast, ↓reduceIte, Nat.reduceEqDiff, Nat.reduceAdd, Nat.reduceLeDiff, sx, List.getElem?_append_left hbl]) <;> rfl) Tryz.results34 (hK := ?_)
  exact ⟨rfl, rfl, rfl⟩

theorem n8 (d : Int) (c : Cr) (q : Cap) (h : List Blk) (live : List Nat) : ACalls Tryz.prog 8 [.raw (.pointer none), .agg [.int .i64 c.uid, .int .i64 c.gid, .slice (c.gs.map iV) q], .int .i64 d] h live (ret (.bool false) h live) := by
  refine ab_ Tryz.func8 (hw := fun hH hX => ?_)
  have sx := sx0
  refine rg_ [0, 2, 4] ?_
  refine rs_ [0, 2, 4, 7] ?_
  refine sg_ ?_
  refine cl_ (hc := n18 ⟨0, []⟩ 0 _ _ _) (k := ?_)
  refine sg_ ?_
  refine re_ ?_
  refine sk_ fun K1 hK1 => ?_
  refine rg_ [0, 2, 4, 17] ?_
  refine cdy_ (ht := fun hb1 => ?_) (hf := fun hb1 => ?_)
  · refine rg_ [6] ?_
    refine awp_ret (up_ ?_)
    refine fp_ Tryz.results8 (hK := ?_)
    exact ⟨rfl, rfl, rfl⟩
  exfalso; exact Bool.noConfusion hb1

theorem c8 (T : Tab) (k : Nat) (c : Cr) (q : Cap) (d : Int) (h : List Blk) (live : List Nat) (hk : h[k]? = some (tabBlk T)) (hT : T.Ok) (hgs : c.gs.length ≤ 1000000000) : ACalls Tryz.prog 8 [.ptr k 0, .agg [.int .i64 c.uid, .int .i64 c.gid, .slice (c.gs.map iV) q], .int .i64 d] h live (ret (.bool (wayF T c d)) h live) := by
  refine ab_ Tryz.func8 (hw := fun hH hX => ?_)
  have hkl := lt_of_get hk
  have hB : HCl (h ++ [.cells [.int .i64 c.uid, .int .i64 c.gid, .slice (c.gs.map iV) q], .cells (ndC (T.get d).1)]) := by
    have := HCl.snoc (HCl.snoc (b := .cells [.int .i64 c.uid, .int .i64 c.gid, .slice (c.gs.map iV) q]) hH (by simp [Blk.cl, AV.cl, AV.clL, clL_iV, -List.map_map])) (b := .cells (ndC (T.get d).1)) (clL_ndC _ _)
    rw [List.append_assoc] at this; exact this
  have sx := sx0
  refine rg_ [0, 2, 4] ?_
  refine rs_ [0, 2, 4, 7] ?_
  refine sg_ ?_
  refine cl_ (hc := c18 T k _ _ _ (atApp hk) hT) (k := ?_)
  refine sg_ ?_
  refine re_ ?_
  refine sk_ fun K1 hK1 => ?_
  refine rg_ [0, 2, 4, 17] ?_
  refine cd_ (ht := fun hb1 => ?_) (hf := fun hb1 => ?_)
  · refine rg_ [6] ?_
    refine awp_ret (up_ ?_)
    refine fp_ Tryz.results8 (hK := ?_)
    exact ⟨by unfold wayF; rw [decide_eq_false hb1]; rfl, rfl, rfl⟩
  refine awp_skip (up_ ?_)
  refine hK1 _ ?_
  refine sk_ fun K2 hK2 => ?_
  refine rg_ [0, 2, 4, 18] ?_
  refine awp_block ?_
  refine awp_loop' (X := {x : Nat × Int // x.1 ≤ 24 ∧ wayL T c 24 d = wayL T c (24 - x.1) x.2}) (fun x => ⟨Tryz.f8.ntmps, fget [(0, .ptr k 0), (2, .int .i64 x.1.2), (4, .ptr h.length 0), (18, .int .i64 (x.1.1 : Nat))], h ++ [.cells [.int .i64 c.uid, .int .i64 c.gid, .slice (c.gs.map iV) q], .cells (ndC (T.get d).1)], live⟩) (fun x => 24 - x.1.1) (⟨⟨0, d⟩, by simp, rfl⟩) ?_ (by first | rfl | simp only [List.length_set]) (fun ⟨⟨m, e⟩, hm, hw⟩ => ?_)
  · try dsimp only
    exact tf_ hB (fun _ h => h)
  try dsimp only
  dsimp only at hm hw
  refine rg_ [0, 2, 4, 18, 19] ?_
  refine sk_ fun K3 hK3 => ?_
  refine cd_ (ht := fun hb2 => ?_) (hf := fun hb2 => ?_)
  rotate_left
  · have hme : m = 24 := by omega
    subst hme
    refine awp_exit (up_ ?_)
    refine hK2 _ ?_
    refine rg_ [6] ?_
    refine awp_ret (up_ ?_)
    refine fp_ Tryz.results8 (hK := ?_)
    exact ⟨by unfold wayF; rw [decide_eq_true hb1, cond_true, hw]; rfl, rfl, rfl⟩
  have hml : m < 24 := by omega
  refine awp_skip (up_ ?_)
  refine hK3 _ ?_
  refine sk_ fun K4 hK4 => ?_
  refine awp_block ?_
  refine sk_ fun K5 hK5 => ?_
  refine rg_ [0, 2, 4, 18, 21] ?_
  refine cd_ (ht := fun hb3 => ?_) (hf := fun hb3 => ?_)
  · refine rg_ [6] ?_
    refine awp_ret (up_ ?_)
    refine fp_ Tryz.results8 (hK := ?_)
    exact ⟨by unfold wayF; rw [decide_eq_true hb1, cond_true, hw, wayL_m T c hml, if_pos hb3], rfl, rfl⟩
  refine awp_skip (up_ ?_)
  refine hK5 _ ?_
  refine rs_ [0, 2, 4, 18] ?_
  refine sg_ ?_
  refine cl_ (hc := c25 T k _ _ _ (atApp hk) hT) (k := ?_)
  refine sg_ ?_
  refine re_ ?_
  refine rs_ [0, 2, 4, 18, 29] ?_
  refine sg_ ?_
  refine cl_ (hc := c26 T k c _ _ _ _ _ (atApp hk) hT hgs) (k := ?_)
  refine sg_ ?_
  refine re_ ?_
  refine cd_ (ht := fun hb4 => ?_) (hf := fun hb4 => ?_)
  · refine rg_ [6] ?_
    refine awp_ret (up_ ?_)
    refine fp_ Tryz.results8 (hK := ?_)
    exact ⟨by unfold wayF; rw [decide_eq_true hb1, cond_true, hw, wayL_m T c hml, if_neg hb3, hb4]; rfl, rfl, rfl⟩
  refine awp_skip (up_ ?_)
  refine hK4 _ ?_
  refine rt_ [0, 2, 4, 18] ?_
  refine sg_ ?_
  refine rn_ (up_ ?_)
  refine ⟨⟨⟨m + 1, T.parent e⟩, by dsimp only; omega, by rw [hw, wayL_m T c (by omega), if_neg hb3, hb4]; rfl⟩, ?_, (by first | rfl | trivial | (simp only [List.length_set]; done) | simp), by dsimp only; omega⟩
  try dsimp only
  exact tf_ hB (fun _ h => h)

theorem n12 (i : Int) (c : Cr) (q : Cap) (h : List Blk) (live : List Nat) : ACalls Tryz.prog 12 [.raw (.pointer none), .agg [.int .i64 c.uid, .int .i64 c.gid, .slice (c.gs.map iV) q], .int .i64 i] h live (ret (.bool false) h live) := by
  refine ab_ Tryz.func12 (hw := fun hH hX => ?_)
  have sx := sx0
  refine rg_ [0, 4, 5] ?_
  refine sk_ fun K1 hK1 => ?_
  refine rs_ [0, 4, 5, 8] ?_
  refine sg_ ?_
  refine cl_ (hc := n18 ⟨0, []⟩ 0 _ _ _) (k := ?_)
  refine sg_ ?_
  refine re_ ?_
  refine rg_ [0, 4, 5, 20] ?_
  refine cdy_ (ht := fun hb1 => ?_) (hf := fun hb1 => ?_)
  · refine rg_ [6] ?_
    refine awp_ret (up_ ?_)
    refine fp_ Tryz.results12 (hK := ?_)
    exact ⟨rfl, rfl, rfl⟩
  exfalso; exact Bool.noConfusion hb1

theorem c12 (T : Tab) (k : Nat) (c : Cr) (q : Cap) (i : Int) (h : List Blk) (live : List Nat) (hk : h[k]? = some (tabBlk T)) (hT : T.Ok) (hgs : c.gs.length ≤ 1000000000) : ACalls Tryz.prog 12 [.ptr k 0, .agg [.int .i64 c.uid, .int .i64 c.gid, .slice (c.gs.map iV) q], .int .i64 i] h live (ret (.bool (seenF T c i)) h live) := by
  refine ab_ Tryz.func12 (hw := fun hH hX => ?_)
  have hkl := lt_of_get hk
  have hnd := fun d => (get_ok hT d).2.1
  have hB : HCl (h ++ [.cells [.int .i64 c.uid, .int .i64 c.gid, .slice (c.gs.map iV) q], .cells [.int .i64 i], .cells (ndC (T.get i).1)]) := by
    have := HCl.snoc (HCl.snoc (HCl.snoc (b := .cells [.int .i64 c.uid, .int .i64 c.gid, .slice (c.gs.map iV) q]) hH (by simp [Blk.cl, AV.cl, AV.clL, clL_iV, -List.map_map])) (b := .cells [.int .i64 i]) ⟨trivial, trivial⟩) (b := .cells (ndC (T.get i).1)) (clL_ndC _ _)
    rw [List.append_assoc, List.append_assoc] at this; exact this
  have sx := sx0
  refine rg_ [0, 4, 5] ?_
  refine sk_ fun K1 hK1 => ?_
  refine rs_ [0, 4, 5, 8] ?_
  refine sg_ ?_
  refine cl_ (hc := c18 T k _ _ _ (atApp hk) hT) (k := ?_)
  refine sg_ ?_
  refine re_ ?_
  refine rg_ [0, 4, 5, 20] ?_
  refine cb_ (ht := fun hb1 => ?_) (hf := fun hb1 => ?_)
  · refine rg_ [6] ?_
    refine awp_ret (up_ ?_)
    refine fp_ Tryz.results12 (hK := ?_)
    exact ⟨by unfold seenF; simp only [Bool.not_eq_true'] at hb1; rw [hb1]; rfl, rfl, rfl⟩
  refine awp_skip (up_ ?_)
  refine hK1 _ ?_
  refine sk_ fun K2 hK2 => ?_
  refine rg_ [0, 4, 5, 21] ?_
  refine awp_block ?_
  refine awp_loop' (X := {m : Nat // m ≤ 25 ∧ ∀ j, j < m → seenAt T c i j = false}) (fun x => ⟨Tryz.f12.ntmps, fget [(0, .ptr k 0), (4, .ptr h.length 0), (5, .ptr (h.length + 1) 0), (21, .int .i64 (x.1 : Nat))], h ++ [.cells [.int .i64 c.uid, .int .i64 c.gid, .slice (c.gs.map iV) q], .cells [.int .i64 i], .cells (ndC (T.get i).1)], live⟩) (fun x => 25 - x.1) (⟨0, by omega, fun j hj => by omega⟩) ?_ (by first | rfl | simp only [List.length_set]) (fun ⟨m, hm, hn⟩ => ?_)
  · try dsimp only
    exact tf_ hB (fun _ h => h)
  try dsimp only
  refine rg_ [0, 4, 5, 21, 22] ?_
  refine sk_ fun K3 hK3 => ?_
  refine cd_ (ht := fun hb2 => ?_) (hf := fun hb2 => ?_)
  rotate_left
  · have hme : m = 25 := by omega
    subst hme
    refine awp_exit (up_ ?_)
    refine hK2 _ ?_
    refine rg_ [6] ?_
    refine awp_ret (up_ ?_)
    refine fp_ Tryz.results12 (hK := ?_)
    exact ⟨by unfold seenF; simp only [Bool.not_eq_false'] at hb1; rw [hb1, any25_f hn]; rfl, rfl, rfl⟩
  have hml : m < 25 := by omega
  refine awp_skip (up_ ?_)
  refine hK3 _ ?_
  refine sk_ fun K4 hK4 => ?_
  refine awp_block ?_
  refine rg_ [0, 4, 5, 9, 21] ?_
  refine rs_ [0, 4, 5, 9, 10, 21] ?_
  refine sg_ ?_
  refine cl_ (hc := c18 T k _ _ _ (atApp hk) hT) (k := ?_)
  refine sg_ ?_
  refine re_ ?_
  refine rs_ [0, 4, 5, 9, 12, 21] ?_
  refine sg_ ?_
  refine cl_ (hc := c33 (T.get m).1.ents _ 34 [.ptr (h.length + 1) 0] (fun e => decide (e.2 = i)) _ _ (by have := hnd m; omega) (fun e => c34 (h.length + 1) i e _ _ (by simp only [push_cast])) (by simp [AV.cl, AV.clL])) (k := ?_)
  refine sg_ ?_
  refine re_ ?_
  refine rs_ [0, 4, 5, 21, 46] ?_
  refine sg_ ?_
  refine cg_ (hc := fun hg => c8 T k c _ _ _ _ (atApp hk) hT hgs) (k := ?_)
  refine sg_ ?_
  refine cg_ (hc := fun hg => c26 T k c _ _ _ _ _ (atApp hk) hT hgs) (k := ?_)
  refine sg_ ?_
  refine re_ ?_
  refine cb_ (ht := fun hb3 => ?_) (hf := fun hb3 => ?_)
  · have hs : seenAt T c i m = true := hb3
    refine rg_ [6] ?_
    refine awp_ret (up_ ?_)
    refine fp_ Tryz.results12 (hK := ?_)
    exact ⟨by unfold seenF; simp only [Bool.not_eq_false'] at hb1; rw [hb1, any25_t hml hs]; rfl, rfl, rfl⟩
  have hs : seenAt T c i m = false := hb3
  refine awp_skip (up_ ?_)
  refine hK4 _ ?_
  refine rt_ [0, 4, 5, 21] ?_
  refine sg_ ?_
  refine rn_ (up_ ?_)
  refine ⟨⟨m + 1, by omega, fun j hj => by rcases Nat.lt_succ_iff_lt_or_eq.1 hj with h | h; exact hn j h; subst h; exact hb3⟩, ?_, (by first | rfl | trivial | (simp only [List.length_set]; done) | simp), by dsimp only; omega⟩
  try dsimp only
  exact tf_ hB (fun _ h => h)

end Go.Proofs.YtjoklidphbmpoaaGreat
