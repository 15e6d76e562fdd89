import Derived.Test.YtjoklidphbmpoaaGreatA11
/-
  TABLES: what became of nodes and of entries.
-/
namespace Go.Proofs.YtjoklidphbmpoaaGreat
open Go.Ab
set_option linter.unusedVariables false
set_option linter.unusedSimpArgs false
set_option maxRecDepth 8000
set_option maxHeartbeats 400000


theorem eq_of_getD {α : Type} (d : α) : ∀ {a b : List α}, a.length = b.length → (∀ j, j < a.length → a.getD j d = b.getD j d) → a = b := fun {a b} hl h => by
  refine List.ext_getElem hl fun i h1 h2 => ?_
  have := h i h1
  simpa [List.getD_eq_getElem?_getD, h1, h2] using this
theorem ne_of_getD {α : Type} (d : α) {a b : List α} {j : Nat} (h : ¬ a.getD j d = b.getD j d) : a ≠ b := fun e => h (by rw [e])
def sameF (a b : Nd) : Bool := decide (a.kind = b.kind) && decide (a.mode = b.mode) && decide (a.uid = b.uid) && decide (a.gid = b.gid) && decide (a.target = b.target) && decide (a.data = b.data) && decide (a.ents = b.ents)

theorem c54 (a b : List UInt8) (q r : Cap) (h : List Blk) (live : List Nat) (ha : a.length ≤ 1000000) (hb : b.length ≤ 1000000) : ACalls Tryz.prog 54 [.slice (a.map bV) q, .slice (b.map bV) r] h live (ret (.bool (decide (a = b))) h live) := by
  refine ab_ Tryz.func54 (hw := fun hH hX => ?_)
  have sx := sx0
  refine rg_ [0, 1] ?_
  refine sk_ fun K1 hK1 => ?_
  refine rg_ [0, 1, 11] ?_
  refine cd_ (ht := fun hb1 => ?_) (hf := fun hb1 => ?_)
  · refine rg_ [4] ?_
    refine awp_ret (up_ ?_)
    refine fp_ Tryz.results54 (hK := ?_)
    exact ⟨by rw [decide_eq_false (fun e => hb1 (by rw [e]))], rfl, rfl⟩
  have hab : a.length = b.length := by omega
  refine awp_skip (up_ ?_)
  refine hK1 _ ?_
  refine sk_ fun K2 hK2 => ?_
  refine rg_ [1, 12, 13, 14] ?_
  refine awp_block ?_
  refine awp_loop' (X := {i : Nat // i ≤ a.length ∧ ∀ j, j < i → a.getD j 0 = b.getD j 0}) (fun x => ⟨Tryz.f54.ntmps, fget [(1, .slice (b.map bV) r), (12, .slice (a.map bV) q), (13, .int .i64 a.length), (14, .int .i64 (x.1 : Nat))], h, live⟩) (fun x => a.length - x.1) (⟨0, by omega, fun j hj => by omega⟩) ?_ (by first | rfl | simp only [List.length_set]) (fun ⟨i, hi, hn⟩ => ?_)
  · try dsimp only
    exact tf_ hH (fun _ h => h)
  try dsimp only
  refine rg_ [1, 12, 13, 14, 15] ?_
  refine sk_ fun K3 hK3 => ?_
  refine cd_ (ht := fun hb2 => ?_) (hf := fun hb2 => ?_)
  rotate_left
  · have hx := eq_of_getD 0 hab fun j hj => hn j (by omega)
    refine awp_exit (up_ ?_)
    refine hK2 _ ?_
    refine rg_ [4] ?_
    refine awp_ret (up_ ?_)
    refine fp_ Tryz.results54 (hK := ?_)
    exact ⟨by rw [decide_eq_true hx], rfl, rfl⟩
  have hil : i < a.length := by omega
  have hil' : i < b.length := by omega
  refine awp_skip (up_ ?_)
  refine hK3 _ ?_
  refine sk_ fun K4 hK4 => ?_
  refine awp_block ?_
  refine rg_ [1, 5, 6, 12, 13, 14] ?_
  refine rsq_ [1, 12, 13, 14, 24] ⟨true, [], [], [], [], [], 0⟩ (fun h => nomatch h) ?_
  refine sg_ ?_
  refine re_ ?_
  refine cd_ (ht := fun hb3 => ?_) (hf := fun hb3 => ?_)
  · have hx : a ≠ b := ne_of_getD 0 (j := i) (fun e => hb3 (by rw [e]))
    refine rg_ [4] ?_
    refine awp_ret (up_ ?_)
    refine fp_ Tryz.results54 (hK := ?_)
    exact ⟨by rw [decide_eq_false hx], rfl, rfl⟩
  have heq : a.getD i 0 = b.getD i 0 := by
    first | exact UInt8.toNat_inj.1 (by omega) | exact Prod.ext hb3.1 hb3.2 | (simp at hb3; exact Prod.ext hb3.1 hb3.2)
  refine awp_skip (up_ ?_)
  refine hK4 _ ?_
  refine rt_ [1, 12, 13, 14] ?_
  refine sg_ ?_
  refine rn_ (up_ ?_)
  refine ⟨⟨i + 1, by omega, fun j hj => by rcases Nat.lt_succ_iff_lt_or_eq.1 hj with h | h; exact hn j h; subst h; exact heq⟩, ?_, (by first | rfl | trivial | (simp only [List.length_set]; done) | simp), by dsimp only; omega⟩
  try dsimp only
  exact tf_ hH (fun _ h => h)

theorem c55 (a b : List En) (q r : Cap) (h : List Blk) (live : List Nat) (ha : a.length ≤ 1000000) (hb : b.length ≤ 1000000) : ACalls Tryz.prog 55 [.slice (a.map eV) q, .slice (b.map eV) r] h live (ret (.bool (decide (a = b))) h live) := by
  refine ab_ Tryz.func55 (hw := fun hH hX => ?_)
  have sx := sx0
  refine rg_ [0, 1] ?_
  refine sk_ fun K1 hK1 => ?_
  refine rg_ [0, 1, 11] ?_
  refine cd_ (ht := fun hb1 => ?_) (hf := fun hb1 => ?_)
  · refine rg_ [4] ?_
    refine awp_ret (up_ ?_)
    refine fp_ Tryz.results55 (hK := ?_)
    exact ⟨by rw [decide_eq_false (fun e => hb1 (by rw [e]))], rfl, rfl⟩
  have hab : a.length = b.length := by omega
  refine awp_skip (up_ ?_)
  refine hK1 _ ?_
  refine sk_ fun K2 hK2 => ?_
  refine rg_ [1, 12, 13, 14] ?_
  refine awp_block ?_
  refine awp_loop' (X := {i : Nat // i ≤ a.length ∧ ∀ j, j < i → a.getD j ([], 0) = b.getD j ([], 0)}) (fun x => ⟨Tryz.f55.ntmps, fget [(1, .slice (b.map eV) r), (12, .slice (a.map eV) q), (13, .int .i64 a.length), (14, .int .i64 (x.1 : Nat))], h, live⟩) (fun x => a.length - x.1) (⟨0, by omega, fun j hj => by omega⟩) ?_ (by first | rfl | simp only [List.length_set]) (fun ⟨i, hi, hn⟩ => ?_)
  · try dsimp only
    exact tf_ hH (fun _ h => h)
  try dsimp only
  refine rg_ [1, 12, 13, 14, 15] ?_
  refine sk_ fun K3 hK3 => ?_
  refine cd_ (ht := fun hb2 => ?_) (hf := fun hb2 => ?_)
  rotate_left
  · have hx := eq_of_getD ([], 0) hab fun j hj => hn j (by omega)
    refine awp_exit (up_ ?_)
    refine hK2 _ ?_
    refine rg_ [4] ?_
    refine awp_ret (up_ ?_)
    refine fp_ Tryz.results55 (hK := ?_)
    exact ⟨by rw [decide_eq_true hx], rfl, rfl⟩
  have hil : i < a.length := by omega
  have hil' : i < b.length := by omega
  refine awp_skip (up_ ?_)
  refine hK3 _ ?_
  refine sk_ fun K4 hK4 => ?_
  refine awp_block ?_
  refine rg_ [1, 5, 6, 12, 13, 14] ?_
  refine rsq_ [1, 12, 13, 14, 24] ⟨true, [], [], [], [], [], 0⟩ (fun _ => ⟨by kernel_rfl, by kernel_rfl⟩) ?_
  refine sg_ ?_
  refine re_ ?_
  refine cd_ (ht := fun hb3 => ?_) (hf := fun hb3 => ?_)
  · have hx : a ≠ b := ne_of_getD ([], 0) (j := i) (fun e => by rw [e] at hb3; simp at hb3)
    refine rg_ [4] ?_
    refine awp_ret (up_ ?_)
    refine fp_ Tryz.results55 (hK := ?_)
    exact ⟨by rw [decide_eq_false hx], rfl, rfl⟩
  have heq : a.getD i ([], 0) = b.getD i ([], 0) := by
    first | exact UInt8.toNat_inj.1 (by omega) | exact Prod.ext hb3.1 hb3.2 | (simp at hb3; exact Prod.ext hb3.1 hb3.2)
  refine awp_skip (up_ ?_)
  refine hK4 _ ?_
  refine rt_ [1, 12, 13, 14] ?_
  refine sg_ ?_
  refine rn_ (up_ ?_)
  refine ⟨⟨i + 1, by omega, fun j hj => by rcases Nat.lt_succ_iff_lt_or_eq.1 hj with h | h; exact hn j h; subst h; exact heq⟩, ?_, (by first | rfl | trivial | (simp only [List.length_set]; done) | simp), by dsimp only; omega⟩
  try dsimp only
  exact tf_ hH (fun _ h => h)

theorem c21 (a b : Nd) (h : List Blk) (live : List Nat) (ha : NdOk a) (hb : NdOk b) : ACalls Tryz.prog 21 [.agg (ndC a), .agg (ndC b)] h live (ret (.bool (sameF a b)) h live) := by
  refine ab_ Tryz.func21 (hw := fun hH hX => ?_)
  obtain ⟨ha1, ha2, -, -⟩ := ha
  obtain ⟨hb1, hb2, -, -⟩ := hb
  have sx := sx0
  refine rg_ [2, 3] ?_
  refine rs_ [4] ?_
  refine sg_ ?_
  refine cg_ (hc := fun hg => c54 _ _ _ _ _ _ (by omega) (by omega)) (k := ?_)
  refine sg_ ?_
  refine cg_ (hc := fun hg => c55 _ _ _ _ _ _ (by omega) (by omega)) (k := ?_)
  refine sg_ ?_
  refine re_ ?_
  refine awp_ret (up_ ?_)
  refine fp_ Tryz.results21 (hK := ?_)
  exact ⟨rfl, rfl, rfl⟩

theorem c129 (l : List En) (c : Cap) (v0 : En) (h : List Blk) (live : List Nat) (hl : l.length ≤ 1000000000) : ACalls Tryz.prog 129 [.slice (l.map eV) c, .agg [.str v0.1, .int .i64 v0.2]] h live (ret (.int .i64 (idxP (fun y => decide (v0 = y)) l)) h live) := by
  refine ab_ Tryz.func129 (hw := fun hH hX => ?_)
  have hB : HCl (h ++ [.cells [.str v0.1, .int .i64 v0.2]]) := HCl.snoc hH ⟨trivial, trivial, trivial⟩
  have sx := sx0
  refine rg_ [0, 3] ?_
  refine sk_ fun K1 hK1 => ?_
  refine rg_ [0, 3, 7, 8] ?_
  refine awp_block ?_
  refine awp_loop' (X := {i : Nat // i ≤ l.length ∧ ∀ j, j < i → decide (v0 = l.getD j ([], 0)) = false}) (fun x => ⟨Tryz.f129.ntmps, fget [(0, .slice (l.map eV) c), (3, .ptr h.length 0), (7, .int .i64 l.length), (8, .int .i64 (x.1 : Nat))], h ++ [.cells [.str v0.1, .int .i64 v0.2]], live⟩) (fun x => l.length - x.1) (⟨0, by omega, fun j hj => by omega⟩) ?_ (by first | rfl | simp only [List.length_set]) (fun ⟨i, hi, hn⟩ => ?_)
  · try dsimp only
    exact tf_ hB (fun _ h => h)
  try dsimp only
  refine rg_ [0, 3, 7, 8, 9] ?_
  refine sk_ fun K2 hK2 => ?_
  refine cd_ (ht := fun hb1 => ?_) (hf := fun hb1 => ?_)
  rotate_left
  · have hx := idxP_none (p := fun y => decide (v0 = y)) ([], 0) (l := l) fun j hj => hn j (by omega)
    refine awp_exit (up_ ?_)
    refine hK1 _ ?_
    refine rg_ [4] ?_
    refine awp_ret (up_ ?_)
    refine fp_ Tryz.results129 (hK := ?_)
    refine ⟨?_, rfl, rfl⟩
    rw [hx]
  have hil : i < l.length := by omega
  refine awp_skip (up_ ?_)
  refine hK2 _ ?_
  refine sk_ fun K3 hK3 => ?_
  refine awp_block ?_
  refine rg_ [0, 3, 5, 7, 8] ?_
  refine rsq_ [0, 3, 5, 7, 8, 16] ⟨true, [], [], [], [], [], 0⟩ (fun _ => ⟨by kernel_rfl, by kernel_rfl⟩) ?_
  refine sg_ ?_
  refine re_ ?_
  refine cdy_ (ht := fun hb2 => ?_) (hf := fun hb2 => ?_)
  · have hx := idxP_at (p := fun y => decide (v0 = y)) ([], 0) (l := l) (i := i) (by omega) (decide_eq_true (Prod.ext hb2.1 (by first | exact hb2.2 | exact hb2.2.1))) hn
    refine rg_ [4] ?_
    refine awp_ret (up_ ?_)
    refine fp_ Tryz.results129 (hK := ?_)
    refine ⟨?_, rfl, rfl⟩
    rw [hx]
  have hne : ¬ v0 = l.getD i ([], 0) := fun e => by rw [← e] at hb2; simp at hb2
  refine awp_skip (up_ ?_)
  refine hK3 _ ?_
  refine rt_ [0, 3, 7, 8] ?_
  refine sg_ ?_
  refine rn_ (up_ ?_)
  refine ⟨⟨i + 1, by omega, fun j hj => by rcases Nat.lt_succ_iff_lt_or_eq.1 hj with h | h; exact hn j h; subst h; exact decide_eq_false hne⟩, ?_, (by first | rfl | trivial | (simp only [List.length_set]; done) | simp), by dsimp only; omega⟩
  try dsimp only
  exact tf_ hB (fun _ h => h)

theorem c118 (l : List En) (c : Cap) (v0 : En) (h : List Blk) (live : List Nat) (hl : l.length ≤ 1000000000) : ACalls Tryz.prog 118 [.slice (l.map eV) c, .agg [.str v0.1, .int .i64 v0.2]] h live (ret (.bool (l.any fun y => decide (v0 = y))) h live) := by
  refine ab_ Tryz.func118 (hw := fun hH hX => ?_)
  have sx := (And.intro @idxP_any sx0)
  refine rg_ [0, 3] ?_
  refine rs_ [4] ?_
  refine sg_ ?_
  refine cl_ (hc := c129 l _ v0 _ _ hl) (k := ?_)
  refine sg_ ?_
  refine re_ ?_
  refine awp_ret (up_ ?_)
  refine fp_ Tryz.results118 (hK := ?_)
  exact ⟨rfl, rfl, rfl⟩


/-- An entry, and its directory. -/
abbrev Ey := Int × En
def yV (e : Ey) : AV := .agg [.int .i64 e.1, .str e.2.1, .int .i64 e.2.2]
def ey0 : Ey := (0, [], 0)
theorem getD_yV {l : List Ey} {i : Nat} {d : AV} (h : i < l.length) : (l.map yV).getD i d = .agg [.int .i64 (l.getD i ey0).1, .str (l.getD i ey0).2.1, .int .i64 (l.getD i ey0).2.2] := by
  simp [List.getD_eq_getElem?_getD, h, yV]
theorem allSz_yV (l : List Ey) : allSz (l.map yV) 3 ↔ True := iff_true_intro (allSz_map _ _ _ fun _ => rfl)
attribute [push_cast] getD_yV allSz_yV
theorem clL_yV (n : Nat) (l : List Ey) : AV.clL n (l.map yV) := by
  rw [AV.clL_mem]; intro x hx; obtain ⟨y, _, rfl⟩ := List.mem_map.1 hx; exact ⟨trivial, trivial, trivial, trivial⟩
theorem cells_yV (l : List Ey) : ∀ y ∈ l.map yV, y.cells.length = 3 := by
  intro y hy; obtain ⟨a, _, rfl⟩ := List.mem_map.1 hy; rfl
theorem erL_yV (l : List Ey) : AV.erL (l.map yV) = l.map yV := by
  rw [AV.erL_map, List.map_map]; rfl
/-- The entries that another list hasn't. -/
def lessF (d : Int) (l o : List En) : List Ey := (l.filter fun e => !(o.any fun y => decide (e = y))).map fun e => (d, e)
theorem lessF_len (d : Int) (l o : List En) : (lessF d l o).length ≤ l.length := by
  unfold lessF; rw [List.length_map]; exact List.length_filter_le _ _
theorem lessF_yes {d : Int} {l o : List En} {i : Nat} (h : i < l.length) (hn : (o.any fun y => decide (l.getD i ([], 0) = y)) = false) : lessF d (l.take (i + 1)) o = lessF d (l.take i) o ++ [(d, l.getD i ([], 0))] := by
  have e : l.getD i ([], 0) = l[i] := by simp [List.getD_eq_getElem?_getD, h]
  unfold lessF
  rw [List.take_succ_eq_append_getElem h, List.filter_append, List.map_append, ← e]
  simp only [List.filter_cons, hn, Bool.not_false, if_true, List.filter_nil, List.map_cons, List.map_nil]
theorem lessF_no {d : Int} {l o : List En} {i : Nat} (h : i < l.length) (hn : (o.any fun y => decide (l.getD i ([], 0) = y)) = true) : lessF d (l.take (i + 1)) o = lessF d (l.take i) o := by
  have e : l.getD i ([], 0) = l[i] := by simp [List.getD_eq_getElem?_getD, h]
  unfold lessF
  rw [List.take_succ_eq_append_getElem h, List.filter_append, List.map_append, ← e]
  simp only [List.filter_cons, hn, Bool.not_true, Bool.false_eq_true, if_false, List.filter_nil, List.map_nil, List.append_nil]
theorem yV_snoc (l : List Ey) (d : Int) (e : En) : l.map yV ++ [.agg [.int .i64 d, .str e.1, .int .i64 e.2]] = (l ++ [(d, e)]).map yV := by simp [yV]
theorem cap_snoc {live l l1 : List Nat} {c c1 : Cap} (hlv : ∀ u ∈ live, u ∈ l ∧ c ≠ .own u) (k : Keeps l c l1 c1) : CapOK l1 c1 ∧ ∀ u ∈ live, u ∈ l1 ∧ c1 ≠ .own u :=
  ⟨k.1, fun u hu => k.2 u (hlv u hu).1 (hlv u hu).2⟩

attribute [push_cast] clL_yV erL_yV

theorem c96 (dn : Int) (l o : List En) (q r : Cap) (h : List Blk) (live : List Nat) (hl : l.length ≤ 1000000) (ho : o.length ≤ 1000000) : ACalls Tryz.prog 96 [.int .i64 dn, .slice (l.map eV) q, .slice (o.map eV) r] h live (ret (.slice ((lessF dn l o).map yV) .none) h live) := by
  refine ab_ Tryz.func96 (hw := fun hH hX => ?_)
  have sx := sx0
  refine rg_ [0, 1, 2] ?_
  refine rg_ [0, 1, 2, 7] ?_
  refine sk_ fun K1 hK1 => ?_
  refine rg_ [0, 2, 7, 10, 11, 12] ?_
  refine awp_block ?_
  refine awp_loop' (X := {p : Nat × Cap × List Nat // p.1 ≤ l.length ∧ CapOK p.2.2 p.2.1 ∧ ∀ u ∈ live, u ∈ p.2.2 ∧ p.2.1 ≠ .own u}) (fun x => ⟨Tryz.f96.ntmps, fget [(0, .int .i64 dn), (2, .slice (o.map eV) r), (7, .slice ((lessF dn (l.take x.1.1) o).map yV) x.1.2.1), (10, .slice (l.map eV) q), (11, .int .i64 l.length), (12, .int .i64 (x.1.1 : Nat))], h, x.1.2.2⟩) (fun x => l.length - x.1.1) (⟨⟨0, .full, live⟩, Nat.zero_le _, .inl rfl, fun u hu => ⟨hu, Cap.noConfusion⟩⟩) ?_ (by first | rfl | simp only [List.length_set]) (fun ⟨⟨i, c, live'⟩, hi, hc, hlv⟩ => ?_)
  · try dsimp only
    refine Trunc.of (by first | exact (List.append_nil _).symm | exact rfl | (rw [List.append_assoc]; rfl)) ?_ hH (fun _ h => h)
    refine FTr.cons (by first | rfl | ((simp (disch := omega) only [push_cast, ↓reduceIte, Nat.reduceEqDiff, Nat.reduceAdd, Nat.reduceLeDiff, sx]) <;> rfl)) (by simp [AV.cl, AV.clL, clL_eV, clL_yV, -List.map_map]) ?_
    refine FTr.cons (by first | rfl | ((simp (disch := omega) only [push_cast, ↓reduceIte, Nat.reduceEqDiff, Nat.reduceAdd, Nat.reduceLeDiff, sx]) <;> rfl)) (by simp [AV.cl, AV.clL, clL_eV, clL_yV, -List.map_map]) ?_
    refine FTr.cons (by first | rfl | (simp only [push_cast]; rw [lessF_yes hil hb2']; simp only [List.map_append]; rfl) | (simp only [push_cast]; rw [lessF_no hil hb2']; rfl)) (by simp [AV.cl, AV.clL, clL_yV, -List.map_map]) ?_
    refine FTr.cons (by first | rfl | ((simp (disch := omega) only [push_cast, ↓reduceIte, Nat.reduceEqDiff, Nat.reduceAdd, Nat.reduceLeDiff, sx]) <;> rfl)) (by simp [AV.cl, AV.clL, clL_eV, clL_yV, -List.map_map]) ?_
    refine FTr.cons (by first | rfl | ((simp (disch := omega) only [push_cast, ↓reduceIte, Nat.reduceEqDiff, Nat.reduceAdd, Nat.reduceLeDiff, sx]) <;> rfl)) (by simp [AV.cl, AV.clL, clL_eV, clL_yV, -List.map_map]) ?_
    refine FTr.cons (by first | rfl | ((simp (disch := omega) only [push_cast, ↓reduceIte, Nat.reduceEqDiff, Nat.reduceAdd, Nat.reduceLeDiff, sx]) <;> rfl)) (by simp [AV.cl, AV.clL, clL_eV, clL_yV, -List.map_map]) ?_
    exact FTr.nil
  try dsimp only
  dsimp only at hi hc hlv
  refine rg_ [0, 2, 7, 10, 11, 12, 13] ?_
  refine sk_ fun K2 hK2 => ?_
  refine cd_ (ht := fun hb1 => ?_) (hf := fun hb1 => ?_)
  rotate_left
  · have hie : i = l.length := by omega
    subst hie
    refine awp_exit (up_ ?_)
    refine hK1 _ ?_
    refine rg_ [6] ?_
    refine awp_ret (up_ ?_)
    refine fp_ Tryz.results96 (hx := by (simp only [atuple, AV.er, AV.erL, push_cast, erL_yV]) <;> rfl) (hcl := (by simp [AV.cl, AV.clL, clL_yV, -List.map_map])) (hl := (fun u hu => (hlv u hu).1)) (hK := ?_)
    exact ⟨by rw [List.take_length], rfl, rfl⟩
  have hil : i < l.length := by omega
  have hll := lessF_len dn (l.take i) o
  have htl : (l.take i).length ≤ l.length := List.length_take_le' _ _
  refine awp_skip (up_ ?_)
  refine hK2 _ ?_
  refine sk_ fun K3 hK3 => ?_
  refine awp_block ?_
  refine rg_ [0, 2, 7, 9, 10, 11, 12] ?_
  refine rs_ [0, 2, 7, 9, 10, 11, 12, 19] ?_
  refine sg_ ?_
  refine cl_ (hc := c118 o _ (l.getD i ([], 0)) _ _ (by omega)) (k := ?_)
  refine sg_ ?_
  refine re_ ?_
  refine cb_ (ht := fun hb2 => ?_) (hf := fun hb2 => ?_)
  · have hb2' := hb2
    simp only [Bool.not_eq_true'] at hb2'
    refine rt_ [0, 2, 7, 10, 11, 12] ?_
    refine sg_ ?_
    refine dawp_w rfl rfl rfl rfl (AOp.append _ _ _ rfl (by (simp (disch := omega) only [push_cast, ↓reduceIte, Nat.reduceEqDiff, Nat.reduceAdd, Nat.reduceLeDiff, sx]) <;> rfl) (by (simp (disch := omega) only [push_cast, ↓reduceIte, Nat.reduceEqDiff, Nat.reduceAdd, Nat.reduceLeDiff, sx]) <;> rfl) (by (simp (disch := omega) only [push_cast, ↓reduceIte, Nat.reduceEqDiff, Nat.reduceAdd, Nat.reduceLeDiff, sx]) <;> rfl) hc (cells_yV _) (by simp [AV.cells]) (by simp; omega) (by simp; omega) ?_)
    intro c25 live25 hk25
    refine sg_ ?_
    refine rn_ (up_ ?_)
    refine hK3 _ ?_
    refine rt_ [0, 2, 7, 10, 11, 12] ?_
    refine sg_ ?_
    refine rn_ (up_ ?_)
    refine ⟨⟨⟨i + 1, c25, live25⟩, by dsimp only; omega, cap_snoc hlv hk25⟩, ?_, (by first | rfl | trivial | (simp only [List.length_set]; done) | simp), by dsimp only; omega⟩
    try dsimp only
    refine Trunc.of (by first | exact (List.append_nil _).symm | exact rfl | (rw [List.append_assoc]; rfl)) ?_ hH (fun _ h => h)
    refine FTr.cons (by (simp (disch := omega) only [push_cast, ↓reduceIte, Nat.reduceEqDiff, Nat.reduceAdd, Nat.reduceLeDiff, sx]) <;> first | rfl | (congr 2; omega)) (by simp [AV.cl, AV.clL, clL_eV, clL_yV, -List.map_map]) ?_
    refine FTr.cons (by (simp (disch := omega) only [push_cast, ↓reduceIte, Nat.reduceEqDiff, Nat.reduceAdd, Nat.reduceLeDiff, sx]) <;> first | rfl | (congr 2; omega)) (by simp [AV.cl, AV.clL, clL_eV, clL_yV, -List.map_map]) ?_
    refine FTr.cons (by first | rfl | (simp only [push_cast]; rw [lessF_yes hil hb2']; simp only [List.map_append]; rfl) | (simp only [push_cast]; rw [lessF_no hil hb2']; rfl)) (by simp [AV.cl, AV.clL, clL_yV, -List.map_map]) ?_
    refine FTr.cons (by (simp (disch := omega) only [push_cast, ↓reduceIte, Nat.reduceEqDiff, Nat.reduceAdd, Nat.reduceLeDiff, sx]) <;> first | rfl | (congr 2; omega)) (by simp [AV.cl, AV.clL, clL_eV, clL_yV, -List.map_map]) ?_
    refine FTr.cons (by (simp (disch := omega) only [push_cast, ↓reduceIte, Nat.reduceEqDiff, Nat.reduceAdd, Nat.reduceLeDiff, sx]) <;> first | rfl | (congr 2; omega)) (by simp [AV.cl, AV.clL, clL_eV, clL_yV, -List.map_map]) ?_
    refine FTr.cons (by (simp (disch := omega) only [push_cast, ↓reduceIte, Nat.reduceEqDiff, Nat.reduceAdd, Nat.reduceLeDiff, sx]) <;> first | rfl | (congr 2; omega)) (by simp [AV.cl, AV.clL, clL_eV, clL_yV, -List.map_map]) ?_
    exact FTr.nil
  have hb2' := hb2
  simp only [Bool.not_eq_false'] at hb2'
  refine awp_skip (up_ ?_)
  refine hK3 _ ?_
  refine rt_ [0, 2, 7, 10, 11, 12] ?_
  refine sg_ ?_
  refine rn_ (up_ ?_)
  refine ⟨⟨⟨i + 1, c, live'⟩, by dsimp only; omega, hc, hlv⟩, ?_, (by first | rfl | trivial | (simp only [List.length_set]; done) | simp), by dsimp only; omega⟩
  try dsimp only
  refine Trunc.of (by first | exact (List.append_nil _).symm | exact rfl | (rw [List.append_assoc]; rfl)) ?_ hH (fun _ h => h)
  refine FTr.cons (by (simp (disch := omega) only [push_cast, ↓reduceIte, Nat.reduceEqDiff, Nat.reduceAdd, Nat.reduceLeDiff, sx]) <;> first | rfl | (congr 2; omega)) (by simp [AV.cl, AV.clL, clL_eV, clL_yV, -List.map_map]) ?_
  refine FTr.cons (by (simp (disch := omega) only [push_cast, ↓reduceIte, Nat.reduceEqDiff, Nat.reduceAdd, Nat.reduceLeDiff, sx]) <;> first | rfl | (congr 2; omega)) (by simp [AV.cl, AV.clL, clL_eV, clL_yV, -List.map_map]) ?_
  refine FTr.cons (by first | rfl | (simp only [push_cast]; rw [lessF_yes hil hb2']; simp only [List.map_append]; rfl) | (simp only [push_cast]; rw [lessF_no hil hb2']; rfl)) (by simp [AV.cl, AV.clL, clL_yV, -List.map_map]) ?_
  refine FTr.cons (by (simp (disch := omega) only [push_cast, ↓reduceIte, Nat.reduceEqDiff, Nat.reduceAdd, Nat.reduceLeDiff, sx]) <;> first | rfl | (congr 2; omega)) (by simp [AV.cl, AV.clL, clL_eV, clL_yV, -List.map_map]) ?_
  refine FTr.cons (by (simp (disch := omega) only [push_cast, ↓reduceIte, Nat.reduceEqDiff, Nat.reduceAdd, Nat.reduceLeDiff, sx]) <;> first | rfl | (congr 2; omega)) (by simp [AV.cl, AV.clL, clL_eV, clL_yV, -List.map_map]) ?_
  refine FTr.cons (by (simp (disch := omega) only [push_cast, ↓reduceIte, Nat.reduceEqDiff, Nat.reduceAdd, Nat.reduceLeDiff, sx]) <;> first | rfl | (congr 2; omega)) (by simp [AV.cl, AV.clL, clL_eV, clL_yV, -List.map_map]) ?_
  exact FTr.nil


def updC (cs : Nat → Cap) (j : Nat) (c : Cap) : Nat → Cap := fun m => if m = j then c else cs m
/-- So many rooms, each nobody else's. -/
structure CapsN (live0 l : List Nat) (cs : Nat → Cap) (n : Nat) : Prop where
  ok : ∀ i, i < n → CapOK l (cs i)
  ne : ∀ i j, i < n → j < n → i ≠ j → ∀ u, cs i = .own u → cs j ≠ .own u
  keep : ∀ u ∈ live0, u ∈ l ∧ ∀ i, i < n → cs i ≠ .own u
theorem CapsN.full (l : List Nat) (n : Nat) : CapsN l l (fun _ => .full) n := ⟨fun _ _ => .inl rfl, fun _ _ _ _ _ _ => Cap.noConfusion, fun u hu => ⟨hu, fun _ _ => Cap.noConfusion⟩⟩
theorem CapsN.upd {live0 l l' : List Nat} {cs : Nat → Cap} {n j : Nat} {c' : Cap} (h : CapsN live0 l cs n) (hj : j < n) (k : Keeps l (cs j) l' c') : CapsN live0 l' (updC cs j c') n := by
  have hold : ∀ i, i < n → i ≠ j → ∀ u, cs i = .own u → u ∈ l' ∧ c' ≠ .own u := fun i hi hij u hu => by
    rcases h.ok i hi with hf | ⟨t, ht, htl⟩
    · rw [hf] at hu; cases hu
    · rw [ht] at hu; cases hu
      exact k.2 u htl (h.ne i j hi hj hij u ht)
  refine ⟨fun i hi => ?_, fun a b ha hb hab u hu => ?_, fun u hu => ⟨(k.2 u (h.keep u hu).1 ((h.keep u hu).2 j hj)).1, fun i hi => ?_⟩⟩
  · unfold updC
    split
    · exact k.1
    · rename_i hij
      rcases h.ok i hi with hf | ⟨t, ht, _⟩
      · exact .inl hf
      · exact .inr ⟨t, ht, (hold i hi hij t ht).1⟩
  · unfold updC at hu ⊢
    by_cases h1 : a = j
    · rw [if_pos h1] at hu
      rw [if_neg (by omega)]
      intro e
      exact (hold b hb (by omega) u e).2 hu
    · rw [if_neg h1] at hu
      by_cases h2 : b = j
      · rw [if_pos h2]; exact (hold a ha h1 u hu).2
      · rw [if_neg h2]; exact h.ne a b ha hb hab u hu
  · unfold updC
    split
    · exact (k.2 u (h.keep u hu).1 ((h.keep u hu).2 j hj)).2
    · exact (h.keep u hu).2 i hi
/-- What became of numbers and of entries. -/
structure Df where
  b : Nat → List Int
  lost : List Ey
  won : List Ey
def dfC (D : Df) (cs : Nat → Cap) : List AV := [.slice ((D.b 0).map iV) (cs 0), .slice ((D.b 1).map iV) (cs 1), .slice ((D.b 2).map iV) (cs 2), .slice ((D.b 3).map iV) (cs 3), .slice (D.lost.map yV) (cs 4), .slice (D.won.map yV) (cs 5)]
def updB (D : Df) (f : Nat) (i : Int) : Df := ⟨fun m => if m = f then D.b m ++ [i] else D.b m, D.lost, D.won⟩
def df0 : Df := ⟨fun _ => [], [], []⟩
def nEnts (a b : Nd) : Nd := nWith a b.ents
def stepD (Ta Tb : Tab) (D : Df) (i : Int) : Df :=
  bif sameF (Ta.get i).1 (Tb.get i).1 then D
  else bif !(Ta.get i).2 then updB D 0 i
  else bif !(Tb.get i).2 then updB D 1 i
  else bif decide ((Ta.get i).1.kind = 2) && sameF (nEnts (Ta.get i).1 (Tb.get i).1) (Tb.get i).1 then ⟨(updB D 2 i).b, D.lost ++ lessF i (Ta.get i).1.ents (Tb.get i).1.ents, D.won ++ lessF i (Tb.get i).1.ents (Ta.get i).1.ents⟩
  else updB D 3 i
def dfN (Ta Tb : Tab) : Nat → Df
  | 0 => df0
  | m + 1 => stepD Ta Tb (dfN Ta Tb m) ((m : Int) + 1)
theorem updB_len {D : Df} {f : Nat} {i : Int} {m : Nat} (h : ∀ k, (D.b k).length ≤ m) (k : Nat) : ((updB D f i).b k).length ≤ m + 1 := by
  have := h k
  show (if k = f then D.b k ++ [i] else D.b k).length ≤ m + 1
  split
  · simp; omega
  · omega
theorem dfN_len {Ta Tb : Tab} (ha : Ta.Ok) (hb : Tb.Ok) : ∀ m, (∀ k, ((dfN Ta Tb m).b k).length ≤ m) ∧ (dfN Ta Tb m).lost.length ≤ 1000 * m ∧ (dfN Ta Tb m).won.length ≤ 1000 * m
  | 0 => ⟨fun _ => Nat.le_refl _, Nat.le_refl _, Nat.le_refl _⟩
  | m + 1 => by
    obtain ⟨h1, h2, h3⟩ := dfN_len ha hb m
    have ea := (get_ok ha ((m : Int) + 1)).2.1
    have eb := (get_ok hb ((m : Int) + 1)).2.1
    have la := lessF_len ((m : Int) + 1) (Ta.get ((m : Int) + 1)).1.ents (Tb.get ((m : Int) + 1)).1.ents
    have lb := lessF_len ((m : Int) + 1) (Tb.get ((m : Int) + 1)).1.ents (Ta.get ((m : Int) + 1)).1.ents
    show (∀ k, ((stepD Ta Tb (dfN Ta Tb m) ((m : Int) + 1)).b k).length ≤ m + 1) ∧ (stepD Ta Tb (dfN Ta Tb m) ((m : Int) + 1)).lost.length ≤ 1000 * (m + 1) ∧ (stepD Ta Tb (dfN Ta Tb m) ((m : Int) + 1)).won.length ≤ 1000 * (m + 1)
    unfold stepD
    cases sameF (Ta.get ((m : Int) + 1)).1 (Tb.get ((m : Int) + 1)).1 with
    | true => exact ⟨fun k => Nat.le_succ_of_le (h1 k), by simp only [cond_true]; omega, by simp only [cond_true]; omega⟩
    | false =>
      rw [cond_false]
      cases (!(Ta.get ((m : Int) + 1)).2) with
      | true => exact ⟨updB_len h1, by show (dfN Ta Tb m).lost.length ≤ _; omega, by show (dfN Ta Tb m).won.length ≤ _; omega⟩
      | false =>
        rw [cond_false]
        cases (!(Tb.get ((m : Int) + 1)).2) with
        | true => exact ⟨updB_len h1, by show (dfN Ta Tb m).lost.length ≤ _; omega, by show (dfN Ta Tb m).won.length ≤ _; omega⟩
        | false =>
          rw [cond_false]
          cases (decide ((Ta.get ((m : Int) + 1)).1.kind = 2) && sameF (nEnts (Ta.get ((m : Int) + 1)).1 (Tb.get ((m : Int) + 1)).1) (Tb.get ((m : Int) + 1)).1) with
          | true => exact ⟨updB_len h1, by show ((dfN Ta Tb m).lost ++ _).length ≤ _; rw [List.length_append]; omega, by show ((dfN Ta Tb m).won ++ _).length ≤ _; rw [List.length_append]; omega⟩
          | false => exact ⟨updB_len h1, by show (dfN Ta Tb m).lost.length ≤ _; omega, by show (dfN Ta Tb m).won.length ≤ _; omega⟩
theorem clL_dfC (n : Nat) (D : Df) (cs : Nat → Cap) : AV.clL n (dfC D cs) := by simp [dfC, AV.clL, AV.cl, clL_iV, clL_yV, -List.map_map]
theorem er_dfC (D : Df) (cs : Nat → Cap) : AV.erL (dfC D cs) = dfC D fun _ => .none := by simp [dfC, AV.erL, AV.er, erL_iV, erL_yV, -List.map_map]
theorem nEnts_ok {a b : Nd} (ha : NdOk a) (hb : NdOk b) : NdOk (nEnts a b) := ⟨ha.1, hb.2.1, ha.2.2.1, hb.2.2.2⟩
theorem iV_snoc (l : List Int) (i : Int) : l.map iV ++ [.int .i64 i] = (l ++ [i]).map iV := by simp [iV]

attribute [push_cast] clL_dfC er_dfC

theorem pf95_0 (D : Df) (cs : Nat → Cap) (i : Int) (b : Nat) (h : List Blk) (live : List Nat) (hb : h[b]? = some (.cells (dfC D cs))) (hc : CapOK live (cs 0)) (hl : (D.b 0).length ≤ 1000) : ACalls Tryz.prog 95 [.int .i64 0, .int .i64 i, .ptr b 0] h live (fun x h' l' => x = .tup [] ∧ ∃ c', h' = h.set b (.cells (dfC (updB D 0 i) (updC cs 0 c'))) ∧ Keeps live (cs 0) l' c') := by
  refine ab_ Tryz.func95 (hw := fun hH hX => ?_)
  have hbl := lt_of_get hb
  have hB : ∀ D cs, HCl (h.set b (.cells (dfC D cs))) := fun D cs => HCl.set hH b (clL_dfC _ _ _)
  unfold dfC at hb
  have sx := (And.intro @hb sx0)
  refine rt_ [] ?_
  refine sg_ ?_
  refine dawp_w rfl rfl rfl rfl (AOp.append _ _ _ rfl (by (simp (disch := omega) only [push_cast, ↓reduceIte, Nat.reduceEqDiff, Nat.reduceAdd, Nat.reduceLeDiff, sx]) <;> rfl) (by (simp (disch := omega) only [push_cast, ↓reduceIte, Nat.reduceEqDiff, Nat.reduceAdd, Nat.reduceLeDiff, sx]) <;> rfl) (by (simp (disch := omega) only [push_cast, ↓reduceIte, Nat.reduceEqDiff, Nat.reduceAdd, Nat.reduceLeDiff, sx]) <;> rfl) hc (cells_iV _) (by simp [AV.cells]) (by simp; omega) (by simp; omega) ?_)
  intro c12 live12 hk12
  refine sg_ ?_
  refine rn_ (up_ ?_)
  refine fg_ (h1 := h.set b _) (live := live12) Tryz.results95 (hl := (fun _ h => h)) (hh := (⟨[], by rw [List.append_nil]; simp only [iV_snoc]; rfl⟩)) (hH := (hB (updB D 0 i) (updC cs 0 c12))) (hK := ?_)
  exact ⟨rfl, c12, rfl, hk12⟩

theorem pf95_1 (D : Df) (cs : Nat → Cap) (i : Int) (b : Nat) (h : List Blk) (live : List Nat) (hb : h[b]? = some (.cells (dfC D cs))) (hc : CapOK live (cs 1)) (hl : (D.b 1).length ≤ 1000) : ACalls Tryz.prog 95 [.int .i64 1, .int .i64 i, .ptr b 0] h live (fun x h' l' => x = .tup [] ∧ ∃ c', h' = h.set b (.cells (dfC (updB D 1 i) (updC cs 1 c'))) ∧ Keeps live (cs 1) l' c') := by
  refine ab_ Tryz.func95 (hw := fun hH hX => ?_)
  have hbl := lt_of_get hb
  have hB : ∀ D cs, HCl (h.set b (.cells (dfC D cs))) := fun D cs => HCl.set hH b (clL_dfC _ _ _)
  unfold dfC at hb
  have sx := (And.intro @hb sx0)
  refine rt_ [] ?_
  refine sg_ ?_
  refine dawp_w rfl rfl rfl rfl (AOp.append _ _ _ rfl (by (simp (disch := omega) only [push_cast, ↓reduceIte, Nat.reduceEqDiff, Nat.reduceAdd, Nat.reduceLeDiff, sx]) <;> rfl) (by (simp (disch := omega) only [push_cast, ↓reduceIte, Nat.reduceEqDiff, Nat.reduceAdd, Nat.reduceLeDiff, sx]) <;> rfl) (by (simp (disch := omega) only [push_cast, ↓reduceIte, Nat.reduceEqDiff, Nat.reduceAdd, Nat.reduceLeDiff, sx]) <;> rfl) hc (cells_iV _) (by simp [AV.cells]) (by simp; omega) (by simp; omega) ?_)
  intro c12 live12 hk12
  refine sg_ ?_
  refine rn_ (up_ ?_)
  refine fg_ (h1 := h.set b _) (live := live12) Tryz.results95 (hl := (fun _ h => h)) (hh := (⟨[], by rw [List.append_nil]; simp only [iV_snoc]; rfl⟩)) (hH := (hB (updB D 1 i) (updC cs 1 c12))) (hK := ?_)
  exact ⟨rfl, c12, rfl, hk12⟩

theorem pf95_2 (D : Df) (cs : Nat → Cap) (i : Int) (b : Nat) (h : List Blk) (live : List Nat) (hb : h[b]? = some (.cells (dfC D cs))) (hc : CapOK live (cs 2)) (hl : (D.b 2).length ≤ 1000) : ACalls Tryz.prog 95 [.int .i64 2, .int .i64 i, .ptr b 0] h live (fun x h' l' => x = .tup [] ∧ ∃ c', h' = h.set b (.cells (dfC (updB D 2 i) (updC cs 2 c'))) ∧ Keeps live (cs 2) l' c') := by
  refine ab_ Tryz.func95 (hw := fun hH hX => ?_)
  have hbl := lt_of_get hb
  have hB : ∀ D cs, HCl (h.set b (.cells (dfC D cs))) := fun D cs => HCl.set hH b (clL_dfC _ _ _)
  unfold dfC at hb
  have sx := (And.intro @hb sx0)
  refine rt_ [] ?_
  refine sg_ ?_
  refine dawp_w rfl rfl rfl rfl (AOp.append _ _ _ rfl (by (simp (disch := omega) only [push_cast, ↓reduceIte, Nat.reduceEqDiff, Nat.reduceAdd, Nat.reduceLeDiff, sx]) <;> rfl) (by (simp (disch := omega) only [push_cast, ↓reduceIte, Nat.reduceEqDiff, Nat.reduceAdd, Nat.reduceLeDiff, sx]) <;> rfl) (by (simp (disch := omega) only [push_cast, ↓reduceIte, Nat.reduceEqDiff, Nat.reduceAdd, Nat.reduceLeDiff, sx]) <;> rfl) hc (cells_iV _) (by simp [AV.cells]) (by simp; omega) (by simp; omega) ?_)
  intro c12 live12 hk12
  refine sg_ ?_
  refine rn_ (up_ ?_)
  refine fg_ (h1 := h.set b _) (live := live12) Tryz.results95 (hl := (fun _ h => h)) (hh := (⟨[], by rw [List.append_nil]; simp only [iV_snoc]; rfl⟩)) (hH := (hB (updB D 2 i) (updC cs 2 c12))) (hK := ?_)
  exact ⟨rfl, c12, rfl, hk12⟩

theorem pf95_3 (D : Df) (cs : Nat → Cap) (i : Int) (b : Nat) (h : List Blk) (live : List Nat) (hb : h[b]? = some (.cells (dfC D cs))) (hc : CapOK live (cs 3)) (hl : (D.b 3).length ≤ 1000) : ACalls Tryz.prog 95 [.int .i64 3, .int .i64 i, .ptr b 0] h live (fun x h' l' => x = .tup [] ∧ ∃ c', h' = h.set b (.cells (dfC (updB D 3 i) (updC cs 3 c'))) ∧ Keeps live (cs 3) l' c') := by
  refine ab_ Tryz.func95 (hw := fun hH hX => ?_)
  have hbl := lt_of_get hb
  have hB : ∀ D cs, HCl (h.set b (.cells (dfC D cs))) := fun D cs => HCl.set hH b (clL_dfC _ _ _)
  unfold dfC at hb
  have sx := (And.intro @hb sx0)
  refine rt_ [] ?_
  refine sg_ ?_
  refine dawp_w rfl rfl rfl rfl (AOp.append _ _ _ rfl (by (simp (disch := omega) only [push_cast, ↓reduceIte, Nat.reduceEqDiff, Nat.reduceAdd, Nat.reduceLeDiff, sx]) <;> rfl) (by (simp (disch := omega) only [push_cast, ↓reduceIte, Nat.reduceEqDiff, Nat.reduceAdd, Nat.reduceLeDiff, sx]) <;> rfl) (by (simp (disch := omega) only [push_cast, ↓reduceIte, Nat.reduceEqDiff, Nat.reduceAdd, Nat.reduceLeDiff, sx]) <;> rfl) hc (cells_iV _) (by simp [AV.cells]) (by simp; omega) (by simp; omega) ?_)
  intro c12 live12 hk12
  refine sg_ ?_
  refine rn_ (up_ ?_)
  refine fg_ (h1 := h.set b _) (live := live12) Tryz.results95 (hl := (fun _ h => h)) (hh := (⟨[], by rw [List.append_nil]; simp only [iV_snoc]; rfl⟩)) (hH := (hB (updB D 3 i) (updC cs 3 c12))) (hK := ?_)
  exact ⟨rfl, c12, rfl, hk12⟩


theorem dfC_len (D : Df) (cs : Nat → Cap) : (dfC D cs).length = 6 := rfl
theorem dfC_0 (D : Df) (cs : Nat → Cap) : (dfC D cs)[0]? = some (.slice ((D.b 0).map iV) (cs 0)) := rfl
theorem dfC_1 (D : Df) (cs : Nat → Cap) : (dfC D cs)[1]? = some (.slice ((D.b 1).map iV) (cs 1)) := rfl
theorem dfC_2 (D : Df) (cs : Nat → Cap) : (dfC D cs)[2]? = some (.slice ((D.b 2).map iV) (cs 2)) := rfl
theorem dfC_3 (D : Df) (cs : Nat → Cap) : (dfC D cs)[3]? = some (.slice ((D.b 3).map iV) (cs 3)) := rfl
theorem dfC_4 (D : Df) (cs : Nat → Cap) : (dfC D cs)[4]? = some (.slice (D.lost.map yV) (cs 4)) := rfl
theorem dfC_5 (D : Df) (cs : Nat → Cap) : (dfC D cs)[5]? = some (.slice (D.won.map yV) (cs 5)) := rfl
theorem dfTake (D : Df) (cs : Nat → Cap) : (dfC D cs).take 6 = dfC D cs := rfl
theorem dfPut (D D' : Df) (cs cs' : Nat → Cap) : putAt (dfC D cs) 0 (dfC D' cs') = dfC D' cs' := rfl
theorem dfPut' (a b c d e f : AV) (D' : Df) (cs' : Nat → Cap) : putAt [a, b, c, d, e, f] 0 (dfC D' cs') = dfC D' cs' := rfl
theorem dfSet4 (D : Df) (cs : Nat → Cap) (l : List Ey) (c : Cap) : (dfC D cs).set 4 (.slice (l.map yV) c) = dfC ⟨D.b, l, D.won⟩ (updC cs 4 c) := rfl
theorem dfSet5 (D : Df) (cs : Nat → Cap) (l : List Ey) (c : Cap) : (dfC D cs).set 5 (.slice (l.map yV) c) = dfC ⟨D.b, D.lost, l⟩ (updC cs 5 c) := rfl
attribute [push_cast] dfC_len dfC_0 dfC_1 dfC_2 dfC_3 dfC_4 dfC_5 dfTake dfPut dfPut' dfSet4 dfSet5

theorem c68 (Ta Tb : Tab) (ka kb : Nat) (h : List Blk) (live : List Nat) (hka : h[ka]? = some (tabBlk Ta)) (hkb : h[kb]? = some (tabBlk Tb)) (hTa : Ta.Ok) (hTb : Tb.Ok) : ACalls Tryz.prog 68 [.ptr ka 0, .ptr kb 0] h live (ret (.agg (dfC (dfN Ta Tb 24) fun _ => .none)) h live) := by
  refine ab_ Tryz.func68 (hw := fun hH hX => ?_)
  have hal := lt_of_get hka
  have hbl := lt_of_get hkb
  have hB : ∀ m cs, HCl (h ++ [.cells [.slice [] .full, .slice [] .full, .slice [] .full, .slice [] .full, .slice [] .full, .slice [] .full], .cells (dfC (dfN Ta Tb m) cs)]) := fun m cs => by
    have := HCl.snoc (HCl.snoc (b := .cells [.slice [] .full, .slice [] .full, .slice [] .full, .slice [] .full, .slice [] .full, .slice [] .full]) hH (by simp [Blk.cl, AV.clL, AV.cl])) (b := .cells (dfC (dfN Ta Tb m) cs)) (clL_dfC _ _ _)
    rw [List.append_assoc] at this; exact this
  have sx := sx0
  refine rs_ [0, 1, 4] ?_
  refine dawp_h rfl (by (simp (disch := omega) only [push_cast, ↓reduceIte, Nat.reduceEqDiff, Nat.reduceAdd, Nat.reduceLeDiff, sx, ← List.map_append]) <;> rfl) rfl rfl ?_
  refine re_ (hf := by (simp (disch := omega) only [push_cast, ↓reduceIte, Nat.reduceEqDiff, Nat.reduceAdd, Nat.reduceLeDiff, sx, ← List.map_append]) <;> rfl) (hh := by (try simp (disch := omega) only [push_cast, ↓reduceIte, Nat.reduceEqDiff, Nat.reduceAdd, Nat.reduceLeDiff, sx, ← List.map_append]) <;> rfl) ?_
  refine rs_ [0, 1, 4, 5] ?_
  refine dawp_h rfl (by (simp (disch := omega) only [push_cast, ↓reduceIte, Nat.reduceEqDiff, Nat.reduceAdd, Nat.reduceLeDiff, sx, ← List.map_append]) <;> rfl) rfl rfl ?_
  refine re_ (hf := by (simp (disch := omega) only [push_cast, ↓reduceIte, Nat.reduceEqDiff, Nat.reduceAdd, Nat.reduceLeDiff, sx, ← List.map_append]) <;> rfl) (hh := by (try simp (disch := omega) only [push_cast, ↓reduceIte, Nat.reduceEqDiff, Nat.reduceAdd, Nat.reduceLeDiff, sx, ← List.map_append]) <;> rfl) ?_
  refine rs_ [0, 1, 4, 5, 6] ?_
  iterate 2 (refine dawp_p rfl (by (simp (disch := omega) only [push_cast, ↓reduceIte, Nat.reduceEqDiff, Nat.reduceAdd, Nat.reduceLeDiff, sx, ← List.map_append]) <;> rfl) rfl rfl ?_)
  refine re_ (hf := by (simp (disch := omega) only [push_cast, ↓reduceIte, Nat.reduceEqDiff, Nat.reduceAdd, Nat.reduceLeDiff, sx, ← List.map_append]) <;> rfl) (hh := by (try simp (disch := omega) only [push_cast, ↓reduceIte, Nat.reduceEqDiff, Nat.reduceAdd, Nat.reduceLeDiff, sx, ← List.map_append]) <;> rfl) ?_
  refine sk_ fun K1 hK1 => ?_
  refine rs_ [0, 1, 4, 5, 6, 7] ?_
  refine dawp_p rfl (by (simp (disch := omega) only [push_cast, ↓reduceIte, Nat.reduceEqDiff, Nat.reduceAdd, Nat.reduceLeDiff, sx, ← List.map_append]) <;> rfl) rfl rfl ?_
  refine re_ (hf := by (simp (disch := omega) only [push_cast, ↓reduceIte, Nat.reduceEqDiff, Nat.reduceAdd, Nat.reduceLeDiff, sx, ← List.map_append]) <;> rfl) (hh := by (try simp (disch := omega) only [push_cast, ↓reduceIte, Nat.reduceEqDiff, Nat.reduceAdd, Nat.reduceLeDiff, sx, ← List.map_append]) <;> rfl) ?_
  refine awp_block ?_
  refine awp_loop' (X := {p : Nat × (Nat → Cap) × List Nat // p.1 ≤ 24 ∧ CapsN live p.2.2 p.2.1 6}) (fun x => ⟨Tryz.f68.ntmps, fget [(0, .ptr ka 0), (1, .ptr kb 0), (4, .ptr h.length 0), (5, .ptr (h.length + 1) 0), (6, .fn (.func 95) [] [.ptr (h.length + 1) 0]), (7, .int .i64 ((x.1.1 : Int) + 1))], h ++ [.cells [.slice [] .full, .slice [] .full, .slice [] .full, .slice [] .full, .slice [] .full, .slice [] .full], .cells (dfC (dfN Ta Tb x.1.1) x.1.2.1)], x.1.2.2⟩) (fun x => 24 - x.1.1) (⟨⟨0, fun _ => .full, live⟩, Nat.zero_le _, CapsN.full live 6⟩) ?_ (by first | rfl | simp only [List.length_set]) (fun ⟨⟨m, cs, live'⟩, hm, hq⟩ => ?_)
  · try dsimp only
    refine Trunc.of (by first | exact (List.append_nil _).symm | (simp only [hst]; rw [List.append_assoc]; rfl)) ?_ (hB _ _) (fun _ h => h)
    refine FTr.cons (by first | rfl | ((simp (disch := omega) only [push_cast, ↓reduceIte, Nat.reduceEqDiff, Nat.reduceAdd, Nat.reduceLeDiff, sx, ← List.map_append]) <;> rfl)) (by simp [AV.cl, AV.clL]; try omega) ?_
    refine FTr.cons (by first | rfl | ((simp (disch := omega) only [push_cast, ↓reduceIte, Nat.reduceEqDiff, Nat.reduceAdd, Nat.reduceLeDiff, sx, ← List.map_append]) <;> rfl)) (by simp [AV.cl, AV.clL]; try omega) ?_
    refine FTr.cons (by first | rfl | ((simp (disch := omega) only [push_cast, ↓reduceIte, Nat.reduceEqDiff, Nat.reduceAdd, Nat.reduceLeDiff, sx, ← List.map_append]) <;> rfl)) (by simp [AV.cl, AV.clL]; try omega) ?_
    refine FTr.cons (by first | rfl | ((simp (disch := omega) only [push_cast, ↓reduceIte, Nat.reduceEqDiff, Nat.reduceAdd, Nat.reduceLeDiff, sx, ← List.map_append]) <;> rfl)) (by simp [AV.cl, AV.clL]; try omega) ?_
    refine FTr.cons (by first | rfl | ((simp (disch := omega) only [push_cast, ↓reduceIte, Nat.reduceEqDiff, Nat.reduceAdd, Nat.reduceLeDiff, sx, ← List.map_append]) <;> rfl)) (by simp [AV.cl, AV.clL]; try omega) ?_
    refine FTr.cons (by first | rfl | ((simp (disch := omega) only [push_cast, ↓reduceIte, Nat.reduceEqDiff, Nat.reduceAdd, Nat.reduceLeDiff, sx, ← List.map_append]) <;> rfl)) (by simp [AV.cl, AV.clL]; try omega) ?_
    exact FTr.nil
  try dsimp only
  dsimp only at hm hq
  have hlen := dfN_len hTa hTb m
  have hea := (get_ok hTa ((m : Int) + 1)).2.1
  have heb := (get_ok hTb ((m : Int) + 1)).2.1
  have hla := lessF_len ((m : Int) + 1) (Ta.get ((m : Int) + 1)).1.ents (Tb.get ((m : Int) + 1)).1.ents
  have hlb := lessF_len ((m : Int) + 1) (Tb.get ((m : Int) + 1)).1.ents (Ta.get ((m : Int) + 1)).1.ents
  refine sk_ fun K2 hK2 => ?_
  refine rs_ [0, 1, 4, 5, 6, 7, 15] ?_
  iterate 2 (refine dawp_p rfl (by (simp (disch := omega) only [push_cast, ↓reduceIte, Nat.reduceEqDiff, Nat.reduceAdd, Nat.reduceLeDiff, sx, ← List.map_append]) <;> rfl) rfl rfl ?_)
  refine re_ (hf := by (simp (disch := omega) only [push_cast, ↓reduceIte, Nat.reduceEqDiff, Nat.reduceAdd, Nat.reduceLeDiff, sx, ← List.map_append]) <;> rfl) (hh := by (try simp (disch := omega) only [push_cast, ↓reduceIte, Nat.reduceEqDiff, Nat.reduceAdd, Nat.reduceLeDiff, sx, ← List.map_append]) <;> rfl) ?_
  refine cd_ (hb := by (simp (disch := omega) only [push_cast, ↓reduceIte, Nat.reduceEqDiff, Nat.reduceAdd, Nat.reduceLeDiff, sx, ← List.map_append]) <;> rfl) (ht := fun hb1 => ?_) (hf := fun hb1 => ?_)
  rotate_left
  · have hme : m = 24 := by omega
    subst hme
    refine awp_exit (up_ ?_)
    refine hK1 _ ?_
    refine rs_ [4] ?_
    refine dawp_h rfl (by (simp (disch := omega) only [push_cast, ↓reduceIte, Nat.reduceEqDiff, Nat.reduceAdd, Nat.reduceLeDiff, sx, ← List.map_append]) <;> rfl) rfl rfl ?_
    refine dawp_hn rfl (by (simp (disch := omega) only [push_cast, ↓reduceIte, Nat.reduceEqDiff, Nat.reduceAdd, Nat.reduceLeDiff, sx, ← List.map_append]) <;> rfl) rfl ?_
    refine re_ (hf := by (simp (disch := omega) only [push_cast, ↓reduceIte, Nat.reduceEqDiff, Nat.reduceAdd, Nat.reduceLeDiff, sx, ← List.map_append]) <;> rfl) (hh := by (try simp (disch := omega) only [push_cast, ↓reduceIte, Nat.reduceEqDiff, Nat.reduceAdd, Nat.reduceLeDiff, sx, ← List.map_append]) <;> rfl) ?_
    refine awp_ret (up_ ?_)
    refine fp_ (hres := by (simp (disch := omega) only [aresults, aresult, push_cast, ↓reduceIte, Nat.reduceEqDiff, Nat.reduceAdd, Nat.reduceLeDiff, sx, ← List.map_append]) <;> rfl) Tryz.results68 (hx := by (simp only [atuple, AV.er, AV.erL, push_cast, er_dfC]) <;> rfl) (hcl := (by exact clL_dfC _ _ _)) (hl := (fun u hu => (hq.keep u hu).1)) (hK := ?_)
    exact ⟨rfl, rfl, rfl⟩
  have hml : m < 24 := by omega
  refine awp_skip (up_ ?_)
  refine hK2 _ ?_
  refine sk_ fun K3 hK3 => ?_
  refine awp_block ?_
  refine rs_ [0, 1, 4, 5, 6, 7, 8, 9] ?_
  iterate 2 (refine dawp_p rfl (by (simp (disch := omega) only [push_cast, ↓reduceIte, Nat.reduceEqDiff, Nat.reduceAdd, Nat.reduceLeDiff, sx, ← List.map_append]) <;> rfl) rfl rfl ?_)
  refine dawp_w rfl rfl rfl rfl (AOp.callx _ _ _ rfl (by (simp (disch := omega) only [push_cast, ↓reduceIte, Nat.reduceEqDiff, Nat.reduceAdd, Nat.reduceLeDiff, sx, ← List.map_append]) <;> rfl) (by (simp (disch := omega) only [push_cast, ↓reduceIte, Nat.reduceEqDiff, Nat.reduceAdd, Nat.reduceLeDiff, sx, ← List.map_append]) <;> rfl) ?_)
  refine (c18 Ta ka _ _ _ (atApp hka) hTa).mono ?_; rintro _ _ _ ⟨rfl, rfl, rfl⟩
  iterate 3 (refine dawp_p rfl (by (simp (disch := omega) only [push_cast, ↓reduceIte, Nat.reduceEqDiff, Nat.reduceAdd, Nat.reduceLeDiff, sx, ← List.map_append]) <;> rfl) rfl rfl ?_)
  refine dawp_h rfl (by (simp (disch := omega) only [push_cast, ↓reduceIte, Nat.reduceEqDiff, Nat.reduceAdd, Nat.reduceLeDiff, sx, ← List.map_append]) <;> rfl) rfl rfl ?_
  refine dawp_hn rfl (by (simp (disch := omega) only [push_cast, ↓reduceIte, Nat.reduceEqDiff, Nat.reduceAdd, Nat.reduceLeDiff, sx, ← List.map_append]) <;> rfl) rfl ?_
  refine dawp_p rfl (by (simp (disch := omega) only [push_cast, ↓reduceIte, Nat.reduceEqDiff, Nat.reduceAdd, Nat.reduceLeDiff, sx, ← List.map_append]) <;> rfl) rfl rfl ?_
  refine re_ (hf := by (simp (disch := omega) only [push_cast, ↓reduceIte, Nat.reduceEqDiff, Nat.reduceAdd, Nat.reduceLeDiff, sx, ← List.map_append]) <;> rfl) (hh := by (try simp (disch := omega) only [push_cast, ↓reduceIte, Nat.reduceEqDiff, Nat.reduceAdd, Nat.reduceLeDiff, sx, ← List.map_append]) <;> rfl) ?_
  refine rs_ [0, 1, 4, 5, 6, 7, 8, 9, 10, 11] ?_
  iterate 2 (refine dawp_p rfl (by (simp (disch := omega) only [push_cast, ↓reduceIte, Nat.reduceEqDiff, Nat.reduceAdd, Nat.reduceLeDiff, sx, ← List.map_append]) <;> rfl) rfl rfl ?_)
  refine dawp_w rfl rfl rfl rfl (AOp.callx _ _ _ rfl (by (simp (disch := omega) only [push_cast, ↓reduceIte, Nat.reduceEqDiff, Nat.reduceAdd, Nat.reduceLeDiff, sx, ← List.map_append]) <;> rfl) (by (simp (disch := omega) only [push_cast, ↓reduceIte, Nat.reduceEqDiff, Nat.reduceAdd, Nat.reduceLeDiff, sx, ← List.map_append]) <;> rfl) ?_)
  refine (c18 Tb kb _ _ _ (atApp hkb) hTb).mono ?_; rintro _ _ _ ⟨rfl, rfl, rfl⟩
  iterate 3 (refine dawp_p rfl (by (simp (disch := omega) only [push_cast, ↓reduceIte, Nat.reduceEqDiff, Nat.reduceAdd, Nat.reduceLeDiff, sx, ← List.map_append]) <;> rfl) rfl rfl ?_)
  refine dawp_h rfl (by (simp (disch := omega) only [push_cast, ↓reduceIte, Nat.reduceEqDiff, Nat.reduceAdd, Nat.reduceLeDiff, sx, ← List.map_append]) <;> rfl) rfl rfl ?_
  refine dawp_hn rfl (by (simp (disch := omega) only [push_cast, ↓reduceIte, Nat.reduceEqDiff, Nat.reduceAdd, Nat.reduceLeDiff, sx, ← List.map_append]) <;> rfl) rfl ?_
  refine dawp_p rfl (by (simp (disch := omega) only [push_cast, ↓reduceIte, Nat.reduceEqDiff, Nat.reduceAdd, Nat.reduceLeDiff, sx, ← List.map_append]) <;> rfl) rfl rfl ?_
  refine re_ (hf := by (simp (disch := omega) only [push_cast, ↓reduceIte, Nat.reduceEqDiff, Nat.reduceAdd, Nat.reduceLeDiff, sx, ← List.map_append]) <;> rfl) (hh := by (try simp (disch := omega) only [push_cast, ↓reduceIte, Nat.reduceEqDiff, Nat.reduceAdd, Nat.reduceLeDiff, sx, ← List.map_append]) <;> rfl) ?_
  refine rs_ [0, 1, 4, 5, 6, 7, 8, 9, 10, 11, 12] ?_
  iterate 2 (refine dawp_h rfl (by (simp (disch := omega) only [push_cast, ↓reduceIte, Nat.reduceEqDiff, Nat.reduceAdd, Nat.reduceLeDiff, sx, ← List.map_append]) <;> rfl) rfl rfl ?_)
  refine dawp_hn rfl (by (simp (disch := omega) only [push_cast, ↓reduceIte, Nat.reduceEqDiff, Nat.reduceAdd, Nat.reduceLeDiff, sx, ← List.map_append]) <;> rfl) rfl ?_
  refine re_ (hf := by (simp (disch := omega) only [push_cast, ↓reduceIte, Nat.reduceEqDiff, Nat.reduceAdd, Nat.reduceLeDiff, sx, ← List.map_append]) <;> rfl) (hh := by (try simp (disch := omega) only [push_cast, ↓reduceIte, Nat.reduceEqDiff, Nat.reduceAdd, Nat.reduceLeDiff, sx, ← List.map_append]) <;> rfl) ?_
  refine rs_ [0, 1, 4, 5, 6, 7, 8, 9, 10, 11, 12] ?_
  refine dawp_p rfl (by (simp (disch := omega) only [push_cast, ↓reduceIte, Nat.reduceEqDiff, Nat.reduceAdd, Nat.reduceLeDiff, sx, ← List.map_append]) <;> rfl) rfl rfl ?_
  refine dawp_h rfl (by (simp (disch := omega) only [push_cast, ↓reduceIte, Nat.reduceEqDiff, Nat.reduceAdd, Nat.reduceLeDiff, sx, ← List.map_append]) <;> rfl) rfl rfl ?_
  refine dawp_p rfl (by (simp (disch := omega) only [push_cast, ↓reduceIte, Nat.reduceEqDiff, Nat.reduceAdd, Nat.reduceLeDiff, sx, ← List.map_append]) <;> rfl) rfl rfl ?_
  refine dawp_hn rfl (by (simp (disch := omega) only [push_cast, ↓reduceIte, Nat.reduceEqDiff, Nat.reduceAdd, Nat.reduceLeDiff, sx, ← List.map_append]) <;> rfl) rfl ?_
  refine re_ (hf := by (simp (disch := omega) only [push_cast, ↓reduceIte, Nat.reduceEqDiff, Nat.reduceAdd, Nat.reduceLeDiff, sx, ← List.map_append]) <;> rfl) (hh := by (try simp (disch := omega) only [push_cast, ↓reduceIte, Nat.reduceEqDiff, Nat.reduceAdd, Nat.reduceLeDiff, sx, ← List.map_append]) <;> rfl) ?_
  refine awp_block ?_
  refine rs_ [0, 1, 4, 5, 6, 7, 8, 9, 10, 11, 12, 37] ?_
  iterate 2 (refine dawp_h rfl (by (simp (disch := omega) only [push_cast, ↓reduceIte, Nat.reduceEqDiff, Nat.reduceAdd, Nat.reduceLeDiff, sx, ← List.map_append]) <;> rfl) rfl rfl ?_)
  refine dawp_w rfl rfl rfl rfl (AOp.callx _ _ _ rfl (by (simp (disch := omega) only [push_cast, ↓reduceIte, Nat.reduceEqDiff, Nat.reduceAdd, Nat.reduceLeDiff, sx, ← List.map_append]) <;> rfl) (by (simp (disch := omega) only [push_cast, ↓reduceIte, Nat.reduceEqDiff, Nat.reduceAdd, Nat.reduceLeDiff, sx, ← List.map_append]) <;> rfl) ?_)
  refine (c21 _ _ _ _ (get_ok hTa _) (get_ok hTb _)).mono ?_; rintro _ _ _ ⟨rfl, rfl, rfl⟩
  refine dawp_p rfl (by (simp (disch := omega) only [push_cast, ↓reduceIte, Nat.reduceEqDiff, Nat.reduceAdd, Nat.reduceLeDiff, sx, ← List.map_append]) <;> rfl) rfl rfl ?_
  refine re_ (hf := by (simp (disch := omega) only [push_cast, ↓reduceIte, Nat.reduceEqDiff, Nat.reduceAdd, Nat.reduceLeDiff, sx, ← List.map_append]) <;> rfl) (hh := by (try simp (disch := omega) only [push_cast, ↓reduceIte, Nat.reduceEqDiff, Nat.reduceAdd, Nat.reduceLeDiff, sx, ← List.map_append]) <;> rfl) ?_
  refine cb_ (hb := by (simp (disch := omega) only [push_cast, ↓reduceIte, Nat.reduceEqDiff, Nat.reduceAdd, Nat.reduceLeDiff, sx, ← List.map_append]) <;> rfl) (ht := fun hb2 => ?_) (hf := fun hb2 => ?_)
  · have hst : dfN Ta Tb (m + 1) = dfN Ta Tb m := by
      show stepD Ta Tb (dfN Ta Tb m) ((m : Int) + 1) = _
      unfold stepD; rw [hb2]; rfl
    refine awp_skip (up_ ?_)
    refine hK3 _ ?_
    refine rt_ [0, 1, 4, 5, 6, 7] ?_
    iterate 3 (refine dawp_p rfl (by (simp (disch := omega) only [push_cast, ↓reduceIte, Nat.reduceEqDiff, Nat.reduceAdd, Nat.reduceLeDiff, sx, ← List.map_append]) <;> rfl) rfl rfl ?_)
    refine rn_ (hf := by (simp (disch := omega) only [push_cast, ↓reduceIte, Nat.reduceEqDiff, Nat.reduceAdd, Nat.reduceLeDiff, sx, ← List.map_append]) <;> rfl) (hh := by (try simp (disch := omega) only [push_cast, ↓reduceIte, Nat.reduceEqDiff, Nat.reduceAdd, Nat.reduceLeDiff, sx, ← List.map_append]) <;> rfl) (up_ ?_)
    refine ⟨⟨⟨m + 1, cs, live'⟩, by dsimp only; omega, hq⟩, ?_, (by first | rfl | trivial | (simp only [List.length_set]; done) | simp), by dsimp only; omega⟩
    try dsimp only
    refine Trunc.of (by first | exact (List.append_nil _).symm | (simp only [hst]; rw [List.append_assoc]; rfl)) ?_ (hB _ _) (fun _ h => h)
    refine FTr.cons (by (simp (disch := omega) only [push_cast, ↓reduceIte, Nat.reduceEqDiff, Nat.reduceAdd, Nat.reduceLeDiff, sx, ← List.map_append]) <;> first | rfl | (congr 2; omega)) (by simp [AV.cl, AV.clL]; try omega) ?_
    refine FTr.cons (by (simp (disch := omega) only [push_cast, ↓reduceIte, Nat.reduceEqDiff, Nat.reduceAdd, Nat.reduceLeDiff, sx, ← List.map_append]) <;> first | rfl | (congr 2; omega)) (by simp [AV.cl, AV.clL]; try omega) ?_
    refine FTr.cons (by (simp (disch := omega) only [push_cast, ↓reduceIte, Nat.reduceEqDiff, Nat.reduceAdd, Nat.reduceLeDiff, sx, ← List.map_append]) <;> first | rfl | (congr 2; omega)) (by simp [AV.cl, AV.clL]; try omega) ?_
    refine FTr.cons (by (simp (disch := omega) only [push_cast, ↓reduceIte, Nat.reduceEqDiff, Nat.reduceAdd, Nat.reduceLeDiff, sx, ← List.map_append]) <;> first | rfl | (congr 2; omega)) (by simp [AV.cl, AV.clL]; try omega) ?_
    refine FTr.cons (by (simp (disch := omega) only [push_cast, ↓reduceIte, Nat.reduceEqDiff, Nat.reduceAdd, Nat.reduceLeDiff, sx, ← List.map_append]) <;> first | rfl | (congr 2; omega)) (by simp [AV.cl, AV.clL]; try omega) ?_
    refine FTr.cons (by (simp (disch := omega) only [push_cast, ↓reduceIte, Nat.reduceEqDiff, Nat.reduceAdd, Nat.reduceLeDiff, sx, ← List.map_append]) <;> first | rfl | (congr 2; omega)) (by simp [AV.cl, AV.clL]; try omega) ?_
    exact FTr.nil
  refine rs_ [0, 1, 4, 5, 6, 7, 8, 10, 11, 12, 41] ?_
  iterate 3 (refine dawp_p rfl (by (simp (disch := omega) only [push_cast, ↓reduceIte, Nat.reduceEqDiff, Nat.reduceAdd, Nat.reduceLeDiff, sx, ← List.map_append]) <;> rfl) rfl rfl ?_)
  refine re_ (hf := by (simp (disch := omega) only [push_cast, ↓reduceIte, Nat.reduceEqDiff, Nat.reduceAdd, Nat.reduceLeDiff, sx, ← List.map_append]) <;> rfl) (hh := by (try simp (disch := omega) only [push_cast, ↓reduceIte, Nat.reduceEqDiff, Nat.reduceAdd, Nat.reduceLeDiff, sx, ← List.map_append]) <;> rfl) ?_
  refine cb_ (hb := by (simp (disch := omega) only [push_cast, ↓reduceIte, Nat.reduceEqDiff, Nat.reduceAdd, Nat.reduceLeDiff, sx, ← List.map_append]) <;> rfl) (ht := fun hb3 => ?_) (hf := fun hb3 => ?_)
  · have hst : dfN Ta Tb (m + 1) = updB (dfN Ta Tb m) 0 ((m : Int) + 1) := by
      show stepD Ta Tb (dfN Ta Tb m) ((m : Int) + 1) = _
      unfold stepD; rw [hb2, hb3]; rfl
    refine rt_ [0, 1, 4, 5, 6, 7] ?_
    iterate 2 (refine dawp_p rfl (by (simp (disch := omega) only [push_cast, ↓reduceIte, Nat.reduceEqDiff, Nat.reduceAdd, Nat.reduceLeDiff, sx, ← List.map_append]) <;> rfl) rfl rfl ?_)
    refine dawp_w rfl rfl rfl rfl (AOp.callx _ _ _ rfl (by (simp (disch := omega) only [push_cast, ↓reduceIte, Nat.reduceEqDiff, Nat.reduceAdd, Nat.reduceLeDiff, sx, ← List.map_append]) <;> rfl) (by (simp (disch := omega) only [push_cast, ↓reduceIte, Nat.reduceEqDiff, Nat.reduceAdd, Nat.reduceLeDiff, sx, ← List.map_append]) <;> rfl) ?_)
    refine (pf95_0 (dfN Ta Tb m) cs ((m : Int) + 1) (h.length + 1) _ _ (by simp only [push_cast]) (hq.ok 0 (by decide)) (by have := (hlen.1 0); omega)).mono ?_; rintro _ _ _ ⟨rfl, c46, rfl, hk46⟩
    have hq1 := hq.upd (show 0 < 6 by decide) hk46
    refine rn_ (hf := by (simp (disch := omega) only [push_cast, ↓reduceIte, Nat.reduceEqDiff, Nat.reduceAdd, Nat.reduceLeDiff, sx, ← List.map_append]) <;> rfl) (hh := by (try simp (disch := omega) only [push_cast, ↓reduceIte, Nat.reduceEqDiff, Nat.reduceAdd, Nat.reduceLeDiff, sx, ← List.map_append]) <;> rfl) (up_ ?_)
    refine hK3 _ ?_
    refine rt_ [0, 1, 4, 5, 6, 7] ?_
    iterate 3 (refine dawp_p rfl (by (simp (disch := omega) only [push_cast, ↓reduceIte, Nat.reduceEqDiff, Nat.reduceAdd, Nat.reduceLeDiff, sx, ← List.map_append]) <;> rfl) rfl rfl ?_)
    refine rn_ (hf := by (simp (disch := omega) only [push_cast, ↓reduceIte, Nat.reduceEqDiff, Nat.reduceAdd, Nat.reduceLeDiff, sx, ← List.map_append]) <;> rfl) (hh := by (try simp (disch := omega) only [push_cast, ↓reduceIte, Nat.reduceEqDiff, Nat.reduceAdd, Nat.reduceLeDiff, sx, ← List.map_append]) <;> rfl) (up_ ?_)
    refine ⟨⟨⟨m + 1, updC cs 0 c46, _⟩, by dsimp only; omega, hq1⟩, ?_, (by first | rfl | trivial | (simp only [List.length_set]; done) | simp), by dsimp only; omega⟩
    try dsimp only
    refine Trunc.of (by first | exact (List.append_nil _).symm | (simp only [hst]; rw [List.append_assoc]; rfl)) ?_ (hB _ _) (fun _ h => h)
    refine FTr.cons (by (simp (disch := omega) only [push_cast, ↓reduceIte, Nat.reduceEqDiff, Nat.reduceAdd, Nat.reduceLeDiff, sx, ← List.map_append]) <;> first | rfl | (congr 2; omega)) (by simp [AV.cl, AV.clL]; try omega) ?_
    refine FTr.cons (by (simp (disch := omega) only [push_cast, ↓reduceIte, Nat.reduceEqDiff, Nat.reduceAdd, Nat.reduceLeDiff, sx, ← List.map_append]) <;> first | rfl | (congr 2; omega)) (by simp [AV.cl, AV.clL]; try omega) ?_
    refine FTr.cons (by (simp (disch := omega) only [push_cast, ↓reduceIte, Nat.reduceEqDiff, Nat.reduceAdd, Nat.reduceLeDiff, sx, ← List.map_append]) <;> first | rfl | (congr 2; omega)) (by simp [AV.cl, AV.clL]; try omega) ?_
    refine FTr.cons (by (simp (disch := omega) only [push_cast, ↓reduceIte, Nat.reduceEqDiff, Nat.reduceAdd, Nat.reduceLeDiff, sx, ← List.map_append]) <;> first | rfl | (congr 2; omega)) (by simp [AV.cl, AV.clL]; try omega) ?_
    refine FTr.cons (by (simp (disch := omega) only [push_cast, ↓reduceIte, Nat.reduceEqDiff, Nat.reduceAdd, Nat.reduceLeDiff, sx, ← List.map_append]) <;> first | rfl | (congr 2; omega)) (by simp [AV.cl, AV.clL]; try omega) ?_
    refine FTr.cons (by (simp (disch := omega) only [push_cast, ↓reduceIte, Nat.reduceEqDiff, Nat.reduceAdd, Nat.reduceLeDiff, sx, ← List.map_append]) <;> first | rfl | (congr 2; omega)) (by simp [AV.cl, AV.clL]; try omega) ?_
    exact FTr.nil
  refine rs_ [0, 1, 4, 5, 6, 7, 8, 10, 12, 47] ?_
  iterate 3 (refine dawp_p rfl (by (simp (disch := omega) only [push_cast, ↓reduceIte, Nat.reduceEqDiff, Nat.reduceAdd, Nat.reduceLeDiff, sx, ← List.map_append]) <;> rfl) rfl rfl ?_)
  refine re_ (hf := by (simp (disch := omega) only [push_cast, ↓reduceIte, Nat.reduceEqDiff, Nat.reduceAdd, Nat.reduceLeDiff, sx, ← List.map_append]) <;> rfl) (hh := by (try simp (disch := omega) only [push_cast, ↓reduceIte, Nat.reduceEqDiff, Nat.reduceAdd, Nat.reduceLeDiff, sx, ← List.map_append]) <;> rfl) ?_
  refine cb_ (hb := by (simp (disch := omega) only [push_cast, ↓reduceIte, Nat.reduceEqDiff, Nat.reduceAdd, Nat.reduceLeDiff, sx, ← List.map_append]) <;> rfl) (ht := fun hb4 => ?_) (hf := fun hb4 => ?_)
  · have hst : dfN Ta Tb (m + 1) = updB (dfN Ta Tb m) 1 ((m : Int) + 1) := by
      show stepD Ta Tb (dfN Ta Tb m) ((m : Int) + 1) = _
      unfold stepD; rw [hb2, hb3, hb4]; rfl
    refine rt_ [0, 1, 4, 5, 6, 7] ?_
    iterate 2 (refine dawp_p rfl (by (simp (disch := omega) only [push_cast, ↓reduceIte, Nat.reduceEqDiff, Nat.reduceAdd, Nat.reduceLeDiff, sx, ← List.map_append]) <;> rfl) rfl rfl ?_)
    refine dawp_w rfl rfl rfl rfl (AOp.callx _ _ _ rfl (by (simp (disch := omega) only [push_cast, ↓reduceIte, Nat.reduceEqDiff, Nat.reduceAdd, Nat.reduceLeDiff, sx, ← List.map_append]) <;> rfl) (by (simp (disch := omega) only [push_cast, ↓reduceIte, Nat.reduceEqDiff, Nat.reduceAdd, Nat.reduceLeDiff, sx, ← List.map_append]) <;> rfl) ?_)
    refine (pf95_1 (dfN Ta Tb m) cs ((m : Int) + 1) (h.length + 1) _ _ (by simp only [push_cast]) (hq.ok 1 (by decide)) (by have := (hlen.1 1); omega)).mono ?_; rintro _ _ _ ⟨rfl, c52, rfl, hk52⟩
    have hq1 := hq.upd (show 1 < 6 by decide) hk52
    refine rn_ (hf := by (simp (disch := omega) only [push_cast, ↓reduceIte, Nat.reduceEqDiff, Nat.reduceAdd, Nat.reduceLeDiff, sx, ← List.map_append]) <;> rfl) (hh := by (try simp (disch := omega) only [push_cast, ↓reduceIte, Nat.reduceEqDiff, Nat.reduceAdd, Nat.reduceLeDiff, sx, ← List.map_append]) <;> rfl) (up_ ?_)
    refine hK3 _ ?_
    refine rt_ [0, 1, 4, 5, 6, 7] ?_
    iterate 3 (refine dawp_p rfl (by (simp (disch := omega) only [push_cast, ↓reduceIte, Nat.reduceEqDiff, Nat.reduceAdd, Nat.reduceLeDiff, sx, ← List.map_append]) <;> rfl) rfl rfl ?_)
    refine rn_ (hf := by (simp (disch := omega) only [push_cast, ↓reduceIte, Nat.reduceEqDiff, Nat.reduceAdd, Nat.reduceLeDiff, sx, ← List.map_append]) <;> rfl) (hh := by (try simp (disch := omega) only [push_cast, ↓reduceIte, Nat.reduceEqDiff, Nat.reduceAdd, Nat.reduceLeDiff, sx, ← List.map_append]) <;> rfl) (up_ ?_)
    refine ⟨⟨⟨m + 1, updC cs 1 c52, _⟩, by dsimp only; omega, hq1⟩, ?_, (by first | rfl | trivial | (simp only [List.length_set]; done) | simp), by dsimp only; omega⟩
    try dsimp only
    refine Trunc.of (by first | exact (List.append_nil _).symm | (simp only [hst]; rw [List.append_assoc]; rfl)) ?_ (hB _ _) (fun _ h => h)
    refine FTr.cons (by (simp (disch := omega) only [push_cast, ↓reduceIte, Nat.reduceEqDiff, Nat.reduceAdd, Nat.reduceLeDiff, sx, ← List.map_append]) <;> first | rfl | (congr 2; omega)) (by simp [AV.cl, AV.clL]; try omega) ?_
    refine FTr.cons (by (simp (disch := omega) only [push_cast, ↓reduceIte, Nat.reduceEqDiff, Nat.reduceAdd, Nat.reduceLeDiff, sx, ← List.map_append]) <;> first | rfl | (congr 2; omega)) (by simp [AV.cl, AV.clL]; try omega) ?_
    refine FTr.cons (by (simp (disch := omega) only [push_cast, ↓reduceIte, Nat.reduceEqDiff, Nat.reduceAdd, Nat.reduceLeDiff, sx, ← List.map_append]) <;> first | rfl | (congr 2; omega)) (by simp [AV.cl, AV.clL]; try omega) ?_
    refine FTr.cons (by (simp (disch := omega) only [push_cast, ↓reduceIte, Nat.reduceEqDiff, Nat.reduceAdd, Nat.reduceLeDiff, sx, ← List.map_append]) <;> first | rfl | (congr 2; omega)) (by simp [AV.cl, AV.clL]; try omega) ?_
    refine FTr.cons (by (simp (disch := omega) only [push_cast, ↓reduceIte, Nat.reduceEqDiff, Nat.reduceAdd, Nat.reduceLeDiff, sx, ← List.map_append]) <;> first | rfl | (congr 2; omega)) (by simp [AV.cl, AV.clL]; try omega) ?_
    refine FTr.cons (by (simp (disch := omega) only [push_cast, ↓reduceIte, Nat.reduceEqDiff, Nat.reduceAdd, Nat.reduceLeDiff, sx, ← List.map_append]) <;> first | rfl | (congr 2; omega)) (by simp [AV.cl, AV.clL]; try omega) ?_
    exact FTr.nil
  refine rs_ [0, 1, 4, 5, 6, 7, 8, 10, 53] ?_
  refine dawp_p rfl (by (simp (disch := omega) only [push_cast, ↓reduceIte, Nat.reduceEqDiff, Nat.reduceAdd, Nat.reduceLeDiff, sx, ← List.map_append]) <;> rfl) rfl rfl ?_
  refine dawp_h rfl (by (simp (disch := omega) only [push_cast, ↓reduceIte, Nat.reduceEqDiff, Nat.reduceAdd, Nat.reduceLeDiff, sx, ← List.map_append]) <;> rfl) rfl rfl ?_
  iterate 2 (refine dawp_p rfl (by (simp (disch := omega) only [push_cast, ↓reduceIte, Nat.reduceEqDiff, Nat.reduceAdd, Nat.reduceLeDiff, sx, ← List.map_append]) <;> rfl) rfl rfl ?_)
  iterate 2 (refine dawp_gh rfl rfl (by simp only [push_cast, ↓reduceIte, Nat.reduceEqDiff, Nat.reduceAdd, Nat.reduceLeDiff, sx, ← List.map_append]; rfl) (fun hg => by simp (disch := omega) only [hg, push_cast, ↓reduceIte, Nat.reduceEqDiff, Nat.reduceAdd, Nat.reduceLeDiff, sx, ← List.map_append]; rfl) rfl rfl ?_)
  refine dawp_gr rfl rfl rfl (by simp only [push_cast, ↓reduceIte, Nat.reduceEqDiff, Nat.reduceAdd, Nat.reduceLeDiff, sx, ← List.map_append]; rfl) (fun hg => AOp.callx _ _ _ rfl (by (simp (disch := omega) only [hg, push_cast, ↓reduceIte, Nat.reduceEqDiff, Nat.reduceAdd, Nat.reduceLeDiff, sx, ← List.map_append]) <;> rfl) (by (simp (disch := omega) only [hg, push_cast, ↓reduceIte, Nat.reduceEqDiff, Nat.reduceAdd, Nat.reduceLeDiff, sx, ← List.map_append]) <;> rfl) (c21 (nEnts (Ta.get ((m : Int) + 1)).1 (Tb.get ((m : Int) + 1)).1) _ _ _ (nEnts_ok (get_ok hTa _) (get_ok hTb _)) (get_ok hTb _))) rfl rfl ?_
  iterate 2 (refine dawp_p rfl (by (simp (disch := omega) only [push_cast, ↓reduceIte, Nat.reduceEqDiff, Nat.reduceAdd, Nat.reduceLeDiff, sx, ← List.map_append]) <;> rfl) rfl rfl ?_)
  refine re_ (hf := by (simp (disch := omega) only [push_cast, ↓reduceIte, Nat.reduceEqDiff, Nat.reduceAdd, Nat.reduceLeDiff, sx, ← List.map_append]) <;> rfl) (hh := by (try simp (disch := omega) only [push_cast, ↓reduceIte, Nat.reduceEqDiff, Nat.reduceAdd, Nat.reduceLeDiff, sx, ← List.map_append]) <;> rfl) ?_
  refine cb_ (hb := by (simp (disch := omega) only [push_cast, ↓reduceIte, Nat.reduceEqDiff, Nat.reduceAdd, Nat.reduceLeDiff, sx, ← List.map_append]) <;> rfl) (ht := fun hb5 => ?_) (hf := fun hb5 => ?_)
  · have hst : dfN Ta Tb (m + 1) = ⟨(updB (dfN Ta Tb m) 2 ((m : Int) + 1)).b, (dfN Ta Tb m).lost ++ lessF ((m : Int) + 1) (Ta.get ((m : Int) + 1)).1.ents (Tb.get ((m : Int) + 1)).1.ents, (dfN Ta Tb m).won ++ lessF ((m : Int) + 1) (Tb.get ((m : Int) + 1)).1.ents (Ta.get ((m : Int) + 1)).1.ents⟩ := by
      show stepD Ta Tb (dfN Ta Tb m) ((m : Int) + 1) = _
      unfold stepD; rw [hb2, hb3, hb4, hb5]; rfl
    refine rs_ [0, 1, 4, 5, 6, 7, 8, 10] ?_
    iterate 2 (refine dawp_p rfl (by (simp (disch := omega) only [push_cast, ↓reduceIte, Nat.reduceEqDiff, Nat.reduceAdd, Nat.reduceLeDiff, sx, ← List.map_append]) <;> rfl) rfl rfl ?_)
    refine dawp_w rfl rfl rfl rfl (AOp.callx _ _ _ rfl (by (simp (disch := omega) only [push_cast, ↓reduceIte, Nat.reduceEqDiff, Nat.reduceAdd, Nat.reduceLeDiff, sx, ← List.map_append]) <;> rfl) (by (simp (disch := omega) only [push_cast, ↓reduceIte, Nat.reduceEqDiff, Nat.reduceAdd, Nat.reduceLeDiff, sx, ← List.map_append]) <;> rfl) ?_)
    refine (pf95_2 (dfN Ta Tb m) cs ((m : Int) + 1) (h.length + 1) _ _ (by simp only [push_cast]) (hq.ok 2 (by decide)) (by have := (hlen.1 2); omega)).mono ?_; rintro _ _ _ ⟨rfl, c64, rfl, hk64⟩
    have hq1 := hq.upd (show 2 < 6 by decide) hk64
    refine re_ (hf := by (simp (disch := omega) only [push_cast, ↓reduceIte, Nat.reduceEqDiff, Nat.reduceAdd, Nat.reduceLeDiff, sx, ← List.map_append]) <;> rfl) (hh := by (try simp (disch := omega) only [push_cast, ↓reduceIte, Nat.reduceEqDiff, Nat.reduceAdd, Nat.reduceLeDiff, sx, ← List.map_append]) <;> rfl) ?_
    refine rsq_ [0, 1, 4, 5, 6, 7, 8, 10] ⟨true, [], [], [], [], [], 0⟩ (fun _ => ⟨by kernel_rfl, by kernel_rfl⟩) ?_
    refine dawp_p rfl (by (simp (disch := omega) only [push_cast, ↓reduceIte, Nat.reduceEqDiff, Nat.reduceAdd, Nat.reduceLeDiff, sx, ← List.map_append]) <;> rfl) rfl rfl ?_
    refine dawp_h rfl (by (simp (disch := omega) only [push_cast, ↓reduceIte, Nat.reduceEqDiff, Nat.reduceAdd, Nat.reduceLeDiff, sx, ← List.map_append]) <;> rfl) rfl rfl ?_
    iterate 2 (refine dawp_p rfl (by (simp (disch := omega) only [push_cast, ↓reduceIte, Nat.reduceEqDiff, Nat.reduceAdd, Nat.reduceLeDiff, sx, ← List.map_append]) <;> rfl) rfl rfl ?_)
    refine dawp_h rfl (by (simp (disch := omega) only [push_cast, ↓reduceIte, Nat.reduceEqDiff, Nat.reduceAdd, Nat.reduceLeDiff, sx, ← List.map_append]) <;> rfl) rfl rfl ?_
    refine dawp_p rfl (by (simp (disch := omega) only [push_cast, ↓reduceIte, Nat.reduceEqDiff, Nat.reduceAdd, Nat.reduceLeDiff, sx, ← List.map_append]) <;> rfl) rfl rfl ?_
    refine dawp_h rfl (by (simp (disch := omega) only [push_cast, ↓reduceIte, Nat.reduceEqDiff, Nat.reduceAdd, Nat.reduceLeDiff, sx, ← List.map_append]) <;> rfl) rfl rfl ?_
    refine dawp_r rfl rfl rfl rfl (AOp.callx _ _ _ rfl (by (simp (disch := omega) only [push_cast, ↓reduceIte, Nat.reduceEqDiff, Nat.reduceAdd, Nat.reduceLeDiff, sx, ← List.map_append]) <;> rfl) (by (simp (disch := omega) only [push_cast, ↓reduceIte, Nat.reduceEqDiff, Nat.reduceAdd, Nat.reduceLeDiff, sx, ← List.map_append]) <;> rfl) (c96 _ _ _ _ _ _ _ (by omega) (by omega))) ?_
    refine dawp_w rfl rfl rfl rfl (AOp.append _ _ _ rfl (by (simp (disch := omega) only [push_cast, ↓reduceIte, Nat.reduceEqDiff, Nat.reduceAdd, Nat.reduceLeDiff, sx, ← List.map_append]) <;> rfl) (by (simp (disch := omega) only [push_cast, ↓reduceIte, Nat.reduceEqDiff, Nat.reduceAdd, Nat.reduceLeDiff, sx, ← List.map_append]) <;> rfl) (by (simp (disch := omega) only [push_cast, ↓reduceIte, Nat.reduceEqDiff, Nat.reduceAdd, Nat.reduceLeDiff, sx, ← List.map_append]) <;> rfl) (hq1.ok 4 (by decide)) (cells_yV _) (cells_yV _) (by simp only [List.length_map]; have h1 := hlen.2.1; have h2 : (updB (dfN Ta Tb m) 2 ((m : Int) + 1)).lost.length ≤ 1000 * m := h1; omega) (by simp only [List.length_map]; have h1 := hlen.2.1; have h2 : (updB (dfN Ta Tb m) 2 ((m : Int) + 1)).lost.length ≤ 1000 * m := h1; omega) ?_)
    intro c73 live73 hk73
    have hq2 := hq1.upd (show 4 < 6 by decide) hk73
    refine dawp_p rfl (by (simp (disch := omega) only [push_cast, ↓reduceIte, Nat.reduceEqDiff, Nat.reduceAdd, Nat.reduceLeDiff, sx, ← List.map_append]) <;> rfl) rfl rfl ?_
    refine dawp_hn rfl (by (simp (disch := omega) only [push_cast, ↓reduceIte, Nat.reduceEqDiff, Nat.reduceAdd, Nat.reduceLeDiff, sx, ← List.map_append]) <;> rfl) rfl ?_
    refine re_ (hf := by (simp (disch := omega) only [push_cast, ↓reduceIte, Nat.reduceEqDiff, Nat.reduceAdd, Nat.reduceLeDiff, sx, ← List.map_append]) <;> rfl) (hh := by (try simp (disch := omega) only [push_cast, ↓reduceIte, Nat.reduceEqDiff, Nat.reduceAdd, Nat.reduceLeDiff, sx, ← List.map_append]) <;> rfl) ?_
    refine rtq_ [0, 1, 4, 5, 6, 7] ⟨true, [], [], [], [], [], 0⟩ (fun _ => ⟨by kernel_rfl, by kernel_rfl⟩) ?_
    refine dawp_p rfl (by (simp (disch := omega) only [push_cast, ↓reduceIte, Nat.reduceEqDiff, Nat.reduceAdd, Nat.reduceLeDiff, sx, ← List.map_append]) <;> rfl) rfl rfl ?_
    refine dawp_h rfl (by (simp (disch := omega) only [push_cast, ↓reduceIte, Nat.reduceEqDiff, Nat.reduceAdd, Nat.reduceLeDiff, sx, ← List.map_append]) <;> rfl) rfl rfl ?_
    iterate 2 (refine dawp_p rfl (by (simp (disch := omega) only [push_cast, ↓reduceIte, Nat.reduceEqDiff, Nat.reduceAdd, Nat.reduceLeDiff, sx, ← List.map_append]) <;> rfl) rfl rfl ?_)
    refine dawp_h rfl (by (simp (disch := omega) only [push_cast, ↓reduceIte, Nat.reduceEqDiff, Nat.reduceAdd, Nat.reduceLeDiff, sx, ← List.map_append]) <;> rfl) rfl rfl ?_
    refine dawp_p rfl (by (simp (disch := omega) only [push_cast, ↓reduceIte, Nat.reduceEqDiff, Nat.reduceAdd, Nat.reduceLeDiff, sx, ← List.map_append]) <;> rfl) rfl rfl ?_
    refine dawp_h rfl (by (simp (disch := omega) only [push_cast, ↓reduceIte, Nat.reduceEqDiff, Nat.reduceAdd, Nat.reduceLeDiff, sx, ← List.map_append]) <;> rfl) rfl rfl ?_
    refine dawp_r rfl rfl rfl rfl (AOp.callx _ _ _ rfl (by (simp (disch := omega) only [push_cast, ↓reduceIte, Nat.reduceEqDiff, Nat.reduceAdd, Nat.reduceLeDiff, sx, ← List.map_append]) <;> rfl) (by (simp (disch := omega) only [push_cast, ↓reduceIte, Nat.reduceEqDiff, Nat.reduceAdd, Nat.reduceLeDiff, sx, ← List.map_append]) <;> rfl) (c96 _ _ _ _ _ _ _ (by omega) (by omega))) ?_
    refine dawp_w rfl rfl rfl rfl (AOp.append _ _ _ rfl (by (simp (disch := omega) only [push_cast, ↓reduceIte, Nat.reduceEqDiff, Nat.reduceAdd, Nat.reduceLeDiff, sx, ← List.map_append]) <;> rfl) (by (simp (disch := omega) only [push_cast, ↓reduceIte, Nat.reduceEqDiff, Nat.reduceAdd, Nat.reduceLeDiff, sx, ← List.map_append]) <;> rfl) (by (simp (disch := omega) only [push_cast, ↓reduceIte, Nat.reduceEqDiff, Nat.reduceAdd, Nat.reduceLeDiff, sx, ← List.map_append]) <;> rfl) (hq2.ok 5 (by decide)) (cells_yV _) (cells_yV _) (by simp only [List.length_map]; have h1 := hlen.2.2; have h2 : (updB (dfN Ta Tb m) 2 ((m : Int) + 1)).won.length ≤ 1000 * m := h1; omega) (by simp only [List.length_map]; have h1 := hlen.2.2; have h2 : (updB (dfN Ta Tb m) 2 ((m : Int) + 1)).won.length ≤ 1000 * m := h1; omega) ?_)
    intro c83 live83 hk83
    have hq3 := hq2.upd (show 5 < 6 by decide) hk83
    refine dawp_p rfl (by (simp (disch := omega) only [push_cast, ↓reduceIte, Nat.reduceEqDiff, Nat.reduceAdd, Nat.reduceLeDiff, sx, ← List.map_append]) <;> rfl) rfl rfl ?_
    refine dawp_hn rfl (by (simp (disch := omega) only [push_cast, ↓reduceIte, Nat.reduceEqDiff, Nat.reduceAdd, Nat.reduceLeDiff, sx, ← List.map_append]) <;> rfl) rfl ?_
    refine rn_ (hf := by (simp (disch := omega) only [push_cast, ↓reduceIte, Nat.reduceEqDiff, Nat.reduceAdd, Nat.reduceLeDiff, sx, ← List.map_append]) <;> rfl) (hh := by (try simp (disch := omega) only [push_cast, ↓reduceIte, Nat.reduceEqDiff, Nat.reduceAdd, Nat.reduceLeDiff, sx, ← List.map_append]) <;> rfl) (up_ ?_)
    refine hK3 _ ?_
    refine rt_ [0, 1, 4, 5, 6, 7] ?_
    iterate 3 (refine dawp_p rfl (by (simp (disch := omega) only [push_cast, ↓reduceIte, Nat.reduceEqDiff, Nat.reduceAdd, Nat.reduceLeDiff, sx, ← List.map_append]) <;> rfl) rfl rfl ?_)
    refine rn_ (hf := by (simp (disch := omega) only [push_cast, ↓reduceIte, Nat.reduceEqDiff, Nat.reduceAdd, Nat.reduceLeDiff, sx, ← List.map_append]) <;> rfl) (hh := by (try simp (disch := omega) only [push_cast, ↓reduceIte, Nat.reduceEqDiff, Nat.reduceAdd, Nat.reduceLeDiff, sx, ← List.map_append]) <;> rfl) (up_ ?_)
    refine ⟨⟨⟨m + 1, updC (updC (updC cs 2 c64) 4 c73) 5 c83, live83⟩, by dsimp only; omega, hq3⟩, ?_, (by first | rfl | trivial | (simp only [List.length_set]; done) | simp), by dsimp only; omega⟩
    try dsimp only
    refine Trunc.of (by first | exact (List.append_nil _).symm | (simp only [hst]; rw [List.append_assoc]; rfl)) ?_ (hB _ _) (fun _ h => h)
    refine FTr.cons (by (simp (disch := omega) only [push_cast, ↓reduceIte, Nat.reduceEqDiff, Nat.reduceAdd, Nat.reduceLeDiff, sx, ← List.map_append]) <;> first | rfl | (congr 2; omega)) (by simp [AV.cl, AV.clL]; try omega) ?_
    refine FTr.cons (by (simp (disch := omega) only [push_cast, ↓reduceIte, Nat.reduceEqDiff, Nat.reduceAdd, Nat.reduceLeDiff, sx, ← List.map_append]) <;> first | rfl | (congr 2; omega)) (by simp [AV.cl, AV.clL]; try omega) ?_
    refine FTr.cons (by (simp (disch := omega) only [push_cast, ↓reduceIte, Nat.reduceEqDiff, Nat.reduceAdd, Nat.reduceLeDiff, sx, ← List.map_append]) <;> first | rfl | (congr 2; omega)) (by simp [AV.cl, AV.clL]; try omega) ?_
    refine FTr.cons (by (simp (disch := omega) only [push_cast, ↓reduceIte, Nat.reduceEqDiff, Nat.reduceAdd, Nat.reduceLeDiff, sx, ← List.map_append]) <;> first | rfl | (congr 2; omega)) (by simp [AV.cl, AV.clL]; try omega) ?_
    refine FTr.cons (by (simp (disch := omega) only [push_cast, ↓reduceIte, Nat.reduceEqDiff, Nat.reduceAdd, Nat.reduceLeDiff, sx, ← List.map_append]) <;> first | rfl | (congr 2; omega)) (by simp [AV.cl, AV.clL]; try omega) ?_
    refine FTr.cons (by (simp (disch := omega) only [push_cast, ↓reduceIte, Nat.reduceEqDiff, Nat.reduceAdd, Nat.reduceLeDiff, sx, ← List.map_append]) <;> first | rfl | (congr 2; omega)) (by simp [AV.cl, AV.clL]; try omega) ?_
    exact FTr.nil
  have hst : dfN Ta Tb (m + 1) = updB (dfN Ta Tb m) 3 ((m : Int) + 1) := by
    show stepD Ta Tb (dfN Ta Tb m) ((m : Int) + 1) = _
    unfold stepD; rw [hb2, hb3, hb4, hb5]; rfl
  refine rt_ [0, 1, 4, 5, 6, 7] ?_
  iterate 2 (refine dawp_p rfl (by (simp (disch := omega) only [push_cast, ↓reduceIte, Nat.reduceEqDiff, Nat.reduceAdd, Nat.reduceLeDiff, sx, ← List.map_append]) <;> rfl) rfl rfl ?_)
  refine dawp_w rfl rfl rfl rfl (AOp.callx _ _ _ rfl (by (simp (disch := omega) only [push_cast, ↓reduceIte, Nat.reduceEqDiff, Nat.reduceAdd, Nat.reduceLeDiff, sx, ← List.map_append]) <;> rfl) (by (simp (disch := omega) only [push_cast, ↓reduceIte, Nat.reduceEqDiff, Nat.reduceAdd, Nat.reduceLeDiff, sx, ← List.map_append]) <;> rfl) ?_)
  refine (pf95_3 (dfN Ta Tb m) cs ((m : Int) + 1) (h.length + 1) _ _ (by simp only [push_cast]) (hq.ok 3 (by decide)) (by have := (hlen.1 3); omega)).mono ?_; rintro _ _ _ ⟨rfl, c36, rfl, hk36⟩
  have hq1 := hq.upd (show 3 < 6 by decide) hk36
  refine rn_ (hf := by (simp (disch := omega) only [push_cast, ↓reduceIte, Nat.reduceEqDiff, Nat.reduceAdd, Nat.reduceLeDiff, sx, ← List.map_append]) <;> rfl) (hh := by (try simp (disch := omega) only [push_cast, ↓reduceIte, Nat.reduceEqDiff, Nat.reduceAdd, Nat.reduceLeDiff, sx, ← List.map_append]) <;> rfl) (up_ ?_)
  refine hK3 _ ?_
  refine rt_ [0, 1, 4, 5, 6, 7] ?_
  iterate 3 (refine dawp_p rfl (by (simp (disch := omega) only [push_cast, ↓reduceIte, Nat.reduceEqDiff, Nat.reduceAdd, Nat.reduceLeDiff, sx, ← List.map_append]) <;> rfl) rfl rfl ?_)
  refine rn_ (hf := by (simp (disch := omega) only [push_cast, ↓reduceIte, Nat.reduceEqDiff, Nat.reduceAdd, Nat.reduceLeDiff, sx, ← List.map_append]) <;> rfl) (hh := by (try simp (disch := omega) only [push_cast, ↓reduceIte, Nat.reduceEqDiff, Nat.reduceAdd, Nat.reduceLeDiff, sx, ← List.map_append]) <;> rfl) (up_ ?_)
  refine ⟨⟨⟨m + 1, updC cs 3 c36, _⟩, by dsimp only; omega, hq1⟩, ?_, (by first | rfl | trivial | (simp only [List.length_set]; done) | simp), by dsimp only; omega⟩
  try dsimp only
  refine Trunc.of (by first | exact (List.append_nil _).symm | (simp only [hst]; rw [List.append_assoc]; rfl)) ?_ (hB _ _) (fun _ h => h)
  refine FTr.cons (by (simp (disch := omega) only [push_cast, ↓reduceIte, Nat.reduceEqDiff, Nat.reduceAdd, Nat.reduceLeDiff, sx, ← List.map_append]) <;> first | rfl | (congr 2; omega)) (by simp [AV.cl, AV.clL]; try omega) ?_
  refine FTr.cons (by (simp (disch := omega) only [push_cast, ↓reduceIte, Nat.reduceEqDiff, Nat.reduceAdd, Nat.reduceLeDiff, sx, ← List.map_append]) <;> first | rfl | (congr 2; omega)) (by simp [AV.cl, AV.clL]; try omega) ?_
  refine FTr.cons (by (simp (disch := omega) only [push_cast, ↓reduceIte, Nat.reduceEqDiff, Nat.reduceAdd, Nat.reduceLeDiff, sx, ← List.map_append]) <;> first | rfl | (congr 2; omega)) (by simp [AV.cl, AV.clL]; try omega) ?_
  refine FTr.cons (by (simp (disch := omega) only [push_cast, ↓reduceIte, Nat.reduceEqDiff, Nat.reduceAdd, Nat.reduceLeDiff, sx, ← List.map_append]) <;> first | rfl | (congr 2; omega)) (by simp [AV.cl, AV.clL]; try omega) ?_
  refine FTr.cons (by (simp (disch := omega) only [push_cast, ↓reduceIte, Nat.reduceEqDiff, Nat.reduceAdd, Nat.reduceLeDiff, sx, ← List.map_append]) <;> first | rfl | (congr 2; omega)) (by simp [AV.cl, AV.clL]; try omega) ?_
  refine FTr.cons (by (simp (disch := omega) only [push_cast, ↓reduceIte, Nat.reduceEqDiff, Nat.reduceAdd, Nat.reduceLeDiff, sx, ← List.map_append]) <;> first | rfl | (congr 2; omega)) (by simp [AV.cl, AV.clL]; try omega) ?_
  exact FTr.nil

end Go.Proofs.YtjoklidphbmpoaaGreat
