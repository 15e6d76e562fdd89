import Derived.Test.YtjoklidphbmpoaaGreatA12
/-
  TABLES: the change of a table.
-/
namespace Go.Proofs.YtjoklidphbmpoaaGreat
open Go.Ab
set_option linter.unusedVariables false
set_option linter.unusedSimpArgs false
set_option maxRecDepth 8000
set_option maxHeartbeats 400000


/-- A change. -/
structure Ch where
  kind : Int
  node : Int
  dir : Int
  name : List UInt8
  to : Int
  other : List UInt8
  over : Int
def chC (c : Ch) : List AV := [.int .i64 c.kind, .int .i64 c.node, .int .i64 c.dir, .str c.name, .int .i64 c.to, .str c.other, .int .i64 c.over]
theorem er_chC (c : Ch) : AV.erL (chC c) = chC c := rfl
theorem clL_chC (n : Nat) (c : Ch) : AV.clL n (chC c) := ⟨trivial, trivial, trivial, trivial, trivial, trivial, trivial, trivial⟩
theorem chC_len (c : Ch) : (chC c).length = 7 := rfl
theorem chC_0 (c : Ch) : (chC c)[0]? = some (.int .i64 c.kind) := rfl
theorem chC_1 (c : Ch) : (chC c)[1]? = some (.int .i64 c.node) := rfl
theorem chC_2 (c : Ch) : (chC c)[2]? = some (.int .i64 c.dir) := rfl
theorem chC_3 (c : Ch) : (chC c)[3]? = some (.str c.name) := rfl
theorem chC_4 (c : Ch) : (chC c)[4]? = some (.int .i64 c.to) := rfl
theorem chC_5 (c : Ch) : (chC c)[5]? = some (.str c.other) := rfl
theorem chC_6 (c : Ch) : (chC c)[6]? = some (.int .i64 c.over) := rfl
theorem chTake (c : Ch) : (chC c).take 7 = chC c := rfl
theorem chPut (a b c d e f g : AV) (x : Ch) : putAt [a, b, c, d, e, f, g] 0 (chC x) = chC x := rfl
theorem chPut' (x y : Ch) : putAt (chC x) 0 (chC y) = chC y := rfl
attribute [push_cast] chC_len chC_0 chC_1 chC_2 chC_3 chC_4 chC_5 chC_6 chTake chPut chPut'
def chK (k : Int) : Ch := ⟨k, 0, 0, [], 0, [], 0⟩
def asAttr (a b : Nd) : Nd := ⟨a.kind, b.mode, b.uid, b.gid, a.data, a.ents, a.target⟩
def asData (a b : Nd) : Nd := ⟨a.kind, b.mode, a.uid, a.gid, b.data, a.ents, a.target⟩
theorem asAttr_ok {a b : Nd} (h : NdOk a) : NdOk (asAttr a b) := ⟨h.1, h.2.1, h.2.2.1, h.2.2.2⟩
theorem asData_ok {a b : Nd} (h : NdOk a) (hb : NdOk b) : NdOk (asData a b) := ⟨hb.1, h.2.1, h.2.2.1, h.2.2.2⟩
def aloneF (i : Int) (a b : Nd) : Ch := bif sameF (asAttr a b) b then ⟨1, i, 0, [], 0, [], 0⟩ else bif decide (a.kind = 1) && sameF (asData a b) b then ⟨2, i, 0, [], 0, [], 0⟩ else chK 7
def sV (o : List Int) : AV := .slice (o.map iV) .none
theorem getD_sV {l : List (List Int)} {i : Nat} {d : AV} (h : i < l.length) : (l.map sV).getD i d = .slice ((l.getD i []).map iV) .none := by
  simp [List.getD_eq_getElem?_getD, h, sV]
attribute [push_cast] getD_sV
theorem clL_sV (n : Nat) (l : List (List Int)) : AV.clL n (l.map sV) := by
  rw [AV.clL_mem]; intro x hx; obtain ⟨y, _, rfl⟩ := List.mem_map.1 hx; exact clL_iV _ _
def ownK (l : List Int) (os : List (List Int)) : Bool := decide ((l.length : Int) = 1) && !(os.any fun o => decide (0 < (o.length : Int)))

attribute [push_cast] er_chC clL_chC clL_sV

theorem c69 (i : Int) (a b : Nd) (h : List Blk) (live : List Nat) (ha : NdOk a) (hb : NdOk b) : ACalls Tryz.prog 69 [.int .i64 i, .agg (ndC a), .agg (ndC b)] h live (ret (.agg (chC (aloneF i a b))) h live) := by
  refine ab_ Tryz.func69 (hw := fun hH hX => ?_)
  have sx := sx0
  refine rg_ [0, 4, 5, 6] ?_
  refine rg_ [0, 4, 5, 6, 7] ?_
  refine rsq_ [0, 4, 5, 6, 7] ⟨false, [(h.length + 1, 1, .one), (h.length + 1, 2, .one), (h.length + 1, 3, .one)], [10, 12, 14], [15, 16, 17], [], [], 0⟩ (fun _ => ⟨by kernel_rfl, by kernel_rfl⟩) ?_
  refine sg_ ?_
  refine dawp_f rfl rfl (by simp (disch := omega) only [push_cast, ↓reduceIte, Nat.reduceEqDiff, Nat.reduceAdd, Nat.reduceLeDiff, sx]; first | rfl | (simp; rfl)) rfl rfl ?_
  refine sg_ ?_
  refine dawp_f rfl rfl (by simp (disch := omega) only [push_cast, ↓reduceIte, Nat.reduceEqDiff, Nat.reduceAdd, Nat.reduceLeDiff, sx]; first | rfl | (simp; rfl)) rfl rfl ?_
  refine sg_ ?_
  refine dawp_f rfl rfl (by simp (disch := omega) only [push_cast, ↓reduceIte, Nat.reduceEqDiff, Nat.reduceAdd, Nat.reduceLeDiff, sx]; first | rfl | (simp; rfl)) rfl rfl ?_
  refine sg_ ?_
  refine dawp_gs rfl rfl (by (simp (disch := omega) only [push_cast, ↓reduceIte, Nat.reduceEqDiff, Nat.reduceAdd, Nat.reduceLeDiff, sx]) <;> rfl) rfl (by exact stab.cons (by simp (disch := omega) only [push_cast, ↓reduceIte, Nat.reduceEqDiff, Nat.reduceAdd, Nat.reduceLeDiff, sx]) (stab.cons (by simp (disch := omega) only [push_cast, ↓reduceIte, Nat.reduceEqDiff, Nat.reduceAdd, Nat.reduceLeDiff, sx]) (stab.cons (by simp (disch := omega) only [push_cast, ↓reduceIte, Nat.reduceEqDiff, Nat.reduceAdd, Nat.reduceLeDiff, sx]) (stab.nil)))) ?_
  refine sg_ ?_
  refine dawp_gs rfl rfl (by (simp (disch := omega) only [push_cast, ↓reduceIte, Nat.reduceEqDiff, Nat.reduceAdd, Nat.reduceLeDiff, sx]) <;> rfl) rfl (by exact stab.cons (by simp (disch := omega) only [push_cast, ↓reduceIte, Nat.reduceEqDiff, Nat.reduceAdd, Nat.reduceLeDiff, sx]) (stab.cons (by simp (disch := omega) only [push_cast, ↓reduceIte, Nat.reduceEqDiff, Nat.reduceAdd, Nat.reduceLeDiff, sx]) (stab.cons (by simp (disch := omega) only [push_cast, ↓reduceIte, Nat.reduceEqDiff, Nat.reduceAdd, Nat.reduceLeDiff, sx]) (stab.nil)))) ?_
  refine sg_ ?_
  refine dawp_gs rfl rfl (by (simp (disch := omega) only [push_cast, ↓reduceIte, Nat.reduceEqDiff, Nat.reduceAdd, Nat.reduceLeDiff, sx]) <;> rfl) rfl (by exact stab.cons (by simp (disch := omega) only [push_cast, ↓reduceIte, Nat.reduceEqDiff, Nat.reduceAdd, Nat.reduceLeDiff, sx]) (stab.cons (by simp (disch := omega) only [push_cast, ↓reduceIte, Nat.reduceEqDiff, Nat.reduceAdd, Nat.reduceLeDiff, sx]) (stab.cons (by simp (disch := omega) only [push_cast, ↓reduceIte, Nat.reduceEqDiff, Nat.reduceAdd, Nat.reduceLeDiff, sx]) (stab.nil)))) ?_
  refine re_ ?_
  refine sk_ fun K1 hK1 => ?_
  refine rs_ [0, 4, 5, 6, 7, 20] ?_
  refine sg_ ?_
  refine cl_ (hc := c21 (asAttr a b) b _ _ (asAttr_ok ha) hb) (k := ?_)
  refine re_ ?_
  refine cb_ (ht := fun hb1 => ?_) (hf := fun hb1 => ?_)
  · refine rg_ [6] ?_
    refine awp_ret (up_ ?_)
    refine fp_ Tryz.results69 (hcl := (by simp [AV.cl, AV.clL])) (hK := ?_)
    exact ⟨by unfold aloneF; rw [hb1]; rfl, rfl, rfl⟩
  refine awp_skip (up_ ?_)
  refine hK1 _ ?_
  refine rg_ [0, 4, 5, 6, 7] ?_
  refine rsq_ [0, 4, 5, 6, 7] ⟨false, [(h.length + 1, 1, .one), (h.length + 1, 4, .one)], [25, 27], [28, 29], [], [], 0⟩ (fun _ => ⟨by kernel_rfl, by kernel_rfl⟩) ?_
  refine sg_ ?_
  refine dawp_f rfl rfl (by simp (disch := omega) only [push_cast, ↓reduceIte, Nat.reduceEqDiff, Nat.reduceAdd, Nat.reduceLeDiff, sx]; first | rfl | (simp; rfl)) rfl rfl ?_
  refine sg_ ?_
  refine dawp_f rfl rfl (by simp (disch := omega) only [push_cast, ↓reduceIte, Nat.reduceEqDiff, Nat.reduceAdd, Nat.reduceLeDiff, sx]; first | rfl | (simp; rfl)) rfl rfl ?_
  refine sg_ ?_
  refine dawp_gs rfl rfl (by (simp (disch := omega) only [push_cast, ↓reduceIte, Nat.reduceEqDiff, Nat.reduceAdd, Nat.reduceLeDiff, sx]) <;> rfl) rfl (by exact stab.cons (by simp (disch := omega) only [push_cast, ↓reduceIte, Nat.reduceEqDiff, Nat.reduceAdd, Nat.reduceLeDiff, sx]) (stab.cons (by simp (disch := omega) only [push_cast, ↓reduceIte, Nat.reduceEqDiff, Nat.reduceAdd, Nat.reduceLeDiff, sx]) (stab.nil))) ?_
  refine sg_ ?_
  refine dawp_gs rfl rfl (by (simp (disch := omega) only [push_cast, ↓reduceIte, Nat.reduceEqDiff, Nat.reduceAdd, Nat.reduceLeDiff, sx]) <;> rfl) rfl (by exact stab.cons (by simp (disch := omega) only [push_cast, ↓reduceIte, Nat.reduceEqDiff, Nat.reduceAdd, Nat.reduceLeDiff, sx]) (stab.cons (by simp (disch := omega) only [push_cast, ↓reduceIte, Nat.reduceEqDiff, Nat.reduceAdd, Nat.reduceLeDiff, sx]) (stab.nil))) ?_
  refine re_ ?_
  refine sk_ fun K2 hK2 => ?_
  refine rs_ [0, 6, 37] ?_
  refine sg_ ?_
  refine cg_ (hc := fun hg => c21 (asData a b) b _ _ (asData_ok ha hb) hb) (k := ?_)
  refine sg_ ?_
  refine re_ ?_
  refine cb_ (ht := fun hb2 => ?_) (hf := fun hb2 => ?_)
  · refine rg_ [6] ?_
    refine awp_ret (up_ ?_)
    refine fp_ Tryz.results69 (hcl := (by simp [AV.cl, AV.clL])) (hK := ?_)
    exact ⟨by unfold aloneF; rw [hb1, hb2]; rfl, rfl, rfl⟩
  refine awp_skip (up_ ?_)
  refine hK2 _ ?_
  refine rg_ [6] ?_
  refine awp_ret (up_ ?_)
  refine fp_ Tryz.results69 (hcl := (by simp [AV.cl, AV.clL])) (hK := ?_)
  exact ⟨by unfold aloneF; rw [hb1, hb2]; rfl, rfl, rfl⟩

theorem c119 (l : List (List Int)) (c : Cap) (f : FuncId) (p : List Int → Bool) (h : List Blk) (live : List Nat) (hl : l.length ≤ 1000000000) (hp : ∀ e, ACalls Tryz.prog f [.slice (e.map iV) .none] h live (ret (.bool (p e)) h live)) : ACalls Tryz.prog 119 [.slice (l.map sV) c, .fn (.func f) [] []] h live (ret (.int .i64 (idxP p l)) h live) := by
  refine ab_ Tryz.func119 (hw := fun hH hX => ?_)
  have sx := sx0
  refine rg_ [0, 1] ?_
  refine sk_ fun K1 hK1 => ?_
  refine rg_ [0, 1, 7, 8] ?_
  refine awp_block ?_
  refine awp_loop' (X := {i : Nat // i ≤ l.length ∧ ∀ j, j < i → p (l.getD j []) = false}) (fun x => ⟨Tryz.f119.ntmps, fget [(0, .slice (l.map sV) c), (1, .fn (.func f) [] []), (7, .int .i64 l.length), (8, .int .i64 (x.1 : Nat))], h, live⟩) (fun x => l.length - x.1) (⟨0, by omega, fun j hj => by omega⟩) ?_ (by first | rfl | simp only [List.length_set]) (fun ⟨i, hi, hn⟩ => ?_)
  · try dsimp only
    refine Trunc.of (by first | exact (List.append_nil _).symm | exact rfl | (rw [List.append_assoc]; rfl)) ?_ hH (fun _ h => h)
    refine FTr.cons (by first | rfl | ((simp (disch := omega) only [push_cast, ↓reduceIte, Nat.reduceEqDiff, Nat.reduceAdd, Nat.reduceLeDiff, sx]) <;> rfl)) (by first | simp [AV.cl, AV.clL, clL_sV, -List.map_map]) ?_
    refine FTr.cons (by first | rfl | ((simp (disch := omega) only [push_cast, ↓reduceIte, Nat.reduceEqDiff, Nat.reduceAdd, Nat.reduceLeDiff, sx]) <;> rfl)) (by first | simp [AV.cl, AV.clL, clL_sV, -List.map_map]) ?_
    refine FTr.cons (by first | rfl | ((simp (disch := omega) only [push_cast, ↓reduceIte, Nat.reduceEqDiff, Nat.reduceAdd, Nat.reduceLeDiff, sx]) <;> rfl)) (by first | simp [AV.cl, AV.clL, clL_sV, -List.map_map]) ?_
    refine FTr.cons (by first | rfl | ((simp (disch := omega) only [push_cast, ↓reduceIte, Nat.reduceEqDiff, Nat.reduceAdd, Nat.reduceLeDiff, sx]) <;> rfl)) (by first | simp [AV.cl, AV.clL, clL_sV, -List.map_map]) ?_
    exact FTr.nil
  try dsimp only
  refine rg_ [0, 1, 7, 8, 9] ?_
  refine sk_ fun K2 hK2 => ?_
  refine cd_ (ht := fun hb1 => ?_) (hf := fun hb1 => ?_)
  rotate_left
  · have hx := idxP_none (p := p) [] (l := l) fun j hj => hn j (by omega)
    refine awp_exit (up_ ?_)
    refine hK1 _ ?_
    refine rg_ [4] ?_
    refine awp_ret (up_ ?_)
    refine fp_ Tryz.results119 (hK := ?_)
    refine ⟨?_, rfl, rfl⟩
    rw [hx]
  have hil : i < l.length := by omega
  refine awp_skip (up_ ?_)
  refine hK2 _ ?_
  refine sk_ fun K3 hK3 => ?_
  refine awp_block ?_
  refine rg_ [0, 1, 5, 7, 8] ?_
  refine rs_ [0, 1, 5, 7, 8, 16] ?_
  refine sg_ ?_
  refine cl_ (hc := hp (l.getD i [])) (k := ?_)
  refine re_ ?_
  refine cb_ (ht := fun hb2 => ?_) (hf := fun hb2 => ?_)
  · have hx := idxP_at (p := p) [] (l := l) (i := i) (by omega) hb2 hn
    refine rg_ [4] ?_
    refine awp_ret (up_ ?_)
    refine fp_ Tryz.results119 (hK := ?_)
    refine ⟨?_, rfl, rfl⟩
    rw [hx]
  refine awp_skip (up_ ?_)
  refine hK3 _ ?_
  refine rt_ [0, 1, 7, 8] ?_
  refine sg_ ?_
  refine rn_ (up_ ?_)
  refine ⟨⟨i + 1, by omega, fun j hj => by rcases Nat.lt_succ_iff_lt_or_eq.1 hj with h | h; exact hn j h; subst h; exact hb2⟩, ?_, (by first | rfl | trivial | (simp only [List.length_set]; done) | simp), by dsimp only; omega⟩
  try dsimp only
  refine Trunc.of (by first | exact (List.append_nil _).symm | exact rfl | (rw [List.append_assoc]; rfl)) ?_ hH (fun _ h => h)
  refine FTr.cons (by (simp (disch := omega) only [push_cast, ↓reduceIte, Nat.reduceEqDiff, Nat.reduceAdd, Nat.reduceLeDiff, sx]) <;> first | rfl | (congr 2; omega)) (by first | simp [AV.cl, AV.clL, clL_sV, -List.map_map]) ?_
  refine FTr.cons (by (simp (disch := omega) only [push_cast, ↓reduceIte, Nat.reduceEqDiff, Nat.reduceAdd, Nat.reduceLeDiff, sx]) <;> first | rfl | (congr 2; omega)) (by first | simp [AV.cl, AV.clL, clL_sV, -List.map_map]) ?_
  refine FTr.cons (by (simp (disch := omega) only [push_cast, ↓reduceIte, Nat.reduceEqDiff, Nat.reduceAdd, Nat.reduceLeDiff, sx]) <;> first | rfl | (congr 2; omega)) (by first | simp [AV.cl, AV.clL, clL_sV, -List.map_map]) ?_
  refine FTr.cons (by (simp (disch := omega) only [push_cast, ↓reduceIte, Nat.reduceEqDiff, Nat.reduceAdd, Nat.reduceLeDiff, sx]) <;> first | rfl | (congr 2; omega)) (by first | simp [AV.cl, AV.clL, clL_sV, -List.map_map]) ?_
  exact FTr.nil

theorem c97 (l : List (List Int)) (c : Cap) (f : FuncId) (p : List Int → Bool) (h : List Blk) (live : List Nat) (hl : l.length ≤ 1000000000) (hp : ∀ e, ACalls Tryz.prog f [.slice (e.map iV) .none] h live (ret (.bool (p e)) h live)) : ACalls Tryz.prog 97 [.slice (l.map sV) c, .fn (.func f) [] []] h live (ret (.bool (l.any p)) h live) := by
  refine ab_ Tryz.func97 (hw := fun hH hX => ?_)
  have sx := (And.intro @idxP_any sx0)
  refine rg_ [0, 1] ?_
  refine rs_ [4] ?_
  refine sg_ ?_
  refine cl_ (hc := c119 l _ f p _ _ hl hp) (k := ?_)
  refine sg_ ?_
  refine re_ ?_
  refine awp_ret (up_ ?_)
  refine fp_ Tryz.results97 (hK := ?_)
  exact ⟨rfl, rfl, rfl⟩

theorem c98 (o : List Int) (h : List Blk) (live : List Nat) : ACalls Tryz.prog 98 [.slice (o.map iV) .none] h live (ret (.bool (decide (0 < (o.length : Int)))) h live) := by
  refine ab_ Tryz.func98 (hw := fun hH hX => ?_)
  have sx := sx0
  refine rg_ [0] ?_
  refine rg_ [2] ?_
  refine awp_ret (up_ ?_)
  refine fp_ Tryz.results98 (hK := ?_)
  exact ⟨rfl, rfl, rfl⟩

theorem c70 (l : List Int) (os : List (List Int)) (q r : Cap) (h : List Blk) (live : List Nat) (hl : os.length ≤ 1000) : ACalls Tryz.prog 70 [.slice (l.map iV) q, .slice (os.map sV) r] h live (ret (.bool (ownK l os)) h live) := by
  refine ab_ Tryz.func70 (hw := fun hH hX => ?_)
  have sx := sx0
  refine rg_ [0, 1] ?_
  refine rs_ [4] ?_
  refine sg_ ?_
  refine cg_ (hc := fun hg => c97 os _ 98 (fun o => decide (0 < (o.length : Int))) _ _ (by omega) (fun e => c98 e _ _)) (k := ?_)
  refine sg_ ?_
  refine re_ ?_
  refine awp_ret (up_ ?_)
  refine fp_ Tryz.results70 (hK := ?_)
  exact ⟨rfl, rfl, rfl⟩


def stepM (w : Ey) (m : Ch) (l : Ey) : Option Ch :=
  bif decide (l.2.2 = w.2.2) && decide (m.dir = 0) then some ⟨m.kind, m.node, l.1, l.2.1, m.to, m.other, m.over⟩
  else bif decide (l.1 = w.1) && decide (l.2.1 = w.2.1) && decide (m.over = 0) then some ⟨m.kind, m.node, m.dir, m.name, m.to, m.other, l.2.2⟩
  else none
def loopM (w : Ey) : List Ey → Ch → Option Ch
  | [], m => some m
  | l :: r, m => match stepM w m l with
    | some m' => loopM w r m'
    | none => none
theorem loopM_get {w : Ey} {l : List Ey} {i : Nat} (hi : i < l.length) (m : Ch) : loopM w (l.drop i) m = match stepM w m (l.getD i ey0) with | some m' => loopM w (l.drop (i + 1)) m' | none => none := by
  rw [List.drop_eq_getElem_cons hi]
  simp only [loopM, List.getD_eq_getElem?_getD, List.getElem?_eq_getElem hi, Option.getD_some]
def m0 (w : Ey) : Ch := ⟨5, w.2.2, 0, [], w.1, w.2.1, 0⟩
def movedF (D : Df) : Ch := match loopM (D.won.getD 0 ey0) D.lost (m0 (D.won.getD 0 ey0)) with
  | none => chK 7
  | some m => bif decide (m.dir = 0) || (decide (0 < ((D.b 1).length : Int)) && (decide (m.over = 0) || !ownK (D.b 1) [] || !decide ((D.b 1).getD 0 0 = m.over))) then chK 7 else m
def dfV (D : Df) : AV := .agg (dfC D fun _ => .none)

theorem c71 (D : Df) (h : List Blk) (live : List Nat) (hw : 0 < D.won.length) (hwl : D.won.length ≤ 1000000) (hl : D.lost.length ≤ 1000000) (hb : (D.b 1).length ≤ 1000) : ACalls Tryz.prog 71 [.agg (dfC D fun _ => .none)] h live (ret (.agg (chC (movedF D))) h live) := by
  refine ab_ Tryz.func71 (hw := fun hH hX => ?_)
  have hB : ∀ m, HCl (h ++ [.cells (dfC D fun _ => .none), .cells [.int .i64 0, .int .i64 0, .int .i64 0, .str [], .int .i64 0, .str [], .int .i64 0], .cells [.int .i64 (D.won.getD 0 ey0).1, .str (D.won.getD 0 ey0).2.1, .int .i64 (D.won.getD 0 ey0).2.2], .cells (chC m)]) := fun m => by
    have := HCl.snoc (HCl.snoc (HCl.snoc (HCl.snoc (b := .cells (dfC D (fun _ => Cap.none))) hH (clL_dfC _ D (fun _ => Cap.none))) (b := .cells [.int .i64 0, .int .i64 0, .int .i64 0, .str [], .int .i64 0, .str [], .int .i64 0]) (by simp [Blk.cl, AV.clL, AV.cl])) (b := .cells [.int .i64 (D.won.getD 0 ey0).1, .str (D.won.getD 0 ey0).2.1, .int .i64 (D.won.getD 0 ey0).2.2]) (by simp [Blk.cl, AV.clL, AV.cl])) (b := .cells (chC m)) (clL_chC _ _)
    rw [List.append_assoc, List.append_assoc, List.append_assoc] at this; exact this
  have sx := (And.intro @Bool.true_and sx0)
  refine rg_ [1, 2] ?_
  refine rg_ [1, 2, 3] ?_
  refine rg_ [1, 2, 3, 4] ?_
  refine sk_ fun K1 hK1 => ?_
  refine rg_ [1, 2, 3, 4, 21, 22, 23] ?_
  refine awp_block ?_
  refine awp_loop' (X := {p : Nat × Ch // p.1 ≤ D.lost.length ∧ loopM (D.won.getD 0 ey0) D.lost (m0 (D.won.getD 0 ey0)) = loopM (D.won.getD 0 ey0) (D.lost.drop p.1) p.2}) (fun x => ⟨Tryz.f71.ntmps, fget [(1, .ptr h.length 0), (2, .ptr (h.length + 1) 0), (3, .ptr (h.length + 2) 0), (4, .ptr (h.length + 3) 0), (21, .slice (D.lost.map yV) .none), (22, .int .i64 D.lost.length), (23, .int .i64 (x.1.1 : Nat))], h ++ [.cells (dfC D fun _ => .none), .cells [.int .i64 0, .int .i64 0, .int .i64 0, .str [], .int .i64 0, .str [], .int .i64 0], .cells [.int .i64 (D.won.getD 0 ey0).1, .str (D.won.getD 0 ey0).2.1, .int .i64 (D.won.getD 0 ey0).2.2], .cells (chC x.1.2)], live⟩) (fun x => D.lost.length - x.1.1) (⟨⟨0, m0 (D.won.getD 0 ey0)⟩, Nat.zero_le _, rfl⟩) ?_ (by first | rfl | simp only [List.length_set]) (fun ⟨⟨i, m⟩, hi, hm⟩ => ?_)
  · try dsimp only
    exact tf_ (hB _) (fun _ h => h)
  try dsimp only
  dsimp only at hi hm
  refine rg_ [1, 2, 3, 4, 21, 22, 23, 24] ?_
  refine sk_ fun K2 hK2 => ?_
  refine cd_ (ht := fun hb1 => ?_) (hf := fun hb1 => ?_)
  rotate_left
  · have hie : i = D.lost.length := by omega
    subst hie
    have hfin : loopM (D.won.getD 0 ey0) D.lost (m0 (D.won.getD 0 ey0)) = some m := by rw [hm, List.drop_length]; rfl
    refine awp_exit (up_ ?_)
    refine hK1 _ ?_
    refine sk_ fun K3 hK3 => ?_
    refine rsq_ [2, 4, 104] ⟨true, [], [], [], [], [], 0⟩ (fun _ => ⟨by kernel_rfl, by kernel_rfl⟩) ?_
    refine sg_ ?_
    refine cg_ (hc := fun hg => c70 (D.b 1) [] _ _ _ _ (by simp)) (k := ?_)
    refine sg_ ?_
    refine re_ ?_
    refine cb_ (ht := fun hb4 => ?_) (hf := fun hb4 => ?_)
    · refine rg_ [2] ?_
      refine awp_ret (up_ ?_)
      refine fp_ Tryz.results71 (hx := by (simp only [atuple, AV.er, AV.erL, push_cast, er_chC]) <;> rfl) (hcl := (by simp [AV.cl, AV.clL, clL_chC])) (hK := ?_)
      exact ⟨by unfold movedF; rw [hfin]; simp only []; rw [hb4]; rfl, rfl, rfl⟩
    refine awp_skip (up_ ?_)
    refine hK3 _ ?_
    refine rg_ [2] ?_
    refine awp_ret (up_ ?_)
    refine fp_ Tryz.results71 (hx := by (simp only [atuple, AV.er, AV.erL, push_cast, er_chC]) <;> rfl) (hcl := (by simp [AV.cl, AV.clL, clL_chC])) (hK := ?_)
    exact ⟨by unfold movedF; rw [hfin]; simp only []; rw [hb4]; rfl, rfl, rfl⟩
  have hil : i < D.lost.length := by omega
  refine awp_skip (up_ ?_)
  refine hK2 _ ?_
  refine sk_ fun K4 hK4 => ?_
  refine awp_block ?_
  refine rg_ [1, 2, 3, 4, 6, 21, 22, 23] ?_
  refine awp_block ?_
  refine rg_ [1, 2, 3, 4, 6, 21, 22, 23, 28] ?_
  refine cb_ (ht := fun hb2 => ?_) (hf := fun hb2 => ?_)
  · have hst : stepM (D.won.getD 0 ey0) m (D.lost.getD i ey0) = some ⟨m.kind, m.node, (D.lost.getD i ey0).1, (D.lost.getD i ey0).2.1, m.to, m.other, m.over⟩ := by unfold stepM; rw [hb2]; rfl
    refine rtq_ [1, 2, 3, 4, 21, 22, 23] ⟨false, [(h.length + 4, 0, .one), (h.length + 4, 1, .one)], [42, 45], [46, 47], [], [], 0⟩ (fun _ => ⟨by kernel_rfl, by kernel_rfl⟩) ?_
    refine sg_ ?_
    refine dawp_f rfl rfl (by simp (disch := omega) only [push_cast, ↓reduceIte, Nat.reduceEqDiff, Nat.reduceAdd, Nat.reduceLeDiff, sx]; first | rfl | (simp; rfl)) rfl rfl ?_
    refine sg_ ?_
    refine dawp_f rfl rfl (by simp (disch := omega) only [push_cast, ↓reduceIte, Nat.reduceEqDiff, Nat.reduceAdd, Nat.reduceLeDiff, sx]; first | rfl | (simp; rfl)) rfl rfl ?_
    refine sg_ ?_
    refine dawp_gs rfl rfl (by (simp (disch := omega) only [push_cast, ↓reduceIte, Nat.reduceEqDiff, Nat.reduceAdd, Nat.reduceLeDiff, sx]) <;> rfl) rfl (by exact stab.cons (by simp (disch := omega) only [push_cast, ↓reduceIte, Nat.reduceEqDiff, Nat.reduceAdd, Nat.reduceLeDiff, sx]) (stab.cons (by simp (disch := omega) only [push_cast, ↓reduceIte, Nat.reduceEqDiff, Nat.reduceAdd, Nat.reduceLeDiff, sx]) (stab.nil))) ?_
    refine sg_ ?_
    refine dawp_gs rfl rfl (by (simp (disch := omega) only [push_cast, ↓reduceIte, Nat.reduceEqDiff, Nat.reduceAdd, Nat.reduceLeDiff, sx]) <;> rfl) rfl (by exact stab.cons (by simp (disch := omega) only [push_cast, ↓reduceIte, Nat.reduceEqDiff, Nat.reduceAdd, Nat.reduceLeDiff, sx]) (stab.cons (by simp (disch := omega) only [push_cast, ↓reduceIte, Nat.reduceEqDiff, Nat.reduceAdd, Nat.reduceLeDiff, sx]) (stab.nil))) ?_
    refine rn_ (up_ ?_)
    refine hK4 _ ?_
    refine rt_ [1, 2, 3, 4, 21, 22, 23] ?_
    refine sg_ ?_
    refine rn_ (up_ ?_)
    refine ⟨⟨⟨i + 1, ⟨m.kind, m.node, (D.lost.getD i ey0).1, (D.lost.getD i ey0).2.1, m.to, m.other, m.over⟩⟩, by dsimp only; omega, by rw [hm, loopM_get hil, hst]⟩, ?_, (by first | rfl | trivial | (simp only [List.length_set]; done) | simp), by dsimp only; omega⟩
    try dsimp only
    exact tf_ (hB _) (fun _ h => h)
  refine rg_ [1, 2, 3, 4, 6, 21, 22, 23, 48] ?_
  refine cb_ (ht := fun hb3 => ?_) (hf := fun hb3 => ?_)
  rotate_left
  · have hst : stepM (D.won.getD 0 ey0) m (D.lost.getD i ey0) = none := by unfold stepM; rw [hb2, hb3]; rfl
    have hfin : loopM (D.won.getD 0 ey0) D.lost (m0 (D.won.getD 0 ey0)) = none := by rw [hm, loopM_get hil, hst]
    refine rg_ [2] ?_
    refine awp_ret (up_ ?_)
    refine fp_ Tryz.results71 (hx := by (simp only [atuple, AV.er, AV.erL, push_cast, er_chC]) <;> rfl) (hcl := (by simp [AV.cl, AV.clL, clL_chC])) (hK := ?_)
    exact ⟨by unfold movedF; rw [hfin]; rfl, rfl, rfl⟩
  have hst : stepM (D.won.getD 0 ey0) m (D.lost.getD i ey0) = some ⟨m.kind, m.node, m.dir, m.name, m.to, m.other, (D.lost.getD i ey0).2.2⟩ := by unfold stepM; rw [hb2, hb3]; rfl
  refine rt_ [1, 2, 3, 4, 21, 22, 23] ?_
  refine sg_ ?_
  refine rn_ (up_ ?_)
  refine hK4 _ ?_
  refine rt_ [1, 2, 3, 4, 21, 22, 23] ?_
  refine sg_ ?_
  refine rn_ (up_ ?_)
  refine ⟨⟨⟨i + 1, ⟨m.kind, m.node, m.dir, m.name, m.to, m.other, (D.lost.getD i ey0).2.2⟩⟩, by dsimp only; omega, by rw [hm, loopM_get hil, hst]⟩, ?_, (by first | rfl | trivial | (simp only [List.length_set]; done) | simp), by dsimp only; omega⟩
  try dsimp only
  exact tf_ (hB _) (fun _ h => h)


def sumI (D : Df) : Nat → Int
  | 0 => 0
  | k + 1 => sumI D k + ((D.b k).length : Int)
theorem sumI_bd {D : Df} (h : ∀ k, (D.b k).length ≤ 24) : ∀ k, 0 ≤ sumI D k ∧ sumI D k ≤ 24 * (k : Int)
  | 0 => ⟨Int.le_refl _, Int.le_refl _⟩
  | k + 1 => by
    have := sumI_bd h k
    have := h k
    show 0 ≤ sumI D k + ((D.b k).length : Int) ∧ sumI D k + ((D.b k).length : Int) ≤ 24 * ((k + 1 : Nat) : Int)
    omega
theorem sumI_succ (D : Df) (k : Nat) : sumI D k + ((D.b k).length : Int) = sumI D (k + 1) := rfl
theorem rg4 {α : Type} (f : Nat → α) {i : Nat} (h : i < 4) : (List.map f (List.range 4))[i * 1]? = some (f i) := by
  rw [Nat.mul_one, List.getElem?_map, List.getElem?_range h]; rfl
def chF (D : Df) (Ta Tb : Tab) : Ch :=
  bif decide (sumI D 4 = 0) then chK 0
  else bif decide (0 < ((D.b 3).length : Int)) then (bif decide (1 < sumI D 4) then chK 7 else aloneF ((D.b 3).getD 0 0) (Ta.get ((D.b 3).getD 0 0)).1 (Tb.get ((D.b 3).getD 0 0)).1)
  else bif decide (0 < ((D.b 0).length : Int)) then (bif ownK (D.b 0) [D.b 1] && decide ((D.lost.length : Int) = 0) && decide ((D.won.length : Int) = 1) && decide ((D.won.getD 0 ey0).2.2 = (D.b 0).getD 0 0) then ⟨3, (D.won.getD 0 ey0).2.2, (D.won.getD 0 ey0).1, (D.won.getD 0 ey0).2.1, 0, [], 0⟩ else chK 7)
  else bif ownK (D.b 1) [D.b 2] then ⟨6, (D.b 1).getD 0 0, 0, [], 0, [], 0⟩
  else bif decide ((D.lost.length : Int) = 1) && decide ((D.won.length : Int) = 0) then (bif decide (((D.b 1).length : Int) = 0) || (ownK (D.b 1) [] && decide ((D.b 1).getD 0 0 = (D.lost.getD 0 ey0).2.2)) then ⟨4, (D.lost.getD 0 ey0).2.2, (D.lost.getD 0 ey0).1, (D.lost.getD 0 ey0).2.1, 0, [], 0⟩ else chK 7)
  else bif decide ((D.won.length : Int) = 1) then movedF D else chK 7
theorem ownK_len {l : List Int} {os : List (List Int)} (h : ownK l os = true) : l.length = 1 := by
  unfold ownK at h
  simp only [Bool.and_eq_true, decide_eq_true_eq] at h
  omega
def chOf (Ta Tb : Tab) : Ch := chF (dfN Ta Tb 24) Ta Tb

theorem c41 (Ta Tb : Tab) (ka kb : Nat) (h : List Blk) (live : List Nat) (hka : h[ka]? = some (tabBlk Ta)) (hkb : h[kb]? = some (tabBlk Tb)) (hTa : Ta.Ok) (hTb : Tb.Ok) : ACalls Tryz.prog 41 [.ptr ka 0, .ptr kb 0] h live (ret (.agg (chC (chOf Ta Tb))) h live) := by
  refine ab_ Tryz.func41 (hw := fun hH hX => ?_)
  have hal := lt_of_get hka
  have hbl := lt_of_get hkb
  obtain ⟨hlb, hll, hlw⟩ := dfN_len hTa hTb 24
  have hl0 := hlb 0
  have hl1 := hlb 1
  have hl2 := hlb 2
  have hl3 := hlb 3
  have hB : HCl (h ++ [.cells [.int .i64 0, .int .i64 0, .int .i64 0, .str [], .int .i64 0, .str [], .int .i64 0], .cells (dfC (dfN Ta Tb 24) fun _ => .none)]) := by
    have := HCl.snoc (HCl.snoc (b := .cells [.int .i64 0, .int .i64 0, .int .i64 0, .str [], .int .i64 0, .str [], .int .i64 0]) hH (by simp [Blk.cl, AV.clL, AV.cl])) (b := .cells (dfC (dfN Ta Tb 24) (fun _ => Cap.none))) (clL_dfC _ (dfN Ta Tb 24) (fun _ => Cap.none))
    rw [List.append_assoc] at this; exact this
  have sx := (And.intro @rg4 (And.intro @Bool.true_and sx0))
  refine rg_ [0, 1, 4] ?_
  refine rs_ [0, 1, 4, 5] ?_
  refine sg_ ?_
  refine cl_ (hc := c68 Ta Tb ka kb _ _ (atApp hka) (atApp hkb) hTa hTb) (k := ?_)
  refine sg_ ?_
  refine re_ ?_
  refine rg_ [0, 1, 4, 5, 6] ?_
  refine sk_ fun K1 hK1 => ?_
  refine rg_ [0, 1, 4, 5, 6, 19, 20] ?_
  refine awp_block ?_
  refine awp_loop' (X := {i : Nat // i ≤ 4}) (fun x => ⟨Tryz.f41.ntmps, fget [(0, .ptr ka 0), (1, .ptr kb 0), (4, .ptr h.length 0), (5, .ptr (h.length + 1) 0), (6, .int .i64 (sumI (dfN Ta Tb 24) x.1)), (19, .agg ((List.range 4).map fun k => AV.slice (((dfN Ta Tb 24).b k).map iV) .none)), (20, .int .i64 (x.1 : Nat))], h ++ [.cells [.int .i64 0, .int .i64 0, .int .i64 0, .str [], .int .i64 0, .str [], .int .i64 0], .cells (dfC (dfN Ta Tb 24) fun _ => .none)], live⟩) (fun x => 4 - x.1) (⟨0, by omega⟩) ?_ (by first | rfl | simp only [List.length_set]) (fun ⟨i, hi⟩ => ?_)
  · try dsimp only
    refine Trunc.of (by first | exact (List.append_nil _).symm | exact rfl | (rw [List.append_assoc]; rfl)) ?_ hB (fun _ h => h)
    refine FTr.cons (by first | rfl | ((simp (disch := omega) only [push_cast, ↓reduceIte, Nat.reduceEqDiff, Nat.reduceAdd, Nat.reduceLeDiff, sx]) <;> rfl)) (by first | (simp [AV.cl, AV.clL, List.range, List.range.loop, clL_iV, -List.map_map]; done) | (simp [AV.cl, AV.clL]; try omega)) ?_
    refine FTr.cons (by first | rfl | ((simp (disch := omega) only [push_cast, ↓reduceIte, Nat.reduceEqDiff, Nat.reduceAdd, Nat.reduceLeDiff, sx]) <;> rfl)) (by first | (simp [AV.cl, AV.clL, List.range, List.range.loop, clL_iV, -List.map_map]; done) | (simp [AV.cl, AV.clL]; try omega)) ?_
    refine FTr.cons (by first | rfl | ((simp (disch := omega) only [push_cast, ↓reduceIte, Nat.reduceEqDiff, Nat.reduceAdd, Nat.reduceLeDiff, sx]) <;> rfl)) (by first | (simp [AV.cl, AV.clL, List.range, List.range.loop, clL_iV, -List.map_map]; done) | (simp [AV.cl, AV.clL]; try omega)) ?_
    refine FTr.cons (by first | rfl | ((simp (disch := omega) only [push_cast, ↓reduceIte, Nat.reduceEqDiff, Nat.reduceAdd, Nat.reduceLeDiff, sx]) <;> rfl)) (by first | (simp [AV.cl, AV.clL, List.range, List.range.loop, clL_iV, -List.map_map]; done) | (simp [AV.cl, AV.clL]; try omega)) ?_
    refine FTr.cons (by first | rfl | ((simp (disch := omega) only [push_cast, ↓reduceIte, Nat.reduceEqDiff, Nat.reduceAdd, Nat.reduceLeDiff, sx]) <;> rfl)) (by first | (simp [AV.cl, AV.clL, List.range, List.range.loop, clL_iV, -List.map_map]; done) | (simp [AV.cl, AV.clL]; try omega)) ?_
    refine FTr.cons (by first | rfl | ((simp (disch := omega) only [push_cast, ↓reduceIte, Nat.reduceEqDiff, Nat.reduceAdd, Nat.reduceLeDiff, sx]) <;> rfl)) (by first | (simp [AV.cl, AV.clL, List.range, List.range.loop, clL_iV, -List.map_map]; done) | (simp [AV.cl, AV.clL]; try omega)) ?_
    refine FTr.cons (by first | rfl | ((simp (disch := omega) only [push_cast, ↓reduceIte, Nat.reduceEqDiff, Nat.reduceAdd, Nat.reduceLeDiff, sx]) <;> rfl)) (by first | (simp [AV.cl, AV.clL, List.range, List.range.loop, clL_iV, -List.map_map]; done) | (simp [AV.cl, AV.clL]; try omega)) ?_
    exact FTr.nil
  try dsimp only
  have hsb := sumI_bd hlb i
  have hli := hlb i
  refine rg_ [0, 1, 4, 5, 6, 19, 20, 21] ?_
  refine sk_ fun K2 hK2 => ?_
  refine cd_ (ht := fun hb1 => ?_) (hf := fun hb1 => ?_)
  rotate_left
  · have hie : i = 4 := by omega
    subst hie
    refine awp_exit (up_ ?_)
    refine hK1 _ ?_
    refine sk_ fun K3 hK3 => ?_
    refine awp_block ?_
    refine rg_ [0, 1, 4, 5, 6, 28] ?_
    refine cb_ (ht := fun hb2 => ?_) (hf := fun hb2 => ?_)
    · refine rg_ [4] ?_
      refine awp_ret (up_ ?_)
      refine fp_ Tryz.results41 (hx := by (simp only [atuple, AV.er, AV.erL, push_cast, er_chC]) <;> rfl) (hcl := (by simp [AV.cl, AV.clL, clL_chC])) (hK := ?_)
      exact ⟨by unfold chOf chF; rw [hb2]; rfl, rfl, rfl⟩
    refine rg_ [0, 1, 4, 5, 6, 32] ?_
    refine cb_ (ht := fun hb3 => ?_) (hf := fun hb3 => ?_)
    · have hb3' := hb3
      simp only [decide_eq_true_eq] at hb3'
      refine sk_ fun K4 hK4 => ?_
      refine rg_ [0, 1, 4, 5, 39] ?_
      refine cb_ (ht := fun hb4 => ?_) (hf := fun hb4 => ?_)
      · refine awp_exit (up_ ?_)
        refine hK3 _ ?_
        refine rg_ [4] ?_
        refine awp_ret (up_ ?_)
        refine fp_ Tryz.results41 (hx := by (simp only [atuple, AV.er, AV.erL, push_cast, er_chC]) <;> rfl) (hcl := (by simp [AV.cl, AV.clL, clL_chC])) (hK := ?_)
        exact ⟨by unfold chOf chF; rw [hb2, hb3, hb4]; rfl, rfl, rfl⟩
      refine awp_skip (up_ ?_)
      refine hK4 _ ?_
      refine rg_ [0, 1, 4, 9] ?_
      refine rs_ [1, 4, 9, 10] ?_
      refine sg_ ?_
      refine cl_ (hc := c18 Ta ka _ _ _ (atApp hka) hTa) (k := ?_)
      refine sg_ ?_
      refine re_ ?_
      refine rs_ [4, 9, 10, 12] ?_
      refine sg_ ?_
      refine cl_ (hc := c18 Tb kb _ _ _ (atApp hkb) hTb) (k := ?_)
      refine sg_ ?_
      refine re_ ?_
      refine rs_ [4] ?_
      refine sg_ ?_
      refine cl_ (hc := c69 _ _ _ _ _ (get_ok hTa _) (get_ok hTb _)) (k := ?_)
      refine sg_ ?_
      refine re_ ?_
      refine awp_ret (up_ ?_)
      refine fp_ Tryz.results41 (hx := by (simp only [atuple, AV.er, AV.erL, push_cast, er_chC]) <;> rfl) (hcl := (by simp [AV.cl, AV.clL, clL_chC])) (hK := ?_)
      exact ⟨by unfold chOf chF; rw [hb2, hb3, hb4]; rfl, rfl, rfl⟩
    refine rg_ [4, 5, 61] ?_
    refine cb_ (ht := fun hb5 => ?_) (hf := fun hb5 => ?_)
    · have hb5' := hb5
      simp only [decide_eq_true_eq] at hb5'
      refine rsq_ [4, 5, 100] ⟨true, [], [], [], [], [], 0⟩ (fun _ => ⟨by kernel_rfl, by kernel_rfl⟩) ?_
      refine sg_ ?_
      refine cr_ (hc := c70 ((dfN Ta Tb 24).b 0) [(dfN Ta Tb 24).b 1] _ _ _ _ (by simp)) (k := ?_)
      refine sg_ ?_
      refine re_ ?_
      refine cb_ (ht := fun hb6 => ?_) (hf := fun hb6 => ?_)
      · have hb6' := hb6
        simp only [Bool.and_eq_true, decide_eq_true_eq] at hb6'
        refine rsq_ [4] ⟨false, [], [], [], [], [], 0⟩ (fun _ => ⟨by kernel_rfl, by kernel_rfl⟩) ?_
        refine sg_ ?_
        refine re_ ?_
        refine awp_ret (up_ ?_)
        refine fp_ Tryz.results41 (hx := by (simp only [atuple, AV.er, AV.erL, push_cast, er_chC]) <;> rfl) (hcl := (by simp [AV.cl, AV.clL, clL_chC])) (hK := ?_)
        exact ⟨by unfold chOf chF; rw [hb2, hb3, hb5, hb6]; rfl, rfl, rfl⟩
      refine awp_skip (up_ ?_)
      refine hK3 _ ?_
      refine rg_ [4] ?_
      refine awp_ret (up_ ?_)
      refine fp_ Tryz.results41 (hx := by (simp only [atuple, AV.er, AV.erL, push_cast, er_chC]) <;> rfl) (hcl := (by simp [AV.cl, AV.clL, clL_chC])) (hK := ?_)
      exact ⟨by unfold chOf chF; rw [hb2, hb3, hb5, hb6]; rfl, rfl, rfl⟩
    refine rs_ [4, 5, 119] ?_
    refine sg_ ?_
    refine cl_ (hc := c70 ((dfN Ta Tb 24).b 1) [(dfN Ta Tb 24).b 2] _ _ _ _ (by simp)) (k := ?_)
    refine sg_ ?_
    refine re_ ?_
    refine cb_ (ht := fun hb7 => ?_) (hf := fun hb7 => ?_)
    · have hol := ownK_len hb7
      refine rg_ [4] ?_
      refine awp_ret (up_ ?_)
      refine fp_ Tryz.results41 (hx := by (simp only [atuple, AV.er, AV.erL, push_cast, er_chC]) <;> rfl) (hcl := (by simp [AV.cl, AV.clL, clL_chC])) (hK := ?_)
      exact ⟨by unfold chOf chF; rw [hb2, hb3, hb5, hb7]; rfl, rfl, rfl⟩
    refine rg_ [4, 5, 134] ?_
    refine cb_ (ht := fun hb8 => ?_) (hf := fun hb8 => ?_)
    · have hb8' := hb8
      simp only [Bool.and_eq_true, decide_eq_true_eq] at hb8'
      refine rg_ [4, 5, 14] ?_
      refine rsq_ [4, 14, 170] ⟨true, [], [], [], [], [], 0⟩ (fun _ => ⟨by kernel_rfl, by kernel_rfl⟩) ?_
      refine sg_ ?_
      refine cg_ (hc := fun hg => c70 ((dfN Ta Tb 24).b 1) [] _ _ _ _ (by simp)) (k := ?_)
      refine sg_ ?_
      refine re_ ?_
      refine cb_ (ht := fun hb9 => ?_) (hf := fun hb9 => ?_)
      · refine rg_ [4] ?_
        refine awp_ret (up_ ?_)
        refine fp_ Tryz.results41 (hx := by (simp only [atuple, AV.er, AV.erL, push_cast, er_chC]) <;> rfl) (hcl := (by simp [AV.cl, AV.clL, clL_chC])) (hK := ?_)
        exact ⟨by unfold chOf chF; rw [hb2, hb3, hb5, hb7, hb8, hb9]; rfl, rfl, rfl⟩
      refine awp_skip (up_ ?_)
      refine hK3 _ ?_
      refine rg_ [4] ?_
      refine awp_ret (up_ ?_)
      refine fp_ Tryz.results41 (hx := by (simp only [atuple, AV.er, AV.erL, push_cast, er_chC]) <;> rfl) (hcl := (by simp [AV.cl, AV.clL, clL_chC])) (hK := ?_)
      exact ⟨by unfold chOf chF; rw [hb2, hb3, hb5, hb7, hb8, hb9]; rfl, rfl, rfl⟩
    refine rg_ [4, 5, 180] ?_
    refine cb_ (ht := fun hb10 => ?_) (hf := fun hb10 => ?_)
    · have hb10' := hb10
      simp only [decide_eq_true_eq] at hb10'
      refine rs_ [4] ?_
      refine sg_ ?_
      refine cl_ (hc := c71 (dfN Ta Tb 24) _ _ (by omega) (by omega) (by omega) (by omega)) (k := ?_)
      refine sg_ ?_
      refine re_ ?_
      refine awp_ret (up_ ?_)
      refine fp_ Tryz.results41 (hx := by (simp only [atuple, AV.er, AV.erL, push_cast, er_chC]) <;> rfl) (hcl := (by simp [AV.cl, AV.clL, clL_chC])) (hK := ?_)
      exact ⟨by unfold chOf chF; rw [hb2, hb3, hb5, hb7, hb8, hb10]; rfl, rfl, rfl⟩
    refine awp_skip (up_ ?_)
    refine hK3 _ ?_
    refine rg_ [4] ?_
    refine awp_ret (up_ ?_)
    refine fp_ Tryz.results41 (hx := by (simp only [atuple, AV.er, AV.erL, push_cast, er_chC]) <;> rfl) (hcl := (by simp [AV.cl, AV.clL, clL_chC])) (hK := ?_)
    exact ⟨by unfold chOf chF; rw [hb2, hb3, hb5, hb7, hb8, hb10]; rfl, rfl, rfl⟩
  have hil : i < 4 := by omega
  refine awp_skip (up_ ?_)
  refine hK2 _ ?_
  refine sk_ fun K5 hK5 => ?_
  refine awp_block ?_
  refine rg_ [0, 1, 4, 5, 6, 8, 19, 20] ?_
  refine rt_ [0, 1, 4, 5, 6, 19, 20] ?_
  refine sg_ ?_
  refine rn_ (up_ ?_)
  refine hK5 _ ?_
  refine rt_ [0, 1, 4, 5, 6, 19, 20] ?_
  refine sg_ ?_
  refine rn_ (up_ ?_)
  refine ⟨⟨i + 1, by omega⟩, ?_, (by first | rfl | trivial | (simp only [List.length_set]; done) | simp), by dsimp only; omega⟩
  try dsimp only
  refine Trunc.of (by first | exact (List.append_nil _).symm | exact rfl | (rw [List.append_assoc]; rfl)) ?_ hB (fun _ h => h)
  refine FTr.cons (by (simp (disch := omega) only [push_cast, ↓reduceIte, Nat.reduceEqDiff, Nat.reduceAdd, Nat.reduceLeDiff, sx]) <;> first | rfl | (congr 2; omega)) (by first | (simp [AV.cl, AV.clL, List.range, List.range.loop, clL_iV, -List.map_map]; done) | (simp [AV.cl, AV.clL]; try omega)) ?_
  refine FTr.cons (by (simp (disch := omega) only [push_cast, ↓reduceIte, Nat.reduceEqDiff, Nat.reduceAdd, Nat.reduceLeDiff, sx]) <;> first | rfl | (congr 2; omega)) (by first | (simp [AV.cl, AV.clL, List.range, List.range.loop, clL_iV, -List.map_map]; done) | (simp [AV.cl, AV.clL]; try omega)) ?_
  refine FTr.cons (by (simp (disch := omega) only [push_cast, ↓reduceIte, Nat.reduceEqDiff, Nat.reduceAdd, Nat.reduceLeDiff, sx]) <;> first | rfl | (congr 2; omega)) (by first | (simp [AV.cl, AV.clL, List.range, List.range.loop, clL_iV, -List.map_map]; done) | (simp [AV.cl, AV.clL]; try omega)) ?_
  refine FTr.cons (by (simp (disch := omega) only [push_cast, ↓reduceIte, Nat.reduceEqDiff, Nat.reduceAdd, Nat.reduceLeDiff, sx]) <;> first | rfl | (congr 2; omega)) (by first | (simp [AV.cl, AV.clL, List.range, List.range.loop, clL_iV, -List.map_map]; done) | (simp [AV.cl, AV.clL]; try omega)) ?_
  refine FTr.cons (by (simp (disch := omega) only [push_cast, ↓reduceIte, Nat.reduceEqDiff, Nat.reduceAdd, Nat.reduceLeDiff, sx]) <;> first | rfl | (congr 2; omega)) (by first | (simp [AV.cl, AV.clL, List.range, List.range.loop, clL_iV, -List.map_map]; done) | (simp [AV.cl, AV.clL]; try omega)) ?_
  refine FTr.cons (by (simp (disch := omega) only [push_cast, ↓reduceIte, Nat.reduceEqDiff, Nat.reduceAdd, Nat.reduceLeDiff, sx]) <;> first | rfl | (congr 2; omega)) (by first | (simp [AV.cl, AV.clL, List.range, List.range.loop, clL_iV, -List.map_map]; done) | (simp [AV.cl, AV.clL]; try omega)) ?_
  refine FTr.cons (by (simp (disch := omega) only [push_cast, ↓reduceIte, Nat.reduceEqDiff, Nat.reduceAdd, Nat.reduceLeDiff, sx]) <;> first | rfl | (congr 2; omega)) (by first | (simp [AV.cl, AV.clL, List.range, List.range.loop, clL_iV, -List.map_map]; done) | (simp [AV.cl, AV.clL]; try omega)) ?_
  exact FTr.nil

end Go.Proofs.YtjoklidphbmpoaaGreat
