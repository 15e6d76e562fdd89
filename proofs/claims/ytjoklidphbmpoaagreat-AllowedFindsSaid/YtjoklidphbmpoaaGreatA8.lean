import Derived.Test.YtjoklidphbmpoaaGreatA7
/-
  TABLES: nodes by themselves.
-/
namespace Go.Proofs.YtjoklidphbmpoaaGreat
open Go.Ab
set_option linter.unusedVariables false
set_option linter.unusedSimpArgs false
set_option maxRecDepth 8000
set_option maxHeartbeats 400000


def idB (n : Int) : Bool := decide (0 ≤ n) && decide (n ≤ 65535)
def badE (l : List En) (i : Nat) : Bool := !nameF (l.getD i ([], 0)).1 || decide ((l.getD i ([], 0)).2 < 1) || (decide (0 < (i : Int)) && !Op.bytesLess (l.getD ((i : Int) - 1).toNat ([], 0)).1 (l.getD i ([], 0)).1)
def risingF (l : List En) : Bool := !((List.range l.length).any (badE l)) && decide ((l.length : Int) ≤ 8)
def rightF (n : Nd) : Bool :=
  bif (decide (n.mode < 0) || decide (4095 < n.mode) || !idB n.uid || !idB n.gid) then false
  else if n.kind = 1 then decide ((n.ents.length : Int) = 0) && decide (n.target = []) && decide ((n.data.length : Int) ≤ 48)
  else if n.kind = 2 then decide ((n.data.length : Int) = 0) && decide (n.target = []) && risingF n.ents
  else if n.kind = 3 then decide ((n.data.length : Int) + n.ents.length = 0) && decide (n.mode = 511) && fitsF n.target
  else false
theorem anyR_t {p : Nat → Bool} {m n : Nat} (hm : m < n) (h : p m = true) : (List.range n).any p = true := List.any_eq_true.2 ⟨m, List.mem_range.2 hm, h⟩
theorem anyR_f {p : Nat → Bool} {n : Nat} (h : ∀ j, j < n → p j = false) : (List.range n).any p = false := List.any_eq_false.2 fun j hj => by simp [h j (List.mem_range.1 hj)]
theorem rightF_kind {n : Nd} (h : rightF n = true) : n.kind ≠ 0 := by
  intro h0
  unfold rightF at h
  rw [h0] at h
  cases hc : (decide (n.mode < 0) || decide (4095 < n.mode) || !idB n.uid || !idB n.gid) <;> rw [hc] at h <;> cases h
def eqS (s : List UInt8) (e : En) : Bool := decide (e.1 = s)
def gtS (s : List UInt8) (e : En) : Bool := !(Op.bytesLess e.1 s || decide (e.1 = s))

theorem c92 (n : Int) (h : List Blk) (live : List Nat) : ACalls Tryz.prog 92 [.int .i64 n] h live (ret (.bool (idB n)) h live) := by
  refine ab_ Tryz.func92 (hw := fun hH hX => ?_)
  have sx := sx0
  refine rg_ [0] ?_
  refine rg_ [2] ?_
  refine awp_ret (up_ ?_)
  refine fp_ Tryz.results92 (hK := ?_)
  exact ⟨rfl, rfl, rfl⟩

theorem c116 (s : List UInt8) (h : List Blk) (live : List Nat) (hs : s.length ≤ 9223372036854775807) : ACalls Tryz.prog 116 [.str s] h live (ret (.bool (nameF s)) h live) := by
  refine ab_ Tryz.func116 (hw := fun hH hX => ?_)
  have sx := sx0
  refine rg_ [0] ?_
  refine rs_ [2] ?_
  refine sg_ ?_
  refine cg_ (hc := fun hg => c108 s _ _ hs) (k := ?_)
  refine sg_ ?_
  refine re_ ?_
  refine awp_ret (up_ ?_)
  refine fp_ Tryz.results116 (hK := ?_)
  exact ⟨rfl, rfl, rfl⟩

theorem c94 (s : List UInt8) (h : List Blk) (live : List Nat) (hs : s.length ≤ 9223372036854775807) : ACalls Tryz.prog 94 [.str s] h live (ret (.bool (fitsF s)) h live) := by
  refine ab_ Tryz.func94 (hw := fun hH hX => ?_)
  have sx := sx0
  refine rg_ [0] ?_
  refine rs_ [2] ?_
  refine sg_ ?_
  refine cg_ (hc := fun hg => c117 s 0 _ _) (k := ?_)
  refine sg_ ?_
  refine re_ ?_
  refine awp_ret (up_ ?_)
  refine fp_ Tryz.results94 (hK := ?_)
  exact ⟨rfl, rfl, rfl⟩

theorem c93 (l : List En) (h : List Blk) (live : List Nat) (hl : l.length ≤ 1000000) (hn : ∀ e ∈ l, e.1.length ≤ 9223372036854775807) : ACalls Tryz.prog 93 [.slice (l.map eV) .none] h live (ret (.bool (risingF l)) h live) := by
  refine ab_ Tryz.func93 (hw := fun hH hX => ?_)
  have hnl : ∀ i, (l.getD i ([], 0)).1.length ≤ 9223372036854775807 := fun i => by
    by_cases h : i < l.length
    · rw [List.getD_eq_getElem?_getD, List.getElem?_eq_getElem h]; exact hn _ (List.getElem_mem h)
    · rw [List.getD_eq_getElem?_getD, List.getElem?_eq_none (by omega)]; exact Nat.zero_le _
  have sx := (And.intro @Bool.true_and sx0)
  refine rg_ [0] ?_
  refine sk_ fun K1 hK1 => ?_
  refine rg_ [0, 5, 6, 7] ?_
  refine awp_block ?_
  refine awp_loop' (X := {i : Nat // i ≤ l.length ∧ ∀ j, j < i → badE l j = false}) (fun x => ⟨Tryz.f93.ntmps, fget [(0, .slice (l.map eV) .none), (5, .slice (l.map eV) .none), (6, .int .i64 l.length), (7, .int .i64 (x.1 : Nat))], h, live⟩) (fun x => l.length - x.1) (⟨0, by omega, fun j hj => by omega⟩) ?_ (by first | rfl | simp only [List.length_set]) (fun ⟨i, hi, hb⟩ => ?_)
  · try dsimp only
    exact tf_ hH (fun _ h => h)
  try dsimp only
  refine rg_ [0, 5, 6, 7, 8] ?_
  refine sk_ fun K2 hK2 => ?_
  refine cd_ (ht := fun hb1 => ?_) (hf := fun hb1 => ?_)
  rotate_left
  · have hie : i = l.length := by omega
    subst hie
    refine awp_exit (up_ ?_)
    refine hK1 _ ?_
    refine rg_ [2] ?_
    refine awp_ret (up_ ?_)
    refine fp_ Tryz.results93 (hK := ?_)
    exact ⟨by unfold risingF; rw [anyR_f hb]; rfl, rfl, rfl⟩
  have hil : i < l.length := by omega
  have hnli := hnl i
  refine awp_skip (up_ ?_)
  refine hK2 _ ?_
  refine sk_ fun K3 hK3 => ?_
  refine awp_block ?_
  refine rg_ [0, 3, 4, 5, 6, 7] ?_
  refine rsq_ [0, 5, 6, 7, 35] ⟨true, [], [], [], [], [], 0⟩ (fun _ => ⟨by kernel_rfl, by kernel_rfl⟩) ?_
  refine sg_ ?_
  refine cr_ (hc := c116 _ _ _ (by omega)) (k := ?_)
  refine sg_ ?_
  refine re_ ?_
  refine cb_ (ht := fun hb2 => ?_) (hf := fun hb2 => ?_)
  · have hbe : badE l i = true := hb2
    refine rg_ [2] ?_
    refine awp_ret (up_ ?_)
    refine fp_ Tryz.results93 (hK := ?_)
    exact ⟨by unfold risingF; rw [anyR_t hil hbe]; rfl, rfl, rfl⟩
  have hbe : badE l i = false := hb2
  refine awp_skip (up_ ?_)
  refine hK3 _ ?_
  refine rt_ [0, 5, 6, 7] ?_
  refine sg_ ?_
  refine rn_ (up_ ?_)
  refine ⟨⟨i + 1, by omega, fun j hj => by rcases Nat.lt_succ_iff_lt_or_eq.1 hj with h | h; exact hb j h; subst h; exact hbe⟩, ?_, (by first | rfl | trivial | (simp only [List.length_set]; done) | simp), by dsimp only; omega⟩
  try dsimp only
  exact tf_ hH (fun _ h => h)

theorem c67 (n : Nd) (h : List Blk) (live : List Nat) (ho : NdOk n) : ACalls Tryz.prog 67 [.agg (ndC n)] h live (ret (.bool (rightF n)) h live) := by
  refine ab_ Tryz.func67 (hw := fun hH hX => ?_)
  obtain ⟨ho1, ho2, ho3⟩ := ho
  have sx := sx0
  refine rg_ [1] ?_
  refine sk_ fun K1 hK1 => ?_
  refine rs_ [1, 22] ?_
  refine sg_ ?_
  refine cg_ (hc := fun hg => c92 _ _ _) (k := ?_)
  refine sg_ ?_
  refine cg_ (hc := fun hg => c92 _ _ _) (k := ?_)
  refine sg_ ?_
  refine re_ ?_
  refine cb_ (ht := fun hb1 => ?_) (hf := fun hb1 => ?_)
  · refine rg_ [2] ?_
    refine awp_ret (up_ ?_)
    refine fp_ Tryz.results67 (hK := ?_)
    exact ⟨by unfold rightF; rw [hb1]; rfl, rfl, rfl⟩
  refine awp_skip (up_ ?_)
  refine hK1 _ ?_
  refine sk_ fun K2 hK2 => ?_
  refine rg_ [1, 24] ?_
  refine awp_block ?_
  refine rg_ [1, 24, 25] ?_
  refine cd_ (ht := fun hb2 => ?_) (hf := fun hb2 => ?_)
  · refine rg_ [2] ?_
    refine awp_ret (up_ ?_)
    refine fp_ Tryz.results67 (hK := ?_)
    exact ⟨by unfold rightF; rw [hb1, cond_false, if_pos hb2], rfl, rfl⟩
  refine rg_ [1, 24, 42] ?_
  refine cd_ (ht := fun hb3 => ?_) (hf := fun hb3 => ?_)
  · refine rs_ [2] ?_
    refine sg_ ?_
    refine cg_ (hc := fun hg => c93 _ _ _ (by omega) (fun e he => Nat.le_trans (ho3.2 e he) (by decide))) (k := ?_)
    refine sg_ ?_
    refine re_ ?_
    refine awp_ret (up_ ?_)
    refine fp_ Tryz.results67 (hK := ?_)
    exact ⟨by unfold rightF; rw [hb1, cond_false, if_neg hb2, if_pos hb3], rfl, rfl⟩
  refine rg_ [1, 58] ?_
  refine cd_ (ht := fun hb4 => ?_) (hf := fun hb4 => ?_)
  · refine rs_ [2] ?_
    refine sg_ ?_
    refine cg_ (hc := fun hg => c94 _ _ _ (by omega)) (k := ?_)
    refine sg_ ?_
    refine re_ ?_
    refine awp_ret (up_ ?_)
    refine fp_ Tryz.results67 (hK := ?_)
    exact ⟨by unfold rightF; rw [hb1, cond_false, if_neg hb2, if_neg hb3, if_pos hb4], rfl, rfl⟩
  refine awp_skip (up_ ?_)
  refine hK2 _ ?_
  refine rg_ [2] ?_
  refine awp_ret (up_ ?_)
  refine fp_ Tryz.results67 (hK := ?_)
  exact ⟨by unfold rightF; rw [hb1, cond_false, if_neg hb2, if_neg hb3, if_neg hb4], rfl, rfl⟩

theorem c125 (b : Nat) (s : List UInt8) (e : En) (h : List Blk) (live : List Nat) (hb : h[b]? = some (.cells [.str s])) : ACalls Tryz.prog 125 (.agg [.str e.1, .int .i64 e.2] :: [.ptr b 0]) h live (ret (.bool (eqS s e)) h live) := by
  refine ab_ Tryz.func125 (hw := fun hH hX => ?_)
  have hbl := lt_of_get hb
  have sx := (And.intro @hb sx0)
  refine rs_ [1, 2] ?_
  refine dawp_h rfl (by (simp (disch := omega) only [push_cast, ↓reduceIte, Nat.reduceEqDiff, Nat.reduceAdd, Nat.reduceLeDiff, sx, List.getElem?_append_left hbl]) <;> rfl) rfl rfl ?_
  refine dawp_p rfl (by (simp (disch := omega) only [push_cast, ↓reduceIte, Nat.reduceEqDiff, Nat.reduceAdd, Nat.reduceLeDiff, sx, List.getElem?_append_left hbl]) <;> rfl) rfl rfl ?_
  refine re_ (hf := by (simp (disch := omega) only [push_cast, ↓reduceIte, Nat.reduceEqDiff, Nat.reduceAdd, Nat.reduceLeDiff, sx, List.getElem?_append_left hbl]) <;> rfl) (hh := by (try simp (disch := omega) only [push_cast, ↓reduceIte, Nat.reduceEqDiff, Nat.reduceAdd, Nat.reduceLeDiff, sx, List.getElem?_append_left hbl]) <;> rfl) ?_
  refine rs_ [3] ?_
  refine dawp_p rfl (by (simp (disch := omega) only [push_cast, ↓reduceIte, Nat.reduceEqDiff, Nat.reduceAdd, Nat.reduceLeDiff, sx, List.getElem?_append_left hbl]) <;> rfl) rfl rfl ?_
  iterate 2 (refine dawp_h rfl (by (simp (disch := omega) only [push_cast, ↓reduceIte, Nat.reduceEqDiff, Nat.reduceAdd, Nat.reduceLeDiff, sx, List.getElem?_append_left hbl]) <;> rfl) rfl rfl ?_)
  iterate 2 (refine dawp_p rfl (by (simp (disch := omega) only [push_cast, ↓reduceIte, Nat.reduceEqDiff, Nat.reduceAdd, Nat.reduceLeDiff, sx, List.getElem?_append_left hbl]) <;> rfl) rfl rfl ?_)
  refine re_ (hf := by (simp (disch := omega) only [push_cast, ↓reduceIte, Nat.reduceEqDiff, Nat.reduceAdd, Nat.reduceLeDiff, sx, List.getElem?_append_left hbl]) <;> rfl) (hh := by (try simp (disch := omega) only [push_cast, ↓reduceIte, Nat.reduceEqDiff, Nat.reduceAdd, Nat.reduceLeDiff, sx, List.getElem?_append_left hbl]) <;> rfl) ?_
  refine awp_ret (up_ ?_)
  refine fp_ (hres := by (simp (disch := omega) only [aresults, aresult, push_cast, ↓reduceIte, Nat.reduceEqDiff, Nat.reduceAdd, Nat.reduceLeDiff, sx, List.getElem?_append_left hbl]) <;> rfl) Tryz.results125 (hK := ?_)
  exact ⟨rfl, rfl, rfl⟩

theorem c110 (b : Nat) (s : List UInt8) (e : En) (h : List Blk) (live : List Nat) (hb : h[b]? = some (.cells [.str s])) : ACalls Tryz.prog 110 (.agg [.str e.1, .int .i64 e.2] :: [.ptr b 0]) h live (ret (.bool (gtS s e)) h live) := by
  refine ab_ Tryz.func110 (hw := fun hH hX => ?_)
  have hbl := lt_of_get hb
  have sx := (And.intro @hb sx0)
  refine rs_ [1, 2] ?_
  refine dawp_h rfl (by (simp (disch := omega) only [push_cast, ↓reduceIte, Nat.reduceEqDiff, Nat.reduceAdd, Nat.reduceLeDiff, sx, List.getElem?_append_left hbl]) <;> rfl) rfl rfl ?_
  refine dawp_p rfl (by (simp (disch := omega) only [push_cast, ↓reduceIte, Nat.reduceEqDiff, Nat.reduceAdd, Nat.reduceLeDiff, sx, List.getElem?_append_left hbl]) <;> rfl) rfl rfl ?_
  refine re_ (hf := by (simp (disch := omega) only [push_cast, ↓reduceIte, Nat.reduceEqDiff, Nat.reduceAdd, Nat.reduceLeDiff, sx, List.getElem?_append_left hbl]) <;> rfl) (hh := by (try simp (disch := omega) only [push_cast, ↓reduceIte, Nat.reduceEqDiff, Nat.reduceAdd, Nat.reduceLeDiff, sx, List.getElem?_append_left hbl]) <;> rfl) ?_
  refine rs_ [3] ?_
  refine dawp_p rfl (by (simp (disch := omega) only [push_cast, ↓reduceIte, Nat.reduceEqDiff, Nat.reduceAdd, Nat.reduceLeDiff, sx, List.getElem?_append_left hbl]) <;> rfl) rfl rfl ?_
  iterate 2 (refine dawp_h rfl (by (simp (disch := omega) only [push_cast, ↓reduceIte, Nat.reduceEqDiff, Nat.reduceAdd, Nat.reduceLeDiff, sx, List.getElem?_append_left hbl]) <;> rfl) rfl rfl ?_)
  iterate 2 (refine dawp_p rfl (by (simp (disch := omega) only [push_cast, ↓reduceIte, Nat.reduceEqDiff, Nat.reduceAdd, Nat.reduceLeDiff, sx, List.getElem?_append_left hbl]) <;> rfl) rfl rfl ?_)
  refine re_ (hf := by (simp (disch := omega) only [push_cast, ↓reduceIte, Nat.reduceEqDiff, Nat.reduceAdd, Nat.reduceLeDiff, sx, List.getElem?_append_left hbl]) <;> rfl) (hh := by (try simp (disch := omega) only [push_cast, ↓reduceIte, Nat.reduceEqDiff, Nat.reduceAdd, Nat.reduceLeDiff, sx, List.getElem?_append_left hbl]) <;> rfl) ?_
  refine awp_ret (up_ ?_)
  refine fp_ (hres := by (simp (disch := omega) only [aresults, aresult, push_cast, ↓reduceIte, Nat.reduceEqDiff, Nat.reduceAdd, Nat.reduceLeDiff, sx, List.getElem?_append_left hbl]) <;> rfl) Tryz.results110 (hK := ?_)
  exact ⟨rfl, rfl, rfl⟩

theorem c109 (n : Nd) (s : List UInt8) (h : List Blk) (live : List Nat) (ho : NdOk n) : ACalls Tryz.prog 109 [.agg (ndC n), .str s] h live (ret (.int .i64 (idxP (eqS s) n.ents)) h live) := by
  refine ab_ Tryz.func109 (hw := fun hH hX => ?_)
  obtain ⟨ho1, ho2, ho3⟩ := ho
  have sx := sx0
  refine rg_ [2, 3] ?_
  refine rs_ [4] ?_
  refine sg_ ?_
  refine cl_ (hc := c64 n.ents _ 125 [.ptr (h.length + 1) 0] (eqS s) _ _ (by omega) (fun e => c125 (h.length + 1) s e _ _ (by simp only [push_cast])) (by simp [AV.cl, AV.clL])) (k := ?_)
  refine sg_ ?_
  refine re_ ?_
  refine awp_ret (up_ ?_)
  refine fp_ Tryz.results109 (hK := ?_)
  exact ⟨rfl, rfl, rfl⟩


/-- A node with other entries. -/
def nWith (n : Nd) (l : List En) : Nd := ⟨n.kind, n.mode, n.uid, n.gid, n.data, l, n.target⟩
theorem putAt_eq {α : Type} : ∀ (v c : List α) (off : Nat), off + v.length ≤ c.length → putAt c off v = c.take off ++ v ++ c.drop (off + v.length)
  | [], c, off, h => by
    show c = _
    simp
  | x :: v, c, off, h => by
    show putAt (c.set off x) (off + 1) v = _
    simp at h
    rw [putAt_eq v _ _ (by simp; omega), List.take_succ_eq_append_getElem (by simp; omega)]
    simp [List.take_set_of_le, List.drop_set_of_lt, show off < off + 1 + v.length by omega, show off + 1 + v.length = off + (v.length + 1) by omega]
theorem flat_len (l : List En) : (flat (l.map eV)).length = l.length * 2 := by
  rw [flat_length (sz := 2) (cells_eV l), List.length_map]
theorem flat_app (a b : List AV) : flat (a ++ b) = flat a ++ flat b := by simp [flat]
/-- What three times was written one behind the other. -/
theorem put3 (A B C : List En) (c : List AV) (hc : (A.length + B.length + C.length) * 2 ≤ c.length) :
    (putAt (putAt (putAt c 0 (flat (A.map eV))) (A.length * 2) (flat (B.map eV))) ((A.length + B.length) * 2) (flat (C.map eV))).take ((A ++ B ++ C).length * 2) = flat ((A ++ B ++ C).map eV) := by
  have hA := flat_len A; have hB := flat_len B; have hC := flat_len C
  rw [putAt_eq (flat (A.map eV)) c 0 (by omega), List.take_zero, List.nil_append]
  have e1 : putAt (flat (A.map eV) ++ c.drop (0 + (flat (A.map eV)).length)) (A.length * 2) (flat (B.map eV)) = flat (A.map eV) ++ (flat (B.map eV) ++ (c.drop (A.length * 2)).drop (B.length * 2)) := by
    rw [show A.length * 2 = (flat (A.map eV)).length + 0 by omega, putAt_right, putAt_eq _ _ _ (by rw [List.length_drop]; omega)]
    simp [hA, hB]
  rw [e1]
  have e2 : putAt (flat (A.map eV) ++ (flat (B.map eV) ++ (c.drop (A.length * 2)).drop (B.length * 2))) ((A.length + B.length) * 2) (flat (C.map eV)) = (flat (A.map eV) ++ flat (B.map eV)) ++ (flat (C.map eV) ++ ((c.drop (A.length * 2)).drop (B.length * 2)).drop (C.length * 2)) := by
    rw [← List.append_assoc, show (A.length + B.length) * 2 = (flat (A.map eV) ++ flat (B.map eV)).length + 0 by simp; omega, putAt_right, putAt_eq _ _ _ (by rw [List.length_drop, List.length_drop]; omega)]
    simp [hC]
  rw [e2, List.map_append, List.map_append, flat_app, flat_app, ← List.append_assoc]
  exact List.take_left' (by simp; omega)
theorem put3_len (A B C : List En) (c : List AV) (hc : (A.length + B.length + C.length) * 2 ≤ c.length) :
    (putAt (putAt (putAt c 0 (flat (A.map eV))) (A.length * 2) (flat (B.map eV))) ((A.length + B.length) * 2) (flat (C.map eV))).length = c.length := by
  have hA := flat_len A; have hB := flat_len B; have hC := flat_len C
  have h : ∀ (v c : List AV) (off : Nat), (putAt c off v).length = c.length := fun v => by
    induction v with
    | nil => intro c off; rfl
    | cons x v ih => intro c off; show (putAt (c.set off x) (off + 1) v).length = _; rw [ih, List.length_set]
  rw [h, h, h]
theorem flat_el : ∀ (M : List En) (i : Nat) (h : i < M.length), AV.agg (((flat (M.map eV)).drop (i * 2)).take 2) = eV M[i]
  | x :: r, 0, _ => rfl
  | x :: r, i + 1, h => by
    have := flat_el r i (by simpa using h)
    rw [List.map_cons, show flat (eV x :: r.map eV) = [.str x.1, .int .i64 x.2] ++ flat (r.map eV) from rfl, show (i + 1) * 2 = 2 + i * 2 by omega, List.drop_append, List.drop_of_length_le (show 2 ≤ 2 + i * 2 by omega), List.nil_append]
    simpa using this
/-- What was frozen out of a block that begins with a list's cells. -/
theorem frozen (M : List En) (cs : List AV) (h : cs.take (M.length * 2) = flat (M.map eV)) : ((List.range M.length).map fun i => mkEl true ((cs.drop (0 + i * 2)).take 2)) = M.map eV := by
  refine List.ext_getElem (by simp) fun i h1 h2 => ?_
  simp only [List.length_map, List.length_range] at h1
  rw [List.getElem_map, List.getElem_map, List.getElem_range, Nat.zero_add]
  have e : (cs.drop (i * 2)).take 2 = ((cs.take (M.length * 2)).drop (i * 2)).take 2 := by
    rw [List.drop_take, List.take_take, Nat.min_eq_left (by omega)]
  show AV.agg _ = eV _
  rw [e, h]
  exact flat_el M i h1


theorem with_frz (n : Nd) (A B C : List En) (h : List Blk) (x y : Blk) (c : List AV) (cap : Nat) (hc : (A.length + B.length + C.length) * 2 ≤ c.length) (t : Nat) (ht : t = (A ++ B ++ C).length) (l1 l2 : Nat) (h1 : l1 = A.length * 2) (h2 : l2 = (A.length + B.length) * 2) :
    ((AV.agg [.int .i64 n.kind, .int .i64 n.mode, .int .i64 n.uid, .int .i64 n.gid, .slice (n.data.map bV) .none, .bsl (h.length + 2) 0 2 true t cap, .str n.target]).frz (h ++ [x, y, .cells (putAt (putAt (putAt c 0 (flat (A.map eV))) l1 (flat (B.map eV))) l2 (flat (C.map eV)))]) h.length).er = .agg (ndC (nWith n (A ++ B ++ C))) := by
  subst ht h1 h2
  have hl := put3_len A B C c hc
  have hg : (h ++ [x, y, Blk.cells (putAt (putAt (putAt c 0 (flat (A.map eV))) (A.length * 2) (flat (B.map eV))) ((A.length + B.length) * 2) (flat (C.map eV)))])[h.length + 2]? = some (.cells (putAt (putAt (putAt c 0 (flat (A.map eV))) (A.length * 2) (flat (B.map eV))) ((A.length + B.length) * 2) (flat (C.map eV)))) := by
    rw [List.getElem?_append_right (by omega), show h.length + 2 - h.length = 2 by omega]; rfl
  have hab : (A ++ B ++ C).length = A.length + B.length + C.length := by rw [List.length_append, List.length_append]
  simp only [AV.frz, AV.frzL]
  rw [if_pos (by omega), hg]
  simp only []
  rw [if_pos ⟨by rw [hl]; omega, by decide, .inl trivial⟩, frozen _ _ (put3 A B C c hc)]
  simp only [AV.er, AV.erL, erL_bV, erL_eV]
  rfl
theorem putAt_len : ∀ (v c : List AV) (off : Nat), (putAt c off v).length = c.length
  | [], _, _ => rfl
  | x :: v, c, off => by show (putAt (c.set off x) (off + 1) v).length = _; rw [putAt_len, List.length_set]
def rep2 (n : Nat) : List AV := rep n [.str [], .int .i64 0]
theorem rep2_len (n : Nat) : (rep2 n).length = n * 2 := rep_length _ _

theorem c111 (n : Nd) (a b : Nat) (m : List En) (c : Cap) (h : List Blk) (live : List Nat) (ho : NdOk n) (ha : a ≤ n.ents.length) (hb : b ≤ n.ents.length) (hm : m.length ≤ 1000) (hf : a + m.length ≤ b + 1) : ACalls Tryz.prog 111 [.agg (ndC n), .int .i64 (a : Int), .int .i64 (b : Int), .slice (m.map eV) c] h live (ret (.agg (ndC (nWith n (n.ents.take a ++ (m ++ n.ents.drop b))))) h live) := by
  refine ab_ Tryz.func111 (hw := fun hH hX => ?_)
  obtain ⟨ho1, ho2, ho3⟩ := ho
  have hmin : min n.ents.length a = a := Nat.min_eq_right ha
  have sx := (And.intro @hmin sx0)
  refine rs_ [1, 2, 3, 4, 8] ?_
  iterate 2 (refine dawp_h rfl (by (simp (disch := omega) only [push_cast, ↓reduceIte, Nat.reduceEqDiff, Nat.reduceAdd, Nat.reduceLeDiff, sx, ← List.map_take, ← List.map_drop, List.length_take, List.length_drop]) <;> rfl) rfl rfl ?_)
  refine re_ (hf := by (simp (disch := omega) only [push_cast, ↓reduceIte, Nat.reduceEqDiff, Nat.reduceAdd, Nat.reduceLeDiff, sx, ← List.map_take, ← List.map_drop, List.length_take, List.length_drop]) <;> rfl) (hh := by (try simp (disch := omega) only [push_cast, ↓reduceIte, Nat.reduceEqDiff, Nat.reduceAdd, Nat.reduceLeDiff, sx, ← List.map_take, ← List.map_drop, List.length_take, List.length_drop]) <;> rfl) ?_
  refine rs_ [2, 3, 4, 8, 9] ?_
  iterate 2 (refine dawp_p rfl (by (simp (disch := omega) only [push_cast, ↓reduceIte, Nat.reduceEqDiff, Nat.reduceAdd, Nat.reduceLeDiff, sx, ← List.map_take, ← List.map_drop, List.length_take, List.length_drop]) <;> rfl) rfl rfl ?_)
  refine dawp_h rfl (by (simp (disch := omega) only [push_cast, ↓reduceIte, Nat.reduceEqDiff, Nat.reduceAdd, Nat.reduceLeDiff, sx, ← List.map_take, ← List.map_drop, List.length_take, List.length_drop]) <;> rfl) rfl rfl ?_
  iterate 2 (refine dawp_p rfl (by (simp (disch := omega) only [push_cast, ↓reduceIte, Nat.reduceEqDiff, Nat.reduceAdd, Nat.reduceLeDiff, sx, ← List.map_take, ← List.map_drop, List.length_take, List.length_drop]) <;> rfl) rfl rfl ?_)
  refine dawp_w rfl rfl rfl rfl (AOp.makeSlice _ _ _ rfl Ty.makeT_45 (n := a) (m := n.ents.length + 1) rfl rfl (by omega) (by omega) (by omega) ?_)
  refine dawp_p rfl (by (simp (disch := omega) only [push_cast, ↓reduceIte, Nat.reduceEqDiff, Nat.reduceAdd, Nat.reduceLeDiff, sx, ← List.map_take, ← List.map_drop, List.length_take, List.length_drop]) <;> rfl) rfl rfl ?_
  refine re_ (hf := by (simp (disch := omega) only [push_cast, ↓reduceIte, Nat.reduceEqDiff, Nat.reduceAdd, Nat.reduceLeDiff, sx, ← List.map_take, ← List.map_drop, List.length_take, List.length_drop]) <;> rfl) (hh := by (try simp (disch := omega) only [push_cast, ↓reduceIte, Nat.reduceEqDiff, Nat.reduceAdd, Nat.reduceLeDiff, sx, ← List.map_take, ← List.map_drop, List.length_take, List.length_drop]) <;> rfl) ?_
  refine rs_ [2, 3, 4, 8, 9] ?_
  iterate 2 (refine dawp_p rfl (by (simp (disch := omega) only [push_cast, ↓reduceIte, Nat.reduceEqDiff, Nat.reduceAdd, Nat.reduceLeDiff, sx, ← List.map_take, ← List.map_drop, List.length_take, List.length_drop]) <;> rfl) rfl rfl ?_)
  refine dawp_h rfl (by (simp (disch := omega) only [push_cast, ↓reduceIte, Nat.reduceEqDiff, Nat.reduceAdd, Nat.reduceLeDiff, sx, ← List.map_take, ← List.map_drop, List.length_take, List.length_drop]) <;> rfl) rfl rfl ?_
  refine dawp_w rfl rfl rfl rfl (AOp.copyB _ _ _ _ rfl Ty.sliceSz_45 (by (simp (disch := omega) only [push_cast, ↓reduceIte, Nat.reduceEqDiff, Nat.reduceAdd, Nat.reduceLeDiff, sx, ← List.map_take, ← List.map_drop, List.length_take, List.length_drop]) <;> rfl) (by (simp (disch := omega) only [push_cast, ↓reduceIte, Nat.reduceEqDiff, Nat.reduceAdd, Nat.reduceLeDiff, sx, ← List.map_take, ← List.map_drop, List.length_take, List.length_drop]) <;> rfl) (by (simp (disch := omega) only [push_cast, ↓reduceIte, Nat.reduceEqDiff, Nat.reduceAdd, Nat.reduceLeDiff, sx, ← List.map_take, ← List.map_drop, List.length_take, List.length_drop]) <;> rfl) (cells_eV _) (by rw [rep_length]; simp; omega) ?_)
  refine re_ (hf := by (simp (disch := omega) only [push_cast, ↓reduceIte, Nat.reduceEqDiff, Nat.reduceAdd, Nat.reduceLeDiff, sx, ← List.map_take, ← List.map_drop, List.length_take, List.length_drop]) <;> rfl) (hh := by (try simp (disch := omega) only [push_cast, ↓reduceIte, Nat.reduceEqDiff, Nat.reduceAdd, Nat.reduceLeDiff, sx, ← List.map_take, ← List.map_drop, List.length_take, List.length_drop]) <;> rfl) ?_
  refine rs_ [2, 4, 8, 9] ?_
  iterate 2 (refine dawp_p rfl (by (simp (disch := omega) only [push_cast, ↓reduceIte, Nat.reduceEqDiff, Nat.reduceAdd, Nat.reduceLeDiff, sx, ← List.map_take, ← List.map_drop, List.length_take, List.length_drop]) <;> rfl) rfl rfl ?_)
  refine dawp_w rfl rfl rfl rfl (AOp.appendB _ _ _ rfl Ty.sliceSz_45 (by (simp (disch := omega) only [push_cast, ↓reduceIte, Nat.reduceEqDiff, Nat.reduceAdd, Nat.reduceLeDiff, sx, ← List.map_take, ← List.map_drop, List.length_take, List.length_drop]) <;> rfl) (by (simp (disch := omega) only [push_cast, ↓reduceIte, Nat.reduceEqDiff, Nat.reduceAdd, Nat.reduceLeDiff, sx, ← List.map_take, ← List.map_drop, List.length_take, List.length_drop]) <;> rfl) (by (simp (disch := omega) only [push_cast, ↓reduceIte, Nat.reduceEqDiff, Nat.reduceAdd, Nat.reduceLeDiff, sx, ← List.map_take, ← List.map_drop, List.length_take, List.length_drop]) <;> rfl) (cells_eV _) (by simp; omega) (by rw [putAt_len, rep_length]; simp; omega) ?_)
  refine dawp_p rfl (by (simp (disch := omega) only [push_cast, ↓reduceIte, Nat.reduceEqDiff, Nat.reduceAdd, Nat.reduceLeDiff, sx, ← List.map_take, ← List.map_drop, List.length_take, List.length_drop]) <;> rfl) rfl rfl ?_
  refine re_ (hf := by (simp (disch := omega) only [push_cast, ↓reduceIte, Nat.reduceEqDiff, Nat.reduceAdd, Nat.reduceLeDiff, sx, ← List.map_take, ← List.map_drop, List.length_take, List.length_drop]) <;> rfl) (hh := by (try simp (disch := omega) only [push_cast, ↓reduceIte, Nat.reduceEqDiff, Nat.reduceAdd, Nat.reduceLeDiff, sx, ← List.map_take, ← List.map_drop, List.length_take, List.length_drop]) <;> rfl) ?_
  refine rs_ [4, 8] ?_
  iterate 2 (refine dawp_p rfl (by (simp (disch := omega) only [push_cast, ↓reduceIte, Nat.reduceEqDiff, Nat.reduceAdd, Nat.reduceLeDiff, sx, ← List.map_take, ← List.map_drop, List.length_take, List.length_drop]) <;> rfl) rfl rfl ?_)
  refine dawp_h rfl (by (simp (disch := omega) only [push_cast, ↓reduceIte, Nat.reduceEqDiff, Nat.reduceAdd, Nat.reduceLeDiff, sx, ← List.map_take, ← List.map_drop, List.length_take, List.length_drop]) <;> rfl) rfl rfl ?_
  iterate 2 (refine dawp_p rfl (by (simp (disch := omega) only [push_cast, ↓reduceIte, Nat.reduceEqDiff, Nat.reduceAdd, Nat.reduceLeDiff, sx, ← List.map_take, ← List.map_drop, List.length_take, List.length_drop]) <;> rfl) rfl rfl ?_)
  refine dawp_w rfl rfl rfl rfl (AOp.appendB _ _ _ rfl Ty.sliceSz_45 (by (simp (disch := omega) only [push_cast, ↓reduceIte, Nat.reduceEqDiff, Nat.reduceAdd, Nat.reduceLeDiff, sx, ← List.map_take, ← List.map_drop, List.length_take, List.length_drop]) <;> rfl) (by (simp (disch := omega) only [push_cast, ↓reduceIte, Nat.reduceEqDiff, Nat.reduceAdd, Nat.reduceLeDiff, sx, ← List.map_take, ← List.map_drop, List.length_take, List.length_drop]) <;> rfl) (by (simp (disch := omega) only [push_cast, ↓reduceIte, Nat.reduceEqDiff, Nat.reduceAdd, Nat.reduceLeDiff, sx, ← List.map_take, ← List.map_drop, List.length_take, List.length_drop]) <;> rfl) (cells_eV _) (by simp; omega) (by rw [putAt_len, putAt_len, rep_length]; simp; omega) ?_)
  refine dawp_p rfl (by (simp (disch := omega) only [push_cast, ↓reduceIte, Nat.reduceEqDiff, Nat.reduceAdd, Nat.reduceLeDiff, sx, ← List.map_take, ← List.map_drop, List.length_take, List.length_drop]) <;> rfl) rfl rfl ?_
  refine dawp_hn rfl (by (simp (disch := omega) only [push_cast, ↓reduceIte, Nat.reduceEqDiff, Nat.reduceAdd, Nat.reduceLeDiff, sx, ← List.map_take, ← List.map_drop, List.length_take, List.length_drop]) <;> rfl) rfl ?_
  refine re_ (hf := by (simp (disch := omega) only [push_cast, ↓reduceIte, Nat.reduceEqDiff, Nat.reduceAdd, Nat.reduceLeDiff, sx, ← List.map_take, ← List.map_drop, List.length_take, List.length_drop]) <;> rfl) (hh := by (try simp (disch := omega) only [push_cast, ↓reduceIte, Nat.reduceEqDiff, Nat.reduceAdd, Nat.reduceLeDiff, sx, ← List.map_take, ← List.map_drop, List.length_take, List.length_drop]) <;> rfl) ?_
  refine rs_ [4, 8] ?_
  refine dawp_p rfl (by (simp (disch := omega) only [push_cast, ↓reduceIte, Nat.reduceEqDiff, Nat.reduceAdd, Nat.reduceLeDiff, sx, ← List.map_take, ← List.map_drop, List.length_take, List.length_drop]) <;> rfl) rfl rfl ?_
  refine dawp_h rfl (by (simp (disch := omega) only [push_cast, ↓reduceIte, Nat.reduceEqDiff, Nat.reduceAdd, Nat.reduceLeDiff, sx, ← List.map_take, ← List.map_drop, List.length_take, List.length_drop]) <;> rfl) rfl rfl ?_
  refine dawp_w rfl rfl rfl rfl (AOp.callx _ _ _ rfl (by (simp (disch := omega) only [push_cast, ↓reduceIte, Nat.reduceEqDiff, Nat.reduceAdd, Nat.reduceLeDiff, sx, ← List.map_take, ← List.map_drop, List.length_take, List.length_drop]) <;> rfl) (by (simp (disch := omega) only [push_cast, ↓reduceIte, Nat.reduceEqDiff, Nat.reduceAdd, Nat.reduceLeDiff, sx, ← List.map_take, ← List.map_drop, List.length_take, List.length_drop]) <;> rfl) ?_)
  refine (c65 _ _ _ _ (by omega)).mono ?_; rintro _ _ _ ⟨rfl, rfl, rfl⟩
  refine dawp_p rfl (by (simp (disch := omega) only [push_cast, ↓reduceIte, Nat.reduceEqDiff, Nat.reduceAdd, Nat.reduceLeDiff, sx, ← List.map_take, ← List.map_drop, List.length_take, List.length_drop]) <;> rfl) rfl rfl ?_
  refine dawp_hn rfl (by (simp (disch := omega) only [push_cast, ↓reduceIte, Nat.reduceEqDiff, Nat.reduceAdd, Nat.reduceLeDiff, sx, ← List.map_take, ← List.map_drop, List.length_take, List.length_drop]) <;> rfl) rfl ?_
  refine re_ (hf := by (simp (disch := omega) only [push_cast, ↓reduceIte, Nat.reduceEqDiff, Nat.reduceAdd, Nat.reduceLeDiff, sx, ← List.map_take, ← List.map_drop, List.length_take, List.length_drop]) <;> rfl) (hh := by (try simp (disch := omega) only [push_cast, ↓reduceIte, Nat.reduceEqDiff, Nat.reduceAdd, Nat.reduceLeDiff, sx, ← List.map_take, ← List.map_drop, List.length_take, List.length_drop]) <;> rfl) ?_
  refine rs_ [8] ?_
  refine dawp_h rfl (by (simp (disch := omega) only [push_cast, ↓reduceIte, Nat.reduceEqDiff, Nat.reduceAdd, Nat.reduceLeDiff, sx, ← List.map_take, ← List.map_drop, List.length_take, List.length_drop]) <;> rfl) rfl rfl ?_
  refine dawp_hn rfl (by (simp (disch := omega) only [push_cast, ↓reduceIte, Nat.reduceEqDiff, Nat.reduceAdd, Nat.reduceLeDiff, sx, ← List.map_take, ← List.map_drop, List.length_take, List.length_drop]) <;> rfl) rfl ?_
  refine re_ (hf := by (simp (disch := omega) only [push_cast, ↓reduceIte, Nat.reduceEqDiff, Nat.reduceAdd, Nat.reduceLeDiff, sx, ← List.map_take, ← List.map_drop, List.length_take, List.length_drop]) <;> rfl) (hh := by (try simp (disch := omega) only [push_cast, ↓reduceIte, Nat.reduceEqDiff, Nat.reduceAdd, Nat.reduceLeDiff, sx, ← List.map_take, ← List.map_drop, List.length_take, List.length_drop]) <;> rfl) ?_
  refine awp_ret (up_ ?_)
  refine fz_ (h1 := h) (hres := by (simp (disch := omega) only [aresults, aresult, push_cast, ↓reduceIte, Nat.reduceEqDiff, Nat.reduceAdd, Nat.reduceLeDiff, sx, ← List.map_take, ← List.map_drop, List.length_take, List.length_drop]) <;> rfl) Tryz.results111 (hx := (with_frz n (n.ents.take a) m (n.ents.drop b) h _ _ (rep (n.ents.length + 1) [.str [], .int .i64 0]) (n.ents.length + 1) (by rw [rep_length]; simp; omega) (a + m.length + (n.ents.length - b)) (by simp [Nat.min_eq_left ha]; omega) (a * 2) ((a + m.length) * 2) (by simp [Nat.min_eq_left ha]) (by simp [Nat.min_eq_left ha]))) (hcl := (by exact clL_ndC _ _)) (hK := ?_)
  exact ⟨by first | rfl | rw [List.append_assoc], rfl, rfl⟩


def badN (s : List UInt8) (id : Int) : Bool := decide (id < 1) || decide (s = []) || decide (s = [46]) || decide (s = [46, 46]) || s.any sl0
/-- Where a name is to stand. -/
def spot (l : List En) (s : List UInt8) : Nat := if idxP (gtS s) l < 0 then l.length else (idxP (gtS s) l).toNat
def insF (l : List En) (s : List UInt8) (id : Int) : List En := l.take (spot l s) ++ ([(s, id)] ++ l.drop (spot l s))
def withN (n : Nd) (s : List UInt8) (id : Int) : Nd × Int :=
  if n.kind ≠ 2 then (nd0, 20) else bif badN s id then (nd0, 22) else if (12 : Int) < s.length then (nd0, 36) else if 0 ≤ idxP (eqS s) n.ents then (nd0, 17) else if (8 : Int) ≤ n.ents.length then (nd0, 28) else (nWith n (insF n.ents s id), 0)
theorem spot_le (l : List En) (s : List UInt8) : spot l s ≤ l.length := by
  unfold spot
  have := idxP_range (gtS s) l
  split <;> omega
theorem spot_neg {l : List En} {s : List UInt8} (h : idxP (gtS s) l < 0) : spot l s = l.length := if_pos h
theorem spot_pos {l : List En} {s : List UInt8} (h : 0 ≤ idxP (gtS s) l) : idxP (gtS s) l = (spot l s : Nat) := by
  unfold spot; rw [if_neg (by omega)]; omega
theorem withN_ok {n : Nd} {s : List UInt8} {id : Int} (ho : NdOk n) (hs : s.length ≤ 9223372036854775807) : NdOk (withN n s id).1 := by
  unfold withN
  split
  · exact ndOk_0
  · cases badN s id with
    | true => exact ndOk_0
    | false =>
      rw [cond_false]
      split
      · exact ndOk_0
      · split
        · exact ndOk_0
        · split
          · exact ndOk_0
          · have := spot_le n.ents s
            refine ⟨ho.1, ?_, ho.2.2.1, fun e he => ?_⟩
            · show (insF n.ents s id).length ≤ 1000
              simp [insF]; omega
            · rcases List.mem_append.1 he with h | h
              · exact ho.2.2.2 e (List.mem_of_mem_take h)
              · rcases List.mem_append.1 h with h | h
                · rw [List.mem_singleton.1 h]; exact hs
                · exact ho.2.2.2 e (List.mem_of_mem_drop h)

theorem c84 (n : Nd) (s : List UInt8) (id : Int) (h : List Blk) (live : List Nat) (ho : NdOk n) (hs : s.length ≤ 9223372036854775807) : ACalls Tryz.prog 84 [.agg (ndC n), .str s, .int .i64 id] h live (ret (.tup [.agg (ndC (withN n s id).1), .int .i64 (withN n s id).2]) h live) := by
  refine ab_ Tryz.func84 (hw := fun hH hX => ?_)
  have ho' := ho
  obtain ⟨ho1, ho2, ho3⟩ := ho'
  have hsl := spot_le n.ents s
  have sx := sx0
  refine rg_ [2, 3, 4, 6] ?_
  refine sk_ fun K1 hK1 => ?_
  refine awp_block ?_
  refine rg_ [2, 3, 4, 6, 9] ?_
  refine cd_ (ht := fun hb1 => ?_) (hf := fun hb1 => ?_)
  · refine rg_ [6, 7] ?_
    refine awp_ret (up_ ?_)
    refine fp_ Tryz.results84 (hx := by (simp only [atuple, AV.er, AV.erL, push_cast, erL_bV, erL_eV, er_ndC]) <;> rfl) (hcl := (by simp [AV.cl, AV.clL, clL_ndC, nd0, -List.map_map])) (hK := ?_)
    exact ⟨by unfold withN; rw [if_pos hb1]; rfl, rfl, rfl⟩
  refine rs_ [2, 3, 4, 6, 14] ?_
  refine sg_ ?_
  refine cg_ (hc := fun hg => c108 s _ _ (by omega)) (k := ?_)
  refine sg_ ?_
  refine re_ ?_
  refine cb_ (ht := fun hb2 => ?_) (hf := fun hb2 => ?_)
  · have hbd : badN s id = true := hb2
    refine rg_ [6, 7] ?_
    refine awp_ret (up_ ?_)
    refine fp_ Tryz.results84 (hx := by (simp only [atuple, AV.er, AV.erL, push_cast, erL_bV, erL_eV, er_ndC]) <;> rfl) (hcl := (by simp [AV.cl, AV.clL, clL_ndC, nd0, -List.map_map])) (hK := ?_)
    exact ⟨by unfold withN; rw [if_neg (fun h => h hb1), hbd]; rfl, rfl, rfl⟩
  have hbd : badN s id = false := hb2
  refine rg_ [2, 3, 4, 6, 34] ?_
  refine cd_ (ht := fun hb3 => ?_) (hf := fun hb3 => ?_)
  · refine rg_ [6, 7] ?_
    refine awp_ret (up_ ?_)
    refine fp_ Tryz.results84 (hx := by (simp only [atuple, AV.er, AV.erL, push_cast, erL_bV, erL_eV, er_ndC]) <;> rfl) (hcl := (by simp [AV.cl, AV.clL, clL_ndC, nd0, -List.map_map])) (hK := ?_)
    exact ⟨by unfold withN; rw [if_neg (fun h => h hb1), hbd, cond_false, if_pos hb3]; rfl, rfl, rfl⟩
  refine rs_ [2, 3, 4, 6, 39] ?_
  refine sg_ ?_
  refine cl_ (hc := c109 _ _ _ _ ho) (k := ?_)
  refine sg_ ?_
  refine re_ ?_
  refine cd_ (ht := fun hb4 => ?_) (hf := fun hb4 => ?_)
  · refine rg_ [6, 7] ?_
    refine awp_ret (up_ ?_)
    refine fp_ Tryz.results84 (hx := by (simp only [atuple, AV.er, AV.erL, push_cast, erL_bV, erL_eV, er_ndC]) <;> rfl) (hcl := (by simp [AV.cl, AV.clL, clL_ndC, nd0, -List.map_map])) (hK := ?_)
    exact ⟨by unfold withN; rw [if_neg (fun h => h hb1), hbd, cond_false, if_neg (by omega), if_pos hb4]; rfl, rfl, rfl⟩
  refine rg_ [2, 3, 4, 6, 45] ?_
  refine cd_ (ht := fun hb5 => ?_) (hf := fun hb5 => ?_)
  · refine rg_ [6, 7] ?_
    refine awp_ret (up_ ?_)
    refine fp_ Tryz.results84 (hx := by (simp only [atuple, AV.er, AV.erL, push_cast, erL_bV, erL_eV, er_ndC]) <;> rfl) (hcl := (by simp [AV.cl, AV.clL, clL_ndC, nd0, -List.map_map])) (hK := ?_)
    exact ⟨by unfold withN; rw [if_neg (fun h => h hb1), hbd, cond_false, if_neg (by omega), if_neg (by omega), if_pos hb5]; rfl, rfl, rfl⟩
  refine awp_skip (up_ ?_)
  refine hK1 _ ?_
  refine rs_ [2, 3, 4, 6, 8] ?_
  refine sg_ ?_
  refine cl_ (hc := c64 n.ents _ 110 [.ptr (h.length + 1) 0] (gtS s) _ _ (by omega) (fun e => c110 (h.length + 1) s e _ _ (by simp only [push_cast])) (by simp [AV.cl, AV.clL])) (k := ?_)
  refine sg_ ?_
  refine re_ ?_
  refine sk_ fun K2 hK2 => ?_
  refine rg_ [2, 3, 4, 6, 8, 56] ?_
  refine cd_ (ht := fun hb6 => ?_) (hf := fun hb6 => ?_)
  · have hspl : (n.ents.length : Int) = (spot n.ents s : Nat) := by rw [spot_neg hb6]
    refine rt_ [2, 3, 4, 6, 8] ?_
    refine sg_ ?_
    refine rn_ (up_ ?_)
    refine hK2 _ ?_
    refine rs_ [6, 7] ?_
    refine sg_ ?_
    try simp only [hspl]
    refine cl_ (hc := c111 n (spot n.ents s) (spot n.ents s) [(s, id)] _ _ _ ho hsl hsl (by simp) (by simp)) (k := ?_)
    refine sg_ ?_
    refine re_ ?_
    refine awp_ret (up_ ?_)
    refine fp_ Tryz.results84 (hx := by (simp only [atuple, AV.er, AV.erL, push_cast, erL_bV, erL_eV, er_ndC]) <;> rfl) (hcl := (by simp [AV.cl, AV.clL, clL_ndC, nd0, -List.map_map])) (hK := ?_)
    exact ⟨by unfold withN; rw [if_neg (fun h => h hb1), hbd, cond_false, if_neg (by omega), if_neg (by omega), if_neg (by omega)]; rfl, rfl, rfl⟩
  have hsp := spot_pos hb6
  simp only [hsp]
  refine awp_skip (up_ ?_)
  refine hK2 _ ?_
  refine rs_ [6, 7] ?_
  refine sg_ ?_
  try simp only [hspl]
  refine cl_ (hc := c111 n (spot n.ents s) (spot n.ents s) [(s, id)] _ _ _ ho hsl hsl (by simp) (by simp)) (k := ?_)
  refine sg_ ?_
  refine re_ ?_
  refine awp_ret (up_ ?_)
  refine fp_ Tryz.results84 (hx := by (simp only [atuple, AV.er, AV.erL, push_cast, erL_bV, erL_eV, er_ndC]) <;> rfl) (hcl := (by simp [AV.cl, AV.clL, clL_ndC, nd0, -List.map_map])) (hK := ?_)
  exact ⟨by unfold withN; rw [if_neg (fun h => h hb1), hbd, cond_false, if_neg (by omega), if_neg (by omega), if_neg (by omega)]; rfl, rfl, rfl⟩

end Go.Proofs.YtjoklidphbmpoaaGreat
