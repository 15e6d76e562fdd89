import Derived.Test.YtjoklidphbmpoaaGreatA3
/-
  TABLES: a table of nodes, in a block.
-/
namespace Go.Proofs.YtjoklidphbmpoaaGreat
open Go.Ab
set_option linter.unusedVariables false
set_option linter.unusedSimpArgs false
set_option maxRecDepth 8000
set_option maxHeartbeats 400000


/-- A node: what it is, and its bytes, entries and target. -/
structure Nd where
  kind : Int
  mode : Int
  uid : Int
  gid : Int
  data : List UInt8
  ents : List En
  target : List UInt8
  deriving DecidableEq
def nd0 : Nd := ⟨0, 0, 0, 0, [], [], []⟩
def ndC (n : Nd) : List AV := [.int .i64 n.kind, .int .i64 n.mode, .int .i64 n.uid, .int .i64 n.gid, .slice (n.data.map bV) .none, .slice (n.ents.map eV) .none, .str n.target]
def tabC : List Nd → List AV
  | [] => []
  | n :: r => ndC n ++ tabC r
structure Tab where
  room : Int
  ns : List Nd
def tabBlk (T : Tab) : Blk := .cells (.int .i64 T.room :: tabC T.ns)
def NdOk (n : Nd) : Prop := n.data.length ≤ 1000 ∧ n.ents.length ≤ 1000 ∧ n.target.length ≤ 1000 ∧ ∀ e ∈ n.ents, e.1.length ≤ 9223372036854775807
structure Tab.Ok (T : Tab) : Prop where
  lo : 1 ≤ T.room
  hi : T.room ≤ 24
  len : T.ns.length = 24
  nd : ∀ n ∈ T.ns, NdOk n
  zero : ∀ n ∈ T.ns, n.kind = 0 → n = nd0
theorem ndOk_0 : NdOk nd0 := ⟨by decide, by decide, by decide, fun e he => by cases he⟩
theorem cast24 : ((24 : Nat) : Int) = 24 := rfl
attribute [push_cast high] cast24
theorem ndC_len (n : Nd) : (ndC n).length = 7 := rfl
theorem tabC_len (ns : List Nd) : (tabC ns).length = ns.length * 7 := by
  induction ns with
  | nil => rfl
  | cons n r ih => simp only [tabC, List.length_append, ih, ndC_len, List.length_cons]; omega
theorem tabC_get : ∀ (ns : List Nd) (j q : Nat), j < ns.length → q < 7 → (tabC ns)[j * 7 + q]? = (ndC (ns.getD j nd0))[q]?
  | n :: r, 0, q, _, hq => by
    simp only [tabC, Nat.zero_mul, Nat.zero_add, List.getD_cons_zero]
    rw [List.getElem?_append_left (by rw [ndC_len]; exact hq)]
  | n :: r, j + 1, q, hj, hq => by
    simp only [tabC, List.getD_cons_succ]
    rw [List.getElem?_append_right (by rw [ndC_len]; omega), ndC_len, show (j + 1) * 7 + q - 7 = j * 7 + q by omega]
    exact tabC_get r j q (by simpa using hj) hq
theorem tabC_drop : ∀ (ns : List Nd) (j : Nat), j < ns.length → ((tabC ns).drop (j * 7)).take 7 = ndC (ns.getD j nd0)
  | n :: r, 0, _ => by
    simp only [tabC, Nat.zero_mul, List.drop_zero, List.getD_cons_zero]
    exact List.take_left' (ndC_len n)
  | n :: r, j + 1, hj => by
    simp only [tabC, List.getD_cons_succ]
    rw [List.drop_append, List.drop_of_length_le (by rw [ndC_len]; omega), ndC_len, List.nil_append, show (j + 1) * 7 - 7 = j * 7 by omega]
    exact tabC_drop r j (by simpa using hj)
theorem tab_room (T : Tab) : blkGet (some (tabBlk T)) 0 .one = some (.int .i64 T.room) := rfl
theorem tab_nd (T : Tab) {j q : Nat} (hj : j < T.ns.length) (hq : q < 7) : blkGet (some (tabBlk T)) (1 + j * 7 + q) .one = (ndC (T.ns.getD j nd0))[q]? := by
  show (AV.int .i64 T.room :: tabC T.ns)[1 + j * 7 + q]? = _
  rw [show 1 + j * 7 + q = (j * 7 + q) + 1 by omega, List.getElem?_cons_succ, tabC_get _ _ _ hj hq]
theorem tab_kind (T : Tab) {j : Nat} (hj : j < T.ns.length) : blkGet (some (tabBlk T)) (1 + j * 7 + 0) .one = some (.int .i64 (T.ns.getD j nd0).kind) := tab_nd T (q := 0) hj (by omega)
theorem tab_ents (T : Tab) {j : Nat} (hj : j < T.ns.length) : blkGet (some (tabBlk T)) (1 + j * 7 + 5) .one = some (.slice ((T.ns.getD j nd0).ents.map eV) .none) := tab_nd T (q := 5) hj (by omega)
theorem tab_agg (T : Tab) {j : Nat} (hj : j < T.ns.length) : blkGet (some (tabBlk T)) (1 + j * 7) (.agg 7) = some (.agg (ndC (T.ns.getD j nd0))) := by
  show (if 1 + j * 7 + 7 ≤ (AV.int .i64 T.room :: tabC T.ns).length then some (AV.agg (((AV.int .i64 T.room :: tabC T.ns).drop (1 + j * 7)).take 7)) else none) = _
  rw [if_pos (by rw [List.length_cons, tabC_len]; omega), show 1 + j * 7 = (j * 7) + 1 by omega, List.drop_succ_cons, tabC_drop _ _ hj]
def Tab.put (T : Tab) (j : Nat) (n : Nd) : Tab := ⟨T.room, T.ns.set j n⟩
theorem putAt_cons {α : Type} (x : α) : ∀ (v c : List α) (off : Nat), putAt (x :: c) (off + 1) v = x :: putAt c off v
  | [], _, _ => rfl
  | y :: v, c, off => by
    show putAt ((x :: c).set (off + 1) y) (off + 1 + 1) v = x :: putAt (c.set off y) (off + 1) v
    rw [List.set_cons_succ, putAt_cons x v]
theorem putAt_right {α : Type} (a : List α) : ∀ (v c : List α) (off : Nat), putAt (a ++ c) (a.length + off) v = a ++ putAt c off v
  | [], _, _ => rfl
  | y :: v, c, off => by
    show putAt ((a ++ c).set (a.length + off) y) (a.length + off + 1) v = a ++ putAt (c.set off y) (off + 1) v
    rw [List.set_append_right _ _ (Nat.le_add_right _ _), Nat.add_sub_cancel_left, Nat.add_assoc, putAt_right a v]
theorem putAt_tabC : ∀ (ns : List Nd) (j : Nat) (n : Nd), j < ns.length → putAt (tabC ns) (j * 7) (ndC n) = tabC (ns.set j n)
  | m :: r, 0, n, _ => rfl
  | m :: r, j + 1, n, hj => by
    simp only [tabC, List.set_cons_succ]
    rw [show (j + 1) * 7 = (ndC m).length + j * 7 by rw [ndC_len]; omega, putAt_right, putAt_tabC r j n (by simpa using hj)]
theorem tab_put (T : Tab) {j : Nat} (n : Nd) (hj : j < T.ns.length) : blkPut (some (tabBlk T)) (1 + j * 7) (.agg 7) (.agg (ndC n)) = some (tabBlk (T.put j n)) := by
  show (if fits (.agg 7) (.agg (ndC n)) = true ∧ 1 + j * 7 + (ndC n).length ≤ (AV.int .i64 T.room :: tabC T.ns).length then some (Blk.cells (putAt (AV.int .i64 T.room :: tabC T.ns) (1 + j * 7) (ndC n))) else none) = _
  rw [if_pos ⟨rfl, by rw [ndC_len, List.length_cons, tabC_len]; omega⟩, Nat.add_comm 1, putAt_cons, putAt_tabC _ _ _ hj]
  rfl
theorem clL_ndC (m : Nat) (n : Nd) : AV.clL m (ndC n) := by simp [ndC, AV.clL, AV.cl, clL_bV, clL_eV, -List.map_map]
theorem clL_append' (m : Nat) : ∀ (a b : List AV), AV.clL m a → AV.clL m b → AV.clL m (a ++ b)
  | [], b, _, h => h
  | x :: a, b, h1, h2 => ⟨h1.1, clL_append' m a b h1.2 h2⟩
theorem clL_tabC (m : Nat) : ∀ (ns : List Nd), AV.clL m (tabC ns)
  | [] => trivial
  | n :: r => clL_append' m _ _ (clL_ndC m n) (clL_tabC m r)
theorem cl_tab (m : Nat) (T : Tab) : (tabBlk T).cl m := ⟨trivial, clL_tabC m T.ns⟩
theorem er_ndC (n : Nd) : AV.erL (ndC n) = ndC n := by simp [ndC, AV.erL, AV.er, erL_bV, erL_eV, -List.map_map]
theorem putAt7 (a b c d e f g : AV) (n : Nd) : putAt [a, b, c, d, e, f, g] 0 (ndC n) = ndC n := rfl
theorem putAt7' (m n : Nd) : putAt (ndC m) 0 (ndC n) = ndC n := rfl
theorem take7 (n : Nd) : (ndC n).take 7 = ndC n := rfl
theorem ndC_0 (n : Nd) : (ndC n)[0]? = some (.int .i64 n.kind) := rfl
theorem ndC_1 (n : Nd) : (ndC n)[1]? = some (.int .i64 n.mode) := rfl
theorem ndC_2 (n : Nd) : (ndC n)[2]? = some (.int .i64 n.uid) := rfl
theorem ndC_3 (n : Nd) : (ndC n)[3]? = some (.int .i64 n.gid) := rfl
theorem ndC_4 (n : Nd) : (ndC n)[4]? = some (.slice (n.data.map bV) .none) := rfl
theorem ndC_5 (n : Nd) : (ndC n)[5]? = some (.slice (n.ents.map eV) .none) := rfl
theorem ndC_6 (n : Nd) : (ndC n)[6]? = some (.str n.target) := rfl
attribute [push_cast] putAt7 putAt7' take7 ndC_0 ndC_1 ndC_2 ndC_3 ndC_4 ndC_5 ndC_6 ndC_len
/-- Where a node stands in a table's list. -/
def Tab.at (T : Tab) (i : Int) : Option Nat := if 1 ≤ i ∧ i ≤ T.room ∧ (T.ns.getD (i - 1).toNat nd0).kind ≠ 0 then some (i - 1).toNat else none
def Tab.get (T : Tab) (i : Int) : Nd × Bool := match T.at i with
  | some j => (T.ns.getD j nd0, true)
  | none => (nd0, false)
def nodeP (k : Nat) : Option Nat → AV
  | some j => .ptr k (1 + j * 7)
  | none => .raw (.pointer none)
theorem nodeP_nil (P : Program) (t : TypeId) (k : Nat) (o : Option Nat) (b : Bool) (h : ∀ k j, abinOpT P .eql t b (.ptr k (1 + j * 7)) (.raw (.pointer none)) = some (.bool false)) (h' : abinOpT P .eql t b (.raw (.pointer none)) (.raw (.pointer none)) = some (.bool true)) : abinOpT P .eql t b (nodeP k o) (.raw (.pointer none)) = some (.bool o.isNone) := by
  cases o with
  | none => exact h'
  | some j => exact h k j
theorem nodeP_none (k : Nat) : nodeP k none = .raw (.pointer none) := rfl
theorem nodeP_some (k j : Nat) : nodeP k (some j) = .ptr k (1 + j * 7) := rfl
attribute [push_cast] nodeP_none nodeP_some
theorem at_some {T : Tab} {i : Int} {j : Nat} (hT : T.Ok) (h : T.at i = some j) : j < T.ns.length ∧ i = j + 1 ∧ i ≤ T.room ∧ (T.ns.getD j nd0).kind ≠ 0 := by
  unfold Tab.at at h
  split at h
  · rename_i hc
    cases h
    have := hT.len; have := hT.hi
    exact ⟨by omega, by omega, hc.2.1, hc.2.2⟩
  · cases h
theorem get_at {T : Tab} {i : Int} {j : Nat} (h : T.at i = some j) : T.get i = (T.ns.getD j nd0, true) := by unfold Tab.get; rw [h]
theorem get_no {T : Tab} {i : Int} (h : T.at i = none) : T.get i = (nd0, false) := by unfold Tab.get; rw [h]
theorem atApp {h g : List Blk} {k : Nat} {b : Blk} (hk : h[k]? = some b) : (h ++ g)[k]? = some b := by
  rw [List.getElem?_append_left (List.getElem?_eq_some_iff.1 hk).1]; exact hk
theorem getD_nd {T : Tab} (hT : T.Ok) (j : Nat) : NdOk (T.ns.getD j nd0) := by
  by_cases h : j < T.ns.length
  · rw [List.getD_eq_getElem?_getD, List.getElem?_eq_getElem h]; exact hT.nd _ (List.getElem_mem h)
  · rw [List.getD_eq_getElem?_getD, List.getElem?_eq_none (by omega)]; exact ndOk_0
theorem get_ok {T : Tab} (hT : T.Ok) (i : Int) : NdOk (T.get i).1 := by
  unfold Tab.get
  split
  · exact getD_nd hT _
  · exact ndOk_0

attribute [push_cast] clL_ndC clL_tabC er_ndC

theorem n51 (i : Int) (h : List Blk) (live : List Nat) : ACalls Tryz.prog 51 [.raw (.pointer none), .int .i64 i] h live (ret (.raw (.pointer none)) h live) := by
  refine ab_ Tryz.func51 (hw := fun hH hX => ?_)
  have sx := sx0
  refine rg_ [0, 1] ?_
  refine sk_ fun K1 hK1 => ?_
  refine rs_ [0, 1, 29] ?_
  iterate 3 (refine dawp_p rfl (by (simp (disch := omega) only [push_cast, ↓reduceIte, Nat.reduceEqDiff, Nat.reduceAdd, Nat.reduceLeDiff, sx]) <;> rfl) rfl rfl ?_)
  iterate 2 (refine dawp_g rfl rfl (by simp only [push_cast, ↓reduceIte, Nat.reduceEqDiff, Nat.reduceAdd, Nat.reduceLeDiff, sx]; rfl) (fun hg => by simp (disch := omega) only [hg, push_cast, ↓reduceIte, Nat.reduceEqDiff, Nat.reduceAdd, Nat.reduceLeDiff, sx]; rfl) rfl rfl ?_)
  iterate 2 (refine dawp_p rfl (by (simp (disch := omega) only [push_cast, ↓reduceIte, Nat.reduceEqDiff, Nat.reduceAdd, Nat.reduceLeDiff, sx]) <;> rfl) rfl rfl ?_)
  iterate 2 (refine dawp_g rfl rfl (by simp only [push_cast, ↓reduceIte, Nat.reduceEqDiff, Nat.reduceAdd, Nat.reduceLeDiff, sx]; rfl) (fun hg => by simp (disch := omega) only [hg, push_cast, ↓reduceIte, Nat.reduceEqDiff, Nat.reduceAdd, Nat.reduceLeDiff, sx]; rfl) rfl rfl ?_)
  iterate 2 (refine dawp_g (x := .undef) rfl rfl (by simp only [push_cast, and_true, cond_true, cond_false, if_pos, if_neg, ↓reduceIte]; rfl) (fun hg => by simp at hg) rfl rfl ?_)
  refine dawp_gh (x := .undef) rfl rfl (by simp only [push_cast, and_true, cond_true, cond_false, if_pos, if_neg, ↓reduceIte]; rfl) (fun hg => by simp at hg) rfl rfl ?_
  refine dawp_g (x := .undef) rfl rfl (by simp only [push_cast, and_true, cond_true, cond_false, if_pos, if_neg, ↓reduceIte]; rfl) (fun hg => by simp at hg) rfl rfl ?_
  iterate 2 (refine dawp_p rfl (by (simp (disch := omega) only [push_cast, ↓reduceIte, Nat.reduceEqDiff, Nat.reduceAdd, Nat.reduceLeDiff, sx]) <;> rfl) rfl rfl ?_)
  iterate 3 (refine dawp_g rfl rfl (by simp only [push_cast, ↓reduceIte, Nat.reduceEqDiff, Nat.reduceAdd, Nat.reduceLeDiff, sx]; rfl) (fun hg => by simp (disch := omega) only [hg, push_cast, ↓reduceIte, Nat.reduceEqDiff, Nat.reduceAdd, Nat.reduceLeDiff, sx]; rfl) rfl rfl ?_)
  iterate 4 (refine dawp_g (x := .undef) rfl rfl (by simp only [push_cast, and_true, cond_true, cond_false, if_pos, if_neg, ↓reduceIte]; rfl) (fun hg => by simp at hg) rfl rfl ?_)
  refine dawp_gh (x := .undef) rfl rfl (by simp only [push_cast, and_true, cond_true, cond_false, if_pos, if_neg, ↓reduceIte]; rfl) (fun hg => by simp at hg) rfl rfl ?_
  refine dawp_g (x := .undef) rfl rfl (by simp only [push_cast, and_true, cond_true, cond_false, if_pos, if_neg, ↓reduceIte]; rfl) (fun hg => by simp at hg) rfl rfl ?_
  refine sg_ ?_
  refine re_ ?_
  refine cdy_ (ht := fun hb1 => ?_) (hf := fun hb1 => ?_)
  · refine rg_ [4] ?_
    refine awp_ret (up_ ?_)
    refine fp_ Tryz.results51 (hK := ?_)
    exact ⟨rfl, rfl, rfl⟩
  exfalso; exact Bool.noConfusion hb1

theorem c51 (T : Tab) (k : Nat) (i : Int) (h : List Blk) (live : List Nat) (hk : h[k]? = some (tabBlk T)) (hT : T.Ok) : ACalls Tryz.prog 51 [.ptr k 0, .int .i64 i] h live (ret (nodeP k (T.at i)) h live) := by
  refine ab_ Tryz.func51 (hw := fun hH hX => ?_)
  have hkl : k < h.length := (List.getElem?_eq_some_iff.1 hk).1
  obtain ⟨hlo, hhi, hlen, -, -⟩ := hT
  have sx := (And.intro @hk (And.intro @tab_room (And.intro @tab_kind (And.intro @Bool.false_or sx0))))
  refine rg_ [0, 1] ?_
  refine sk_ fun K1 hK1 => ?_
  refine rg_ [0, 1, 29] ?_
  refine cd_ (ht := fun hb1 => ?_) (hf := fun hb1 => ?_)
  · have ha : T.at i = none := by
      unfold Tab.at; rw [if_neg]; rintro ⟨h1, h2, h3⟩; rcases hb1 with (h | h) | h
      · omega
      · omega
      · exact h3 h
    refine rg_ [4] ?_
    refine awp_ret (up_ ?_)
    refine fp_ Tryz.results51 (hcl := (by simp [AV.cl, AV.clL, hkl])) (hK := ?_)
    refine ⟨?_, rfl, rfl⟩
    rw [ha]; rfl
  have ha : T.at i = some (i - 1).toNat := by
    unfold Tab.at; rw [if_pos ⟨hb1.1.1, hb1.1.2, hb1.2⟩]
  refine awp_skip (up_ ?_)
  refine hK1 _ ?_
  refine rg_ [4] ?_
  refine awp_ret (up_ ?_)
  refine fp_ Tryz.results51 (hcl := (by simp [AV.cl, AV.clL, hkl])) (hK := ?_)
  refine ⟨?_, rfl, rfl⟩
  rw [ha]; rfl

theorem n23 (h : List Blk) (live : List Nat) : ACalls Tryz.prog 23 [.raw (.pointer none)] h live (ret (.int .i64 0) h live) := by
  refine ab_ Tryz.func23 (hw := fun hH hX => ?_)
  have sx := sx0
  refine rg_ [0] ?_
  refine sk_ fun K1 hK1 => ?_
  refine rg_ [0, 4] ?_
  refine cdy_ (ht := fun hb1 => ?_) (hf := fun hb1 => ?_)
  · refine rg_ [2] ?_
    refine awp_ret (up_ ?_)
    refine fp_ Tryz.results23 (hK := ?_)
    exact ⟨rfl, rfl, rfl⟩
  exfalso; exact Bool.noConfusion hb1

theorem c23 (T : Tab) (k : Nat) (h : List Blk) (live : List Nat) (hk : h[k]? = some (tabBlk T)) : ACalls Tryz.prog 23 [.ptr k 0] h live (ret (.int .i64 T.room) h live) := by
  refine ab_ Tryz.func23 (hw := fun hH hX => ?_)
  have sx := (And.intro @hk (And.intro @tab_room sx0))
  refine rg_ [0] ?_
  refine sk_ fun K1 hK1 => ?_
  refine rg_ [0, 4] ?_
  refine cdn_ (ht := fun hb1 => ?_) (hf := fun hb1 => ?_)
  · exfalso; exact Bool.noConfusion hb1
  refine awp_skip (up_ ?_)
  refine hK1 _ ?_
  refine rg_ [2] ?_
  refine awp_ret (up_ ?_)
  refine fp_ Tryz.results23 (hK := ?_)
  exact ⟨rfl, rfl, rfl⟩

theorem c37 (n : Nd) (h : List Blk) (live : List Nat) (hn : NdOk n) : ACalls Tryz.prog 37 [.agg (ndC n)] h live (ret (.agg (ndC n)) h live) := by
  refine ab_ Tryz.func37 (hw := fun hH hX => ?_)
  obtain ⟨hn1, hn2, hn3⟩ := hn
  unfold ndC
  have sx := sx0
  refine rg_ [1, 2] ?_
  refine rs_ [1, 2] ?_
  refine sg_ ?_
  refine cl_ (hc := c65 _ _ _ _ (by omega)) (k := ?_)
  refine sg_ ?_
  refine re_ ?_
  refine rs_ [1, 2] ?_
  refine sg_ ?_
  refine cl_ (hc := c66 _ _ _ _ (by omega)) (k := ?_)
  refine sg_ ?_
  refine re_ ?_
  refine rg_ [2] ?_
  refine awp_ret (up_ ?_)
  refine fp_ Tryz.results37 (hx := by (simp only [atuple, AV.er, AV.erL, push_cast, erL_bV, erL_eV]) <;> rfl) (hcl := (by simp [AV.cl, AV.clL, clL_bV, clL_eV, -List.map_map])) (hK := ?_)
  exact ⟨rfl, rfl, rfl⟩

theorem n18 (T : Tab) (k : Nat) (i : Int) (h : List Blk) (live : List Nat)  : ACalls Tryz.prog 18 [.raw (.pointer none), .int .i64 i] h live (ret (.tup [.agg (ndC nd0), .bool false]) h live) := by
  refine ab_ Tryz.func18 (hw := fun hH hX => ?_)
  have sx := sx0
  refine rg_ [0, 1, 4] ?_
  refine rs_ [4, 6] ?_
  refine sg_ ?_
  refine cl_ (hc := n51 i _ _) (k := ?_)
  refine sg_ ?_
  refine re_ ?_
  refine sk_ fun K1 hK1 => ?_
  refine rg_ [4, 6, 11] ?_
  refine cdy_ (ht := fun hb1 => ?_) (hf := fun hb1 => ?_)
  · refine rg_ [4, 5] ?_
    refine awp_ret (up_ ?_)
    refine fp_ Tryz.results18 (hx := by (simp only [atuple, AV.er, AV.erL, push_cast, erL_bV, erL_eV, er_ndC]) <;> rfl) (hcl := (by simp [AV.cl, AV.clL, clL_ndC, nd0, -List.map_map])) (hK := ?_)
    exact ⟨rfl, rfl, rfl⟩
  exfalso; exact Bool.noConfusion hb1

theorem gn18 (T : Tab) (k : Nat) (i : Int) (h : List Blk) (live : List Nat) (hk : h[k]? = some (tabBlk T)) (hT : T.Ok) (ha : T.at i = none) : ACalls Tryz.prog 18 [.ptr k 0, .int .i64 i] h live (ret (.tup [.agg (ndC nd0), .bool false]) h live) := by
  refine ab_ Tryz.func18 (hw := fun hH hX => ?_)
  have sx := (And.intro @ha sx0)
  refine rg_ [0, 1, 4] ?_
  refine rs_ [4, 6] ?_
  refine sg_ ?_
  refine cl_ (hc := c51 T k i _ _ (atApp hk) hT) (k := ?_)
  refine sg_ ?_
  refine re_ ?_
  refine sk_ fun K1 hK1 => ?_
  refine rg_ [4, 6, 11] ?_
  refine cdy_ (ht := fun hb1 => ?_) (hf := fun hb1 => ?_)
  · refine rg_ [4, 5] ?_
    refine awp_ret (up_ ?_)
    refine fp_ Tryz.results18 (hx := by (simp only [atuple, AV.er, AV.erL, push_cast, erL_bV, erL_eV, er_ndC]) <;> rfl) (hcl := (by simp [AV.cl, AV.clL, clL_ndC, nd0, -List.map_map])) (hK := ?_)
    exact ⟨rfl, rfl, rfl⟩
  exfalso; exact Bool.noConfusion hb1

theorem gs18 (T : Tab) (k : Nat) (i : Int) (h : List Blk) (live : List Nat) (hk : h[k]? = some (tabBlk T)) (hT : T.Ok) (j : Nat) (ha : T.at i = some j) : ACalls Tryz.prog 18 [.ptr k 0, .int .i64 i] h live (ret (.tup [.agg (ndC (T.ns.getD j nd0)), .bool true]) h live) := by
  refine ab_ Tryz.func18 (hw := fun hH hX => ?_)
  have hkl : k < h.length := (List.getElem?_eq_some_iff.1 hk).1
  obtain ⟨hj, hij, hir, hkd⟩ := at_some hT ha
  have sx := (And.intro @ha (And.intro @hk (And.intro @tab_agg sx0)))
  refine rs_ [0, 1, 4] ?_
  refine dawp_h rfl (by (simp (disch := omega) only [push_cast, ↓reduceIte, Nat.reduceEqDiff, Nat.reduceAdd, Nat.reduceLeDiff, sx, List.getElem?_append_left hkl]) <;> rfl) rfl rfl ?_
  refine dawp_p rfl (by (simp (disch := omega) only [push_cast, ↓reduceIte, Nat.reduceEqDiff, Nat.reduceAdd, Nat.reduceLeDiff, sx, List.getElem?_append_left hkl]) <;> rfl) rfl rfl ?_
  refine re_ (hf := by (simp (disch := omega) only [push_cast, ↓reduceIte, Nat.reduceEqDiff, Nat.reduceAdd, Nat.reduceLeDiff, sx, List.getElem?_append_left hkl]) <;> rfl) (hh := by (try simp (disch := omega) only [push_cast, ↓reduceIte, Nat.reduceEqDiff, Nat.reduceAdd, Nat.reduceLeDiff, sx, List.getElem?_append_left hkl]) <;> rfl) ?_
  refine rs_ [4, 6] ?_
  iterate 2 (refine dawp_p rfl (by (simp (disch := omega) only [push_cast, ↓reduceIte, Nat.reduceEqDiff, Nat.reduceAdd, Nat.reduceLeDiff, sx, List.getElem?_append_left hkl]) <;> rfl) rfl rfl ?_)
  refine dawp_w rfl rfl rfl rfl (AOp.callx _ _ _ rfl (by (simp (disch := omega) only [push_cast, ↓reduceIte, Nat.reduceEqDiff, Nat.reduceAdd, Nat.reduceLeDiff, sx, List.getElem?_append_left hkl]) <;> rfl) (by (simp (disch := omega) only [push_cast, ↓reduceIte, Nat.reduceEqDiff, Nat.reduceAdd, Nat.reduceLeDiff, sx, List.getElem?_append_left hkl]) <;> rfl) ?_)
  refine (c51 T k i _ _ (atApp hk) hT).mono ?_; rintro _ _ _ ⟨rfl, rfl, rfl⟩
  refine dawp_p rfl (by (simp (disch := omega) only [push_cast, ↓reduceIte, Nat.reduceEqDiff, Nat.reduceAdd, Nat.reduceLeDiff, sx, List.getElem?_append_left hkl]) <;> rfl) rfl rfl ?_
  refine re_ (hf := by (simp (disch := omega) only [push_cast, ↓reduceIte, Nat.reduceEqDiff, Nat.reduceAdd, Nat.reduceLeDiff, sx, List.getElem?_append_left hkl]) <;> rfl) (hh := by (try simp (disch := omega) only [push_cast, ↓reduceIte, Nat.reduceEqDiff, Nat.reduceAdd, Nat.reduceLeDiff, sx, List.getElem?_append_left hkl]) <;> rfl) ?_
  refine sk_ fun K1 hK1 => ?_
  refine rs_ [4, 6, 11] ?_
  iterate 2 (refine dawp_p rfl (by (simp (disch := omega) only [push_cast, ↓reduceIte, Nat.reduceEqDiff, Nat.reduceAdd, Nat.reduceLeDiff, sx, List.getElem?_append_left hkl]) <;> rfl) rfl rfl ?_)
  refine re_ (hf := by (simp (disch := omega) only [push_cast, ↓reduceIte, Nat.reduceEqDiff, Nat.reduceAdd, Nat.reduceLeDiff, sx, List.getElem?_append_left hkl]) <;> rfl) (hh := by (try simp (disch := omega) only [push_cast, ↓reduceIte, Nat.reduceEqDiff, Nat.reduceAdd, Nat.reduceLeDiff, sx, List.getElem?_append_left hkl]) <;> rfl) ?_
  refine cdn_ (hb := by (simp (disch := omega) only [push_cast, ↓reduceIte, Nat.reduceEqDiff, Nat.reduceAdd, Nat.reduceLeDiff, sx, List.getElem?_append_left hkl]) <;> rfl) (ht := fun hb1 => ?_) (hf := fun hb1 => ?_)
  · exfalso; exact Bool.noConfusion hb1
  refine awp_skip (up_ ?_)
  refine hK1 _ ?_
  refine rs_ [4, 5] ?_
  iterate 2 (refine dawp_p rfl (by (simp (disch := omega) only [push_cast, ↓reduceIte, Nat.reduceEqDiff, Nat.reduceAdd, Nat.reduceLeDiff, sx, List.getElem?_append_left hkl]) <;> rfl) rfl rfl ?_)
  refine dawp_h rfl (by (simp (disch := omega) only [push_cast, ↓reduceIte, Nat.reduceEqDiff, Nat.reduceAdd, Nat.reduceLeDiff, sx, List.getElem?_append_left hkl]) <;> rfl) rfl rfl ?_
  refine dawp_w rfl rfl rfl rfl (AOp.callx _ _ _ rfl (by (simp (disch := omega) only [push_cast, ↓reduceIte, Nat.reduceEqDiff, Nat.reduceAdd, Nat.reduceLeDiff, sx, List.getElem?_append_left hkl]) <;> rfl) (by (simp (disch := omega) only [push_cast, ↓reduceIte, Nat.reduceEqDiff, Nat.reduceAdd, Nat.reduceLeDiff, sx, List.getElem?_append_left hkl]) <;> rfl) ?_)
  refine (c37 _ _ _ (getD_nd hT _)).mono ?_; rintro _ _ _ ⟨rfl, rfl, rfl⟩
  refine dawp_hn rfl (by (simp (disch := omega) only [push_cast, ↓reduceIte, Nat.reduceEqDiff, Nat.reduceAdd, Nat.reduceLeDiff, sx, List.getElem?_append_left hkl]) <;> rfl) rfl ?_
  refine dawp_p rfl (by (simp (disch := omega) only [push_cast, ↓reduceIte, Nat.reduceEqDiff, Nat.reduceAdd, Nat.reduceLeDiff, sx, List.getElem?_append_left hkl]) <;> rfl) rfl rfl ?_
  refine re_ (hf := by (simp (disch := omega) only [push_cast, ↓reduceIte, Nat.reduceEqDiff, Nat.reduceAdd, Nat.reduceLeDiff, sx, List.getElem?_append_left hkl]) <;> rfl) (hh := by (try simp (disch := omega) only [push_cast, ↓reduceIte, Nat.reduceEqDiff, Nat.reduceAdd, Nat.reduceLeDiff, sx, List.getElem?_append_left hkl]) <;> rfl) ?_
  refine awp_ret (up_ ?_)
  refine fp_ (hres := by (simp (disch := omega) only [aresults, aresult, push_cast, ↓reduceIte, Nat.reduceEqDiff, Nat.reduceAdd, Nat.reduceLeDiff, sx, List.getElem?_append_left hkl]) <;> rfl) Tryz.results18 (hx := by (simp only [atuple, AV.er, AV.erL, push_cast, erL_bV, erL_eV, er_ndC]) <;> rfl) (hcl := (by simp [AV.cl, AV.clL, clL_ndC, nd0, -List.map_map])) (hK := ?_)
  exact ⟨rfl, rfl, rfl⟩

set_option maxRecDepth 8000 in
theorem c18 (T : Tab) (k : Nat) (i : Int) (h : List Blk) (live : List Nat) (hk : h[k]? = some (tabBlk T)) (hT : T.Ok) : ACalls Tryz.prog 18 [.ptr k 0, .int .i64 i] h live (ret (.tup [.agg (ndC (T.get i).1), .bool (T.get i).2]) h live) := by
  rcases ha : T.at i with _ | j
  · simp only [get_no ha]; exact gn18 T k i h live hk hT ha
  · simp only [get_at ha]; exact gs18 T k i h live hk hT j ha

end Go.Proofs.YtjoklidphbmpoaaGreat
