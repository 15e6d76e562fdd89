import Derived.Test.YtjoklidphbmpoaaGreatA17
/-
  TABLES: copied, taken from, compared, counted; played on.
-/
namespace Go.Proofs.YtjoklidphbmpoaaGreat
open Go.Ab
set_option linter.unusedVariables false
set_option linter.unusedSimpArgs false
set_option maxRecDepth 8000
set_option maxHeartbeats 400000


/-- What is done to a table: put, added, or taken away. -/
structure Ac where
  d : UInt8
  i : Int
  n : Nd
def acC (a : Ac) : List AV := .int .u8 a.d.toNat :: .int .i64 a.i :: ndC a.n
def aV (a : Ac) : AV := .agg (acC a)
def ac0 : Ac := ⟨0, 0, nd0⟩
theorem acC_len (a : Ac) : (acC a).length = 9 := rfl
theorem acC_0 (a : Ac) : (acC a)[0]? = some (.int .u8 a.d.toNat) := rfl
theorem acC_1 (a : Ac) : (acC a)[1]? = some (.int .i64 a.i) := rfl
theorem acTake (a : Ac) : List.take 7 (List.drop 2 (acC a)) = ndC a.n := rfl
attribute [push_cast] acC_len acC_0 acC_1 acTake
theorem clL_acC (n : Nat) (a : Ac) : AV.clL n (acC a) := ⟨trivial, trivial, clL_ndC _ _⟩
theorem clL_aV (n : Nat) (l : List Ac) : AV.clL n (l.map aV) := by
  rw [AV.clL_mem]; intro x hx; obtain ⟨y, _, rfl⟩ := List.mem_map.1 hx; exact clL_acC n y
theorem getD_aV {l : List Ac} {i : Nat} {d : AV} (h : i < l.length) : (l.map aV).getD i d = .agg (acC (l.getD i ac0)) := by
  simp [List.getD_eq_getElem?_getD, h, aV]
theorem allSz_aV (l : List Ac) : allSz (l.map aV) 9 ↔ True := iff_true_intro (allSz_map _ _ _ fun _ => rfl)
attribute [push_cast] getD_aV allSz_aV
def bigA (a : Ac) : Bool := decide ((20 : Int) < a.n.ents.length) || decide ((100 : Int) < a.n.data.length) || decide ((100 : Int) < a.n.target.length)
def smallF (l : List Ac) : Bool := !(l.any bigA) && decide ((l.length : Int) ≤ 12)
def dropT (T : Tab) (i : Int) : Tab := match T.at i with
  | none => T
  | some j => T.put j nd0
def actF (T : Tab) (a : Ac) : Tab := if a.d = 0 then (putT T a.i a.n).2 else if a.d = 1 then (addT T a.n).2 else dropT T a.i
def playF (T : Tab) (l : List Ac) : Tab := l.foldl actF T
theorem dropT_ok {T : Tab} (hT : T.Ok) (i : Int) : (dropT T i).Ok := by
  unfold dropT
  split
  · exact hT
  · refine ⟨hT.lo, hT.hi, by show (T.ns.set _ nd0).length = 24; rw [List.length_set]; exact hT.len, fun m hm => ?_, fun m hm h0 => ?_⟩
    · rcases List.mem_or_eq_of_mem_set hm with h | h
      · exact hT.nd m h
      · rw [h]; exact ndOk_0
    · rcases List.mem_or_eq_of_mem_set hm with h | h
      · exact hT.zero m h h0
      · exact h
theorem actF_ok {T : Tab} (hT : T.Ok) {a : Ac} (ha : NdOk a.n) : (actF T a).Ok := by
  unfold actF
  split
  · exact putT_ok hT ha _
  · split
    · exact addT_ok hT ha
    · exact dropT_ok hT _
theorem playF_ok : ∀ {l : List Ac} {T : Tab}, T.Ok → (∀ a ∈ l, NdOk a.n) → (playF T l).Ok
  | [], _, hT, _ => hT
  | a :: l, _, hT, h => playF_ok (l := l) (actF_ok hT (h a (by simp))) fun b hb => h b (by simp [hb])
theorem playF_get (T : Tab) {l : List Ac} {m : Nat} (hm : m < l.length) : playF T (l.drop m) = playF (actF T (l.getD m ac0)) (l.drop (m + 1)) := by
  rw [List.drop_eq_getElem_cons hm]
  simp only [playF, List.foldl_cons, List.getD_eq_getElem?_getD, List.getElem?_eq_getElem hm, Option.getD_some]
theorem put_self (T : Tab) (j : Nat) : T.put j (T.ns.getD j nd0) = T := by
  unfold Tab.put
  have : T.ns.set j (T.ns.getD j nd0) = T.ns := by
    refine List.ext_getElem? fun i => ?_
    rw [List.getElem?_set]
    split
    · rename_i e; subst e
      split
      · rename_i hl; simp [List.getD_eq_getElem?_getD, hl]
      · rename_i hl; exact (List.getElem?_eq_none (by omega)).symm
    · rfl
  rw [this]
def sameT (A B : Tab) : Bool := (List.range 24).all fun j => sameF (A.get ((j : Int) + 1)).1 (B.get ((j : Int) + 1)).1
theorem allR_t {p : Nat → Bool} {n : Nat} (h : ∀ j, j < n → p j = true) : (List.range n).all p = true := List.all_eq_true.2 fun j hj => h j (List.mem_range.1 hj)
theorem allR_f {p : Nat → Bool} {m n : Nat} (hm : m < n) (h : p m = false) : (List.range n).all p = false := List.all_eq_false.2 ⟨m, List.mem_range.2 hm, by simp [h]⟩
def Tab.usedN (T : Tab) : Nat → Int
  | 0 => 0
  | m + 1 => bif (T.at ((m : Int) + 1)).isSome then IntKind.i64.wrap (T.usedN m + 1) else T.usedN m
def Tab.used (T : Tab) : Int := T.usedN T.room.toNat
theorem tab_all (T : Tab) (hT : T.Ok) : blkGet (some (tabBlk T)) 0 (.agg 169) = some (.agg (.int .i64 T.room :: tabC T.ns)) := by
  have hl : (tabC T.ns).length = 168 := by rw [tabC_len, hT.len]
  show (if 0 + 169 ≤ (AV.int .i64 T.room :: tabC T.ns).length then some (AV.agg (((AV.int .i64 T.room :: tabC T.ns).drop 0).take 169)) else none) = _
  rw [if_pos (by rw [List.length_cons, hl]; omega), List.drop_zero, List.take_of_length_le (by rw [List.length_cons, hl]; omega)]
theorem clone_put (T : Tab) (hT : T.Ok) : blkPut (some (.cells (.int .i64 0 :: zRest))) 0 (.agg 169) (.agg (.int .i64 T.room :: tabC T.ns)) = some (tabBlk T) := by
  have hl : (tabC T.ns).length = 168 := by rw [tabC_len, hT.len]
  show (if ((AV.int .i64 T.room :: tabC T.ns).length == 169) = true ∧ 0 + (AV.int .i64 T.room :: tabC T.ns).length ≤ (AV.int .i64 0 :: zRest).length then some (Blk.cells (putAt (AV.int .i64 0 :: zRest) 0 (AV.int .i64 T.room :: tabC T.ns))) else none) = _
  rw [if_pos ⟨by rw [List.length_cons, hl]; rfl, by rw [List.length_cons, List.length_cons, hl, zRest_len]; omega⟩, putAt_eq _ _ _ (by rw [List.length_cons, List.length_cons, hl, zRest_len]; omega)]
  rw [List.take_zero, List.nil_append, List.length_cons, hl, List.drop_of_length_le (by rw [List.length_cons, zRest_len]; omega), List.append_nil]; rfl
theorem cl_tabC (m : Nat) (T : Tab) : AV.clL m (.int .i64 T.room :: tabC T.ns) := ⟨trivial, clL_tabC _ _⟩
theorem small_nd {l : List Ac} (h : smallF l = true) {a : Ac} (ha : a ∈ l) (hn : ∀ e ∈ a.n.ents, e.1.length ≤ 9223372036854775807) : NdOk a.n := by
  simp only [smallF, Bool.and_eq_true, Bool.not_eq_true'] at h
  have := List.any_eq_false.1 h.1 a ha
  simp only [bigA, Bool.not_eq_true, Bool.or_eq_false_iff, decide_eq_false_iff_not, Int.not_lt] at this
  exact ⟨by omega, by omega, by omega, hn⟩

attribute [push_cast] clL_acC clL_aV

theorem c14 (l : List Ac) (h : List Blk) (live : List Nat) (hl : l.length ≤ 9223372036854775807) : ACalls Tryz.prog 14 [.slice (l.map aV) .none] h live (ret (.bool (smallF l)) h live) := by
  refine ab_ Tryz.func14 (hw := fun hH hX => ?_)
  have sx := sx0
  refine rg_ [0] ?_
  refine sk_ fun K1 hK1 => ?_
  refine rg_ [0, 3] ?_
  refine awp_block ?_
  refine awp_loop' (X := {i : Nat // i ≤ l.length ∧ ∀ j, j < i → bigA (l.getD j ac0) = false}) (fun x => ⟨Tryz.f14.ntmps, fget [(0, .slice (l.map aV) .none), (3, .int .i64 (x.1 : Nat))], h, live⟩) (fun x => l.length - x.1) (⟨0, by omega, fun j hj => by omega⟩) ?_ (by first | rfl | simp only [List.length_set]) (fun ⟨i, hi, hno⟩ => ?_)
  · try dsimp only
    exact tf_ hH (fun _ h => h)
  try dsimp only
  refine sk_ fun K2 hK2 => ?_
  refine rg_ [0, 3, 8] ?_
  refine cd_ (ht := fun hb1 => ?_) (hf := fun hb1 => ?_)
  rotate_left
  · have hal : l.any bigA = false := any_getD_f ac0 fun j hj => hno j (by omega)
    refine awp_exit (up_ ?_)
    refine hK1 _ ?_
    refine rg_ [2] ?_
    refine awp_ret (up_ ?_)
    refine fp_ Tryz.results14 (hK := ?_)
    exact ⟨by unfold smallF; rw [hal]; rfl, rfl, rfl⟩
  have hil : i < l.length := by omega
  refine awp_skip (up_ ?_)
  refine hK2 _ ?_
  refine sk_ fun K3 hK3 => ?_
  refine awp_block ?_
  refine rg_ [0, 3, 4] ?_
  refine rg_ [0, 3, 31] ?_
  refine cb_ (ht := fun hb2 => ?_) (hf := fun hb2 => ?_)
  · have hal : l.any bigA = true := any_getD_t ac0 hil hb2
    refine rg_ [2] ?_
    refine awp_ret (up_ ?_)
    refine fp_ Tryz.results14 (hK := ?_)
    exact ⟨by unfold smallF; rw [hal]; rfl, rfl, rfl⟩
  refine awp_skip (up_ ?_)
  refine hK3 _ ?_
  refine rt_ [0, 3] ?_
  refine sg_ ?_
  refine rn_ (up_ ?_)
  refine ⟨⟨i + 1, by omega, fun j hj => by rcases Nat.lt_succ_iff_lt_or_eq.1 hj with h | h; exact hno j h; subst h; exact hb2⟩, ?_, (by first | rfl | trivial | (simp only [List.length_set]; done) | simp), by dsimp only; omega⟩
  try dsimp only
  exact tf_ hH (fun _ h => h)

theorem c15 (T : Tab) (k : Nat) (h : List Blk) (live : List Nat) (hk : h[k]? = some (tabBlk T)) (hT : T.Ok) : ACalls Tryz.prog 15 [.ptr k 0] h live (ret (.ptr h.length 0) (h ++ [tabBlk T]) live) := by
  refine ab_ Tryz.func15 (hw := fun hH hX => ?_)
  have hkl := lt_of_get hk
  have hk1 : ∀ g : List Blk, (h ++ g)[k]? = some (tabBlk T) := fun g => atApp hk
  have hk2 : ∀ (y : Blk) (g : List Blk), (h ++ g).set k y = h.set k y ++ g := fun y g => setApp hk
  have ht1 := tab_all T hT
  have ht2 := clone_put T hT
  have ht3 : (tabC T.ns).length = 168 := by rw [tabC_len, hT.len]
  have hlen := hT.len
  have hps := put_self T
  have hB := hcl_new hH T
  have sx := (And.intro @hk (And.intro @hk1 (And.intro @ht1 (And.intro @azero_tab (And.intro @tk_tab (And.intro @hps (And.intro @tab_agg (And.intro @tab_put sx0))))))))
  refine rg_ [0] ?_
  refine sk_ fun K1 hK1 => ?_
  refine rg_ [0, 6] ?_
  refine cdn_ (ht := fun hb1 => ?_) (hf := fun hb1 => ?_)
  · exfalso; exact Bool.noConfusion hb1
  refine awp_skip (up_ ?_)
  refine hK1 _ ?_
  refine rs_ [3] ?_
  iterate 2 (refine dawp_p rfl (by (simp (disch := omega) only [push_cast, ↓reduceIte, Nat.reduceEqDiff, Nat.reduceAdd, Nat.reduceLeDiff, sx]) <;> rfl) rfl rfl ?_)
  iterate 2 (refine dawp_h rfl (by (simp (disch := omega) only [push_cast, ↓reduceIte, Nat.reduceEqDiff, Nat.reduceAdd, Nat.reduceLeDiff, sx]) <;> rfl) rfl rfl ?_)
  refine dawp_hn rfl (show _ = some (AV.undef, h ++ [tabBlk T]) from by simp only [sH_store, astore_eq, tk_tab, ev_tmp, fget_cons, fget_nil, Nat.reduceEqDiff, ↓reduceIte, storeOf_ptr, get_app0, List.getElem?_cons_zero, cells_agg, ht2, setOf_some, set_app0, List.set_cons_zero, withU_some]) rfl ?_
  refine re_ ?_
  refine sk_ fun K2 hK2 => ?_
  refine rg_ [3, 10] ?_
  refine awp_block ?_
  refine awp_loop' (X := {i : Nat // i ≤ 24}) (fun x => ⟨Tryz.f15.ntmps, fget [(3, .ptr h.length 0), (10, .int .i64 (x.1 : Nat))], h ++ [tabBlk T], live⟩) (fun x => 24 - x.1) (⟨0, by omega⟩) ?_ (by first | rfl | simp only [List.length_set]) (fun ⟨i, hi⟩ => ?_)
  · try dsimp only
    exact tf_ hB (fun _ h => h)
  try dsimp only
  refine rg_ [3, 10, 11] ?_
  refine sk_ fun K3 hK3 => ?_
  refine cd_ (ht := fun hb2 => ?_) (hf := fun hb2 => ?_)
  rotate_left
  · refine awp_exit (up_ ?_)
    refine hK2 _ ?_
    refine rg_ [2] ?_
    refine awp_ret (up_ ?_)
    refine fg_ (h1 := h ++ [tabBlk T]) Tryz.results15 (hH := hB) (hK := ?_)
    exact ⟨rfl, rfl, rfl⟩
  have hil : i < 24 := by omega
  refine awp_skip (up_ ?_)
  refine hK3 _ ?_
  refine sk_ fun K4 hK4 => ?_
  refine awp_block ?_
  refine rg_ [3, 4, 10] ?_
  refine rt_ [3, 10] ?_
  refine sg_ ?_
  refine cl_ (hc := c37 _ _ _ (getD_nd hT _)) (k := ?_)
  refine sg_ ?_
  refine rn_ (up_ ?_)
  refine hK4 _ ?_
  refine rt_ [3, 10] ?_
  refine sg_ ?_
  refine rn_ (up_ ?_)
  refine ⟨⟨i + 1, by omega⟩, ?_, (by first | rfl | trivial | (simp only [List.length_set]; done) | simp), by dsimp only; omega⟩
  try dsimp only
  exact tf_ hB (fun _ h => h)

theorem dn40 (T : Tab) (k : Nat) (i : Int) (h : List Blk) (live : List Nat) (hk : h[k]? = some (tabBlk T)) (hT : T.Ok) (ha : T.at i = none) : ACalls Tryz.prog 40 [.ptr k 0, .int .i64 i] h live (ret (.bool false) h live) := by
  refine ab_ Tryz.func40 (hw := fun hH hX => ?_)
  have sx := (And.intro @ha sx0)
  refine rg_ [0, 1] ?_
  refine rs_ [5] ?_
  refine sg_ ?_
  refine cl_ (hc := c51 T k i _ _ hk hT) (k := ?_)
  refine sg_ ?_
  refine re_ ?_
  refine sk_ fun K1 hK1 => ?_
  refine rg_ [5, 10] ?_
  refine cdy_ (ht := fun hb1 => ?_) (hf := fun hb1 => ?_)
  · refine rg_ [4] ?_
    refine awp_ret (up_ ?_)
    refine fp_ Tryz.results40 (hK := ?_)
    exact ⟨rfl, rfl, rfl⟩
  exfalso; exact Bool.noConfusion hb1


def zNd : List AV := [.int .i64 0, .int .i64 0, .int .i64 0, .int .i64 0, .slice [] .full, .slice [] .full, .str []]
/-- A table's cells behind a drop. -/
def drC (T : Tab) (j : Nat) : List AV := putAt (.int .i64 T.room :: tabC T.ns) (1 + j * 7) zNd
theorem drop_put (T : Tab) {j : Nat} (hj : j < T.ns.length) : blkPut (some (tabBlk T)) (1 + j * 7) (.agg 7) (.agg [.int .i64 0, .int .i64 0, .int .i64 0, .int .i64 0, .slice [] .full, .slice [] .full, .str []]) = some (.cells (drC T j)) := by
  show (if fits (.agg 7) (.agg zNd) = true ∧ 1 + j * 7 + 7 ≤ (AV.int .i64 T.room :: tabC T.ns).length then some (Blk.cells (drC T j)) else none) = _
  rw [if_pos ⟨rfl, by rw [List.length_cons, tabC_len]; omega⟩]
theorem erL_putAt : ∀ (v c : List AV) (off : Nat), AV.erL (putAt c off v) = putAt (AV.erL c) off (AV.erL v)
  | [], _, _ => rfl
  | x :: v, c, off => by
    show AV.erL (putAt (c.set off x) (off + 1) v) = putAt ((AV.erL c).set off x.er) (off + 1) (AV.erL v)
    rw [erL_putAt v]; simp only [AV.erL_map, List.map_set]
theorem erL_tabC : ∀ ns : List Nd, AV.erL (tabC ns) = tabC ns
  | [] => rfl
  | n :: r => by
    show AV.erL (ndC n ++ tabC r) = ndC n ++ tabC r
    rw [AV.erL_map, List.map_append, ← AV.erL_map, ← AV.erL_map, er_ndC, erL_tabC r]
theorem drop_er (T : Tab) {j : Nat} (hj : j < T.ns.length) : tabBlk (T.put j nd0) = (Blk.cells (drC T j)).er := by
  show Blk.cells (.int .i64 T.room :: tabC (T.ns.set j nd0)) = Blk.cells (AV.erL (drC T j))
  unfold drC
  rw [erL_putAt, show AV.erL (AV.int .i64 T.room :: tabC T.ns) = .int .i64 T.room :: tabC T.ns from congrArg _ (erL_tabC _), show AV.erL zNd = ndC nd0 from rfl, Nat.add_comm 1, putAt_cons, putAt_tabC _ _ _ hj]

attribute [push_cast] erL_putAt erL_tabC

theorem ds40 (T : Tab) (k : Nat) (i : Int) (j : Nat) (h : List Blk) (live : List Nat) (hk : h[k]? = some (tabBlk T)) (hT : T.Ok) (ha : T.at i = some j) : ACalls Tryz.prog 40 [.ptr k 0, .int .i64 i] h live (ret (.bool true) (h.set k (tabBlk (T.put j nd0))) live) := by
  refine ab_ Tryz.func40 (hw := fun hH hX => ?_)
  have hkl := lt_of_get hk
  have hk1 : ∀ g : List Blk, (h ++ g)[k]? = some (tabBlk T) := fun g => atApp hk
  have hk2 : ∀ (y : Blk) (g : List Blk), (h ++ g).set k y = h.set k y ++ g := fun y g => setApp hk
  obtain ⟨hj, hij, hir, hkd⟩ := at_some hT ha
  have ht0 := drop_put T hj
  have sx := (And.intro @ha (And.intro @hk (And.intro @hk1 (And.intro @ht0 sx0))))
  refine rg_ [0, 1] ?_
  refine rs_ [5] ?_
  refine sg_ ?_
  refine cl_ (hc := c51 T k i _ _ hk hT) (k := ?_)
  refine sg_ ?_
  refine re_ ?_
  refine sk_ fun K1 hK1 => ?_
  refine rg_ [5, 10] ?_
  refine cdn_ (ht := fun hb1 => ?_) (hf := fun hb1 => ?_)
  · exfalso; exact Bool.noConfusion hb1
  refine awp_skip (up_ ?_)
  refine hK1 _ ?_
  refine rg_ [] ?_
  refine rg_ [4] ?_
  refine awp_ret (up_ ?_)
  refine fe_ (h1 := h.set k (tabBlk (T.put j nd0))) Tryz.results40 (hh := ⟨h.set k _, [], (List.append_nil _).symm, BW.set (drop_er T hj)⟩) (hH := (hcl_tab hH _ _)) (hK := ?_)
  exact ⟨rfl, rfl, rfl⟩

theorem c40 (T : Tab) (k : Nat) (i : Int) (h : List Blk) (live : List Nat) (hk : h[k]? = some (tabBlk T)) (hT : T.Ok) : ACalls Tryz.prog 40 [.ptr k 0, .int .i64 i] h live (ret (.bool (T.at i).isSome) (h.set k (tabBlk (dropT T i))) live) := by
  unfold dropT
  cases ha : T.at i with
  | none => rw [set_self hk]; exact dn40 T k i h live hk hT ha
  | some j => exact ds40 T k i j h live hk hT ha

theorem c16 (T : Tab) (k : Nat) (l : List Ac) (h : List Blk) (live : List Nat) (hk : h[k]? = some (tabBlk T)) (hT : T.Ok) (hl : l.length ≤ 1000) (hn : ∀ a ∈ l, NdOk a.n) : ACalls Tryz.prog 16 [.ptr k 0, .slice (l.map aV) .none] h live (ret (.tup []) (h.set k (tabBlk (playF T l))) live) := by
  refine ab_ Tryz.func16 (hw := fun hH hX => ?_)
  have hkl := lt_of_get hk
  have hse : h.set k (tabBlk T) = h := set_self hk
  have hcl : ∀ x, HCl (h.set k (tabBlk x)) := fun x => hcl_tab hH _ _
  have hget : ∀ x, (h.set k (tabBlk x))[k]? = some (tabBlk x) := fun x => get_setk hkl
  have hnd : ∀ m, NdOk (l.getD m ac0).n := fun m => by
    by_cases hm : m < l.length
    · rw [List.getD_eq_getElem?_getD, List.getElem?_eq_getElem hm]; exact hn _ (List.getElem_mem hm)
    · rw [List.getD_eq_getElem?_getD, List.getElem?_eq_none (by omega)]; exact ndOk_0
  have sx := sx0
  refine rg_ [0, 1, 4] ?_
  refine awp_block ?_
  refine awp_loop' (X := {p : Nat × Tab // p.1 ≤ l.length ∧ p.2.Ok ∧ playF T l = playF p.2 (l.drop p.1)}) (fun x => ⟨Tryz.f16.ntmps, fget [(0, .ptr k 0), (1, .slice (l.map aV) .none), (4, .int .i64 (x.1.1 : Nat))], h.set k (tabBlk x.1.2), live⟩) (fun x => l.length - x.1.1) (⟨⟨0, T⟩, Nat.zero_le _, hT, rfl⟩) ?_ (by first | rfl | simp only [List.length_set]) (fun ⟨⟨m, U⟩, hm, hU, hpl⟩ => ?_)
  · try dsimp only
    exact tf_ (hcl _) (fun _ h => h) (hj := (by first | (rw [List.append_nil]; exact hse.symm) | (rw [List.append_nil]; unfold actF; first | rw [if_pos hd0] | rw [if_neg hd0, if_pos hd1] | rw [if_neg hd0, if_neg hd1])))
  try dsimp only
  dsimp only at hm hU hpl
  have hUm := actF_ok hU (hnd m)
  refine sk_ fun K1 hK1 => ?_
  refine rg_ [0, 1, 4, 8] ?_
  refine cd_ (ht := fun hb1 => ?_) (hf := fun hb1 => ?_)
  rotate_left
  · have hme : m = l.length := by omega
    subst hme
    refine awp_exit (up_ ?_)
    refine fg_ (h1 := h.set k (tabBlk (playF T l))) Tryz.results16 (hh := (⟨[], by rw [List.append_nil, hpl, List.drop_length]; rfl⟩)) (hH := (hcl _)) (hK := ?_)
    exact ⟨rfl, rfl, rfl⟩
  have hml : m < l.length := by omega
  refine awp_skip (up_ ?_)
  refine hK1 _ ?_
  refine sk_ fun K2 hK2 => ?_
  refine awp_block ?_
  refine rg_ [0, 1, 4, 15] ?_
  refine awp_block ?_
  refine rg_ [0, 1, 4, 15, 23] ?_
  refine cb_ (ht := fun hb2 => ?_) (hf := fun hb2 => ?_)
  · have hd0 : (l.getD m ac0).d = 0 := UInt8.toNat_inj.1 (by simp only [decide_eq_true_eq, decide_eq_false_iff_not, Bool.not_eq_true', Bool.not_eq_false', Bool.or_eq_true, Bool.and_eq_true, Bool.or_eq_false_iff, Bool.and_eq_false_imp, Int.not_lt, Int.not_le] at hb2; show (l.getD m ac0).d.toNat = 0; omega)
    refine rtq_ [0, 1, 4] ⟨false, [], [], [], [], [], 0⟩ (fun _ => ⟨by kernel_rfl, by kernel_rfl⟩) ?_
    refine sg_ ?_
    refine cl_ (hc := c38 U k _ _ _ _ (hget U) hU (hnd m)) (k := ?_)
    refine rn_ (up_ ?_)
    refine hK2 _ ?_
    refine rt_ [0, 1, 4] ?_
    refine sg_ ?_
    refine rn_ (up_ ?_)
    refine ⟨⟨⟨m + 1, actF U (l.getD m ac0)⟩, by dsimp only; omega, hUm, by rw [hpl, playF_get U hml]⟩, ?_, (by simp only [List.length_set]), by dsimp only; omega⟩
    try dsimp only
    exact tf_ (hcl _) (fun _ h => h) (hj := (by first | (rw [List.append_nil]; exact hse.symm) | (rw [List.append_nil]; unfold actF; first | rw [if_pos hd0] | rw [if_neg hd0, if_pos hd1] | rw [if_neg hd0, if_neg hd1])))
  have hd0 : ¬ (l.getD m ac0).d = 0 := fun e => by rw [e] at hb2; simp at hb2
  refine rg_ [0, 1, 4, 37] ?_
  refine cb_ (ht := fun hb3 => ?_) (hf := fun hb3 => ?_)
  · have hd1 : (l.getD m ac0).d = 1 := UInt8.toNat_inj.1 (by simp only [decide_eq_true_eq, decide_eq_false_iff_not, Bool.not_eq_true', Bool.not_eq_false', Bool.or_eq_true, Bool.and_eq_true, Bool.or_eq_false_iff, Bool.and_eq_false_imp, Int.not_lt, Int.not_le] at hb3; show (l.getD m ac0).d.toNat = 1; omega)
    refine rt_ [0, 1, 4] ?_
    refine sg_ ?_
    refine cl_ (hc := c39 U k _ _ _ (hget U) hU (hnd m)) (k := ?_)
    refine rn_ (up_ ?_)
    refine hK2 _ ?_
    refine rt_ [0, 1, 4] ?_
    refine sg_ ?_
    refine rn_ (up_ ?_)
    refine ⟨⟨⟨m + 1, actF U (l.getD m ac0)⟩, by dsimp only; omega, hUm, by rw [hpl, playF_get U hml]⟩, ?_, (by simp only [List.length_set]), by dsimp only; omega⟩
    try dsimp only
    exact tf_ (hcl _) (fun _ h => h) (hj := (by first | (rw [List.append_nil]; exact hse.symm) | (rw [List.append_nil]; unfold actF; first | rw [if_pos hd0] | rw [if_neg hd0, if_pos hd1] | rw [if_neg hd0, if_neg hd1])))
  have hd1 : ¬ (l.getD m ac0).d = 1 := fun e => by rw [e] at hb3; simp at hb3
  refine rt_ [0, 1, 4] ?_
  refine sg_ ?_
  refine cl_ (hc := c40 U k _ _ _ (hget U) hU) (k := ?_)
  refine rn_ (up_ ?_)
  refine hK2 _ ?_
  refine rt_ [0, 1, 4] ?_
  refine sg_ ?_
  refine rn_ (up_ ?_)
  refine ⟨⟨⟨m + 1, actF U (l.getD m ac0)⟩, by dsimp only; omega, hUm, by rw [hpl, playF_get U hml]⟩, ?_, (by simp only [List.length_set]), by dsimp only; omega⟩
  try dsimp only
  exact tf_ (hcl _) (fun _ h => h) (hj := (by first | (rw [List.append_nil]; exact hse.symm) | (rw [List.append_nil]; unfold actF; first | rw [if_pos hd0] | rw [if_neg hd0, if_pos hd1] | rw [if_neg hd0, if_neg hd1])))

theorem c19 (Ta Tb : Tab) (ka kb : Nat) (h : List Blk) (live : List Nat) (hka : h[ka]? = some (tabBlk Ta)) (hkb : h[kb]? = some (tabBlk Tb)) (hTa : Ta.Ok) (hTb : Tb.Ok) : ACalls Tryz.prog 19 [.ptr ka 0, .ptr kb 0] h live (ret (.bool (sameT Ta Tb)) h live) := by
  refine ab_ Tryz.func19 (hw := fun hH hX => ?_)
  have hal := lt_of_get hka
  have hbl := lt_of_get hkb
  have sx := sx0
  refine rg_ [0, 1] ?_
  refine sk_ fun K1 hK1 => ?_
  refine rg_ [0, 1, 10] ?_
  refine awp_block ?_
  refine awp_loop' (X := {m : Nat // m ≤ 24 ∧ ∀ j, j < m → sameF (Ta.get ((j : Int) + 1)).1 (Tb.get ((j : Int) + 1)).1 = true}) (fun x => ⟨Tryz.f19.ntmps, fget [(0, .ptr ka 0), (1, .ptr kb 0), (10, .int .i64 (x.1 : Nat))], h, live⟩) (fun x => 24 - x.1) (⟨0, by omega, fun j hj => by omega⟩) ?_ (by first | rfl | simp only [List.length_set]) (fun ⟨m, hm, hs⟩ => ?_)
  · try dsimp only
    exact tf_ hH (fun _ h => h)
  try dsimp only
  refine rg_ [0, 1, 10, 11] ?_
  refine sk_ fun K2 hK2 => ?_
  refine cd_ (ht := fun hb1 => ?_) (hf := fun hb1 => ?_)
  rotate_left
  · have hme : m = 24 := by omega
    subst hme
    refine awp_exit (up_ ?_)
    refine hK1 _ ?_
    refine rg_ [4] ?_
    refine awp_ret (up_ ?_)
    refine fp_ Tryz.results19 (hK := ?_)
    exact ⟨by unfold sameT; rw [allR_t hs], rfl, rfl⟩
  have hml : m < 24 := by omega
  refine awp_skip (up_ ?_)
  refine hK2 _ ?_
  refine sk_ fun K3 hK3 => ?_
  refine awp_block ?_
  refine rg_ [0, 1, 5, 10] ?_
  refine rs_ [0, 1, 5, 6, 10] ?_
  refine sg_ ?_
  refine cl_ (hc := c18 Ta ka _ _ _ (by first | exact hka | exact atApp hka) hTa) (k := ?_)
  refine sg_ ?_
  refine re_ ?_
  refine rs_ [0, 1, 6, 8, 10] ?_
  refine sg_ ?_
  refine cl_ (hc := c18 Tb kb _ _ _ (by first | exact hkb | exact atApp hkb) hTb) (k := ?_)
  refine sg_ ?_
  refine re_ ?_
  refine rs_ [0, 1, 10, 30] ?_
  refine sg_ ?_
  refine cl_ (hc := c21 _ _ _ _ (get_ok hTa _) (get_ok hTb _)) (k := ?_)
  refine sg_ ?_
  refine re_ ?_
  refine cb_ (ht := fun hb2 => ?_) (hf := fun hb2 => ?_)
  · have hx := allR_f (p := fun j => sameF (Ta.get ((j : Int) + 1)).1 (Tb.get ((j : Int) + 1)).1) hml (by simpa using hb2)
    refine rg_ [4] ?_
    refine awp_ret (up_ ?_)
    refine fp_ Tryz.results19 (hK := ?_)
    exact ⟨by unfold sameT; rw [hx], rfl, rfl⟩
  refine awp_skip (up_ ?_)
  refine hK3 _ ?_
  refine rt_ [0, 1, 10] ?_
  refine sg_ ?_
  refine rn_ (up_ ?_)
  refine ⟨⟨m + 1, by omega, fun j hj => by rcases Nat.lt_succ_iff_lt_or_eq.1 hj with h | h; exact hs j h; subst h; simpa using hb2⟩, ?_, (by first | rfl | trivial | (simp only [List.length_set]; done) | simp), by dsimp only; omega⟩
  try dsimp only
  exact tf_ hH (fun _ h => h)

theorem c53 (b : Nat) (i : Int) (p : AV) (h : List Blk) (live : List Nat) (v : Int) (hb : h[b]? = some (.cells [.int .i64 v])) : ACalls Tryz.prog 53 (.int .i64 i :: p :: [.ptr b 0]) h live (ret (.tup []) (h.set b (.cells [.int .i64 (IntKind.i64.wrap (v + 1))])) live) := by
  refine ab_ Tryz.func53 (hw := fun hH hX => ?_)
  have hbl := lt_of_get hb
  have hB : ∀ x, HCl (h.set b (.cells [.int .i64 x])) := fun x => HCl.set hH b ⟨trivial, trivial⟩
  have sx := (And.intro @hb sx0)
  refine rt_ [] ?_
  refine sg_ ?_
  refine rn_ (up_ ?_)
  refine fg_ (h1 := h.set b _) Tryz.results53 (hH := (hB _)) (hK := ?_)
  exact ⟨rfl, rfl, rfl⟩

theorem c20 (T : Tab) (k : Nat) (h : List Blk) (live : List Nat) (hk : h[k]? = some (tabBlk T)) (hT : T.Ok) : ACalls Tryz.prog 20 [.ptr k 0] h live (ret (.int .i64 T.used) h live) := by
  refine ab_ Tryz.func20 (hw := fun hH hX => ?_)
  have hkl := lt_of_get hk
  have hBu : ∀ v, HCl (h ++ [.cells [.int .i64 v]]) := fun v => HCl.snoc hH ⟨trivial, trivial⟩
  have sx := sx0
  refine rg_ [0] ?_
  refine rg_ [0, 3] ?_
  refine rs_ [3] ?_
  refine sg_ ?_
  refine cl_ (hc := c52 T k 53 [.ptr h.length 0] (fun m => h ++ [.cells [.int .i64 (T.usedN m)]]) _ hT (fun m _ => atApp hk) (fun m _ => hBu _) (fun m _ => by simp only [List.length_append, List.length_cons]) (fun m hm hat => by
        have := c53 h.length ((m : Int) + 1) (nodeP k (T.at ((m : Int) + 1))) (h ++ [.cells [.int .i64 (T.usedN m)]]) live (T.usedN m) (by simp only [push_cast])
        rw [set_app0] at this
        have e : T.usedN (m + 1) = IntKind.i64.wrap (T.usedN m + 1) := by
          show (bif (T.at ((m : Int) + 1)).isSome then _ else _) = _
          rw [hat]; rfl
        rw [e]; exact this) (fun m hm hat => by
        have e : T.usedN (m + 1) = T.usedN m := by
          show (bif (T.at ((m : Int) + 1)).isSome then _ else _) = _
          rw [hat]; rfl
        rw [e]) (by simp [AV.cl, AV.clL])) (k := ?_)
  refine re_ ?_
  refine rg_ [2] ?_
  refine awp_ret (up_ ?_)
  refine fp_ Tryz.results20 (hK := ?_)
  exact ⟨rfl, rfl, rfl⟩

end Go.Proofs.YtjoklidphbmpoaaGreat
