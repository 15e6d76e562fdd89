import Derived.Test.YtjoklidphbmpoaaGreatA4
/-
  TABLES: over all nodes, and over all entries that have a node.
-/
namespace Go.Proofs.YtjoklidphbmpoaaGreat
open Go.Ab
set_option linter.unusedVariables false
set_option linter.unusedSimpArgs false
set_option maxRecDepth 8000
set_option maxHeartbeats 400000


theorem np_neq (k : Nat) (o : Option Nat) (b : Bool) : abinOpT Tryz.prog .neq 99 b (nodeP k o) (.raw (.pointer none)) = some (.bool o.isSome) := by
  cases o <;> simp only [nodeP, abinOpT, aeqOp, Ty.eqTop_99, aeqT, aeqP] <;> rfl
theorem np_eql (k : Nat) (o : Option Nat) (b : Bool) : abinOpT Tryz.prog .eql 99 b (nodeP k o) (.raw (.pointer none)) = some (.bool o.isNone) := by
  cases o <;> simp only [nodeP, abinOpT, aeqOp, Ty.eqTop_99, aeqT, aeqP] <;> rfl

theorem cl_nodeP {k n : Nat} (h : k < n) (o : Option Nat) : (nodeP k o).cl n := by
  cases o
  · trivial
  · exact h
/-- What is called for the entries of one directory that have a node. -/
def entsF (g : Int → Int → Int) (i d : Int) (v : Int) (l : List En) : Int := l.foldl (fun v e => if e.2 = i then g v d else v) v
theorem entsF_nil (g : Int → Int → Int) (i d v : Int) : entsF g i d v [] = v := rfl
theorem entsF_snoc (g : Int → Int → Int) (i d v : Int) (l : List En) (e : En) : entsF g i d v (l ++ [e]) = if e.2 = i then g (entsF g i d v l) d else entsF g i d v l := by
  unfold entsF; rw [List.foldl_append]; rfl
theorem entsF_take (g : Int → Int → Int) (i d v : Int) (l : List En) (j : Nat) (hj : j < l.length) : entsF g i d v (l.take (j + 1)) = if (l.getD j ([], 0)).2 = i then g (entsF g i d v (l.take j)) d else entsF g i d v (l.take j) := by
  rw [List.take_succ_eq_append_getElem hj, entsF_snoc]
  simp [List.getD_eq_getElem?_getD, hj]
/-- What is called for all entries that have a node, of so many nodes. -/
def Tab.scan (T : Tab) (g : Int → Int → Int) (i : Int) (v : Int) : Nat → Int
  | 0 => v
  | m + 1 => match T.at ((m : Int) + 1) with
    | some j => entsF g i ((m : Int) + 1) (T.scan g i v m) (T.ns.getD j nd0).ents
    | none => T.scan g i v m
def Tab.parent (T : Tab) (i : Int) : Int := T.scan (fun v d => if v = 0 then d else v) i 0 T.room.toNat
def Tab.links (T : Tab) (i : Int) : Int := T.scan (fun v _ => IntKind.i64.wrap (v + 1)) i 0 T.room.toNat
theorem none_of {α : Type} {o : Option α} (h : o.isSome = false) : o = none := by
  cases o
  · rfl
  · cases h
theorem ACalls.heap {P : Program} {f : FuncId} {xs : List AV} {h h' : List Blk} {live : List Nat} {K : KT} (e : h = h') (hc : ACalls P f xs h' live K) : ACalls P f xs h live K := e ▸ hc
theorem getSetApp {h l : List Blk} {k b : Nat} {x y : Blk} (hk : h[k]? = some x) (hkb : k ≠ b) : (h.set b y ++ l)[k]? = some x := by
  rw [List.getElem?_append_left (by rw [List.length_set]; exact (List.getElem?_eq_some_iff.1 hk).1), List.getElem?_set_ne (Ne.symm hkb)]; exact hk
theorem lt_of_get {h : List Blk} {k : Nat} {x : Blk} (hk : h[k]? = some x) : k < h.length := (List.getElem?_eq_some_iff.1 hk).1
theorem ne_app {h : List Blk} {k : Nat} {x : Blk} (hk : h[k]? = some x) : k ≠ h.length := Nat.ne_of_lt (lt_of_get hk)
theorem getSet {h : List Blk} {k b : Nat} {x y : Blk} (hk : h[k]? = some x) (hkb : k ≠ b) : (h.set b y)[k]? = some x := by
  rw [List.getElem?_set_ne (Ne.symm hkb)]; exact hk

theorem c52 (T : Tab) (k : Nat) (f : FuncId) (cs : List AV) (hs : Nat → List Blk) (live : List Nat) (hT : T.Ok) (hk : ∀ i, i ≤ T.room.toNat → (hs i)[k]? = some (tabBlk T)) (hcl : ∀ i, i ≤ T.room.toNat → HCl (hs i)) (hlen : ∀ i, i ≤ T.room.toNat → (hs i).length = (hs 0).length)
    (hyes : ∀ i, i < T.room.toNat → (T.at ((i : Int) + 1)).isSome = true → ACalls Tryz.prog f (.int .i64 ((i : Int) + 1) :: nodeP k (T.at ((i : Int) + 1)) :: cs) (hs i) live (ret (.tup []) (hs (i + 1)) live))
    (hno : ∀ i, i < T.room.toNat → (T.at ((i : Int) + 1)).isSome = false → hs (i + 1) = hs i) (hfc : (AV.fn (.func f) [] cs).cl (hs 0).length) :
    ACalls Tryz.prog 52 [.ptr k 0, .fn (.func f) [] cs] (hs 0) live (ret (.tup []) (hs T.room.toNat) live) := by
  refine ab_ Tryz.func52 (hw := fun hH hX => ?_)
  have hkl : k < (hs 0).length := (List.getElem?_eq_some_iff.1 (hk 0 (by omega))).1
  obtain ⟨hlo, hhi, hlen', -, -⟩ := id hT
  have hfc' := hfc
  have hroom : ((T.room.toNat : Nat) : Int) = T.room := by omega
  have sx := sx0
  refine rs_ [0, 1, 7, 8] ?_
  refine sg_ ?_
  refine cl_ (hc := c23 T k _ _ (hk 0 (by omega))) (k := ?_)
  refine sg_ ?_
  refine re_ ?_
  refine awp_block ?_
  refine awp_loop' (X := {i : Nat // i ≤ T.room.toNat}) (fun x => ⟨Tryz.f52.ntmps, fget [(0, .ptr k 0), (1, .fn (.func f) [] cs), (7, .int .i64 T.room), (8, .int .i64 (x.1 : Nat))], hs x.1, live⟩) (fun x => T.room.toNat - x.1) (⟨0, by omega⟩) ?_ (by first | rfl | simp only [List.length_set]) (fun ⟨i, hi⟩ => ?_)
  · try dsimp only
    refine Trunc.of (by first | exact (List.append_nil _).symm | (rw [hno i (by omega) (by assumption), List.append_nil])) ?_ (hcl _ (by first | omega | exact hi | (have := x.2; omega))) (fun _ h => h)
    refine FTr.cons (by first | rfl | ((simp (disch := omega) only [push_cast, ↓reduceIte, Nat.reduceEqDiff, Nat.reduceAdd, Nat.reduceLeDiff, sx]) <;> rfl)) (by first | trivial | exact hkl | exact hfc | (rw [hlen _ (by omega)]; exact hfc) | (rw [hlen _ (by omega)]; exact hkl)) ?_
    refine FTr.cons (by first | rfl | ((simp (disch := omega) only [push_cast, ↓reduceIte, Nat.reduceEqDiff, Nat.reduceAdd, Nat.reduceLeDiff, sx]) <;> rfl)) (by first | trivial | exact hkl | exact hfc | (rw [hlen _ (by omega)]; exact hfc) | (rw [hlen _ (by omega)]; exact hkl)) ?_
    refine FTr.cons (by first | rfl | ((simp (disch := omega) only [push_cast, ↓reduceIte, Nat.reduceEqDiff, Nat.reduceAdd, Nat.reduceLeDiff, sx]) <;> rfl)) (by first | trivial | exact hkl | exact hfc | (rw [hlen _ (by omega)]; exact hfc) | (rw [hlen _ (by omega)]; exact hkl)) ?_
    refine FTr.cons (by first | rfl | ((simp (disch := omega) only [push_cast, ↓reduceIte, Nat.reduceEqDiff, Nat.reduceAdd, Nat.reduceLeDiff, sx]) <;> rfl)) (by first | trivial | exact hkl | exact hfc | (rw [hlen _ (by omega)]; exact hfc) | (rw [hlen _ (by omega)]; exact hkl)) ?_
    exact FTr.nil
  try dsimp only
  refine rg_ [0, 1, 7, 8, 9] ?_
  refine sk_ fun K1 hK1 => ?_
  refine cd_ (ht := fun hb1 => ?_) (hf := fun hb1 => ?_)
  rotate_left
  · have hie : i = T.room.toNat := by omega
    subst hie
    refine awp_exit (up_ ?_)
    refine fg_ (h1 := hs T.room.toNat) Tryz.results52 (hH := (hcl _ (Nat.le_refl _))) (hle := (by rw [hlen _ (Nat.le_refl _)]; exact Nat.le_refl _)) (hK := ?_)
    exact ⟨rfl, rfl, rfl⟩
  have hil : i < T.room.toNat := by omega
  refine awp_skip (up_ ?_)
  refine hK1 _ ?_
  refine sk_ fun K2 hK2 => ?_
  refine awp_block ?_
  refine rg_ [0, 1, 4, 7, 8] ?_
  refine rs_ [0, 1, 4, 5, 7, 8] ?_
  refine sg_ ?_
  refine cl_ (hc := c51 T k _ _ _ (hk i hi) hT) (k := ?_)
  refine sg_ ?_
  refine re_ ?_
  refine rs_ [0, 1, 4, 5, 7, 8, 16] ?_
  refine dawp_p rfl (by (simp (disch := omega) only [push_cast, ↓reduceIte, Nat.reduceEqDiff, Nat.reduceAdd, Nat.reduceLeDiff, sx]) <;> rfl) rfl rfl ?_
  refine dawp_p rfl (np_neq k (T.at ((i : Int) + 1)) _) rfl rfl ?_
  refine re_ ?_
  refine cb_ (ht := fun hb2 => ?_) (hf := fun hb2 => ?_)
  · refine rt_ [0, 1, 7, 8] ?_
    refine sg_ ?_
    refine cl_ (hc := hyes i hil hb2) (k := ?_)
    refine rn_ (up_ ?_)
    refine hK2 _ ?_
    refine rt_ [0, 1, 7, 8] ?_
    refine sg_ ?_
    refine rn_ (up_ ?_)
    refine ⟨⟨i + 1, by omega⟩, ?_, (by dsimp only; rw [hlen (i + 1) hil, hlen i hi]), by dsimp only; omega⟩
    try dsimp only
    refine Trunc.of (by first | exact (List.append_nil _).symm | (rw [hno i (by omega) (by assumption), List.append_nil])) ?_ (hcl _ (by first | omega | exact hi | (have := x.2; omega))) (fun _ h => h)
    refine FTr.cons (by (simp (disch := omega) only [push_cast, ↓reduceIte, Nat.reduceEqDiff, Nat.reduceAdd, Nat.reduceLeDiff, sx]) <;> first | rfl | (congr 2; omega)) (by first | trivial | exact hkl | exact hfc | (rw [hlen _ (by omega)]; exact hfc) | (rw [hlen _ (by omega)]; exact hkl)) ?_
    refine FTr.cons (by (simp (disch := omega) only [push_cast, ↓reduceIte, Nat.reduceEqDiff, Nat.reduceAdd, Nat.reduceLeDiff, sx]) <;> first | rfl | (congr 2; omega)) (by first | trivial | exact hkl | exact hfc | (rw [hlen _ (by omega)]; exact hfc) | (rw [hlen _ (by omega)]; exact hkl)) ?_
    refine FTr.cons (by (simp (disch := omega) only [push_cast, ↓reduceIte, Nat.reduceEqDiff, Nat.reduceAdd, Nat.reduceLeDiff, sx]) <;> first | rfl | (congr 2; omega)) (by first | trivial | exact hkl | exact hfc | (rw [hlen _ (by omega)]; exact hfc) | (rw [hlen _ (by omega)]; exact hkl)) ?_
    refine FTr.cons (by (simp (disch := omega) only [push_cast, ↓reduceIte, Nat.reduceEqDiff, Nat.reduceAdd, Nat.reduceLeDiff, sx]) <;> first | rfl | (congr 2; omega)) (by first | trivial | exact hkl | exact hfc | (rw [hlen _ (by omega)]; exact hfc) | (rw [hlen _ (by omega)]; exact hkl)) ?_
    exact FTr.nil
  refine awp_skip (up_ ?_)
  refine hK2 _ ?_
  refine rt_ [0, 1, 7, 8] ?_
  refine sg_ ?_
  refine rn_ (up_ ?_)
  refine ⟨⟨i + 1, by omega⟩, ?_, (by dsimp only; rw [hlen (i + 1) hil, hlen i hi]), by dsimp only; omega⟩
  try dsimp only
  refine Trunc.of (by first | exact (List.append_nil _).symm | (rw [hno i (by omega) (by assumption), List.append_nil])) ?_ (hcl _ (by first | omega | exact hi | (have := x.2; omega))) (fun _ h => h)
  refine FTr.cons (by (simp (disch := omega) only [push_cast, ↓reduceIte, Nat.reduceEqDiff, Nat.reduceAdd, Nat.reduceLeDiff, sx]) <;> first | rfl | (congr 2; omega)) (by first | trivial | exact hkl | exact hfc | (rw [hlen _ (by omega)]; exact hfc) | (rw [hlen _ (by omega)]; exact hkl)) ?_
  refine FTr.cons (by (simp (disch := omega) only [push_cast, ↓reduceIte, Nat.reduceEqDiff, Nat.reduceAdd, Nat.reduceLeDiff, sx]) <;> first | rfl | (congr 2; omega)) (by first | trivial | exact hkl | exact hfc | (rw [hlen _ (by omega)]; exact hfc) | (rw [hlen _ (by omega)]; exact hkl)) ?_
  refine FTr.cons (by (simp (disch := omega) only [push_cast, ↓reduceIte, Nat.reduceEqDiff, Nat.reduceAdd, Nat.reduceLeDiff, sx]) <;> first | rfl | (congr 2; omega)) (by first | trivial | exact hkl | exact hfc | (rw [hlen _ (by omega)]; exact hfc) | (rw [hlen _ (by omega)]; exact hkl)) ?_
  refine FTr.cons (by (simp (disch := omega) only [push_cast, ↓reduceIte, Nat.reduceEqDiff, Nat.reduceAdd, Nat.reduceLeDiff, sx]) <;> first | rfl | (congr 2; omega)) (by first | trivial | exact hkl | exact hfc | (rw [hlen _ (by omega)]; exact hfc) | (rw [hlen _ (by omega)]; exact hkl)) ?_
  exact FTr.nil

theorem c85 (T : Tab) (k : Nat) (j : Nat) (i d v : Int) (p q b : Nat) (tf : FuncId) (cs : List AV) (h : List Blk) (live : List Nat) (g : Int → Int → Int) (ht : ∀ (h : List Blk) (d v : Int), h[b]? = some (.cells [.int .i64 v]) → ACalls Tryz.prog tf (.int .i64 d :: cs) h live (ret (.tup []) (h.set b (.cells [.int .i64 (g v d)])) live)) (hk : h[k]? = some (tabBlk T)) (hT : T.Ok) (hj : j < T.ns.length) (hp : h[p]? = some (.cells [.int .i64 i])) (hq : h[q]? = some (.cells [.fn (.func tf) [] cs])) (hb : h[b]? = some (.cells [.int .i64 v])) (hkb : k ≠ b) (hpb : p ≠ b) (hqb : q ≠ b) :
    ACalls Tryz.prog 85 [.int .i64 d, .ptr k (1 + j * 7), .ptr p 0, .ptr q 0] h live (ret (.tup []) (h.set b (.cells [.int .i64 (entsF g i d v (T.ns.getD j nd0).ents)])) live) := by
  refine ab_ Tryz.func85 (hw := fun hH hX => ?_)
  have hkl := lt_of_get hk
  have hpl := lt_of_get hp
  have hql := lt_of_get hq
  have hbl := lt_of_get hb
  have hn := (getD_nd hT j).2.1
  have hB : ∀ x, HCl (h.set b (.cells [.int .i64 x])) := fun x => HCl.set hH b ⟨trivial, trivial⟩
  have rp : ∀ y, (h.set b y)[p]? = _ := fun y => getSet hp hpb
  have rp' : ∀ y l, (h.set b y ++ l)[p]? = _ := fun y l => getSetApp hp hpb
  have rq' : ∀ y l, (h.set b y ++ l)[q]? = _ := fun y l => getSetApp hq hqb
  have sx := (And.intro @hk (And.intro @tab_ents (And.intro @rp (And.intro @rp' (And.intro @rq' sx0)))))
  refine rg_ [0, 2, 3, 11, 12, 13] ?_
  refine awp_block ?_
  refine awp_loop' (X := {m : Nat // m ≤ (T.ns.getD j nd0).ents.length}) (fun x => ⟨Tryz.f85.ntmps, fget [(0, .int .i64 d), (2, .ptr p 0), (3, .ptr q 0), (11, .slice ((T.ns.getD j nd0).ents.map eV) .none), (12, .int .i64 (T.ns.getD j nd0).ents.length), (13, .int .i64 (x.1 : Nat))], h.set b (.cells [.int .i64 (entsF g i d v ((T.ns.getD j nd0).ents.take x.1))]), live⟩) (fun x => (T.ns.getD j nd0).ents.length - x.1) (⟨0, by omega⟩) ?_ (by first | rfl | simp only [List.length_set]) (fun ⟨m, hm⟩ => ?_)
  · try dsimp only
    exact tf_ (hB _) (fun _ h => h) (hj := (by first | (rw [entsF_take _ _ _ _ _ _ hml, if_pos hb2]; done) | (rw [entsF_take _ _ _ _ _ _ hml, if_neg hb2]; done) | (show h = h.set b (.cells [.int .i64 v]) ++ _; rw [set_self hb]; exact (List.append_nil _).symm)))
  try dsimp only
  refine rg_ [0, 2, 3, 11, 12, 13, 14] ?_
  refine sk_ fun K1 hK1 => ?_
  refine cd_ (ht := fun hb1 => ?_) (hf := fun hb1 => ?_)
  rotate_left
  · have hme : m = (T.ns.getD j nd0).ents.length := by omega
    subst hme
    refine awp_exit (up_ ?_)
    refine fg_ (h1 := h.set b _) Tryz.results85 (hH := (hB _)) (hK := ?_)
    exact ⟨rfl, by rw [List.take_length], rfl⟩
  have hml : m < (T.ns.getD j nd0).ents.length := by omega
  refine awp_skip (up_ ?_)
  refine hK1 _ ?_
  refine sk_ fun K2 hK2 => ?_
  refine awp_block ?_
  refine rg_ [0, 2, 3, 7, 11, 12, 13] ?_
  refine rg_ [0, 2, 3, 11, 12, 13, 20] ?_
  refine cd_ (ht := fun hb2 => ?_) (hf := fun hb2 => ?_)
  · refine rt_ [0, 2, 3, 11, 12, 13] ?_
    refine sg_ ?_
    refine cl_ (hc := ht _ d _ (get_setapp hbl)) (k := ?_)
    refine rn_ (up_ ?_)
    refine hK2 _ ?_
    refine rt_ [0, 2, 3, 11, 12, 13] ?_
    refine sg_ ?_
    refine rn_ (up_ ?_)
    refine ⟨⟨m + 1, by omega⟩, ?_, (by simp only [List.length_set]), by dsimp only; omega⟩
    try dsimp only
    exact tf_ (hB _) (fun _ h => h) (hj := (by first | (rw [entsF_take _ _ _ _ _ _ hml, if_pos hb2]; done) | (rw [entsF_take _ _ _ _ _ _ hml, if_neg hb2]; done) | (show h = h.set b (.cells [.int .i64 v]) ++ _; rw [set_self hb]; exact (List.append_nil _).symm)))
  refine awp_skip (up_ ?_)
  refine hK2 _ ?_
  refine rt_ [0, 2, 3, 11, 12, 13] ?_
  refine sg_ ?_
  refine rn_ (up_ ?_)
  refine ⟨⟨m + 1, by omega⟩, ?_, (by simp only [List.length_set]), by dsimp only; omega⟩
  try dsimp only
  exact tf_ (hB _) (fun _ h => h) (hj := (by first | (rw [entsF_take _ _ _ _ _ _ hml, if_pos hb2]; done) | (rw [entsF_take _ _ _ _ _ _ hml, if_neg hb2]; done) | (show h = h.set b (.cells [.int .i64 v]) ++ _; rw [set_self hb]; exact (List.append_nil _).symm)))

theorem c60 (T : Tab) (k : Nat) (i v : Int) (b : Nat) (tf : FuncId) (cs : List AV) (h : List Blk) (live : List Nat) (g : Int → Int → Int) (ht : ∀ (h : List Blk) (d v : Int), h[b]? = some (.cells [.int .i64 v]) → ACalls Tryz.prog tf (.int .i64 d :: cs) h live (ret (.tup []) (h.set b (.cells [.int .i64 (g v d)])) live)) (hk : h[k]? = some (tabBlk T)) (hT : T.Ok) (hb : h[b]? = some (.cells [.int .i64 v])) (hkb : k ≠ b) (hcs : AV.clL h.length cs) :
    ACalls Tryz.prog 60 [.ptr k 0, .int .i64 i, .fn (.func tf) [] cs] h live (ret (.tup []) (h.set b (.cells [.int .i64 (T.scan g i v T.room.toNat)])) live) := by
  refine ab_ Tryz.func60 (hw := fun hH hX => ?_)
  have hkl := lt_of_get hk
  have hbl := lt_of_get hb
  have hB : ∀ x, HCl (h.set b (.cells [.int .i64 x])) := fun x => HCl.set hH b ⟨trivial, trivial⟩
  have hcs1 : AV.clL (h.length + 1 + 1) cs := AV.clL_mono (by omega) _ hcs
  have hB2 : ∀ x, HCl (h.set b (.cells [.int .i64 x]) ++ [.cells [.int .i64 i], .cells [.fn (.func tf) [] cs]]) := fun x => by
    have := HCl.snoc (HCl.snoc (b := .cells [.int .i64 i]) (hB x) ⟨trivial, trivial⟩) (b := .cells [.fn (.func tf) [] cs]) (by simp only [Blk.cl, AV.clL, AV.cl, List.length_append, List.length_set, List.length_cons, List.length_nil, and_true, true_and]; exact hcs1)
    rw [List.append_assoc] at this; exact this
  have e0 : h ++ [.cells [.int .i64 i], .cells [.fn (.func tf) [] cs]] = h.set b (.cells [.int .i64 v]) ++ [.cells [.int .i64 i], .cells [.fn (.func tf) [] cs]] := by rw [set_self hb]
  have sx := sx0
  refine rg_ [0, 4, 5] ?_
  refine rt_ [] ?_
  refine sg_ ?_
  refine cl_ (hc := ACalls.heap e0 (c52 T k 85 [.ptr h.length 0, .ptr (h.length + 1) 0] (fun m => h.set b (.cells [.int .i64 (T.scan g i v m)]) ++ [.cells [.int .i64 i], .cells [.fn (.func tf) [] cs]]) live hT (fun m _ => getSetApp hk hkb) (fun m _ => hB2 _) (fun m _ => by simp only [List.length_append, List.length_set]) (fun m hm hat => by
        obtain ⟨j, hj⟩ := Option.isSome_iff_exists.1 hat
        have := c85 T k j i ((m : Int) + 1) (T.scan g i v m) h.length (h.length + 1) b tf cs (h.set b (.cells [.int .i64 (T.scan g i v m)]) ++ [.cells [.int .i64 i], .cells [.fn (.func tf) [] cs]]) live g ht (getSetApp hk hkb) hT (at_some hT hj).1 (by simp only [push_cast]) (by simp only [push_cast]) (get_setapp hbl) hkb (by omega) (by omega)
        rw [set_setapp hbl] at this
        have e : T.scan g i v (m + 1) = entsF g i ((m : Int) + 1) (T.scan g i v m) (T.ns.getD j nd0).ents := by
          show (match T.at ((m : Int) + 1) with | some j => _ | none => _) = _
          rw [hj]
        rw [hj]
        rw [e]; exact this) (fun m hm hat => by
        have e : T.scan g i v (m + 1) = T.scan g i v m := by
          show (match T.at ((m : Int) + 1) with | some j => _ | none => _) = _
          rw [show T.at ((m : Int) + 1) = none from none_of hat]
        rw [e]) (by simp [AV.cl, AV.clL]))) (k := ?_)
  refine rn_ (up_ ?_)
  refine fg_ (h1 := h.set b _) Tryz.results60 (hH := (hB _)) (hK := ?_)
  exact ⟨rfl, rfl, rfl⟩

theorem c61 (b : Nat) (h : List Blk) (live : List Nat) (d v : Int) (hb : h[b]? = some (.cells [.int .i64 v])) : ACalls Tryz.prog 61 (.int .i64 d :: [.ptr b 0]) h live (ret (.tup []) (h.set b (.cells [.int .i64 ((fun v d => if v = 0 then d else v) v d)])) live) := by
  refine ab_ Tryz.func61 (hw := fun hH hX => ?_)
  have hbl := lt_of_get hb
  have hB : ∀ x, HCl (h.set b (.cells [.int .i64 x])) := fun x => HCl.set hH b ⟨trivial, trivial⟩
  have sx := (And.intro @hb sx0)
  refine rg_ [0, 1, 4] ?_
  refine cd_ (ht := fun hb1 => ?_) (hf := fun hb1 => ?_)
  · refine rt_ [] ?_
    refine sg_ ?_
    refine rn_ (up_ ?_)
    refine fg_ (h1 := h.set b _) Tryz.results61 (hH := (hB _)) (hK := ?_)
    exact ⟨rfl, by first | rfl | simp only [if_pos hb1], rfl⟩
  refine awp_skip (up_ ?_)
  refine fg_ (h1 := h.set b _) Tryz.results61 (hh := (⟨[], by rw [List.append_nil]; exact (set_self hb).symm⟩)) (hH := (hB _)) (hK := ?_)
  exact ⟨rfl, by first | rfl | simp only [if_neg hb1], rfl⟩

theorem c80 (b : Nat) (h : List Blk) (live : List Nat) (d v : Int) (hb : h[b]? = some (.cells [.int .i64 v])) : ACalls Tryz.prog 80 (.int .i64 d :: [.ptr b 0]) h live (ret (.tup []) (h.set b (.cells [.int .i64 ((fun v _ => IntKind.i64.wrap (v + 1)) v d)])) live) := by
  refine ab_ Tryz.func80 (hw := fun hH hX => ?_)
  have hbl := lt_of_get hb
  have hB : ∀ x, HCl (h.set b (.cells [.int .i64 x])) := fun x => HCl.set hH b ⟨trivial, trivial⟩
  have sx := (And.intro @hb sx0)
  refine rt_ [] ?_
  refine sg_ ?_
  refine rn_ (up_ ?_)
  refine fg_ (h1 := h.set b _) Tryz.results80 (hH := (hB _)) (hK := ?_)
  exact ⟨rfl, rfl, rfl⟩

theorem c25 (T : Tab) (k : Nat) (i : Int) (h : List Blk) (live : List Nat) (hk : h[k]? = some (tabBlk T)) (hT : T.Ok) : ACalls Tryz.prog 25 [.ptr k 0, .int .i64 i] h live (ret (.int .i64 (T.parent i)) h live) := by
  refine ab_ Tryz.func25 (hw := fun hH hX => ?_)
  have sx := sx0
  refine rg_ [0, 1] ?_
  refine rg_ [0, 1, 5] ?_
  refine rs_ [5] ?_
  refine sg_ ?_
  refine cl_ (hc := c60 T k i 0 h.length 61 [.ptr h.length 0] _ _ (fun v d => if v = 0 then d else v) (fun h' d v hb => c61 h.length h' live d v hb) (atApp hk) hT (by simp only [push_cast]) (ne_app hk) (by simp [AV.cl, AV.clL])) (k := ?_)
  refine re_ ?_
  refine rg_ [4] ?_
  refine awp_ret (up_ ?_)
  refine fp_ Tryz.results25 (hK := ?_)
  exact ⟨rfl, rfl, rfl⟩

theorem c50 (T : Tab) (k : Nat) (i : Int) (h : List Blk) (live : List Nat) (hk : h[k]? = some (tabBlk T)) (hT : T.Ok) : ACalls Tryz.prog 50 [.ptr k 0, .int .i64 i] h live (ret (.int .i64 (T.links i)) h live) := by
  refine ab_ Tryz.func50 (hw := fun hH hX => ?_)
  have sx := sx0
  refine rg_ [0, 1] ?_
  refine rg_ [0, 1, 5] ?_
  refine rs_ [5] ?_
  refine sg_ ?_
  refine cl_ (hc := c60 T k i 0 h.length 80 [.ptr h.length 0] _ _ (fun v _ => IntKind.i64.wrap (v + 1)) (fun h' d v hb => c80 h.length h' live d v hb) (atApp hk) hT (by simp only [push_cast]) (ne_app hk) (by simp [AV.cl, AV.clL])) (k := ?_)
  refine re_ ?_
  refine rg_ [4] ?_
  refine awp_ret (up_ ?_)
  refine fp_ Tryz.results50 (hK := ?_)
  exact ⟨rfl, rfl, rfl⟩

end Go.Proofs.YtjoklidphbmpoaaGreat
