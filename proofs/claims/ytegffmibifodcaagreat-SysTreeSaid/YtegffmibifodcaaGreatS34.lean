import Derived.Test.YtegffmibifodcaaGreatS25
/-
  TREES: whether nodes are a tree.
-/
namespace Go.Proofs.YtegffmibifodcaaGreat
open Go.Ab
set_option linter.unusedVariables false
set_option linter.unusedSimpArgs false
set_option maxRecDepth 8000
set_option maxHeartbeats 400000


def rootL (T : Tab) : Nat → Int → Bool
  | 0, _ => false
  | n + 1, i => if i = 1 then true else rootL T n (T.parent i)
def okE (T : Tab) (l : List En) : Bool := l.all fun e => (T.at e.2).isSome
def tailN (T : Tab) (o : List Int) (i : Int) (n : Nd) (v : Bool) : Bool :=
  if i = 1 then v else if n.kind = 2 then v && decide (T.links i = 1) && rootL T 24 i
  else v && (decide (0 < T.links i) || o.any fun y => decide (i = y))
def rightN (T : Tab) (o : List Int) (v : Bool) : Nat → Bool
  | 0 => v
  | m + 1 => bif (T.at ((m : Int) + 1)).isSome then tailN T o ((m : Int) + 1) (T.ns.getD m nd0) (rightN T o v m && okE T (T.ns.getD m nd0).ents) else rightN T o v m
def rightT (T : Tab) (o : List Int) : Bool := rightN T o (decide ((T.ns.getD 0 nd0).kind = 2) && decide (T.links 1 = 0)) T.room.toNat
theorem okE_take (T : Tab) (l : List En) {m : Nat} (h : m < l.length) (v : Bool) : (v && okE T (l.take (m + 1))) = (v && okE T (l.take m) && (T.at (l.getD m ([], 0)).2).isSome) := by
  unfold okE
  rw [List.take_succ_eq_append_getElem h, List.all_append]
  simp only [List.getD_eq_getElem?_getD, List.getElem?_eq_getElem h, Option.getD_some, List.all_cons, List.all_nil, Bool.and_true]
  cases v <;> cases (List.take m l).all (fun e => (T.at e.2).isSome) <;> rfl
theorem nodeP_0 (k : Nat) : nodeP k (some 0) = .ptr k 1 := rfl
theorem okE_nil (T : Tab) (l : List En) (v : Bool) : (v && okE T (l.take 0)) = v := by cases v <;> rfl

theorem c62 (T : Tab) (k : Nat) (i : Int) (h : List Blk) (live : List Nat) (hk : h[k]? = some (tabBlk T)) (hT : T.Ok) : ACalls Tryz.prog 62 [.ptr k 0, .int .i64 i] h live (ret (.bool (rootL T 24 i)) h live) := by
  refine ab_ Tryz.func62 (hw := fun hH hX => ?_)
  have hkl := lt_of_get hk
  have sx := sx0
  refine rg_ [0, 1] ?_
  refine sk_ fun K1 hK1 => ?_
  refine rg_ [0, 1, 5] ?_
  refine awp_block ?_
  refine awp_loop' (X := {x : Nat × Int // x.1 ≤ 24 ∧ rootL T 24 i = rootL T (24 - x.1) x.2}) (fun x => ⟨Tryz.f62.ntmps, fget [(0, .ptr k 0), (1, .int .i64 x.1.2), (5, .int .i64 (x.1.1 : Nat))], h, live⟩) (fun x => 24 - x.1.1) (⟨(0, i), by dsimp only; omega, rfl⟩) ?_ (by first | rfl | (simp only [List.length_set]; done) | simp) (fun ⟨⟨m, j⟩, hm, hv⟩ => ?_)
  · try dsimp only
    exact ts_ hH
  try dsimp only
  dsimp only at hm hv
  refine rg_ [0, 1, 5, 6] ?_
  refine sk_ fun K2 hK2 => ?_
  refine cd_ (ht := fun hb1 => ?_) (hf := fun hb1 => ?_)
  rotate_left
  · have hme : m = 24 := by omega
    subst hme
    refine awp_exit (up_ ?_)
    refine hK1 _ ?_
    refine rg_ [4] ?_
    refine awp_ret (up_ ?_)
    refine fp_ Tryz.results62 (hK := ?_)
    exact ⟨by rw [hv]; rfl, rfl, rfl⟩
  refine awp_skip (up_ ?_)
  refine hK2 _ ?_
  refine sk_ fun K3 hK3 => ?_
  refine awp_block ?_
  refine sk_ fun K4 hK4 => ?_
  refine rg_ [0, 1, 5, 8] ?_
  refine cd_ (ht := fun hb2 => ?_) (hf := fun hb2 => ?_)
  · refine rg_ [4] ?_
    refine awp_ret (up_ ?_)
    refine fp_ Tryz.results62 (hK := ?_)
    exact ⟨by rw [hv, show 24 - m = (24 - (m + 1)) + 1 by omega]; exact congrArg AV.bool (show rootL T (24 - (m + 1) + 1) j = true from if_pos hb2), rfl, rfl⟩
  refine awp_skip (up_ ?_)
  refine hK4 _ ?_
  refine rt_ [0, 1, 5] ?_
  refine sg_ ?_
  refine cl_ (hc := c108 T k _ _ _ hk hT) (k := ?_)
  refine sg_ ?_
  refine rn_ (up_ ?_)
  refine hK3 _ ?_
  refine rt_ [0, 1, 5] ?_
  refine sg_ ?_
  refine rn_ (up_ ?_)
  refine ⟨⟨(m + 1, T.parent j), by dsimp only; omega, by rw [hv, show 24 - m = (24 - (m + 1)) + 1 by omega]; exact if_neg hb2⟩, ?_, (by first | rfl | trivial | (simp only [List.length_set]; done) | simp), by dsimp only; omega⟩
  try dsimp only
  exact ts_ hH

theorem c61 (T : Tab) (k j : Nat) (o : List Int) (q : Cap) (v : Bool) (kr kt ko : Nat) (h : List Blk) (live : List Nat) (hk : h[k]? = some (tabBlk T)) (hT : T.Ok) (hj : j < T.ns.length) (hr : h[kr]? = some (.cells [.bool v])) (ht : h[kt]? = some (.cells [.ptr k 0])) (ho : h[ko]? = some (.cells [.slice (o.map iV) q])) (hkr : k ≠ kr) (htr : kt ≠ kr) (hor : ko ≠ kr) (hol : o.length ≤ 1000000) : ACalls Tryz.prog 61 [.int .i64 ((j : Int) + 1), .ptr k (1 + j * 7), .ptr kr 0, .ptr kt 0, .ptr ko 0] h live (ret (.tup []) (h.set kr (.cells [.bool (tailN T o ((j : Int) + 1) (T.ns.getD j nd0) (v && okE T (T.ns.getD j nd0).ents))])) live) := by
  refine ab_ Tryz.func61 (hw := fun hH hX => ?_)
  have hkl := lt_of_get hk
  have hrl := lt_of_get hr
  have htl := lt_of_get ht
  have hol2 := lt_of_get ho
  have hn := (getD_nd hT j).2.1
  have hj24 : j < 24 := by have := hT.len; omega
  have hB : ∀ b : Bool, HCl (h.set kr (.cells [.bool b])) := fun b => HCl.set hH kr ⟨trivial, trivial⟩
  have hrt : ∀ y, (h.set kr y)[kt]? = _ := fun y => getSet ht htr
  have hrt2 : ∀ y l, (h.set kr y ++ l)[kt]? = _ := fun y l => getSetApp ht htr
  have hro : ∀ y, (h.set kr y)[ko]? = _ := fun y => getSet ho hor
  have hrr : ∀ y, (h.set kr y)[kr]? = some y := fun y => get_setk hrl
  have hrr2 : ∀ y l, (h.set kr y ++ l)[kr]? = some y := fun y l => get_setapp hrl
  have hrs : ∀ x y l, (h.set kr x ++ l).set kr y = h.set kr y ++ l := fun x y l => set_setapp hrl
  have hrs2 : ∀ x y, (h.set kr x).set kr y = h.set kr y := fun x y => List.set_set ..
  have hrk : ∀ y, (h.set kr y)[k]? = some (tabBlk T) := fun y => getSet hk hkr
  have hrk2 : ∀ y l, (h.set kr y ++ l)[k]? = some (tabBlk T) := fun y l => getSetApp hk hkr
  have sx := (And.intro @hk (And.intro @hr (And.intro @tab_ents (And.intro @tab_kind (And.intro @hrt (And.intro @hrt2 (And.intro @hro (And.intro @hrr (And.intro @hrr2 (And.intro @hrs (And.intro @hrs2 (And.intro @hrk (And.intro @hrk2 sx0)))))))))))))
  refine sk_ fun K1 hK1 => ?_
  refine rg_ [0, 1, 2, 3, 4, 13, 14, 15] ?_
  refine awp_block ?_
  refine awp_loop' (X := {m : Nat // m ≤ (T.ns.getD j nd0).ents.length}) (fun x => ⟨Tryz.f61.ntmps, fget [(0, .int .i64 ((j : Int) + 1)), (1, .ptr k (1 + j * 7)), (2, .ptr kr 0), (3, .ptr kt 0), (4, .ptr ko 0), (13, .slice ((T.ns.getD j nd0).ents.map eV) .none), (14, .int .i64 (T.ns.getD j nd0).ents.length), (15, .int .i64 (x.1 : Nat))], h.set kr (.cells [.bool (v && okE T ((T.ns.getD j nd0).ents.take x.1))]), live⟩) (fun x => (T.ns.getD j nd0).ents.length - x.1) (⟨0, by omega⟩) ?_ (by first | rfl | (simp only [List.length_set]; done) | simp) (fun ⟨m, hm⟩ => ?_)
  · try dsimp only
    refine Trunc.of (by first | (rw [okE_nil, set_self hr, List.append_nil]) | (rw [okE_take T _ hml])) ?_ (hB _) (fun _ h => h)
    refine FTr.cons (by first | rfl | ((simp (disch := omega) only [push_cast, ↓reduceIte, Nat.reduceEqDiff, Nat.reduceAdd, Nat.reduceLeDiff, sx]) <;> rfl)) (by first | trivial | exact clL_eV _ _ | (simp [AV.cl, AV.clL, hkl, hrl, htl, hol2]; done)) ?_
    refine FTr.cons (by first | rfl | ((simp (disch := omega) only [push_cast, ↓reduceIte, Nat.reduceEqDiff, Nat.reduceAdd, Nat.reduceLeDiff, sx]) <;> rfl)) (by first | trivial | exact clL_eV _ _ | (simp [AV.cl, AV.clL, hkl, hrl, htl, hol2]; done)) ?_
    refine FTr.cons (by first | rfl | ((simp (disch := omega) only [push_cast, ↓reduceIte, Nat.reduceEqDiff, Nat.reduceAdd, Nat.reduceLeDiff, sx]) <;> rfl)) (by first | trivial | exact clL_eV _ _ | (simp [AV.cl, AV.clL, hkl, hrl, htl, hol2]; done)) ?_
    refine FTr.cons (by first | rfl | ((simp (disch := omega) only [push_cast, ↓reduceIte, Nat.reduceEqDiff, Nat.reduceAdd, Nat.reduceLeDiff, sx]) <;> rfl)) (by first | trivial | exact clL_eV _ _ | (simp [AV.cl, AV.clL, hkl, hrl, htl, hol2]; done)) ?_
    refine FTr.cons (by first | rfl | ((simp (disch := omega) only [push_cast, ↓reduceIte, Nat.reduceEqDiff, Nat.reduceAdd, Nat.reduceLeDiff, sx]) <;> rfl)) (by first | trivial | exact clL_eV _ _ | (simp [AV.cl, AV.clL, hkl, hrl, htl, hol2]; done)) ?_
    refine FTr.cons (by first | rfl | ((simp (disch := omega) only [push_cast, ↓reduceIte, Nat.reduceEqDiff, Nat.reduceAdd, Nat.reduceLeDiff, sx]) <;> rfl)) (by first | trivial | exact clL_eV _ _ | (simp [AV.cl, AV.clL, hkl, hrl, htl, hol2]; done)) ?_
    refine FTr.cons (by first | rfl | ((simp (disch := omega) only [push_cast, ↓reduceIte, Nat.reduceEqDiff, Nat.reduceAdd, Nat.reduceLeDiff, sx]) <;> rfl)) (by first | trivial | exact clL_eV _ _ | (simp [AV.cl, AV.clL, hkl, hrl, htl, hol2]; done)) ?_
    refine FTr.cons (by first | rfl | ((simp (disch := omega) only [push_cast, ↓reduceIte, Nat.reduceEqDiff, Nat.reduceAdd, Nat.reduceLeDiff, sx]) <;> rfl)) (by first | trivial | exact clL_eV _ _ | (simp [AV.cl, AV.clL, hkl, hrl, htl, hol2]; done)) ?_
    exact FTr.nil
  try dsimp only
  refine rg_ [0, 1, 2, 3, 4, 13, 14, 15, 16] ?_
  refine sk_ fun K2 hK2 => ?_
  refine cd_ (ht := fun hb1 => ?_) (hf := fun hb1 => ?_)
  rotate_left
  · have hme : m = (T.ns.getD j nd0).ents.length := by omega
    subst hme
    have htk : (T.ns.getD j nd0).ents.take (T.ns.getD j nd0).ents.length = (T.ns.getD j nd0).ents := List.take_length
    have sx := And.intro htk sx
    refine awp_exit (up_ ?_)
    refine hK1 _ ?_
    refine rs_ [0, 1, 2, 3, 4, 9] ?_
    refine sg_ ?_
    refine cl_ (hc := c59 T k _ _ _ (hrk _) hT) (k := ?_)
    refine sg_ ?_
    refine re_ ?_
    refine awp_block ?_
    refine rg_ [0, 1, 2, 3, 4, 9, 41] ?_
    refine cd_ (ht := fun hb2 => ?_) (hf := fun hb2 => ?_)
    · refine awp_skip (up_ ?_)
      refine fg_ (h1 := h.set kr _) Tryz.results61 (hH := (hB _)) (hK := ?_)
      exact ⟨rfl, by unfold tailN; rw [if_pos hb2], rfl⟩
    refine rg_ [0, 2, 3, 4, 9, 44] ?_
    refine cd_ (ht := fun hb3 => ?_) (hf := fun hb3 => ?_)
    · refine rt_ [] ?_
      refine sg_ ?_
      refine cg_ (hc := fun hg => c62 T k _ _ _ (hrk _) hT) (k := ?_)
      refine sg_ ?_
      refine rn_ (up_ ?_)
      refine fg_ (h1 := h.set kr _) Tryz.results61 (hH := (hB _)) (hK := ?_)
      exact ⟨rfl, by unfold tailN; rw [if_neg hb2, if_pos hb3], rfl⟩
    refine rt_ [] ?_
    refine sg_ ?_
    refine cg_ (hc := fun hg => c63 o _ _ _ _ (by omega)) (k := ?_)
    refine sg_ ?_
    refine rn_ (up_ ?_)
    refine fg_ (h1 := h.set kr _) Tryz.results61 (hH := (hB _)) (hK := ?_)
    exact ⟨rfl, by unfold tailN; rw [if_neg hb2, if_neg hb3], rfl⟩
  have hml : m < (T.ns.getD j nd0).ents.length := by omega
  refine awp_skip (up_ ?_)
  refine hK2 _ ?_
  refine sk_ fun K3 hK3 => ?_
  refine awp_block ?_
  refine rg_ [0, 1, 2, 3, 4, 8, 13, 14, 15] ?_
  refine rt_ [0, 1, 2, 3, 4, 13, 14, 15] ?_
  refine sg_ ?_
  refine cg_ (hc := fun hg => c56 T k _ _ _ (hrk2 _ _) hT) (k := ?_)
  refine dawp_g rfl rfl (by simp only [push_cast, ↓reduceIte, Nat.reduceEqDiff, Nat.reduceAdd, Nat.reduceLeDiff, sx]; rfl) (fun hg => Eq.trans (show abinOpT Tryz.prog .neq 123 _ (bif (v && okE T ((T.ns.getD j nd0).ents.take m)) then nodeP k (T.at ((T.ns.getD j nd0).ents.getD m ([], 0)).2) else .tup []) (.raw (.pointer none)) = _ by rw [hg]; rfl) (np_neq k _ _)) rfl rfl ?_
  refine sg_ ?_
  refine rn_ (up_ ?_)
  refine hK3 _ ?_
  refine rt_ [0, 1, 2, 3, 4, 13, 14, 15] ?_
  refine sg_ ?_
  refine rn_ (up_ ?_)
  refine ⟨⟨m + 1, by omega⟩, ?_, (by simp only [List.length_set]), by dsimp only; omega⟩
  try dsimp only
  refine Trunc.of (by first | (rw [okE_nil, set_self hr, List.append_nil]) | (rw [okE_take T _ hml])) ?_ (hB _) (fun _ h => h)
  refine FTr.cons (by (simp (disch := omega) only [push_cast, ↓reduceIte, Nat.reduceEqDiff, Nat.reduceAdd, Nat.reduceLeDiff, sx]) <;> first | rfl | (congr 2; omega)) (by first | trivial | exact clL_eV _ _ | (simp [AV.cl, AV.clL, hkl, hrl, htl, hol2]; done)) ?_
  refine FTr.cons (by (simp (disch := omega) only [push_cast, ↓reduceIte, Nat.reduceEqDiff, Nat.reduceAdd, Nat.reduceLeDiff, sx]) <;> first | rfl | (congr 2; omega)) (by first | trivial | exact clL_eV _ _ | (simp [AV.cl, AV.clL, hkl, hrl, htl, hol2]; done)) ?_
  refine FTr.cons (by (simp (disch := omega) only [push_cast, ↓reduceIte, Nat.reduceEqDiff, Nat.reduceAdd, Nat.reduceLeDiff, sx]) <;> first | rfl | (congr 2; omega)) (by first | trivial | exact clL_eV _ _ | (simp [AV.cl, AV.clL, hkl, hrl, htl, hol2]; done)) ?_
  refine FTr.cons (by (simp (disch := omega) only [push_cast, ↓reduceIte, Nat.reduceEqDiff, Nat.reduceAdd, Nat.reduceLeDiff, sx]) <;> first | rfl | (congr 2; omega)) (by first | trivial | exact clL_eV _ _ | (simp [AV.cl, AV.clL, hkl, hrl, htl, hol2]; done)) ?_
  refine FTr.cons (by (simp (disch := omega) only [push_cast, ↓reduceIte, Nat.reduceEqDiff, Nat.reduceAdd, Nat.reduceLeDiff, sx]) <;> first | rfl | (congr 2; omega)) (by first | trivial | exact clL_eV _ _ | (simp [AV.cl, AV.clL, hkl, hrl, htl, hol2]; done)) ?_
  refine FTr.cons (by (simp (disch := omega) only [push_cast, ↓reduceIte, Nat.reduceEqDiff, Nat.reduceAdd, Nat.reduceLeDiff, sx]) <;> first | rfl | (congr 2; omega)) (by first | trivial | exact clL_eV _ _ | (simp [AV.cl, AV.clL, hkl, hrl, htl, hol2]; done)) ?_
  refine FTr.cons (by (simp (disch := omega) only [push_cast, ↓reduceIte, Nat.reduceEqDiff, Nat.reduceAdd, Nat.reduceLeDiff, sx]) <;> first | rfl | (congr 2; omega)) (by first | trivial | exact clL_eV _ _ | (simp [AV.cl, AV.clL, hkl, hrl, htl, hol2]; done)) ?_
  refine FTr.cons (by (simp (disch := omega) only [push_cast, ↓reduceIte, Nat.reduceEqDiff, Nat.reduceAdd, Nat.reduceLeDiff, sx]) <;> first | rfl | (congr 2; omega)) (by first | trivial | exact clL_eV _ _ | (simp [AV.cl, AV.clL, hkl, hrl, htl, hol2]; done)) ?_
  exact FTr.nil

theorem c26 (T : Tab) (k : Nat) (o : List Int) (q : Cap) (h : List Blk) (live : List Nat) (hk : h[k]? = some (tabBlk T)) (hT : T.Ok) (hroot : T.at 1 = some 0) (hol : o.length ≤ 1000000) : ACalls Tryz.prog 26 [.ptr k 0, .slice (o.map iV) q] h live (ret (.bool (rightT T o)) h live) := by
  refine ab_ Tryz.func26 (hw := fun hH hX => ?_)
  have hkl := lt_of_get hk
  have hlen := hT.len
  have hrm := hT.hi
  have hpq := fun g : List Blk => atApp (g := g) hk
  have hB : ∀ b : Bool, HCl (h ++ [.cells [.ptr k 0], .cells [.slice (o.map iV) q], .cells [.bool b]]) := fun b => by
    have := HCl.snoc (HCl.snoc (HCl.snoc (b := .cells [.ptr k 0]) hH ⟨Nat.lt_succ_of_lt hkl, trivial⟩) (b := .cells [.slice (o.map iV) q]) ⟨clL_iV _ _, trivial⟩) (b := .cells [.bool b]) ⟨trivial, trivial⟩
    rw [List.append_assoc, List.append_assoc] at this; exact this
  have hk0 : blkGet (some (tabBlk T)) 1 .one = some (.int .i64 (T.ns.getD 0 nd0).kind) := tab_kind T (j := 0) (by omega)
  have sx := (And.intro @hpq (And.intro @hroot (And.intro @hk0 (And.intro @nodeP_0 sx0))))
  refine rg_ [2, 3] ?_
  refine rs_ [2, 3, 5] ?_
  refine sg_ ?_
  refine cl_ (hc := c56 T k 1 _ _ (hpq _) hT) (k := ?_)
  refine sg_ ?_
  refine re_ ?_
  refine rs_ [2, 3, 6] ?_
  refine sg_ ?_
  refine cg_ (hc := fun hg => c59 T k _ _ _ (hpq _) hT) (k := ?_)
  refine sg_ ?_
  refine re_ ?_
  refine rs_ [6] ?_
  refine sg_ ?_
  refine cl_ (hc := (show ACalls Tryz.prog _ _ (h ++ [.cells [.ptr k 0], .cells [.slice (o.map iV) q], .cells [.bool (rightN T o (decide ((T.ns.getD 0 nd0).kind = 2) && decide (T.links 1 = 0)) 0)]]) _ _ from c60 T k 61 [.ptr (h.length + 2) 0, .ptr h.length 0, .ptr (h.length + 1) 0] (fun m => h ++ [.cells [.ptr k 0], .cells [.slice (o.map iV) q], .cells [.bool (rightN T o (decide ((T.ns.getD 0 nd0).kind = 2) && decide (T.links 1 = 0)) m)]]) _ hT (fun m _ => atApp hk) (fun m _ => hB _) (fun m _ => by simp only [List.length_append, List.length_cons]) (fun m hm hat => by
        obtain ⟨j, hj⟩ := Option.isSome_iff_exists.1 hat
        obtain rfl := at_m hT j hj
        have := c61 T k j o q (rightN T o (decide ((T.ns.getD 0 nd0).kind = 2) && decide (T.links 1 = 0)) j) (h.length + 2) h.length (h.length + 1) (h ++ [.cells [.ptr k 0], .cells [.slice (o.map iV) q], .cells [.bool (rightN T o (decide ((T.ns.getD 0 nd0).kind = 2) && decide (T.links 1 = 0)) j)]]) live (atApp hk) hT (by omega) (by simp only [push_cast]) (by simp only [push_cast]) (by simp only [push_cast]) (by omega) (by omega) (by omega) hol
        rw [set_app] at this
        rw [hj]
        have e : rightN T o (decide ((T.ns.getD 0 nd0).kind = 2) && decide (T.links 1 = 0)) (j + 1) = tailN T o ((j : Int) + 1) (T.ns.getD j nd0) (rightN T o (decide ((T.ns.getD 0 nd0).kind = 2) && decide (T.links 1 = 0)) j && okE T (T.ns.getD j nd0).ents) := by
          show (bif (T.at ((j : Int) + 1)).isSome then _ else _) = _
          rw [hat]; rfl
        rw [e]; exact this) (fun m hm hat => by
        have e : rightN T o (decide ((T.ns.getD 0 nd0).kind = 2) && decide (T.links 1 = 0)) (m + 1) = rightN T o (decide ((T.ns.getD 0 nd0).kind = 2) && decide (T.links 1 = 0)) m := by
          show (bif (T.at ((m : Int) + 1)).isSome then _ else _) = _
          rw [hat]; rfl
        rw [e]) (by simp [AV.cl, AV.clL]; try omega))) (k := ?_)
  refine re_ ?_
  refine rg_ [4] ?_
  refine awp_ret (up_ ?_)
  refine fp_ Tryz.results26 (hK := ?_)
  exact ⟨by unfold rightT; rfl, rfl, rfl⟩

end Go.Proofs.YtegffmibifodcaaGreat
