import Derived.Test.YtegffmibifodcaaGreatP6
/-
  CALLS: a system begins.
-/
namespace Go.Proofs.YtegffmibifodcaaGreat
open Go.Ab
set_option linter.unusedVariables false
set_option linter.unusedSimpArgs false
set_option maxRecDepth 8000
set_option maxHeartbeats 400000


def crC (c : Cr) : List AV := [.int .i64 c.uid, .int .i64 c.gid, .slice (c.gs.map iV) .none]
def crV (c : Cr) : AV := .agg (crC c)
theorem clL_crV (m : Nat) (l : List Cr) : AV.clL m (l.map crV) := clL_all fun x hx => by
  obtain ⟨c, _, rfl⟩ := List.mem_map.1 hx
  exact ⟨trivial, trivial, clL_iV _ _, trivial⟩
def pr1 (um : Int) (c : Cr) : Pr := ⟨c, bits .and .i64 um 511, fd0, fd0, fd0⟩
def crQ (c : Cr) (q : Cap) : List AV := [.int .i64 c.uid, .int .i64 c.gid, .slice (c.gs.map iV) q]
def prQ (um : Int) (c : Cr) (q : Cap) : List AV := [.int .i64 c.uid, .int .i64 c.gid, .slice (c.gs.map iV) q, .int .i64 (bits .and .i64 um 511), .int .i64 0, .int .i64 0, .bool false, .bool false, .int .i64 0, .int .i64 0, .bool false, .bool false, .int .i64 0, .int .i64 0, .bool false, .bool false]
/-- What is laid for the processes. -/
def pq (um : Int) (l : List (Cr × Cap)) : List Blk := l.flatMap fun p => [.cells (crQ p.1 p.2), .cells (prQ um p.1 p.2)]
theorem pq_len (um : Int) (l : List (Cr × Cap)) : (pq um l).length = 2 * l.length := by
  induction l with
  | nil => rfl
  | cons a l ih => show (pq um l).length + 1 + 1 = _; rw [ih, List.length_cons]; omega
theorem pq_snoc (um : Int) (l : List (Cr × Cap)) (c : Cr) (q : Cap) : pq um (l ++ [(c, q)]) = pq um l ++ [.cells (crQ c q), .cells (prQ um c q)] := by
  unfold pq; rw [List.flatMap_append]; rfl
theorem pq_cl {um : Int} {l : List (Cr × Cap)} : ∀ {h : List Blk}, HCl h → HCl (h ++ pq um l) := by
  induction l with
  | nil => intro h hH; show HCl (h ++ []); rw [List.append_nil]; exact hH
  | cons a l ih =>
    intro h hH
    have h1 : HCl (h ++ [.cells (crQ a.1 a.2), .cells (prQ um a.1 a.2)]) := by
      have := HCl.snoc (HCl.snoc (b := .cells (crQ a.1 a.2)) hH ⟨trivial, trivial, clL_iV _ _, trivial⟩) (b := .cells (prQ um a.1 a.2)) ⟨trivial, trivial, clL_iV _ _, trivial, trivial, trivial, trivial, trivial, trivial, trivial, trivial, trivial, trivial, trivial, trivial, trivial, trivial⟩
      rw [List.append_assoc] at this; exact this
    have := ih h1
    rw [List.append_assoc] at this; exact this
attribute [push_cast] pq_len
def newH (h : List Blk) (T : Tab) (um : Int) (cs : List Cr) : List Blk := h ++ ([tabBlk T, .cells [.ptr h.length 0, .slice (pB (h.length + 3) cs.length) .none]] ++ pq um (cs.map fun c => (c, .none)))
theorem pq_bw (um : Int) : ∀ l : List (Cr × Cap), BW (pq um l) (pq um (l.map fun p => (p.1, Cap.none)))
  | [] => BW.refl _
  | a :: l => by
    show BW ([Blk.cells (crQ a.1 a.2)] ++ ([Blk.cells (prQ um a.1 a.2)] ++ pq um l)) ([Blk.cells (crQ a.1 .none)] ++ ([Blk.cells (prQ um a.1 .none)] ++ pq um (l.map fun p => (p.1, Cap.none))))
    refine BW.app (BW.one ?_) (BW.app (BW.one ?_) (pq_bw um l))
    · show _ = Blk.cells (AV.erL (crQ a.1 a.2)); simp only [crQ, AV.erL, AV.er, erL_iV]
    · show _ = Blk.cells (AV.erL (prQ um a.1 a.2)); simp only [prQ, AV.erL, AV.er, erL_iV]
theorem erL_pB (kb n : Nat) : AV.erL (pB kb n) = pB kb n := by
  rw [AV.erL_map]; unfold pB; rw [List.map_map]; rfl
theorem new_bw (h : List Blk) (T : Tab) (um : Int) (cs : List Cr) (l : List (Cr × Cap)) (q : Cap) (hl : l.length = cs.length) (hm : l.map (·.1) = cs.take l.length) : BW (h ++ ([tabBlk T, .cells [.ptr h.length 0, .slice (pB (h.length + 3) l.length) q]] ++ pq um l)) (newH h T um cs) := by
  have e : (cs.map fun c => (c, Cap.none)) = l.map fun p => (p.1, Cap.none) := by
    rw [hl, List.take_length] at hm; rw [← hm, List.map_map]; rfl
  unfold newH
  rw [e, hl]
  refine BW.app (BW.refl h) (BW.app ?_ (pq_bw um l))
  exact BW.app (BW.refl [tabBlk T]) (BW.one (by show _ = Blk.cells [_, (AV.slice _ q).er]; simp only [AV.er, erL_pB, AV.erL]))
theorem new_cl {h : List Blk} (hH : HCl h) (T : Tab) (um : Int) (l : List (Cr × Cap)) (q : Cap) : HCl (h ++ ([tabBlk T, .cells [.ptr h.length 0, .slice (pB (h.length + 3) l.length) q]] ++ pq um l)) := by
  have hlen : (h ++ ([tabBlk T, .cells [.ptr h.length 0, .slice (pB (h.length + 3) l.length) q]] ++ pq um l)).length = h.length + 2 + 2 * l.length := by simp [pq_len]; omega
  intro b hb
  rw [hlen]
  rcases List.mem_append.1 hb with hb | hb
  · exact Blk.cl_mono (by omega) (hH b hb)
  · rcases List.mem_append.1 hb with hb | hb
    · simp only [List.mem_cons, List.not_mem_nil, or_false] at hb
      rcases hb with rfl | rfl
      · exact cl_tab _ _
      · refine ⟨by show h.length < _; omega, clL_all fun x hx => ?_, trivial⟩
        obtain ⟨i, hi, rfl⟩ := List.mem_map.1 hx
        have := List.mem_range.1 hi
        show h.length + 3 + 2 * i < _; omega
    · obtain ⟨p, _, hp⟩ := List.mem_flatMap.1 hb
      simp only [List.mem_cons, List.not_mem_nil, or_false] at hp
      rcases hp with rfl | rfl
      · exact ⟨trivial, trivial, clL_iV _ _, trivial⟩
      · exact ⟨trivial, trivial, clL_iV _ _, trivial, trivial, trivial, trivial, trivial, trivial, trivial, trivial, trivial, trivial, trivial, trivial, trivial, trivial⟩
theorem newH_cl {h : List Blk} (hH : HCl h) (T : Tab) (um : Int) (cs : List Cr) : HCl (newH h T um cs) := by
  have := new_cl hH T um (cs.map fun c => (c, Cap.none)) .none
  rw [List.length_map] at this; exact this
theorem pB_succ (kb n : Nat) : pB kb (n + 1) = pB kb n ++ [.ptr (kb + 2 * n) 0] := by
  unfold pB; rw [List.range_succ, List.map_append]; rfl
theorem new_step (h : List Blk) (T : Tab) (um : Int) (l : List (Cr × Cap)) (c : Cr) (c31 c44 q : Cap) (H : List Blk) (hHe : h ++ ([tabBlk T, .cells [.ptr h.length 0, .slice (pB (h.length + 3) l.length) q]] ++ pq um l) = H) (hHl : H.length = h.length + 2 + 2 * l.length) :
    H.set (h.length + 1) (.cells [.ptr h.length 0, .slice (pB (h.length + 3) l.length ++ [.ptr (H.length + 1) 0]) c44]) ++ [.cells (crQ c c31), .cells (prQ um c c31)] = h ++ ([tabBlk T, .cells [.ptr h.length 0, .slice (pB (h.length + 3) (l ++ [(c, c31)]).length) c44]] ++ pq um (l ++ [(c, c31)])) := by
  rw [pq_snoc, List.length_append, List.length_singleton, pB_succ, show h.length + 3 + 2 * l.length = H.length + 1 by omega, ← hHe, set_app, List.append_assoc]
  rfl
theorem cells_pB (kb n : Nat) : ∀ y ∈ pB kb n, y.cells.length = 1 := fun y hy => by
  obtain ⟨i, _, rfl⟩ := List.mem_map.1 hy; rfl

attribute [push_cast] clL_crV erL_pB

theorem c28 (T : Tab) (k : Nat) (um : Int) (cs : List Cr) (h : List Blk) (live : List Nat) (hk : h[k]? = some (tabBlk T)) (hT : T.Ok) (hcs : ∀ c ∈ cs, c.gs.length ≤ 17592186044416) (hcl : cs.length ≤ 17592186044416) : ACalls Tryz.prog 28 [.ptr k 0, .int .i64 um, .slice (cs.map crV) .none] h live (ret (.ptr (h.length + 1) 0) (newH h T um cs) live) := by
  refine ab_ Tryz.func28 (hw := fun hH hX => ?_)
  have hkl := lt_of_get hk
  have hT2 := tab_all T hT
  have sx := sx0
  refine rg_ [0, 1, 2] ?_
  refine rs_ [1, 2, 7] ?_
  refine sg_ ?_
  refine cl_ (hc := c36 T k _ _ hk hT) (k := ?_)
  refine sg_ ?_
  refine re_ ?_
  refine sk_ fun K1 hK1 => ?_
  refine rg_ [1, 2, 7, 18] ?_
  refine cdn_ (ht := fun hb1 => ?_) (hf := fun hb1 => ?_)
  · exfalso; exact Bool.noConfusion hb1
  refine awp_skip (up_ ?_)
  refine hK1 _ ?_
  refine sk_ fun K2 hK2 => ?_
  refine rg_ [1, 7, 23, 24, 25] ?_
  refine awp_block ?_
  refine awp_loopG (X := {x : List (Cr × Cap) × Cap × List Nat // x.1.map (·.1) = cs.take x.1.length ∧ x.1.length ≤ cs.length ∧ CapOK x.2.2 x.2.1 ∧ ∀ u ∈ live, u ∈ x.2.2 ∧ x.2.1 ≠ .own u}) (fun x => ⟨Tryz.f28.ntmps, fget [(1, .int .i64 um), (7, .ptr (h.length + 1) 0), (23, .slice (cs.map crV) .none), (24, .int .i64 cs.length), (25, .int .i64 (x.1.1.length : Nat))], h ++ ([tabBlk T, .cells [.ptr h.length 0, .slice (pB (h.length + 3) x.1.1.length) x.1.2.1]] ++ pq um x.1.1), x.1.2.2⟩) (fun x => cs.length - x.1.1.length) (⟨⟨[], .full, live⟩, rfl, Nat.zero_le _, .inl rfl, fun u hu => ⟨hu, Cap.noConfusion⟩⟩) ?_ (by first | rfl | (simp only [List.length_set]; done) | simp) (fun ⟨⟨l, q, live'⟩, hm, hi, hc, hlv⟩ => ?_)
  · try dsimp only
    refine Trunc.of (by first | (rw [List.append_nil]; rfl) | (rw [List.append_nil]; exact new_step h T um l c c31 c44 q H hHe hHl)) ?_ (new_cl hH T um _ _) (fun _ h => h)
    refine FTr.cons (by first | rfl | ((simp (disch := omega) only [push_cast, ↓reduceIte, Nat.reduceEqDiff, Nat.reduceAdd, Nat.reduceLeDiff, sx]) <;> rfl)) (by first | exact trivial | exact clL_crV _ _ | (simp [AV.cl, AV.clL]; done) | (simp [AV.cl, AV.clL]; omega)) ?_
    refine FTr.cons (by first | rfl | ((simp (disch := omega) only [push_cast, ↓reduceIte, Nat.reduceEqDiff, Nat.reduceAdd, Nat.reduceLeDiff, sx]) <;> rfl)) (by first | exact trivial | exact clL_crV _ _ | (simp [AV.cl, AV.clL]; done) | (simp [AV.cl, AV.clL]; omega)) ?_
    refine FTr.cons (by first | rfl | ((simp (disch := omega) only [push_cast, ↓reduceIte, Nat.reduceEqDiff, Nat.reduceAdd, Nat.reduceLeDiff, sx]) <;> rfl)) (by first | exact trivial | exact clL_crV _ _ | (simp [AV.cl, AV.clL]; done) | (simp [AV.cl, AV.clL]; omega)) ?_
    refine FTr.cons (by first | rfl | ((simp (disch := omega) only [push_cast, ↓reduceIte, Nat.reduceEqDiff, Nat.reduceAdd, Nat.reduceLeDiff, sx]) <;> rfl)) (by first | exact trivial | exact clL_crV _ _ | (simp [AV.cl, AV.clL]; done) | (simp [AV.cl, AV.clL]; omega)) ?_
    refine FTr.cons (by first | rfl | ((simp (disch := omega) only [push_cast, ↓reduceIte, Nat.reduceEqDiff, Nat.reduceAdd, Nat.reduceLeDiff, sx]) <;> rfl)) (by first | exact trivial | exact clL_crV _ _ | (simp [AV.cl, AV.clL]; done) | (simp [AV.cl, AV.clL]; omega)) ?_
    exact FTr.nil
  try dsimp only
  dsimp only at hm hi hc hlv
  obtain ⟨H, hHe⟩ : ∃ H, h ++ ([tabBlk T, .cells [.ptr h.length 0, .slice (pB (h.length + 3) l.length) q]] ++ pq um l) = H := ⟨_, rfl⟩
  simp only [hHe]
  have hHl : H.length = h.length + 2 + 2 * l.length := by rw [← hHe]; simp [pq_len]; omega
  have hHs : ∀ g : List Blk, (H ++ g)[h.length + 1]? = some (.cells [.ptr h.length 0, .slice (pB (h.length + 3) l.length) q]) := fun g => atApp (by rw [← hHe, get_app]; rfl)
  have hHz : ∀ (g : List Blk) (y : Blk), (H ++ g).set (h.length + 1) y = H.set (h.length + 1) y ++ g := fun g y => List.set_append_left _ _ (by omega)
  have sx := And.intro hHs (And.intro hHz sx)
  refine rg_ [1, 7, 23, 24, 25, 26] ?_
  refine sk_ fun K3 hK3 => ?_
  refine cd_ (ht := fun hb2 => ?_) (hf := fun hb2 => ?_)
  rotate_left
  · have hle : l.length = cs.length := by omega
    refine awp_exit (up_ ?_)
    refine hK2 _ ?_
    refine rg_ [6] ?_
    refine awp_ret (up_ ?_)
    refine fe_ (h1 := newH h T um cs) Tryz.results28 (hh := ⟨H, [], (List.append_nil _).symm, hHe ▸ new_bw h T um cs l q hle hm⟩) (hcl := (by show _ < (newH h T um cs).length; unfold newH; simp; try omega)) (hl := (fun u hu => (hlv u hu).1)) (hH := (newH_cl hH T um cs)) (hle := (by unfold newH; simp)) (hK := ?_)
    exact ⟨rfl, rfl, rfl⟩
  have hil : l.length < cs.length := by omega
  obtain ⟨c, hcc⟩ : ∃ c, cs[l.length] = c := ⟨_, rfl⟩
  have hgl := hcs c (hcc ▸ List.getElem_mem hil)
  have hge : (cs.map crV).getD l.length .undef = .agg [.int .i64 c.uid, .int .i64 c.gid, .slice (c.gs.map iV) .none] := by rw [List.getD_eq_getElem?_getD, List.getElem?_map, List.getElem?_eq_getElem hil, hcc]; rfl
  have hgm : (cs.map crV)[l.length]? = some (.agg [.int .i64 c.uid, .int .i64 c.gid, .slice (c.gs.map iV) .none]) := by rw [List.getElem?_map, List.getElem?_eq_getElem hil, hcc]; rfl
  have sx := And.intro hge (And.intro hgm sx)
  refine awp_skip (up_ ?_)
  refine hK3 _ ?_
  refine sk_ fun K4 hK4 => ?_
  refine awp_block ?_
  refine rg_ [1, 7, 9, 23, 24, 25] ?_
  refine rs_ [1, 7, 9, 23, 24, 25] ?_
  refine sg_ ?_
  refine dawp_w rfl rfl rfl rfl (AOp.append _ _ _ rfl (by (simp (disch := omega) only [push_cast, ↓reduceIte, Nat.reduceEqDiff, Nat.reduceAdd, Nat.reduceLeDiff, sx]) <;> rfl) (by (simp (disch := omega) only [push_cast, ↓reduceIte, Nat.reduceEqDiff, Nat.reduceAdd, Nat.reduceLeDiff, sx]) <;> rfl) (by (simp (disch := omega) only [push_cast, ↓reduceIte, Nat.reduceEqDiff, Nat.reduceAdd, Nat.reduceLeDiff, sx]) <;> rfl) (.inl rfl) (by simp) (cells_iV _) (by simp; omega) (by simp; omega) ?_)
  intro c31 live31 hk31
  refine sg_ ?_
  refine re_ ?_
  refine rtq_ [1, 7, 23, 24, 25] ⟨false, [(h.length + 1, 1, .one), (H.length, 0, .agg 3)], [37, 38], [], [42], [], 0⟩ (fun _ => ⟨by kernel_rfl, by kernel_rfl⟩) ?_
  refine sg_ ?_
  iterate 2 (refine dawp_f rfl rfl (by simp (disch := omega) only [push_cast, ↓reduceIte, Nat.reduceEqDiff, Nat.reduceAdd, Nat.reduceLeDiff, sx]; first | rfl | (simp; rfl)) rfl rfl ?_)
  refine sg_ ?_
  refine dawp_ga rfl rfl (by (simp (disch := omega) only [push_cast, ↓reduceIte, Nat.reduceEqDiff, Nat.reduceAdd, Nat.reduceLeDiff, sx]) <;> rfl) rfl rfl (by exact stab.cons (by simp (disch := omega) only [push_cast, ↓reduceIte, Nat.reduceEqDiff, Nat.reduceAdd, Nat.reduceLeDiff, sx]) (stab.cons (by simp (disch := omega) only [push_cast, ↓reduceIte, Nat.reduceEqDiff, Nat.reduceAdd, Nat.reduceLeDiff, sx]) (stab.nil))) ?_
  refine sg_ ?_
  refine dawp_w rfl rfl rfl rfl (AOp.append _ _ _ rfl (by (simp (disch := omega) only [push_cast, ↓reduceIte, Nat.reduceEqDiff, Nat.reduceAdd, Nat.reduceLeDiff, sx]) <;> rfl) (by (simp (disch := omega) only [push_cast, ↓reduceIte, Nat.reduceEqDiff, Nat.reduceAdd, Nat.reduceLeDiff, sx]) <;> rfl) (by (simp (disch := omega) only [push_cast, ↓reduceIte, Nat.reduceEqDiff, Nat.reduceAdd, Nat.reduceLeDiff, sx]) <;> rfl) (cap_mid hc (fun u h => by cases h) hk31) (cells_pB _ _) (by simp [AV.cells]) (by simp [pB_len]; omega) (by simp [pB_len]; omega) ?_)
  intro c44 live44 hk44
  refine sg_ ?_
  refine rn_ (up_ ?_)
  refine hK4 _ ?_
  refine rt_ [1, 7, 23, 24, 25] ?_
  refine sg_ ?_
  refine rn_ (up_ ?_)
  refine ⟨⟨⟨l ++ [(c, c31)], c44, live44⟩, by dsimp only; rw [List.map_append, hm, List.length_append, List.length_singleton, List.take_succ_eq_append_getElem hil, hcc]; rfl, by dsimp only; rw [List.length_append, List.length_singleton]; omega, hk44.1, fun u hu => by
    have a := hlv u hu
    have b := hk31.2 u a.1 Cap.noConfusion
    exact hk44.2 u b.1 a.2⟩, ?_, (by dsimp only; first | (simp; done) | (simp; omega) | (rw [← hHe]; simp [pq_len]; done) | (rw [← hHe]; simp [pq_len]; omega)), by dsimp only; rw [List.length_append, List.length_singleton]; omega⟩
  try dsimp only
  refine Trunc.of (by first | (rw [List.append_nil]; rfl) | (rw [List.append_nil]; exact new_step h T um l c c31 c44 q H hHe hHl)) ?_ (new_cl hH T um _ _) (fun _ h => h)
  refine FTr.cons (by (simp (disch := omega) only [push_cast, ↓reduceIte, Nat.reduceEqDiff, Nat.reduceAdd, Nat.reduceLeDiff, sx]) <;> first | rfl | (congr 2; omega)) (by first | exact trivial | exact clL_crV _ _ | (simp [AV.cl, AV.clL]; done) | (simp [AV.cl, AV.clL]; omega)) ?_
  refine FTr.cons (by (simp (disch := omega) only [push_cast, ↓reduceIte, Nat.reduceEqDiff, Nat.reduceAdd, Nat.reduceLeDiff, sx]) <;> first | rfl | (congr 2; omega)) (by first | exact trivial | exact clL_crV _ _ | (simp [AV.cl, AV.clL]; done) | (simp [AV.cl, AV.clL]; omega)) ?_
  refine FTr.cons (by (simp (disch := omega) only [push_cast, ↓reduceIte, Nat.reduceEqDiff, Nat.reduceAdd, Nat.reduceLeDiff, sx]) <;> first | rfl | (congr 2; omega)) (by first | exact trivial | exact clL_crV _ _ | (simp [AV.cl, AV.clL]; done) | (simp [AV.cl, AV.clL]; omega)) ?_
  refine FTr.cons (by (simp (disch := omega) only [push_cast, ↓reduceIte, Nat.reduceEqDiff, Nat.reduceAdd, Nat.reduceLeDiff, sx]) <;> first | rfl | (congr 2; omega)) (by first | exact trivial | exact clL_crV _ _ | (simp [AV.cl, AV.clL]; done) | (simp [AV.cl, AV.clL]; omega)) ?_
  refine FTr.cons (by (simp (disch := omega) only [push_cast, ↓reduceIte, Nat.reduceEqDiff, Nat.reduceAdd, Nat.reduceLeDiff, sx]) <;> first | rfl | (congr 2; omega)) (by first | exact trivial | exact clL_crV _ _ | (simp [AV.cl, AV.clL]; done) | (simp [AV.cl, AV.clL]; omega)) ?_
  exact FTr.nil

end Go.Proofs.YtegffmibifodcaaGreat

/-
  CALLS: a law's system begins; its calls are few.
-/
namespace Go.Proofs.YtegffmibifodcaaGreat
open Go.Ab
set_option linter.unusedVariables false
set_option linter.unusedSimpArgs false
set_option maxRecDepth 8000
set_option maxHeartbeats 400000

theorem Tab.Rt.new (room : Int) : (newT room).Rt := fun n hn hk => absurd (by rw [(List.mem_replicate.1 hn).2]; rfl) hk
theorem Tab.Rt.one {T : Tab} (h : T.Rt) (r : Rw) : (oneF T r).2.Rt := by
  have ht : (toldF T r).2.Rt := by
    unfold toldF
    split
    · exact h.add _
    · split
      · exact h
      · split <;> exact h
  unfold oneF
  split
  · exact h
  · split
    · exact ht
    · split
      · exact ht
      · exact ht.putT _ _
theorem Tab.Rt.rest : ∀ (l : List Rw) (T : Tab) (i : Nat) (T' : Tab), T.Rt → restF T i l = .inr T' → T'.Rt
  | [], T, i, T', h, e => by cases e; exact h
  | r :: l, T, i, T', h, e => by
    unfold restF at e
    split at e
    · cases e
    · exact Tab.Rt.rest l _ _ T' (h.one r) e
theorem Tab.Rt.build {room : Int} {l : List Rw} {T : Tab} (e : buildF room l = .inr T) : T.Rt := by
  unfold buildF at e
  cases hc : (decide ((l.length : Int) = 0) || !decide ((l.getD 0 rw0).kind = 2) || !decide ((l.getD 0 rw0).parent = 0) || !decide ((l.getD 0 rw0).name = [])) with
  | true => rw [hc] at e; cases e
  | false =>
    rw [hc, cond_false] at e
    split at e
    · cases e
    · exact Tab.Rt.rest _ _ _ T ((Tab.Rt.new room).add _) e


theorem built_rt {room : Int} {l : List Rw} {c : Cr} {T : Tab} (h : builtF room l c = some T) : T.Rt := by
  unfold builtF at h
  cases h1 : (decide ((50 : Int) < l.length) || decide ((10 : Int) < c.gs.length)) with
  | true => rw [h1] at h; cases h
  | false =>
    rw [h1, cond_false] at h
    cases h2 : l.any bigR with
    | true => rw [h2] at h; cases h
    | false =>
      rw [h2, cond_false] at h
      split at h
      · cases h
      · rename_i T' hT'
        cases h
        exact Tab.Rt.build hT'
theorem erL_rV (l : List Rw) : AV.erL (l.map rV) = l.map rV := by
  rw [AV.erL_map, List.map_map]
  refine List.map_congr_left fun r _ => ?_
  show (rV r).er = rV r
  simp only [rV, rwC, AV.er, AV.erL, erL_bV]
/-- What is told of a system that begins. -/
def begunK (h : List Blk) (live : List Nat) (um : Int) (cs : List Cr) (o : Option Tab) : KT := fun x h' l' => l' = live ∧ ((o = none ∧ x = .tup [.raw (.pointer none), .bool false] ∧ h' = h) ∨ (∃ T g, o = some T ∧ x = .tup [.ptr ((h ++ g).length + 1) 0, .bool true] ∧ h' = newH (h ++ g) T um cs))
def cr0 : Cr := ⟨0, 0, []⟩
theorem pq_get (um : Int) : ∀ (l : List (Cr × Cap)) (i : Nat), i < l.length → ∀ g, (pq um l ++ g)[2 * i + 1]? = some (.cells (prQ um (l.getD i (cr0, .none)).1 (l.getD i (cr0, .none)).2))
  | a :: l, 0, _, g => rfl
  | a :: l, i + 1, h, g => by
    have := pq_get um l i (by simpa using h) g
    show (Blk.cells (crQ a.1 a.2) :: Blk.cells (prQ um a.1 a.2) :: (pq um l ++ g))[2 * i + 1 + 1 + 1]? = _
    rw [List.getElem?_cons_succ, List.getElem?_cons_succ, this, List.getD_cons_succ]
theorem newH_len (h : List Blk) (T : Tab) (um : Int) (cs : List Cr) : (newH h T um cs).length = h.length + 2 + 2 * cs.length := by
  unfold newH; simp [pq_len]; omega
/-- What begins is a system. -/
theorem newH_at (h : List Blk) {T : Tab} (um : Int) {cs : List Cr} (hT : T.Ok) (hR : T.Rt) (hg : ∀ c ∈ cs, c.gs.length ≤ 1000000) (hf : cs.length ≤ 1000) : SysAt (newH h T um cs) (h.length + 1) h.length (h.length + 3) T (cs.map (pr1 um)) where
  s := by unfold newH; rw [get_app, List.length_map]; rfl
  t := by unfold newH; rw [get_app0]; rfl
  p := fun i hi => by
    rw [List.length_map] at hi
    have := pq_get um (cs.map fun c => (c, Cap.none)) i (by simpa using hi) []
    rw [List.append_nil] at this
    unfold newH
    rw [show h.length + 3 + 2 * i = h.length + (2 * i + 1 + 1 + 1) by omega, get_app]
    show (tabBlk T :: Blk.cells _ :: pq um (cs.map fun c => (c, Cap.none)))[2 * i + 1 + 1 + 1]? = _
    rw [List.getElem?_cons_succ, List.getElem?_cons_succ, this, List.getD_eq_getElem?_getD, List.getElem?_map, List.getElem?_eq_getElem hi, List.getElem_map]
    rfl
  st := by omega
  sb := by omega
  tb := by omega
  ok := hT
  rt := hR
  gs := fun P hP => by obtain ⟨c, hc, rfl⟩ := List.mem_map.1 hP; exact hg c hc
  few := by rw [List.length_map]; exact hf
/-- A call of one who acts. -/
structure At where
  pid : Int
  c : Ca
def at0 : At := ⟨0, ⟨0, [], [], 0, 0, []⟩⟩
def atC (a : At) : List AV := .int .i64 a.pid :: caC a.c
def atV (a : At) : AV := .agg (atC a)
theorem getD_atV {l : List At} {i : Nat} {d : AV} (h : i < l.length) : (l.map atV).getD i d = .agg (atC (l.getD i at0)) := by
  simp [List.getD_eq_getElem?_getD, h, atV]
theorem allSz_atV (l : List At) : allSz (l.map atV) 7 ↔ True := iff_true_intro (allSz_map _ _ _ fun _ => rfl)
theorem atC_0 (c : At) : (atC c)[0]? = some (.int .i64 c.pid) := rfl
theorem atC_2 (c : At) : (atC c)[2]? = some (.str c.c.path) := rfl
theorem atC_3 (c : At) : (atC c)[3]? = some (.str c.c.other) := rfl
theorem atC_6 (c : At) : (atC c)[6]? = some (.slice (c.c.data.map bV) .none) := rfl
theorem atC_len (c : At) : (atC c).length = 7 := rfl
theorem atC_ca (c : At) : ((atC c).drop 1).take 6 = caC c.c := rfl
theorem clL_atV (n : Nat) (l : List At) : AV.clL n (l.map atV) := clL_all fun x hx => by
  obtain ⟨c, _, rfl⟩ := List.mem_map.1 hx
  exact ⟨trivial, trivial, trivial, trivial, trivial, trivial, clL_bV _ _, trivial⟩
attribute [push_cast] getD_atV allSz_atV atC_0 atC_2 atC_3 atC_6 atC_len atC_ca
theorem getD_crV {l : List Cr} {i : Nat} {d : AV} (h : i < l.length) : (l.map crV).getD i d = .agg (crC (l.getD i cr0)) := by
  simp [List.getD_eq_getElem?_getD, h, crV]
theorem allSz_crV (l : List Cr) : allSz (l.map crV) 3 ↔ True := iff_true_intro (allSz_map _ _ _ fun _ => rfl)
theorem crC_2 (c : Cr) : (crC c)[2]? = some (.slice (c.gs.map iV) .none) := rfl
theorem crC_len (c : Cr) : (crC c).length = 3 := rfl
attribute [push_cast] getD_crV allSz_crV crC_2 crC_len
def bigA (a : At) : Bool := decide ((100 : Int) < a.c.path.length) || decide ((100 : Int) < a.c.other.length) || decide ((100 : Int) < a.c.data.length)
def bigC (c : Cr) : Bool := decide ((10 : Int) < c.gs.length)
def fewF (l : List At) (cs : List Cr) : Bool := !l.any bigA && (!cs.any bigC && (decide ((l.length : Int) ≤ 60) && decide ((cs.length : Int) ≤ 6)))
theorem fewF_ok {l : List At} {cs : List Cr} (h : fewF l cs = true) : (∀ a ∈ l, a.c.path.length ≤ 100 ∧ a.c.other.length ≤ 100 ∧ a.c.data.length ≤ 100) ∧ (∀ c ∈ cs, c.gs.length ≤ 10) ∧ l.length ≤ 60 ∧ cs.length ≤ 6 := by
  unfold fewF at h
  simp only [Bool.and_eq_true, Bool.not_eq_true', decide_eq_true_eq] at h
  obtain ⟨h1, h2, h3, h4⟩ := h
  refine ⟨fun a ha => ?_, fun c hc => ?_, by omega, by omega⟩
  · have := List.any_eq_false.1 h1 a ha
    simp only [bigA, Bool.not_eq_true, Bool.or_eq_false_iff, decide_eq_false_iff_not, Int.not_lt] at this
    exact ⟨by omega, by omega, by omega⟩
  · have := List.any_eq_false.1 h2 c hc
    simp only [bigC, decide_eq_true_eq, Int.not_lt] at this
    omega

attribute [push_cast] erL_rV clL_atV

theorem c9 (room : Int) (l : List Rw) (um : Int) (cs : List Cr) (h : List Blk) (live : List Nat) (hn : l.length ≤ 9223372036854775807) (hcs : ∀ c ∈ cs, c.gs.length ≤ 17592186044416) (hcl : cs.length ≤ 17592186044416) : ACalls Tryz.prog 9 [.int .i64 room, .slice (l.map rV) .none, .int .i64 um, .slice (cs.map crV) .none] h live (begunK h live um cs (builtF room l ⟨0, 0, []⟩)) := by
  refine ab_ Tryz.func9 (hw := fun hH hX => ?_)
  have sx := sx0
  refine rg_ [0, 1, 2, 3] ?_
  refine rs_ [2, 3, 10, 11] ?_
  refine sg_ ?_
  refine ck_ (k := ?_)
  refine erx_ (ys := [.int .i64 room, .slice (l.map rV) .none, .agg [.int .i64 0, .int .i64 0, .slice (([] : List Int).map iV) .none]]) (by simp only [List.map_cons, List.map_nil, AV.er, AV.erL, erL_rV] <;> rfl) ((ACalls.hclK (c30 room l ⟨0, 0, []⟩ _ _ hn (by simp))).mono ?_); rintro _ _ _ ⟨⟨rfl, g, p, rfl, rfl, hpc, hp⟩, hHg⟩
  refine sg_ ?_
  refine re_ ?_
  refine sk_ fun K1 hK1 => ?_
  refine rg_ [2, 3, 10, 20] ?_
  refine cb_ (ht := fun hb1 => ?_) (hf := fun hb1 => ?_)
  · have hbn : builtF room l ⟨0, 0, []⟩ = none := by simpa using hb1
    refine rg_ [8, 9] ?_
    refine awp_ret (up_ ?_)
    refine fp_ Tryz.results9 (hcl := (by first | (simp [AV.cl, AV.clL]; done) | skip; show _ ∧ _; refine ⟨?_, trivial, trivial⟩; show _ < (newH (h ++ g) T um cs).length; rw [newH_len]; simp; omega)) (hK := ?_)
    exact ⟨rfl, .inl ⟨hbn, rfl, rfl⟩⟩
  obtain ⟨T, hTe⟩ := Option.isSome_iff_exists.1 (by simpa using hb1)
  obtain ⟨k, rfl, hk⟩ := hp T hTe
  obtain ⟨hT, _⟩ := builtF_ok hTe
  refine awp_skip (up_ ?_)
  refine hK1 _ ?_
  refine rs_ [8, 9] ?_
  refine sg_ ?_
  refine cl_ (hc := c28 T k um cs _ _ hk hT hcs hcl) (k := ?_)
  refine sg_ ?_
  refine re_ ?_
  refine awp_ret (up_ ?_)
  refine fg_ (h1 := newH (h ++ g) T um cs) Tryz.results9 (hcl := (by first | (simp [AV.cl, AV.clL]; done) | skip; show _ ∧ _; refine ⟨?_, trivial, trivial⟩; show _ < (newH (h ++ g) T um cs).length; rw [newH_len]; simp; omega)) (hH := (newH_cl hHg T um cs)) (hle := (by rw [newH_len]; simp; omega)) (hK := ?_)
  exact ⟨rfl, .inr ⟨T, g, hTe, by rw [List.length_append], rfl⟩⟩

theorem c10 (l : List At) (cs : List Cr) (h : List Blk) (live : List Nat) (hn : l.length ≤ 9223372036854775807) (hcs : ∀ c ∈ cs, c.gs.length ≤ 17592186044416) (hcl : cs.length ≤ 17592186044416) : ACalls Tryz.prog 10 [.slice (l.map atV) .none, .slice (cs.map crV) .none] h live (ret (.bool (fewF l cs)) h live) := by
  refine ab_ Tryz.func10 (hw := fun hH hX => ?_)
  have sx := sx0
  refine rg_ [0, 1] ?_
  refine sk_ fun K1 hK1 => ?_
  refine rg_ [0, 1, 5] ?_
  refine awp_block ?_
  refine awp_loop' (X := {i : Nat // i ≤ l.length ∧ ∀ j, j < i → bigA (l.getD j at0) = false}) (fun x => ⟨Tryz.f10.ntmps, fget [(0, .slice (l.map atV) .none), (1, .slice (cs.map crV) .none), (5, .int .i64 (x.1 : Nat))], h, live⟩) (fun x => l.length - x.1) (⟨0, by omega, fun j hj => by omega⟩) ?_ (by first | rfl | (simp only [List.length_set]; done) | simp) (fun ⟨i, hi, hno⟩ => ?_)
  · try dsimp only
    refine Trunc.same ?_ hH
    refine FTr.cons (by first | rfl | ((simp (disch := omega) only [push_cast, ↓reduceIte, Nat.reduceEqDiff, Nat.reduceAdd, Nat.reduceLeDiff, sx]) <;> rfl)) (by first | exact clL_atV _ _ | exact clL_crV _ _ | trivial | simp [AV.cl, AV.clL]) ?_
    refine FTr.cons (by first | rfl | ((simp (disch := omega) only [push_cast, ↓reduceIte, Nat.reduceEqDiff, Nat.reduceAdd, Nat.reduceLeDiff, sx]) <;> rfl)) (by first | exact clL_atV _ _ | exact clL_crV _ _ | trivial | simp [AV.cl, AV.clL]) ?_
    refine FTr.cons (by first | rfl | ((simp (disch := omega) only [push_cast, ↓reduceIte, Nat.reduceEqDiff, Nat.reduceAdd, Nat.reduceLeDiff, sx]) <;> rfl)) (by first | exact clL_atV _ _ | exact clL_crV _ _ | trivial | simp [AV.cl, AV.clL]) ?_
    exact FTr.nil
  try dsimp only
  refine sk_ fun K2 hK2 => ?_
  refine rg_ [0, 1, 5, 10] ?_
  refine cd_ (ht := fun hb1 => ?_) (hf := fun hb1 => ?_)
  rotate_left
  · have hie : i = l.length := by omega
    subst hie
    have hal : l.any bigA = false := any_getD_f at0 hno
    refine awp_exit (up_ ?_)
    refine hK1 _ ?_
    refine sk_ fun K3 hK3 => ?_
    refine rg_ [0, 1, 6] ?_
    refine awp_block ?_
    refine awp_loop' (X := {i : Nat // i ≤ cs.length ∧ ∀ j, j < i → bigC (cs.getD j cr0) = false}) (fun x => ⟨Tryz.f10.ntmps, fget [(0, .slice (l.map atV) .none), (1, .slice (cs.map crV) .none), (6, .int .i64 (x.1 : Nat))], h, live⟩) (fun x => cs.length - x.1) (⟨0, by omega, fun j hj => by omega⟩) ?_ (by first | rfl | (simp only [List.length_set]; done) | simp) (fun ⟨i2, hi2, hno2⟩ => ?_)
    · try dsimp only
      refine Trunc.same ?_ hH
      refine FTr.cons (by first | rfl | ((simp (disch := omega) only [push_cast, ↓reduceIte, Nat.reduceEqDiff, Nat.reduceAdd, Nat.reduceLeDiff, sx]) <;> rfl)) (by first | exact clL_atV _ _ | exact clL_crV _ _ | trivial | simp [AV.cl, AV.clL]) ?_
      refine FTr.cons (by first | rfl | ((simp (disch := omega) only [push_cast, ↓reduceIte, Nat.reduceEqDiff, Nat.reduceAdd, Nat.reduceLeDiff, sx]) <;> rfl)) (by first | exact clL_atV _ _ | exact clL_crV _ _ | trivial | simp [AV.cl, AV.clL]) ?_
      refine FTr.cons (by first | rfl | ((simp (disch := omega) only [push_cast, ↓reduceIte, Nat.reduceEqDiff, Nat.reduceAdd, Nat.reduceLeDiff, sx]) <;> rfl)) (by first | exact clL_atV _ _ | exact clL_crV _ _ | trivial | simp [AV.cl, AV.clL]) ?_
      exact FTr.nil
    try dsimp only
    refine sk_ fun K4 hK4 => ?_
    refine rg_ [0, 1, 6, 44] ?_
    refine cd_ (ht := fun hb3 => ?_) (hf := fun hb3 => ?_)
    rotate_left
    · have hie : i2 = cs.length := by omega
      subst hie
      have hal2 : cs.any bigC = false := any_getD_f cr0 hno2
      refine awp_exit (up_ ?_)
      refine hK3 _ ?_
      refine rg_ [4] ?_
      refine awp_ret (up_ ?_)
      refine fp_ Tryz.results10 (hK := ?_)
      exact ⟨by unfold fewF; first | (rw [hal, hal2]; rfl) | (rw [hal]; rfl), rfl, rfl⟩
    have hil2 : i2 < cs.length := by omega
    refine awp_skip (up_ ?_)
    refine hK4 _ ?_
    refine sk_ fun K5 hK5 => ?_
    refine awp_block ?_
    refine rg_ [0, 1, 6, 53] ?_
    refine cb_ (ht := fun hb4 => ?_) (hf := fun hb4 => ?_)
    · have hal2 : cs.any bigC = true := any_getD_t cr0 hil2 hb4
      refine rg_ [4] ?_
      refine awp_ret (up_ ?_)
      refine fp_ Tryz.results10 (hK := ?_)
      exact ⟨by unfold fewF; first | (rw [hal, hal2]; rfl) | (rw [hal]; rfl), rfl, rfl⟩
    refine awp_skip (up_ ?_)
    refine hK5 _ ?_
    refine rt_ [0, 1, 6] ?_
    refine sg_ ?_
    refine rn_ (up_ ?_)
    refine ⟨⟨i2 + 1, by omega, fun j hj => by rcases Nat.lt_succ_iff_lt_or_eq.1 hj with h | h; exact hno2 j h; subst h; exact hb4⟩, ?_, (by first | rfl | trivial | (simp only [List.length_set]; done) | simp), by dsimp only; omega⟩
    try dsimp only
    refine Trunc.same ?_ hH
    refine FTr.cons (by (simp (disch := omega) only [push_cast, ↓reduceIte, Nat.reduceEqDiff, Nat.reduceAdd, Nat.reduceLeDiff, sx]) <;> first | rfl | (congr 2; omega)) (by first | exact clL_atV _ _ | exact clL_crV _ _ | trivial | simp [AV.cl, AV.clL]) ?_
    refine FTr.cons (by (simp (disch := omega) only [push_cast, ↓reduceIte, Nat.reduceEqDiff, Nat.reduceAdd, Nat.reduceLeDiff, sx]) <;> first | rfl | (congr 2; omega)) (by first | exact clL_atV _ _ | exact clL_crV _ _ | trivial | simp [AV.cl, AV.clL]) ?_
    refine FTr.cons (by (simp (disch := omega) only [push_cast, ↓reduceIte, Nat.reduceEqDiff, Nat.reduceAdd, Nat.reduceLeDiff, sx]) <;> first | rfl | (congr 2; omega)) (by first | exact clL_atV _ _ | exact clL_crV _ _ | trivial | simp [AV.cl, AV.clL]) ?_
    exact FTr.nil
  have hil : i < l.length := by omega
  refine awp_skip (up_ ?_)
  refine hK2 _ ?_
  refine sk_ fun K6 hK6 => ?_
  refine awp_block ?_
  refine rg_ [0, 1, 5, 40] ?_
  refine cb_ (ht := fun hb2 => ?_) (hf := fun hb2 => ?_)
  · have hal : l.any bigA = true := any_getD_t at0 hil hb2
    refine rg_ [4] ?_
    refine awp_ret (up_ ?_)
    refine fp_ Tryz.results10 (hK := ?_)
    exact ⟨by unfold fewF; first | (rw [hal, hal2]; rfl) | (rw [hal]; rfl), rfl, rfl⟩
  refine awp_skip (up_ ?_)
  refine hK6 _ ?_
  refine rt_ [0, 1, 5] ?_
  refine sg_ ?_
  refine rn_ (up_ ?_)
  refine ⟨⟨i + 1, by omega, fun j hj => by rcases Nat.lt_succ_iff_lt_or_eq.1 hj with h | h; exact hno j h; subst h; exact hb2⟩, ?_, (by first | rfl | trivial | (simp only [List.length_set]; done) | simp), by dsimp only; omega⟩
  try dsimp only
  refine Trunc.same ?_ hH
  refine FTr.cons (by (simp (disch := omega) only [push_cast, ↓reduceIte, Nat.reduceEqDiff, Nat.reduceAdd, Nat.reduceLeDiff, sx]) <;> first | rfl | (congr 2; omega)) (by first | exact clL_atV _ _ | exact clL_crV _ _ | trivial | simp [AV.cl, AV.clL]) ?_
  refine FTr.cons (by (simp (disch := omega) only [push_cast, ↓reduceIte, Nat.reduceEqDiff, Nat.reduceAdd, Nat.reduceLeDiff, sx]) <;> first | rfl | (congr 2; omega)) (by first | exact clL_atV _ _ | exact clL_crV _ _ | trivial | simp [AV.cl, AV.clL]) ?_
  refine FTr.cons (by (simp (disch := omega) only [push_cast, ↓reduceIte, Nat.reduceEqDiff, Nat.reduceAdd, Nat.reduceLeDiff, sx]) <;> first | rfl | (congr 2; omega)) (by first | exact clL_atV _ _ | exact clL_crV _ _ | trivial | simp [AV.cl, AV.clL]) ?_
  exact FTr.nil

end Go.Proofs.YtegffmibifodcaaGreat

