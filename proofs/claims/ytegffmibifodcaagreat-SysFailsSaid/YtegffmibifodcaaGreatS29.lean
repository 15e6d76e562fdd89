import Derived.Test.YtegffmibifodcaaGreatS28
/-
  CALLS: the law that what fails changes nothing.
-/
namespace Go.Proofs.YtegffmibifodcaaGreat
open Go.Ab
set_option linter.unusedVariables false
set_option linter.unusedSimpArgs false
set_option maxRecDepth 8000
set_option maxHeartbeats 400000


def sameI (l o : List Int) : Bool := decide (l = o)
theorem sameI_refl (l : List Int) : sameI l l = true := decide_eq_true rfl
theorem sameI_t {l o : List Int} (hl : l.length = o.length) (h : ∀ j, j < l.length → l.getD j 0 = o.getD j 0) : sameI l o = true := by
  refine decide_eq_true (List.ext_getElem hl fun j h1 h2 => ?_)
  have := h j h1
  rwa [List.getD_eq_getElem?_getD, List.getElem?_eq_getElem h1, List.getD_eq_getElem?_getD, List.getElem?_eq_getElem h2] at this
theorem sameI_l {l o : List Int} (hl : l.length ≠ o.length) : sameI l o = false := decide_eq_false fun h => hl (by rw [h])
theorem sameI_f {l o : List Int} {j : Nat} (h : l.getD j 0 ≠ o.getD j 0) : sameI l o = false := decide_eq_false fun e => h (by rw [e])

theorem c19 (l o : List Int) (q r : Cap) (h : List Blk) (live : List Nat) (hl : l.length ≤ 1000000) (ho : o.length ≤ 1000000) : ACalls Tryz.prog 19 [.slice (l.map iV) q, .slice (o.map iV) r] h live (ret (.bool (sameI l o)) h live) := by
  refine ab_ Tryz.func19 (hw := fun hH hX => ?_)
  have sx := sx0
  refine rg_ [0, 1] ?_
  refine sk_ fun K1 hK1 => ?_
  refine rg_ [0, 1, 10] ?_
  refine cd_ (ht := fun hb1 => ?_) (hf := fun hb1 => ?_)
  · have hne : l.length ≠ o.length := by omega
    refine rg_ [4] ?_
    refine awp_ret (up_ ?_)
    refine fp_ Tryz.results19 (hK := ?_)
    exact ⟨by rw [sameI_l hne], rfl, rfl⟩
  have hle : l.length = o.length := by omega
  refine awp_skip (up_ ?_)
  refine hK1 _ ?_
  refine sk_ fun K2 hK2 => ?_
  refine rg_ [0, 1, 5] ?_
  refine awp_block ?_
  refine awp_loop' (X := {i : Nat // i ≤ l.length ∧ ∀ j, j < i → l.getD j 0 = o.getD j 0}) (fun x => ⟨Tryz.f19.ntmps, fget [(0, .slice (l.map iV) q), (1, .slice (o.map iV) r), (5, .int .i64 (x.1 : Nat))], h, live⟩) (fun x => l.length - x.1) (⟨0, by omega, fun j hj => by omega⟩) ?_ (by first | rfl | (simp only [List.length_set]; done) | simp) (fun ⟨i, hi, hno⟩ => ?_)
  · try dsimp only
    refine Trunc.same ?_ hH
    refine FTr.cons (by first | rfl | ((simp (disch := omega) only [push_cast, ↓reduceIte, Nat.reduceEqDiff, Nat.reduceAdd, Nat.reduceLeDiff, sx]) <;> rfl)) (by first | trivial | exact clL_iV _ _ | simp [AV.cl, AV.clL]) ?_
    refine FTr.cons (by first | rfl | ((simp (disch := omega) only [push_cast, ↓reduceIte, Nat.reduceEqDiff, Nat.reduceAdd, Nat.reduceLeDiff, sx]) <;> rfl)) (by first | trivial | exact clL_iV _ _ | simp [AV.cl, AV.clL]) ?_
    refine FTr.cons (by first | rfl | ((simp (disch := omega) only [push_cast, ↓reduceIte, Nat.reduceEqDiff, Nat.reduceAdd, Nat.reduceLeDiff, sx]) <;> rfl)) (by first | trivial | exact clL_iV _ _ | simp [AV.cl, AV.clL]) ?_
    exact FTr.nil
  try dsimp only
  refine sk_ fun K3 hK3 => ?_
  refine rg_ [0, 1, 5, 14] ?_
  refine cd_ (ht := fun hb2 => ?_) (hf := fun hb2 => ?_)
  rotate_left
  · have hie : i = l.length := by omega
    subst hie
    refine awp_exit (up_ ?_)
    refine hK2 _ ?_
    refine rg_ [4] ?_
    refine awp_ret (up_ ?_)
    refine fp_ Tryz.results19 (hK := ?_)
    exact ⟨by rw [sameI_t hle hno], rfl, rfl⟩
  have hil : i < l.length := by omega
  have hio : i < o.length := by omega
  refine awp_skip (up_ ?_)
  refine hK3 _ ?_
  refine sk_ fun K4 hK4 => ?_
  refine awp_block ?_
  refine rsq_ [0, 1, 5, 25] ⟨false, [], [], [], [], [], 0⟩ (fun _ => ⟨by kernel_rfl, by kernel_rfl⟩) ?_
  refine sg_ ?_
  refine re_ ?_
  refine cd_ (ht := fun hb3 => ?_) (hf := fun hb3 => ?_)
  · refine rg_ [4] ?_
    refine awp_ret (up_ ?_)
    refine fp_ Tryz.results19 (hK := ?_)
    exact ⟨by rw [sameI_f hb3], rfl, rfl⟩
  refine awp_skip (up_ ?_)
  refine hK4 _ ?_
  refine rt_ [0, 1, 5] ?_
  refine sg_ ?_
  refine rn_ (up_ ?_)
  refine ⟨⟨i + 1, by omega, fun j hj => by rcases Nat.lt_succ_iff_lt_or_eq.1 hj with h | h; exact hno j h; subst h; exact hb3⟩, ?_, (by first | rfl | trivial | (simp only [List.length_set]; done) | simp), by dsimp only; omega⟩
  try dsimp only
  refine Trunc.same ?_ hH
  refine FTr.cons (by (simp (disch := omega) only [push_cast, ↓reduceIte, Nat.reduceEqDiff, Nat.reduceAdd, Nat.reduceLeDiff, sx]) <;> first | rfl | (congr 2; omega)) (by first | trivial | exact clL_iV _ _ | simp [AV.cl, AV.clL]) ?_
  refine FTr.cons (by (simp (disch := omega) only [push_cast, ↓reduceIte, Nat.reduceEqDiff, Nat.reduceAdd, Nat.reduceLeDiff, sx]) <;> first | rfl | (congr 2; omega)) (by first | trivial | exact clL_iV _ _ | simp [AV.cl, AV.clL]) ?_
  refine FTr.cons (by (simp (disch := omega) only [push_cast, ↓reduceIte, Nat.reduceEqDiff, Nat.reduceAdd, Nat.reduceLeDiff, sx]) <;> first | rfl | (congr 2; omega)) (by first | trivial | exact clL_iV _ _ | simp [AV.cl, AV.clL]) ?_
  exact FTr.nil

theorem c6 (room : Int) (l : List Rw) (um : Int) (cs : List Cr) (acs : List At) (h : List Blk) (live : List Nat) (hh0 : h = []) (hn : l.length ≤ 9223372036854775807) (hcs : ∀ c ∈ cs, c.gs.length ≤ 17592186044416) (hcl : cs.length ≤ 17592186044416) (hal : acs.length ≤ 9223372036854775807) : ACalls Tryz.prog 6 [.int .i64 room, .slice (l.map rV) .none, .int .i64 um, .slice (cs.map crV) .none, .slice (acs.map atV) .none] h live (ret (.bool true) h live) := by
  refine ab_ Tryz.func6 (hw := fun hH hX => ?_)
  have sx := sx0
  refine rg_ [0, 1, 2, 3, 4] ?_
  refine rs_ [0, 1, 2, 3, 4, 11] ?_
  refine cl_ (hc := c8 _ _ hh0) (k := ?_)
  refine sg_ ?_
  refine re_ ?_
  refine sk_ fun K1 hK1 => ?_
  refine rg_ [0, 1, 2, 3, 4, 21] ?_
  refine cdn_ (ht := fun hb1 => ?_) (hf := fun hb1 => ?_)
  · exfalso; exact Bool.noConfusion hb1
  refine awp_skip (up_ ?_)
  refine hK1 _ ?_
  refine rs_ [3, 4, 12, 13] ?_
  refine sg_ ?_
  refine ck_ (k := ?_)
  refine (ACalls.hclK (c9 room l um cs _ _ hn hcs hcl)).mono ?_; rintro x0 H0 live ⟨hb0, hH0⟩; obtain ⟨rfl, p0, rfl, hp0⟩ := begun_el hb0
  refine sg_ ?_
  refine re_ ?_
  refine sk_ fun K2 hK2 => ?_
  refine rs_ [4, 12, 37] ?_
  refine sg_ ?_
  refine cg_ (hc := fun hg => c10 acs cs _ _ hal hcs hcl) (k := ?_)
  refine sg_ ?_
  refine re_ ?_
  refine cdn_ (ht := fun hb2 => ?_) (hf := fun hb2 => ?_)
  · refine rg_ [10] ?_
    refine awp_ret (up_ ?_)
    refine fg_ (h1 := h) Tryz.results6 (hh := (⟨_, by rw [hh0]; exact (List.nil_append _).symm⟩)) (hK := ?_)
    exact ⟨rfl, rfl, rfl⟩
  obtain ⟨hb21, hb22⟩ := hb2
  obtain ⟨T, hTe⟩ := Option.isSome_iff_exists.1 hb21
  obtain ⟨hfa, hfc, hfl, hfn⟩ := fewF_ok hb22
  obtain ⟨n, rfl, hy0⟩ := hp0 T hTe hfc hfn
  have hnl := lt_of_get hy0.s
  refine awp_skip (up_ ?_)
  refine hK2 _ ?_
  refine sk_ fun K3 hK3 => ?_
  refine rg_ [4, 12, 14] ?_
  refine awp_block ?_
  refine awp_loopG (X := {x : Nat × List Blk × Tab × List Pr // x.1 ≤ acs.length ∧ SysAt x.2.1 (n + 1) n (n + 3) x.2.2.1 x.2.2.2 ∧ x.2.2.2.length = cs.length ∧ HCl x.2.1}) (fun x => ⟨Tryz.f6.ntmps, fget [(4, .slice (acs.map atV) .none), (12, .ptr (n + 1) 0), (14, .int .i64 (x.1.1 : Nat))], x.1.2.1, live⟩) (fun x => acs.length - x.1.1) (⟨⟨0, H0, T, cs.map (pr1 um)⟩, Nat.zero_le _, hy0, List.length_map .., hH0⟩) ?_ (by first | rfl | (simp only [List.length_set]; done) | simp) (fun ⟨⟨i, H, T1, ps⟩, hi, hy, hpl, hHc⟩ => ?_)
  · try dsimp only
    refine Trunc.of (by first | exact (List.append_nil _).symm | exact rfl | (rw [List.append_assoc]; rfl)) ?_ (by assumption) (fun _ h => h)
    refine FTr.cons (by first | rfl | ((simp (disch := omega) only [push_cast, ↓reduceIte, Nat.reduceEqDiff, Nat.reduceAdd, Nat.reduceLeDiff, sx]) <;> rfl)) (by first | exact trivial | exact clL_atV _ _ | exact clL_crV _ _ | exact clL_iV _ _ | (simp [AV.cl, AV.clL]; done) | (simp only [AV.cl]; omega)) ?_
    refine FTr.cons (by first | rfl | ((simp (disch := omega) only [push_cast, ↓reduceIte, Nat.reduceEqDiff, Nat.reduceAdd, Nat.reduceLeDiff, sx]) <;> rfl)) (by first | exact trivial | exact clL_atV _ _ | exact clL_crV _ _ | exact clL_iV _ _ | (simp [AV.cl, AV.clL]; done) | (simp only [AV.cl]; omega)) ?_
    refine FTr.cons (by first | rfl | ((simp (disch := omega) only [push_cast, ↓reduceIte, Nat.reduceEqDiff, Nat.reduceAdd, Nat.reduceLeDiff, sx]) <;> rfl)) (by first | exact trivial | exact clL_atV _ _ | exact clL_crV _ _ | exact clL_iV _ _ | (simp [AV.cl, AV.clL]; done) | (simp only [AV.cl]; omega)) ?_
    exact FTr.nil
  try dsimp only
  dsimp only at hi hy hpl hHc
  have hnl2 := lt_of_get hy.s
  have hkb : ∀ j, j < ps.length → n + 3 + 2 * j < H.length := fun j hj => lt_of_get (hy.p j hj)
  refine sk_ fun K4 hK4 => ?_
  refine rg_ [4, 12, 14, 41] ?_
  refine cd_ (ht := fun hb3 => ?_) (hf := fun hb3 => ?_)
  rotate_left
  · refine awp_exit (up_ ?_)
    refine hK3 _ ?_
    refine rg_ [10] ?_
    refine awp_ret (up_ ?_)
    refine fg_ (h1 := h) Tryz.results6 (hh := (⟨_, by rw [hh0]; exact (List.nil_append _).symm⟩)) (hK := ?_)
    exact ⟨rfl, rfl, rfl⟩
  have hil : i < acs.length := by omega
  obtain ⟨hf1, hf2, hf3⟩ := hfa _ (getD_mem hil)
  obtain ⟨d, hd⟩ : ∃ d, doF T1 ps (acs.getD i at0).pid (acs.getD i at0).c = d := ⟨_, rfl⟩
  have hdl : d.2.2.length = ps.length := by rw [← hd]; exact doF_len _ _ _ _
  refine awp_skip (up_ ?_)
  refine hK4 _ ?_
  refine sk_ fun K5 hK5 => ?_
  refine awp_block ?_
  refine rs_ [4, 12, 14, 15] ?_
  refine sg_ ?_
  refine cl_ (hc := c14 _ _ _ _ _ _ _ hy) (k := ?_)
  refine sg_ ?_
  refine re_ ?_
  refine rs_ [4, 12, 14, 15, 16] ?_
  refine sg_ ?_
  refine cl_ (hc := c20 _ _ _ _ _ _ _ hy.app) (k := ?_)
  refine sg_ ?_
  refine re_ ?_
  refine rs_ [4, 12, 14, 15, 16, 17] ?_
  refine sg_ ?_
  refine cl_ (hc := c23 _ _ _ _ _ _ _ hy.app _) (k := ?_)
  refine sg_ ?_
  refine re_ ?_
  refine awp_seqG (X := {X : List Blk // SysAt X (n + 1) n (n + 3) d.2.1 d.2.2 ∧ X.length = H.length + 2 ∧ X[H.length + 1]? = some (.cells (rsC d.1)) ∧ X[H.length]? = some (tabBlk T1) ∧ HCl X}) (fun X => ⟨Tryz.f6.ntmps, fget [(4, .slice (acs.map atV) .none), (12, .ptr (n + 1) 0), (14, .int .i64 (i : Nat)), (15, .ptr H.length 0), (16, .slice ((openL ps).map iV) .none), (17, .int .i64 (umQ ps (acs.getD i at0).pid)), (18, .ptr (H.length + 1) 0)], X.1, live⟩) ?_ (fun ⟨H2, hy2, hl2, hx2, hwas, hH2⟩ => ?_)
  rotate_left
  · try dsimp only
    have hnl3 := lt_of_get hy2.s
    have hwg := fun g : List Blk => atApp (g := g) hwas
    have hxg := fun g : List Blk => atApp (g := g) hx2
    have sx := And.intro hx2 (And.intro hxg sx)
    refine sk_ fun K6 hK6 => ?_
    refine rg_ [4, 12, 14, 15, 16, 17, 78] ?_
    refine cb_ (ht := fun hb4 => ?_) (hf := fun hb4 => ?_)
    · refine awp_exit (up_ ?_)
      refine hK5 _ ?_
      refine rt_ [4, 12, 14] ?_
      refine sg_ ?_
      refine rn_ (up_ ?_)
      refine ⟨⟨⟨i + 1, H2, d.2.1, d.2.2⟩, by dsimp only; omega, hy2, hdl.trans hpl, hH2⟩, ?_, (by first | exact Nat.le_refl _ | (dsimp only; omega)), by dsimp only; omega⟩
      try dsimp only
      refine Trunc.of (by first | exact (List.append_nil _).symm | exact rfl | (rw [List.append_assoc]; rfl)) ?_ (by assumption) (fun _ h => h)
      refine FTr.cons (by (simp (disch := omega) only [push_cast, ↓reduceIte, Nat.reduceEqDiff, Nat.reduceAdd, Nat.reduceLeDiff, sx]) <;> first | rfl | (congr 2; omega)) (by first | exact trivial | exact clL_atV _ _ | exact clL_crV _ _ | exact clL_iV _ _ | (simp [AV.cl, AV.clL]; done) | (simp only [AV.cl]; omega)) ?_
      refine FTr.cons (by (simp (disch := omega) only [push_cast, ↓reduceIte, Nat.reduceEqDiff, Nat.reduceAdd, Nat.reduceLeDiff, sx]) <;> first | rfl | (congr 2; omega)) (by first | exact trivial | exact clL_atV _ _ | exact clL_crV _ _ | exact clL_iV _ _ | (simp [AV.cl, AV.clL]; done) | (simp only [AV.cl]; omega)) ?_
      refine FTr.cons (by (simp (disch := omega) only [push_cast, ↓reduceIte, Nat.reduceEqDiff, Nat.reduceAdd, Nat.reduceLeDiff, sx]) <;> first | rfl | (congr 2; omega)) (by first | exact trivial | exact clL_atV _ _ | exact clL_crV _ _ | exact clL_iV _ _ | (simp [AV.cl, AV.clL]; done) | (simp only [AV.cl]; omega)) ?_
      exact FTr.nil
    have hfail : d.1.err ≠ 0 ∨ (acs.getD i at0).c.kind ≤ 4 := by
      by_cases e : d.1.err = 0
      · right; simp [e, -List.getD_eq_getElem?_getD] at hb4; omega
      · exact .inl e
    rw [← hd] at hfail
    obtain ⟨he1, he2, he3⟩ := doF_bad ⟨hy.ok, hy.rt⟩ ps _ _ hfail
    rw [hd] at he1 he2 he3
    have hsm : sameT d.2.1 T1 = true := by rw [he1]; exact sameT_refl _
    have hso : sameI (openL d.2.2) (openL ps) = true := by rw [he2]; exact sameI_refl _
    have hol := openL_len ps
    have hol2 := openL_len d.2.2
    have sx := And.intro hsm (And.intro hso (And.intro he3 (And.intro Bool.not_true sx)))
    refine awp_skip (up_ ?_)
    refine hK6 _ ?_
    refine rs_ [4, 12, 14, 101] ?_
    refine sg_ ?_
    refine cl_ (hc := c14 _ _ _ _ _ _ _ hy2) (k := ?_)
    refine sg_ ?_
    refine cl_ (hc := c25 d.2.1 T1 _ _ _ _ (by simp only [push_cast]) (by first | exact hwg _ | exact atApp (hwg _)) hy2.ok hy.ok) (k := ?_)
    refine sg_ ?_
    refine cl_ (hc := c20 _ _ _ _ _ _ _ (by first | exact hy2 | exact hy2.app)) (k := ?_)
    refine sg_ ?_
    refine cl_ (hc := c19 _ _ _ _ _ _ (by omega) (by omega)) (k := ?_)
    refine sg_ ?_
    refine cl_ (hc := c23 _ _ _ _ _ _ _ (by first | exact hy2 | exact hy2.app) _) (k := ?_)
    refine sg_ ?_
    refine re_ ?_
    refine cb_ (ht := fun hb5 => ?_) (hf := fun hb5 => ?_)
    · exfalso; simp at hb5
    refine awp_skip (up_ ?_)
    refine hK5 _ ?_
    refine rt_ [4, 12, 14] ?_
    refine sg_ ?_
    refine rn_ (up_ ?_)
    refine ⟨⟨⟨i + 1, H2, d.2.1, d.2.2⟩, by dsimp only; omega, hy2, hdl.trans hpl, hH2⟩, ?_, (by first | exact Nat.le_refl _ | (dsimp only; omega)), by dsimp only; omega⟩
    try dsimp only
    refine Trunc.of (by first | exact (List.append_nil _).symm | exact rfl | (rw [List.append_assoc]; rfl)) ?_ (by assumption) (fun _ h => h)
    refine FTr.cons (by (simp (disch := omega) only [push_cast, ↓reduceIte, Nat.reduceEqDiff, Nat.reduceAdd, Nat.reduceLeDiff, sx]) <;> first | rfl | (congr 2; omega)) (by first | exact trivial | exact clL_atV _ _ | exact clL_crV _ _ | exact clL_iV _ _ | (simp [AV.cl, AV.clL]; done) | (simp only [AV.cl]; omega)) ?_
    refine FTr.cons (by (simp (disch := omega) only [push_cast, ↓reduceIte, Nat.reduceEqDiff, Nat.reduceAdd, Nat.reduceLeDiff, sx]) <;> first | rfl | (congr 2; omega)) (by first | exact trivial | exact clL_atV _ _ | exact clL_crV _ _ | exact clL_iV _ _ | (simp [AV.cl, AV.clL]; done) | (simp only [AV.cl]; omega)) ?_
    refine FTr.cons (by (simp (disch := omega) only [push_cast, ↓reduceIte, Nat.reduceEqDiff, Nat.reduceAdd, Nat.reduceLeDiff, sx]) <;> first | rfl | (congr 2; omega)) (by first | exact trivial | exact clL_atV _ _ | exact clL_crV _ _ | exact clL_iV _ _ | (simp [AV.cl, AV.clL]; done) | (simp only [AV.cl]; omega)) ?_
    exact FTr.nil
  refine rt2_ (l1 := [_, _, _, _, _, _, _, _, _, _, _]) [4, 12, 14, 15, 16, 17, 18] ⟨false, [], [60, 65], [], [18], [], 0⟩ rfl ⟨by kernel_rfl, by kernel_rfl⟩ ?_
  refine sg_ ?_
  refine dawp_f rfl rfl (by simp (disch := omega) only [push_cast, ↓reduceIte, Nat.reduceEqDiff, Nat.reduceAdd, Nat.reduceLeDiff, sx]; first | rfl | (simp; rfl)) rfl rfl ?_
  refine sg_ ?_
  refine dawp_f rfl rfl (by simp (disch := omega) only [push_cast, ↓reduceIte, Nat.reduceEqDiff, Nat.reduceAdd, Nat.reduceLeDiff, sx]; first | rfl | (simp; rfl)) rfl rfl ?_
  refine ⟨?_, ?_⟩
  · refine ck_ (k := ?_)
    refine (kDo (by first | exact hy.app | exact hy.app.app) _ _ hd (by omega) (by omega) (by omega)).mono ?_; rintro _ H2 live ⟨⟨rfl, hy2, hl2, ho2, rfl⟩, hH2⟩
    simp at hl2
    have hl2 := hl2.symm
    have hnl3 := lt_of_get hy2.s
    have hwas : H2[H.length]? = some (tabBlk T1) := by rw [ho2 _ (by omega) (fun j hj => by have := hkb j hj; omega)]; simp
    first
      | (have hq : H2[H.length + 1]? = some (.cells [.int .i64 0, .int .i64 0, .int .i64 0, .int .i64 0, .int .i64 0, .int .i64 0, .int .i64 0, .int .i64 0, .int .i64 0, .str [], .slice [] .full, .slice [] .full]) := by
           rw [ho2 _ (by omega) (fun j hj => by have := hkb j hj; omega)]; simp
         have sx := And.intro hq sx)
      | skip
    refine dawp_ga rfl rfl (by (simp (disch := omega) only [push_cast, ↓reduceIte, Nat.reduceEqDiff, Nat.reduceAdd, Nat.reduceLeDiff, sx]) <;> rfl) rfl rfl (by exact stab.nil) ?_
    refine sg_ ?_
    refine rn_ (up_ ?_)
    first
      | (refine ⟨⟨H2 ++ [.cells (rsC d.1)], hy2.app, by rw [List.length_append, List.length_singleton]; omega, (by rw [hl2, List.getElem?_append_right (Nat.le_refl _), Nat.sub_self]; rfl), atApp hwas, HCl.snoc (b := .cells (rsC d.1)) hH2 (clL_rsC _ _)⟩, ?_, (by dsimp only; simp <;> omega)⟩
         dsimp only
         rw [show AV.ptr H2.length 0 = AV.ptr (H.length + 1) 0 by rw [hl2]]
         exact tf_ (HCl.snoc (b := .cells (rsC d.1)) hH2 (clL_rsC _ _)) (fun _ h => h))
      | (refine ⟨⟨H2.set (H.length + 1) (.cells (rsC d.1)), hy2.set (by omega) (by omega) (fun j hj => by rw [hdl] at hj; have := hkb j hj; omega) _, by rw [List.length_set]; omega, get_setk (by omega), getSet hwas (by omega), HCl.set hH2 _ (clL_rsC _ _)⟩, ?_, (by dsimp only; simp <;> omega)⟩
         dsimp only
         exact tf_ (HCl.set hH2 _ (clL_rsC _ _)) (fun _ h => h))
  · refine dawp_ga rfl rfl (by (simp (disch := omega) only [push_cast, ↓reduceIte, Nat.reduceEqDiff, Nat.reduceAdd, Nat.reduceLeDiff, sx]) <;> rfl) rfl rfl (by exact stab.nil) ?_
    refine ck_ (k := ?_)
    refine (kDo (by first | exact hy.app | exact hy.app.app) _ _ hd (by omega) (by omega) (by omega)).mono ?_; rintro _ H2 live ⟨⟨rfl, hy2, hl2, ho2, rfl⟩, hH2⟩
    simp at hl2
    have hl2 := hl2.symm
    have hnl3 := lt_of_get hy2.s
    have hwas : H2[H.length]? = some (tabBlk T1) := by rw [ho2 _ (by omega) (fun j hj => by have := hkb j hj; omega)]; simp
    first
      | (have hq : H2[H.length + 1]? = some (.cells [.int .i64 0, .int .i64 0, .int .i64 0, .int .i64 0, .int .i64 0, .int .i64 0, .int .i64 0, .int .i64 0, .int .i64 0, .str [], .slice [] .full, .slice [] .full]) := by
           rw [ho2 _ (by omega) (fun j hj => by have := hkb j hj; omega)]; simp
         have sx := And.intro hq sx)
      | skip
    refine sg_ ?_
    refine rn_ (up_ ?_)
    first
      | (refine ⟨⟨H2 ++ [.cells (rsC d.1)], hy2.app, by rw [List.length_append, List.length_singleton]; omega, (by rw [hl2, List.getElem?_append_right (Nat.le_refl _), Nat.sub_self]; rfl), atApp hwas, HCl.snoc (b := .cells (rsC d.1)) hH2 (clL_rsC _ _)⟩, ?_, (by dsimp only; simp <;> omega)⟩
         dsimp only
         rw [show AV.ptr H2.length 0 = AV.ptr (H.length + 1) 0 by rw [hl2]]
         exact tf_ (HCl.snoc (b := .cells (rsC d.1)) hH2 (clL_rsC _ _)) (fun _ h => h))
      | (refine ⟨⟨H2.set (H.length + 1) (.cells (rsC d.1)), hy2.set (by omega) (by omega) (fun j hj => by rw [hdl] at hj; have := hkb j hj; omega) _, by rw [List.length_set]; omega, get_setk (by omega), getSet hwas (by omega), HCl.set hH2 _ (clL_rsC _ _)⟩, ?_, (by dsimp only; simp <;> omega)⟩
         dsimp only
         exact tf_ (HCl.set hH2 _ (clL_rsC _ _)) (fun _ h => h))

end Go.Proofs.YtegffmibifodcaaGreat
