import Derived.Test.YtegffmibifodcaaGreatS25
/-
  CALLS: what is a process's own.
-/
namespace Go.Proofs.YtegffmibifodcaaGreat
open Go.Ab
set_option linter.unusedVariables false
set_option linter.unusedSimpArgs false
set_option maxRecDepth 8000
set_option maxHeartbeats 400000


/-- Two slices that are appended to. -/
structure Two (live lv : List Nat) (a b : Cap) : Prop where
  oa : CapOK lv a
  ob : CapOK lv b
  ne : ∀ u, a = .own u → b ≠ .own u
  keep : ∀ u ∈ live, u ∈ lv ∧ a ≠ .own u ∧ b ≠ .own u
theorem Two.new (live : List Nat) : Two live live .full .full := ⟨.inl rfl, .inl rfl, fun _ h => (nomatch h), fun _ hu => ⟨hu, fun h => (nomatch h), fun h => (nomatch h)⟩⟩
theorem Two.fst {live lv lv' : List Nat} {a b a' : Cap} (h : Two live lv a b) (k : Keeps lv a lv' a') : Two live lv' a' b where
  oa := k.1
  ob := cap_mid h.ob (fun u e e' => h.ne u e e') k
  ne := fun u e e' => by
    subst e'
    rcases h.ob with e2 | ⟨t, e2, ht⟩
    · cases e2
    · cases e2
      exact (k.2 u ht (fun e3 => h.ne u e3 rfl)).2 e
  keep := fun u hu => ⟨(k.2 u (h.keep u hu).1 (h.keep u hu).2.1).1, (k.2 u (h.keep u hu).1 (h.keep u hu).2.1).2, (h.keep u hu).2.2⟩
theorem Two.swap {live lv : List Nat} {a b : Cap} (h : Two live lv a b) : Two live lv b a := ⟨h.ob, h.oa, fun u e e' => h.ne u e' e, fun u hu => ⟨(h.keep u hu).1, (h.keep u hu).2.2, (h.keep u hu).2.1⟩⟩
theorem Two.snd {live lv lv' : List Nat} {a b b' : Cap} (h : Two live lv a b) (k : Keeps lv b lv' b') : Two live lv' a b' := (h.swap.fst k).swap
def fdV (f : Fde) : AV := .agg (fdC f)
def fdK (ps : List Pr) (p k : Nat) : List Fde := (List.range k).map fun i : Nat => fdQ ps (p : Nat) (i : Nat)
def fdL (ps : List Pr) (p : Nat) : List Fde := (List.range p).flatMap fun i => fdK ps i 3
def umL (ps : List Pr) (p : Nat) : List Int := (List.range p).map fun i : Nat => umQ ps (i : Nat)
theorem fdK_succ (ps : List Pr) (p k : Nat) : fdK ps p k ++ [fdQ ps p k] = fdK ps p (k + 1) := by unfold fdK; rw [List.range_succ, List.map_append]; rfl
theorem fdL_succ (ps : List Pr) (p : Nat) : fdL ps p ++ fdK ps p 3 = fdL ps (p + 1) := by unfold fdL; rw [List.range_succ, List.flatMap_append]; simp
theorem umL_succ (ps : List Pr) (p : Nat) : umL ps p ++ [umQ ps p] = umL ps (p + 1) := by unfold umL; rw [List.range_succ, List.map_append]; rfl
theorem fdK_len (ps : List Pr) (p k : Nat) : (fdK ps p k).length = k := by simp [fdK]
theorem fdL_len (ps : List Pr) (p : Nat) : (fdL ps p).length = 3 * p := by
  induction p with
  | zero => rfl
  | succ p ih => rw [← fdL_succ, List.length_append, ih, fdK_len]; omega
theorem umL_len (ps : List Pr) (p : Nat) : (umL ps p).length = p := by simp [umL]
theorem fdL_get (ps : List Pr) {p k : Nat} (hk : k < 3) : ∀ {m : Nat}, p < m → (fdL ps m)[3 * p + k]? = some (fdQ ps p k)
  | m + 1, h => by
    rw [← fdL_succ]
    by_cases hp : p < m
    · rw [List.getElem?_append_left (by rw [fdL_len]; omega)]; exact fdL_get ps hk hp
    · have e : p = m := by omega
      subst e
      rw [List.getElem?_append_right (by rw [fdL_len]; omega), fdL_len, show 3 * p + k - 3 * p = k by omega]
      simp [fdK, hk]
theorem umL_get (ps : List Pr) {p m : Nat} (h : p < m) : (umL ps m)[p]? = some (umQ ps p) := by simp [umL, h]
theorem clL_fdV (m : Nat) (l : List Fde) : AV.clL m (l.map fdV) := clL_all fun x hx => by
  obtain ⟨c, _, rfl⟩ := List.mem_map.1 hx
  exact clL_fdC _ _
theorem fdV_snoc (l : List Fde) (f : Fde) : l.map fdV ++ [.agg (fdC f)] = (l ++ [f]).map fdV := by simp [fdV]
theorem cells_fdV (l : List Fde) : ∀ y ∈ l.map fdV, y.cells.length = 4 := fun y hy => by
  obtain ⟨f, _, rfl⟩ := List.mem_map.1 hy; rfl
theorem allSz_fdV (l : List Fde) : allSz (l.map fdV) 4 ↔ True := iff_true_intro (allSz_map _ _ _ fun _ => rfl)
attribute [push_cast] allSz_fdV fdL_len fdK_len umL_len
/-- Another process's call turns nothing that is a process's own. -/
theorem doF_fd (T : Tab) (ps : List Pr) {pid : Int} (ca : Ca) {p : Int} (k : Int) (h : p ≠ pid) : fdQ (doF T ps pid ca).2.2 p k = fdQ ps p k := by
  unfold doF
  split
  · unfold fdQ
    rw [List.length_set]
    by_cases hc : (0 ≤ p ∧ p < ps.length) ∧ 0 ≤ k ∧ k < 3
    · rw [if_pos hc, if_pos hc, List.getD_eq_getElem?_getD, List.getElem?_set_ne (by omega), List.getD_eq_getElem?_getD]
    · rw [if_neg hc, if_neg hc]
  · rfl
theorem doF_um (T : Tab) (ps : List Pr) {pid : Int} (ca : Ca) {p : Int} (h : p ≠ pid) : umQ (doF T ps pid ca).2.2 p = umQ ps p := by
  unfold doF
  split
  · unfold umQ
    rw [List.length_set]
    by_cases hc : 0 ≤ p ∧ p < ps.length
    · rw [if_pos hc, if_pos hc, List.getD_eq_getElem?_getD, List.getElem?_set_ne (by omega), List.getD_eq_getElem?_getD]
    · rw [if_neg hc, if_neg hc]
  · rfl

attribute [push_cast] clL_fdV

theorem c5 (room : Int) (l : List Rw) (cs : List Cr) (acs : List At) (h : List Blk) (live : List Nat) (hh0 : h = []) (hn : l.length ≤ 9223372036854775807) (hcs : ∀ c ∈ cs, c.gs.length ≤ 17592186044416) (hcl : cs.length ≤ 17592186044416) (hal : acs.length ≤ 9223372036854775807) : ACalls Tryz.prog 5 [.int .i64 room, .slice (l.map rV) .none, .slice (cs.map crV) .none, .slice (acs.map atV) .none] h live (ret (.bool true) h live) := by
  refine ab_ Tryz.func5 (hw := fun hH hX => ?_)
  have sx := sx0
  refine rg_ [0, 1, 2, 3] ?_
  refine rs_ [0, 1, 2, 3, 9] ?_
  refine cl_ (hc := c8 _ _ hh0) (k := ?_)
  refine sg_ ?_
  refine re_ ?_
  refine sk_ fun K1 hK1 => ?_
  refine rg_ [0, 1, 2, 3, 21] ?_
  refine cdn_ (ht := fun hb1 => ?_) (hf := fun hb1 => ?_)
  · exfalso; exact Bool.noConfusion hb1
  refine awp_skip (up_ ?_)
  refine hK1 _ ?_
  refine rs_ [2, 3, 10, 11] ?_
  refine sg_ ?_
  refine ck_ (k := ?_)
  refine (ACalls.hclK (c9 room l 18 cs _ _ hn hcs hcl)).mono ?_; rintro x0 H0 live ⟨hb0, hH0⟩; obtain ⟨rfl, p0, rfl, hp0⟩ := begun_el hb0
  refine sg_ ?_
  refine re_ ?_
  refine sk_ fun K2 hK2 => ?_
  refine rs_ [2, 3, 10, 36] ?_
  refine sg_ ?_
  refine cg_ (hc := fun hg => c10 acs cs _ _ hal hcs hcl) (k := ?_)
  refine sg_ ?_
  refine re_ ?_
  refine cdn_ (ht := fun hb2 => ?_) (hf := fun hb2 => ?_)
  · refine rg_ [8] ?_
    refine awp_ret (up_ ?_)
    refine fg_ (h1 := h) Tryz.results5 (hh := (⟨_, by rw [hh0]; exact (List.nil_append _).symm⟩)) (hK := ?_)
    exact ⟨rfl, rfl, rfl⟩
  obtain ⟨hb21, hb22⟩ := hb2
  obtain ⟨T, hTe⟩ := Option.isSome_iff_exists.1 hb21
  obtain ⟨hfa, hfc, hfl, hfn⟩ := fewF_ok hb22
  obtain ⟨n, rfl, hy0⟩ := hp0 T hTe hfc hfn
  have hnl := lt_of_get hy0.s
  refine awp_skip (up_ ?_)
  refine hK2 _ ?_
  refine sk_ fun K3 hK3 => ?_
  refine rg_ [2, 3, 10, 12] ?_
  refine awp_block ?_
  refine awp_loop' (X := {x : Nat × List Blk × Tab × List Pr // x.1 ≤ acs.length ∧ SysAt x.2.1 (n + 1) n (n + 3) x.2.2.1 x.2.2.2 ∧ x.2.2.2.length = cs.length ∧ HCl x.2.1 ∧ x.2.1.length = H0.length}) (fun x => ⟨Tryz.f5.ntmps, fget [(2, .slice (cs.map crV) .none), (3, .slice (acs.map atV) .none), (10, .ptr (n + 1) 0), (12, .int .i64 (x.1.1 : Nat))], x.1.2.1, live⟩) (fun x => acs.length - x.1.1) (⟨⟨0, H0, T, cs.map (pr1 18)⟩, Nat.zero_le _, hy0, List.length_map .., hH0, rfl⟩) ?_ (by first | rfl | (simp only [List.length_set]; done) | simp) (fun ⟨⟨i, H, T1, ps⟩, hi, hy, hpl, hHc, hHl⟩ => ?_)
  · try dsimp only
    refine Trunc.of (by first | exact (List.append_nil _).symm | exact rfl | (rw [List.append_assoc]; rfl)) ?_ (by assumption) (by first | exact fun u hu => hu | exact fun u hu => (hlv.keep u hu).1)
    refine FTr.cons (by first | rfl | ((simp (disch := omega) only [push_cast, ↓reduceIte, Nat.reduceEqDiff, Nat.reduceAdd, Nat.reduceLeDiff, sx]) <;> rfl)) (by first | exact trivial | exact clL_atV _ _ | exact clL_crV _ _ | exact clL_fdV _ _ | exact clL_iV _ _ | (simp [AV.cl, AV.clL]; done) | (simp only [AV.cl]; omega)) ?_
    refine FTr.cons (by first | rfl | ((simp (disch := omega) only [push_cast, ↓reduceIte, Nat.reduceEqDiff, Nat.reduceAdd, Nat.reduceLeDiff, sx]) <;> rfl)) (by first | exact trivial | exact clL_atV _ _ | exact clL_crV _ _ | exact clL_fdV _ _ | exact clL_iV _ _ | (simp [AV.cl, AV.clL]; done) | (simp only [AV.cl]; omega)) ?_
    refine FTr.cons (by first | rfl | ((simp (disch := omega) only [push_cast, ↓reduceIte, Nat.reduceEqDiff, Nat.reduceAdd, Nat.reduceLeDiff, sx]) <;> rfl)) (by first | exact trivial | exact clL_atV _ _ | exact clL_crV _ _ | exact clL_fdV _ _ | exact clL_iV _ _ | (simp [AV.cl, AV.clL]; done) | (simp only [AV.cl]; omega)) ?_
    refine FTr.cons (by first | rfl | ((simp (disch := omega) only [push_cast, ↓reduceIte, Nat.reduceEqDiff, Nat.reduceAdd, Nat.reduceLeDiff, sx]) <;> rfl)) (by first | exact trivial | exact clL_atV _ _ | exact clL_crV _ _ | exact clL_fdV _ _ | exact clL_iV _ _ | (simp [AV.cl, AV.clL]; done) | (simp only [AV.cl]; omega)) ?_
    exact FTr.nil
  try dsimp only
  dsimp only at hi hy hpl hHc hHl
  have hnl2 := lt_of_get hy.s
  refine sk_ fun K4 hK4 => ?_
  refine rg_ [2, 3, 10, 12, 40] ?_
  refine cd_ (ht := fun hb3 => ?_) (hf := fun hb3 => ?_)
  rotate_left
  · refine awp_exit (up_ ?_)
    refine hK3 _ ?_
    refine rg_ [8] ?_
    refine awp_ret (up_ ?_)
    refine fg_ (h1 := h) Tryz.results5 (hh := (⟨_, by rw [hh0]; exact (List.nil_append _).symm⟩)) (hK := ?_)
    exact ⟨rfl, rfl, rfl⟩
  have hil : i < acs.length := by omega
  obtain ⟨hf1, hf2, hf3⟩ := hfa _ (getD_mem hil)
  obtain ⟨d, hd⟩ : ∃ d, doF T1 ps (acs.getD i at0).pid (acs.getD i at0).c = d := ⟨_, rfl⟩
  have hdl : d.2.2.length = ps.length := by rw [← hd]; exact doF_len _ _ _ _
  refine awp_skip (up_ ?_)
  refine hK4 _ ?_
  refine sk_ fun K5 hK5 => ?_
  refine awp_block ?_
  refine rg_ [2, 3, 10, 12, 13] ?_
  refine rg_ [2, 3, 10, 12, 13, 14] ?_
  refine sk_ fun K6 hK6 => ?_
  refine rg_ [2, 3, 10, 12, 13, 14, 15] ?_
  refine awp_block ?_
  refine awp_loop' (X := {x : Nat × Cap × Cap × List Nat // x.1 ≤ cs.length ∧ Two live x.2.2.2 x.2.1 x.2.2.1}) (fun x => ⟨Tryz.f5.ntmps, fget [(2, .slice (cs.map crV) .none), (3, .slice (acs.map atV) .none), (10, .ptr (n + 1) 0), (12, .int .i64 (i : Nat)), (13, .slice ((fdL ps x.1.1).map fdV) x.1.2.1), (14, .slice ((umL ps x.1.1).map iV) x.1.2.2.1), (15, .int .i64 (x.1.1 : Nat))], H, x.1.2.2.2⟩) (fun x => cs.length - x.1.1) (⟨⟨0, .full, .full, live⟩, Nat.zero_le _, Two.new live⟩) ?_ (by first | rfl | (simp only [List.length_set]; done) | simp) (fun ⟨⟨p, q1, q2, lv⟩, hp, hlv⟩ => ?_)
  · try dsimp only
    refine Trunc.of (by first | exact (List.append_nil _).symm | exact rfl | (rw [List.append_assoc]; rfl)) ?_ hHc (fun _ h => h)
    refine FTr.cons (by first | rfl | ((simp (disch := omega) only [push_cast, ↓reduceIte, Nat.reduceEqDiff, Nat.reduceAdd, Nat.reduceLeDiff, sx]) <;> rfl)) (by first | exact trivial | exact clL_atV _ _ | exact clL_crV _ _ | exact clL_fdV _ _ | exact clL_iV _ _ | (simp [AV.cl, AV.clL]; done) | (simp only [AV.cl]; omega)) ?_
    refine FTr.cons (by first | rfl | ((simp (disch := omega) only [push_cast, ↓reduceIte, Nat.reduceEqDiff, Nat.reduceAdd, Nat.reduceLeDiff, sx]) <;> rfl)) (by first | exact trivial | exact clL_atV _ _ | exact clL_crV _ _ | exact clL_fdV _ _ | exact clL_iV _ _ | (simp [AV.cl, AV.clL]; done) | (simp only [AV.cl]; omega)) ?_
    refine FTr.cons (by first | rfl | ((simp (disch := omega) only [push_cast, ↓reduceIte, Nat.reduceEqDiff, Nat.reduceAdd, Nat.reduceLeDiff, sx]) <;> rfl)) (by first | exact trivial | exact clL_atV _ _ | exact clL_crV _ _ | exact clL_fdV _ _ | exact clL_iV _ _ | (simp [AV.cl, AV.clL]; done) | (simp only [AV.cl]; omega)) ?_
    refine FTr.cons (by first | rfl | ((simp (disch := omega) only [push_cast, ↓reduceIte, Nat.reduceEqDiff, Nat.reduceAdd, Nat.reduceLeDiff, sx]) <;> rfl)) (by first | exact trivial | exact clL_atV _ _ | exact clL_crV _ _ | exact clL_fdV _ _ | exact clL_iV _ _ | (simp [AV.cl, AV.clL]; done) | (simp only [AV.cl]; omega)) ?_
    refine FTr.cons (by first | rfl | ((simp (disch := omega) only [push_cast, ↓reduceIte, Nat.reduceEqDiff, Nat.reduceAdd, Nat.reduceLeDiff, sx]) <;> rfl)) (by first | exact trivial | exact clL_atV _ _ | exact clL_crV _ _ | exact clL_fdV _ _ | exact clL_iV _ _ | (simp [AV.cl, AV.clL]; done) | (simp only [AV.cl]; omega)) ?_
    refine FTr.cons (by first | rfl | ((simp (disch := omega) only [push_cast, ↓reduceIte, Nat.reduceEqDiff, Nat.reduceAdd, Nat.reduceLeDiff, sx]) <;> rfl)) (by first | exact trivial | exact clL_atV _ _ | exact clL_crV _ _ | exact clL_fdV _ _ | exact clL_iV _ _ | (simp [AV.cl, AV.clL]; done) | (simp only [AV.cl]; omega)) ?_
    refine FTr.cons (by first | rfl | ((simp (disch := omega) only [push_cast, ↓reduceIte, Nat.reduceEqDiff, Nat.reduceAdd, Nat.reduceLeDiff, sx]) <;> rfl)) (by first | exact trivial | exact clL_atV _ _ | exact clL_crV _ _ | exact clL_fdV _ _ | exact clL_iV _ _ | (simp [AV.cl, AV.clL]; done) | (simp only [AV.cl]; omega)) ?_
    exact FTr.nil
  try dsimp only
  dsimp only at hp hlv
  refine sk_ fun K7 hK7 => ?_
  refine rg_ [2, 3, 10, 12, 13, 14, 15, 46] ?_
  refine cd_ (ht := fun hb4 => ?_) (hf := fun hb4 => ?_)
  rotate_left
  · have hpe : p = cs.length := by omega
    subst hpe
    refine awp_exit (up_ ?_)
    refine hK6 _ ?_
    refine rsq_ [2, 3, 10, 12, 13, 14] ⟨false, [], [], [], [], [], 0⟩ (fun _ => ⟨by kernel_rfl, by kernel_rfl⟩) ?_
    refine sg_ ?_
    refine ck_ (k := ?_)
    refine (kDo hy _ _ hd (by omega) (by omega) (by omega)).mono ?_; rintro _ H2 lv ⟨⟨rfl, hy2, hl2, ho2, rfl⟩, hH2⟩
    refine re_ ?_
    refine rg_ [2, 3, 10, 12, 13, 14, 17] ?_
    refine awp_block ?_
    refine awp_loop' (X := {p : Nat // p ≤ cs.length}) (fun x => ⟨Tryz.f5.ntmps, fget [(2, .slice (cs.map crV) .none), (3, .slice (acs.map atV) .none), (10, .ptr (n + 1) 0), (12, .int .i64 (i : Nat)), (13, .slice ((fdL ps cs.length).map fdV) q1), (14, .slice ((umL ps cs.length).map iV) q2), (17, .int .i64 (x.1 : Nat))], H2, lv⟩) (fun x => cs.length - x.1) (⟨0, Nat.zero_le _⟩) ?_ (by first | rfl | (simp only [List.length_set]; done) | simp) (fun ⟨p, hp⟩ => ?_)
    · try dsimp only
      refine Trunc.of (by first | exact (List.append_nil _).symm | exact rfl | (rw [List.append_assoc]; rfl)) ?_ hH2 (fun _ h => h)
      refine FTr.cons (by first | rfl | ((simp (disch := omega) only [push_cast, ↓reduceIte, Nat.reduceEqDiff, Nat.reduceAdd, Nat.reduceLeDiff, sx]) <;> rfl)) (by first | exact trivial | exact clL_atV _ _ | exact clL_crV _ _ | exact clL_fdV _ _ | exact clL_iV _ _ | (simp [AV.cl, AV.clL]; done) | (simp only [AV.cl]; omega)) ?_
      refine FTr.cons (by first | rfl | ((simp (disch := omega) only [push_cast, ↓reduceIte, Nat.reduceEqDiff, Nat.reduceAdd, Nat.reduceLeDiff, sx]) <;> rfl)) (by first | exact trivial | exact clL_atV _ _ | exact clL_crV _ _ | exact clL_fdV _ _ | exact clL_iV _ _ | (simp [AV.cl, AV.clL]; done) | (simp only [AV.cl]; omega)) ?_
      refine FTr.cons (by first | rfl | ((simp (disch := omega) only [push_cast, ↓reduceIte, Nat.reduceEqDiff, Nat.reduceAdd, Nat.reduceLeDiff, sx]) <;> rfl)) (by first | exact trivial | exact clL_atV _ _ | exact clL_crV _ _ | exact clL_fdV _ _ | exact clL_iV _ _ | (simp [AV.cl, AV.clL]; done) | (simp only [AV.cl]; omega)) ?_
      refine FTr.cons (by first | rfl | ((simp (disch := omega) only [push_cast, ↓reduceIte, Nat.reduceEqDiff, Nat.reduceAdd, Nat.reduceLeDiff, sx]) <;> rfl)) (by first | exact trivial | exact clL_atV _ _ | exact clL_crV _ _ | exact clL_fdV _ _ | exact clL_iV _ _ | (simp [AV.cl, AV.clL]; done) | (simp only [AV.cl]; omega)) ?_
      refine FTr.cons (by first | rfl | ((simp (disch := omega) only [push_cast, ↓reduceIte, Nat.reduceEqDiff, Nat.reduceAdd, Nat.reduceLeDiff, sx]) <;> rfl)) (by first | exact trivial | exact clL_atV _ _ | exact clL_crV _ _ | exact clL_fdV _ _ | exact clL_iV _ _ | (simp [AV.cl, AV.clL]; done) | (simp only [AV.cl]; omega)) ?_
      refine FTr.cons (by first | rfl | ((simp (disch := omega) only [push_cast, ↓reduceIte, Nat.reduceEqDiff, Nat.reduceAdd, Nat.reduceLeDiff, sx]) <;> rfl)) (by first | exact trivial | exact clL_atV _ _ | exact clL_crV _ _ | exact clL_fdV _ _ | exact clL_iV _ _ | (simp [AV.cl, AV.clL]; done) | (simp only [AV.cl]; omega)) ?_
      refine FTr.cons (by first | rfl | ((simp (disch := omega) only [push_cast, ↓reduceIte, Nat.reduceEqDiff, Nat.reduceAdd, Nat.reduceLeDiff, sx]) <;> rfl)) (by first | exact trivial | exact clL_atV _ _ | exact clL_crV _ _ | exact clL_fdV _ _ | exact clL_iV _ _ | (simp [AV.cl, AV.clL]; done) | (simp only [AV.cl]; omega)) ?_
      exact FTr.nil
    try dsimp only
    refine sk_ fun K8 hK8 => ?_
    refine rg_ [2, 3, 10, 12, 13, 14, 17, 81] ?_
    refine cd_ (ht := fun hb6 => ?_) (hf := fun hb6 => ?_)
    rotate_left
    · refine awp_exit (up_ ?_)
      refine hK5 _ ?_
      refine rt_ [2, 3, 10, 12] ?_
      refine sg_ ?_
      refine rn_ (up_ ?_)
      refine ⟨⟨⟨i + 1, H2, d.2.1, d.2.2⟩, by dsimp only; omega, hy2, hdl.trans hpl, hH2, by dsimp only; omega⟩, ?_, (by first | rfl | (dsimp only; omega)), by dsimp only; omega⟩
      try dsimp only
      refine Trunc.of (by first | exact (List.append_nil _).symm | exact rfl | (rw [List.append_assoc]; rfl)) ?_ (by assumption) (by first | exact fun u hu => hu | exact fun u hu => (hlv.keep u hu).1)
      refine FTr.cons (by (simp (disch := omega) only [push_cast, ↓reduceIte, Nat.reduceEqDiff, Nat.reduceAdd, Nat.reduceLeDiff, sx]) <;> first | rfl | (congr 2; omega)) (by first | exact trivial | exact clL_atV _ _ | exact clL_crV _ _ | exact clL_fdV _ _ | exact clL_iV _ _ | (simp [AV.cl, AV.clL]; done) | (simp only [AV.cl]; omega)) ?_
      refine FTr.cons (by (simp (disch := omega) only [push_cast, ↓reduceIte, Nat.reduceEqDiff, Nat.reduceAdd, Nat.reduceLeDiff, sx]) <;> first | rfl | (congr 2; omega)) (by first | exact trivial | exact clL_atV _ _ | exact clL_crV _ _ | exact clL_fdV _ _ | exact clL_iV _ _ | (simp [AV.cl, AV.clL]; done) | (simp only [AV.cl]; omega)) ?_
      refine FTr.cons (by (simp (disch := omega) only [push_cast, ↓reduceIte, Nat.reduceEqDiff, Nat.reduceAdd, Nat.reduceLeDiff, sx]) <;> first | rfl | (congr 2; omega)) (by first | exact trivial | exact clL_atV _ _ | exact clL_crV _ _ | exact clL_fdV _ _ | exact clL_iV _ _ | (simp [AV.cl, AV.clL]; done) | (simp only [AV.cl]; omega)) ?_
      refine FTr.cons (by (simp (disch := omega) only [push_cast, ↓reduceIte, Nat.reduceEqDiff, Nat.reduceAdd, Nat.reduceLeDiff, sx]) <;> first | rfl | (congr 2; omega)) (by first | exact trivial | exact clL_atV _ _ | exact clL_crV _ _ | exact clL_fdV _ _ | exact clL_iV _ _ | (simp [AV.cl, AV.clL]; done) | (simp only [AV.cl]; omega)) ?_
      exact FTr.nil
    have hpl2 : p < cs.length := by omega
    refine awp_skip (up_ ?_)
    refine hK8 _ ?_
    refine sk_ fun K9 hK9 => ?_
    refine awp_block ?_
    refine rg_ [2, 3, 10, 12, 13, 14, 17, 18] ?_
    refine awp_block ?_
    refine awp_loop' (X := {k : Nat // k ≤ 3}) (fun x => ⟨Tryz.f5.ntmps, fget [(2, .slice (cs.map crV) .none), (3, .slice (acs.map atV) .none), (10, .ptr (n + 1) 0), (12, .int .i64 (i : Nat)), (13, .slice ((fdL ps cs.length).map fdV) q1), (14, .slice ((umL ps cs.length).map iV) q2), (17, .int .i64 (p : Nat)), (18, .int .i64 (x.1 : Nat))], H2, lv⟩) (fun x => 3 - x.1) (⟨0, by omega⟩) ?_ (by first | rfl | (simp only [List.length_set]; done) | simp) (fun ⟨k, hk⟩ => ?_)
    · try dsimp only
      refine Trunc.of (by first | exact (List.append_nil _).symm | exact rfl | (rw [List.append_assoc]; rfl)) ?_ hH2 (fun _ h => h)
      refine FTr.cons (by first | rfl | ((simp (disch := omega) only [push_cast, ↓reduceIte, Nat.reduceEqDiff, Nat.reduceAdd, Nat.reduceLeDiff, sx]) <;> rfl)) (by first | exact trivial | exact clL_atV _ _ | exact clL_crV _ _ | exact clL_fdV _ _ | exact clL_iV _ _ | (simp [AV.cl, AV.clL]; done) | (simp only [AV.cl]; omega)) ?_
      refine FTr.cons (by first | rfl | ((simp (disch := omega) only [push_cast, ↓reduceIte, Nat.reduceEqDiff, Nat.reduceAdd, Nat.reduceLeDiff, sx]) <;> rfl)) (by first | exact trivial | exact clL_atV _ _ | exact clL_crV _ _ | exact clL_fdV _ _ | exact clL_iV _ _ | (simp [AV.cl, AV.clL]; done) | (simp only [AV.cl]; omega)) ?_
      refine FTr.cons (by first | rfl | ((simp (disch := omega) only [push_cast, ↓reduceIte, Nat.reduceEqDiff, Nat.reduceAdd, Nat.reduceLeDiff, sx]) <;> rfl)) (by first | exact trivial | exact clL_atV _ _ | exact clL_crV _ _ | exact clL_fdV _ _ | exact clL_iV _ _ | (simp [AV.cl, AV.clL]; done) | (simp only [AV.cl]; omega)) ?_
      refine FTr.cons (by first | rfl | ((simp (disch := omega) only [push_cast, ↓reduceIte, Nat.reduceEqDiff, Nat.reduceAdd, Nat.reduceLeDiff, sx]) <;> rfl)) (by first | exact trivial | exact clL_atV _ _ | exact clL_crV _ _ | exact clL_fdV _ _ | exact clL_iV _ _ | (simp [AV.cl, AV.clL]; done) | (simp only [AV.cl]; omega)) ?_
      refine FTr.cons (by first | rfl | ((simp (disch := omega) only [push_cast, ↓reduceIte, Nat.reduceEqDiff, Nat.reduceAdd, Nat.reduceLeDiff, sx]) <;> rfl)) (by first | exact trivial | exact clL_atV _ _ | exact clL_crV _ _ | exact clL_fdV _ _ | exact clL_iV _ _ | (simp [AV.cl, AV.clL]; done) | (simp only [AV.cl]; omega)) ?_
      refine FTr.cons (by first | rfl | ((simp (disch := omega) only [push_cast, ↓reduceIte, Nat.reduceEqDiff, Nat.reduceAdd, Nat.reduceLeDiff, sx]) <;> rfl)) (by first | exact trivial | exact clL_atV _ _ | exact clL_crV _ _ | exact clL_fdV _ _ | exact clL_iV _ _ | (simp [AV.cl, AV.clL]; done) | (simp only [AV.cl]; omega)) ?_
      refine FTr.cons (by first | rfl | ((simp (disch := omega) only [push_cast, ↓reduceIte, Nat.reduceEqDiff, Nat.reduceAdd, Nat.reduceLeDiff, sx]) <;> rfl)) (by first | exact trivial | exact clL_atV _ _ | exact clL_crV _ _ | exact clL_fdV _ _ | exact clL_iV _ _ | (simp [AV.cl, AV.clL]; done) | (simp only [AV.cl]; omega)) ?_
      refine FTr.cons (by first | rfl | ((simp (disch := omega) only [push_cast, ↓reduceIte, Nat.reduceEqDiff, Nat.reduceAdd, Nat.reduceLeDiff, sx]) <;> rfl)) (by first | exact trivial | exact clL_atV _ _ | exact clL_crV _ _ | exact clL_fdV _ _ | exact clL_iV _ _ | (simp [AV.cl, AV.clL]; done) | (simp only [AV.cl]; omega)) ?_
      exact FTr.nil
    try dsimp only
    refine sk_ fun K10 hK10 => ?_
    refine rg_ [2, 3, 10, 12, 13, 14, 17, 18, 94] ?_
    refine cd_ (ht := fun hb7 => ?_) (hf := fun hb7 => ?_)
    rotate_left
    · refine awp_exit (up_ ?_)
      refine hK9 _ ?_
      refine rt_ [2, 3, 10, 12, 13, 14, 17] ?_
      refine sg_ ?_
      refine rn_ (up_ ?_)
      refine ⟨⟨p + 1, by omega⟩, ?_, (by first | rfl | trivial | (simp only [List.length_set]; done) | simp), by dsimp only; omega⟩
      try dsimp only
      refine Trunc.of (by first | exact (List.append_nil _).symm | exact rfl | (rw [List.append_assoc]; rfl)) ?_ hH2 (fun _ h => h)
      refine FTr.cons (by (simp (disch := omega) only [push_cast, ↓reduceIte, Nat.reduceEqDiff, Nat.reduceAdd, Nat.reduceLeDiff, sx]) <;> first | rfl | (congr 2; omega)) (by first | exact trivial | exact clL_atV _ _ | exact clL_crV _ _ | exact clL_fdV _ _ | exact clL_iV _ _ | (simp [AV.cl, AV.clL]; done) | (simp only [AV.cl]; omega)) ?_
      refine FTr.cons (by (simp (disch := omega) only [push_cast, ↓reduceIte, Nat.reduceEqDiff, Nat.reduceAdd, Nat.reduceLeDiff, sx]) <;> first | rfl | (congr 2; omega)) (by first | exact trivial | exact clL_atV _ _ | exact clL_crV _ _ | exact clL_fdV _ _ | exact clL_iV _ _ | (simp [AV.cl, AV.clL]; done) | (simp only [AV.cl]; omega)) ?_
      refine FTr.cons (by (simp (disch := omega) only [push_cast, ↓reduceIte, Nat.reduceEqDiff, Nat.reduceAdd, Nat.reduceLeDiff, sx]) <;> first | rfl | (congr 2; omega)) (by first | exact trivial | exact clL_atV _ _ | exact clL_crV _ _ | exact clL_fdV _ _ | exact clL_iV _ _ | (simp [AV.cl, AV.clL]; done) | (simp only [AV.cl]; omega)) ?_
      refine FTr.cons (by (simp (disch := omega) only [push_cast, ↓reduceIte, Nat.reduceEqDiff, Nat.reduceAdd, Nat.reduceLeDiff, sx]) <;> first | rfl | (congr 2; omega)) (by first | exact trivial | exact clL_atV _ _ | exact clL_crV _ _ | exact clL_fdV _ _ | exact clL_iV _ _ | (simp [AV.cl, AV.clL]; done) | (simp only [AV.cl]; omega)) ?_
      refine FTr.cons (by (simp (disch := omega) only [push_cast, ↓reduceIte, Nat.reduceEqDiff, Nat.reduceAdd, Nat.reduceLeDiff, sx]) <;> first | rfl | (congr 2; omega)) (by first | exact trivial | exact clL_atV _ _ | exact clL_crV _ _ | exact clL_fdV _ _ | exact clL_iV _ _ | (simp [AV.cl, AV.clL]; done) | (simp only [AV.cl]; omega)) ?_
      refine FTr.cons (by (simp (disch := omega) only [push_cast, ↓reduceIte, Nat.reduceEqDiff, Nat.reduceAdd, Nat.reduceLeDiff, sx]) <;> first | rfl | (congr 2; omega)) (by first | exact trivial | exact clL_atV _ _ | exact clL_crV _ _ | exact clL_fdV _ _ | exact clL_iV _ _ | (simp [AV.cl, AV.clL]; done) | (simp only [AV.cl]; omega)) ?_
      refine FTr.cons (by (simp (disch := omega) only [push_cast, ↓reduceIte, Nat.reduceEqDiff, Nat.reduceAdd, Nat.reduceLeDiff, sx]) <;> first | rfl | (congr 2; omega)) (by first | exact trivial | exact clL_atV _ _ | exact clL_crV _ _ | exact clL_fdV _ _ | exact clL_iV _ _ | (simp [AV.cl, AV.clL]; done) | (simp only [AV.cl]; omega)) ?_
      exact FTr.nil
    have hix : (3 * (p : Int) + k).toNat = 3 * p + k := by omega
    have hgd : ((fdL ps cs.length).map fdV).getD (3 * p + k) .undef = .agg (fdC (fdQ ps p k)) := by rw [List.getD_eq_getElem?_getD, List.getElem?_map, fdL_get ps (by omega) hpl2]; rfl
    have hgu : ((umL ps cs.length).map iV).getD p .undef = .int .i64 (umQ ps p) := by rw [List.getD_eq_getElem?_getD, List.getElem?_map, umL_get ps hpl2]; rfl
    have sx := And.intro hix (And.intro hgd (And.intro hgu sx))
    refine awp_skip (up_ ?_)
    refine hK10 _ ?_
    refine sk_ fun K11 hK11 => ?_
    refine awp_block ?_
    refine rsq_ [2, 3, 10, 12, 13, 14, 17, 18, 118] ⟨true, [], [], [], [], [], 0⟩ (fun _ => ⟨by kernel_rfl, by kernel_rfl⟩) ?_
    refine sg_ ?_
    refine cr_ (hc := c22 _ _ _ _ _ _ _ hy2 _ _) (k := ?_)
    refine sg_ ?_
    refine cg_ (hc := fun hg => c23 _ _ _ _ _ _ _ hy2 _) (k := ?_)
    refine sg_ ?_
    refine re_ ?_
    refine cb_ (ht := fun hb8 => ?_) (hf := fun hb8 => ?_)
    · exfalso; rw [← hd, doF_fd _ _ _ _ hb7.2, doF_um _ _ _ hb7.2] at hb8; simp at hb8
    refine awp_skip (up_ ?_)
    refine hK11 _ ?_
    refine rt_ [2, 3, 10, 12, 13, 14, 17, 18] ?_
    refine sg_ ?_
    refine rn_ (up_ ?_)
    refine ⟨⟨k + 1, by omega⟩, ?_, (by first | rfl | trivial | (simp only [List.length_set]; done) | simp), by dsimp only; omega⟩
    try dsimp only
    refine Trunc.of (by first | exact (List.append_nil _).symm | exact rfl | (rw [List.append_assoc]; rfl)) ?_ hH2 (fun _ h => h)
    refine FTr.cons (by (simp (disch := omega) only [push_cast, ↓reduceIte, Nat.reduceEqDiff, Nat.reduceAdd, Nat.reduceLeDiff, sx]) <;> first | rfl | (congr 2; omega)) (by first | exact trivial | exact clL_atV _ _ | exact clL_crV _ _ | exact clL_fdV _ _ | exact clL_iV _ _ | (simp [AV.cl, AV.clL]; done) | (simp only [AV.cl]; omega)) ?_
    refine FTr.cons (by (simp (disch := omega) only [push_cast, ↓reduceIte, Nat.reduceEqDiff, Nat.reduceAdd, Nat.reduceLeDiff, sx]) <;> first | rfl | (congr 2; omega)) (by first | exact trivial | exact clL_atV _ _ | exact clL_crV _ _ | exact clL_fdV _ _ | exact clL_iV _ _ | (simp [AV.cl, AV.clL]; done) | (simp only [AV.cl]; omega)) ?_
    refine FTr.cons (by (simp (disch := omega) only [push_cast, ↓reduceIte, Nat.reduceEqDiff, Nat.reduceAdd, Nat.reduceLeDiff, sx]) <;> first | rfl | (congr 2; omega)) (by first | exact trivial | exact clL_atV _ _ | exact clL_crV _ _ | exact clL_fdV _ _ | exact clL_iV _ _ | (simp [AV.cl, AV.clL]; done) | (simp only [AV.cl]; omega)) ?_
    refine FTr.cons (by (simp (disch := omega) only [push_cast, ↓reduceIte, Nat.reduceEqDiff, Nat.reduceAdd, Nat.reduceLeDiff, sx]) <;> first | rfl | (congr 2; omega)) (by first | exact trivial | exact clL_atV _ _ | exact clL_crV _ _ | exact clL_fdV _ _ | exact clL_iV _ _ | (simp [AV.cl, AV.clL]; done) | (simp only [AV.cl]; omega)) ?_
    refine FTr.cons (by (simp (disch := omega) only [push_cast, ↓reduceIte, Nat.reduceEqDiff, Nat.reduceAdd, Nat.reduceLeDiff, sx]) <;> first | rfl | (congr 2; omega)) (by first | exact trivial | exact clL_atV _ _ | exact clL_crV _ _ | exact clL_fdV _ _ | exact clL_iV _ _ | (simp [AV.cl, AV.clL]; done) | (simp only [AV.cl]; omega)) ?_
    refine FTr.cons (by (simp (disch := omega) only [push_cast, ↓reduceIte, Nat.reduceEqDiff, Nat.reduceAdd, Nat.reduceLeDiff, sx]) <;> first | rfl | (congr 2; omega)) (by first | exact trivial | exact clL_atV _ _ | exact clL_crV _ _ | exact clL_fdV _ _ | exact clL_iV _ _ | (simp [AV.cl, AV.clL]; done) | (simp only [AV.cl]; omega)) ?_
    refine FTr.cons (by (simp (disch := omega) only [push_cast, ↓reduceIte, Nat.reduceEqDiff, Nat.reduceAdd, Nat.reduceLeDiff, sx]) <;> first | rfl | (congr 2; omega)) (by first | exact trivial | exact clL_atV _ _ | exact clL_crV _ _ | exact clL_fdV _ _ | exact clL_iV _ _ | (simp [AV.cl, AV.clL]; done) | (simp only [AV.cl]; omega)) ?_
    refine FTr.cons (by (simp (disch := omega) only [push_cast, ↓reduceIte, Nat.reduceEqDiff, Nat.reduceAdd, Nat.reduceLeDiff, sx]) <;> first | rfl | (congr 2; omega)) (by first | exact trivial | exact clL_atV _ _ | exact clL_crV _ _ | exact clL_fdV _ _ | exact clL_iV _ _ | (simp [AV.cl, AV.clL]; done) | (simp only [AV.cl]; omega)) ?_
    exact FTr.nil
  have hpl2 : p < cs.length := by omega
  refine awp_skip (up_ ?_)
  refine hK7 _ ?_
  refine sk_ fun K12 hK12 => ?_
  refine awp_block ?_
  refine rs_ [2, 3, 10, 12, 13, 14, 15] ?_
  refine sg_ ?_
  refine cl_ (hc := c23 _ _ _ _ _ _ _ hy _) (k := ?_)
  refine sg_ ?_
  refine dawp_w rfl rfl rfl rfl (AOp.append _ _ _ rfl (by (simp (disch := omega) only [push_cast, ↓reduceIte, Nat.reduceEqDiff, Nat.reduceAdd, Nat.reduceLeDiff, sx]) <;> rfl) (by (simp (disch := omega) only [push_cast, ↓reduceIte, Nat.reduceEqDiff, Nat.reduceAdd, Nat.reduceLeDiff, sx]) <;> rfl) (by (simp (disch := omega) only [push_cast, ↓reduceIte, Nat.reduceEqDiff, Nat.reduceAdd, Nat.reduceLeDiff, sx]) <;> rfl) hlv.ob (cells_iV _) (by simp [AV.cells]) (by simp [umL_len]; omega) (by simp [umL_len]; omega) ?_)
  intro c54 live54 hk54
  refine sg_ ?_
  refine re_ ?_
  refine rg_ [2, 3, 10, 12, 13, 14, 15, 16] ?_
  refine awp_block ?_
  refine awp_loop' (X := {x : Nat × Cap × List Nat // x.1 ≤ 3 ∧ Two live x.2.2 x.2.1 c54}) (fun x => ⟨Tryz.f5.ntmps, fget [(2, .slice (cs.map crV) .none), (3, .slice (acs.map atV) .none), (10, .ptr (n + 1) 0), (12, .int .i64 (i : Nat)), (13, .slice ((fdL ps p ++ fdK ps p x.1.1).map fdV) x.1.2.1), (14, .slice ((umL ps (p + 1)).map iV) c54), (15, .int .i64 (p : Nat)), (16, .int .i64 (x.1.1 : Nat))], H, x.1.2.2⟩) (fun x => 3 - x.1.1) (⟨⟨0, q1, live54⟩, by dsimp only; omega, hlv.snd hk54⟩) ?_ (by first | rfl | (simp only [List.length_set]; done) | simp) (fun ⟨⟨k, q3, lv3⟩, hk, hlv3⟩ => ?_)
  · try dsimp only
    refine Trunc.of (by first | exact (List.append_nil _).symm | exact rfl | (rw [List.append_assoc]; rfl)) ?_ hHc (fun _ h => h)
    refine FTr.cons (by first | rfl | ((simp (disch := omega) only [push_cast, ↓reduceIte, Nat.reduceEqDiff, Nat.reduceAdd, Nat.reduceLeDiff, sx]) <;> rfl)) (by first | exact trivial | exact clL_atV _ _ | exact clL_crV _ _ | exact clL_fdV _ _ | exact clL_iV _ _ | (simp [AV.cl, AV.clL]; done) | (simp only [AV.cl]; omega)) ?_
    refine FTr.cons (by first | rfl | ((simp (disch := omega) only [push_cast, ↓reduceIte, Nat.reduceEqDiff, Nat.reduceAdd, Nat.reduceLeDiff, sx]) <;> rfl)) (by first | exact trivial | exact clL_atV _ _ | exact clL_crV _ _ | exact clL_fdV _ _ | exact clL_iV _ _ | (simp [AV.cl, AV.clL]; done) | (simp only [AV.cl]; omega)) ?_
    refine FTr.cons (by first | rfl | ((simp (disch := omega) only [push_cast, ↓reduceIte, Nat.reduceEqDiff, Nat.reduceAdd, Nat.reduceLeDiff, sx]) <;> rfl)) (by first | exact trivial | exact clL_atV _ _ | exact clL_crV _ _ | exact clL_fdV _ _ | exact clL_iV _ _ | (simp [AV.cl, AV.clL]; done) | (simp only [AV.cl]; omega)) ?_
    refine FTr.cons (by first | rfl | ((simp (disch := omega) only [push_cast, ↓reduceIte, Nat.reduceEqDiff, Nat.reduceAdd, Nat.reduceLeDiff, sx]) <;> rfl)) (by first | exact trivial | exact clL_atV _ _ | exact clL_crV _ _ | exact clL_fdV _ _ | exact clL_iV _ _ | (simp [AV.cl, AV.clL]; done) | (simp only [AV.cl]; omega)) ?_
    refine FTr.cons (by show _ = AV.slice (List.map fdV (fdL ps p ++ fdK ps p 0)) _; rw [show fdK ps p 0 = [] from rfl, List.append_nil]; rfl) (by exact clL_fdV _ _) ?_
    refine FTr.cons (by show _ = AV.slice (List.map iV (umL ps (p + 1))) _; rw [← umL_succ, ← iV_snoc]; rfl) (by exact clL_iV _ _) ?_
    refine FTr.cons (by first | rfl | ((simp (disch := omega) only [push_cast, ↓reduceIte, Nat.reduceEqDiff, Nat.reduceAdd, Nat.reduceLeDiff, sx]) <;> rfl)) (by first | exact trivial | exact clL_atV _ _ | exact clL_crV _ _ | exact clL_fdV _ _ | exact clL_iV _ _ | (simp [AV.cl, AV.clL]; done) | (simp only [AV.cl]; omega)) ?_
    refine FTr.cons (by first | rfl | ((simp (disch := omega) only [push_cast, ↓reduceIte, Nat.reduceEqDiff, Nat.reduceAdd, Nat.reduceLeDiff, sx]) <;> rfl)) (by first | exact trivial | exact clL_atV _ _ | exact clL_crV _ _ | exact clL_fdV _ _ | exact clL_iV _ _ | (simp [AV.cl, AV.clL]; done) | (simp only [AV.cl]; omega)) ?_
    exact FTr.nil
  try dsimp only
  dsimp only at hk hlv3
  refine sk_ fun K13 hK13 => ?_
  refine rg_ [2, 3, 10, 12, 13, 14, 15, 16, 56] ?_
  refine cd_ (ht := fun hb5 => ?_) (hf := fun hb5 => ?_)
  rotate_left
  · have hke : k = 3 := by omega
    subst hke
    have hfs := fdL_succ ps p
    have sx := And.intro hfs sx
    refine awp_exit (up_ ?_)
    refine hK12 _ ?_
    refine rt_ [2, 3, 10, 12, 13, 14, 15] ?_
    refine sg_ ?_
    refine rn_ (up_ ?_)
    refine ⟨⟨⟨p + 1, q3, c54, lv3⟩, by dsimp only; omega, hlv3⟩, ?_, (by first | rfl | trivial | (simp only [List.length_set]; done) | simp), by dsimp only; omega⟩
    try dsimp only
    refine Trunc.of (by first | exact (List.append_nil _).symm | exact rfl | (rw [List.append_assoc]; rfl)) ?_ hHc (fun _ h => h)
    refine FTr.cons (by (simp (disch := omega) only [push_cast, ↓reduceIte, Nat.reduceEqDiff, Nat.reduceAdd, Nat.reduceLeDiff, sx]) <;> first | rfl | (congr 2; omega)) (by first | exact trivial | exact clL_atV _ _ | exact clL_crV _ _ | exact clL_fdV _ _ | exact clL_iV _ _ | (simp [AV.cl, AV.clL]; done) | (simp only [AV.cl]; omega)) ?_
    refine FTr.cons (by (simp (disch := omega) only [push_cast, ↓reduceIte, Nat.reduceEqDiff, Nat.reduceAdd, Nat.reduceLeDiff, sx]) <;> first | rfl | (congr 2; omega)) (by first | exact trivial | exact clL_atV _ _ | exact clL_crV _ _ | exact clL_fdV _ _ | exact clL_iV _ _ | (simp [AV.cl, AV.clL]; done) | (simp only [AV.cl]; omega)) ?_
    refine FTr.cons (by (simp (disch := omega) only [push_cast, ↓reduceIte, Nat.reduceEqDiff, Nat.reduceAdd, Nat.reduceLeDiff, sx]) <;> first | rfl | (congr 2; omega)) (by first | exact trivial | exact clL_atV _ _ | exact clL_crV _ _ | exact clL_fdV _ _ | exact clL_iV _ _ | (simp [AV.cl, AV.clL]; done) | (simp only [AV.cl]; omega)) ?_
    refine FTr.cons (by (simp (disch := omega) only [push_cast, ↓reduceIte, Nat.reduceEqDiff, Nat.reduceAdd, Nat.reduceLeDiff, sx]) <;> first | rfl | (congr 2; omega)) (by first | exact trivial | exact clL_atV _ _ | exact clL_crV _ _ | exact clL_fdV _ _ | exact clL_iV _ _ | (simp [AV.cl, AV.clL]; done) | (simp only [AV.cl]; omega)) ?_
    refine FTr.cons (by (simp (disch := omega) only [push_cast, ↓reduceIte, Nat.reduceEqDiff, Nat.reduceAdd, Nat.reduceLeDiff, sx]) <;> first | rfl | (congr 2; omega)) (by first | exact trivial | exact clL_atV _ _ | exact clL_crV _ _ | exact clL_fdV _ _ | exact clL_iV _ _ | (simp [AV.cl, AV.clL]; done) | (simp only [AV.cl]; omega)) ?_
    refine FTr.cons (by (simp (disch := omega) only [push_cast, ↓reduceIte, Nat.reduceEqDiff, Nat.reduceAdd, Nat.reduceLeDiff, sx]) <;> first | rfl | (congr 2; omega)) (by first | exact trivial | exact clL_atV _ _ | exact clL_crV _ _ | exact clL_fdV _ _ | exact clL_iV _ _ | (simp [AV.cl, AV.clL]; done) | (simp only [AV.cl]; omega)) ?_
    refine FTr.cons (by (simp (disch := omega) only [push_cast, ↓reduceIte, Nat.reduceEqDiff, Nat.reduceAdd, Nat.reduceLeDiff, sx]) <;> first | rfl | (congr 2; omega)) (by first | exact trivial | exact clL_atV _ _ | exact clL_crV _ _ | exact clL_fdV _ _ | exact clL_iV _ _ | (simp [AV.cl, AV.clL]; done) | (simp only [AV.cl]; omega)) ?_
    exact FTr.nil
  refine awp_skip (up_ ?_)
  refine hK13 _ ?_
  refine sk_ fun K14 hK14 => ?_
  refine awp_block ?_
  refine rt_ [2, 3, 10, 12, 13, 14, 15, 16] ?_
  refine sg_ ?_
  refine cl_ (hc := c22 _ _ _ _ _ _ _ hy _ _) (k := ?_)
  refine sg_ ?_
  refine dawp_w rfl rfl rfl rfl (AOp.append _ _ _ rfl (by (simp (disch := omega) only [push_cast, ↓reduceIte, Nat.reduceEqDiff, Nat.reduceAdd, Nat.reduceLeDiff, sx]) <;> rfl) (by (simp (disch := omega) only [push_cast, ↓reduceIte, Nat.reduceEqDiff, Nat.reduceAdd, Nat.reduceLeDiff, sx]) <;> rfl) (by (simp (disch := omega) only [push_cast, ↓reduceIte, Nat.reduceEqDiff, Nat.reduceAdd, Nat.reduceLeDiff, sx]) <;> rfl) hlv3.oa (cells_fdV _) (by simp [AV.cells, fdC_len]) (by simp [fdL_len, fdK_len]; omega) (by simp [fdL_len, fdK_len]; omega) ?_)
  intro c65 live65 hk65
  refine sg_ ?_
  refine rn_ (up_ ?_)
  refine hK14 _ ?_
  refine rt_ [2, 3, 10, 12, 13, 14, 15, 16] ?_
  refine sg_ ?_
  refine rn_ (up_ ?_)
  refine ⟨⟨⟨k + 1, c65, live65⟩, by dsimp only; omega, hlv3.fst hk65⟩, ?_, (by first | rfl | trivial | (simp only [List.length_set]; done) | simp), by dsimp only; omega⟩
  try dsimp only
  refine Trunc.of (by first | exact (List.append_nil _).symm | exact rfl | (rw [List.append_assoc]; rfl)) ?_ hHc (fun _ h => h)
  refine FTr.cons (by (simp (disch := omega) only [push_cast, ↓reduceIte, Nat.reduceEqDiff, Nat.reduceAdd, Nat.reduceLeDiff, sx]) <;> first | rfl | (congr 2; omega)) (by first | exact trivial | exact clL_atV _ _ | exact clL_crV _ _ | exact clL_fdV _ _ | exact clL_iV _ _ | (simp [AV.cl, AV.clL]; done) | (simp only [AV.cl]; omega)) ?_
  refine FTr.cons (by (simp (disch := omega) only [push_cast, ↓reduceIte, Nat.reduceEqDiff, Nat.reduceAdd, Nat.reduceLeDiff, sx]) <;> first | rfl | (congr 2; omega)) (by first | exact trivial | exact clL_atV _ _ | exact clL_crV _ _ | exact clL_fdV _ _ | exact clL_iV _ _ | (simp [AV.cl, AV.clL]; done) | (simp only [AV.cl]; omega)) ?_
  refine FTr.cons (by (simp (disch := omega) only [push_cast, ↓reduceIte, Nat.reduceEqDiff, Nat.reduceAdd, Nat.reduceLeDiff, sx]) <;> first | rfl | (congr 2; omega)) (by first | exact trivial | exact clL_atV _ _ | exact clL_crV _ _ | exact clL_fdV _ _ | exact clL_iV _ _ | (simp [AV.cl, AV.clL]; done) | (simp only [AV.cl]; omega)) ?_
  refine FTr.cons (by (simp (disch := omega) only [push_cast, ↓reduceIte, Nat.reduceEqDiff, Nat.reduceAdd, Nat.reduceLeDiff, sx]) <;> first | rfl | (congr 2; omega)) (by first | exact trivial | exact clL_atV _ _ | exact clL_crV _ _ | exact clL_fdV _ _ | exact clL_iV _ _ | (simp [AV.cl, AV.clL]; done) | (simp only [AV.cl]; omega)) ?_
  refine FTr.cons (by show _ = AV.slice (List.map fdV (fdL ps p ++ fdK ps p (k + 1))) _; rw [← fdK_succ, ← List.append_assoc, ← fdV_snoc]; rfl) (by exact clL_fdV _ _) ?_
  refine FTr.cons (by (simp (disch := omega) only [push_cast, ↓reduceIte, Nat.reduceEqDiff, Nat.reduceAdd, Nat.reduceLeDiff, sx]) <;> first | rfl | (congr 2; omega)) (by first | exact trivial | exact clL_atV _ _ | exact clL_crV _ _ | exact clL_fdV _ _ | exact clL_iV _ _ | (simp [AV.cl, AV.clL]; done) | (simp only [AV.cl]; omega)) ?_
  refine FTr.cons (by (simp (disch := omega) only [push_cast, ↓reduceIte, Nat.reduceEqDiff, Nat.reduceAdd, Nat.reduceLeDiff, sx]) <;> first | rfl | (congr 2; omega)) (by first | exact trivial | exact clL_atV _ _ | exact clL_crV _ _ | exact clL_fdV _ _ | exact clL_iV _ _ | (simp [AV.cl, AV.clL]; done) | (simp only [AV.cl]; omega)) ?_
  refine FTr.cons (by (simp (disch := omega) only [push_cast, ↓reduceIte, Nat.reduceEqDiff, Nat.reduceAdd, Nat.reduceLeDiff, sx]) <;> first | rfl | (congr 2; omega)) (by first | exact trivial | exact clL_atV _ _ | exact clL_crV _ _ | exact clL_fdV _ _ | exact clL_iV _ _ | (simp [AV.cl, AV.clL]; done) | (simp only [AV.cl]; omega)) ?_
  exact FTr.nil

end Go.Proofs.YtegffmibifodcaaGreat
