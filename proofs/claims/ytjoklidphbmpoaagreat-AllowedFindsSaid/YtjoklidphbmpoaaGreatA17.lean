import Derived.Test.YtjoklidphbmpoaaGreatA16
/-
  TABLES: the law of ways.
-/
namespace Go.Proofs.YtjoklidphbmpoaaGreat
open Go.Ab
set_option linter.unusedVariables false
set_option linter.unusedSimpArgs false
set_option maxRecDepth 8000
set_option maxHeartbeats 400000


def rawA : List Rw := [⟨2, 1023, 0, 0, 0, [], [], [], 0⟩, ⟨1, 420, 1, 0, 1, [102], [], [], 0⟩]
def rawB : List Rw := [⟨2, 1023, 0, 0, 0, [], [], [], 0⟩]
def tabOf (o : (Int × Int) ⊕ Tab) : Tab := match o with
  | .inr T => T
  | .inl _ => ⟨0, []⟩
def tA : Tab := tabOf (buildF 9 rawA)
def tB : Tab := tabOf (buildF 9 rawB)
theorem buildA : buildF 9 rawA = .inr tA := by kernel_rfl
theorem buildB : buildF 9 rawB = .inr tB := by kernel_rfl
theorem aw1 : allowF tA tB ⟨1, 0, []⟩ [] = true := by kernel_rfl
theorem aw2 : allowF tA tB ⟨2, 0, []⟩ [] = false := by kernel_rfl
theorem aw3 : allowF tA tB ⟨0, 0, []⟩ [] = true := by kernel_rfl
theorem aw4 : allowF tA tA ⟨2, 0, []⟩ [] = true := by kernel_rfl
theorem aw5 : wayF tA ⟨2, 0, []⟩ 1 = true := by kernel_rfl
theorem aw6 : seenF tA ⟨2, 0, []⟩ 2 = true := by kernel_rfl
theorem rawA_ok : ∀ r ∈ rawA, RwOk r := by
  intro r hr
  simp only [rawA, List.mem_cons, List.not_mem_nil, or_false] at hr
  rcases hr with rfl | rfl <;> exact ⟨by decide, by decide, by decide⟩
theorem rawB_ok : ∀ r ∈ rawB, RwOk r := by
  intro r hr
  simp only [rawB, List.mem_cons, List.not_mem_nil, or_false] at hr
  subst hr; exact ⟨by decide, by decide, by decide⟩
theorem tA_ok : tA.Ok := buildF_ok rawA_ok buildA
theorem tB_ok : tB.Ok := buildF_ok rawB_ok buildB
theorem bE_r (T : Tab) : bE (.inr T) = 0 := rfl
theorem bI_r (T : Tab) : bI (.inr T) = 0 := rfl

set_option maxHeartbeats 1000000 in
theorem c6 (h : List Blk) (live : List Nat) : ACalls Tryz.prog 6 [] h live (ret (.bool true) h live) := by
  refine ab_ Tryz.func6 (hw := fun hH hX => ?_)
  have sx := (And.intro @bE_r (And.intro @bI_r sx0))
  refine rs_ [] ?_
  refine dawp_p rfl (by (simp (disch := omega) only [push_cast, ↓reduceIte, Nat.reduceEqDiff, Nat.reduceAdd, Nat.reduceLeDiff, sx, aw1, aw2, aw3, aw4, aw5, aw6]) <;> rfl) rfl rfl ?_
  refine re_ (hf := by (simp (disch := omega) only [push_cast, ↓reduceIte, Nat.reduceEqDiff, Nat.reduceAdd, Nat.reduceLeDiff, sx, aw1, aw2, aw3, aw4, aw5, aw6]) <;> rfl) (hh := by (try simp (disch := omega) only [push_cast, ↓reduceIte, Nat.reduceEqDiff, Nat.reduceAdd, Nat.reduceLeDiff, sx, aw1, aw2, aw3, aw4, aw5, aw6]) <;> rfl) ?_
  refine rs_ [1, 3] ?_
  iterate 3 (refine dawp_p rfl (by (simp (disch := omega) only [push_cast, ↓reduceIte, Nat.reduceEqDiff, Nat.reduceAdd, Nat.reduceLeDiff, sx, aw1, aw2, aw3, aw4, aw5, aw6]) <;> rfl) rfl rfl ?_)
  refine dawp_w rfl rfl rfl rfl (AOp.callx _ _ _ rfl (by (simp (disch := omega) only [push_cast, ↓reduceIte, Nat.reduceEqDiff, Nat.reduceAdd, Nat.reduceLeDiff, sx, aw1, aw2, aw3, aw4, aw5, aw6]) <;> rfl) (by (simp (disch := omega) only [push_cast, ↓reduceIte, Nat.reduceEqDiff, Nat.reduceAdd, Nat.reduceLeDiff, sx, aw1, aw2, aw3, aw4, aw5, aw6]) <;> rfl) ?_)
  refine ACalls.erx (by simp only [List.map_cons, List.map_nil, AV.er, AV.erL]; rfl) ((c24 9 rawA _ _ rawA_ok (by decide)).mono ?_); rintro _ _ _ ⟨rfl, g, p, rfl, rfl, hbp, hper, hpc, hHg⟩; rw [buildA] at hbp ⊢; obtain ⟨ka, rfl, hka⟩ := hbp
  iterate 7 (refine dawp_p rfl (by (simp (disch := omega) only [push_cast, ↓reduceIte, Nat.reduceEqDiff, Nat.reduceAdd, Nat.reduceLeDiff, sx, aw1, aw2, aw3, aw4, aw5, aw6]) <;> rfl) rfl rfl ?_)
  refine re_ (hf := by (simp (disch := omega) only [push_cast, ↓reduceIte, Nat.reduceEqDiff, Nat.reduceAdd, Nat.reduceLeDiff, sx, aw1, aw2, aw3, aw4, aw5, aw6]) <;> rfl) (hh := by (try simp (disch := omega) only [push_cast, ↓reduceIte, Nat.reduceEqDiff, Nat.reduceAdd, Nat.reduceLeDiff, sx, aw1, aw2, aw3, aw4, aw5, aw6]) <;> rfl) ?_
  refine rs_ [1, 3, 4, 6] ?_
  iterate 2 (refine dawp_p rfl (by (simp (disch := omega) only [push_cast, ↓reduceIte, Nat.reduceEqDiff, Nat.reduceAdd, Nat.reduceLeDiff, sx, aw1, aw2, aw3, aw4, aw5, aw6]) <;> rfl) rfl rfl ?_)
  refine dawp_w rfl rfl rfl rfl (AOp.callx _ _ _ rfl (by (simp (disch := omega) only [push_cast, ↓reduceIte, Nat.reduceEqDiff, Nat.reduceAdd, Nat.reduceLeDiff, sx, aw1, aw2, aw3, aw4, aw5, aw6]) <;> rfl) (by (simp (disch := omega) only [push_cast, ↓reduceIte, Nat.reduceEqDiff, Nat.reduceAdd, Nat.reduceLeDiff, sx, aw1, aw2, aw3, aw4, aw5, aw6]) <;> rfl) ?_)
  refine ACalls.erx (by simp only [List.map_cons, List.map_nil, AV.er, AV.erL]; rfl) ((c24 9 rawB _ _ rawB_ok (by decide)).mono ?_); rintro _ _ _ ⟨rfl, g2, p2, rfl, rfl, hbp2, hper2, hpc2, hHg2⟩; rw [buildB] at hbp2 ⊢; obtain ⟨kb, rfl, hkb⟩ := hbp2; have hka2 : (h ++ (g ++ g2))[ka]? = some (tabBlk tA) := by { rw [← List.append_assoc]; exact atApp hka }; have hkb2 : (h ++ (g ++ g2))[kb]? = some (tabBlk tB) := by { rw [← List.append_assoc]; exact hkb }
  iterate 7 (refine dawp_p rfl (by (simp (disch := omega) only [push_cast, ↓reduceIte, Nat.reduceEqDiff, Nat.reduceAdd, Nat.reduceLeDiff, sx, aw1, aw2, aw3, aw4, aw5, aw6]) <;> rfl) rfl rfl ?_)
  refine re_ (hf := by (simp (disch := omega) only [push_cast, ↓reduceIte, Nat.reduceEqDiff, Nat.reduceAdd, Nat.reduceLeDiff, sx, aw1, aw2, aw3, aw4, aw5, aw6]) <;> rfl) (hh := by (try simp (disch := omega) only [push_cast, ↓reduceIte, Nat.reduceEqDiff, Nat.reduceAdd, Nat.reduceLeDiff, sx, aw1, aw2, aw3, aw4, aw5, aw6]) <;> rfl) ?_
  refine rs_ [0] ?_
  iterate 3 (refine dawp_p rfl (by (simp (disch := omega) only [push_cast, ↓reduceIte, Nat.reduceEqDiff, Nat.reduceAdd, Nat.reduceLeDiff, sx, aw1, aw2, aw3, aw4, aw5, aw6]) <;> rfl) rfl rfl ?_)
  iterate 2 (refine dawp_g rfl rfl (by simp only [push_cast, ↓reduceIte, Nat.reduceEqDiff, Nat.reduceAdd, Nat.reduceLeDiff, sx, aw1, aw2, aw3, aw4, aw5, aw6]; rfl) (fun hg => by simp (disch := omega) only [hg, push_cast, ↓reduceIte, Nat.reduceEqDiff, Nat.reduceAdd, Nat.reduceLeDiff, sx, aw1, aw2, aw3, aw4, aw5, aw6]; rfl) rfl rfl ?_)
  iterate 2 (refine dawp_p rfl (by (simp (disch := omega) only [push_cast, ↓reduceIte, Nat.reduceEqDiff, Nat.reduceAdd, Nat.reduceLeDiff, sx, aw1, aw2, aw3, aw4, aw5, aw6]) <;> rfl) rfl rfl ?_)
  iterate 3 (refine dawp_g rfl rfl (by simp only [push_cast, ↓reduceIte, Nat.reduceEqDiff, Nat.reduceAdd, Nat.reduceLeDiff, sx, aw1, aw2, aw3, aw4, aw5, aw6]; rfl) (fun hg => by simp (disch := omega) only [hg, push_cast, ↓reduceIte, Nat.reduceEqDiff, Nat.reduceAdd, Nat.reduceLeDiff, sx, aw1, aw2, aw3, aw4, aw5, aw6]; rfl) rfl rfl ?_)
  refine dawp_gr rfl rfl rfl (by simp only [push_cast, ↓reduceIte, Nat.reduceEqDiff, Nat.reduceAdd, Nat.reduceLeDiff, sx, aw1, aw2, aw3, aw4, aw5, aw6]; rfl) (fun hg => AOp.callx _ _ _ rfl (by (simp (disch := omega) only [hg, push_cast, ↓reduceIte, Nat.reduceEqDiff, Nat.reduceAdd, Nat.reduceLeDiff, sx, aw1, aw2, aw3, aw4, aw5, aw6]) <;> rfl) (by (simp (disch := omega) only [hg, push_cast, ↓reduceIte, Nat.reduceEqDiff, Nat.reduceAdd, Nat.reduceLeDiff, sx, aw1, aw2, aw3, aw4, aw5, aw6]) <;> rfl) (ACalls.erx (by simp only [List.map_cons, List.map_nil, AV.er, AV.erL, erL_iV] <;> rfl) (c17 tA tB ⟨1, 0, []⟩ [] ka kb _ _ (by first | exact hka2 | exact atApp hka2) (by first | exact hkb2 | exact atApp hkb2) tA_ok tB_ok (by simp) (by simp)))) rfl rfl ?_
  iterate 2 (refine dawp_p rfl (by (simp (disch := omega) only [push_cast, ↓reduceIte, Nat.reduceEqDiff, Nat.reduceAdd, Nat.reduceLeDiff, sx, aw1, aw2, aw3, aw4, aw5, aw6]) <;> rfl) rfl rfl ?_)
  iterate 3 (refine dawp_g rfl rfl (by simp only [push_cast, ↓reduceIte, Nat.reduceEqDiff, Nat.reduceAdd, Nat.reduceLeDiff, sx, aw1, aw2, aw3, aw4, aw5, aw6]; rfl) (fun hg => by simp (disch := omega) only [hg, push_cast, ↓reduceIte, Nat.reduceEqDiff, Nat.reduceAdd, Nat.reduceLeDiff, sx, aw1, aw2, aw3, aw4, aw5, aw6]; rfl) rfl rfl ?_)
  refine dawp_gr rfl rfl rfl (by simp only [push_cast, ↓reduceIte, Nat.reduceEqDiff, Nat.reduceAdd, Nat.reduceLeDiff, sx, aw1, aw2, aw3, aw4, aw5, aw6]; rfl) (fun hg => AOp.callx _ _ _ rfl (by (simp (disch := omega) only [hg, push_cast, ↓reduceIte, Nat.reduceEqDiff, Nat.reduceAdd, Nat.reduceLeDiff, sx, aw1, aw2, aw3, aw4, aw5, aw6]) <;> rfl) (by (simp (disch := omega) only [hg, push_cast, ↓reduceIte, Nat.reduceEqDiff, Nat.reduceAdd, Nat.reduceLeDiff, sx, aw1, aw2, aw3, aw4, aw5, aw6]) <;> rfl) (ACalls.erx (by simp only [List.map_cons, List.map_nil, AV.er, AV.erL, erL_iV] <;> rfl) (c17 tA tB ⟨2, 0, []⟩ [] ka kb _ _ (by first | exact hka2 | exact atApp hka2) (by first | exact hkb2 | exact atApp hkb2) tA_ok tB_ok (by simp) (by simp)))) rfl rfl ?_
  refine dawp_g rfl rfl (by simp only [push_cast, ↓reduceIte, Nat.reduceEqDiff, Nat.reduceAdd, Nat.reduceLeDiff, sx, aw1, aw2, aw3, aw4, aw5, aw6]; rfl) (fun hg => by simp (disch := omega) only [hg, push_cast, ↓reduceIte, Nat.reduceEqDiff, Nat.reduceAdd, Nat.reduceLeDiff, sx, aw1, aw2, aw3, aw4, aw5, aw6]; rfl) rfl rfl ?_
  iterate 2 (refine dawp_p rfl (by (simp (disch := omega) only [push_cast, ↓reduceIte, Nat.reduceEqDiff, Nat.reduceAdd, Nat.reduceLeDiff, sx, aw1, aw2, aw3, aw4, aw5, aw6]) <;> rfl) rfl rfl ?_)
  iterate 3 (refine dawp_g rfl rfl (by simp only [push_cast, ↓reduceIte, Nat.reduceEqDiff, Nat.reduceAdd, Nat.reduceLeDiff, sx, aw1, aw2, aw3, aw4, aw5, aw6]; rfl) (fun hg => by simp (disch := omega) only [hg, push_cast, ↓reduceIte, Nat.reduceEqDiff, Nat.reduceAdd, Nat.reduceLeDiff, sx, aw1, aw2, aw3, aw4, aw5, aw6]; rfl) rfl rfl ?_)
  refine dawp_gr rfl rfl rfl (by simp only [push_cast, ↓reduceIte, Nat.reduceEqDiff, Nat.reduceAdd, Nat.reduceLeDiff, sx, aw1, aw2, aw3, aw4, aw5, aw6]; rfl) (fun hg => AOp.callx _ _ _ rfl (by (simp (disch := omega) only [hg, push_cast, ↓reduceIte, Nat.reduceEqDiff, Nat.reduceAdd, Nat.reduceLeDiff, sx, aw1, aw2, aw3, aw4, aw5, aw6]) <;> rfl) (by (simp (disch := omega) only [hg, push_cast, ↓reduceIte, Nat.reduceEqDiff, Nat.reduceAdd, Nat.reduceLeDiff, sx, aw1, aw2, aw3, aw4, aw5, aw6]) <;> rfl) (ACalls.erx (by simp only [List.map_cons, List.map_nil, AV.er, AV.erL, erL_iV] <;> rfl) (c17 tA tB ⟨0, 0, []⟩ [] ka kb _ _ (by first | exact hka2 | exact atApp hka2) (by first | exact hkb2 | exact atApp hkb2) tA_ok tB_ok (by simp) (by simp)))) rfl rfl ?_
  iterate 2 (refine dawp_p rfl (by (simp (disch := omega) only [push_cast, ↓reduceIte, Nat.reduceEqDiff, Nat.reduceAdd, Nat.reduceLeDiff, sx, aw1, aw2, aw3, aw4, aw5, aw6]) <;> rfl) rfl rfl ?_)
  iterate 3 (refine dawp_g rfl rfl (by simp only [push_cast, ↓reduceIte, Nat.reduceEqDiff, Nat.reduceAdd, Nat.reduceLeDiff, sx, aw1, aw2, aw3, aw4, aw5, aw6]; rfl) (fun hg => by simp (disch := omega) only [hg, push_cast, ↓reduceIte, Nat.reduceEqDiff, Nat.reduceAdd, Nat.reduceLeDiff, sx, aw1, aw2, aw3, aw4, aw5, aw6]; rfl) rfl rfl ?_)
  refine dawp_gr rfl rfl rfl (by simp only [push_cast, ↓reduceIte, Nat.reduceEqDiff, Nat.reduceAdd, Nat.reduceLeDiff, sx, aw1, aw2, aw3, aw4, aw5, aw6]; rfl) (fun hg => AOp.callx _ _ _ rfl (by (simp (disch := omega) only [hg, push_cast, ↓reduceIte, Nat.reduceEqDiff, Nat.reduceAdd, Nat.reduceLeDiff, sx, aw1, aw2, aw3, aw4, aw5, aw6]) <;> rfl) (by (simp (disch := omega) only [hg, push_cast, ↓reduceIte, Nat.reduceEqDiff, Nat.reduceAdd, Nat.reduceLeDiff, sx, aw1, aw2, aw3, aw4, aw5, aw6]) <;> rfl) (ACalls.erx (by simp only [List.map_cons, List.map_nil, AV.er, AV.erL, erL_iV] <;> rfl) (c17 tA tA ⟨2, 0, []⟩ [] ka ka _ _ (by first | exact hka2 | exact atApp hka2) (by first | exact hka2 | exact atApp hka2) tA_ok tA_ok (by simp) (by simp)))) rfl rfl ?_
  iterate 2 (refine dawp_p rfl (by (simp (disch := omega) only [push_cast, ↓reduceIte, Nat.reduceEqDiff, Nat.reduceAdd, Nat.reduceLeDiff, sx, aw1, aw2, aw3, aw4, aw5, aw6]) <;> rfl) rfl rfl ?_)
  iterate 2 (refine dawp_g rfl rfl (by simp only [push_cast, ↓reduceIte, Nat.reduceEqDiff, Nat.reduceAdd, Nat.reduceLeDiff, sx, aw1, aw2, aw3, aw4, aw5, aw6]; rfl) (fun hg => by simp (disch := omega) only [hg, push_cast, ↓reduceIte, Nat.reduceEqDiff, Nat.reduceAdd, Nat.reduceLeDiff, sx, aw1, aw2, aw3, aw4, aw5, aw6]; rfl) rfl rfl ?_)
  refine dawp_gr rfl rfl rfl (by simp only [push_cast, ↓reduceIte, Nat.reduceEqDiff, Nat.reduceAdd, Nat.reduceLeDiff, sx, aw1, aw2, aw3, aw4, aw5, aw6]; rfl) (fun hg => AOp.callx _ _ _ rfl (by (simp (disch := omega) only [hg, push_cast, ↓reduceIte, Nat.reduceEqDiff, Nat.reduceAdd, Nat.reduceLeDiff, sx, aw1, aw2, aw3, aw4, aw5, aw6]) <;> rfl) (by (simp (disch := omega) only [hg, push_cast, ↓reduceIte, Nat.reduceEqDiff, Nat.reduceAdd, Nat.reduceLeDiff, sx, aw1, aw2, aw3, aw4, aw5, aw6]) <;> rfl) (c8 tA ka ⟨2, 0, []⟩ _ _ _ _ (by first | exact hka2 | exact atApp hka2) tA_ok (by simp))) rfl rfl ?_
  iterate 2 (refine dawp_p rfl (by (simp (disch := omega) only [push_cast, ↓reduceIte, Nat.reduceEqDiff, Nat.reduceAdd, Nat.reduceLeDiff, sx, aw1, aw2, aw3, aw4, aw5, aw6]) <;> rfl) rfl rfl ?_)
  iterate 2 (refine dawp_g rfl rfl (by simp only [push_cast, ↓reduceIte, Nat.reduceEqDiff, Nat.reduceAdd, Nat.reduceLeDiff, sx, aw1, aw2, aw3, aw4, aw5, aw6]; rfl) (fun hg => by simp (disch := omega) only [hg, push_cast, ↓reduceIte, Nat.reduceEqDiff, Nat.reduceAdd, Nat.reduceLeDiff, sx, aw1, aw2, aw3, aw4, aw5, aw6]; rfl) rfl rfl ?_)
  refine dawp_gr rfl rfl rfl (by simp only [push_cast, ↓reduceIte, Nat.reduceEqDiff, Nat.reduceAdd, Nat.reduceLeDiff, sx, aw1, aw2, aw3, aw4, aw5, aw6]; rfl) (fun hg => AOp.callx _ _ _ rfl (by (simp (disch := omega) only [hg, push_cast, ↓reduceIte, Nat.reduceEqDiff, Nat.reduceAdd, Nat.reduceLeDiff, sx, aw1, aw2, aw3, aw4, aw5, aw6]) <;> rfl) (by (simp (disch := omega) only [hg, push_cast, ↓reduceIte, Nat.reduceEqDiff, Nat.reduceAdd, Nat.reduceLeDiff, sx, aw1, aw2, aw3, aw4, aw5, aw6]) <;> rfl) (c12 tA ka ⟨2, 0, []⟩ _ _ _ _ (by first | exact hka2 | exact atApp hka2) tA_ok (by simp))) rfl rfl ?_
  iterate 2 (refine dawp_p rfl (by (simp (disch := omega) only [push_cast, ↓reduceIte, Nat.reduceEqDiff, Nat.reduceAdd, Nat.reduceLeDiff, sx, aw1, aw2, aw3, aw4, aw5, aw6]) <;> rfl) rfl rfl ?_)
  refine re_ (hf := by (simp (disch := omega) only [push_cast, ↓reduceIte, Nat.reduceEqDiff, Nat.reduceAdd, Nat.reduceLeDiff, sx, aw1, aw2, aw3, aw4, aw5, aw6]) <;> rfl) (hh := by (try simp (disch := omega) only [push_cast, ↓reduceIte, Nat.reduceEqDiff, Nat.reduceAdd, Nat.reduceLeDiff, sx, aw1, aw2, aw3, aw4, aw5, aw6]) <;> rfl) ?_
  refine awp_ret (up_ ?_)
  refine fp_ (hres := by (simp (disch := omega) only [aresults, aresult, push_cast, ↓reduceIte, Nat.reduceEqDiff, Nat.reduceAdd, Nat.reduceLeDiff, sx, aw1, aw2, aw3, aw4, aw5, aw6]) <;> rfl) Tryz.results6 (hK := ?_)
  exact ⟨rfl, rfl, rfl⟩

theorem c3 (room : Int) (l : List Rw) (c : Cr) (i : Int) (h : List Blk) (live : List Nat) (hn : l.length ≤ 9223372036854775807) (hgs : c.gs.length ≤ 9223372036854775807) : ACalls Tryz.prog 3 [.int .i64 room, .slice (l.map rV) .none, .agg [.int .i64 c.uid, .int .i64 c.gid, .slice (c.gs.map iV) .none], .int .i64 i] h live (ret (.bool true) h live) := by
  refine ab_ Tryz.func3 (hw := fun hH hX => ?_)
  have sx := sx0
  refine rg_ [0, 1, 3, 6] ?_
  refine rs_ [0, 1, 3, 6, 9] ?_
  refine cl_ (hc := c6 _ _) (k := ?_)
  refine sg_ ?_
  refine re_ ?_
  refine sk_ fun K1 hK1 => ?_
  refine rg_ [0, 1, 3, 6, 14] ?_
  refine cdn_ (ht := fun hb1 => ?_) (hf := fun hb1 => ?_)
  · exfalso; exact Bool.noConfusion hb1
  refine awp_skip (up_ ?_)
  refine hK1 _ ?_
  refine rs_ [3, 6, 10, 11] ?_
  refine sg_ ?_
  refine ck_ (k := ?_)
  refine (c7 room l c _ _ hn hgs).mono ?_; rintro _ _ _ ⟨rfl, g, p, rfl, rfl, hpc, hp⟩
  refine sg_ ?_
  refine re_ ?_
  refine sk_ fun K2 hK2 => ?_
  refine rg_ [3, 6, 10, 23] ?_
  refine cb_ (ht := fun hb2 => ?_) (hf := fun hb2 => ?_)
  · refine rg_ [8] ?_
    refine awp_ret (up_ ?_)
    refine fp_ Tryz.results3 (hK := ?_)
    exact ⟨rfl, rfl, rfl⟩
  obtain ⟨T, hTe⟩ := Option.isSome_iff_exists.1 (by simpa using hb2)
  obtain ⟨k, rfl, hk⟩ := hp T hTe
  obtain ⟨hT, hg10⟩ := builtF_ok hTe
  have hgs9 : c.gs.length ≤ 1000000000 := by omega
  have hk2 := hk
  rw [List.append_assoc] at hk2
  have hnd : ∀ n ∈ refL T, NdOk n := fun n hn => hT.nd n (List.mem_of_mem_take hn)
  have hrl : (refL T).length ≤ 1000 := by have := refL_len hT; have := hT.hi; omega
  refine awp_skip (up_ ?_)
  refine hK2 _ ?_
  refine rsq_ [8] ⟨true, [], [], [], [], [], 0⟩ (fun _ => ⟨by kernel_rfl, by kernel_rfl⟩) ?_
  refine sg_ ?_
  refine cr_ (hc := c8 T k c _ _ _ _ (by first | exact hk2 | exact atApp hk2) hT hgs9) (k := ?_)
  refine sg_ ?_
  refine cr_ (hc := c10 T k _ _ (by first | exact hk2 | exact atApp hk2) hT) (k := ?_)
  refine sg_ ?_
  refine cr_ (hc := c11 c _ _) (k := ?_)
  refine sg_ ?_
  refine cr_ (hc := c9 (refL T) c _ _ _ hrl hnd hgs9) (k := ?_)
  refine sg_ ?_
  refine cg_ (hc := fun hg => c12 T k c _ _ _ _ (by first | exact hk2 | exact atApp hk2) hT hgs9) (k := ?_)
  refine sg_ ?_
  refine cg_ (hc := fun hg => c10 T k _ _ (by first | exact hk2 | exact atApp hk2) hT) (k := ?_)
  refine sg_ ?_
  refine cg_ (hc := fun hg => c11 c _ _) (k := ?_)
  refine sg_ ?_
  refine cg_ (hc := fun hg => c13 (refL T) c _ _ _ hrl hnd hgs9) (k := ?_)
  refine sg_ ?_
  refine cg_ (hc := fun hg => n8 _ c _ _ _) (k := ?_)
  refine sg_ ?_
  refine cg_ (hc := fun hg => n12 _ c _ _ _) (k := ?_)
  refine sg_ ?_
  refine re_ ?_
  refine awp_ret (up_ ?_)
  refine fp_ Tryz.results3 (hK := ?_)
  refine ⟨?_, rfl, rfl⟩
  simp [rWay_eq hT, rSeen_eq hT]

end Go.Proofs.YtjoklidphbmpoaaGreat
