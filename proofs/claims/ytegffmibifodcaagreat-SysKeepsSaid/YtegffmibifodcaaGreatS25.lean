import Derived.Test.YtegffmibifodcaaGreatP7
/-
  CALLS: the document's example.
-/
namespace Go.Proofs.YtegffmibifodcaaGreat
open Go.Ab
set_option linter.unusedVariables false
set_option linter.unusedSimpArgs false
set_option maxRecDepth 8000
set_option maxHeartbeats 400000


section
variable {P : Program}
theorem rt2_ {n : Nat} {fl : FL} {h : List Blk} {live : List Nat} {id : Nat} {l l1 l2 : List Oper} {x y : Oper} {Q : Exit → AS → Prop} (V : List Tmp) (q : RQ) (hl : l1 ++ x :: y :: l2 = l) (hok : okTwo q l.toArray l1.length = true ∧ P.follows .mixedOrders = true)
    (hd : dawp P q (gdOf l.toArray) n l1 (fget fl) h live fun fr h live => dawp P q (gdOf l.toArray) n (x :: y :: l2) fr h live (endN Q n V) ∧ dawp P q (gdOf l.toArray) n (y :: x :: l2) fr h live (endN Q n V)) : AwpC P (.region id l.toArray true) Q ⟨n, fget fl, h, live⟩ :=
  awp_region_two V q hl hok hd
/-- What comes behind is proved once; the heap may grow. -/
theorem awp_seqG {x y : Code} {Q : Exit → AS → Prop} {S : AS} {X : Type} (I : X → AS) (h1 : AwpC P x (thenQ (fun S' => ∃ a, Trunc S' (I a) ∧ S.h.length ≤ (I a).h.length) Q) S) (h2 : ∀ a, AwpC P y Q (I a)) : AwpC P (.seq x y) Q S := by
  refine awp_seq ?_
  intro w G a hs
  refine wp_mono (h1 w G a hs) fun e a' w' q => ?_
  obtain ⟨G', S', q, hs', hev⟩ := q
  cases e with
  | normal =>
    obtain ⟨b, ht, hl⟩ := q
    obtain ⟨k1, k2⟩ := hs'.trunc ht hev (by rw [← hs.heap.len]; exact hl)
    exact ⟨_, I b, h2 b, k1, k2⟩
  | _ => exact ⟨G', S', q, hs', hev⟩
end
/-- Another block is set. -/
theorem SysAt.set {h : List Blk} {ks kt kb : Nat} {T : Tab} {ps : List Pr} (hs : SysAt h ks kt kb T ps) {i : Nat} (h1 : i ≠ ks) (h2 : i ≠ kt) (h3 : ∀ j, j < ps.length → i ≠ kb + 2 * j) (x : Blk) : SysAt (h.set i x) ks kt kb T ps :=
  ⟨getSet hs.s (Ne.symm h1), getSet hs.t (Ne.symm h2), fun j hj => getSet (hs.p j hj) (Ne.symm (h3 j hj)), hs.st, hs.sb, hs.tb, hs.ok, hs.rt, hs.gs, hs.few⟩
def wRaw : List Rw := [⟨2, 493, 0, 0, 0, [], [], [], 0⟩, ⟨2, 488, 1, 1, 1, [100], [], [], 0⟩, ⟨1, 420, 1, 1, 2, [102], [104, 105], [], 0⟩, ⟨3, 511, 0, 0, 1, [115], [], [100, 47, 102], 0⟩]
def wT0 : Tab := match buildF 9 wRaw with
  | .inr T => T
  | .inl _ => ⟨0, []⟩
theorem wBuild : buildF 9 wRaw = .inr wT0 := by kernel_rfl
def wCs : List Cr := [⟨1, 1, []⟩, ⟨0, 0, []⟩]
def wP0 : List Pr := wCs.map (pr1 18)
def wA1 : Ca := ⟨13, [115], [], 1, 0, []⟩
def wA2 : Ca := ⟨10, [100, 47, 102], [], 0, 0, []⟩
def wA3 : Ca := ⟨14, [], [], 0, 9, []⟩
def wA4 : Ca := ⟨16, [], [], 0, 0, []⟩
def wD1 : Rs × Tab × List Pr := doF wT0 wP0 0 wA1
def wD2 : Rs × Tab × List Pr := doF wD1.2.1 wD1.2.2 1 wA2
def wD3 : Rs × Tab × List Pr := doF wD2.2.1 wD2.2.2 0 wA3
def wD4 : Rs × Tab × List Pr := doF wD3.2.1 wD3.2.2 0 wA4
theorem w1e : wD1.1.err = 0 := by kernel_rfl
theorem w1n : wD1.1.n = 0 := by kernel_rfl
theorem w2e : wD2.1.err = 0 := by kernel_rfl
theorem w3d : wD3.1.data = [104, 105] := by kernel_rfl
theorem w3u : wD3.2.1.used = 4 := by kernel_rfl
theorem w4e : wD4.1.err = 0 := by kernel_rfl
theorem w4u : wD4.2.1.used = 3 := by kernel_rfl
theorem w4m : umQ wD4.2.2 1 = 18 := by kernel_rfl
theorem w4o : openL wD4.2.2 = [] := by kernel_rfl
theorem w0u : wT0.used = 4 := by kernel_rfl


theorem kDo {ks kt kb : Nat} {T : Tab} {ps : List Pr} {h : List Blk} {live : List Nat} (hy : SysAt h ks kt kb T ps) (pid : Int) (ca : Ca) {d : Rs × Tab × List Pr} (e : doF T ps pid ca = d) (h1 : ca.path.length ≤ 1000) (h2 : ca.other.length ≤ 1000) (h3 : ca.data.length ≤ 1000) : ACalls Tryz.prog 15 [.ptr ks 0, .int .i64 pid, .agg (caC ca)] h live fun x h' l' =>
    (x = .agg (rsC d.1) ∧ SysAt h' ks kt kb d.2.1 d.2.2 ∧ h'.length = h.length ∧ (∀ i, i ≠ kt → (∀ j, j < ps.length → i ≠ kb + 2 * j) → h'[i]? = h[i]?) ∧ l' = live) ∧ HCl h' :=
  e ▸ c15 ks kt kb T ps h live hy pid ca h1 h2 h3
theorem wl0 : (List.map (pr1 18) wCs).length = 2 := rfl
theorem wl1 : wD1.2.2.length = 2 := by kernel_rfl
theorem wl2 : wD2.2.2.length = 2 := by kernel_rfl
theorem wl3 : wD3.2.2.length = 2 := by kernel_rfl
theorem rsC_0 (r : Rs) : (rsC r)[0]? = some (.int .i64 r.err) := rfl
theorem rsC_1 (r : Rs) : (rsC r)[1]? = some (.int .i64 r.n) := rfl
theorem rsC_9 (r : Rs) : (rsC r)[9]? = some (.str r.text) := rfl
theorem rsC_10 (r : Rs) : (rsC r)[10]? = some (.slice (r.names.map .str) .none) := rfl
theorem rsC_11 (r : Rs) : (rsC r)[11]? = some (.slice (r.data.map bV) .none) := rfl
attribute [push_cast] rsC_0 rsC_1 rsC_9 rsC_10 rsC_11
theorem wDT : decide True = true := rfl
theorem wHi : decide ([UInt8.ofNat (UInt8.toNat 104), UInt8.ofNat (UInt8.toNat 105)] = [104, 105]) = true := by decide
theorem wE0 : bE (.inr wT0) = 0 := rfl
theorem decI (a : Int) : decide (a = a) = true := by simp
theorem decB (a : List UInt8) : decide (a = a) = true := by simp
theorem wRaw_ok : ∀ r ∈ wRaw, RwOk r := by
  intro r hr
  simp only [wRaw, List.mem_cons, List.not_mem_nil, or_false] at hr
  rcases hr with rfl | rfl | rfl | rfl <;> exact ⟨by decide, by decide, by decide⟩
theorem wT0_ok : wT0.Ok := buildF_ok wRaw_ok wBuild
theorem wT0_rt : wT0.Rt := Tab.Rt.build wBuild
theorem caC_w1 : caC wA1 = [.int .i64 13, .str [115], .str [], .int .i64 1, .int .i64 0, .slice [] .none] := rfl
theorem wCs_eq : wCs.map crV = [.agg [.int .i64 1, .int .i64 1, .slice [] .none], .agg [.int .i64 0, .int .i64 0, .slice [] .none]] := rfl

set_option maxHeartbeats 1000000 in
theorem c8 (h : List Blk) (live : List Nat) (hh0 : h = []) : ACalls Tryz.prog 8 [] h live (ret (.bool true) h live) := by
  refine ab_ Tryz.func8 (hw := fun hH hX => ?_)
  have sx := sx0
  refine rs_ [] ?_
  refine dawp_p rfl (by (simp (disch := omega) only [push_cast, ↓reduceIte, Nat.reduceEqDiff, Nat.reduceAdd, Nat.reduceLeDiff, sx, wE0, wDT, wHi, decI, decB, w1e, w1n, w2e, w3d, w3u, w4e, w4u, w4m, w4o, w0u]) <;> rfl) rfl rfl ?_
  refine re_ (hf := by (simp (disch := omega) only [push_cast, ↓reduceIte, Nat.reduceEqDiff, Nat.reduceAdd, Nat.reduceLeDiff, sx, wE0, wDT, wHi, decI, decB, w1e, w1n, w2e, w3d, w3u, w4e, w4u, w4m, w4o, w0u]) <;> rfl) (hh := by (try simp (disch := omega) only [push_cast, ↓reduceIte, Nat.reduceEqDiff, Nat.reduceAdd, Nat.reduceLeDiff, sx, wE0, wDT, wHi, decI, decB, w1e, w1n, w2e, w3d, w3u, w4e, w4u, w4m, w4o, w0u]) <;> rfl) ?_
  refine rsq_ [1, 3] ⟨false, [], [], [], [13, 14], [], 0⟩ (fun h => nomatch h) ?_
  iterate 2 (refine dawp_p rfl (by (simp (disch := omega) only [push_cast, ↓reduceIte, Nat.reduceEqDiff, Nat.reduceAdd, Nat.reduceLeDiff, sx, wE0, wDT, wHi, decI, decB, w1e, w1n, w2e, w3d, w3u, w4e, w4u, w4m, w4o, w0u]) <;> rfl) rfl rfl ?_)
  refine dawp_gx rfl rfl rfl rfl (AOp.buildSliceT rfl (by (simp (disch := omega) only [push_cast, ↓reduceIte, Nat.reduceEqDiff, Nat.reduceAdd, Nat.reduceLeDiff, sx, wE0, wDT, wHi, decI, decB, w1e, w1n, w2e, w3d, w3u, w4e, w4u, w4m, w4o, w0u]) <;> rfl) (by decide) fun u13 hu13 => ⟨St.refl _, ?_⟩)
  refine dawp_gx rfl rfl rfl rfl (AOp.convT _ _ rfl (by kernel_rfl) (by (simp (disch := omega) only [push_cast, ↓reduceIte, Nat.reduceEqDiff, Nat.reduceAdd, Nat.reduceLeDiff, sx, wE0, wDT, wHi, decI, decB, w1e, w1n, w2e, w3d, w3u, w4e, w4u, w4m, w4o, w0u]) <;> rfl) (by simp) ⟨St.refl _, ?_⟩)
  rw [drop_tok (by assumption)]
  iterate 3 (refine dawp_p rfl (by (simp (disch := omega) only [push_cast, ↓reduceIte, Nat.reduceEqDiff, Nat.reduceAdd, Nat.reduceLeDiff, sx, wE0, wDT, wHi, decI, decB, w1e, w1n, w2e, w3d, w3u, w4e, w4u, w4m, w4o, w0u]) <;> rfl) rfl rfl ?_)
  refine dawp_w rfl rfl rfl rfl (AOp.callx _ _ _ rfl (by (simp (disch := omega) only [push_cast, ↓reduceIte, Nat.reduceEqDiff, Nat.reduceAdd, Nat.reduceLeDiff, sx, wE0, wDT, wHi, decI, decB, w1e, w1n, w2e, w3d, w3u, w4e, w4u, w4m, w4o, w0u]) <;> rfl) (by (simp (disch := omega) only [push_cast, ↓reduceIte, Nat.reduceEqDiff, Nat.reduceAdd, Nat.reduceLeDiff, sx, wE0, wDT, wHi, decI, decB, w1e, w1n, w2e, w3d, w3u, w4e, w4u, w4m, w4o, w0u]) <;> rfl) ?_)
  refine (erx_ (ys := [.int .i64 9, .slice (wRaw.map rV) .none]) (by simp only [List.map_cons, List.map_nil, AV.er, AV.erL]; rfl) ((c27 9 wRaw _ _ wRaw_ok (by decide)).mono ?_)); rintro _ _ _ ⟨rfl, g, p, rfl, rfl, hbp, hper, hpc, hHg⟩; rw [wBuild] at hbp ⊢; obtain ⟨ka, rfl, hka⟩ := hbp
  iterate 7 (refine dawp_p rfl (by (simp (disch := omega) only [push_cast, ↓reduceIte, Nat.reduceEqDiff, Nat.reduceAdd, Nat.reduceLeDiff, sx, wE0, wDT, wHi, decI, decB, w1e, w1n, w2e, w3d, w3u, w4e, w4u, w4m, w4o, w0u]) <;> rfl) rfl rfl ?_)
  refine re_ (hf := by (simp (disch := omega) only [push_cast, ↓reduceIte, Nat.reduceEqDiff, Nat.reduceAdd, Nat.reduceLeDiff, sx, wE0, wDT, wHi, decI, decB, w1e, w1n, w2e, w3d, w3u, w4e, w4u, w4m, w4o, w0u]) <;> rfl) (hh := by (try simp (disch := omega) only [push_cast, ↓reduceIte, Nat.reduceEqDiff, Nat.reduceAdd, Nat.reduceLeDiff, sx, wE0, wDT, wHi, decI, decB, w1e, w1n, w2e, w3d, w3u, w4e, w4u, w4m, w4o, w0u]) <;> rfl) ?_
  refine rs_ [1, 3, 4] ?_
  iterate 4 (refine dawp_p rfl (by (simp (disch := omega) only [push_cast, ↓reduceIte, Nat.reduceEqDiff, Nat.reduceAdd, Nat.reduceLeDiff, sx, wE0, wDT, wHi, decI, decB, w1e, w1n, w2e, w3d, w3u, w4e, w4u, w4m, w4o, w0u]) <;> rfl) rfl rfl ?_)
  refine dawp_w rfl rfl rfl rfl (AOp.callx _ _ _ rfl (by (simp (disch := omega) only [push_cast, ↓reduceIte, Nat.reduceEqDiff, Nat.reduceAdd, Nat.reduceLeDiff, sx, wE0, wDT, wHi, decI, decB, w1e, w1n, w2e, w3d, w3u, w4e, w4u, w4m, w4o, w0u]) <;> rfl) (by (simp (disch := omega) only [push_cast, ↓reduceIte, Nat.reduceEqDiff, Nat.reduceAdd, Nat.reduceLeDiff, sx, wE0, wDT, wHi, decI, decB, w1e, w1n, w2e, w3d, w3u, w4e, w4u, w4m, w4o, w0u]) <;> rfl) ?_)
  refine erx_ (ys := [.ptr ka 0, .int .i64 18, .slice (wCs.map crV) .none]) (by simp only [List.map_cons, List.map_nil, AV.er, AV.erL]; rfl) ((c28 wT0 ka 18 wCs _ _ hka wT0_ok (by decide) (by decide)).mono ?_); rintro _ H0 _ ⟨rfl, hH0, rfl⟩
  obtain ⟨n, hn⟩ : ∃ n, (h ++ g).length = n := ⟨_, rfl⟩
  have hl0 := newH_len (h ++ g) wT0 18 wCs
  have hy0 := newH_at (h ++ g) 18 (cs := wCs) wT0_ok wT0_rt (by decide) (by decide)
  rw [hH0] at hl0 hy0
  rw [hn] at hl0 hy0
  simp only [hn]
  change H0.length = n + 2 + 2 * 2 at hl0
  refine dawp_p rfl (by (simp (disch := omega) only [push_cast, ↓reduceIte, Nat.reduceEqDiff, Nat.reduceAdd, Nat.reduceLeDiff, sx, wE0, wDT, wHi, decI, decB, w1e, w1n, w2e, w3d, w3u, w4e, w4u, w4m, w4o, w0u]) <;> rfl) rfl rfl ?_
  refine re_ (hf := by (simp (disch := omega) only [push_cast, ↓reduceIte, Nat.reduceEqDiff, Nat.reduceAdd, Nat.reduceLeDiff, sx, wE0, wDT, wHi, decI, decB, w1e, w1n, w2e, w3d, w3u, w4e, w4u, w4m, w4o, w0u]) <;> rfl) (hh := by (try simp (disch := omega) only [push_cast, ↓reduceIte, Nat.reduceEqDiff, Nat.reduceAdd, Nat.reduceLeDiff, sx, wE0, wDT, wHi, decI, decB, w1e, w1n, w2e, w3d, w3u, w4e, w4u, w4m, w4o, w0u]) <;> rfl) ?_
  refine rs_ [1, 3, 4, 5] ?_
  iterate 2 (refine dawp_p rfl (by (simp (disch := omega) only [push_cast, ↓reduceIte, Nat.reduceEqDiff, Nat.reduceAdd, Nat.reduceLeDiff, sx, wE0, wDT, wHi, decI, decB, w1e, w1n, w2e, w3d, w3u, w4e, w4u, w4m, w4o, w0u]) <;> rfl) rfl rfl ?_)
  refine dawp_w rfl rfl rfl rfl (AOp.callx _ _ _ rfl (by (simp (disch := omega) only [push_cast, ↓reduceIte, Nat.reduceEqDiff, Nat.reduceAdd, Nat.reduceLeDiff, sx, wE0, wDT, wHi, decI, decB, w1e, w1n, w2e, w3d, w3u, w4e, w4u, w4m, w4o, w0u]) <;> rfl) (by (simp (disch := omega) only [push_cast, ↓reduceIte, Nat.reduceEqDiff, Nat.reduceAdd, Nat.reduceLeDiff, sx, wE0, wDT, wHi, decI, decB, w1e, w1n, w2e, w3d, w3u, w4e, w4u, w4m, w4o, w0u]) <;> rfl) ?_)
  refine erx_ (ys := [.ptr (n + 1) 0, .int .i64 0, .agg (caC wA1)]) (by simp only [List.map_cons, List.map_nil, AV.er, AV.erL, List.append_nil] <;> rfl) ((kDo (d := wD1) hy0 0 wA1 rfl (by decide) (by decide) (by decide)).mono ?_); rintro _ H1 _ ⟨⟨rfl, hy1, hl1, ho1, rfl⟩, hH1⟩
  change SysAt H1 (n + 1) n (n + 3) wD1.2.1 wD1.2.2 at hy1
  refine dawp_h rfl (by (simp (disch := omega) only [push_cast, ↓reduceIte, Nat.reduceEqDiff, Nat.reduceAdd, Nat.reduceLeDiff, sx, wE0, wDT, wHi, decI, decB, w1e, w1n, w2e, w3d, w3u, w4e, w4u, w4m, w4o, w0u]) <;> rfl) rfl rfl ?_
  refine dawp_hn rfl (by (simp (disch := omega) only [push_cast, ↓reduceIte, Nat.reduceEqDiff, Nat.reduceAdd, Nat.reduceLeDiff, sx, wE0, wDT, wHi, decI, decB, w1e, w1n, w2e, w3d, w3u, w4e, w4u, w4m, w4o, w0u]) <;> rfl) rfl ?_
  refine re_ (hf := by (simp (disch := omega) only [push_cast, ↓reduceIte, Nat.reduceEqDiff, Nat.reduceAdd, Nat.reduceLeDiff, sx, wE0, wDT, wHi, decI, decB, w1e, w1n, w2e, w3d, w3u, w4e, w4u, w4m, w4o, w0u]) <;> rfl) (hh := by (try simp (disch := omega) only [push_cast, ↓reduceIte, Nat.reduceEqDiff, Nat.reduceAdd, Nat.reduceLeDiff, sx, wE0, wDT, wHi, decI, decB, w1e, w1n, w2e, w3d, w3u, w4e, w4u, w4m, w4o, w0u]) <;> rfl) ?_
  refine rs_ [1, 3, 4, 5, 6] ?_
  iterate 2 (refine dawp_p rfl (by (simp (disch := omega) only [push_cast, ↓reduceIte, Nat.reduceEqDiff, Nat.reduceAdd, Nat.reduceLeDiff, sx, wE0, wDT, wHi, decI, decB, w1e, w1n, w2e, w3d, w3u, w4e, w4u, w4m, w4o, w0u]) <;> rfl) rfl rfl ?_)
  refine dawp_w rfl rfl rfl rfl (AOp.callx _ _ _ rfl (by (simp (disch := omega) only [push_cast, ↓reduceIte, Nat.reduceEqDiff, Nat.reduceAdd, Nat.reduceLeDiff, sx, wE0, wDT, wHi, decI, decB, w1e, w1n, w2e, w3d, w3u, w4e, w4u, w4m, w4o, w0u]) <;> rfl) (by (simp (disch := omega) only [push_cast, ↓reduceIte, Nat.reduceEqDiff, Nat.reduceAdd, Nat.reduceLeDiff, sx, wE0, wDT, wHi, decI, decB, w1e, w1n, w2e, w3d, w3u, w4e, w4u, w4m, w4o, w0u]) <;> rfl) ?_)
  refine erx_ (ys := [.ptr (n + 1) 0, .int .i64 1, .agg (caC wA2)]) (by simp only [List.map_cons, List.map_nil, AV.er, AV.erL, List.append_nil] <;> rfl) ((kDo (d := wD2) hy1.app 1 wA2 rfl (by decide) (by decide) (by decide)).mono ?_); rintro _ H2 _ ⟨⟨rfl, hy2, hl2, ho2, rfl⟩, hH2⟩
  change SysAt H2 (n + 1) n (n + 3) wD2.2.1 wD2.2.2 at hy2
  refine dawp_h rfl (by (simp (disch := omega) only [push_cast, ↓reduceIte, Nat.reduceEqDiff, Nat.reduceAdd, Nat.reduceLeDiff, sx, wE0, wDT, wHi, decI, decB, w1e, w1n, w2e, w3d, w3u, w4e, w4u, w4m, w4o, w0u]) <;> rfl) rfl rfl ?_
  refine dawp_hn rfl (by (simp (disch := omega) only [push_cast, ↓reduceIte, Nat.reduceEqDiff, Nat.reduceAdd, Nat.reduceLeDiff, sx, wE0, wDT, wHi, decI, decB, w1e, w1n, w2e, w3d, w3u, w4e, w4u, w4m, w4o, w0u]) <;> rfl) rfl ?_
  refine re_ (hf := by (simp (disch := omega) only [push_cast, ↓reduceIte, Nat.reduceEqDiff, Nat.reduceAdd, Nat.reduceLeDiff, sx, wE0, wDT, wHi, decI, decB, w1e, w1n, w2e, w3d, w3u, w4e, w4u, w4m, w4o, w0u]) <;> rfl) (hh := by (try simp (disch := omega) only [push_cast, ↓reduceIte, Nat.reduceEqDiff, Nat.reduceAdd, Nat.reduceLeDiff, sx, wE0, wDT, wHi, decI, decB, w1e, w1n, w2e, w3d, w3u, w4e, w4u, w4m, w4o, w0u]) <;> rfl) ?_
  refine rs_ [1, 3, 4, 5, 6, 7] ?_
  iterate 2 (refine dawp_p rfl (by (simp (disch := omega) only [push_cast, ↓reduceIte, Nat.reduceEqDiff, Nat.reduceAdd, Nat.reduceLeDiff, sx, wE0, wDT, wHi, decI, decB, w1e, w1n, w2e, w3d, w3u, w4e, w4u, w4m, w4o, w0u]) <;> rfl) rfl rfl ?_)
  refine dawp_w rfl rfl rfl rfl (AOp.callx _ _ _ rfl (by (simp (disch := omega) only [push_cast, ↓reduceIte, Nat.reduceEqDiff, Nat.reduceAdd, Nat.reduceLeDiff, sx, wE0, wDT, wHi, decI, decB, w1e, w1n, w2e, w3d, w3u, w4e, w4u, w4m, w4o, w0u]) <;> rfl) (by (simp (disch := omega) only [push_cast, ↓reduceIte, Nat.reduceEqDiff, Nat.reduceAdd, Nat.reduceLeDiff, sx, wE0, wDT, wHi, decI, decB, w1e, w1n, w2e, w3d, w3u, w4e, w4u, w4m, w4o, w0u]) <;> rfl) ?_)
  refine erx_ (ys := [.ptr (n + 1) 0, .int .i64 0, .agg (caC wA3)]) (by simp only [List.map_cons, List.map_nil, AV.er, AV.erL, List.append_nil] <;> rfl) ((kDo (d := wD3) hy2.app 0 wA3 rfl (by decide) (by decide) (by decide)).mono ?_); rintro _ H3 _ ⟨⟨rfl, hy3, hl3, ho3, rfl⟩, hH3⟩
  change SysAt H3 (n + 1) n (n + 3) wD3.2.1 wD3.2.2 at hy3
  refine dawp_h rfl (by (simp (disch := omega) only [push_cast, ↓reduceIte, Nat.reduceEqDiff, Nat.reduceAdd, Nat.reduceLeDiff, sx, wE0, wDT, wHi, decI, decB, w1e, w1n, w2e, w3d, w3u, w4e, w4u, w4m, w4o, w0u]) <;> rfl) rfl rfl ?_
  refine dawp_hn rfl (by (simp (disch := omega) only [push_cast, ↓reduceIte, Nat.reduceEqDiff, Nat.reduceAdd, Nat.reduceLeDiff, sx, wE0, wDT, wHi, decI, decB, w1e, w1n, w2e, w3d, w3u, w4e, w4u, w4m, w4o, w0u]) <;> rfl) rfl ?_
  refine re_ (hf := by (simp (disch := omega) only [push_cast, ↓reduceIte, Nat.reduceEqDiff, Nat.reduceAdd, Nat.reduceLeDiff, sx, wE0, wDT, wHi, decI, decB, w1e, w1n, w2e, w3d, w3u, w4e, w4u, w4m, w4o, w0u]) <;> rfl) (hh := by (try simp (disch := omega) only [push_cast, ↓reduceIte, Nat.reduceEqDiff, Nat.reduceAdd, Nat.reduceLeDiff, sx, wE0, wDT, wHi, decI, decB, w1e, w1n, w2e, w3d, w3u, w4e, w4u, w4m, w4o, w0u]) <;> rfl) ?_
  refine rs_ [1, 3, 4, 5, 6, 7, 8] ?_
  refine dawp_p rfl (by (simp (disch := omega) only [push_cast, ↓reduceIte, Nat.reduceEqDiff, Nat.reduceAdd, Nat.reduceLeDiff, sx, wE0, wDT, wHi, decI, decB, w1e, w1n, w2e, w3d, w3u, w4e, w4u, w4m, w4o, w0u]) <;> rfl) rfl rfl ?_
  refine dawp_w rfl rfl rfl rfl (AOp.callx _ _ _ rfl (by (simp (disch := omega) only [push_cast, ↓reduceIte, Nat.reduceEqDiff, Nat.reduceAdd, Nat.reduceLeDiff, sx, wE0, wDT, wHi, decI, decB, w1e, w1n, w2e, w3d, w3u, w4e, w4u, w4m, w4o, w0u]) <;> rfl) (by (simp (disch := omega) only [push_cast, ↓reduceIte, Nat.reduceEqDiff, Nat.reduceAdd, Nat.reduceLeDiff, sx, wE0, wDT, wHi, decI, decB, w1e, w1n, w2e, w3d, w3u, w4e, w4u, w4m, w4o, w0u]) <;> rfl) ?_)
  refine (c14 _ _ _ _ _ _ _ hy3.app).mono ?_; rintro _ _ _ ⟨rfl, rfl, rfl⟩
  refine dawp_w rfl rfl rfl rfl (AOp.callx _ _ _ rfl (by (simp (disch := omega) only [push_cast, ↓reduceIte, Nat.reduceEqDiff, Nat.reduceAdd, Nat.reduceLeDiff, sx, wE0, wDT, wHi, decI, decB, w1e, w1n, w2e, w3d, w3u, w4e, w4u, w4m, w4o, w0u]) <;> rfl) (by (simp (disch := omega) only [push_cast, ↓reduceIte, Nat.reduceEqDiff, Nat.reduceAdd, Nat.reduceLeDiff, sx, wE0, wDT, wHi, decI, decB, w1e, w1n, w2e, w3d, w3u, w4e, w4u, w4m, w4o, w0u]) <;> rfl) ?_)
  refine (c29 _ _ _ _ (by simp only [push_cast]) hy3.ok).mono ?_; rintro _ _ _ ⟨rfl, rfl, rfl⟩
  refine dawp_p rfl (by (simp (disch := omega) only [push_cast, ↓reduceIte, Nat.reduceEqDiff, Nat.reduceAdd, Nat.reduceLeDiff, sx, wE0, wDT, wHi, decI, decB, w1e, w1n, w2e, w3d, w3u, w4e, w4u, w4m, w4o, w0u]) <;> rfl) rfl rfl ?_
  refine re_ (hf := by (simp (disch := omega) only [push_cast, ↓reduceIte, Nat.reduceEqDiff, Nat.reduceAdd, Nat.reduceLeDiff, sx, wE0, wDT, wHi, decI, decB, w1e, w1n, w2e, w3d, w3u, w4e, w4u, w4m, w4o, w0u]) <;> rfl) (hh := by (try simp (disch := omega) only [push_cast, ↓reduceIte, Nat.reduceEqDiff, Nat.reduceAdd, Nat.reduceLeDiff, sx, wE0, wDT, wHi, decI, decB, w1e, w1n, w2e, w3d, w3u, w4e, w4u, w4m, w4o, w0u]) <;> rfl) ?_
  refine rs_ [1, 3, 4, 5, 6, 7, 8, 9] ?_
  iterate 2 (refine dawp_p rfl (by (simp (disch := omega) only [push_cast, ↓reduceIte, Nat.reduceEqDiff, Nat.reduceAdd, Nat.reduceLeDiff, sx, wE0, wDT, wHi, decI, decB, w1e, w1n, w2e, w3d, w3u, w4e, w4u, w4m, w4o, w0u]) <;> rfl) rfl rfl ?_)
  refine dawp_w rfl rfl rfl rfl (AOp.callx _ _ _ rfl (by (simp (disch := omega) only [push_cast, ↓reduceIte, Nat.reduceEqDiff, Nat.reduceAdd, Nat.reduceLeDiff, sx, wE0, wDT, wHi, decI, decB, w1e, w1n, w2e, w3d, w3u, w4e, w4u, w4m, w4o, w0u]) <;> rfl) (by (simp (disch := omega) only [push_cast, ↓reduceIte, Nat.reduceEqDiff, Nat.reduceAdd, Nat.reduceLeDiff, sx, wE0, wDT, wHi, decI, decB, w1e, w1n, w2e, w3d, w3u, w4e, w4u, w4m, w4o, w0u]) <;> rfl) ?_)
  refine erx_ (ys := [.ptr (n + 1) 0, .int .i64 0, .agg (caC wA4)]) (by simp only [List.map_cons, List.map_nil, AV.er, AV.erL, List.append_nil] <;> rfl) ((kDo (d := wD4) hy3.app 0 wA4 rfl (by decide) (by decide) (by decide)).mono ?_); rintro _ H4 _ ⟨⟨rfl, hy4, hl4, ho4, rfl⟩, hH4⟩
  change SysAt H4 (n + 1) n (n + 3) wD4.2.1 wD4.2.2 at hy4
  refine dawp_h rfl (by (simp (disch := omega) only [push_cast, ↓reduceIte, Nat.reduceEqDiff, Nat.reduceAdd, Nat.reduceLeDiff, sx, wE0, wDT, wHi, decI, decB, w1e, w1n, w2e, w3d, w3u, w4e, w4u, w4m, w4o, w0u]) <;> rfl) rfl rfl ?_
  refine dawp_hn rfl (by (simp (disch := omega) only [push_cast, ↓reduceIte, Nat.reduceEqDiff, Nat.reduceAdd, Nat.reduceLeDiff, sx, wE0, wDT, wHi, decI, decB, w1e, w1n, w2e, w3d, w3u, w4e, w4u, w4m, w4o, w0u]) <;> rfl) rfl ?_
  refine re_ (hf := by (simp (disch := omega) only [push_cast, ↓reduceIte, Nat.reduceEqDiff, Nat.reduceAdd, Nat.reduceLeDiff, sx, wE0, wDT, wHi, decI, decB, w1e, w1n, w2e, w3d, w3u, w4e, w4u, w4m, w4o, w0u]) <;> rfl) (hh := by (try simp (disch := omega) only [push_cast, ↓reduceIte, Nat.reduceEqDiff, Nat.reduceAdd, Nat.reduceLeDiff, sx, wE0, wDT, wHi, decI, decB, w1e, w1n, w2e, w3d, w3u, w4e, w4u, w4m, w4o, w0u]) <;> rfl) ?_
  refine rs_ [0] ?_
  rw [List.length_append] at hl2 hl3 hl4
  simp only [List.length_cons, List.length_nil] at hl2 hl3 hl4
  have hx12 : H2[H1.length]? = some (.cells (rsC wD1.1)) := by rw [ho2 _ (by omega) (by intro j hj; have := wl0; have := wl1; have := wl2; have := wl3; omega)]; exact (by simp)
  have hx13 : H3[H1.length]? = some (.cells (rsC wD1.1)) := by rw [ho3 _ (by omega) (by intro j hj; have := wl0; have := wl1; have := wl2; have := wl3; omega)]; exact atApp hx12
  have hx14 : H4[H1.length]? = some (.cells (rsC wD1.1)) := by rw [ho4 _ (by omega) (by intro j hj; have := wl0; have := wl1; have := wl2; have := wl3; omega)]; exact atApp hx13
  have hx1 := fun g : List Blk => atApp (g := g) hx14
  have hx23 : H3[H2.length]? = some (.cells (rsC wD2.1)) := by rw [ho3 _ (by omega) (by intro j hj; have := wl0; have := wl1; have := wl2; have := wl3; omega)]; exact (by simp)
  have hx24 : H4[H2.length]? = some (.cells (rsC wD2.1)) := by rw [ho4 _ (by omega) (by intro j hj; have := wl0; have := wl1; have := wl2; have := wl3; omega)]; exact atApp hx23
  have hx2 := fun g : List Blk => atApp (g := g) hx24
  have hx34 : H4[H3.length]? = some (.cells (rsC wD3.1)) := by rw [ho4 _ (by omega) (by intro j hj; have := wl0; have := wl1; have := wl2; have := wl3; omega)]; exact (by simp)
  have hx3 := fun g : List Blk => atApp (g := g) hx34
  have hkl := lt_of_get hka
  have hk0 : H0[ka]? = some (tabBlk wT0) := by rw [← hH0]; exact atApp hka
  have hk1 : H1[ka]? = some (tabBlk wT0) := by rw [ho1 _ (by omega) (by intro j hj; have := wl0; have := wl1; have := wl2; have := wl3; omega)]; exact hk0
  have hk2 : H2[ka]? = some (tabBlk wT0) := by rw [ho2 _ (by omega) (by intro j hj; have := wl0; have := wl1; have := wl2; have := wl3; omega)]; exact atApp hk1
  have hk3 : H3[ka]? = some (tabBlk wT0) := by rw [ho3 _ (by omega) (by intro j hj; have := wl0; have := wl1; have := wl2; have := wl3; omega)]; exact atApp hk2
  have hk4 : H4[ka]? = some (tabBlk wT0) := by rw [ho4 _ (by omega) (by intro j hj; have := wl0; have := wl1; have := wl2; have := wl3; omega)]; exact atApp hk3
  have hka4 := fun g : List Blk => atApp (g := g) hk4
  have sx := And.intro hx1 (And.intro hx2 (And.intro hx3 sx))
  iterate 3 (refine dawp_p rfl (by (simp (disch := omega) only [push_cast, ↓reduceIte, Nat.reduceEqDiff, Nat.reduceAdd, Nat.reduceLeDiff, sx, wE0, wDT, wHi, decI, decB, w1e, w1n, w2e, w3d, w3u, w4e, w4u, w4m, w4o, w0u]) <;> rfl) rfl rfl ?_)
  refine dawp_g rfl rfl (by simp only [push_cast, ↓reduceIte, Nat.reduceEqDiff, Nat.reduceAdd, Nat.reduceLeDiff, sx, wE0, wDT, wHi, decI, decB, w1e, w1n, w2e, w3d, w3u, w4e, w4u, w4m, w4o, w0u]; rfl) (fun hg => by simp (disch := omega) only [hg, push_cast, ↓reduceIte, Nat.reduceEqDiff, Nat.reduceAdd, Nat.reduceLeDiff, sx, wE0, wDT, wHi, decI, decB, w1e, w1n, w2e, w3d, w3u, w4e, w4u, w4m, w4o, w0u]; rfl) rfl rfl ?_
  refine dawp_gh rfl rfl (by simp only [push_cast, ↓reduceIte, Nat.reduceEqDiff, Nat.reduceAdd, Nat.reduceLeDiff, sx, wE0, wDT, wHi, decI, decB, w1e, w1n, w2e, w3d, w3u, w4e, w4u, w4m, w4o, w0u]; rfl) (fun hg => by simp (disch := omega) only [hg, push_cast, ↓reduceIte, Nat.reduceEqDiff, Nat.reduceAdd, Nat.reduceLeDiff, sx, wE0, wDT, wHi, decI, decB, w1e, w1n, w2e, w3d, w3u, w4e, w4u, w4m, w4o, w0u]; rfl) rfl rfl ?_
  refine dawp_g rfl rfl (by simp only [push_cast, ↓reduceIte, Nat.reduceEqDiff, Nat.reduceAdd, Nat.reduceLeDiff, sx, wE0, wDT, wHi, decI, decB, w1e, w1n, w2e, w3d, w3u, w4e, w4u, w4m, w4o, w0u]; rfl) (fun hg => by simp (disch := omega) only [hg, push_cast, ↓reduceIte, Nat.reduceEqDiff, Nat.reduceAdd, Nat.reduceLeDiff, sx, wE0, wDT, wHi, decI, decB, w1e, w1n, w2e, w3d, w3u, w4e, w4u, w4m, w4o, w0u]; rfl) rfl rfl ?_
  iterate 2 (refine dawp_p rfl (by (simp (disch := omega) only [push_cast, ↓reduceIte, Nat.reduceEqDiff, Nat.reduceAdd, Nat.reduceLeDiff, sx, wE0, wDT, wHi, decI, decB, w1e, w1n, w2e, w3d, w3u, w4e, w4u, w4m, w4o, w0u]) <;> rfl) rfl rfl ?_)
  refine dawp_g rfl rfl (by simp only [push_cast, ↓reduceIte, Nat.reduceEqDiff, Nat.reduceAdd, Nat.reduceLeDiff, sx, wE0, wDT, wHi, decI, decB, w1e, w1n, w2e, w3d, w3u, w4e, w4u, w4m, w4o, w0u]; rfl) (fun hg => by simp (disch := omega) only [hg, push_cast, ↓reduceIte, Nat.reduceEqDiff, Nat.reduceAdd, Nat.reduceLeDiff, sx, wE0, wDT, wHi, decI, decB, w1e, w1n, w2e, w3d, w3u, w4e, w4u, w4m, w4o, w0u]; rfl) rfl rfl ?_
  refine dawp_gh rfl rfl (by simp only [push_cast, ↓reduceIte, Nat.reduceEqDiff, Nat.reduceAdd, Nat.reduceLeDiff, sx, wE0, wDT, wHi, decI, decB, w1e, w1n, w2e, w3d, w3u, w4e, w4u, w4m, w4o, w0u]; rfl) (fun hg => by simp (disch := omega) only [hg, push_cast, ↓reduceIte, Nat.reduceEqDiff, Nat.reduceAdd, Nat.reduceLeDiff, sx, wE0, wDT, wHi, decI, decB, w1e, w1n, w2e, w3d, w3u, w4e, w4u, w4m, w4o, w0u]; rfl) rfl rfl ?_
  refine dawp_g rfl rfl (by simp only [push_cast, ↓reduceIte, Nat.reduceEqDiff, Nat.reduceAdd, Nat.reduceLeDiff, sx, wE0, wDT, wHi, decI, decB, w1e, w1n, w2e, w3d, w3u, w4e, w4u, w4m, w4o, w0u]; rfl) (fun hg => by simp (disch := omega) only [hg, push_cast, ↓reduceIte, Nat.reduceEqDiff, Nat.reduceAdd, Nat.reduceLeDiff, sx, wE0, wDT, wHi, decI, decB, w1e, w1n, w2e, w3d, w3u, w4e, w4u, w4m, w4o, w0u]; rfl) rfl rfl ?_
  iterate 2 (refine dawp_p rfl (by (simp (disch := omega) only [push_cast, ↓reduceIte, Nat.reduceEqDiff, Nat.reduceAdd, Nat.reduceLeDiff, sx, wE0, wDT, wHi, decI, decB, w1e, w1n, w2e, w3d, w3u, w4e, w4u, w4m, w4o, w0u]) <;> rfl) rfl rfl ?_)
  refine dawp_g rfl rfl (by simp only [push_cast, ↓reduceIte, Nat.reduceEqDiff, Nat.reduceAdd, Nat.reduceLeDiff, sx, wE0, wDT, wHi, decI, decB, w1e, w1n, w2e, w3d, w3u, w4e, w4u, w4m, w4o, w0u]; rfl) (fun hg => by simp (disch := omega) only [hg, push_cast, ↓reduceIte, Nat.reduceEqDiff, Nat.reduceAdd, Nat.reduceLeDiff, sx, wE0, wDT, wHi, decI, decB, w1e, w1n, w2e, w3d, w3u, w4e, w4u, w4m, w4o, w0u]; rfl) rfl rfl ?_
  refine dawp_gh rfl rfl (by simp only [push_cast, ↓reduceIte, Nat.reduceEqDiff, Nat.reduceAdd, Nat.reduceLeDiff, sx, wE0, wDT, wHi, decI, decB, w1e, w1n, w2e, w3d, w3u, w4e, w4u, w4m, w4o, w0u]; rfl) (fun hg => by simp (disch := omega) only [hg, push_cast, ↓reduceIte, Nat.reduceEqDiff, Nat.reduceAdd, Nat.reduceLeDiff, sx, wE0, wDT, wHi, decI, decB, w1e, w1n, w2e, w3d, w3u, w4e, w4u, w4m, w4o, w0u]; rfl) rfl rfl ?_
  refine dawp_g rfl rfl (by simp only [push_cast, ↓reduceIte, Nat.reduceEqDiff, Nat.reduceAdd, Nat.reduceLeDiff, sx, wE0, wDT, wHi, decI, decB, w1e, w1n, w2e, w3d, w3u, w4e, w4u, w4m, w4o, w0u]; rfl) (fun hg => by simp (disch := omega) only [hg, push_cast, ↓reduceIte, Nat.reduceEqDiff, Nat.reduceAdd, Nat.reduceLeDiff, sx, wE0, wDT, wHi, decI, decB, w1e, w1n, w2e, w3d, w3u, w4e, w4u, w4m, w4o, w0u]; rfl) rfl rfl ?_
  iterate 2 (refine dawp_p rfl (by (simp (disch := omega) only [push_cast, ↓reduceIte, Nat.reduceEqDiff, Nat.reduceAdd, Nat.reduceLeDiff, sx, wE0, wDT, wHi, decI, decB, w1e, w1n, w2e, w3d, w3u, w4e, w4u, w4m, w4o, w0u]) <;> rfl) rfl rfl ?_)
  refine dawp_g rfl rfl (by simp only [push_cast, ↓reduceIte, Nat.reduceEqDiff, Nat.reduceAdd, Nat.reduceLeDiff, sx, wE0, wDT, wHi, decI, decB, w1e, w1n, w2e, w3d, w3u, w4e, w4u, w4m, w4o, w0u]; rfl) (fun hg => by simp (disch := omega) only [hg, push_cast, ↓reduceIte, Nat.reduceEqDiff, Nat.reduceAdd, Nat.reduceLeDiff, sx, wE0, wDT, wHi, decI, decB, w1e, w1n, w2e, w3d, w3u, w4e, w4u, w4m, w4o, w0u]; rfl) rfl rfl ?_
  refine dawp_gh rfl rfl (by simp only [push_cast, ↓reduceIte, Nat.reduceEqDiff, Nat.reduceAdd, Nat.reduceLeDiff, sx, wE0, wDT, wHi, decI, decB, w1e, w1n, w2e, w3d, w3u, w4e, w4u, w4m, w4o, w0u]; rfl) (fun hg => by simp (disch := omega) only [hg, push_cast, ↓reduceIte, Nat.reduceEqDiff, Nat.reduceAdd, Nat.reduceLeDiff, sx, wE0, wDT, wHi, decI, decB, w1e, w1n, w2e, w3d, w3u, w4e, w4u, w4m, w4o, w0u]; rfl) rfl rfl ?_
  iterate 2 (refine dawp_g rfl rfl (by simp only [push_cast, ↓reduceIte, Nat.reduceEqDiff, Nat.reduceAdd, Nat.reduceLeDiff, sx, wE0, wDT, wHi, decI, decB, w1e, w1n, w2e, w3d, w3u, w4e, w4u, w4m, w4o, w0u]; rfl) (fun hg => by simp (disch := omega) only [hg, push_cast, ↓reduceIte, Nat.reduceEqDiff, Nat.reduceAdd, Nat.reduceLeDiff, sx, wE0, wDT, wHi, decI, decB, w1e, w1n, w2e, w3d, w3u, w4e, w4u, w4m, w4o, w0u]; rfl) rfl rfl ?_)
  iterate 2 (refine dawp_p rfl (by (simp (disch := omega) only [push_cast, ↓reduceIte, Nat.reduceEqDiff, Nat.reduceAdd, Nat.reduceLeDiff, sx, wE0, wDT, wHi, decI, decB, w1e, w1n, w2e, w3d, w3u, w4e, w4u, w4m, w4o, w0u]) <;> rfl) rfl rfl ?_)
  iterate 2 (refine dawp_g rfl rfl (by simp only [push_cast, ↓reduceIte, Nat.reduceEqDiff, Nat.reduceAdd, Nat.reduceLeDiff, sx, wE0, wDT, wHi, decI, decB, w1e, w1n, w2e, w3d, w3u, w4e, w4u, w4m, w4o, w0u]; rfl) (fun hg => by simp (disch := omega) only [hg, push_cast, ↓reduceIte, Nat.reduceEqDiff, Nat.reduceAdd, Nat.reduceLeDiff, sx, wE0, wDT, wHi, decI, decB, w1e, w1n, w2e, w3d, w3u, w4e, w4u, w4m, w4o, w0u]; rfl) rfl rfl ?_)
  iterate 2 (refine dawp_p rfl (by (simp (disch := omega) only [push_cast, ↓reduceIte, Nat.reduceEqDiff, Nat.reduceAdd, Nat.reduceLeDiff, sx, wE0, wDT, wHi, decI, decB, w1e, w1n, w2e, w3d, w3u, w4e, w4u, w4m, w4o, w0u]) <;> rfl) rfl rfl ?_)
  refine dawp_g rfl rfl (by simp only [push_cast, ↓reduceIte, Nat.reduceEqDiff, Nat.reduceAdd, Nat.reduceLeDiff, sx, wE0, wDT, wHi, decI, decB, w1e, w1n, w2e, w3d, w3u, w4e, w4u, w4m, w4o, w0u]; rfl) (fun hg => by simp (disch := omega) only [hg, push_cast, ↓reduceIte, Nat.reduceEqDiff, Nat.reduceAdd, Nat.reduceLeDiff, sx, wE0, wDT, wHi, decI, decB, w1e, w1n, w2e, w3d, w3u, w4e, w4u, w4m, w4o, w0u]; rfl) rfl rfl ?_
  refine dawp_gh rfl rfl (by simp only [push_cast, ↓reduceIte, Nat.reduceEqDiff, Nat.reduceAdd, Nat.reduceLeDiff, sx, wE0, wDT, wHi, decI, decB, w1e, w1n, w2e, w3d, w3u, w4e, w4u, w4m, w4o, w0u]; rfl) (fun hg => by simp (disch := omega) only [hg, push_cast, ↓reduceIte, Nat.reduceEqDiff, Nat.reduceAdd, Nat.reduceLeDiff, sx, wE0, wDT, wHi, decI, decB, w1e, w1n, w2e, w3d, w3u, w4e, w4u, w4m, w4o, w0u]; rfl) rfl rfl ?_
  refine dawp_g rfl rfl (by simp only [push_cast, ↓reduceIte, Nat.reduceEqDiff, Nat.reduceAdd, Nat.reduceLeDiff, sx, wE0, wDT, wHi, decI, decB, w1e, w1n, w2e, w3d, w3u, w4e, w4u, w4m, w4o, w0u]; rfl) (fun hg => by simp (disch := omega) only [hg, push_cast, ↓reduceIte, Nat.reduceEqDiff, Nat.reduceAdd, Nat.reduceLeDiff, sx, wE0, wDT, wHi, decI, decB, w1e, w1n, w2e, w3d, w3u, w4e, w4u, w4m, w4o, w0u]; rfl) rfl rfl ?_
  iterate 2 (refine dawp_p rfl (by (simp (disch := omega) only [push_cast, ↓reduceIte, Nat.reduceEqDiff, Nat.reduceAdd, Nat.reduceLeDiff, sx, wE0, wDT, wHi, decI, decB, w1e, w1n, w2e, w3d, w3u, w4e, w4u, w4m, w4o, w0u]) <;> rfl) rfl rfl ?_)
  refine dawp_g rfl rfl (by simp only [push_cast, ↓reduceIte, Nat.reduceEqDiff, Nat.reduceAdd, Nat.reduceLeDiff, sx, wE0, wDT, wHi, decI, decB, w1e, w1n, w2e, w3d, w3u, w4e, w4u, w4m, w4o, w0u]; rfl) (fun hg => by simp (disch := omega) only [hg, push_cast, ↓reduceIte, Nat.reduceEqDiff, Nat.reduceAdd, Nat.reduceLeDiff, sx, wE0, wDT, wHi, decI, decB, w1e, w1n, w2e, w3d, w3u, w4e, w4u, w4m, w4o, w0u]; rfl) rfl rfl ?_
  refine cl_ (hc := c14 _ _ _ _ _ _ _ hy4.app) (k := ?_)
  refine cl_ (hc := c29 _ _ _ _ (by simp only [push_cast]) hy4.ok) (k := ?_)
  refine dawp_g rfl rfl (by simp only [push_cast, ↓reduceIte, Nat.reduceEqDiff, Nat.reduceAdd, Nat.reduceLeDiff, sx, wE0, wDT, wHi, decI, decB, w1e, w1n, w2e, w3d, w3u, w4e, w4u, w4m, w4o, w0u]; rfl) (fun hg => by simp (disch := omega) only [hg, push_cast, ↓reduceIte, Nat.reduceEqDiff, Nat.reduceAdd, Nat.reduceLeDiff, sx, wE0, wDT, wHi, decI, decB, w1e, w1n, w2e, w3d, w3u, w4e, w4u, w4m, w4o, w0u]; rfl) rfl rfl ?_
  iterate 2 (refine dawp_p rfl (by (simp (disch := omega) only [push_cast, ↓reduceIte, Nat.reduceEqDiff, Nat.reduceAdd, Nat.reduceLeDiff, sx, wE0, wDT, wHi, decI, decB, w1e, w1n, w2e, w3d, w3u, w4e, w4u, w4m, w4o, w0u]) <;> rfl) rfl rfl ?_)
  refine dawp_g rfl rfl (by simp only [push_cast, ↓reduceIte, Nat.reduceEqDiff, Nat.reduceAdd, Nat.reduceLeDiff, sx, wE0, wDT, wHi, decI, decB, w1e, w1n, w2e, w3d, w3u, w4e, w4u, w4m, w4o, w0u]; rfl) (fun hg => by simp (disch := omega) only [hg, push_cast, ↓reduceIte, Nat.reduceEqDiff, Nat.reduceAdd, Nat.reduceLeDiff, sx, wE0, wDT, wHi, decI, decB, w1e, w1n, w2e, w3d, w3u, w4e, w4u, w4m, w4o, w0u]; rfl) rfl rfl ?_
  refine cl_ (hc := c23 _ _ _ _ _ _ _ hy4.app.app _) (k := ?_)
  refine dawp_g rfl rfl (by simp only [push_cast, ↓reduceIte, Nat.reduceEqDiff, Nat.reduceAdd, Nat.reduceLeDiff, sx, wE0, wDT, wHi, decI, decB, w1e, w1n, w2e, w3d, w3u, w4e, w4u, w4m, w4o, w0u]; rfl) (fun hg => by simp (disch := omega) only [hg, push_cast, ↓reduceIte, Nat.reduceEqDiff, Nat.reduceAdd, Nat.reduceLeDiff, sx, wE0, wDT, wHi, decI, decB, w1e, w1n, w2e, w3d, w3u, w4e, w4u, w4m, w4o, w0u]; rfl) rfl rfl ?_
  iterate 2 (refine dawp_p rfl (by (simp (disch := omega) only [push_cast, ↓reduceIte, Nat.reduceEqDiff, Nat.reduceAdd, Nat.reduceLeDiff, sx, wE0, wDT, wHi, decI, decB, w1e, w1n, w2e, w3d, w3u, w4e, w4u, w4m, w4o, w0u]) <;> rfl) rfl rfl ?_)
  refine dawp_g rfl rfl (by simp only [push_cast, ↓reduceIte, Nat.reduceEqDiff, Nat.reduceAdd, Nat.reduceLeDiff, sx, wE0, wDT, wHi, decI, decB, w1e, w1n, w2e, w3d, w3u, w4e, w4u, w4m, w4o, w0u]; rfl) (fun hg => by simp (disch := omega) only [hg, push_cast, ↓reduceIte, Nat.reduceEqDiff, Nat.reduceAdd, Nat.reduceLeDiff, sx, wE0, wDT, wHi, decI, decB, w1e, w1n, w2e, w3d, w3u, w4e, w4u, w4m, w4o, w0u]; rfl) rfl rfl ?_
  refine cl_ (hc := c20 _ _ _ _ _ _ _ hy4.app.app) (k := ?_)
  iterate 2 (refine dawp_g rfl rfl (by simp only [push_cast, ↓reduceIte, Nat.reduceEqDiff, Nat.reduceAdd, Nat.reduceLeDiff, sx, wE0, wDT, wHi, decI, decB, w1e, w1n, w2e, w3d, w3u, w4e, w4u, w4m, w4o, w0u]; rfl) (fun hg => by simp (disch := omega) only [hg, push_cast, ↓reduceIte, Nat.reduceEqDiff, Nat.reduceAdd, Nat.reduceLeDiff, sx, wE0, wDT, wHi, decI, decB, w1e, w1n, w2e, w3d, w3u, w4e, w4u, w4m, w4o, w0u]; rfl) rfl rfl ?_)
  iterate 2 (refine dawp_p rfl (by (simp (disch := omega) only [push_cast, ↓reduceIte, Nat.reduceEqDiff, Nat.reduceAdd, Nat.reduceLeDiff, sx, wE0, wDT, wHi, decI, decB, w1e, w1n, w2e, w3d, w3u, w4e, w4u, w4m, w4o, w0u]) <;> rfl) rfl rfl ?_)
  refine dawp_g rfl rfl (by simp only [push_cast, ↓reduceIte, Nat.reduceEqDiff, Nat.reduceAdd, Nat.reduceLeDiff, sx, wE0, wDT, wHi, decI, decB, w1e, w1n, w2e, w3d, w3u, w4e, w4u, w4m, w4o, w0u]; rfl) (fun hg => by simp (disch := omega) only [hg, push_cast, ↓reduceIte, Nat.reduceEqDiff, Nat.reduceAdd, Nat.reduceLeDiff, sx, wE0, wDT, wHi, decI, decB, w1e, w1n, w2e, w3d, w3u, w4e, w4u, w4m, w4o, w0u]; rfl) rfl rfl ?_
  refine cl_ (hc := c29 wT0 ka _ _ (atApp (hka4 _)) wT0_ok) (k := ?_)
  refine dawp_g rfl rfl (by simp only [push_cast, ↓reduceIte, Nat.reduceEqDiff, Nat.reduceAdd, Nat.reduceLeDiff, sx, wE0, wDT, wHi, decI, decB, w1e, w1n, w2e, w3d, w3u, w4e, w4u, w4m, w4o, w0u]; rfl) (fun hg => by simp (disch := omega) only [hg, push_cast, ↓reduceIte, Nat.reduceEqDiff, Nat.reduceAdd, Nat.reduceLeDiff, sx, wE0, wDT, wHi, decI, decB, w1e, w1n, w2e, w3d, w3u, w4e, w4u, w4m, w4o, w0u]; rfl) rfl rfl ?_
  iterate 2 (refine dawp_p rfl (by (simp (disch := omega) only [push_cast, ↓reduceIte, Nat.reduceEqDiff, Nat.reduceAdd, Nat.reduceLeDiff, sx, wE0, wDT, wHi, decI, decB, w1e, w1n, w2e, w3d, w3u, w4e, w4u, w4m, w4o, w0u]) <;> rfl) rfl rfl ?_)
  refine re_ (hf := by (simp (disch := omega) only [push_cast, ↓reduceIte, Nat.reduceEqDiff, Nat.reduceAdd, Nat.reduceLeDiff, sx, wE0, wDT, wHi, decI, decB, w1e, w1n, w2e, w3d, w3u, w4e, w4u, w4m, w4o, w0u]) <;> rfl) (hh := by (try simp (disch := omega) only [push_cast, ↓reduceIte, Nat.reduceEqDiff, Nat.reduceAdd, Nat.reduceLeDiff, sx, wE0, wDT, wHi, decI, decB, w1e, w1n, w2e, w3d, w3u, w4e, w4u, w4m, w4o, w0u]) <;> rfl) ?_
  refine awp_ret (up_ ?_)
  refine fg_ (h1 := h) (hres := by (simp (disch := omega) only [aresults, aresult, push_cast, ↓reduceIte, Nat.reduceEqDiff, Nat.reduceAdd, Nat.reduceLeDiff, sx, wE0, wDT, wHi, decI, decB, w1e, w1n, w2e, w3d, w3u, w4e, w4u, w4m, w4o, w0u]) <;> rfl) Tryz.results8 (hh := (⟨_, by rw [hh0]; exact (List.nil_append _).symm⟩)) (hK := ?_)
  exact ⟨rfl, rfl, rfl⟩


/-- What a law knows of a system that began. -/
theorem begun_el {h : List Blk} {live : List Nat} {um : Int} {cs : List Cr} {room : Int} {l : List Rw} {x : AV} {h' : List Blk} {l' : List Nat} (hb : begunK h live um cs (builtF room l ⟨0, 0, []⟩) x h' l') :
    l' = live ∧ ∃ p, x = .tup [p, .bool (builtF room l ⟨0, 0, []⟩).isSome] ∧ ∀ T, builtF room l ⟨0, 0, []⟩ = some T → (∀ c ∈ cs, c.gs.length ≤ 10) → cs.length ≤ 6 → ∃ n, p = .ptr (n + 1) 0 ∧ SysAt h' (n + 1) n (n + 3) T (cs.map (pr1 um)) := by
  obtain ⟨rfl, hb⟩ := hb
  refine ⟨rfl, ?_⟩
  rcases hb with ⟨e, rfl, rfl⟩ | ⟨T, g, e, rfl, rfl⟩
  · rw [e]; exact ⟨_, rfl, fun T hT => nomatch hT⟩
  · rw [e]
    refine ⟨_, rfl, fun T' hT' hg hf => ?_⟩
    cases hT'
    exact ⟨_, rfl, newH_at _ um (builtF_ok e).1 (built_rt e) (fun c hc => Nat.le_trans (hg c hc) (by decide)) (Nat.le_trans hf (by decide))⟩
theorem getD_mem {l : List At} {i : Nat} (h : i < l.length) : l.getD i at0 ∈ l := by
  rw [List.getD_eq_getElem?_getD, List.getElem?_eq_getElem h]; exact List.getElem_mem h

end Go.Proofs.YtegffmibifodcaaGreat
