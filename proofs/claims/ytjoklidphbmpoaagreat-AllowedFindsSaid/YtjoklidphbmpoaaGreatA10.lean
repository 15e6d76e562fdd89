import Derived.Test.YtjoklidphbmpoaaGreatA9
/-
  TABLES: the document's tables, as lists of nodes.
-/
namespace Go.Proofs.YtjoklidphbmpoaaGreat
open Go.Ab
set_option linter.unusedVariables false
set_option linter.unusedSimpArgs false
set_option maxRecDepth 8000
set_option maxHeartbeats 400000


def nmL (n : Nd) : List (List UInt8) := n.ents.map (·.1)
def kdL (n : Nd) : List Int := n.ents.map (·.2)
theorem nmL_len (n : Nd) : (nmL n).length = n.ents.length := List.length_map _
theorem kdL_len (n : Nd) : (kdL n).length = n.ents.length := List.length_map _
/-- A node as the document has it. -/
def nvC (n : Nd) : List AV := [.int .i64 n.kind, .int .i64 n.mode, .int .i64 n.uid, .int .i64 n.gid, .str n.data, .slice ((nmL n).map .str) .none, .slice ((kdL n).map iV) .none, .str n.target]
def nV (n : Nd) : AV := .agg (nvC n)
theorem nvC_len (n : Nd) : (nvC n).length = 8 := rfl
theorem nvC_0 (n : Nd) : (nvC n)[0]? = some (.int .i64 n.kind) := rfl
theorem nvC_1 (n : Nd) : (nvC n)[1]? = some (.int .i64 n.mode) := rfl
theorem nvC_2 (n : Nd) : (nvC n)[2]? = some (.int .i64 n.uid) := rfl
theorem nvC_3 (n : Nd) : (nvC n)[3]? = some (.int .i64 n.gid) := rfl
theorem nvC_4 (n : Nd) : (nvC n)[4]? = some (.str n.data) := rfl
theorem nvC_5 (n : Nd) : (nvC n)[5]? = some (.slice ((nmL n).map .str) .none) := rfl
theorem nvC_6 (n : Nd) : (nvC n)[6]? = some (.slice ((kdL n).map iV) .none) := rfl
theorem nvC_7 (n : Nd) : (nvC n)[7]? = some (.str n.target) := rfl
theorem nvTake (n : Nd) : (nvC n).take 8 = nvC n := rfl
theorem nvPut (a b c d e f g h : AV) (n : Nd) : putAt [a, b, c, d, e, f, g, h] 0 (nvC n) = nvC n := rfl
theorem nvPut' (m n : Nd) : putAt (nvC m) 0 (nvC n) = nvC n := rfl
attribute [push_cast] nvC_len nvC_0 nvC_1 nvC_2 nvC_3 nvC_4 nvC_5 nvC_6 nvC_7 nvTake nvPut nvPut'
theorem clL_nvC (m : Nat) (n : Nd) : AV.clL m (nvC n) := by simp [nvC, AV.clL, AV.cl, clL_str, clL_iV, -List.map_map]
theorem erL_strs (l : List (List UInt8)) : AV.erL (l.map .str) = l.map .str := by rw [AV.erL_map, List.map_map]; rfl
theorem er_nvC (n : Nd) : AV.erL (nvC n) = nvC n := by simp [nvC, AV.erL, AV.er, erL_strs, erL_iV, -List.map_map]
theorem clL_nV (n : Nat) (l : List Nd) : AV.clL n (l.map nV) := by
  rw [AV.clL_mem]; intro x hx; obtain ⟨y, _, rfl⟩ := List.mem_map.1 hx; exact clL_nvC _ _
theorem erL_nV (l : List Nd) : AV.erL (l.map nV) = l.map nV := by
  rw [AV.erL_map, List.map_map]
  exact List.map_congr_left fun n _ => congrArg AV.agg (er_nvC n)
theorem getD_nV {l : List Nd} {i : Nat} {d : AV} (h : i < l.length) : (l.map nV).getD i d = .agg (nvC (l.getD i nd0)) := by
  simp [List.getD_eq_getElem?_getD, h, nV]
theorem allSz_nV (l : List Nd) : allSz (l.map nV) 8 ↔ True := iff_true_intro (allSz_map _ _ _ fun _ => rfl)
attribute [push_cast] getD_nV allSz_nV
theorem cells_nV (l : List Nd) : ∀ y ∈ l.map nV, y.cells.length = 8 := by
  intro y hy; obtain ⟨a, _, rfl⟩ := List.mem_map.1 hy; rfl
/-- A list of rows, written one behind the other. -/
theorem cat_put {α : Type} (f : α → List AV) (s : Nat) (hf : ∀ x, (f x).length = s) : ∀ (l : List α) (j : Nat) (x : α) (r : List AV), j < l.length → putAt (l.flatMap f ++ r) (j * s) (f x) = (l.set j x).flatMap f ++ r
  | y :: l, 0, x, r, _ => by
    rw [Nat.zero_mul, List.flatMap_cons, List.append_assoc, putAt_eq _ _ _ (by simp [hf]), List.set_cons_zero, List.flatMap_cons, hf]
    simp [hf]
  | y :: l, j + 1, x, r, h => by
    have hl : (j + 1) * s = (f y).length + j * s := by rw [hf, Nat.add_mul]; omega
    rw [List.flatMap_cons, List.append_assoc, hl, putAt_right, cat_put f s hf l j x r (by simpa using h), List.set_cons_succ, List.flatMap_cons, List.append_assoc]
theorem cat_el {α : Type} (f : α → List AV) (s : Nat) (hf : ∀ x, (f x).length = s) : ∀ (l : List α) (j : Nat) (r : List AV) (h : j < l.length), (((l.flatMap f ++ r).drop (j * s)).take s) = f l[j]
  | y :: l, 0, r, _ => by
    rw [Nat.zero_mul, List.drop_zero, List.flatMap_cons, List.append_assoc]
    exact List.take_left' (hf y)
  | y :: l, j + 1, r, h => by
    have hl : (j + 1) * s = (f y).length + j * s := by rw [hf, Nat.add_mul]; omega
    rw [List.flatMap_cons, List.append_assoc, hl, List.drop_append, List.drop_of_length_le (by omega), List.nil_append, Nat.add_sub_cancel_left]
    exact cat_el f s hf l j r (by simpa using h)
theorem cat_frozen {α : Type} (f : α → List AV) (s : Nat) (hf : ∀ x, (f x).length = s) (l : List α) (r : List AV) : ((List.range l.length).map fun i => mkEl true (((l.flatMap f ++ r).drop (0 + i * s)).take s)) = l.map fun x => .agg (f x) := by
  refine List.ext_getElem (by simp) fun i h1 h2 => ?_
  simp only [List.length_map, List.length_range] at h1
  rw [List.getElem_map, List.getElem_map, List.getElem_range, Nat.zero_add, cat_el f s hf l i r h1]
  rfl
theorem cat_len {α : Type} (f : α → List AV) (s : Nat) (hf : ∀ x, (f x).length = s) : ∀ (l : List α), (l.flatMap f).length = l.length * s
  | [] => by simp
  | y :: l => by rw [List.flatMap_cons, List.length_append, hf, cat_len f s hf l, List.length_cons, Nat.add_mul]; omega
theorem flat_nV (l : List Nd) : flat (l.map nV) = l.flatMap nvC := by
  induction l with
  | nil => rfl
  | cons n l ih => simp only [flat, List.map_cons, List.flatMap_cons] at ih ⊢; rw [ih]; rfl
theorem rep_cat (n : Nat) (z : List AV) (hz : 0 < z.length) : rep n z = (List.replicate n ()).flatMap fun _ => z := by
  have hc : ∀ m, (List.replicate m ()).flatMap (fun _ => z) = flat (List.replicate m (AV.agg z)) := fun m => by
    induction m with
    | zero => rfl
    | succ m ih => rw [List.replicate_succ, List.replicate_succ, List.flatMap_cons, ih]; rfl
  have hm : ∀ y ∈ List.replicate n (AV.agg z), y.cells.length = z.length := fun y hy => by rw [(List.mem_replicate.1 hy).2]; rfl
  rw [hc]
  refine List.ext_getElem (by rw [rep_length, flat_length hm, List.length_replicate]) fun q h1 h2 => ?_
  rw [rep_length] at h1
  have hd := divmod_lt (sz := z.length) (n := n) h1
  have := flat_getD hm (i := q / z.length) (j := q % z.length) (by rw [List.length_replicate]; exact hd.1) hd.2.1
  rw [hd.2.2] at this
  rw [List.getD_eq_getElem?_getD, List.getElem?_eq_getElem h2, Option.getD_some] at this
  rw [this]
  simp only [rep, List.getElem_map, List.getElem_range]
  rw [List.getD_eq_getElem?_getD (l := List.replicate n (AV.agg z)), List.getElem?_replicate, if_pos hd.1]
  rfl
def zN : List AV := [.int .i64 0, .int .i64 0, .int .i64 0, .int .i64 0, .str [], .slice [] .full, .slice [] .full, .str []]
theorem erL_rep (r : Nat) : AV.erL (List.replicate r (AV.agg zN)) = (List.replicate r nd0).map nV := by
  rw [AV.erL_map, List.map_replicate, List.map_replicate]; rfl
/-- What the list of so many new nodes is frozen to. -/
theorem new_frz (r : Nat) (h : List Blk) (x : Blk) (live : List Nat) : ((AV.agg [.bsl (h.length + 1) 0 8 true r r]).frz (h ++ [x, .cells (rep r zN)]) h.length).er = .agg [.slice ((List.replicate r nd0).map nV) .none] := by
  have hg : (h ++ [x, Blk.cells (rep r zN)])[h.length + 1]? = some (.cells (rep r zN)) := by
    rw [List.getElem?_append_right (by omega), show h.length + 1 - h.length = 1 by omega]; rfl
  have hc := cat_frozen (fun _ : Unit => zN) 8 (fun _ => rfl) (List.replicate r ()) []
  rw [List.append_nil, ← rep_cat r zN (by decide), List.length_replicate] at hc
  simp only [AV.frz, AV.frzL]
  rw [if_pos (by omega), hg]
  simp only []
  rw [if_pos ⟨by rw [rep_length]; show 0 + r * 8 ≤ r * 8; omega, by decide, .inl trivial⟩, hc, List.map_replicate]
  simp only [AV.er, AV.erL, erL_rep]
/-- What a list in which one node was written is frozen to. -/
theorem set_frz (L : List Nd) (j : Nat) (hj : j < L.length) (n : Nd) (h : List Blk) (x y z : Blk) (cap : Nat) (r : List AV) :
    ((AV.agg [.bsl (h.length + 3) 0 8 true L.length cap]).frz (h ++ [x, y, z, .cells (putAt (L.flatMap nvC ++ r) (j * 8) (nvC n))]) h.length).er = .agg [.slice ((L.set j n).map nV) .none] := by
  have hg : (h ++ [x, y, z, Blk.cells (putAt (L.flatMap nvC ++ r) (j * 8) (nvC n))])[h.length + 3]? = some (.cells ((L.set j n).flatMap nvC ++ r)) := by
    rw [List.getElem?_append_right (by omega), show h.length + 3 - h.length = 3 by omega, cat_put nvC 8 nvC_len L j n r hj]; rfl
  have hc := cat_frozen nvC 8 nvC_len (L.set j n) r
  rw [List.length_set] at hc
  simp only [AV.frz, AV.frzL]
  rw [if_pos (by omega), hg]
  simp only []
  rw [if_pos ⟨by rw [List.length_append, cat_len nvC 8 nvC_len, List.length_set]; omega, by decide, .inl trivial⟩, hc]
  simp only [AV.er, AV.erL]
  exact congrArg (fun l => AV.agg [.slice l .none]) (erL_nV (L.set j n))
def tV (L : List Nd) : AV := .agg [.slice (L.map nV) .none]
theorem nm_step {n : Nd} {i : Nat} (h : i < n.ents.length) : List.map AV.str ((nmL n).take i) ++ [.str (n.ents.getD i ([], 0)).1] = ((nmL n).take (i + 1)).map AV.str := by
  rw [List.take_succ_eq_append_getElem (by rw [nmL_len]; exact h), List.map_append]
  simp [nmL, List.getD_eq_getElem?_getD, h]
theorem kd_step {n : Nd} {i : Nat} (h : i < n.ents.length) : List.map iV ((kdL n).take i) ++ [.int .i64 (n.ents.getD i ([], 0)).2] = ((kdL n).take (i + 1)).map iV := by
  rw [List.take_succ_eq_append_getElem (by rw [kdL_len]; exact h), List.map_append]
  simp [kdL, List.getD_eq_getElem?_getD, h, iV]
theorem cells_strs' (l : List (List UInt8)) : ∀ y ∈ l.map AV.str, y.cells.length = 1 := by
  intro y hy; obtain ⟨x, _, rfl⟩ := List.mem_map.1 hy; rfl

attribute [push_cast] clL_nvC erL_strs er_nvC clL_nV erL_nV erL_rep

theorem c11 (c : Cr) (h : List Blk) (live : List Nat) : ACalls Tryz.prog 11 [.agg [.int .i64 c.uid, .int .i64 c.gid, .slice (c.gs.map iV) .none]] h live (ret (.agg [.int .i64 c.uid, .int .i64 c.gid, .slice (c.gs.map iV) .none]) h live) := by
  refine ab_ Tryz.func11 (hw := fun hH hX => ?_)
  have sx := sx0
  refine rg_ [1, 2] ?_
  refine rg_ [2] ?_
  refine awp_ret (up_ ?_)
  refine fp_ Tryz.results11 (hx := by (simp only [atuple, AV.er, AV.erL, push_cast, erL_iV]) <;> rfl) (hcl := (by simp [AV.cl, AV.clL, clL_iV, -List.map_map])) (hK := ?_)
  exact ⟨rfl, rfl, rfl⟩

theorem c30 (r : Nat) (h : List Blk) (live : List Nat) (h1 : 1 ≤ r) (h24 : r ≤ 24) : ACalls Tryz.prog 30 [.int .i64 r] h live (ret (tV (List.replicate r nd0)) h live) := by
  refine ab_ Tryz.func30 (hw := fun hH hX => ?_)
  have sx := sx0
  refine rg_ [0, 2] ?_
  refine rg_ [2, 3] ?_
  refine sk_ fun K1 hK1 => ?_
  refine rg_ [2, 3, 6] ?_
  refine cd_ (ht := fun hb1 => ?_) (hf := fun hb1 => ?_)
  · exfalso; omega
  refine awp_skip (up_ ?_)
  refine hK1 _ ?_
  refine sk_ fun K2 hK2 => ?_
  refine rg_ [2, 3, 8] ?_
  refine cd_ (ht := fun hb2 => ?_) (hf := fun hb2 => ?_)
  · exfalso; omega
  refine awp_skip (up_ ?_)
  refine hK2 _ ?_
  refine rs_ [2] ?_
  refine sg_ ?_
  refine dawp_w rfl rfl rfl rfl (AOp.makeSlice _ _ _ rfl Ty.makeT_32 (n := r) (m := r) rfl rfl (by omega) (by omega) (by omega) ?_)
  refine sg_ ?_
  refine re_ ?_
  refine awp_ret (up_ ?_)
  refine fz_ (h1 := h) Tryz.results30 (hx := (new_frz r h _ live)) (hcl := (by exact ⟨clL_nV _ _, trivial⟩)) (hK := ?_)
  exact ⟨rfl, rfl, rfl⟩

theorem c31 (L : List Nd) (j : Nat) (n : Nd) (h : List Blk) (live : List Nat) (hj : j < L.length) (hL : L.length ≤ 1000) : ACalls Tryz.prog 31 [tV L, .int .i64 ((j : Int) + 1), .agg (nvC n)] h live (ret (tV (L.set j n)) h live) := by
  refine ab_ Tryz.func31 (hw := fun hH hX => ?_)
  unfold tV
  have hcl : (L.flatMap nvC).length = L.length * 8 := cat_len nvC 8 nvC_len L
  have sx := (And.intro @flat_nV (And.intro @if_and_t (And.intro @Int.add_sub_cancel (And.intro @Nat.zero_add (And.intro @hcl sx0)))))
  refine rs_ [1, 3, 5, 6] ?_
  iterate 3 (refine dawp_h rfl (by (simp (disch := omega) only [push_cast, ↓reduceIte, Nat.reduceEqDiff, Nat.reduceAdd, Nat.reduceLeDiff, sx, beq_self_eq_true]) <;> rfl) rfl rfl ?_)
  refine re_ (hf := by (simp (disch := omega) only [push_cast, ↓reduceIte, Nat.reduceEqDiff, Nat.reduceAdd, Nat.reduceLeDiff, sx, beq_self_eq_true]) <;> rfl) (hh := by (try simp (disch := omega) only [push_cast, ↓reduceIte, Nat.reduceEqDiff, Nat.reduceAdd, Nat.reduceLeDiff, sx, beq_self_eq_true]) <;> rfl) ?_
  refine rs_ [1, 3, 5, 6, 7] ?_
  refine dawp_p rfl (by (simp (disch := omega) only [push_cast, ↓reduceIte, Nat.reduceEqDiff, Nat.reduceAdd, Nat.reduceLeDiff, sx, beq_self_eq_true]) <;> rfl) rfl rfl ?_
  refine re_ (hf := by (simp (disch := omega) only [push_cast, ↓reduceIte, Nat.reduceEqDiff, Nat.reduceAdd, Nat.reduceLeDiff, sx, beq_self_eq_true]) <;> rfl) (hh := by (try simp (disch := omega) only [push_cast, ↓reduceIte, Nat.reduceEqDiff, Nat.reduceAdd, Nat.reduceLeDiff, sx, beq_self_eq_true]) <;> rfl) ?_
  refine rs_ [1, 5, 6, 7] ?_
  iterate 2 (refine dawp_p rfl (by (simp (disch := omega) only [push_cast, ↓reduceIte, Nat.reduceEqDiff, Nat.reduceAdd, Nat.reduceLeDiff, sx, beq_self_eq_true]) <;> rfl) rfl rfl ?_)
  refine dawp_h rfl (by (simp (disch := omega) only [push_cast, ↓reduceIte, Nat.reduceEqDiff, Nat.reduceAdd, Nat.reduceLeDiff, sx, beq_self_eq_true]) <;> rfl) rfl rfl ?_
  refine dawp_w rfl rfl rfl rfl (AOp.appendM _ _ _ rfl Ty.makeT_32 (by (simp (disch := omega) only [push_cast]) <;> rfl) (by (simp (disch := omega) only [push_cast]) <;> rfl) (by simp; omega) (cells_nV _) (by simp; omega) (by simp; omega) ?_)
  intro cap rn
  refine dawp_p rfl (by (simp (disch := omega) only [push_cast, ↓reduceIte, Nat.reduceEqDiff, Nat.reduceAdd, Nat.reduceLeDiff, sx, beq_self_eq_true]) <;> rfl) rfl rfl ?_
  refine re_ (hf := by (simp (disch := omega) only [push_cast, ↓reduceIte, Nat.reduceEqDiff, Nat.reduceAdd, Nat.reduceLeDiff, sx, beq_self_eq_true]) <;> rfl) (hh := by (try simp (disch := omega) only [push_cast, ↓reduceIte, Nat.reduceEqDiff, Nat.reduceAdd, Nat.reduceLeDiff, sx, beq_self_eq_true]) <;> rfl) ?_
  refine rs_ [6, 7] ?_
  iterate 3 (refine dawp_p rfl (by (simp (disch := omega) only [push_cast, ↓reduceIte, Nat.reduceEqDiff, Nat.reduceAdd, Nat.reduceLeDiff, sx, beq_self_eq_true]) <;> rfl) rfl rfl ?_)
  refine dawp_h rfl (by (simp (disch := omega) only [push_cast, ↓reduceIte, Nat.reduceEqDiff, Nat.reduceAdd, Nat.reduceLeDiff, sx, beq_self_eq_true]) <;> rfl) rfl rfl ?_
  refine dawp_p rfl (by (simp (disch := omega) only [push_cast, ↓reduceIte, Nat.reduceEqDiff, Nat.reduceAdd, Nat.reduceLeDiff, sx, beq_self_eq_true]) <;> rfl) rfl rfl ?_
  refine dawp_hn rfl (by (simp (disch := omega) only [push_cast, ↓reduceIte, Nat.reduceEqDiff, Nat.reduceAdd, Nat.reduceLeDiff, sx, beq_self_eq_true]) <;> rfl) rfl ?_
  refine re_ (hf := by (simp (disch := omega) only [push_cast, ↓reduceIte, Nat.reduceEqDiff, Nat.reduceAdd, Nat.reduceLeDiff, sx, beq_self_eq_true]) <;> rfl) (hh := by (try simp (disch := omega) only [push_cast, ↓reduceIte, Nat.reduceEqDiff, Nat.reduceAdd, Nat.reduceLeDiff, sx, beq_self_eq_true]) <;> rfl) ?_
  refine rs_ [6] ?_
  iterate 2 (refine dawp_p rfl (by (simp (disch := omega) only [push_cast, ↓reduceIte, Nat.reduceEqDiff, Nat.reduceAdd, Nat.reduceLeDiff, sx, beq_self_eq_true]) <;> rfl) rfl rfl ?_)
  refine dawp_hn rfl (by (simp (disch := omega) only [push_cast, ↓reduceIte, Nat.reduceEqDiff, Nat.reduceAdd, Nat.reduceLeDiff, sx, beq_self_eq_true]) <;> rfl) rfl ?_
  refine re_ (hf := by (simp (disch := omega) only [push_cast, ↓reduceIte, Nat.reduceEqDiff, Nat.reduceAdd, Nat.reduceLeDiff, sx, beq_self_eq_true]) <;> rfl) (hh := by (try simp (disch := omega) only [push_cast, ↓reduceIte, Nat.reduceEqDiff, Nat.reduceAdd, Nat.reduceLeDiff, sx, beq_self_eq_true]) <;> rfl) ?_
  refine awp_ret (up_ ?_)
  refine fz_ (h1 := h) (hres := by (simp (disch := omega) only [aresults, aresult, push_cast, ↓reduceIte, Nat.reduceEqDiff, Nat.reduceAdd, Nat.reduceLeDiff, sx, beq_self_eq_true]) <;> rfl) Tryz.results31 (hx := (set_frz L j hj n h _ _ _ _ _)) (hcl := (by exact ⟨clL_nV _ _, trivial⟩)) (hK := ?_)
  exact ⟨rfl, rfl, rfl⟩


theorem cap_mid {l l1 : List Nat} {c d c1 : Cap} (hd : CapOK l d) (hcd : ∀ u, c = .own u → d ≠ .own u) (k1 : Keeps l c l1 c1) : CapOK l1 d := by
  rcases hd with rfl | ⟨t, rfl, ht⟩
  · exact .inl rfl
  · exact .inr ⟨t, rfl, (k1.2 t ht (fun e => hcd t e rfl)).1⟩
theorem two_caps {live l l1 l2 : List Nat} {c d c1 d1 : Cap} (hd : CapOK l d) (hcd : ∀ u, c = .own u → d ≠ .own u) (hlv : ∀ u ∈ live, u ∈ l ∧ c ≠ .own u ∧ d ≠ .own u) (k1 : Keeps l c l1 c1) (k2 : Keeps l1 d l2 d1) :
    CapOK l2 c1 ∧ CapOK l2 d1 ∧ (∀ u, c1 = .own u → d1 ≠ .own u) ∧ ∀ u ∈ live, u ∈ l2 ∧ c1 ≠ .own u ∧ d1 ≠ .own u := by
  have hne : ∀ u, c1 = .own u → d ≠ .own u := fun u hu e => by
    rcases hd with rfl | ⟨t, rfl, ht⟩
    · cases e
    · cases e
      exact (k1.2 u ht (fun e => hcd u e rfl)).2 hu
  have hc1 : ∀ u, c1 = .own u → u ∈ l1 := fun u hu => by
    rcases k1.1 with h | ⟨t, h, ht⟩
    · rw [h] at hu; cases hu
    · rw [h] at hu; cases hu; exact ht
  refine ⟨?_, k2.1, fun u hu => (k2.2 u (hc1 u hu) (hne u hu)).2, fun u hu => ?_⟩
  · rcases k1.1 with h | ⟨t, h, ht⟩
    · exact .inl h
    · exact .inr ⟨t, h, (k2.2 t ht (hne t h)).1⟩
  · obtain ⟨h1, h2, h3⟩ := hlv u hu
    have a := k1.2 u h1 h2
    have b := k2.2 u a.1 h3
    exact ⟨b.1, a.2, b.2⟩

theorem c32 (n : Nd) (h : List Blk) (live : List Nat) (hn : NdOk n) : ACalls Tryz.prog 32 [.agg (ndC n)] h live (ret (.agg (nvC n)) h live) := by
  refine ab_ Tryz.func32 (hw := fun hH hX => ?_)
  obtain ⟨hn1, hn2, hn3, -⟩ := hn
  have hnl := nmL_len n
  have hkl := kdL_len n
  have hB : ∀ a b (c d : Cap), HCl (h ++ [.cells (ndC n), .cells [.int .i64 0, .int .i64 0, .int .i64 0, .int .i64 0, .str [], .slice [] .full, .slice [] .full, .str []], .cells [.int .i64 n.kind, .int .i64 n.mode, .int .i64 n.uid, .int .i64 n.gid, .str n.data, .slice (((nmL n).take a).map .str) c, .slice (((kdL n).take b).map iV) d, .str n.target]]) := fun a b c d => by
    have := HCl.snoc (HCl.snoc (HCl.snoc (b := .cells (ndC n)) hH (clL_ndC _ _)) (b := .cells [.int .i64 0, .int .i64 0, .int .i64 0, .int .i64 0, .str [], .slice [] .full, .slice [] .full, .str []]) (by simp [Blk.cl, AV.clL, AV.cl])) (b := .cells [.int .i64 n.kind, .int .i64 n.mode, .int .i64 n.uid, .int .i64 n.gid, .str n.data, .slice (((nmL n).take a).map .str) c, .slice (((kdL n).take b).map iV) d, .str n.target]) (by simp [Blk.cl, AV.clL, AV.cl, clL_str, clL_iV, -List.map_take, -List.map_map])
    rw [List.append_assoc, List.append_assoc] at this; exact this
  have sx := (And.intro @nm_step (And.intro @kd_step sx0))
  refine rg_ [1, 2] ?_
  refine rg_ [1, 2, 3] ?_
  refine sk_ fun K1 hK1 => ?_
  refine rg_ [1, 2, 3, 4] ?_
  refine awp_block ?_
  refine awp_loop' (X := {p : Nat × Cap × Cap × List Nat // p.1 ≤ n.ents.length ∧ CapOK p.2.2.2 p.2.1 ∧ CapOK p.2.2.2 p.2.2.1 ∧ (∀ u, p.2.1 = .own u → p.2.2.1 ≠ .own u) ∧ ∀ u ∈ live, u ∈ p.2.2.2 ∧ p.2.1 ≠ .own u ∧ p.2.2.1 ≠ .own u}) (fun x => ⟨Tryz.f32.ntmps, fget [(1, .ptr h.length 0), (2, .ptr (h.length + 1) 0), (3, .ptr (h.length + 2) 0), (4, .int .i64 (x.1.1 : Nat))], h ++ [.cells (ndC n), .cells [.int .i64 0, .int .i64 0, .int .i64 0, .int .i64 0, .str [], .slice [] .full, .slice [] .full, .str []], .cells [.int .i64 n.kind, .int .i64 n.mode, .int .i64 n.uid, .int .i64 n.gid, .str n.data, .slice (((nmL n).take x.1.1).map .str) x.1.2.1, .slice (((kdL n).take x.1.1).map iV) x.1.2.2.1, .str n.target]], x.1.2.2.2⟩) (fun x => n.ents.length - x.1.1) (⟨⟨0, .full, .full, live⟩, Nat.zero_le _, .inl rfl, .inl rfl, (fun u hu => by cases hu), fun u hu => ⟨hu, Cap.noConfusion, Cap.noConfusion⟩⟩) ?_ (by first | rfl | simp only [List.length_set]) (fun ⟨⟨i, c, d, live'⟩, hi, hc, hd, hcd, hlv⟩ => ?_)
  · try dsimp only
    exact tf_ (hB _ _ _ _) (fun _ h => h)
  try dsimp only
  dsimp only at hi hc hd hcd hlv
  refine sk_ fun K2 hK2 => ?_
  refine rg_ [1, 2, 3, 4, 23] ?_
  refine cd_ (ht := fun hb1 => ?_) (hf := fun hb1 => ?_)
  rotate_left
  · have hie : i = n.ents.length := by omega
    subst hie
    refine awp_exit (up_ ?_)
    refine hK1 _ ?_
    refine rg_ [2] ?_
    refine awp_ret (up_ ?_)
    refine fp_ Tryz.results32 (hx := by (simp only [atuple, AV.er, AV.erL, push_cast, erL_strs, erL_iV]) <;> rfl) (hcl := (by simp [AV.cl, AV.clL, clL_str, clL_iV, -List.map_map, -List.map_take])) (hl := (fun u hu => (hlv u hu).1)) (hK := ?_)
    exact ⟨by rw [← hnl, List.take_of_length_le (by simp), hnl, ← hkl, List.take_of_length_le (by simp)]; rfl, rfl, rfl⟩
  have hil : i < n.ents.length := by omega
  refine awp_skip (up_ ?_)
  refine hK2 _ ?_
  refine sk_ fun K3 hK3 => ?_
  refine awp_block ?_
  refine rsq_ [1, 2, 3, 4] ⟨false, [], [], [], [], [], 0⟩ (fun _ => ⟨by kernel_rfl, by kernel_rfl⟩) ?_
  refine sg_ ?_
  refine dawp_w rfl rfl rfl rfl (AOp.append _ _ _ rfl (by (simp (disch := omega) only [push_cast, ↓reduceIte, Nat.reduceEqDiff, Nat.reduceAdd, Nat.reduceLeDiff, sx]) <;> rfl) (by (simp (disch := omega) only [push_cast, ↓reduceIte, Nat.reduceEqDiff, Nat.reduceAdd, Nat.reduceLeDiff, sx]) <;> rfl) (by (simp (disch := omega) only [push_cast, ↓reduceIte, Nat.reduceEqDiff, Nat.reduceAdd, Nat.reduceLeDiff, sx]) <;> rfl) hc (cells_strs' _) (by simp [AV.cells]) (by simp; omega) (by simp; omega) ?_)
  intro c35 live35 hk35
  refine sg_ ?_
  refine re_ ?_
  refine rtq_ [1, 2, 3, 4] ⟨false, [], [], [], [], [], 0⟩ (fun _ => ⟨by kernel_rfl, by kernel_rfl⟩) ?_
  refine sg_ ?_
  refine dawp_w rfl rfl rfl rfl (AOp.append _ _ _ rfl (by (simp (disch := omega) only [push_cast, ↓reduceIte, Nat.reduceEqDiff, Nat.reduceAdd, Nat.reduceLeDiff, sx]) <;> rfl) (by (simp (disch := omega) only [push_cast, ↓reduceIte, Nat.reduceEqDiff, Nat.reduceAdd, Nat.reduceLeDiff, sx]) <;> rfl) (by (simp (disch := omega) only [push_cast, ↓reduceIte, Nat.reduceEqDiff, Nat.reduceAdd, Nat.reduceLeDiff, sx]) <;> rfl) (cap_mid hd hcd hk35) (cells_iV _) (by simp [AV.cells]) (by simp; omega) (by simp; omega) ?_)
  intro c46 live46 hk46
  refine sg_ ?_
  refine rn_ (up_ ?_)
  refine hK3 _ ?_
  refine rt_ [1, 2, 3, 4] ?_
  refine sg_ ?_
  refine rn_ (up_ ?_)
  refine ⟨⟨⟨i + 1, c35, c46, live46⟩, by dsimp only; omega, two_caps hd hcd hlv hk35 hk46⟩, ?_, (by first | rfl | trivial | (simp only [List.length_set]; done) | simp), by dsimp only; omega⟩
  try dsimp only
  exact tf_ (hB _ _ _ _) (fun _ h => h)

end Go.Proofs.YtjoklidphbmpoaaGreat
