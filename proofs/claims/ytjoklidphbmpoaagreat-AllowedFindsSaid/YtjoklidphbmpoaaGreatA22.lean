import Derived.Test.YtjoklidphbmpoaaGreatA21
/-
  PATHS: where a path leads.
-/
namespace Go.Proofs.YtjoklidphbmpoaaGreat
open Go.Ab
set_option linter.unusedVariables false
set_option linter.unusedSimpArgs false
set_option maxRecDepth 8000
set_option maxHeartbeats 400000


def splitL (s : List UInt8) : List (List UInt8) := bif decide ((0 : Int) < (namesF s).length) && sufF s then namesF s ++ [[46]] else namesF s
theorem namesF_bd {s : List UInt8} (h : s.length ≤ 64) : (namesF s).length ≤ 32 := by
  have := (spansF_bd s).2
  rw [names_len]; omega
theorem splitL_bd {s : List UInt8} (h : s.length ≤ 64) : (splitL s).length ≤ 33 := by
  have := namesF_bd h
  unfold splitL
  cases (decide ((0 : Int) < (namesF s).length) && sufF s)
  · rw [cond_false]; omega
  · rw [cond_true, List.length_append, List.length_singleton]; omega
theorem map_str_snoc (l : List (List UInt8)) (x : List UInt8) : l.map AV.str ++ [.str x] = (l ++ [x]).map .str := by simp
theorem map_str_app (a b : List (List UInt8)) : a.map AV.str ++ b.map .str = (a ++ b).map .str := by simp
theorem suf_eq (s : List UInt8) : AV.bool (sufF s) = AV.bool (decide ((0 : Int) + 1 ≤ s.length) && decide (List.drop ((s.length : Int) - (0 + 1)).toNat s = [47])) := by
  unfold sufF
  rw [show ((s.length : Int) - (0 + 1)).toNat = s.length - 1 by omega]; rfl
theorem take_all_map {α β : Type} (f : α → β) (l : List α) : List.take (l.length - 0) (l.map f) = l.map f := List.take_of_length_le (by simp)
theorem take_all_snoc {α β : Type} (f : α → β) (l : List α) (x : α) : List.take (l.length + 1 - 0) ((l ++ [x]).map f) = (l ++ [x]).map f := List.take_of_length_le (by simp)
theorem map_str_cons (x : List UInt8) (l : List (List UInt8)) : AV.str x :: l.map .str = (x :: l).map .str := rfl
/-- Each node is right. -/
def Tab.Rt (T : Tab) : Prop := ∀ n ∈ T.ns, n.kind ≠ 0 → rightF n = true
theorem Tab.Rt.get {T : Tab} (h : T.Rt) {i : Int} (hi : (T.get i).2 = true) : rightF (T.get i).1 = true := by
  cases ha : T.at i with
  | none => rw [get_no ha] at hi; cases hi
  | some j =>
    rw [get_at ha]
    have hk : (T.ns.getD j nd0).kind ≠ 0 := by
      unfold Tab.at at ha
      split at ha
      · rename_i hc; cases ha; exact hc.2.2
      · cases ha
    by_cases hj : j < T.ns.length
    · rw [List.getD_eq_getElem?_getD, List.getElem?_eq_getElem hj] at hk ⊢
      exact h _ (List.getElem_mem hj) hk
    · rw [List.getD_eq_getElem?_getD, List.getElem?_eq_none (by omega)] at hk
      exact absurd rfl hk
theorem right_link {n : Nd} (h : rightF n = true) (hk : n.kind = 3) : n.target.length ≤ 64 := by
  unfold rightF at h
  cases hc : (decide (n.mode < 0) || decide (4095 < n.mode) || !idB n.uid || !idB n.gid) with
  | true => rw [hc] at h; cases h
  | false =>
    rw [hc, cond_false, if_neg (by omega), if_neg (by omega), if_pos hk] at h
    simp only [Bool.and_eq_true, fitsF, decide_eq_true_eq] at h
    omega
theorem Tab.Rt.link {T : Tab} (hT : T.Ok) (h : T.Rt) {i : Int} (hk : (T.get i).1.kind = 3) : (T.get i).1.target.length ≤ 64 := by
  have hi : (T.get i).2 = true := by rw [get_kind hT, hk]; rfl
  exact right_link (h.get hi) hk
def fitE (T : Tab) (s : List UInt8) : Int := if s = [] then 2 else if (64 : Int) < s.length then 36 else if 0 ≤ Lib.indexByte s 0 then 22 else if (T.get 1).2 = false then 2 else 0
def findF (n : Nd) (s : List UInt8) : Int := if 0 ≤ idxP (eqS s) n.ents then (n.ents.getD (idxP (eqS s) n.ents).toNat ([], 0)).2 else 0
/-- Where a path leads: the directory of its last name, that name, its node; or why not. -/
abbrev Fo := (Int × List UInt8 × Int) × Int
def fo (e : Int) : Fo := ((0, [], 0), e)
def foV (r : Fo) : AV := .tup [.agg [.int .i64 r.1.1, .str r.1.2.1, .int .i64 r.1.2.2], .int .i64 r.2]
def resL (T : Tab) (c : Cr) (fl : Bool) : Nat → Int → Int → List (List UInt8) → Fo
  | 0, _, _, _ => fo 0
  | _ + 1, i, _, [] => ((i, [], i), 0)
  | n + 1, i, k, s :: l =>
    if (T.get i).1.kind ≠ 2 then fo 20
    else if canT c T i 1 = false then fo 13
    else if s = [46] then resL T c fl n i k l
    else if s = [46, 46] then resL T c fl n (if T.parent i ≠ 0 then T.parent i else i) k l
    else if (12 : Int) < s.length then fo 36
    else if findF (T.get i).1 s = 0 ∧ (0 : Int) < l.length then fo 2
    else if (T.get (findF (T.get i).1 s)).1.kind = 3 ∧ (fl = true ∨ (0 : Int) < l.length) then
      (if k = 8 then fo 40 else resL T c fl n (if absF (T.get (findF (T.get i).1 s)).1.target = true then 1 else i) (k + 1) (splitL (T.get (findF (T.get i).1 s)).1.target ++ l))
    else if (l.length : Int) = 0 then ((i, s, findF (T.get i).1 s), 0)
    else resL T c fl n (findF (T.get i).1 s) k l
theorem resL_nil (T : Tab) (c : Cr) (fl : Bool) (n : Nat) (i k : Int) : resL T c fl (n + 1) i k [] = ((i, [], i), 0) := rfl
theorem resL_cons (T : Tab) (c : Cr) (fl : Bool) (n : Nat) (i k : Int) (s : List UInt8) (l : List (List UInt8)) : resL T c fl (n + 1) i k (s :: l) =
    if (T.get i).1.kind ≠ 2 then fo 20
    else if canT c T i 1 = false then fo 13
    else if s = [46] then resL T c fl n i k l
    else if s = [46, 46] then resL T c fl n (if T.parent i ≠ 0 then T.parent i else i) k l
    else if (12 : Int) < s.length then fo 36
    else if findF (T.get i).1 s = 0 ∧ (0 : Int) < l.length then fo 2
    else if (T.get (findF (T.get i).1 s)).1.kind = 3 ∧ (fl = true ∨ (0 : Int) < l.length) then
      (if k = 8 then fo 40 else resL T c fl n (if absF (T.get (findF (T.get i).1 s)).1.target = true then 1 else i) (k + 1) (splitL (T.get (findF (T.get i).1 s)).1.target ++ l))
    else if (l.length : Int) = 0 then ((i, s, findF (T.get i).1 s), 0)
    else resL T c fl n (findF (T.get i).1 s) k l := rfl
def resF (T : Tab) (c : Cr) (s : List UInt8) (fl : Bool) : Fo := if fitE T s ≠ 0 then fo (fitE T s) else resL T c fl 1000 1 0 (splitL s)
theorem BW.setr {g g' : List Blk} (h : BW g g') (k : Nat) (x : Blk) : BW (g.set k x) (g'.set k x) := by
  refine ⟨by rw [List.length_set, List.length_set]; exact h.1, fun j => ?_⟩
  rw [List.getElem?_set, List.getElem?_set]
  by_cases hj : k = j
  · rw [if_pos hj, if_pos hj, h.1]; exact .inl rfl
  · rw [if_neg hj, if_neg hj]; exact h.2 j
theorem fitE_len {T : Tab} {s : List UInt8} (h : fitE T s = 0) : s.length ≤ 64 := by
  unfold fitE at h
  split at h
  · cases h
  · split at h
    · cases h
    · omega

theorem c121 (s : List UInt8) (h : List Blk) (live : List Nat) (hs : s.length ≤ 64) : ACalls Tryz.prog 121 [.str s] h live (ret (.slice ((namesF s).map .str) .full) h live) := by
  refine ab_ Tryz.func121 (hw := fun hH hX => ?_)
  have sx := sx0
  refine rg_ [0] ?_
  refine rs_ [2] ?_
  refine sg_ ?_
  refine cl_ (hc := c130 s _ _ hs) (k := ?_)
  refine sg_ ?_
  refine re_ ?_
  refine awp_ret (up_ ?_)
  refine fg_ (h1 := h) Tryz.results121 (hx := (.inl rfl)) (hcl := (by exact clL_str _ _)) (hK := ?_)
  exact ⟨rfl, rfl, rfl⟩

theorem c132 (s : List UInt8) (h : List Blk) (live : List Nat) (hs : s.length ≤ 9223372036854775807) : ACalls Tryz.prog 132 [.str s, .str [47]] h live (ret (.bool (sufF s)) h live) := by
  refine ab_ Tryz.func132 (hw := fun hH hX => ?_)
  have sx := sx0
  refine rg_ [0, 1] ?_
  refine rg_ [4] ?_
  refine awp_ret (up_ ?_)
  refine fp_ Tryz.results132 (hK := ?_)
  exact ⟨suf_eq s, rfl, rfl⟩

theorem c122 (s : List UInt8) (h : List Blk) (live : List Nat) (hs : s.length ≤ 9223372036854775807) : ACalls Tryz.prog 122 [.str s, .str [47]] h live (ret (.bool (sufF s)) h live) := by
  refine ab_ Tryz.func122 (hw := fun hH hX => ?_)
  have sx := sx0
  refine rg_ [0, 1] ?_
  refine rs_ [4] ?_
  refine sg_ ?_
  refine cl_ (hc := c132 s _ _ hs) (k := ?_)
  refine sg_ ?_
  refine re_ ?_
  refine awp_ret (up_ ?_)
  refine fp_ Tryz.results122 (hK := ?_)
  exact ⟨rfl, rfl, rfl⟩

theorem c123 (s : List UInt8) (h : List Blk) (live : List Nat) (hs : s.length ≤ 9223372036854775807) : ACalls Tryz.prog 123 [.str s] h live (ret (.bool (absF s)) h live) := by
  refine ab_ Tryz.func123 (hw := fun hH hX => ?_)
  have sx := sx0
  refine rg_ [0] ?_
  refine rs_ [2] ?_
  refine sg_ ?_
  refine cl_ (hc := c133 s _ _ hs) (k := ?_)
  refine sg_ ?_
  refine re_ ?_
  refine awp_ret (up_ ?_)
  refine fp_ Tryz.results123 (hK := ?_)
  exact ⟨rfl, rfl, rfl⟩

theorem c104 (s : List UInt8) (h : List Blk) (live : List Nat) (hs : s.length ≤ 64) : ACalls Tryz.prog 104 [.str s] h live (ret (.tup [.bool (absF s), .slice ((splitL s).map .str) .full]) h live) := by
  refine ab_ Tryz.func104 (hw := fun hH hX => ?_)
  have hnb := namesF_bd hs
  have sx := (And.intro @map_str_snoc (And.intro @take_all_map (And.intro @take_all_snoc sx0)))
  refine rg_ [0] ?_
  refine rs_ [0, 4] ?_
  refine sg_ ?_
  refine cl_ (hc := c121 s _ _ hs) (k := ?_)
  refine sg_ ?_
  refine re_ ?_
  refine sk_ fun K1 hK1 => ?_
  refine rs_ [0, 4, 13] ?_
  refine sg_ ?_
  refine cg_ (hc := fun hg => c122 s _ _ (by omega)) (k := ?_)
  refine sg_ ?_
  refine re_ ?_
  refine cb_ (ht := fun hb1 => ?_) (hf := fun hb1 => ?_)
  · have hsp : splitL s = namesF s ++ [[46]] := by unfold splitL; rw [hb1]; rfl
    refine rt_ [0, 4] ?_
    refine sg_ ?_
    refine dawp_w rfl rfl rfl rfl (AOp.append _ _ _ rfl (by (simp (disch := omega) only [push_cast, ↓reduceIte, Nat.reduceEqDiff, Nat.reduceAdd, Nat.reduceLeDiff, sx]) <;> rfl) (by (simp (disch := omega) only [push_cast, ↓reduceIte, Nat.reduceEqDiff, Nat.reduceAdd, Nat.reduceLeDiff, sx]) <;> rfl) (by (simp (disch := omega) only [push_cast, ↓reduceIte, Nat.reduceEqDiff, Nat.reduceAdd, Nat.reduceLeDiff, sx]) <;> rfl) (.inl rfl) (cells_strs' _) (by simp [AV.cells]) (by simp; omega) (by simp; omega) ?_)
    intro c16 live16 hk16
    refine sg_ ?_
    refine rn_ (up_ ?_)
    refine hK1 _ ?_
    refine rsq_ [2, 3] ⟨true, [], [], [], [], [], 0⟩ (fun _ => ⟨by kernel_rfl, by kernel_rfl⟩) ?_
    refine sg_ ?_
    refine cr_ (hc := c123 s _ _ (by omega)) (k := ?_)
    refine sg_ ?_
    refine re_ ?_
    refine awp_ret (up_ ?_)
    refine fg_ (h1 := h) Tryz.results104 (hx := (.inl rfl)) (hcl := (by exact ⟨trivial, clL_str _ _, trivial⟩)) (hl := (fun u hu => (hk16.2 u hu (fun e => by cases e)).1)) (hK := ?_)
    exact ⟨by rw [hsp]; rfl, rfl, rfl⟩
  have hsp : splitL s = namesF s := by unfold splitL; rw [hb1]; rfl
  refine awp_skip (up_ ?_)
  refine hK1 _ ?_
  refine rsq_ [2, 3] ⟨true, [], [], [], [], [], 0⟩ (fun _ => ⟨by kernel_rfl, by kernel_rfl⟩) ?_
  refine sg_ ?_
  refine cr_ (hc := c123 s _ _ (by omega)) (k := ?_)
  refine sg_ ?_
  refine re_ ?_
  refine awp_ret (up_ ?_)
  refine fg_ (h1 := h) Tryz.results104 (hx := (.inl rfl)) (hcl := (by exact ⟨trivial, clL_str _ _, trivial⟩)) (hK := ?_)
  exact ⟨by rw [hsp]; rfl, rfl, rfl⟩

theorem c103 (T : Tab) (k : Nat) (s : List UInt8) (h : List Blk) (live : List Nat) (hk : h[k]? = some (tabBlk T)) (hT : T.Ok) (hs : s.length ≤ 9223372036854775807) : ACalls Tryz.prog 103 [.ptr k 0, .str s] h live (ret (.int .i64 (fitE T s)) h live) := by
  refine ab_ Tryz.func103 (hw := fun hH hX => ?_)
  have sx := sx0
  refine rg_ [0, 1] ?_
  refine sk_ fun K1 hK1 => ?_
  refine awp_block ?_
  refine rg_ [0, 1, 7] ?_
  refine cd_ (ht := fun hb1 => ?_) (hf := fun hb1 => ?_)
  · refine rg_ [4] ?_
    refine awp_ret (up_ ?_)
    refine fp_ Tryz.results103 (hK := ?_)
    exact ⟨by unfold fitE; rw [if_pos hb1], rfl, rfl⟩
  refine rg_ [0, 1, 10] ?_
  refine cd_ (ht := fun hb2 => ?_) (hf := fun hb2 => ?_)
  · refine rg_ [4] ?_
    refine awp_ret (up_ ?_)
    refine fp_ Tryz.results103 (hK := ?_)
    exact ⟨by unfold fitE; rw [if_neg hb1, if_pos hb2], rfl, rfl⟩
  refine rs_ [0, 14] ?_
  refine sg_ ?_
  refine cl_ (hc := c117 s 0 _ _) (k := ?_)
  refine sg_ ?_
  refine re_ ?_
  refine cd_ (ht := fun hb3 => ?_) (hf := fun hb3 => ?_)
  · refine rg_ [4] ?_
    refine awp_ret (up_ ?_)
    refine fp_ Tryz.results103 (hK := ?_)
    exact ⟨by unfold fitE; rw [if_neg hb1, if_neg (by omega), if_pos hb3], rfl, rfl⟩
  refine awp_skip (up_ ?_)
  refine hK1 _ ?_
  refine sk_ fun K2 hK2 => ?_
  refine rs_ [6] ?_
  refine sg_ ?_
  refine cl_ (hc := c18 T k _ _ _ hk hT) (k := ?_)
  refine sg_ ?_
  refine re_ ?_
  refine rg_ [24] ?_
  refine cd_ (ht := fun hb4 => ?_) (hf := fun hb4 => ?_)
  · refine rg_ [4] ?_
    refine awp_ret (up_ ?_)
    refine fp_ Tryz.results103 (hK := ?_)
    exact ⟨by unfold fitE; rw [if_neg hb1, if_neg (by omega), if_neg (by omega), if_pos hb4], rfl, rfl⟩
  refine awp_skip (up_ ?_)
  refine hK2 _ ?_
  refine rg_ [4] ?_
  refine awp_ret (up_ ?_)
  refine fp_ Tryz.results103 (hK := ?_)
  exact ⟨by unfold fitE; rw [if_neg hb1, if_neg (by omega), if_neg (by omega), if_neg (by rw [hb4]; decide)], rfl, rfl⟩

theorem c106 (n : Nd) (s : List UInt8) (h : List Blk) (live : List Nat) (hn : NdOk n) : ACalls Tryz.prog 106 [.agg (ndC n), .str s] h live (ret (.int .i64 (findF n s)) h live) := by
  refine ab_ Tryz.func106 (hw := fun hH hX => ?_)
  have hrg := idxP_range (eqS s) n.ents
  have hn2 := hn.2.1
  have sx := sx0
  refine rg_ [1, 2] ?_
  refine sk_ fun K1 hK1 => ?_
  refine rs_ [2, 5] ?_
  refine sg_ ?_
  refine cl_ (hc := c109 n s _ _ hn) (k := ?_)
  refine sg_ ?_
  refine re_ ?_
  refine rg_ [2, 5, 10] ?_
  refine cd_ (ht := fun hb1 => ?_) (hf := fun hb1 => ?_)
  · have hin : idxP (eqS s) n.ents = ((idxP (eqS s) n.ents).toNat : Nat) := by omega
    have hil : (idxP (eqS s) n.ents).toNat < n.ents.length := by omega
    refine rg_ [4] ?_
    refine awp_ret (up_ ?_)
    refine fp_ Tryz.results106 (hK := ?_)
    exact ⟨by unfold findF; rw [if_pos hb1], rfl, rfl⟩
  refine awp_skip (up_ ?_)
  refine hK1 _ ?_
  refine rg_ [4] ?_
  refine awp_ret (up_ ?_)
  refine fp_ Tryz.results106 (hK := ?_)
  exact ⟨by unfold findF; rw [if_neg (by omega)], rfl, rfl⟩

theorem c105 (s : List UInt8) (l : List (List UInt8)) (q : Cap) (i n : Int) (p1 p2 p3 : Nat) (h : List Blk) (live : List Nat) (hs : s.length ≤ 64) (hl : l.length ≤ 1000) (h1 : h[p1]? = some (.cells [.slice (l.map .str) q])) (h2 : h[p2]? = some (.cells [.int .i64 i])) (h3 : h[p3]? = some (.cells [.int .i64 n])) (hn : 0 ≤ n ∧ n ≤ 1000) (h12 : p1 ≠ p2) (h13 : p1 ≠ p3) (h23 : p2 ≠ p3) : ACalls Tryz.prog 105 [.str s, .ptr p1 0, .ptr p2 0, .ptr p3 0] h live (ret (.tup []) (((h.set p1 (.cells [.slice ((splitL s ++ l).map .str) .none])).set p2 (.cells [.int .i64 (if absF s = true then 1 else i)])).set p3 (.cells [.int .i64 (n + 1)])) live) := by
  refine ab_ Tryz.func105 (hw := fun hH hX => ?_)
  have hl1 := lt_of_get h1
  have hl2 := lt_of_get h2
  have hl3 := lt_of_get h3
  have hsb := splitL_bd hs
  have hg2 : ∀ x : Blk, (h.set p1 x)[p2]? = some (.cells [.int .i64 i]) := fun x => getSet h2 (Ne.symm h12)
  have hg3 : ∀ x : Blk, (h.set p1 x)[p3]? = some (.cells [.int .i64 n]) := fun x => getSet h3 (Ne.symm h13)
  have hg4 : ∀ x y : Blk, ((h.set p1 x).set p2 y)[p3]? = some (.cells [.int .i64 n]) := fun x y => getSet (hg3 x) (Ne.symm h23)
  have hcl : HCl (((h.set p1 (.cells [.slice ((splitL s ++ l).map .str) .none])).set p2 (.cells [.int .i64 (if absF s = true then 1 else i)])).set p3 (.cells [.int .i64 (n + 1)])) := HCl.set (b := .cells [.int .i64 (n + 1)]) (HCl.set (b := .cells [.int .i64 (if absF s = true then 1 else i)]) (HCl.set (b := .cells [.slice ((splitL s ++ l).map .str) .none]) hH p1 ⟨clL_str _ _, trivial⟩) p2 ⟨trivial, trivial⟩) p3 ⟨trivial, trivial⟩
  have her : ∀ q', Blk.cells [.slice ((splitL s ++ l).map .str) .none] = (Blk.cells [.slice ((splitL s).map .str ++ l.map .str) q']).er := fun q' => by show _ = Blk.cells (AV.erL _); simp only [AV.erL, AV.er, map_str_app, erL_str]
  have hse : ∀ x : Blk, (h.set p1 x).set p2 (.cells [.int .i64 i]) = h.set p1 x := fun x => set_self (hg2 x)
  have sx := (And.intro @h1 (And.intro @h2 (And.intro @h3 (And.intro @hg2 (And.intro @hg3 (And.intro @hg4 sx0))))))
  refine rs_ [1, 2, 3, 5, 6] ?_
  refine sg_ ?_
  refine cl_ (hc := c104 s _ _ hs) (k := ?_)
  refine sg_ ?_
  refine re_ ?_
  refine rs_ [2, 3, 5] ?_
  refine sg_ ?_
  refine dawp_w rfl rfl rfl rfl (AOp.append _ _ _ rfl (by (simp (disch := omega) only [push_cast, ↓reduceIte, Nat.reduceEqDiff, Nat.reduceAdd, Nat.reduceLeDiff, sx]) <;> rfl) (by (simp (disch := omega) only [push_cast, ↓reduceIte, Nat.reduceEqDiff, Nat.reduceAdd, Nat.reduceLeDiff, sx]) <;> rfl) (by (simp (disch := omega) only [push_cast, ↓reduceIte, Nat.reduceEqDiff, Nat.reduceAdd, Nat.reduceLeDiff, sx]) <;> rfl) (.inl rfl) (cells_strs' _) (cells_strs' _) (by simp; omega) (by simp; omega) ?_)
  intro c14 live14 hk14
  refine sg_ ?_
  refine re_ ?_
  refine sk_ fun K1 hK1 => ?_
  refine rg_ [2, 3, 15] ?_
  refine cb_ (ht := fun hb1 => ?_) (hf := fun hb1 => ?_)
  · have hab : (if absF s = true then (1 : Int) else i) = 1 := if_pos hb1
    refine rt_ [3] ?_
    refine sg_ ?_
    refine rn_ (up_ ?_)
    refine hK1 _ ?_
    refine rt_ [] ?_
    refine sg_ ?_
    refine rn_ (up_ ?_)
    refine fe_ (h1 := ((h.set p1 (.cells [.slice ((splitL s ++ l).map .str) .none])).set p2 (.cells [.int .i64 (if absF s = true then 1 else i)])).set p3 (.cells [.int .i64 (n + 1)])) Tryz.results105 (hh := ⟨((h.set p1 _).set p2 _).set p3 _, [], by rw [List.append_nil], by rw [hab]; exact BW.setr (BW.setr (BW.set (her _)) _ _) _ _⟩) (hl := (fun u hu => (hk14.2 u hu (fun e => by cases e)).1)) (hH := hcl) (hK := ?_)
    exact ⟨rfl, rfl, rfl⟩
  have hab : (if absF s = true then (1 : Int) else i) = i := if_neg (by rw [hb1]; decide)
  refine awp_skip (up_ ?_)
  refine hK1 _ ?_
  refine rt_ [] ?_
  refine sg_ ?_
  refine rn_ (up_ ?_)
  refine fe_ (h1 := ((h.set p1 (.cells [.slice ((splitL s ++ l).map .str) .none])).set p2 (.cells [.int .i64 (if absF s = true then 1 else i)])).set p3 (.cells [.int .i64 (n + 1)])) Tryz.results105 (hh := ⟨(h.set p1 _).set p3 _, [], by rw [List.append_nil], by rw [hab, hse]; exact BW.setr (BW.set (her _)) _ _⟩) (hl := (fun u hu => (hk14.2 u hu (fun e => by cases e)).1)) (hH := hcl) (hK := ?_)
  exact ⟨rfl, rfl, rfl⟩

end Go.Proofs.YtjoklidphbmpoaaGreat
