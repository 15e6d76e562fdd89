import Derived.Test.YtjoklidphbmpoaaGreatA8
/-
  TABLES: made, added to and changed.
-/
namespace Go.Proofs.YtjoklidphbmpoaaGreat
open Go.Ab
set_option linter.unusedVariables false
set_option linter.unusedSimpArgs false
set_option maxRecDepth 8000
set_option maxHeartbeats 400000


def zRest : List AV := (List.replicate 24 [AV.int .i64 0, .int .i64 0, .int .i64 0, .int .i64 0, .slice [] .full, .slice [] .full, .str []]).flatten
theorem azero_tab : azero Tryz.prog 85 = some (.agg (.int .i64 0 :: zRest)) := by kernel_rfl
theorem tk_tab : tk Tryz.prog 85 = some (.agg 169) := by kernel_rfl
theorem zRest_er : AV.erL zRest = tabC (List.replicate 24 nd0) := by kernel_rfl
theorem zRest_len : zRest.length = 168 := by kernel_rfl
theorem zRest_take : zRest.take 168 = zRest := List.take_of_length_le (by rw [zRest_len]; omega)
def newT (room : Int) : Tab := ⟨min (max room 1) 24, List.replicate 24 nd0⟩
theorem newT_room (room : Int) : min (max room 1) 24 = if 24 < (if room < 1 then 1 else room) then 24 else if room < 1 then 1 else room := by
  by_cases h : room < 1
  · rw [if_pos h, if_neg (by omega)]; omega
  · rw [if_neg h]
    by_cases h2 : 24 < room
    · rw [if_pos h2]; omega
    · rw [if_neg h2]; omega
theorem newT_ok (room : Int) : (newT room).Ok where
  lo := by show 1 ≤ min (max room 1) 24; omega
  hi := by show min (max room 1) 24 ≤ 24; omega
  len := List.length_replicate
  nd := fun n hn => by rw [(List.mem_replicate.1 hn).2]; exact ndOk_0
  zero := fun n hn _ => (List.mem_replicate.1 hn).2
theorem put_ok {T : Tab} (hT : T.Ok) {n : Nd} (hn : NdOk n) (hk : n.kind ≠ 0) (j : Nat) : (T.put j n).Ok where
  lo := hT.lo
  hi := hT.hi
  len := by show (T.ns.set j n).length = 24; rw [List.length_set]; exact hT.len
  nd := fun m hm => by
    rcases List.mem_or_eq_of_mem_set hm with h | h
    · exact hT.nd m h
    · rw [h]; exact hn
  zero := fun m hm h0 => by
    rcases List.mem_or_eq_of_mem_set hm with h | h
    · exact hT.zero m h h0
    · exact absurd (h ▸ h0) hk
/-- The first place where there is no node. -/
def Tab.free (T : Tab) : Option Nat := (List.range T.room.toNat).find? fun i => (T.at ((i : Int) + 1)).isNone
theorem free_at {T : Tab} {i : Nat} (hi : i < T.room.toNat) (h : (T.at ((i : Int) + 1)).isNone = true) (hn : ∀ j, j < i → (T.at ((j : Int) + 1)).isNone = false) : T.free = some i := by
  unfold Tab.free
  rw [List.find?_eq_some_iff_append]
  refine ⟨h, List.range i, (List.range (T.room.toNat - i - 1)).map (i + 1 + ·), ?_, fun a ha => by simp [hn a (List.mem_range.1 ha)]⟩
  refine List.ext_getElem (by simp; omega) fun a h1 h2 => ?_
  simp only [List.length_range] at h1
  rw [List.getElem_range]
  by_cases ha : a < i
  · rw [List.getElem_append_left (by simpa using ha), List.getElem_range]
  · rw [List.getElem_append_right (by simp; omega)]
    simp only [List.length_range]
    rcases Nat.eq_or_lt_of_le (Nat.le_of_not_lt ha) with h | h
    · subst h; simp
    · rw [List.getElem_cons]
      rw [dif_neg (by omega)]
      simp; omega
theorem free_none {T : Tab} (hn : ∀ j, j < T.room.toNat → (T.at ((j : Int) + 1)).isNone = false) : T.free = none := by
  unfold Tab.free
  rw [List.find?_eq_none]
  intro a ha
  simp [hn a (List.mem_range.1 ha)]
/-- A new node's number, and why not; the table behind it. -/
def addT (T : Tab) (n : Nd) : (Int × Int) × Tab :=
  if rightF n = false then ((0, 22), T) else match T.free with
    | some i => (((i : Int) + 1, 0), T.put i n)
    | none => ((0, 28), T)
def putT (T : Tab) (i : Int) (n : Nd) : Int × Tab := match T.at i with
  | none => (2, T)
  | some j => if rightF n = false then (22, T) else (0, T.put j n)
theorem addT_ok {T : Tab} (hT : T.Ok) {n : Nd} (hn : NdOk n) : (addT T n).2.Ok := by
  unfold addT
  split
  · exact hT
  · rename_i h
    split
    · exact put_ok hT hn (rightF_kind (by simpa using h)) _
    · exact hT
theorem putT_ok {T : Tab} (hT : T.Ok) {n : Nd} (hn : NdOk n) (i : Int) : (putT T i n).2.Ok := by
  unfold putT
  split
  · exact hT
  · split
    · exact hT
    · rename_i h
      exact put_ok hT hn (rightF_kind (by simpa using h)) _
theorem hcl_tab {h : List Blk} (hH : HCl h) (k : Nat) (T : Tab) : HCl (h.set k (tabBlk T)) := HCl.set hH k (cl_tab _ _)
theorem hcl_new {h : List Blk} (hH : HCl h) (T : Tab) : HCl (h ++ [tabBlk T]) := HCl.snoc hH (cl_tab _ _)
theorem setApp {h g : List Blk} {k : Nat} {x y : Blk} (hk : h[k]? = some x) : (h ++ g).set k y = h.set k y ++ g := List.set_append_left _ _ (lt_of_get hk)

theorem c57 (room : Int) (h : List Blk) (live : List Nat) : ACalls Tryz.prog 57 [.int .i64 room] h live (ret (.ptr h.length 0) (h ++ [tabBlk (newT room)]) live) := by
  refine ab_ Tryz.func57 (hw := fun hH hX => ?_)
  have sx := (And.intro @azero_tab (And.intro @tk_tab sx0))
  refine rg_ [0] ?_
  refine rg_ [2] ?_
  refine awp_ret (up_ ?_)
  refine fe_ (h1 := h ++ [tabBlk (newT room)]) Tryz.results57 (hh := ⟨h ++ [_], [], (List.append_nil _).symm, BW.app (BW.refl _) (BW.one (by show tabBlk (newT room) = .cells (AV.erL (_ :: zRest)); simp only [AV.erL, AV.er, zRest_er, Bool.false_eq_true, if_false]; exact congrArg (fun z : Int => Blk.cells (.int .i64 z :: tabC (List.replicate 24 nd0))) (newT_room room)))⟩) (hH := (hcl_new hH _)) (hK := ?_)
  exact ⟨rfl, rfl, rfl⟩

theorem c39 (T : Tab) (k : Nat) (n : Nd) (h : List Blk) (live : List Nat) (hk : h[k]? = some (tabBlk T)) (hT : T.Ok) (hn : NdOk n) : ACalls Tryz.prog 39 [.ptr k 0, .agg (ndC n)] h live (ret (.tup [.int .i64 (addT T n).1.1, .int .i64 (addT T n).1.2]) (h.set k (tabBlk (addT T n).2)) live) := by
  refine ab_ Tryz.func39 (hw := fun hH hX => ?_)
  have hkl := lt_of_get hk
  obtain ⟨hlo, hhi, hlen, -, -⟩ := id hT
  have hB : HCl (h ++ [.cells (ndC n)]) := HCl.snoc hH (clL_ndC _ _)
  have hroom : ((T.room.toNat : Nat) : Int) = T.room := by omega
  have sx := (And.intro @hk (And.intro @tab_put sx0))
  refine rs_ [0, 3] ?_
  refine dawp_h rfl (by (simp (disch := omega) only [push_cast, ↓reduceIte, Nat.reduceEqDiff, Nat.reduceAdd, Nat.reduceLeDiff, sx, setApp hk, List.getElem?_append_left hkl]) <;> rfl) rfl rfl ?_
  iterate 2 (refine dawp_p rfl (by (simp (disch := omega) only [push_cast, ↓reduceIte, Nat.reduceEqDiff, Nat.reduceAdd, Nat.reduceLeDiff, sx, setApp hk, List.getElem?_append_left hkl]) <;> rfl) rfl rfl ?_)
  refine re_ (hf := by (simp (disch := omega) only [push_cast, ↓reduceIte, Nat.reduceEqDiff, Nat.reduceAdd, Nat.reduceLeDiff, sx, setApp hk, List.getElem?_append_left hkl]) <;> rfl) (hh := by (try simp (disch := omega) only [push_cast, ↓reduceIte, Nat.reduceEqDiff, Nat.reduceAdd, Nat.reduceLeDiff, sx, setApp hk, List.getElem?_append_left hkl]) <;> rfl) ?_
  refine sk_ fun K1 hK1 => ?_
  refine rs_ [0, 3, 9] ?_
  refine dawp_h rfl (by (simp (disch := omega) only [push_cast, ↓reduceIte, Nat.reduceEqDiff, Nat.reduceAdd, Nat.reduceLeDiff, sx, setApp hk, List.getElem?_append_left hkl]) <;> rfl) rfl rfl ?_
  refine dawp_w rfl rfl rfl rfl (AOp.callx _ _ _ rfl (by (simp (disch := omega) only [push_cast, ↓reduceIte, Nat.reduceEqDiff, Nat.reduceAdd, Nat.reduceLeDiff, sx, setApp hk, List.getElem?_append_left hkl]) <;> rfl) (by (simp (disch := omega) only [push_cast, ↓reduceIte, Nat.reduceEqDiff, Nat.reduceAdd, Nat.reduceLeDiff, sx, setApp hk, List.getElem?_append_left hkl]) <;> rfl) ?_)
  refine (c67 n _ _ hn).mono ?_; rintro _ _ _ ⟨rfl, rfl, rfl⟩
  refine dawp_p rfl (by (simp (disch := omega) only [push_cast, ↓reduceIte, Nat.reduceEqDiff, Nat.reduceAdd, Nat.reduceLeDiff, sx, setApp hk, List.getElem?_append_left hkl]) <;> rfl) rfl rfl ?_
  refine re_ (hf := by (simp (disch := omega) only [push_cast, ↓reduceIte, Nat.reduceEqDiff, Nat.reduceAdd, Nat.reduceLeDiff, sx, setApp hk, List.getElem?_append_left hkl]) <;> rfl) (hh := by (try simp (disch := omega) only [push_cast, ↓reduceIte, Nat.reduceEqDiff, Nat.reduceAdd, Nat.reduceLeDiff, sx, setApp hk, List.getElem?_append_left hkl]) <;> rfl) ?_
  refine cb_ (hb := by (simp (disch := omega) only [push_cast, ↓reduceIte, Nat.reduceEqDiff, Nat.reduceAdd, Nat.reduceLeDiff, sx, setApp hk, List.getElem?_append_left hkl]) <;> rfl) (ht := fun hb1 => ?_) (hf := fun hb1 => ?_)
  · refine rs_ [4, 5] ?_
    iterate 2 (refine dawp_p rfl (by (simp (disch := omega) only [push_cast, ↓reduceIte, Nat.reduceEqDiff, Nat.reduceAdd, Nat.reduceLeDiff, sx, setApp hk, List.getElem?_append_left hkl]) <;> rfl) rfl rfl ?_)
    refine re_ (hf := by (simp (disch := omega) only [push_cast, ↓reduceIte, Nat.reduceEqDiff, Nat.reduceAdd, Nat.reduceLeDiff, sx, setApp hk, List.getElem?_append_left hkl]) <;> rfl) (hh := by (try simp (disch := omega) only [push_cast, ↓reduceIte, Nat.reduceEqDiff, Nat.reduceAdd, Nat.reduceLeDiff, sx, setApp hk, List.getElem?_append_left hkl]) <;> rfl) ?_
    refine awp_ret (up_ ?_)
    refine fg_ (h1 := h.set k (tabBlk T)) (hres := by (simp (disch := omega) only [aresults, aresult, push_cast, ↓reduceIte, Nat.reduceEqDiff, Nat.reduceAdd, Nat.reduceLeDiff, sx, setApp hk, List.getElem?_append_left hkl]) <;> rfl) Tryz.results39 (hh := (by rw [set_self hk]; exact ⟨_, rfl⟩)) (hH := (hcl_tab hH _ _)) (hK := ?_)
    exact ⟨by unfold addT; rw [if_pos (by simpa using hb1)], by unfold addT; rw [if_pos (by simpa using hb1)], rfl⟩
  refine awp_skip (up_ ?_)
  refine hK1 _ ?_
  refine sk_ fun K2 hK2 => ?_
  refine rs_ [0, 3, 11, 12] ?_
  refine dawp_p rfl (by (simp (disch := omega) only [push_cast, ↓reduceIte, Nat.reduceEqDiff, Nat.reduceAdd, Nat.reduceLeDiff, sx, setApp hk, List.getElem?_append_left hkl]) <;> rfl) rfl rfl ?_
  refine dawp_w rfl rfl rfl rfl (AOp.callx _ _ _ rfl (by (simp (disch := omega) only [push_cast, ↓reduceIte, Nat.reduceEqDiff, Nat.reduceAdd, Nat.reduceLeDiff, sx, setApp hk, List.getElem?_append_left hkl]) <;> rfl) (by (simp (disch := omega) only [push_cast, ↓reduceIte, Nat.reduceEqDiff, Nat.reduceAdd, Nat.reduceLeDiff, sx, setApp hk, List.getElem?_append_left hkl]) <;> rfl) ?_)
  refine (c23 T k _ _ (atApp hk)).mono ?_; rintro _ _ _ ⟨rfl, rfl, rfl⟩
  refine dawp_p rfl (by (simp (disch := omega) only [push_cast, ↓reduceIte, Nat.reduceEqDiff, Nat.reduceAdd, Nat.reduceLeDiff, sx, setApp hk, List.getElem?_append_left hkl]) <;> rfl) rfl rfl ?_
  refine re_ (hf := by (simp (disch := omega) only [push_cast, ↓reduceIte, Nat.reduceEqDiff, Nat.reduceAdd, Nat.reduceLeDiff, sx, setApp hk, List.getElem?_append_left hkl]) <;> rfl) (hh := by (try simp (disch := omega) only [push_cast, ↓reduceIte, Nat.reduceEqDiff, Nat.reduceAdd, Nat.reduceLeDiff, sx, setApp hk, List.getElem?_append_left hkl]) <;> rfl) ?_
  refine awp_block ?_
  refine awp_loop' (X := {i : Nat // i ≤ T.room.toNat ∧ ∀ j, j < i → (T.at ((j : Int) + 1)).isNone = false}) (fun x => ⟨Tryz.f39.ntmps, fget [(0, .ptr k 0), (3, .ptr h.length 0), (11, .int .i64 T.room), (12, .int .i64 (x.1 : Nat))], h ++ [.cells (ndC n)], live⟩) (fun x => T.room.toNat - x.1) (⟨0, by omega, fun j hj => by omega⟩) ?_ (by first | rfl | simp only [List.length_set]) (fun ⟨i, hi, hno⟩ => ?_)
  · try dsimp only
    refine Trunc.of (by first | exact (List.append_nil _).symm | exact rfl | (rw [List.append_assoc]; rfl)) ?_ hB (fun _ h => h)
    refine FTr.cons (by first | rfl | ((simp (disch := omega) only [push_cast, ↓reduceIte, Nat.reduceEqDiff, Nat.reduceAdd, Nat.reduceLeDiff, sx, setApp hk, List.getElem?_append_left hkl]) <;> rfl)) (by simp [AV.cl, AV.clL]; try omega) ?_
    refine FTr.cons (by first | rfl | ((simp (disch := omega) only [push_cast, ↓reduceIte, Nat.reduceEqDiff, Nat.reduceAdd, Nat.reduceLeDiff, sx, setApp hk, List.getElem?_append_left hkl]) <;> rfl)) (by simp [AV.cl, AV.clL]; try omega) ?_
    refine FTr.cons (by first | rfl | ((simp (disch := omega) only [push_cast, ↓reduceIte, Nat.reduceEqDiff, Nat.reduceAdd, Nat.reduceLeDiff, sx, setApp hk, List.getElem?_append_left hkl]) <;> rfl)) (by simp [AV.cl, AV.clL]; try omega) ?_
    refine FTr.cons (by first | rfl | ((simp (disch := omega) only [push_cast, ↓reduceIte, Nat.reduceEqDiff, Nat.reduceAdd, Nat.reduceLeDiff, sx, setApp hk, List.getElem?_append_left hkl]) <;> rfl)) (by simp [AV.cl, AV.clL]; try omega) ?_
    exact FTr.nil
  try dsimp only
  refine rs_ [0, 3, 11, 12, 13] ?_
  refine dawp_p rfl (by (simp (disch := omega) only [push_cast, ↓reduceIte, Nat.reduceEqDiff, Nat.reduceAdd, Nat.reduceLeDiff, sx, setApp hk, List.getElem?_append_left hkl]) <;> rfl) rfl rfl ?_
  refine re_ (hf := by (simp (disch := omega) only [push_cast, ↓reduceIte, Nat.reduceEqDiff, Nat.reduceAdd, Nat.reduceLeDiff, sx, setApp hk, List.getElem?_append_left hkl]) <;> rfl) (hh := by (try simp (disch := omega) only [push_cast, ↓reduceIte, Nat.reduceEqDiff, Nat.reduceAdd, Nat.reduceLeDiff, sx, setApp hk, List.getElem?_append_left hkl]) <;> rfl) ?_
  refine sk_ fun K3 hK3 => ?_
  refine cd_ (hb := by (simp (disch := omega) only [push_cast, ↓reduceIte, Nat.reduceEqDiff, Nat.reduceAdd, Nat.reduceLeDiff, sx, setApp hk, List.getElem?_append_left hkl]) <;> rfl) (ht := fun hb2 => ?_) (hf := fun hb2 => ?_)
  rotate_left
  · have hfr : T.free = none := free_none fun j hj => hno j (by omega)
    refine awp_exit (up_ ?_)
    refine hK2 _ ?_
    refine rs_ [4, 5] ?_
    iterate 2 (refine dawp_p rfl (by (simp (disch := omega) only [push_cast, ↓reduceIte, Nat.reduceEqDiff, Nat.reduceAdd, Nat.reduceLeDiff, sx, setApp hk, List.getElem?_append_left hkl]) <;> rfl) rfl rfl ?_)
    refine re_ (hf := by (simp (disch := omega) only [push_cast, ↓reduceIte, Nat.reduceEqDiff, Nat.reduceAdd, Nat.reduceLeDiff, sx, setApp hk, List.getElem?_append_left hkl]) <;> rfl) (hh := by (try simp (disch := omega) only [push_cast, ↓reduceIte, Nat.reduceEqDiff, Nat.reduceAdd, Nat.reduceLeDiff, sx, setApp hk, List.getElem?_append_left hkl]) <;> rfl) ?_
    refine awp_ret (up_ ?_)
    refine fg_ (h1 := h.set k (tabBlk T)) (hres := by (simp (disch := omega) only [aresults, aresult, push_cast, ↓reduceIte, Nat.reduceEqDiff, Nat.reduceAdd, Nat.reduceLeDiff, sx, setApp hk, List.getElem?_append_left hkl]) <;> rfl) Tryz.results39 (hh := (by rw [set_self hk]; exact ⟨_, rfl⟩)) (hH := (hcl_tab hH _ _)) (hK := ?_)
    exact ⟨by unfold addT; rw [if_neg (by simpa using hb1), hfr], by unfold addT; rw [if_neg (by simpa using hb1), hfr], rfl⟩
  have hil : i < T.room.toNat := by omega
  have hil24 : i < 24 := by omega
  refine awp_skip (up_ ?_)
  refine hK3 _ ?_
  refine sk_ fun K4 hK4 => ?_
  refine awp_block ?_
  refine rs_ [0, 3, 6, 11, 12] ?_
  iterate 2 (refine dawp_p rfl (by (simp (disch := omega) only [push_cast, ↓reduceIte, Nat.reduceEqDiff, Nat.reduceAdd, Nat.reduceLeDiff, sx, setApp hk, List.getElem?_append_left hkl]) <;> rfl) rfl rfl ?_)
  refine re_ (hf := by (simp (disch := omega) only [push_cast, ↓reduceIte, Nat.reduceEqDiff, Nat.reduceAdd, Nat.reduceLeDiff, sx, setApp hk, List.getElem?_append_left hkl]) <;> rfl) (hh := by (try simp (disch := omega) only [push_cast, ↓reduceIte, Nat.reduceEqDiff, Nat.reduceAdd, Nat.reduceLeDiff, sx, setApp hk, List.getElem?_append_left hkl]) <;> rfl) ?_
  refine rs_ [0, 3, 6, 11, 12, 19] ?_
  iterate 3 (refine dawp_p rfl (by (simp (disch := omega) only [push_cast, ↓reduceIte, Nat.reduceEqDiff, Nat.reduceAdd, Nat.reduceLeDiff, sx, setApp hk, List.getElem?_append_left hkl]) <;> rfl) rfl rfl ?_)
  refine dawp_w rfl rfl rfl rfl (AOp.callx _ _ _ rfl (by (simp (disch := omega) only [push_cast, ↓reduceIte, Nat.reduceEqDiff, Nat.reduceAdd, Nat.reduceLeDiff, sx, setApp hk, List.getElem?_append_left hkl]) <;> rfl) (by (simp (disch := omega) only [push_cast, ↓reduceIte, Nat.reduceEqDiff, Nat.reduceAdd, Nat.reduceLeDiff, sx, setApp hk, List.getElem?_append_left hkl]) <;> rfl) ?_)
  refine (c51 T k _ _ _ (atApp hk) hT).mono ?_; rintro _ _ _ ⟨rfl, rfl, rfl⟩
  refine dawp_p rfl (np_eql k (T.at ((i : Int) + 1)) _) rfl rfl ?_
  refine re_ (hf := by (simp (disch := omega) only [push_cast, ↓reduceIte, Nat.reduceEqDiff, Nat.reduceAdd, Nat.reduceLeDiff, sx, setApp hk, List.getElem?_append_left hkl]) <;> rfl) (hh := by (try simp (disch := omega) only [push_cast, ↓reduceIte, Nat.reduceEqDiff, Nat.reduceAdd, Nat.reduceLeDiff, sx, setApp hk, List.getElem?_append_left hkl]) <;> rfl) ?_
  refine cb_ (hb := by (simp (disch := omega) only [push_cast, ↓reduceIte, Nat.reduceEqDiff, Nat.reduceAdd, Nat.reduceLeDiff, sx, setApp hk, List.getElem?_append_left hkl]) <;> rfl) (ht := fun hb3 => ?_) (hf := fun hb3 => ?_)
  · have hfr := free_at hil hb3 hno
    refine rsq_ [6] ⟨true, [], [], [], [], [], 0⟩ (fun _ => ⟨by kernel_rfl, by kernel_rfl⟩) ?_
    iterate 2 (refine dawp_p rfl (by (simp (disch := omega) only [push_cast, ↓reduceIte, Nat.reduceEqDiff, Nat.reduceAdd, Nat.reduceLeDiff, sx, setApp hk, List.getElem?_append_left hkl]) <;> rfl) rfl rfl ?_)
    refine dawp_h rfl (by (simp (disch := omega) only [push_cast, ↓reduceIte, Nat.reduceEqDiff, Nat.reduceAdd, Nat.reduceLeDiff, sx, setApp hk, List.getElem?_append_left hkl]) <;> rfl) rfl rfl ?_
    refine dawp_r rfl rfl rfl rfl (AOp.callx _ _ _ rfl (by (simp (disch := omega) only [push_cast, ↓reduceIte, Nat.reduceEqDiff, Nat.reduceAdd, Nat.reduceLeDiff, sx, setApp hk, List.getElem?_append_left hkl]) <;> rfl) (by (simp (disch := omega) only [push_cast, ↓reduceIte, Nat.reduceEqDiff, Nat.reduceAdd, Nat.reduceLeDiff, sx, setApp hk, List.getElem?_append_left hkl]) <;> rfl) (c37 n _ _ hn)) ?_
    iterate 3 (refine dawp_p rfl (by (simp (disch := omega) only [push_cast, ↓reduceIte, Nat.reduceEqDiff, Nat.reduceAdd, Nat.reduceLeDiff, sx, setApp hk, List.getElem?_append_left hkl]) <;> rfl) rfl rfl ?_)
    refine dawp_hn rfl (by (simp (disch := omega) only [push_cast, ↓reduceIte, Nat.reduceEqDiff, Nat.reduceAdd, Nat.reduceLeDiff, sx, setApp hk, List.getElem?_append_left hkl]) <;> rfl) rfl ?_
    refine re_ (hf := by (simp (disch := omega) only [push_cast, ↓reduceIte, Nat.reduceEqDiff, Nat.reduceAdd, Nat.reduceLeDiff, sx, setApp hk, List.getElem?_append_left hkl]) <;> rfl) (hh := by (try simp (disch := omega) only [push_cast, ↓reduceIte, Nat.reduceEqDiff, Nat.reduceAdd, Nat.reduceLeDiff, sx, setApp hk, List.getElem?_append_left hkl]) <;> rfl) ?_
    refine rs_ [4, 5] ?_
    iterate 4 (refine dawp_p rfl (by (simp (disch := omega) only [push_cast, ↓reduceIte, Nat.reduceEqDiff, Nat.reduceAdd, Nat.reduceLeDiff, sx, setApp hk, List.getElem?_append_left hkl]) <;> rfl) rfl rfl ?_)
    refine re_ (hf := by (simp (disch := omega) only [push_cast, ↓reduceIte, Nat.reduceEqDiff, Nat.reduceAdd, Nat.reduceLeDiff, sx, setApp hk, List.getElem?_append_left hkl]) <;> rfl) (hh := by (try simp (disch := omega) only [push_cast, ↓reduceIte, Nat.reduceEqDiff, Nat.reduceAdd, Nat.reduceLeDiff, sx, setApp hk, List.getElem?_append_left hkl]) <;> rfl) ?_
    refine awp_ret (up_ ?_)
    refine fg_ (h1 := h.set k (tabBlk (T.put i n))) (hres := by (simp (disch := omega) only [aresults, aresult, push_cast, ↓reduceIte, Nat.reduceEqDiff, Nat.reduceAdd, Nat.reduceLeDiff, sx, setApp hk, List.getElem?_append_left hkl]) <;> rfl) Tryz.results39 (hh := (⟨_, rfl⟩)) (hH := (hcl_tab hH _ _)) (hK := ?_)
    exact ⟨by unfold addT; rw [if_neg (by simpa using hb1), hfr], by unfold addT; rw [if_neg (by simpa using hb1), hfr], rfl⟩
  refine awp_skip (up_ ?_)
  refine hK4 _ ?_
  refine rt_ [0, 3, 11, 12] ?_
  iterate 2 (refine dawp_p rfl (by (simp (disch := omega) only [push_cast, ↓reduceIte, Nat.reduceEqDiff, Nat.reduceAdd, Nat.reduceLeDiff, sx, setApp hk, List.getElem?_append_left hkl]) <;> rfl) rfl rfl ?_)
  refine rn_ (hf := by (simp (disch := omega) only [push_cast, ↓reduceIte, Nat.reduceEqDiff, Nat.reduceAdd, Nat.reduceLeDiff, sx, setApp hk, List.getElem?_append_left hkl]) <;> rfl) (hh := by (try simp (disch := omega) only [push_cast, ↓reduceIte, Nat.reduceEqDiff, Nat.reduceAdd, Nat.reduceLeDiff, sx, setApp hk, List.getElem?_append_left hkl]) <;> rfl) (up_ ?_)
  refine ⟨⟨i + 1, by omega, fun j hj => by rcases Nat.lt_succ_iff_lt_or_eq.1 hj with h | h; exact hno j h; subst h; exact hb3⟩, ?_, (by first | rfl | trivial | (simp only [List.length_set]; done) | simp), by dsimp only; omega⟩
  try dsimp only
  refine Trunc.of (by first | exact (List.append_nil _).symm | exact rfl | (rw [List.append_assoc]; rfl)) ?_ hB (fun _ h => h)
  refine FTr.cons (by (simp (disch := omega) only [push_cast, ↓reduceIte, Nat.reduceEqDiff, Nat.reduceAdd, Nat.reduceLeDiff, sx, setApp hk, List.getElem?_append_left hkl]) <;> first | rfl | (congr 2; omega)) (by simp [AV.cl, AV.clL]; try omega) ?_
  refine FTr.cons (by (simp (disch := omega) only [push_cast, ↓reduceIte, Nat.reduceEqDiff, Nat.reduceAdd, Nat.reduceLeDiff, sx, setApp hk, List.getElem?_append_left hkl]) <;> first | rfl | (congr 2; omega)) (by simp [AV.cl, AV.clL]; try omega) ?_
  refine FTr.cons (by (simp (disch := omega) only [push_cast, ↓reduceIte, Nat.reduceEqDiff, Nat.reduceAdd, Nat.reduceLeDiff, sx, setApp hk, List.getElem?_append_left hkl]) <;> first | rfl | (congr 2; omega)) (by simp [AV.cl, AV.clL]; try omega) ?_
  refine FTr.cons (by (simp (disch := omega) only [push_cast, ↓reduceIte, Nat.reduceEqDiff, Nat.reduceAdd, Nat.reduceLeDiff, sx, setApp hk, List.getElem?_append_left hkl]) <;> first | rfl | (congr 2; omega)) (by simp [AV.cl, AV.clL]; try omega) ?_
  exact FTr.nil

theorem pn38 (T : Tab) (k : Nat) (i : Int) (n : Nd) (h : List Blk) (live : List Nat) (hk : h[k]? = some (tabBlk T)) (hT : T.Ok) (hn : NdOk n) (ha : T.at i = none) : ACalls Tryz.prog 38 [.ptr k 0, .int .i64 i, .agg (ndC n)] h live (ret (.int .i64 2) h live) := by
  refine ab_ Tryz.func38 (hw := fun hH hX => ?_)
  have sx := (And.intro @ha sx0)
  refine rg_ [0, 1, 5] ?_
  refine rs_ [5, 7] ?_
  refine sg_ ?_
  refine cl_ (hc := c51 T k i _ _ (atApp hk) hT) (k := ?_)
  refine sg_ ?_
  refine re_ ?_
  refine sk_ fun K1 hK1 => ?_
  refine rg_ [5, 7, 12] ?_
  refine cdy_ (ht := fun hb1 => ?_) (hf := fun hb1 => ?_)
  · refine rg_ [6] ?_
    refine awp_ret (up_ ?_)
    refine fp_ Tryz.results38 (hK := ?_)
    exact ⟨rfl, rfl, rfl⟩
  exfalso; exact Bool.noConfusion hb1

theorem ps38 (T : Tab) (k : Nat) (i : Int) (n : Nd) (h : List Blk) (live : List Nat) (hk : h[k]? = some (tabBlk T)) (hT : T.Ok) (hn : NdOk n) (j : Nat) (ha : T.at i = some j) : ACalls Tryz.prog 38 [.ptr k 0, .int .i64 i, .agg (ndC n)] h live (ret (.int .i64 (if rightF n = false then 22 else 0)) (h.set k (tabBlk (if rightF n = false then T else T.put j n))) live) := by
  refine ab_ Tryz.func38 (hw := fun hH hX => ?_)
  have hkl := lt_of_get hk
  obtain ⟨hj, hij, hir, hkd⟩ := at_some hT ha
  have sx := (And.intro @ha (And.intro @hk (And.intro @tab_put sx0)))
  refine rs_ [0, 1, 5] ?_
  refine dawp_h rfl (by (simp (disch := omega) only [push_cast, ↓reduceIte, Nat.reduceEqDiff, Nat.reduceAdd, Nat.reduceLeDiff, sx, setApp hk, List.getElem?_append_left hkl]) <;> rfl) rfl rfl ?_
  refine dawp_p rfl (by (simp (disch := omega) only [push_cast, ↓reduceIte, Nat.reduceEqDiff, Nat.reduceAdd, Nat.reduceLeDiff, sx, setApp hk, List.getElem?_append_left hkl]) <;> rfl) rfl rfl ?_
  refine re_ (hf := by (simp (disch := omega) only [push_cast, ↓reduceIte, Nat.reduceEqDiff, Nat.reduceAdd, Nat.reduceLeDiff, sx, setApp hk, List.getElem?_append_left hkl]) <;> rfl) (hh := by (try simp (disch := omega) only [push_cast, ↓reduceIte, Nat.reduceEqDiff, Nat.reduceAdd, Nat.reduceLeDiff, sx, setApp hk, List.getElem?_append_left hkl]) <;> rfl) ?_
  refine rs_ [5, 7] ?_
  iterate 2 (refine dawp_p rfl (by (simp (disch := omega) only [push_cast, ↓reduceIte, Nat.reduceEqDiff, Nat.reduceAdd, Nat.reduceLeDiff, sx, setApp hk, List.getElem?_append_left hkl]) <;> rfl) rfl rfl ?_)
  refine dawp_w rfl rfl rfl rfl (AOp.callx _ _ _ rfl (by (simp (disch := omega) only [push_cast, ↓reduceIte, Nat.reduceEqDiff, Nat.reduceAdd, Nat.reduceLeDiff, sx, setApp hk, List.getElem?_append_left hkl]) <;> rfl) (by (simp (disch := omega) only [push_cast, ↓reduceIte, Nat.reduceEqDiff, Nat.reduceAdd, Nat.reduceLeDiff, sx, setApp hk, List.getElem?_append_left hkl]) <;> rfl) ?_)
  refine (c51 T k i _ _ (atApp hk) hT).mono ?_; rintro _ _ _ ⟨rfl, rfl, rfl⟩
  refine dawp_p rfl (by (simp (disch := omega) only [push_cast, ↓reduceIte, Nat.reduceEqDiff, Nat.reduceAdd, Nat.reduceLeDiff, sx, setApp hk, List.getElem?_append_left hkl]) <;> rfl) rfl rfl ?_
  refine re_ (hf := by (simp (disch := omega) only [push_cast, ↓reduceIte, Nat.reduceEqDiff, Nat.reduceAdd, Nat.reduceLeDiff, sx, setApp hk, List.getElem?_append_left hkl]) <;> rfl) (hh := by (try simp (disch := omega) only [push_cast, ↓reduceIte, Nat.reduceEqDiff, Nat.reduceAdd, Nat.reduceLeDiff, sx, setApp hk, List.getElem?_append_left hkl]) <;> rfl) ?_
  refine sk_ fun K1 hK1 => ?_
  refine rs_ [5, 7, 12] ?_
  iterate 2 (refine dawp_p rfl (by (simp (disch := omega) only [push_cast, ↓reduceIte, Nat.reduceEqDiff, Nat.reduceAdd, Nat.reduceLeDiff, sx, setApp hk, List.getElem?_append_left hkl]) <;> rfl) rfl rfl ?_)
  refine re_ (hf := by (simp (disch := omega) only [push_cast, ↓reduceIte, Nat.reduceEqDiff, Nat.reduceAdd, Nat.reduceLeDiff, sx, setApp hk, List.getElem?_append_left hkl]) <;> rfl) (hh := by (try simp (disch := omega) only [push_cast, ↓reduceIte, Nat.reduceEqDiff, Nat.reduceAdd, Nat.reduceLeDiff, sx, setApp hk, List.getElem?_append_left hkl]) <;> rfl) ?_
  refine cdn_ (hb := by (simp (disch := omega) only [push_cast, ↓reduceIte, Nat.reduceEqDiff, Nat.reduceAdd, Nat.reduceLeDiff, sx, setApp hk, List.getElem?_append_left hkl]) <;> rfl) (ht := fun hb1 => ?_) (hf := fun hb1 => ?_)
  · exfalso; exact Bool.noConfusion hb1
  refine awp_skip (up_ ?_)
  refine hK1 _ ?_
  refine sk_ fun K2 hK2 => ?_
  refine rs_ [5, 7, 15] ?_
  refine dawp_h rfl (by (simp (disch := omega) only [push_cast, ↓reduceIte, Nat.reduceEqDiff, Nat.reduceAdd, Nat.reduceLeDiff, sx, setApp hk, List.getElem?_append_left hkl]) <;> rfl) rfl rfl ?_
  refine dawp_w rfl rfl rfl rfl (AOp.callx _ _ _ rfl (by (simp (disch := omega) only [push_cast, ↓reduceIte, Nat.reduceEqDiff, Nat.reduceAdd, Nat.reduceLeDiff, sx, setApp hk, List.getElem?_append_left hkl]) <;> rfl) (by (simp (disch := omega) only [push_cast, ↓reduceIte, Nat.reduceEqDiff, Nat.reduceAdd, Nat.reduceLeDiff, sx, setApp hk, List.getElem?_append_left hkl]) <;> rfl) ?_)
  refine (c67 n _ _ hn).mono ?_; rintro _ _ _ ⟨rfl, rfl, rfl⟩
  refine dawp_p rfl (by (simp (disch := omega) only [push_cast, ↓reduceIte, Nat.reduceEqDiff, Nat.reduceAdd, Nat.reduceLeDiff, sx, setApp hk, List.getElem?_append_left hkl]) <;> rfl) rfl rfl ?_
  refine re_ (hf := by (simp (disch := omega) only [push_cast, ↓reduceIte, Nat.reduceEqDiff, Nat.reduceAdd, Nat.reduceLeDiff, sx, setApp hk, List.getElem?_append_left hkl]) <;> rfl) (hh := by (try simp (disch := omega) only [push_cast, ↓reduceIte, Nat.reduceEqDiff, Nat.reduceAdd, Nat.reduceLeDiff, sx, setApp hk, List.getElem?_append_left hkl]) <;> rfl) ?_
  refine cb_ (hb := by (simp (disch := omega) only [push_cast, ↓reduceIte, Nat.reduceEqDiff, Nat.reduceAdd, Nat.reduceLeDiff, sx, setApp hk, List.getElem?_append_left hkl]) <;> rfl) (ht := fun hb2 => ?_) (hf := fun hb2 => ?_)
  · refine rs_ [6] ?_
    refine dawp_p rfl (by (simp (disch := omega) only [push_cast, ↓reduceIte, Nat.reduceEqDiff, Nat.reduceAdd, Nat.reduceLeDiff, sx, setApp hk, List.getElem?_append_left hkl]) <;> rfl) rfl rfl ?_
    refine re_ (hf := by (simp (disch := omega) only [push_cast, ↓reduceIte, Nat.reduceEqDiff, Nat.reduceAdd, Nat.reduceLeDiff, sx, setApp hk, List.getElem?_append_left hkl]) <;> rfl) (hh := by (try simp (disch := omega) only [push_cast, ↓reduceIte, Nat.reduceEqDiff, Nat.reduceAdd, Nat.reduceLeDiff, sx, setApp hk, List.getElem?_append_left hkl]) <;> rfl) ?_
    refine awp_ret (up_ ?_)
    refine fg_ (h1 := h.set k (tabBlk T)) (hres := by (simp (disch := omega) only [aresults, aresult, push_cast, ↓reduceIte, Nat.reduceEqDiff, Nat.reduceAdd, Nat.reduceLeDiff, sx, setApp hk, List.getElem?_append_left hkl]) <;> rfl) Tryz.results38 (hh := (by rw [set_self hk]; exact ⟨_, rfl⟩)) (hH := (hcl_tab hH _ _)) (hK := ?_)
    exact ⟨by rw [if_pos (by simpa using hb2)], by rw [if_pos (by simpa using hb2)], rfl⟩
  refine awp_skip (up_ ?_)
  refine hK2 _ ?_
  refine rsq_ [] ⟨true, [], [], [], [], [], 0⟩ (fun h => nomatch h) ?_
  refine dawp_p rfl (by (simp (disch := omega) only [push_cast, ↓reduceIte, Nat.reduceEqDiff, Nat.reduceAdd, Nat.reduceLeDiff, sx, setApp hk, List.getElem?_append_left hkl]) <;> rfl) rfl rfl ?_
  refine dawp_h rfl (by (simp (disch := omega) only [push_cast, ↓reduceIte, Nat.reduceEqDiff, Nat.reduceAdd, Nat.reduceLeDiff, sx, setApp hk, List.getElem?_append_left hkl]) <;> rfl) rfl rfl ?_
  refine dawp_r rfl rfl rfl rfl (AOp.callx _ _ _ rfl (by (simp (disch := omega) only [push_cast, ↓reduceIte, Nat.reduceEqDiff, Nat.reduceAdd, Nat.reduceLeDiff, sx, setApp hk, List.getElem?_append_left hkl]) <;> rfl) (by (simp (disch := omega) only [push_cast, ↓reduceIte, Nat.reduceEqDiff, Nat.reduceAdd, Nat.reduceLeDiff, sx, setApp hk, List.getElem?_append_left hkl]) <;> rfl) (c37 n _ _ hn)) ?_
  refine dawp_p rfl (by (simp (disch := omega) only [push_cast, ↓reduceIte, Nat.reduceEqDiff, Nat.reduceAdd, Nat.reduceLeDiff, sx, setApp hk, List.getElem?_append_left hkl]) <;> rfl) rfl rfl ?_
  refine dawp_hn rfl (by (simp (disch := omega) only [push_cast, ↓reduceIte, Nat.reduceEqDiff, Nat.reduceAdd, Nat.reduceLeDiff, sx, setApp hk, List.getElem?_append_left hkl]) <;> rfl) rfl ?_
  refine re_ (hf := by (simp (disch := omega) only [push_cast, ↓reduceIte, Nat.reduceEqDiff, Nat.reduceAdd, Nat.reduceLeDiff, sx, setApp hk, List.getElem?_append_left hkl]) <;> rfl) (hh := by (try simp (disch := omega) only [push_cast, ↓reduceIte, Nat.reduceEqDiff, Nat.reduceAdd, Nat.reduceLeDiff, sx, setApp hk, List.getElem?_append_left hkl]) <;> rfl) ?_
  refine rs_ [6] ?_
  refine dawp_p rfl (by (simp (disch := omega) only [push_cast, ↓reduceIte, Nat.reduceEqDiff, Nat.reduceAdd, Nat.reduceLeDiff, sx, setApp hk, List.getElem?_append_left hkl]) <;> rfl) rfl rfl ?_
  refine re_ (hf := by (simp (disch := omega) only [push_cast, ↓reduceIte, Nat.reduceEqDiff, Nat.reduceAdd, Nat.reduceLeDiff, sx, setApp hk, List.getElem?_append_left hkl]) <;> rfl) (hh := by (try simp (disch := omega) only [push_cast, ↓reduceIte, Nat.reduceEqDiff, Nat.reduceAdd, Nat.reduceLeDiff, sx, setApp hk, List.getElem?_append_left hkl]) <;> rfl) ?_
  refine awp_ret (up_ ?_)
  refine fg_ (h1 := h.set k (tabBlk (T.put j n))) (hres := by (simp (disch := omega) only [aresults, aresult, push_cast, ↓reduceIte, Nat.reduceEqDiff, Nat.reduceAdd, Nat.reduceLeDiff, sx, setApp hk, List.getElem?_append_left hkl]) <;> rfl) Tryz.results38 (hh := (⟨_, rfl⟩)) (hH := (hcl_tab hH _ _)) (hK := ?_)
  exact ⟨by rw [if_neg (by simpa using hb2)], by rw [if_neg (by simpa using hb2)], rfl⟩

set_option maxRecDepth 8000 in
theorem c38 (T : Tab) (k : Nat) (i : Int) (n : Nd) (h : List Blk) (live : List Nat) (hk : h[k]? = some (tabBlk T)) (hT : T.Ok) (hn : NdOk n) : ACalls Tryz.prog 38 [.ptr k 0, .int .i64 i, .agg (ndC n)] h live (ret (.int .i64 (putT T i n).1) (h.set k (tabBlk (putT T i n).2)) live) := by
  unfold putT
  rcases ha : T.at i with _ | j
  · have := pn38 T k i n h live hk hT hn ha
    simp only [set_self hk]; exact this
  · have := ps38 T k i n h live hk hT hn j ha
    by_cases hr : rightF n = false
    · simp only [if_pos hr] at this ⊢; exact this
    · simp only [if_neg hr] at this ⊢; exact this


/-- What is told of a node. -/
structure Rw where
  kind : Int
  mode : Int
  uid : Int
  gid : Int
  parent : Int
  name : List UInt8
  data : List UInt8
  target : List UInt8
  node : Int
def rwC (r : Rw) : List AV := [.int .i64 r.kind, .int .i64 r.mode, .int .i64 r.uid, .int .i64 r.gid, .int .i64 r.parent, .str r.name, .slice (r.data.map bV) .none, .str r.target, .int .i64 r.node]
def rV (r : Rw) : AV := .agg (rwC r)
def rw0 : Rw := ⟨0, 0, 0, 0, 0, [], [], [], 0⟩
structure RwOk (r : Rw) : Prop where
  name : r.name.length ≤ 1000
  data : r.data.length ≤ 1000
  target : r.target.length ≤ 1000
def madeF (r : Rw) : Nd := ⟨r.kind, r.mode, r.uid, r.gid, r.data, [], r.target⟩
theorem madeF_ok {r : Rw} (h : RwOk r) : NdOk (madeF r) := ⟨h.data, Nat.zero_le _, h.target, fun e he => by cases he⟩
def toldF (T : Tab) (r : Rw) : (Int × Int) × Tab :=
  if r.kind ≠ 4 then addT T (madeF r) else if (T.get r.node).2 = false then ((0, 2), T) else if (T.get r.node).1.kind = 2 then ((0, 1), T) else ((r.node, 0), T)
theorem toldF_ok {T : Tab} (hT : T.Ok) {r : Rw} (hr : RwOk r) : (toldF T r).2.Ok := by
  unfold toldF
  split
  · exact addT_ok hT (madeF_ok hr)
  · split
    · exact hT
    · split
      · exact hT
      · exact hT
def oneF (T : Tab) (r : Rw) : Int × Tab :=
  if (T.get r.parent).2 = false then (2, T)
  else if (toldF T r).1.2 ≠ 0 then ((toldF T r).1.2, (toldF T r).2)
  else if (withN ((toldF T r).2.get r.parent).1 r.name (toldF T r).1.1).2 ≠ 0 then ((withN ((toldF T r).2.get r.parent).1 r.name (toldF T r).1.1).2, (toldF T r).2)
  else putT (toldF T r).2 r.parent (withN ((toldF T r).2.get r.parent).1 r.name (toldF T r).1.1).1
theorem oneF_ok {T : Tab} (hT : T.Ok) {r : Rw} (hr : RwOk r) : (oneF T r).2.Ok := by
  have h1 := toldF_ok hT hr
  unfold oneF
  split
  · exact hT
  · split
    · exact h1
    · split
      · exact h1
      · exact putT_ok h1 (withN_ok (get_ok h1 _) (Nat.le_trans hr.name (by decide))) _
theorem rwC_len (r : Rw) : (rwC r).length = 9 := rfl
theorem rwC_0 (n : Rw) : (rwC n)[0]? = some (.int .i64 n.kind) := rfl
theorem rwC_1 (n : Rw) : (rwC n)[1]? = some (.int .i64 n.mode) := rfl
theorem rwC_2 (n : Rw) : (rwC n)[2]? = some (.int .i64 n.uid) := rfl
theorem rwC_3 (n : Rw) : (rwC n)[3]? = some (.int .i64 n.gid) := rfl
theorem rwC_4 (n : Rw) : (rwC n)[4]? = some (.int .i64 n.parent) := rfl
theorem rwC_5 (n : Rw) : (rwC n)[5]? = some (.str n.name) := rfl
theorem rwC_6 (n : Rw) : (rwC n)[6]? = some (.slice (n.data.map bV) .none) := rfl
theorem rwC_7 (n : Rw) : (rwC n)[7]? = some (.str n.target) := rfl
theorem rwC_8 (n : Rw) : (rwC n)[8]? = some (.int .i64 n.node) := rfl
theorem rwTake (n : Rw) : (rwC n).take 9 = rwC n := rfl
theorem rwPut (a b c d e f g h i : AV) (n : Rw) : putAt [a, b, c, d, e, f, g, h, i] 0 (rwC n) = rwC n := rfl
attribute [push_cast] rwC_len rwC_0 rwC_1 rwC_2 rwC_3 rwC_4 rwC_5 rwC_6 rwC_7 rwC_8 rwTake rwPut
theorem clL_rwC (m : Nat) (n : Rw) : AV.clL m (rwC n) := by simp [rwC, AV.clL, AV.cl, clL_bV, -List.map_map]
theorem er_rwC (n : Rw) : AV.erL (rwC n) = rwC n := by simp [rwC, AV.erL, AV.er, erL_bV, -List.map_map]
theorem getD_rV {l : List Rw} {i : Nat} {d : AV} (h : i < l.length) : (l.map rV).getD i d = .agg (rwC (l.getD i rw0)) := by
  simp [List.getD_eq_getElem?_getD, h, rV]
theorem allSz_rV (l : List Rw) : allSz (l.map rV) 9 ↔ True := iff_true_intro (allSz_map _ _ _ fun _ => rfl)
attribute [push_cast] getD_rV allSz_rV
theorem clL_rV (n : Nat) (l : List Rw) : AV.clL n (l.map rV) := by
  rw [AV.clL_mem]; intro x hx; obtain ⟨y, _, rfl⟩ := List.mem_map.1 hx; exact clL_rwC _ _
theorem madeF_cells (r : Rw) : ndC (madeF r) = [.int .i64 r.kind, .int .i64 r.mode, .int .i64 r.uid, .int .i64 r.gid, .slice (r.data.map bV) .none, .slice [] .none, .str r.target] := rfl

attribute [push_cast] clL_rwC er_rwC clL_rV

theorem c58 (r : Rw) (h : List Blk) (live : List Nat) : ACalls Tryz.prog 58 [.agg (rwC r)] h live (ret (.agg (ndC (madeF r))) h live) := by
  refine ab_ Tryz.func58 (hw := fun hH hX => ?_)
  have sx := sx0
  refine rg_ [1, 2] ?_
  refine rg_ [2] ?_
  refine awp_ret (up_ ?_)
  refine fp_ Tryz.results58 (hx := by (simp only [atuple, AV.er, AV.erL, push_cast, erL_bV, madeF_cells]) <;> rfl) (hcl := (by simp [AV.cl, AV.clL, clL_bV, -List.map_map])) (hK := ?_)
  exact ⟨rfl, rfl, rfl⟩

theorem c83 (T : Tab) (k : Nat) (r : Rw) (h : List Blk) (live : List Nat) (hk : h[k]? = some (tabBlk T)) (hT : T.Ok) (hr : RwOk r) : ACalls Tryz.prog 83 [.agg (rwC r), .ptr k 0] h live (ret (.tup [.int .i64 (toldF T r).1.1, .int .i64 (toldF T r).1.2]) (h.set k (tabBlk (toldF T r).2)) live) := by
  refine ab_ Tryz.func83 (hw := fun hH hX => ?_)
  have hkl := lt_of_get hk
  have sx := sx0
  refine rs_ [1, 2] ?_
  refine dawp_h rfl (by (simp (disch := omega) only [push_cast, ↓reduceIte, Nat.reduceEqDiff, Nat.reduceAdd, Nat.reduceLeDiff, sx, setApp hk]) <;> rfl) rfl rfl ?_
  iterate 2 (refine dawp_p rfl (by (simp (disch := omega) only [push_cast, ↓reduceIte, Nat.reduceEqDiff, Nat.reduceAdd, Nat.reduceLeDiff, sx, setApp hk]) <;> rfl) rfl rfl ?_)
  refine re_ (hf := by (simp (disch := omega) only [push_cast, ↓reduceIte, Nat.reduceEqDiff, Nat.reduceAdd, Nat.reduceLeDiff, sx, setApp hk]) <;> rfl) (hh := by (try simp (disch := omega) only [push_cast, ↓reduceIte, Nat.reduceEqDiff, Nat.reduceAdd, Nat.reduceLeDiff, sx, setApp hk]) <;> rfl) ?_
  refine sk_ fun K1 hK1 => ?_
  refine rs_ [1, 2, 10] ?_
  refine dawp_p rfl (by (simp (disch := omega) only [push_cast, ↓reduceIte, Nat.reduceEqDiff, Nat.reduceAdd, Nat.reduceLeDiff, sx, setApp hk]) <;> rfl) rfl rfl ?_
  refine dawp_h rfl (by (simp (disch := omega) only [push_cast, ↓reduceIte, Nat.reduceEqDiff, Nat.reduceAdd, Nat.reduceLeDiff, sx, setApp hk]) <;> rfl) rfl rfl ?_
  refine dawp_p rfl (by (simp (disch := omega) only [push_cast, ↓reduceIte, Nat.reduceEqDiff, Nat.reduceAdd, Nat.reduceLeDiff, sx, setApp hk]) <;> rfl) rfl rfl ?_
  refine re_ (hf := by (simp (disch := omega) only [push_cast, ↓reduceIte, Nat.reduceEqDiff, Nat.reduceAdd, Nat.reduceLeDiff, sx, setApp hk]) <;> rfl) (hh := by (try simp (disch := omega) only [push_cast, ↓reduceIte, Nat.reduceEqDiff, Nat.reduceAdd, Nat.reduceLeDiff, sx, setApp hk]) <;> rfl) ?_
  refine cd_ (hb := by (simp (disch := omega) only [push_cast, ↓reduceIte, Nat.reduceEqDiff, Nat.reduceAdd, Nat.reduceLeDiff, sx, setApp hk]) <;> rfl) (ht := fun hb1 => ?_) (hf := fun hb1 => ?_)
  · refine rs_ [4, 5] ?_
    refine dawp_p rfl (by (simp (disch := omega) only [push_cast, ↓reduceIte, Nat.reduceEqDiff, Nat.reduceAdd, Nat.reduceLeDiff, sx, setApp hk]) <;> rfl) rfl rfl ?_
    refine dawp_h rfl (by (simp (disch := omega) only [push_cast, ↓reduceIte, Nat.reduceEqDiff, Nat.reduceAdd, Nat.reduceLeDiff, sx, setApp hk]) <;> rfl) rfl rfl ?_
    refine dawp_w rfl rfl rfl rfl (AOp.callx _ _ _ rfl (by (simp (disch := omega) only [push_cast, ↓reduceIte, Nat.reduceEqDiff, Nat.reduceAdd, Nat.reduceLeDiff, sx, setApp hk]) <;> rfl) (by (simp (disch := omega) only [push_cast, ↓reduceIte, Nat.reduceEqDiff, Nat.reduceAdd, Nat.reduceLeDiff, sx, setApp hk]) <;> rfl) ?_)
    refine (c58 r _ _).mono ?_; rintro _ _ _ ⟨rfl, rfl, rfl⟩
    refine dawp_w rfl rfl rfl rfl (AOp.callx _ _ _ rfl (by (simp (disch := omega) only [push_cast, ↓reduceIte, Nat.reduceEqDiff, Nat.reduceAdd, Nat.reduceLeDiff, sx, setApp hk]) <;> rfl) (by (simp (disch := omega) only [push_cast, ↓reduceIte, Nat.reduceEqDiff, Nat.reduceAdd, Nat.reduceLeDiff, sx, setApp hk]) <;> rfl) ?_)
    refine (c39 T k (madeF r) _ _ (atApp hk) hT (madeF_ok hr)).mono ?_; rintro _ _ _ ⟨rfl, rfl, rfl⟩
    iterate 4 (refine dawp_p rfl (by (simp (disch := omega) only [push_cast, ↓reduceIte, Nat.reduceEqDiff, Nat.reduceAdd, Nat.reduceLeDiff, sx, setApp hk]) <;> rfl) rfl rfl ?_)
    refine re_ (hf := by (simp (disch := omega) only [push_cast, ↓reduceIte, Nat.reduceEqDiff, Nat.reduceAdd, Nat.reduceLeDiff, sx, setApp hk]) <;> rfl) (hh := by (try simp (disch := omega) only [push_cast, ↓reduceIte, Nat.reduceEqDiff, Nat.reduceAdd, Nat.reduceLeDiff, sx, setApp hk]) <;> rfl) ?_
    refine awp_ret (up_ ?_)
    refine fg_ (h1 := h.set k (tabBlk (addT T (madeF r)).2)) (hres := by (simp (disch := omega) only [aresults, aresult, push_cast, ↓reduceIte, Nat.reduceEqDiff, Nat.reduceAdd, Nat.reduceLeDiff, sx, setApp hk]) <;> rfl) Tryz.results83 (hh := (⟨_, rfl⟩)) (hH := (hcl_tab hH _ _)) (hK := ?_)
    exact ⟨by unfold toldF; rw [if_pos hb1], by unfold toldF; rw [if_pos hb1], rfl⟩
  refine awp_skip (up_ ?_)
  refine hK1 _ ?_
  refine rs_ [2, 6, 7] ?_
  iterate 2 (refine dawp_p rfl (by (simp (disch := omega) only [push_cast, ↓reduceIte, Nat.reduceEqDiff, Nat.reduceAdd, Nat.reduceLeDiff, sx, setApp hk]) <;> rfl) rfl rfl ?_)
  refine dawp_h rfl (by (simp (disch := omega) only [push_cast, ↓reduceIte, Nat.reduceEqDiff, Nat.reduceAdd, Nat.reduceLeDiff, sx, setApp hk]) <;> rfl) rfl rfl ?_
  refine dawp_w rfl rfl rfl rfl (AOp.callx _ _ _ rfl (by (simp (disch := omega) only [push_cast, ↓reduceIte, Nat.reduceEqDiff, Nat.reduceAdd, Nat.reduceLeDiff, sx, setApp hk]) <;> rfl) (by (simp (disch := omega) only [push_cast, ↓reduceIte, Nat.reduceEqDiff, Nat.reduceAdd, Nat.reduceLeDiff, sx, setApp hk]) <;> rfl) ?_)
  refine (c18 T k _ _ _ (atApp hk) hT).mono ?_; rintro _ _ _ ⟨rfl, rfl, rfl⟩
  iterate 3 (refine dawp_p rfl (by (simp (disch := omega) only [push_cast, ↓reduceIte, Nat.reduceEqDiff, Nat.reduceAdd, Nat.reduceLeDiff, sx, setApp hk]) <;> rfl) rfl rfl ?_)
  refine dawp_h rfl (by (simp (disch := omega) only [push_cast, ↓reduceIte, Nat.reduceEqDiff, Nat.reduceAdd, Nat.reduceLeDiff, sx, setApp hk]) <;> rfl) rfl rfl ?_
  refine dawp_hn rfl (by (simp (disch := omega) only [push_cast, ↓reduceIte, Nat.reduceEqDiff, Nat.reduceAdd, Nat.reduceLeDiff, sx, setApp hk]) <;> rfl) rfl ?_
  refine dawp_p rfl (by (simp (disch := omega) only [push_cast, ↓reduceIte, Nat.reduceEqDiff, Nat.reduceAdd, Nat.reduceLeDiff, sx, setApp hk]) <;> rfl) rfl rfl ?_
  refine re_ (hf := by (simp (disch := omega) only [push_cast, ↓reduceIte, Nat.reduceEqDiff, Nat.reduceAdd, Nat.reduceLeDiff, sx, setApp hk]) <;> rfl) (hh := by (try simp (disch := omega) only [push_cast, ↓reduceIte, Nat.reduceEqDiff, Nat.reduceAdd, Nat.reduceLeDiff, sx, setApp hk]) <;> rfl) ?_
  refine sk_ fun K2 hK2 => ?_
  refine awp_block ?_
  refine rs_ [2, 6, 24] ?_
  iterate 3 (refine dawp_p rfl (by (simp (disch := omega) only [push_cast, ↓reduceIte, Nat.reduceEqDiff, Nat.reduceAdd, Nat.reduceLeDiff, sx, setApp hk]) <;> rfl) rfl rfl ?_)
  refine re_ (hf := by (simp (disch := omega) only [push_cast, ↓reduceIte, Nat.reduceEqDiff, Nat.reduceAdd, Nat.reduceLeDiff, sx, setApp hk]) <;> rfl) (hh := by (try simp (disch := omega) only [push_cast, ↓reduceIte, Nat.reduceEqDiff, Nat.reduceAdd, Nat.reduceLeDiff, sx, setApp hk]) <;> rfl) ?_
  refine cd_ (hb := by (simp (disch := omega) only [push_cast, ↓reduceIte, Nat.reduceEqDiff, Nat.reduceAdd, Nat.reduceLeDiff, sx, setApp hk]) <;> rfl) (ht := fun hb2 => ?_) (hf := fun hb2 => ?_)
  · refine rs_ [4, 5] ?_
    iterate 2 (refine dawp_p rfl (by (simp (disch := omega) only [push_cast, ↓reduceIte, Nat.reduceEqDiff, Nat.reduceAdd, Nat.reduceLeDiff, sx, setApp hk]) <;> rfl) rfl rfl ?_)
    refine re_ (hf := by (simp (disch := omega) only [push_cast, ↓reduceIte, Nat.reduceEqDiff, Nat.reduceAdd, Nat.reduceLeDiff, sx, setApp hk]) <;> rfl) (hh := by (try simp (disch := omega) only [push_cast, ↓reduceIte, Nat.reduceEqDiff, Nat.reduceAdd, Nat.reduceLeDiff, sx, setApp hk]) <;> rfl) ?_
    refine awp_ret (up_ ?_)
    refine fg_ (h1 := h.set k (tabBlk T)) (hres := by (simp (disch := omega) only [aresults, aresult, push_cast, ↓reduceIte, Nat.reduceEqDiff, Nat.reduceAdd, Nat.reduceLeDiff, sx, setApp hk]) <;> rfl) Tryz.results83 (hh := (by rw [set_self hk]; exact ⟨_, rfl⟩)) (hH := (hcl_tab hH _ _)) (hK := ?_)
    exact ⟨by unfold toldF; rw [if_neg (fun h => h hb1), if_pos hb2], by unfold toldF; rw [if_neg (fun h => h hb1), if_pos hb2], rfl⟩
  refine rs_ [2, 27] ?_
  refine dawp_p rfl (by (simp (disch := omega) only [push_cast, ↓reduceIte, Nat.reduceEqDiff, Nat.reduceAdd, Nat.reduceLeDiff, sx, setApp hk]) <;> rfl) rfl rfl ?_
  refine dawp_h rfl (by (simp (disch := omega) only [push_cast, ↓reduceIte, Nat.reduceEqDiff, Nat.reduceAdd, Nat.reduceLeDiff, sx, setApp hk]) <;> rfl) rfl rfl ?_
  iterate 2 (refine dawp_p rfl (by (simp (disch := omega) only [push_cast, ↓reduceIte, Nat.reduceEqDiff, Nat.reduceAdd, Nat.reduceLeDiff, sx, setApp hk]) <;> rfl) rfl rfl ?_)
  refine re_ (hf := by (simp (disch := omega) only [push_cast, ↓reduceIte, Nat.reduceEqDiff, Nat.reduceAdd, Nat.reduceLeDiff, sx, setApp hk]) <;> rfl) (hh := by (try simp (disch := omega) only [push_cast, ↓reduceIte, Nat.reduceEqDiff, Nat.reduceAdd, Nat.reduceLeDiff, sx, setApp hk]) <;> rfl) ?_
  refine cd_ (hb := by (simp (disch := omega) only [push_cast, ↓reduceIte, Nat.reduceEqDiff, Nat.reduceAdd, Nat.reduceLeDiff, sx, setApp hk]) <;> rfl) (ht := fun hb3 => ?_) (hf := fun hb3 => ?_)
  · refine rs_ [4, 5] ?_
    iterate 2 (refine dawp_p rfl (by (simp (disch := omega) only [push_cast, ↓reduceIte, Nat.reduceEqDiff, Nat.reduceAdd, Nat.reduceLeDiff, sx, setApp hk]) <;> rfl) rfl rfl ?_)
    refine re_ (hf := by (simp (disch := omega) only [push_cast, ↓reduceIte, Nat.reduceEqDiff, Nat.reduceAdd, Nat.reduceLeDiff, sx, setApp hk]) <;> rfl) (hh := by (try simp (disch := omega) only [push_cast, ↓reduceIte, Nat.reduceEqDiff, Nat.reduceAdd, Nat.reduceLeDiff, sx, setApp hk]) <;> rfl) ?_
    refine awp_ret (up_ ?_)
    refine fg_ (h1 := h.set k (tabBlk T)) (hres := by (simp (disch := omega) only [aresults, aresult, push_cast, ↓reduceIte, Nat.reduceEqDiff, Nat.reduceAdd, Nat.reduceLeDiff, sx, setApp hk]) <;> rfl) Tryz.results83 (hh := (by rw [set_self hk]; exact ⟨_, rfl⟩)) (hH := (hcl_tab hH _ _)) (hK := ?_)
    exact ⟨by unfold toldF; rw [if_neg (fun h => h hb1), if_neg (by simp [hb2]), if_pos hb3], by unfold toldF; rw [if_neg (fun h => h hb1), if_neg (by simp [hb2]), if_pos hb3], rfl⟩
  refine awp_skip (up_ ?_)
  refine hK2 _ ?_
  refine rs_ [4, 5] ?_
  refine dawp_p rfl (by (simp (disch := omega) only [push_cast, ↓reduceIte, Nat.reduceEqDiff, Nat.reduceAdd, Nat.reduceLeDiff, sx, setApp hk]) <;> rfl) rfl rfl ?_
  refine dawp_h rfl (by (simp (disch := omega) only [push_cast, ↓reduceIte, Nat.reduceEqDiff, Nat.reduceAdd, Nat.reduceLeDiff, sx, setApp hk]) <;> rfl) rfl rfl ?_
  iterate 2 (refine dawp_p rfl (by (simp (disch := omega) only [push_cast, ↓reduceIte, Nat.reduceEqDiff, Nat.reduceAdd, Nat.reduceLeDiff, sx, setApp hk]) <;> rfl) rfl rfl ?_)
  refine re_ (hf := by (simp (disch := omega) only [push_cast, ↓reduceIte, Nat.reduceEqDiff, Nat.reduceAdd, Nat.reduceLeDiff, sx, setApp hk]) <;> rfl) (hh := by (try simp (disch := omega) only [push_cast, ↓reduceIte, Nat.reduceEqDiff, Nat.reduceAdd, Nat.reduceLeDiff, sx, setApp hk]) <;> rfl) ?_
  refine awp_ret (up_ ?_)
  refine fg_ (h1 := h.set k (tabBlk T)) (hres := by (simp (disch := omega) only [aresults, aresult, push_cast, ↓reduceIte, Nat.reduceEqDiff, Nat.reduceAdd, Nat.reduceLeDiff, sx, setApp hk]) <;> rfl) Tryz.results83 (hh := (by rw [set_self hk]; exact ⟨_, rfl⟩)) (hH := (hcl_tab hH _ _)) (hK := ?_)
  exact ⟨by unfold toldF; rw [if_neg (fun h => h hb1), if_neg (by simp [hb2]), if_neg hb3], by unfold toldF; rw [if_neg (fun h => h hb1), if_neg (by simp [hb2]), if_neg hb3], rfl⟩

theorem c59 (T : Tab) (k : Nat) (r : Rw) (h : List Blk) (live : List Nat) (hk : h[k]? = some (tabBlk T)) (hT : T.Ok) (hr : RwOk r) : ACalls Tryz.prog 59 [.agg (rwC r), .ptr k 0] h live (ret (.int .i64 (oneF T r).1) (h.set k (tabBlk (oneF T r).2)) live) := by
  refine ab_ Tryz.func59 (hw := fun hH hX => ?_)
  have hkl := lt_of_get hk
  have hT1 := toldF_ok hT hr
  have hg : ∀ (x : Tab) (g : List Blk), (h.set k (tabBlk x) ++ g)[k]? = some (tabBlk x) := fun x g => get_setapp hkl
  have hr1 := hr.name
  have sx := sx0
  refine rs_ [1, 2] ?_
  refine dawp_h rfl (by (simp (disch := omega) only [push_cast, ↓reduceIte, Nat.reduceEqDiff, Nat.reduceAdd, Nat.reduceLeDiff, sx, setApp hk]) <;> rfl) rfl rfl ?_
  refine dawp_p rfl (by (simp (disch := omega) only [push_cast, ↓reduceIte, Nat.reduceEqDiff, Nat.reduceAdd, Nat.reduceLeDiff, sx, setApp hk]) <;> rfl) rfl rfl ?_
  refine re_ (hf := by (simp (disch := omega) only [push_cast, ↓reduceIte, Nat.reduceEqDiff, Nat.reduceAdd, Nat.reduceLeDiff, sx, setApp hk]) <;> rfl) (hh := by (try simp (disch := omega) only [push_cast, ↓reduceIte, Nat.reduceEqDiff, Nat.reduceAdd, Nat.reduceLeDiff, sx, setApp hk]) <;> rfl) ?_
  refine rs_ [1, 2, 5] ?_
  iterate 3 (refine dawp_p rfl (by (simp (disch := omega) only [push_cast, ↓reduceIte, Nat.reduceEqDiff, Nat.reduceAdd, Nat.reduceLeDiff, sx, setApp hk]) <;> rfl) rfl rfl ?_)
  refine re_ (hf := by (simp (disch := omega) only [push_cast, ↓reduceIte, Nat.reduceEqDiff, Nat.reduceAdd, Nat.reduceLeDiff, sx, setApp hk]) <;> rfl) (hh := by (try simp (disch := omega) only [push_cast, ↓reduceIte, Nat.reduceEqDiff, Nat.reduceAdd, Nat.reduceLeDiff, sx, setApp hk]) <;> rfl) ?_
  refine sk_ fun K1 hK1 => ?_
  refine rs_ [1, 2, 5, 7] ?_
  iterate 2 (refine dawp_p rfl (by (simp (disch := omega) only [push_cast, ↓reduceIte, Nat.reduceEqDiff, Nat.reduceAdd, Nat.reduceLeDiff, sx, setApp hk]) <;> rfl) rfl rfl ?_)
  refine dawp_h rfl (by (simp (disch := omega) only [push_cast, ↓reduceIte, Nat.reduceEqDiff, Nat.reduceAdd, Nat.reduceLeDiff, sx, setApp hk]) <;> rfl) rfl rfl ?_
  refine dawp_w rfl rfl rfl rfl (AOp.callx _ _ _ rfl (by (simp (disch := omega) only [push_cast, ↓reduceIte, Nat.reduceEqDiff, Nat.reduceAdd, Nat.reduceLeDiff, sx, setApp hk]) <;> rfl) (by (simp (disch := omega) only [push_cast, ↓reduceIte, Nat.reduceEqDiff, Nat.reduceAdd, Nat.reduceLeDiff, sx, setApp hk]) <;> rfl) ?_)
  refine (c18 T k _ _ _ (atApp hk) hT).mono ?_; rintro _ _ _ ⟨rfl, rfl, rfl⟩
  iterate 3 (refine dawp_p rfl (by (simp (disch := omega) only [push_cast, ↓reduceIte, Nat.reduceEqDiff, Nat.reduceAdd, Nat.reduceLeDiff, sx, setApp hk]) <;> rfl) rfl rfl ?_)
  refine dawp_h rfl (by (simp (disch := omega) only [push_cast, ↓reduceIte, Nat.reduceEqDiff, Nat.reduceAdd, Nat.reduceLeDiff, sx, setApp hk]) <;> rfl) rfl rfl ?_
  refine dawp_hn rfl (by (simp (disch := omega) only [push_cast, ↓reduceIte, Nat.reduceEqDiff, Nat.reduceAdd, Nat.reduceLeDiff, sx, setApp hk]) <;> rfl) rfl ?_
  refine dawp_p rfl (by (simp (disch := omega) only [push_cast, ↓reduceIte, Nat.reduceEqDiff, Nat.reduceAdd, Nat.reduceLeDiff, sx, setApp hk]) <;> rfl) rfl rfl ?_
  refine re_ (hf := by (simp (disch := omega) only [push_cast, ↓reduceIte, Nat.reduceEqDiff, Nat.reduceAdd, Nat.reduceLeDiff, sx, setApp hk]) <;> rfl) (hh := by (try simp (disch := omega) only [push_cast, ↓reduceIte, Nat.reduceEqDiff, Nat.reduceAdd, Nat.reduceLeDiff, sx, setApp hk]) <;> rfl) ?_
  refine rs_ [1, 2, 5, 22] ?_
  iterate 2 (refine dawp_p rfl (by (simp (disch := omega) only [push_cast, ↓reduceIte, Nat.reduceEqDiff, Nat.reduceAdd, Nat.reduceLeDiff, sx, setApp hk]) <;> rfl) rfl rfl ?_)
  refine re_ (hf := by (simp (disch := omega) only [push_cast, ↓reduceIte, Nat.reduceEqDiff, Nat.reduceAdd, Nat.reduceLeDiff, sx, setApp hk]) <;> rfl) (hh := by (try simp (disch := omega) only [push_cast, ↓reduceIte, Nat.reduceEqDiff, Nat.reduceAdd, Nat.reduceLeDiff, sx, setApp hk]) <;> rfl) ?_
  refine cd_ (hb := by (simp (disch := omega) only [push_cast, ↓reduceIte, Nat.reduceEqDiff, Nat.reduceAdd, Nat.reduceLeDiff, sx, setApp hk]) <;> rfl) (ht := fun hb1 => ?_) (hf := fun hb1 => ?_)
  · refine rs_ [4] ?_
    refine dawp_p rfl (by (simp (disch := omega) only [push_cast, ↓reduceIte, Nat.reduceEqDiff, Nat.reduceAdd, Nat.reduceLeDiff, sx, setApp hk]) <;> rfl) rfl rfl ?_
    refine re_ (hf := by (simp (disch := omega) only [push_cast, ↓reduceIte, Nat.reduceEqDiff, Nat.reduceAdd, Nat.reduceLeDiff, sx, setApp hk]) <;> rfl) (hh := by (try simp (disch := omega) only [push_cast, ↓reduceIte, Nat.reduceEqDiff, Nat.reduceAdd, Nat.reduceLeDiff, sx, setApp hk]) <;> rfl) ?_
    refine awp_ret (up_ ?_)
    refine fg_ (h1 := h.set k (tabBlk T)) (hres := by (simp (disch := omega) only [aresults, aresult, push_cast, ↓reduceIte, Nat.reduceEqDiff, Nat.reduceAdd, Nat.reduceLeDiff, sx, setApp hk]) <;> rfl) Tryz.results59 (hh := (by rw [set_self hk]; exact ⟨_, rfl⟩)) (hH := (hcl_tab hH _ _)) (hK := ?_)
    exact ⟨by unfold oneF; rw [if_pos hb1], by unfold oneF; rw [if_pos hb1], rfl⟩
  refine awp_skip (up_ ?_)
  refine hK1 _ ?_
  refine rs_ [1, 2, 5, 8, 9] ?_
  refine dawp_h rfl (by (simp (disch := omega) only [push_cast, ↓reduceIte, Nat.reduceEqDiff, Nat.reduceAdd, Nat.reduceLeDiff, sx, setApp hk]) <;> rfl) rfl rfl ?_
  refine dawp_p rfl (by (simp (disch := omega) only [push_cast, ↓reduceIte, Nat.reduceEqDiff, Nat.reduceAdd, Nat.reduceLeDiff, sx, setApp hk]) <;> rfl) rfl rfl ?_
  refine dawp_w rfl rfl rfl rfl (AOp.callx _ _ _ rfl (by (simp (disch := omega) only [push_cast, ↓reduceIte, Nat.reduceEqDiff, Nat.reduceAdd, Nat.reduceLeDiff, sx, setApp hk]) <;> rfl) (by (simp (disch := omega) only [push_cast, ↓reduceIte, Nat.reduceEqDiff, Nat.reduceAdd, Nat.reduceLeDiff, sx, setApp hk]) <;> rfl) ?_)
  refine (c83 T k r _ _ (atApp hk) hT hr).mono ?_; rintro _ _ _ ⟨rfl, rfl, rfl⟩
  iterate 5 (refine dawp_p rfl (by (simp (disch := omega) only [push_cast, ↓reduceIte, Nat.reduceEqDiff, Nat.reduceAdd, Nat.reduceLeDiff, sx, setApp hk]) <;> rfl) rfl rfl ?_)
  refine re_ (hf := by (simp (disch := omega) only [push_cast, ↓reduceIte, Nat.reduceEqDiff, Nat.reduceAdd, Nat.reduceLeDiff, sx, setApp hk]) <;> rfl) (hh := by (try simp (disch := omega) only [push_cast, ↓reduceIte, Nat.reduceEqDiff, Nat.reduceAdd, Nat.reduceLeDiff, sx, setApp hk]) <;> rfl) ?_
  refine sk_ fun K2 hK2 => ?_
  refine rs_ [1, 2, 5, 8, 9, 30] ?_
  iterate 2 (refine dawp_p rfl (by (simp (disch := omega) only [push_cast, ↓reduceIte, Nat.reduceEqDiff, Nat.reduceAdd, Nat.reduceLeDiff, sx, setApp hk]) <;> rfl) rfl rfl ?_)
  refine re_ (hf := by (simp (disch := omega) only [push_cast, ↓reduceIte, Nat.reduceEqDiff, Nat.reduceAdd, Nat.reduceLeDiff, sx, setApp hk]) <;> rfl) (hh := by (try simp (disch := omega) only [push_cast, ↓reduceIte, Nat.reduceEqDiff, Nat.reduceAdd, Nat.reduceLeDiff, sx, setApp hk]) <;> rfl) ?_
  refine cd_ (hb := by (simp (disch := omega) only [push_cast, ↓reduceIte, Nat.reduceEqDiff, Nat.reduceAdd, Nat.reduceLeDiff, sx, setApp hk]) <;> rfl) (ht := fun hb2 => ?_) (hf := fun hb2 => ?_)
  · refine rs_ [4] ?_
    iterate 2 (refine dawp_p rfl (by (simp (disch := omega) only [push_cast, ↓reduceIte, Nat.reduceEqDiff, Nat.reduceAdd, Nat.reduceLeDiff, sx, setApp hk]) <;> rfl) rfl rfl ?_)
    refine re_ (hf := by (simp (disch := omega) only [push_cast, ↓reduceIte, Nat.reduceEqDiff, Nat.reduceAdd, Nat.reduceLeDiff, sx, setApp hk]) <;> rfl) (hh := by (try simp (disch := omega) only [push_cast, ↓reduceIte, Nat.reduceEqDiff, Nat.reduceAdd, Nat.reduceLeDiff, sx, setApp hk]) <;> rfl) ?_
    refine awp_ret (up_ ?_)
    refine fg_ (h1 := h.set k (tabBlk (toldF T r).2)) (hres := by (simp (disch := omega) only [aresults, aresult, push_cast, ↓reduceIte, Nat.reduceEqDiff, Nat.reduceAdd, Nat.reduceLeDiff, sx, setApp hk]) <;> rfl) Tryz.results59 (hH := (hcl_tab hH _ _)) (hK := ?_)
    exact ⟨by unfold oneF; rw [if_neg (by simp [hb1]), if_pos hb2], by unfold oneF; rw [if_neg (by simp [hb1]), if_pos hb2], rfl⟩
  refine awp_skip (up_ ?_)
  refine hK2 _ ?_
  refine rs_ [1, 2, 8, 10] ?_
  iterate 2 (refine dawp_p rfl (by (simp (disch := omega) only [push_cast, ↓reduceIte, Nat.reduceEqDiff, Nat.reduceAdd, Nat.reduceLeDiff, sx, setApp hk]) <;> rfl) rfl rfl ?_)
  refine dawp_h rfl (by (simp (disch := omega) only [push_cast, ↓reduceIte, Nat.reduceEqDiff, Nat.reduceAdd, Nat.reduceLeDiff, sx, setApp hk]) <;> rfl) rfl rfl ?_
  refine dawp_w rfl rfl rfl rfl (AOp.callx _ _ _ rfl (by (simp (disch := omega) only [push_cast, ↓reduceIte, Nat.reduceEqDiff, Nat.reduceAdd, Nat.reduceLeDiff, sx, setApp hk]) <;> rfl) (by (simp (disch := omega) only [push_cast, ↓reduceIte, Nat.reduceEqDiff, Nat.reduceAdd, Nat.reduceLeDiff, sx, setApp hk]) <;> rfl) ?_)
  refine (c18 (toldF T r).2 k _ _ _ (hg _ _) hT1).mono ?_; rintro _ _ _ ⟨rfl, rfl, rfl⟩
  iterate 3 (refine dawp_p rfl (by (simp (disch := omega) only [push_cast, ↓reduceIte, Nat.reduceEqDiff, Nat.reduceAdd, Nat.reduceLeDiff, sx, setApp hk]) <;> rfl) rfl rfl ?_)
  refine dawp_h rfl (by (simp (disch := omega) only [push_cast, ↓reduceIte, Nat.reduceEqDiff, Nat.reduceAdd, Nat.reduceLeDiff, sx, setApp hk]) <;> rfl) rfl rfl ?_
  refine dawp_hn rfl (by (simp (disch := omega) only [push_cast, ↓reduceIte, Nat.reduceEqDiff, Nat.reduceAdd, Nat.reduceLeDiff, sx, setApp hk]) <;> rfl) rfl ?_
  refine dawp_p rfl (by (simp (disch := omega) only [push_cast, ↓reduceIte, Nat.reduceEqDiff, Nat.reduceAdd, Nat.reduceLeDiff, sx, setApp hk]) <;> rfl) rfl rfl ?_
  refine re_ (hf := by (simp (disch := omega) only [push_cast, ↓reduceIte, Nat.reduceEqDiff, Nat.reduceAdd, Nat.reduceLeDiff, sx, setApp hk]) <;> rfl) (hh := by (try simp (disch := omega) only [push_cast, ↓reduceIte, Nat.reduceEqDiff, Nat.reduceAdd, Nat.reduceLeDiff, sx, setApp hk]) <;> rfl) ?_
  refine rs_ [1, 2, 9, 10] ?_
  refine dawp_h rfl (by (simp (disch := omega) only [push_cast, ↓reduceIte, Nat.reduceEqDiff, Nat.reduceAdd, Nat.reduceLeDiff, sx, setApp hk]) <;> rfl) rfl rfl ?_
  refine dawp_p rfl (by (simp (disch := omega) only [push_cast, ↓reduceIte, Nat.reduceEqDiff, Nat.reduceAdd, Nat.reduceLeDiff, sx, setApp hk]) <;> rfl) rfl rfl ?_
  refine dawp_h rfl (by (simp (disch := omega) only [push_cast, ↓reduceIte, Nat.reduceEqDiff, Nat.reduceAdd, Nat.reduceLeDiff, sx, setApp hk]) <;> rfl) rfl rfl ?_
  refine dawp_p rfl (by (simp (disch := omega) only [push_cast, ↓reduceIte, Nat.reduceEqDiff, Nat.reduceAdd, Nat.reduceLeDiff, sx, setApp hk]) <;> rfl) rfl rfl ?_
  refine dawp_w rfl rfl rfl rfl (AOp.callx _ _ _ rfl (by (simp (disch := omega) only [push_cast, ↓reduceIte, Nat.reduceEqDiff, Nat.reduceAdd, Nat.reduceLeDiff, sx, setApp hk]) <;> rfl) (by (simp (disch := omega) only [push_cast, ↓reduceIte, Nat.reduceEqDiff, Nat.reduceAdd, Nat.reduceLeDiff, sx, setApp hk]) <;> rfl) ?_)
  refine (c84 _ _ _ _ _ (get_ok hT1 _) (by omega)).mono ?_; rintro _ _ _ ⟨rfl, rfl, rfl⟩
  iterate 3 (refine dawp_p rfl (by (simp (disch := omega) only [push_cast, ↓reduceIte, Nat.reduceEqDiff, Nat.reduceAdd, Nat.reduceLeDiff, sx, setApp hk]) <;> rfl) rfl rfl ?_)
  refine dawp_hn rfl (by (simp (disch := omega) only [push_cast, ↓reduceIte, Nat.reduceEqDiff, Nat.reduceAdd, Nat.reduceLeDiff, sx, setApp hk]) <;> rfl) rfl ?_
  refine dawp_p rfl (by (simp (disch := omega) only [push_cast, ↓reduceIte, Nat.reduceEqDiff, Nat.reduceAdd, Nat.reduceLeDiff, sx, setApp hk]) <;> rfl) rfl rfl ?_
  refine re_ (hf := by (simp (disch := omega) only [push_cast, ↓reduceIte, Nat.reduceEqDiff, Nat.reduceAdd, Nat.reduceLeDiff, sx, setApp hk]) <;> rfl) (hh := by (try simp (disch := omega) only [push_cast, ↓reduceIte, Nat.reduceEqDiff, Nat.reduceAdd, Nat.reduceLeDiff, sx, setApp hk]) <;> rfl) ?_
  refine sk_ fun K3 hK3 => ?_
  refine rs_ [1, 2, 9, 10, 48] ?_
  iterate 2 (refine dawp_p rfl (by (simp (disch := omega) only [push_cast, ↓reduceIte, Nat.reduceEqDiff, Nat.reduceAdd, Nat.reduceLeDiff, sx, setApp hk]) <;> rfl) rfl rfl ?_)
  refine re_ (hf := by (simp (disch := omega) only [push_cast, ↓reduceIte, Nat.reduceEqDiff, Nat.reduceAdd, Nat.reduceLeDiff, sx, setApp hk]) <;> rfl) (hh := by (try simp (disch := omega) only [push_cast, ↓reduceIte, Nat.reduceEqDiff, Nat.reduceAdd, Nat.reduceLeDiff, sx, setApp hk]) <;> rfl) ?_
  refine cd_ (hb := by (simp (disch := omega) only [push_cast, ↓reduceIte, Nat.reduceEqDiff, Nat.reduceAdd, Nat.reduceLeDiff, sx, setApp hk]) <;> rfl) (ht := fun hb3 => ?_) (hf := fun hb3 => ?_)
  · refine rs_ [4] ?_
    iterate 2 (refine dawp_p rfl (by (simp (disch := omega) only [push_cast, ↓reduceIte, Nat.reduceEqDiff, Nat.reduceAdd, Nat.reduceLeDiff, sx, setApp hk]) <;> rfl) rfl rfl ?_)
    refine re_ (hf := by (simp (disch := omega) only [push_cast, ↓reduceIte, Nat.reduceEqDiff, Nat.reduceAdd, Nat.reduceLeDiff, sx, setApp hk]) <;> rfl) (hh := by (try simp (disch := omega) only [push_cast, ↓reduceIte, Nat.reduceEqDiff, Nat.reduceAdd, Nat.reduceLeDiff, sx, setApp hk]) <;> rfl) ?_
    refine awp_ret (up_ ?_)
    refine fg_ (h1 := h.set k (tabBlk (toldF T r).2)) (hres := by (simp (disch := omega) only [aresults, aresult, push_cast, ↓reduceIte, Nat.reduceEqDiff, Nat.reduceAdd, Nat.reduceLeDiff, sx, setApp hk]) <;> rfl) Tryz.results59 (hH := (hcl_tab hH _ _)) (hK := ?_)
    exact ⟨by unfold oneF; rw [if_neg (by simp [hb1]), if_neg (fun h => h hb2), if_pos hb3], by unfold oneF; rw [if_neg (by simp [hb1]), if_neg (fun h => h hb2), if_pos hb3], rfl⟩
  refine awp_skip (up_ ?_)
  refine hK3 _ ?_
  refine rs_ [4] ?_
  iterate 2 (refine dawp_p rfl (by (simp (disch := omega) only [push_cast, ↓reduceIte, Nat.reduceEqDiff, Nat.reduceAdd, Nat.reduceLeDiff, sx, setApp hk]) <;> rfl) rfl rfl ?_)
  iterate 2 (refine dawp_h rfl (by (simp (disch := omega) only [push_cast, ↓reduceIte, Nat.reduceEqDiff, Nat.reduceAdd, Nat.reduceLeDiff, sx, setApp hk]) <;> rfl) rfl rfl ?_)
  refine dawp_w rfl rfl rfl rfl (AOp.callx _ _ _ rfl (by (simp (disch := omega) only [push_cast, ↓reduceIte, Nat.reduceEqDiff, Nat.reduceAdd, Nat.reduceLeDiff, sx, setApp hk]) <;> rfl) (by (simp (disch := omega) only [push_cast, ↓reduceIte, Nat.reduceEqDiff, Nat.reduceAdd, Nat.reduceLeDiff, sx, setApp hk]) <;> rfl) ?_)
  refine (c38 (toldF T r).2 k _ _ _ _ (hg _ _) hT1 (withN_ok (get_ok hT1 _) (Nat.le_trans hr.name (by decide)))).mono ?_; rintro _ _ _ ⟨rfl, rfl, rfl⟩
  refine dawp_p rfl (by (simp (disch := omega) only [push_cast, ↓reduceIte, Nat.reduceEqDiff, Nat.reduceAdd, Nat.reduceLeDiff, sx, setApp hk]) <;> rfl) rfl rfl ?_
  refine re_ (hf := by (simp (disch := omega) only [push_cast, ↓reduceIte, Nat.reduceEqDiff, Nat.reduceAdd, Nat.reduceLeDiff, sx, setApp hk]) <;> rfl) (hh := by (try simp (disch := omega) only [push_cast, ↓reduceIte, Nat.reduceEqDiff, Nat.reduceAdd, Nat.reduceLeDiff, sx, setApp hk]) <;> rfl) ?_
  refine awp_ret (up_ ?_)
  refine fg_ (h1 := h.set k (tabBlk (putT (toldF T r).2 r.parent (withN ((toldF T r).2.get r.parent).1 r.name (toldF T r).1.1).1).2)) (hres := by (simp (disch := omega) only [aresults, aresult, push_cast, ↓reduceIte, Nat.reduceEqDiff, Nat.reduceAdd, Nat.reduceLeDiff, sx, setApp hk]) <;> rfl) Tryz.results59 (hH := (hcl_tab hH _ _)) (hK := ?_)
  exact ⟨by unfold oneF; rw [if_neg (by simp [hb1]), if_neg (fun h => h hb2), if_neg (fun h => h hb3)], by unfold oneF; rw [if_neg (by simp [hb1]), if_neg (fun h => h hb2), if_neg (fun h => h hb3)], rfl⟩


/-- The tree of what is told, of so many that are left: a table, or where it is wrong, and why. -/
def restF (T : Tab) (i : Nat) : List Rw → Int × Int ⊕ Tab
  | [] => .inr T
  | r :: l => if (oneF T r).1 ≠ 0 then .inl ((i : Int) + 1, (oneF T r).1) else restF (oneF T r).2 (i + 1) l
def buildF (room : Int) (l : List Rw) : (Int × Int) ⊕ Tab :=
  bif (decide ((l.length : Int) = 0) || !decide ((l.getD 0 rw0).kind = 2) || !decide ((l.getD 0 rw0).parent = 0) || !decide ((l.getD 0 rw0).name = [])) then .inl (0, 22)
  else if (addT (newT room) (madeF (l.getD 0 rw0))).1.2 ≠ 0 then .inl (0, (addT (newT room) (madeF (l.getD 0 rw0))).1.2)
  else restF (addT (newT room) (madeF (l.getD 0 rw0))).2 0 (l.drop 1)
theorem restF_get (T : Tab) (i : Nat) {l : List Rw} {m : Nat} (hm : m < l.length) : restF T i (l.drop m) = if (oneF T (l.getD m rw0)).1 ≠ 0 then .inl ((i : Int) + 1, (oneF T (l.getD m rw0)).1) else restF (oneF T (l.getD m rw0)).2 (i + 1) (l.drop (m + 1)) := by
  rw [List.drop_eq_getElem_cons hm]
  simp only [restF, List.getD_eq_getElem?_getD, List.getElem?_eq_getElem hm, Option.getD_some]
def bI : (Int × Int) ⊕ Tab → Int
  | .inl (i, _) => i
  | .inr _ => 0
def bE : (Int × Int) ⊕ Tab → Int
  | .inl (_, e) => e
  | .inr _ => 0
def bP (h : List Blk) (o : (Int × Int) ⊕ Tab) (p : AV) : Prop := match o with
  | .inl _ => p = .raw (.pointer none)
  | .inr T => ∃ k, p = .ptr k 0 ∧ h[k]? = some (tabBlk T)
def buildK (h : List Blk) (live : List Nat) (o : (Int × Int) ⊕ Tab) : KT := fun x h' l' => l' = live ∧ ∃ g p, x = .tup [p, .int .i64 (bI o), .int .i64 (bE o)] ∧ h' = h ++ g ∧ bP h' o p ∧ p.er = p ∧ p.cl h'.length ∧ HCl h'
theorem restF_err : ∀ (l : List Rw) (T : Tab) (i : Nat) (x : Int × Int), restF T i l = .inl x → x.2 ≠ 0
  | [], T, i, x, h => by cases h
  | r :: l, T, i, x, h => by
    unfold restF at h
    split at h
    · cases h; assumption
    · exact restF_err l _ _ x h
theorem buildF_err {room : Int} {l : List Rw} {x : Int × Int} (h : buildF room l = .inl x) : x.2 ≠ 0 := by
  unfold buildF at h
  cases hc : (decide ((l.length : Int) = 0) || !decide ((l.getD 0 rw0).kind = 2) || !decide ((l.getD 0 rw0).parent = 0) || !decide ((l.getD 0 rw0).name = [])) with
  | true => rw [hc, cond_true] at h; cases h; decide
  | false =>
    rw [hc, cond_false] at h
    split at h
    · cases h; assumption
    · exact restF_err _ _ _ x h
theorem restF_ok : ∀ (l : List Rw) (T : Tab) (i : Nat) (T' : Tab), T.Ok → (∀ r ∈ l, RwOk r) → restF T i l = .inr T' → T'.Ok
  | [], T, i, T', hT, _, h => by cases h; exact hT
  | r :: l, T, i, T', hT, hl, h => by
    unfold restF at h
    split at h
    · cases h
    · exact restF_ok l _ _ T' (oneF_ok hT (hl r (by simp))) (fun r hr => hl r (by simp [hr])) h
theorem buildF_ok {room : Int} {l : List Rw} {T : Tab} (hl : ∀ r ∈ l, RwOk r) (h : buildF room l = .inr T) : T.Ok := by
  unfold buildF at h
  cases hc : (decide ((l.length : Int) = 0) || !decide ((l.getD 0 rw0).kind = 2) || !decide ((l.getD 0 rw0).parent = 0) || !decide ((l.getD 0 rw0).name = [])) with
  | true => rw [hc, cond_true] at h; cases h
  | false =>
    rw [hc, cond_false] at h
    split at h
    · cases h
    · refine restF_ok _ _ _ T (addT_ok (newT_ok _) (madeF_ok ?_)) (fun r hr => hl r (List.mem_of_mem_drop hr)) h
      by_cases h0 : 0 < l.length
      · rw [List.getD_eq_getElem?_getD, List.getElem?_eq_getElem h0]; exact hl _ (List.getElem_mem h0)
      · rw [List.getD_eq_getElem?_getD, List.getElem?_eq_none (by omega)]; exact ⟨by decide, by decide, by decide⟩
theorem getD_ok {l : List Rw} (hl : ∀ r ∈ l, RwOk r) (i : Nat) : RwOk (l.getD i rw0) := by
  by_cases h : i < l.length
  · rw [List.getD_eq_getElem?_getD, List.getElem?_eq_getElem h]; exact hl _ (List.getElem_mem h)
  · rw [List.getD_eq_getElem?_getD, List.getElem?_eq_none (by omega)]; exact ⟨by decide, by decide, by decide⟩

theorem c24 (room : Int) (l : List Rw) (h : List Blk) (live : List Nat) (hl : ∀ r ∈ l, RwOk r) (hn : l.length ≤ 1000000) : ACalls Tryz.prog 24 [.int .i64 room, .slice (l.map rV) .none] h live (buildK h live (buildF room l)) := by
  refine ab_ Tryz.func24 (hw := fun hH hX => ?_)
  have h0ok := getD_ok hl 0
  have hT1 := addT_ok (newT_ok room) (madeF_ok h0ok)
  have hL : ∀ r ∈ l.drop 1, RwOk r := fun r hr => hl r (List.mem_of_mem_drop hr)
  have hLl : (l.drop 1).length = l.length - 1 := List.length_drop
  have htd : List.take (l.length - 1) (List.map rV (List.drop 1 l)) = List.map rV (List.drop 1 l) := List.take_of_length_le (by rw [List.length_map, hLl]; exact Nat.le_refl _)
  have sx := (And.intro @htd sx0)
  refine rs_ [0, 1] ?_
  iterate 3 (refine dawp_p rfl (by (simp (disch := omega) only [push_cast, ↓reduceIte, Nat.reduceEqDiff, Nat.reduceAdd, Nat.reduceLeDiff, sx, ← List.map_drop]) <;> rfl) rfl rfl ?_)
  refine re_ (hf := by (simp (disch := omega) only [push_cast, ↓reduceIte, Nat.reduceEqDiff, Nat.reduceAdd, Nat.reduceLeDiff, sx, ← List.map_drop]) <;> rfl) (hh := by (try simp (disch := omega) only [push_cast, ↓reduceIte, Nat.reduceEqDiff, Nat.reduceAdd, Nat.reduceLeDiff, sx, ← List.map_drop]) <;> rfl) ?_
  refine sk_ fun K1 hK1 => ?_
  refine rs_ [0, 1, 36] ?_
  iterate 4 (refine dawp_p rfl (by (simp (disch := omega) only [push_cast, ↓reduceIte, Nat.reduceEqDiff, Nat.reduceAdd, Nat.reduceLeDiff, sx, ← List.map_drop]) <;> rfl) rfl rfl ?_)
  iterate 3 (refine dawp_g rfl rfl (by simp only [push_cast, ↓reduceIte, Nat.reduceEqDiff, Nat.reduceAdd, Nat.reduceLeDiff, sx, ← List.map_drop]; rfl) (fun hg => by have hg2 := hg; simp only [decide_eq_true_eq, decide_eq_false_iff_not, Bool.not_eq_true', Bool.not_eq_false', Bool.or_eq_true, Bool.and_eq_true, Bool.or_eq_false_iff, Bool.and_eq_false_imp, Int.not_lt, Int.not_le] at hg2; simp (disch := omega) only [hg, push_cast, ↓reduceIte, Nat.reduceEqDiff, Nat.reduceAdd, Nat.reduceLeDiff, sx, ← List.map_drop]; rfl) rfl rfl ?_)
  refine dawp_gh rfl rfl (by simp only [push_cast, ↓reduceIte, Nat.reduceEqDiff, Nat.reduceAdd, Nat.reduceLeDiff, sx, ← List.map_drop]; rfl) (fun hg => by have hg2 := hg; simp only [decide_eq_true_eq, decide_eq_false_iff_not, Bool.not_eq_true', Bool.not_eq_false', Bool.or_eq_true, Bool.and_eq_true, Bool.or_eq_false_iff, Bool.and_eq_false_imp, Int.not_lt, Int.not_le] at hg2; simp (disch := omega) only [hg, push_cast, ↓reduceIte, Nat.reduceEqDiff, Nat.reduceAdd, Nat.reduceLeDiff, sx, ← List.map_drop]; rfl) rfl rfl ?_
  refine dawp_g rfl rfl (by simp only [push_cast, ↓reduceIte, Nat.reduceEqDiff, Nat.reduceAdd, Nat.reduceLeDiff, sx, ← List.map_drop]; rfl) (fun hg => by have hg2 := hg; simp only [decide_eq_true_eq, decide_eq_false_iff_not, Bool.not_eq_true', Bool.not_eq_false', Bool.or_eq_true, Bool.and_eq_true, Bool.or_eq_false_iff, Bool.and_eq_false_imp, Int.not_lt, Int.not_le] at hg2; simp (disch := omega) only [hg, push_cast, ↓reduceIte, Nat.reduceEqDiff, Nat.reduceAdd, Nat.reduceLeDiff, sx, ← List.map_drop]; rfl) rfl rfl ?_
  iterate 2 (refine dawp_p rfl (by (simp (disch := omega) only [push_cast, ↓reduceIte, Nat.reduceEqDiff, Nat.reduceAdd, Nat.reduceLeDiff, sx, ← List.map_drop]) <;> rfl) rfl rfl ?_)
  iterate 3 (refine dawp_g rfl rfl (by simp only [push_cast, ↓reduceIte, Nat.reduceEqDiff, Nat.reduceAdd, Nat.reduceLeDiff, sx, ← List.map_drop]; rfl) (fun hg => by have hg2 := hg; simp only [decide_eq_true_eq, decide_eq_false_iff_not, Bool.not_eq_true', Bool.not_eq_false', Bool.or_eq_true, Bool.and_eq_true, Bool.or_eq_false_iff, Bool.and_eq_false_imp, Int.not_lt, Int.not_le] at hg2; simp (disch := omega) only [hg, push_cast, ↓reduceIte, Nat.reduceEqDiff, Nat.reduceAdd, Nat.reduceLeDiff, sx, ← List.map_drop]; rfl) rfl rfl ?_)
  refine dawp_gh rfl rfl (by simp only [push_cast, ↓reduceIte, Nat.reduceEqDiff, Nat.reduceAdd, Nat.reduceLeDiff, sx, ← List.map_drop]; rfl) (fun hg => by have hg2 := hg; simp only [decide_eq_true_eq, decide_eq_false_iff_not, Bool.not_eq_true', Bool.not_eq_false', Bool.or_eq_true, Bool.and_eq_true, Bool.or_eq_false_iff, Bool.and_eq_false_imp, Int.not_lt, Int.not_le] at hg2; simp (disch := omega) only [hg, push_cast, ↓reduceIte, Nat.reduceEqDiff, Nat.reduceAdd, Nat.reduceLeDiff, sx, ← List.map_drop]; rfl) rfl rfl ?_
  refine dawp_g rfl rfl (by simp only [push_cast, ↓reduceIte, Nat.reduceEqDiff, Nat.reduceAdd, Nat.reduceLeDiff, sx, ← List.map_drop]; rfl) (fun hg => by have hg2 := hg; simp only [decide_eq_true_eq, decide_eq_false_iff_not, Bool.not_eq_true', Bool.not_eq_false', Bool.or_eq_true, Bool.and_eq_true, Bool.or_eq_false_iff, Bool.and_eq_false_imp, Int.not_lt, Int.not_le] at hg2; simp (disch := omega) only [hg, push_cast, ↓reduceIte, Nat.reduceEqDiff, Nat.reduceAdd, Nat.reduceLeDiff, sx, ← List.map_drop]; rfl) rfl rfl ?_
  iterate 2 (refine dawp_p rfl (by (simp (disch := omega) only [push_cast, ↓reduceIte, Nat.reduceEqDiff, Nat.reduceAdd, Nat.reduceLeDiff, sx, ← List.map_drop]) <;> rfl) rfl rfl ?_)
  iterate 3 (refine dawp_g rfl rfl (by simp only [push_cast, ↓reduceIte, Nat.reduceEqDiff, Nat.reduceAdd, Nat.reduceLeDiff, sx, ← List.map_drop]; rfl) (fun hg => by have hg2 := hg; simp only [decide_eq_true_eq, decide_eq_false_iff_not, Bool.not_eq_true', Bool.not_eq_false', Bool.or_eq_true, Bool.and_eq_true, Bool.or_eq_false_iff, Bool.and_eq_false_imp, Int.not_lt, Int.not_le] at hg2; simp (disch := omega) only [hg, push_cast, ↓reduceIte, Nat.reduceEqDiff, Nat.reduceAdd, Nat.reduceLeDiff, sx, ← List.map_drop]; rfl) rfl rfl ?_)
  refine dawp_gh rfl rfl (by simp only [push_cast, ↓reduceIte, Nat.reduceEqDiff, Nat.reduceAdd, Nat.reduceLeDiff, sx, ← List.map_drop]; rfl) (fun hg => by have hg2 := hg; simp only [decide_eq_true_eq, decide_eq_false_iff_not, Bool.not_eq_true', Bool.not_eq_false', Bool.or_eq_true, Bool.and_eq_true, Bool.or_eq_false_iff, Bool.and_eq_false_imp, Int.not_lt, Int.not_le] at hg2; simp (disch := omega) only [hg, push_cast, ↓reduceIte, Nat.reduceEqDiff, Nat.reduceAdd, Nat.reduceLeDiff, sx, ← List.map_drop]; rfl) rfl rfl ?_
  refine dawp_g rfl rfl (by simp only [push_cast, ↓reduceIte, Nat.reduceEqDiff, Nat.reduceAdd, Nat.reduceLeDiff, sx, ← List.map_drop]; rfl) (fun hg => by have hg2 := hg; simp only [decide_eq_true_eq, decide_eq_false_iff_not, Bool.not_eq_true', Bool.not_eq_false', Bool.or_eq_true, Bool.and_eq_true, Bool.or_eq_false_iff, Bool.and_eq_false_imp, Int.not_lt, Int.not_le] at hg2; simp (disch := omega) only [hg, push_cast, ↓reduceIte, Nat.reduceEqDiff, Nat.reduceAdd, Nat.reduceLeDiff, sx, ← List.map_drop]; rfl) rfl rfl ?_
  refine dawp_p rfl (by (simp (disch := omega) only [push_cast, ↓reduceIte, Nat.reduceEqDiff, Nat.reduceAdd, Nat.reduceLeDiff, sx, ← List.map_drop]) <;> rfl) rfl rfl ?_
  refine re_ (hf := by (simp (disch := omega) only [push_cast, ↓reduceIte, Nat.reduceEqDiff, Nat.reduceAdd, Nat.reduceLeDiff, sx, ← List.map_drop]) <;> rfl) (hh := by (try simp (disch := omega) only [push_cast, ↓reduceIte, Nat.reduceEqDiff, Nat.reduceAdd, Nat.reduceLeDiff, sx, ← List.map_drop]) <;> rfl) ?_
  refine cb_ (hb := by (simp (disch := omega) only [push_cast, ↓reduceIte, Nat.reduceEqDiff, Nat.reduceAdd, Nat.reduceLeDiff, sx, ← List.map_drop]) <;> rfl) (ht := fun hb1 => ?_) (hf := fun hb1 => ?_)
  · refine rs_ [4, 5, 6] ?_
    iterate 3 (refine dawp_p rfl (by (simp (disch := omega) only [push_cast, ↓reduceIte, Nat.reduceEqDiff, Nat.reduceAdd, Nat.reduceLeDiff, sx, ← List.map_drop]) <;> rfl) rfl rfl ?_)
    refine re_ (hf := by (simp (disch := omega) only [push_cast, ↓reduceIte, Nat.reduceEqDiff, Nat.reduceAdd, Nat.reduceLeDiff, sx, ← List.map_drop]) <;> rfl) (hh := by (try simp (disch := omega) only [push_cast, ↓reduceIte, Nat.reduceEqDiff, Nat.reduceAdd, Nat.reduceLeDiff, sx, ← List.map_drop]) <;> rfl) ?_
    refine awp_ret (up_ ?_)
    refine fp_ (hres := by (simp (disch := omega) only [aresults, aresult, push_cast, ↓reduceIte, Nat.reduceEqDiff, Nat.reduceAdd, Nat.reduceLeDiff, sx, ← List.map_drop]) <;> rfl) Tryz.results24 (hK := ?_)
    unfold buildF; rw [hb1, cond_true]; exact ⟨rfl, [], _, rfl, (List.append_nil _).symm, rfl, rfl, trivial, hH⟩
  have hb1' := hb1
  simp only [decide_eq_true_eq, decide_eq_false_iff_not, Bool.not_eq_true', Bool.not_eq_false', Bool.or_eq_true, Bool.and_eq_true, Bool.or_eq_false_iff, Bool.and_eq_false_imp, Int.not_lt, Int.not_le] at hb1'
  refine awp_skip (up_ ?_)
  refine hK1 _ ?_
  refine rs_ [1, 7] ?_
  refine dawp_p rfl (by (simp (disch := omega) only [push_cast, ↓reduceIte, Nat.reduceEqDiff, Nat.reduceAdd, Nat.reduceLeDiff, sx, ← List.map_drop]) <;> rfl) rfl rfl ?_
  refine dawp_w rfl rfl rfl rfl (AOp.callx _ _ _ rfl (by (simp (disch := omega) only [push_cast, ↓reduceIte, Nat.reduceEqDiff, Nat.reduceAdd, Nat.reduceLeDiff, sx, ← List.map_drop]) <;> rfl) (by (simp (disch := omega) only [push_cast, ↓reduceIte, Nat.reduceEqDiff, Nat.reduceAdd, Nat.reduceLeDiff, sx, ← List.map_drop]) <;> rfl) ?_)
  refine (c57 room _ _).mono ?_; rintro _ _ _ ⟨rfl, rfl, rfl⟩
  refine dawp_p rfl (by (simp (disch := omega) only [push_cast, ↓reduceIte, Nat.reduceEqDiff, Nat.reduceAdd, Nat.reduceLeDiff, sx, ← List.map_drop]) <;> rfl) rfl rfl ?_
  refine re_ (hf := by (simp (disch := omega) only [push_cast, ↓reduceIte, Nat.reduceEqDiff, Nat.reduceAdd, Nat.reduceLeDiff, sx, ← List.map_drop]) <;> rfl) (hh := by (try simp (disch := omega) only [push_cast, ↓reduceIte, Nat.reduceEqDiff, Nat.reduceAdd, Nat.reduceLeDiff, sx, ← List.map_drop]) <;> rfl) ?_
  refine sk_ fun K2 hK2 => ?_
  refine rs_ [1, 7, 9] ?_
  iterate 3 (refine dawp_p rfl (by (simp (disch := omega) only [push_cast, ↓reduceIte, Nat.reduceEqDiff, Nat.reduceAdd, Nat.reduceLeDiff, sx, ← List.map_drop]) <;> rfl) rfl rfl ?_)
  refine dawp_h rfl (by (simp (disch := omega) only [push_cast, ↓reduceIte, Nat.reduceEqDiff, Nat.reduceAdd, Nat.reduceLeDiff, sx, ← List.map_drop]) <;> rfl) rfl rfl ?_
  refine dawp_w rfl rfl rfl rfl (AOp.callx _ _ _ rfl (by (simp (disch := omega) only [push_cast, ↓reduceIte, Nat.reduceEqDiff, Nat.reduceAdd, Nat.reduceLeDiff, sx, ← List.map_drop]) <;> rfl) (by (simp (disch := omega) only [push_cast, ↓reduceIte, Nat.reduceEqDiff, Nat.reduceAdd, Nat.reduceLeDiff, sx, ← List.map_drop]) <;> rfl) ?_)
  refine (c58 _ _ _).mono ?_; rintro _ _ _ ⟨rfl, rfl, rfl⟩
  refine dawp_w rfl rfl rfl rfl (AOp.callx _ _ _ rfl (by (simp (disch := omega) only [push_cast, ↓reduceIte, Nat.reduceEqDiff, Nat.reduceAdd, Nat.reduceLeDiff, sx, ← List.map_drop]) <;> rfl) (by (simp (disch := omega) only [push_cast, ↓reduceIte, Nat.reduceEqDiff, Nat.reduceAdd, Nat.reduceLeDiff, sx, ← List.map_drop]) <;> rfl) ?_)
  refine (c39 (newT room) h.length (madeF (l.getD 0 rw0)) _ _ (by simp only [push_cast]) (newT_ok _) (madeF_ok h0ok)).mono ?_; rintro _ _ _ ⟨rfl, rfl, rfl⟩
  iterate 5 (refine dawp_p rfl (by (simp (disch := omega) only [push_cast, ↓reduceIte, Nat.reduceEqDiff, Nat.reduceAdd, Nat.reduceLeDiff, sx, ← List.map_drop]) <;> rfl) rfl rfl ?_)
  refine re_ (hf := by (simp (disch := omega) only [push_cast, ↓reduceIte, Nat.reduceEqDiff, Nat.reduceAdd, Nat.reduceLeDiff, sx, ← List.map_drop]) <;> rfl) (hh := by (try simp (disch := omega) only [push_cast, ↓reduceIte, Nat.reduceEqDiff, Nat.reduceAdd, Nat.reduceLeDiff, sx, ← List.map_drop]) <;> rfl) ?_
  refine rs_ [1, 7, 9, 49] ?_
  iterate 2 (refine dawp_p rfl (by (simp (disch := omega) only [push_cast, ↓reduceIte, Nat.reduceEqDiff, Nat.reduceAdd, Nat.reduceLeDiff, sx, ← List.map_drop]) <;> rfl) rfl rfl ?_)
  refine re_ (hf := by (simp (disch := omega) only [push_cast, ↓reduceIte, Nat.reduceEqDiff, Nat.reduceAdd, Nat.reduceLeDiff, sx, ← List.map_drop]) <;> rfl) (hh := by (try simp (disch := omega) only [push_cast, ↓reduceIte, Nat.reduceEqDiff, Nat.reduceAdd, Nat.reduceLeDiff, sx, ← List.map_drop]) <;> rfl) ?_
  refine cd_ (hb := by (simp (disch := omega) only [push_cast, ↓reduceIte, Nat.reduceEqDiff, Nat.reduceAdd, Nat.reduceLeDiff, sx, ← List.map_drop]) <;> rfl) (ht := fun hb2 => ?_) (hf := fun hb2 => ?_)
  · refine rs_ [4, 5, 6] ?_
    iterate 4 (refine dawp_p rfl (by (simp (disch := omega) only [push_cast, ↓reduceIte, Nat.reduceEqDiff, Nat.reduceAdd, Nat.reduceLeDiff, sx, ← List.map_drop]) <;> rfl) rfl rfl ?_)
    refine re_ (hf := by (simp (disch := omega) only [push_cast, ↓reduceIte, Nat.reduceEqDiff, Nat.reduceAdd, Nat.reduceLeDiff, sx, ← List.map_drop]) <;> rfl) (hh := by (try simp (disch := omega) only [push_cast, ↓reduceIte, Nat.reduceEqDiff, Nat.reduceAdd, Nat.reduceLeDiff, sx, ← List.map_drop]) <;> rfl) ?_
    refine awp_ret (up_ ?_)
    refine fp_ (hres := by (simp (disch := omega) only [aresults, aresult, push_cast, ↓reduceIte, Nat.reduceEqDiff, Nat.reduceAdd, Nat.reduceLeDiff, sx, ← List.map_drop]) <;> rfl) Tryz.results24 (hK := ?_)
    unfold buildF; rw [hb1, cond_false, if_pos hb2]; exact ⟨rfl, [], _, rfl, (List.append_nil _).symm, rfl, rfl, trivial, hH⟩
  refine awp_skip (up_ ?_)
  refine hK2 _ ?_
  refine sk_ fun K3 hK3 => ?_
  refine rs_ [7, 52, 53, 54] ?_
  iterate 4 (refine dawp_p rfl (by (simp (disch := omega) only [push_cast, ↓reduceIte, Nat.reduceEqDiff, Nat.reduceAdd, Nat.reduceLeDiff, sx, ← List.map_drop]) <;> rfl) rfl rfl ?_)
  refine re_ (hf := by (simp (disch := omega) only [push_cast, ↓reduceIte, Nat.reduceEqDiff, Nat.reduceAdd, Nat.reduceLeDiff, sx, ← List.map_drop]) <;> rfl) (hh := by (try simp (disch := omega) only [push_cast, ↓reduceIte, Nat.reduceEqDiff, Nat.reduceAdd, Nat.reduceLeDiff, sx, ← List.map_drop]) <;> rfl) ?_
  refine awp_block ?_
  refine awp_loop' (X := {p : Nat × Tab // p.1 ≤ (l.drop 1).length ∧ p.2.Ok ∧ restF (addT (newT room) (madeF (l.getD 0 rw0))).2 0 (l.drop 1) = restF p.2 p.1 ((l.drop 1).drop p.1)}) (fun x => ⟨Tryz.f24.ntmps, fget [(7, .ptr h.length 0), (52, .slice ((l.drop 1).map rV) .none), (53, .int .i64 ((l.drop 1).length : Nat)), (54, .int .i64 (x.1.1 : Nat))], h ++ [tabBlk x.1.2], live⟩) (fun x => (l.drop 1).length - x.1.1) (⟨⟨0, (addT (newT room) (madeF (l.getD 0 rw0))).2⟩, Nat.zero_le _, hT1, rfl⟩) ?_ (by first | rfl | simp only [List.length_set]) (fun ⟨⟨i, T⟩, hi, hT, hrest⟩ => ?_)
  · try dsimp only
    refine Trunc.of (by first | exact (List.append_nil _).symm | exact rfl | (rw [List.append_assoc]; rfl)) ?_ (hcl_new hH _) (fun _ h => h)
    refine FTr.cons (by first | rfl | ((simp (disch := omega) only [push_cast, ↓reduceIte, Nat.reduceEqDiff, Nat.reduceAdd, Nat.reduceLeDiff, sx, ← List.map_drop]) <;> rfl)) (by first | trivial | exact clL_rV _ _ | simp [AV.cl, AV.clL]) ?_
    refine FTr.cons (by first | rfl | ((simp (disch := omega) only [push_cast, ↓reduceIte, Nat.reduceEqDiff, Nat.reduceAdd, Nat.reduceLeDiff, sx, ← List.map_drop]) <;> rfl)) (by first | trivial | exact clL_rV _ _ | simp [AV.cl, AV.clL]) ?_
    refine FTr.cons (by first | rfl | ((simp (disch := omega) only [push_cast, ↓reduceIte, Nat.reduceEqDiff, Nat.reduceAdd, Nat.reduceLeDiff, sx, ← List.map_drop]) <;> rfl)) (by first | trivial | exact clL_rV _ _ | simp [AV.cl, AV.clL]) ?_
    refine FTr.cons (by first | rfl | ((simp (disch := omega) only [push_cast, ↓reduceIte, Nat.reduceEqDiff, Nat.reduceAdd, Nat.reduceLeDiff, sx, ← List.map_drop]) <;> rfl)) (by first | trivial | exact clL_rV _ _ | simp [AV.cl, AV.clL]) ?_
    exact FTr.nil
  try dsimp only
  dsimp only at hi hT hrest
  have hri := getD_ok hL i
  refine rs_ [7, 52, 53, 54, 55] ?_
  refine dawp_p rfl (by (simp (disch := omega) only [push_cast, ↓reduceIte, Nat.reduceEqDiff, Nat.reduceAdd, Nat.reduceLeDiff, sx, ← List.map_drop]) <;> rfl) rfl rfl ?_
  refine re_ (hf := by (simp (disch := omega) only [push_cast, ↓reduceIte, Nat.reduceEqDiff, Nat.reduceAdd, Nat.reduceLeDiff, sx, ← List.map_drop]) <;> rfl) (hh := by (try simp (disch := omega) only [push_cast, ↓reduceIte, Nat.reduceEqDiff, Nat.reduceAdd, Nat.reduceLeDiff, sx, ← List.map_drop]) <;> rfl) ?_
  refine sk_ fun K4 hK4 => ?_
  refine cd_ (hb := by (simp (disch := omega) only [push_cast, ↓reduceIte, Nat.reduceEqDiff, Nat.reduceAdd, Nat.reduceLeDiff, sx, ← List.map_drop]) <;> rfl) (ht := fun hb3 => ?_) (hf := fun hb3 => ?_)
  rotate_left
  · have hie : i = (l.drop 1).length := by omega
    subst hie
    refine awp_exit (up_ ?_)
    refine hK3 _ ?_
    refine rs_ [4, 5, 6] ?_
    iterate 4 (refine dawp_p rfl (by (simp (disch := omega) only [push_cast, ↓reduceIte, Nat.reduceEqDiff, Nat.reduceAdd, Nat.reduceLeDiff, sx, ← List.map_drop]) <;> rfl) rfl rfl ?_)
    refine re_ (hf := by (simp (disch := omega) only [push_cast, ↓reduceIte, Nat.reduceEqDiff, Nat.reduceAdd, Nat.reduceLeDiff, sx, ← List.map_drop]) <;> rfl) (hh := by (try simp (disch := omega) only [push_cast, ↓reduceIte, Nat.reduceEqDiff, Nat.reduceAdd, Nat.reduceLeDiff, sx, ← List.map_drop]) <;> rfl) ?_
    refine awp_ret (up_ ?_)
    refine fg_ (h1 := h ++ [tabBlk T]) (hres := by (simp (disch := omega) only [aresults, aresult, push_cast, ↓reduceIte, Nat.reduceEqDiff, Nat.reduceAdd, Nat.reduceLeDiff, sx, ← List.map_drop]) <;> rfl) Tryz.results24 (hH := (hcl_new hH _)) (hK := ?_)
    unfold buildF; rw [hb1, cond_false, if_neg (fun h => h hb2), hrest, List.drop_length]; exact ⟨rfl, [tabBlk T], _, rfl, rfl, ⟨h.length, rfl, by simp⟩, rfl, by simp [AV.cl], hcl_new hH _⟩
  have hil : i < (l.drop 1).length := by omega
  refine awp_skip (up_ ?_)
  refine hK4 _ ?_
  refine sk_ fun K5 hK5 => ?_
  refine awp_block ?_
  refine rs_ [7, 10, 11, 52, 53, 54] ?_
  iterate 2 (refine dawp_p rfl (by (simp (disch := omega) only [push_cast, ↓reduceIte, Nat.reduceEqDiff, Nat.reduceAdd, Nat.reduceLeDiff, sx, ← List.map_drop]) <;> rfl) rfl rfl ?_)
  iterate 2 (refine dawp_h rfl (by (simp (disch := omega) only [push_cast, ↓reduceIte, Nat.reduceEqDiff, Nat.reduceAdd, Nat.reduceLeDiff, sx, ← List.map_drop]) <;> rfl) rfl rfl ?_)
  refine dawp_p rfl (by (simp (disch := omega) only [push_cast, ↓reduceIte, Nat.reduceEqDiff, Nat.reduceAdd, Nat.reduceLeDiff, sx, ← List.map_drop]) <;> rfl) rfl rfl ?_
  refine dawp_hn rfl (by (simp (disch := omega) only [push_cast, ↓reduceIte, Nat.reduceEqDiff, Nat.reduceAdd, Nat.reduceLeDiff, sx, ← List.map_drop]) <;> rfl) rfl ?_
  refine re_ (hf := by (simp (disch := omega) only [push_cast, ↓reduceIte, Nat.reduceEqDiff, Nat.reduceAdd, Nat.reduceLeDiff, sx, ← List.map_drop]) <;> rfl) (hh := by (try simp (disch := omega) only [push_cast, ↓reduceIte, Nat.reduceEqDiff, Nat.reduceAdd, Nat.reduceLeDiff, sx, ← List.map_drop]) <;> rfl) ?_
  refine rs_ [7, 10, 12, 52, 53, 54] ?_
  refine dawp_h rfl (by (simp (disch := omega) only [push_cast, ↓reduceIte, Nat.reduceEqDiff, Nat.reduceAdd, Nat.reduceLeDiff, sx, ← List.map_drop]) <;> rfl) rfl rfl ?_
  refine dawp_p rfl (by (simp (disch := omega) only [push_cast, ↓reduceIte, Nat.reduceEqDiff, Nat.reduceAdd, Nat.reduceLeDiff, sx, ← List.map_drop]) <;> rfl) rfl rfl ?_
  refine dawp_w rfl rfl rfl rfl (AOp.callx _ _ _ rfl (by (simp (disch := omega) only [push_cast, ↓reduceIte, Nat.reduceEqDiff, Nat.reduceAdd, Nat.reduceLeDiff, sx, ← List.map_drop]) <;> rfl) (by (simp (disch := omega) only [push_cast, ↓reduceIte, Nat.reduceEqDiff, Nat.reduceAdd, Nat.reduceLeDiff, sx, ← List.map_drop]) <;> rfl) ?_)
  refine (c59 T h.length ((l.drop 1).getD i rw0) _ _ (by simp only [push_cast]) hT hri).mono ?_; rintro _ _ _ ⟨rfl, rfl, rfl⟩
  refine dawp_p rfl (by (simp (disch := omega) only [push_cast, ↓reduceIte, Nat.reduceEqDiff, Nat.reduceAdd, Nat.reduceLeDiff, sx, ← List.map_drop]) <;> rfl) rfl rfl ?_
  refine re_ (hf := by (simp (disch := omega) only [push_cast, ↓reduceIte, Nat.reduceEqDiff, Nat.reduceAdd, Nat.reduceLeDiff, sx, ← List.map_drop]) <;> rfl) (hh := by (try simp (disch := omega) only [push_cast, ↓reduceIte, Nat.reduceEqDiff, Nat.reduceAdd, Nat.reduceLeDiff, sx, ← List.map_drop]) <;> rfl) ?_
  refine rs_ [7, 10, 12, 52, 53, 54, 63] ?_
  iterate 2 (refine dawp_p rfl (by (simp (disch := omega) only [push_cast, ↓reduceIte, Nat.reduceEqDiff, Nat.reduceAdd, Nat.reduceLeDiff, sx, ← List.map_drop]) <;> rfl) rfl rfl ?_)
  refine re_ (hf := by (simp (disch := omega) only [push_cast, ↓reduceIte, Nat.reduceEqDiff, Nat.reduceAdd, Nat.reduceLeDiff, sx, ← List.map_drop]) <;> rfl) (hh := by (try simp (disch := omega) only [push_cast, ↓reduceIte, Nat.reduceEqDiff, Nat.reduceAdd, Nat.reduceLeDiff, sx, ← List.map_drop]) <;> rfl) ?_
  refine cd_ (hb := by (simp (disch := omega) only [push_cast, ↓reduceIte, Nat.reduceEqDiff, Nat.reduceAdd, Nat.reduceLeDiff, sx, ← List.map_drop]) <;> rfl) (ht := fun hb4 => ?_) (hf := fun hb4 => ?_)
  · refine rs_ [4, 5, 6] ?_
    iterate 6 (refine dawp_p rfl (by (simp (disch := omega) only [push_cast, ↓reduceIte, Nat.reduceEqDiff, Nat.reduceAdd, Nat.reduceLeDiff, sx, ← List.map_drop]) <;> rfl) rfl rfl ?_)
    refine re_ (hf := by (simp (disch := omega) only [push_cast, ↓reduceIte, Nat.reduceEqDiff, Nat.reduceAdd, Nat.reduceLeDiff, sx, ← List.map_drop]) <;> rfl) (hh := by (try simp (disch := omega) only [push_cast, ↓reduceIte, Nat.reduceEqDiff, Nat.reduceAdd, Nat.reduceLeDiff, sx, ← List.map_drop]) <;> rfl) ?_
    refine awp_ret (up_ ?_)
    refine fp_ (hres := by (simp (disch := omega) only [aresults, aresult, push_cast, ↓reduceIte, Nat.reduceEqDiff, Nat.reduceAdd, Nat.reduceLeDiff, sx, ← List.map_drop]) <;> rfl) Tryz.results24 (hK := ?_)
    unfold buildF; rw [hb1, cond_false, if_neg (fun h => h hb2), hrest, restF_get T i hil, if_pos hb4]; exact ⟨rfl, [], _, rfl, (List.append_nil _).symm, rfl, rfl, trivial, hH⟩
  refine awp_skip (up_ ?_)
  refine hK5 _ ?_
  refine rt_ [7, 52, 53, 54] ?_
  iterate 2 (refine dawp_p rfl (by (simp (disch := omega) only [push_cast, ↓reduceIte, Nat.reduceEqDiff, Nat.reduceAdd, Nat.reduceLeDiff, sx, ← List.map_drop]) <;> rfl) rfl rfl ?_)
  refine rn_ (hf := by (simp (disch := omega) only [push_cast, ↓reduceIte, Nat.reduceEqDiff, Nat.reduceAdd, Nat.reduceLeDiff, sx, ← List.map_drop]) <;> rfl) (hh := by (try simp (disch := omega) only [push_cast, ↓reduceIte, Nat.reduceEqDiff, Nat.reduceAdd, Nat.reduceLeDiff, sx, ← List.map_drop]) <;> rfl) (up_ ?_)
  refine ⟨⟨⟨i + 1, (oneF T ((l.drop 1).getD i rw0)).2⟩, by dsimp only; omega, oneF_ok hT hri, by rw [hrest, restF_get T i hil, if_neg (fun h => h hb4)]⟩, ?_, (by first | rfl | trivial | (simp only [List.length_set]; done) | simp), by dsimp only; omega⟩
  try dsimp only
  refine Trunc.of (by first | exact (List.append_nil _).symm | exact rfl | (rw [List.append_assoc]; rfl)) ?_ (hcl_new hH _) (fun _ h => h)
  refine FTr.cons (by (simp (disch := omega) only [push_cast, ↓reduceIte, Nat.reduceEqDiff, Nat.reduceAdd, Nat.reduceLeDiff, sx, ← List.map_drop]) <;> first | rfl | (congr 2; omega)) (by first | trivial | exact clL_rV _ _ | simp [AV.cl, AV.clL]) ?_
  refine FTr.cons (by (simp (disch := omega) only [push_cast, ↓reduceIte, Nat.reduceEqDiff, Nat.reduceAdd, Nat.reduceLeDiff, sx, ← List.map_drop]) <;> first | rfl | (congr 2; omega)) (by first | trivial | exact clL_rV _ _ | simp [AV.cl, AV.clL]) ?_
  refine FTr.cons (by (simp (disch := omega) only [push_cast, ↓reduceIte, Nat.reduceEqDiff, Nat.reduceAdd, Nat.reduceLeDiff, sx, ← List.map_drop]) <;> first | rfl | (congr 2; omega)) (by first | trivial | exact clL_rV _ _ | simp [AV.cl, AV.clL]) ?_
  refine FTr.cons (by (simp (disch := omega) only [push_cast, ↓reduceIte, Nat.reduceEqDiff, Nat.reduceAdd, Nat.reduceLeDiff, sx, ← List.map_drop]) <;> first | rfl | (congr 2; omega)) (by first | trivial | exact clL_rV _ _ | simp [AV.cl, AV.clL]) ?_
  exact FTr.nil


def bigR (r : Rw) : Bool := decide ((40 : Int) < r.name.length) || decide ((100 : Int) < r.data.length) || decide ((100 : Int) < r.target.length)
def builtF (room : Int) (l : List Rw) (c : Cr) : Option Tab :=
  bif (decide ((50 : Int) < l.length) || decide ((10 : Int) < c.gs.length)) then none
  else bif l.any bigR then none else match buildF room l with
    | .inl _ => none
    | .inr T => some T
theorem builtF_ok {room : Int} {l : List Rw} {c : Cr} {T : Tab} (h : builtF room l c = some T) : T.Ok ∧ c.gs.length ≤ 10 := by
  unfold builtF at h
  cases h1 : (decide ((50 : Int) < l.length) || decide ((10 : Int) < c.gs.length)) with
  | true => rw [h1] at h; cases h
  | false =>
    rw [h1, cond_false] at h
    cases h2 : l.any bigR with
    | true => rw [h2] at h; cases h
    | false =>
      rw [h2, cond_false] at h
      split at h
      · cases h
      · rename_i T' hT
        cases h
        simp only [Bool.or_eq_false_iff, decide_eq_false_iff_not, Int.not_lt] at h1
        refine ⟨buildF_ok (fun r hr => ?_) hT, by omega⟩
        have := List.any_eq_false.1 h2 r hr
        simp only [bigR, Bool.not_eq_true, Bool.or_eq_false_iff, decide_eq_false_iff_not, Int.not_lt] at this
        exact ⟨by omega, by omega, by omega⟩
theorem any_getD_f {α : Type} {p : α → Bool} {l : List α} (d : α) (h : ∀ j, j < l.length → p (l.getD j d) = false) : l.any p = false := by
  rw [List.any_eq_false]
  intro x hx
  obtain ⟨j, hj, rfl⟩ := List.mem_iff_getElem.1 hx
  have := h j hj
  simp [List.getD_eq_getElem?_getD, hj] at this
  simp [this]
theorem any_getD_t {α : Type} {p : α → Bool} {l : List α} (d : α) {j : Nat} (hj : j < l.length) (h : p (l.getD j d) = true) : l.any p = true := by
  rw [List.any_eq_true]
  exact ⟨l.getD j d, by simp [List.getD_eq_getElem?_getD, hj], h⟩
theorem small_ok {l : List Rw} (h : l.any bigR = false) : ∀ r ∈ l, RwOk r := fun r hr => by
  have := List.any_eq_false.1 h r hr
  simp only [bigR, Bool.not_eq_true, Bool.or_eq_false_iff, decide_eq_false_iff_not, Int.not_lt] at this
  exact ⟨by omega, by omega, by omega⟩
def builtK (h : List Blk) (live : List Nat) (o : Option Tab) : KT := fun x h' l' => l' = live ∧ ∃ g p, x = .tup [p, .bool o.isSome] ∧ h' = h ++ g ∧ p.cl h'.length ∧ ∀ T, o = some T → ∃ k, p = .ptr k 0 ∧ h'[k]? = some (tabBlk T)

theorem c7 (room : Int) (l : List Rw) (c : Cr) (h : List Blk) (live : List Nat) (hn : l.length ≤ 9223372036854775807) (hgs : c.gs.length ≤ 9223372036854775807) : ACalls Tryz.prog 7 [.int .i64 room, .slice (l.map rV) .none, .agg [.int .i64 c.uid, .int .i64 c.gid, .slice (c.gs.map iV) .none]] h live (builtK h live (builtF room l c)) := by
  refine ab_ Tryz.func7 (hw := fun hH hX => ?_)
  have hB : HCl (h ++ [.cells [.int .i64 c.uid, .int .i64 c.gid, .slice (c.gs.map iV) .none]]) := HCl.snoc hH (by simp [Blk.cl, AV.cl, AV.clL, clL_iV, -List.map_map])
  have sx := sx0
  refine rg_ [0, 1, 5] ?_
  refine sk_ fun K1 hK1 => ?_
  refine rg_ [0, 1, 20] ?_
  refine cb_ (ht := fun hb1 => ?_) (hf := fun hb1 => ?_)
  · refine rg_ [6, 7] ?_
    refine awp_ret (up_ ?_)
    refine fp_ Tryz.results7 (hK := ?_)
    unfold builtF; rw [hb1, cond_true]; exact ⟨rfl, [], _, rfl, (List.append_nil _).symm, trivial, fun T hT => by cases hT⟩
  have hb1' := hb1
  simp only [decide_eq_true_eq, decide_eq_false_iff_not, Bool.not_eq_true', Bool.not_eq_false', Bool.or_eq_true, Bool.and_eq_true, Bool.or_eq_false_iff, Bool.and_eq_false_imp, Int.not_lt, Int.not_le] at hb1'
  refine awp_skip (up_ ?_)
  refine hK1 _ ?_
  refine sk_ fun K2 hK2 => ?_
  refine rg_ [0, 1, 8] ?_
  refine awp_block ?_
  refine awp_loop' (X := {i : Nat // i ≤ l.length ∧ ∀ j, j < i → bigR (l.getD j rw0) = false}) (fun x => ⟨Tryz.f7.ntmps, fget [(0, .int .i64 room), (1, .slice (l.map rV) .none), (8, .int .i64 (x.1 : Nat))], h ++ [.cells [.int .i64 c.uid, .int .i64 c.gid, .slice (c.gs.map iV) .none]], live⟩) (fun x => l.length - x.1) (⟨0, by omega, fun j hj => by omega⟩) ?_ (by first | rfl | simp only [List.length_set]) (fun ⟨i, hi, hno⟩ => ?_)
  · try dsimp only
    refine Trunc.of (by first | exact (List.append_nil _).symm | exact rfl | (rw [List.append_assoc]; rfl)) ?_ hB (fun _ h => h)
    refine FTr.cons (by first | rfl | ((simp (disch := omega) only [push_cast, ↓reduceIte, Nat.reduceEqDiff, Nat.reduceAdd, Nat.reduceLeDiff, sx]) <;> rfl)) (by first | trivial | exact clL_rV _ _ | simp [AV.cl, AV.clL]) ?_
    refine FTr.cons (by first | rfl | ((simp (disch := omega) only [push_cast, ↓reduceIte, Nat.reduceEqDiff, Nat.reduceAdd, Nat.reduceLeDiff, sx]) <;> rfl)) (by first | trivial | exact clL_rV _ _ | simp [AV.cl, AV.clL]) ?_
    refine FTr.cons (by first | rfl | ((simp (disch := omega) only [push_cast, ↓reduceIte, Nat.reduceEqDiff, Nat.reduceAdd, Nat.reduceLeDiff, sx]) <;> rfl)) (by first | trivial | exact clL_rV _ _ | simp [AV.cl, AV.clL]) ?_
    exact FTr.nil
  try dsimp only
  refine sk_ fun K3 hK3 => ?_
  refine rg_ [0, 1, 8, 24] ?_
  refine cd_ (ht := fun hb2 => ?_) (hf := fun hb2 => ?_)
  rotate_left
  · have hie : i = l.length := by omega
    subst hie
    have hal : l.any bigR = false := any_getD_f rw0 hno
    have hok := small_ok hal
    refine awp_exit (up_ ?_)
    refine hK2 _ ?_
    refine rs_ [9, 11] ?_
    refine sg_ ?_
    refine ck_ (k := ?_)
    refine (c24 room l _ _ hok (by omega)).mono ?_; rintro _ _ _ ⟨rfl, g, p, rfl, rfl, hbp, hper, hpc, hHg⟩
    refine sg_ ?_
    refine re_ ?_
    refine rg_ [6, 7] ?_
    refine awp_ret (up_ ?_)
    refine fin_gen (h1 := h ++ ([.cells [.int .i64 c.uid, .int .i64 c.gid, .slice (c.gs.map iV) .none]] ++ g)) (live := _) (by (simp (disch := omega) only [Tryz.results7, aresults, aresult, push_cast, ↓reduceIte, Nat.reduceEqDiff, Nat.reduceAdd, Nat.reduceLeDiff]) <;> rfl) (.inr (by simp only [atuple, AV.er, AV.erL, hper]; rfl)) (by simp only [AV.cl, AV.clL]; rw [← List.append_assoc]; exact ⟨hpc, trivial, trivial⟩) (⟨[], by simp⟩) (by rw [← List.append_assoc]; exact hHg) (by simp) (fun _ h => h) ?_
    refine ⟨rfl, _, p, ?_, rfl, by rw [← List.append_assoc]; exact hpc, fun T hT => ?_⟩
    · unfold builtF
      rw [hb1, cond_false, hal, cond_false]
      show AV.tup [p, .bool (decide (bE (buildF room l) = 0))] = _
      cases ho : buildF room l with
      | inl x => have := buildF_err ho; exact congrArg (fun b => AV.tup [p, .bool b]) (decide_eq_false this)
      | inr T => rfl
    · unfold builtF at hT
      rw [hb1, cond_false, hal, cond_false] at hT
      cases ho : buildF room l with
      | inl x => rw [ho] at hT; cases hT
      | inr T' => rw [ho] at hT hbp; cases hT; rw [← List.append_assoc]; exact hbp
  have hil : i < l.length := by omega
  refine awp_skip (up_ ?_)
  refine hK3 _ ?_
  refine sk_ fun K4 hK4 => ?_
  refine awp_block ?_
  refine rg_ [0, 1, 8, 51] ?_
  refine cb_ (ht := fun hb3 => ?_) (hf := fun hb3 => ?_)
  · have hal : l.any bigR = true := any_getD_t rw0 hil hb3
    refine rg_ [6, 7] ?_
    refine awp_ret (up_ ?_)
    refine fp_ Tryz.results7 (hK := ?_)
    unfold builtF; rw [hb1, cond_false, hal, cond_true]; exact ⟨rfl, [], _, rfl, (List.append_nil _).symm, trivial, fun T hT => by cases hT⟩
  refine awp_skip (up_ ?_)
  refine hK4 _ ?_
  refine rt_ [0, 1, 8] ?_
  refine sg_ ?_
  refine rn_ (up_ ?_)
  refine ⟨⟨i + 1, by omega, fun j hj => by rcases Nat.lt_succ_iff_lt_or_eq.1 hj with h | h; exact hno j h; subst h; exact hb3⟩, ?_, (by first | rfl | trivial | (simp only [List.length_set]; done) | simp), by dsimp only; omega⟩
  try dsimp only
  refine Trunc.of (by first | exact (List.append_nil _).symm | exact rfl | (rw [List.append_assoc]; rfl)) ?_ hB (fun _ h => h)
  refine FTr.cons (by (simp (disch := omega) only [push_cast, ↓reduceIte, Nat.reduceEqDiff, Nat.reduceAdd, Nat.reduceLeDiff, sx]) <;> first | rfl | (congr 2; omega)) (by first | trivial | exact clL_rV _ _ | simp [AV.cl, AV.clL]) ?_
  refine FTr.cons (by (simp (disch := omega) only [push_cast, ↓reduceIte, Nat.reduceEqDiff, Nat.reduceAdd, Nat.reduceLeDiff, sx]) <;> first | rfl | (congr 2; omega)) (by first | trivial | exact clL_rV _ _ | simp [AV.cl, AV.clL]) ?_
  refine FTr.cons (by (simp (disch := omega) only [push_cast, ↓reduceIte, Nat.reduceEqDiff, Nat.reduceAdd, Nat.reduceLeDiff, sx]) <;> first | rfl | (congr 2; omega)) (by first | trivial | exact clL_rV _ _ | simp [AV.cl, AV.clL]) ?_
  exact FTr.nil

end Go.Proofs.YtjoklidphbmpoaaGreat
