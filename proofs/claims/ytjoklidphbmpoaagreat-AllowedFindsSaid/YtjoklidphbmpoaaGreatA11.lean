import Derived.Test.YtjoklidphbmpoaaGreatA10
/-
  TABLES: the document's answers.
-/
namespace Go.Proofs.YtjoklidphbmpoaaGreat
open Go.Ab
set_option linter.unusedVariables false
set_option linter.unusedSimpArgs false
set_option maxRecDepth 8000
set_option maxHeartbeats 400000


def refL (T : Tab) : List Nd := T.ns.take T.room.toNat
/-- The document's table, behind so many nodes. -/
def stL (T : Tab) (m : Nat) : List Nd := T.ns.take m ++ List.replicate (T.room.toNat - m) nd0
theorem refL_len {T : Tab} (hT : T.Ok) : (refL T).length = T.room.toNat := by
  have h1 := hT.len; have h2 := hT.hi; have h3 := hT.lo
  unfold refL; rw [List.length_take]; omega
theorem stL_len {T : Tab} (hT : T.Ok) {m : Nat} (hm : m ≤ T.room.toNat) : (stL T m).length = T.room.toNat := by
  have h1 := hT.len; have h2 := hT.hi; have h3 := hT.lo
  unfold stL; rw [List.length_append, List.length_take, List.length_replicate]; omega
theorem stL_all {T : Tab} : stL T T.room.toNat = refL T := by
  unfold stL refL; rw [Nat.sub_self]; simp
theorem stL_0 (T : Tab) : stL T 0 = List.replicate T.room.toNat nd0 := by unfold stL; simp
theorem stL_set {T : Tab} (hT : T.Ok) {m : Nat} (hm : m < T.room.toNat) : (stL T m).set m (T.ns.getD m nd0) = stL T (m + 1) := by
  have h1 := hT.len; have h2 := hT.hi; have h3 := hT.lo
  unfold stL
  rw [List.set_append_right _ _ (by rw [List.length_take]; omega), List.length_take, Nat.min_eq_left (by omega), Nat.sub_self,
    show T.room.toNat - m = (T.room.toNat - (m + 1)) + 1 by omega, List.replicate_succ, List.set_cons_zero, List.take_succ_eq_append_getElem (show m < T.ns.length by omega), List.append_assoc, List.singleton_append, List.getD_eq_getElem?_getD, List.getElem?_eq_getElem (show m < T.ns.length by omega), Option.getD_some]
theorem stL_no {T : Tab} (hT : T.Ok) {m : Nat} (hm : m < T.room.toNat) (h : T.at ((m : Int) + 1) = none) : stL T m = stL T (m + 1) := by
  have h1 := hT.len; have h2 := hT.hi; have h3 := hT.lo
  have hk : (T.ns.getD m nd0).kind = 0 := by
    unfold Tab.at at h
    by_cases hc : (T.ns.getD m nd0).kind = 0
    · exact hc
    · rw [if_pos ⟨by omega, by omega, by rw [show ((m : Int) + 1 - 1).toNat = m by omega]; exact hc⟩] at h; cases h
  have hz : T.ns.getD m nd0 = nd0 := by
    rw [List.getD_eq_getElem?_getD, List.getElem?_eq_getElem (by omega)] at hk ⊢
    exact hT.zero _ (List.getElem_mem _) hk
  rw [← stL_set hT hm, hz]
  unfold stL
  rw [List.set_append_right _ _ (by rw [List.length_take]; omega), List.length_take, Nat.min_eq_left (by omega), Nat.sub_self,
    show T.room.toNat - m = (T.room.toNat - (m + 1)) + 1 by omega, List.replicate_succ, List.set_cons_zero]
theorem at_m {T : Tab} (hT : T.Ok) {m : Nat} (j : Nat) (h : T.at ((m : Int) + 1) = some j) : j = m := by
  have := (at_some hT h).2.1; omega
theorem get_step {T : Tab} (hT : T.Ok) {m : Nat} (h : (T.get ((m : Int) + 1)).2 = true) : (T.get ((m : Int) + 1)).1 = T.ns.getD m nd0 := by
  cases ha : T.at ((m : Int) + 1) with
  | none => rw [get_no ha] at h; cases h
  | some j => rw [get_at ha, at_m hT j ha]
theorem at_of_get {T : Tab} {i : Int} (h : (T.get i).2 = false) : T.at i = none := by
  cases ha : T.at i with
  | none => rfl
  | some j => rw [get_at ha] at h; cases h
def rGet (L : List Nd) (i : Int) : Nd := bif (decide (i < 1) || decide ((L.length : Int) < i)) then nd0 else L.getD (i - 1).toNat nd0
def rIs (L : List Nd) (i : Int) : Bool := decide (1 ≤ i) && decide (i ≤ L.length) && !decide ((L.getD (i - 1).toNat nd0).kind = 0)
def hasK (i : Int) (n : Nd) : Bool := (kdL n).any fun y => decide (y = i)
def rPar (L : List Nd) (i : Int) : Int := if idxP (hasK i) L < 0 then 0 else idxP (hasK i) L + 1
def rCan (L : List Nd) (c : Cr) (i w : Int) : Bool := !decide ((rGet L i).kind = 0) && canF c (rGet L i).uid (rGet L i).gid (rGet L i).mode w
def rWayL (L : List Nd) (c : Cr) : Nat → Int → Bool
  | 0, _ => false
  | n + 1, d => if d = 1 then true else bif rCan L c (rPar L d) 1 then rWayL L c n (rPar L d) else false
def rWay (L : List Nd) (c : Cr) (d : Int) : Bool := bif decide ((rGet L d).kind = 2) then rWayL L c 24 d else false
def rSeenAt (L : List Nd) (c : Cr) (i : Int) (d : Nat) : Bool := hasK i (L.getD d nd0) && rWay L c ((d : Int) + 1) && rCan L c ((d : Int) + 1) 1
def rSeen (L : List Nd) (c : Cr) (i : Int) : Bool := rIs L i && (decide (i = 1) || (List.range L.length).any (rSeenAt L c i))
theorem rWayL_m (T : List Nd) (c : Cr) {m : Nat} (hm : m < 24) (d : Int) : rWayL T c (24 - m) d = if d = 1 then true else bif rCan T c (rPar T d) 1 then rWayL T c (24 - (m + 1)) (rPar T d) else false := by
  rw [show 24 - m = (24 - (m + 1)) + 1 by omega]; rfl
theorem rPar_at {L : List Nd} {i : Int} {d : Nat} (hd : d < L.length) (h : hasK i (L.getD d nd0) = true) (hn : ∀ j, j < d → hasK i (L.getD j nd0) = false) : rPar L i = (d : Int) + 1 := by
  unfold rPar; rw [idxP_at nd0 hd h hn, if_neg (by omega)]
theorem rPar_no {L : List Nd} {i : Int} (hn : ∀ j, j < L.length → hasK i (L.getD j nd0) = false) : rPar L i = 0 := by
  unfold rPar; rw [idxP_none nd0 hn, if_pos (by omega)]
theorem getD_kd {n : Nd} {i : Nat} {d : AV} (h : i < n.ents.length) : ((kdL n).map iV).getD i d = .int .i64 ((kdL n).getD i 0) := getD_iV (by rw [kdL_len]; exact h)
theorem hasK_t {i : Int} {n : Nd} {k : Nat} (hk : k < n.ents.length) (h : (kdL n).getD k 0 = i) : hasK i n = true := any_getD_t 0 (by rw [kdL_len]; exact hk) (decide_eq_true h)
theorem hasK_f {i : Int} {n : Nd} (h : ∀ k, k < n.ents.length → (kdL n).getD k 0 ≠ i) : hasK i n = false := any_getD_f 0 fun j hj => decide_eq_false (h j (by rw [← kdL_len]; exact hj))

theorem c10 (T : Tab) (k : Nat) (h : List Blk) (live : List Nat) (hk : h[k]? = some (tabBlk T)) (hT : T.Ok) : ACalls Tryz.prog 10 [.ptr k 0] h live (ret (tV (refL T)) h live) := by
  refine ab_ Tryz.func10 (hw := fun hH hX => ?_)
  have hkl := lt_of_get hk
  have hlo := hT.lo
  have hhi := hT.hi
  have hr : ((T.room.toNat : Nat) : Int) = T.room := by omega
  have hB : ∀ m, HCl (h ++ [.cells [.slice [] .full], .cells [.slice ((stL T m).map nV) .none]]) := fun m => by
    have := HCl.snoc (HCl.snoc (b := .cells [.slice [] .full]) hH (by simp [Blk.cl, AV.clL, AV.cl])) (b := .cells [.slice ((stL T m).map nV) .none]) (by simp [Blk.cl, AV.clL, AV.cl, clL_nV, -List.map_map])
    rw [List.append_assoc] at this; exact this
  have hlen : ∀ m, m ≤ T.room.toNat → (stL T m).length = T.room.toNat := fun m hm => stL_len hT hm
  have sx := sx0
  refine rg_ [0, 2] ?_
  refine rs_ [0, 2, 3] ?_
  refine sg_ ?_
  refine cl_ (hc := c23 T k _ _ (atApp hk)) (k := ?_)
  refine cl_ (hc := (hr ▸ c30 T.room.toNat _ _ (by omega) (by omega))) (k := ?_)
  refine sg_ ?_
  refine re_ ?_
  refine sk_ fun K1 hK1 => ?_
  refine rg_ [0, 2, 3, 4] ?_
  refine awp_block ?_
  refine awp_loop' (X := {m : Nat // m ≤ T.room.toNat}) (fun x => ⟨Tryz.f10.ntmps, fget [(0, .ptr k 0), (2, .ptr h.length 0), (3, .ptr (h.length + 1) 0), (4, .int .i64 ((x.1 : Int) + 1))], h ++ [.cells [.slice [] .full], .cells [.slice ((stL T x.1).map nV) .none]], live⟩) (fun x => T.room.toNat - x.1) (⟨0, by omega⟩) ?_ (by first | rfl | simp only [List.length_set]) (fun ⟨m, hm⟩ => ?_)
  · try dsimp only
    exact tf_ (hB _) (fun _ h => h) (hj := (by first | exact (List.append_nil _).symm | (rw [hgs, stL_set hT hml, List.append_assoc]; rfl) | (rw [stL_no hT hml (at_of_get hb2)]; rw [List.append_assoc]; rfl) | (rw [List.append_assoc]; rfl) | (rw [stL_0]; exact (List.append_nil _).symm)))
  try dsimp only
  refine sk_ fun K2 hK2 => ?_
  refine rs_ [0, 2, 3, 4, 13] ?_
  refine sg_ ?_
  refine cl_ (hc := c23 T k _ _ (atApp hk)) (k := ?_)
  refine sg_ ?_
  refine re_ ?_
  refine cd_ (ht := fun hb1 => ?_) (hf := fun hb1 => ?_)
  rotate_left
  · have hme : m = T.room.toNat := by omega
    subst hme
    refine awp_exit (up_ ?_)
    refine hK1 _ ?_
    refine rg_ [2] ?_
    refine awp_ret (up_ ?_)
    refine fp_ Tryz.results10 (hx := by (simp only [atuple, AV.er, AV.erL, push_cast, erL_nV]) <;> rfl) (hcl := (by exact ⟨clL_nV _ _, trivial⟩)) (hK := ?_)
    exact ⟨by rw [stL_all]; rfl, rfl, rfl⟩
  have hml : m < T.room.toNat := by omega
  refine awp_skip (up_ ?_)
  refine hK2 _ ?_
  refine sk_ fun K3 hK3 => ?_
  refine awp_block ?_
  refine rs_ [0, 2, 3, 4, 5, 6] ?_
  refine sg_ ?_
  refine cl_ (hc := c18 T k _ _ _ (atApp hk) hT) (k := ?_)
  refine sg_ ?_
  refine re_ ?_
  refine rg_ [0, 2, 3, 4, 5, 22] ?_
  refine cb_ (ht := fun hb2 => ?_) (hf := fun hb2 => ?_)
  · have hgs := get_step hT hb2
    refine rtq_ [0, 2, 3, 4] ⟨true, [], [], [], [], [], 0⟩ (fun _ => ⟨by kernel_rfl, by kernel_rfl⟩) ?_
    refine sg_ ?_
    refine cr_ (hc := c32 _ _ _ (get_ok hT _)) (k := ?_)
    refine cr_ (hc := c31 (stL T m) m (T.get ((m : Int) + 1)).1 _ _ (by rw [hlen m hm]; exact hml) (by rw [hlen m hm]; omega)) (k := ?_)
    refine sg_ ?_
    refine rn_ (up_ ?_)
    refine hK3 _ ?_
    refine rt_ [0, 2, 3, 4] ?_
    refine sg_ ?_
    refine rn_ (up_ ?_)
    refine ⟨⟨m + 1, by omega⟩, ?_, (by first | rfl | trivial | (simp only [List.length_set]; done) | simp), by dsimp only; omega⟩
    try dsimp only
    exact tf_ (hB _) (fun _ h => h) (hj := (by first | exact (List.append_nil _).symm | (rw [hgs, stL_set hT hml, List.append_assoc]; rfl) | (rw [stL_no hT hml (at_of_get hb2)]; rw [List.append_assoc]; rfl) | (rw [List.append_assoc]; rfl) | (rw [stL_0]; exact (List.append_nil _).symm)))
  refine awp_skip (up_ ?_)
  refine hK3 _ ?_
  refine rt_ [0, 2, 3, 4] ?_
  refine sg_ ?_
  refine rn_ (up_ ?_)
  refine ⟨⟨m + 1, by omega⟩, ?_, (by first | rfl | trivial | (simp only [List.length_set]; done) | simp), by dsimp only; omega⟩
  try dsimp only
  exact tf_ (hB _) (fun _ h => h) (hj := (by first | exact (List.append_nil _).symm | (rw [hgs, stL_set hT hml, List.append_assoc]; rfl) | (rw [stL_no hT hml (at_of_get hb2)]; rw [List.append_assoc]; rfl) | (rw [List.append_assoc]; rfl) | (rw [stL_0]; exact (List.append_nil _).symm)))

theorem c27 (L : List Nd) (i : Int) (h : List Blk) (live : List Nat) (hL : L.length ≤ 1000) : ACalls Tryz.prog 27 [tV L, .int .i64 i] h live (ret (.agg (nvC (rGet L i))) h live) := by
  refine ab_ Tryz.func27 (hw := fun hH hX => ?_)
  unfold tV
  have sx := sx0
  refine rg_ [1, 2, 4] ?_
  refine sk_ fun K1 hK1 => ?_
  refine rg_ [1, 2, 4, 13] ?_
  refine cb_ (ht := fun hb1 => ?_) (hf := fun hb1 => ?_)
  · refine rg_ [4] ?_
    refine awp_ret (up_ ?_)
    refine fp_ Tryz.results27 (hx := by (simp only [atuple, AV.er, AV.erL, push_cast, er_nvC]) <;> rfl) (hcl := (by simp [AV.cl, AV.clL, clL_nvC])) (hK := ?_)
    exact ⟨by unfold rGet; rw [hb1]; rfl, rfl, rfl⟩
  have hb1' := hb1
  simp only [decide_eq_true_eq, decide_eq_false_iff_not, Bool.not_eq_true', Bool.not_eq_false', Bool.or_eq_true, Bool.and_eq_true, Bool.or_eq_false_iff, Bool.and_eq_false_imp, Int.not_lt, Int.not_le] at hb1'
  refine awp_skip (up_ ?_)
  refine hK1 _ ?_
  refine rg_ [4] ?_
  refine awp_ret (up_ ?_)
  refine fp_ Tryz.results27 (hx := by (simp only [atuple, AV.er, AV.erL, push_cast, er_nvC]) <;> rfl) (hcl := (by simp [AV.cl, AV.clL, clL_nvC])) (hK := ?_)
  exact ⟨by unfold rGet; rw [hb1]; rfl, rfl, rfl⟩

theorem c35 (L : List Nd) (i : Int) (h : List Blk) (live : List Nat) (hL : L.length ≤ 1000) : ACalls Tryz.prog 35 [tV L, .int .i64 i] h live (ret (.bool (rIs L i)) h live) := by
  refine ab_ Tryz.func35 (hw := fun hH hX => ?_)
  unfold tV
  have sx := sx0
  refine rg_ [1, 2] ?_
  refine rg_ [4] ?_
  refine awp_ret (up_ ?_)
  refine fp_ Tryz.results35 (hK := ?_)
  exact ⟨rfl, rfl, rfl⟩

theorem c36 (l : List Int) (n : Int) (h : List Blk) (live : List Nat) (hl : l.length ≤ 1000000) : ACalls Tryz.prog 36 [.slice (l.map iV) .none, .int .i64 n] h live (ret (.bool (l.any fun y => decide (y = n))) h live) := by
  refine ab_ Tryz.func36 (hw := fun hH hX => ?_)
  have sx := sx0
  refine rg_ [0, 1] ?_
  refine sk_ fun K1 hK1 => ?_
  refine rg_ [0, 1, 5] ?_
  refine awp_block ?_
  refine awp_loop' (X := {i : Nat // i ≤ l.length ∧ ∀ j, j < i → decide (l.getD j 0 = n) = false}) (fun x => ⟨Tryz.f36.ntmps, fget [(0, .slice (l.map iV) .none), (1, .int .i64 n), (5, .int .i64 (x.1 : Nat))], h, live⟩) (fun x => l.length - x.1) (⟨0, by omega, fun j hj => by omega⟩) ?_ (by first | rfl | simp only [List.length_set]) (fun ⟨i, hi, hn⟩ => ?_)
  · try dsimp only
    exact ts_ hH
  try dsimp only
  refine sk_ fun K2 hK2 => ?_
  refine rg_ [0, 1, 5, 9] ?_
  refine cd_ (ht := fun hb1 => ?_) (hf := fun hb1 => ?_)
  rotate_left
  · have hx := any_getD_f (p := fun y => decide (y = n)) 0 fun j hj => hn j (by omega)
    refine awp_exit (up_ ?_)
    refine hK1 _ ?_
    refine rg_ [4] ?_
    refine awp_ret (up_ ?_)
    refine fp_ Tryz.results36 (hK := ?_)
    exact ⟨by rw [hx], rfl, rfl⟩
  refine awp_skip (up_ ?_)
  refine hK2 _ ?_
  refine sk_ fun K3 hK3 => ?_
  refine awp_block ?_
  refine rg_ [0, 1, 5, 17] ?_
  refine cb_ (ht := fun hb2 => ?_) (hf := fun hb2 => ?_)
  · have hx := any_getD_t (p := fun y => decide (y = n)) 0 (l := l) (j := i) (by omega) hb2
    refine rg_ [4] ?_
    refine awp_ret (up_ ?_)
    refine fp_ Tryz.results36 (hK := ?_)
    exact ⟨by rw [hx], rfl, rfl⟩
  refine awp_skip (up_ ?_)
  refine hK3 _ ?_
  refine rt_ [0, 1, 5] ?_
  refine sg_ ?_
  refine rn_ (up_ ?_)
  refine ⟨⟨i + 1, by omega, fun j hj => by rcases Nat.lt_succ_iff_lt_or_eq.1 hj with h | h; exact hn j h; subst h; exact hb2⟩, ?_, (by first | rfl | trivial | (simp only [List.length_set]; done) | simp), by dsimp only; omega⟩
  try dsimp only
  exact ts_ hH

theorem c29 (L : List Nd) (c : Cr) (i w : Int) (h : List Blk) (live : List Nat) (hL : L.length ≤ 1000) (hgs : c.gs.length ≤ 1000000000) : ACalls Tryz.prog 29 [tV L, .agg [.int .i64 c.uid, .int .i64 c.gid, .slice (c.gs.map iV) .none], .int .i64 i, .int .i64 w] h live (ret (.bool (rCan L c i w)) h live) := by
  refine ab_ Tryz.func29 (hw := fun hH hX => ?_)
  unfold tV
  have sx := sx0
  refine rg_ [2, 3, 4, 5] ?_
  refine rs_ [3, 5, 9] ?_
  refine sg_ ?_
  refine cl_ (hc := c27 L i _ _ hL) (k := ?_)
  refine sg_ ?_
  refine re_ ?_
  refine rs_ [8] ?_
  refine sg_ ?_
  refine cg_ (hc := fun hg => c63 c _ _ _ _ _ _ _ hgs) (k := ?_)
  refine sg_ ?_
  refine re_ ?_
  refine awp_ret (up_ ?_)
  refine fp_ Tryz.results29 (hK := ?_)
  exact ⟨rfl, rfl, rfl⟩

theorem c28 (L : List Nd) (i : Int) (h : List Blk) (live : List Nat) (hL : L.length ≤ 1000) (hnd : ∀ n ∈ L, NdOk n) : ACalls Tryz.prog 28 [tV L, .int .i64 i] h live (ret (.int .i64 (rPar L i)) h live) := by
  refine ab_ Tryz.func28 (hw := fun hH hX => ?_)
  unfold tV
  have hB : HCl (h ++ [.cells [.slice (L.map nV) .none]]) := HCl.snoc hH (by simp [Blk.cl, AV.cl, AV.clL, clL_nV, -List.map_map])
  have hkd : ∀ d, (kdL (L.getD d nd0)).length = (L.getD d nd0).ents.length := fun d => kdL_len _
  have hne : ∀ d, (L.getD d nd0).ents.length ≤ 1000 := fun d => by
    by_cases h : d < L.length
    · rw [List.getD_eq_getElem?_getD, List.getElem?_eq_getElem h]; exact (hnd _ (List.getElem_mem h)).2.1
    · rw [List.getD_eq_getElem?_getD, List.getElem?_eq_none (by omega)]; exact Nat.zero_le _
  have sx := (And.intro @kdL_len sx0)
  refine rg_ [1, 2] ?_
  refine sk_ fun K1 hK1 => ?_
  refine rg_ [1, 2, 5] ?_
  refine awp_block ?_
  refine awp_loop' (X := {d : Nat // d ≤ L.length ∧ ∀ j, j < d → hasK i (L.getD j nd0) = false}) (fun x => ⟨Tryz.f28.ntmps, fget [(1, .int .i64 i), (2, .ptr h.length 0), (5, .int .i64 (x.1 : Nat))], h ++ [.cells [.slice (L.map nV) .none]], live⟩) (fun x => L.length - x.1) (⟨0, by omega, fun j hj => by omega⟩) ?_ (by first | rfl | simp only [List.length_set]) (fun ⟨d, hd, hno⟩ => ?_)
  · try dsimp only
    exact tf_ hB (fun _ h => h)
  try dsimp only
  have hned := hne d
  have hkdd := hkd d
  refine sk_ fun K2 hK2 => ?_
  refine rg_ [1, 2, 5, 11] ?_
  refine cd_ (ht := fun hb1 => ?_) (hf := fun hb1 => ?_)
  rotate_left
  · have hx := rPar_no (i := i) fun j hj => hno j (by omega)
    refine awp_exit (up_ ?_)
    refine hK1 _ ?_
    refine rg_ [4] ?_
    refine awp_ret (up_ ?_)
    refine fp_ Tryz.results28 (hK := ?_)
    exact ⟨by rw [hx], rfl, rfl⟩
  have hdl : d < L.length := by omega
  refine awp_skip (up_ ?_)
  refine hK2 _ ?_
  refine sk_ fun K3 hK3 => ?_
  refine awp_block ?_
  refine rg_ [1, 2, 5, 6] ?_
  refine awp_block ?_
  refine awp_loop' (X := {k : Nat // k ≤ (L.getD d nd0).ents.length ∧ ∀ j, j < k → (kdL (L.getD d nd0)).getD j 0 ≠ i}) (fun x => ⟨Tryz.f28.ntmps, fget [(1, .int .i64 i), (2, .ptr h.length 0), (5, .int .i64 (d : Nat)), (6, .int .i64 (x.1 : Nat))], h ++ [.cells [.slice (L.map nV) .none]], live⟩) (fun x => (L.getD d nd0).ents.length - x.1) (⟨0, by omega, fun j hj => by omega⟩) ?_ (by first | rfl | simp only [List.length_set]) (fun ⟨k, hk, hnk⟩ => ?_)
  · try dsimp only
    exact tf_ hB (fun _ h => h)
  try dsimp only
  refine sk_ fun K4 hK4 => ?_
  refine rg_ [1, 2, 5, 6, 22] ?_
  refine cd_ (ht := fun hb2 => ?_) (hf := fun hb2 => ?_)
  rotate_left
  · have hf : hasK i (L.getD d nd0) = false := hasK_f fun j hj => hnk j (by omega)
    refine awp_exit (up_ ?_)
    refine hK3 _ ?_
    refine rt_ [1, 2, 5] ?_
    refine sg_ ?_
    refine rn_ (up_ ?_)
    refine ⟨⟨d + 1, by omega, fun j hj => by rcases Nat.lt_succ_iff_lt_or_eq.1 hj with h | h; exact hno j h; subst h; exact hf⟩, ?_, (by first | rfl | trivial | (simp only [List.length_set]; done) | simp), by dsimp only; omega⟩
    try dsimp only
    exact tf_ hB (fun _ h => h)
  have hkl : k < (L.getD d nd0).ents.length := by omega
  have hkl' : k < (kdL (L.getD d nd0)).length := by omega
  refine awp_skip (up_ ?_)
  refine hK4 _ ?_
  refine sk_ fun K5 hK5 => ?_
  refine awp_block ?_
  refine rg_ [1, 2, 5, 6, 35] ?_
  refine cd_ (ht := fun hb3 => ?_) (hf := fun hb3 => ?_)
  · have hx := rPar_at hdl (hasK_t hkl hb3) hno
    refine rg_ [4] ?_
    refine awp_ret (up_ ?_)
    refine fp_ Tryz.results28 (hK := ?_)
    exact ⟨by rw [hx], rfl, rfl⟩
  refine awp_skip (up_ ?_)
  refine hK5 _ ?_
  refine rt_ [1, 2, 5, 6] ?_
  refine sg_ ?_
  refine rn_ (up_ ?_)
  refine ⟨⟨k + 1, by omega, fun j hj => by rcases Nat.lt_succ_iff_lt_or_eq.1 hj with h | h; exact hnk j h; subst h; exact hb3⟩, ?_, (by first | rfl | trivial | (simp only [List.length_set]; done) | simp), by dsimp only; omega⟩
  try dsimp only
  exact tf_ hB (fun _ h => h)

theorem c9 (L : List Nd) (c : Cr) (d : Int) (h : List Blk) (live : List Nat) (hL : L.length ≤ 1000) (hnd : ∀ n ∈ L, NdOk n) (hgs : c.gs.length ≤ 1000000000) : ACalls Tryz.prog 9 [tV L, .agg [.int .i64 c.uid, .int .i64 c.gid, .slice (c.gs.map iV) .none], .int .i64 d] h live (ret (.bool (rWay L c d)) h live) := by
  refine ab_ Tryz.func9 (hw := fun hH hX => ?_)
  unfold tV
  have hB : HCl (h ++ [.cells [.slice (L.map nV) .none], .cells [.int .i64 c.uid, .int .i64 c.gid, .slice (c.gs.map iV) .none]]) := by
    have := HCl.snoc (HCl.snoc (b := .cells [.slice (L.map nV) .none]) hH (by simp [Blk.cl, AV.cl, AV.clL, clL_nV, -List.map_map])) (b := .cells [.int .i64 c.uid, .int .i64 c.gid, .slice (c.gs.map iV) .none]) (by simp [Blk.cl, AV.cl, AV.clL, clL_iV, -List.map_map])
    rw [List.append_assoc] at this; exact this
  have sx := sx0
  refine rg_ [2, 3, 4] ?_
  refine sk_ fun K1 hK1 => ?_
  refine rs_ [2, 3, 4, 13] ?_
  refine sg_ ?_
  refine cl_ (hc := c27 L d _ _ hL) (k := ?_)
  refine sg_ ?_
  refine re_ ?_
  refine cd_ (ht := fun hb1 => ?_) (hf := fun hb1 => ?_)
  · refine rg_ [6] ?_
    refine awp_ret (up_ ?_)
    refine fp_ Tryz.results9 (hK := ?_)
    exact ⟨by unfold rWay; rw [decide_eq_false hb1]; rfl, rfl, rfl⟩
  refine awp_skip (up_ ?_)
  refine hK1 _ ?_
  refine sk_ fun K2 hK2 => ?_
  refine rg_ [2, 3, 4, 7] ?_
  refine awp_block ?_
  refine awp_loop' (X := {x : Nat × Int // x.1 ≤ 24 ∧ rWayL L c 24 d = rWayL L c (24 - x.1) x.2}) (fun x => ⟨Tryz.f9.ntmps, fget [(2, .int .i64 x.1.2), (3, .ptr h.length 0), (4, .ptr (h.length + 1) 0), (7, .int .i64 (x.1.1 : Nat))], h ++ [.cells [.slice (L.map nV) .none], .cells [.int .i64 c.uid, .int .i64 c.gid, .slice (c.gs.map iV) .none]], live⟩) (fun x => 24 - x.1.1) (⟨⟨0, d⟩, by simp, rfl⟩) ?_ (by first | rfl | simp only [List.length_set]) (fun ⟨⟨m, e⟩, hm, hw⟩ => ?_)
  · try dsimp only
    exact tf_ hB (fun _ h => h)
  try dsimp only
  dsimp only at hm hw
  refine sk_ fun K3 hK3 => ?_
  refine rg_ [2, 3, 4, 7, 15] ?_
  refine cd_ (ht := fun hb2 => ?_) (hf := fun hb2 => ?_)
  rotate_left
  · have hme : m = 24 := by omega
    subst hme
    refine awp_exit (up_ ?_)
    refine hK2 _ ?_
    refine rg_ [6] ?_
    refine awp_ret (up_ ?_)
    refine fp_ Tryz.results9 (hK := ?_)
    exact ⟨by unfold rWay; rw [decide_eq_true hb1, cond_true, hw]; rfl, rfl, rfl⟩
  have hml : m < 24 := by omega
  refine awp_skip (up_ ?_)
  refine hK3 _ ?_
  refine sk_ fun K4 hK4 => ?_
  refine awp_block ?_
  refine sk_ fun K5 hK5 => ?_
  refine rg_ [2, 3, 4, 7, 19] ?_
  refine cd_ (ht := fun hb3 => ?_) (hf := fun hb3 => ?_)
  · refine rg_ [6] ?_
    refine awp_ret (up_ ?_)
    refine fp_ Tryz.results9 (hK := ?_)
    exact ⟨by unfold rWay; rw [decide_eq_true hb1, cond_true, hw, rWayL_m L c hml, if_pos hb3], rfl, rfl⟩
  refine awp_skip (up_ ?_)
  refine hK5 _ ?_
  refine rs_ [2, 3, 4, 7] ?_
  refine sg_ ?_
  refine cl_ (hc := c28 L e _ _ hL hnd) (k := ?_)
  refine sg_ ?_
  refine re_ ?_
  refine rs_ [2, 3, 4, 7, 8] ?_
  refine sg_ ?_
  refine cl_ (hc := c29 L c _ _ _ _ hL hgs) (k := ?_)
  refine sg_ ?_
  refine re_ ?_
  refine rg_ [2, 3, 4, 7, 28] ?_
  refine cd_ (ht := fun hb4 => ?_) (hf := fun hb4 => ?_)
  · refine rg_ [6] ?_
    refine awp_ret (up_ ?_)
    refine fp_ Tryz.results9 (hK := ?_)
    exact ⟨by unfold rWay; rw [decide_eq_true hb1, cond_true, hw, rWayL_m L c hml, if_neg hb3, hb4]; rfl, rfl, rfl⟩
  refine awp_skip (up_ ?_)
  refine hK4 _ ?_
  refine rt_ [2, 3, 4, 7] ?_
  refine sg_ ?_
  refine rn_ (up_ ?_)
  refine ⟨⟨⟨m + 1, rPar L e⟩, by dsimp only; omega, by rw [hw, rWayL_m L c (by omega), if_neg hb3, hb4]; rfl⟩, ?_, (by first | rfl | trivial | (simp only [List.length_set]; done) | simp), by dsimp only; omega⟩
  try dsimp only
  exact tf_ hB (fun _ h => h)

theorem c13 (L : List Nd) (c : Cr) (i : Int) (h : List Blk) (live : List Nat) (hL : L.length ≤ 1000) (hnd : ∀ n ∈ L, NdOk n) (hgs : c.gs.length ≤ 1000000000) : ACalls Tryz.prog 13 [tV L, .agg [.int .i64 c.uid, .int .i64 c.gid, .slice (c.gs.map iV) .none], .int .i64 i] h live (ret (.bool (rSeen L c i)) h live) := by
  refine ab_ Tryz.func13 (hw := fun hH hX => ?_)
  unfold tV
  have hkl : ∀ d, (kdL (L.getD d nd0)).length ≤ 1000 := fun d => by
    rw [kdL_len]
    by_cases h : d < L.length
    · rw [List.getD_eq_getElem?_getD, List.getElem?_eq_getElem h]; exact (hnd _ (List.getElem_mem h)).2.1
    · rw [List.getD_eq_getElem?_getD, List.getElem?_eq_none (by omega)]; exact Nat.zero_le _
  have hB : HCl (h ++ [.cells [.slice (L.map nV) .none], .cells [.int .i64 c.uid, .int .i64 c.gid, .slice (c.gs.map iV) .none]]) := by
    have := HCl.snoc (HCl.snoc (b := .cells [.slice (L.map nV) .none]) hH (by simp [Blk.cl, AV.cl, AV.clL, clL_nV, -List.map_map])) (b := .cells [.int .i64 c.uid, .int .i64 c.gid, .slice (c.gs.map iV) .none]) (by simp [Blk.cl, AV.cl, AV.clL, clL_iV, -List.map_map])
    rw [List.append_assoc] at this; exact this
  have sx := (And.intro @Int.add_sub_cancel (And.intro @Int.toNat_natCast sx0))
  refine rg_ [2, 3, 4] ?_
  refine rs_ [2, 3, 4, 7] ?_
  refine sg_ ?_
  refine cl_ (hc := c35 L i _ _ hL) (k := ?_)
  refine sg_ ?_
  refine re_ ?_
  refine sk_ fun K1 hK1 => ?_
  refine rg_ [2, 3, 4, 13] ?_
  refine cd_ (ht := fun hb1 => ?_) (hf := fun hb1 => ?_)
  · refine rg_ [6] ?_
    refine awp_ret (up_ ?_)
    refine fp_ Tryz.results13 (hK := ?_)
    exact ⟨by unfold rSeen; rw [hb1]; rfl, rfl, rfl⟩
  refine awp_skip (up_ ?_)
  refine hK1 _ ?_
  refine sk_ fun K2 hK2 => ?_
  refine rg_ [2, 3, 4, 15] ?_
  refine cd_ (ht := fun hb2 => ?_) (hf := fun hb2 => ?_)
  · refine rg_ [6] ?_
    refine awp_ret (up_ ?_)
    refine fp_ Tryz.results13 (hK := ?_)
    exact ⟨by unfold rSeen; rw [hb1, decide_eq_true hb2]; rfl, rfl, rfl⟩
  refine awp_skip (up_ ?_)
  refine hK2 _ ?_
  refine sk_ fun K3 hK3 => ?_
  refine rg_ [2, 3, 4, 8] ?_
  refine awp_block ?_
  refine awp_loop' (X := {m : Nat // m ≤ L.length ∧ ∀ j, j < m → rSeenAt L c i j = false}) (fun x => ⟨Tryz.f13.ntmps, fget [(2, .int .i64 i), (3, .ptr h.length 0), (4, .ptr (h.length + 1) 0), (8, .int .i64 ((x.1 : Int) + 1))], h ++ [.cells [.slice (L.map nV) .none], .cells [.int .i64 c.uid, .int .i64 c.gid, .slice (c.gs.map iV) .none]], live⟩) (fun x => L.length - x.1) (⟨0, by omega, fun j hj => by omega⟩) ?_ (by first | rfl | simp only [List.length_set]) (fun ⟨m, hm, hn⟩ => ?_)
  · try dsimp only
    exact tf_ hB (fun _ h => h)
  try dsimp only
  refine sk_ fun K4 hK4 => ?_
  refine rg_ [2, 3, 4, 8, 20] ?_
  refine cd_ (ht := fun hb3 => ?_) (hf := fun hb3 => ?_)
  rotate_left
  · have hme : m = L.length := by omega
    subst hme
    refine awp_exit (up_ ?_)
    refine hK3 _ ?_
    refine rg_ [6] ?_
    refine awp_ret (up_ ?_)
    refine fp_ Tryz.results13 (hK := ?_)
    exact ⟨by unfold rSeen; rw [hb1, decide_eq_false hb2, anyR_f hn]; rfl, rfl, rfl⟩
  have hml : m < L.length := by omega
  have hklm := hkl m
  refine awp_skip (up_ ?_)
  refine hK4 _ ?_
  refine sk_ fun K5 hK5 => ?_
  refine awp_block ?_
  refine rs_ [2, 3, 4, 8, 43] ?_
  refine sg_ ?_
  refine cl_ (hc := c36 (kdL (L.getD m nd0)) i _ _ (by omega)) (k := ?_)
  refine sg_ ?_
  refine cg_ (hc := fun hg => c9 L c _ _ _ hL hnd hgs) (k := ?_)
  refine sg_ ?_
  refine cg_ (hc := fun hg => c29 L c _ _ _ _ hL hgs) (k := ?_)
  refine sg_ ?_
  refine re_ ?_
  refine cb_ (ht := fun hb4 => ?_) (hf := fun hb4 => ?_)
  · have hs : rSeenAt L c i m = true := hb4
    refine rg_ [6] ?_
    refine awp_ret (up_ ?_)
    refine fp_ Tryz.results13 (hK := ?_)
    exact ⟨by unfold rSeen; rw [hb1, decide_eq_false hb2, anyR_t hml hs]; rfl, rfl, rfl⟩
  have hs : rSeenAt L c i m = false := hb4
  refine awp_skip (up_ ?_)
  refine hK5 _ ?_
  refine rt_ [2, 3, 4, 8] ?_
  refine sg_ ?_
  refine rn_ (up_ ?_)
  refine ⟨⟨m + 1, by omega, fun j hj => by rcases Nat.lt_succ_iff_lt_or_eq.1 hj with h | h; exact hn j h; subst h; exact hs⟩, ?_, (by first | rfl | trivial | (simp only [List.length_set]; done) | simp), by dsimp only; omega⟩
  try dsimp only
  exact tf_ hB (fun _ h => h)

end Go.Proofs.YtjoklidphbmpoaaGreat
