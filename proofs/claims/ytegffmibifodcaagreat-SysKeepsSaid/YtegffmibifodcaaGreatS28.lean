import Derived.Test.YtegffmibifodcaaGreatS27
/-
  CALLS: what fails changes nothing.
-/
namespace Go.Proofs.YtegffmibifodcaaGreat
open Go.Ab
set_option linter.unusedVariables false
set_option linter.unusedSimpArgs false
set_option maxRecDepth 8000
set_option maxHeartbeats 400000


theorem free_spec {T : Tab} (hT : T.Ok) {i : Nat} (h : T.free = some i) : (i : Int) + 1 ≤ T.room ∧ T.at ((i : Int) + 1) = none ∧ T.ns.getD i nd0 = nd0 := by
  unfold Tab.free at h
  obtain ⟨h1, l1, l2, h2, _⟩ := List.find?_eq_some_iff_append.1 h
  have hmem : i ∈ List.range T.room.toNat := by rw [h2]; simp
  have hlt := List.mem_range.1 hmem
  have ha : T.at ((i : Int) + 1) = none := by simpa using h1
  refine ⟨by omega, ha, ?_⟩
  unfold Tab.at at ha
  split at ha
  · cases ha
  · rename_i hc
    rw [show ((i : Int) + 1 - 1).toNat = i by omega] at hc
    have hk : (T.ns.getD i nd0).kind = 0 := Classical.not_not.1 fun hk => hc ⟨by omega, by omega, hk⟩
    have hl := hT.len
    have hr := hT.hi
    have hi : i < T.ns.length := by omega
    rw [List.getD_eq_getElem?_getD, List.getElem?_eq_getElem hi] at hk ⊢
    exact hT.zero _ (List.getElem_mem hi) hk
theorem addT_bad {T : Tab} {n : Nd} (h : (addT T n).1.2 ≠ 0) : (addT T n).2 = T := by
  unfold addT at h ⊢
  split
  · rfl
  · rename_i hr
    rw [if_neg hr] at h
    split
    · rename_i i hf; rw [hf] at h; exact absurd rfl h
    · rfl
theorem addT_good {T : Tab} {n : Nd} (h : (addT T n).1.2 = 0) : rightF n = true ∧ ∃ i, T.free = some i ∧ addT T n = (((i : Int) + 1, 0), T.put i n) := by
  unfold addT at h ⊢
  split
  · rename_i hr; rw [if_pos hr] at h; cases h
  · rename_i hr
    rw [if_neg hr] at h
    refine ⟨by simpa using hr, ?_⟩
    split
    · rename_i i hf; exact ⟨i, hf, rfl⟩
    · rename_i hf; rw [hf] at h; cases h
theorem get_isat {T : Tab} {i : Int} (h : (T.get i).2 = true) : ∃ j, T.at i = some j ∧ (j : Int) + 1 = i ∧ i ≤ T.room := by
  cases ha : T.at i with
  | none => rw [get_no ha] at h; cases h
  | some j =>
    obtain ⟨h1, h2, h3⟩ := at_room ha
    exact ⟨j, rfl, by omega, h3⟩
theorem get_kind_at {T : Tab} {i : Int} (h : (T.get i).1.kind ≠ 0) : (T.get i).2 = true := by
  cases ha : T.at i with
  | none => rw [get_no ha] at h; exact absurd rfl h
  | some j => rw [get_at ha]
/-- What is put where a node is. -/
theorem putT_get {T : Tab} (hT : T.Ok) {i : Int} {n : Nd} (hn : NdOk n) (hr : rightF n = true) (h : (T.get i).2 = true) : (putT T i n).1 = 0 ∧ ∀ k, (putT T i n).2.get k = if k = i then (n, true) else T.get k := by
  obtain ⟨j, ha, hj, hro⟩ := get_isat h
  have e : putT T i n = (0, T.put j n) := by unfold putT; rw [ha]; simp only [hr]; rfl
  rw [e]
  refine ⟨rfl, fun k => ?_⟩
  rw [get_put hT hn (rightF_kind hr) (by omega), hj]
theorem put_back {T : Tab} (hT : T.Ok) {n : Nd} (hn : NdOk n) (hr : rightF n = true) {i : Nat} (h : T.free = some i) : dropT (T.put i n) ((i : Int) + 1) = T := by
  obtain ⟨h1, h2, h3⟩ := free_spec hT h
  have hg : ((T.put i n).get ((i : Int) + 1)).2 = true := by rw [get_put hT hn (rightF_kind hr) h1, if_pos rfl]
  obtain ⟨j, ha, hj, _⟩ := get_isat hg
  have e : j = i := by omega
  subst e
  unfold dropT
  rw [ha]
  show (⟨T.room, (T.ns.set j n).set j nd0⟩ : Tab) = T
  rw [List.set_set]
  have : T.ns.set j nd0 = T.ns := by
    refine List.ext_getElem (by simp) fun k k1 k2 => ?_
    rw [List.getElem_set]
    split
    · rename_i e; subst e
      rw [List.getD_eq_getElem?_getD, List.getElem?_eq_getElem k2] at h3
      exact h3.symm
    · rfl
  rw [this]
theorem add_get {T : Tab} (hT : T.Ok) {n : Nd} (hn : NdOk n) (h : (addT T n).1.2 = 0) : (T.get (addT T n).1.1).2 = false ∧ ∀ k, (addT T n).2.get k = if k = (addT T n).1.1 then (n, true) else T.get k := by
  obtain ⟨hr, i, hf, e⟩ := addT_good h
  obtain ⟨h1, h2, _⟩ := free_spec hT hf
  rw [e]
  exact ⟨by show (T.get ((i : Int) + 1)).2 = false; rw [get_no h2], fun k => get_put hT hn (rightF_kind hr) h1 k⟩
theorem chgF_bad {T : Tab} {c : Cr} {p : List UInt8} {fl : Bool} {g : Nd → Nd × Int} (h : (chgF T c p fl g).1 ≠ 0) : (chgF T c p fl g).2 = T := by
  unfold chgF at h ⊢
  split
  · rfl
  · rename_i h1
    rw [if_neg h1] at h
    split
    · rfl
    · rename_i h2
      rw [if_neg h2] at h
      split
      · rfl
      · rename_i h3
        rw [if_neg h3] at h
        unfold putT at h ⊢
        split
        · rfl
        · rename_i j hj
          simp only [hj] at h
          split
          · rfl
          · rename_i hr; rw [if_neg hr] at h; exact absurd rfl h
theorem plantF_bad {T : Tab} (hT : Gd T) {c : Cr} {p : List UInt8} {fl : Bool} {g : Nd → Nd} (hg : ∀ n, NdOk n → NdOk (g n)) (h : (plantF T c p fl g).1.2 ≠ 0) : (plantF T c p fl g).2 = T := by
  have hno : NdOk (ownN c (T.get (rD T c p fl)).1 (g (T.get (rD T c p fl)).1)) := ownN_ok (hg _ (hT.nd _))
  have hnm := resF_nm T c p fl
  unfold plantF at h ⊢
  split
  · rfl
  rename_i h1; rw [if_neg h1] at h
  split
  · rfl
  rename_i h2; rw [if_neg h2] at h
  split
  · rfl
  rename_i h3; rw [if_neg h3] at h
  split
  · rfl
  rename_i h4; rw [if_neg h4] at h
  split
  · rename_i h5; exact addT_bad h5
  rename_i h5; rw [if_neg h5] at h
  have h50 := Classical.not_not.1 h5
  split
  · obtain ⟨hr, i, hf, e⟩ := addT_good h50
    rw [e]
    exact put_back hT.1 hno hr hf
  · rename_i h6; rw [if_neg h6] at h
    exfalso
    have h60 := Classical.not_not.1 h6
    obtain ⟨hf, hga⟩ := add_get hT.1 hno h50
    have hd : (T.get (rD T c p fl)).1.kind ≠ 0 := by
      intro h0
      unfold withN at h60
      rw [if_pos (by rw [h0]; decide)] at h60
      cases h60
    have hdi := get_kind_at hd
    refine h (putT_get (addT_ok hT.1 hno) (withN_ok (hT.nd _) (by omega)) (withN_right (hT.2.kind hd) h60) ?_).1
    rw [hga]
    split
    · rfl
    · exact hdi
/-! Entries taken away. -/
def remL (l : List En) (s : List UInt8) : List En := if idxP (eqS s) l < 0 then l else l.take (idxP (eqS s) l).toNat ++ l.drop ((idxP (eqS s) l).toNat + 1)
theorem remL_sub (l : List En) (s : List UInt8) : (remL l s).Sublist l := by
  unfold remL
  split
  · exact List.Sublist.refl _
  · have := (List.Sublist.refl (l.take (idxP (eqS s) l).toNat)).append (List.drop_sublist_drop_left l (Nat.le_succ (idxP (eqS s) l).toNat))
    rwa [List.take_append_drop] at this
theorem remL_len {l : List En} {s : List UInt8} (h : 0 ≤ idxP (eqS s) l) : (remL l s).length + 1 = l.length := by
  have := idxP_range (eqS s) l
  unfold remL
  rw [if_neg (by omega), List.length_append, List.length_take, List.length_drop]; omega
theorem remL_ne {l : List En} {s : List UInt8} (hr : RisP l) : ∀ e ∈ remL l s, e.1 ≠ s := by
  intro e he
  unfold remL at he
  split at he
  · rename_i h; exact idx_none h e he
  · rename_i h
    have hrg := idxP_range (eqS s) l
    rcases idxP_spec (eqS s) ([], 0) l with ⟨h1, _⟩ | ⟨k, h1, h2, h3⟩
    · omega
    · rw [h1, Int.toNat_natCast] at he
      rw [List.getD_eq_getElem?_getD, List.getElem?_eq_getElem h2] at h3
      have hks : l[k].1 = s := by simpa [eqS] using h3
      have hp := List.pairwise_iff_getElem.1 hr
      intro hes
      rcases List.mem_append.1 he with he | he
      · obtain ⟨j, hj, rfl⟩ := List.mem_iff_getElem.1 he
        rw [List.length_take] at hj
        rw [List.getElem_take] at hes
        have := hp j k (by omega) h2 (by omega)
        rw [hes, hks] at this
        exact absurd (bl_asym _ _ this) (by rw [this]; decide)
      · obtain ⟨j, hj, rfl⟩ := List.mem_iff_getElem.1 he
        rw [List.length_drop] at hj
        rw [List.getElem_drop] at hes
        have := hp k (k + 1 + j) h2 (by omega) (by omega)
        rw [hes, hks] at this
        exact absurd (bl_asym _ _ this) (by rw [this]; decide)
theorem remL_mem {l : List En} {s : List UInt8} {e : En} (he : e ∈ l) (hn : e.1 ≠ s) : e ∈ remL l s := by
  unfold remL
  split
  · exact he
  · rcases idxP_spec (eqS s) ([], 0) l with ⟨h1, _⟩ | ⟨k, h1, h2, h3⟩
    · omega
    · rw [h1, Int.toNat_natCast]
      rw [List.getD_eq_getElem?_getD, List.getElem?_eq_getElem h2] at h3
      have hks : l[k].1 = s := by simpa [eqS] using h3
      rw [← List.take_append_drop k l, List.mem_append] at he
      rcases he with he | he
      · exact List.mem_append_left _ he
      · rw [List.drop_eq_getElem_cons h2, List.mem_cons] at he
        rcases he with rfl | he
        · exact absurd hks hn
        · exact List.mem_append_right _ he
theorem risP_of {n : Nd} (h : rightF n = true) : RisP n.ents ∧ n.ents.length ≤ 8 ∧ ∀ e ∈ n.ents, nameF e.1 = true ∧ 1 ≤ e.2 := by
  obtain ⟨_, h | h | h⟩ := right_cases h
  · rw [h.2.1]; exact ⟨List.Pairwise.nil, by simp, fun e he => nomatch he⟩
  · obtain ⟨h1, h2, h3⟩ := (rising_iff _).1 h.2.2.2
    exact ⟨h2, h3, h1⟩
  · rw [h.2.2.1]; exact ⟨List.Pairwise.nil, by simp, fun e he => nomatch he⟩
theorem rem_right {n : Nd} (h : rightF n = true) (hk : n.kind = 2) (s : List UInt8) : rightF (nWith n (remL n.ents s)) = true := by
  obtain ⟨hc, hh⟩ := right_cases h
  obtain ⟨h1, h2, h3⟩ := risP_of h
  rcases hh with hh | hh | hh
  · omega
  · refine right_dir hk hc hh.2.1 hh.2.2.1 ((rising_iff _).2 ⟨fun e he => h3 e ((remL_sub _ _).subset he), h1.sublist (remL_sub _ _), ?_⟩)
    exact Nat.le_trans (remL_sub _ _).length_le h2
  · omega
theorem nWith_self (n : Nd) : nWith n n.ents = n := rfl
theorem cut_get {T : Tab} (hT : Gd T) (d : Int) (s : List UInt8) (k : Int) : (cutF T d s).get k = if k = d ∧ (T.get d).1.kind = 2 then (nWith (T.get d).1 (remL (T.get d).1.ents s), true) else T.get k := by
  unfold cutF
  by_cases hk : (T.get d).1.kind = 2
  · have hdi := get_kind_at (T := T) (i := d) (by omega)
    by_cases hi : idxP (eqS s) (T.get d).1.ents < 0
    · have e : withoutN (T.get d).1 s = (nd0, 2) := by unfold withoutN; rw [if_neg (fun h => h hk), if_pos hi]
      rw [e, if_neg (by decide)]
      split
      · rename_i h
        rw [h.1]
        have e2 : remL (T.get d).1.ents s = (T.get d).1.ents := by unfold remL; rw [if_pos hi]
        rw [e2, nWith_self, ← hdi]
      · rfl
    · have e : withoutN (T.get d).1 s = (nWith (T.get d).1 (remL (T.get d).1.ents s), 0) := by unfold withoutN remL; rw [if_neg (fun h => h hk), if_neg hi, if_neg hi]
      have hno : NdOk (nWith (T.get d).1 (remL (T.get d).1.ents s)) := by
        have := withoutN_ok (s := s) (hT.nd d)
        rw [e] at this; exact this
      rw [e, if_pos rfl, (putT_get hT.1 hno (rem_right (hT.2.kind (by omega)) hk s) hdi).2]
      by_cases hkd : k = d
      · rw [if_pos hkd, if_pos ⟨hkd, hk⟩]
      · rw [if_neg hkd, if_neg (fun h => hkd h.1)]
  · have e : withoutN (T.get d).1 s = (nd0, 20) := by unfold withoutN; rw [if_pos hk]
    rw [e, if_neg (by decide), if_neg (fun h => hk h.2)]
theorem findF_pos {n : Nd} (h : rightF n = true) {s : List UInt8} : (findF n s = 0 ∧ idxP (eqS s) n.ents < 0) ∨ (1 ≤ findF n s ∧ 0 ≤ idxP (eqS s) n.ents ∧ (s, findF n s) ∈ n.ents) := by
  unfold findF
  rcases idxP_spec (eqS s) ([], 0) n.ents with ⟨h1, _⟩ | ⟨k, h1, h2, h3⟩
  · left; rw [if_neg (by omega)]; exact ⟨rfl, h1⟩
  · right
    rw [if_pos (by omega), h1, Int.toNat_natCast]
    rw [List.getD_eq_getElem?_getD, List.getElem?_eq_getElem h2] at h3 ⊢
    have hks : n.ents[k].1 = s := by simpa [eqS] using h3
    refine ⟨((risP_of h).2.2 _ (List.getElem_mem h2)).2, by omega, ?_⟩
    rw [← hks]; exact List.getElem_mem h2
theorem findE_zero {T : Tab} {c : Cr} {p : List UInt8} (h : findE T c p = 0) : rE T c p false = 0 ∧ rN T c p false ≠ 0 ∧ rS T c p false ≠ [] ∧ canT c T (rD T c p false) 2 = true := by
  unfold findE at h
  split at h
  · rename_i h1; exact absurd h h1
  rename_i h1
  split at h
  · cases h
  rename_i h2
  split at h
  · cases h
  rename_i h3
  split at h
  · cases h
  rename_i h4
  exact ⟨Classical.not_not.1 h1, h2, h3, by simpa using h4⟩
theorem renL_good {T : Tab} (hT : Gd T) {c : Cr} {p q : List UInt8} (o : List Int) (hp : findE T c p = 0) (hq : rE T c q false = 0) (hs : rS T c q false ≠ []) {U : Tab} (hU : (rN T c q false ≠ 0 ∧ U = cutF T (rD T c q false) (rS T c q false)) ∨ (rN T c q false = 0 ∧ U = T ∧ (rD T c q false = rD T c p false ∨ (T.get (rD T c q false)).1.ents.length < 8))) :
    (withN ((cutF U (rD T c p false) (rS T c p false)).get (rD T c q false)).1 (rS T c q false) (rN T c p false)).2 = 0 ∧ (putT (cutF U (rD T c p false) (rS T c p false)) (rD T c q false) (withN ((cutF U (rD T c p false) (rS T c p false)).get (rD T c q false)).1 (rS T c q false) (rN T c p false)).1).1 = 0 := by
  obtain ⟨p1, p2, p3, p4⟩ := findE_zero hp
  have hpa := resF_at hT.2 c p false p1
  have hqa := resF_at hT.2 c q false hq
  have hnm := resF_nm T c q false
  generalize rD T c p false = dp at *
  generalize rS T c p false = sp at *
  generalize rN T c p false = np at *
  generalize rD T c q false = dq at *
  generalize rS T c q false = sq at *
  generalize rN T c q false = nq at *
  rcases hpa with hpa | ⟨pk, pn, -, -, -, pf⟩
  · exact absurd hpa.1 p3
  rcases hqa with hqa | ⟨qk, qn, q1, q2, q3, qf⟩
  · exact absurd hqa.1 hs
  dsimp only at pk pn pf qk qn q1 q2 q3 qf
  have hUg : Gd U := by
    rcases hU with ⟨_, rfl⟩ | ⟨_, rfl, _⟩
    · exact hT.cut _ _
    · exact hT
  have hCg : Gd (cutF U dp sp) := hUg.cut _ _
  have hpr := hT.2.kind (i := dp) (by omega)
  have hqr := hT.2.kind (i := dq) (by omega)
  -- what is there, where it goes
  have key : ((cutF U dp sp).get dq).1.kind = 2 ∧ (∀ e ∈ ((cutF U dp sp).get dq).1.ents, e.1 ≠ sq) ∧ ((cutF U dp sp).get dq).1.ents.length < 8 := by
    have hU2 : (U.get dq).1.kind = 2 ∧ (∀ e ∈ (U.get dq).1.ents, e.1 ≠ sq) ∧ ((U.get dq).1.ents.length < 8 ∨ (dq = dp ∧ 0 ≤ idxP (eqS sp) (U.get dq).1.ents ∧ (U.get dq).1.ents.length ≤ 8)) := by
      rcases hU with ⟨hn, rfl⟩ | ⟨hn, rfl, hd⟩
      · rw [cut_get hT, if_pos ⟨rfl, qk⟩]
        refine ⟨qk, remL_ne (risP_of hqr).1, .inl ?_⟩
        rcases findF_pos hqr (s := sq) with ⟨f1, _⟩ | ⟨f1, f2, f3⟩
        · omega
        · have := remL_len f2
          have := (risP_of hqr).2.1
          show (remL _ _).length < 8; omega
      · rcases findF_pos hqr (s := sq) with ⟨f1, f2⟩ | ⟨f1, f2, f3⟩
        · refine ⟨qk, idx_none f2, ?_⟩
          rcases hd with hd | hd
          · subst hd
            rcases findF_pos hpr (s := sp) with ⟨g1, _⟩ | ⟨g1, g2, g3⟩
            · omega
            · exact .inr ⟨rfl, g2, (risP_of hqr).2.1⟩
          · exact .inl hd
        · omega
    obtain ⟨u1, u2, u3⟩ := hU2
    rw [cut_get hUg]
    split
    · rename_i h
      obtain ⟨h1, h2⟩ := h
      subst h1
      refine ⟨u1, fun e he => u2 e ((remL_sub _ _).subset he), ?_⟩
      show (remL _ _).length < 8
      rcases u3 with u3 | ⟨_, u4, u5⟩
      · exact Nat.lt_of_le_of_lt (remL_sub _ _).length_le u3
      · have := remL_len u4; omega
    · rename_i h
      refine ⟨u1, u2, u3.elim id fun u3 => ?_⟩
      exact absurd ⟨u3.1, by rw [← u3.1]; exact u1⟩ h
  obtain ⟨k1, k2, k3⟩ := key
  have hnp : 1 ≤ np := by
    rcases findF_pos hpr (s := sp) with ⟨g1, _⟩ | ⟨g1, g2, g3⟩
    · omega
    · omega
  have hw : (withN ((cutF U dp sp).get dq).1 sq np).2 = 0 := by
    unfold withN
    have hb : badN sq np = false := by
      unfold badN
      rw [decide_eq_false (by omega), decide_eq_false qn.1, decide_eq_false q1, decide_eq_false q2, qn.2]; rfl
    have hx : ¬ 0 ≤ idxP (eqS sq) ((cutF U dp sp).get dq).1.ents := by
      rcases idxP_spec (eqS sq) ([], 0) ((cutF U dp sp).get dq).1.ents with ⟨h1, _⟩ | ⟨k, h1, h2, h3⟩
      · omega
      · rw [List.getD_eq_getElem?_getD, List.getElem?_eq_getElem h2] at h3
        exact absurd (by simpa [eqS] using h3) (k2 _ (List.getElem_mem h2))
    rw [if_neg (fun h => h k1), hb, cond_false, if_neg (by omega), if_neg hx, if_neg (by omega)]
  refine ⟨hw, (putT_get hCg.1 (withN_ok (hCg.nd _) (by omega)) (withN_right (hCg.2.kind (by omega)) hw) (get_kind_at (by omega))).1⟩
theorem renameF_bad {T : Tab} (hT : Gd T) {c : Cr} {p q : List UInt8} {o : List Int} (h : (renameF T c p q o).1 ≠ 0) : (renameF T c p q o).2 = T := by
  unfold renameF at h ⊢
  split
  · rfl
  rename_i h1; rw [if_neg h1] at h
  split
  · rfl
  rename_i h2; rw [if_neg h2] at h
  split
  · rfl
  rename_i h3; rw [if_neg h3] at h
  split
  · rfl
  rename_i h4; rw [if_neg h4] at h
  split
  · rfl
  rename_i h5; rw [if_neg h5] at h
  split
  · rfl
  rename_i h6; rw [if_neg h6] at h
  split
  · rfl
  rename_i h7; rw [if_neg h7] at h
  split
  · rename_i h8
    rw [if_pos h8] at h
    split
    · rfl
    · rename_i h9
      rw [if_neg h9] at h
      obtain ⟨g1, g2⟩ := renL_good hT o (Classical.not_not.1 h1) (Classical.not_not.1 h2) h3 (.inl ⟨h8, rfl⟩)
      unfold renL at h
      rw [if_pos g1] at h
      exact absurd g2 h
  · rename_i h8
    rw [if_neg h8] at h
    have h80 := Classical.not_not.1 h8
    obtain ⟨g1, g2⟩ := renL_good hT o (Classical.not_not.1 h1) (Classical.not_not.1 h2) h3 (.inr ⟨h80, rfl, by
      by_cases e : rD T c q false = rD T c p false
      · exact .inl e
      · exact .inr (by
          by_cases e8 : (8 : Int) ≤ (T.get (rD T c q false)).1.ents.length
          · exact absurd ⟨h80, e, e8⟩ h7
          · omega)⟩)
    unfold renL at h
    rw [if_pos g1] at h
    exact absurd g2 h
theorem chaF_bad {T : Tab} (hT : Gd T) {P : Pr} {ca : Ca} {o : List Int} (h : (chaF T P ca o).1 ≠ 0) : (chaF T P ca o).2 = T := by
  have hp : ∀ (c : Cr) (p : List UInt8) (fl : Bool) (g : Nd → Nd), (∀ n, NdOk n → NdOk (g n)) → (plantF T c p fl g).1.2 ≠ 0 → (plantF T c p fl g).2 = T := fun c p fl g hg h => plantF_bad hT hg h
  unfold chaF at h ⊢
  split
  · rename_i h1; rw [if_pos h1] at h
    unfold chmodF at h ⊢
    split
    · rfl
    · rename_i h2; rw [if_neg h2] at h; exact chgF_bad h
  rename_i h1; rw [if_neg h1] at h
  split
  · rename_i h2; rw [if_pos h2] at h
    exact hp _ _ _ _ (fun n hn => ⟨Nat.zero_le _, Nat.zero_le _, Nat.zero_le _, fun e he => nomatch he⟩) h
  rename_i h2; rw [if_neg h2] at h
  split
  · rename_i h3; rw [if_pos h3] at h
    unfold symlinkF at h ⊢
    split
    · rfl
    rename_i k1; rw [if_neg k1] at h
    split
    · rfl
    rename_i k2; rw [if_neg k2] at h
    split
    · rfl
    rename_i k3; rw [if_neg k3] at h
    exact hp _ _ _ _ (fun n hn => ⟨Nat.zero_le _, Nat.zero_le _, (by show ca.other.length ≤ 1000; omega), fun e he => nomatch he⟩) h
  rename_i h3; rw [if_neg h3] at h
  split
  · rename_i h4; rw [if_pos h4] at h
    unfold unlinkF at h ⊢
    split
    · rfl
    rename_i k1; rw [if_neg k1] at h
    split
    · rfl
    rename_i k2; rw [if_neg k2] at h
    exact absurd rfl h
  rename_i h4; rw [if_neg h4] at h
  split
  · rename_i h5; rw [if_pos h5] at h
    unfold rmdirF at h ⊢
    split
    · rfl
    rename_i k1; rw [if_neg k1] at h
    split
    · rfl
    rename_i k2; rw [if_neg k2] at h
    split
    · rfl
    rename_i k3; rw [if_neg k3] at h
    exact absurd rfl h
  rename_i h5; rw [if_neg h5] at h
  split
  · rename_i h6; rw [if_pos h6] at h; exact renameF_bad hT h
  rename_i h6; rw [if_neg h6] at h
  unfold chownF at h ⊢
  split
  · rfl
  · rename_i h7; rw [if_neg h7] at h; exact chgF_bad h
theorem openF_bad {T : Tab} (hT : Gd T) {c : Cr} {um : Int} {p : List UInt8} {f m : Int} (h : (openF T c um p f m).1.2 ≠ 0) : (openF T c um p f m).2 = T := by
  unfold openF at h ⊢
  split
  · rfl
  rename_i h1; rw [if_neg h1] at h
  split
  · rfl
  rename_i h2; rw [if_neg h2] at h
  split
  · rename_i h3; rw [if_pos h3] at h
    split
    · rfl
    · rename_i h4; rw [if_neg h4] at h
      exact plantF_bad hT (fun n hn => ⟨Nat.zero_le _, Nat.zero_le _, Nat.zero_le _, fun e he => nomatch he⟩) h
  rename_i h3; rw [if_neg h3] at h
  split
  · rfl
  rename_i h4; rw [if_neg h4] at h
  split
  · rfl
  rename_i h5; rw [if_neg h5] at h
  split
  · rfl
  rename_i h6; rw [if_neg h6] at h
  generalize bits .or .i64 (if hasF f 1 = true then 4 else 0) (if hasF f 2 = true then 2 else 0) = w at h ⊢
  split
  · rfl
  rename_i h7; rw [if_neg h7] at h
  split
  · rename_i h8; rw [if_pos h8] at h; exact absurd rfl h
  · rfl
theorem writeAtF_bad {T : Tab} {c : Cr} {i off : Int} {b : List UInt8} (h : (writeAtF T c i off b).1 ≠ 0) : (writeAtF T c i off b).2 = T := by
  unfold writeAtF at h ⊢
  split
  · rfl
  rename_i h1; rw [if_neg h1] at h
  split
  · rfl
  rename_i h2; rw [if_neg h2] at h
  split
  · rfl
  rename_i h3; rw [if_neg h3] at h
  split
  · rfl
  rename_i h4; rw [if_neg h4] at h
  exact absurd rfl h
/-! What is open stays. -/
theorem put_node (P : Pr) (i j : Nat) (f : Fde) (h : f.node = (P.fd i).node) (hi : i < 3) : ((P.put i f).fd j).node = (P.fd j).node := by
  rcases (show i = 0 ∨ i = 1 ∨ i = 2 by omega) with rfl | rfl | rfl <;> match j with
  | 0 => first | exact h | rfl
  | 1 => first | exact h | rfl
  | j + 2 => first | exact h | rfl
theorem prO_same {P Q : Pr} (h : ∀ j, (P.fd j).node = (Q.fd j).node) (n : Nat) : prO P n = prO Q n := by
  unfold prO; simp only [h]
theorem openL_set {ps : List Pr} {pid : Nat} (hp : pid < ps.length) {Q : Pr} (h : ∀ j, (Q.fd j).node = (ps[pid].fd j).node) : openL (ps.set pid Q) = openL ps := by
  unfold openL
  rw [List.flatMap_def, List.flatMap_def, List.map_set, prO_same h 3]
  congr 1
  refine List.ext_getElem (by simp) fun k k1 k2 => ?_
  rw [List.getElem_set]
  split
  · rename_i e; subst e; rw [List.getElem_map]
  · rfl
theorem doF_bad {T : Tab} (hT : Gd T) (ps : List Pr) (pid : Int) (ca : Ca) (h : (doF T ps pid ca).1.err ≠ 0 ∨ ca.kind ≤ 4) : (doF T ps pid ca).2.1 = T ∧ openL (doF T ps pid ca).2.2 = openL ps ∧ umQ (doF T ps pid ca).2.2 pid = umQ ps pid := by
  unfold doF at h ⊢
  by_cases hp : 0 ≤ pid ∧ pid < ps.length
  · rw [if_pos hp] at h ⊢
    obtain ⟨n, rfl⟩ : ∃ n : Nat, pid = (n : Int) := ⟨pid.toNat, by omega⟩
    have hn : n < ps.length := by omega
    rw [Int.toNat_natCast] at h ⊢
    have hgd : ps.getD n pr0 = ps[n] := by rw [List.getD_eq_getElem?_getD, List.getElem?_eq_getElem hn]; rfl
    rw [hgd] at h ⊢
    have key : (stepF T ps n ps[n] ca).2.1 = T ∧ (∀ j, ((stepF T ps n ps[n] ca).2.2.fd j).node = (ps[n].fd j).node) ∧ (stepF T ps n ps[n] ca).2.2.um = ps[n].um := by
      generalize ps[n] = P at h ⊢
      dsimp only at h
      unfold stepF at h ⊢
      split
      · rename_i h1; rw [if_pos h1] at h
        have h0 : (opnF T P ca).1.err ≠ 0 := h.elim id fun h => by omega
        have ha : ∀ i, (opnAt T P ca i).1.err ≠ 0 → (opnAt T P ca i).2 = (T, P) := fun i hi => by
          unfold opnAt at hi ⊢
          split
          · rename_i ho; rw [openF_bad hT ho]
          · rename_i ho; rw [if_neg ho] at hi; exact absurd rfl hi
        have : (opnF T P ca).2 = (T, P) := by
          unfold opnF at h0 ⊢
          split
          · rename_i k; rw [if_pos k] at h0; exact ha _ h0
          rename_i k; rw [if_neg k] at h0
          split
          · rename_i k; rw [if_pos k] at h0; exact ha _ h0
          rename_i k; rw [if_neg k] at h0
          split
          · rename_i k; rw [if_pos k] at h0; exact ha _ h0
          · rfl
        rw [this]; exact ⟨rfl, fun _ => rfl, rfl⟩
      rename_i h1; rw [if_neg h1] at h
      split
      · refine ⟨rfl, fun j => ?_, ?_⟩
        · show ((redF T P ca).2.fd j).node = _
          unfold redF
          split
          · rfl
          · exact put_node P _ j _ rfl (by omega)
        · show (redF T P ca).2.um = _
          unfold redF
          split
          · rfl
          · show (Pr.put _ _ _).um = _; unfold Pr.put; split <;> rfl
      rename_i h2; rw [if_neg h2] at h
      split
      · rename_i h3; rw [if_pos h3] at h
        have h0 : (wriF T P ca).1.err ≠ 0 := h.elim id fun h => by omega
        have : (wriF T P ca).2 = (T, P) := by
          unfold wriF at h0 ⊢
          split
          · rfl
          rename_i k; rw [if_neg k] at h0
          split
          · rename_i k; rw [writeAtF_bad k]
          · rename_i k; rw [if_neg k] at h0; exact absurd rfl h0
        rw [this]; exact ⟨rfl, fun _ => rfl, rfl⟩
      rename_i h3; rw [if_neg h3] at h
      split
      · rename_i h4; rw [if_pos h4] at h
        have h0 : (shutF T ps n P ca.a).1.err ≠ 0 := h.elim id fun h => by omega
        have : (shutF T ps n P ca.a).2 = (T, P) := by
          unfold shutF at h0 ⊢
          split
          · rfl
          · rename_i k; rw [if_neg k] at h0; exact absurd rfl h0
        rw [this]; exact ⟨rfl, fun _ => rfl, rfl⟩
      rename_i h4; rw [if_neg h4] at h
      split
      · rename_i h5; rw [if_pos h5] at h
        exact h.elim (fun h => absurd rfl h) fun h => by omega
      rename_i h5; rw [if_neg h5] at h
      split
      · rename_i h6; rw [if_pos h6] at h
        exact h.elim (fun h => absurd rfl h) fun h => by omega
      rename_i h6; rw [if_neg h6] at h
      split
      · exact ⟨rfl, fun _ => rfl, rfl⟩
      rename_i h7; rw [if_neg h7] at h
      split
      · rename_i h8; rw [if_pos h8] at h
        have h0 : (chaF T P ca (openL ps)).1 ≠ 0 := h.elim id fun h => by omega
        exact ⟨chaF_bad hT h0, fun _ => rfl, rfl⟩
      · exact ⟨rfl, fun _ => rfl, rfl⟩
    obtain ⟨k1, k2, k3⟩ := key
    refine ⟨k1, openL_set hn k2, ?_⟩
    unfold umQ
    rw [List.length_set, if_pos hp, if_pos hp, Int.toNat_natCast, hgd, List.getD_eq_getElem?_getD, List.getElem?_set_self hn]
    exact k3
  · rw [if_neg hp]; exact ⟨rfl, rfl, rfl⟩
theorem sameF_refl (a : Nd) : sameF a a = true := by unfold sameF; simp
theorem sameT_refl (T : Tab) : sameT T T = true := by unfold sameT; exact List.all_eq_true.2 fun j _ => sameF_refl _
theorem drop_get {T : Tab} (hT : T.Ok) (j k : Int) : (dropT T j).get k = if k = j then (nd0, false) else T.get k := by
  cases ha : T.at j with
  | none =>
    have e : dropT T j = T := by unfold dropT; rw [ha]
    rw [e]
    split
    · rename_i e; rw [e, get_no ha]
    · rfl
  | some a =>
    obtain ⟨h1, h2, h3⟩ := at_room ha
    have hl := hT.len
    have hr := hT.hi
    have hd : (dropT T j).Ok := dropT_ok hT j
    rw [get_eq hd, get_eq hT]
    unfold dropT; rw [ha]
    show (if 1 ≤ k ∧ k ≤ T.room then ((T.ns.set a nd0).getD (k - 1).toNat nd0, !decide (((T.ns.set a nd0).getD (k - 1).toNat nd0).kind = 0)) else (nd0, false)) = _
    by_cases hk : k = j
    · rw [if_pos hk, hk, h1]
      rw [List.getD_eq_getElem?_getD, List.getElem?_set_self (by omega)]
      split <;> rfl
    · rw [if_neg hk]
      by_cases hc : 1 ≤ k ∧ k ≤ T.room
      · rw [if_pos hc, if_pos hc, List.getD_eq_getElem?_getD, List.getElem?_set_ne (by omega), List.getD_eq_getElem?_getD]
      · rw [if_neg hc, if_neg hc]
theorem wrapS {a : Int} (h0 : 0 ≤ a) (h1 : a ≤ 1000000) : IntKind.i64.wrap a = a := by
  unfold IntKind.wrap; simp [IntKind.bits, IntKind.signed]; omega

end Go.Proofs.YtegffmibifodcaaGreat
