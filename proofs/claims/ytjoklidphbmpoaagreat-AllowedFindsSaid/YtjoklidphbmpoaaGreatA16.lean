import Derived.Test.YtjoklidphbmpoaaGreatA15
/-
  TABLES: the document's ways are the program's.
-/
namespace Go.Proofs.YtjoklidphbmpoaaGreat
open Go.Ab
set_option linter.unusedVariables false
set_option linter.unusedSimpArgs false
set_option maxRecDepth 8000
set_option maxHeartbeats 400000


theorem getD_zero {T : Tab} (hT : T.Ok) {j : Nat} (h : (T.ns.getD j nd0).kind = 0) : T.ns.getD j nd0 = nd0 := by
  by_cases hj : j < T.ns.length
  · rw [List.getD_eq_getElem?_getD, List.getElem?_eq_getElem hj] at h ⊢
    exact hT.zero _ (List.getElem_mem hj) h
  · rw [List.getD_eq_getElem?_getD, List.getElem?_eq_none (by omega)]; rfl
theorem get_eq {T : Tab} (hT : T.Ok) (d : Int) : T.get d = if 1 ≤ d ∧ d ≤ T.room then (T.ns.getD (d - 1).toNat nd0, !decide ((T.ns.getD (d - 1).toNat nd0).kind = 0)) else (nd0, false) := by
  by_cases h : 1 ≤ d ∧ d ≤ T.room
  · rw [if_pos h]
    by_cases hk : (T.ns.getD (d - 1).toNat nd0).kind = 0
    · have : T.at d = none := by unfold Tab.at; rw [if_neg (fun e => e.2.2 hk)]
      rw [get_no this, decide_eq_true hk, getD_zero hT hk]; rfl
    · have : T.at d = some (d - 1).toNat := by unfold Tab.at; rw [if_pos ⟨h.1, h.2, hk⟩]
      rw [get_at this, decide_eq_false hk]; rfl
  · rw [if_neg h]
    have : T.at d = none := by unfold Tab.at; rw [if_neg (fun e => h ⟨e.1, e.2.1⟩)]
    exact get_no this
theorem ref_getD {T : Tab} {j : Nat} (hj : j < T.room.toNat) : (refL T).getD j nd0 = T.ns.getD j nd0 := by
  unfold refL; rw [List.getD_eq_getElem?_getD, List.getElem?_take, if_pos hj, List.getD_eq_getElem?_getD]
theorem rGet_eq {T : Tab} (hT : T.Ok) (d : Int) : rGet (refL T) d = (T.get d).1 := by
  have h3 := hT.lo
  unfold rGet
  rw [refL_len hT, get_eq hT]
  by_cases h : 1 ≤ d ∧ d ≤ T.room
  · rw [if_pos h, decide_eq_false (by omega), decide_eq_false (by omega)]
    exact ref_getD (by omega)
  · rw [if_neg h]
    by_cases h1 : d < 1
    · rw [decide_eq_true h1]; rfl
    · rw [decide_eq_false h1, decide_eq_true (by omega)]; rfl
theorem rIs_eq {T : Tab} (hT : T.Ok) (d : Int) : rIs (refL T) d = (T.get d).2 := by
  have h3 := hT.lo
  unfold rIs
  rw [refL_len hT, get_eq hT]
  by_cases h : 1 ≤ d ∧ d ≤ T.room
  · rw [if_pos h, decide_eq_true h.1, decide_eq_true (by omega), ref_getD (by omega)]; rfl
  · rw [if_neg h]
    by_cases h1 : 1 ≤ d
    · rw [decide_eq_true h1, decide_eq_false (by omega)]; rfl
    · rw [decide_eq_false h1]; rfl
theorem get_kind {T : Tab} (hT : T.Ok) (d : Int) : (T.get d).2 = !decide ((T.get d).1.kind = 0) := by
  rw [get_eq hT]
  split
  · rfl
  · rfl
theorem rCan_eq {T : Tab} (hT : T.Ok) (c : Cr) (i w : Int) : rCan (refL T) c i w = canT c T i w := by
  unfold rCan canT; rw [rGet_eq hT, get_kind hT]
theorem idxP_snoc {α : Type} (p : α → Bool) (x : α) : ∀ l : List α, idxP p (l ++ [x]) = if idxP p l < 0 then (if p x = true then (l.length : Int) else -1) else idxP p l
  | [] => by
    simp only [List.nil_append, idxP]
    cases p x <;> rfl
  | y :: l => by
    have ih := idxP_snoc p x l
    have hr := idxP_range p l
    simp only [List.cons_append, idxP]
    rcases Bool.eq_false_or_eq_true (p y) with hy | hy
    · simp [hy]
    · simp only [hy, cond_false]
      rw [ih]
      by_cases h : idxP p l < 0
      · rw [if_pos h, decide_eq_true h, cond_true]
        by_cases hx : p x = true
        · rw [if_pos hx, if_pos hx, decide_eq_false (by omega), cond_false, if_pos (show (-1 : Int) < 0 by decide), List.length_cons]; rfl
        · rw [if_neg hx, if_neg hx]; rfl
      · rw [if_neg h, decide_eq_false h, cond_false, if_neg (by omega)]
theorem entsF_par (i d : Int) (hd : d ≠ 0) : ∀ (l : List En) (v : Int), entsF (fun v d => if v = 0 then d else v) i d v l = if v = 0 ∧ (l.any fun e => decide (e.2 = i)) = true then d else v
  | [], v => by simp [entsF]
  | e :: l, v => by
    show entsF (fun v d => if v = 0 then d else v) i d (if e.2 = i then (if v = 0 then d else v) else v) l = _
    rw [entsF_par i d hd l]
    by_cases he : e.2 = i
    · rw [if_pos he]
      by_cases hv : v = 0
      · rw [if_pos hv, if_neg (by omega)]; simp [he, hv]
      · rw [if_neg hv]; simp [hv]
    · rw [if_neg he, List.any_cons, decide_eq_false he, Bool.false_or]
theorem hasK_ents (i : Int) (n : Nd) : hasK i n = n.ents.any fun e => decide (e.2 = i) := by
  unfold hasK kdL; rw [List.any_map]; rfl
theorem at_none_nd {T : Tab} (hT : T.Ok) {m : Nat} (hm : m < T.room.toNat) (h : T.at ((m : Int) + 1) = none) : T.ns.getD m nd0 = nd0 := by
  refine getD_zero hT ?_
  unfold Tab.at at h
  by_cases hc : (T.ns.getD m nd0).kind = 0
  · exact hc
  · rw [if_pos ⟨by omega, by omega, by rw [show ((m : Int) + 1 - 1).toNat = m by omega]; exact hc⟩] at h; cases h
theorem scan_par {T : Tab} (hT : T.Ok) (i : Int) : ∀ m, m ≤ T.room.toNat → T.scan (fun v d => if v = 0 then d else v) i 0 m = if idxP (hasK i) ((refL T).take m) < 0 then 0 else idxP (hasK i) ((refL T).take m) + 1
  | 0, _ => by simp [Tab.scan, idxP]
  | m + 1, hm => by
    have ih := scan_par hT i m (by omega)
    have hl : m < (refL T).length := by rw [refL_len hT]; omega
    have hg : (refL T)[m] = T.ns.getD m nd0 := by
      rw [← ref_getD (T := T) (j := m) (by omega), List.getD_eq_getElem?_getD, List.getElem?_eq_getElem hl]; rfl
    have hr := idxP_range (hasK i) ((refL T).take m)
    have htl : ((refL T).take m).length = m := by rw [List.length_take]; omega
    rw [List.take_succ_eq_append_getElem hl, idxP_snoc, hg, htl]
    have hs : T.scan (fun v d => if v = 0 then d else v) i 0 (m + 1) = if T.scan (fun v d => if v = 0 then d else v) i 0 m = 0 ∧ hasK i (T.ns.getD m nd0) = true then ((m : Int) + 1) else T.scan (fun v d => if v = 0 then d else v) i 0 m := by
      show (match T.at ((m : Int) + 1) with | some j => _ | none => _) = _
      cases ha : T.at ((m : Int) + 1) with
      | none =>
        rw [at_none_nd hT (by omega) ha]
        simp [hasK, kdL, nd0]
      | some j =>
        obtain rfl := at_m hT j ha
        simp only []
        rw [entsF_par _ _ (by omega), hasK_ents]
    rw [hs, ih]
    by_cases h : idxP (hasK i) ((refL T).take m) < 0
    · rw [if_pos h, if_pos h]
      cases hasK i (T.ns.getD m nd0) with
      | true => rw [if_pos ⟨rfl, rfl⟩, if_pos rfl, if_neg (by omega)]
      | false => simp
    · rw [if_neg h, if_neg h, if_neg (by omega), if_neg h]
theorem rPar_eq {T : Tab} (hT : T.Ok) (i : Int) : rPar (refL T) i = T.parent i := by
  unfold rPar Tab.parent
  rw [scan_par hT i _ (Nat.le_refl _), List.take_of_length_le (by rw [refL_len hT]; omega)]
theorem rWayL_eq {T : Tab} (hT : T.Ok) (c : Cr) : ∀ (n : Nat) (d : Int), rWayL (refL T) c n d = wayL T c n d
  | 0, _ => rfl
  | n + 1, d => by
    unfold rWayL wayL
    rw [rPar_eq hT, rCan_eq hT, rWayL_eq hT c n]
theorem rWay_eq {T : Tab} (hT : T.Ok) (c : Cr) (d : Int) : rWay (refL T) c d = wayF T c d := by
  unfold rWay wayF; rw [rGet_eq hT, rWayL_eq hT]
theorem rSeen_eq {T : Tab} (hT : T.Ok) (c : Cr) (i : Int) : rSeen (refL T) c i = seenF T c i := by
  have h3 := hT.lo
  have h2 := hT.hi
  unfold rSeen seenF
  rw [rIs_eq hT, Bool.or_comm, refL_len hT]
  congr 2
  have hat : ∀ d : Nat, d < T.room.toNat → rSeenAt (refL T) c i d = seenAt T c i (d + 1) := fun d hd => by
    unfold rSeenAt seenAt
    rw [ref_getD hd, rWay_eq hT, rCan_eq hT, hasK_ents, show (((d + 1 : Nat) : Int)) = (d : Int) + 1 by omega, get_eq hT ((d : Int) + 1), if_pos ⟨by omega, by omega⟩, show ((d : Int) + 1 - 1).toNat = d by omega]
  rw [Bool.eq_iff_iff, List.any_eq_true, List.any_eq_true]
  constructor
  · rintro ⟨d, hd, h⟩
    have hd' := List.mem_range.1 hd
    exact ⟨d + 1, List.mem_range.2 (by omega), by rw [← hat d hd']; exact h⟩
  · rintro ⟨d, hd, h⟩
    have hd' := List.mem_range.1 hd
    have hin : 1 ≤ (d : Int) ∧ (d : Int) ≤ T.room := by
      by_cases hc : 1 ≤ (d : Int) ∧ (d : Int) ≤ T.room
      · exact hc
      · unfold seenAt at h
        rw [get_eq hT, if_neg hc] at h
        simp [nd0] at h
    obtain ⟨e, rfl⟩ : ∃ e, d = e + 1 := ⟨d - 1, by omega⟩
    exact ⟨e, List.mem_range.2 (by omega), by rw [hat e (by omega)]; exact h⟩

end Go.Proofs.YtjoklidphbmpoaaGreat
