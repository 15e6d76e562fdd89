import Derived.Test.YtjoklidphbmpoaaGreatA25
/-
  TREES: who comes where a path leads.
-/
namespace Go.Proofs.YtjoklidphbmpoaaGreat
open Go.Ab
set_option linter.unusedVariables false
set_option linter.unusedSimpArgs false
set_option maxRecDepth 8000
set_option maxHeartbeats 400000


theorem idxP_spec {α : Type} (p : α → Bool) (d : α) : ∀ l : List α, (idxP p l < 0 ∧ ∀ j, j < l.length → p (l.getD j d) = false) ∨ (∃ k : Nat, idxP p l = k ∧ k < l.length ∧ p (l.getD k d) = true)
  | [] => .inl ⟨by show (-1 : Int) < 0; decide, fun j hj => by simp at hj⟩
  | x :: l => by
    by_cases hx : p x = true
    · exact .inr ⟨0, by simp [idxP, hx], by simp, by simpa using hx⟩
    · have hx' : p x = false := by simpa using hx
      rcases idxP_spec p d l with ⟨h1, h2⟩ | ⟨k, h1, h2, h3⟩
      · left
        refine ⟨by simp [idxP, hx', h1], fun j hj => ?_⟩
        cases j with
        | zero => simpa using hx'
        | succ j => simpa using h2 j (by simpa using hj)
      · right
        refine ⟨k + 1, ?_, by simpa using h2, by simpa using h3⟩
        simp only [idxP, hx', cond_false, h1]
        rw [decide_eq_false (by omega)]; simp
/-- A node's parent has an entry of it; where it has none, nobody has. -/
theorem parent_spec {T : Tab} (hT : T.Ok) (i : Int) : (T.parent i = 0 ∧ ∀ (d : Int) (e : En), e ∈ (T.get d).1.ents → e.2 ≠ i) ∨ (1 ≤ T.parent i ∧ ∃ e ∈ (T.get (T.parent i)).1.ents, e.2 = i) := by
  have hl := refL_len hT
  have h3 := hT.lo
  rw [← rPar_eq hT]
  unfold rPar
  rcases idxP_spec (hasK i) nd0 (refL T) with ⟨h1, h2⟩ | ⟨k, h1, h2, h3'⟩
  · left
    rw [if_pos h1]
    refine ⟨rfl, fun d e he hei => ?_⟩
    have hd := ents_is he
    rw [get_eq hT] at hd he
    split at hd
    · rename_i hc
      rw [if_pos hc] at he
      have := h2 (d - 1).toNat (by rw [hl]; omega)
      rw [ref_getD (by omega), hasK_ents, List.any_eq_false] at this
      exact this e he (by simp [hei])
    · cases hd
  · right
    rw [if_neg (by omega), h1]
    rw [hl] at h2
    rw [ref_getD h2, hasK_ents, List.any_eq_true] at h3'
    obtain ⟨e, he, hee⟩ := h3'
    refine ⟨by omega, e, ?_, by simpa using hee⟩
    rw [get_eq hT, if_pos ⟨by omega, by omega⟩, show ((k : Int) + 1 - 1).toNat = k by omega]; exact he
theorem right_ents {n : Nd} (h : rightF n = true) {e : En} (he : e ∈ n.ents) : n.kind = 2 := by
  have hne : (n.ents.length : Int) ≠ 0 := by
    have := List.length_pos_of_mem he; omega
  unfold rightF at h
  cases hc : (decide (n.mode < 0) || decide (4095 < n.mode) || !idB n.uid || !idB n.gid) with
  | true => rw [hc] at h; cases h
  | false =>
    rw [hc, cond_false] at h
    split at h
    · rw [decide_eq_false hne] at h; simp at h
    · split at h
      · assumption
      · split at h
        · rw [decide_eq_false (by omega)] at h; simp at h
        · cases h
theorem Tab.Rt.dir {T : Tab} (h : T.Rt) {d : Int} {e : En} (he : e ∈ (T.get d).1.ents) : (T.get d).1.kind = 2 := right_ents (h.get (ents_is he)) he
theorem can_is {T : Tab} {c : Cr} {i w : Int} (h : canT c T i w = true) : (T.get i).2 = true := by
  unfold canT at h; rw [Bool.and_eq_true] at h; exact h.1
theorem wayL_mono {T : Tab} {c : Cr} : ∀ (n : Nat) (d : Int), wayL T c n d = true → wayL T c (n + 1) d = true
  | 0, _, h => by cases h
  | n + 1, d, h => by
    rw [wayL_succ] at h ⊢
    split
    · rfl
    · rename_i h1
      rw [if_neg h1] at h
      cases hc : canT c T (T.parent d) 1 with
      | false => rw [hc] at h; cases h
      | true => rw [hc, cond_true] at h; exact wayL_mono n _ h
theorem wayL_step {T : Tab} {c : Cr} {n : Nat} {d : Int} (h : wayL T c (n + 1) d = true) (h1 : d ≠ 1) : canT c T (T.parent d) 1 = true ∧ wayL T c n (T.parent d) = true := by
  rw [wayL_succ, if_neg h1] at h
  cases hc : canT c T (T.parent d) 1 with
  | false => rw [hc] at h; cases h
  | true => rw [hc, cond_true] at h; exact ⟨rfl, h⟩
section
variable {T : Tab} {m : Nat} {c : Cr}
theorem TreeI.le (hT : T.Ok) (h : TreeI T m) : (m : Int) ≤ 24 := by
  have hu := (h.used m).2 ⟨by have := h.pos; omega, Int.le_refl _⟩
  rw [get_eq hT] at hu
  split at hu
  · rename_i hc; have := hT.hi; omega
  · cases hu
theorem way_kind {d : Int} (h : wayF T c d = true) : (T.get d).1.kind = 2 ∧ wayL T c 24 d = true := by
  unfold wayF at h
  cases hk : decide ((T.get d).1.kind = 2) with
  | false => rw [hk] at h; cases h
  | true => rw [hk, cond_true] at h; exact ⟨of_decide_eq_true hk, h⟩
theorem way_of {d : Int} (h1 : (T.get d).1.kind = 2) (h2 : wayL T c 24 d = true) : wayF T c d = true := by
  unfold wayF; rw [decide_eq_true h1, cond_true]; exact h2
theorem kind_is (hT : T.Ok) {d : Int} (h : (T.get d).1.kind = 2) : (T.get d).2 = true := by rw [get_kind hT, h]; rfl
theorem seen_intro (hT : T.Ok) {i d : Int} {e : En} (he : e ∈ (T.get d).1.ents) (hei : e.2 = i) (hw : wayF T c d = true) (hc : canT c T d 1 = true) (hi : (T.get i).2 = true) : seenF T c i = true := by
  unfold seenF
  have hd := ents_is he
  rw [get_eq hT] at hd
  split at hd
  · rename_i hr
    have := hT.hi
    rw [hi, Bool.true_and, Bool.or_eq_true]
    left
    refine any25_t (m := d.toNat) (by omega) ?_
    unfold seenAt
    rw [show ((d.toNat : Nat) : Int) = d by omega, hw, hc, Bool.and_true, Bool.and_true, List.any_eq_true]
    exact ⟨e, he, by simp [hei]⟩
  · cases hd
theorem seen_one (h : TreeI T m) : seenF T c 1 = true := by
  unfold seenF
  rw [(h.used 1).2 ⟨Int.le_refl _, by have := h.pos; omega⟩]; simp
theorem way_one (h : TreeI T m) : wayF T c 1 = true := way_of h.root rfl
/-- Who comes to a directory comes to it by an entry. -/
theorem seen_of_way (hT : T.Ok) (hR : T.Rt) {i : Int} (hw : wayF T c i = true) (h1 : i ≠ 1) : seenF T c i = true := by
  obtain ⟨hk, hl⟩ := way_kind hw
  obtain ⟨hc, hl2⟩ := wayL_step hl h1
  have hp := can_is hc
  rcases parent_spec hT i with ⟨h0, _⟩ | ⟨_, e, he, hei⟩
  · rw [h0, get_eq hT, if_neg (by omega)] at hp; cases hp
  · exact seen_intro hT he hei (way_of (hR.dir he) (wayL_mono _ _ hl2)) hc (kind_is hT hk)
/-- A directory's parent stands ahead of it. -/
theorem TreeI.par_lt (hT : T.Ok) (hR : T.Rt) (h : TreeI T m) {d : Int} (hk : (T.get d).1.kind = 2) (h1 : d ≠ 1) : 1 ≤ T.parent d ∧ T.parent d < d ∧ (T.get (T.parent d)).1.kind = 2 := by
  have hd := (h.used d).1 (kind_is hT hk)
  rcases parent_spec hT d with ⟨_, h0⟩ | ⟨hp, e, he, hei⟩
  · obtain ⟨d', e, q1, q2, _⟩ := h.par d (by omega) hd.2
    exact absurd q2 (h0 d' e q1)
  · exact ⟨hp, by have := (h.kid _ e he).2.2 (by rw [hei]; exact hk); omega, hR.dir he⟩
theorem TreeI.enough (hT : T.Ok) (hR : T.Rt) (h : TreeI T m) : ∀ (n k : Nat) (d : Int), d ≤ n → (T.get d).1.kind = 2 → wayL T c k d = true → wayL T c n d = true
  | 0, k, d, hd, hk, _ => by
    have := (h.used d).1 (kind_is hT hk); omega
  | n + 1, 0, d, hd, hk, hl => by cases hl
  | n + 1, k + 1, d, hd, hk, hl => by
    by_cases h1 : d = 1
    · rw [wayL_succ, if_pos h1]
    · obtain ⟨hc, hl2⟩ := wayL_step hl h1
      obtain ⟨_, p2, p3⟩ := h.par_lt hT hR hk h1
      rw [wayL_succ, if_neg h1, hc, cond_true]
      exact TreeI.enough hT hR h n k _ (by omega) p3 hl2
/-- Root comes to each directory. -/
theorem TreeI.root_way (hT : T.Ok) (hR : T.Rt) (h : TreeI T m) (hc0 : c.uid = 0) : ∀ (n : Nat) (d : Int), d ≤ n → (T.get d).1.kind = 2 → wayL T c n d = true
  | 0, d, hd, hk => by
    have := (h.used d).1 (kind_is hT hk); omega
  | n + 1, d, hd, hk => by
    by_cases h1 : d = 1
    · rw [wayL_succ, if_pos h1]
    · obtain ⟨_, p2, p3⟩ := h.par_lt hT hR hk h1
      have : canT c T (T.parent d) 1 = true := by
        unfold canT canF; rw [kind_is hT p3, decide_eq_true hc0]; rfl
      rw [wayL_succ, if_neg h1, this, cond_true]
      exact TreeI.root_way hT hR h hc0 n _ (by omega) p3
theorem TreeI.root_seen (hT : T.Ok) (hR : T.Rt) (h : TreeI T m) (hc0 : c.uid = 0) {i : Int} (hi : (T.get i).2 = true) : seenF T c i = true := by
  have hm := h.le hT
  have hu := (h.used i).1 hi
  by_cases h1 : i = 1
  · rw [h1]; exact seen_one h
  · obtain ⟨d, e, q1, q2, _⟩ := h.par i (by omega) hu.2
    have hdk := hR.dir q1
    have hd := (h.used d).1 (ents_is q1)
    refine seen_intro hT q1 q2 (way_of hdk (h.root_way hT hR hc0 24 d (by omega) hdk)) ?_ hi
    unfold canT canF; rw [ents_is q1, decide_eq_true hc0]; rfl
/-- A node that one comes to. -/
def Good (T : Tab) (c : Cr) (i : Int) : Prop := seenF T c i = true ∧ ((T.get i).1.kind = 2 → wayF T c i = true)
theorem findF_spec {n : Nd} {s : List UInt8} (h : findF n s ≠ 0) : ∃ e ∈ n.ents, e.2 = findF n s := by
  unfold findF at h ⊢
  split
  · rename_i h0
    rcases idxP_spec (eqS s) ([], 0) n.ents with ⟨h1, _⟩ | ⟨k, h1, h2, _⟩
    · omega
    · rw [h1]
      refine ⟨n.ents.getD k ([], 0), ?_, by simp⟩
      rw [List.getD_eq_getElem?_getD, List.getElem?_eq_getElem h2]
      exact List.getElem_mem h2
  · rename_i h0; rw [if_neg h0] at h; exact absurd rfl h
theorem Good.kid (hT : T.Ok) (hR : T.Rt) (h : TreeI T m) {i : Int} (hw : wayF T c i = true) (hc : canT c T i 1 = true) {e : En} (he : e ∈ (T.get i).1.ents) : Good T c e.2 := by
  have hm := h.le hT
  obtain ⟨k1, k2, k3⟩ := h.kid i e he
  have hu := (h.used e.2).2 ⟨k1, k2⟩
  refine ⟨seen_intro hT he rfl hw hc hu, fun hk => ?_⟩
  have hlt := k3 hk
  have hi := (h.used i).1 (ents_is he)
  obtain ⟨wk, wl⟩ := way_kind hw
  have hp : T.parent e.2 = i := by
    rcases parent_spec hT e.2 with ⟨_, h0⟩ | ⟨_, e', he', hee⟩
    · exact absurd rfl (h0 i e he)
    · exact h.one _ _ e' e he' he hee (by rw [hee]; exact hk)
  refine way_of hk ?_
  rw [show (24 : Nat) = 23 + 1 from rfl, wayL_succ, if_neg (by omega), hp, hc, cond_true]
  exact h.enough hT hR 23 24 i (by omega) wk wl
theorem resL_good (hT : T.Ok) (hR : T.Rt) (h : TreeI T m) (fl : Bool) : ∀ (n : Nat) (i k : Int) (l : List (List UInt8)), Good T c i → (resL T c fl n i k l).2 = 0 → (T.get (resL T c fl n i k l).1.2.2).2 = true → Good T c (resL T c fl n i k l).1.2.2
  | 0, i, k, l, _, _, hg => by
    have : (T.get 0).2 = true := hg
    rw [get_eq hT, if_neg (by omega)] at this; cases this
  | n + 1, i, k, [], hi, _, _ => hi
  | n + 1, i, k, s :: l, hi, h0, hg => by
    rw [resL_cons] at h0 hg ⊢
    by_cases c3 : (T.get i).1.kind ≠ 2
    · rw [if_pos c3] at h0; cases h0
    · rw [if_neg c3] at h0 hg ⊢
      have hk : (T.get i).1.kind = 2 := Classical.not_not.1 c3
      have hw := hi.2 hk
      by_cases c4 : canT c T i 1 = false
      · rw [if_pos c4] at h0; cases h0
      · rw [if_neg c4] at h0 hg ⊢
        have hc : canT c T i 1 = true := by simpa using c4
        by_cases c5 : s = [46]
        · rw [if_pos c5] at h0 hg ⊢
          exact resL_good hT hR h fl n _ _ _ hi h0 hg
        · rw [if_neg c5] at h0 hg ⊢
          by_cases c6 : s = [46, 46]
          · rw [if_pos c6] at h0 hg ⊢
            refine resL_good hT hR h fl n _ _ _ ?_ h0 hg
            split
            · rename_i hp
              by_cases h1 : i = 1
              · exfalso
                rcases parent_spec hT i with ⟨hz, _⟩ | ⟨hp1, e, he, hei⟩
                · exact hp hz
                · have := (h.kid _ e he).2.2 (by rw [hei]; exact hk)
                  omega
              · obtain ⟨_, wl⟩ := way_kind hw
                obtain ⟨_, wl2⟩ := wayL_step wl h1
                obtain ⟨_, _, p3⟩ := h.par_lt hT hR hk h1
                have hwp : wayF T c (T.parent i) = true := way_of p3 (wayL_mono _ _ wl2)
                refine ⟨?_, fun _ => hwp⟩
                by_cases hp1 : T.parent i = 1
                · rw [hp1]; exact seen_one h
                · exact seen_of_way hT hR hwp hp1
            · exact hi
          · rw [if_neg c6] at h0 hg ⊢
            by_cases c8 : (12 : Int) < s.length
            · rw [if_pos c8] at h0; cases h0
            · rw [if_neg c8] at h0 hg ⊢
              by_cases c9 : findF (T.get i).1 s = 0 ∧ (0 : Int) < l.length
              · rw [if_pos c9] at h0; cases h0
              · rw [if_neg c9] at h0 hg ⊢
                by_cases c10 : (T.get (findF (T.get i).1 s)).1.kind = 3 ∧ (fl = true ∨ (0 : Int) < l.length)
                · rw [if_pos c10] at h0 hg ⊢
                  by_cases c11 : k = 8
                  · rw [if_pos c11] at h0; cases h0
                  · rw [if_neg c11] at h0 hg ⊢
                    refine resL_good hT hR h fl n _ _ _ ?_ h0 hg
                    split
                    · exact ⟨seen_one h, fun _ => way_one h⟩
                    · exact hi
                · rw [if_neg c10] at h0 hg ⊢
                  by_cases c12 : (l.length : Int) = 0
                  · rw [if_pos c12] at h0 hg ⊢
                    have hid : findF (T.get i).1 s ≠ 0 := fun e => by
                      have : (T.get (findF (T.get i).1 s)).2 = true := hg
                      rw [e, get_eq hT, if_neg (by omega)] at this; cases this
                    obtain ⟨e, he, hee⟩ := findF_spec hid
                    show Good T c (findF (T.get i).1 s)
                    rw [← hee]
                    exact Good.kid hT hR h hw hc he
                  · rw [if_neg c12] at h0 hg ⊢
                    have hid : findF (T.get i).1 s ≠ 0 := fun e => c9 ⟨e, by omega⟩
                    obtain ⟨e, he, hee⟩ := findF_spec hid
                    refine resL_good hT hR h fl n _ _ _ ?_ h0 hg
                    rw [← hee]
                    exact Good.kid hT hR h hw hc he
/-- What is told of a node, to who asks, is told of one that they come to. -/
theorem stat_good (hT : T.Ok) (hR : T.Rt) (h : TreeI T m) (p : List UInt8) (fl : Bool) (h0 : (statF T c p fl).2 = 0) : seenF T c (statF T c p fl).1.node = true ∧ ((statF T c p fl).1.kind = 2 → wayF T c (statF T c p fl).1.node = true) := by
  unfold statF at h0 ⊢
  by_cases c1 : (resF T c p fl).2 ≠ 0
  · rw [if_pos c1] at h0; exact absurd h0 c1
  · rw [if_neg c1] at h0 ⊢
    by_cases c2 : (T.get (resF T c p fl).1.2.2).2 = true
    · rw [if_pos c2]
      have hz : (resF T c p fl).2 = 0 := Classical.not_not.1 c1
      have hg : Good T c (resF T c p fl).1.2.2 := by
        unfold resF at hz c2 ⊢
        by_cases c3 : fitE T p ≠ 0
        · rw [if_pos c3] at hz; exact absurd hz c3
        · rw [if_neg c3] at hz c2 ⊢
          exact resL_good hT hR h fl _ _ _ _ ⟨seen_one h, fun _ => way_one h⟩ hz c2
      unfold staF
      rw [if_pos c2]
      exact hg
    · rw [if_neg c2] at h0; cases h0
end

end Go.Proofs.YtjoklidphbmpoaaGreat
