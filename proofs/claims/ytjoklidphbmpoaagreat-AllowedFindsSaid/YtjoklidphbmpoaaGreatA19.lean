import Derived.Test.YtjoklidphbmpoaaGreatA18
/-
  TABLES: where the root is shut, nothing is allowed but to take away what has no name.
-/
namespace Go.Proofs.YtjoklidphbmpoaaGreat
open Go.Ab
set_option linter.unusedVariables false
set_option linter.unusedSimpArgs false
set_option maxRecDepth 8000
set_option maxHeartbeats 400000


theorem and_low {m : Int} (h : bits .and .i64 m 73 = 0) : m % 2 = 0 ∧ m / 8 % 2 = 0 ∧ m / 64 % 2 = 0 := by
  have key : (BitVec.ofInt 64 m &&& BitVec.ofInt 64 73).toNat = (m % ((2 ^ 64 : Nat) : Int)).toNat &&& 73 := by
    rw [BitVec.toNat_and, BitVec.toNat_ofInt]; rfl
  have h0 : IntKind.i64.wrap ((((m % ((2 ^ 64 : Nat) : Int)).toNat &&& 73 : Nat)) : Int) = 0 := by rw [← key]; exact h
  have hle : (m % ((2 ^ 64 : Nat) : Int)).toNat &&& 73 ≤ 73 := Nat.and_le_right
  rw [IntWalk.i64_in _ (by omega)] at h0
  have hz : (m % ((2 ^ 64 : Nat) : Int)).toNat &&& 73 = 0 := by omega
  have tb : ∀ i, (73 : Nat).testBit i = true → (m % ((2 ^ 64 : Nat) : Int)).toNat / 2 ^ i % 2 = 0 := fun i hi => by
    have h1 : ((m % ((2 ^ 64 : Nat) : Int)).toNat &&& 73).testBit i = false := by rw [hz]; simp
    rw [Nat.testBit_and, hi, Bool.and_true, Nat.testBit_eq_decide_div_mod_eq] at h1
    have := of_decide_eq_false h1
    omega
  have t0 := tb 0 (by decide)
  have t3 := tb 3 (by decide)
  have t6 := tb 6 (by decide)
  have e : ((2 ^ 64 : Nat) : Int) = 18446744073709551616 := by decide
  rw [e] at t0 t3 t6
  have hx := Int.emod_nonneg m (show (18446744073709551616 : Int) ≠ 0 by decide)
  simp only [Nat.reducePow] at t0 t3 t6
  omega
/-- The first node, of who doesn't ask, and shut to them. -/
structure Shut (T : Tab) (c : Cr) : Prop where
  uid : c.uid ≠ 0
  own : (T.get 1).1.uid ≠ c.uid
  shut : bits .and .i64 (T.get 1).1.mode 73 = 0
  dir : (T.get 1).1.kind = 2
theorem cls_odd {m : Int} (h : m % 2 = 0 ∧ m / 8 % 2 = 0 ∧ m / 64 % 2 = 0) (k : Int) : clsI m k % 2 = 0 := by
  unfold clsI
  split
  · omega
  · split
    · omega
    · split <;> omega
theorem Shut.can {T : Tab} {c : Cr} (h : Shut T c) {w : Int} (hw : w % 8 % 2 = 1) : canT c T 1 w = false := by
  unfold canT canF
  have hb := clsI_bd (T.get 1).1.mode (classF c (T.get 1).1.uid (T.get 1).1.gid)
  have ho := cls_odd (and_low h.shut) (classF c (T.get 1).1.uid (T.get 1).1.gid)
  rw [decide_eq_false h.uid, hasB_eq hb (by omega), decide_eq_false (show ¬ w % 8 % 2 = 0 by omega), decide_eq_false (show ¬ clsI (T.get 1).1.mode (classF c (T.get 1).1.uid (T.get 1).1.gid) % 2 = 1 by omega)]
  simp
theorem Shut.wayL {T : Tab} {c : Cr} (h : Shut T c) : ∀ (n : Nat) (d : Int), wayL T c n d = true → d = 1
  | 0, _, e => by cases e
  | n + 1, d, e => by
    unfold Proofs.YtjoklidphbmpoaaGreat.wayL at e
    split at e
    · assumption
    · cases hc : canT c T (T.parent d) 1 with
      | false => rw [hc] at e; cases e
      | true =>
        rw [hc, cond_true] at e
        have := h.wayL n _ e
        rw [this, h.can (by decide)] at hc; cases hc
theorem Shut.way {T : Tab} {c : Cr} (h : Shut T c) {d : Int} (e : wayF T c d = true) : d = 1 := by
  unfold wayF at e
  cases hk : decide ((T.get d).1.kind = 2) with
  | false => rw [hk] at e; cases e
  | true => rw [hk, cond_true] at e; exact h.wayL _ _ e
theorem Shut.into {T : Tab} {c : Cr} (h : Shut T c) (d : Int) : intoF T c d = false := by
  unfold intoF
  cases hw : wayF T c d with
  | false => rfl
  | true => rw [h.way hw, h.can (by decide)]; rfl
theorem Shut.seen {T : Tab} {c : Cr} (h : Shut T c) {i : Int} (e : seenF T c i = true) : i = 1 := by
  unfold seenF at e
  simp only [Bool.and_eq_true, Bool.or_eq_true, decide_eq_true_eq] at e
  rcases e.2 with e2 | e2
  · obtain ⟨d, _, hd⟩ := List.any_eq_true.1 e2
    unfold seenAt at hd
    simp only [Bool.and_eq_true] at hd
    have := h.way hd.1.2
    rw [this, h.can (by decide)] at hd
    cases hd.2
  · exact e2
theorem Shut.attr {T : Tab} {c : Cr} (h : Shut T c) (x : Ch) (b : Nd) : attrF T c x (T.get x.node).1 b [] = false := by
  unfold attrF writeF
  cases hs : seenF T c x.node with
  | false => simp
  | true =>
    rw [h.seen hs]
    have h1 : mayMode c (T.get 1).1.uid = false := by unfold mayMode; rw [decide_eq_false h.uid, decide_eq_false h.own]; rfl
    have h2 : ∀ g u v, mayOwn c (T.get 1).1.uid g u v = false := fun g u v => by unfold mayOwn; rw [decide_eq_false h.uid, decide_eq_false h.own]; simp
    rw [h1, h2, h.dir]; simp
theorem Shut.write {T : Tab} {c : Cr} (h : Shut T c) (x : Ch) (b : Nd) : writeF T c x (T.get x.node).1 b [] = false := by
  unfold writeF
  cases hs : seenF T c x.node with
  | false => simp
  | true => rw [h.seen hs, h.dir]; simp
theorem Shut.allow {T U : Tab} {c : Cr} (h : Shut T c) (e : allowF T U c [] = true) : (chOf T U).kind = 0 ∨ (chOf T U).kind = 6 := by
  unfold allowF at e
  split at e
  · exact .inl (by assumption)
  · split at e
    · rw [h.attr] at e; cases e
    · split at e
      · rw [h.write] at e; cases e
      · split at e
        · unfold mkF at e; rw [h.into] at e; simp at e
        · split at e
          · unfold takenF at e; rw [h.into] at e; simp at e
          · split at e
            · unfold mvF takenF at e; rw [h.into] at e; simp at e
            · split at e
              · exact .inr (by assumption)
              · cases e
/-- What a change's kind tells of what became of nodes. -/
def ChP (D : Df) (c : Ch) : Prop := (c.kind = 0 → sumI D 4 = 0) ∧ (c.kind = 6 → ownK (D.b 1) [D.b 2] = true ∧ (D.b 0).length = 0 ∧ (D.b 3).length = 0)
theorem ChP.no {D : Df} {c : Ch} (h : c.kind ≠ 0) (h' : c.kind ≠ 6) : ChP D c := ⟨fun e => absurd e h, fun e => absurd e h'⟩
theorem chF_P (D : Df) (Ta Tb : Tab) : ChP D (chF D Ta Tb) := by
  have ha : ∀ i a b, ChP D (aloneF i a b) := fun i a b => by rcases aloneF_kind i a b with h | h | h <;> exact .no (by rw [h]; decide) (by rw [h]; decide)
  have hm : ChP D (movedF D) := by rcases movedF_kind D with h | h <;> exact .no (by rw [h]; decide) (by rw [h]; decide)
  have h7 : ChP D (chK 7) := .no (by decide) (by decide)
  unfold chF
  cases h1 : decide (sumI D 4 = 0) with
  | true => exact ⟨fun _ => of_decide_eq_true h1, fun e => by cases e⟩
  | false =>
    rw [cond_false]
    cases h2 : decide (0 < ((D.b 3).length : Int)) with
    | true => rw [cond_true]; cases decide (1 < sumI D 4) <;> first | exact h7 | exact ha _ _ _
    | false =>
      rw [cond_false]
      cases h3 : decide (0 < ((D.b 0).length : Int)) with
      | true =>
        rw [cond_true]
        cases (ownK (D.b 0) [D.b 1] && decide ((D.lost.length : Int) = 0) && decide ((D.won.length : Int) = 1) && decide ((D.won.getD 0 ey0).2.2 = (D.b 0).getD 0 0))
        · exact h7
        · exact .no (show (3 : Int) ≠ 0 by decide) (show (3 : Int) ≠ 6 by decide)
      | false =>
        rw [cond_false]
        have l3 := of_decide_eq_false h2
        have l0 := of_decide_eq_false h3
        cases h4 : ownK (D.b 1) [D.b 2] with
        | true => exact ⟨fun e => absurd (show (6 : Int) = 0 from e) (by decide), fun _ => ⟨h4, by omega, by omega⟩⟩
        | false =>
          rw [cond_false]
          cases (decide ((D.lost.length : Int) = 1) && decide ((D.won.length : Int) = 0)) with
          | true =>
            rw [cond_true]
            cases (decide (((D.b 1).length : Int) = 0) || (ownK (D.b 1) [] && decide ((D.b 1).getD 0 0 = (D.lost.getD 0 ey0).2.2)))
            · exact h7
            · exact .no (show (4 : Int) ≠ 0 by decide) (show (4 : Int) ≠ 6 by decide)
          | false =>
            rw [cond_false]
            cases decide ((D.won.length : Int) = 1)
            · exact h7
            · exact hm
theorem sameF_eq {a b : Nd} : sameF a b = true ↔ a = b := by
  unfold sameF
  simp only [Bool.and_eq_true, decide_eq_true_eq]
  constructor
  · rintro ⟨⟨⟨⟨⟨⟨h1, h2⟩, h3⟩, h4⟩, h5⟩, h6⟩, h7⟩
    cases a; cases b; simp_all
  · rintro rfl; exact ⟨⟨⟨⟨⟨⟨rfl, rfl⟩, rfl⟩, rfl⟩, rfl⟩, rfl⟩, rfl⟩
theorem updB_len4 (D : Df) (f : Nat) (hf : f < 4) (i : Int) : sumI (updB D f i) 4 = sumI D 4 + 1 := by
  have hb : ∀ m, ((updB D f i).b m).length = (D.b m).length + if m = f then 1 else 0 := fun m => by
    show (if m = f then D.b m ++ [i] else D.b m).length = _
    split <;> simp
  simp only [sumI, hb]
  have : f = 0 ∨ f = 1 ∨ f = 2 ∨ f = 3 := by omega
  rcases this with rfl | rfl | rfl | rfl <;> simp <;> omega
theorem sumI_pos (D : Df) : 0 ≤ sumI D 4 := by simp only [sumI]; omega
theorem stepD_sum (Ta Tb : Tab) (D : Df) (i : Int) : (sameF (Ta.get i).1 (Tb.get i).1 = true ∧ stepD Ta Tb D i = D) ∨ sumI (stepD Ta Tb D i) 4 = sumI D 4 + 1 := by
  unfold stepD
  cases sameF (Ta.get i).1 (Tb.get i).1 with
  | true => exact .inl ⟨rfl, rfl⟩
  | false =>
    right
    rw [cond_false]
    cases (!(Ta.get i).2) with
    | true => exact updB_len4 D 0 (by decide) i
    | false =>
      rw [cond_false]
      cases (!(Tb.get i).2) with
      | true => exact updB_len4 D 1 (by decide) i
      | false =>
        rw [cond_false]
        cases (decide ((Ta.get i).1.kind = 2) && sameF (nEnts (Ta.get i).1 (Tb.get i).1) (Tb.get i).1) with
        | true => exact updB_len4 D 2 (by decide) i
        | false => exact updB_len4 D 3 (by decide) i
theorem dfN_same (Ta Tb : Tab) : ∀ m, sumI (dfN Ta Tb m) 4 = 0 → ∀ j, j < m → sameF (Ta.get ((j : Int) + 1)).1 (Tb.get ((j : Int) + 1)).1 = true
  | 0, _, j, hj => by omega
  | m + 1, h, j, hj => by
    have hp := sumI_pos (dfN Ta Tb m)
    rcases stepD_sum Ta Tb (dfN Ta Tb m) ((m : Int) + 1) with ⟨h1, h2⟩ | h1
    · rcases Nat.lt_succ_iff_lt_or_eq.1 hj with hj | hj
      · exact dfN_same Ta Tb m (by have : sumI (stepD Ta Tb (dfN Ta Tb m) ((m : Int) + 1)) 4 = 0 := h; rw [h2] at this; exact this) j hj
      · rw [hj]; exact h1
    · have : sumI (stepD Ta Tb (dfN Ta Tb m) ((m : Int) + 1)) 4 = 0 := h
      omega
theorem at_isSome {T : Tab} (i : Int) : (T.at i).isSome = (T.get i).2 := by
  cases h : T.at i with
  | none => rw [get_no h]; rfl
  | some j => rw [get_at h]; rfl
theorem usedN_bd (T : Tab) : ∀ m, m ≤ 1000 → 0 ≤ T.usedN m ∧ T.usedN m ≤ m
  | 0, _ => ⟨Int.le_refl _, Int.le_refl _⟩
  | m + 1, hm => by
    have ih := usedN_bd T m (by omega)
    unfold Tab.usedN
    cases (T.at ((m : Int) + 1)).isSome with
    | false => simp only [cond_false]; omega
    | true => simp only [cond_true]; rw [IntWalk.i64_in _ (by omega)]; omega
theorem usedN_room {T : Tab} : ∀ m, T.room.toNat ≤ m → T.usedN m = T.usedN T.room.toNat
  | 0, h => by rw [Nat.le_zero.1 h]
  | m + 1, h => by
    rcases Nat.eq_or_lt_of_le h with h | h
    · rw [h]
    · rw [← usedN_room m (by omega)]
      have : T.at ((m : Int) + 1) = none := by unfold Tab.at; rw [if_neg (by omega)]
      show (bif (T.at ((m : Int) + 1)).isSome then _ else _) = _
      rw [this]; rfl
theorem used_24 {T : Tab} (hT : T.Ok) : T.used = T.usedN 24 := (usedN_room 24 (by have := hT.hi; omega)).symm
theorem len_updB (D : Df) (f : Nat) (i : Int) (m : Nat) : ((updB D f i).b m).length = (D.b m).length + if m = f then 1 else 0 := by
  show (if m = f then D.b m ++ [i] else D.b m).length = _
  split <;> simp
theorem dfN_gone {Ta Tb : Tab} (hTa : Ta.Ok) (hTb : Tb.Ok) : ∀ m, m ≤ 24 → ((dfN Ta Tb m).b 0).length = 0 → ((dfN Ta Tb m).b 2).length = 0 → ((dfN Ta Tb m).b 3).length = 0 →
    Tb.usedN m = Ta.usedN m - ((dfN Ta Tb m).b 1).length ∧ ∀ j, j < m → sameF (Ta.get ((j : Int) + 1)).1 (Tb.get ((j : Int) + 1)).1 = true ∨ (Tb.get ((j : Int) + 1)).2 = false
  | 0, _, _, _, _ => ⟨rfl, fun j hj => by omega⟩
  | m + 1, hm, h0, h2, h3 => by
    have ba := usedN_bd Ta m (by omega)
    have bb := usedN_bd Tb m (by omega)
    have ua : Ta.usedN (m + 1) = bif (Ta.get ((m : Int) + 1)).2 then IntKind.i64.wrap (Ta.usedN m + 1) else Ta.usedN m := by rw [← at_isSome]; rfl
    have ub : Tb.usedN (m + 1) = bif (Tb.get ((m : Int) + 1)).2 then IntKind.i64.wrap (Tb.usedN m + 1) else Tb.usedN m := by rw [← at_isSome]; rfl
    rw [IntWalk.i64_in _ (by omega)] at ua ub
    rw [ua, ub]
    have hD : dfN Ta Tb (m + 1) = stepD Ta Tb (dfN Ta Tb m) ((m : Int) + 1) := rfl
    rw [hD] at h0 h2 h3 ⊢
    unfold stepD at h0 h2 h3 ⊢
    cases hs : sameF (Ta.get ((m : Int) + 1)).1 (Tb.get ((m : Int) + 1)).1 with
    | true =>
      rw [hs] at h0 h2 h3
      simp only [cond_true] at h0 h2 h3 ⊢
      obtain ⟨i1, i2⟩ := dfN_gone hTa hTb m (by omega) h0 h2 h3
      have he := sameF_eq.1 hs
      have hk : (Ta.get ((m : Int) + 1)).2 = (Tb.get ((m : Int) + 1)).2 := by rw [get_kind hTa, get_kind hTb, he]
      refine ⟨?_, fun j hj => ?_⟩
      · rw [hk]
        cases (Tb.get ((m : Int) + 1)).2 <;> simp only [cond_true, cond_false] <;> omega
      · rcases Nat.lt_succ_iff_lt_or_eq.1 hj with hj | hj
        · exact i2 j hj
        · rw [hj]; exact .inl hs
    | false =>
      rw [hs] at h0 h2 h3
      simp only [cond_false] at h0 h2 h3 ⊢
      cases ha : (Ta.get ((m : Int) + 1)).2 with
      | false =>
        rw [ha] at h0
        simp only [Bool.not_false, cond_true, len_updB] at h0
        simp at h0
      | true =>
        rw [ha] at h0 h2 h3
        simp only [Bool.not_true, cond_false, cond_true] at h0 h2 h3 ⊢
        cases hb : (Tb.get ((m : Int) + 1)).2 with
        | false =>
          rw [hb] at h0 h2 h3
          simp only [Bool.not_false, cond_true, cond_false, len_updB] at h0 h2 h3 ⊢
          simp only [show ¬ (0 = 1) by decide, show ¬ (2 = 1) by decide, show ¬ (3 = 1) by decide, if_false, if_true, Nat.add_zero] at h0 h2 h3 ⊢
          obtain ⟨i1, i2⟩ := dfN_gone hTa hTb m (by omega) h0 h2 h3
          refine ⟨by omega, fun j hj => ?_⟩
          rcases Nat.lt_succ_iff_lt_or_eq.1 hj with hj | hj
          · exact i2 j hj
          · rw [hj]; exact .inr hb
        | true =>
          rw [hb] at h2 h3
          simp only [Bool.not_true, cond_false] at h2 h3
          cases hc : (decide ((Ta.get ((m : Int) + 1)).1.kind = 2) && sameF (nEnts (Ta.get ((m : Int) + 1)).1 (Tb.get ((m : Int) + 1)).1) (Tb.get ((m : Int) + 1)).1) with
          | true => rw [hc] at h2; simp only [cond_true, len_updB] at h2; simp at h2
          | false => rw [hc] at h3; simp only [cond_false, len_updB] at h3; simp at h3
theorem root_law {Ta Tb : Tab} {c : Cr} (hTa : Ta.Ok) (hTb : Tb.Ok) (h : Shut Ta c) (e : allowF Ta Tb c [] = true) :
    (sameT Ta Tb || (decide (Tb.used = Ta.used - 1) && (!(Tb.get 1).2 || sameF (Tb.get 1).1 (Ta.get 1).1))) = true := by
  have hP := chF_P (dfN Ta Tb 24) Ta Tb
  rcases h.allow e with h0 | h6
  · have := dfN_same Ta Tb 24 (hP.1 h0)
    unfold sameT
    rw [allR_t this]; rfl
  · obtain ⟨h1, h2, h3⟩ := hP.2 h6
    have hl := ownK_len h1
    have hb2 : ((dfN Ta Tb 24).b 2).length = 0 := by
      unfold ownK at h1
      simp only [List.any_cons, List.any_nil, Bool.or_false, Bool.and_eq_true, Bool.not_eq_true', decide_eq_false_iff_not] at h1
      omega
    obtain ⟨g1, g2⟩ := dfN_gone hTa hTb 24 (Nat.le_refl _) h2 hb2 h3
    rw [used_24 hTa, used_24 hTb, decide_eq_true (show Tb.usedN 24 = Ta.usedN 24 - 1 by omega), Bool.true_and]
    have : (!(Tb.get 1).2 || sameF (Tb.get 1).1 (Ta.get 1).1) = true := by
      rcases g2 0 (by decide) with g | g
      · have := sameF_eq.1 g
        have : sameF (Tb.get 1).1 (Ta.get 1).1 = true := sameF_eq.2 this.symm
        rw [this, Bool.or_true]
      · have : (Tb.get 1).2 = false := g
        rw [this]; rfl
    rw [this, Bool.or_true]
/-- More files that are open never forbid what is allowed. -/
theorem allow_mono {Ta Tb : Tab} {c : Cr} (ws : List Int) (e : allowF Ta Tb c [] = true) : allowF Ta Tb c ws = true := by
  have hw : ∀ x a b, writeF Ta c x a b [] = true → writeF Ta c x a b ws = true := fun x a b h => by
    unfold writeF at h ⊢
    simp only [List.any_nil, Bool.false_or] at h
    simp only [Bool.and_eq_true] at h ⊢
    exact ⟨⟨by rw [Bool.or_eq_true]; exact .inr (by simp only [Bool.and_eq_true]; exact h.1.1), h.1.2⟩, h.2⟩
  unfold allowF at e ⊢
  split
  · rfl
  · rename_i h0
    rw [if_neg h0] at e
    split
    · rename_i h1
      rw [if_pos h1] at e
      unfold attrF at e ⊢
      cases hc : (decide ((Ta.get (chOf Ta Tb).node).1.uid = (Tb.get (chOf Ta Tb).node).1.uid) && decide ((Ta.get (chOf Ta Tb).node).1.gid = (Tb.get (chOf Ta Tb).node).1.gid)) with
      | false => rw [hc] at e; exact e
      | true =>
        rw [hc, cond_true, Bool.or_eq_true] at e
        rw [cond_true, Bool.or_eq_true]
        exact e.imp id (hw _ _ _)
    · rename_i h1
      rw [if_neg h1] at e
      split
      · rename_i h2
        rw [if_pos h2] at e
        exact hw _ _ _ e
      · rename_i h2
        rw [if_neg h2] at e
        exact e
/-! The first node of what is built is a directory. -/
theorem withN_kind {n : Nd} {s : List UInt8} {id : Int} (h : (withN n s id).2 = 0) : (withN n s id).1.kind = 2 := by
  unfold withN at h ⊢
  split
  · rename_i h1; rw [if_pos h1] at h; cases h
  · rename_i h1
    rw [if_neg h1] at h
    cases hb : badN s id with
    | true => rw [hb] at h; cases h
    | false =>
      rw [hb, cond_false] at h
      rw [cond_false]
      split
      · rename_i h2; rw [if_pos h2] at h; cases h
      · rename_i h2
        rw [if_neg h2] at h
        split
        · rename_i h3; rw [if_pos h3] at h; cases h
        · rename_i h3
          rw [if_neg h3] at h
          split
          · rename_i h4; rw [if_pos h4] at h; cases h
          · show n.kind = 2
            exact Classical.not_not.1 h1
def Dir1 (T : Tab) : Prop := (T.ns.getD 0 nd0).kind = 2
theorem Dir1.put {T : Tab} (h : Dir1 T) {n : Nd} {j : Nat} (hj : j = 0 → n.kind = 2) : Dir1 (T.put j n) := by
  unfold Dir1 Tab.put
  simp only [List.getD_eq_getElem?_getD, List.getElem?_set]
  by_cases h0 : j = 0
  · rw [if_pos h0]
    split
    · exact hj h0
    · rename_i hl
      have : T.ns[0]? = none := List.getElem?_eq_none (by omega)
      unfold Dir1 at h
      rw [List.getD_eq_getElem?_getD, this] at h
      exact absurd h (by decide)
  · rw [if_neg h0]
    unfold Dir1 at h
    rwa [List.getD_eq_getElem?_getD] at h
theorem Dir1.at {T : Tab} (hT : T.Ok) (h : Dir1 T) : T.at 1 = some 0 := by
  unfold Tab.at
  have : (T.ns.getD (1 - 1 : Int).toNat nd0).kind = 2 := h
  rw [if_pos ⟨by decide, hT.lo, by rw [this]; decide⟩]; rfl
theorem Dir1.add {T : Tab} (hT : T.Ok) (h : Dir1 T) (n : Nd) : Dir1 (addT T n).2 := by
  unfold addT
  split
  · exact h
  · split
    · rename_i i hf
      refine h.put fun h0 => ?_
      subst h0
      unfold Tab.free at hf
      have := List.find?_some hf
      rw [show (((0 : Nat) : Int) + 1) = 1 by decide, h.at hT] at this
      cases this
    · exact h
theorem Dir1.putT {T : Tab} (h : Dir1 T) (i : Int) {n : Nd} (hn : n.kind = 2) : Dir1 (putT T i n).2 := by
  unfold Proofs.YtjoklidphbmpoaaGreat.putT
  split
  · exact h
  · split
    · exact h
    · exact h.put fun _ => hn
theorem Dir1.one {T : Tab} (hT : T.Ok) (h : Dir1 T) {r : Rw} (hr : RwOk r) : Dir1 (oneF T r).2 := by
  have ht : Dir1 (toldF T r).2 := by
    unfold toldF
    split
    · exact h.add hT _
    · split
      · exact h
      · split
        · exact h
        · exact h
  unfold oneF
  split
  · exact h
  · split
    · exact ht
    · split
      · exact ht
      · rename_i hw
        exact ht.putT _ (withN_kind (Classical.not_not.1 hw))
theorem Dir1.rest : ∀ (l : List Rw) (T : Tab) (i : Nat) (T' : Tab), T.Ok → Dir1 T → (∀ r ∈ l, RwOk r) → restF T i l = .inr T' → Dir1 T'
  | [], T, i, T', _, h, _, e => by cases e; exact h
  | r :: l, T, i, T', hT, h, hl, e => by
    unfold restF at e
    split at e
    · cases e
    · exact Dir1.rest l _ _ T' (oneF_ok hT (hl r (by simp))) (h.one hT (hl r (by simp))) (fun r hr => hl r (by simp [hr])) e
theorem Dir1.build {room : Int} {l : List Rw} {T : Tab} (hl : ∀ r ∈ l, RwOk r) (e : buildF room l = .inr T) : Dir1 T := by
  unfold buildF at e
  cases hc : (decide ((l.length : Int) = 0) || !decide ((l.getD 0 rw0).kind = 2) || !decide ((l.getD 0 rw0).parent = 0) || !decide ((l.getD 0 rw0).name = [])) with
  | true => rw [hc] at e; cases e
  | false =>
    rw [hc, cond_false] at e
    have h0 := getD_ok hl 0
    simp only [Bool.or_eq_false_iff, Bool.not_eq_false', decide_eq_true_eq, decide_eq_false_iff_not] at hc
    split at e
    · cases e
    · rename_i ha
      refine Dir1.rest _ _ _ T (addT_ok (newT_ok room) (madeF_ok h0)) ?_ (fun r hr => hl r (List.mem_of_mem_drop hr)) e
      unfold addT at ha ⊢
      split
      · rename_i hr; rw [if_pos hr] at ha; exact (ha (show (22 : Int) ≠ 0 by decide)).elim
      · rename_i hr
        rw [if_neg hr] at ha
        have hf : (newT room).free = some 0 := by
          refine free_at (by show 0 < (min (max room 1) 24).toNat; omega) ?_ (fun j hj => by omega)
          have : (newT room).at ((0 : Nat) + 1 : Int) = none := by
            unfold Tab.at
            rw [if_neg]
            rintro ⟨_, _, h⟩
            exact h rfl
          rw [this]; rfl
        rw [hf]
        show ((List.replicate 24 nd0).set 0 (madeF (l.getD 0 rw0)) |>.getD 0 nd0).kind = 2
        exact hc.1.1.2
theorem built_dir {room : Int} {l : List Rw} {c : Cr} {T : Tab} (h : builtF room l c = some T) : (T.get 1).1.kind = 2 := by
  have hT := (builtF_ok h).1
  unfold builtF at h
  cases h1 : (decide ((50 : Int) < l.length) || decide ((10 : Int) < c.gs.length)) with
  | true => rw [h1] at h; cases h
  | false =>
    rw [h1, cond_false] at h
    cases h2 : l.any bigR with
    | true => rw [h2] at h; cases h
    | false =>
      rw [h2, cond_false] at h
      split at h
      · cases h
      · rename_i T' hT'
        cases h
        have hd := Dir1.build (small_ok h2) hT'
        rw [get_at (hd.at hT)]; exact hd

end Go.Proofs.YtjoklidphbmpoaaGreat
