import Derived.Test.YtegffmibifodcaaGreatS25
/-
  CALLS: where a path leads, a name is right; what changes leave, is right.
-/
namespace Go.Proofs.YtegffmibifodcaaGreat
open Go.Ab
set_option linter.unusedVariables false
set_option linter.unusedSimpArgs false
set_option maxRecDepth 8000
set_option maxHeartbeats 400000

/-- So many nodes, in a tree. -/
structure TreeI (T : Tab) (m : Nat) : Prop where
  pos : 1 ≤ m
  used : ∀ i : Int, (T.get i).2 = true ↔ (1 ≤ i ∧ i ≤ m)
  kid : ∀ (d : Int) (e : En), e ∈ (T.get d).1.ents → 1 ≤ e.2 ∧ e.2 ≤ m ∧ ((T.get e.2).1.kind = 2 → d < e.2)
  one : ∀ (d d' : Int) (e e' : En), e ∈ (T.get d).1.ents → e' ∈ (T.get d').1.ents → e.2 = e'.2 → (T.get e.2).1.kind = 2 → d = d' ∧ e = e'
  par : ∀ i : Int, 2 ≤ i → i ≤ m → ∃ (d : Int) (e : En), e ∈ (T.get d).1.ents ∧ e.2 = i ∧ d < i
  root : (T.get 1).1.kind = 2
theorem get_put {T : Tab} (hT : T.Ok) {n : Nd} (hn : NdOk n) (hk : n.kind ≠ 0) {j : Nat} (hj : (j : Int) + 1 ≤ T.room) (i : Int) : (T.put j n).get i = if i = (j : Int) + 1 then (n, true) else T.get i := by
  have h1 := hT.len
  have h2 := hT.hi
  rw [get_eq (put_ok hT hn hk j), get_eq hT]
  show (if 1 ≤ i ∧ i ≤ T.room then ((T.ns.set j n).getD (i - 1).toNat nd0, !decide (((T.ns.set j n).getD (i - 1).toNat nd0).kind = 0)) else (nd0, false)) = _
  by_cases h : i = (j : Int) + 1
  · subst h
    have e : (T.ns.set j n).getD ((j : Int) + 1 - 1).toNat nd0 = n := by
      rw [show ((j : Int) + 1 - 1).toNat = j by omega, List.getD_eq_getElem?_getD, List.getElem?_set_self (by omega)]; rfl
    rw [if_pos ⟨by omega, hj⟩, if_pos rfl, e, decide_eq_false hk]; rfl
  · rw [if_neg h]
    by_cases hc : 1 ≤ i ∧ i ≤ T.room
    · have e : (T.ns.set j n).getD (i - 1).toNat nd0 = T.ns.getD (i - 1).toNat nd0 := by
        rw [List.getD_eq_getElem?_getD, List.getElem?_set_ne (by omega), List.getD_eq_getElem?_getD]
      rw [if_pos hc, if_pos hc, e]
    · rw [if_neg hc, if_neg hc]
theorem mem_insF {l : List En} {s : List UInt8} {id : Int} {e : En} : e ∈ insF l s id ↔ e = (s, id) ∨ e ∈ l := by
  unfold insF
  rw [List.mem_append, List.mem_append, List.mem_singleton]
  constructor
  · rintro (h | h | h)
    · exact .inr (List.mem_of_mem_take h)
    · exact .inl h
    · exact .inr (List.mem_of_mem_drop h)
  · rintro (h | h)
    · exact .inr (.inl h)
    · rw [← List.take_append_drop (spot l s) l, List.mem_append] at h
      exact h.elim .inl (fun h => .inr (.inr h))
theorem ents_is {T : Tab} {d : Int} {e : En} (h : e ∈ (T.get d).1.ents) : (T.get d).2 = true := by
  cases ha : T.at d with
  | none => rw [get_no ha] at h; exact absurd h (by simp [nd0])
  | some j => rw [get_at ha]
theorem withN_zero {n : Nd} {s : List UInt8} {id : Int} (h : (withN n s id).2 = 0) : (withN n s id).1 = nWith n (insF n.ents s id) := by
  unfold withN at h ⊢
  split
  · rename_i h1; rw [if_pos h1] at h; cases h
  · rename_i h1
    rw [if_neg h1] at h
    cases hb : badN s id with
    | true => rw [hb] at h; cases h
    | false =>
      rw [hb, cond_false] at h
      rw [cond_false]
      split
      · rename_i h2; rw [if_pos h2] at h; cases h
      · rename_i h2
        rw [if_neg h2] at h
        split
        · rename_i h3; rw [if_pos h3] at h; cases h
        · rename_i h3
          rw [if_neg h3] at h
          split
          · rename_i h4; rw [if_pos h4] at h; cases h
          · rfl
theorem at_room {T : Tab} {i : Int} {j : Nat} (h : T.at i = some j) : j = (i - 1).toNat ∧ 1 ≤ i ∧ i ≤ T.room := by
  unfold Tab.at at h
  split at h
  · rename_i hc; cases h; exact ⟨rfl, hc.1, hc.2.1⟩
  · cases h
theorem idxP_spec {α : Type} (p : α → Bool) (d : α) : ∀ l : List α, (idxP p l < 0 ∧ ∀ j, j < l.length → p (l.getD j d) = false) ∨ (∃ k : Nat, idxP p l = k ∧ k < l.length ∧ p (l.getD k d) = true)
  | [] => .inl ⟨by show (-1 : Int) < 0; decide, fun j hj => by simp at hj⟩
  | x :: l => by
    by_cases hx : p x = true
    · exact .inr ⟨0, by simp [idxP, hx], by simp, by simpa using hx⟩
    · have hx' : p x = false := by simpa using hx
      rcases idxP_spec p d l with ⟨h1, h2⟩ | ⟨k, h1, h2, h3⟩
      · left
        refine ⟨by simp [idxP, hx', h1], fun j hj => ?_⟩
        cases j with
        | zero => simpa using hx'
        | succ j => simpa using h2 j (by simpa using hj)
      · right
        refine ⟨k + 1, ?_, by simpa using h2, by simpa using h3⟩
        simp only [idxP, hx', cond_false, h1]
        rw [decide_eq_false (by omega)]; simp


theorem idxP_first {α : Type} (p : α → Bool) (d : α) : ∀ (l : List α) {k : Nat}, idxP p l = k → ∀ j, j < k → p (l.getD j d) = false
  | [], k, h, j, hj => by
    have : (-1 : Int) = k := h
    omega
  | x :: l, k, h, j, hj => by
    by_cases hx : p x = true
    · have : idxP p (x :: l) = 0 := by simp [idxP, hx]
      omega
    · have hx' : p x = false := by simpa using hx
      cases j with
      | zero => simpa using hx'
      | succ j =>
        have := idxP_range p l
        have e : idxP p (x :: l) = if idxP p l < 0 then -1 else idxP p l + 1 := by
          simp only [idxP, hx', cond_false]
          by_cases h0 : idxP p l < 0
          · rw [if_pos h0]; simp [decide_eq_true h0]; try omega
          · rw [if_neg h0]; simp [decide_eq_false h0]
        rw [e] at h
        split at h
        · omega
        · simpa using idxP_first p d l (k := k - 1) (by omega) j (by omega)
theorem flSt_47 (s : List UInt8) : ∀ i, (∀ p ∈ (flSt s i).2, ∀ j, p.1 ≤ j → j < p.2 → s.getD j 0 ≠ 47) ∧ (0 ≤ (flSt s i).1 → ∀ j, (flSt s i).1.toNat ≤ j → j < i → s.getD j 0 ≠ 47)
  | 0 => ⟨fun p hp => by simp [flSt] at hp, fun h => absurd (show (0 : Int) ≤ -1 from h) (by decide)⟩
  | i + 1 => by
    obtain ⟨h1, h2⟩ := flSt_47 s i
    by_cases hs : s.getD i 0 = 47
    · rw [flSt_slash hs]
      by_cases h0 : 0 ≤ (flSt s i).1
      · rw [if_pos h0]
        refine ⟨fun p hp => ?_, fun h => by dsimp only at h; omega⟩
        rcases List.mem_append.1 hp with hp | hp
        · exact h1 p hp
        · rw [List.mem_singleton.1 hp]; exact h2 h0
      · rw [if_neg h0]
        exact ⟨h1, fun h => absurd h h0⟩
    · rw [flSt_no hs]
      by_cases h0 : (flSt s i).1 < 0
      · rw [if_pos h0]
        refine ⟨h1, fun _ j ha hb => ?_⟩
        dsimp only at ha
        rw [show j = i by omega]; exact hs
      · rw [if_neg h0]
        refine ⟨h1, fun h j ha hb => ?_⟩
        by_cases e : j = i
        · rw [e]; exact hs
        · exact h2 h j ha (by omega)
theorem namesF_mem {s x : List UInt8} (hx : x ∈ namesF s) : x ≠ [] ∧ ∀ b ∈ x, b ∈ s ∧ b ≠ 47 := by
  obtain ⟨p, hp, rfl⟩ := List.mem_map.1 hx
  obtain ⟨h1, h2⟩ := (spansF_bd s).1 p hp
  obtain ⟨k1, k2⟩ := flSt_47 s s.length
  have hno : ∀ j, p.1 ≤ j → j < p.2 → s.getD j 0 ≠ 47 := by
    unfold spansF at hp
    split at hp
    · rename_i h0
      rcases List.mem_append.1 hp with hp | hp
      · exact k1 p hp
      · rw [List.mem_singleton.1 hp]; exact k2 h0
    · exact k1 p hp
  refine ⟨fun e => ?_, fun b hb => ?_⟩
  · have := congrArg List.length e
    rw [List.length_take, List.length_drop, List.length_nil] at this
    omega
  · obtain ⟨j, hj, rfl⟩ := List.mem_iff_getElem.1 hb
    have hj' := hj
    rw [List.length_take, List.length_drop] at hj'
    rw [List.getElem_take, List.getElem_drop]
    refine ⟨List.getElem_mem _, ?_⟩
    have := hno (p.1 + j) (by omega) (by omega)
    rw [List.getD_eq_getElem?_getD, List.getElem?_eq_getElem (by omega)] at this
    exact this
theorem splitL_mem {s x : List UInt8} (hx : x ∈ splitL s) : x = [46] ∨ (x ≠ [] ∧ ∀ b ∈ x, b ∈ s ∧ b ≠ 47) := by
  unfold splitL at hx
  cases hc : (decide ((0 : Int) < (namesF s).length) && sufF s) with
  | true =>
    rw [hc, cond_true] at hx
    rcases List.mem_append.1 hx with h | h
    · exact .inr (namesF_mem h)
    · exact .inl (List.mem_singleton.1 h)
  | false => rw [hc, cond_false] at hx; exact .inr (namesF_mem hx)
/-- A name as a path has it. -/
def NmOk (x : List UInt8) : Prop := x ≠ [] ∧ x.any sl0 = false
theorem ib_none : ∀ {s : List UInt8}, Lib.indexByte s 0 < 0 → ∀ b ∈ s, b ≠ 0
  | b :: l, h, c, hc => by
    unfold Lib.indexByte at h
    by_cases hb : (b == 0) = true
    · rw [if_pos hb] at h; omega
    · rw [if_neg hb] at h
      rcases List.mem_cons.1 hc with rfl | hc
      · intro e; exact hb (by rw [e]; rfl)
      · refine ib_none ?_ c hc
        have := Lib.indexByte_ge l 0
        by_cases h1 : (Lib.indexByte l 0 == -1) = true
        · rw [beq_iff_eq] at h1; omega
        · rw [if_neg h1] at h; omega
theorem splitL_ok {s x : List UInt8} (hs : ∀ b ∈ s, b ≠ 0) (hx : x ∈ splitL s) : NmOk x := by
  rcases splitL_mem hx with rfl | ⟨h1, h2⟩
  · exact ⟨by decide, by decide⟩
  · refine ⟨h1, List.any_eq_false.2 fun b hb => ?_⟩
    obtain ⟨h3, h4⟩ := h2 b hb
    simp [sl0, h4, hs b h3]
theorem right_cases {n : Nd} (h : rightF n = true) : (decide (n.mode < 0) || decide (4095 < n.mode) || !idB n.uid || !idB n.gid) = false ∧
    ((n.kind = 1 ∧ n.ents = [] ∧ n.target = [] ∧ n.data.length ≤ 48) ∨ (n.kind = 2 ∧ n.data = [] ∧ n.target = [] ∧ risingF n.ents = true) ∨ (n.kind = 3 ∧ n.data = [] ∧ n.ents = [] ∧ n.mode = 511 ∧ fitsF n.target = true)) := by
  unfold rightF at h
  cases hc : (decide (n.mode < 0) || decide (4095 < n.mode) || !idB n.uid || !idB n.gid) with
  | true => rw [hc] at h; cases h
  | false =>
    rw [hc, cond_false] at h
    refine ⟨rfl, ?_⟩
    split at h
    · rename_i h1
      simp only [Bool.and_eq_true, decide_eq_true_eq] at h
      exact .inl ⟨h1, List.length_eq_zero_iff.1 (by omega), h.1.2, by omega⟩
    · split at h
      · rename_i h1
        simp only [Bool.and_eq_true, decide_eq_true_eq] at h
        exact .inr (.inl ⟨h1, List.length_eq_zero_iff.1 (by omega), h.1.2, h.2⟩)
      · split at h
        · rename_i h1
          simp only [Bool.and_eq_true, decide_eq_true_eq] at h
          exact .inr (.inr ⟨h1, List.length_eq_zero_iff.1 (by omega), List.length_eq_zero_iff.1 (by omega), h.1.2, h.2⟩)
        · cases h
theorem right_dir {n : Nd} (hk : n.kind = 2) (hc : (decide (n.mode < 0) || decide (4095 < n.mode) || !idB n.uid || !idB n.gid) = false) (hd : n.data = []) (ht : n.target = []) (hr : risingF n.ents = true) : rightF n = true := by
  unfold rightF
  rw [hc, cond_false, if_neg (by omega), if_pos hk, hd, ht, hr]; rfl
theorem Tab.Rt.kind {T : Tab} (h : T.Rt) {i : Int} (hk : (T.get i).1.kind ≠ 0) : rightF (T.get i).1 = true := by
  refine h.get ?_
  cases ha : T.at i with
  | none => rw [get_no ha] at hk; exact absurd rfl hk
  | some j => rw [get_at ha]
/-- Where a path leads. -/
def NmAt (T : Tab) (r : Int × List UInt8 × Int) : Prop := (r.2.1 = [] ∧ r.2.2 = r.1) ∨ ((T.get r.1).1.kind = 2 ∧ NmOk r.2.1 ∧ r.2.1 ≠ [46] ∧ r.2.1 ≠ [46, 46] ∧ r.2.1.length ≤ 12 ∧ r.2.2 = findF (T.get r.1).1 r.2.1)
theorem resL_nm2 {T : Tab} (hR : T.Rt) (c : Cr) (fl : Bool) : ∀ (n : Nat) (i k : Int) (l : List (List UInt8)), (∀ x ∈ l, NmOk x) → (resL T c fl n i k l).2 = 0 → NmAt T (resL T c fl n i k l).1
  | 0, i, k, l, _, _ => .inl ⟨rfl, rfl⟩
  | n + 1, i, k, [], _, _ => .inl ⟨rfl, rfl⟩
  | n + 1, i, k, s :: l, hl, hz => by
    have hls : ∀ x ∈ l, NmOk x := fun x hx => hl x (List.mem_cons_of_mem _ hx)
    rw [resL_cons] at hz ⊢
    split
    · rename_i h1; rw [if_pos h1] at hz; cases hz
    rename_i h1
    rw [if_neg h1] at hz
    split
    · rename_i h2; rw [if_pos h2] at hz; cases hz
    rename_i h2
    rw [if_neg h2] at hz
    split
    · rename_i h3; rw [if_pos h3] at hz; exact resL_nm2 hR c fl n _ _ l hls hz
    rename_i h3
    rw [if_neg h3] at hz
    split
    · rename_i h4; rw [if_pos h4] at hz; exact resL_nm2 hR c fl n _ _ l hls hz
    rename_i h4
    rw [if_neg h4] at hz
    split
    · rename_i h5; rw [if_pos h5] at hz; cases hz
    rename_i h5
    rw [if_neg h5] at hz
    split
    · rename_i h6; rw [if_pos h6] at hz; cases hz
    rename_i h6
    rw [if_neg h6] at hz
    split
    · rename_i h7
      rw [if_pos h7] at hz
      split
      · rename_i h8; rw [if_pos h8] at hz; cases hz
      · rename_i h8
        rw [if_neg h8] at hz
        refine resL_nm2 hR c fl n _ _ _ (fun x hx => ?_) hz
        rcases List.mem_append.1 hx with hx | hx
        · refine splitL_ok ?_ hx
          rcases right_cases (hR.kind (by rw [h7.1]; decide)) with ⟨_, h | h | h⟩
          · rw [h.1] at h7; exact absurd h7.1 (by decide)
          · rw [h.1] at h7; exact absurd h7.1 (by decide)
          · have := h.2.2.2.2
            simp only [fitsF, Bool.and_eq_true, decide_eq_true_eq] at this
            exact ib_none this.2
        · exact hls x hx
    rename_i h7
    rw [if_neg h7] at hz
    split
    · exact .inr ⟨Classical.not_not.1 h1, hl s List.mem_cons_self, h3, h4, by show s.length ≤ 12; omega, rfl⟩
    · rename_i h8
      rw [if_neg h8] at hz
      exact resL_nm2 hR c fl n _ _ l hls hz
theorem resF_at {T : Tab} (hR : T.Rt) (c : Cr) (p : List UInt8) (fl : Bool) (hz : rE T c p fl = 0) : NmAt T (rD T c p fl, rS T c p fl, rN T c p fl) := by
  unfold rE rD rS rN at *
  unfold resF at hz ⊢
  split
  · rename_i h; rw [if_pos h] at hz; exact absurd hz h
  · rename_i h
    rw [if_neg h] at hz
    refine resL_nm2 hR c fl 1000 1 0 _ (fun x hx => splitL_ok (ib_none ?_) hx) hz
    have h0 := Classical.not_not.1 h
    unfold fitE at h0
    split at h0
    · cases h0
    · split at h0
      · cases h0
      · split at h0
        · cases h0
        · omega
/-! Names rise. -/
theorem bl_trans : ∀ x y z : List UInt8, Op.bytesLess x y = true → Op.bytesLess y z = true → Op.bytesLess x z = true
  | x, [], z, h, _ => by cases x <;> cases h
  | _, _ :: _, [], _, h => by cases h
  | [], _ :: _, _ :: _, _, _ => rfl
  | a :: x, b :: y, c :: z, h1, h2 => by
    simp only [Op.bytesLess, Bool.or_eq_true, Bool.and_eq_true, decide_eq_true_eq, beq_iff_eq] at h1 h2 ⊢
    rcases h1 with h1 | ⟨rfl, h1⟩
    · rcases h2 with h2 | ⟨rfl, h2⟩
      · exact .inl (UInt8.lt_trans h1 h2)
      · exact .inl h1
    · rcases h2 with h2 | ⟨rfl, h2⟩
      · exact .inl h2
      · exact .inr ⟨rfl, bl_trans x y z h1 h2⟩
theorem bl_tri : ∀ x y : List UInt8, Op.bytesLess x y = false → x ≠ y → Op.bytesLess y x = true
  | [], [], _, h => absurd rfl h
  | [], _ :: _, h, _ => by cases h
  | _ :: _, [], _, _ => rfl
  | a :: x, b :: y, h, hn => by
    simp only [Op.bytesLess, Bool.or_eq_false_iff, decide_eq_false_iff_not] at h
    simp only [Op.bytesLess, Bool.or_eq_true, Bool.and_eq_true, decide_eq_true_eq, beq_iff_eq]
    by_cases e : a = b
    · subst e
      refine .inr ⟨rfl, bl_tri x y ?_ fun e => hn (by rw [e])⟩
      have := h.2
      simpa using this
    · left
      have h1 := h.1
      rw [UInt8.lt_iff_toNat_lt] at h1 ⊢
      have : a.toNat ≠ b.toNat := fun h => e (UInt8.toNat_inj.1 h)
      omega
abbrev RisP (l : List En) : Prop := l.Pairwise fun a b => Op.bytesLess a.1 b.1 = true
theorem rising_iff (l : List En) : risingF l = true ↔ (∀ e ∈ l, nameF e.1 = true ∧ 1 ≤ e.2) ∧ RisP l ∧ l.length ≤ 8 := by
  unfold risingF
  rw [Bool.and_eq_true, Bool.not_eq_true', decide_eq_true_eq, List.any_eq_false]
  have hg : ∀ i (hi : i < l.length), l.getD i ([], 0) = l[i] := fun i hi => by rw [List.getD_eq_getElem?_getD, List.getElem?_eq_getElem hi]; rfl
  constructor
  · rintro ⟨h1, h2⟩
    have hb : ∀ i (hi : i < l.length), nameF l[i].1 = true ∧ 1 ≤ l[i].2 ∧ ∀ h0 : 0 < i, Op.bytesLess (l[i - 1]'(by omega)).1 l[i].1 = true := fun i hi => by
      have := h1 i (List.mem_range.2 hi)
      unfold badE at this
      rw [hg i hi] at this
      simp only [Bool.not_eq_true, Bool.or_eq_false_iff, Bool.not_eq_false', decide_eq_false_iff_not] at this
      refine ⟨this.1.1, by omega, fun h0 => ?_⟩
      have h3 := this.2
      rw [show ((i : Int) - 1).toNat = i - 1 by omega, hg (i - 1) (by omega), decide_eq_true (by omega), Bool.true_and, Bool.not_eq_false'] at h3
      exact h3
    refine ⟨fun e he => ?_, ?_, by omega⟩
    · obtain ⟨i, hi, rfl⟩ := List.mem_iff_getElem.1 he
      exact ⟨(hb i hi).1, (hb i hi).2.1⟩
    · rw [RisP, List.pairwise_iff_getElem]
      intro i j hi hj hij
      induction j with
      | zero => omega
      | succ j ih =>
        have hs := (hb (j + 1) hj).2.2 (by omega)
        simp only [Nat.add_sub_cancel] at hs
        by_cases e : i = j
        · subst e; exact hs
        · exact bl_trans _ _ _ (ih (by omega) (by omega)) hs
  · rintro ⟨h1, h2, h3⟩
    refine ⟨fun i hi => ?_, by omega⟩
    have hi := List.mem_range.1 hi
    obtain ⟨k1, k2⟩ := h1 _ (List.getElem_mem hi)
    unfold badE
    rw [hg i hi, k1, decide_eq_false (by omega)]
    by_cases h0 : 0 < i
    · rw [show ((i : Int) - 1).toNat = i - 1 by omega, hg (i - 1) (by omega), (List.pairwise_iff_getElem.1 h2) (i - 1) i (by omega) hi (by omega)]; simp
    · rw [decide_eq_false (by omega)]; simp
theorem nm_name {s : List UInt8} (h : NmOk s) (h1 : s ≠ [46]) (h2 : s ≠ [46, 46]) (h3 : s.length ≤ 12) : nameF s = true := by
  unfold nameF
  rw [decide_eq_false h.1, decide_eq_false h1, decide_eq_false h2, h.2, decide_eq_true (show ((s.length : Int) ≤ 12) by omega)]; rfl
theorem idx_none {s : List UInt8} {l : List En} (h : idxP (eqS s) l < 0) : ∀ e ∈ l, e.1 ≠ s := by
  intro e he
  obtain ⟨j, hj, rfl⟩ := List.mem_iff_getElem.1 he
  rcases idxP_spec (eqS s) ([], 0) l with ⟨_, h2⟩ | ⟨k, h1, _⟩
  · have := h2 j hj
    rw [List.getD_eq_getElem?_getD, List.getElem?_eq_getElem hj] at this
    simpa [eqS] using this
  · omega
theorem spot_spec (l : List En) (s : List UInt8) (hn : ∀ e ∈ l, e.1 ≠ s) (hr : RisP l) : (∀ e ∈ l.take (spot l s), Op.bytesLess e.1 s = true) ∧ ∀ e ∈ l.drop (spot l s), Op.bytesLess s e.1 = true := by
  have hlt : ∀ e ∈ l, gtS s e = false → Op.bytesLess e.1 s = true := fun e he h => by
    unfold gtS at h
    rw [Bool.not_eq_false', Bool.or_eq_true, decide_eq_true_eq] at h
    exact h.elim id fun h => absurd h (hn e he)
  have hgt : ∀ e ∈ l, gtS s e = true → Op.bytesLess s e.1 = true := fun e he h => by
    unfold gtS at h
    rw [Bool.not_eq_true', Bool.or_eq_false_iff, decide_eq_false_iff_not] at h
    exact bl_tri _ _ h.1 h.2
  rcases idxP_spec (gtS s) ([], 0) l with ⟨h1, h2⟩ | ⟨k, h1, h2, h3⟩
  · rw [spot_neg h1, List.take_length, List.drop_length]
    refine ⟨fun e he => hlt e he ?_, fun e he => nomatch he⟩
    obtain ⟨j, hj, rfl⟩ := List.mem_iff_getElem.1 he
    have := h2 j hj
    rwa [List.getD_eq_getElem?_getD, List.getElem?_eq_getElem hj] at this
  · have hs : spot l s = k := by
      unfold spot; rw [if_neg (by omega), h1]; rfl
    rw [hs]
    rw [List.getD_eq_getElem?_getD, List.getElem?_eq_getElem h2] at h3
    have hk : Op.bytesLess s l[k].1 = true := hgt _ (List.getElem_mem h2) h3
    constructor
    · intro e he
      obtain ⟨j, hj, rfl⟩ := List.mem_iff_getElem.1 he
      rw [List.length_take] at hj
      rw [List.getElem_take]
      refine hlt _ (List.getElem_mem _) ?_
      have := idxP_first (gtS s) ([], 0) l h1 j (by omega)
      rwa [List.getD_eq_getElem?_getD, List.getElem?_eq_getElem (by omega)] at this
    · intro e he
      obtain ⟨j, hj, rfl⟩ := List.mem_iff_getElem.1 he
      rw [List.length_drop] at hj
      rw [List.getElem_drop]
      cases j with
      | zero => exact hk
      | succ j => exact bl_trans _ _ _ hk ((List.pairwise_iff_getElem.1 hr) k (k + (j + 1)) h2 (by omega) (by omega))
theorem ins_rising {l : List En} {s : List UInt8} {id : Int} (h : risingF l = true) (hs : nameF s = true) (hid : 1 ≤ id) (hn : ∀ e ∈ l, e.1 ≠ s) (hl : l.length < 8) : risingF (insF l s id) = true := by
  obtain ⟨h1, h2, h3⟩ := (rising_iff l).1 h
  obtain ⟨k1, k2⟩ := spot_spec l s hn h2
  refine (rising_iff _).2 ⟨fun e he => ?_, ?_, ?_⟩
  · rcases mem_insF.1 he with rfl | he
    · exact ⟨hs, hid⟩
    · exact h1 e he
  · unfold insF
    rw [RisP, List.pairwise_append]
    refine ⟨h2.sublist (List.take_sublist _ _), ?_, fun a ha b hb => ?_⟩
    · rw [List.singleton_append, List.pairwise_cons]
      exact ⟨fun e he => k2 e he, h2.sublist (List.drop_sublist _ _)⟩
    · rcases List.mem_cons.1 hb with rfl | hb
      · exact k1 a ha
      · exact bl_trans _ _ _ (k1 a ha) (k2 b hb)
  · unfold insF
    have := spot_le l s
    rw [List.length_append, List.length_append, List.length_take, List.length_drop, List.length_singleton]; omega
theorem withN_right {n : Nd} {s : List UInt8} {id : Int} (h : rightF n = true) (hz : (withN n s id).2 = 0) : rightF (withN n s id).1 = true := by
  have hw := hz
  unfold withN at hw
  split at hw
  · cases hw
  rename_i hk
  cases hb : badN s id with
  | true => rw [hb] at hw; cases hw
  | false =>
    rw [hb, cond_false] at hw
    split at hw
    · cases hw
    rename_i h12
    split at hw
    · cases hw
    rename_i hix
    split at hw
    · cases hw
    rename_i h8
    rw [withN_zero hz]
    have hk2 : n.kind = 2 := Classical.not_not.1 hk
    obtain ⟨hc, hh⟩ := right_cases h
    rcases hh with hh | hh | hh
    · omega
    · simp only [badN, Bool.or_eq_false_iff, decide_eq_false_iff_not] at hb
      exact right_dir hk2 hc hh.2.1 hh.2.2.1 (ins_rising hh.2.2.2 (nm_name ⟨hb.1.1.1.2, hb.2⟩ hb.1.1.2 hb.1.2 (by omega)) (by omega) (idx_none (by omega)) (by omega))
    · omega

end Go.Proofs.YtegffmibifodcaaGreat
