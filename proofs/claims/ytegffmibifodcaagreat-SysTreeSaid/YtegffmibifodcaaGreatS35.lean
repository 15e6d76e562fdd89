import Derived.Test.YtegffmibifodcaaGreatS33
import Derived.Test.YtegffmibifodcaaGreatS34
/-
  TREES: the law that a tree stays one.
-/
namespace Go.Proofs.YtegffmibifodcaaGreat
open Go.Ab
set_option linter.unusedVariables false
set_option linter.unusedSimpArgs false
set_option maxRecDepth 8000
set_option maxHeartbeats 400000

theorem at_isSome {T : Tab} (i : Int) : (T.at i).isSome = (T.get i).2 := by
  cases h : T.at i with
  | none => rw [get_no h]; rfl
  | some j => rw [get_at h]; rfl
/-- A node is added where the last one stands. -/
theorem TreeI.free {T : Tab} {m : Nat} (h : TreeI T m) {i : Nat} (hf : T.free = some i) : i = m ∧ (i : Int) + 1 ≤ T.room := by
  unfold Tab.free at hf
  obtain ⟨h1, l1, l2, h2, h3⟩ := List.find?_eq_some_iff_append.1 hf
  have hn : (T.get ((i : Int) + 1)).2 = false := by
    rw [← at_isSome]
    cases ha : T.at ((i : Int) + 1) with
    | none => rfl
    | some j => rw [ha] at h1; cases h1
  have hmem : i ∈ List.range T.room.toNat := by rw [h2]; simp
  have hlt := List.mem_range.1 hmem
  refine ⟨?_, by omega⟩
  rcases Nat.lt_trichotomy i m with hl | hl | hl
  · have := (h.used ((i : Int) + 1)).2 ⟨by omega, by omega⟩
    rw [hn] at this; cases this
  · exact hl
  · exfalso
    have hm : m ∈ l1 := by
      have hm2 : m ∈ List.range T.room.toNat := List.mem_range.2 (by omega)
      have hs : (List.range T.room.toNat).Pairwise (· < ·) := List.pairwise_lt_range
      rw [h2] at hm2 hs
      rcases List.mem_append.1 hm2 with h5 | h5
      · exact h5
      · rcases List.mem_cons.1 h5 with h6 | h6
        · omega
        · have := (List.pairwise_cons.1 (List.pairwise_append.1 hs).2.1).1 m h6; omega
    have := h3 m hm
    simp only [Bool.not_eq_eq_eq_not, Bool.not_true] at this
    have hu : (T.get ((m : Int) + 1)).2 = true := by
      rw [← at_isSome]
      cases ha : T.at ((m : Int) + 1) with
      | none => rw [ha] at this; cases this
      | some j => rfl
    have := (h.used _).1 hu
    omega
theorem TreeI.one_ok {T : Tab} (hT : T.Ok) {m : Nat} (h : TreeI T m) {r : Rw} (hr : RwOk r) (hz : (oneF T r).1 = 0) : ∃ m', TreeI (oneF T r).2 m' := by
  -- what the node told is: new, or there
  have key : ∃ m' : Nat, m ≤ m' ∧ (toldF T r).2.Ok ∧ ((toldF T r).1.2 = 0 → ((toldF T r).1.1 = (m : Int) + 1 ∧ m' = m + 1 ∧ (m : Int) + 1 ≤ T.room ∧ ∀ i, (toldF T r).2.get i = if i = (m : Int) + 1 then (madeF r, true) else T.get i) ∨
      ((toldF T r).1.1 = r.node ∧ m' = m ∧ (toldF T r).2 = T ∧ (T.get r.node).2 = true ∧ (T.get r.node).1.kind ≠ 2)) := by
    have hok := toldF_ok hT hr
    by_cases h4 : r.kind ≠ 4
    · refine ⟨m + 1, by omega, hok, fun h0 => .inl ?_⟩
      unfold toldF at h0 ⊢
      rw [if_pos h4] at h0 ⊢
      unfold addT at h0 ⊢
      split at h0
      · cases h0
      · rename_i hrt
        rw [if_neg hrt]
        split at h0
        · rename_i i hf
          obtain ⟨rfl, hro⟩ := h.free hf
          exact ⟨rfl, rfl, hro, fun i => get_put hT (madeF_ok hr) (rightF_kind (by simpa using hrt)) hro i⟩
        · cases h0
    · refine ⟨m, Nat.le_refl _, hok, fun h0 => .inr ?_⟩
      unfold toldF at h0 ⊢
      rw [if_neg h4] at h0 ⊢
      split at h0
      · cases h0
      · rename_i hg
        rw [if_neg hg]
        split at h0
        · cases h0
        · rename_i hk
          rw [if_neg hk]
          exact ⟨rfl, rfl, rfl, by simpa using hg, hk⟩
  obtain ⟨m', hmm, hok, key⟩ := key
  unfold oneF at hz ⊢
  split at hz
  · cases hz
  · rename_i hp
    rw [if_neg hp]
    have hp' : (T.get r.parent).2 = true := by simpa using hp
    have hpm := (h.used _).1 hp'
    split at hz
    · rename_i hc; exact absurd hz hc
    · rename_i hc
      rw [if_neg hc]
      split at hz
      · rename_i hw; exact absurd hz hw
      · rename_i hw
        rw [if_neg hw]
        have hw0 : (withN ((toldF T r).2.get r.parent).1 r.name (toldF T r).1.1).2 = 0 := Classical.not_not.1 hw
        have hc0 : (toldF T r).1.2 = 0 := Classical.not_not.1 hc
        have hwk := withN_kind hw0
        have hwe := withN_zero hw0
        have hwo : NdOk (withN ((toldF T r).2.get r.parent).1 r.name (toldF T r).1.1).1 := withN_ok (get_ok hok _) (Nat.le_trans hr.name (by decide))
        generalize (withN ((toldF T r).2.get r.parent).1 r.name (toldF T r).1.1).1 = n' at hz hwk hwe hwo ⊢
        -- the parent's node, put
        unfold putT at hz ⊢
        split at hz
        · cases hz
        · rename_i j hj
          split at hz
          · cases hz
          · rename_i hrt
            try simp only [hj]
            rw [if_neg hrt]
            obtain ⟨hj1, hj2, hj3⟩ := at_room hj
            have hjp : ((j : Nat) : Int) + 1 = r.parent := by omega
            have hget : ∀ i, ((toldF T r).2.put j n').get i = if i = r.parent then (n', true) else (toldF T r).2.get i := fun i => by
              rw [get_put hok hwo (by rw [hwk]; decide) (by omega) i, hjp]
            have hk0 : ((toldF T r).2.get r.parent).1.kind = 2 := by rw [hwe] at hwk; exact hwk
            generalize (toldF T r).2.put j n' = T2 at hget ⊢
            rcases key hc0 with ⟨k1, k2, k3, k4⟩ | ⟨k1, k2, k3, k4, k5⟩
            · -- a new node
              have hpo : (toldF T r).2.get r.parent = T.get r.parent := by rw [k4, if_neg (by omega)]
              rw [hpo] at hwe hk0
              rw [k1] at hwe
              have g2 : ∀ i, T2.get i = if i = r.parent then (n', true) else if i = (m : Int) + 1 then (madeF r, true) else T.get i := fun i => by rw [hget, k4]
              have hkind : ∀ i, i ≤ (m : Int) → (T2.get i).1.kind = (T.get i).1.kind := fun i hi => by
                rw [g2]
                split
                · rename_i e; subst e; rw [hwk, hk0]
                · rw [if_neg (by omega)]
              have hents : ∀ d e, e ∈ (T2.get d).1.ents → (d = r.parent ∧ e = (r.name, (m : Int) + 1)) ∨ e ∈ (T.get d).1.ents := fun d e he => by
                rw [g2] at he
                split at he
                · rename_i hd
                  rw [hwe] at he
                  rcases mem_insF.1 he with h6 | h6
                  · exact .inl ⟨hd, h6⟩
                  · rw [hd]; exact .inr h6
                · split at he
                  · simp [madeF] at he
                  · exact .inr he
              have hold : ∀ d e, e ∈ (T.get d).1.ents → e ∈ (T2.get d).1.ents := fun d e he => by
                have hd := (h.used d).1 (ents_is he)
                rw [g2]
                split
                · rename_i hd2
                  rw [hwe]
                  exact mem_insF.2 (.inr (by rw [← hd2]; exact he))
                · rw [if_neg (by omega)]; exact he
              refine ⟨m', by omega, fun i => ?_, fun d e he => ?_, fun d d' e e' he he' hee hk => ?_, fun i hi1 hi2 => ?_, ?_⟩
              · rw [g2]
                split
                · rename_i e; subst e; exact ⟨fun _ => by omega, fun _ => rfl⟩
                · split
                  · exact ⟨fun _ => by omega, fun _ => rfl⟩
                  · rw [h.used]; omega
              · rcases hents d e he with ⟨h6, h7⟩ | h6
                · subst h7
                  exact ⟨by dsimp only; omega, by dsimp only; omega, fun _ => by dsimp only; omega⟩
                · obtain ⟨q1, q2, q3⟩ := h.kid d e h6
                  exact ⟨q1, by omega, fun hq => q3 (by rw [← hkind _ q2]; exact hq)⟩
              · rcases hents d e he with ⟨h6, h7⟩ | h6
                · rcases hents d' e' he' with ⟨h8, h9⟩ | h8
                  · exact ⟨by rw [h6, h8], by rw [h7, h9]⟩
                  · have := (h.kid d' e' h8).2.1
                    rw [h7] at hee
                    dsimp only at hee; omega
                · rcases hents d' e' he' with ⟨h8, h9⟩ | h8
                  · have := (h.kid d e h6).2.1
                    rw [h9] at hee
                    dsimp only at hee; omega
                  · exact h.one d d' e e' h6 h8 hee (by rw [← hkind _ (h.kid d e h6).2.1]; exact hk)
              · by_cases hi : i ≤ m
                · obtain ⟨d, e, q1, q2, q3⟩ := h.par i hi1 hi
                  exact ⟨d, e, hold d e q1, q2, q3⟩
                · refine ⟨r.parent, (r.name, (m : Int) + 1), ?_, by dsimp only; omega, by omega⟩
                  rw [g2, if_pos rfl, hwe]
                  exact mem_insF.2 (.inl rfl)
              · rw [hkind 1 (by have := h.pos; omega)]; exact h.root
            · -- a node that is there
              rw [k3] at hwe hk0
              rw [k1] at hwe
              have hnm := (h.used _).1 k4
              have g2 : ∀ i, T2.get i = if i = r.parent then (n', true) else T.get i := fun i => by rw [hget, k3]
              have hkind : ∀ i, (T2.get i).1.kind = (T.get i).1.kind := fun i => by
                rw [g2]
                split
                · rename_i e; subst e; rw [hwk, hk0]
                · rfl
              have hents : ∀ d e, e ∈ (T2.get d).1.ents → (d = r.parent ∧ e = (r.name, r.node)) ∨ e ∈ (T.get d).1.ents := fun d e he => by
                rw [g2] at he
                split at he
                · rename_i hd
                  rw [hwe] at he
                  rcases mem_insF.1 he with h6 | h6
                  · exact .inl ⟨hd, h6⟩
                  · rw [hd]; exact .inr h6
                · exact .inr he
              have hold : ∀ d e, e ∈ (T.get d).1.ents → e ∈ (T2.get d).1.ents := fun d e he => by
                rw [g2]
                split
                · rename_i hd2
                  rw [hwe]
                  exact mem_insF.2 (.inr (by rw [← hd2]; exact he))
                · exact he
              refine ⟨m', by have := h.pos; omega, fun i => ?_, fun d e he => ?_, fun d d' e e' he he' hee hk => ?_, fun i hi1 hi2 => ?_, ?_⟩
              · rw [g2, k2]
                split
                · rename_i e; subst e; exact ⟨fun _ => by omega, fun _ => rfl⟩
                · exact h.used i
              · rcases hents d e he with ⟨h6, h7⟩ | h6
                · subst h7
                  exact ⟨hnm.1, by dsimp only; omega, fun hq => absurd (by rw [← hkind]; exact hq) k5⟩
                · obtain ⟨q1, q2, q3⟩ := h.kid d e h6
                  exact ⟨q1, by omega, fun hq => q3 (by rw [← hkind]; exact hq)⟩
              · have hk' := hk
                rw [hkind] at hk'
                rcases hents d e he with ⟨h6, h7⟩ | h6
                · rw [h7] at hk'; exact absurd hk' k5
                · rcases hents d' e' he' with ⟨h8, h9⟩ | h8
                  · rw [hee, h9] at hk'; exact absurd hk' k5
                  · exact h.one d d' e e' h6 h8 hee hk'
              · obtain ⟨d, e, q1, q2, q3⟩ := h.par i hi1 (by omega)
                exact ⟨d, e, hold d e q1, q2, q3⟩
              · rw [hkind]; exact h.root
theorem TreeI.rest : ∀ (l : List Rw) (T : Tab) (i : Nat) (T' : Tab) (m : Nat), T.Ok → TreeI T m → (∀ r ∈ l, RwOk r) → restF T i l = .inr T' → ∃ m', TreeI T' m'
  | [], T, i, T', m, _, h, _, e => by cases e; exact ⟨m, h⟩
  | r :: l, T, i, T', m, hT, h, hl, e => by
    unfold restF at e
    split at e
    · cases e
    · rename_i hz
      obtain ⟨m', h'⟩ := h.one_ok hT (hl r (by simp)) (Classical.not_not.1 hz)
      exact TreeI.rest l _ _ T' m' (oneF_ok hT (hl r (by simp))) h' (fun r hr => hl r (by simp [hr])) e
theorem newT_get (room : Int) (i : Int) : (newT room).get i = (nd0, false) := by
  have : (newT room).at i = none := by
    unfold Tab.at
    rw [if_neg]
    rintro ⟨_, _, h⟩
    refine h ?_
    show ((List.replicate 24 nd0).getD (i - 1).toNat nd0).kind = 0
    rw [List.getD_eq_getElem?_getD, List.getElem?_replicate]
    split <;> rfl
  exact get_no this
theorem TreeI.build {room : Int} {l : List Rw} {T : Tab} (hl : ∀ r ∈ l, RwOk r) (e : buildF room l = .inr T) : ∃ m, TreeI T m := by
  unfold buildF at e
  cases hc : (decide ((l.length : Int) = 0) || !decide ((l.getD 0 rw0).kind = 2) || !decide ((l.getD 0 rw0).parent = 0) || !decide ((l.getD 0 rw0).name = [])) with
  | true => rw [hc] at e; cases e
  | false =>
    rw [hc, cond_false] at e
    have h0 := getD_ok hl 0
    simp only [Bool.or_eq_false_iff, Bool.not_eq_false', decide_eq_true_eq, decide_eq_false_iff_not] at hc
    split at e
    · cases e
    · rename_i ha
      refine TreeI.rest _ _ _ T 1 (addT_ok (newT_ok room) (madeF_ok h0)) ?_ (fun r hr => hl r (List.mem_of_mem_drop hr)) e
      unfold addT at ha ⊢
      split
      · rename_i hr; rw [if_pos hr] at ha; exact (ha (show (22 : Int) ≠ 0 by decide)).elim
      · rename_i hr
        rw [if_neg hr] at ha
        have hf : (newT room).free = some 0 := by
          refine free_at (by show 0 < (min (max room 1) 24).toNat; omega) ?_ (fun j hj => by omega)
          rw [show (newT room).at (((0 : Nat) : Int) + 1) = none from by
            cases hat : (newT room).at (((0 : Nat) : Int) + 1) with
            | none => rfl
            | some j =>
              have h1 := newT_get room (((0 : Nat) : Int) + 1)
              rw [get_at hat] at h1
              cases congrArg Prod.snd h1]; rfl
        rw [hf]
        have g : ∀ i, ((newT room).put 0 (madeF (l.getD 0 rw0))).get i = if i = 1 then (madeF (l.getD 0 rw0), true) else (nd0, false) := fun i => by
          rw [get_put (newT_ok room) (madeF_ok h0) (rightF_kind (by simpa using hr)) (by show ((0 : Nat) : Int) + 1 ≤ min (max room 1) 24; omega), newT_get]; rfl
        show TreeI ((newT room).put 0 (madeF (l.getD 0 rw0))) 1
        have ge : ∀ d e, e ∈ (((newT room).put 0 (madeF (l.getD 0 rw0))).get d).1.ents → False := fun d e he => by
          rw [g] at he
          split at he
          · simp [madeF] at he
          · simp [nd0] at he
        refine ⟨Nat.le_refl _, fun i => ?_, fun d e he => (ge d e he).elim, fun d d' e e' he _ _ _ => (ge d e he).elim, fun i h1 h2 => by omega, ?_⟩
        · rw [g]
          split
          · exact ⟨fun _ => by omega, fun _ => rfl⟩
          · exact ⟨fun h => (by cases h), fun h => (by omega)⟩
        · rw [g, if_pos rfl]; exact hc.1.1.2

theorem TreeI.treeW {T : Tab} {m : Nat} (h : TreeI T m) : TreeW T [] [] := by
  have hd : ∀ d e, Ent T d e → 1 ≤ d ∧ d ≤ m := fun d e he => (h.used d).1 (ents_is he)
  refine ⟨h.root, fun d e he h1 => ?_, fun d e he => (h.used _).2 ⟨(h.kid d e he).1, (h.kid d e he).2.1⟩, fun i _ hi h1 => ?_, h.one, ⟨fun i => i.toNat, fun d e he hk => ?_⟩, fun i _ hi hk => ?_, fun i hi => nomatch hi⟩
  · have := (h.kid d e he).2.2 (by rw [h1]; exact h.root)
    have := hd d e he; omega
  · have := (h.used i).1 (get_kind_at (by rw [hi]; decide))
    obtain ⟨d, e, he, hei, _⟩ := h.par i (by omega) this.2
    exact ⟨d, e, he, hei⟩
  · have := (h.kid d e he).2.2 hk
    have := hd d e he
    show d.toNat < e.2.toNat
    omega
  · have := (h.used i).1 hi
    have h1 : i ≠ 1 := fun e => hk (by rw [e]; exact h.root)
    obtain ⟨d, e, he, hei, _⟩ := h.par i (by omega) this.2
    exact .inl ⟨d, e, he, hei⟩
theorem built_treeW {room : Int} {l : List Rw} {c : Cr} {T : Tab} (h : builtF room l c = some T) : TreeW T [] [] := by
  unfold builtF at h
  cases h1 : (decide ((50 : Int) < l.length) || decide ((10 : Int) < c.gs.length)) with
  | true => rw [h1] at h; cases h
  | false =>
    rw [h1, cond_false] at h
    cases h2 : l.any bigR with
    | true => rw [h2] at h; cases h
    | false =>
      rw [h2, cond_false] at h
      split at h
      · cases h
      · rename_i T' hT'
        cases h
        obtain ⟨m, hm⟩ := TreeI.build (small_ok h2) hT'
        exact hm.treeW
theorem openL_new (um : Int) (cs : List Cr) : openL (cs.map (pr1 um)) = [] := by
  unfold openL
  rw [List.flatMap_map]
  exact List.flatMap_eq_nil_iff.2 fun c _ => rfl
theorem root_up {T : Tab} : ∀ (n k : Nat) (i : Int), k < n → up T k i = 1 → rootL T n i = true
  | 0, k, i, h, _ => absurd h (Nat.not_lt_zero _)
  | n + 1, k, i, h, hk => by
    show (if i = 1 then true else rootL T n (T.parent i)) = true
    split
    · rfl
    · rename_i hi
      cases k with
      | zero => exact absurd hk hi
      | succ k => exact root_up n k _ (by omega) (by rw [up_in]; exact hk)
theorem TreeW.at1 {T : Tab} {o X : List Int} (hW : TreeW T o X) : T.at 1 = some 0 := by
  obtain ⟨j, ha, hj, _⟩ := get_isat (get_kind_at (T := T) (i := 1) (by rw [hW.root]; decide))
  have : j = 0 := by omega
  rw [ha, this]
/-- What is a tree, is told to be one. -/
theorem TreeW.right {T : Tab} {o : List Int} (hT : Gd T) (hW : TreeW T o []) : rightT T o = true := by
  have hg1 := hW.root
  rw [get_at hW.at1] at hg1
  have h0 : (decide ((T.ns.getD 0 nd0).kind = 2) && decide (T.links 1 = 0)) = true := by
    rw [decide_eq_true hg1, decide_eq_true ((links_zero hT.1 1).2 hW.top)]; rfl
  have key : ∀ m, rightN T o true m = true := fun m => by
    induction m with
    | zero => rfl
    | succ m ih =>
      show (bif (T.at ((m : Int) + 1)).isSome then tailN T o ((m : Int) + 1) (T.ns.getD m nd0) (rightN T o true m && okE T (T.ns.getD m nd0).ents) else rightN T o true m) = true
      rw [ih, Bool.true_and]
      cases ha : (T.at ((m : Int) + 1)).isSome with
      | false => rfl
      | true =>
        rw [cond_true]
        obtain ⟨j, hj⟩ := Option.isSome_iff_exists.1 ha
        obtain rfl := at_m hT.1 j hj
        have hgm : T.get ((j : Int) + 1) = (T.ns.getD j nd0, true) := get_at hj
        have hn : (T.get ((j : Int) + 1)).1 = T.ns.getD j nd0 := by rw [hgm]
        have hE : okE T (T.ns.getD j nd0).ents = true := List.all_eq_true.2 fun e he => by
          rw [at_isSome]
          exact hW.kid ((j : Int) + 1) e (by unfold Ent; rw [hn]; exact he)
        rw [hE]
        unfold tailN
        split
        · rfl
        rename_i hi1
        split
        · rename_i hk
          have hk2 : (T.get ((j : Int) + 1)).1.kind = 2 := by rw [hn]; exact hk
          obtain ⟨d, e, he, hei⟩ := hW.has ((j : Int) + 1) (by simp) hk2 hi1
          have hl : T.links ((j : Int) + 1) = 1 := links_one hT he hei fun d' e' he' hei' => hW.one d' d e' e he' he (by rw [hei', hei]) (by rw [hei']; exact hk2)
          obtain ⟨k, hk24, hup⟩ := hW.reach hT hk2
          rw [hl, root_up 24 k _ hk24 hup]; rfl
        · rename_i hk
          have hk2 : (T.get ((j : Int) + 1)).1.kind ≠ 2 := by rw [hn]; exact hk
          rcases hW.opn ((j : Int) + 1) (by simp) (by rw [hgm]) hk2 with h | h
          · rw [decide_eq_true ((links_pos hT.1 _).2 h)]; rfl
          · rw [List.any_eq_true.2 ⟨_, h, by simp⟩]; simp
  unfold rightT
  rw [h0]; exact key _
def kX : Ca := ⟨18, [], [], 0, 0, []⟩
/-- A process leaves: it has nothing open any more. -/
theorem do_exit (T : Tab) {ps : List Pr} {p : Nat} (hp : p < ps.length) : (doF T ps (p : Nat) kX).1.err = 0 ∧ openL ((doF T ps (p : Nat) kX).2.2.take (p + 1)) = openL (ps.take p) := by
  have hg : ps.getD p pr0 = ps[p] := by rw [List.getD_eq_getElem?_getD, List.getElem?_eq_getElem hp]; rfl
  have e : doF T ps (p : Nat) kX = (tol 0, (shutN T ps p ps[p] 3).1, ps.set p (shutN T ps p ps[p] 3).2) := by
    unfold doF
    rw [if_pos ⟨by omega, by omega⟩, Int.toNat_natCast, hg]; rfl
  rw [e]
  refine ⟨rfl, ?_⟩
  have h1 := openL_succ (ps := ps.set p (shutN T ps p ps[p] 3).2) (i := p) (P := (shutN T ps p ps[p] 3).2) (by rw [List.length_set]; exact hp) (List.getElem_set_self _)
  show openL ((ps.set p (shutN T ps p ps[p] 3).2).take (p + 1)) = _
  rw [← h1]
  have h2 : prO (shutN T ps p ps[p] 3).2 3 = [] := List.eq_nil_iff_forall_not_mem.2 fun y hy => by
    obtain ⟨j, hj, hy1, hy2⟩ := prO_iff.1 hy
    rw [shutN_fd 3 (Nat.le_refl _) j hj] at hy1
    exact hy2 hy1.symm
  rw [h2, List.append_nil, List.take_set_of_le (Nat.le_refl _)]

theorem c7 (room : Int) (l : List Rw) (um : Int) (cs : List Cr) (acs : List At) (h : List Blk) (live : List Nat) (hh0 : h = []) (hn : l.length ≤ 9223372036854775807) (hcs : ∀ c ∈ cs, c.gs.length ≤ 17592186044416) (hcl : cs.length ≤ 17592186044416) (hal : acs.length ≤ 9223372036854775807) : ACalls Tryz.prog 7 [.int .i64 room, .slice (l.map rV) .none, .int .i64 um, .slice (cs.map crV) .none, .slice (acs.map atV) .none] h live (ret (.bool true) h live) := by
  refine ab_ Tryz.func7 (hw := fun hH hX => ?_)
  have sx := sx0
  refine rg_ [0, 1, 2, 3, 4] ?_
  refine rs_ [0, 1, 2, 3, 4, 11] ?_
  refine cl_ (hc := c8 _ _ hh0) (k := ?_)
  refine sg_ ?_
  refine re_ ?_
  refine sk_ fun K1 hK1 => ?_
  refine rg_ [0, 1, 2, 3, 4, 19] ?_
  refine cdn_ (ht := fun hb1 => ?_) (hf := fun hb1 => ?_)
  · exfalso; exact Bool.noConfusion hb1
  refine awp_skip (up_ ?_)
  refine hK1 _ ?_
  refine rs_ [3, 4, 12, 13] ?_
  refine sg_ ?_
  refine ck_ (k := ?_)
  refine (ACalls.hclK (c9 room l um cs _ _ hn hcs hcl)).mono ?_; rintro x0 H0 live ⟨hb0, hH0⟩; obtain ⟨rfl, p0, rfl, hp0⟩ := begun_el hb0
  refine sg_ ?_
  refine re_ ?_
  refine sk_ fun K2 hK2 => ?_
  refine rs_ [3, 4, 12, 35] ?_
  refine sg_ ?_
  refine cg_ (hc := fun hg => c10 acs cs _ _ hal hcs hcl) (k := ?_)
  refine sg_ ?_
  refine re_ ?_
  refine cdn_ (ht := fun hb2 => ?_) (hf := fun hb2 => ?_)
  · refine rg_ [10] ?_
    refine awp_ret (up_ ?_)
    refine fg_ (h1 := h) Tryz.results7 (hh := (⟨_, by rw [hh0]; exact (List.nil_append _).symm⟩)) (hK := ?_)
    exact ⟨rfl, rfl, rfl⟩
  obtain ⟨hb21, hb22⟩ := hb2
  obtain ⟨T, hTe⟩ := Option.isSome_iff_exists.1 hb21
  obtain ⟨hfa, hfc, hfl, hfn⟩ := fewF_ok hb22
  obtain ⟨n, rfl, hy0⟩ := hp0 T hTe hfc hfn
  have hnl := lt_of_get hy0.s
  have hw0 : TreeW T (openL (cs.map (pr1 um))) [] := by rw [openL_new]; exact built_treeW hTe
  refine awp_skip (up_ ?_)
  refine hK2 _ ?_
  refine sk_ fun K3 hK3 => ?_
  refine rg_ [3, 4, 12, 14] ?_
  refine awp_block ?_
  refine awp_loopG (X := {x : Nat × List Blk × Tab × List Pr // x.1 ≤ acs.length ∧ SysAt x.2.1 (n + 1) n (n + 3) x.2.2.1 x.2.2.2 ∧ x.2.2.2.length = cs.length ∧ HCl x.2.1 ∧ TreeW x.2.2.1 (openL x.2.2.2) []}) (fun x => ⟨Tryz.f7.ntmps, fget [(3, .slice (cs.map crV) .none), (4, .slice (acs.map atV) .none), (12, .ptr (n + 1) 0), (14, .int .i64 (x.1.1 : Nat))], x.1.2.1, live⟩) (fun x => acs.length - x.1.1) (⟨⟨0, H0, T, cs.map (pr1 um)⟩, Nat.zero_le _, hy0, List.length_map .., hH0, hw0⟩) ?_ (by first | rfl | (simp only [List.length_set]; done) | simp) (fun ⟨⟨i, H, T1, ps⟩, hi, hy, hpl, hHc, hw⟩ => ?_)
  · try dsimp only
    refine Trunc.of (by first | exact (List.append_nil _).symm | exact rfl | (rw [List.append_assoc]; rfl)) ?_ (by assumption) (fun _ h => h)
    refine FTr.cons (by first | rfl | ((simp (disch := omega) only [push_cast, ↓reduceIte, Nat.reduceEqDiff, Nat.reduceAdd, Nat.reduceLeDiff, sx]) <;> rfl)) (by first | exact trivial | exact clL_atV _ _ | exact clL_crV _ _ | exact clL_iV _ _ | (simp [AV.cl, AV.clL]; done) | (simp only [AV.cl]; omega)) ?_
    refine FTr.cons (by first | rfl | ((simp (disch := omega) only [push_cast, ↓reduceIte, Nat.reduceEqDiff, Nat.reduceAdd, Nat.reduceLeDiff, sx]) <;> rfl)) (by first | exact trivial | exact clL_atV _ _ | exact clL_crV _ _ | exact clL_iV _ _ | (simp [AV.cl, AV.clL]; done) | (simp only [AV.cl]; omega)) ?_
    refine FTr.cons (by first | rfl | ((simp (disch := omega) only [push_cast, ↓reduceIte, Nat.reduceEqDiff, Nat.reduceAdd, Nat.reduceLeDiff, sx]) <;> rfl)) (by first | exact trivial | exact clL_atV _ _ | exact clL_crV _ _ | exact clL_iV _ _ | (simp [AV.cl, AV.clL]; done) | (simp only [AV.cl]; omega)) ?_
    refine FTr.cons (by first | rfl | ((simp (disch := omega) only [push_cast, ↓reduceIte, Nat.reduceEqDiff, Nat.reduceAdd, Nat.reduceLeDiff, sx]) <;> rfl)) (by first | exact trivial | exact clL_atV _ _ | exact clL_crV _ _ | exact clL_iV _ _ | (simp [AV.cl, AV.clL]; done) | (simp only [AV.cl]; omega)) ?_
    exact FTr.nil
  try dsimp only
  dsimp only at hi hy hpl hHc hw
  have hnl2 := lt_of_get hy.s
  refine sk_ fun K4 hK4 => ?_
  refine rg_ [3, 4, 12, 14, 39] ?_
  refine cdy_ (ht := fun hb3 => ?_) (hf := fun hb3 => ?_)
  rotate_left
  · refine awp_exit (up_ ?_)
    refine hK3 _ ?_
    refine sk_ fun K5 hK5 => ?_
    refine rg_ [3, 12, 15] ?_
    refine awp_block ?_
    refine awp_loopG (X := {x : Nat × List Blk × Tab × List Pr // x.1 ≤ cs.length ∧ SysAt x.2.1 (n + 1) n (n + 3) x.2.2.1 x.2.2.2 ∧ x.2.2.2.length = cs.length ∧ HCl x.2.1 ∧ TreeW x.2.2.1 (openL x.2.2.2) [] ∧ openL (x.2.2.2.take x.1) = []}) (fun x => ⟨Tryz.f7.ntmps, fget [(3, .slice (cs.map crV) .none), (12, .ptr (n + 1) 0), (15, .int .i64 (x.1.1 : Nat))], x.1.2.1, live⟩) (fun x => cs.length - x.1.1) (⟨⟨0, H, T1, ps⟩, Nat.zero_le _, hy, hpl, hHc, hw, rfl⟩) ?_ (by first | rfl | (simp only [List.length_set]; done) | simp) (fun ⟨⟨p, H3, T3, ps3⟩, hp, hy3, hpl3, hHc3, hw3, hop⟩ => ?_)
    · try dsimp only
      refine Trunc.of (by first | exact (List.append_nil _).symm | exact rfl | (rw [List.append_assoc]; rfl)) ?_ (by assumption) (fun _ h => h)
      refine FTr.cons (by first | rfl | ((simp (disch := omega) only [push_cast, ↓reduceIte, Nat.reduceEqDiff, Nat.reduceAdd, Nat.reduceLeDiff, sx]) <;> rfl)) (by first | exact trivial | exact clL_atV _ _ | exact clL_crV _ _ | exact clL_iV _ _ | (simp [AV.cl, AV.clL]; done) | (simp only [AV.cl]; omega)) ?_
      refine FTr.cons (by first | rfl | ((simp (disch := omega) only [push_cast, ↓reduceIte, Nat.reduceEqDiff, Nat.reduceAdd, Nat.reduceLeDiff, sx]) <;> rfl)) (by first | exact trivial | exact clL_atV _ _ | exact clL_crV _ _ | exact clL_iV _ _ | (simp [AV.cl, AV.clL]; done) | (simp only [AV.cl]; omega)) ?_
      refine FTr.cons (by first | rfl | ((simp (disch := omega) only [push_cast, ↓reduceIte, Nat.reduceEqDiff, Nat.reduceAdd, Nat.reduceLeDiff, sx]) <;> rfl)) (by first | exact trivial | exact clL_atV _ _ | exact clL_crV _ _ | exact clL_iV _ _ | (simp [AV.cl, AV.clL]; done) | (simp only [AV.cl]; omega)) ?_
      exact FTr.nil
    try dsimp only
    dsimp only at hp hy3 hpl3 hHc3 hw3 hop
    have hnl4 := lt_of_get hy3.s
    refine sk_ fun K6 hK6 => ?_
    refine rg_ [3, 12, 15, 63] ?_
    refine cd_ (ht := fun hb5 => ?_) (hf := fun hb5 => ?_)
    rotate_left
    · have hpe : p = ps3.length := by omega
      have hon : openL ps3 = [] := by rw [hpe, List.take_length] at hop; exact hop
      have hrt : rightT T3 [] = true := by rw [hon] at hw3; exact hw3.right ⟨hy3.ok, hy3.rt⟩
      have sx := And.intro hon (And.intro hrt sx)
      refine awp_exit (up_ ?_)
      refine hK5 _ ?_
      refine rs_ [10] ?_
      refine sg_ ?_
      refine cl_ (hc := c20 _ _ _ _ _ _ _ hy3) (k := ?_)
      refine sg_ ?_
      refine cl_ (hc := c14 _ _ _ _ _ _ _ hy3) (k := ?_)
      refine cl_ (hc := c26 T3 _ [] .full _ _ (by simp only [push_cast]) hy3.ok hw3.at1 (by simp)) (k := ?_)
      refine sg_ ?_
      refine re_ ?_
      refine awp_ret (up_ ?_)
      refine fg_ (h1 := h) Tryz.results7 (hh := (⟨_, by rw [hh0]; exact (List.nil_append _).symm⟩)) (hK := ?_)
      exact ⟨rfl, rfl, rfl⟩
    have hpl2 : p < cs.length := by omega
    obtain ⟨d, hd⟩ : ∃ d, doF T3 ps3 (p : Nat) kX = d := ⟨_, rfl⟩
    have hdl : d.2.2.length = ps3.length := by rw [← hd]; exact doF_len _ _ _ _
    obtain ⟨he, hop2⟩ := do_exit T3 (ps := ps3) (p := p) (by omega)
    rw [hd] at he hop2
    rw [hop] at hop2
    have hw2 : TreeW d.2.1 (openL d.2.2) [] := by rw [← hd]; exact doF_tree ⟨hy3.ok, hy3.rt⟩ hw3 _ _
    have sx := And.intro he sx
    refine awp_skip (up_ ?_)
    refine hK6 _ ?_
    refine sk_ fun K7 hK7 => ?_
    refine awp_block ?_
    refine rs_ [3, 12, 15, 16] ?_
    refine sg_ ?_
    refine ck_ (k := ?_)
    refine erx_ (ys := [.ptr (n + 1) 0, .int .i64 (p : Nat), .agg (caC kX)]) (by simp only [List.map_cons, List.map_nil, AV.er, AV.erL] <;> rfl) ((kDo hy3 _ kX hd (by decide) (by decide) (by decide)).mono ?_); rintro _ H2 live ⟨⟨rfl, hy2, hl2, ho2, rfl⟩, hH2⟩; have hnl3 := lt_of_get hy2.s
    refine sg_ ?_
    refine re_ ?_
    refine rg_ [3, 12, 15, 72] ?_
    refine cb_ (ht := fun hb6 => ?_) (hf := fun hb6 => ?_)
    · exfalso; simp at hb6
    refine awp_skip (up_ ?_)
    refine hK7 _ ?_
    refine rt_ [3, 12, 15] ?_
    refine sg_ ?_
    refine rn_ (up_ ?_)
    refine ⟨⟨⟨p + 1, H2, d.2.1, d.2.2⟩, by dsimp only; omega, hy2, hdl.trans hpl3, hH2, hw2, hop2⟩, ?_, (by first | exact Nat.le_refl _ | (dsimp only; omega)), by dsimp only; omega⟩
    try dsimp only
    refine Trunc.of (by first | exact (List.append_nil _).symm | exact rfl | (rw [List.append_assoc]; rfl)) ?_ (by assumption) (fun _ h => h)
    refine FTr.cons (by (simp (disch := omega) only [push_cast, ↓reduceIte, Nat.reduceEqDiff, Nat.reduceAdd, Nat.reduceLeDiff, sx]) <;> first | rfl | (congr 2; omega)) (by first | exact trivial | exact clL_atV _ _ | exact clL_crV _ _ | exact clL_iV _ _ | (simp [AV.cl, AV.clL]; done) | (simp only [AV.cl]; omega)) ?_
    refine FTr.cons (by (simp (disch := omega) only [push_cast, ↓reduceIte, Nat.reduceEqDiff, Nat.reduceAdd, Nat.reduceLeDiff, sx]) <;> first | rfl | (congr 2; omega)) (by first | exact trivial | exact clL_atV _ _ | exact clL_crV _ _ | exact clL_iV _ _ | (simp [AV.cl, AV.clL]; done) | (simp only [AV.cl]; omega)) ?_
    refine FTr.cons (by (simp (disch := omega) only [push_cast, ↓reduceIte, Nat.reduceEqDiff, Nat.reduceAdd, Nat.reduceLeDiff, sx]) <;> first | rfl | (congr 2; omega)) (by first | exact trivial | exact clL_atV _ _ | exact clL_crV _ _ | exact clL_iV _ _ | (simp [AV.cl, AV.clL]; done) | (simp only [AV.cl]; omega)) ?_
    exact FTr.nil
  have hil : i < acs.length := by omega
  obtain ⟨hf1, hf2, hf3⟩ := hfa _ (getD_mem hil)
  obtain ⟨d, hd⟩ : ∃ d, doF T1 ps (acs.getD i at0).pid (acs.getD i at0).c = d := ⟨_, rfl⟩
  have hdl : d.2.2.length = ps.length := by rw [← hd]; exact doF_len _ _ _ _
  refine awp_skip (up_ ?_)
  refine hK4 _ ?_
  refine sk_ fun K8 hK8 => ?_
  refine awp_block ?_
  refine rsq_ [3, 4, 12, 14] ⟨false, [], [], [], [], [], 0⟩ (fun _ => ⟨by kernel_rfl, by kernel_rfl⟩) ?_
  refine sg_ ?_
  refine ck_ (k := ?_)
  refine (kDo hy _ _ hd (by omega) (by omega) (by omega)).mono ?_; rintro _ H2 live ⟨⟨rfl, hy2, hl2, ho2, rfl⟩, hH2⟩
  refine re_ ?_
  refine rs_ [3, 4, 12, 14, 59] ?_
  have hnl3 := lt_of_get hy2.s
  have hw2 : TreeW d.2.1 (openL d.2.2) [] := by rw [← hd]; exact doF_tree ⟨hy.ok, hy.rt⟩ hw _ _
  have hrt : rightT d.2.1 (openL d.2.2) = true := hw2.right ⟨hy2.ok, hy2.rt⟩
  have hol := openL_len d.2.2
  have sx := And.intro hrt (And.intro Bool.not_true sx)
  refine sg_ ?_
  refine cl_ (hc := c14 _ _ _ _ _ _ _ hy2) (k := ?_)
  refine sg_ ?_
  refine cl_ (hc := c20 _ _ _ _ _ _ _ hy2.app) (k := ?_)
  refine cl_ (hc := c26 d.2.1 _ (openL d.2.2) _ _ _ (by simp only [push_cast]) hy2.ok hw2.at1 (by have := hy2.few; omega)) (k := ?_)
  refine sg_ ?_
  refine re_ ?_
  refine cb_ (ht := fun hb4 => ?_) (hf := fun hb4 => ?_)
  · exfalso; simp at hb4
  refine awp_skip (up_ ?_)
  refine hK8 _ ?_
  refine rt_ [3, 4, 12, 14] ?_
  refine sg_ ?_
  refine rn_ (up_ ?_)
  refine ⟨⟨⟨i + 1, H2, d.2.1, d.2.2⟩, by dsimp only; omega, hy2, hdl.trans hpl, hH2, hw2⟩, ?_, (by first | exact Nat.le_refl _ | (dsimp only; omega)), by dsimp only; omega⟩
  try dsimp only
  refine Trunc.of (by first | exact (List.append_nil _).symm | exact rfl | (rw [List.append_assoc]; rfl)) ?_ (by assumption) (fun _ h => h)
  refine FTr.cons (by (simp (disch := omega) only [push_cast, ↓reduceIte, Nat.reduceEqDiff, Nat.reduceAdd, Nat.reduceLeDiff, sx]) <;> first | rfl | (congr 2; omega)) (by first | exact trivial | exact clL_atV _ _ | exact clL_crV _ _ | exact clL_iV _ _ | (simp [AV.cl, AV.clL]; done) | (simp only [AV.cl]; omega)) ?_
  refine FTr.cons (by (simp (disch := omega) only [push_cast, ↓reduceIte, Nat.reduceEqDiff, Nat.reduceAdd, Nat.reduceLeDiff, sx]) <;> first | rfl | (congr 2; omega)) (by first | exact trivial | exact clL_atV _ _ | exact clL_crV _ _ | exact clL_iV _ _ | (simp [AV.cl, AV.clL]; done) | (simp only [AV.cl]; omega)) ?_
  refine FTr.cons (by (simp (disch := omega) only [push_cast, ↓reduceIte, Nat.reduceEqDiff, Nat.reduceAdd, Nat.reduceLeDiff, sx]) <;> first | rfl | (congr 2; omega)) (by first | exact trivial | exact clL_atV _ _ | exact clL_crV _ _ | exact clL_iV _ _ | (simp [AV.cl, AV.clL]; done) | (simp only [AV.cl]; omega)) ?_
  refine FTr.cons (by (simp (disch := omega) only [push_cast, ↓reduceIte, Nat.reduceEqDiff, Nat.reduceAdd, Nat.reduceLeDiff, sx]) <;> first | rfl | (congr 2; omega)) (by first | exact trivial | exact clL_atV _ _ | exact clL_crV _ _ | exact clL_iV _ _ | (simp [AV.cl, AV.clL]; done) | (simp only [AV.cl]; omega)) ?_
  exact FTr.nil

end Go.Proofs.YtegffmibifodcaaGreat
