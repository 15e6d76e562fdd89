import Derived.Test.YtjoklidphbmpoaaGreatAb6
/-
  THE FRAMEWORK, 7: a region's rule; calls; where a function begins and ends; loops.
-/
namespace Go.Ab
set_option linter.unusedVariables false
set_option linter.unusedSimpArgs false
open Go.RowKit

section
variable {P : Program} {q : RQ}

theorem wpOps_of_dawp {ops : Array Oper} {Q : FT} {Qa : Exit → Act → World → Prop} {n : Nat} : ∀ (l : List Oper) (k : Nat), (∀ j, l[j]? = ops[k + j]?) → ∀ (S : AS) (w : World) (G : Gh) (a : Act), S.n = n → SRel w G a S →
    (∀ fr h live w' G' a', Q fr h live → SRel w' G' a' ⟨n, fr, h, live⟩ → Evo w G S.live w' G' live → Qa .normal a' w') →
    dawp P q (gdOf ops) n l S.fr S.h S.live Q → wpOps P ops Qa (List.range' k l.length) a w
  | [], k, _, S, w, G, a, hn, hs, hq, hd => by
    subst hn
    exact hq _ _ _ w G a hd hs (Evo.refl _ _ _)
  | o :: l, k, hj, S, w, G, a, hn, hs, hq, hd => by
    subst hn
    rw [List.length_cons, List.range'_succ, wpOps_cons]
    have ho : ops[k]? = some o := by simpa using (hj 0).symm
    refine dstep.wp hs ho hd.1 hd.2 fun x h' live' w' G' a' hk hs' hev => ?_
    exact wpOps_of_dawp l (k + 1) (fun j => by have := hj (j + 1); simpa [Nat.add_assoc, Nat.add_comm 1 j] using this) ⟨S.n, _, h', live'⟩ w' G' a' rfl hs' (fun fr h live w2 G2 a2 hQ hs2 hev2 => hq fr h live w2 G2 a2 hQ hs2 (hev.trans hev2)) hk

/-- An operation that always comes behind another one. -/
def ord (ops : Array Oper) : Nat → Nat → Nat → Bool
  | 0, _, _ => false
  | f + 1, j, i => match ops[i]? with
    | some o => o.after.any fun e => Region.binds .any e && (e.on == j || (decide (j < e.on) && ord ops f j e.on))
    | none => false

def okAll (q : RQ) (ops : Array Oper) : Bool :=
  (List.range ops.size).all fun i => match ops[i]? with
    | none => true
    | some o => (o.after.all fun e => !Region.binds .any e || decide (e.on < i)) && (List.range i).all fun j => (match ops[j]? with
      | some oj => okPair q ops oj o
      | none => true) || ord ops 5 j i

/-- What is listed is listed with all that comes ahead of it. -/
def Closed (ops : Array Oper) (listed : Array Bool) : Prop := ∀ i o, ops[i]? = some o → listed.getD i true = true → ∀ e ∈ o.after, Region.binds .any e = true → listed.getD e.on true = true

theorem ord_listed {ops : Array Oper} {listed : Array Bool} (hc : Closed ops listed) : ∀ (f j i : Nat) (o : Oper), ops[i]? = some o → (∀ e ∈ o.after, Region.binds .any e = true → listed.getD e.on true = true) → ord ops f j i = true → listed.getD j true = true
  | 0, j, i, o, _, _, h => by simp [ord] at h
  | f + 1, j, i, o, ho, hd, h => by
    unfold ord at h
    rw [ho] at h
    obtain ⟨e, he, hb⟩ := Array.any_eq_true'.1 h
    simp only [Bool.and_eq_true, Bool.or_eq_true, beq_iff_eq] at hb
    have hl := hd e he hb.1
    rcases hb.2 with e1 | ⟨_, h2⟩
    · rw [← e1]; exact hl
    · cases hoe : ops[e.on]? with
      | none => cases f with
        | zero => simp [ord] at h2
        | succ f => unfold ord at h2; rw [hoe] at h2; simp at h2
      | some oe => exact ord_listed hc f j e.on oe hoe (fun e2 he2 hb2 => hc e.on oe hoe hl e2 he2 hb2) h2

def rem (ops : Array Oper) (listed : Array Bool) : List Nat := (List.range ops.size).filter fun i => !listed.getD i true

theorem filterMap_split {α β : Type} (f : α → Option β) (s t : List α) (i : α) (y : β) (h : f i = some y) : (s ++ i :: t).filterMap f = s.filterMap f ++ y :: t.filterMap f := by
  simp [List.filterMap_append, List.filterMap_cons, h]

theorem wpAny_of_dawp {ops : Array Oper} {Q : FT} {Qa : Exit → Act → World → Prop} {n : Nat} (hok : okAll q ops = true) : ∀ (fuel : Nat) (listed : Array Bool) (S : AS) (w : World) (G : Gh) (a : Act), listed.size = ops.size → (rem ops listed).length = fuel → Closed ops listed → S.n = n → SRel w G a S →
    (∀ fr h live w' G' a', Q fr h live → SRel w' G' a' ⟨n, fr, h, live⟩ → Evo w G S.live w' G' live → Qa .normal a' w') →
    dawp P q (gdOf ops) n ((rem ops listed).filterMap (ops[·]?)) S.fr S.h S.live Q → wpAny P .any ops Qa fuel listed a w
  | 0, listed, S, w, G, a, hls, hl, hcl, hn, hs, hq, hd => by
    subst hn
    have hr : rem ops listed = [] := List.eq_nil_of_length_eq_zero hl
    rw [hr] at hd
    refine ⟨?_, hq _ _ _ w G a hd hs (Evo.refl _ _ _)⟩
    have : ∀ j, j ∉ Region.ready .any ops listed := fun j hj => by
      obtain ⟨h1, o, ho, _⟩ := mem_ready.1 hj
      have hjr : j ∈ rem ops listed := List.mem_filter.2 ⟨List.mem_range.2 (Array.getElem?_eq_some_iff.1 ho).1, by rw [h1]; rfl⟩
      rw [hr] at hjr; simp at hjr
    exact List.eq_nil_iff_forall_not_mem.2 this
  | fuel + 1, listed, S, w, G, a, hls, hl, hcl, hn, hs, hq, hd => by
    subst hn
    have hall := List.all_eq_true.1 hok
    constructor
    · -- something is ready
      intro hnil
      exfalso
      cases hr : rem ops listed with
      | nil => rw [hr] at hl; simp at hl
      | cons i t =>
        have hi : i ∈ rem ops listed := by rw [hr]; simp
        obtain ⟨hi1, hi2⟩ := List.mem_filter.1 hi
        have hil := List.mem_range.1 hi1
        have ho : ops[i]? = some ops[i] := Array.getElem?_eq_getElem hil
        have hA := hall i hi1
        rw [ho] at hA
        simp only [Bool.and_eq_true] at hA
        have hmin : ∀ j, j < i → listed.getD j true = true := fun j hj => by
          cases hb : listed.getD j true with
          | true => rfl
          | false =>
            have hjm : j ∈ rem ops listed := List.mem_filter.2 ⟨List.mem_range.2 (by omega), by rw [hb]; rfl⟩
            have hsorted : (rem ops listed).Pairwise (· < ·) := List.pairwise_lt_range.filter _
            rw [hr] at hjm hsorted
            rcases List.mem_cons.1 hjm with rfl | hjt
            · omega
            · have := (List.pairwise_cons.1 hsorted).1 j hjt; omega
        have : i ∈ Region.ready .any ops listed := mem_ready.2 ⟨by simpa using hi2, ops[i], ho, fun e he hbe => by
          have hlt0 := (Array.all_eq_true_iff_forall_mem.1 hA.1) e he
          rw [hbe] at hlt0
          have hlt : e.on < i := by simpa using hlt0
          have hmt := hmin e.on hlt
          have hsz : e.on < listed.size := by omega
          simpa [hsz] using hmt⟩
        rw [hnil] at this; simp at this
    · intro i hi
      obtain ⟨h1, o, ho, hdeps⟩ := mem_ready.1 hi
      have hil : i < ops.size := (Array.getElem?_eq_some_iff.1 ho).1
      have him : i ∈ rem ops listed := List.mem_filter.2 ⟨List.mem_range.2 hil, by rw [h1]; rfl⟩
      obtain ⟨s, t, hst⟩ := List.append_of_mem him
      have hsorted : (rem ops listed).Pairwise (· < ·) := List.pairwise_lt_range.filter _
      rw [hst] at hsorted hl
      have hs1 : ∀ j, j ∈ s → j < i := fun j hj => (List.pairwise_append.1 hsorted).2.2 j hj i (by simp)
      have ht1 : ∀ j, j ∈ t → i < j := fun j hj => (List.pairwise_cons.1 (List.pairwise_append.1 hsorted).2.1).1 j hj
      have hsrem : ∀ j, j ∈ s → j ∈ rem ops listed := fun j hj => by rw [hst]; simp [hj]
      rw [hst, filterMap_split (ops[·]?) s t i o ho] at hd
      have hA := hall i (List.mem_range.2 hil)
      rw [ho] at hA
      simp only [Bool.and_eq_true] at hA
      have hpairs : ∀ x ∈ s.filterMap (ops[·]?), okPair q ops x o = true := fun x hx => by
        obtain ⟨j, hj, hjx⟩ := List.mem_filterMap.1 hx
        have hB := (List.all_eq_true.1 hA.2) j (List.mem_range.2 (hs1 j hj))
        simp only [hjx] at hB
        simp only [Bool.or_eq_true] at hB
        rcases hB with hB | hB
        rotate_left
        · have hjs := ord_listed hcl 5 j i o ho (fun e he hb => by
            have := hdeps e he hb
            have hlt0 := (Array.all_eq_true_iff_forall_mem.1 hA.1) e he
            rw [hb] at hlt0
            have hlt : e.on < i := by simpa using hlt0
            have hsz : e.on < listed.size := by omega
            simpa [hsz] using this) hB
          have hj2 := (List.mem_filter.1 (hsrem j hj)).2
          rw [hjs] at hj2; simp at hj2
        · exact hB
      have hyd : dstOk S.n o.dst = true := by
        clear hq
        have : ∀ (l1 : List Oper) (fr : Nat → AV) (S : AS) (w : World) (G : Gh) (a : Act), SRel w G a S → dawp P q (gdOf ops) S.n (l1 ++ o :: t.filterMap (ops[·]?)) S.fr S.h S.live Q → dstOk S.n o.dst = true := by
          intro l1
          induction l1 with
          | nil => intro fr S w G a _ hd; exact hd.1
          | cons x l1 ih =>
            intro fr S w G a hs hd
            obtain ⟨u, h', live', w', G', a', k, hs'⟩ := dstep.some hs hd.1 hd.2
            exact ih fr ⟨S.n, upd S.fr x.dst u, h', live'⟩ w' G' a' hs' k
        exact this _ S.fr S w G a hs hd
      have hfr := take_front hs _ _ hpairs hyd hd
      have hrem : rem ops (listed.setIfInBounds i true) = s ++ t := by
        have e1 : rem ops (listed.setIfInBounds i true) = (rem ops listed).filter fun j => decide (j ≠ i) := by
          unfold rem
          rw [List.filter_filter]
          refine List.filter_congr fun j hj => ?_
          have hjl := List.mem_range.1 hj
          by_cases hji : j = i
          · subst hji
            have : j < listed.size := by omega
            simp [this]
          · rw [getD_set_ne true (Ne.symm hji)]; simp [hji]
        rw [e1, hst, List.filter_append, List.filter_cons]
        have e2 : s.filter (fun j => decide (j ≠ i)) = s := List.filter_eq_self.2 fun j hj => by have := hs1 j hj; simp; omega
        have e3 : t.filter (fun j => decide (j ≠ i)) = t := List.filter_eq_self.2 fun j hj => by have := ht1 j hj; simp; omega
        rw [e2, e3]; simp
      refine dstep.wp hs ho hyd hfr.2 fun x h' live' w' G' a' hk hs' hev => ?_
      have hcl' : Closed ops (listed.setIfInBounds i true) := by
        intro i2 o2 ho2 hl2 e he hb
        have hmono : ∀ m, listed.getD m true = true → (listed.setIfInBounds i true).getD m true = true := fun m hm => by
          by_cases hmi : i = m
          · subst hmi
            by_cases hms : i < listed.size <;> simp [hms]
          · rw [getD_set_ne true hmi]; exact hm
        by_cases h2 : i2 = i
        · subst h2
          rw [ho] at ho2; cases ho2
          have hlt0 := (Array.all_eq_true_iff_forall_mem.1 hA.1) e he
          rw [hb] at hlt0
          have hlt : e.on < i2 := by simpa using hlt0
          have hsz : e.on < listed.size := by omega
          exact hmono _ (by simpa [hsz] using hdeps e he hb)
        · rw [getD_set_ne true (Ne.symm h2)] at hl2
          exact hmono _ (hcl i2 o2 ho2 hl2 e he hb)
      refine wpAny_of_dawp hok fuel _ ⟨S.n, _, h', live'⟩ w' G' a' (by simpa using hls) (by rw [hrem]; simp at hl ⊢; omega) hcl' rfl hs' (fun fr h live w2 G2 a2 hQ hs2 hev2 => hq fr h live w2 G2 a2 hQ hs2 (hev.trans hev2)) ?_
      rw [hrem, List.filterMap_append]
      exact hk

/-- All pairs let one another by, or come one behind the other, but two neighbours; what stands behind these comes behind them. -/
def okTwo (q : RQ) (ops : Array Oper) (e0 : Nat) : Bool :=
  (List.range ops.size).all fun i => match ops[i]? with
    | none => true
    | some o => ((o.after.all fun e => !Region.binds .any e || decide (e.on < i)) && (List.range i).all fun j => (match ops[j]? with
      | some oj => okPair q ops oj o
      | none => true) || ord ops 5 j i || (decide (j = e0) && decide (i = e0 + 1))) && (decide (i ≤ e0 + 1) || ord ops 5 e0 i || ord ops 5 (e0 + 1) i)

theorem wpAnyX_of_dawp {ops : Array Oper} {Q : FT} {Qa : Exit → Act → World → Prop} {n : Nat} {e0 : Nat} (hok : okTwo q ops e0 = true) : ∀ (fuel : Nat) (listed : Array Bool) (S : AS) (w : World) (G : Gh) (a : Act), listed.size = ops.size → (rem ops listed).length = fuel → Closed ops listed → (listed.getD e0 true = true ∨ listed.getD (e0 + 1) true = true) → S.n = n → SRel w G a S →
    (∀ fr h live w' G' a', Q fr h live → SRel w' G' a' ⟨n, fr, h, live⟩ → Evo w G S.live w' G' live → Qa .normal a' w') →
    dawp P q (gdOf ops) n ((rem ops listed).filterMap (ops[·]?)) S.fr S.h S.live Q → wpAny P .any ops Qa fuel listed a w
  | 0, listed, S, w, G, a, hls, hl, hcl, hex, hn, hs, hq, hd => by
    subst hn
    have hr : rem ops listed = [] := List.eq_nil_of_length_eq_zero hl
    rw [hr] at hd
    refine ⟨?_, hq _ _ _ w G a hd hs (Evo.refl _ _ _)⟩
    have : ∀ j, j ∉ Region.ready .any ops listed := fun j hj => by
      obtain ⟨h1, o, ho, _⟩ := mem_ready.1 hj
      have hjr : j ∈ rem ops listed := List.mem_filter.2 ⟨List.mem_range.2 (Array.getElem?_eq_some_iff.1 ho).1, by rw [h1]; rfl⟩
      rw [hr] at hjr; simp at hjr
    exact List.eq_nil_iff_forall_not_mem.2 this
  | fuel + 1, listed, S, w, G, a, hls, hl, hcl, hex, hn, hs, hq, hd => by
    subst hn
    have hall := List.all_eq_true.1 hok
    constructor
    · -- something is ready
      intro hnil
      exfalso
      cases hr : rem ops listed with
      | nil => rw [hr] at hl; simp at hl
      | cons i t =>
        have hi : i ∈ rem ops listed := by rw [hr]; simp
        obtain ⟨hi1, hi2⟩ := List.mem_filter.1 hi
        have hil := List.mem_range.1 hi1
        have ho : ops[i]? = some ops[i] := Array.getElem?_eq_getElem hil
        have hA := hall i hi1
        rw [ho] at hA
        simp only [Bool.and_eq_true] at hA
        have hmin : ∀ j, j < i → listed.getD j true = true := fun j hj => by
          cases hb : listed.getD j true with
          | true => rfl
          | false =>
            have hjm : j ∈ rem ops listed := List.mem_filter.2 ⟨List.mem_range.2 (by omega), by rw [hb]; rfl⟩
            have hsorted : (rem ops listed).Pairwise (· < ·) := List.pairwise_lt_range.filter _
            rw [hr] at hjm hsorted
            rcases List.mem_cons.1 hjm with rfl | hjt
            · omega
            · have := (List.pairwise_cons.1 hsorted).1 j hjt; omega
        have : i ∈ Region.ready .any ops listed := mem_ready.2 ⟨by simpa using hi2, ops[i], ho, fun e he hbe => by
          have hlt0 := (Array.all_eq_true_iff_forall_mem.1 hA.1.1) e he
          rw [hbe] at hlt0
          have hlt : e.on < i := by simpa using hlt0
          have hmt := hmin e.on hlt
          have hsz : e.on < listed.size := by omega
          simpa [hsz] using hmt⟩
        rw [hnil] at this; simp at this
    · intro i hi
      obtain ⟨h1, o, ho, hdeps⟩ := mem_ready.1 hi
      have hil : i < ops.size := (Array.getElem?_eq_some_iff.1 ho).1
      have him : i ∈ rem ops listed := List.mem_filter.2 ⟨List.mem_range.2 hil, by rw [h1]; rfl⟩
      obtain ⟨s, t, hst⟩ := List.append_of_mem him
      have hsorted : (rem ops listed).Pairwise (· < ·) := List.pairwise_lt_range.filter _
      rw [hst] at hsorted hl
      have hs1 : ∀ j, j ∈ s → j < i := fun j hj => (List.pairwise_append.1 hsorted).2.2 j hj i (by simp)
      have ht1 : ∀ j, j ∈ t → i < j := fun j hj => (List.pairwise_cons.1 (List.pairwise_append.1 hsorted).2.1).1 j hj
      have hsrem : ∀ j, j ∈ s → j ∈ rem ops listed := fun j hj => by rw [hst]; simp [hj]
      rw [hst, filterMap_split (ops[·]?) s t i o ho] at hd
      have hA := hall i (List.mem_range.2 hil)
      rw [ho] at hA
      simp only [Bool.and_eq_true] at hA
      have hpairs : ∀ x ∈ s.filterMap (ops[·]?), okPair q ops x o = true := fun x hx => by
        obtain ⟨j, hj, hjx⟩ := List.mem_filterMap.1 hx
        have hB := (List.all_eq_true.1 hA.1.2) j (List.mem_range.2 (hs1 j hj))
        simp only [hjx] at hB
        simp only [Bool.or_eq_true] at hB
        rcases hB with (hB | hB) | hB
        rotate_left 2
        · exfalso
          simp only [Bool.and_eq_true, decide_eq_true_eq] at hB
          have hj2 := (List.mem_filter.1 (hsrem j hj)).2
          rw [hB.1] at hj2
          rw [hB.2] at h1
          rcases hex with hex | hex
          · rw [hex] at hj2; simp at hj2
          · rw [h1] at hex; exact Bool.noConfusion hex
        rotate_left
        · have hjs := ord_listed hcl 5 j i o ho (fun e he hb => by
            have := hdeps e he hb
            have hlt0 := (Array.all_eq_true_iff_forall_mem.1 hA.1.1) e he
            rw [hb] at hlt0
            have hlt : e.on < i := by simpa using hlt0
            have hsz : e.on < listed.size := by omega
            simpa [hsz] using this) hB
          have hj2 := (List.mem_filter.1 (hsrem j hj)).2
          rw [hjs] at hj2; simp at hj2
        · exact hB
      have hyd : dstOk S.n o.dst = true := by
        clear hq
        have : ∀ (l1 : List Oper) (fr : Nat → AV) (S : AS) (w : World) (G : Gh) (a : Act), SRel w G a S → dawp P q (gdOf ops) S.n (l1 ++ o :: t.filterMap (ops[·]?)) S.fr S.h S.live Q → dstOk S.n o.dst = true := by
          intro l1
          induction l1 with
          | nil => intro fr S w G a _ hd; exact hd.1
          | cons x l1 ih =>
            intro fr S w G a hs hd
            obtain ⟨u, h', live', w', G', a', k, hs'⟩ := dstep.some hs hd.1 hd.2
            exact ih fr ⟨S.n, upd S.fr x.dst u, h', live'⟩ w' G' a' hs' k
        exact this _ S.fr S w G a hs hd
      have hfr := take_front hs _ _ hpairs hyd hd
      have hrem : rem ops (listed.setIfInBounds i true) = s ++ t := by
        have e1 : rem ops (listed.setIfInBounds i true) = (rem ops listed).filter fun j => decide (j ≠ i) := by
          unfold rem
          rw [List.filter_filter]
          refine List.filter_congr fun j hj => ?_
          have hjl := List.mem_range.1 hj
          by_cases hji : j = i
          · subst hji
            have : j < listed.size := by omega
            simp [this]
          · rw [getD_set_ne true (Ne.symm hji)]; simp [hji]
        rw [e1, hst, List.filter_append, List.filter_cons]
        have e2 : s.filter (fun j => decide (j ≠ i)) = s := List.filter_eq_self.2 fun j hj => by have := hs1 j hj; simp; omega
        have e3 : t.filter (fun j => decide (j ≠ i)) = t := List.filter_eq_self.2 fun j hj => by have := ht1 j hj; simp; omega
        rw [e2, e3]; simp
      refine dstep.wp hs ho hyd hfr.2 fun x h' live' w' G' a' hk hs' hev => ?_
      have hmono : ∀ m, listed.getD m true = true → (listed.setIfInBounds i true).getD m true = true := fun m hm => by
        by_cases hmi : i = m
        · subst hmi
          by_cases hms : i < listed.size <;> simp [hms]
        · rw [getD_set_ne true hmi]; exact hm
      have hcl' : Closed ops (listed.setIfInBounds i true) := by
        intro i2 o2 ho2 hl2 e he hb
        by_cases h2 : i2 = i
        · subst h2
          rw [ho] at ho2; cases ho2
          have hlt0 := (Array.all_eq_true_iff_forall_mem.1 hA.1.1) e he
          rw [hb] at hlt0
          have hlt : e.on < i2 := by simpa using hlt0
          have hsz : e.on < listed.size := by omega
          exact hmono _ (by simpa [hsz] using hdeps e he hb)
        · rw [getD_set_ne true (Ne.symm h2)] at hl2
          exact hmono _ (hcl i2 o2 ho2 hl2 e he hb)
      refine wpAnyX_of_dawp hok fuel _ ⟨S.n, _, h', live'⟩ w' G' a' (by simpa using hls) (by rw [hrem]; simp at hl ⊢; omega) hcl' (hex.imp (hmono _) (hmono _)) rfl hs' (fun fr h live w2 G2 a2 hQ hs2 hev2 => hq fr h live w2 G2 a2 hQ hs2 (hev.trans hev2)) ?_
      rw [hrem, List.filterMap_append]
      exact hk

theorem dawp_app {gd : Nat → Option Tmp} {n : Nat} {Q : FT} : ∀ (l1 l2 : List Oper) (fr : Nat → AV) (h : List Blk) (live : List Nat), dawp P q gd n l1 fr h live (fun fr h live => dawp P q gd n l2 fr h live Q) → dawp P q gd n (l1 ++ l2) fr h live Q
  | [], l2, fr, h, live, hd => hd
  | o :: l1, l2, fr, h, live, hd => ⟨hd.1, hd.2.mono fun x h' l' k => dawp_app l1 l2 _ _ _ k⟩

theorem dstOk_of {ops : Array Oper} {Q : FT} {n : Nat} {o : Oper} {l2 : List Oper} : ∀ (l1 : List Oper) (S : AS) (w : World) (G : Gh) (a : Act), S.n = n → SRel w G a S → dawp P q (gdOf ops) n (l1 ++ o :: l2) S.fr S.h S.live Q → dstOk n o.dst = true
  | [], S, w, G, a, hn, hs, hd => hd.1
  | x :: l1, S, w, G, a, hn, hs, hd => by
    subst hn
    obtain ⟨u, h', live', w', G', a', k, hs'⟩ := dstep.some hs hd.1 hd.2
    exact dstOk_of l1 ⟨S.n, upd S.fr x.dst u, h', live'⟩ w' G' a' rfl hs' k

theorem rem_set {ops : Array Oper} {listed : Array Bool} (hls : listed.size = ops.size) {i : Nat} {s t : List Nat} (hst : rem ops listed = s ++ i :: t) : rem ops (listed.setIfInBounds i true) = s ++ t := by
  have hsorted : (rem ops listed).Pairwise (· < ·) := List.pairwise_lt_range.filter _
  rw [hst] at hsorted
  have hs1 : ∀ j, j ∈ s → j < i := fun j hj => (List.pairwise_append.1 hsorted).2.2 j hj i (by simp)
  have ht1 : ∀ j, j ∈ t → i < j := fun j hj => (List.pairwise_cons.1 (List.pairwise_append.1 hsorted).2.1).1 j hj
  have e1 : rem ops (listed.setIfInBounds i true) = (rem ops listed).filter fun j => decide (j ≠ i) := by
    unfold rem
    rw [List.filter_filter]
    refine List.filter_congr fun j hj => ?_
    have hjl := List.mem_range.1 hj
    by_cases hji : j = i
    · subst hji
      have : j < listed.size := by omega
      simp [this]
    · rw [getD_set_ne true (Ne.symm hji)]; simp [hji]
  rw [e1, hst, List.filter_append, List.filter_cons]
  have e2 : s.filter (fun j => decide (j ≠ i)) = s := List.filter_eq_self.2 fun j hj => by have := hs1 j hj; simp; omega
  have e3 : t.filter (fun j => decide (j ≠ i)) = t := List.filter_eq_self.2 fun j hj => by have := ht1 j hj; simp; omega
  rw [e2, e3]; simp

theorem set_mono {listed : Array Bool} {i : Nat} : ∀ m, listed.getD m true = true → (listed.setIfInBounds i true).getD m true = true := fun m hm => by
  by_cases hmi : i = m
  · subst hmi
    by_cases hms : i < listed.size <;> simp [hms]
  · rw [getD_set_ne true hmi]; exact hm

theorem closed_set {ops : Array Oper} {listed : Array Bool} (hcl : Closed ops listed) {i : Nat} {o : Oper} (ho : ops[i]? = some o) (hdl : ∀ e ∈ o.after, Region.binds .any e = true → listed.getD e.on true = true) : Closed ops (listed.setIfInBounds i true) := by
  intro i2 o2 ho2 hl2 e he hb
  by_cases h2 : i2 = i
  · subst h2
    rw [ho] at ho2; cases ho2
    exact set_mono _ (hdl e he hb)
  · rw [getD_set_ne true (Ne.symm h2)] at hl2
    exact set_mono _ (hcl i2 o2 ho2 hl2 e he hb)

theorem wpTwo_of_dawp {ops : Array Oper} {Q : FT} {Qa : Exit → Act → World → Prop} {n e0 : Nat} {x y : Oper} (hok : okTwo q ops e0 = true) (hx : ops[e0]? = some x) (hy : ops[e0 + 1]? = some y) (t2 : List Nat) (ht2 : ∀ j ∈ t2, e0 + 1 < j) : ∀ (fuel : Nat) (s1 : List Nat) (listed : Array Bool) (S : AS) (w : World) (G : Gh) (a : Act), listed.size = ops.size → (rem ops listed).length = fuel → rem ops listed = s1 ++ e0 :: (e0 + 1) :: t2 → Closed ops listed → S.n = n → SRel w G a S →
    (∀ fr h live w' G' a', Q fr h live → SRel w' G' a' ⟨n, fr, h, live⟩ → Evo w G S.live w' G' live → Qa .normal a' w') →
    dawp P q (gdOf ops) n (s1.filterMap (ops[·]?)) S.fr S.h S.live (fun fr h live => dawp P q (gdOf ops) n (x :: y :: t2.filterMap (ops[·]?)) fr h live Q ∧ dawp P q (gdOf ops) n (y :: x :: t2.filterMap (ops[·]?)) fr h live Q) → wpAny P .any ops Qa fuel listed a w
  | 0, s1, listed, S, w, G, a, hls, hl, hrem, hcl, hn, hs, hq, hd => by
    rw [hrem] at hl; simp at hl
  | fuel + 1, s1, listed, S, w, G, a, hls, hl, hrem, hcl, hn, hs, hq, hd => by
    subst hn
    have hall := List.all_eq_true.1 hok
    have hun : ∀ j, j ∈ rem ops listed → listed.getD j true = false := fun j hj => by
      have := (List.mem_filter.1 hj).2; simpa using this
    have hu0 : listed.getD e0 true = false := hun e0 (by rw [hrem]; simp)
    have hu1 : listed.getD (e0 + 1) true = false := hun (e0 + 1) (by rw [hrem]; simp)
    constructor
    · -- something is ready
      intro hnil
      exfalso
      cases hr : rem ops listed with
      | nil => rw [hr] at hl; simp at hl
      | cons i t =>
        have hi : i ∈ rem ops listed := by rw [hr]; simp
        obtain ⟨hi1, hi2⟩ := List.mem_filter.1 hi
        have hil := List.mem_range.1 hi1
        have ho : ops[i]? = some ops[i] := Array.getElem?_eq_getElem hil
        have hA := hall i hi1
        rw [ho] at hA
        simp only [Bool.and_eq_true] at hA
        have hmin : ∀ j, j < i → listed.getD j true = true := fun j hj => by
          cases hb : listed.getD j true with
          | true => rfl
          | false =>
            have hjm : j ∈ rem ops listed := List.mem_filter.2 ⟨List.mem_range.2 (by omega), by rw [hb]; rfl⟩
            have hsorted : (rem ops listed).Pairwise (· < ·) := List.pairwise_lt_range.filter _
            rw [hr] at hjm hsorted
            rcases List.mem_cons.1 hjm with rfl | hjt
            · omega
            · have := (List.pairwise_cons.1 hsorted).1 j hjt; omega
        have : i ∈ Region.ready .any ops listed := mem_ready.2 ⟨by simpa using hi2, ops[i], ho, fun e he hbe => by
          have hlt0 := (Array.all_eq_true_iff_forall_mem.1 hA.1.1) e he
          rw [hbe] at hlt0
          have hlt : e.on < i := by simpa using hlt0
          have hmt := hmin e.on hlt
          have hsz : e.on < listed.size := by omega
          simpa [hsz] using hmt⟩
        rw [hnil] at this; simp at this
    · intro i hi
      obtain ⟨h1, o, ho, hdeps⟩ := mem_ready.1 hi
      have hil : i < ops.size := (Array.getElem?_eq_some_iff.1 ho).1
      have him : i ∈ rem ops listed := List.mem_filter.2 ⟨List.mem_range.2 hil, by rw [h1]; rfl⟩
      have hsorted : (rem ops listed).Pairwise (· < ·) := List.pairwise_lt_range.filter _
      have hA := hall i (List.mem_range.2 hil)
      rw [ho] at hA
      simp only [Bool.and_eq_true] at hA
      have hdl : ∀ e ∈ o.after, Region.binds .any e = true → listed.getD e.on true = true := fun e he hb => by
        have := hdeps e he hb
        have hlt0 := (Array.all_eq_true_iff_forall_mem.1 hA.1.1) e he
        rw [hb] at hlt0
        have hlt : e.on < i := by simpa using hlt0
        have hsz : e.on < listed.size := by omega
        simpa [hsz] using this
      have hcl' := closed_set hcl ho hdl
      have hpairs : ∀ s : List Nat, (∀ j ∈ s, j ∈ rem ops listed ∧ j < i ∧ ¬ (j = e0 ∧ i = e0 + 1)) → ∀ z ∈ s.filterMap (ops[·]?), okPair q ops z o = true := fun s hsr z hz => by
        obtain ⟨j, hj, hjx⟩ := List.mem_filterMap.1 hz
        obtain ⟨hjr, hji, hne⟩ := hsr j hj
        have hB := (List.all_eq_true.1 hA.1.2) j (List.mem_range.2 hji)
        simp only [hjx] at hB
        simp only [Bool.or_eq_true] at hB
        rcases hB with (hB | hB) | hB
        · exact hB
        · have hjs := ord_listed hcl 5 j i o ho hdl hB
          rw [hun j hjr] at hjs; exact Bool.noConfusion hjs
        · simp only [Bool.and_eq_true, decide_eq_true_eq] at hB
          exact absurd hB hne
      have himo := him
      rw [hrem] at himo
      rcases List.mem_append.1 himo with h | h
      · -- ahead of both
        obtain ⟨s, t, hst⟩ := List.append_of_mem h
        have hrem2 : rem ops listed = s ++ i :: (t ++ e0 :: (e0 + 1) :: t2) := by rw [hrem, hst]; simp
        rw [hrem2] at hsorted
        have hs1 : ∀ j, j ∈ s → j < i := fun j hj => (List.pairwise_append.1 hsorted).2.2 j hj i (by simp)
        have hilt : i < e0 := (List.pairwise_cons.1 (List.pairwise_append.1 hsorted).2.1).1 e0 (by simp)
        rw [hst, filterMap_split (ops[·]?) s t i o ho] at hd
        have hyd := dstOk_of _ S w G a rfl hs hd
        have hfr := take_front hs _ _ (hpairs s fun j hj => ⟨by rw [hrem2]; simp [hj], hs1 j hj, by omega⟩) hyd hd
        refine dstep.wp hs ho hyd hfr.2 fun v h' live' w' G' a' hk hs' hev => ?_
        refine wpTwo_of_dawp hok hx hy t2 ht2 fuel (s ++ t) _ ⟨S.n, _, h', live'⟩ w' G' a' (by simpa using hls) (by rw [rem_set hls hrem2]; rw [hrem2] at hl; simp at hl ⊢; omega) (by rw [rem_set hls hrem2]; simp) hcl' rfl hs' (fun fr h live w2 G2 a2 hQ hs2 hev2 => hq fr h live w2 G2 a2 hQ hs2 (hev.trans hev2)) ?_
        rw [List.filterMap_append]
        exact hk
      · have hlt1 : ∀ j, j ∈ s1 → j < e0 := fun j hj => by
          rw [hrem] at hsorted
          exact (List.pairwise_append.1 hsorted).2.2 j hj e0 (by simp)
        rcases List.mem_cons.1 h with rfl | h
        · -- the first of both
          rw [ho] at hx; cases hx
          have hd1 := dawp_app _ _ _ _ _ (dawp.mono (fun _ _ _ k => k.1) _ _ _ _ hd)
          have hyd := dstOk_of _ S w G a rfl hs hd1
          have hfr := take_front hs _ _ (hpairs s1 fun j hj => ⟨by rw [hrem]; simp [hj], hlt1 j hj, by omega⟩) hyd hd1
          refine dstep.wp hs ho hyd hfr.2 fun v h' live' w' G' a' hk hs' hev => ?_
          refine wpAnyX_of_dawp hok fuel _ ⟨S.n, _, h', live'⟩ w' G' a' (by simpa using hls) (by rw [rem_set hls hrem]; rw [hrem] at hl; simp at hl ⊢; omega) hcl' (.inl (by simp [show i < listed.size by omega])) rfl hs' (fun fr h live w2 G2 a2 hQ hs2 hev2 => hq fr h live w2 G2 a2 hQ hs2 (hev.trans hev2)) ?_
          rw [rem_set hls hrem, filterMap_split (ops[·]?) s1 t2 (i + 1) y hy]
          exact hk
        · rcases List.mem_cons.1 h with rfl | h
          · -- the second of both
            rw [ho] at hy; cases hy
            have hd1 := dawp_app _ _ _ _ _ (dawp.mono (fun _ _ _ k => k.2) _ _ _ _ hd)
            have hyd := dstOk_of _ S w G a rfl hs hd1
            have hfr := take_front hs _ _ (hpairs s1 fun j hj => ⟨by rw [hrem]; simp [hj], by have := hlt1 j hj; omega, fun hh => by have := hlt1 j hj; omega⟩) hyd hd1
            have hrem2 : rem ops listed = (s1 ++ [e0]) ++ (e0 + 1) :: t2 := by rw [hrem]; simp
            refine dstep.wp hs ho hyd hfr.2 fun v h' live' w' G' a' hk hs' hev => ?_
            refine wpAnyX_of_dawp hok fuel _ ⟨S.n, _, h', live'⟩ w' G' a' (by simpa using hls) (by rw [rem_set hls hrem2]; rw [hrem2] at hl; simp at hl ⊢; omega) hcl' (.inr (by simp [show e0 + 1 < listed.size by omega])) rfl hs' (fun fr h live w2 G2 a2 hQ hs2 hev2 => hq fr h live w2 G2 a2 hQ hs2 (hev.trans hev2)) ?_
            rw [rem_set hls hrem2, show s1 ++ [e0] ++ t2 = s1 ++ e0 :: t2 by simp, filterMap_split (ops[·]?) s1 t2 e0 x hx]
            exact hk
          · -- behind both
            exfalso
            have := ht2 i h
            have hC := hA.2
            simp only [Bool.or_eq_true, decide_eq_true_eq] at hC
            rcases hC with (hC | hC) | hC
            · omega
            · have := ord_listed hcl 5 e0 i o ho hdl hC
              rw [hu0] at this; exact Bool.noConfusion this
            · have := ord_listed hcl 5 (e0 + 1) i o ho hdl hC
              rw [hu1] at this; exact Bool.noConfusion this

theorem range_get {α : Type} : ∀ (s l : List α), (List.range' s.length l.length).filterMap (fun j => (s ++ l)[j]?) = l
  | _, [] => rfl
  | s, x :: l => by
    have := range_get (s ++ [x]) l
    simp only [List.length_append, List.length_cons, List.length_nil, Nat.zero_add, List.append_assoc, List.cons_append, List.nil_append] at this
    rw [List.length_cons, List.range'_succ, List.filterMap_cons]
    simp [this]

theorem SRel.weakFr {w : World} {G : Gh} {a : Act} {S : AS} (hs : SRel w G a S) {fr1 : Nat → AV} (h : ∀ t, fr1 t = .undef ∨ fr1 t = S.fr t) : SRel w G a ⟨S.n, fr1, S.h, S.live⟩ :=
  ⟨hs.defers, hs.size, hs.heap, fun t => by
    show Rep w G (fr1 t) _
    rcases h t with e | e
    · rw [e]; exact .undef _
    · rw [e]; exact hs.fr t⟩

theorem SRel.drew {w : World} {G : Gh} {a : Act} {S : AS} (hs : SRel w G a S) : SRel { w with drawn := w.drawn + 1 } G a S ∧ Evo w G S.live { w with drawn := w.drawn + 1 } G S.live := by
  have hev : Evo w G S.live { w with drawn := w.drawn + 1 } G S.live := ⟨rfl, rfl, rfl, Nat.le_refl _, fun _ _ _ => rfl, fun _ _ _ => rfl, fun _ _ h => h, Ext.refl G⟩
  refine ⟨⟨hs.defers, hs.size, ?_, fun t => hev.rep (hs.fr t)⟩, hev⟩
  have hh := hs.heap
  exact ⟨hh.len, fun k x hx => BlkRep.mono (w := w) (w' := { w with drawn := w.drawn + 1 }) rfl hev.imm (Ext.refl G) (hh.blk k x hx), hh.blk_lt, hh.inj, hh.imm_lt, hh.imm_blk, hh.tok, hh.tok_ne⟩

theorem awp_region {id : Nat} {l : List Oper} {draw : Bool} {S : AS} {Q : Exit → AS → Prop} (q : RQ) (hok : draw = true → okAll q l.toArray = true ∧ P.follows .mixedOrders = true)
    (h : dawp P q (gdOf l.toArray) S.n l S.fr S.h S.live fun fr h live => ∃ fr1, (∀ t, fr1 t = .undef ∨ fr1 t = fr t) ∧ Q .normal ⟨S.n, fr1, h, live⟩) : AwpC P (.region id l.toArray draw) Q S := by
  intro w G a hs
  cases draw with
  | false =>
    refine wp_region ?_
    rw [List.range_eq_range']
    have := wpOps_of_dawp (P := P) (q := q) (ops := l.toArray) (Qa := Lq Q w G S.live) l 0 (by simp) S w G a rfl hs (fun fr h live w' G' a' hQ hs' hev => ?_) h
    · simpa using this
    · obtain ⟨fr1, hf, hq⟩ := hQ
      exact ⟨G', _, hq, hs'.weakFr hf, hev⟩
  | true =>
    obtain ⟨h1, h2⟩ := hok rfl
    refine wp_region_any h2 ?_
    obtain ⟨hs1, hev1⟩ := hs.drew
    have hlt : ∀ i, i < l.length → (Array.replicate l.toArray.size false).getD i true = false := fun i hi => by simp [hi]
    have hrem : rem l.toArray (Array.replicate l.toArray.size false) = List.range l.length := by
      unfold rem
      rw [List.filter_eq_self.2 fun i hi => by
        have := List.mem_range.1 hi
        rw [hlt i (by simpa using this)]; rfl]
      simp
    refine wpAny_of_dawp (P := P) (q := q) (n := S.n) h1 l.toArray.size _ S _ G a (by simp) (by rw [hrem]; simp) (fun i o ho hl => by
        have hi : i < l.length := by simpa using (Array.getElem?_eq_some_iff.1 ho).1
        rw [hlt i hi] at hl; exact Bool.noConfusion hl) rfl hs1 (fun fr h live w' G' a' hQ hs' hev => ?_) ?_ (Q := fun fr h live => ∃ fr1, (∀ t, fr1 t = .undef ∨ fr1 t = fr t) ∧ Q .normal ⟨S.n, fr1, h, live⟩)
    · obtain ⟨fr1, hf, hq⟩ := hQ
      exact ⟨G', _, hq, hs'.weakFr hf, hev1.trans hev⟩
    · rw [hrem]
      have : (List.range l.length).filterMap (l.toArray[·]?) = l := by
        have := range_get [] l
        simpa [List.range_eq_range'] using this
      rw [this]
      exact h

theorem filterMap_congr' {α β : Type} {f g : α → Option β} : ∀ {l : List α}, (∀ x ∈ l, f x = g x) → l.filterMap f = l.filterMap g
  | [], _ => rfl
  | a :: l, h => by
    rw [List.filterMap_cons, List.filterMap_cons, h a (by simp), filterMap_congr' fun x hx => h x (by simp [hx])]
/-- A region that draws, with two neighbours that come in no order. -/
theorem awp_region2 {id : Nat} {l1 l2 : List Oper} {x y : Oper} {S : AS} {Q : Exit → AS → Prop} (q : RQ) (hok : okTwo q (l1 ++ x :: y :: l2).toArray l1.length = true ∧ P.follows .mixedOrders = true)
    (h : dawp P q (gdOf (l1 ++ x :: y :: l2).toArray) S.n l1 S.fr S.h S.live fun fr h live =>
      dawp P q (gdOf (l1 ++ x :: y :: l2).toArray) S.n (x :: y :: l2) fr h live (fun fr h live => ∃ fr1, (∀ t, fr1 t = .undef ∨ fr1 t = fr t) ∧ Q .normal ⟨S.n, fr1, h, live⟩) ∧
      dawp P q (gdOf (l1 ++ x :: y :: l2).toArray) S.n (y :: x :: l2) fr h live (fun fr h live => ∃ fr1, (∀ t, fr1 t = .undef ∨ fr1 t = fr t) ∧ Q .normal ⟨S.n, fr1, h, live⟩)) : AwpC P (.region id (l1 ++ x :: y :: l2).toArray true) Q S := by
  intro w G a hs
  obtain ⟨h1, h2⟩ := hok
  refine wp_region_any h2 ?_
  obtain ⟨hs1, hev1⟩ := hs.drew
  generalize hl : l1 ++ x :: y :: l2 = l at *
  have hlt : ∀ i, i < l.length → (Array.replicate l.toArray.size false).getD i true = false := fun i hi => by simp [hi]
  have hlen : l.length = l1.length + (2 + l2.length) := by rw [← hl]; simp; omega
  have hrem : rem l.toArray (Array.replicate l.toArray.size false) = List.range l1.length ++ l1.length :: (l1.length + 1) :: List.range' (l1.length + 2) l2.length := by
    unfold rem
    rw [List.filter_eq_self.2 fun i hi => by
      have := List.mem_range.1 hi
      rw [hlt i (by simpa using this)]; rfl]
    rw [show l.toArray.size = l.length by simp, hlen, List.range_eq_range', List.range_eq_range', ← List.range'_append_1, Nat.zero_add, show 2 + l2.length = (l2.length + 1) + 1 by omega, List.range'_succ, List.range'_succ]
  have e1 : (List.range l1.length).filterMap (l.toArray[·]?) = l1 := by
    have := range_get [] l1
    rw [List.range_eq_range']
    refine Eq.trans (filterMap_congr' fun j hj => ?_) (by simpa using this)
    have hj' : j < l1.length := by simpa using (List.mem_range'_1.1 hj).2
    rw [← hl]
    simp [List.getElem?_append_left hj']
  have e2 : (List.range' (l1.length + 2) l2.length).filterMap (l.toArray[·]?) = l2 := by
    have := range_get (l1 ++ [x, y]) l2
    rw [show (l1 ++ [x, y]).length = l1.length + 2 by simp] at this
    rw [← hl]
    simpa using this
  refine wpTwo_of_dawp (P := P) (q := q) (n := S.n) (e0 := l1.length) (x := x) (y := y) h1 (by rw [← hl]; simp) (by rw [← hl]; simp) (List.range' (l1.length + 2) l2.length) (fun j hj => by have := (List.mem_range'_1.1 hj).1; omega) l.toArray.size (List.range l1.length) _ S _ G a (by simp) (by rw [hrem]; simp [hlen]; omega) hrem (fun i o ho hl2 => by
      have hi : i < l.length := by simpa using (Array.getElem?_eq_some_iff.1 ho).1
      rw [hlt i hi] at hl2; exact Bool.noConfusion hl2) rfl hs1 (fun fr h live w' G' a' hQ hs' hev => ?_) ?_ (Q := fun fr h live => ∃ fr1, (∀ t, fr1 t = .undef ∨ fr1 t = fr t) ∧ Q .normal ⟨S.n, fr1, h, live⟩)
  · obtain ⟨fr1, hf, hq⟩ := hQ
    exact ⟨G', _, hq, hs'.weakFr hf, hev1.trans hev⟩
  · rw [e1, e2]
    exact h

theorem reps_app {w : World} {G : Gh} {xs ys : List AV} {vs us : List Value} (hl : vs.length = xs.length) (h1 : ∀ i, i < xs.length → Rep w G (xs.getD i .undef) (vs.getD i undef))
    (h2 : ∀ i, i < ys.length → Rep w G (ys.getD i .undef) (us.getD i undef)) : ∀ i, i < (xs ++ ys).length → Rep w G ((xs ++ ys).getD i .undef) ((vs ++ us).getD i undef) := by
  intro i hi
  simp only [List.length_append] at hi
  rw [getD_append', getD_append', hl]
  by_cases h : i < xs.length
  · rw [if_pos h, if_pos h]; exact h1 i h
  · rw [if_neg h, if_neg h]; exact h2 _ (by omega)

/-! Calls. -/
def ACalls (P : Program) (f : FuncId) (xs : List AV) (h : List Blk) (live : List Nat) (K : KT) : Prop :=
  ∀ w G (vs : List Value), vs.length = xs.length → (∀ i, i < xs.length → Rep w G (xs.getD i .undef) (vs.getD i undef)) → HRel w G h live → AUpon P (Post w G live K) ((callFunc f vs.toArray).run P w)

theorem ACalls.mono {f : FuncId} {xs : List AV} {h : List Blk} {live : List Nat} {K K' : KT} (hk : ∀ x h l, K x h l → K' x h l) (hc : ACalls P f xs h live K) : ACalls P f xs h live K' :=
  fun w G vs hl hr hh => (hc w G vs hl hr hh).mono fun _ _ => Post.mono hk

theorem ACalls.er {f : FuncId} {xs : List AV} {h : List Blk} {live : List Nat} {K : KT} (hc : ACalls P f (xs.map AV.er) h live K) : ACalls P f xs h live K :=
  fun w G vs hl hr hh => hc w G vs (by simpa using hl) (fun i hi => by
    have hi' : i < xs.length := by simpa using hi
    have := (hr i hi').er
    simpa [List.getD_eq_getElem?_getD, hi'] using this) hh

theorem AOp.call {fr : Nat → AV} {h : List Blk} {live : List Nat} {o : Oper} {K : KT} (fo : Operand) (args : Array Operand) (ts : Array TypeId) (ho : o.op = .call { callee := .value fo, args := args, argTypes := ts })
    {f : FuncId} {first cap : List AV} (hf : ev fr fo = .fn (.func f) first cap) (hc : ACalls P f (first ++ args.toList.map (ev fr) ++ cap) h live K) : AOp P fr h live o K := by
  intro w G ρ hρ hr hh
  obtain ⟨dst, op, ty, pos, after, guard⟩ := o
  simp only at ho
  subst ho
  have h0 := hr fo (by simp [Op.operands, Call.operands])
  rw [hf] at h0
  generalize hv : ρ fo = v at h0
  cases h0
  rename_i vs us hl hrep hm hrep'
  have hargs := list_rep (w := w) (G := G) (fr := fr) (ρ := ρ) args.toList fun y hy => hr y (by simp [Op.operands, Call.operands]; exact .inr (by simpa using hy))
  have hrun : (execOp ρ ⟨dst, .call { callee := .value fo, args := args, argTypes := ts }, ty, pos, after, guard⟩).run P w = (callFunc f (vs ++ args.toList.map ρ ++ us).toArray).run P w := by
    have e : (vs.toArray ++ args.map ρ) ++ us.toArray = (vs ++ args.toList.map ρ ++ us).toArray := by
      obtain ⟨l⟩ := args
      simp
    simp only [execOp, resolve, hv, Deferred.ofValue, invoke, pure_bind, e]
  rw [hrun]
  refine hc w G _ (by simp [hl, hm]) ?_ hh
  exact reps_app (by simp [hl]) (reps_app hl hrep hargs) hrep'

end
end Go.Ab
