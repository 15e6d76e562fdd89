import Derived.Test.YtjoklidphbmpoaaGreatAb5b
import Derived.Orders
/-
  THE FRAMEWORK, 6: a region, in the order of its text; and in any order that its edges allow.
-/
namespace Go.Ab
set_option linter.unusedVariables false
set_option linter.unusedSimpArgs false
open Go.RowKit

inductive Kind where
  | p | r | w
  | f   -- a load that some stores of the region let by
  | g   -- such a store, or an alloc that is let by
  | s   -- a call that reads nothing but what stands below
  deriving DecidableEq

/-- How a region that draws is read: whether its calls turn no block; what stands while the stores 'G' (by their addresses' temporaries) are done, and the loads 'F' (by their own) that read nothing else. -/
structure RQ where
  b : Bool := false
  T : List (Nat × Nat × TK) := []
  F : List Tmp := []
  G : List Tmp := []
  A : List Tmp := []
  C : List Tmp := []
  N : Nat := 0

def isNilS : Operand → Bool
  | .const (.slice none 0 0) => true
  | _ => false

def kindOp (q : Bool) : Op → Kind
  | .binOp _ _ x y _ => if isNilS x || isNilS y then .w else .p
  | .load .. | .lookup .. => .r
  | .store .. | .alloc .. | .box .. | .mapUpdate .. | .insert .. | .makeMap .. | .makeSlice .. | .entryStore .. | .mapEntry .. | .range .. | .next .. | .entry .. | .ready .. | .waits ..
  | .go .. | .defer .. | .panic .. | .send .. | .recv .. | .select .. => .w
  | .call { callee := .builtin b, .. } => match b with
    | .len | .cap | .min | .max => .p
    | _ => .w
  | .call _ => if q then .r else .w
  | _ => .p

def fload (q : RQ) (o : Oper) : Bool :=
  match o.op, o.dst with
  | .load _ _, some t => q.F.contains t
  | _, _ => false

def gst (q : RQ) (o : Oper) : Bool :=
  match o.op with
  | .store _ (.tmp a) _ => q.G.contains a
  | .alloc _ => match o.dst with
    | some t => q.A.contains t
    | none => false
  | _ => false

def scall (q : RQ) (o : Oper) : Bool :=
  match o.op with
  | .call { callee := .value _, .. } => match o.dst with
    | some t => q.C.contains t
    | none => false
  | _ => false

def kindOf (q : RQ) (o : Oper) : Kind := if fload q o then .f else if gst q o then .g else if scall q o then .s else kindOp q.b o.op

/-- What a load reads of what stands. -/
def floadOf (P : Program) (T : List (Nat × Nat × TK)) (fr : Nat → AV) (h : List Blk) (o : Oper) : Option AV :=
  match o.op with
  | .load t a => match tk P t with
    | some k => match ev fr a with
      | .ptr b off => if (b, off, k) ∈ T then aload P t h (.ptr b off) else none
      | .eptr c off => aload P t h (.eptr c off)
      | _ => none
    | none => none
  | _ => none

def stab (P : Program) (T : List (Nat × Nat × TK)) (h h' : List Blk) : Prop := ∀ b off k t, (b, off, k) ∈ T → tk P t = some k → aload P t h' (.ptr b off) = aload P t h (.ptr b off)
def stN (N : Nat) (h h' : List Blk) : Prop := ∀ k, k < N → h'[k]? = h[k]?
/-- What stands. -/
def St (P : Program) (q : RQ) (h h' : List Blk) : Prop := stab P q.T h h' ∧ stN q.N h h'
theorem stN.trans {N : Nat} {h h' h'' : List Blk} (a : stN N h h') (b : stN N h' h'') : stN N h h'' := fun k hk => (b k hk).trans (a k hk)
theorem stab.refl {P : Program} {T : List (Nat × Nat × TK)} (h : List Blk) : stab P T h h := fun _ _ _ _ _ _ => rfl

theorem St.refl {P : Program} {q : RQ} (h : List Blk) : St P q h h := ⟨stab.refl h, fun _ _ => rfl⟩
theorem floadOf_stab {P : Program} {T : List (Nat × Nat × TK)} {fr : Nat → AV} {h h' : List Blk} {o : Oper} (hs : stab P T h h') : floadOf P T fr h' o = floadOf P T fr h o := by
  unfold floadOf
  split
  · rename_i t a _
    split
    · rename_i k hk
      split
      · rename_i b off _
        split
        · exact hs b off k t (by assumption) hk
        · rfl
      · rename_i c off _
        unfold aload
        rw [hk]
      · rfl
    · rfl
  · rfl

theorem floadOf_step {P : Program} {T : List (Nat × Nat × TK)} {fr : Nat → AV} {h : List Blk} {o : Oper} {x : AV} (hx : floadOf P T fr h o = some x) : astepH P fr h o = some (x, h) := by
  obtain ⟨dst, op, ty, pos, after, guard⟩ := o
  unfold floadOf at hx
  simp only [] at hx
  split at hx
  · rename_i t a
    simp only [astepH]
    split at hx
    · split at hx
      · rename_i b off hb
        split at hx
        · rw [hb, hx]
        · simp at hx
      · rename_i c off hb
        rw [hb, hx]
      · simp at hx
    · simp at hx
  · simp at hx

/-- What a guard's operation has left: 'some b': it has run, and is b; 'none': it was skipped. -/
def gval (fr : Nat → AV) (t : Option Tmp) : Option (Option Bool) :=
  match t with
  | none => some none
  | some t => match fr t with
    | .bool b => some (some b)
    | .tup [] => some none
    | _ => none

def dwant (gd : Nat → Option Tmp) (fr : Nat → AV) (o : Oper) : Option Bool :=
  match o.guard with
  | none => some true
  | some (j, want) => (gval fr (gd j)).map fun b => b == some want

def dstOk (n : Nat) (d : Option Tmp) : Bool := match d with
  | none => true
  | some t => decide (t < n)

def dop (P : Program) (q : RQ) (fr : Nat → AV) (h : List Blk) (live : List Nat) (o : Oper) (K : KT) : Prop :=
  match kindOf q o with
  | .p => ∃ x, astepP P fr o = some x ∧ K x h live
  | .r => ∃ x, AOp P fr h live o (ret x h live) ∧ K x h live
  | .w => AOp P fr h live o K
  | .f => ∃ x, floadOf P q.T fr h o = some x ∧ K x h live
  | .g => AOp P fr h live o fun x h' l' => St P q h h' ∧ K x h' l'
  | .s => ∃ x, (∀ h' l', stN q.N h h' → AOp P fr h' l' o (ret x h' l')) ∧ K x h live

def dstep (P : Program) (q : RQ) (gd : Nat → Option Tmp) (fr : Nat → AV) (h : List Blk) (live : List Nat) (o : Oper) (K : KT) : Prop :=
  match dwant gd fr o with
  | some true => dop P q fr h live o K
  | some false => K (.tup []) h live
  | none => False

abbrev FT := (Nat → AV) → List Blk → List Nat → Prop

def dawp (P : Program) (q : RQ) (gd : Nat → Option Tmp) (n : Nat) : List Oper → (Nat → AV) → List Blk → List Nat → FT → Prop
  | [], fr, h, live, Q => Q fr h live
  | o :: os, fr, h, live, Q => dstOk n o.dst = true ∧ dstep P q gd fr h live o fun x h' live' => dawp P q gd n os (upd fr o.dst x) h' live' Q

section
variable {P : Program} {q : RQ} {gd : Nat → Option Tmp} {n : Nat}

theorem dop.mono {fr : Nat → AV} {h : List Blk} {live : List Nat} {o : Oper} {K K' : KT} (hk : ∀ x h l, K x h l → K' x h l) (hd : dop P q fr h live o K) : dop P q fr h live o K' := by
  unfold dop at *
  split at hd
  · obtain ⟨x, h1, h2⟩ := hd; exact ⟨x, h1, hk _ _ _ h2⟩
  · obtain ⟨x, h1, h2⟩ := hd; exact ⟨x, h1, hk _ _ _ h2⟩
  · exact hd.mono hk
  · obtain ⟨x, h1, h2⟩ := hd; exact ⟨x, h1, hk _ _ _ h2⟩
  · exact hd.mono fun x h' l' k => ⟨k.1, hk _ _ _ k.2⟩
  · obtain ⟨x, h1, h2⟩ := hd; exact ⟨x, h1, hk _ _ _ h2⟩

theorem dstep.mono {fr : Nat → AV} {h : List Blk} {live : List Nat} {o : Oper} {K K' : KT} (hk : ∀ x h l, K x h l → K' x h l) (hd : dstep P q gd fr h live o K) : dstep P q gd fr h live o K' := by
  unfold dstep at *
  split at hd
  · exact dop.mono hk hd
  · exact hk _ _ _ hd
  · exact hd

theorem dawp.mono {Q Q' : FT} (hq : ∀ f h l, Q f h l → Q' f h l) : ∀ (os : List Oper) (fr : Nat → AV) (h : List Blk) (live : List Nat), dawp P q gd n os fr h live Q → dawp P q gd n os fr h live Q'
  | [], _, _, _, hd => hq _ _ _ hd
  | o :: os, _, _, _, hd => ⟨hd.1, dstep.mono (fun _ _ _ k => dawp.mono hq os _ _ _ k) hd.2⟩

theorem dop.toAOp {fr : Nat → AV} {h : List Blk} {live : List Nat} {o : Oper} {K : KT} (hd : dop P q fr h live o K) : AOp P fr h live o K := by
  unfold dop at hd
  split at hd
  · obtain ⟨x, h1, h2⟩ := hd; exact (astepP_sound h1 h live).mono fun y h' l' ⟨e1, e2, e3⟩ => by subst e1; subst e2; subst e3; exact h2
  · obtain ⟨x, h1, h2⟩ := hd; exact h1.mono fun y h' l' ⟨e1, e2, e3⟩ => by subst e1; subst e2; subst e3; exact h2
  · exact hd
  · obtain ⟨x, h1, h2⟩ := hd; exact (astepH_sound (floadOf_step h1)).mono fun y h' l' ⟨e1, e2, e3⟩ => by subst e1; subst e2; subst e3; exact h2
  · exact hd.mono fun _ _ _ k => k.2
  · obtain ⟨x, h1, h2⟩ := hd; exact (h1 h live (fun _ _ => rfl)).mono fun y h' l' ⟨e1, e2, e3⟩ => by subst e1; subst e2; subst e3; exact h2

theorem floadOf_congr {T : List (Nat × Nat × TK)} {fr fr' : Nat → AV} {h : List Blk} {o : Oper} (he : ∀ x ∈ o.op.operands, ev fr' x = ev fr x) : floadOf P T fr' h o = floadOf P T fr h o := by
  obtain ⟨dst, op, ty, pos, after, guard⟩ := o
  cases op <;> simp only [floadOf]
  rename_i t a
  rw [he a (by simp [Op.operands])]

theorem dop.congr {fr fr' : Nat → AV} {h : List Blk} {live : List Nat} {o : Oper} {K : KT} (he : ∀ x ∈ o.op.operands, ev fr' x = ev fr x) (hd : dop P q fr h live o K) : dop P q fr' h live o K := by
  unfold dop at *
  split at hd
  · obtain ⟨x, h1, h2⟩ := hd; exact ⟨x, by rw [astepP_congr he]; exact h1, h2⟩
  · obtain ⟨x, h1, h2⟩ := hd; exact ⟨x, h1.congr he, h2⟩
  · exact hd.congr he
  · obtain ⟨x, h1, h2⟩ := hd; exact ⟨x, by rw [floadOf_congr he]; exact h1, h2⟩
  · exact hd.congr he
  · obtain ⟨x, h1, h2⟩ := hd; exact ⟨x, fun h' l' hs => (h1 h' l' hs).congr he, h2⟩

def gdOf (ops : Array Oper) : Nat → Option Tmp := fun j => (ops[j]?).bind (·.dst)

theorem operand_looks {ops : Array Oper} {o : Oper} {t : Tmp} (h : (Operand.tmp t) ∈ o.op.operands) : t ∈ o.looksAt ops := by
  unfold Oper.looksAt
  refine List.mem_append.2 (.inl ?_)
  exact List.mem_filterMap.2 ⟨.tmp t, by simpa using h, rfl⟩

theorem ev_apart {ops : Array Oper} {d : Option Tmp} {y : Oper} (h : ∀ t, d = some t → t ∉ y.looksAt ops) {fr : Nat → AV} {v : AV} : ∀ z ∈ y.op.operands, ev (upd fr d v) z = ev fr z := by
  intro z hz
  refine ev_upd fun t ht he => ?_
  subst he
  exact h t ht (operand_looks hz)

theorem dwant_apart {ops : Array Oper} {d : Option Tmp} {y : Oper} (h : ∀ t, d = some t → t ∉ y.looksAt ops) {fr : Nat → AV} {v : AV} : dwant (gdOf ops) (upd fr d v) y = dwant (gdOf ops) fr y := by
  unfold dwant
  cases hg : y.guard with
  | none => rfl
  | some g =>
    obtain ⟨j, want⟩ := g
    simp only []
    congr 1
    unfold gval
    cases hj : gdOf ops j with
    | none => rfl
    | some t =>
      have ht : t ∈ y.looksAt ops := by
        unfold Oper.looksAt
        refine List.mem_append.2 (.inr ?_)
        simp only [hg]
        simpa [gdOf] using hj
      have : upd fr d v t = fr t := by
        simp only [upd]; rw [if_neg]; intro e; exact h t e ht
      simp only [this]

def okKinds : Kind → Kind → Bool
  | .p, _ | _, .p | .r, .r | .r, .f | .f, .r | .f, .f | .f, .g | .g, .f | .s, .s | .s, .r | .r, .s | .s, .f | .f, .s | .s, .g => true
  | _, _ => false

def okPair (q : RQ) (ops : Array Oper) (x y : Oper) : Bool :=
  x.apart ops y && okKinds (kindOf q x) (kindOf q y)

/-- 'y' gives a value by its operands alone and by what stands, or is skipped. -/
def pre (P : Program) (q : RQ) (gd : Nat → Option Tmp) (fr : Nat → AV) (h : List Blk) (y : Oper) : Option AV :=
  match dwant gd fr y with
  | some true => if kindOf q y = .p then astepP P fr y else if kindOf q y = .f then floadOf P q.T fr h y else none
  | some false => some (.tup [])
  | none => none

theorem pre_apart {ops : Array Oper} {d : Option Tmp} {y : Oper} (h : ∀ t, d = some t → t ∉ y.looksAt ops) {fr : Nat → AV} {v : AV} {hp : List Blk} : pre P q (gdOf ops) (upd fr d v) hp y = pre P q (gdOf ops) fr hp y := by
  unfold pre
  rw [dwant_apart h, astepP_congr (ev_apart h), floadOf_congr (ev_apart h)]

theorem pre_stab {y : Oper} {fr : Nat → AV} {h h' : List Blk} (hs : kindOf q y = .f → stab P q.T h h') : pre P q gd fr h' y = pre P q gd fr h y := by
  unfold pre
  split
  · split
    · rfl
    · split
      · exact floadOf_stab (hs (by assumption))
      · rfl
  · rfl
  · rfl

theorem dstep_pre {fr : Nat → AV} {h : List Blk} {live : List Nat} {y : Oper} {v : AV} {K : KT} (hp : pre P q gd fr h y = some v) : dstep P q gd fr h live y K ↔ K v h live := by
  unfold pre at hp
  unfold dstep
  split at hp
  · rename_i hw
    split at hp
    · rename_i hk
      simp only [dop, hk]
      constructor
      · rintro ⟨x, hx, k⟩
        rw [hp] at hx; cases hx; exact k
      · exact fun k => ⟨v, hp, k⟩
    · split at hp
      · rename_i hk
        simp only [dop, hk]
        constructor
        · rintro ⟨x, hx, k⟩
          rw [hp] at hx; cases hx; exact k
        · exact fun k => ⟨v, hp, k⟩
      · simp at hp
  · cases hp
    exact Iff.rfl
  · simp at hp

theorem dstep_congr {ops : Array Oper} {d : Option Tmp} {y : Oper} (h : ∀ t, d = some t → t ∉ y.looksAt ops) {fr : Nat → AV} {v : AV} {hp : List Blk} {live : List Nat} {K : KT} :
    dstep P q (gdOf ops) (upd fr d v) hp live y K ↔ dstep P q (gdOf ops) fr hp live y K := by
  unfold dstep
  rw [dwant_apart h]
  constructor
  · intro k
    split at k
    · exact dop.congr (fun z hz => (ev_apart h z hz).symm) k
    · exact k
    · exact k
  · intro k
    split at k
    · exact dop.congr (ev_apart h) k
    · exact k
    · exact k

/-- What an operation that isn't of the kind 'w' leaves stands where it should. -/
theorem dstep.mono_stab {fr : Nat → AV} {h : List Blk} {live : List Nat} {o : Oper} {K K' : KT} (hw : kindOf q o ≠ .w) (hk : ∀ x h' l, St P q h h' → K x h' l → K' x h' l) (hd : dstep P q gd fr h live o K) : dstep P q gd fr h live o K' := by
  unfold dstep at *
  split at hd
  · unfold dop at *
    split at hd
    · obtain ⟨x, h1, h2⟩ := hd; exact ⟨x, h1, hk _ _ _ (St.refl h) h2⟩
    · obtain ⟨x, h1, h2⟩ := hd; exact ⟨x, h1, hk _ _ _ (St.refl h) h2⟩
    · exact absurd (by assumption) hw
    · obtain ⟨x, h1, h2⟩ := hd; exact ⟨x, h1, hk _ _ _ (St.refl h) h2⟩
    · exact hd.mono fun x h' l' k => ⟨k.1, hk _ _ _ k.1 k.2⟩
    · obtain ⟨x, h1, h2⟩ := hd; exact ⟨x, h1, hk _ _ _ (St.refl h) h2⟩
  · exact hk _ _ _ (St.refl h) hd
  · exact hd

/-- What gives a value by its operands alone may be taken first. -/
theorem hoist {ops : Array Oper} {Q : FT} {y : Oper} {v : AV} (hy : dstOk n y.dst = true) (l2 : List Oper) : ∀ (l1 : List Oper) (fr : Nat → AV) (h : List Blk) (live : List Nat), (∀ x ∈ l1, okPair q ops x y = true) →
    pre P q (gdOf ops) fr h y = some v → dawp P q (gdOf ops) n (l1 ++ y :: l2) fr h live Q → dawp P q (gdOf ops) n (l1 ++ l2) (upd fr y.dst v) h live Q
  | [], fr, h, live, _, hp, hd => (dstep_pre hp).1 hd.2
  | x :: l1, fr, h, live, hok, hp, hd => by
    have hx := hok x (by simp)
    unfold okPair at hx
    rw [Bool.and_eq_true] at hx
    obtain ⟨a1, a2, a3⟩ := Oper.apart_spec hx.1
    have go : ∀ u h' l', (kindOf q y = .f → stab P q.T h h') → dawp P q (gdOf ops) n (l1 ++ y :: l2) (upd fr x.dst u) h' l' Q → dawp P q (gdOf ops) n (l1 ++ l2) (upd (upd fr y.dst v) x.dst u) h' l' Q := by
      intro u h' l' hs k
      have := hoist hy l2 l1 (upd fr x.dst u) h' l' (fun z hz => hok z (by simp [hz])) (by rw [pre_apart a1, pre_stab hs]; exact hp) k
      rw [upd_comm fr y.dst x.dst v u (fun t h1 h2 => a2 t h2 h1)]
      exact this
    refine ⟨hd.1, (dstep_congr a3).2 ?_⟩
    by_cases hf : kindOf q y = .f
    · refine hd.2.mono_stab ?_ fun u h' l' hs k => go u h' l' (fun _ => hs.1) k
      intro e
      have := hx.2
      rw [e, hf] at this
      exact Bool.noConfusion this
    · exact hd.2.mono fun u h' l' k => go u h' l' (fun e => absurd e hf) k

/-- Behind what gives values by operands alone, or only reads, an operation may be taken first that they let by. -/
theorem front {ops : Array Oper} {Q : FT} {y : Oper} (l2 : List Oper) : ∀ (l1 : List Oper) (fr : Nat → AV) (h : List Blk) (live : List Nat), (∀ x ∈ l1, okPair q ops x y = true ∧ kindOf q y ≠ .p ∧ kindOf q y ≠ .f) →
    dawp P q (gdOf ops) n (l1 ++ y :: l2) fr h live Q → dawp P q (gdOf ops) n (y :: (l1 ++ l2)) fr h live Q
  | [], fr, h, live, _, hd => hd
  | x :: l1, fr, h, live, hok, hd => by
    obtain ⟨hx, hyp, hyf⟩ := hok x (by simp)
    unfold okPair at hx
    rw [Bool.and_eq_true] at hx
    obtain ⟨hap, hk⟩ := hx
    obtain ⟨a1, a2, a3⟩ := Oper.apart_spec hap
    have hx1 := hd.1
    have hx2 := hd.2
    -- x gives a value u without a turn of the blocks; and gives it wherever what it looks at stands
    have key : ∃ u, dawp P q (gdOf ops) n (l1 ++ y :: l2) (upd fr x.dst u) h live Q ∧
        ((∀ {h' : List Blk} {l' : List Nat} {K : KT}, K u h' l' → dstep P q (gdOf ops) fr h' l' x K) ∨
         ((kindOf q y = .r ∨ kindOf q y = .s) ∧ ∀ {K : KT}, K u h live → dstep P q (gdOf ops) fr h live x K) ∨
         (kindOf q y = .g ∧ ∀ {h' : List Blk} {l' : List Nat} {K : KT}, St P q h h' → K u h' l' → dstep P q (gdOf ops) fr h' l' x K)) := by
      unfold dstep at hx2
      cases hw : dwant (gdOf ops) fr x with
      | none => rw [hw] at hx2; exact hx2.elim
      | some b =>
        cases b with
        | false =>
          rw [hw] at hx2
          exact ⟨.tup [], hx2, .inl fun kk => by unfold dstep; rw [hw]; exact kk⟩
        | true =>
          rw [hw] at hx2
          simp only [] at hx2
          cases hkx : kindOf q x with
          | p =>
            simp only [dop, hkx] at hx2
            obtain ⟨u, hu, k⟩ := hx2
            exact ⟨u, k, .inl fun kk => by unfold dstep; rw [hw]; simp only [dop, hkx]; exact ⟨u, hu, kk⟩⟩
          | r =>
            have hyr : kindOf q y = .r ∨ kindOf q y = .s := by
              rw [hkx] at hk
              cases hky : kindOf q y <;> rw [hky] at hk hyp hyf <;> first | exact .inl rfl | exact .inr rfl | exact Bool.noConfusion hk | exact absurd rfl hyp | exact absurd rfl hyf
            simp only [dop, hkx] at hx2
            obtain ⟨u, hu, k⟩ := hx2
            exact ⟨u, k, .inr (.inl ⟨hyr, fun kk => by unfold dstep; rw [hw]; simp only [dop, hkx]; exact ⟨u, hu, kk⟩⟩)⟩
          | f =>
            simp only [dop, hkx] at hx2
            obtain ⟨u, hu, k⟩ := hx2
            rw [hkx] at hk
            cases hky : kindOf q y with
            | p => exact absurd hky hyp
            | f => exact absurd hky hyf
            | w => rw [hky] at hk; exact Bool.noConfusion hk
            | r => exact ⟨u, k, .inr (.inl ⟨.inl rfl, fun kk => by unfold dstep; rw [hw]; simp only [dop, hkx]; exact ⟨u, hu, kk⟩⟩)⟩
            | s => exact ⟨u, k, .inr (.inl ⟨.inr rfl, fun kk => by unfold dstep; rw [hw]; simp only [dop, hkx]; exact ⟨u, hu, kk⟩⟩)⟩
            | g => exact ⟨u, k, .inr (.inr ⟨rfl, fun hs kk => by unfold dstep; rw [hw]; simp only [dop, hkx]; exact ⟨u, by rw [floadOf_stab hs.1]; exact hu, kk⟩⟩)⟩
          | s =>
            simp only [dop, hkx] at hx2
            obtain ⟨u, hu, k⟩ := hx2
            rw [hkx] at hk
            cases hky : kindOf q y with
            | p => exact absurd hky hyp
            | f => exact absurd hky hyf
            | w => rw [hky] at hk; exact Bool.noConfusion hk
            | r => exact ⟨u, k, .inr (.inl ⟨.inl rfl, fun kk => by unfold dstep; rw [hw]; simp only [dop, hkx]; exact ⟨u, hu, kk⟩⟩)⟩
            | s => exact ⟨u, k, .inr (.inl ⟨.inr rfl, fun kk => by unfold dstep; rw [hw]; simp only [dop, hkx]; exact ⟨u, hu, kk⟩⟩)⟩
            | g => exact ⟨u, k, .inr (.inr ⟨rfl, fun hs kk => by unfold dstep; rw [hw]; simp only [dop, hkx]; exact ⟨u, fun h2 l2 hs2 => hu h2 l2 (hs.2.trans hs2), kk⟩⟩)⟩
          | w =>
            rw [hkx] at hk
            cases hky : kindOf q y <;> rw [hky] at hk hyp hyf <;> first | exact Bool.noConfusion hk | exact absurd rfl hyp | exact absurd rfl hyf
          | g =>
            rw [hkx] at hk
            cases hky : kindOf q y <;> rw [hky] at hk hyp hyf <;> first | exact Bool.noConfusion hk | exact absurd rfl hyp | exact absurd rfl hyf
    obtain ⟨u, hd', hkind⟩ := key
    have ih := front l2 l1 (upd fr x.dst u) h live (fun z hz => hok z (by simp [hz])) hd'
    refine ⟨ih.1, ?_⟩
    have ih2 := (dstep_congr (P := P) (q := q) (ops := ops) (d := x.dst) (y := y) (fr := fr) (v := u) (hp := h) (live := live) a1).1 ih.2
    have hyr : kindOf q y = .r ∨ kindOf q y = .s → ∀ {K K' : KT}, (∀ v, K v h live → K' v h live) → dstep P q (gdOf ops) fr h live y K → dstep P q (gdOf ops) fr h live y K' := by
      intro hr K K' hkk hs
      unfold dstep at *
      split at hs
      · rcases hr with hr | hr
        · simp only [dop, hr] at *
          obtain ⟨v, hv, k⟩ := hs
          exact ⟨v, hv, hkk v k⟩
        · simp only [dop, hr] at *
          obtain ⟨v, hv, k⟩ := hs
          exact ⟨v, hv, hkk v k⟩
      · exact hkk _ hs
      · exact hs
    rcases hkind with hs | ⟨hr, hs⟩ | ⟨hg, hs⟩
    · refine ih2.mono fun v h' l' k => ⟨hx1, (dstep_congr a3).2 (hs ?_)⟩
      rw [upd_comm fr y.dst x.dst v u (fun t h1 h2 => a2 t h2 h1)]
      exact k
    · refine hyr hr (fun v k => ⟨hx1, (dstep_congr a3).2 (hs ?_)⟩) ih2
      rw [upd_comm fr y.dst x.dst v u (fun t h1 h2 => a2 t h2 h1)]
      exact k
    · refine ih2.mono_stab (by rw [hg]; decide) fun v h' l' hst k => ⟨hx1, (dstep_congr a3).2 (hs hst ?_)⟩
      rw [upd_comm fr y.dst x.dst v u (fun t h1 h2 => a2 t h2 h1)]
      exact k

/-! In a world. -/
theorem AUpon.not_false {r : Result Next} (h : AUpon P (fun _ _ => False) r) : False := by
  cases r with
  | halt x w => exact h
  | ok nx w =>
    cases nx <;> simp only [AUpon] at h
    obtain ⟨e, w', fr, ⟨v, _, hf⟩, _⟩ := h []
    exact hf

theorem AUpon.exists {post : Value → World → Prop} {r : Result Next} (h : AUpon P post r) : ∃ v w, post v w := by
  apply Classical.byContradiction
  intro hn
  exact AUpon.not_false (h.mono fun v w hp => hn ⟨v, w, hp⟩)

theorem AOp.run {w : World} {G : Gh} {a : Act} {S : AS} {o : Oper} {K : KT} (hs : SRel w G a S) (ha : AOp P S.fr S.h S.live o K) : AUpon P (Post w G S.live K) ((execOp a.eval o).run P w) :=
  ha w G a.eval (fun _ => rfl) (fun x _ => hs.ev x) hs.heap

theorem dstOk_lt {d : Option Tmp} (h : dstOk n d = true) : ∀ t, d = some t → t < n := by
  intro t ht
  subst ht
  simpa [dstOk] using h

theorem gval_yields {w : World} {G : Gh} {a : Act} {S : AS} (hs : SRel w G a S) {ops : Array Oper} {j : Nat} {b : Option Bool} (h : gval S.fr (gdOf ops j) = some b) : yielded ops a.tmps j = b := by
  unfold gval at h
  unfold yielded
  cases hg : gdOf ops j with
  | none =>
    rw [hg] at h
    cases h
    have : (ops[j]?).bind (·.dst) = none := hg
    rw [this]
    rfl
  | some t =>
    rw [hg] at h
    simp only [] at h
    have hd : (ops[j]?).bind (·.dst) = some t := hg
    rw [hd]
    simp only [Option.bind_some]
    have hr := hs.fr t
    by_cases hlt : t < a.tmps.size
    · have e : a.tmps.getD t undef = a.tmps[t] := by simp [hlt]
      rw [e] at hr
      rw [Array.getElem?_eq_getElem hlt]
      split at h
      · rename_i b' hb
        cases h
        rw [hb] at hr
        generalize a.tmps[t] = v at hr
        cases hr; rfl
      · rename_i hb
        cases h
        rw [hb] at hr
        generalize a.tmps[t] = v at hr
        cases hr; rfl
      · simp at h
    · have e : a.tmps.getD t undef = undef := by simp [hlt]
      rw [e] at hr
      rw [Array.getElem?_eq_none (Nat.le_of_not_lt hlt)]
      split at h
      · rename_i b' hb
        rw [hb] at hr
        cases hr
      · cases h; rfl
      · simp at h

theorem dwant_wanted {w : World} {G : Gh} {a : Act} {S : AS} (hs : SRel w G a S) {ops : Array Oper} {o : Oper} {b : Bool} (h : dwant (gdOf ops) S.fr o = some b) : Region.wanted o (yielded ops a.tmps) = b := by
  unfold dwant at h
  unfold Region.wanted
  split at h
  · rename_i hg; rw [hg]; cases h; rfl
  · rename_i j want hg
    rw [hg]
    simp only [] at h ⊢
    cases hv : gval S.fr (gdOf ops j) with
    | none => rw [hv] at h; simp at h
    | some y =>
      rw [hv] at h
      simp only [Option.map_some, Option.some.injEq] at h
      rw [gval_yields hs hv]
      exact h

/-- One operation, in a world. -/
theorem dstep.wp {w : World} {G : Gh} {a : Act} {S : AS} (hs : SRel w G a S) {ops : Array Oper} {i : Nat} {o : Oper} (ho : ops[i]? = some o) (hd : dstOk S.n o.dst = true) {K : KT} (h : dstep P q (gdOf ops) S.fr S.h S.live o K)
    {Q : Exit → Act → World → Prop} {next : Act → World → Prop} (hn : ∀ x h' live' w' G' a', K x h' live' → SRel w' G' a' ⟨S.n, upd S.fr o.dst x, h', live'⟩ → Evo w G S.live w' G' live' → next a' w') : Go.wpOp P ops Q i next a w := by
  unfold Go.wpOp
  rw [ho]
  simp only []
  unfold dstep at h
  cases hw : dwant (gdOf ops) S.fr o with
  | none => rw [hw] at h; exact h.elim
  | some b =>
    rw [hw] at h
    have hwt := dwant_wanted hs hw
    rw [hwt]
    cases b with
    | false =>
      simp only [Bool.false_eq_true, if_false]
      exact hn _ _ _ w G _ h (hs.put (dstOk_lt hd) (.tup [] [] rfl (by simp)) hs.heap (Evo.refl _ _ _)) (Evo.refl _ _ _)
    | true =>
      simp only [if_true]
      refine .inl ?_
      have hr := (dop.toAOp h).run hs
      unfold Oper.wp
      generalize (execOp a.eval o).run P w = r at hr
      cases r with
      | halt x w' => exact hr.elim
      | ok nx w' =>
        cases nx <;> simp only [AUpon] at hr <;> first
          | exact hr.elim
          | skip
        · obtain ⟨x, h', live', G', k, hx, hh, he⟩ := hr
          exact hn _ _ _ w' G' _ k (hs.put (dstOk_lt hd) hx hh he) he
        · obtain ⟨x, h', live', G', k, hx, hh, he⟩ := hr
          exact hn _ _ _ w' G' _ k (hs.put (dstOk_lt hd) hx hh he) he
        · refine Calls.mono hr fun e w'' hpost => ?_
          obtain ⟨v, rfl, x, h', live', G', k, hx, hh, he⟩ := hpost
          exact hn _ _ _ w'' G' _ k (hs.put (dstOk_lt hd) hx hh he) he

/-- In a world an operation gives something. -/
theorem dstep.some {w : World} {G : Gh} {a : Act} {S : AS} (hs : SRel w G a S) {o : Oper} (hd : dstOk S.n o.dst = true) {K : KT} (h : dstep P q gd S.fr S.h S.live o K) :
    ∃ x h' live' w' G' a', K x h' live' ∧ SRel w' G' a' ⟨S.n, upd S.fr o.dst x, h', live'⟩ := by
  unfold dstep at h
  cases hw : dwant gd S.fr o with
  | none => rw [hw] at h; exact h.elim
  | some b =>
    rw [hw] at h
    cases b with
    | false => exact ⟨_, _, _, w, G, _, h, hs.put (dstOk_lt hd) (.tup [] [] rfl (by simp)) hs.heap (Evo.refl _ _ _)⟩
    | true =>
      obtain ⟨v, w', x, h', live', G', k, hx, hh, he⟩ := ((dop.toAOp h).run hs).exists
      exact ⟨x, h', live', w', G', _, k, hs.put (dstOk_lt hd) hx hh he⟩

theorem pre_some {w : World} {G : Gh} {a : Act} {ops : Array Oper} {Q : FT} {y : Oper} (l2 : List Oper) : ∀ (l1 : List Oper) (S : AS) (w : World) (G : Gh) (a : Act), SRel w G a S → (∀ x ∈ l1, okPair q ops x y = true) →
    dawp P q (gdOf ops) S.n (l1 ++ y :: l2) S.fr S.h S.live Q → (kindOf q y = .p ∨ kindOf q y = .f ∨ dwant (gdOf ops) S.fr y ≠ some true) → ∃ v, pre P q (gdOf ops) S.fr S.h y = some v
  | [], S, w, G, a, hs, _, hd, hk => by
    have h2 := hd.2
    unfold dstep at h2
    unfold pre
    cases hw : dwant (gdOf ops) S.fr y with
    | none => rw [hw] at h2; exact h2.elim
    | some b =>
      rw [hw] at h2
      cases b with
      | false => exact ⟨_, rfl⟩
      | true =>
        rcases hk with hkp | hkf | hn
        · simp only [dop, hkp] at h2
          obtain ⟨x, hx, _⟩ := h2
          exact ⟨x, by simp [hkp, hx]⟩
        · simp only [dop, hkf] at h2
          obtain ⟨x, hx, _⟩ := h2
          exact ⟨x, by simp [hkf, hx]⟩
        · exact absurd hw hn
  | x :: l1, S, w, G, a, hs, hok, hd, hk => by
    have hx := hok x (by simp)
    unfold okPair at hx
    rw [Bool.and_eq_true] at hx
    obtain ⟨a1, a2, a3⟩ := Oper.apart_spec hx.1
    have hd2 : dstep P q (gdOf ops) S.fr S.h S.live x fun u h' l' => (kindOf q y = .f → stab P q.T S.h h') ∧ dawp P q (gdOf ops) S.n (l1 ++ y :: l2) (upd S.fr x.dst u) h' l' Q := by
      by_cases hf : kindOf q y = .f
      · refine hd.2.mono_stab ?_ fun u h' l' hs k => ⟨fun _ => hs.1, k⟩
        intro e
        have := hx.2
        rw [e, hf] at this
        exact Bool.noConfusion this
      · exact hd.2.mono fun u h' l' k => ⟨fun e => absurd e hf, k⟩
    obtain ⟨u, h', live', w', G', a', ⟨hst, k⟩, hs'⟩ := dstep.some hs hd.1 hd2
    obtain ⟨v, hv⟩ := pre_some (w := w) (G := G) (a := a) l2 l1 ⟨S.n, upd S.fr x.dst u, h', live'⟩ w' G' a' hs' (fun z hz => hok z (by simp [hz])) k (hk.imp id (fun h => h.imp id (fun h => by rw [dwant_apart a1]; exact h)))
    exact ⟨v, by rw [← pre_apart a1, ← pre_stab hst]; exact hv⟩

/-- An operation that all ahead of it let by comes first. -/
theorem take_front {w : World} {G : Gh} {a : Act} {S : AS} (hs : SRel w G a S) {ops : Array Oper} {Q : FT} {y : Oper} (l1 l2 : List Oper) (hok : ∀ x ∈ l1, okPair q ops x y = true) (hy : dstOk S.n y.dst = true)
    (hd : dawp P q (gdOf ops) S.n (l1 ++ y :: l2) S.fr S.h S.live Q) : dawp P q (gdOf ops) S.n (y :: (l1 ++ l2)) S.fr S.h S.live Q := by
  by_cases hk : kindOf q y = .p ∨ kindOf q y = .f ∨ dwant (gdOf ops) S.fr y ≠ some true
  · obtain ⟨v, hv⟩ := pre_some (w := w) (G := G) (a := a) l2 l1 S w G a hs hok hd hk
    exact ⟨hy, (dstep_pre hv).2 (hoist hy l2 l1 S.fr S.h S.live hok hv hd)⟩
  · exact front l2 l1 S.fr S.h S.live (fun x hx => ⟨hok x hx, fun e => hk (.inl e), fun e => hk (.inr (.inl e))⟩) hd

end
end Go.Ab
