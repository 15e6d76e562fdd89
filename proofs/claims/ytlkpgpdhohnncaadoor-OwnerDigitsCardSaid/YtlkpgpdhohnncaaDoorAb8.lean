import Derived.Test.YtlkpgpdhohnncaaDoorAb7
/-
  THE FRAMEWORK, 8: where a function begins and ends; what is forgotten there; loops; frames as lists.
-/
namespace Go.Ab
set_option linter.unusedVariables false
set_option linter.unusedSimpArgs false
open Go.RowKit

def Blk.cl (n : Nat) : Blk → Prop
  | .cells c => AV.clL n c
  | .map es => ∀ p ∈ es, p.1.cl n ∧ p.2.cl n
  | .glb _ c _ => AV.clL n c
  | .siter _ _ => True
  | .miter k _ _ _ => k < n
  | .gone => True

/-- No block leads beyond the blocks. -/
def HCl (h : List Blk) : Prop := ∀ b ∈ h, b.cl h.length

theorem BlkRep.cl {w : World} {G : Gh} {x : Blk} {b : Nat} (h : BlkRep w G x b) : x.cl G.n := by
  cases x with
  | cells c =>
    obtain ⟨vs, e, _, _, h3⟩ := h
    exact (AV.clL_iff _ _).2 fun i hi => (h3 i hi).2.cl
  | map es =>
    obtain ⟨us, c, _, h2, _, h3⟩ := h
    intro p hp
    obtain ⟨i, hi, rfl⟩ := List.mem_iff_getElem.1 hp
    have := h3 i hi
    simp only [List.getD_eq_getElem?_getD, List.getElem?_eq_getElem hi, Option.getD_some] at this
    exact ⟨this.1.cl, this.2.cl⟩
  | glb g c ob =>
    obtain ⟨_, vs, e, fz, _, _, _, h3⟩ := h
    exact (AV.clL_iff _ _).2 fun i hi => (h3 i hi).2.cl
  | siter l pos => trivial
  | miter k since seen stepped => exact h.1
  | gone => trivial

theorem BlkRep.cut {w : World} {G : Gh} {m : Nat} {x : Blk} {b : Nat} (h : BlkRep w G x b) (hx : x.cl m) : BlkRep w (G.cut m) x b := by
  cases x with
  | cells c =>
    obtain ⟨vs, e, h1, h2, h3⟩ := h
    exact ⟨vs, e, h1, h2, fun i hi => ⟨(h3 i hi).1, (h3 i hi).2.cut ((AV.clL_iff _ _).1 hx i hi)⟩⟩
  | map es =>
    obtain ⟨us, c, h1, h2, h2', h3⟩ := h
    refine ⟨us, c, h1, h2, h2', fun i hi => ?_⟩
    have := hx (es.getD i (.undef, .undef)) (by rw [List.getD_eq_getElem?_getD, List.getElem?_eq_getElem hi]; exact List.getElem_mem hi)
    exact ⟨(h3 i hi).1.cut this.1, (h3 i hi).2.cut this.2⟩
  | glb g c ob =>
    obtain ⟨h0, vs, e, fz, ho, h1, h2, h3⟩ := h
    exact ⟨h0, vs, e, fz, ho, h1, h2, fun i hi => ⟨(h3 i hi).1, (h3 i hi).2.cut ((AV.clL_iff _ _).1 hx i hi)⟩⟩
  | siter l pos => exact h
  | miter k since seen stepped => exact ⟨hx, h.2⟩
  | gone => trivial

theorem HRel.hcl {w : World} {G : Gh} {h : List Blk} {live : List Nat} (hh : HRel w G h live) : HCl h := by
  intro b hb
  obtain ⟨i, hi, rfl⟩ := List.mem_iff_getElem.1 hb
  rw [hh.len]
  exact (hh.blk i _ (List.getElem?_eq_getElem hi)).cl

/-- Some blocks, and tokens, are forgotten. -/
theorem HRel.cut {w : World} {G : Gh} {h1 junk : List Blk} {live live1 : List Nat} (hh : HRel w G (h1 ++ junk) live) (hc : HCl h1) (hl : ∀ u ∈ live1, u ∈ live) : HRel w (G.cut h1.length) h1 live1 := by
  have hn : h1.length ≤ G.n := by rw [← hh.len]; simp
  refine ⟨rfl, fun k x hx => ?_, fun k hk => hh.blk_lt k (Nat.lt_of_lt_of_le hk hn), fun j k hj hk => hh.inj j k (Nat.lt_of_lt_of_le hj hn) (Nat.lt_of_lt_of_le hk hn), hh.imm_lt,
    fun b o k hb hk => hh.imm_blk b o k hb (Nat.lt_of_lt_of_le hk hn), fun t ht => ?_, fun t u d e ht hu => hh.tok_ne t u d e (hl t ht) (hl u hu)⟩
  · have hk : k < h1.length := (List.getElem?_eq_some_iff.1 hx).1
    have := hh.blk k x (by rw [List.getElem?_append_left hk]; exact hx)
    exact this.cut (hc x (List.mem_of_getElem? hx))
  · obtain ⟨d, hd, ⟨h1', h2, h3, h4, h5⟩⟩ := hh.tok t (hl t ht)
    exact ⟨d, hd, h1', h2, h3, h4, fun k hk => h5 k (Nat.lt_of_lt_of_le hk hn)⟩

theorem Evo.cut {w w' : World} {G G' : Gh} {live live' live1 : List Nat} {m : Nat} (h : Evo w G live w' G' live') (hm : G.n ≤ m) (hm' : m ≤ G'.n) (hl : ∀ u ∈ live1, u ∈ live') : Evo w G live w' (G'.cut m) live1 where
  os := h.os
  tape := h.tape
  output := h.output
  size := h.size
  imm := h.imm
  other := h.other
  own b hb ho := h.own b hb (by
    rcases ho with ⟨k, hk, e⟩ | ⟨t, d, ht, hd, e⟩
    · exact .inl ⟨k, Nat.lt_of_lt_of_le hk hm', e⟩
    · exact .inr ⟨t, d, hl t ht, hd, e⟩)
  ext := ⟨hm, h.ext.blk, h.ext.imm, h.ext.tok⟩

/-- A state that says less. -/
structure Trunc (S S1 : AS) : Prop where
  n : S1.n = S.n
  fr : ∀ t, S1.fr t = .undef ∨ ((S1.fr t = S.fr t ∨ S1.fr t = (S.fr t).er) ∧ (S1.fr t).cl S1.h.length)
  h : ∃ junk, S.h = S1.h ++ junk
  cl : HCl S1.h
  live : ∀ u, u ∈ S1.live → u ∈ S.live

theorem SRel.trunc {w w' : World} {G G' : Gh} {live : List Nat} {a : Act} {S S1 : AS} (hs : SRel w' G' a S) (ht : Trunc S S1) (hev : Evo w G live w' G' S.live) (hm : G.n ≤ S1.h.length) : SRel w' (G'.cut S1.h.length) a S1 ∧ Evo w G live w' (G'.cut S1.h.length) S1.live := by
  obtain ⟨junk, hj⟩ := ht.h
  have hh := hs.heap
  rw [hj] at hh
  refine ⟨⟨hs.defers, by rw [hs.size, ht.n], hh.cut ht.cl ht.live, fun t => ?_⟩, hev.cut hm (by rw [← hh.len]; simp) ht.live⟩
  rcases ht.fr t with e | ⟨e | e, hc⟩
  · rw [e]; exact .undef _
  · have := (hs.fr t)
    rw [← e] at this
    exact this.cut hc
  · have := (hs.fr t).er
    rw [← e] at this
    exact this.cut hc

section
variable {P : Program}

theorem awp_weak {c : Code} {Q : Exit → AS → Prop} {S S1 : AS} (ht : Trunc S S1) (hl : S1.h.length = S.h.length) (h : AwpC P c Q S1) : AwpC P c Q S := by
  intro w G a hs
  have hm : G.n ≤ S1.h.length := by rw [hl, hs.heap.len]; exact Nat.le_refl _
  obtain ⟨hs1, hev⟩ := hs.trunc ht (Evo.refl w G S.live) hm
  exact wp_mono (h w _ a hs1) fun _ _ _ q => q.step hev

/-- A loop whose rounds may leave more than the next one is told of. -/
theorem awp_loop' {c : Code} {Q : Exit → AS → Prop} {S : AS} {X : Type} (I : X → AS) (μ : X → Nat) (x : X) (h0 : Trunc S (I x)) (hl0 : (I x).h.length = S.h.length)
    (round : ∀ x, AwpC P c (thenQ (fun S' => ∃ y, Trunc S' (I y) ∧ (I y).h.length = (I x).h.length ∧ μ y < μ x) Q) (I x)) : AwpC P (.loop c) Q S := by
  refine awp_weak h0 hl0 ?_
  refine awp_loop I μ x rfl fun x => ?_
  intro w G a hs
  refine wp_mono (round x w G a hs) fun e a' w' q => ?_
  obtain ⟨G', S', q, hs', hev⟩ := q
  cases e with
  | normal =>
    obtain ⟨y, ht, hl, hμ⟩ := q
    obtain ⟨h1, h2⟩ := hs'.trunc ht hev (by rw [hl, hs.heap.len]; exact Nat.le_refl _)
    exact ⟨_, I y, ⟨y, rfl, hμ⟩, h1, h2⟩
  | _ => exact ⟨G', S', q, hs', hev⟩

/-! Frames as lists. -/
abbrev FL := List (Nat × AV)

def fget : FL → Nat → AV
  | [], _ => .undef
  | (k, v) :: r, t => if k = t then v else fget r t

def fput (fl : FL) (d : Option Tmp) (x : AV) : FL :=
  match d with
  | some t => (t, x) :: fl
  | none => fl

theorem fget_put (fl : FL) (d : Option Tmp) (x : AV) : upd (fget fl) d x = fget (fput fl d x) := by
  funext t
  cases d with
  | none => simp [upd, fput]
  | some d => simp [upd, fput, fget]

def fkeep (V : List Tmp) (fr : Nat → AV) : FL := V.map fun t => (t, fr t)

theorem fget_keep (fr : Nat → AV) : ∀ (V : List Tmp) (t : Nat), fget (fkeep V fr) t = .undef ∨ fget (fkeep V fr) t = fr t
  | [], t => .inl rfl
  | v :: V, t => by
    simp only [fkeep, List.map_cons, fget]
    split
    · rename_i e; subst e; exact .inr rfl
    · exact fget_keep fr V t

def fargs : List AV → Nat → FL
  | [], _ => []
  | x :: r, k => (k, x) :: fargs r (k + 1)

theorem fget_args : ∀ (xs : List AV) (k t : Nat), fget (fargs xs k) t = if k ≤ t then xs.getD (t - k) .undef else .undef
  | [], k, t => by simp [fargs, fget]
  | x :: r, k, t => by
    rw [fargs, fget, fget_args r (k + 1) t]
    by_cases h1 : k = t
    · subst h1; simp
    · rw [if_neg h1]
      by_cases h2 : k ≤ t
      · rw [if_pos h2, if_pos (by omega), show t - k = (t - (k + 1)) + 1 from by omega]; simp
      · rw [if_neg h2, if_neg (by omega)]

theorem awp_region_keep {id : Nat} {l : List Oper} {draw : Bool} {n : Nat} {fl : FL} {h : List Blk} {live : List Nat} {Q : Exit → AS → Prop} (V : List Tmp) (q : RQ) (hok : draw = true → okAll q l.toArray = true ∧ P.follows .mixedOrders = true)
    (hd : dawp P q (gdOf l.toArray) n l (fget fl) h live fun fr h live => Q .normal ⟨n, fget (fkeep V fr), h, live⟩) : AwpC P (.region id l.toArray draw) Q ⟨n, fget fl, h, live⟩ :=
  awp_region q hok (dawp.mono (fun fr h live hq => ⟨_, fget_keep fr V, hq⟩) l (fget fl) h live hd)

/-! The steps of a region, over a list's frame. -/
section steps
variable {q : RQ} {gd : Nat → Option Tmp} {n : Nat} {fl : FL} {h : List Blk} {live : List Nat} {Q : FT} {o : Oper} {os : List Oper}

theorem dawp_nil (hq : Q (fget fl) h live) : dawp P q gd n [] (fget fl) h live Q := hq

theorem kindOf_plain (hq : (fload q o || gst q o) = false) : kindOf q o = kindOp q.b o.op := by
  rw [Bool.or_eq_false_iff] at hq
  simp [kindOf, hq.1, hq.2]

theorem kindP_no {x : AV} (hx : astepP P (fget fl) o = some x) : (fload q o || gst q o) = false := by
  obtain ⟨dst, op, ty, pos, after, guard⟩ := o
  cases op <;> first
    | rfl
    | (simp [astepP] at hx; done)

theorem astepH_kind {x : AV} {h' : List Blk} (hx : astepH P (fget fl) h o = some (x, h')) (hq : (fload q o || gst q o) = false) : kindOf q o = .w ∨ (kindOf q o = .r ∧ h' = h) := by
  rw [kindOf_plain hq]
  clear hq
  obtain ⟨dst, op, ty, pos, after, guard⟩ := o
  cases op <;> simp only [astepH] at hx <;> first
    | exact .inl rfl
    | (simp at hx; done)
    | (split at hx
       · cases hx; exact .inr ⟨rfl, rfl⟩
       · simp at hx)

theorem dawp_p {x : AV} {t : Tmp} (hw : dwant gd (fget fl) o = some true) (hx : astepP P (fget fl) o = some x) (hd : o.dst = some t) (hn : decide (t < n) = true) (k : dawp P q gd n os (fget ((t, x) :: fl)) h live Q) : dawp P q gd n (o :: os) (fget fl) h live Q := by
  refine ⟨by rw [hd]; exact hn, ?_⟩
  unfold dstep
  rw [hw, hd]
  simp only [fget_put, fput]
  have hkp := kindOf_plain (kindP_no (q := q) hx)
  unfold dop
  rw [hkp]
  have hne : kindOp q.b o.op ≠ .f ∧ kindOp q.b o.op ≠ .g := by
    unfold kindOp; split <;> first | exact ⟨by decide, by decide⟩ | (split <;> exact ⟨by decide, by decide⟩)
  split
  · exact ⟨x, hx, k⟩
  · exact ⟨x, astepP_sound hx h live, k⟩
  rotate_left
  · exact absurd (by assumption) hne.1
  · exact absurd (by assumption) hne.2
  · exact (astepP_sound hx h live).mono fun y h' l' ⟨e1, e2, e3⟩ => by subst e1; subst e2; subst e3; exact k

theorem dawp_h' {x : AV} {h' : List Blk} (hw : dwant gd (fget fl) o = some true) (hx : astepH P (fget fl) h o = some (x, h')) (hd : dstOk n o.dst = true) (hq : (fload q o || gst q o) = false) (k : dawp P q gd n os (fget (fput fl o.dst x)) h' live Q) : dawp P q gd n (o :: os) (fget fl) h live Q := by
  refine ⟨hd, ?_⟩
  unfold dstep
  rw [hw]
  simp only [fget_put]
  have hs := astepH_sound (live := live) hx
  rcases astepH_kind (q := q) hx hq with hk | ⟨hk, e⟩
  · simp only [dop, hk]
    exact hs.mono fun y h2 l' ⟨e1, e2, e3⟩ => by subst e1; subst e2; subst e3; exact k
  · subst e
    simp only [dop, hk]
    exact ⟨x, hs, k⟩

theorem dawp_h {x : AV} {h' : List Blk} {t : Tmp} (hw : dwant gd (fget fl) o = some true) (hx : astepH P (fget fl) h o = some (x, h')) (hd : o.dst = some t) (hn : decide (t < n) = true) (k : dawp P q gd n os (fget ((t, x) :: fl)) h' live Q) (hq : (fload q o || gst q o) = false := by rfl) : dawp P q gd n (o :: os) (fget fl) h live Q :=
  dawp_h' hw hx (by rw [hd]; exact hn) hq (by rw [hd]; exact k)

theorem dawp_hn {x : AV} {h' : List Blk} (hw : dwant gd (fget fl) o = some true) (hx : astepH P (fget fl) h o = some (x, h')) (hd : o.dst = none) (k : dawp P q gd n os (fget fl) h' live Q) (hq : (fload q o || gst q o) = false := by rfl) : dawp P q gd n (o :: os) (fget fl) h live Q :=
  dawp_h' hw hx (by rw [hd]; rfl) hq (by rw [hd]; exact k)

/-- A load of what stands. -/
theorem dawp_f {x : AV} {t : Tmp} (hk : fload q o = true) (hw : dwant gd (fget fl) o = some true) (hx : floadOf P q.T (fget fl) h o = some x) (hd : o.dst = some t) (hn : decide (t < n) = true) (k : dawp P q gd n os (fget ((t, x) :: fl)) h live Q) : dawp P q gd n (o :: os) (fget fl) h live Q := by
  refine ⟨by rw [hd]; exact hn, ?_⟩
  unfold dstep
  rw [hw, hd]
  have hkf : kindOf q o = .f := by simp [kindOf, hk]
  simp only [dop, hkf, fget_put, fput]
  exact ⟨x, hx, k⟩

/-- A store that lets it stand. -/
theorem dawp_gs {x : AV} {h' : List Blk} (hk : (!fload q o && gst q o) = true) (hw : dwant gd (fget fl) o = some true) (hx : astepH P (fget fl) h o = some (x, h')) (hd : o.dst = none) (hs : stab P q.T h h') (k : dawp P q gd n os (fget fl) h' live Q) : dawp P q gd n (o :: os) (fget fl) h live Q := by
  refine ⟨by rw [hd]; rfl, ?_⟩
  unfold dstep
  rw [hw, hd]
  simp only [Bool.and_eq_true, Bool.not_eq_true'] at hk
  have hkg : kindOf q o = .g := by simp [kindOf, hk.1, hk.2]
  simp only [dop, hkg, fget_put, fput]
  exact (astepH_sound (live := live) hx).mono fun y h2 l' ⟨e1, e2, e3⟩ => by subst e1; subst e2; subst e3; exact ⟨hs, k⟩

theorem dawp_skip {t : Tmp} (hw : dwant gd (fget fl) o = some false) (hd : o.dst = some t) (hn : decide (t < n) = true) (k : dawp P q gd n os (fget ((t, .tup []) :: fl)) h live Q) : dawp P q gd n (o :: os) (fget fl) h live Q := by
  refine ⟨by rw [hd]; exact hn, ?_⟩
  unfold dstep
  rw [hw, hd]
  simp only [fget_put, fput]
  exact k

/-- An operation that may turn the blocks. -/
theorem dawp_w {t : Tmp} (hk : kindOf q o = .w) (hw : dwant gd (fget fl) o = some true) (hd : o.dst = some t) (hn : decide (t < n) = true) (k : AOp P (fget fl) h live o fun x h' live' => dawp P q gd n os (fget ((t, x) :: fl)) h' live' Q) : dawp P q gd n (o :: os) (fget fl) h live Q := by
  refine ⟨by rw [hd]; exact hn, ?_⟩
  unfold dstep
  rw [hw, hd]
  simp only [dop, hk, fget_put, fput]
  exact k

theorem dawp_wn (hk : kindOf q o = .w) (hw : dwant gd (fget fl) o = some true) (hd : o.dst = none) (k : AOp P (fget fl) h live o fun _ h' live' => dawp P q gd n os (fget fl) h' live' Q) : dawp P q gd n (o :: os) (fget fl) h live Q := by
  refine ⟨by rw [hd]; rfl, ?_⟩
  unfold dstep
  rw [hw, hd]
  simp only [dop, hk, fget_put, fput]
  exact k

/-- A call that turns no block, in a region in any order. -/
theorem dawp_r {x : AV} {t : Tmp} (hk : kindOf q o = .r) (hw : dwant gd (fget fl) o = some true) (hd : o.dst = some t) (hn : decide (t < n) = true) (hx : AOp P (fget fl) h live o (ret x h live)) (k : dawp P q gd n os (fget ((t, x) :: fl)) h live Q) : dawp P q gd n (o :: os) (fget fl) h live Q := by
  refine ⟨by rw [hd]; exact hn, ?_⟩
  unfold dstep
  rw [hw, hd]
  simp only [dop, hk, fget_put, fput]
  exact ⟨x, hx, k⟩

end steps

/-! Where a function begins and ends. -/
def aresult (P : Program) (S : AS) : ResultVar → Option AV
  | .tmp t => some (S.fr t)
  | .cell a t => aload P t S.h (S.fr a)

def aresults (P : Program) (S : AS) : List ResultVar → Option (List AV)
  | [] => some []
  | r :: rs => match aresult P S r, aresults P S rs with
    | some x, some xs => some (x :: xs)
    | _, _ => none

def atuple : List AV → AV
  | [x] => x
  | xs => .tup xs

theorem aresult_sound {w : World} {G : Gh} {a : Act} {S : AS} (hs : SRel w G a S) {g : ResultVar → Sem Value} (g1 : ∀ t, g (.tmp t) = pure (a.tmps.getD t undef)) (g2 : ∀ ad t, g (.cell ad t) = do loadVar t (← asAddr (a.tmps.getD ad undef)))
    {r : ResultVar} {x : AV} (hx : aresult P S r = some x) : ∃ v, (g r).run P w = .ok v w ∧ Rep w G x v := by
  cases r with
  | tmp t => cases hx; exact ⟨_, by rw [g1]; rfl, hs.fr t⟩
  | cell ad t =>
    obtain ⟨z, hz, hr⟩ := aload_sound (P := P) hs.heap (hs.fr ad) hx
    refine ⟨z, ?_, hr⟩
    have hx' := hx
    simp only [aresult] at hx'
    have hp : ∃ b, a.tmps.getD ad undef = .pointer (some b) := by
      have hr := hs.fr ad
      unfold aload at hx'
      split at hx'
      · split at hx'
        · rename_i b off e; rw [e] at hr; generalize a.tmps.getD ad undef = v at hr; cases hr; exact ⟨_, rfl⟩
        · rename_i c off e; rw [e] at hr; generalize a.tmps.getD ad undef = v at hr; cases hr; exact ⟨_, rfl⟩
        · rename_i g off e; rw [e] at hr; generalize a.tmps.getD ad undef = v at hr; cases hr; exact ⟨_, rfl⟩
        · simp at hx'
      · simp at hx'
    obtain ⟨b, hb⟩ := hp
    rw [g2, hb]
    rw [hb] at hz
    simpa [Instr.loadAt, Instr.sureAddr, asAddr] using hz

theorem aresults_sound {w : World} {G : Gh} {a : Act} {S : AS} (hs : SRel w G a S) {g : ResultVar → Sem Value} (g1 : ∀ t, g (.tmp t) = pure (a.tmps.getD t undef)) (g2 : ∀ ad t, g (.cell ad t) = do loadVar t (← asAddr (a.tmps.getD ad undef))) :
    ∀ {rs : List ResultVar} {xs : List AV}, aresults P S rs = some xs →
    ∃ vs : List Value, (rs.mapM (m := Sem) g).run P w = .ok vs w ∧ vs.length = xs.length ∧ ∀ i, i < xs.length → Rep w G (xs.getD i .undef) (vs.getD i undef)
  | [], xs, h => by
    cases h
    exact ⟨[], by simp, rfl, by simp⟩
  | r :: rs, xs, h => by
    unfold aresults at h
    split at h
    · rename_i x ys hx hys
      cases h
      obtain ⟨v, hv, hr⟩ := aresult_sound hs g1 g2 hx
      obtain ⟨vs, hvs, hl, hrs⟩ := aresults_sound hs g1 g2 hys
      refine ⟨v :: vs, ?_, by simp [hl], fun i hi => ?_⟩
      · rw [List.mapM_cons]
        simp only [Sem.run_bind, hv, Result.andThen_ok, hvs, Sem.run_pure]
      · cases i with
        | zero => simpa using hr
        | succ i => simpa using hrs i (by simpa using hi)
    · simp at h

theorem results_sound {w : World} {G : Gh} {a : Act} {S : AS} (hs : SRel w G a S) {fn : Func} {xs : List AV} (h : aresults P S fn.results.toList = some xs) : ∃ v, (results fn a.tmps).run P w = .ok v w ∧ Rep w G (atuple xs) v := by
  have hgen : ∀ g : ResultVar → Sem Value, (∀ t, g (.tmp t) = pure (a.tmps.getD t undef)) → (∀ ad t, g (.cell ad t) = do loadVar t (← asAddr (a.tmps.getD ad undef))) →
      ∃ vs : List Value, (do let us ← fn.results.mapM g; pure (if h : us.size = 1 then us[0] else .tuple us) : Sem Value).run P w = .ok (if h : vs.toArray.size = 1 then vs.toArray[0] else .tuple vs.toArray) w ∧ vs.length = xs.length ∧ ∀ i, i < xs.length → Rep w G (xs.getD i .undef) (vs.getD i undef) := by
    intro g g1 g2
    obtain ⟨vs, hvs, hl, hr⟩ := aresults_sound hs g1 g2 h
    refine ⟨vs, ?_, hl, hr⟩
    have e : fn.results = fn.results.toList.toArray := by simp
    rw [e, List.mapM_toArray]
    simp only [Sem.run_bind, Sem.run_map, hvs, Result.andThen_ok, Sem.run_pure]
  obtain ⟨vs, hrun, hl, hr⟩ := hgen (fun | .tmp t => pure (a.tmps.getD t undef) | .cell ad t => do loadVar t (← asAddr (a.tmps.getD ad undef))) (fun _ => rfl) (fun _ _ => rfl)
  change (results fn a.tmps).run P w = _ at hrun
  refine ⟨_, hrun, ?_⟩
  match xs, vs, hl, hr with
  | [], [], _, _ => exact .tup [] [] rfl (by simp)
  | [x], [v], _, hr => simpa [atuple] using hr 0 (by simp)
  | x :: y :: xs, v :: u :: vs, hl, hr =>
    have := Rep.tup (w := w) (G := G) (x :: y :: xs) (v :: u :: vs) hl hr
    simpa [atuple] using this

def fin (P : Program) (fn : Func) (h0 : List Blk) (K : KT) : Exit → AS → Prop
  | .ret, S | .normal, S => ∃ xs x h1 live1, aresults P S fn.results.toList = some xs ∧ (x = atuple xs ∨ x = (atuple xs).er) ∧ x.cl h1.length ∧ (∃ junk, S.h = h1 ++ junk) ∧ HCl h1 ∧ h0.length ≤ h1.length ∧ (∀ u ∈ live1, u ∈ S.live) ∧ K x h1 live1
  | _, _ => False

theorem run_callFunc {f : FuncId} {fn : Func} {c : Code} (hf : P.funcs[f]? = some fn) (hn : (fn.name == "runtime.NumGoroutine") = false) (hb : fn.body = some c) (args : Array Value) (w : World) : (callFunc f args).run P w = .ok (.enter f args) w := by
  have hn' : ¬ fn.name = "runtime.NumGoroutine" := by simpa using hn
  simp [callFunc, hf, hn', hb]

theorem acalls_of_awp {f : FuncId} {fn : Func} {c : Code} {xs : List AV} {h : List Blk} {live : List Nat} {K : KT} (hf : P.funcs[f]? = some fn) (hn : (fn.name == "runtime.NumGoroutine") = false) (hb : fn.body = some c) (hl : xs.length ≤ fn.ntmps)
    (hw : HCl h → (∀ x ∈ xs, x.cl h.length) → AwpC P c (fin P fn h K) ⟨fn.ntmps, fget (fargs xs 0), h, live⟩) : ACalls P f xs h live K := by
  intro w G vs hvl hr hh
  rw [run_callFunc hf hn hb]
  have hcl : ∀ x ∈ xs, x.cl h.length := fun x hx => by
    obtain ⟨i, hi, rfl⟩ := List.mem_iff_getElem.1 hx
    have := (hr i hi).cl
    rw [hh.len]
    simpa [List.getD_eq_getElem?_getD, hi] using this
  have hs : SRel w G { tmps := vs.toArray ++ Array.replicate (fn.ntmps - vs.toArray.size) undef, defers := [] } ⟨fn.ntmps, fget (fargs xs 0), h, live⟩ := by
    refine ⟨rfl, by simp; omega, hh, fun t => ?_⟩
    show Rep w G (fget (fargs xs 0) t) _
    rw [fget_args, if_pos (Nat.zero_le _), Nat.sub_zero]
    by_cases ht : t < xs.length
    · have := hr t ht
      have hv : t < vs.length := by omega
      have e : (vs.toArray ++ Array.replicate (fn.ntmps - vs.toArray.size) undef).getD t undef = vs.getD t undef := by
        simp [List.getD_eq_getElem?_getD, Array.getElem?_append, hv]
      rw [e]; exact this
    · have e : xs.getD t .undef = .undef := by simp [List.getD_eq_getElem?_getD, show xs.length ≤ t by omega]
      rw [e]; exact .undef _
  refine calls_of_wp hf hb (wp_mono (hw hh.hcl hcl w G _ hs) fun e a w' q => ?_)
  obtain ⟨G', S', q, hs', hev⟩ := q
  have key : ∀ (S' : AS), SRel w' G' a S' → Evo w G live w' G' S'.live → (∃ xs x h1 live1, aresults P S' fn.results.toList = some xs ∧ (x = atuple xs ∨ x = (atuple xs).er) ∧ x.cl h1.length ∧ (∃ junk, S'.h = h1 ++ junk) ∧ HCl h1 ∧ h.length ≤ h1.length ∧ (∀ u ∈ live1, u ∈ S'.live) ∧ K x h1 live1) →
      a.defers = [] ∧ ∃ v, (results fn a.tmps).run P w' = .ok v w' ∧ ∃ v', Ending.returned v = Ending.returned v' ∧ Post w G live K v' w' := by
    intro S' hs' hev ⟨ys, x, h1, live1, hres, hx, hxc, ⟨junk, hj⟩, hcl1, hlen, hlv, hk⟩
    obtain ⟨v, hv, hrep⟩ := results_sound hs' hres
    have hhp := hs'.heap
    rw [hj] at hhp
    refine ⟨hs'.defers, v, hv, v, rfl, x, h1, live1, G'.cut h1.length, hk, ?_, hhp.cut hcl1 hlv, hev.cut (by rw [← hh.len]; exact hlen) (by rw [← hhp.len]; simp) hlv⟩
    rcases hx with rfl | rfl
    · exact hrep.cut hxc
    · exact hrep.er.cut hxc
  cases e with
  | normal => exact key S' hs' hev q
  | ret => exact key S' hs' hev q
  | _ => exact q.elim

/-- A contract of the guide's, of a function that leaves the world alone. -/
theorem acalls_of_calls {f : FuncId} {fn : Func} {xs : List AV} {h : List Blk} {live : List Nat} {y : AV} (hf : P.funcs[f]? = some fn) (hn : (fn.name == "runtime.NumGoroutine") = false) (hb : fn.body.isSome = true)
    (hc : ∀ w G (vs : List Value), vs.length = xs.length → (∀ i, i < xs.length → Rep w G (xs.getD i .undef) (vs.getD i undef)) → HRel w G h live → ∃ v, Rep w G y v ∧ Calls P f vs.toArray w fun e w' => e = .returned v ∧ w' = w) :
    ACalls P f xs h live (ret y h live) := by
  intro w G vs hvl hr hh
  obtain ⟨c, hb⟩ := Option.isSome_iff_exists.1 hb
  rw [run_callFunc hf hn hb]
  obtain ⟨v, hv, hcall⟩ := hc w G vs hvl hr hh
  refine Calls.mono hcall fun e w' ⟨he, hw'⟩ => ?_
  subst hw'
  exact ⟨v, he, y, h, live, G, ⟨rfl, rfl, rfl⟩, hv, hh, Evo.refl _ _ _⟩

end
end Go.Ab
