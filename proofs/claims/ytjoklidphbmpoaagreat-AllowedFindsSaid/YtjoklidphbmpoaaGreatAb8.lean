import Derived.Test.YtjoklidphbmpoaaGreatAb7
/-
  THE FRAMEWORK, 8: where a function begins and ends; what is forgotten there; loops; frames as lists.
-/
namespace Go.Ab
set_option linter.unusedVariables false
set_option linter.unusedSimpArgs false
open Go.RowKit

def Blk.cl (n : Nat) : Blk → Prop
  | .cells c => AV.clL n c
  | .map es => ∀ p ∈ es, p.1.cl n ∧ p.2.cl n
  | .glb _ c _ => AV.clL n c
  | .siter _ _ => True
  | .miter k _ _ _ => k < n
  | .gone => True

/-- No block leads beyond the blocks. -/
def HCl (h : List Blk) : Prop := ∀ b ∈ h, b.cl h.length

theorem BlkRep.cl {w : World} {G : Gh} {x : Blk} {b : Nat} (h : BlkRep w G x b) : x.cl G.n := by
  cases x with
  | cells c =>
    obtain ⟨vs, e, _, _, h3⟩ := h
    exact (AV.clL_iff _ _).2 fun i hi => (h3 i hi).2.cl
  | map es =>
    obtain ⟨us, c, _, h2, _, h3⟩ := h
    intro p hp
    obtain ⟨i, hi, rfl⟩ := List.mem_iff_getElem.1 hp
    have := h3 i hi
    simp only [List.getD_eq_getElem?_getD, List.getElem?_eq_getElem hi, Option.getD_some] at this
    exact ⟨this.1.cl, this.2.cl⟩
  | glb g c ob =>
    obtain ⟨_, vs, e, fz, _, _, _, h3⟩ := h
    exact (AV.clL_iff _ _).2 fun i hi => (h3 i hi).2.cl
  | siter l pos => trivial
  | miter k since seen stepped => exact h.1
  | gone => trivial

theorem BlkRep.cut {w : World} {G : Gh} {m : Nat} {x : Blk} {b : Nat} (h : BlkRep w G x b) (hx : x.cl m) : BlkRep w (G.cut m) x b := by
  cases x with
  | cells c =>
    obtain ⟨vs, e, h1, h2, h3⟩ := h
    exact ⟨vs, e, h1, h2, fun i hi => ⟨(h3 i hi).1, (h3 i hi).2.cut ((AV.clL_iff _ _).1 hx i hi)⟩⟩
  | map es =>
    obtain ⟨us, c, h1, h2, h2', h3⟩ := h
    refine ⟨us, c, h1, h2, h2', fun i hi => ?_⟩
    have := hx (es.getD i (.undef, .undef)) (by rw [List.getD_eq_getElem?_getD, List.getElem?_eq_getElem hi]; exact List.getElem_mem hi)
    exact ⟨(h3 i hi).1.cut this.1, (h3 i hi).2.cut this.2⟩
  | glb g c ob =>
    obtain ⟨h0, vs, e, fz, ho, h1, h2, h3⟩ := h
    exact ⟨h0, vs, e, fz, ho, h1, h2, fun i hi => ⟨(h3 i hi).1, (h3 i hi).2.cut ((AV.clL_iff _ _).1 hx i hi)⟩⟩
  | siter l pos => exact h
  | miter k since seen stepped => exact ⟨hx, h.2⟩
  | gone => trivial

theorem HRel.hcl {w : World} {G : Gh} {h : List Blk} {live : List Nat} (hh : HRel w G h live) : HCl h := by
  intro b hb
  obtain ⟨i, hi, rfl⟩ := List.mem_iff_getElem.1 hb
  rw [hh.len]
  exact (hh.blk i _ (List.getElem?_eq_getElem hi)).cl

/-- Some blocks, and tokens, are forgotten. -/
theorem HRel.cut {w : World} {G : Gh} {h1 junk : List Blk} {live live1 : List Nat} (hh : HRel w G (h1 ++ junk) live) (hc : HCl h1) (hl : ∀ u ∈ live1, u ∈ live) : HRel w (G.cut h1.length) h1 live1 := by
  have hn : h1.length ≤ G.n := by rw [← hh.len]; simp
  refine ⟨rfl, fun k x hx => ?_, fun k hk => hh.blk_lt k (Nat.lt_of_lt_of_le hk hn), fun j k hj hk => hh.inj j k (Nat.lt_of_lt_of_le hj hn) (Nat.lt_of_lt_of_le hk hn), hh.imm_lt,
    fun b o k hb hk => hh.imm_blk b o k hb (Nat.lt_of_lt_of_le hk hn), fun t ht => ?_, fun t u d e ht hu => hh.tok_ne t u d e (hl t ht) (hl u hu)⟩
  · have hk : k < h1.length := (List.getElem?_eq_some_iff.1 hx).1
    have := hh.blk k x (by rw [List.getElem?_append_left hk]; exact hx)
    exact this.cut (hc x (List.mem_of_getElem? hx))
  · obtain ⟨d, hd, ⟨h1', h2, h3, h4, h5⟩⟩ := hh.tok t (hl t ht)
    exact ⟨d, hd, h1', h2, h3, h4, fun k hk => h5 k (Nat.lt_of_lt_of_le hk hn)⟩

theorem Evo.cut {w w' : World} {G G' : Gh} {live live' live1 : List Nat} {m : Nat} (h : Evo w G live w' G' live') (hm : G.n ≤ m) (hm' : m ≤ G'.n) (hl : ∀ u ∈ live1, u ∈ live') : Evo w G live w' (G'.cut m) live1 where
  os := h.os
  tape := h.tape
  output := h.output
  size := h.size
  imm := h.imm
  other := h.other
  own b hb ho := h.own b hb (by
    rcases ho with ⟨k, hk, e⟩ | ⟨t, d, ht, hd, e⟩
    · exact .inl ⟨k, Nat.lt_of_lt_of_le hk hm', e⟩
    · exact .inr ⟨t, d, hl t ht, hd, e⟩)
  ext := ⟨hm, h.ext.blk, h.ext.imm, h.ext.tok⟩

/-- A state that says less. -/
structure Trunc (S S1 : AS) : Prop where
  n : S1.n = S.n
  fr : ∀ t, S1.fr t = .undef ∨ ((S1.fr t = S.fr t ∨ S1.fr t = (S.fr t).er) ∧ (S1.fr t).cl S1.h.length)
  h : ∃ junk, S.h = S1.h ++ junk
  cl : HCl S1.h
  live : ∀ u, u ∈ S1.live → u ∈ S.live

theorem SRel.trunc {w w' : World} {G G' : Gh} {live : List Nat} {a : Act} {S S1 : AS} (hs : SRel w' G' a S) (ht : Trunc S S1) (hev : Evo w G live w' G' S.live) (hm : G.n ≤ S1.h.length) : SRel w' (G'.cut S1.h.length) a S1 ∧ Evo w G live w' (G'.cut S1.h.length) S1.live := by
  obtain ⟨junk, hj⟩ := ht.h
  have hh := hs.heap
  rw [hj] at hh
  refine ⟨⟨hs.defers, by rw [hs.size, ht.n], hh.cut ht.cl ht.live, fun t => ?_⟩, hev.cut hm (by rw [← hh.len]; simp) ht.live⟩
  rcases ht.fr t with e | ⟨e | e, hc⟩
  · rw [e]; exact .undef _
  · have := (hs.fr t)
    rw [← e] at this
    exact this.cut hc
  · have := (hs.fr t).er
    rw [← e] at this
    exact this.cut hc

section
variable {P : Program}

theorem awp_weak {c : Code} {Q : Exit → AS → Prop} {S S1 : AS} (ht : Trunc S S1) (hl : S1.h.length = S.h.length) (h : AwpC P c Q S1) : AwpC P c Q S := by
  intro w G a hs
  have hm : G.n ≤ S1.h.length := by rw [hl, hs.heap.len]; exact Nat.le_refl _
  obtain ⟨hs1, hev⟩ := hs.trunc ht (Evo.refl w G S.live) hm
  exact wp_mono (h w _ a hs1) fun _ _ _ q => q.step hev

/-- A loop whose rounds may leave more than the next one is told of. -/
theorem awp_loop' {c : Code} {Q : Exit → AS → Prop} {S : AS} {X : Type} (I : X → AS) (μ : X → Nat) (x : X) (h0 : Trunc S (I x)) (hl0 : (I x).h.length = S.h.length)
    (round : ∀ x, AwpC P c (thenQ (fun S' => ∃ y, Trunc S' (I y) ∧ (I y).h.length = (I x).h.length ∧ μ y < μ x) Q) (I x)) : AwpC P (.loop c) Q S := by
  refine awp_weak h0 hl0 ?_
  refine awp_loop I μ x rfl fun x => ?_
  intro w G a hs
  refine wp_mono (round x w G a hs) fun e a' w' q => ?_
  obtain ⟨G', S', q, hs', hev⟩ := q
  cases e with
  | normal =>
    obtain ⟨y, ht, hl, hμ⟩ := q
    obtain ⟨h1, h2⟩ := hs'.trunc ht hev (by rw [hl, hs.heap.len]; exact Nat.le_refl _)
    exact ⟨_, I y, ⟨y, rfl, hμ⟩, h1, h2⟩
  | _ => exact ⟨G', S', q, hs', hev⟩

/-! Frames as lists. -/
abbrev FL := List (Nat × AV)

def fget : FL → Nat → AV
  | [], _ => .undef
  | (k, v) :: r, t => if k = t then v else fget r t

def fput (fl : FL) (d : Option Tmp) (x : AV) : FL :=
  match d with
  | some t => (t, x) :: fl
  | none => fl

theorem fget_put (fl : FL) (d : Option Tmp) (x : AV) : upd (fget fl) d x = fget (fput fl d x) := by
  funext t
  cases d with
  | none => simp [upd, fput]
  | some d => simp [upd, fput, fget]

def fkeep (V : List Tmp) (fr : Nat → AV) : FL := V.map fun t => (t, fr t)

theorem fget_keep (fr : Nat → AV) : ∀ (V : List Tmp) (t : Nat), fget (fkeep V fr) t = .undef ∨ fget (fkeep V fr) t = fr t
  | [], t => .inl rfl
  | v :: V, t => by
    simp only [fkeep, List.map_cons, fget]
    split
    · rename_i e; subst e; exact .inr rfl
    · exact fget_keep fr V t

def fargs : List AV → Nat → FL
  | [], _ => []
  | x :: r, k => (k, x) :: fargs r (k + 1)

theorem fget_args : ∀ (xs : List AV) (k t : Nat), fget (fargs xs k) t = if k ≤ t then xs.getD (t - k) .undef else .undef
  | [], k, t => by simp [fargs, fget]
  | x :: r, k, t => by
    rw [fargs, fget, fget_args r (k + 1) t]
    by_cases h1 : k = t
    · subst h1; simp
    · rw [if_neg h1]
      by_cases h2 : k ≤ t
      · rw [if_pos h2, if_pos (by omega), show t - k = (t - (k + 1)) + 1 from by omega]; simp
      · rw [if_neg h2, if_neg (by omega)]

theorem awp_region_keep {id : Nat} {l : List Oper} {draw : Bool} {n : Nat} {fl : FL} {h : List Blk} {live : List Nat} {Q : Exit → AS → Prop} (V : List Tmp) (q : RQ) (hok : draw = true → okAll q l.toArray = true ∧ P.follows .mixedOrders = true)
    (hd : dawp P q (gdOf l.toArray) n l (fget fl) h live fun fr h live => Q .normal ⟨n, fget (fkeep V fr), h, live⟩) : AwpC P (.region id l.toArray draw) Q ⟨n, fget fl, h, live⟩ :=
  awp_region q hok (dawp.mono (fun fr h live hq => ⟨_, fget_keep fr V, hq⟩) l (fget fl) h live hd)

theorem awp_region_keep2 {id : Nat} {l1 l2 : List Oper} {x y : Oper} {n : Nat} {fl : FL} {h : List Blk} {live : List Nat} {Q : Exit → AS → Prop} (V : List Tmp) (q : RQ) (hok : okTwo q (l1 ++ x :: y :: l2).toArray l1.length = true ∧ P.follows .mixedOrders = true)
    (hd : dawp P q (gdOf (l1 ++ x :: y :: l2).toArray) n l1 (fget fl) h live fun fr h live => dawp P q (gdOf (l1 ++ x :: y :: l2).toArray) n (x :: y :: l2) fr h live (fun fr h live => Q .normal ⟨n, fget (fkeep V fr), h, live⟩) ∧ dawp P q (gdOf (l1 ++ x :: y :: l2).toArray) n (y :: x :: l2) fr h live (fun fr h live => Q .normal ⟨n, fget (fkeep V fr), h, live⟩)) : AwpC P (.region id (l1 ++ x :: y :: l2).toArray true) Q ⟨n, fget fl, h, live⟩ :=
  awp_region2 q hok (dawp.mono (fun fr h live hq => ⟨dawp.mono (fun fr h live hq => ⟨_, fget_keep fr V, hq⟩) _ _ _ _ hq.1, dawp.mono (fun fr h live hq => ⟨_, fget_keep fr V, hq⟩) _ _ _ _ hq.2⟩) l1 (fget fl) h live hd)

theorem awp_region_two {id : Nat} {l l1 l2 : List Oper} {x y : Oper} {n : Nat} {fl : FL} {h : List Blk} {live : List Nat} {Q : Exit → AS → Prop} (V : List Tmp) (q : RQ) (hl : l1 ++ x :: y :: l2 = l) (hok : okTwo q l.toArray l1.length = true ∧ P.follows .mixedOrders = true)
    (hd : dawp P q (gdOf l.toArray) n l1 (fget fl) h live fun fr h live => dawp P q (gdOf l.toArray) n (x :: y :: l2) fr h live (fun fr h live => Q .normal ⟨n, fget (fkeep V fr), h, live⟩) ∧ dawp P q (gdOf l.toArray) n (y :: x :: l2) fr h live (fun fr h live => Q .normal ⟨n, fget (fkeep V fr), h, live⟩)) : AwpC P (.region id l.toArray true) Q ⟨n, fget fl, h, live⟩ := by
  subst hl
  exact awp_region_keep2 V q hok hd

/-! The steps of a region, over a list's frame. -/
section steps
variable {q : RQ} {gd : Nat → Option Tmp} {n : Nat} {fl : FL} {h : List Blk} {live : List Nat} {Q : FT} {o : Oper} {os : List Oper}

theorem dawp_nil (hq : Q (fget fl) h live) : dawp P q gd n [] (fget fl) h live Q := hq

theorem kindOf_plain (hq : (fload q o || gst q o || scall q o) = false) : kindOf q o = kindOp q.b o.op := by
  rw [Bool.or_eq_false_iff, Bool.or_eq_false_iff] at hq
  simp [kindOf, hq.1.1, hq.1.2, hq.2]

theorem kindP_no {x : AV} (hx : astepP P (fget fl) o = some x) : (fload q o || gst q o || scall q o) = false := by
  obtain ⟨dst, op, ty, pos, after, guard⟩ := o
  cases op <;> first
    | rfl
    | (simp [astepP] at hx; done)
    | (rename_i c
       obtain ⟨cal, args, ts⟩ := c
       cases cal <;> first
         | rfl
         | (simp [astepP] at hx; done))

theorem astepH_kind {x : AV} {h' : List Blk} (hx : astepH P (fget fl) h o = some (x, h')) (hq : (fload q o || gst q o || scall q o) = false) : kindOf q o = .w ∨ (kindOf q o = .r ∧ h' = h) := by
  rw [kindOf_plain hq]
  clear hq
  obtain ⟨dst, op, ty, pos, after, guard⟩ := o
  cases op <;> simp only [astepH] at hx <;> first
    | exact .inl rfl
    | (simp at hx; done)
    | (split at hx
       · cases hx; exact .inr ⟨rfl, rfl⟩
       · simp at hx)

theorem dawp_p {x : AV} {t : Tmp} (hw : dwant gd (fget fl) o = some true) (hx : astepP P (fget fl) o = some x) (hd : o.dst = some t) (hn : decide (t < n) = true) (k : dawp P q gd n os (fget ((t, x) :: fl)) h live Q) : dawp P q gd n (o :: os) (fget fl) h live Q := by
  refine ⟨by rw [hd]; exact hn, ?_⟩
  unfold dstep
  rw [hw, hd]
  simp only [fget_put, fput]
  have hkp := kindOf_plain (kindP_no (q := q) hx)
  unfold dop
  rw [hkp]
  have hne : kindOp q.b o.op ≠ .f ∧ kindOp q.b o.op ≠ .g ∧ kindOp q.b o.op ≠ .s := by
    unfold kindOp; split <;> first | exact ⟨by decide, by decide, by decide⟩ | (split <;> exact ⟨by decide, by decide, by decide⟩)
  split
  · exact ⟨x, hx, k⟩
  · exact ⟨x, astepP_sound hx h live, k⟩
  rotate_left
  · exact absurd (by assumption) hne.1
  · exact absurd (by assumption) hne.2.1
  · exact absurd (by assumption) hne.2.2
  · exact (astepP_sound hx h live).mono fun y h' l' ⟨e1, e2, e3⟩ => by subst e1; subst e2; subst e3; exact k

theorem dawp_h' {x : AV} {h' : List Blk} (hw : dwant gd (fget fl) o = some true) (hx : astepH P (fget fl) h o = some (x, h')) (hd : dstOk n o.dst = true) (hq : (fload q o || gst q o || scall q o) = false) (k : dawp P q gd n os (fget (fput fl o.dst x)) h' live Q) : dawp P q gd n (o :: os) (fget fl) h live Q := by
  refine ⟨hd, ?_⟩
  unfold dstep
  rw [hw]
  simp only [fget_put]
  have hs := astepH_sound (live := live) hx
  rcases astepH_kind (q := q) hx hq with hk | ⟨hk, e⟩
  · simp only [dop, hk]
    exact hs.mono fun y h2 l' ⟨e1, e2, e3⟩ => by subst e1; subst e2; subst e3; exact k
  · subst e
    simp only [dop, hk]
    exact ⟨x, hs, k⟩

theorem dawp_h {x : AV} {h' : List Blk} {t : Tmp} (hw : dwant gd (fget fl) o = some true) (hx : astepH P (fget fl) h o = some (x, h')) (hd : o.dst = some t) (hn : decide (t < n) = true) (k : dawp P q gd n os (fget ((t, x) :: fl)) h' live Q) (hq : (fload q o || gst q o || scall q o) = false := by rfl) : dawp P q gd n (o :: os) (fget fl) h live Q :=
  dawp_h' hw hx (by rw [hd]; exact hn) hq (by rw [hd]; exact k)

theorem dawp_hn {x : AV} {h' : List Blk} (hw : dwant gd (fget fl) o = some true) (hx : astepH P (fget fl) h o = some (x, h')) (hd : o.dst = none) (k : dawp P q gd n os (fget fl) h' live Q) (hq : (fload q o || gst q o || scall q o) = false := by rfl) : dawp P q gd n (o :: os) (fget fl) h live Q :=
  dawp_h' hw hx (by rw [hd]; rfl) hq (by rw [hd]; exact k)

/-- A load of what stands. -/
theorem dawp_f {x : AV} {t : Tmp} (hk : fload q o = true) (hw : dwant gd (fget fl) o = some true) (hx : floadOf P q.T (fget fl) h o = some x) (hd : o.dst = some t) (hn : decide (t < n) = true) (k : dawp P q gd n os (fget ((t, x) :: fl)) h live Q) : dawp P q gd n (o :: os) (fget fl) h live Q := by
  refine ⟨by rw [hd]; exact hn, ?_⟩
  unfold dstep
  rw [hw, hd]
  have hkf : kindOf q o = .f := by simp [kindOf, hk]
  simp only [dop, hkf, fget_put, fput]
  exact ⟨x, hx, k⟩

/-- A store that lets it stand. -/
theorem dawp_gs {x : AV} {h' : List Blk} (hk : (!fload q o && gst q o) = true) (hw : dwant gd (fget fl) o = some true) (hx : astepH P (fget fl) h o = some (x, h')) (hd : o.dst = none) (hs : stab P q.T h h') (k : dawp P q gd n os (fget fl) h' live Q) (hs2 : stN q.N h h' := by first | exact (fun k hk => absurd hk (Nat.not_lt_zero k)) | exact (fun k hk => by rw [List.getElem?_append_left hk, List.getElem?_append_left hk])) : dawp P q gd n (o :: os) (fget fl) h live Q := by
  refine ⟨by rw [hd]; rfl, ?_⟩
  unfold dstep
  rw [hw, hd]
  simp only [Bool.and_eq_true, Bool.not_eq_true'] at hk
  have hkg : kindOf q o = .g := by simp [kindOf, hk.1, hk.2]
  simp only [dop, hkg, fget_put, fput]
  exact (astepH_sound (live := live) hx).mono fun y h2 l' ⟨e1, e2, e3⟩ => by subst e1; subst e2; subst e3; exact ⟨⟨hs, hs2⟩, k⟩

/-- An alloc that lets it stand. -/
theorem dawp_ga {x : AV} {h' : List Blk} {t : Tmp} (hk : (!fload q o && gst q o) = true) (hw : dwant gd (fget fl) o = some true) (hx : astepH P (fget fl) h o = some (x, h')) (hd : o.dst = some t) (hn : decide (t < n) = true) (hs : stab P q.T h h') (k : dawp P q gd n os (fget ((t, x) :: fl)) h' live Q) (hs2 : stN q.N h h' := by first | exact (fun k hk => absurd hk (Nat.not_lt_zero k)) | exact (fun k hk => by rw [List.getElem?_append_left hk, List.getElem?_append_left hk])) : dawp P q gd n (o :: os) (fget fl) h live Q := by
  refine ⟨by rw [hd]; exact hn, ?_⟩
  unfold dstep
  rw [hw, hd]
  simp only [Bool.and_eq_true, Bool.not_eq_true'] at hk
  have hkg : kindOf q o = .g := by simp [kindOf, hk.1, hk.2]
  simp only [dop, hkg, fget_put, fput]
  exact (astepH_sound (live := live) hx).mono fun y h2 l' ⟨e1, e2, e3⟩ => by subst e1; subst e2; subst e3; exact ⟨⟨hs, hs2⟩, k⟩

/-- A call that reads nothing but what stands below. -/
theorem dawp_s {x : AV} {t : Tmp} (hk : (!fload q o && !gst q o && scall q o) = true) (hw : dwant gd (fget fl) o = some true) (hd : o.dst = some t) (hn : decide (t < n) = true) (hx : ∀ h' l', stN q.N h h' → AOp P (fget fl) h' l' o (ret x h' l')) (k : dawp P q gd n os (fget ((t, x) :: fl)) h live Q) : dawp P q gd n (o :: os) (fget fl) h live Q := by
  refine ⟨by rw [hd]; exact hn, ?_⟩
  unfold dstep
  rw [hw, hd]
  simp only [Bool.and_eq_true, Bool.not_eq_true'] at hk
  have hks : kindOf q o = .s := by simp [kindOf, hk.1.1, hk.1.2, hk.2]
  simp only [dop, hks, fget_put, fput]
  exact ⟨x, hx, k⟩

theorem dawp_skip {t : Tmp} (hw : dwant gd (fget fl) o = some false) (hd : o.dst = some t) (hn : decide (t < n) = true) (k : dawp P q gd n os (fget ((t, .tup []) :: fl)) h live Q) : dawp P q gd n (o :: os) (fget fl) h live Q := by
  refine ⟨by rw [hd]; exact hn, ?_⟩
  unfold dstep
  rw [hw, hd]
  simp only [fget_put, fput]
  exact k

/-- An operation that may turn the blocks. -/
theorem dawp_w {t : Tmp} (hk : kindOf q o = .w) (hw : dwant gd (fget fl) o = some true) (hd : o.dst = some t) (hn : decide (t < n) = true) (k : AOp P (fget fl) h live o fun x h' live' => dawp P q gd n os (fget ((t, x) :: fl)) h' live' Q) : dawp P q gd n (o :: os) (fget fl) h live Q := by
  refine ⟨by rw [hd]; exact hn, ?_⟩
  unfold dstep
  rw [hw, hd]
  simp only [dop, hk, fget_put, fput]
  exact k

theorem dawp_wn (hk : kindOf q o = .w) (hw : dwant gd (fget fl) o = some true) (hd : o.dst = none) (k : AOp P (fget fl) h live o fun _ h' live' => dawp P q gd n os (fget fl) h' live' Q) : dawp P q gd n (o :: os) (fget fl) h live Q := by
  refine ⟨by rw [hd]; rfl, ?_⟩
  unfold dstep
  rw [hw, hd]
  simp only [dop, hk, fget_put, fput]
  exact k

/-- A call that turns no block, in a region in any order. -/
theorem dawp_r {x : AV} {t : Tmp} (hk : kindOf q o = .r) (hw : dwant gd (fget fl) o = some true) (hd : o.dst = some t) (hn : decide (t < n) = true) (hx : AOp P (fget fl) h live o (ret x h live)) (k : dawp P q gd n os (fget ((t, x) :: fl)) h live Q) : dawp P q gd n (o :: os) (fget fl) h live Q := by
  refine ⟨by rw [hd]; exact hn, ?_⟩
  unfold dstep
  rw [hw, hd]
  simp only [dop, hk, fget_put, fput]
  exact ⟨x, hx, k⟩

end steps

/-! Where a function begins and ends. -/
def aresult (P : Program) (S : AS) : ResultVar → Option AV
  | .tmp t => some (S.fr t)
  | .cell a t => aload P t S.h (S.fr a)

def aresults (P : Program) (S : AS) : List ResultVar → Option (List AV)
  | [] => some []
  | r :: rs => match aresult P S r, aresults P S rs with
    | some x, some xs => some (x :: xs)
    | _, _ => none

def atuple : List AV → AV
  | [x] => x
  | xs => .tup xs

theorem aresult_sound {w : World} {G : Gh} {a : Act} {S : AS} (hs : SRel w G a S) {g : ResultVar → Sem Value} (g1 : ∀ t, g (.tmp t) = pure (a.tmps.getD t undef)) (g2 : ∀ ad t, g (.cell ad t) = do loadVar t (← asAddr (a.tmps.getD ad undef)))
    {r : ResultVar} {x : AV} (hx : aresult P S r = some x) : ∃ v, (g r).run P w = .ok v w ∧ Rep w G x v := by
  cases r with
  | tmp t => cases hx; exact ⟨_, by rw [g1]; rfl, hs.fr t⟩
  | cell ad t =>
    obtain ⟨z, hz, hr⟩ := aload_sound (P := P) hs.heap (hs.fr ad) hx
    refine ⟨z, ?_, hr⟩
    have hx' := hx
    simp only [aresult] at hx'
    have hp : ∃ b, a.tmps.getD ad undef = .pointer (some b) := by
      have hr := hs.fr ad
      unfold aload at hx'
      split at hx'
      · split at hx'
        · rename_i b off e; rw [e] at hr; generalize a.tmps.getD ad undef = v at hr; cases hr; exact ⟨_, rfl⟩
        · rename_i c off e; rw [e] at hr; generalize a.tmps.getD ad undef = v at hr; cases hr; exact ⟨_, rfl⟩
        · rename_i g off e; rw [e] at hr; generalize a.tmps.getD ad undef = v at hr; cases hr; exact ⟨_, rfl⟩
        · simp at hx'
      · simp at hx'
    obtain ⟨b, hb⟩ := hp
    rw [g2, hb]
    rw [hb] at hz
    simpa [Instr.loadAt, Instr.sureAddr, asAddr] using hz

theorem aresults_sound {w : World} {G : Gh} {a : Act} {S : AS} (hs : SRel w G a S) {g : ResultVar → Sem Value} (g1 : ∀ t, g (.tmp t) = pure (a.tmps.getD t undef)) (g2 : ∀ ad t, g (.cell ad t) = do loadVar t (← asAddr (a.tmps.getD ad undef))) :
    ∀ {rs : List ResultVar} {xs : List AV}, aresults P S rs = some xs →
    ∃ vs : List Value, (rs.mapM (m := Sem) g).run P w = .ok vs w ∧ vs.length = xs.length ∧ ∀ i, i < xs.length → Rep w G (xs.getD i .undef) (vs.getD i undef)
  | [], xs, h => by
    cases h
    exact ⟨[], by simp, rfl, by simp⟩
  | r :: rs, xs, h => by
    unfold aresults at h
    split at h
    · rename_i x ys hx hys
      cases h
      obtain ⟨v, hv, hr⟩ := aresult_sound hs g1 g2 hx
      obtain ⟨vs, hvs, hl, hrs⟩ := aresults_sound hs g1 g2 hys
      refine ⟨v :: vs, ?_, by simp [hl], fun i hi => ?_⟩
      · rw [List.mapM_cons]
        simp only [Sem.run_bind, hv, Result.andThen_ok, hvs, Sem.run_pure]
      · cases i with
        | zero => simpa using hr
        | succ i => simpa using hrs i (by simpa using hi)
    · simp at h

theorem results_sound {w : World} {G : Gh} {a : Act} {S : AS} (hs : SRel w G a S) {fn : Func} {xs : List AV} (h : aresults P S fn.results.toList = some xs) : ∃ v, (results fn a.tmps).run P w = .ok v w ∧ Rep w G (atuple xs) v := by
  have hgen : ∀ g : ResultVar → Sem Value, (∀ t, g (.tmp t) = pure (a.tmps.getD t undef)) → (∀ ad t, g (.cell ad t) = do loadVar t (← asAddr (a.tmps.getD ad undef))) →
      ∃ vs : List Value, (do let us ← fn.results.mapM g; pure (if h : us.size = 1 then us[0] else .tuple us) : Sem Value).run P w = .ok (if h : vs.toArray.size = 1 then vs.toArray[0] else .tuple vs.toArray) w ∧ vs.length = xs.length ∧ ∀ i, i < xs.length → Rep w G (xs.getD i .undef) (vs.getD i undef) := by
    intro g g1 g2
    obtain ⟨vs, hvs, hl, hr⟩ := aresults_sound hs g1 g2 h
    refine ⟨vs, ?_, hl, hr⟩
    have e : fn.results = fn.results.toList.toArray := by simp
    rw [e, List.mapM_toArray]
    simp only [Sem.run_bind, Sem.run_map, hvs, Result.andThen_ok, Sem.run_pure]
  obtain ⟨vs, hrun, hl, hr⟩ := hgen (fun | .tmp t => pure (a.tmps.getD t undef) | .cell ad t => do loadVar t (← asAddr (a.tmps.getD ad undef))) (fun _ => rfl) (fun _ _ => rfl)
  change (results fn a.tmps).run P w = _ at hrun
  refine ⟨_, hrun, ?_⟩
  match xs, vs, hl, hr with
  | [], [], _, _ => exact .tup [] [] rfl (by simp)
  | [x], [v], _, hr => simpa [atuple] using hr 0 (by simp)
  | x :: y :: xs, v :: u :: vs, hl, hr =>
    have := Rep.tup (w := w) (G := G) (x :: y :: xs) (v :: u :: vs) hl hr
    simpa [atuple] using this

/-! What was laid in a function, and is left alone from now on, is a value. -/
def Gh.frz (G : Gh) (m : Nat) : Gh := { G with imm := fun b o => G.imm b o ∨ ∃ k, m ≤ k ∧ k < G.n ∧ G.blk k = b }

theorem Gh.frz_ext (G : Gh) (m : Nat) : Ext G (G.frz m) := ⟨Nat.le_refl _, fun _ _ => rfl, fun _ _ h => .inl h, fun _ _ h => h⟩

def mkEl (ag : Bool) (c : List AV) : AV := bif ag then .agg c else c.headD .undef

mutual
def AV.frz (h : List Blk) (m : Nat) : AV → AV
  | .bsl k off sz ag len cap => if m ≤ k then (match h[k]? with
    | some (.cells cs) => if off + len * sz ≤ cs.length ∧ 0 < sz ∧ (ag = true ∨ sz = 1) then .slice ((List.range len).map fun i => mkEl ag ((cs.drop (off + i * sz)).take sz)) (if len = cap then .full else .none) else .undef
    | _ => .undef) else .bsl k off sz ag len cap
  | .agg cs => .agg (AV.frzL h m cs)
  | .tup cs => .tup (AV.frzL h m cs)
  | x => x
def AV.frzL (h : List Blk) (m : Nat) : List AV → List AV
  | [] => []
  | x :: r => x.frz h m :: AV.frzL h m r
end

theorem AV.frzL_map (h : List Blk) (m : Nat) (l : List AV) : AV.frzL h m l = l.map (AV.frz h m) := by
  induction l with
  | nil => rfl
  | cons x r ih => simp [AV.frzL, ih]
theorem AV.frzL_length (h : List Blk) (m : Nat) (l : List AV) : (AV.frzL h m l).length = l.length := by rw [AV.frzL_map]; simp
theorem AV.frzL_getD (h : List Blk) (m : Nat) (l : List AV) (i : Nat) : (AV.frzL h m l).getD i .undef = (l.getD i .undef).frz h m := by
  rw [AV.frzL_map]
  simp only [List.getD_eq_getElem?_getD, List.getElem?_map]
  cases l[i]? <;> rfl

theorem rep_onecell {w : World} {G : Gh} {x : AV} {v : Value} (hr : Rep w G x v) (ho : v.oneCell' = true) : x.cells = [x] := by
  cases hr <;> first
    | rfl
    | (simp [Value.oneCell'] at ho)

theorem frz_slice {w : World} {G : Gh} {cs : List AV} {vs : Array Value} {e : TypeId} {fz : Nat × Nat} {b : Nat} (hb : w.heap[b]? = some (.cells vs e fz)) (hl : vs.size = cs.length)
    (hr : ∀ i, i < cs.length → (vs.getD i undef).oneCell' = true ∧ Rep w G (cs.getD i .undef) (vs.getD i undef)) (himm : ∀ o, G.imm b o) {off sz len cap : Nat} {ag : Bool} (h1 : off + len * sz ≤ cs.length) (h2 : 0 < sz) (h3 : ag = true ∨ sz = 1) (hlc : len ≤ cap) (hm : cap ≤ maxLen) :
    Rep w G (.slice ((List.range len).map fun i => mkEl ag ((cs.drop (off + i * sz)).take sz)) (if len = cap then .full else .none)) (.slice (some ⟨b, off, none⟩) len cap) := by
  have hin : ∀ i j, i < len → j < sz → off + (i * sz + j) < cs.length := fun i j hi hj => by
    have := Nat.mul_le_mul_right sz (show i + 1 ≤ len by omega)
    rw [Nat.add_mul] at this
    omega
  have hg : ∀ i, i < len → ((List.range len).map fun i => mkEl ag ((cs.drop (off + i * sz)).take sz)).getD i .undef = mkEl ag ((cs.drop (off + i * sz)).take sz) := fun i hi => by
    simp [List.getD_eq_getElem?_getD, hi]
  have hchunk : ∀ i j, i < len → j < sz → ((cs.drop (off + i * sz)).take sz).getD j .undef = cs.getD (off + (i * sz + j)) .undef := fun i j hi hj => by
    rw [getD_drop_take _ _ _ _ _ hj, Nat.add_assoc]
  have hclen : ∀ i, i < len → ((cs.drop (off + i * sz)).take sz).length = sz := fun i hi => by
    have := hin i (sz - 1) hi (by omega)
    simp; omega
  have hcells : ∀ i, i < len → (mkEl ag ((cs.drop (off + i * sz)).take sz)).cells = (cs.drop (off + i * sz)).take sz := fun i hi => by
    rcases h3 with rfl | rfl
    · rfl
    · cases ag with
      | true => rfl
      | false =>
        have hl1 := hclen i hi
        obtain ⟨x, hx⟩ := List.length_eq_one_iff.1 hl1
        have hc := hchunk i 0 hi (by omega)
        have hrr := hr (off + (i * 1 + 0)) (hin i 0 hi (by omega))
        rw [← hc, hx] at hrr
        rw [hx]
        exact rep_onecell hrr.2 hrr.1
  have key := Rep.slice (w := w) (G := G) ((List.range len).map fun i => mkEl ag ((cs.drop (off + i * sz)).take sz)) (if len = cap then .full else .none) b off cap sz (fun i j => vs.getD (off + (i * sz + j)) undef)
    (by simpa using hlc) hm (fun i hi => by have hi' : i < len := by simpa using hi
                                            rw [hg i hi', hcells i hi', hclen i hi']) (fun i j _ _ => himm _) (fun i j hi hj => by
      have hi' : i < len := by simpa using hi
      rw [cell_of_row w b _ vs e fz hb]
      have : off + (i * sz + j) < vs.size := by have := hin i j hi' hj; omega
      simp [this]) (fun i j hi hj => (hr _ (hin i j (by simpa using hi) hj)).1) (fun i j hi hj => by
      have hi' : i < len := by simpa using hi
      rw [hg i hi', hcells i hi', hchunk i j hi' hj]
      exact (hr _ (hin i j hi' hj)).2) (by
      split
      · rename_i e; show cap = _; simp [e]
      · exact trivial)
  simpa using key

theorem frz_sound {w : World} {G : Gh} {h : List Blk} {live : List Nat} (hh : HRel w G h live) (m : Nat) {x : AV} {v : Value} (hr : Rep w G x v) : Rep w (G.frz m) (x.frz h m) v := by
  have up : ∀ {x : AV} {v : Value}, Rep w G x v → Rep w (G.frz m) x v := fun h => h.mono (fun _ _ _ => rfl) (Gh.frz_ext G m)
  induction hr with
  | agg cs vs hl hone _ ih =>
    refine .agg (AV.frzL h m cs) vs (by rw [AV.frzL_length]; exact hl) (fun i hi => hone i (by rw [AV.frzL_length] at hi; exact hi)) fun i hi => ?_
    rw [AV.frzL_getD]; exact ih i (by rw [AV.frzL_length] at hi; exact hi)
  | tup cs vs hl _ ih =>
    refine .tup (AV.frzL h m cs) vs (by rw [AV.frzL_length]; exact hl) fun i hi => ?_
    rw [AV.frzL_getD]; exact ih i (by rw [AV.frzL_length] at hi; exact hi)
  | bsl k off sz ag len cap hk hl hm =>
    unfold AV.frz
    split
    · rename_i hmk
      split
      · rename_i cs hc
        split
        · rename_i hcond
          obtain ⟨vs, e, h1, h2, h3⟩ := hh.blk k _ hc
          exact frz_slice (G := G.frz m) h1 h2 (fun i hi => ⟨(h3 i hi).1, up (h3 i hi).2⟩) (fun o => .inr ⟨k, hmk, hk, rfl⟩) hcond.1 hcond.2.1 hcond.2.2 hl hm
        · exact .undef _
      · exact .undef _
    · exact .bsl k off sz ag len cap hk hl hm
  | undef v => exact .undef v
  | bool b => exact .bool b
  | int k n => exact .int k n
  | str l => exact .str l
  | raw v h => exact .raw v h
  | ptr k off h => exact .ptr k off h
  | nilSlice c h => exact .nilSlice c h
  | emptySlice a c h => exact .emptySlice a c h
  | slice l c b o cap sz f hcap hmax hsz himm hcell hone hrep hc ih => exact up (.slice l c b o cap sz f hcap hmax hsz himm hcell hone hrep hc)
  | fn f cs ds vs us hl hm hrep hrep' ih ih' => exact up (.fn f cs ds vs us hl hm hrep hrep')
  | iface t x v h ih => exact up (.iface t x v h)
  | map k h => exact .map k h
  | eptr cs off b o f himm hcell hone hrep ih => exact up (.eptr cs off b o f himm hcell hone hrep)
  | glob g off => exact .glob g off

theorem HRel.cutF {w : World} {G : Gh} {h1 junk : List Blk} {live live1 : List Nat} (hh : HRel w G (h1 ++ junk) live) (hc : HCl h1) (hl : ∀ u ∈ live1, u ∈ live) : HRel w ((G.frz h1.length).cut h1.length) h1 live1 := by
  have hn : h1.length ≤ G.n := by rw [← hh.len]; simp
  have h0 := hh.cut hc hl
  refine ⟨rfl, fun k x hx => (h0.blk k x hx).mono (G := G.cut h1.length) rfl (fun _ _ _ => rfl) ⟨Nat.le_refl _, fun _ _ => rfl, fun _ _ h => .inl h, fun _ _ h => h⟩, h0.blk_lt, h0.inj, fun b o hb => ?_, fun b o k hb hk => ?_, fun t ht => ?_, h0.tok_ne⟩
  · rcases hb with hb | ⟨k, _, hk, rfl⟩
    · exact hh.imm_lt b o hb
    · exact hh.blk_lt k hk
  · rcases hb with hb | ⟨j, hj, hjn, rfl⟩
    · exact hh.imm_blk b o k hb (Nat.lt_of_lt_of_le hk hn)
    · intro e
      have := hh.inj k j (Nat.lt_of_lt_of_le hk hn) hjn e
      have hk' : k < h1.length := hk
      omega
  · obtain ⟨d, hd, ⟨h1', h2, h3, h4, h5⟩⟩ := hh.tok t (hl t ht)
    refine ⟨d, hd, h1', h2, h3, fun o ho hi => ?_, fun k hk => h5 k (Nat.lt_of_lt_of_le hk hn)⟩
    rcases hi with hi | ⟨j, _, hjn, e⟩
    · exact h4 o ho hi
    · exact h5 j hjn e

theorem Evo.frz {w w' : World} {G G' : Gh} {live live' : List Nat} (h : Evo w G live w' G' live') (m : Nat) : Evo w G live w' (G'.frz m) live' :=
  ⟨h.os, h.tape, h.output, h.size, h.imm, h.other, h.own, h.ext.trans (Gh.frz_ext G' m)⟩

/-! Blocks of whose slices' room nothing is said any more. -/
def Blk.er : Blk → Blk
  | .cells c => .cells (AV.erL c)
  | b => b

def BW (g h : List Blk) : Prop := h.length = g.length ∧ ∀ k : Nat, h[k]? = g[k]? ∨ h[k]? = (g[k]?).map Blk.er
theorem BW.refl (g : List Blk) : BW g g := ⟨rfl, fun _ => .inl rfl⟩
theorem BW.app {g g' h h' : List Blk} (h1 : BW g h) (h2 : BW g' h') : BW (g ++ g') (h ++ h') := by
  refine ⟨by simp [h1.1, h2.1], fun k => ?_⟩
  rw [List.getElem?_append, List.getElem?_append, h1.1]
  split
  · exact h1.2 k
  · exact h2.2 _
theorem BW.one {b b' : Blk} (h : b' = b.er) : BW [b] [b'] := ⟨rfl, fun k => by
  cases k with
  | zero => exact .inr (by simp [h])
  | succ k => exact .inl (by simp)⟩
theorem BW.set {g : List Blk} {k : Nat} {b b' : Blk} (h : b' = b.er) : BW (g.set k b) (g.set k b') := by
  refine ⟨by simp, fun j => ?_⟩
  rw [List.getElem?_set, List.getElem?_set]
  split
  · split
    · exact .inr (by simp [h])
    · exact .inl rfl
  · exact .inl rfl

theorem BlkRep.er {w : World} {G : Gh} {x : Blk} {b : Nat} (h : BlkRep w G x b) : BlkRep w G x.er b := by
  cases x with
  | cells c =>
    obtain ⟨vs, e, h1, h2, h3⟩ := h
    refine ⟨vs, e, h1, by rw [AV.erL_length]; exact h2, fun i hi => ?_⟩
    rw [AV.erL_length] at hi
    rw [AV.erL_getD]
    exact ⟨(h3 i hi).1, (h3 i hi).2.er⟩
  | _ => exact h

theorem HRel.weak {w : World} {G : Gh} {g h : List Blk} {live : List Nat} (hh : HRel w G g live) (hb : BW g h) : HRel w G h live :=
  ⟨hb.1.trans hh.len, fun k x hx => by
    rcases hb.2 k with e | e
    · exact hh.blk k x (by rw [← e]; exact hx)
    · rw [hx] at e
      cases hg : g[k]? with
      | none => rw [hg] at e; simp at e
      | some y =>
        rw [hg] at e
        simp at e
        subst e
        exact (hh.blk k y hg).er, hh.blk_lt, hh.inj, hh.imm_lt, hh.imm_blk, hh.tok, hh.tok_ne⟩

def fin (P : Program) (fn : Func) (h0 : List Blk) (K : KT) : Exit → AS → Prop
  | .ret, S | .normal, S => ∃ xs x h1 live1, aresults P S fn.results.toList = some xs ∧ (x = atuple xs ∨ x = (atuple xs).er ∨ x = ((atuple xs).frz S.h h1.length).er ∨ x = (atuple xs).frz S.h h1.length) ∧ x.cl h1.length ∧ (∃ g junk, S.h = g ++ junk ∧ BW g h1) ∧ HCl h1 ∧ h0.length ≤ h1.length ∧ (∀ u ∈ live1, u ∈ S.live) ∧ K x h1 live1
  | _, _ => False

theorem run_callFunc {f : FuncId} {fn : Func} {c : Code} (hf : P.funcs[f]? = some fn) (hn : (fn.name == "runtime.NumGoroutine") = false) (hb : fn.body = some c) (args : Array Value) (w : World) : (callFunc f args).run P w = .ok (.enter f args) w := by
  have hn' : ¬ fn.name = "runtime.NumGoroutine" := by simpa using hn
  simp [callFunc, hf, hn', hb]

theorem acalls_of_awp {f : FuncId} {fn : Func} {c : Code} {xs : List AV} {h : List Blk} {live : List Nat} {K : KT} (hf : P.funcs[f]? = some fn) (hn : (fn.name == "runtime.NumGoroutine") = false) (hb : fn.body = some c) (hl : xs.length ≤ fn.ntmps)
    (hw : HCl h → (∀ x ∈ xs, x.cl h.length) → AwpC P c (fin P fn h K) ⟨fn.ntmps, fget (fargs xs 0), h, live⟩) : ACalls P f xs h live K := by
  intro w G vs hvl hr hh
  rw [run_callFunc hf hn hb]
  have hcl : ∀ x ∈ xs, x.cl h.length := fun x hx => by
    obtain ⟨i, hi, rfl⟩ := List.mem_iff_getElem.1 hx
    have := (hr i hi).cl
    rw [hh.len]
    simpa [List.getD_eq_getElem?_getD, hi] using this
  have hs : SRel w G { tmps := vs.toArray ++ Array.replicate (fn.ntmps - vs.toArray.size) undef, defers := [] } ⟨fn.ntmps, fget (fargs xs 0), h, live⟩ := by
    refine ⟨rfl, by simp; omega, hh, fun t => ?_⟩
    show Rep w G (fget (fargs xs 0) t) _
    rw [fget_args, if_pos (Nat.zero_le _), Nat.sub_zero]
    by_cases ht : t < xs.length
    · have := hr t ht
      have hv : t < vs.length := by omega
      have e : (vs.toArray ++ Array.replicate (fn.ntmps - vs.toArray.size) undef).getD t undef = vs.getD t undef := by
        simp [List.getD_eq_getElem?_getD, Array.getElem?_append, hv]
      rw [e]; exact this
    · have e : xs.getD t .undef = .undef := by simp [List.getD_eq_getElem?_getD, show xs.length ≤ t by omega]
      rw [e]; exact .undef _
  refine calls_of_wp hf hb (wp_mono (hw hh.hcl hcl w G _ hs) fun e a w' q => ?_)
  obtain ⟨G', S', q, hs', hev⟩ := q
  have key : ∀ (S' : AS), SRel w' G' a S' → Evo w G live w' G' S'.live → (∃ xs x h1 live1, aresults P S' fn.results.toList = some xs ∧ (x = atuple xs ∨ x = (atuple xs).er ∨ x = ((atuple xs).frz S'.h h1.length).er ∨ x = (atuple xs).frz S'.h h1.length) ∧ x.cl h1.length ∧ (∃ g junk, S'.h = g ++ junk ∧ BW g h1) ∧ HCl h1 ∧ h.length ≤ h1.length ∧ (∀ u ∈ live1, u ∈ S'.live) ∧ K x h1 live1) →
      a.defers = [] ∧ ∃ v, (results fn a.tmps).run P w' = .ok v w' ∧ ∃ v', Ending.returned v = Ending.returned v' ∧ Post w G live K v' w' := by
    intro S' hs' hev ⟨ys, x, h1, live1, hres, hx, hxc, ⟨gg, junk, hj, hbw⟩, hcl1, hlen, hlv, hk⟩
    obtain ⟨v, hv, hrep⟩ := results_sound hs' hres
    have hhp := hs'.heap
    rw [hj] at hhp
    replace hhp := hhp.weak (hbw.app (BW.refl junk))
    have hlo : G.n ≤ h1.length := by rw [← hh.len]; exact hlen
    have hhi : h1.length ≤ G'.n := by rw [← hhp.len]; simp
    rcases hx with rfl | rfl | rfl | rfl
    · exact ⟨hs'.defers, v, hv, v, rfl, _, h1, live1, G'.cut h1.length, hk, hrep.cut hxc, hhp.cut hcl1 hlv, hev.cut hlo hhi hlv⟩
    · exact ⟨hs'.defers, v, hv, v, rfl, _, h1, live1, G'.cut h1.length, hk, hrep.er.cut hxc, hhp.cut hcl1 hlv, hev.cut hlo hhi hlv⟩
    · exact ⟨hs'.defers, v, hv, v, rfl, _, h1, live1, (G'.frz h1.length).cut h1.length, hk, (frz_sound hs'.heap h1.length hrep).er.cut hxc, hhp.cutF hcl1 hlv, (hev.frz h1.length).cut hlo hhi hlv⟩
    · exact ⟨hs'.defers, v, hv, v, rfl, _, h1, live1, (G'.frz h1.length).cut h1.length, hk, (frz_sound hs'.heap h1.length hrep).cut hxc, hhp.cutF hcl1 hlv, (hev.frz h1.length).cut hlo hhi hlv⟩
  cases e with
  | normal => exact key S' hs' hev q
  | ret => exact key S' hs' hev q
  | _ => exact q.elim

/-- A contract of the guide's, of a function that leaves the world alone. -/
theorem acalls_of_calls {f : FuncId} {fn : Func} {xs : List AV} {h : List Blk} {live : List Nat} {y : AV} (hf : P.funcs[f]? = some fn) (hn : (fn.name == "runtime.NumGoroutine") = false) (hb : fn.body.isSome = true)
    (hc : ∀ w G (vs : List Value), vs.length = xs.length → (∀ i, i < xs.length → Rep w G (xs.getD i .undef) (vs.getD i undef)) → HRel w G h live → ∃ v, Rep w G y v ∧ Calls P f vs.toArray w fun e w' => e = .returned v ∧ w' = w) :
    ACalls P f xs h live (ret y h live) := by
  intro w G vs hvl hr hh
  obtain ⟨c, hb⟩ := Option.isSome_iff_exists.1 hb
  rw [run_callFunc hf hn hb]
  obtain ⟨v, hv, hcall⟩ := hc w G vs hvl hr hh
  refine Calls.mono hcall fun e w' ⟨he, hw'⟩ => ?_
  subst hw'
  exact ⟨v, he, y, h, live, G, ⟨rfl, rfl, rfl⟩, hv, hh, Evo.refl _ _ _⟩

end
end Go.Ab
