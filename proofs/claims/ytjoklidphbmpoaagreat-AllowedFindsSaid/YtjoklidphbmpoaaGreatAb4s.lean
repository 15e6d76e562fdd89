import Derived.Test.YtjoklidphbmpoaaGreatAb4
import Derived.Laws.BytesString
import Derived.Laws.IdiomStrings
/-
  THE FRAMEWORK, 4s: what an operation of Ab4 gives stands for what the model gives.
-/
namespace Go.Ab
set_option linter.unusedVariables false
set_option linter.unusedSimpArgs false
open Go.RowKit

theorem tk_one {P : Program} {t : TypeId} (h : tk P t = some .one) : ∃ d i, P.underlying t = some d ∧ d.isRow = false ∧ P.info? t = some i ∧ i.size = 1 := by
  unfold tk at h
  split at h
  · rename_i d hd
    split at h
    · rename_i i hi
      split at h
      · simp at h
      · split at h
        · rename_i h1 h2; exact ⟨d, i, hd, by simpa using h1, hi, h2⟩
        · simp at h
    · simp at h
  · simp at h

theorem tk_agg {P : Program} {t : TypeId} {n : Nat} (h : tk P t = some (.agg n)) : ∃ d i, P.underlying t = some d ∧ d.isRow = true ∧ P.info? t = some i ∧ i.size = n := by
  unfold tk at h
  split at h
  · rename_i d hd
    split at h
    · rename_i i hi
      split at h
      · rename_i h1; simp at h; exact ⟨d, i, hd, h1, hi, h⟩
      · split at h <;> simp at h
    · simp at h
  · simp at h

theorem run_isAgg_of {P : Program} {t : TypeId} {d : TypeDesc} (h : P.underlying t = some d) (w : World) : (isAgg t).run P w = .ok d.isRow w := by
  unfold isAgg
  rw [Sem.run_bind, run_underlying h w]
  cases d <;> rfl

theorem getD_drop_take {α : Type} (l : List α) (o n i : Nat) (d : α) (hi : i < n) : ((l.drop o).take n).getD i d = l.getD (o + i) d := by
  simp [List.getD_eq_getElem?_getD, List.getElem?_take, hi]

theorem getD_lt {α : Type} {l : List α} {i : Nat} (d e : α) (h : i < l.length) : l.getD i d = l.getD i e := by
  simp [List.getD_eq_getElem?_getD, h]

theorem get?_getD {α : Type} {l : List α} {i : Nat} {x : α} (d : α) (h : l[i]? = some x) : i < l.length ∧ l.getD i d = x := by
  refine ⟨(List.getElem?_eq_some_iff.1 h).1, by simp [List.getD_eq_getElem?_getD, h]⟩

theorem part_sound {P : Program} {w : World} {G : Gh} {t : TypeId} {k : TK} (hk : tk P t = some k) {cs : List AV} {vs : List Value} (hl : vs.length = cs.length)
    (hone : ∀ i, i < cs.length → (vs.getD i undef).oneCell' = true) (hrep : ∀ i, i < cs.length → Rep w G (cs.getD i .undef) (vs.getD i undef)) {off : Nat} {x : AV} (hx : getCells cs off k = some x) :
    ∃ v, (part t vs.toArray off).run P w = .ok v w ∧ Rep w G x v := by
  cases k with
  | one =>
    obtain ⟨d, i, hu, hd, hi, hs⟩ := tk_one hk
    obtain ⟨hlt, hge⟩ := get?_getD .undef hx
    refine ⟨vs.getD off undef, ?_, by rw [← hge]; exact hrep off hlt⟩
    have hv : vs.toArray[off]? = some (vs.getD off undef) := by
      simp [List.getD_eq_getElem?_getD, show off < vs.length by omega]
    simp only [part, Sem.run_bind, run_isAgg_of hu, hd, Result.andThen_ok, hv]
    rfl
  | agg n =>
    obtain ⟨d, i, hu, hd, hi, hs⟩ := tk_agg hk
    simp only [getCells] at hx
    split at hx
    · rename_i hle
      simp at hx
      subst hx
      refine ⟨.agg ((vs.drop off).take n).toArray, ?_, .agg _ _ ?_ (fun j hj => ?_) (fun j hj => ?_)⟩
      · have hz : (sizeOf t).run P w = .ok n w := by simp [sizeOf, typeInfo, hi, hs]
        simp only [part, Sem.run_bind, run_isAgg_of hu, hd, Result.andThen_ok, if_true, hz, Sem.run_pure]
        congr 2
        simp [List.extract_toArray, List.extract_eq_take_drop]
      · simp; omega
      · simp at hj
        rw [getD_drop_take _ _ _ _ _ (by omega)]
        exact hone _ (by omega)
      · simp at hj
        rw [getD_drop_take _ _ _ _ _ (by omega), getD_drop_take _ _ _ _ _ (by omega)]
        exact hrep _ (by omega)
    · simp at hx

def CellsAt (w : World) (G : Gh) (b o : Nat) (c : List AV) : Prop :=
  ∃ f : Nat → Value, ∀ i, i < c.length → w.cell? ⟨b, o + i, none⟩ = some (f i) ∧ (f i).oneCell' = true ∧ Rep w G (c.getD i .undef) (f i)

theorem load_sound {P : Program} {w : World} {G : Gh} {t : TypeId} {k : TK} (hk : tk P t = some k) {b o off : Nat} {c : List AV} (hc : CellsAt w G b o c) {x : AV} (hx : getCells c off k = some x) :
    ∃ v, (loadVar t ⟨b, o + off, none⟩).run P w = .ok v w ∧ Rep w G x v := by
  obtain ⟨f, hf⟩ := hc
  cases k with
  | one =>
    obtain ⟨d, i, hu, hd, hi, hs⟩ := tk_one hk
    obtain ⟨hlt, hge⟩ := get?_getD .undef hx
    refine ⟨f off, ?_, by rw [← hge]; exact (hf off hlt).2.2⟩
    simp only [loadVar, Sem.run_bind, run_isAgg_of hu, hd, Result.andThen_ok]
    simp [(hf off hlt).1]
  | agg n =>
    obtain ⟨d, i, hu, hd, hi, hs⟩ := tk_agg hk
    simp only [getCells] at hx
    split at hx
    · rename_i hle
      simp at hx
      subst hx
      let vs : List Value := (List.range n).map fun j => f (off + j)
      have hvl : vs.length = n := by simp [vs]
      have hvs : ∀ j, j < n → vs.getD j undef = f (off + j) := fun j hj => by simp [vs, List.getD_eq_getElem?_getD, hj]
      refine ⟨.agg vs.toArray, run_loadVar_mid w b (o + off) t vs d (fun j v hv => ?_) hu hd (by simp [hi, hs, hvl]), .agg _ _ ?_ (fun j hj => ?_) (fun j hj => ?_)⟩
      · obtain ⟨h1, h2⟩ := get?_getD undef hv
        rw [hvl] at h1
        rw [hvs j h1] at h2
        have := (hf (off + j) (by omega)).1
        rw [← h2, ← this, Nat.add_assoc]
      · simp [hvl]; omega
      · simp at hj
        rw [hvs j (by omega)]
        exact (hf _ (by omega)).2.1
      · simp at hj
        rw [hvs j (by omega), getD_drop_take _ _ _ _ _ (by omega)]
        exact (hf _ (by omega)).2.2
    · simp at hx

/-- 'The operation gives a value that x stands for, and no block turns.' -/
def Gives (P : Program) (w : World) (G : Gh) (s : Sem Next) (x : AV) : Prop := ∃ v, s.run P w = .ok (.value v) w ∧ Rep w G x v

theorem AOp.gives {P : Program} {fr : Nat → AV} {h : List Blk} {live : List Nat} {o : Oper} {x : AV}
    (hg : ∀ w G (ρ : Operand → Value), (∀ y ∈ o.op.operands, Rep w G (ev fr y) (ρ y)) → HRel w G h live → Gives P w G (execOp ρ o) x) : AOp P fr h live o (ret x h live) := by
  intro w G ρ hρ hr hh
  obtain ⟨v, hv, hx⟩ := hg w G ρ hr hh
  rw [hv]
  exact ⟨x, h, live, G, ⟨rfl, rfl, rfl⟩, hx, hh, Evo.refl _ _ _⟩

section each
variable {P : Program} {w : World} {G : Gh}

theorem beq_dec (a b : List UInt8) : (a == b) = decide (a = b) := by rw [Bool.eq_iff_iff]; simp

theorem binOp_sound {op : BinOp} {t : TypeId} {x y : Operand} {a b : AV} {u v : Value} (ha : Rep w G a u) (hb : Rep w G b v) {r : AV} (hr : abinOp op a b = some r) :
    ∃ z, (do eqGuard op t x y u v; binOp op t u v : Sem Value).run P w = .ok z w ∧ Rep w G r z := by
  unfold abinOp at hr
  split at hr
  · rename_i k a k' b
    cases ha; cases hb
    simp only [eqGuard_at_int, pure_bind]
    split at hr
    · split at hr
      · rename_i hb0
        simp at hr; subst hr
        refine ⟨_, ?_, .int _ _⟩
        simp [binOp, Op.shift, show ¬ b < 0 by omega]
      · simp at hr
    · split at hr
      · rename_i hb0
        simp at hr; subst hr
        refine ⟨_, ?_, .int _ _⟩
        simp [binOp, Op.shift, show ¬ b < 0 by omega]
      · simp at hr
    · split at hr
      · rename_i hkk
        subst hkk
        split at hr <;> first
          | (simp at hr; subst hr; refine ⟨_, ?_, .int _ _⟩; simp [binOp, Op.intArith]; done)
          | (simp at hr; subst hr; refine ⟨_, ?_, .int _ _⟩; simp [binOp, intBits_and, intBits_or, intBits_xor, intBits_andNot]; done)
          | (simp at hr; subst hr; refine ⟨_, ?_, .bool _⟩; simp [binOp, Op.intCmp]; done)
          | (split at hr
             · simp at hr
             · rename_i hb0; simp at hr; subst hr; refine ⟨_, ?_, .int _ _⟩; simp [binOp, Op.intDiv, hb0])
          | (simp at hr; done)
          | (simp at hr; subst hr; refine ⟨_, ?_, .bool _⟩; simp [binOp, Op.intCmp]; rfl)
          | skip
      · simp at hr
  · rename_i a b
    cases ha; cases hb
    simp only [eqGuard_at_string, pure_bind]
    split at hr
    · simp at hr
      obtain ⟨hle, rfl⟩ := hr
      refine ⟨_, ?_, .str _⟩
      have hsz : ¬ ((((⟨a.toArray⟩ : ByteArray).size + (⟨b.toArray⟩ : ByteArray).size : Nat) : Int) > IntKind.i64.max) := by
        rw [IntKind.max_i64]; simp [ByteArray.size]; omega
      simp only [binOp, Op.stringOp, if_neg hsz]
      show Result.ok _ w = _
      congr 2
    all_goals first
      | (cases hr; refine ⟨_, ?_, .bool _⟩; simp [binOp, Op.stringOp]; done)
      | (cases hr; done)
      | (cases hr; refine ⟨_, ?_, .bool _⟩; simp [binOp, Op.stringOp, beq_dec]; done)
  · simp at hr

theorem unOp_sound {op : UnOp} {a : AV} {u : Value} (ha : Rep w G a u) {r : AV} (hr : aunOp op a = some r) : ∃ z, (Op.unary op u).run P w = .ok z w ∧ Rep w G r z := by
  unfold aunOp at hr
  split at hr
  · cases ha; cases hr; exact ⟨_, rfl, .bool _⟩
  · cases ha; cases hr; exact ⟨_, rfl, .int _ _⟩
  · cases ha; cases hr; exact ⟨_, rfl, .int _ _⟩
  · simp at hr

theorem isBytesT_sound {t : TypeId} (hs : isBytesT P t = true) : ∃ e, P.underlying t = some (.slice e) ∧ P.underlying e = some (.int .u8) := by
  unfold isBytesT at hs
  split at hs
  · rename_i e he
    split at hs
    · rename_i he2; exact ⟨e, he, he2⟩
    · simp at hs
  · simp at hs

theorem abytes_sound : ∀ {l : List AV} {bs : List UInt8}, abytes l = some bs → ∃ ns : List Int, l = ns.map (AV.int .u8) ∧ bs = ns.map fun n => UInt8.ofNat n.toNat
  | [], bs, h => by cases h; exact ⟨[], rfl, rfl⟩
  | x :: r, bs, h => by
    unfold abytes at h
    split at h
    · rename_i e; cases e
    · rename_i n r' e
      cases e
      split at h
      · rename_i l hl
        cases h
        obtain ⟨ns, rfl, rfl⟩ := abytes_sound hl
        exact ⟨n :: ns, rfl, rfl⟩
      · simp at h
    · simp at h

theorem foldl_push_ints : ∀ (l : List Int) (r : ByteArray), l.foldl (fun r n => r.push (UInt8.ofNat n.toNat)) r = ⟨r.data ++ (l.map fun n => UInt8.ofNat n.toNat).toArray⟩
  | [], r => by simp
  | b :: l, r => by
    simp only [List.map_cons, List.foldl_cons]
    rw [foldl_push_ints l]
    simp [ByteArray.push]

theorem bytesStr_sound {s d : TypeId} (hs : isBytesT P s = true) (hd : isStrT P d = true) {l : List AV} {bs : List UInt8} (hb : abytes l = some bs) {c : Cap} {u : Value} (ha : Rep w G (.slice l c) u) :
    (convert s d u).run P w = .ok (.string ⟨bs.toArray⟩) w := by
  obtain ⟨e, he, he2⟩ := isBytesT_sound hs
  have hst := isStrT_sound hd
  obtain ⟨ns, hl, rfl⟩ := abytes_sound hb
  have key : ∀ (a : Addr) (cap : Nat), (∀ j v, (ns.map (Value.int .u8))[j]? = some v → w.cell? (a.add j) = some v) → (convert s d (.slice (some a) ns.length cap)).run P w = .ok (.string ⟨(ns.map fun n => UInt8.ofNat n.toNat).toArray⟩) w := by
    intro a cap hc
    have h1 := run_loadCells_list (P := P) w a (ns.map (Value.int .u8)) hc
    simp only [List.length_map] at h1
    rw [run_convert_bytes_string w s d e (some a) ns.length cap he he2 hst, run_bytesToString w a ns.length cap ns h1, foldl_push_ints]
    have he0 : ByteArray.empty.data = #[] := rfl
    rw [he0]
    simp
  have hlen : l.length = ns.length := by rw [hl]; simp
  cases ha with
  | nilSlice =>
    have : ns = [] := List.eq_nil_of_length_eq_zero (by simpa using hlen.symm)
    subst this
    simp [convert, run_underlying he, run_underlying he2, run_underlying hst, Conv.bytesToString]; rfl
  | emptySlice a =>
    have : ns = [] := List.eq_nil_of_length_eq_zero (by simpa using hlen.symm)
    subst this
    exact key a 0 (fun j v hj => by simp at hj)
  | slice _ _ b o cap sz f hcap hmax hsz himm hcell hone hrep hc =>
    rw [hlen]
    refine key ⟨b, o, none⟩ cap (fun j v hj => ?_)
    have hj' : j < ns.length := by have := (List.getElem?_eq_some_iff.1 hj).1; simpa using this
    have hg : l.getD j .undef = .int .u8 (ns.getD j 0) := by rw [hl]; simp [List.getD_eq_getElem?_getD, hj']
    have hjl : j < l.length := by omega
    have e1 : sz = 1 := by rw [← hsz j hjl, hg]; rfl
    subst e1
    have h1 := hcell j 0 hjl (by omega)
    have h2 := hrep j 0 hjl (by omega)
    rw [hg] at h2
    simp only [AV.cells, List.getD_cons_zero] at h2
    generalize f j 0 = x at h1 h2
    cases h2
    simp only [Nat.mul_one, Nat.add_zero] at h1
    rw [Addr.add_lit, h1]
    simp [hj'] at hj
    rw [← hj]
    simp [List.getD_eq_getElem?_getD, hj']

theorem convert_sound {s d : TypeId} {a : AV} {u : Value} (ha : Rep w G a u) {r : AV} (hr : aconvert P s d a = some r) : ∃ z, (convert s d u).run P w = .ok z w ∧ Rep w G r z := by
  unfold aconvert at hr
  split at hr
  · cases ha
    split at hr
    · rename_i hk
      obtain ⟨ds, hs⟩ := Option.isSome_iff_exists.1 (show (P.underlying s).isSome = true from hk)
      split at hr
      · rename_i k hd
        cases hr
        refine ⟨_, ?_, .int _ _⟩
        simp [convert, run_underlying hs, run_underlying (intT_sound hd), Conv.intToInt]
      · split at hr
        · rename_i hd
          cases hr
          exact ⟨_, run_convert_int_string w s d _ _ hk (isStrT_sound hd), .str _⟩
        · simp at hr
    · simp at hr
  · cases ha
    split at hr
    · rename_i hs hd
      cases hr
      refine ⟨_, ?_, .str _⟩
      simp [convert, run_underlying (isStrT_sound hs), run_underlying (isStrT_sound hd)]
    · simp at hr
  · split at hr
    · rename_i hs hd
      split at hr
      · rename_i bs hb
        cases hr
        exact ⟨_, bytesStr_sound hs hd hb ha, .str _⟩
      · simp at hr
    · simp at hr
  · simp at hr

theorem nil_sound {a : AV} {u : Value} (ha : Rep w G a u) {r : AV} (hr : anil a = some r) : r = a ∧ ((∃ b, u = .pointer (some b)) ∨ ∃ f x y, u = .func (.func f) x y) := by
  unfold anil at hr
  split at hr <;> simp at hr
  · subst hr; cases ha; exact ⟨rfl, .inl ⟨_, rfl⟩⟩
  · subst hr; cases ha; exact ⟨rfl, .inl ⟨_, rfl⟩⟩
  · subst hr; cases ha; exact ⟨rfl, .inl ⟨_, rfl⟩⟩
  · subst hr; cases ha; exact ⟨rfl, .inr ⟨_, _, _, rfl⟩⟩

theorem pick_sound {b : Bool} {x y : AV} {u v : Value} (hx : Rep w G x u) (hy : Rep w G y v) : Rep w G (apick b x y) (if b then u else v) := by
  unfold apick
  split
  · cases hx; cases hy; cases b <;> exact .bool _
  · cases b
    · exact hy
    · exact hx

theorem fldOff_sound {s : TypeId} {i o : Nat} (h : fldOff P s i = some o) : ∃ fs f, P.underlying s = some (.struct fs) ∧ fs[i]? = some f ∧ f.offset = o ∧ ∀ a : Addr, (fieldPlace a f).run P w = .ok (a.add o) w := by
  unfold fldOff at h
  split at h
  · rename_i fs hs
    split at h
    · rename_i f hf
      split at h
      · rename_i j hj
        split at h
        · simp at h
        · rename_i hz
          simp at h
          refine ⟨fs, f, hs, hf, h, fun a => ?_⟩
          simp [fieldPlace, sizeOf, typeInfo, hj, hz, h]
      · simp at h
    · simp at h
  · simp at h

theorem fieldAt_sound {s : TypeId} {i o : Nat} (h : fldOff P s i = some o) (b off : Nat) : (Instr.fieldAt s (.pointer (some ⟨b, off, none⟩)) i).run P w = .ok (.pointer (some ⟨b, off + o, none⟩)) w := by
  obtain ⟨fs, f, hs, hf, ho, hp⟩ := fldOff_sound (w := w) h
  simp [Instr.fieldAt, run_underlying hs, hf, Instr.sureAddr, hp, Addr.add_lit]

theorem fldTK_sound {s : TypeId} {i o : Nat} {k : TK} (h : fldTK P s i = some (o, k)) : ∃ fs f, P.underlying s = some (.struct fs) ∧ fs[i]? = some f ∧ f.offset = o ∧ tk P f.type = some k := by
  unfold fldTK at h
  split at h
  · rename_i fs hs
    split at h
    · rename_i f hf
      split at h
      · rename_i j hj
        simp at h
        exact ⟨fs, f, hs, hf, h.1, by rw [hj, h.2]⟩
      · simp at h
    · simp at h
  · simp at h

theorem field_sound {s : TypeId} {i o : Nat} {k : TK} (h : fldTK P s i = some (o, k)) {cs : List AV} {u : Value} (ha : Rep w G (.agg cs) u) {r : AV} (hr : getCells cs o k = some r) :
    ∃ z, (Instr.field s u i).run P w = .ok z w ∧ Rep w G r z := by
  obtain ⟨fs, f, hs, hf, ho, hk⟩ := fldTK_sound h
  cases ha
  rename_i vs hl hone hrep
  obtain ⟨v, hv, hx⟩ := part_sound (P := P) hk hl hone hrep hr
  refine ⟨v, ?_, hx⟩
  subst ho
  simp [Instr.field, run_underlying hs, hf, asAgg, hv]

theorem indexAddr_sound {t : TypeId} {a i : AV} {u v : Value} (ha : Rep w G a u) (hi : Rep w G i v) {r : AV} (hr : aindexAddr P t a i = some r) : ∃ z, (Instr.indexAt t u v).run P w = .ok z w ∧ Rep w G r z := by
  unfold aindexAddr at hr
  split at hr
  · rename_i k n
    cases hi
    split at hr
    · rename_i l c
      split at hr
      · rename_i sz0 hsz0
        obtain ⟨e, j, he, hj, hjs⟩ := sliceSz_sound hsz0
        subst hjs
        split at hr
        · rename_i hc
          obtain ⟨h0, hlt, hsz⟩ := hc
          cases hr
          have hlt' : n.toNat < l.length := by omega
          cases ha with
          | nilSlice c h => simp at hlt; omega
          | emptySlice a c h => simp at hlt; omega
          | slice _ _ b o cap sz f hcap hmax hs himm hcell hone hrep hcc =>
            have hszj : sz = j.size := by rw [← hs n.toNat hlt']; exact hsz
            subst hszj
            refine ⟨.pointer (some ⟨b, o + n.toNat * j.size, none⟩), ?_, ?_⟩
            · simp [Instr.indexAt, asIntOf, run_underlying he, h0, hlt, sizeOf, typeInfo, hj, Addr.add_lit]
            · have := Rep.eptr (w := w) (G := G) (l.getD n.toNat .undef).cells 0 b (o + n.toNat * j.size) (fun q => f n.toNat q)
                (fun q hq => by rw [Nat.add_assoc]; exact himm _ _ hlt' (by rw [← hsz]; exact hq))
                (fun q hq => by rw [Nat.add_assoc]; exact hcell _ _ hlt' (by rw [← hsz]; exact hq))
                (fun q hq => hone _ _ hlt' (by rw [← hsz]; exact hq))
                (fun q hq => hrep _ _ hlt' (by rw [← hsz]; exact hq))
              simpa using this
        · simp at hr
      · simp at hr
    · rename_i q off
      split at hr
      · rename_i len sz0 hsz0
        obtain ⟨e, j, he, hj, hjs⟩ := arrSz_sound hsz0
        subst hjs
        split at hr
        · rename_i hc
          cases hr
          cases ha
          rename_i hq
          refine ⟨_, ?_, .ptr _ _ hq⟩
          simp [Instr.indexAt, asIntOf, run_underlying he, hc.1, hc.2, sizeOf, typeInfo, hj, Addr.add_lit, Instr.sureAddr]
        · simp at hr
      · simp at hr
    · rename_i q off sz ag len cap
      split at hr
      · rename_i s hs
        obtain ⟨e, j, he, hj, hjs⟩ := sliceSz_sound hs
        subst hjs
        split at hr
        · rename_i hc
          obtain ⟨h1, h2, h3⟩ := hc
          subst h1
          cases hr
          cases ha
          rename_i hq hl hm
          refine ⟨.pointer (some ⟨G.blk q, off + n.toNat * j.size, none⟩), ?_, .ptr _ _ hq⟩
          simp [Instr.indexAt, asIntOf, run_underlying he, h2, h3, sizeOf, typeInfo, hj, Addr.add_lit]
        · simp at hr
      · simp at hr
    · rename_i q off
      split at hr
      · rename_i len sz0 hsz0
        obtain ⟨e, j, he, hj, hjs⟩ := arrSz_sound hsz0
        subst hjs
        split at hr
        · rename_i hc
          cases hr
          cases ha
          refine ⟨_, ?_, .glob _ _⟩
          simp [Instr.indexAt, asIntOf, run_underlying he, hc.1, hc.2, sizeOf, typeInfo, hj, Addr.add_lit, Instr.sureAddr]
        · simp at hr
      · simp at hr
    · simp at hr
  · simp at hr

theorem index_sound {t : TypeId} {a i : AV} {u v : Value} (ha : Rep w G a u) (hi : Rep w G i v) {r : AV} (hr : aindex P t a i = some r) : ∃ z, (Instr.index t u v).run P w = .ok z w ∧ Rep w G r z := by
  unfold aindex at hr
  split at hr
  · rename_i k n
    cases hi
    split at hr
    · rename_i l
      split at hr
      · rename_i hst
        have he := isStrT_sound hst
        split at hr
        · rename_i hc
          cases hr
          cases ha
          refine ⟨_, ?_, .int _ _⟩
          have hlt : n.toNat < l.length := by omega
          rw [run_index_string (P := P) w t _ k n he]
          rw [dif_pos (by simp [ByteArray.size]; omega)]
          congr 2
          simp [List.getD_eq_getElem?_getD, hlt, ByteArray.getElem_eq_getElem_data]
        · simp at hr
      · simp at hr
    · rename_i cs
      split at hr
      · rename_i len sz0 kk hsz0 hk0
        obtain ⟨e, j, he, hj, hjs⟩ := arrSz_sound hsz0
        subst hjs
        have hk : tk P e = some kk := by unfold arrTK at hk0; rw [he] at hk0; exact hk0
        split at hr
        · rename_i hc
          cases ha
          rename_i vs hl hone hrep
          obtain ⟨z, hz, hx⟩ := part_sound (P := P) hk hl hone hrep hr
          refine ⟨z, ?_, hx⟩
          simp [Instr.index, asIntOf, run_underlying he, hc.1, hc.2, sizeOf, typeInfo, hj, hz]
        · simp at hr
      · simp at hr
    · simp at hr
  · simp at hr

theorem len_sound {t ty : TypeId} {a : AV} {u : Value} (ha : Rep w G a u) {r : AV} (hr : alen P t a = some r) : ∃ z, (Builtin.len_ #[t] ty #[u]).run P w = .ok z w ∧ Rep w G r z := by
  unfold alen at hr
  split at hr
  · split at hr
    · rename_i hs
      cases hr
      cases ha
      refine ⟨_, ?_, .int _ _⟩
      rw [run_len_string w t ty _ (isStrT_sound hs)]
      simp [goInt, ByteArray.size]
    · simp at hr
  · split at hr
    · rename_i hs
      cases hr
      unfold isSliceT at hs
      split at hs
      · rename_i e he
        cases ha
        · exact ⟨_, by simp [Builtin.len_, run_underlying he, goInt], .int _ _⟩
        · exact ⟨_, by simp [Builtin.len_, run_underlying he, goInt], .int _ _⟩
        · exact ⟨_, by simp [Builtin.len_, run_underlying he, goInt], .int _ _⟩
      · simp at hs
    · simp at hr
  · split at hr
    · rename_i hs
      cases hr
      unfold isSliceT at hs
      split at hs
      · rename_i e he
        cases ha
        exact ⟨_, by simp [Builtin.len_, run_underlying he, goInt], .int _ _⟩
      · simp at hs
    · simp at hr
  · simp at hr

theorem abound_sound {lo : Option AV} {lv : Option Value} (h : match lo, lv with | some a, some u => Rep w G a u | none, none => True | _, _ => False) {d a : Int} (ha : abound d lo = some a) :
    (lo = none ∧ lv = none ∧ a = d) ∨ ∃ k, lv = some (.int k a) ∧ lo.isSome = true := by
  cases lo with
  | none =>
    cases lv with
    | none => simp [abound] at ha; exact .inl ⟨rfl, rfl, ha.symm⟩
    | some u => exact h.elim
  | some x =>
    cases lv with
    | none => exact h.elim
    | some u =>
      unfold abound at ha
      cases x <;> simp at ha
      rename_i k n
      subst ha
      cases (h : Rep w G _ u)
      exact .inr ⟨_, rfl, rfl⟩

theorem bounds_none {isSlice : Bool} {len cap : Nat} {lv hv : Option Value} {a b : Int}
    (hl : (lv = none ∧ a = 0) ∨ ∃ k, lv = some (.int k a)) (hh : (hv = none ∧ b = len) ∨ ∃ k, hv = some (.int k b)) (h0 : 0 ≤ a) (h1 : a ≤ b) (h2 : b ≤ cap) :
    (Instr.sliceBounds isSlice len cap lv hv none).run P w = .ok (a.toNat, b.toNat, cap) w := by
  have e1 : (b.toNat : Int) = b := Int.toNat_of_nonneg (by omega)
  rcases hl with ⟨rfl, rfl⟩ | ⟨k, rfl⟩ <;> rcases hh with ⟨rfl, rfl⟩ | ⟨k', rfl⟩
  · simp [Instr.sliceBounds]
  · simp [Instr.sliceBounds, run_sliceBound w k' b cap _ (by omega) h2]
  · simp [Instr.sliceBounds, run_sliceBound w k a len _ h0 h1]
  · simp [Instr.sliceBounds, run_sliceBound w k' b cap _ (by omega) h2, run_sliceBound w k a b.toNat _ h0 (by omega)]

theorem bounds_max {len cap : Nat} {lv : Option Value} {a b : Int} {k' k2 : IntKind}
    (hl : (lv = none ∧ a = 0) ∨ ∃ k, lv = some (.int k a)) (h0 : 0 ≤ a) (h1 : a ≤ b) (h2 : b ≤ cap) :
    (Instr.sliceBounds true len cap lv (some (.int k' b)) (some (.int k2 b))).run P w = .ok (a.toNat, b.toNat, b.toNat) w := by
  rcases hl with ⟨rfl, rfl⟩ | ⟨k, rfl⟩
  · simp [Instr.sliceBounds, run_sliceBound w k2 b cap _ (by omega) h2, run_sliceBound w k' b b.toNat _ (by omega) (by omega)]
  · simp [Instr.sliceBounds, run_sliceBound w k2 b cap _ (by omega) h2, run_sliceBound w k' b b.toNat _ (by omega) (by omega), run_sliceBound w k a b.toNat _ h0 (by omega)]

theorem sub_sound {l : List AV} {c c' : Cap} {base : Option Addr} {n cap : Nat} (h : Rep w G (.slice l c) (.slice base n cap)) {a b m size : Nat} (hab : a ≤ b) (hb : b ≤ l.length) (hbm : b ≤ m) (hm : m ≤ cap)
    (hs : ∀ i, i < l.length → (l.getD i .undef).cells.length = size)
    (hc : c' = .none ∨ (c' = .full ∧ m = b) ∨ (c = .full ∧ c' = .full ∧ b = l.length ∧ m = cap) ∨ (c' = c ∧ a = 0 ∧ b = l.length ∧ m = cap)) :
    Rep w G (.slice ((l.drop a).take (b - a)) c') (.slice (if m = a then base else base.map (·.add (a * size))) (b - a) (m - a)) := by
  have hlen : ((l.drop a).take (b - a)).length = b - a := by simp; omega
  cases h with
  | nilSlice _ hown =>
    simp at hb
    have : a = 0 := by omega
    have : m = 0 := by omega
    subst b; subst a; subst m
    simp only [List.drop_nil, List.take_nil, Nat.sub_self, if_true]
    refine .nilSlice _ ?_
    rcases hc with rfl | ⟨rfl, _⟩ | ⟨_, rfl, _⟩ | ⟨rfl, _⟩ <;> first | rfl | exact hown
  | emptySlice a0 _ hown =>
    simp at hb
    have : a = 0 := by omega
    have : m = 0 := by omega
    subst b; subst a; subst m
    simp only [List.drop_nil, List.take_nil, Nat.sub_self, if_true]
    refine .emptySlice _ _ ?_
    rcases hc with rfl | ⟨rfl, _⟩ | ⟨_, rfl, _⟩ | ⟨rfl, _⟩ <;> first | rfl | exact hown
  | slice _ _ b0 o _ sz f hcap hmax hsz himm hcell hone hrep hcc =>
    have hbase : (if m = a then (some ⟨b0, o, none⟩ : Option Addr) else (some (⟨b0, o, none⟩ : Addr)).map (·.add (a * size))) = some ⟨b0, if m = a then o else o + a * size, none⟩ := by
      by_cases hma : m = a
      · simp [hma]
      · simp [hma, Addr.add_lit]
    rw [hbase]
    have key : Rep w G (.slice ((l.drop a).take (b - a)) c') (.slice (some ⟨b0, if m = a then o else o + a * size, none⟩) ((l.drop a).take (b - a)).length (m - a)) := by
      have hl0 : ∀ i, i < ((l.drop a).take (b - a)).length → a + i < l.length ∧ i < b - a ∧ size = sz ∧ m ≠ a := fun i hi => by
        rw [hlen] at hi
        exact ⟨by omega, hi, by rw [← hs (a + i) (by omega), hsz (a + i) (by omega)], by omega⟩
      have hg : ∀ i, i < ((l.drop a).take (b - a)).length → ((l.drop a).take (b - a)).getD i .undef = l.getD (a + i) .undef := fun i hi => getD_drop_take _ _ _ _ _ (hl0 i hi).2.1
      have hadd : ∀ i j, i < ((l.drop a).take (b - a)).length → (if m = a then o else o + a * size) + (i * sz + j) = o + ((a + i) * sz + j) := fun i j hi => by
        rw [if_neg (hl0 i hi).2.2.2, (hl0 i hi).2.2.1, Nat.add_mul]; omega
      refine .slice _ _ b0 _ _ sz (fun i j => f (a + i) j) (by rw [hlen]; omega) (by omega) (fun i hi => ?_) (fun i j hi hj => ?_) (fun i j hi hj => ?_) (fun i j hi hj => hone _ _ (hl0 i hi).1 hj) (fun i j hi hj => ?_) ?_
      · rw [hg i hi]; exact hsz _ (hl0 i hi).1
      · rw [hadd i j hi]; exact himm _ _ (hl0 i hi).1 hj
      · rw [hadd i j hi]; exact hcell _ _ (hl0 i hi).1 hj
      · rw [hg i hi]; exact hrep _ _ (hl0 i hi).1 hj
      · rw [hlen]
        rcases hc with rfl | ⟨rfl, h1⟩ | ⟨rfl, rfl, h1, h2⟩ | ⟨rfl, h1, h2, h3⟩
        · trivial
        · show m - a = b - a; omega
        · simp only [CapRep] at hcc ⊢; omega
        · subst h1; subst h2; subst h3
          cases c' with
          | none => trivial
          | full => simp only [CapRep] at hcc ⊢; omega
          | own t =>
            obtain ⟨h1, h0, e, h2⟩ := hcc
            refine ⟨by subst h1; simp, by omega, e, ?_⟩
            simpa using h2
    rw [hlen] at key
    exact key

def optRep (w : World) (G : Gh) : Option AV → Option Value → Prop
  | some a, some u => Rep w G a u
  | none, none => True
  | _, _ => False

theorem slice_sound {t : TypeId} {x : AV} {lo hi mx : Option AV} {u : Value} {lv hv mv : Option Value} (hx : Rep w G x u) (hlo : optRep w G lo lv) (hhi : optRep w G hi hv) (hmx : optRep w G mx mv)
    {r : AV} (hr : aslice P t x lo hi mx = some r) : ∃ z, (Instr.sliceAt t u lv hv mv).run P w = .ok z w ∧ Rep w G r z := by
  have bl : ∀ {d a : Int}, abound d lo = some a → ((lv = none ∧ a = d) ∨ ∃ k, lv = some (.int k a)) := fun {d a} h => by
    rcases abound_sound (by unfold optRep at hlo; exact hlo) h with ⟨_, h1, h2⟩ | ⟨k, h1, _⟩
    · exact .inl ⟨h1, h2⟩
    · exact .inr ⟨k, h1⟩
  have bh : ∀ {d a : Int}, abound d hi = some a → ((hv = none ∧ a = d ∧ hi = none) ∨ ∃ k, hv = some (.int k a) ∧ hi.isSome = true) := fun {d a} h => by
    rcases abound_sound (by unfold optRep at hhi; exact hhi) h with ⟨h0, h1, h2⟩ | ⟨k, h1, h2⟩
    · exact .inl ⟨h1, h2, h0⟩
    · exact .inr ⟨k, h1, h2⟩
  unfold aslice at hr
  split at hr
  · rename_i l
    split at hr
    · rename_i hst
      have hs := isStrT_sound hst
      split at hr
      · rename_i a b ha hb
        split at hr
        · rename_i hc
          obtain ⟨h0, h1, h2⟩ := hc
          cases hr
          cases hx
          cases mv with
          | some _ => exact hmx.elim
          | none =>
            refine ⟨_, ?_, .str _⟩
            have hsize : (⟨l.toArray⟩ : ByteArray).size = l.length := by simp [ByteArray.size]
            have hB := bounds_none (P := P) (w := w) (isSlice := false) (len := l.length) (cap := l.length) (bl ha) ((bh hb).imp (fun h => ⟨h.1, h.2.1⟩) (fun ⟨k, h, _⟩ => ⟨k, h⟩)) h0 h1 h2
            rw [run_sliceAt_string (P := P) w t _ _ _ _ hs]
            simp only [Instr.slice, Sem.run_bind, run_underlying hs, Result.andThen_ok, Option.isSome_none, Bool.false_eq_true, if_false, hsize, hB, Sem.run_pure]
            congr 2
            apply ByteArray.ext
            simp [List.extract_eq_take_drop]
        · simp at hr
      · simp at hr
    · simp at hr
  · rename_i l c
    split at hr
    · rename_i sz0 hsz0
      obtain ⟨e, j, he, hj, hjs⟩ := sliceSz_sound hsz0
      subst hjs
      have hsz : (sizeOf e).run P w = .ok j.size w := by simp [sizeOf, typeInfo, hj]
      obtain ⟨base, n, cap, rfl, hn, hcap⟩ : ∃ base n cap, u = .slice base n cap ∧ n = l.length ∧ n ≤ cap := by
        cases hx with
        | nilSlice _ _ => exact ⟨none, 0, 0, rfl, rfl, Nat.le_refl _⟩
        | emptySlice _ _ _ => exact ⟨_, 0, 0, rfl, rfl, Nat.le_refl _⟩
        | slice _ _ b0 o cap sz f hcap hmax hsz himm hcell hone hrep hcc => exact ⟨_, _, _, rfl, rfl, hcap⟩
      subst hn
      have hat : (Instr.sliceAt t (.slice base l.length cap) lv hv mv).run P w = (Instr.slice t (.slice base l.length cap) lv hv mv).run P w := by simp [Instr.sliceAt, run_underlying he]
      rw [hat]
      split at hr
      · split at hr
        · rename_i a b ha hb
          split at hr
          · rename_i hc
            obtain ⟨h0, h1, h2, h3⟩ := hc
            cases hr
            cases mv with
            | some _ => exact hmx.elim
            | none =>
              have hB := bounds_none (P := P) (w := w) (isSlice := true) (len := l.length) (cap := cap) (bl ha) ((bh hb).imp (fun h => ⟨h.1, h.2.1⟩) (fun ⟨k, h, _⟩ => ⟨k, h⟩)) h0 h1 (by omega)
              refine ⟨.slice (if cap = a.toNat then base else base.map (·.add (a.toNat * j.size))) (b.toNat - a.toNat) (cap - a.toNat), ?_, sub_sound hx (by omega) (by omega) (by omega) (Nat.le_refl _) h3 ?_⟩
              · simp only [Instr.slice, Sem.run_bind, run_underlying he, Result.andThen_ok, hB, hsz, Sem.run_pure]
              · rcases bh hb with ⟨hh1, hh2, hh3⟩ | ⟨k, hh1, hh2⟩
                · subst hh3
                  cases c with
                  | none => exact .inl rfl
                  | full => exact .inr (.inr (.inl ⟨rfl, rfl, by omega, rfl⟩))
                  | own t =>
                    cases lo with
                    | none =>
                      simp [abound] at ha
                      exact .inr (.inr (.inr ⟨rfl, by omega, by omega, rfl⟩))
                    | some _ => exact .inl rfl
                · cases c <;> simp [capOf, hh2]
          · simp at hr
        · simp at hr
      · rename_i k m
        split at hr
        · rename_i a b ha hb
          split at hr
          · rename_i hc
            obtain ⟨h0, h1, h2, h3, h4, h5⟩ := hc
            cases hr
            subst h2
            rcases bh hb with ⟨hh1, hh2, hh3⟩ | ⟨k', hh1, hh2⟩
            · rw [hh3] at h4; simp at h4
            · cases mv with
              | none => exact hmx.elim
              | some q =>
                cases (show Rep w G (.int k b) q from hmx)
                subst hh1
                have hB := bounds_max (P := P) (w := w) (len := l.length) (cap := cap) (k' := k') (k2 := k) (bl ha) h0 h1 (by omega)
                refine ⟨.slice (if b.toNat = a.toNat then base else base.map (·.add (a.toNat * j.size))) (b.toNat - a.toNat) (b.toNat - a.toNat), ?_, sub_sound hx (by omega) (by omega) (Nat.le_refl _) (by omega) h5 (.inr (.inl ⟨rfl, rfl⟩))⟩
                simp only [Instr.slice, Sem.run_bind, run_underlying he, Result.andThen_ok, hB, hsz, Sem.run_pure]
          · simp at hr
        · simp at hr
      · simp at hr
    · simp at hr
  · simp at hr

end each
end Go.Ab
