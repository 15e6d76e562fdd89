import Derived.Test.YtjoklidphbmpoaaGreatAb13
import Derived.MapKept
import Derived.Maps.RangeRun
import Derived.Laws.BytesString
import Derived.Laws.IdiomStrings
/-
  THE FRAMEWORK, 14: maps by words and numbers; what goes through a map, or a word; bytes as a word.
-/
namespace Go.Ab
set_option linter.unusedVariables false
set_option linter.unusedSimpArgs false
open Go.RowKit

inductive MK where
  | str
  | int (k : IntKind)

def MK.desc : MK → TypeDesc
  | .str => .string
  | .int k => .int k

/-- A map type by words or numbers: its keys, its elements' type. -/
def mapT (P : Program) (t : TypeId) : Option (MK × TypeId) :=
  match P.underlying t with
  | some (.map k e) => match P.underlying k with
    | some .string => some (.str, e)
    | some (.int j) => some (.int j, e)
    | _ => none
  | _ => none

theorem mapT_sound {P : Program} {t e : TypeId} {m : MK} (h : mapT P t = some (m, e)) : ∃ k, P.underlying t = some (.map k e) ∧ P.underlying k = some m.desc := by
  unfold mapT at h
  split at h
  · rename_i k e' hu
    split at h
    · rename_i hk; cases h; exact ⟨k, hu, hk⟩
    · rename_i j hk; cases h; exact ⟨k, hu, hk⟩
    · simp at h
  · simp at h

def okKey : MK → AV → Bool
  | .str, .str _ => true
  | .int k, .int j _ => decide (j = k)
  | _, _ => false

def keyEq : AV → AV → Bool
  | .str a, .str b => decide (a = b)
  | .int _ a, .int _ b => decide (a = b)
  | _, _ => false

def aget (k : AV) : List (AV × AV) → Option AV
  | [] => none
  | p :: r => bif keyEq p.1 k then some p.2 else aget k r

def aput (k v : AV) : List (AV × AV) → List (AV × AV)
  | [] => [(k, v)]
  | p :: r => bif keyEq p.1 k then (k, v) :: r else p :: aput k v r

def okKeys (m : MK) (es : List (AV × AV)) : Bool := es.all fun p => okKey m p.1

theorem key_sound {w : World} {G : Gh} {m : MK} {x k : AV} {xv kv : Value} (hx : Rep w G x xv) (hk : Rep w G k kv) (ox : okKey m x = true) (ok : okKey m k = true) :
    MapKept.IsKey m.desc xv ∧ MapKept.IsKey m.desc kv ∧ (keyEq x k = true ↔ xv = kv) := by
  cases m with
  | str =>
    cases x <;> simp [okKey] at ox
    cases k <;> simp [okKey] at ok
    cases hx; cases hk
    refine ⟨trivial, trivial, ?_⟩
    simp [keyEq]
  | int j =>
    cases x <;> simp [okKey] at ox
    cases k <;> simp [okKey] at ok
    cases hx; cases hk
    subst ox
    subst ok
    refine ⟨rfl, rfl, ?_⟩
    simp [keyEq]

def EntsRep (w : World) (G : Gh) (es : List (AV × AV)) (us : List MapEntry) : Prop :=
  us.length = es.length ∧ ∀ i, i < es.length → Rep w G (es.getD i (.undef, .undef)).1 (us.getD i default).key ∧ Rep w G (es.getD i (.undef, .undef)).2 (us.getD i default).val

theorem EntsRep.tail {w : World} {G : Gh} {p : AV × AV} {es : List (AV × AV)} {u : MapEntry} {us : List MapEntry} (h : EntsRep w G (p :: es) (u :: us)) : (Rep w G p.1 u.key ∧ Rep w G p.2 u.val) ∧ EntsRep w G es us := by
  obtain ⟨h1, h2⟩ := h
  refine ⟨by simpa using h2 0 (by simp), by simpa using h1, fun i hi => by simpa using h2 (i + 1) (by simpa using hi)⟩

theorem find_sound {w : World} {G : Gh} {m : MK} {k : AV} {kv : Value} (hk : Rep w G k kv) (ok : okKey m k = true) : ∀ (es : List (AV × AV)) (us : List MapEntry) (n : Nat), EntsRep w G es us → okKeys m es = true →
    (aget k es = none ∧ Instr.findNow m.desc kv us n = some none ∧ (∀ v, aput k v es = es ++ [(k, v)])) ∨
    ∃ v j e, aget k es = some v ∧ Instr.findNow m.desc kv us n = some (some (n + j, e.val)) ∧ us[j]? = some e ∧ e.key = kv ∧ j < es.length ∧ Rep w G v e.val ∧ (∀ v, aput k v es = es.set j (k, v))
  | [], us, n, he, _ => by
    have : us = [] := List.eq_nil_of_length_eq_zero he.1
    subst this
    exact .inl ⟨rfl, rfl, fun _ => rfl⟩
  | p :: es, [], n, he, _ => by have := he.1; simp at this
  | p :: es, u :: us, n, he, ho => by
    obtain ⟨⟨h1, h2⟩, ht⟩ := he.tail
    simp only [okKeys, List.all_cons, Bool.and_eq_true] at ho
    obtain ⟨i1, i2, i3⟩ := key_sound h1 hk ho.1 ok
    obtain ⟨r, hr, hiff⟩ := MapKept.sameNow_of_keys i2 i1
    cases hq : keyEq p.1 k with
    | true =>
      have e := i3.1 hq
      have hrt : r = true := hiff.2 e.symm
      subst hrt
      exact .inr ⟨p.2, 0, u, by simp [aget, hq], by simp [Instr.findNow, hr], rfl, e, by simp, h2, fun v => by simp [aput, hq]⟩
    | false =>
      have hrf : r = false := by
        cases r with
        | false => rfl
        | true => have := i3.2 (hiff.1 rfl).symm; rw [hq] at this; cases this
      subst hrf
      rcases find_sound hk ok es us (n + 1) ht ho.2 with ⟨a1, a2, a3⟩ | ⟨v, j, e, a1, a2, a3, a4, a5, a6, a7⟩
      · exact .inl ⟨by simp [aget, hq, a1], by simp [Instr.findNow, hr, a2], fun v => by simp [aput, hq, a3]⟩
      · exact .inr ⟨v, j + 1, e, by simp [aget, hq, a1], by simp [Instr.findNow, hr, a2]; omega, by simpa using a3, a4, by simp; omega, a6, fun v => by simp [aput, hq, a7]⟩

def entsOf (h : List Blk) : AV → Option (List (AV × AV))
  | .map b => match h[b]? with
    | some (.map es) => some es
    | _ => none
  | .raw (.map none) => some []
  | _ => none

def alookup (m : MK) (z : AV) (c : Bool) (k : AV) (es : List (AV × AV)) : AV :=
  bif c then .tup [(aget k es).getD z, .bool (aget k es).isSome] else (aget k es).getD z

section
variable {P : Program} {fr : Nat → AV} {h : List Blk} {live : List Nat} {o : Oper} {K : KT}

theorem entsOf_sound {w : World} {G : Gh} (hh : HRel w G h live) {x : AV} {xv : Value} (hx : Rep w G x xv) {es : List (AV × AV)} (he : entsOf h x = some es) :
    ∃ us : Array MapEntry, EntsRep w G es us.toList ∧ ((xv = .map none ∧ us = #[]) ∨ ∃ r clock, xv = .map (some r) ∧ w.heap[r]? = some (.map us clock)) := by
  unfold entsOf at he
  split at he
  · rename_i b
    split at he
    · rename_i es' hb
      cases he
      cases hx
      obtain ⟨us, clock, h1, h2, _, h3⟩ := hh.blk b _ hb
      refine ⟨us, ⟨by simpa using h2, fun i hi => ?_⟩, .inr ⟨_, clock, rfl, h1⟩⟩
      have := h3 i hi
      have e : us.toList.getD i default = us.getD i default := by simp [List.getD_eq_getElem?_getD]
      rw [e]; exact this
    · simp at he
  · cases he
    cases hx
    exact ⟨#[], ⟨rfl, by simp⟩, .inl ⟨rfl, rfl⟩⟩
  · simp at he

theorem AOp.lookup (t : TypeId) (x i : Operand) (c : Bool) (ho : o.op = .lookup t x i c) {m : MK} {e : TypeId} (ht : mapT P t = some (m, e)) {z : AV} (hz : azero P e = some z) {k : AV} (hk : ev fr i = k) (ok : okKey m k = true)
    {es : List (AV × AV)} (hes : entsOf h (ev fr x) = some es) (oks : okKeys m es = true) : AOp P fr h live o (ret (alookup m z c k es) h live) := by
  subst hk
  obtain ⟨dst, op, ty, pos, after, guard⟩ := o
  simp only at ho; subst ho
  refine AOp.gives fun w G ρ hr hh => ?_
  obtain ⟨kt, hu, hd⟩ := mapT_sound ht
  have hrk := hr i (by simp [Op.operands])
  obtain ⟨us, he, hm⟩ := entsOf_sound hh (hr x (by simp [Op.operands])) hes
  obtain ⟨inf, zv, _, _, hzr, hzrep, _⟩ := azero_sound (w := w) (G := G) hz
  have hkey : MapKept.IsKey m.desc (ρ i) := by
    obtain ⟨_, h2, _⟩ := key_sound hrk hrk ok ok
    exact h2
  have hck := fun b => MapKept.run_checkKey (w := w) hd hkey b 9999
  have hget : ∀ r clock, ρ x = .map (some r) → w.heap[r]? = some (.map us clock) → (getObj r).run P w = .ok (.map us clock) w := fun r clock _ hb => MapKept.run_getObj_map hb
  rcases find_sound hrk ok es us.toList 0 he oks with ⟨a1, a2, _⟩ | ⟨v, j, e', a1, a2, a3, a4, a5, a6, _⟩
  · refine ⟨if c then .tuple #[zv, .bool false] else zv, ?_, ?_⟩
    · have hfk := MapKept.run_findKey (w := w) (P := P) hd a2
      rcases hm with ⟨hv, rfl⟩ | ⟨r, clock, hv, hb⟩
      · refine run_value ?_
        simp only [Instr.lookup, Sem.run_bind, run_underlying hu, Result.andThen_ok, hv, Sem.run_pure, hck, hfk, hzr]
      · refine run_value ?_
        simp only [Instr.lookup, Sem.run_bind, run_underlying hu, Result.andThen_ok, hv, Sem.run_pure, hck, hfk, hzr, MapKept.run_getObj_map hb]
    · cases c
      · simpa [alookup, a1] using hzrep
      · simp only [alookup, a1, cond_true, Option.getD_none, Option.isSome_none, if_true]
        exact .tup [z, .bool false] [zv, .bool false] rfl (fun q hq => by
          match q, hq with
          | 0, _ => exact hzrep
          | 1, _ => exact .bool false)
  · refine ⟨if c then .tuple #[e'.val, .bool true] else e'.val, ?_, ?_⟩
    · have hfk := MapKept.run_findKey (w := w) (P := P) hd a2
      rcases hm with ⟨hv, rfl⟩ | ⟨r, clock, hv, hb⟩
      · simp at a3
      · refine run_value ?_
        simp only [Instr.lookup, Sem.run_bind, run_underlying hu, Result.andThen_ok, hv, Sem.run_pure, hck, hfk, MapKept.run_getObj_map hb]
    · cases c
      · simpa [alookup, a1] using a6
      · simp only [alookup, a1, cond_true, Option.getD_some, Option.isSome_some, if_true]
        exact .tup [v, .bool true] [e'.val, .bool true] rfl (fun q hq => by
          match q, hq with
          | 0, _ => exact a6
          | 1, _ => exact .bool true)

theorem HRel.pushObj {w : World} {G : Gh} (hh : HRel w G h live) (ob : Obj) (x : Blk)
    (hx : ∀ G', Ext G G' → (w.alloc ob).heap[w.heap.size]? = some ob → BlkRep (w.alloc ob) G' x w.heap.size) :
    ∃ G', HRel (w.alloc ob) G' (h ++ [x]) live ∧ Evo w G live (w.alloc ob) G' live ∧ G'.n = G.n + 1 ∧ G'.blk G.n = w.heap.size := by
  let G' : Gh := { G with n := G.n + 1, blk := fun k => if k = G.n then w.heap.size else G.blk k }
  have himm : ∀ b q, G.imm b q → (w.alloc ob).cell? ⟨b, q, none⟩ = w.cell? ⟨b, q, none⟩ := fun b q hb => World.cell?_alloc_lt w _ ⟨b, q, none⟩ (hh.imm_lt b q hb)
  have hold : ∀ k, k < G.n → G'.blk k = G.blk k := fun k hk => if_neg (by omega)
  have hnew : G'.blk G.n = w.heap.size := if_pos rfl
  have hext : Ext G G' := ⟨Nat.le_succ _, hold, fun _ _ h => h, fun _ _ h => h⟩
  have hcase : ∀ k, k < G.n + 1 → k = G.n ∨ k < G.n := fun k hk => by omega
  refine ⟨G', ⟨by simp [hh.len, G'], fun k y hy => ?_, fun k hk => ?_, fun j k hj hk hjk => ?_, fun b q hb => ?_, fun b q k hb hk => ?_, fun t ht => ?_, hh.tok_ne⟩,
    ⟨rfl, rfl, rfl, by simp, himm, fun b hb _ => Below.heap_alloc w _ b hb, fun b hb ho => ?_, hext⟩, rfl, hnew⟩
  · have hkl := (List.getElem?_eq_some_iff.1 hy).1
    simp [hh.len] at hkl
    rcases hcase k hkl with rfl | hk
    · rw [hnew]
      rw [List.getElem?_append_right (by rw [hh.len]; exact Nat.le_refl _)] at hy
      simp [hh.len] at hy
      subst hy
      exact hx G' hext (heap_alloc_new w _)
    · rw [hold k hk]
      rw [List.getElem?_append_left (by rw [hh.len]; exact hk)] at hy
      exact (hh.blk k y hy).mono (Below.heap_alloc w _ _ (hh.blk_lt k hk)) himm hext
  · rcases hcase k hk with rfl | hk
    · rw [hnew]; simp
    · rw [hold k hk]; have := hh.blk_lt k hk; simp; omega
  · rcases hcase j hj with rfl | hj <;> rcases hcase k hk with rfl | hk
    · rfl
    · rw [hnew, hold k hk] at hjk; have := hh.blk_lt k hk; omega
    · rw [hnew, hold j hj] at hjk; have := hh.blk_lt j hj; omega
    · rw [hold j hj, hold k hk] at hjk; exact hh.inj j k hj hk hjk
  · have := hh.imm_lt b q hb; simp; omega
  · rcases hcase k hk with rfl | hk
    · rw [hnew]; have := hh.imm_lt b q hb; omega
    · rw [hold k hk]; exact hh.imm_blk b q k hb hk
  · obtain ⟨d, hd, ⟨⟨cur, hc', hs⟩, h1, h2, h3, h4⟩⟩ := hh.tok t ht
    have hl : d.b < w.heap.size := (Array.getElem?_eq_some_iff.1 hc').1
    refine ⟨d, hd, ⟨⟨cur, (Below.heap_alloc w _ _ hl).trans hc', hs⟩, h1, h2, h3, fun k hk => ?_⟩⟩
    rcases hcase k hk with rfl | hk
    · rw [hnew]; omega
    · rw [hold k hk]; exact h4 k hk
  · rcases ho with ⟨k, hk, hkb⟩ | ho
    · rcases hcase k hk with rfl | hk
      · rw [hnew] at hkb; omega
      · rw [hold k hk] at hkb; exact .inl ⟨k, hk, hkb⟩
    · exact .inr ho

/-- A block is laid, and its pointer, or the map that it is. -/
theorem AOp.makeMap (t : TypeId) (ho : o.op = .makeMap t none) (hK : K (.map h.length) (h ++ [.map []]) live) : AOp P fr h live o K := by
  obtain ⟨dst, op, ty, pos, after, guard⟩ := o
  simp only at ho; subst ho
  intro w G ρ hρ hr hh
  obtain ⟨G', hh', he, hn, hb⟩ := hh.pushObj (.map #[] 0) (.map []) fun G' _ hw => ⟨#[], 0, hw, rfl, ⟨rfl, fun i hi => by simp at hi⟩, fun i hi => by simp at hi⟩
  have hrun : (execOp ρ ⟨dst, .makeMap t none, ty, pos, after, guard⟩).run P w = .ok (.value (.map (some w.heap.size))) (w.alloc (.map #[] 0)) := rfl
  rw [hrun]
  refine ⟨_, _, _, G', hK, ?_, hh', he⟩
  have := Rep.map (w := w.alloc (.map #[] 0)) (G := G') h.length (by rw [hn, hh.len]; exact Nat.lt_succ_self _)
  rw [hh.len, hb] at this
  rw [hh.len]
  exact this

theorem AOp.mapUpdate (t : TypeId) (x i v : Operand) (ho : o.op = .mapUpdate t x i v) {m : MK} {e : TypeId} (ht : mapT P t = some (m, e)) {b : Nat} (hx : ev fr x = .map b) {es : List (AV × AV)} (hb : h[b]? = some (.map es))
    {k y : AV} (hk : ev fr i = k) (hv : ev fr v = y) (ok : okKey m k = true) (oks : okKeys m es = true) (hK : K .undef (h.set b (.map (aput k y es))) live) : AOp P fr h live o K := by
  subst hk; subst hv
  obtain ⟨dst, op, ty, pos, after, guard⟩ := o
  simp only at ho; subst ho
  intro w G ρ hρ hr hh
  obtain ⟨kt, hu, hd⟩ := mapT_sound ht
  have hrk := hr i (by simp [Op.operands])
  have hrv := hr v (by simp [Op.operands])
  have hrx := hr x (by simp [Op.operands])
  rw [hx] at hrx
  generalize hxv : ρ x = xv at hrx
  cases hrx
  rename_i hbn
  obtain ⟨us, clock, h1, h2, ⟨h3, h4⟩, h5⟩ := hh.blk b _ hb
  have he : EntsRep w G es us.toList := ⟨by simpa using h2, fun q hq => by
    have e : us.toList.getD q default = us.getD q default := by simp [List.getD_eq_getElem?_getD]
    rw [e]; exact h5 q hq⟩
  have hkey : MapKept.IsKey m.desc (ρ i) := (key_sound hrk hrk ok ok).2.1
  have hck := fun c => MapKept.run_checkKey (w := w) hd hkey c 9999
  -- the world behind it
  have done : ∀ us' : Array MapEntry, ∀ clock', clock' = us'.size → (∀ q, q < us'.size → (us'.getD q default).born = q) → EntsRep w G (aput (ev fr i) (ev fr v) es) us'.toList →
      (Instr.mapUpdate t (.map (some (G.blk b))) (ρ i) (ρ v)).run P w = .ok () { w with heap := w.heap.setIfInBounds (G.blk b) (.map us' clock') } →
      AUpon P (Post w G live K) ((execOp ρ ⟨dst, .mapUpdate t x i v, ty, pos, after, guard⟩).run P w) := by
    intro us' clock' hc hborn hrep hrun
    have hset := MapKept.heap_set (o' := .map us' clock') h1
    have key := hh.put (x := .map (aput (ev fr i) (ev fr v) es)) hbn { w with heap := w.heap.setIfInBounds (G.blk b) (.map us' clock') } rfl rfl rfl (by simp) (fun q hq => hset.2 q hq)
    have himm : ∀ b' q, G.imm b' q → World.cell? { w with heap := w.heap.setIfInBounds (G.blk b) (.map us' clock') } ⟨b', q, none⟩ = w.cell? ⟨b', q, none⟩ := fun b' q hbq =>
      World.cell?_of_block (hset.2 b' (fun e => hh.imm_blk b' q b hbq hbn e.symm))
    obtain ⟨hh', hev⟩ := key ⟨us', clock', hset.1, by simpa using hrep.1, ⟨hc, hborn⟩, fun q hq => by
      have := hrep.2 q hq
      have e : us'.toList.getD q default = us'.getD q default := by simp [List.getD_eq_getElem?_getD]
      rw [e] at this
      exact ⟨this.1.mono himm (Ext.refl G), this.2.mono himm (Ext.refl G)⟩⟩
    have hrun' : (execOp ρ ⟨dst, .mapUpdate t x i v, ty, pos, after, guard⟩).run P w = .ok .skip { w with heap := w.heap.setIfInBounds (G.blk b) (.map us' clock') } := by
      simp only [execOp, hxv, Sem.run_bind, hrun, Result.andThen_ok, Sem.run_pure]
    rw [hrun']
    exact ⟨_, _, _, G, hK, .undef _, hh', hev⟩
  rcases find_sound hrk ok es us.toList 0 he oks with ⟨a1, a2, a3⟩ | ⟨u, j, e', a1, a2, a3, a4, a5, a6, a7⟩
  · have hfk := MapKept.run_findKey (w := w) (P := P) hd a2
    refine done (us.push { key := ρ i, val := ρ v, born := clock }) (clock + 1) (by simp [h3]) (fun q hq => ?_) ?_ ?_
    · simp only [Array.size_push] at hq
      rcases Nat.lt_or_ge q us.size with hlt | hge
      · have := h4 q hlt
        simpa [Array.getElem?_push, hlt, Nat.ne_of_lt hlt] using this
      · have : q = us.size := by omega
        subst this
        simp [h3]
    · rw [a3]
      refine ⟨by simp [h2], fun q hq => ?_⟩
      simp only [List.length_append, List.length_cons, List.length_nil, Nat.zero_add] at hq
      have hul : us.toList.length = es.length := by simpa using h2
      simp only [Array.toList_push]
      rw [getD_append', getD_append', hul]
      by_cases hq1 : q < es.length
      · rw [if_pos hq1, if_pos hq1]; exact he.2 q hq1
      · rw [if_neg hq1, if_neg hq1]
        have : q - es.length = 0 := by omega
        rw [this]
        exact ⟨hrk, hrv⟩
    · simp [Instr.mapUpdate, run_underlying hu, MapKept.run_getObj_map h1, hck, hfk, MapKept.run_setObj_map _ h1, Result.andThen]
  · have hfk := MapKept.run_findKey (w := w) (P := P) hd a2
    have hj : us[j]? = some e' := by simpa using a3
    have hjl : j < us.size := (Array.getElem?_eq_some_iff.1 hj).1
    refine done (us.modify j fun e => { e with key := ρ i, val := ρ v }) clock (by simp [h3]) (fun q hq => ?_) ?_ ?_
    · simp only [Array.size_modify] at hq
      have := h4 q hq
      by_cases hqj : j = q
      · subst hqj
        simpa [Array.getElem?_modify, Array.getElem_modify, hq] using this
      · simpa [Array.getElem?_modify, Array.getElem_modify, hq, hqj] using this
    · rw [a7]
      refine ⟨by simp [h2], fun q hq => ?_⟩
      simp only [List.length_set] at hq
      have hql : q < us.size := by rw [h2]; exact hq
      by_cases hqj : j = q
      · subst hqj
        simp [List.getD_eq_getElem?_getD, Array.getElem?_modify, hq, hql]
        exact ⟨hrk, hrv⟩
      · have := he.2 q hq
        simpa [List.getD_eq_getElem?_getD, Array.getElem?_modify, hq, hql, hqj, List.getElem?_set] using this
    · simp [Instr.mapUpdate, run_underlying hu, MapKept.run_getObj_map h1, hck, hfk, hj, a4, MapKept.run_keyThatStays hkey, MapKept.run_setObj_map _ h1, Result.andThen]

end
end Go.Ab
