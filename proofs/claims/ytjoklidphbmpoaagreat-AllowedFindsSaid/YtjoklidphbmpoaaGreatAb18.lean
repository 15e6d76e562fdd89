import Derived.Test.YtjoklidphbmpoaaGreatAb17
import Derived.Laws.MakeOwn
/-
  THE FRAMEWORK, 18: slices over a block of their own: made, copied into, appended to in place.
-/
namespace Go.Ab
set_option linter.unusedVariables false
set_option linter.unusedSimpArgs false
open Go.RowKit

/-- A slice type that can be made: its elements' cells and bytes, their zero's cells, whether they are rows. -/
def makeT (P : Program) (t : TypeId) : Option (Nat × Nat × List AV × Bool) :=
  match P.underlying t with
  | some (.slice e) => match P.info? e, azero P e, tk P e with
    | some j, some z, some k => if 0 < j.size ∧ z.cells.length = j.size then some (j.size, j.bytes, z.cells, match k with | .one => false | .agg _ => true) else none
    | _, _, _ => none
  | _ => none

def rep (n : Nat) (z : List AV) : List AV := (List.range (n * z.length)).map fun q => z.getD (q % z.length) .undef

theorem rep_length (n : Nat) (z : List AV) : (rep n z).length = n * z.length := by simp [rep]

/-- Cells of a list's elements. -/
def flat (l : List AV) : List AV := l.flatMap AV.cells

theorem flat_length {l : List AV} {sz : Nat} (h : ∀ y ∈ l, y.cells.length = sz) : (flat l).length = l.length * sz := by
  induction l with
  | nil => simp [flat]
  | cons x r ih =>
    have := ih (fun y hy => h y (by simp [hy]))
    simp only [flat, List.flatMap_cons, List.length_append, List.length_cons] at this ⊢
    rw [this, h x (by simp), Nat.add_mul]; omega

theorem flat_getD {l : List AV} {sz : Nat} (h : ∀ y ∈ l, y.cells.length = sz) {i j : Nat} (hi : i < l.length) (hj : j < sz) : (flat l).getD (i * sz + j) .undef = (l.getD i .undef).cells.getD j .undef := by
  induction l generalizing i with
  | nil => simp at hi
  | cons x r ih =>
    have hx := h x (by simp)
    simp only [flat, List.flatMap_cons]
    rw [getD_append', hx]
    cases i with
    | zero => rw [if_pos (by omega)]; simp
    | succ i =>
      have e : (i + 1) * sz + j - sz = i * sz + j := by rw [Nat.add_mul]; omega
      rw [if_neg (by rw [Nat.add_mul]; omega), e]
      exact ih (fun y hy => h y (by simp [hy])) (by simpa using hi)

section
variable {P : Program} {fr : Nat → AV} {h : List Blk} {live : List Nat} {o : Oper} {K : KT}

theorem makeT_sound {t : TypeId} {sz by_ : Nat} {z : List AV} {ag : Bool} (ht : makeT P t = some (sz, by_, z, ag)) :
    ∃ e j zv, P.underlying t = some (.slice e) ∧ P.info? e = some j ∧ j.size = sz ∧ j.bytes = by_ ∧ 0 < sz ∧ z.length = sz ∧ azero P e = some zv ∧ zv.cells = z ∧ (ag = true ∨ sz = 1) := by
  unfold makeT at ht
  split at ht
  · rename_i e he
    split at ht
    · rename_i j zv k hj hz hk
      split at ht
      · rename_i hc
        simp only [Option.some.injEq, Prod.mk.injEq] at ht
        obtain ⟨rfl, rfl, rfl, rfl⟩ := ht
        refine ⟨e, j, zv, he, hj, rfl, rfl, hc.1, hc.2, hz, rfl, ?_⟩
        cases k with
        | agg n => exact .inl rfl
        | one =>
          obtain ⟨d, i, _, _, hi, hs⟩ := tk_one hk
          rw [hj] at hi; cases hi
          exact .inr hs
      · simp at ht
    · simp at ht
  · simp at ht

theorem madeCells_rep {w : World} {G : Gh} {z : List AV} {zz : Array Value} (hr : RepL w G z zz.toList) (hz : 0 < z.length) (n : Nat) : RepL w G (rep n z) (madeCells zz (n * z.length)).toList := by
  have hzs : zz.size = z.length := by simpa using hr.1
  refine ⟨by simp [rep_length, madeCells], fun q hq => ?_⟩
  rw [rep_length] at hq
  have hm : q % z.length < z.length := Nat.mod_lt _ hz
  have h1 := hr.2 (q % z.length) hm
  have e1 : (rep n z).getD q .undef = z.getD (q % z.length) .undef := by simp [rep, List.getD_eq_getElem?_getD, hq]
  have e2 : (madeCells zz (n * z.length)).toList.getD q undef = zz.toList.getD (q % z.length) undef := by
    have hm' : q % zz.size < zz.size := by rw [hzs]; exact hm
    simp only [List.getD_eq_getElem?_getD, Array.getElem?_toList, madeCells, Array.getElem?_map, Array.getElem?_range, hq, if_true, Option.map_some, Option.getD_some]
    rw [← hzs, getElem!_pos zz _ hm', Array.getElem?_eq_getElem hm']; rfl
  rw [e1, e2]; exact h1

theorem AOp.makeSlice (t : TypeId) (l c : Operand) (ho : o.op = .makeSlice t l c) {sz by_ : Nat} {z : List AV} {ag : Bool} (ht : makeT P t = some (sz, by_, z, ag)) {kl kc : IntKind} {n m : Nat}
    (hl : ev fr l = .int kl (n : Nat)) (hc : ev fr c = .int kc (m : Nat)) (hnm : n ≤ m) (hb : by_ * m ≤ 281474976710656) (hm : m ≤ 140737488355328)
    (hK : K (.bsl h.length 0 sz ag n m) (h ++ [.cells (rep m z)]) live) : AOp P fr h live o K := by
  obtain ⟨dst, op, ty, pos, after, guard⟩ := o
  simp only at ho; subst ho
  intro w G ρ hρ hr hh
  obtain ⟨e, j, zv, he, hj, rfl, rfl, hpos, hzl, hz, hzc, hag⟩ := makeT_sound ht
  have h1 := hr l (by simp [Op.operands])
  have h2 := hr c (by simp [Op.operands])
  rw [hl] at h1; rw [hc] at h2
  generalize hu : ρ l = u at h1
  generalize hv : ρ c = v at h2
  cases h1; cases h2
  obtain ⟨i, zz, hi, hiz, hzr, hrep, hrepl⟩ := azero_sound (w := w) (G := G) hz
  rw [hj] at hi; cases hi
  rw [hzc] at hrepl
  have hb' : (j.bytes : Int) * (m : Int) ≤ 281474976710656 := by
    have h : ((j.bytes * m : Nat) : Int) ≤ 281474976710656 := by omega
    rwa [Int.natCast_mul] at h
  have hrun := run_make (P := P) w t e j zz he hj hiz kl kc n m (by omega) (by omega) hb' (by omega)
  simp only [Int.toNat_natCast] at hrun
  have hrun' : (execOp ρ ⟨dst, .makeSlice t l c, ty, pos, after, guard⟩).run P w = .ok (.value (.slice (some ⟨w.heap.size, 0, none⟩) n m)) (w.alloc (.cells (madeCells zz.cells (m * j.size)) e)) := by
    simp only [execOp, hu, hv]
    exact run_value hrun
  rw [hrun']
  have hR := madeCells_rep hrepl (by omega) m
  rw [hzl] at hR
  obtain ⟨G', hh', hev, hn, hbk⟩ := hh.push (rep m z) (madeCells zz.cells (m * j.size)).toList e hR
  refine ⟨_, _, _, G', hK, ?_, by simpa using hh', by simpa using hev⟩
  have := Rep.bsl (w := w.alloc (.cells (madeCells zz.cells (m * j.size)) e)) (G := G') h.length 0 j.size ag n m (by rw [hn, hh.len]; exact Nat.lt_succ_self _) hnm (by unfold maxLen; omega)
  rw [hh.len, hbk] at this
  rw [hh.len]
  exact this

/-- Cells are written into a block. -/
theorem HRel.putCells {w : World} {G : Gh} (hh : HRel w G h live) {k : Nat} {cs xs : List AV} {news : List Value} {off : Nat} (hk : h[k]? = some (.cells cs)) (hn : RepL w G xs news) (hle : off + xs.length ≤ cs.length) :
    ∃ vs e, w.heap[G.blk k]? = some (.cells vs e (0, 0)) ∧ vs.size = cs.length ∧
      HRel (w.setRow (G.blk k) (vs.toList.take off ++ news ++ vs.toList.drop (off + news.length)).toArray) G (h.set k (.cells (putAt cs off xs))) live ∧
      Evo w G live (w.setRow (G.blk k) (vs.toList.take off ++ news ++ vs.toList.drop (off + news.length)).toArray) G live := by
  have hb : k < G.n := by rw [← hh.len]; exact (List.getElem?_eq_some_iff.1 hk).1
  obtain ⟨vs, e, h1, h2, h3⟩ := hh.blk k _ hk
  refine ⟨vs, e, h1, h2, ?_⟩
  refine hh.put hb (w.setRow (G.blk k) (vs.toList.take off ++ news ++ vs.toList.drop (off + news.length)).toArray) rfl rfl rfl (by simp) (fun q hq => setRow_other w _ q _ hq) ?_
  have himm : ∀ b' q, G.imm b' q → (w.setRow (G.blk k) (vs.toList.take off ++ news ++ vs.toList.drop (off + news.length)).toArray).cell? ⟨b', q, none⟩ = w.cell? ⟨b', q, none⟩ := fun b' q hbq =>
    World.cell?_of_block (setRow_other w _ b' _ (fun e => hh.imm_blk b' q k hbq hb e.symm))
  refine ⟨_, e, setRow_heap w _ vs _ e _ h1, ?_, fun j hj => ?_⟩
  · rw [putAt_length]; simp; rw [hn.1]; omega
  · have hrl : RepL w G cs vs.toList := ⟨by simpa using h2, fun i hi => by simpa [List.getD_eq_getElem?_getD] using h3 i hi⟩
    have := (hrl.putAt hn hle).2 j hj
    rw [putAt_eq news vs.toList off (by simp; rw [h2, hn.1]; exact hle)] at this
    exact ⟨by simpa [List.getD_eq_getElem?_getD] using this.1, by simpa [List.getD_eq_getElem?_getD] using this.2.mono himm (Ext.refl G)⟩

/-- The first cells of a slice. -/
theorem slice_cells {w : World} {G : Gh} {m : List AV} {c : Cap} {u : Value} (hr : Rep w G (.slice m c) u) {sz : Nat} (hm : ∀ y ∈ m, y.cells.length = sz) {n : Nat} (hn : n ≤ m.length) :
    ∃ base cap news, u = .slice base m.length cap ∧ m.length ≤ cap ∧ RepL w G (flat (m.take n)) news ∧ (Builtin.firstCells sz n u).run P w = .ok news.toArray w ∧ ((base = none ∧ m = []) ∨ ∃ a, base = some a) := by
  have hmt : ∀ y ∈ m.take n, y.cells.length = sz := fun y hy => hm y (List.mem_of_mem_take hy)
  cases hr with
  | nilSlice => exact ⟨none, 0, [], rfl, Nat.le_refl _, ⟨by simp [flat], fun i hi => by simp [flat] at hi⟩, by simp [Builtin.firstCells], .inl ⟨rfl, rfl⟩⟩
  | emptySlice a =>
    have : n = 0 := by simpa using hn
    subst this
    exact ⟨some a, 0, [], rfl, Nat.le_refl _, ⟨by simp [flat], fun i hi => by simp [flat] at hi⟩, run_firstCells_some (P := P) w sz 0 a 0 0 [] (by simp) (fun j v hj => by simp at hj), .inr ⟨a, rfl⟩⟩
  | slice _ _ b o cap sz' f hcap hmax hsz himm hcell hone hrep hcc =>
    have hgm : ∀ q, q < m.length → (m.getD q .undef).cells.length = sz := fun q hq => hm _ (by rw [List.getD_eq_getElem?_getD, List.getElem?_eq_getElem hq]; exact List.getElem_mem hq)
    have hs : 0 < m.length → sz' = sz := fun h0 => by rw [← hsz 0 h0, hgm 0 h0]
    have hcell' : ∀ q j, q < n → j < sz → w.cell? ⟨b, o + (q * sz + j), none⟩ = some (f q j) := fun q j hq hj => by
      have := hs (by omega); subst this; exact hcell q j (by omega) hj
    refine ⟨some ⟨b, o, none⟩, cap, flatV sz n f, rfl, hcap, ⟨by rw [flatV_length, flat_length hmt, List.length_take, Nat.min_eq_left hn], fun q hq => ?_⟩, run_firstCells_some (P := P) w sz n ⟨b, o, none⟩ _ _ _ (flatV_length _ _ _) (flatV_cells hcell'), .inr ⟨_, rfl⟩⟩
    rw [flat_length hmt, List.length_take, Nat.min_eq_left hn] at hq
    obtain ⟨d1, d2, d3⟩ := divmod_lt hq
    have hqm : q / sz < m.length := Nat.lt_of_lt_of_le d1 hn
    have := hs (Nat.lt_of_le_of_lt (Nat.zero_le _) hqm)
    subst this
    have e1 : (flatV sz' n f).getD q undef = f (q / sz') (q % sz') := by
      have := flatV_get f d1 d2
      rw [d3] at this
      rw [List.getD_eq_getElem?_getD, this]; rfl
    have e2 : (flat (m.take n)).getD q .undef = (m.getD (q / sz') .undef).cells.getD (q % sz') .undef := by
      have := flat_getD hmt (i := q / sz') (j := q % sz') (by rw [List.length_take, Nat.min_eq_left hn]; exact d1) d2
      rw [d3] at this
      rw [this]
      congr 2
      simp [List.getD_eq_getElem?_getD, List.getElem?_take, d1]
    rw [e1, e2]
    exact ⟨hone _ _ hqm d2, hrep _ _ hqm d2⟩

theorem AOp.copyB (d s : Operand) (td ts : TypeId) (ho : o.op = .call { callee := .builtin .copy, args := #[d, s], argTypes := #[td, ts] }) {sz : Nat} (ht : sliceSz P td = some sz) {k off ln cap : Nat} {ag : Bool}
    (hd : ev fr d = .bsl k off sz ag ln cap) {m : List AV} {c2 : Cap} (hs : ev fr s = .slice m c2) {cs : List AV} (hk : h[k]? = some (.cells cs)) (hm : ∀ y ∈ m, y.cells.length = sz) (hfit : off + (min m.length ln) * sz ≤ cs.length)
    (hK : K (.int .i64 (min m.length ln : Nat)) (h.set k (.cells (putAt cs off (flat (m.take (min m.length ln)))))) live) : AOp P fr h live o K := by
  obtain ⟨n, hmin⟩ : ∃ n, Nat.min m.length ln = n := ⟨_, rfl⟩
  have hnl : n ≤ m.length := by rw [← hmin]; exact Nat.min_le_left _ _
  rw [show min m.length ln = n from hmin] at hfit hK
  obtain ⟨dst, op, ty, pos, after, guard⟩ := o
  simp only at ho; subst ho
  intro w G ρ hρ hr hh
  obtain ⟨e, j, he, hj, rfl⟩ := sliceSz_sound ht
  have h1 := hr d (by simp [Op.operands, Call.operands])
  have h2 := hr s (by simp [Op.operands, Call.operands])
  rw [hd] at h1; rw [hs] at h2
  generalize hu : ρ d = u at h1
  generalize hv : ρ s = v at h2
  cases h1
  rename_i hkn hl hmx
  obtain ⟨base, cap', news, hvv, _, hrl, hfc, _⟩ := slice_cells (P := P) h2 hm (n := n) hnl
  have hlen : (flat (m.take (n))).length = n * j.size := by
    rw [flat_length (fun y hy => hm y (List.mem_of_mem_take hy)), List.length_take, Nat.min_eq_left hnl]
  obtain ⟨vs, e', hw, hsz, hh', hev⟩ := hh.putCells hk hrl (by rw [hlen]; exact hfit)
  have hone : ∀ x ∈ news, x.oneCell' = true := fun x hx => by
    obtain ⟨q, hq, rfl⟩ := List.mem_iff_getElem.1 hx
    have := (hrl.2 q (by rw [← hrl.1]; exact hq)).1
    simpa [List.getD_eq_getElem?_getD, hq] using this
  have hst := run_storeCells_at P (G.blk k) off e' news 0 vs w hw (by simp; rw [hsz, hrl.1, hlen]; exact hfit) hone
  simp only [Nat.add_zero] at hst
  have hrun : (Builtin.copy_ #[td, ts] ty #[.slice (some ⟨G.blk k, off, none⟩) ln cap, v]).run P w = .ok (goInt (n)) (w.setRow (G.blk k) (vs.toList.take off ++ news ++ vs.toList.drop (off + news.length)).toArray) := by
    subst hvv
    simp [Builtin.copy_, run_underlying he, Builtin.lenOf, sizeOf, typeInfo, hj, hmin, hfc, hst]
  have hrun' : (execOp ρ ⟨dst, .call { callee := .builtin .copy, args := #[d, s], argTypes := #[td, ts] }, ty, pos, after, guard⟩).run P w = .ok (.value (goInt (n))) (w.setRow (G.blk k) (vs.toList.take off ++ news ++ vs.toList.drop (off + news.length)).toArray) := by
    simp [execOp, resolve, invoke, builtin, hu, hv, hrun]
  rw [hrun']
  exact ⟨_, _, _, G, hK, .int _ _, hh', hev⟩

theorem AOp.appendB (s x : Operand) (t : TypeId) (ho : o.op = .call { callee := .builtin .append, args := #[s, x], argTypes := #[t, t] }) {sz : Nat} (ht : sliceSz P t = some sz) {k ln cap : Nat} {ag : Bool}
    (hs : ev fr s = .bsl k 0 sz ag ln cap) {m : List AV} {c2 : Cap} (hx : ev fr x = .slice m c2) {cs : List AV} (hk : h[k]? = some (.cells cs)) (hm : ∀ y ∈ m, y.cells.length = sz) (hcap : ln + m.length ≤ cap) (hfit : (ln + m.length) * sz ≤ cs.length)
    (hK : K (.bsl k 0 sz ag (ln + m.length) cap) (h.set k (.cells (putAt cs (ln * sz) (flat m)))) live) : AOp P fr h live o K := by
  obtain ⟨dst, op, ty, pos, after, guard⟩ := o
  simp only at ho; subst ho
  intro w G ρ hρ hr hh
  obtain ⟨e, j, he, hj, rfl⟩ := sliceSz_sound ht
  have h1 := hr s (by simp [Op.operands, Call.operands])
  have h2 := hr x (by simp [Op.operands, Call.operands])
  rw [hs] at h1; rw [hx] at h2
  generalize hu : ρ s = u at h1
  generalize hv : ρ x = v at h2
  cases h1
  rename_i hkn hl hmx
  obtain ⟨base, cap', news, hvv, _, hrl, hfc, hb⟩ := slice_cells (P := P) h2 hm (n := m.length) (Nat.le_refl _)
  rw [List.take_of_length_le (Nat.le_refl _)] at hrl
  have hlen : (flat m).length = m.length * j.size := flat_length hm
  have hle : ln * j.size + (flat m).length ≤ cs.length := by rw [hlen, ← Nat.add_mul]; exact hfit
  obtain ⟨vs, e', hw, hsz, hh', hev⟩ := hh.putCells hk hrl hle
  have hone : ∀ x ∈ news, x.oneCell' = true := fun x hx => by
    obtain ⟨q, hq, rfl⟩ := List.mem_iff_getElem.1 hx
    have := (hrl.2 q (by rw [← hrl.1]; exact hq)).1
    simpa [List.getD_eq_getElem?_getD, hq] using this
  have hst := run_storeCells_at P (G.blk k) (ln * j.size) e' news 0 vs w hw (by simp; rw [hsz, hrl.1]; exact hle) hone
  simp only [Nat.add_zero] at hst
  have hrun : (Builtin.append_ #[t, t] ty #[.slice (some ⟨G.blk k, 0, none⟩) ln cap, v]).run P w = .ok (.slice (some ⟨G.blk k, 0, none⟩) (ln + m.length) cap) (w.setRow (G.blk k) (vs.toList.take (ln * j.size) ++ news ++ vs.toList.drop (ln * j.size + news.length)).toArray) := by
    subst hvv
    simp [Builtin.append_, run_underlying he, sizeOf, typeInfo, hj, Builtin.lenOf, hcap, hfc, Addr.add_lit, hst]
  have hrun' : (execOp ρ ⟨dst, .call { callee := .builtin .append, args := #[s, x], argTypes := #[t, t] }, ty, pos, after, guard⟩).run P w = .ok (.value (.slice (some ⟨G.blk k, 0, none⟩) (ln + m.length) cap)) (w.setRow (G.blk k) (vs.toList.take (ln * j.size) ++ news ++ vs.toList.drop (ln * j.size + news.length)).toArray) := by
    simp [execOp, resolve, invoke, builtin, hu, hv, hrun]
  rw [hrun']
  exact ⟨_, _, _, G, hK, .bsl k 0 j.size ag (ln + m.length) cap hkn hcap hl, hh', hev⟩
end
end Go.Ab

namespace Go.Ab
open Go.RowKit
section
variable {P : Program} {fr : Nat → AV} {h : List Blk} {live : List Nat} {o : Oper} {K : KT}

def isSliceU (P : Program) (t : TypeId) : Bool := isSliceT P t

theorem equalIn_nil {P : Program} {w : World} {t e : TypeId} (he : P.underlying t = some (.slice e)) (d : Nat) (a : Option Addr) (n c : Nat) : (Op.equalIn (d + 1) t (.slice a n c) (.slice none 0 0)).run P w = .ok a.isNone w := by
  unfold Op.equalIn
  simp only [Sem.run_bind, run_underlying he, Result.andThen_ok]
  cases a <;> rfl
theorem equal_nil {P : Program} {w : World} {t e : TypeId} (he : P.underlying t = some (.slice e)) (a : Option Addr) (n c : Nat) : (Op.equal t (.slice a n c) (.slice none 0 0)).run P w = .ok a.isNone w := equalIn_nil he 9999 a n c

/-- Whether a slice is nil is not known, where it is empty. -/
theorem AOp.eqNil (t t' : TypeId) (x : Operand) (ho : o.op = .binOp .eql t x (.const (.slice none 0 0)) t') (ht : isSliceT P t = true) {l : List AV} {c : Cap} (hx : ev fr x = .slice l c)
    (hK : ∀ b : Bool, (b = true → l = []) → K (.bool b) h live) : AOp P fr h live o K := by
  obtain ⟨dst, op, ty, pos, after, guard⟩ := o
  simp only at ho; subst ho
  intro w G ρ hρ hr hh
  have h1 := hr x (by simp [Op.operands])
  rw [hx] at h1
  generalize hu : ρ x = u at h1
  have hv := hρ (.slice none 0 0)
  unfold isSliceT at ht
  split at ht
  · rename_i e he
    have key : ∃ b : Bool, (b = true → l = []) ∧ (Op.equal t u (.slice none 0 0)).run P w = .ok b w ∧ ∃ a n c, u = .slice a n c := by
      cases h1 with
      | nilSlice => exact ⟨true, fun _ => rfl, equal_nil he _ _ _, _, _, _, rfl⟩
      | emptySlice a => exact ⟨false, fun _ => rfl, equal_nil he _ _ _, _, _, _, rfl⟩
      | slice _ _ b o cap sz f => exact ⟨false, fun e => Bool.noConfusion e, equal_nil he _ _ _, _, _, _, rfl⟩
    obtain ⟨b, hb, hrun, a, n, c', rfl⟩ := key
    have hrun' : (execOp ρ ⟨dst, .binOp .eql t x (.const (.slice none 0 0)) t', ty, pos, after, guard⟩).run P w = .ok (.value (.bool b)) w := by
      simp [execOp, hu, hv, eqGuard, binOp, hrun]
    rw [hrun']
    exact ⟨_, _, _, G, hK b hb, .bool b, hh, Evo.refl _ _ _⟩
  · simp at ht

theorem AOp.insert (t : TypeId) (x i v : Operand) (ho : o.op = .insert t x i v) {m : MK} {e : TypeId} (ht : mapT P t = some (m, e)) {b : Nat} (hx : ev fr x = .map b) {es : List (AV × AV)} (hb : h[b]? = some (.map es))
    {k y : AV} (hk : ev fr i = k) (hv : ev fr v = y) (ok : okKey m k = true) (oks : okKeys m es = true) (hK : K .undef (h.set b (.map (aput k y es))) live) : AOp P fr h live o K := by
  have hup := AOp.mapUpdate (P := P) (fr := fr) (h := h) (live := live) (o := { o with op := .mapUpdate t x i v }) (K := K) t x i v rfl ht hx hb hk hv ok oks hK
  obtain ⟨dst, op, ty, pos, after, guard⟩ := o
  simp only at ho; subst ho
  exact fun w G ρ hρ hr hh => hup w G ρ hρ hr hh
end
end Go.Ab
