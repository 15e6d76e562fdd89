import Derived.Test.YtjoklidphbmpoaaGreatAb4s
/-
  THE FRAMEWORK, 4t: literals of structs, arrays and slices; all the operations of Ab4.
-/
namespace Go.Ab
set_option linter.unusedVariables false
set_option linter.unusedSimpArgs false
open Go.RowKit

theorem putAt_length {α : Type} : ∀ (xs : List α) (c : List α) (off : Nat), (putAt c off xs).length = c.length
  | [], _, _ => rfl
  | x :: xs, c, off => by rw [putAt, putAt_length xs]; simp

theorem putAt_getD {α : Type} (d : α) : ∀ (xs : List α) (c : List α) (off i : Nat), off + xs.length ≤ c.length → (putAt c off xs).getD i d = if off ≤ i ∧ i < off + xs.length then xs.getD (i - off) d else c.getD i d
  | [], c, off, i, _ => by simp [putAt]; omega
  | x :: xs, c, off, i, h => by
    simp only [List.length_cons] at h
    rw [putAt, putAt_getD d xs _ _ _ (by simp; omega)]
    simp only [List.length_cons]
    by_cases h1 : off + 1 ≤ i ∧ i < off + 1 + xs.length
    · rw [if_pos h1, if_pos (by omega)]
      rw [show i - off = (i - (off + 1)) + 1 from by omega]
      simp
    · rw [if_neg h1]
      by_cases h2 : i = off
      · subst h2
        rw [if_pos (by omega)]
        simp [List.getD_eq_getElem?_getD, show i < c.length by omega]
      · rw [if_neg (by omega)]
        simp [List.getD_eq_getElem?_getD, List.getElem?_set_ne (Ne.symm h2)]

def RepL (w : World) (G : Gh) (c : List AV) (vs : List Value) : Prop := vs.length = c.length ∧ ∀ i, i < c.length → (vs.getD i undef).oneCell' = true ∧ Rep w G (c.getD i .undef) (vs.getD i undef)

theorem RepL.putAt {w : World} {G : Gh} {c xs : List AV} {vs us : List Value} (h : RepL w G c vs) (k : RepL w G xs us) {off : Nat} (hle : off + xs.length ≤ c.length) : RepL w G (putAt c off xs) (putAt vs off us) := by
  refine ⟨by rw [putAt_length, putAt_length]; exact h.1, fun i hi => ?_⟩
  rw [putAt_length] at hi
  rw [putAt_getD _ _ _ _ _ hle, putAt_getD _ _ _ _ _ (by rw [h.1, k.1]; exact hle), k.1]
  by_cases h1 : off ≤ i ∧ i < off + xs.length
  · rw [if_pos h1, if_pos h1]; exact k.2 _ (by omega)
  · rw [if_neg h1, if_neg h1]; exact h.2 i hi

theorem rep_one {w : World} {G : Gh} {x : AV} {v : Value} (h : Rep w G x v) (ho : okCells x = true) (ha : ∀ cs, x ≠ .agg cs) : v.oneCell' = true := by
  cases h <;> first
    | rfl
    | (simp [okCells] at ho; done)
    | exact (ha _ rfl).elim
    | (rename_i hp; cases v <;> simp [plainV] at hp <;> rfl)

theorem rep_cells {w : World} {G : Gh} {x : AV} {v : Value} (h : Rep w G x v) (ho : okCells x = true) : RepL w G x.cells v.cells.toList := by
  by_cases ha : ∃ cs, x = .agg cs
  · obtain ⟨cs, rfl⟩ := ha
    cases h
    rename_i vs hl hone hrep
    exact ⟨by simpa [Value.cells, AV.cells] using hl, fun i hi => by simpa [Value.cells] using ⟨hone i hi, hrep i hi⟩⟩
  · have h1 := rep_one h ho (fun cs e => ha ⟨cs, e⟩)
    have hv : v.cells = #[v] := by cases v <;> simp_all [Value.cells, Value.oneCell']
    have hx : x.cells = [x] := by cases x <;> simp_all [AV.cells]
    rw [hv, hx]
    refine ⟨rfl, fun i hi => ?_⟩
    have : i = 0 := by simp at hi; exact hi
    subst this
    exact ⟨h1, h⟩

theorem foldl_put (off : Nat) : ∀ (l : List Value) (k : Nat) (cells : Array Value), ((l.zipIdx k).foldl (fun cs (p : Value × Nat) => cs.setIfInBounds (off + p.2) p.1) cells).toList = putAt cells.toList (off + k) l
  | [], k, cells => rfl
  | x :: l, k, cells => by
    rw [List.zipIdx_cons, List.foldl_cons, foldl_put off l (k + 1), putAt]
    simp [Nat.add_assoc]

theorem fill_sound {w : World} {G : Gh} {pl : Nat → Option (Nat × Nat)} : ∀ (parts : List (Nat × AV)) (vals : List (Nat × Value)) (c r : List AV) (vs : List Value),
    vals.length = parts.length → (∀ i, i < parts.length → (vals.getD i (0, undef)).1 = (parts.getD i (0, .undef)).1 ∧ Rep w G (parts.getD i (0, .undef)).2 (vals.getD i (0, undef)).2) →
    RepL w G c vs → afill pl c parts = some r → ∃ us, Instr.fill pl vs.toArray vals = some us.toArray ∧ RepL w G r us
  | [], [], c, r, vs, _, _, hc, hr => by
    simp [afill] at hr; subst hr
    exact ⟨vs, rfl, hc⟩
  | [], _ :: _, _, _, _, hl, _, _, _ => by simp at hl
  | _ :: _, [], _, _, _, hl, _, _, _ => by simp at hl
  | (i, x) :: parts, (i', v) :: vals, c, r, vs, hl, hp, hc, hr => by
    have h0 := hp 0 (by simp)
    simp only [List.getD_cons_zero] at h0
    obtain ⟨rfl, hx⟩ := h0
    unfold afill at hr
    split at hr
    · rename_i off size hpl
      split at hr
      · rename_i hcond
        obtain ⟨h1, h2, h3⟩ := hcond
        have hcell := rep_cells hx h1
        have hvs : v.cells.size = size := by rw [← h2, ← hcell.1]; simp
        obtain ⟨us, hf, hu⟩ := fill_sound parts vals _ r (putAt vs off v.cells.toList) (by simpa using hl) (fun j hj => by simpa using hp (j + 1) (by simpa using hj)) (hc.putAt hcell (by omega)) hr
        refine ⟨us, ?_, hu⟩
        unfold Instr.fill
        simp only [hpl]
        rw [if_neg (by simp [hvs]; rw [hc.1]; omega)]
        rw [← hf]
        congr 1
        have hfold := foldl_put off v.cells.toList 0 vs.toArray
        apply Array.toList_inj.1
        rw [← Array.foldl_toList]
        simpa using hfold
      · simp at hr
    · simp at hr

theorem azero_sound {P : Program} {w : World} {G : Gh} {t : TypeId} {x : AV} (h : azero P t = some x) :
    ∃ i z, P.info? t = some i ∧ i.zero = some z ∧ (zeroValue t).run P w = .ok z w ∧ Rep w G x z ∧ RepL w G x.cells z.cells.toList := by
  unfold azero at h
  split at h
  · rename_i i hi
    split at h
    · rename_i cs hz
      split at h
      · rename_i hall
        cases h
        have hr : Rep w G (.agg (cs.toList.map cst)) (.agg cs.toList.toArray) := by
          refine .agg _ _ (by simp) (fun j hj => ?_) (fun j hj => ?_)
          · simp at hj
            have := (Array.all_eq_true.1 hall) j hj
            simpa [List.getD_eq_getElem?_getD, hj] using this
          · simp at hj
            have := cst_rep w G (cs[j])
            simpa [List.getD_eq_getElem?_getD, hj] using this
        refine ⟨i, .agg cs, hi, hz, by simp [zeroValue, typeInfo, hi, hz], by simpa using hr, ?_⟩
        have := rep_cells hr rfl
        simpa using this
      · simp at h
    · rename_i z hna hz
      split at h
      · rename_i hone
        cases h
        refine ⟨i, z, hi, hz, by simp [zeroValue, typeInfo, hi, hz], cst_rep w G z, ?_⟩
        have hzc : z.cells = #[z] := by cases z <;> simp_all [Value.cells, Value.oneCell']
        have hcc : (cst z).cells = [cst z] := by
          unfold cst
          split <;> first | rfl | (split <;> rfl)
        rw [hzc, hcc]
        refine ⟨rfl, fun j hj => ?_⟩
        have : j = 0 := by simp at hj; exact hj
        subst this
        exact ⟨hone, cst_rep w G z⟩
      · simp at h
    · simp at h
  · simp at h

/-- The parts of a literal, as operands and as what stands for them. -/
theorem parts_rep {w : World} {G : Gh} {fr : Nat → AV} {ρ : Operand → Value} (l : List (Nat × Operand)) (hr : ∀ p ∈ l, Rep w G (ev fr p.2) (ρ p.2)) :
    ∀ i, i < (l.map fun p => (p.1, ev fr p.2)).length → ((l.map fun p => (p.1, ρ p.2)).getD i (0, undef)).1 = ((l.map fun p => (p.1, ev fr p.2)).getD i (0, .undef)).1 ∧
      Rep w G ((l.map fun p => (p.1, ev fr p.2)).getD i (0, .undef)).2 ((l.map fun p => (p.1, ρ p.2)).getD i (0, undef)).2 := by
  intro i hi
  simp at hi
  have := hr l[i] (List.getElem_mem hi)
  simp [List.getD_eq_getElem?_getD, hi, this]

theorem mapM_place {P : Program} {w : World} (fs : Array Field) (h : fs.all (fun f => (P.info? f.type).isSome) = true) :
    (fs.mapM (m := Sem) fun f => do pure (f.offset, ← sizeOf f.type)).run P w = .ok (fs.map fun f => (f.offset, ((P.info? f.type).map (·.size)).getD 0)) w := by
  obtain ⟨l⟩ := fs
  have h' : ∀ f ∈ l, (P.info? f.type).isSome = true := by simpa using h
  rw [List.mapM_toArray]
  have key : (l.mapM (m := Sem) fun f => do pure (f.offset, ← sizeOf f.type)).run P w = .ok (l.map fun f => (f.offset, ((P.info? f.type).map (·.size)).getD 0)) w := by
    clear h
    induction l with
    | nil => simp
    | cons f l ih =>
      have hf := h' f (by simp)
      obtain ⟨j, hj⟩ := Option.isSome_iff_exists.1 hf
      have ih := ih (fun g hg => h' g (by simp [hg]))
      simp [List.mapM_cons, sizeOf, typeInfo, hj] at ih ⊢
      rw [ih]
      simp
  simp only [Sem.run_map, key, Result.andThen_ok]
  simp

theorem build_sound {P : Program} {w : World} {G : Gh} {t : TypeId} {fr : Nat → AV} {ρ : Operand → Value} (parts : Array (Nat × Operand)) (hr : ∀ p ∈ parts.toList, Rep w G (ev fr p.2) (ρ p.2))
    {x : AV} (h : abuild P t (parts.toList.map fun p => (p.1, ev fr p.2)) = some x) : ∃ z, (Instr.build t (parts.map fun (i, y) => (i, ρ y))).run P w = .ok z w ∧ Rep w G x z := by
  unfold abuild at h
  split at h
  · rename_i zs hz
    split at h
    · rename_i hok
      split at h
      · rename_i c hc
        cases h
        obtain ⟨i, z, hi, hz', hrun, hrep, hrepl⟩ := azero_sound (w := w) (G := G) hz
        obtain ⟨us, hf, hu⟩ := fill_sound _ (parts.toList.map fun p => (p.1, ρ p.2)) _ _ _ (by simp) (parts_rep _ hr) hrepl hc
        refine ⟨.agg us.toArray, ?_, .agg _ _ hu.1 (fun i hi => (hu.2 i hi).1) (fun i hi => (hu.2 i hi).2)⟩
        have hpl : (parts.map fun (i, y) => (i, ρ y)).toList = parts.toList.map fun p => (p.1, ρ p.2) := by simp
        simp only [Array.toArray_toList] at hf
        unfold structOk at hok
        split at hok
        · rename_i fs hfs
          have hplace : (fun i => (fs.map fun f => (f.offset, ((P.info? f.type).map (·.size)).getD 0))[i]?) = place P t := by
            funext i
            simp only [place, hfs, Array.getElem?_map]
            cases hfi : fs[i]? with
            | none => rfl
            | some f =>
              have hm : f ∈ fs := Array.mem_of_getElem? hfi
              have := (Array.all_eq_true_iff_forall_mem.1 hok) f hm
              obtain ⟨j, hj⟩ := Option.isSome_iff_exists.1 this
              simp [hj]
          simp only [Instr.build, Sem.run_bind, hrun, Result.andThen_ok, run_underlying hfs, mapM_place fs hok, hplace, hpl, hf]
          rfl
        · rename_i n e he
          obtain ⟨j, hj⟩ := Option.isSome_iff_exists.1 hok
          have hplace : (fun i => some (i * j.size, j.size)) = place P t := by
            funext i
            simp [place, he, hj]
          have hs : (sizeOf e).run P w = .ok j.size w := by simp [sizeOf, typeInfo, hj]
          simp only [Instr.build, Sem.run_bind, hrun, Result.andThen_ok, run_underlying he, hs, hplace, hpl, hf]
          rfl
        · simp at hok
      · simp at h
    · simp at h
  · simp at h

theorem mul_add_lt {i k j size : Nat} (hj : j < size) : (k * size ≤ i * size + j ∧ i * size + j < k * size + size) ↔ i = k := by
  constructor
  · rintro ⟨h1, h2⟩
    rcases Nat.lt_trichotomy i k with h | h | h
    · have := Nat.mul_le_mul_right size (show i + 1 ≤ k from h)
      rw [Nat.add_mul] at this
      omega
    · exact h
    · have := Nat.mul_le_mul_right size (show k + 1 ≤ i from h)
      rw [Nat.add_mul] at this
      omega
  · rintro rfl; omega

theorem afill_seq {size : Nat} : ∀ (ps : List AV) (k : Nat) (c : List AV), (∀ p ∈ ps, okCells p = true ∧ p.cells.length = size) → (k + ps.length) * size ≤ c.length →
    ∃ r, afill (fun i => some (i * size, size)) c ((ps.zipIdx k).map fun p => (p.2, p.1)) = some r ∧ r.length = c.length ∧
      ∀ i j, j < size → r.getD (i * size + j) .undef = if k ≤ i ∧ i < k + ps.length then (ps.getD (i - k) .undef).cells.getD j .undef else c.getD (i * size + j) .undef
  | [], k, c, _, _ => ⟨c, rfl, rfl, fun i j _ => by rw [if_neg (by simp)]⟩
  | p :: ps, k, c, hp, hl => by
    obtain ⟨h1, h2⟩ := hp p (by simp)
    simp only [List.length_cons] at hl
    have hks : (k + 1) * size ≤ c.length := Nat.le_trans (Nat.mul_le_mul_right size (by omega)) hl
    rw [Nat.add_mul, Nat.one_mul] at hks
    obtain ⟨r, hr, hrl, hg⟩ := afill_seq ps (k + 1) (putAt c (k * size) p.cells) (fun q hq => hp q (by simp [hq])) (by rw [putAt_length, show k + 1 + ps.length = k + (ps.length + 1) from by omega]; exact hl)
    refine ⟨r, ?_, by rw [hrl, putAt_length], fun i j hj => ?_⟩
    · rw [List.zipIdx_cons, List.map_cons, afill]
      simp only []
      rw [if_pos ⟨h1, h2, by omega⟩]
      exact hr
    · rw [hg i j hj, putAt_getD _ _ _ _ _ (by rw [h2]; omega), h2]
      by_cases hik : i = k
      · subst hik
        rw [if_neg (by omega), if_pos ((mul_add_lt hj).2 rfl), if_pos (by simp)]
        simp
      · rw [if_neg (show ¬ (k * size ≤ i * size + j ∧ i * size + j < k * size + size) from fun h => hik ((mul_add_lt hj).1 h))]
        by_cases hin : k + 1 ≤ i ∧ i < k + 1 + ps.length
        · rw [if_pos hin, if_pos (by simp; omega)]
          rw [show i - k = (i - (k + 1)) + 1 from by omega]
          simp
        · rw [if_neg hin, if_neg (by simp; omega)]

theorem parts_zip {α : Type} (parts : List (Nat × α)) (len : Nat) (h : parts.map (·.1) = List.range len) : parts = ((parts.map (·.2)).zipIdx 0).map fun p => (p.2, p.1) := by
  apply List.ext_getElem
  · simp
  · intro i h1 h2
    have hi : (parts.map (·.1))[i]'(by simpa using h1) = i := by simp [h]
    simp at hi
    simp
    exact Prod.ext hi rfl

theorem HRel.row {w : World} {G : Gh} {h : List Blk} {live : List Nat} (hh : HRel w G h live) (o : Obj) :
    HRel (w.alloc o) { G with imm := fun b q => G.imm b q ∨ b = w.heap.size } h live ∧ Evo w G live (w.alloc o) { G with imm := fun b q => G.imm b q ∨ b = w.heap.size } live := by
  have himm : ∀ b q, G.imm b q → (w.alloc o).cell? ⟨b, q, none⟩ = w.cell? ⟨b, q, none⟩ := fun b q hb => World.cell?_alloc_lt w o ⟨b, q, none⟩ (hh.imm_lt b q hb)
  have hext : Ext G { G with imm := fun b q => G.imm b q ∨ b = w.heap.size } := ⟨Nat.le_refl _, fun _ _ => rfl, fun _ _ h => .inl h, fun _ _ h => h⟩
  have htl : ∀ d, TokOk w G d → d.b < w.heap.size := fun d ⟨⟨cur, hc, _⟩, _⟩ => (Array.getElem?_eq_some_iff.1 hc).1
  refine ⟨⟨hh.len, fun k x hx => ?_, fun k hk => ?_, hh.inj, fun b q hb => ?_, fun b q k hb hk => ?_, fun t ht => ?_, hh.tok_ne⟩, ⟨rfl, rfl, rfl, by simp, himm, fun b hb _ => Below.heap_alloc w o b hb, fun b _ hb => hb, hext⟩⟩
  · have hk : k < G.n := by rw [← hh.len]; exact (List.getElem?_eq_some_iff.1 hx).1
    exact (hh.blk k x hx).mono (Below.heap_alloc w o _ (hh.blk_lt k hk)) himm hext
  · have := hh.blk_lt k hk; simp; omega
  · rcases hb with hb | rfl
    · have := hh.imm_lt b q hb; simp; omega
    · simp
  · rcases hb with hb | rfl
    · exact hh.imm_blk b q k hb hk
    · have := hh.blk_lt k hk; show G.blk k ≠ _; omega
  · obtain ⟨d, hd, hok⟩ := hh.tok t ht
    refine ⟨d, hd, ?_⟩
    have hl := htl d hok
    obtain ⟨⟨cur, hc, hs⟩, h1, h2, h3, h4⟩ := hok
    refine ⟨⟨cur, (Below.heap_alloc w o _ hl).trans hc, hs⟩, h1, h2, fun q hq hi => ?_, h4⟩
    rcases hi with hi | hi
    · exact h3 q hq hi
    · omega

theorem buildSlice_sound {P : Program} {w : World} {G : Gh} {h : List Blk} {live : List Nat} {t : TypeId} {len : Nat} {fr : Nat → AV} {ρ : Operand → Value} (parts : Array (Nat × Operand)) (hr : ∀ p ∈ parts.toList, Rep w G (ev fr p.2) (ρ p.2))
    (hh : HRel w G h live) {x : AV} (hx : abuildSlice P t len (parts.toList.map fun p => (p.1, ev fr p.2)) = some x) :
    ∃ z w', (Instr.buildSlice t len (parts.map fun (i, y) => (i, ρ y))).run P w = .ok z w' ∧ Post w G live (ret x h live) z w' := by
  unfold abuildSlice at hx
  split at hx
  · rename_i sz0 hsz0
    unfold litSz at hsz0
    split at hsz0
    · rename_i e he
      split at hsz0
      · rename_i j zz hj hz
        split at hsz0
        · rename_i hc0
          obtain ⟨h3, h4⟩ := hc0
          simp only [Option.some.injEq] at hsz0
          subst hsz0
          split at hx
          case isFalse => simp at hx
          rename_i hcond
          obtain ⟨h1, h2, h50⟩ := hcond
          have h5 : ∀ q ∈ (parts.toList.map fun p => (p.1, ev fr p.2)).map (·.2), okCells q = true ∧ q.cells.length = j.size := by
            intro q hq
            obtain ⟨p, hp, rfl⟩ := List.mem_map.1 hq
            have := (List.all_eq_true.1 h50) p hp
            simpa using this
          cases hx
          obtain ⟨i, z, hi, hz', hrun, hrep, hrepl⟩ := azero_sound (w := w) (G := G) hz
          let ps := (parts.toList.map fun p => (p.1, ev fr p.2)).map (·.2)
          have hpl : ps.length = len := by
            have := congrArg List.length h1
            simpa [ps] using this
          have hzs : z.cells.size = j.size := by have := hrepl.1; simp at this; omega
          let zeros : Array Value := (Array.range (len * j.size)).map (z.cells[· % z.cells.size]!)
          have hzl : zeros.size = len * j.size := by simp [zeros]
          have hzrep : RepL w G (List.replicate (len * j.size) .undef) zeros.toList := by
            refine ⟨by simp [hzl], fun q hq => ?_⟩
            simp only [List.length_replicate] at hq
            have hm : q % z.cells.size < z.cells.size := Nat.mod_lt _ (by omega)
            have hone := (hrepl.2 (q % z.cells.size) (by have := hrepl.1; simp at this; omega)).1
            have e1 : (List.replicate (len * j.size) AV.undef).getD q .undef = .undef := by simp [List.getD_eq_getElem?_getD, hq]
            rw [e1]
            refine ⟨?_, .undef _⟩
            have : zeros.toList.getD q undef = z.cells.toList.getD (q % z.cells.size) undef := by
              simp [zeros, List.getD_eq_getElem?_getD, hq, hm]
            rw [this]; exact hone
          obtain ⟨r, hf, hrl, hg⟩ := afill_seq (size := j.size) ps 0 (List.replicate (len * j.size) .undef) h5 (by simp [hpl])
          rw [← parts_zip _ len h1] at hf
          obtain ⟨us, hfu, hu⟩ := fill_sound _ (parts.toList.map fun p => (p.1, ρ p.2)) _ _ _ (by simp) (parts_rep _ hr) hzrep hf
          have hpv : (parts.map fun (i, y) => (i, ρ y)).toList = parts.toList.map fun p => (p.1, ρ p.2) := by simp
          have hs : (sizeOf e).run P w = .ok j.size w := by simp [sizeOf, typeInfo, hj]
          refine ⟨.slice (some ⟨w.heap.size, 0, none⟩) len len, w.alloc (.cells us.toArray e), ?_, ?_⟩
          · simp only [Array.toArray_toList] at hfu
            simp only [Instr.buildSlice, Sem.run_bind, run_underlying he, Result.andThen_ok, hs]
            rw [if_neg (by omega)]
            by_cases h0 : len * j.size = 0
            · have hz0 : (Array.range (len * j.size)).map ((#[] : Array Value)[· % (#[] : Array Value).size]!) = zeros := by simp [zeros, h0]
              rw [if_pos h0]
              simp only [pure_bind, hz0, hpv, hfu]
              rfl
            · rw [if_neg h0]
              simp only [Sem.run_bind, hrun, Result.andThen_ok, pure_bind]
              change Sem.run P (match Instr.fill (fun i => some (i * j.size, j.size)) zeros _ with | some cells => _ | x => _) w = _
              simp only [hpv, hfu]
              rfl
          · obtain ⟨hh', hev⟩ := hh.row (.cells us.toArray e)
            refine ⟨_, h, live, _, ⟨rfl, rfl, rfl⟩, ?_, hh', hev⟩
            have hrl' : r.length = len * j.size := by rw [hrl]; simp
            have hcell : ∀ q, q < len * j.size → (w.alloc (.cells us.toArray e)).cell? ⟨w.heap.size, q, none⟩ = some (us.getD q undef) := fun q hq => by
              rw [World.cell?_alloc_new]
              have : q < us.length := by rw [hu.1, hrl']; exact hq
              simp [List.getD_eq_getElem?_getD, this]
            have hq : ∀ i k, i < ps.length → k < j.size → i * j.size + k < len * j.size := fun i k hi hk => by
              have := Nat.mul_le_mul_right j.size (show i + 1 ≤ len by omega)
              rw [Nat.add_mul] at this
              omega
            have key := Rep.slice (w := w.alloc (.cells us.toArray e)) (G := { G with imm := fun b q => G.imm b q ∨ b = w.heap.size }) ps .full w.heap.size 0 ps.length j.size (fun i k => us.getD (i * j.size + k) undef)
              (Nat.le_refl _) (by rw [hpl]; have := Nat.le_mul_of_pos_right len h3; unfold maxLen; omega) (fun i hi => by
                have hm : ps.getD i .undef ∈ ps := by rw [List.getD_eq_getElem?_getD, List.getElem?_eq_getElem hi]; exact List.getElem_mem hi
                exact (h5 _ hm).2) (fun i k _ _ => .inr rfl) (fun i k hi hk => by
                rw [Nat.zero_add]; exact hcell _ (hq i k hi hk)) (fun i k hi hk => (hu.2 _ (by rw [hrl']; exact hq i k hi hk)).1) (fun i k hi hk => by
                have := (hu.2 (i * j.size + k) (by rw [hrl']; exact hq i k hi hk)).2
                rw [hg i k hk, if_pos (by omega)] at this
                simpa using hev.rep this) rfl
            rw [hpl] at key
            exact key
        · simp at hsz0
      · simp at hsz0
    · simp at hsz0
  · simp at hx

end Go.Ab
