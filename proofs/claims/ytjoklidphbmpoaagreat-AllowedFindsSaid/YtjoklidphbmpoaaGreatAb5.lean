import Derived.Test.YtjoklidphbmpoaaGreatAb4u
/-
  THE FRAMEWORK, 5: operations on blocks; append.
-/
namespace Go.Ab
set_option linter.unusedVariables false
set_option linter.unusedSimpArgs false
open Go.RowKit

/-- A package-level variable's cells, where they are told. -/
def globOf : List Blk → Nat → Option (List AV)
  | [], _ => none
  | .glb g' c _ :: r, g => if g' = g then some c else globOf r g
  | _ :: r, g => globOf r g

theorem globOf_mem {g : Nat} {c : List AV} : ∀ {h : List Blk}, globOf h g = some c → ∃ ob, Blk.glb g c ob ∈ h
  | .glb g' c' ob :: r, hg => by
    simp only [globOf] at hg
    split at hg
    · rename_i e; subst e; cases hg; exact ⟨ob, by simp⟩
    · obtain ⟨o, ho⟩ := globOf_mem hg; exact ⟨o, List.mem_cons_of_mem _ ho⟩
  | .cells _ :: r, hg => let ⟨o, ho⟩ := globOf_mem (h := r) hg; ⟨o, List.mem_cons_of_mem _ ho⟩
  | .map _ :: r, hg => let ⟨o, ho⟩ := globOf_mem (h := r) hg; ⟨o, List.mem_cons_of_mem _ ho⟩
  | .siter _ _ :: r, hg => let ⟨o, ho⟩ := globOf_mem (h := r) hg; ⟨o, List.mem_cons_of_mem _ ho⟩
  | .miter _ _ _ _ :: r, hg => let ⟨o, ho⟩ := globOf_mem (h := r) hg; ⟨o, List.mem_cons_of_mem _ ho⟩
  | .gone :: r, hg => let ⟨o, ho⟩ := globOf_mem (h := r) hg; ⟨o, List.mem_cons_of_mem _ ho⟩

theorem globOf_app {g : Nat} {c : List AV} (x : List Blk) : ∀ {h : List Blk}, globOf h g = some c → globOf (h ++ x) g = some c
  | .glb g' c' ob :: r, hg => by
    simp only [globOf, List.cons_append] at hg ⊢
    split at hg
    · rename_i e; rw [if_pos e]; exact hg
    · rename_i e; rw [if_neg e]; exact globOf_app x hg
  | .cells _ :: r, hg => globOf_app (h := r) x hg
  | .map _ :: r, hg => globOf_app (h := r) x hg
  | .siter _ _ :: r, hg => globOf_app (h := r) x hg
  | .miter _ _ _ _ :: r, hg => globOf_app (h := r) x hg
  | .gone :: r, hg => globOf_app (h := r) x hg

def aload (P : Program) (t : TypeId) (h : List Blk) (a : AV) : Option AV :=
  match tk P t with
  | some k => match a with
    | .ptr b off => match h[b]? with
      | some (.cells c) => getCells c off k
      | _ => none
    | .eptr c off => getCells c off k
    | .glob g off => match globOf h g with
      | some c => getCells c off k
      | none => none
    | _ => none
  | none => none

def fits (k : TK) (x : AV) : Bool :=
  match k, x with
  | .agg n, .agg cs => cs.length == n
  | .agg _, _ => false
  | .one, .agg _ => false
  | .one, x => okCells x

def astore (P : Program) (t : TypeId) (h : List Blk) (a v : AV) : Option (List Blk) :=
  match tk P t with
  | some k => match a with
    | .ptr b off => match h[b]? with
      | some (.cells c) => if fits k v = true ∧ off + v.cells.length ≤ c.length then some (h.set b (.cells (putAt c off v.cells))) else none
      | _ => none
    | _ => none
  | none => none

def astepH (P : Program) (fr : Nat → AV) (h : List Blk) (o : Oper) : Option (AV × List Blk) :=
  match o.op with
  | .load t a => match aload P t h (ev fr a) with
    | some x => some (x, h)
    | none => none
  | .store t a v => match astore P t h (ev fr a) (ev fr v) with
    | some h' => some (.undef, h')
    | none => none
  | .alloc t => match azero P t with
    | some z => some (.ptr h.length 0, h ++ [.cells z.cells])
    | none => none
  | .box _ v => if okCells (ev fr v) then some (.ptr h.length 0, h ++ [.cells (ev fr v).cells]) else none
  | _ => none

theorem fits_ok {k : TK} {x : AV} (h : fits k x = true) : okCells x = true := by
  cases k <;> cases x <;> simp_all [fits, okCells]

theorem fits_size {P : Program} {t : TypeId} {k : TK} (hk : tk P t = some k) {x : AV} (h : fits k x = true) : ∃ i, P.info? t = some i ∧ x.cells.length = i.size := by
  cases k with
  | one =>
    obtain ⟨d, i, _, _, hi, hs⟩ := tk_one hk
    refine ⟨i, hi, ?_⟩
    cases x <;> simp_all [fits, AV.cells, okCells]
  | agg n =>
    obtain ⟨d, i, _, _, hi, hs⟩ := tk_agg hk
    refine ⟨i, hi, ?_⟩
    cases x <;> simp_all [fits, AV.cells]

theorem putAt_eq {α : Type} : ∀ (xs : List α) (c : List α) (off : Nat), off + xs.length ≤ c.length → putAt c off xs = c.take off ++ xs ++ c.drop (off + xs.length)
  | [], c, off, _ => by simp [putAt]
  | x :: xs, c, off, h => by
    simp only [List.length_cons] at h
    rw [putAt, putAt_eq xs _ _ (by simp; omega)]
    have h1 : (c.set off x).take (off + 1) = c.take off ++ [x] := by
      rw [List.take_add_one, List.take_set_of_le (Nat.le_refl _)]
      simp [show off < c.length by omega]
    have h2 : (c.set off x).drop (off + 1 + xs.length) = c.drop (off + 1 + xs.length) := by
      rw [List.drop_set_of_lt (by omega)]
    rw [h1, h2]
    simp [List.length_cons, show off + (xs.length + 1) = off + 1 + xs.length by omega]

theorem HRel.put {w : World} {G : Gh} {h : List Blk} {live : List Nat} (hh : HRel w G h live) {k : Nat} {x : Blk} (hk : k < G.n) (w' : World) (hos : w'.os = w.os) (htape : w'.tape = w.tape) (hout : w'.output = w.output)
    (hsz : w'.heap.size = w.heap.size) (hoth : ∀ b, b ≠ G.blk k → w'.heap[b]? = w.heap[b]?) (hx : BlkRep w' G x (G.blk k)) :
    HRel w' G (h.set k x) live ∧ Evo w G live w' G live := by
  have himm : ∀ b q, G.imm b q → w'.cell? ⟨b, q, none⟩ = w.cell? ⟨b, q, none⟩ := fun b q hb => World.cell?_of_block (hoth b (fun e => hh.imm_blk b q k hb hk e.symm))
  refine ⟨⟨by simp [hh.len], fun j y hj => ?_, fun j hj => by rw [hsz]; exact hh.blk_lt j hj, hh.inj, fun b q hb => by rw [hsz]; exact hh.imm_lt b q hb, hh.imm_blk, fun t ht => ?_, hh.tok_ne⟩,
    ⟨hos, htape, hout, by omega, himm, fun b hb hn => hoth b (fun e => hn (.inl ⟨k, hk, e.symm⟩)), fun b _ hb => hb, Ext.refl G⟩⟩
  · rw [List.getElem?_set] at hj
    split at hj
    · rename_i e
      subst e
      split at hj
      · cases hj; exact hx
      · simp at hj
    · rename_i hne
      have hjn : j < G.n := by rw [← hh.len]; exact (List.getElem?_eq_some_iff.1 hj).1
      exact (hh.blk j y hj).mono (hoth _ (fun e => hne (hh.inj _ _ hjn hk e).symm)) himm (Ext.refl G)
  · obtain ⟨d, hd, ⟨⟨cur, hc, hs⟩, h1, h2, h3, h4⟩⟩ := hh.tok t ht
    exact ⟨d, hd, ⟨⟨cur, (hoth _ (fun e => h4 k hk e.symm)).trans hc, hs⟩, h1, h2, h3, h4⟩⟩

theorem HRel.push {w : World} {G : Gh} {h : List Blk} {live : List Nat} (hh : HRel w G h live) (c : List AV) (vs : List Value) (e : TypeId) (hc : RepL w G c vs) :
    ∃ G', HRel (w.alloc (.cells vs.toArray e)) G' (h ++ [.cells c]) live ∧ Evo w G live (w.alloc (.cells vs.toArray e)) G' live ∧ G'.n = G.n + 1 ∧ G'.blk G.n = w.heap.size := by
  let G' : Gh := { G with n := G.n + 1, blk := fun k => if k = G.n then w.heap.size else G.blk k }
  have himm : ∀ b q, G.imm b q → (w.alloc (.cells vs.toArray e)).cell? ⟨b, q, none⟩ = w.cell? ⟨b, q, none⟩ := fun b q hb => World.cell?_alloc_lt w _ ⟨b, q, none⟩ (hh.imm_lt b q hb)
  have hold : ∀ k, k < G.n → G'.blk k = G.blk k := fun k hk => if_neg (by omega)
  have hnew : G'.blk G.n = w.heap.size := if_pos rfl
  have hext : Ext G G' := ⟨Nat.le_succ _, hold, fun _ _ h => h, fun _ _ h => h⟩
  have hcase : ∀ k, k < G.n + 1 → k = G.n ∨ k < G.n := fun k hk => by omega
  refine ⟨G', ⟨by simp [hh.len, G'], fun k x hx => ?_, fun k hk => ?_, fun j k hj hk hjk => ?_, fun b q hb => ?_, fun b q k hb hk => ?_, fun t ht => ?_, hh.tok_ne⟩,
    ⟨rfl, rfl, rfl, by simp, himm, fun b hb _ => Below.heap_alloc w _ b hb, fun b hb ho => ?_, hext⟩, rfl, hnew⟩
  · have hkl := (List.getElem?_eq_some_iff.1 hx).1
    simp [hh.len] at hkl
    rcases hcase k hkl with rfl | hk
    · rw [hnew]
      rw [List.getElem?_append_right (by rw [hh.len]; exact Nat.le_refl _)] at hx
      simp [hh.len] at hx
      subst hx
      refine ⟨vs.toArray, e, heap_alloc_new w _, by simpa using hc.1, fun i hi => ?_⟩
      have := hc.2 i hi
      exact ⟨by simpa [List.getD_eq_getElem?_getD] using this.1, by simpa [List.getD_eq_getElem?_getD] using this.2.mono himm hext⟩
    · rw [hold k hk]
      rw [List.getElem?_append_left (by rw [hh.len]; exact hk)] at hx
      exact (hh.blk k x hx).mono (Below.heap_alloc w _ _ (hh.blk_lt k hk)) himm hext
  · rcases hcase k hk with rfl | hk
    · rw [hnew]; simp
    · rw [hold k hk]; have := hh.blk_lt k hk; simp; omega
  · rcases hcase j hj with rfl | hj <;> rcases hcase k hk with rfl | hk
    · rfl
    · rw [hnew, hold k hk] at hjk; have := hh.blk_lt k hk; omega
    · rw [hnew, hold j hj] at hjk; have := hh.blk_lt j hj; omega
    · rw [hold j hj, hold k hk] at hjk; exact hh.inj j k hj hk hjk
  · have := hh.imm_lt b q hb; simp; omega
  · rcases hcase k hk with rfl | hk
    · rw [hnew]; have := hh.imm_lt b q hb; omega
    · rw [hold k hk]; exact hh.imm_blk b q k hb hk
  · obtain ⟨d, hd, ⟨⟨cur, hc', hs⟩, h1, h2, h3, h4⟩⟩ := hh.tok t ht
    have hl : d.b < w.heap.size := (Array.getElem?_eq_some_iff.1 hc').1
    refine ⟨d, hd, ⟨⟨cur, (Below.heap_alloc w _ _ hl).trans hc', hs⟩, h1, h2, h3, fun k hk => ?_⟩⟩
    rcases hcase k hk with rfl | hk
    · rw [hnew]; omega
    · rw [hold k hk]; exact h4 k hk
  · rcases ho with ⟨k, hk, hkb⟩ | ho
    · rcases hcase k hk with rfl | hk
      · rw [hnew] at hkb; omega
      · rw [hold k hk] at hkb; exact .inl ⟨k, hk, hkb⟩
    · exact .inr ho

theorem cellsAt_blk {w : World} {G : Gh} {h : List Blk} {live : List Nat} (hh : HRel w G h live) {k : Nat} {c : List AV} (hk : h[k]? = some (.cells c)) : CellsAt w G (G.blk k) 0 c := by
  obtain ⟨vs, e, h1, h2, h3⟩ := hh.blk k _ hk
  refine ⟨fun i => vs.getD i undef, fun i hi => ⟨?_, h3 i hi⟩⟩
  rw [Nat.zero_add, cell_of_row w _ i vs e _ h1]
  have : i < vs.size := by omega
  simp [this]

theorem aload_sound {P : Program} {w : World} {G : Gh} {h : List Blk} {live : List Nat} {t : TypeId} {a : AV} {v : Value} (hh : HRel w G h live) (ha : Rep w G a v) {x : AV} (hx : aload P t h a = some x) :
    ∃ z, (Instr.loadAt t v).run P w = .ok z w ∧ Rep w G x z := by
  unfold aload at hx
  split at hx
  · rename_i k hk
    split at hx
    · rename_i b off
      split at hx
      · rename_i c hc
        cases ha
        obtain ⟨z, hz, hr⟩ := load_sound (P := P) hk (cellsAt_blk hh hc) hx
        refine ⟨z, ?_, hr⟩
        rw [Nat.zero_add] at hz
        simp [Instr.loadAt, Instr.sureAddr, hz]
      · simp at hx
    · rename_i c off
      cases ha
      rename_i b o f hi hc ho hr
      obtain ⟨z, hz, hr⟩ := load_sound (P := P) hk (⟨f, fun i hi => ⟨hc i hi, ho i hi, hr i hi⟩⟩ : CellsAt w G b o c) hx
      exact ⟨z, by simp [Instr.loadAt, Instr.sureAddr, hz], hr⟩
    · rename_i g off
      split at hx
      · rename_i c hc
        cases ha
        obtain ⟨ob, hmem⟩ := globOf_mem hc
        obtain ⟨i, hi, hib⟩ := List.mem_iff_getElem.1 hmem
        have hb := hh.blk i (.glb g c ob) (by rw [List.getElem?_eq_getElem hi, hib])
        obtain ⟨e0, vs, e, fz, _, h1, h2, h3⟩ := hb
        rw [e0] at h1
        have hca : CellsAt w G g 0 c := ⟨fun i => vs.getD i undef, fun i hi => ⟨by
          rw [Nat.zero_add, cell_of_row w _ i vs e _ h1]
          have : i < vs.size := by omega
          simp [this], h3 i hi⟩⟩
        obtain ⟨z, hz, hr⟩ := load_sound (P := P) hk hca hx
        rw [Nat.zero_add] at hz
        exact ⟨z, by simp [Instr.loadAt, Instr.sureAddr, hz], hr⟩
      · simp at hx
    · simp at hx
  · simp at hx

theorem astore_sound {P : Program} {w : World} {G : Gh} {h h' : List Blk} {live : List Nat} {t : TypeId} {a x : AV} {u v : Value} (hh : HRel w G h live) (ha : Rep w G a u) (hv : Rep w G x v) (hx : astore P t h a x = some h') :
    ∃ w', (Instr.storeAt t u v).run P w = .ok () w' ∧ HRel w' G h' live ∧ Evo w G live w' G live := by
  unfold astore at hx
  split at hx
  · rename_i k hk
    split at hx
    · rename_i b off
      split at hx
      · rename_i c hc
        split at hx
        · rename_i hcond
          obtain ⟨hf, hle⟩ := hcond
          cases hx
          cases ha
          rename_i hb
          obtain ⟨vs, e, h1, h2, h3⟩ := hh.blk b _ hc
          obtain ⟨i, hi, hsz⟩ := fits_size hk hf
          have hcells := rep_cells hv (fits_ok hf)
          have hvs : v.cells.size = i.size := by rw [← hsz, ← hcells.1]; simp
          have hst := run_storeCells_at P (G.blk b) off e v.cells.toList 0 vs w h1 (by simp; rw [h2, hvs, ← hsz]; exact hle) (fun y hy => by
            obtain ⟨q, hq, rfl⟩ := List.mem_iff_getElem.1 hy
            have hq' : q < v.cells.size := by simpa using hq
            have := (hcells.2 q (by rw [← hcells.1]; exact hq)).1
            simpa [List.getD_eq_getElem?_getD, hq'] using this)
          simp only [Nat.add_zero] at hst
          refine ⟨w.setRow (G.blk b) (vs.toList.take off ++ v.cells.toList ++ vs.toList.drop (off + v.cells.toList.length)).toArray, by simp [Instr.storeAt, Instr.sureAddr, storeVar, sizeOf, typeInfo, hi, hvs, hst], ?_⟩
          · refine hh.put hb (w.setRow (G.blk b) (vs.toList.take off ++ v.cells.toList ++ vs.toList.drop (off + v.cells.toList.length)).toArray) rfl rfl rfl (by simp) (fun q hq => setRow_other w _ q _ hq) ?_
            have himm : ∀ b' q, G.imm b' q → (w.setRow (G.blk b) (vs.toList.take off ++ v.cells.toList ++ vs.toList.drop (off + v.cells.toList.length)).toArray).cell? ⟨b', q, none⟩ = w.cell? ⟨b', q, none⟩ := fun b' q hbq =>
              World.cell?_of_block (setRow_other w _ b' _ (fun e => hh.imm_blk b' q b hbq hb e.symm))
            refine ⟨_, e, setRow_heap w _ vs _ e _ h1, ?_, fun j hj => ?_⟩
            · rw [putAt_length]; simp; rw [hvs, ← hsz]; omega
            · have hrl : RepL w G c vs.toList := ⟨by simpa using h2, fun i hi => by simpa [List.getD_eq_getElem?_getD] using h3 i hi⟩
              have := (hrl.putAt hcells hle).2 j hj
              rw [putAt_eq v.cells.toList vs.toList off (by simp; rw [h2, hvs, ← hsz]; exact hle)] at this
              exact ⟨by simpa [List.getD_eq_getElem?_getD] using this.1, by simpa [List.getD_eq_getElem?_getD] using this.2.mono himm (Ext.refl G)⟩
        · simp at hx
      · simp at hx
    · simp at hx
  · simp at hx

theorem astepH_sound {P : Program} {fr : Nat → AV} {h : List Blk} {live : List Nat} {o : Oper} {x : AV} {h' : List Blk} (hx : astepH P fr h o = some (x, h')) : AOp P fr h live o (ret x h' live) := by
  obtain ⟨dst, op, ty, pos, after, guard⟩ := o
  cases op with
  | load t a =>
    intro w G ρ hρ hr hh
    simp only [astepH] at hx
    split at hx
    · rename_i y hy
      cases hx
      obtain ⟨z, hz, hrz⟩ := aload_sound (P := P) hh (hr a (by simp [Op.operands])) hy
      simp only [execOp]
      rw [run_value hz]
      exact ⟨_, _, _, G, ⟨rfl, rfl, rfl⟩, hrz, hh, Evo.refl _ _ _⟩
    · simp at hx
  | store t a v =>
    intro w G ρ hρ hr hh
    simp only [astepH] at hx
    split at hx
    · rename_i y hy
      cases hx
      obtain ⟨w', hz, hh', he⟩ := astore_sound (P := P) hh (hr a (by simp [Op.operands])) (hr v (by simp [Op.operands])) hy
      simp only [execOp, Sem.run_bind, hz, Result.andThen_ok, Sem.run_pure]
      exact ⟨_, _, _, G, ⟨rfl, rfl, rfl⟩, .undef _, hh', he⟩
    · simp at hx
  | alloc t =>
    intro w G ρ hρ hr hh
    simp only [astepH] at hx
    split at hx
    · rename_i z hz
      cases hx
      obtain ⟨i, zv, hi, hz', hrun, hrep, hrepl⟩ := azero_sound (w := w) (G := G) hz
      obtain ⟨G', hh', he, hn, hb⟩ := hh.push z.cells zv.cells.toList t hrepl
      simp only [execOp, Instr.alloc, Sem.run_bind, hrun, Result.andThen_ok, newVar, newRow, run_newObj, Sem.run_pure, AUpon]
      refine ⟨_, _, _, G', ⟨rfl, rfl, rfl⟩, ?_, by simpa using hh', by simpa using he⟩
      have := Rep.ptr (w := w.alloc (.cells zv.cells t)) (G := G') h.length 0 (by rw [hn, hh.len]; exact Nat.lt_succ_self _)
      rw [hh.len, hb] at this
      rw [hh.len]
      exact this
    · simp at hx
  | box t v =>
    intro w G ρ hρ hr hh
    simp only [astepH] at hx
    split at hx
    · rename_i hok
      cases hx
      obtain ⟨G', hh', he, hn, hb⟩ := hh.push (ev fr v).cells (ρ v).cells.toList t (rep_cells (hr v (by simp [Op.operands])) hok)
      simp only [execOp, Instr.box, Sem.run_bind, newVar, newRow, run_newObj, Sem.run_pure, Result.andThen_ok, AUpon]
      refine ⟨_, _, _, G', ⟨rfl, rfl, rfl⟩, ?_, by simpa using hh', by simpa using he⟩
      have := Rep.ptr (w := w.alloc (.cells (ρ v).cells t)) (G := G') h.length 0 (by rw [hn, hh.len]; exact Nat.lt_succ_self _)
      rw [hh.len, hb] at this
      rw [hh.len]
      exact this
    · simp at hx
  | _ => simp [astepH] at hx

end Go.Ab
