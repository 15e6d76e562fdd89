import Derived.Test.YtjoklidphbmpoaaGreatAb15
import Derived.Sort.Grow
import Derived.Deep.Draws
import Derived.Lib.LaidTab
/-
  THE FRAMEWORK, 16: what the kit says of a library's function, as a contract here.
-/
namespace Go.Ab
set_option linter.unusedVariables false
set_option linter.unusedSimpArgs false
open Go.RowKit

section
variable {P : Program} {h : List Blk} {live : List Nat} {K : KT}

/-- New blocks behind the heap, and draws. -/
theorem HRel.grown {w : World} {G : Gh} (hh : HRel w G h live) (k : Nat) (os : Array Obj) : HRel (Go.Sort.grow (w.drewN k) os) G h live ∧ Evo w G live (Go.Sort.grow (w.drewN k) os) G live := by
  have hheap : ∀ b, b < w.heap.size → (Go.Sort.grow (w.drewN k) os).heap[b]? = w.heap[b]? := fun b hb => by
    show (w.heap ++ os)[b]? = _
    rw [Array.getElem?_append, if_pos hb]
  have hcell : ∀ b q, G.imm b q → (Go.Sort.grow (w.drewN k) os).cell? ⟨b, q, none⟩ = w.cell? ⟨b, q, none⟩ := fun b q hb => World.cell?_of_block (hheap b (hh.imm_lt b q hb))
  have hsz : w.heap.size ≤ (Go.Sort.grow (w.drewN k) os).heap.size := by
    show _ ≤ (w.heap ++ os).size
    simp
  have hev : Evo w G live (Go.Sort.grow (w.drewN k) os) G live := ⟨rfl, rfl, rfl, hsz, hcell, fun b hb _ => hheap b hb, fun _ _ h => h, Ext.refl G⟩
  refine ⟨⟨hh.len, fun k x hx => ?_, fun k hk => Nat.lt_of_lt_of_le (hh.blk_lt k hk) hsz, hh.inj, fun b o hb => Nat.lt_of_lt_of_le (hh.imm_lt b o hb) hsz, hh.imm_blk, fun t ht => ?_, hh.tok_ne⟩, hev⟩
  · have hk : k < G.n := by rw [← hh.len]; exact (List.getElem?_eq_some_iff.1 hx).1
    exact (hh.blk k x hx).mono (hheap _ (hh.blk_lt k hk)) hcell (Ext.refl G)
  · obtain ⟨d, hd, ⟨⟨cur, hc, hs⟩, h1, h2, h3, h4⟩⟩ := hh.tok t ht
    exact ⟨d, hd, ⟨⟨cur, (hheap _ (Array.getElem?_eq_some_iff.1 hc).1).trans hc, hs⟩, h1, h2, h3, h4⟩⟩

/-- A package-level variable's numbers, in the world. -/
theorem HRel.glob {w : World} {G : Gh} (hh : HRel w G h live) {g : Nat} {k : IntKind} {zs : List Int} (hg : globOf h g = some (zs.map (AV.int k))) : ∃ e fz, w.heap[g]? = some (.cells (zs.map (Value.int k)).toArray e fz) := by
  obtain ⟨ob, hmem⟩ := globOf_mem hg
  obtain ⟨i, hi, hib⟩ := List.mem_iff_getElem.1 hmem
  have hb := hh.blk i (.glb g (zs.map (AV.int k)) ob) (by rw [List.getElem?_eq_getElem hi, hib])
  obtain ⟨e0, vs, e, fz, _, h1, h2, h3⟩ := hb
  rw [e0] at h1
  refine ⟨e, fz, ?_⟩
  rw [h1]
  congr 2
  apply Array.ext
  · simpa using h2
  · intro j hj1 hj2
    have hj : j < zs.length := by simpa using hj2
    have := (h3 j (by simpa using hj)).2
    have e1 : (zs.map (AV.int k)).getD j .undef = .int k zs[j] := by simp [List.getD_eq_getElem?_getD, hj]
    have e2 : vs.getD j undef = vs[j] := by simp [Array.getD, hj1]
    rw [e1, e2] at this
    generalize vs[j] = v at this
    cases this
    simp

/-- A package-level variable that is a number of some kind. -/
theorem ACalls.of_calls {f : FuncId} {fn : Func} {c : Code} {xs : List AV} (hf : P.funcs[f]? = some fn) (hn : (fn.name == "runtime.NumGoroutine") = false) (hb : fn.body = some c)
    (hc : ∀ w G (vs : List Value), vs.length = xs.length → (∀ i, i < xs.length → Rep w G (xs.getD i .undef) (vs.getD i undef)) → HRel w G h live → Calls P f vs.toArray w fun e w' => ∃ v, e = .returned v ∧ Post w G live K v w') :
    ACalls P f xs h live K := by
  intro w G vs hvl hr hh
  rw [run_callFunc hf hn hb]
  exact hc w G vs hvl hr hh
end
end Go.Ab
