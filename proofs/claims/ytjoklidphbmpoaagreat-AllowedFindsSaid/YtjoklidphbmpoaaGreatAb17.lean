import Derived.Test.YtjoklidphbmpoaaGreatAb16
import Derived.ProofKit
import Derived.LaidMore
import Derived.OpenShut
import Derived.Stop.Joined
/-
  THE FRAMEWORK, 17: a row that lists a package-level table: the table as a block of its own, which nobody writes.
-/
namespace Go.Ab
set_option linter.unusedVariables false
set_option linter.unusedSimpArgs false
open Go.RowKit Go.ChangeShapes Go.WideShapes Go.Deep

/-- Before a call: one block is its own, that of a package-level variable. -/
def G0g (W : World) (g : Nat) : Gh := ⟨1, fun _ => g, fun b _ => b < W.heap.size ∧ b ≠ g, []⟩

theorem hrel0g {W : World} {g : Nat} {c : List AV} {ob : Obj} (hb : BlkRep W (G0g W g) (.glb g c ob) g) (hlt : g < W.heap.size) : HRel W (G0g W g) [.glb g c ob] [] where
  len := rfl
  blk := fun k x h => by
    match k, h with
    | 0, h => cases h; exact hb
  blk_lt := fun k _ => hlt
  inj := fun j k hj hk _ => by
    have hj' : j < 1 := hj
    have hk' : k < 1 := hk
    omega
  imm_lt := fun b o h => h.1
  imm_blk := fun b o k h _ => Ne.symm h.2
  tok := fun t h => by simp at h
  tok_ne := fun t u d e h => by simp at h

theorem below_of_g {W w' : World} {g : Nat} {c : List AV} {ob : Obj} {G' : Gh} {live' : List Nat} (hb : W.heap[g]? = some ob) (h : Evo W (G0g W g) [] w' G' live') {r : List Blk} (hh : HRel w' G' (.glb g c ob :: r) live') : Below W.heap.size W w' :=
  ⟨h.os, h.tape, h.output, h.size, fun k hk => by
    by_cases hkg : k = g
    · subst hkg
      obtain ⟨e0, vs, e, fz, ho, h1, _⟩ := hh.blk 0 (.glb k c ob) rfl
      rw [e0] at h1
      rw [h1, hb, ho]
    · exact h.other k hk (by
        rintro (⟨j, hj, e⟩ | ⟨t, d, ht, _⟩)
        · exact hkg e.symm
        · simp at ht)⟩

def scal : AV → Bool
  | .bool _ | .int _ _ | .str _ => true
  | _ => false

theorem Rep.scal {w : World} {G G' : Gh} {x : AV} {v : Value} (h : Rep w G x v) (hs : Ab.scal x = true) : Rep w G' x v := by
  cases x <;> simp [Ab.scal] at hs
  · cases h; exact .bool _
  · cases h; exact .int _ _
  · cases h; exact .str _

def isScalT (P : Program) (t : TypeId) : Bool := match P.underlying t with
  | some .bool | some (.int _) | some .string => true
  | _ => false

theorem TV_scal {P : Program} : ∀ {d : Nat} {t : TypeId} {x : AV}, isScalT P t = true → TV P d t x → scal x = true
  | 0, t, x, _, h => h.elim
  | d + 1, t, x, hs, h => by
    unfold TV at h
    unfold isScalT at hs
    split at hs <;> first
      | (rename_i hu; rw [hu] at h; obtain ⟨b, rfl⟩ := h; rfl)
      | (rename_i hu; rw [hu] at h; obtain ⟨b, rfl, _⟩ := h; rfl)
      | simp at hs

theorem TVl_scal {P : Program} {d : Nat} : ∀ {ts : List TypeId} {ys : List AV}, ts.all (isScalT P) = true → TVl P d ts ys → ∀ y ∈ ys, scal y = true
  | [], [], _, _, y, hy => by simp at hy
  | t :: ts, x :: ys, hs, h, y, hy => by
    rw [List.all_cons, Bool.and_eq_true] at hs
    rcases List.mem_cons.1 hy with rfl | hy
    · exact TV_scal hs.1 h.1
    · exact TVl_scal hs.2 h.2 y hy
  | [], _ :: _, _, h, _, _ => h.elim
  | _ :: _, [], _, h, _, _ => h.elim

theorem laidVars_mem {P : Program} {w : World} : ∀ {l : List (String × DataW Unit)} {ps : List MemPlace}, DataW.LaidVars P w l ps → ∀ {n : String} {d : DataW Unit}, (n, d) ∈ l →
    ∃ g t cs fuel p, P.globalNamed n = some g ∧ (P.globals[g]?).map (·.type) = some t ∧ w.var? P n = some cs ∧ DataW.trod (fun _ => ()) P w 0 (fun _ => true) false fuel t cs.toList = some (d, p)
  | [], ps, _, n, d, hm => by simp at hm
  | (n', d') :: r, ps, ⟨g, t, cs, fuel, p, q, h1, h2, h3, h4, h5, _⟩, n, d, hm => by
    rcases List.mem_cons.1 hm with e | hm
    · cases e; exact ⟨g, t, cs, fuel, p, h1, h2, h3, h4⟩
    · exact laidVars_mem h5 hm

/-- A table that a row lists, in the memory. -/
theorem laid_tab {P : Program} {W : World} {laid : List (String × DataW Unit)} {name : String} {k : IntKind} {zs : List Int} {g : Nat} {t e : TypeId} {n : Nat} (hp : laid.all (fun x => x.2.handleName?.isNone) = true)
    (hm : (name, Lib.tabData k zs) ∈ laid) (hg : P.globalNamed name = some g) (hty : (P.globals[g]?).map (·.type) = some t) (ht : P.underlying t = some (.array n e)) (he : P.underlying e = some (.int k)) (hce : P.cellsOf e = 1) (hct : P.cellsOf t = n)
    (h : laidMetH P laid W) : ∃ e fz, W.heap[g]? = some (.cells (zs.map (Value.int k)).toArray e fz) := by
  have hf : laid.filter (fun x => x.2.handleName?.isSome) = [] := by
    rw [List.filter_eq_nil_iff]
    intro x hx
    have := List.all_eq_true.1 hp x hx
    cases hh : x.2.handleName? with
    | none => simp
    | some y => rw [hh] at this; simp at this
  unfold laidMetH at h
  rw [hf] at h
  obtain ⟨ps, hv, _, _⟩ := h
  obtain ⟨g', t', cs, fuel, p, hg', ht', hvar, hd⟩ := laidVars_mem hv hm
  obtain rfl := Option.some.inj (hg.symm.trans hg')
  obtain rfl := Option.some.inj (hty.symm.trans ht')
  have hcs := Lib.cells_of_tab ht he hce hct hd
  unfold World.var? at hvar
  rw [hg] at hvar
  simp only [Option.bind_some] at hvar
  split at hvar
  · rename_i cs' e' fz' hw
    cases hvar
    refine ⟨e', fz', ?_⟩
    rw [hw, ← hcs]
  · simp at hvar

/-- A law whose walk gives true, whatever its arguments, where a table is as listed. -/
theorem law_true_laid {P : Program} {H : Type} {enc : TypeId × Value → H} {f : FuncId} {fn : Func} {s : ChangeSpec} {apart fresh handsOn : Bool} {d base : Nat} {tb : TypeId} {W : World} {args : Array Value} {ds gs : List (DataW H)} {before : List MemPlace}
    (hl : laidOutB P = true) (hread : fn.params.toList.all (fun t => P.readableRec t && decide (t < P.types.size)) = true) (hsup : fn.params.toList.all (sup P d) = true) (hscal : fn.params.toList.all (isScalT P) = true)
    (hf : P.funcs[f]? = some fn) (hn : (fn.name == "runtime.NumGoroutine") = false) (hb : fn.body.isSome = true) (hres : fn.resultTypes = #[tb]) (htb : P.underlying tb = some .bool) (hvars : s.vars = [])
    (hspec : ∀ ds : List (DataW H), ds.length = fn.params.toList.length → s.fn H ds = { results := [.lit (.bool true)], args := ds })
    {g : Nat} {k : IntKind} {zs : List Int} {e : TypeId} {fz : Nat × Nat} (hglob : W.heap[g]? = some (.cells (zs.map (Value.int k)).toArray e fz))
    (hw : ∀ ob ys, TVl P d fn.params.toList ys → ACalls P f ys [.glb g (zs.map (AV.int k)) ob] [] (ret (.bool true) [.glb g (zs.map (AV.int k)) ob] []))
    (hval : ∀ (j : Nat) t v, fn.params[j]? = some t → args[j]? = some v → Value.okWide P W .any base t v)
    (hW : DataW.Whole enc P fn.params.toList s.vars apart W args.toList ds gs before) :
    Calls P f args W fun e W' => ∃ v, e = .returned v ∧ s.post enc P fn apart fresh handsOn false W args v W' := by
  obtain ⟨p, q, hA, hV, rfl, hz, hnd⟩ := id hW
  rw [hvars] at hV
  obtain ⟨rfl, rfl⟩ := trodVars_none hV
  obtain ⟨hdl, ys, hys, hyl, hyr⟩ := args_rep (d := d) (base := base) fn.params.toList args.toList ds p hsup (fun j t v hj hv => hval j t v (by simpa using hj) (by simpa using hv)) hA
  obtain ⟨c, hc⟩ := Option.isSome_iff_exists.1 hb
  have hlt : g < W.heap.size := (Array.getElem?_eq_some_iff.1 hglob).1
  have hblk : BlkRep W (G0g W g) (.glb g (zs.map (AV.int k)) (.cells (zs.map (Value.int k)).toArray e fz)) g :=
    ⟨rfl, _, e, fz, rfl, hglob, by simp, fun i hi => by
      have hi' : i < zs.length := by simpa using hi
      simp only [List.getD_eq_getElem?_getD, List.getElem?_map, List.getElem?_eq_getElem hi', Option.map_some, Option.getD_some, Array.getD, List.size_toArray, List.length_map, hi', dif_pos]
      exact ⟨by simp [Value.oneCell'], by simpa using Rep.int k zs[i]⟩⟩
  have hcall := hw (.cells (zs.map (Value.int k)).toArray e fz) ys hys W (G0g W g) args.toList hyl (fun i hi => (hyr i hi).scal (TVl_scal hscal hys _ (by
    rw [List.getD_eq_getElem?_getD, List.getElem?_eq_getElem hi]; exact List.getElem_mem hi))) (hrel0g hblk hlt)
  rw [run_callFunc hf hn hc] at hcall
  refine Calls.mono hcall fun e W' hpost => ?_
  obtain ⟨v, rfl, x, h', live', G', ⟨rfl, rfl, rfl⟩, hrep, hh', hev⟩ := hpost
  cases hrep
  have hbel := below_of_g hglob hev hh'
  have hlt : ∀ y ∈ p ++ [], y.block < W.heap.size := fun y hy => hW.lt y hy
  refine ⟨_, rfl, ds, [], p ++ [], [], p, [], hW, ?_, ?_, ?_, ?_, fun h => nomatch h⟩
  · rw [List.append_nil, hspec ds hdl, hres]
    exact ⟨[], [], ⟨1, by simp [DataW.trod, htb, Value.cells]⟩, rfl, rfl⟩
  · rw [List.append_nil, hspec ds hdl]
    exact trodAll_later hl _ _ _ _ hread (fun y hy => hbel.same (hlt y (by simp [hy]))) (fun y hy => by simpa using hlt y (by simp [hy])) hA
  · rw [hvars, List.append_nil, hspec ds hdl]; rfl
  · exact hbel.frame _
end Go.Ab
