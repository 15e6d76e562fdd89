import Derived.Test.YtjoklidphbmpoaaGreatAb11
/-
  THE FRAMEWORK, 12: the arguments of a call; a row 'it returns true, and its input reads as it did'.
-/
namespace Go.Ab
set_option linter.unusedVariables false
set_option linter.unusedSimpArgs false
open Go.RowKit Go.ChangeShapes Go.WideShapes Go.Deep

theorem notAgg {P : Program} {W : World} {base : Nat} {t : TypeId} {v : Value} (hok : Value.okWide P W .any base t v) (hu : match P.underlying t with | some .bool | some (.int _) | some .string | some (.slice _) => True | _ => False) : ∀ cs, v ≠ .agg cs := by
  intro cs e
  subst e
  unfold Value.okWide at hok
  split at hok
  · rename_i h; simp [h] at hu
  · rename_i h; simp [h] at hu
  · unfold Cell.okWide at hok
    split at hok <;> first
      | (rename_i h _; simp [h] at hu; done)
      | skip
    unfold Cell.ok at hok
    split at hok <;> first
      | exact hok
      | (rename_i h _; cases h; done)
      | simp_all

theorem cells_one {v u : Value} (hn : ∀ cs, v ≠ .agg cs) (h : v.cells.toList = [u]) : v = u := by
  cases v <;> first
    | exact absurd rfl (hn _)
    | (simpa [Value.cells] using h)

def TVl (P : Program) (d : Nat) : List TypeId → List AV → Prop
  | [], [] => True
  | t :: ts, y :: ys => TV P d t y ∧ TVl P d ts ys
  | _, _ => False

section
variable {H : Type} {enc : TypeId × Value → H} {P : Program} {W : World}

theorem arg_rep {d base : Nat} {t : TypeId} {v : Value} {x : DataW H} {ps : List MemPlace} (hs : sup P d t = true) (hok : Value.okWide P W .any base t v) (h : DataW.Trod enc P W 0 (fun _ => true) true t v x ps) : ∃ y, TV P d t y ∧ Rep W (G00 W) y v := by
  obtain ⟨fuel, h⟩ := h
  obtain ⟨y, hy, _, hr⟩ := trod_rep d fuel t _ _ hs h
  refine ⟨y, hy, ?_⟩
  cases d with
  | zero => simp [sup] at hs
  | succ d =>
    have one : (match P.underlying t with | some .bool | some (.int _) | some .string | some (.slice _) => True | _ => False) → y.cells = [y] → Rep W (G00 W) y v := by
      intro hu hc
      rw [hc] at hr
      have hl : v.cells.toList.length = 1 := hr.1
      obtain ⟨u, hu'⟩ := List.length_eq_one_iff.1 hl
      rw [hu'] at hr
      rw [cells_one (notAgg hok hu) hu']
      exact (hr.2 0 (by simp)).2
    unfold TV at hy
    split at hy
    · rename_i hu; obtain ⟨b, rfl⟩ := hy; exact one (by simp [hu]) rfl
    · rename_i k hu; obtain ⟨n, rfl, _⟩ := hy; exact one (by simp [hu]) rfl
    · rename_i hu; obtain ⟨l, rfl, _⟩ := hy; exact one (by simp [hu]) rfl
    · rename_i e hu; obtain ⟨l, rfl, _⟩ := hy; exact one (by simp [hu]) rfl
    · rename_i fs hu
      obtain ⟨ys, rfl, _⟩ := hy
      unfold Value.okWide at hok
      rw [hu] at hok
      obtain ⟨cs, rfl, _, _⟩ := hok
      have e : cs = cs.toList.toArray := by simp
      rw [e]
      have hr' : RepL W (G00 W) (ys.flatMap AV.cells) cs.toList := hr
      exact .agg _ _ hr'.1 (fun i hi => (hr'.2 i hi).1) (fun i hi => (hr'.2 i hi).2)
    · exact hy.elim

theorem args_rep {d base : Nat} : ∀ (ts : List TypeId) (vs : List Value) (ds : List (DataW H)) (ps : List MemPlace), ts.all (sup P d) = true → (∀ (j : Nat) t v, ts[j]? = some t → vs[j]? = some v → Value.okWide P W .any base t v) →
    DataW.TrodAll enc P W 0 (fun _ => true) true ts vs ds ps → ds.length = ts.length ∧ ∃ ys, TVl P d ts ys ∧ vs.length = ys.length ∧ ∀ i, i < ys.length → Rep W (G00 W) (ys.getD i .undef) (vs.getD i undef)
  | [], [], [], ps, _, _, _ => ⟨rfl, [], trivial, rfl, fun i hi => by simp at hi⟩
  | t :: ts, v :: vs, x :: ds, ps, hs, hok, h => by
    obtain ⟨p, q, h1, h2, rfl⟩ := h
    rw [List.all_cons, Bool.and_eq_true] at hs
    obtain ⟨y, hy, hr⟩ := arg_rep hs.1 (hok 0 t v rfl rfl) h1
    obtain ⟨hl, ys, hys, hl2, hr2⟩ := args_rep ts vs ds q hs.2 (fun j t' v' hj hv => hok (j + 1) t' v' (by simpa using hj) (by simpa using hv)) h2
    refine ⟨by simp [hl], y :: ys, ⟨hy, hys⟩, by simp [hl2], fun i hi => ?_⟩
    cases i with
    | zero => simpa using hr
    | succ i => simpa using hr2 i (by simpa using hi)
  | [], [], _ :: _, _, _, _, h => h.elim
  | [], _ :: _, _, _, _, _, h => h.elim
  | _ :: _, [], _, _, _, _, h => h.elim
  | _ :: _, _ :: _, [], _, _, _, h => h.elim

theorem trodAll_later (hl : laidOutB P = true) {W' : World} {sp : Nat → Bool} : ∀ (ts : List TypeId) (vs : List Value) (ds : List (DataW H)) (ps : List MemPlace), ts.all (fun t => P.readableRec t && decide (t < P.types.size)) = true → (∀ p ∈ ps, W.sameAt W' p) → (∀ p ∈ ps, sp p.block = true) →
    DataW.TrodAll enc P W 0 (fun _ => true) true ts vs ds ps → DataW.TrodAll enc P W' 0 sp true ts vs ds ps
  | [], [], [], ps, _, _, _, h => h
  | t :: ts, v :: vs, x :: ds, ps, hr, h1, h2, h => by
    obtain ⟨p, q, k1, k2, rfl⟩ := h
    rw [List.all_cons, Bool.and_eq_true, Bool.and_eq_true, decide_eq_true_eq] at hr
    exact ⟨p, q, WideElems.Trod_stays hl hr.1.1 hr.1.2 k1 (fun x hx => h1 x (by simp [hx])) (fun x hx => h2 x (by simp [hx])), trodAll_later hl ts vs ds q hr.2 (fun x hx => h1 x (by simp [hx])) (fun x hx => h2 x (by simp [hx])) k2, rfl⟩
  | [], [], _ :: _, _, _, _, _, h => h.elim
  | [], _ :: _, _, _, _, _, _, h => h.elim
  | _ :: _, [], _, _, _, _, _, h => h.elim
  | _ :: _, _ :: _, [], _, _, _, _, h => h.elim
end

/-- A law whose walk gives true, whatever its arguments. -/
theorem law_true {P : Program} {H : Type} {enc : TypeId × Value → H} {f : FuncId} {fn : Func} {s : ChangeSpec} {apart fresh handsOn : Bool} {d base : Nat} {tb : TypeId} {W : World} {args : Array Value} {ds gs : List (DataW H)} {before : List MemPlace}
    (hl : laidOutB P = true) (hread : fn.params.toList.all (fun t => P.readableRec t && decide (t < P.types.size)) = true) (hsup : fn.params.toList.all (sup P d) = true)
    (hf : P.funcs[f]? = some fn) (hn : (fn.name == "runtime.NumGoroutine") = false) (hb : fn.body.isSome = true) (hres : fn.resultTypes = #[tb]) (htb : P.underlying tb = some .bool) (hvars : s.vars = [])
    (hspec : ∀ ds : List (DataW H), ds.length = fn.params.toList.length → s.fn H ds = { results := [.lit (.bool true)], args := ds })
    (hw : ∀ ys, TVl P d fn.params.toList ys → ACalls P f ys [] [] (ret (.bool true) [] []))
    (hval : ∀ (j : Nat) t v, fn.params[j]? = some t → args[j]? = some v → Value.okWide P W .any base t v)
    (hW : DataW.Whole enc P fn.params.toList s.vars apart W args.toList ds gs before) :
    Calls P f args W fun e W' => ∃ v, e = .returned v ∧ s.post enc P fn apart fresh handsOn false W args v W' := by
  obtain ⟨p, q, hA, hV, rfl, hz, hnd⟩ := id hW
  rw [hvars] at hV
  obtain ⟨rfl, rfl⟩ := trodVars_none hV
  obtain ⟨hdl, ys, hys, hyl, hyr⟩ := args_rep (d := d) (base := base) fn.params.toList args.toList ds p hsup (fun j t v hj hv => hval j t v (by simpa using hj) (by simpa using hv)) hA
  obtain ⟨c, hc⟩ := Option.isSome_iff_exists.1 hb
  have hcall := hw ys hys W (G00 W) args.toList hyl hyr (hrel0 W)
  rw [run_callFunc hf hn hc] at hcall
  refine Calls.mono hcall fun e W' hpost => ?_
  obtain ⟨v, rfl, x, h', live', G', ⟨rfl, rfl, rfl⟩, hrep, _, hev⟩ := hpost
  cases hrep
  have hbel := below_of hev
  have hlt : ∀ y ∈ p ++ [], y.block < W.heap.size := fun y hy => hW.lt y hy
  refine ⟨_, rfl, ds, [], p ++ [], [], p, [], hW, ?_, ?_, ?_, ?_, fun h => nomatch h⟩
  · rw [List.append_nil, hspec ds hdl, hres]
    exact ⟨[], [], ⟨1, by simp [DataW.trod, htb, Value.cells]⟩, rfl, rfl⟩
  · rw [List.append_nil, hspec ds hdl]
    exact trodAll_later hl _ _ _ _ hread (fun y hy => hbel.same (hlt y (by simp [hy]))) (fun y hy => by simpa using hlt y (by simp [hy])) hA
  · rw [hvars, List.append_nil, hspec ds hdl]; rfl
  · exact hbel.frame _
end Go.Ab

namespace Go.Ab
section
variable {P : Program} {d : Nat} {t : TypeId} {x : AV}
theorem TV_str (hu : P.underlying t = some .string) (h : TV P (d + 1) t x) : ∃ l, x = .str l ∧ l.length ≤ maxLen := by
  unfold TV at h; rw [hu] at h; exact h
theorem TV_bool (hu : P.underlying t = some .bool) (h : TV P (d + 1) t x) : ∃ b, x = .bool b := by
  unfold TV at h; rw [hu] at h; exact h
theorem TV_int {k : IntKind} (hu : P.underlying t = some (.int k)) (h : TV P (d + 1) t x) : ∃ n, x = .int k n ∧ k.min ≤ n ∧ n ≤ k.max := by
  unfold TV at h; rw [hu] at h; exact h
theorem TV_u8 (hu : P.underlying t = some (.int .u8)) (h : TV P (d + 1) t x) : ∃ c : UInt8, x = .int .u8 c.toNat := by
  obtain ⟨n, rfl, h1, h2⟩ := TV_int hu h
  have h1' : (0 : Int) ≤ n := h1
  have h2' : n ≤ 255 := h2
  refine ⟨n.toNat.toUInt8, ?_⟩
  congr 1
  have : n.toNat.toUInt8.toNat = n.toNat := by simp; omega
  rw [this]; omega
theorem map_of_all {α : Type} {enc : α → AV} : ∀ {l : List AV}, (∀ y ∈ l, ∃ a, y = enc a) → ∃ m : List α, l = m.map enc
  | [], _ => ⟨[], rfl⟩
  | y :: l, h => by
    obtain ⟨a, rfl⟩ := h _ (List.mem_cons_self ..)
    obtain ⟨m, rfl⟩ := map_of_all (l := l) fun z hz => h z (List.mem_cons_of_mem _ hz)
    exact ⟨a :: m, rfl⟩
theorem TV_slice {α : Type} {enc : α → AV} {e : TypeId} (hu : P.underlying t = some (.slice e)) (he : ∀ y, TV P d e y → ∃ a, y = enc a) (h : TV P (d + 1) t x) : ∃ l : List α, x = .slice (l.map enc) .none ∧ l.length ≤ maxLen := by
  unfold TV at h; rw [hu] at h
  obtain ⟨l, rfl, hl, hall⟩ := h
  obtain ⟨m, rfl⟩ := map_of_all (enc := enc) fun y hy => he y (hall y hy)
  exact ⟨m, rfl, by simpa using hl⟩
theorem TV_strs {e : TypeId} (hu : P.underlying t = some (.slice e)) (he : P.underlying e = some .string) (h : TV P (d + 1 + 1) t x) : ∃ l : List (List UInt8), x = .slice (l.map .str) .none ∧ l.length ≤ maxLen :=
  TV_slice hu (fun y hy => by obtain ⟨l, e, _⟩ := TV_str he hy; exact ⟨l, e⟩) h
theorem TVl_one {t : TypeId} {ys : List AV} (h : TVl P d [t] ys) : ∃ a, ys = [a] ∧ TV P d t a := by
  match ys, h with
  | [a], h => exact ⟨a, rfl, h.1⟩
theorem TVl_two {t u : TypeId} {ys : List AV} (h : TVl P d [t, u] ys) : ∃ a b, ys = [a, b] ∧ TV P d t a ∧ TV P d u b := by
  match ys, h with
  | [a, b], h => exact ⟨a, b, rfl, h.1, h.2.1⟩
theorem TVl_three {t u v : TypeId} {ys : List AV} (h : TVl P d [t, u, v] ys) : ∃ a b c, ys = [a, b, c] ∧ TV P d t a ∧ TV P d u b ∧ TV P d v c := by
  match ys, h with
  | [a, b, c], h => exact ⟨a, b, c, rfl, h.1, h.2.1, h.2.2.1⟩
end
end Go.Ab
