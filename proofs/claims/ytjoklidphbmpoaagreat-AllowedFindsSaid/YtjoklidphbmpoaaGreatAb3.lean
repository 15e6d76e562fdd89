import Derived.Test.YtjoklidphbmpoaaGreatAb2
import Derived.Orders
/-
  THE FRAMEWORK, 3: an operation over states; a region, in the order of its text and in any; calls.
-/
namespace Go.Ab
set_option linter.unusedVariables false
set_option linter.unusedSimpArgs false
open Go.RowKit

abbrev KT := AV → List Blk → List Nat → Prop

def Post (w : World) (G : Gh) (live : List Nat) (K : KT) (v : Value) (w' : World) : Prop :=
  ∃ x h' live' G', K x h' live' ∧ Rep w' G' x v ∧ HRel w' G' h' live' ∧ Evo w G live w' G' live'

def AUpon (P : Program) (post : Value → World → Prop) : Result Next → Prop
  | .ok (.value v) w' => post v w'
  | .ok .skip w' => post undef w'
  | .ok (.enter f args) w' => Calls P f args w' fun e w'' => ∃ v, e = .returned v ∧ post v w''
  | _ => False

def AOp (P : Program) (fr : Nat → AV) (h : List Blk) (live : List Nat) (o : Oper) (K : KT) : Prop :=
  ∀ w G (ρ : Operand → Value), (∀ v, ρ (.const v) = v) → (∀ x ∈ o.op.operands, Rep w G (ev fr x) (ρ x)) → HRel w G h live → AUpon P (Post w G live K) ((execOp ρ o).run P w)

def ret (x : AV) (h : List Blk) (live : List Nat) : KT := fun y h' l' => x = y ∧ h = h' ∧ live = l'

theorem AUpon.mono {P : Program} {p q : Value → World → Prop} (hpq : ∀ v w, p v w → q v w) {r : Result Next} (h : AUpon P p r) : AUpon P q r := by
  cases r with
  | halt x w => exact h
  | ok n w =>
    cases n <;> simp only [AUpon] at h ⊢ <;> first
      | exact hpq _ _ h
      | exact Calls.mono h fun e w' ⟨v, he, hp⟩ => ⟨v, he, hpq _ _ hp⟩

theorem Post.mono {w : World} {G : Gh} {live : List Nat} {K K' : KT} (hk : ∀ x h l, K x h l → K' x h l) {v : Value} {w' : World} (h : Post w G live K v w') : Post w G live K' v w' :=
  let ⟨x, h', l', G', k, r⟩ := h
  ⟨x, h', l', G', hk _ _ _ k, r⟩

theorem AOp.mono {P : Program} {fr : Nat → AV} {h : List Blk} {live : List Nat} {o : Oper} {K K' : KT} (hk : ∀ x h l, K x h l → K' x h l) (ha : AOp P fr h live o K) : AOp P fr h live o K' :=
  fun w G ρ hρ hr hh => (ha w G ρ hρ hr hh).mono fun _ _ => Post.mono hk

theorem AOp.congr {P : Program} {fr fr' : Nat → AV} {h : List Blk} {live : List Nat} {o : Oper} {K : KT} (he : ∀ x ∈ o.op.operands, ev fr' x = ev fr x) (ha : AOp P fr h live o K) : AOp P fr' h live o K :=
  fun w G ρ hρ hr hh => ha w G ρ hρ (fun x hx => by rw [← he x hx]; exact hr x hx) hh

def upd (fr : Nat → AV) (d : Option Tmp) (x : AV) : Nat → AV := fun t => if d = some t then x else fr t

theorem upd_comm (fr : Nat → AV) (d e : Option Tmp) (x y : AV) (hne : ∀ t, d = some t → e ≠ some t) : upd (upd fr d x) e y = upd (upd fr e y) d x := by
  funext t
  simp only [upd]
  by_cases h1 : d = some t
  · rw [if_pos h1, if_pos h1, if_neg (hne t h1)]
  · rw [if_neg h1, if_neg h1]

theorem ev_upd {fr : Nat → AV} {d : Option Tmp} {x : AV} {y : Operand} (h : ∀ t, d = some t → y ≠ .tmp t) : ev (upd fr d x) y = ev fr y := by
  cases y with
  | tmp t => simp only [ev, upd]; rw [if_neg (fun e => h t e rfl)]
  | _ => rfl

theorem SRel.put {w w' : World} {G G' : Gh} {a : Act} {S : AS} (hs : SRel w G a S) {h' : List Blk} {live' : List Nat} {x : AV} {v : Value} {d : Option Tmp}
    (hd : ∀ t, d = some t → t < S.n) (hr : Rep w' G' x v) (hh : HRel w' G' h' live') (ev : Evo w G S.live w' G' live') :
    SRel w' G' (a.put d v) ⟨S.n, upd S.fr d x, h', live'⟩ := by
  refine ⟨?_, ?_, hh, fun t => ?_⟩
  · cases d <;> exact hs.defers
  · cases d <;> simp [Act.put, hs.size]
  · cases d with
    | none => simp only [upd, Act.put]; exact ev.rep (hs.fr t)
    | some d =>
      simp only [upd, Act.put, Option.some.injEq]
      by_cases hdt : d = t
      · subst hdt
        rw [if_pos rfl]
        have := hd d rfl
        have hlt : d < a.tmps.size := by rw [hs.size]; exact this
        simpa [hlt] using hr
      · rw [if_neg hdt]
        have := ev.rep (hs.fr t)
        simpa [Array.getElem?_setIfInBounds_ne hdt] using this

end Go.Ab
