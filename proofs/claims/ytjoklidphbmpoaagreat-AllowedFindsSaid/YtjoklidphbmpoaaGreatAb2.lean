import Derived.Test.YtjoklidphbmpoaaGreatAb1
/-
  THE FRAMEWORK, 2: values without addresses beyond some; values of whose spare room nothing is known; states, and the rules of control.
-/
namespace Go.Ab
set_option linter.unusedVariables false
set_option linter.unusedSimpArgs false
open Go.RowKit

mutual
def AV.cl (n : Nat) : AV → Prop
  | .ptr k _ => k < n
  | .map k => k < n
  | .bsl k _ _ _ _ _ => k < n
  | .slice l _ => AV.clL n l
  | .agg l => AV.clL n l
  | .tup l => AV.clL n l
  | .fn _ a b => AV.clL n a ∧ AV.clL n b
  | .iface _ v => v.cl n
  | .eptr l _ => AV.clL n l
  | _ => True
def AV.clL (n : Nat) : List AV → Prop
  | [] => True
  | x :: r => x.cl n ∧ AV.clL n r
end

theorem AV.clL_iff (n : Nat) (l : List AV) : AV.clL n l ↔ ∀ i, i < l.length → (l.getD i .undef).cl n := by
  induction l with
  | nil => simp [AV.clL]
  | cons x r ih =>
    simp only [AV.clL, ih, List.length_cons]
    constructor
    · rintro ⟨h, k⟩ i hi
      cases i with
      | zero => simpa using h
      | succ i => simpa using k i (by omega)
    · intro h
      exact ⟨by simpa using h 0 (by omega), fun i hi => by simpa using h (i + 1) (by omega)⟩

theorem AV.clL_mem (n : Nat) (l : List AV) : AV.clL n l ↔ ∀ x, x ∈ l → x.cl n := by
  induction l with
  | nil => simp [AV.clL]
  | cons x r ih => simp [AV.clL, ih]

theorem AV.cl_cells (n : Nat) (x : AV) : AV.clL n x.cells ↔ x.cl n := by
  cases x <;> simp [AV.cells, AV.clL, AV.cl]

theorem Rep.cl {w : World} {G : Gh} {x : AV} {v : Value} (h : Rep w G x v) : x.cl G.n := by
  induction h with
  | ptr k off h => exact h
  | map k h => exact h
  | bsl k off sz ag len cap h hl hm => exact h
  | nilSlice c h => exact trivial
  | emptySlice a c h => exact trivial
  | slice l c b o cap sz f hcap hmax hsz himm hcell hone _ hc ih =>
    refine (AV.clL_iff _ _).2 fun i hi => (AV.cl_cells _ _).1 ((AV.clL_iff _ _).2 fun j hj => ih i j hi (by rw [← hsz i hi]; exact hj))
  | agg cs vs hl hone _ ih => exact (AV.clL_iff _ _).2 ih
  | tup cs vs hl _ ih => exact (AV.clL_iff _ _).2 ih
  | fn f cs ds vs us hl hm _ _ ih ih' => exact ⟨(AV.clL_iff _ _).2 ih, (AV.clL_iff _ _).2 ih'⟩
  | iface t x v _ ih => exact ih
  | eptr cs off b o f himm hcell hone _ ih => exact (AV.clL_iff _ _).2 ih
  | _ => exact trivial

def Gh.cut (G : Gh) (m : Nat) : Gh := { G with n := m }

theorem Rep.cut {w : World} {G : Gh} {m : Nat} {x : AV} {v : Value} (h : Rep w G x v) (hx : x.cl m) : Rep w (G.cut m) x v := by
  induction h with
  | undef v => exact .undef v
  | bool b => exact .bool b
  | int k n => exact .int k n
  | str l => exact .str l
  | raw v h => exact .raw v h
  | ptr k off h => exact .ptr (G := G.cut m) k off hx
  | nilSlice c h => exact .nilSlice c h
  | emptySlice a c h => exact .emptySlice a c h
  | slice l c b o cap sz f hcap hmax hsz himm hcell hone _ hc ih =>
    exact .slice l c b o cap sz f hcap hmax hsz himm hcell hone (fun i j hi hj => ih i j hi hj (by
      have h1 := (AV.clL_iff m l).1 hx i hi
      exact (AV.clL_iff _ _).1 ((AV.cl_cells _ _).2 h1) j (by rw [hsz i hi]; exact hj))) hc
  | agg cs vs hl hone _ ih => exact .agg cs vs hl hone fun i hi => ih i hi ((AV.clL_iff _ _).1 hx i hi)
  | tup cs vs hl _ ih => exact .tup cs vs hl fun i hi => ih i hi ((AV.clL_iff _ _).1 hx i hi)
  | fn f cs ds vs us hl hm _ _ ih ih' =>
    exact .fn f cs ds vs us hl hm (fun i hi => ih i hi ((AV.clL_iff _ _).1 hx.1 i hi)) (fun i hi => ih' i hi ((AV.clL_iff _ _).1 hx.2 i hi))
  | iface t x v _ ih => exact .iface t x v (ih hx)
  | map k h => exact .map (G := G.cut m) k hx
  | eptr cs off b o f himm hcell hone _ ih => exact .eptr cs off b o f himm hcell hone fun j hj => ih j hj ((AV.clL_iff _ _).1 hx j hj)
  | glob g off => exact .glob g off
  | bsl k off sz ag len cap h hl hm => exact .bsl (G := G.cut m) k off sz ag len cap hx hl hm

mutual
def AV.er : AV → AV
  | .slice l _ => .slice (AV.erL l) .none
  | .agg l => .agg (AV.erL l)
  | .tup l => .tup (AV.erL l)
  | .fn f a b => .fn f (AV.erL a) (AV.erL b)
  | .iface t v => .iface t v.er
  | .eptr l o => .eptr (AV.erL l) o
  | x => x
def AV.erL : List AV → List AV
  | [] => []
  | x :: r => x.er :: AV.erL r
end

theorem AV.erL_map (l : List AV) : AV.erL l = l.map AV.er := by
  induction l with
  | nil => rfl
  | cons x r ih => simp [AV.erL, ih]

theorem AV.erL_length (l : List AV) : (AV.erL l).length = l.length := by rw [AV.erL_map]; simp

theorem AV.erL_getD (l : List AV) (i : Nat) : (AV.erL l).getD i .undef = (l.getD i .undef).er := by
  rw [AV.erL_map]
  simp only [List.getD_eq_getElem?_getD, List.getElem?_map]
  cases l[i]? <;> rfl

theorem AV.er_cells (x : AV) : x.er.cells = AV.erL x.cells := by
  cases x <;> simp [AV.er, AV.cells, AV.erL]

theorem Rep.er {w : World} {G : Gh} {x : AV} {v : Value} (h : Rep w G x v) : Rep w G x.er v := by
  induction h with
  | undef v => exact .undef v
  | bool b => exact .bool b
  | int k n => exact .int k n
  | str l => exact .str l
  | raw v h => exact .raw v h
  | ptr k off h => exact .ptr k off h
  | nilSlice c h => exact .nilSlice .none rfl
  | emptySlice a c h => exact .emptySlice a .none rfl
  | slice l c b o cap sz f hcap hmax hsz himm hcell hone _ hc ih =>
    have hll := AV.erL_length l
    simp only [AV.er]
    rw [← hll]
    refine .slice (AV.erL l) .none b o cap sz f (by omega) hmax (fun i hi => ?_) (fun i j hi hj => himm i j (by omega) hj) (fun i j hi hj => hcell i j (by omega) hj) (fun i j hi hj => hone i j (by omega) hj) (fun i j hi hj => ?_) trivial
    · rw [AV.erL_getD, AV.er_cells, AV.erL_length]; exact hsz i (by omega)
    · rw [AV.erL_getD, AV.er_cells, AV.erL_getD]; exact ih i j (by omega) hj
  | agg cs vs hl hone _ ih =>
    refine .agg (AV.erL cs) vs (by rw [AV.erL_length]; exact hl) (fun i hi => hone i (by rw [AV.erL_length] at hi; exact hi)) fun i hi => ?_
    rw [AV.erL_getD]; exact ih i (by rw [AV.erL_length] at hi; exact hi)
  | tup cs vs hl _ ih =>
    refine .tup (AV.erL cs) vs (by rw [AV.erL_length]; exact hl) fun i hi => ?_
    rw [AV.erL_getD]; exact ih i (by rw [AV.erL_length] at hi; exact hi)
  | fn f cs ds vs us hl hm _ _ ih ih' =>
    refine .fn f (AV.erL cs) (AV.erL ds) vs us (by rw [AV.erL_length]; exact hl) (by rw [AV.erL_length]; exact hm) (fun i hi => ?_) (fun i hi => ?_)
    · rw [AV.erL_getD]; exact ih i (by rw [AV.erL_length] at hi; exact hi)
    · rw [AV.erL_getD]; exact ih' i (by rw [AV.erL_length] at hi; exact hi)
  | iface t x v _ ih => exact .iface t x.er v ih
  | map k h => exact .map k h
  | glob g off => exact .glob g off
  | bsl k off sz ag len cap h hl hm => exact .bsl k off sz ag len cap h hl hm
  | eptr cs off b o f himm hcell hone _ ih =>
    refine .eptr (AV.erL cs) off b o f (fun j hj => himm j (by rw [AV.erL_length] at hj; exact hj)) (fun j hj => hcell j (by rw [AV.erL_length] at hj; exact hj)) (fun j hj => hone j (by rw [AV.erL_length] at hj; exact hj)) fun j hj => ?_
    rw [AV.erL_getD]; exact ih j (by rw [AV.erL_length] at hj; exact hj)

/-! States. -/
structure AS where
  n : Nat
  fr : Nat → AV
  h : List Blk
  live : List Nat

structure SRel (w : World) (G : Gh) (a : Act) (S : AS) : Prop where
  defers : a.defers = []
  size : a.tmps.size = S.n
  heap : HRel w G S.h S.live
  fr : ∀ t, Rep w G (S.fr t) (a.tmps.getD t undef)

def Lq (Q : Exit → AS → Prop) (w : World) (G : Gh) (live : List Nat) : Exit → Act → World → Prop :=
  fun e a' w' => ∃ G' S', Q e S' ∧ SRel w' G' a' S' ∧ Evo w G live w' G' S'.live

def AwpC (P : Program) (c : Code) (Q : Exit → AS → Prop) (S : AS) : Prop := ∀ w G a, SRel w G a S → c.wp P (Lq Q w G S.live) a w

theorem Lq.step {Q : Exit → AS → Prop} {w w' : World} {G G' : Gh} {l l' : List Nat} (h : Evo w G l w' G' l') {e : Exit} {a : Act} {x : World} (q : Lq Q w' G' l' e a x) : Lq Q w G l e a x :=
  let ⟨G2, S2, q2, s2, e2⟩ := q
  ⟨G2, S2, q2, s2, h.trans e2⟩

def thenQ (next : AS → Prop) (Q : Exit → AS → Prop) : Exit → AS → Prop
  | .normal, S => next S
  | e, S => Q e S

def inBlockQ (id : Nat) (Q : Exit → AS → Prop) : Exit → AS → Prop
  | .exit id', S => if id' = id then Q .normal S else Q (.exit id') S
  | e, S => Q e S

section rules
variable {P : Program} {Q : Exit → AS → Prop} {S : AS}

theorem awp_mono {c : Code} {Q' : Exit → AS → Prop} (h : AwpC P c Q S) (hq : ∀ e S, Q e S → Q' e S) : AwpC P c Q' S :=
  fun w G a hs => wp_mono (h w G a hs) fun _ _ _ ⟨G', S', q, r⟩ => ⟨G', S', hq _ _ q, r⟩

theorem Lq.here {w : World} {G : Gh} {a : Act} {e : Exit} (h : Q e S) (hs : SRel w G a S) : Lq Q w G S.live e a w := ⟨G, S, h, hs, Evo.refl _ _ _⟩

theorem awp_skip (h : Q .normal S) : AwpC P .skip Q S := fun _ _ _ hs => wp_skip (Lq.here h hs)
theorem awp_exit {id : Nat} (h : Q (.exit id) S) : AwpC P (.exit id) Q S := fun _ _ _ hs => wp_exit (Lq.here h hs)
theorem awp_ret (h : Q .ret S) : AwpC P .ret Q S := fun _ _ _ hs => wp_ret (Lq.here h hs)
theorem awp_label {l : Nat} (h : Q .normal S) : AwpC P (.label l) Q S := fun _ _ _ hs => wp_label (Lq.here h hs)

theorem awp_seq {x y : Code} (h : AwpC P x (thenQ (AwpC P y Q) Q) S) : AwpC P (.seq x y) Q S := by
  intro w G a hs
  refine wp_seq (wp_mono (h w G a hs) fun e a' w' q => ?_)
  obtain ⟨G', S', q, hs', ev⟩ := q
  cases e with
  | normal => exact wp_mono (q w' G' a' hs') fun _ _ _ q => q.step ev
  | _ => exact ⟨G', S', q, hs', ev⟩

theorem awp_block {id : Nat} {c : Code} (h : AwpC P c (inBlockQ id Q) S) : AwpC P (.block id c) Q S := by
  intro w G a hs
  refine wp_block (wp_mono (h w G a hs) fun e a' w' q => ?_)
  obtain ⟨G', S', q, hs', ev⟩ := q
  cases e with
  | exit id' =>
    simp only [Exit.inBlock, inBlockQ] at q ⊢
    split
    · rename_i hid; rw [if_pos hid] at q; exact ⟨G', S', q, hs', ev⟩
    · rename_i hid; rw [if_neg hid] at q; exact ⟨G', S', q, hs', ev⟩
  | _ => exact ⟨G', S', q, hs', ev⟩

/-- A loop: states by a label x, each round lowers a measure of it. -/
theorem awp_loop {c : Code} {X : Type} (I : X → AS) (μ : X → Nat) (x : X) (h0 : S = I x)
    (round : ∀ x, AwpC P c (thenQ (fun S' => ∃ y, S' = I y ∧ μ y < μ x) Q) (I x)) : AwpC P (.loop c) Q S := by
  subst h0
  intro w G a hs
  let inv : Act → World → Prop := fun a' w' => ∃ y G', SRel w' G' a' (I y) ∧ Evo w G (I x).live w' G' (I y).live
  let inv' : Nat → Act → World → Prop := fun n a' w' => ∃ y G', μ y = n ∧ SRel w' G' a' (I y) ∧ Evo w G (I x).live w' G' (I y).live
  intro b k cs
  have key : ∀ n a' w', inv' n a' w' →
      ∃ e a₂ w₂, Lq Q w G (I x).live e a₂ w₂ ∧ Arrives P (lone (b.at a' (.code c :: .inLoop c :: k)) cs w') b k cs e a₂ w₂ := by
    intro n
    induction n using Nat.strongRecOn with
    | _ n ih =>
      rintro a' w' ⟨y, G', hy, hs', ev⟩
      obtain ⟨e, a₁, w₁, hq, harr⟩ := round y w' G' a' hs' b (.inLoop c :: k) cs
      obtain ⟨G₁, S₁, hq, hs₁, ev₁⟩ := hq
      cases e with
      | normal =>
        obtain ⟨z, hz, hlt⟩ := hq
        subst hz
        obtain ⟨e₂, a₂, w₂, hq₂, harr₂⟩ := ih (μ z) (hy ▸ hlt) a₁ w₁ ⟨z, G₁, rfl, hs₁, ev.trans ev₁⟩
        exact ⟨e₂, a₂, w₂, hq₂, .of_steps (Steps.trans harr (.one step_inLoop)) harr₂⟩
      | exit id => exact ⟨_, a₁, w₁, ⟨G₁, S₁, hq, hs₁, ev.trans ev₁⟩, .pass (x := .inLoop c) rfl (fun _ _ => .inl (by simp)) harr⟩
      | goto l => exact ⟨_, a₁, w₁, ⟨G₁, S₁, hq, hs₁, ev.trans ev₁⟩, .pass (x := .inLoop c) rfl (fun _ _ => .inl (by simp)) harr⟩
      | ret => exact ⟨_, a₁, w₁, ⟨G₁, S₁, hq, hs₁, ev.trans ev₁⟩, .pass (x := .inLoop c) rfl (fun _ _ => .inl (by simp)) harr⟩
      | panic ch => exact ⟨_, a₁, w₁, ⟨G₁, S₁, hq, hs₁, ev.trans ev₁⟩, .pass (x := .inLoop c) rfl (fun _ _ => .inl (by simp)) harr⟩
      | outgrown => exact ⟨_, a₁, w₁, ⟨G₁, S₁, hq, hs₁, ev.trans ev₁⟩, .pass (x := .inLoop c) rfl (fun _ _ => .inl (by simp)) harr⟩
  obtain ⟨e, a', w', hq, harr⟩ := key _ a w ⟨x, G, rfl, hs, Evo.refl _ _ _⟩
  exact ⟨e, a', w', hq, .of_steps (.one step_loop) harr⟩

end rules

/-! Operands. -/
def cst : Value → AV
  | .bool b => .bool b
  | .int k n => .int k n
  | .string s => .str s.data.toList
  | .slice none 0 0 => .slice [] .full
  | v => if plainV v then .raw v else .undef

def ev (fr : Nat → AV) : Operand → AV
  | .tmp t => fr t
  | .const v => cst v
  | .func f => .fn (.func f) [] []
  | .global g => .glob g 0

theorem cst_rep (w : World) (G : Gh) (v : Value) : Rep w G (cst v) v := by
  unfold cst
  split
  · exact .bool _
  · exact .int _ _
  · rename_i s; exact .str s.data.toList
  · exact .nilSlice _ rfl
  · split
    · exact .raw _ (by assumption)
    · exact .undef _

theorem SRel.ev {w : World} {G : Gh} {a : Act} {S : AS} (h : SRel w G a S) (o : Operand) : Rep w G (ev S.fr o) (a.eval o) := by
  cases o with
  | tmp t => exact h.fr t
  | const v => exact cst_rep w G v
  | func f => exact .fn (.func f) [] [] [] [] rfl rfl (by simp) (by simp)
  | global g => exact .glob g 0

theorem awp_cond {P : Program} {Q : Exit → AS → Prop} {S : AS} {c : Operand} {x y : Code} {b : Bool} (hb : Ab.ev S.fr c = .bool b)
    (ht : b = true → AwpC P x Q S) (hf : b = false → AwpC P y Q S) : AwpC P (.cond c x y) Q S := by
  intro w G a hs
  have h := hs.ev c
  rw [hb] at h
  generalize hv : a.eval c = v at h
  cases h
  cases b
  · exact wp_cond hv (hf rfl w G a hs)
  · exact wp_cond hv (ht rfl w G a hs)

end Go.Ab
