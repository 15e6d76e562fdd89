import Derived.Calls
import Derived.Tactics
import Derived.Laws.AppendOwn
import Derived.Below
/-
  A FRAMEWORK OF THIS SEAT'S OWN: abstract values (no addresses but those of named blocks), what it is for a value in a world to stand for one, and how that is kept while the world grows.
-/
namespace Go.Ab
set_option linter.unusedVariables false
set_option linter.unusedSimpArgs false
open Go.RowKit

inductive Cap where
  | none
  | full
  | own (t : Nat)
  deriving Inhabited

def Cap.isOwn : Cap → Bool
  | .own _ => true
  | _ => false

inductive AV where
  | undef
  | bool (b : Bool)
  | int (k : IntKind) (n : Int)
  | str (l : List UInt8)
  | raw (v : Value)
  | ptr (k off : Nat)
  | slice (l : List AV) (c : Cap)
  | agg (cs : List AV)
  | tup (vs : List AV)
  | fn (f : Fn) (first cap : List AV)
  | iface (t : TypeId) (v : AV)
  | map (k : Nat)
  | eptr (cs : List AV) (off : Nat)
  | glob (g off : Nat)
  | bsl (k off sz : Nat) (ag : Bool) (len cap : Nat)
  deriving Inhabited

def AV.cells : AV → List AV
  | .agg cs => cs
  | x => [x]

/-- A value without an address in it. -/
def plainV : Value → Bool
  | .bool _ | .int _ _ | .string _ | .pointer none | .map none | .chan none | .nilFunc | .nilIface | .float _ _ | .complex _ _ _ => true
  | _ => false

structure Tok where
  b : Nat
  e : TypeId
  sz : Nat
  len : Nat
  cap : Nat

structure Gh where
  n : Nat
  blk : Nat → Nat
  imm : Nat → Nat → Prop
  toks : List Tok

structure Ext (G G' : Gh) : Prop where
  n : G.n ≤ G'.n
  blk : ∀ k, k < G.n → G'.blk k = G.blk k
  imm : ∀ b o, G.imm b o → G'.imm b o
  tok : ∀ (t : Nat) (d : Tok), G.toks[t]? = some d → G'.toks[t]? = some d

theorem Ext.refl (G : Gh) : Ext G G := ⟨Nat.le_refl _, fun _ _ => rfl, fun _ _ h => h, fun _ _ h => h⟩
theorem Ext.trans {A B C : Gh} (h : Ext A B) (k : Ext B C) : Ext A C :=
  ⟨Nat.le_trans h.n k.n, fun i hi => (k.blk i (Nat.lt_of_lt_of_le hi h.n)).trans (h.blk i hi), fun b o x => k.imm b o (h.imm b o x), fun t d x => k.tok t d (h.tok t d x)⟩

def CapRep (G : Gh) (c : Cap) (b o sz len cap : Nat) : Prop :=
  match c with
  | .none => True
  | .full => cap = len
  | .own t => o = 0 ∧ 0 < len ∧ ∃ e, G.toks[t]? = some ⟨b, e, sz, len, cap⟩

inductive Rep (w : World) (G : Gh) : AV → Value → Prop where
  | undef (v : Value) : Rep w G .undef v
  | bool (b : Bool) : Rep w G (.bool b) (.bool b)
  | int (k : IntKind) (n : Int) : Rep w G (.int k n) (.int k n)
  | str (l : List UInt8) : Rep w G (.str l) (.string ⟨l.toArray⟩)
  | raw (v : Value) (h : plainV v = true) : Rep w G (.raw v) v
  | ptr (k off : Nat) (h : k < G.n) : Rep w G (.ptr k off) (.pointer (some ⟨G.blk k, off, none⟩))
  | nilSlice (c : Cap) (h : c.isOwn = false) : Rep w G (.slice [] c) (.slice none 0 0)
  | emptySlice (a : Addr) (c : Cap) (h : c.isOwn = false) : Rep w G (.slice [] c) (.slice (some a) 0 0)
  | slice (l : List AV) (c : Cap) (b o cap sz : Nat) (f : Nat → Nat → Value)
      (hcap : l.length ≤ cap) (hmax : cap ≤ maxLen)
      (hsz : ∀ i, i < l.length → (l.getD i .undef).cells.length = sz)
      (himm : ∀ i j, i < l.length → j < sz → G.imm b (o + (i * sz + j)))
      (hcell : ∀ i j, i < l.length → j < sz → w.cell? ⟨b, o + (i * sz + j), none⟩ = some (f i j))
      (hone : ∀ i j, i < l.length → j < sz → (f i j).oneCell' = true)
      (hrep : ∀ i j, i < l.length → j < sz → Rep w G ((l.getD i .undef).cells.getD j .undef) (f i j))
      (hc : CapRep G c b o sz l.length cap) :
      Rep w G (.slice l c) (.slice (some ⟨b, o, none⟩) l.length cap)
  | agg (cs : List AV) (vs : List Value) (hl : vs.length = cs.length) (hone : ∀ i, i < cs.length → (vs.getD i undef).oneCell' = true)
      (hrep : ∀ i, i < cs.length → Rep w G (cs.getD i .undef) (vs.getD i undef)) : Rep w G (.agg cs) (.agg vs.toArray)
  | tup (cs : List AV) (vs : List Value) (hl : vs.length = cs.length)
      (hrep : ∀ i, i < cs.length → Rep w G (cs.getD i .undef) (vs.getD i undef)) : Rep w G (.tup cs) (.tuple vs.toArray)
  | fn (f : Fn) (cs ds : List AV) (vs us : List Value) (hl : vs.length = cs.length) (hm : us.length = ds.length)
      (hrep : ∀ i, i < cs.length → Rep w G (cs.getD i .undef) (vs.getD i undef))
      (hrep' : ∀ i, i < ds.length → Rep w G (ds.getD i .undef) (us.getD i undef)) : Rep w G (.fn f cs ds) (.func f vs.toArray us.toArray)
  | iface (t : TypeId) (x : AV) (v : Value) (h : Rep w G x v) : Rep w G (.iface t x) (.iface t v)
  | map (k : Nat) (h : k < G.n) : Rep w G (.map k) (.map (some (G.blk k)))
  | eptr (cs : List AV) (off b o : Nat) (f : Nat → Value)
      (himm : ∀ j, j < cs.length → G.imm b (o + j))
      (hcell : ∀ j, j < cs.length → w.cell? ⟨b, o + j, none⟩ = some (f j))
      (hone : ∀ j, j < cs.length → (f j).oneCell' = true)
      (hrep : ∀ j, j < cs.length → Rep w G (cs.getD j .undef) (f j)) : Rep w G (.eptr cs off) (.pointer (some ⟨b, o + off, none⟩))
  | glob (g off : Nat) : Rep w G (.glob g off) (.pointer (some ⟨g, off, none⟩))
  | bsl (k off sz : Nat) (ag : Bool) (len cap : Nat) (h : k < G.n) (hl : len ≤ cap) (hm : cap ≤ maxLen) : Rep w G (.bsl k off sz ag len cap) (.slice (some ⟨G.blk k, off, none⟩) len cap)

theorem CapRep.ext {G G' : Gh} (he : Ext G G') {c : Cap} {b o sz len cap : Nat} (h : CapRep G c b o sz len cap) : CapRep G' c b o sz len cap := by
  cases c with
  | none => trivial
  | full => exact h
  | own t => obtain ⟨h1, h0, e, h2⟩ := h; exact ⟨h1, h0, e, he.tok _ _ h2⟩

/-- What stands for a value stands for it where the cells that never turn are as they were. -/
theorem Rep.mono {w w' : World} {G G' : Gh} (hi : ∀ b o, G.imm b o → w'.cell? ⟨b, o, none⟩ = w.cell? ⟨b, o, none⟩) (he : Ext G G') {x : AV} {v : Value} (h : Rep w G x v) : Rep w' G' x v := by
  induction h with
  | undef v => exact .undef v
  | bool b => exact .bool b
  | int k n => exact .int k n
  | str l => exact .str l
  | raw v h => exact .raw v h
  | ptr k off h => rw [← he.blk k h]; exact .ptr k off (Nat.lt_of_lt_of_le h he.n)
  | nilSlice c h => exact .nilSlice c h
  | emptySlice a c h => exact .emptySlice a c h
  | slice l c b o cap sz f hcap hmax hsz himm hcell hone _ hc ih =>
    exact .slice l c b o cap sz f hcap hmax hsz (fun i j h1 h2 => he.imm _ _ (himm i j h1 h2)) (fun i j h1 h2 => (hi _ _ (himm i j h1 h2)).trans (hcell i j h1 h2)) hone ih (hc.ext he)
  | agg cs vs hl hone _ ih => exact .agg cs vs hl hone ih
  | tup cs vs hl _ ih => exact .tup cs vs hl ih
  | fn f cs ds vs us hl hm _ _ ih ih' => exact .fn f cs ds vs us hl hm ih ih'
  | iface t x v _ ih => exact .iface t x v ih
  | map k h => rw [← he.blk k h]; exact .map k (Nat.lt_of_lt_of_le h he.n)
  | eptr cs off b o f himm hcell hone _ ih =>
    exact .eptr cs off b o f (fun j h => he.imm _ _ (himm j h)) (fun j h => (hi _ _ (himm j h)).trans (hcell j h)) hone ih
  | glob g off => exact .glob g off
  | bsl k off sz ag len cap h hl hm => rw [← he.blk k h]; exact .bsl k off sz ag len cap (Nat.lt_of_lt_of_le h he.n) hl hm

/-! Blocks. -/
inductive Blk where
  | cells (c : List AV)
  | map (es : List (AV × AV))
  | glb (g : Nat) (c : List AV) (ob : Obj)
  | siter (l : List UInt8) (pos : Nat)
  | miter (k since : Nat) (seen : List Nat) (stepped : Nat)
  | gone
  deriving Inhabited

def BlkRep (w : World) (G : Gh) (x : Blk) (b : Nat) : Prop :=
  match x with
  | .cells c => ∃ vs e, w.heap[b]? = some (.cells vs e (0, 0)) ∧ vs.size = c.length ∧ ∀ i, i < c.length → (vs.getD i undef).oneCell' = true ∧ Rep w G (c.getD i .undef) (vs.getD i undef)
  | .map es => ∃ us clock, w.heap[b]? = some (.map us clock) ∧ us.size = es.length ∧ (clock = us.size ∧ ∀ i, i < us.size → (us.getD i default).born = i) ∧
      ∀ i, i < es.length → Rep w G (es.getD i (.undef, .undef)).1 (us.getD i default).key ∧ Rep w G (es.getD i (.undef, .undef)).2 (us.getD i default).val
  | .glb g c ob => b = g ∧ ∃ vs e fz, ob = .cells vs e fz ∧ w.heap[b]? = some (.cells vs e fz) ∧ vs.size = c.length ∧ ∀ i, i < c.length → (vs.getD i undef).oneCell' = true ∧ Rep w G (c.getD i .undef) (vs.getD i undef)
  | .siter l pos => w.heap[b]? = some (.stringIter ⟨l.toArray⟩ pos)
  | .miter k since seen stepped => k < G.n ∧ w.heap[b]? = some (.mapIter (some (G.blk k)) since seen.toArray stepped)
  | .gone => True

def TokOk (w : World) (G : Gh) (d : Tok) : Prop :=
  (∃ cur, w.heap[d.b]? = some (.cells cur d.e (0, 0)) ∧ cur.size = d.cap * d.sz) ∧ d.len ≤ d.cap ∧ d.cap ≤ maxLen ∧ (∀ o, d.len * d.sz ≤ o → ¬ G.imm d.b o) ∧ ∀ k, k < G.n → G.blk k ≠ d.b

structure HRel (w : World) (G : Gh) (h : List Blk) (live : List Nat) : Prop where
  len : h.length = G.n
  blk : ∀ (k : Nat) (x : Blk), h[k]? = some x → BlkRep w G x (G.blk k)
  blk_lt : ∀ k, k < G.n → G.blk k < w.heap.size
  inj : ∀ j k, j < G.n → k < G.n → G.blk j = G.blk k → j = k
  imm_lt : ∀ b o, G.imm b o → b < w.heap.size
  imm_blk : ∀ b o k, G.imm b o → k < G.n → G.blk k ≠ b
  tok : ∀ t : Nat, t ∈ live → ∃ d, G.toks[t]? = some d ∧ TokOk w G d
  tok_ne : ∀ (t u : Nat) (d e : Tok), t ∈ live → u ∈ live → G.toks[t]? = some d → G.toks[u]? = some e → d.b = e.b → t = u

def Owned (G : Gh) (live : List Nat) (b : Nat) : Prop := (∃ k, k < G.n ∧ G.blk k = b) ∨ (∃ (t : Nat) (d : Tok), t ∈ live ∧ G.toks[t]? = some d ∧ d.b = b)

structure Evo (w : World) (G : Gh) (live : List Nat) (w' : World) (G' : Gh) (live' : List Nat) : Prop where
  os : w'.os = w.os
  tape : w'.tape = w.tape
  output : w'.output = w.output
  size : w.heap.size ≤ w'.heap.size
  imm : ∀ b o, G.imm b o → w'.cell? ⟨b, o, none⟩ = w.cell? ⟨b, o, none⟩
  other : ∀ b, b < w.heap.size → ¬ Owned G live b → w'.heap[b]? = w.heap[b]?
  own : ∀ b, b < w.heap.size → Owned G' live' b → Owned G live b
  ext : Ext G G'

theorem Evo.refl (w : World) (G : Gh) (live : List Nat) : Evo w G live w G live :=
  ⟨rfl, rfl, rfl, Nat.le_refl _, fun _ _ _ => rfl, fun _ _ _ => rfl, fun _ _ h => h, Ext.refl G⟩

theorem Evo.trans {a b c : World} {A B C : Gh} {la lb lc : List Nat} (h : Evo a A la b B lb) (k : Evo b B lb c C lc) : Evo a A la c C lc where
  os := k.os.trans h.os
  tape := k.tape.trans h.tape
  output := k.output.trans h.output
  size := Nat.le_trans h.size k.size
  imm x o hi := (k.imm x o (h.ext.imm x o hi)).trans (h.imm x o hi)
  other x hx hn := (k.other x (Nat.lt_of_lt_of_le hx h.size) (fun o => hn (h.own x hx o))).trans (h.other x hx hn)
  own x hx o := h.own x hx (k.own x (Nat.lt_of_lt_of_le hx h.size) o)
  ext := h.ext.trans k.ext

theorem Evo.rep {w w' : World} {G G' : Gh} {l l' : List Nat} (h : Evo w G l w' G' l') {x : AV} {v : Value} (hr : Rep w G x v) : Rep w' G' x v := hr.mono h.imm h.ext

/-- A draw. -/
theorem BlkRep.mono {w w' : World} {G G' : Gh} {x : Blk} {b : Nat} (hb : w'.heap[b]? = w.heap[b]?) (hi : ∀ b o, G.imm b o → w'.cell? ⟨b, o, none⟩ = w.cell? ⟨b, o, none⟩) (he : Ext G G') (h : BlkRep w G x b) : BlkRep w' G' x b := by
  cases x with
  | cells c =>
    obtain ⟨vs, e, h1, h2, h3⟩ := h
    exact ⟨vs, e, hb.trans h1, h2, fun i hc => ⟨(h3 i hc).1, (h3 i hc).2.mono hi he⟩⟩
  | map es =>
    obtain ⟨us, c, h1, h2, h2', h3⟩ := h
    exact ⟨us, c, hb.trans h1, h2, h2', fun i hc => ⟨(h3 i hc).1.mono hi he, (h3 i hc).2.mono hi he⟩⟩
  | glb g c ob =>
    obtain ⟨h0, vs, e, fz, ho, h1, h2, h3⟩ := h
    exact ⟨h0, vs, e, fz, ho, hb.trans h1, h2, fun i hc => ⟨(h3 i hc).1, (h3 i hc).2.mono hi he⟩⟩
  | siter l pos => exact hb.trans h
  | miter k since seen stepped => exact ⟨Nat.lt_of_lt_of_le h.1 he.n, by rw [he.blk k h.1]; exact hb.trans h.2⟩
  | gone => trivial

end Go.Ab
