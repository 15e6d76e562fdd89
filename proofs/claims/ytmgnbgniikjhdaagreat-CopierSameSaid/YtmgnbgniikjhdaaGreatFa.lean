import Derived.Calls
import Derived.Tactics
import Derived.Laws.AppendOwn
import Derived.Below
import Derived.Orders
import Derived.WalkKit
import Derived.Deep.MidRow
import Derived.Laws.Runes
import Derived.Laws.BytesString
import Derived.Laws.IdiomStrings
import Derived.Laws.StructEq
/-
  A FRAMEWORK OF THIS SEAT'S OWN: abstract values (no addresses but those of named blocks), what it is for a value in a world to stand for one, and how that is kept while the world grows.
-/
set_option linter.unusedVariables false
set_option linter.unusedSimpArgs false
namespace Go.Ab
open Go.RowKit
inductive Cap where
 | none
 | full
 | own (t:Nat)
 deriving Inhabited
def Cap.isOwn:Cap→Bool
 | .own _=>true
 | _=>false
inductive AV where
 | undef
 | bool (b:Bool)
 | int (k:IntKind) (n:Int)
 | str (l:List UInt8)
 | raw (v:Value)
 | ptr (k off:Nat)
 | slice (l:List AV) (c:Cap)
 | agg (cs:List AV)
 | tup (vs:List AV)
 | fn (f:Fn) (first cap:List AV)
 | iface (t:TypeId) (v:AV)
 | map (k:Nat)
 | eptr (cs:List AV) (off:Nat)
 | glob (g off:Nat)
 | bsl (k off sz:Nat) (ag:Bool) (len cap:Nat)
 deriving Inhabited
def AV.cells:AV→List AV
 | .agg cs=>cs
 | x=>[x]
def plainV:Value→Bool
 | .bool _ | .int _ _ | .string _ | .pointer none | .map none | .chan none | .nilFunc | .nilIface | .float _ _ | .complex _ _ _=>true
 | _=>false
structure Tok where
 b:Nat
 e:TypeId
 sz:Nat
 len:Nat
 cap:Nat
structure Gh where
 n:Nat
 blk:Nat→Nat
 imm:Nat→Nat→Prop
 toks:List Tok
structure Ext (G G':Gh):Prop where
 n:G.n≤G'.n
 blk:∀k,k<G.n→G'.blk k=G.blk k
 imm:∀b o,G.imm b o→G'.imm b o
 tok:∀(t:Nat) (d:Tok),G.toks[t]? = some d→G'.toks[t]? = some d
theorem Ext.refl (G:Gh):Ext G G:=⟨Nat.le_refl _,fun _ _=>rfl,fun _ _ h=>h,fun _ _ h=>h⟩
theorem Ext.trans {A B C:Gh} (h:Ext A B) (k:Ext B C):Ext A C:=
 ⟨Nat.le_trans h.n k.n,fun i hi=>(k.blk i (Nat.lt_of_lt_of_le hi h.n)).trans (h.blk i hi),fun b o x=>k.imm b o (h.imm b o x),fun t d x=>k.tok t d (h.tok t d x)⟩
def CapRep (G:Gh) (c:Cap) (b o sz len cap:Nat):Prop:=
 match c with
 | .none=>True
 | .full=>cap=len
 | .own t=>o=0∧0<len∧∃e,G.toks[t]? = some ⟨b,e,sz,len,cap⟩
inductive Rep (w:World) (G:Gh):AV→Value→Prop where
 | undef (v:Value):Rep w G .undef v
 | bool (b:Bool):Rep w G (.bool b) (.bool b)
 | int (k:IntKind) (n:Int):Rep w G (.int k n) (.int k n)
 | str (l:List UInt8):Rep w G (.str l) (.string ⟨l.toArray⟩)
 | raw (v:Value) (h:plainV v=true):Rep w G (.raw v) v
 | ptr (k off:Nat) (h:k<G.n):Rep w G (.ptr k off) (.pointer (some ⟨G.blk k,off,none⟩))
 | nilSlice (c:Cap) (h:c.isOwn=false):Rep w G (.slice [] c) (.slice none 0 0)
 | emptySlice (a:Addr) (c:Cap) (h:c.isOwn=false):Rep w G (.slice [] c) (.slice (some a) 0 0)
 | slice (l:List AV) (c:Cap) (b o cap sz:Nat) (f:Nat→Nat→Value)
  (hcap:l.length≤cap) (hmax:cap≤maxLen)
  (hsz:∀i,i<l.length→(l.getD i .undef).cells.length=sz)
  (himm:∀i j,i<l.length→j<sz→G.imm b (o+(i*sz+j)))
  (hcell:∀i j,i<l.length→j<sz→w.cell? ⟨b,o+(i*sz+j),none⟩=some (f i j))
  (hone:∀i j,i<l.length→j<sz→(f i j).oneCell'=true)
  (hrep:∀i j,i<l.length→j<sz→Rep w G ((l.getD i .undef).cells.getD j .undef) (f i j))
  (hc:CapRep G c b o sz l.length cap) :
  Rep w G (.slice l c) (.slice (some ⟨b,o,none⟩) l.length cap)
 | agg (cs:List AV) (vs:List Value) (hl:vs.length=cs.length) (hone:∀i,i<cs.length→(vs.getD i undef).oneCell'=true)
  (hrep:∀i,i<cs.length→Rep w G (cs.getD i .undef) (vs.getD i undef)):Rep w G (.agg cs) (.agg vs.toArray)
 | tup (cs:List AV) (vs:List Value) (hl:vs.length=cs.length)
  (hrep:∀i,i<cs.length→Rep w G (cs.getD i .undef) (vs.getD i undef)):Rep w G (.tup cs) (.tuple vs.toArray)
 | fn (f:Fn) (cs ds:List AV) (vs us:List Value) (hl:vs.length=cs.length) (hm:us.length=ds.length)
  (hrep:∀i,i<cs.length→Rep w G (cs.getD i .undef) (vs.getD i undef))
  (hrep':∀i,i<ds.length→Rep w G (ds.getD i .undef) (us.getD i undef)):Rep w G (.fn f cs ds) (.func f vs.toArray us.toArray)
 | iface (t:TypeId) (x:AV) (v:Value) (h:Rep w G x v):Rep w G (.iface t x) (.iface t v)
 | map (k:Nat) (h:k<G.n):Rep w G (.map k) (.map (some (G.blk k)))
 | eptr (cs:List AV) (off b o:Nat) (f:Nat→Value)
  (himm:∀j,j<cs.length→G.imm b (o+j))
  (hcell:∀j,j<cs.length→w.cell? ⟨b,o+j,none⟩=some (f j))
  (hone:∀j,j<cs.length→(f j).oneCell'=true)
  (hrep:∀j,j<cs.length→Rep w G (cs.getD j .undef) (f j)):Rep w G (.eptr cs off) (.pointer (some ⟨b,o+off,none⟩))
 | glob (g off:Nat):Rep w G (.glob g off) (.pointer (some ⟨g,off,none⟩))
 | bsl (k off sz:Nat) (ag:Bool) (len cap:Nat) (h:k<G.n) (hl:len≤cap) (hm:cap≤maxLen):Rep w G (.bsl k off sz ag len cap) (.slice (some ⟨G.blk k,off,none⟩) len cap)
theorem CapRep.ext {G G':Gh} (he:Ext G G') {c:Cap} {b o sz len cap:Nat} (h:CapRep G c b o sz len cap):CapRep G' c b o sz len cap:=by
 cases c with
 | none=>trivial
 | full=>exact h
 | own t=>obtain ⟨h1,h0,e,h2⟩:=h;exact ⟨h1,h0,e,he.tok _ _ h2⟩
theorem Rep.mono {w w':World} {G G':Gh} (hi:∀b o,G.imm b o→w'.cell? ⟨b,o,none⟩=w.cell? ⟨b,o,none⟩) (he:Ext G G') {x:AV} {v:Value} (h:Rep w G x v):Rep w' G' x v:=by
 induction h with
 | undef v=>exact .undef v
 | bool b=>exact .bool b
 | int k n=>exact .int k n
 | str l=>exact .str l
 | raw v h=>exact .raw v h
 | ptr k off h=>rw [←he.blk k h];exact .ptr k off (Nat.lt_of_lt_of_le h he.n)
 | nilSlice c h=>exact .nilSlice c h
 | emptySlice a c h=>exact .emptySlice a c h
 | slice l c b o cap sz f hcap hmax hsz himm hcell hone _ hc ih=>
  exact .slice l c b o cap sz f hcap hmax hsz (fun i j h1 h2=>he.imm _ _ (himm i j h1 h2)) (fun i j h1 h2=>(hi _ _ (himm i j h1 h2)).trans (hcell i j h1 h2)) hone ih (hc.ext he)
 | agg cs vs hl hone _ ih=>exact .agg cs vs hl hone ih
 | tup cs vs hl _ ih=>exact .tup cs vs hl ih
 | fn f cs ds vs us hl hm _ _ ih ih'=>exact .fn f cs ds vs us hl hm ih ih'
 | iface t x v _ ih=>exact .iface t x v ih
 | map k h=>rw [←he.blk k h];exact .map k (Nat.lt_of_lt_of_le h he.n)
 | eptr cs off b o f himm hcell hone _ ih=>
  exact .eptr cs off b o f (fun j h=>he.imm _ _ (himm j h)) (fun j h=>(hi _ _ (himm j h)).trans (hcell j h)) hone ih
 | glob g off=>exact .glob g off
 | bsl k off sz ag len cap h hl hm=>rw [←he.blk k h];exact .bsl k off sz ag len cap (Nat.lt_of_lt_of_le h he.n) hl hm
inductive Blk where
 | cells (c:List AV)
 | map (es:List (AV×AV))
 | glb (g:Nat) (c:List AV) (ob:Obj)
 | siter (l:List UInt8) (pos:Nat)
 | miter (k since:Nat) (seen:List Nat) (stepped:Nat)
 | gone
 deriving Inhabited
def BlkRep (w:World) (G:Gh) (x:Blk) (b:Nat):Prop:=
 match x with
 | .cells c=>∃vs e,w.heap[b]? = some (.cells vs e (0,0))∧vs.size=c.length∧∀i,i<c.length→(vs.getD i undef).oneCell'=true∧Rep w G (c.getD i .undef) (vs.getD i undef)
 | .map es=>∃us clock,w.heap[b]? = some (.map us clock)∧us.size=es.length∧(clock=us.size∧∀i,i<us.size→(us.getD i default).born=i) ∧
  ∀i,i<es.length→Rep w G (es.getD i (.undef,.undef)).1 (us.getD i default).key∧Rep w G (es.getD i (.undef,.undef)).2 (us.getD i default).val
 | .glb g c ob=>b=g∧∃vs e fz,ob=.cells vs e fz∧w.heap[b]? = some (.cells vs e fz)∧vs.size=c.length∧∀i,i<c.length→(vs.getD i undef).oneCell'=true∧Rep w G (c.getD i .undef) (vs.getD i undef)
 | .siter l pos=>w.heap[b]? = some (.stringIter ⟨l.toArray⟩ pos)
 | .miter k since seen stepped=>k<G.n∧w.heap[b]? = some (.mapIter (some (G.blk k)) since seen.toArray stepped)
 | .gone=>True
def TokOk (w:World) (G:Gh) (d:Tok):Prop:=
 (∃cur,w.heap[d.b]? = some (.cells cur d.e (0,0))∧cur.size=d.cap*d.sz)∧d.len≤d.cap∧d.cap≤maxLen∧(∀o,d.len*d.sz≤o→¬G.imm d.b o)∧∀k,k<G.n→G.blk k≠d.b
structure HRel (w:World) (G:Gh) (h:List Blk) (live:List Nat):Prop where
 len:h.length=G.n
 blk:∀(k:Nat) (x:Blk),h[k]? = some x→BlkRep w G x (G.blk k)
 blk_lt:∀k,k<G.n→G.blk k<w.heap.size
 inj:∀j k,j<G.n→k<G.n→G.blk j=G.blk k→j=k
 imm_lt:∀b o,G.imm b o→b<w.heap.size
 imm_blk:∀b o k,G.imm b o→k<G.n→G.blk k≠b
 tok:∀t:Nat,t∈live→∃d,G.toks[t]? = some d∧TokOk w G d
 tok_ne:∀(t u:Nat) (d e:Tok),t∈live→u∈live→G.toks[t]? = some d→G.toks[u]? = some e→d.b=e.b→t=u
def Owned (G:Gh) (live:List Nat) (b:Nat):Prop:=(∃k,k<G.n∧G.blk k=b)∨(∃(t:Nat) (d:Tok),t∈live∧G.toks[t]? = some d∧d.b=b)
structure Evo (w:World) (G:Gh) (live:List Nat) (w':World) (G':Gh) (live':List Nat):Prop where
 os:w'.os=w.os
 tape:w'.tape=w.tape
 output:w'.output=w.output
 size:w.heap.size≤w'.heap.size
 imm:∀b o,G.imm b o→w'.cell? ⟨b,o,none⟩=w.cell? ⟨b,o,none⟩
 other:∀b,b<w.heap.size→¬Owned G live b→w'.heap[b]? = w.heap[b]?
 own:∀b,b<w.heap.size→Owned G' live' b→Owned G live b
 ext:Ext G G'
theorem Evo.refl (w:World) (G:Gh) (live:List Nat):Evo w G live w G live:=
 ⟨rfl,rfl,rfl,Nat.le_refl _,fun _ _ _=>rfl,fun _ _ _=>rfl,fun _ _ h=>h,Ext.refl G⟩
theorem Evo.trans {a b c:World} {A B C:Gh} {la lb lc:List Nat} (h:Evo a A la b B lb) (k:Evo b B lb c C lc):Evo a A la c C lc where
 os:=k.os.trans h.os
 tape:=k.tape.trans h.tape
 output:=k.output.trans h.output
 size:=Nat.le_trans h.size k.size
 imm x o hi:=(k.imm x o (h.ext.imm x o hi)).trans (h.imm x o hi)
 other x hx hn:=(k.other x (Nat.lt_of_lt_of_le hx h.size) (fun o=>hn (h.own x hx o))).trans (h.other x hx hn)
 own x hx o:=h.own x hx (k.own x (Nat.lt_of_lt_of_le hx h.size) o)
 ext:=h.ext.trans k.ext
theorem Evo.rep {w w':World} {G G':Gh} {l l':List Nat} (h:Evo w G l w' G' l') {x:AV} {v:Value} (hr:Rep w G x v):Rep w' G' x v:=hr.mono h.imm h.ext
theorem BlkRep.mono {w w':World} {G G':Gh} {x:Blk} {b:Nat} (hb:w'.heap[b]? = w.heap[b]?) (hi:∀b o,G.imm b o→w'.cell? ⟨b,o,none⟩=w.cell? ⟨b,o,none⟩) (he:Ext G G') (h:BlkRep w G x b):BlkRep w' G' x b:=by
 cases x with
 | cells c=>
  obtain ⟨vs,e,h1,h2,h3⟩:=h
  exact ⟨vs,e,hb.trans h1,h2,fun i hc=>⟨(h3 i hc).1,(h3 i hc).2.mono hi he⟩⟩
 | map es=>
  obtain ⟨us,c,h1,h2,h2',h3⟩:=h
  exact ⟨us,c,hb.trans h1,h2,h2',fun i hc=>⟨(h3 i hc).1.mono hi he,(h3 i hc).2.mono hi he⟩⟩
 | glb g c ob=>
  obtain ⟨h0,vs,e,fz,ho,h1,h2,h3⟩:=h
  exact ⟨h0,vs,e,fz,ho,hb.trans h1,h2,fun i hc=>⟨(h3 i hc).1,(h3 i hc).2.mono hi he⟩⟩
 | siter l pos=>exact hb.trans h
 | miter k since seen stepped=>exact ⟨Nat.lt_of_lt_of_le h.1 he.n,by rw [he.blk k h.1];exact hb.trans h.2⟩
 | gone=>trivial
end Go.Ab
namespace Go.Ab
open Go.RowKit
mutual
def AV.cl (n:Nat):AV→Prop
 | .ptr k _=>k<n
 | .map k=>k<n
 | .bsl k _ _ _ _ _=>k<n
 | .slice l _=>AV.clL n l
 | .agg l=>AV.clL n l
 | .tup l=>AV.clL n l
 | .fn _ a b=>AV.clL n a∧AV.clL n b
 | .iface _ v=>v.cl n
 | .eptr l _=>AV.clL n l
 | _=>True
def AV.clL (n:Nat):List AV→Prop
 | []=>True
 | x::r=>x.cl n∧AV.clL n r
end
theorem AV.clL_iff (n:Nat) (l:List AV):AV.clL n l↔∀i,i<l.length→(l.getD i .undef).cl n:=by
 induction l with
 | nil=>simp [AV.clL]
 | cons x r ih=>
  simp only [AV.clL,ih,List.length_cons]
  constructor
  ·
   rintro ⟨h,k⟩ i hi
   cases i with
   | zero=>simpa using h
   | succ i=>simpa using k i (by omega)
  ·
   intro h
   exact ⟨by simpa using h 0 (by omega),fun i hi=>by simpa using h (i+1) (by omega)⟩
theorem AV.clL_mem (n:Nat) (l:List AV):AV.clL n l↔∀x,x∈l→x.cl n:=by
 induction l with
 | nil=>simp [AV.clL]
 | cons x r ih=>simp [AV.clL,ih]
theorem AV.cl_cells (n:Nat) (x:AV):AV.clL n x.cells↔x.cl n:=by
 cases x<;>simp [AV.cells,AV.clL,AV.cl]
theorem Rep.cl {w:World} {G:Gh} {x:AV} {v:Value} (h:Rep w G x v):x.cl G.n:=by
 induction h with
 | ptr k off h=>exact h
 | map k h=>exact h
 | bsl k off sz ag len cap h hl hm=>exact h
 | nilSlice c h=>exact trivial
 | emptySlice a c h=>exact trivial
 | slice l c b o cap sz f hcap hmax hsz himm hcell hone _ hc ih=>
  refine (AV.clL_iff _ _).2 fun i hi=>(AV.cl_cells _ _).1 ((AV.clL_iff _ _).2 fun j hj=>ih i j hi (by rw [←hsz i hi];exact hj))
 | agg cs vs hl hone _ ih=>exact (AV.clL_iff _ _).2 ih
 | tup cs vs hl _ ih=>exact (AV.clL_iff _ _).2 ih
 | fn f cs ds vs us hl hm _ _ ih ih'=>exact ⟨(AV.clL_iff _ _).2 ih,(AV.clL_iff _ _).2 ih'⟩
 | iface t x v _ ih=>exact ih
 | eptr cs off b o f himm hcell hone _ ih=>exact (AV.clL_iff _ _).2 ih
 | _=>exact trivial
def Gh.cut (G:Gh) (m:Nat):Gh:={ G with n:=m }
theorem Rep.cut {w:World} {G:Gh} {m:Nat} {x:AV} {v:Value} (h:Rep w G x v) (hx:x.cl m):Rep w (G.cut m) x v:=by
 induction h with
 | undef v=>exact .undef v
 | bool b=>exact .bool b
 | int k n=>exact .int k n
 | str l=>exact .str l
 | raw v h=>exact .raw v h
 | ptr k off h=>exact .ptr (G:=G.cut m) k off hx
 | nilSlice c h=>exact .nilSlice c h
 | emptySlice a c h=>exact .emptySlice a c h
 | slice l c b o cap sz f hcap hmax hsz himm hcell hone _ hc ih=>
  exact .slice l c b o cap sz f hcap hmax hsz himm hcell hone (fun i j hi hj=>ih i j hi hj (by
   have h1:=(AV.clL_iff m l).1 hx i hi
   exact (AV.clL_iff _ _).1 ((AV.cl_cells _ _).2 h1) j (by rw [hsz i hi];exact hj))) hc
 | agg cs vs hl hone _ ih=>exact .agg cs vs hl hone fun i hi=>ih i hi ((AV.clL_iff _ _).1 hx i hi)
 | tup cs vs hl _ ih=>exact .tup cs vs hl fun i hi=>ih i hi ((AV.clL_iff _ _).1 hx i hi)
 | fn f cs ds vs us hl hm _ _ ih ih'=>
  exact .fn f cs ds vs us hl hm (fun i hi=>ih i hi ((AV.clL_iff _ _).1 hx.1 i hi)) (fun i hi=>ih' i hi ((AV.clL_iff _ _).1 hx.2 i hi))
 | iface t x v _ ih=>exact .iface t x v (ih hx)
 | map k h=>exact .map (G:=G.cut m) k hx
 | eptr cs off b o f himm hcell hone _ ih=>exact .eptr cs off b o f himm hcell hone fun j hj=>ih j hj ((AV.clL_iff _ _).1 hx j hj)
 | glob g off=>exact .glob g off
 | bsl k off sz ag len cap h hl hm=>exact .bsl (G:=G.cut m) k off sz ag len cap hx hl hm
mutual
def AV.er:AV→AV
 | .slice l _=>.slice (AV.erL l) .none
 | .agg l=>.agg (AV.erL l)
 | .tup l=>.tup (AV.erL l)
 | .fn f a b=>.fn f (AV.erL a) (AV.erL b)
 | .iface t v=>.iface t v.er
 | .eptr l o=>.eptr (AV.erL l) o
 | x=>x
def AV.erL:List AV→List AV
 | []=>[]
 | x::r=>x.er::AV.erL r
end
theorem AV.erL_map (l:List AV):AV.erL l=l.map AV.er:=by
 induction l with
 | nil=>rfl
 | cons x r ih=>simp [AV.erL,ih]
theorem AV.erL_length (l:List AV):(AV.erL l).length=l.length:=by rw [AV.erL_map];simp
theorem AV.erL_getD (l:List AV) (i:Nat):(AV.erL l).getD i .undef=(l.getD i .undef).er:=by
 rw [AV.erL_map]
 simp only [List.getD_eq_getElem?_getD,List.getElem?_map]
 cases l[i]? <;> rfl
theorem AV.er_cells (x:AV):x.er.cells=AV.erL x.cells:=by
 cases x<;>simp [AV.er,AV.cells,AV.erL]
theorem Rep.er {w:World} {G:Gh} {x:AV} {v:Value} (h:Rep w G x v):Rep w G x.er v:=by
 induction h with
 | undef v=>exact .undef v
 | bool b=>exact .bool b
 | int k n=>exact .int k n
 | str l=>exact .str l
 | raw v h=>exact .raw v h
 | ptr k off h=>exact .ptr k off h
 | nilSlice c h=>exact .nilSlice .none rfl
 | emptySlice a c h=>exact .emptySlice a .none rfl
 | slice l c b o cap sz f hcap hmax hsz himm hcell hone _ hc ih=>
  have hll:=AV.erL_length l
  simp only [AV.er]
  rw [←hll]
  refine .slice (AV.erL l) .none b o cap sz f (by omega) hmax (fun i hi=>?_) (fun i j hi hj=>himm i j (by omega) hj) (fun i j hi hj=>hcell i j (by omega) hj) (fun i j hi hj=>hone i j (by omega) hj) (fun i j hi hj=>?_) trivial
  · rw [AV.erL_getD,AV.er_cells,AV.erL_length];exact hsz i (by omega)
  · rw [AV.erL_getD,AV.er_cells,AV.erL_getD];exact ih i j (by omega) hj
 | agg cs vs hl hone _ ih=>
  refine .agg (AV.erL cs) vs (by rw [AV.erL_length];exact hl) (fun i hi=>hone i (by rw [AV.erL_length] at hi;exact hi)) fun i hi=>?_
  rw [AV.erL_getD];exact ih i (by rw [AV.erL_length] at hi;exact hi)
 | tup cs vs hl _ ih=>
  refine .tup (AV.erL cs) vs (by rw [AV.erL_length];exact hl) fun i hi=>?_
  rw [AV.erL_getD];exact ih i (by rw [AV.erL_length] at hi;exact hi)
 | fn f cs ds vs us hl hm _ _ ih ih'=>
  refine .fn f (AV.erL cs) (AV.erL ds) vs us (by rw [AV.erL_length];exact hl) (by rw [AV.erL_length];exact hm) (fun i hi=>?_) (fun i hi=>?_)
  · rw [AV.erL_getD];exact ih i (by rw [AV.erL_length] at hi;exact hi)
  · rw [AV.erL_getD];exact ih' i (by rw [AV.erL_length] at hi;exact hi)
 | iface t x v _ ih=>exact .iface t x.er v ih
 | map k h=>exact .map k h
 | glob g off=>exact .glob g off
 | bsl k off sz ag len cap h hl hm=>exact .bsl k off sz ag len cap h hl hm
 | eptr cs off b o f himm hcell hone _ ih=>
  refine .eptr (AV.erL cs) off b o f (fun j hj=>himm j (by rw [AV.erL_length] at hj;exact hj)) (fun j hj=>hcell j (by rw [AV.erL_length] at hj;exact hj)) (fun j hj=>hone j (by rw [AV.erL_length] at hj;exact hj)) fun j hj=>?_
  rw [AV.erL_getD];exact ih j (by rw [AV.erL_length] at hj;exact hj)
structure AS where
 n:Nat
 fr:Nat→AV
 h:List Blk
 live:List Nat
structure SRel (w:World) (G:Gh) (a:Act) (S:AS):Prop where
 defers:a.defers=[]
 size:a.tmps.size=S.n
 heap:HRel w G S.h S.live
 fr:∀t,Rep w G (S.fr t) (a.tmps.getD t undef)
def Lq (Q:Exit→AS→Prop) (w:World) (G:Gh) (live:List Nat):Exit→Act→World→Prop:=
 fun e a' w'=>∃G' S',Q e S'∧SRel w' G' a' S'∧Evo w G live w' G' S'.live
def AwpC (P:Program) (c:Code) (Q:Exit→AS→Prop) (S:AS):Prop:=∀w G a,SRel w G a S→c.wp P (Lq Q w G S.live) a w
theorem Lq.step {Q:Exit→AS→Prop} {w w':World} {G G':Gh} {l l':List Nat} (h:Evo w G l w' G' l') {e:Exit} {a:Act} {x:World} (q:Lq Q w' G' l' e a x):Lq Q w G l e a x:=
 let ⟨G2,S2,q2,s2,e2⟩:=q
 ⟨G2,S2,q2,s2,h.trans e2⟩
def thenQ (next:AS→Prop) (Q:Exit→AS→Prop):Exit→AS→Prop
 | .normal,S=>next S
 | e,S=>Q e S
def inBlockQ (id:Nat) (Q:Exit→AS→Prop):Exit→AS→Prop
 | .exit id',S=>if id'=id then Q .normal S else Q (.exit id') S
 | e,S=>Q e S
section rules
variable {P:Program} {Q:Exit→AS→Prop} {S:AS}
theorem awp_mono {c:Code} {Q':Exit→AS→Prop} (h:AwpC P c Q S) (hq:∀e S,Q e S→Q' e S):AwpC P c Q' S:=
 fun w G a hs=>wp_mono (h w G a hs) fun _ _ _ ⟨G',S',q,r⟩=>⟨G',S',hq _ _ q,r⟩
theorem Lq.here {w:World} {G:Gh} {a:Act} {e:Exit} (h:Q e S) (hs:SRel w G a S):Lq Q w G S.live e a w:=⟨G,S,h,hs,Evo.refl _ _ _⟩
theorem awp_skip (h:Q .normal S):AwpC P .skip Q S:=fun _ _ _ hs=>wp_skip (Lq.here h hs)
theorem awp_exit {id:Nat} (h:Q (.exit id) S):AwpC P (.exit id) Q S:=fun _ _ _ hs=>wp_exit (Lq.here h hs)
theorem awp_ret (h:Q .ret S):AwpC P .ret Q S:=fun _ _ _ hs=>wp_ret (Lq.here h hs)
theorem awp_label {l:Nat} (h:Q .normal S):AwpC P (.label l) Q S:=fun _ _ _ hs=>wp_label (Lq.here h hs)
theorem awp_seq {x y:Code} (h:AwpC P x (thenQ (AwpC P y Q) Q) S):AwpC P (.seq x y) Q S:=by
 intro w G a hs
 refine wp_seq (wp_mono (h w G a hs) fun e a' w' q=>?_)
 obtain ⟨G',S',q,hs',ev⟩:=q
 cases e with
 | normal=>exact wp_mono (q w' G' a' hs') fun _ _ _ q=>q.step ev
 | _=>exact ⟨G',S',q,hs',ev⟩
theorem awp_block {id:Nat} {c:Code} (h:AwpC P c (inBlockQ id Q) S):AwpC P (.block id c) Q S:=by
 intro w G a hs
 refine wp_block (wp_mono (h w G a hs) fun e a' w' q=>?_)
 obtain ⟨G',S',q,hs',ev⟩:=q
 cases e with
 | exit id'=>
  simp only [Exit.inBlock,inBlockQ] at q ⊢
  split
  · rename_i hid;rw [if_pos hid] at q;exact ⟨G',S',q,hs',ev⟩
  · rename_i hid;rw [if_neg hid] at q;exact ⟨G',S',q,hs',ev⟩
 | _=>exact ⟨G',S',q,hs',ev⟩
theorem awp_loop {c:Code} {X:Type} (I:X→AS) (μ:X→Nat) (x:X) (h0:S=I x)
 (round:∀x,AwpC P c (thenQ (fun S'=>∃y,S'=I y ∧ μ y < μ x) Q) (I x)):AwpC P (.loop c) Q S:=by
 subst h0
 intro w G a hs
 let inv:Act→World→Prop:=fun a' w'=>∃y G',SRel w' G' a' (I y)∧Evo w G (I x).live w' G' (I y).live
 let inv':Nat→Act→World→Prop:=fun n a' w'=>∃y G',μ y=n∧SRel w' G' a' (I y)∧Evo w G (I x).live w' G' (I y).live
 intro b k cs
 have key:∀n a' w',inv' n a' w' →
  ∃e a₂ w₂,Lq Q w G (I x).live e a₂ w₂∧Arrives P (lone (b.at a' (.code c::.inLoop c::k)) cs w') b k cs e a₂ w₂:=by
  intro n
  induction n using Nat.strongRecOn with
  | _ n ih=>
   rintro a' w' ⟨y,G',hy,hs',ev⟩
   obtain ⟨e,a₁,w₁,hq,harr⟩:=round y w' G' a' hs' b (.inLoop c::k) cs
   obtain ⟨G₁,S₁,hq,hs₁,ev₁⟩:=hq
   cases e with
   | normal=>
    obtain ⟨z,hz,hlt⟩:=hq
    subst hz
    obtain ⟨e₂,a₂,w₂,hq₂,harr₂⟩:=ih (μ z) (hy▸hlt) a₁ w₁ ⟨z,G₁,rfl,hs₁,ev.trans ev₁⟩
    exact ⟨e₂,a₂,w₂,hq₂,.of_steps (Steps.trans harr (.one step_inLoop)) harr₂⟩
   | exit id=>exact ⟨_,a₁,w₁,⟨G₁,S₁,hq,hs₁,ev.trans ev₁⟩,.pass (x:=.inLoop c) rfl (fun _ _=>.inl (by simp)) harr⟩
   | goto l=>exact ⟨_,a₁,w₁,⟨G₁,S₁,hq,hs₁,ev.trans ev₁⟩,.pass (x:=.inLoop c) rfl (fun _ _=>.inl (by simp)) harr⟩
   | ret=>exact ⟨_,a₁,w₁,⟨G₁,S₁,hq,hs₁,ev.trans ev₁⟩,.pass (x:=.inLoop c) rfl (fun _ _=>.inl (by simp)) harr⟩
   | panic ch=>exact ⟨_,a₁,w₁,⟨G₁,S₁,hq,hs₁,ev.trans ev₁⟩,.pass (x:=.inLoop c) rfl (fun _ _=>.inl (by simp)) harr⟩
   | outgrown=>exact ⟨_,a₁,w₁,⟨G₁,S₁,hq,hs₁,ev.trans ev₁⟩,.pass (x:=.inLoop c) rfl (fun _ _=>.inl (by simp)) harr⟩
 obtain ⟨e,a',w',hq,harr⟩:=key _ a w ⟨x,G,rfl,hs,Evo.refl _ _ _⟩
 exact ⟨e,a',w',hq,.of_steps (.one step_loop) harr⟩
end rules
def cst:Value→AV
 | .bool b=>.bool b
 | .int k n=>.int k n
 | .string s=>.str s.data.toList
 | .slice none 0 0=>.slice [] .full
 | v=>if plainV v then .raw v else .undef
def ev (fr:Nat→AV):Operand→AV
 | .tmp t=>fr t
 | .const v=>cst v
 | .func f=>.fn (.func f) [] []
 | .global g=>.glob g 0
theorem cst_rep (w:World) (G:Gh) (v:Value):Rep w G (cst v) v:=by
 unfold cst
 split
 · exact .bool _
 · exact .int _ _
 · rename_i s;exact .str s.data.toList
 · exact .nilSlice _ rfl
 ·
  split
  · exact .raw _ (by assumption)
  · exact .undef _
theorem SRel.ev {w:World} {G:Gh} {a:Act} {S:AS} (h:SRel w G a S) (o:Operand):Rep w G (ev S.fr o) (a.eval o):=by
 cases o with
 | tmp t=>exact h.fr t
 | const v=>exact cst_rep w G v
 | func f=>exact .fn (.func f) [] [] [] [] rfl rfl (by simp) (by simp)
 | global g=>exact .glob g 0
theorem awp_cond {P:Program} {Q:Exit→AS→Prop} {S:AS} {c:Operand} {x y:Code} {b:Bool} (hb:Ab.ev S.fr c=.bool b)
 (ht:b=true→AwpC P x Q S) (hf:b=false→AwpC P y Q S):AwpC P (.cond c x y) Q S:=by
 intro w G a hs
 have h:=hs.ev c
 rw [hb] at h
 generalize hv:a.eval c=v at h
 cases h
 cases b
 · exact wp_cond hv (hf rfl w G a hs)
 · exact wp_cond hv (ht rfl w G a hs)
end Go.Ab
namespace Go.Ab
open Go.RowKit
abbrev KT:=AV→List Blk→List Nat→Prop
def Post (w:World) (G:Gh) (live:List Nat) (K:KT) (v:Value) (w':World):Prop:=
 ∃x h' live' G',K x h' live'∧Rep w' G' x v∧HRel w' G' h' live'∧Evo w G live w' G' live'
def AUpon (P:Program) (post:Value→World→Prop):Result Next→Prop
 | .ok (.value v) w'=>post v w'
 | .ok .skip w'=>post undef w'
 | .ok (.enter f args) w'=>Calls P f args w' fun e w''=>∃v,e=.returned v∧post v w''
 | _=>False
def AOp (P:Program) (fr:Nat→AV) (h:List Blk) (live:List Nat) (o:Oper) (K:KT):Prop:=
 ∀w G (ρ:Operand→Value),(∀v,ρ (.const v)=v)→(∀x∈o.op.operands,Rep w G (ev fr x) (ρ x))→HRel w G h live→AUpon P (Post w G live K) ((execOp ρ o).run P w)
def ret (x:AV) (h:List Blk) (live:List Nat):KT:=fun y h' l'=>x=y∧h=h'∧live=l'
theorem AUpon.mono {P:Program} {p q:Value→World→Prop} (hpq:∀v w,p v w→q v w) {r:Result Next} (h:AUpon P p r):AUpon P q r:=by
 cases r with
 | halt x w=>exact h
 | ok n w=>
  cases n<;>simp only [AUpon] at h ⊢ <;> first
   | exact hpq _ _ h
   | exact Calls.mono h fun e w' ⟨v,he,hp⟩=>⟨v,he,hpq _ _ hp⟩
theorem Post.mono {w:World} {G:Gh} {live:List Nat} {K K':KT} (hk:∀x h l,K x h l→K' x h l) {v:Value} {w':World} (h:Post w G live K v w'):Post w G live K' v w':=
 let ⟨x,h',l',G',k,r⟩:=h
 ⟨x,h',l',G',hk _ _ _ k,r⟩
theorem AOp.mono {P:Program} {fr:Nat→AV} {h:List Blk} {live:List Nat} {o:Oper} {K K':KT} (hk:∀x h l,K x h l→K' x h l) (ha:AOp P fr h live o K):AOp P fr h live o K':=
 fun w G ρ hρ hr hh=>(ha w G ρ hρ hr hh).mono fun _ _=>Post.mono hk
theorem AOp.congr {P:Program} {fr fr':Nat→AV} {h:List Blk} {live:List Nat} {o:Oper} {K:KT} (he:∀x∈o.op.operands,ev fr' x=ev fr x) (ha:AOp P fr h live o K):AOp P fr' h live o K:=
 fun w G ρ hρ hr hh=>ha w G ρ hρ (fun x hx=>by rw [←he x hx];exact hr x hx) hh
def upd (fr:Nat→AV) (d:Option Tmp) (x:AV):Nat→AV:=fun t=>if d=some t then x else fr t
theorem upd_comm (fr:Nat→AV) (d e:Option Tmp) (x y:AV) (hne:∀t,d=some t→e≠some t):upd (upd fr d x) e y=upd (upd fr e y) d x:=by
 funext t
 simp only [upd]
 by_cases h1:d=some t
 · rw [if_pos h1,if_pos h1,if_neg (hne t h1)]
 · rw [if_neg h1,if_neg h1]
theorem ev_upd {fr:Nat→AV} {d:Option Tmp} {x:AV} {y:Operand} (h:∀t,d=some t→y≠.tmp t):ev (upd fr d x) y=ev fr y:=by
 cases y with
 | tmp t=>simp only [ev,upd];rw [if_neg (fun e=>h t e rfl)]
 | _=>rfl
theorem SRel.put {w w':World} {G G':Gh} {a:Act} {S:AS} (hs:SRel w G a S) {h':List Blk} {live':List Nat} {x:AV} {v:Value} {d:Option Tmp}
 (hd:∀t,d=some t→t<S.n) (hr:Rep w' G' x v) (hh:HRel w' G' h' live') (ev:Evo w G S.live w' G' live') :
 SRel w' G' (a.put d v) ⟨S.n,upd S.fr d x,h',live'⟩:=by
 refine ⟨?_,?_,hh,fun t=>?_⟩
 · cases d<;>exact hs.defers
 · cases d<;>simp [Act.put,hs.size]
 ·
  cases d with
  | none=>simp only [upd,Act.put];exact ev.rep (hs.fr t)
  | some d=>
   simp only [upd,Act.put,Option.some.injEq]
   by_cases hdt:d=t
   ·
    subst hdt
    rw [if_pos rfl]
    have:=hd d rfl
    have hlt:d<a.tmps.size:=by rw [hs.size];exact this
    simpa [hlt] using hr
   ·
    rw [if_neg hdt]
    have:=ev.rep (hs.fr t)
    simpa [Array.getElem?_setIfInBounds_ne hdt] using this
end Go.Ab
namespace Go.Ab
open Go.RowKit
inductive TK where
 | one
 | agg (n:Nat)
 deriving DecidableEq
def tk (P:Program) (t:TypeId):Option TK:=
 match P.underlying t with
 | some d=>match P.info? t with
  | some i=>if d.isRow then some (.agg i.size) else if i.size=1 then some .one else none
  | none=>none
 | none=>none
def getCells (c:List AV) (off:Nat):TK→Option AV
 | .one=>c[off]?
 | .agg n=>if off+n≤c.length then some (.agg ((c.drop off).take n)) else none
def fldOff (P:Program) (s:TypeId) (i:Nat):Option Nat:=
 match P.underlying s with
 | some (.struct fs)=>match fs[i]? with
  | some f=>match P.info? f.type with
   | some j=>if j.size=0 then none else some f.offset
   | none=>none
  | none=>none
 | _=>none
def fldTK (P:Program) (s:TypeId) (i:Nat):Option (Nat×TK):=
 match P.underlying s with
 | some (.struct fs)=>match fs[i]? with
  | some f=>match tk P f.type with
   | some k=>some (f.offset,k)
   | none=>none
  | none=>none
 | _=>none
def sliceSz (P:Program) (t:TypeId):Option Nat:=
 match P.underlying t with
 | some (.slice e)=>match P.info? e with
  | some j=>some j.size
  | none=>none
 | _=>none
def arrSz (P:Program) (t:TypeId):Option (Nat×Nat):=
 match P.underlying t with
 | some (.array len e)=>match P.info? e with
  | some j=>some (len,j.size)
  | none=>none
 | _=>none
def arrTK (P:Program) (t:TypeId):Option TK:=
 match P.underlying t with
 | some (.array _ e)=>tk P e
 | _=>none
def isStrT (P:Program) (t:TypeId):Bool:=
 match P.underlying t with
 | some .string=>true
 | _=>false
def intT (P:Program) (t:TypeId):Option IntKind:=
 match P.underlying t with
 | some (.int k)=>some k
 | _=>none
def known (P:Program) (t:TypeId):Bool:=(P.underlying t).isSome
theorem sliceSz_sound {P:Program} {t:TypeId} {n:Nat} (h:sliceSz P t=some n):∃e j,P.underlying t=some (.slice e)∧P.info? e=some j∧j.size=n:=by
 unfold sliceSz at h
 split at h
 ·
  rename_i e he
  split at h
  · rename_i j hj;cases h;exact ⟨e,j,he,hj,rfl⟩
  · simp at h
 · simp at h
theorem arrSz_sound {P:Program} {t:TypeId} {n m:Nat} (h:arrSz P t=some (n,m)):∃e j,P.underlying t=some (.array n e)∧P.info? e=some j∧j.size=m:=by
 unfold arrSz at h
 split at h
 ·
  rename_i len e he
  split at h
  · rename_i j hj;cases h;exact ⟨e,j,he,hj,rfl⟩
  · simp at h
 · simp at h
theorem isStrT_sound {P:Program} {t:TypeId} (h:isStrT P t=true):P.underlying t=some .string:=by
 unfold isStrT at h
 split at h
 · assumption
 · simp at h
theorem intT_sound {P:Program} {t:TypeId} {k:IntKind} (h:intT P t=some k):P.underlying t=some (.int k):=by
 unfold intT at h
 split at h
 · cases h;assumption
 · simp at h
def anil:AV→Option AV
 | .ptr k o=>some (.ptr k o)
 | .eptr c o=>some (.eptr c o)
 | .glob g o=>some (.glob g o)
 | .fn (.func f) a b=>some (.fn (.func f) a b)
 | _=>none
def apick (b:Bool) (x y:AV):AV:=
 match x,y with
 | .bool p,.bool q=>.bool (bif b then p else q)
 | x,y=>bif b then x else y
def aindexAddr (P:Program) (t:TypeId) (x i:AV):Option AV:=
 match i with
 | .int _ n=>match x with
  | .slice l _=>match sliceSz P t with
   | some sz=>if 0≤n∧n<l.length∧(l.getD n.toNat .undef).cells.length=sz then some (.eptr (l.getD n.toNat .undef).cells 0) else none
   | none=>none
  | .ptr k off=>match arrSz P t with
   | some (len,sz)=>if 0≤n∧n<len then some (.ptr k (off+n.toNat*sz)) else none
   | none=>none
  | .bsl k off sz ag len cap=>match sliceSz P t with
   | some s=>if s=sz∧0≤n∧n<len then some (.ptr k (off+n.toNat*s)) else none
   | none=>none
  | .glob k off=>match arrSz P t with
   | some (len,sz)=>if 0≤n∧n<len then some (.glob k (off+n.toNat*sz)) else none
   | none=>none
  | _=>none
 | _=>none
def aindex (P:Program) (t:TypeId) (x i:AV):Option AV:=
 match i with
 | .int _ n=>match x with
  | .str l=>if isStrT P t then (if 0≤n∧n<l.length then some (.int .u8 (l.getD n.toNat 0).toNat) else none) else none
  | .agg cs=>match arrSz P t,arrTK P t with
   | some (len,sz),some k=>if 0≤n∧n<len then getCells cs (n.toNat*sz) k else none
   | _, _=>none
  | _=>none
 | _=>none
def abound (d:Int):Option AV→Option Int
 | none=>some d
 | some (.int _ n)=>some n
 | some _=>none
def capOf (c:Cap) (lo hi mx:Bool):Cap:=
 match c with
 | .none=>.none
 | .full=>if hi then .none else .full
 | .own t=>if lo||hi||mx then .none else .own t
def allSz (l:List AV) (sz:Nat):Prop:=∀i,i<l.length→(l.getD i .undef).cells.length=sz
instance (l:List AV) (sz:Nat):Decidable (allSz l sz):=inferInstanceAs (Decidable (∀i,i<l.length→(l.getD i .undef).cells.length=sz))
theorem allSz_nil (sz:Nat):allSz [] sz:=fun i hi=>by simp at hi
theorem allSz_map {α:Type} (f:α→AV) (l:List α) (sz:Nat) (h:∀x,(f x).cells.length=sz):allSz (l.map f) sz:=fun i hi=>by
 have hi':i<l.length:=by simpa using hi
 simp [List.getD_eq_getElem?_getD,hi',h]
def aslice (P:Program) (t:TypeId) (x:AV) (lo hi mx:Option AV):Option AV:=
 match x with
 | .str l=>match isStrT P t,mx with
  | true,none=>match abound 0 lo,abound l.length hi with
   | some a,some b=>if 0≤a∧a≤b∧b≤l.length then some (.str ((l.drop a.toNat).take (b.toNat - a.toNat))) else none
   | _, _=>none
  | _, _=>none
 | .slice l c=>match sliceSz P t with
  | some sz=>match mx with
   | none=>match abound 0 lo,abound l.length hi with
    | some a,some b=>if 0≤a∧a≤b∧b≤l.length∧allSz l sz then some (.slice ((l.drop a.toNat).take (b.toNat - a.toNat)) (capOf c lo.isSome hi.isSome false)) else none
    | _, _=>none
   | some (.int _ m)=>match abound 0 lo,abound l.length hi with
    | some a,some b=>if 0≤a∧a≤b∧b=m∧b≤l.length∧hi.isSome=true∧allSz l sz then some (.slice ((l.drop a.toNat).take (b.toNat - a.toNat)) .full) else none
    | _, _=>none
   | some _=>none
  | none=>none
 | .bsl k off sz' ag ln cap=>match sliceSz P t,lo,hi,mx with
  | some sz,some (.int _ a),none,none=>if sz=sz'∧0≤a∧a≤ln∧a<cap then some (.bsl k (off+a.toNat*sz) sz ag (ln - a.toNat) (cap - a.toNat)) else none
  | _, _, _, _=>none
 | _=>none
def abinOp (op:BinOp) (x y:AV):Option AV:=
 match x,y with
 | .int k a,.int k' b=>
  match op with
  | .shl=>if 0≤b then some (.int k (k.wrap (a*2^(min b.toNat k.bits)))) else none
  | .shr=>if 0≤b then some (.int k (a.fdiv (2^(min b.toNat k.bits)))) else none
  | _=>if k=k' then
   match op with
   | .add=>some (.int k (k.wrap (a+b)))
   | .sub=>some (.int k (k.wrap (a - b)))
   | .mul=>some (.int k (k.wrap (a*b)))
   | .quo=>if b=0 then none else some (.int k (k.wrap (a.tdiv b)))
   | .rem=>if b=0 then none else some (.int k (a.tmod b))
   | .and=>some (.int k (bits .and k a b))
   | .or=>some (.int k (bits .or k a b))
   | .xor=>some (.int k (bits .xor k a b))
   | .andNot=>some (.int k (bits .andNot k a b))
   | .eql=>some (.bool (decide (a=b)))
   | .neq=>some (.bool (!decide (a=b)))
   | .lss=>some (.bool (decide (a<b)))
   | .leq=>some (.bool (decide (a≤b)))
   | .gtr=>some (.bool (decide (b<a)))
   | .geq=>some (.bool (decide (b≤a)))
   | _=>none
   else none
 | .str a,.str b=>
  match op with
  | .add=>if a.length+b.length≤9223372036854775807 then some (.str (a++b)) else none
  | .eql=>some (.bool (decide (a=b)))
  | .neq=>some (.bool (!decide (a=b)))
  | .lss=>some (.bool (Op.bytesLess a b))
  | .leq=>some (.bool (Op.bytesLess a b||decide (a=b)))
  | .gtr=>some (.bool (!(Op.bytesLess a b||decide (a=b))))
  | .geq=>some (.bool (!Op.bytesLess a b))
  | _=>none
 | _, _=>none
mutual
inductive EqP where
 | int | str | bool | ptr | iface | func | map
 | strukt (fs:EqPs)
inductive EqPs where
 | nil
 | cons (off:Nat) (k:TK) (p:EqP) (r:EqPs)
end
def planFs (rec:TypeId→Option EqP) (P:Program):List Field→Option EqPs
 | []=>some .nil
 | f::fs=>if f.name = "_" then planFs rec P fs else
  match tk P f.type,rec f.type,planFs rec P fs with
  | some k,some p,some r=>some (.cons f.offset k p r)
  | _, _, _=>none
def eqPlan (P:Program):Nat→TypeId→Option EqP
 | 0, _=>none
 | d+1,t=>match P.underlying t with
  | some (.int _)=>some .int
  | some .string=>some .str
  | some .bool=>some .bool
  | some (.pointer _)=>some .ptr
  | some (.interface _)=>some .iface
  | some (.func _ _ _)=>some .func
  | some (.map _ _)=>some .map
  | some (.struct fs)=>if P.stoodInHeld t then none else (planFs (eqPlan P d) P fs.toList).map .strukt
  | _=>none
def isAddr:AV→Bool
 | .ptr _ _ | .eptr _ _=>true
 | _=>false
mutual
def aeqP:EqP→AV→AV→Option Bool
 | .int,.int k a,.int k' b=>if k=k' then some (decide (a=b)) else none
 | .str,.str a,.str b=>some (decide (a=b))
 | .bool,.bool a,.bool b=>some (a==b)
 | .ptr,.raw (.pointer none),.raw (.pointer none)=>some true
 | .ptr,.ptr _ _,.raw (.pointer none)=>some false
 | .ptr,.eptr _ _,.raw (.pointer none)=>some false
 | .ptr,.raw (.pointer none),.ptr _ _=>some false
 | .ptr,.raw (.pointer none),.eptr _ _=>some false
 | .iface,.iface _ _,.raw .nilIface=>some false
 | .iface,.raw .nilIface,.iface _ _=>some false
 | .func,.fn _ _ _,.raw .nilFunc=>some false
 | .func,.raw .nilFunc,.fn _ _ _=>some false
 | .func,.raw .nilFunc,.raw .nilFunc=>some true
 | .map,.map _,.raw (.map none)=>some false
 | .map,.raw (.map none),.raw (.map none)=>some true
 | .strukt fs,.agg xs,.agg ys=>aeqPs fs xs ys
 | _, _, _=>none
def aeqPs:EqPs→List AV→List AV→Option Bool
 | .nil, _, _=>some true
 | .cons off k p r,xs,ys=>match getCells xs off k,getCells ys off k with
  | some a,some b=>match aeqP p a b,aeqPs r xs ys with
   | some x,some y=>some (x&&y)
   | _, _=>none
  | _, _=>none
end
def eqTop (P:Program) (t:TypeId):Option EqP:=
 match eqPlan P 8 t with
 | some (.strukt fs)=>if P.eqGuardType P.depth t then none else some (.strukt fs)
 | r=>r
def isC:Operand→Bool
 | .const _=>true
 | _=>false
def aeqT (c:Bool):EqP→AV→AV→Option Bool
 | .iface,.raw .nilIface,.raw .nilIface=>if c then some true else none
 | p,x,y=>aeqP p x y
def aeqOp (P:Program) (op:BinOp) (t:TypeId) (c:Bool) (x y:AV):Option AV:=
 match eqTop P t with
 | some p=>match aeqT c p x y with
  | some q=>match op with
   | .eql=>some (.bool q)
   | .neq=>some (.bool (!q))
   | _=>none
  | none=>none
 | none=>none
def abinOpT (P:Program) (op:BinOp) (t:TypeId) (c:Bool) (x y:AV):Option AV:=
 match x with
 | .int k a=>abinOp op (.int k a) y
 | .str a=>abinOp op (.str a) y
 | x=>aeqOp P op t c x y
def aunOp (op:UnOp) (x:AV):Option AV:=
 match op,x with
 | .not,.bool b=>some (.bool (!b))
 | .neg,.int k n=>some (.int k (k.wrap (0 - n)))
 | .xor,.int k n=>some (.int k (bits .xor k (if k.signed then -1 else k.max) n))
 | _, _=>none
def isBytesT (P:Program) (t:TypeId):Bool:=match P.underlying t with
 | some (.slice e)=>match P.underlying e with
  | some (.int .u8)=>true
  | _=>false
 | _=>false
def abytes:List AV→Option (List UInt8)
 | []=>some []
 | .int .u8 n::r=>match abytes r with
  | some l=>some (UInt8.ofNat n.toNat::l)
  | none=>none
 | _=>none
def encS (r:Int):List UInt8:=(Utf8.encode r).data.toList
def aconvert (P:Program) (s d:TypeId) (x:AV):Option AV:=
 match x with
 | .int _ n=>match known P s with
  | true=>match intT P d with
   | some k=>some (.int k (k.wrap n))
   | none=>match isStrT P d with
    | true=>some (.str (encS n))
    | false=>none
  | false=>none
 | .str l=>match isStrT P s,isStrT P d with
  | true,true=>some (.str l)
  | _, _=>none
 | .slice l _=>match isBytesT P s,isStrT P d with
  | true,true=>match abytes l with
   | some bs=>some (.str bs)
   | none=>none
  | _, _=>none
 | _=>none
def okCells:AV→Bool
 | .undef | .tup _=>false
 | _=>true
def putAt {α:Type}:List α→Nat→List α→List α
 | c, _,[]=>c
 | c,off,x::xs=>putAt (c.set off x) (off+1) xs
def azero (P:Program) (t:TypeId):Option AV:=
 match P.info? t with
 | some i=>match i.zero with
  | some (.agg cs)=>if cs.all (·.oneCell') then some (.agg (cs.toList.map cst)) else none
  | some z=>if z.oneCell' then some (cst z) else none
  | none=>none
 | none=>none
def place (P:Program) (t:TypeId) (i:Nat):Option (Nat×Nat):=
 match P.underlying t with
 | some (.struct fs)=>match fs[i]? with
  | some f=>match P.info? f.type with
   | some j=>some (f.offset,j.size)
   | none=>none
  | none=>none
 | some (.array _ e)=>match P.info? e with
  | some j=>some (i*j.size,j.size)
  | none=>none
 | _=>none
def afill (pl:Nat→Option (Nat×Nat)) (c:List AV):List (Nat×AV)→Option (List AV)
 | []=>some c
 | (i,x)::r=>match pl i with
  | some (off,size)=>if okCells x∧x.cells.length=size∧off+size≤c.length then afill pl (putAt c off x.cells) r else none
  | none=>none
def structOk (P:Program) (t:TypeId):Bool:=
 match P.underlying t with
 | some (.struct fs)=>fs.all fun f=>(P.info? f.type).isSome
 | some (.array _ e)=>(P.info? e).isSome
 | _=>false
def abuild (P:Program) (t:TypeId) (parts:List (Nat×AV)):Option AV:=
 match azero P t with
 | some (.agg zs)=>if structOk P t then
  match afill (place P t) zs parts with
  | some c=>some (.agg c)
  | none=>none
  else none
 | _=>none
def litSz (P:Program) (t:TypeId):Option Nat:=
 match P.underlying t with
 | some (.slice e)=>match P.info? e,azero P e with
  | some j,some z=>if 0<j.size∧z.cells.length=j.size then some j.size else none
  | _, _=>none
 | _=>none
def abuildSlice (P:Program) (t:TypeId) (len:Nat) (parts:List (Nat×AV)):Option AV:=
 match litSz P t with
 | some sz=>if parts.map (·.1)=List.range len∧len*sz≤16777216∧(parts.all fun p=>okCells p.2&&p.2.cells.length==sz)=true then some (.slice (parts.map (·.2)) .full) else none
 | none=>none
def isSliceT (P:Program) (t:TypeId):Bool:=match P.underlying t with
 | some (.slice _)=>true
 | _=>false
def alen (P:Program) (t:TypeId) (x:AV):Option AV:=
 match x with
 | .str l=>if isStrT P t then some (.int .i64 l.length) else none
 | .slice l _=>if isSliceT P t then some (.int .i64 l.length) else none
 | .bsl _ _ _ _ len _=>if isSliceT P t then some (.int .i64 len) else none
 | _=>none
def aminmax (mn:Bool):List AV→Option AV
 | [.int k a,.int _ b]=>some (.int k (if mn then (if b<a then b else a) else (if a<b then b else a)))
 | _=>none
def astepP (P:Program) (fr:Nat→AV) (o:Oper):Option AV:=
 match o.op with
 | .move x=>some (ev fr x)
 | .assign x=>some (ev fr x)
 | .pick c a b=>match ev fr c with
  | .bool t=>some (apick t (ev fr a) (ev fr b))
  | _=>none
 | .nilCheck x=>anil (ev fr x)
 | .fieldAddr s x f=>match fldOff P s f with
  | some o=>match ev fr x with
   | .ptr k off=>some (.ptr k (off+o))
   | .eptr c off=>some (.eptr c (off+o))
   | .glob g off=>some (.glob g (off+o))
   | _=>none
  | none=>none
 | .field s x f=>match fldTK P s f with
  | some (o,k)=>match ev fr x with
   | .agg cs=>getCells cs o k
   | _=>none
  | none=>none
 | .indexAddr t x i=>aindexAddr P t (ev fr x) (ev fr i)
 | .index t x i=>aindex P t (ev fr x) (ev fr i)
 | .slice t x lo hi mx=>aslice P t (ev fr x) (lo.map (ev fr)) (hi.map (ev fr)) (mx.map (ev fr))
 | .binOp op t x y _=>abinOpT P op t (isC x||isC y) (ev fr x) (ev fr y)
 | .unOp op _ x=>aunOp op (ev fr x)
 | .convert s d x=>aconvert P s d (ev fr x)
 | .makeInterface t x=>if P.concrete t then some (.iface t (ev fr x)) else none
 | .makeFunc f first cap=>some (.fn f (first.toList.map (ev fr)) (cap.toList.map (ev fr)))
 | .extract x i=>match ev fr x with
  | .tup vs=>vs[i]?
  | _=>none
 | .build t parts=>abuild P t (parts.toList.map fun p=>(p.1,ev fr p.2))
 | .buildSlice t n parts=>abuildSlice P t n (parts.toList.map fun p=>(p.1,ev fr p.2))
 | .call { callee:=.builtin .len,args:=args,argTypes:=ts }=>match args.toList,ts.toList with
  | [x],[t]=>alen P t (ev fr x)
  | _, _=>none
 | .call { callee:=.builtin .min,args:=args,.. }=>aminmax true (args.toList.map (ev fr))
 | .call { callee:=.builtin .max,args:=args,.. }=>aminmax false (args.toList.map (ev fr))
 | _=>none
end Go.Ab
namespace Go.Ab
open Go.RowKit
theorem tk_one {P:Program} {t:TypeId} (h:tk P t=some .one):∃d i,P.underlying t=some d∧d.isRow=false∧P.info? t=some i∧i.size=1:=by
 unfold tk at h
 split at h
 ·
  rename_i d hd
  split at h
  ·
   rename_i i hi
   split at h
   · simp at h
   ·
    split at h
    · rename_i h1 h2;exact ⟨d,i,hd,by simpa using h1,hi,h2⟩
    · simp at h
  · simp at h
 · simp at h
theorem tk_agg {P:Program} {t:TypeId} {n:Nat} (h:tk P t=some (.agg n)):∃d i,P.underlying t=some d∧d.isRow=true∧P.info? t=some i∧i.size=n:=by
 unfold tk at h
 split at h
 ·
  rename_i d hd
  split at h
  ·
   rename_i i hi
   split at h
   · rename_i h1;simp at h;exact ⟨d,i,hd,h1,hi,h⟩
   · split at h<;>simp at h
  · simp at h
 · simp at h
theorem run_isAgg_of {P:Program} {t:TypeId} {d:TypeDesc} (h:P.underlying t=some d) (w:World):(isAgg t).run P w=.ok d.isRow w:=by
 unfold isAgg
 rw [Sem.run_bind,run_underlying h w]
 cases d<;>rfl
theorem getD_drop_take {α:Type} (l:List α) (o n i:Nat) (d:α) (hi:i<n):((l.drop o).take n).getD i d=l.getD (o+i) d:=by
 simp [List.getD_eq_getElem?_getD,List.getElem?_take,hi]
theorem getD_lt {α:Type} {l:List α} {i:Nat} (d e:α) (h:i<l.length):l.getD i d=l.getD i e:=by
 simp [List.getD_eq_getElem?_getD,h]
theorem get?_getD {α:Type} {l:List α} {i:Nat} {x:α} (d:α) (h:l[i]? = some x):i<l.length∧l.getD i d=x:=by
 refine ⟨(List.getElem?_eq_some_iff.1 h).1,by simp [List.getD_eq_getElem?_getD,h]⟩
theorem part_sound {P:Program} {w:World} {G:Gh} {t:TypeId} {k:TK} (hk:tk P t=some k) {cs:List AV} {vs:List Value} (hl:vs.length=cs.length)
 (hone:∀i,i<cs.length→(vs.getD i undef).oneCell'=true) (hrep:∀i,i<cs.length→Rep w G (cs.getD i .undef) (vs.getD i undef)) {off:Nat} {x:AV} (hx:getCells cs off k=some x) :
 ∃v,(part t vs.toArray off).run P w=.ok v w∧Rep w G x v:=by
 cases k with
 | one=>
  obtain ⟨d,i,hu,hd,hi,hs⟩:=tk_one hk
  obtain ⟨hlt,hge⟩:=get?_getD .undef hx
  refine ⟨vs.getD off undef,?_,by rw [←hge];exact hrep off hlt⟩
  have hv:vs.toArray[off]? = some (vs.getD off undef):=by
   simp [List.getD_eq_getElem?_getD,show off<vs.length by omega]
  simp only [part,Sem.run_bind,run_isAgg_of hu,hd,Result.andThen_ok,hv]
  rfl
 | agg n=>
  obtain ⟨d,i,hu,hd,hi,hs⟩:=tk_agg hk
  simp only [getCells] at hx
  split at hx
  ·
   rename_i hle
   simp at hx
   subst hx
   refine ⟨.agg ((vs.drop off).take n).toArray,?_,.agg _ _ ?_ (fun j hj=>?_) (fun j hj=>?_)⟩
   ·
    have hz:(sizeOf t).run P w=.ok n w:=by simp [sizeOf,typeInfo,hi,hs]
    simp only [part,Sem.run_bind,run_isAgg_of hu,hd,Result.andThen_ok,if_true,hz,Sem.run_pure]
    congr 2
    simp [List.extract_toArray,List.extract_eq_take_drop]
   · simp;omega
   ·
    simp at hj
    rw [getD_drop_take _ _ _ _ _ (by omega)]
    exact hone _ (by omega)
   ·
    simp at hj
    rw [getD_drop_take _ _ _ _ _ (by omega),getD_drop_take _ _ _ _ _ (by omega)]
    exact hrep _ (by omega)
  · simp at hx
def CellsAt (w:World) (G:Gh) (b o:Nat) (c:List AV):Prop:=
 ∃f:Nat→Value,∀i,i<c.length→w.cell? ⟨b,o+i,none⟩=some (f i)∧(f i).oneCell'=true∧Rep w G (c.getD i .undef) (f i)
theorem load_sound {P:Program} {w:World} {G:Gh} {t:TypeId} {k:TK} (hk:tk P t=some k) {b o off:Nat} {c:List AV} (hc:CellsAt w G b o c) {x:AV} (hx:getCells c off k=some x) :
 ∃v,(loadVar t ⟨b,o+off,none⟩).run P w=.ok v w∧Rep w G x v:=by
 obtain ⟨f,hf⟩:=hc
 cases k with
 | one=>
  obtain ⟨d,i,hu,hd,hi,hs⟩:=tk_one hk
  obtain ⟨hlt,hge⟩:=get?_getD .undef hx
  refine ⟨f off,?_,by rw [←hge];exact (hf off hlt).2.2⟩
  simp only [loadVar,Sem.run_bind,run_isAgg_of hu,hd,Result.andThen_ok]
  simp [(hf off hlt).1]
 | agg n=>
  obtain ⟨d,i,hu,hd,hi,hs⟩:=tk_agg hk
  simp only [getCells] at hx
  split at hx
  ·
   rename_i hle
   simp at hx
   subst hx
   let vs:List Value:=(List.range n).map fun j=>f (off+j)
   have hvl:vs.length=n:=by simp [vs]
   have hvs:∀j,j<n→vs.getD j undef=f (off+j):=fun j hj=>by simp [vs,List.getD_eq_getElem?_getD,hj]
   refine ⟨.agg vs.toArray,run_loadVar_mid w b (o+off) t vs d (fun j v hv=>?_) hu hd (by simp [hi,hs,hvl]),.agg _ _ ?_ (fun j hj=>?_) (fun j hj=>?_)⟩
   ·
    obtain ⟨h1,h2⟩:=get?_getD undef hv
    rw [hvl] at h1
    rw [hvs j h1] at h2
    have:=(hf (off+j) (by omega)).1
    rw [←h2,←this,Nat.add_assoc]
   · simp [hvl];omega
   ·
    simp at hj
    rw [hvs j (by omega)]
    exact (hf _ (by omega)).2.1
   ·
    simp at hj
    rw [hvs j (by omega),getD_drop_take _ _ _ _ _ (by omega)]
    exact (hf _ (by omega)).2.2
  · simp at hx
def Gives (P:Program) (w:World) (G:Gh) (s:Sem Next) (x:AV):Prop:=∃v,s.run P w=.ok (.value v) w∧Rep w G x v
theorem AOp.gives {P:Program} {fr:Nat→AV} {h:List Blk} {live:List Nat} {o:Oper} {x:AV}
 (hg:∀w G (ρ:Operand→Value),(∀y∈o.op.operands,Rep w G (ev fr y) (ρ y))→HRel w G h live→Gives P w G (execOp ρ o) x):AOp P fr h live o (ret x h live):=by
 intro w G ρ hρ hr hh
 obtain ⟨v,hv,hx⟩:=hg w G ρ hr hh
 rw [hv]
 exact ⟨x,h,live,G,⟨rfl,rfl,rfl⟩,hx,hh,Evo.refl _ _ _⟩
section each
variable {P:Program} {w:World} {G:Gh}
theorem beq_dec (a b:List UInt8):(a==b)=decide (a=b):=by rw [Bool.eq_iff_iff];simp
theorem binOp_sound {op:BinOp} {t:TypeId} {x y:Operand} {a b:AV} {u v:Value} (ha:Rep w G a u) (hb:Rep w G b v) {r:AV} (hr:abinOp op a b=some r) :
 ∃z,(do eqGuard op t x y u v;binOp op t u v:Sem Value).run P w=.ok z w∧Rep w G r z:=by
 unfold abinOp at hr
 split at hr
 ·
  rename_i k a k' b
  cases ha;cases hb
  simp only [eqGuard_at_int,pure_bind]
  split at hr
  ·
   split at hr
   ·
    rename_i hb0
    simp at hr;subst hr
    refine ⟨_,?_,.int _ _⟩
    simp [binOp,Op.shift,show ¬b<0 by omega]
   · simp at hr
  ·
   split at hr
   ·
    rename_i hb0
    simp at hr;subst hr
    refine ⟨_,?_,.int _ _⟩
    simp [binOp,Op.shift,show ¬b<0 by omega]
   · simp at hr
  ·
   split at hr
   ·
    rename_i hkk
    subst hkk
    split at hr<;>first
     | (simp at hr;subst hr;refine ⟨_,?_,.int _ _⟩;simp [binOp,Op.intArith];done)
     | (simp at hr;subst hr;refine ⟨_,?_,.int _ _⟩;simp [binOp,intBits_and,intBits_or,intBits_xor,intBits_andNot];done)
     | (simp at hr;subst hr;refine ⟨_,?_,.bool _⟩;simp [binOp,Op.intCmp];done)
     | (
      split at hr
      · simp at hr
      · rename_i hb0;simp at hr;subst hr;refine ⟨_,?_,.int _ _⟩;simp [binOp,Op.intDiv,hb0])
     | (simp at hr;done)
     | (simp at hr;subst hr;refine ⟨_,?_,.bool _⟩;simp [binOp,Op.intCmp];rfl)
     | skip
   · simp at hr
 ·
  rename_i a b
  cases ha;cases hb
  simp only [eqGuard_at_string,pure_bind]
  split at hr
  ·
   simp at hr
   obtain ⟨hle,rfl⟩:=hr
   refine ⟨_,?_,.str _⟩
   have hsz:¬((((⟨a.toArray⟩:ByteArray).size+(⟨b.toArray⟩:ByteArray).size:Nat):Int) > IntKind.i64.max):=by
    rw [IntKind.max_i64];simp [ByteArray.size];omega
   simp only [binOp,Op.stringOp,if_neg hsz]
   show Result.ok _ w=_
   congr 2
  all_goals first
   | (cases hr;refine ⟨_,?_,.bool _⟩;simp [binOp,Op.stringOp];done)
   | (cases hr;done)
   | (cases hr;refine ⟨_,?_,.bool _⟩;simp [binOp,Op.stringOp,beq_dec];done)
 · simp at hr
theorem unOp_sound {op:UnOp} {a:AV} {u:Value} (ha:Rep w G a u) {r:AV} (hr:aunOp op a=some r):∃z,(Op.unary op u).run P w=.ok z w∧Rep w G r z:=by
 unfold aunOp at hr
 split at hr
 · cases ha;cases hr;exact ⟨_,rfl,.bool _⟩
 · cases ha;cases hr;exact ⟨_,rfl,.int _ _⟩
 · cases ha;cases hr;exact ⟨_,rfl,.int _ _⟩
 · simp at hr
theorem isBytesT_sound {t:TypeId} (hs:isBytesT P t=true):∃e,P.underlying t=some (.slice e)∧P.underlying e=some (.int .u8):=by
 unfold isBytesT at hs
 split at hs
 ·
  rename_i e he
  split at hs
  · rename_i he2;exact ⟨e,he,he2⟩
  · simp at hs
 · simp at hs
theorem abytes_sound:∀ {l:List AV} {bs:List UInt8},abytes l=some bs→∃ns:List Int,l=ns.map (AV.int .u8)∧bs=ns.map fun n=>UInt8.ofNat n.toNat
 | [],bs,h=>by cases h;exact ⟨[],rfl,rfl⟩
 | x::r,bs,h=>by
  unfold abytes at h
  split at h
  · rename_i e;cases e
  ·
   rename_i n r' e
   cases e
   split at h
   ·
    rename_i l hl
    cases h
    obtain ⟨ns,rfl,rfl⟩:=abytes_sound hl
    exact ⟨n::ns,rfl,rfl⟩
   · simp at h
  · simp at h
theorem foldl_push_ints:∀(l:List Int) (r:ByteArray),l.foldl (fun r n=>r.push (UInt8.ofNat n.toNat)) r=⟨r.data++(l.map fun n=>UInt8.ofNat n.toNat).toArray⟩
 | [],r=>by simp
 | b::l,r=>by
  simp only [List.map_cons,List.foldl_cons]
  rw [foldl_push_ints l]
  simp [ByteArray.push]
theorem bytesStr_sound {s d:TypeId} (hs:isBytesT P s=true) (hd:isStrT P d=true) {l:List AV} {bs:List UInt8} (hb:abytes l=some bs) {c:Cap} {u:Value} (ha:Rep w G (.slice l c) u) :
 (convert s d u).run P w=.ok (.string ⟨bs.toArray⟩) w:=by
 obtain ⟨e,he,he2⟩:=isBytesT_sound hs
 have hst:=isStrT_sound hd
 obtain ⟨ns,hl,rfl⟩:=abytes_sound hb
 have key:∀(a:Addr) (cap:Nat),(∀j v,(ns.map (Value.int .u8))[j]? = some v→w.cell? (a.add j)=some v)→(convert s d (.slice (some a) ns.length cap)).run P w=.ok (.string ⟨(ns.map fun n=>UInt8.ofNat n.toNat).toArray⟩) w:=by
  intro a cap hc
  have h1:=run_loadCells_list (P:=P) w a (ns.map (Value.int .u8)) hc
  simp only [List.length_map] at h1
  rw [run_convert_bytes_string w s d e (some a) ns.length cap he he2 hst,run_bytesToString w a ns.length cap ns h1,foldl_push_ints]
  have he0:ByteArray.empty.data = #[]:=rfl
  rw [he0]
  simp
 have hlen:l.length=ns.length:=by rw [hl];simp
 cases ha with
 | nilSlice=>
  have:ns=[]:=List.eq_nil_of_length_eq_zero (by simpa using hlen.symm)
  subst this
  simp [convert,run_underlying he,run_underlying he2,run_underlying hst,Conv.bytesToString];rfl
 | emptySlice a=>
  have:ns=[]:=List.eq_nil_of_length_eq_zero (by simpa using hlen.symm)
  subst this
  exact key a 0 (fun j v hj=>by simp at hj)
 | slice _ _ b o cap sz f hcap hmax hsz himm hcell hone hrep hc=>
  rw [hlen]
  refine key ⟨b,o,none⟩ cap (fun j v hj=>?_)
  have hj':j<ns.length:=by have:=(List.getElem?_eq_some_iff.1 hj).1;simpa using this
  have hg:l.getD j .undef=.int .u8 (ns.getD j 0):=by rw [hl];simp [List.getD_eq_getElem?_getD,hj']
  have hjl:j<l.length:=by omega
  have e1:sz=1:=by rw [←hsz j hjl,hg];rfl
  subst e1
  have h1:=hcell j 0 hjl (by omega)
  have h2:=hrep j 0 hjl (by omega)
  rw [hg] at h2
  simp only [AV.cells,List.getD_cons_zero] at h2
  generalize f j 0=x at h1 h2
  cases h2
  simp only [Nat.mul_one,Nat.add_zero] at h1
  rw [Addr.add_lit,h1]
  simp [hj'] at hj
  rw [←hj]
  simp [List.getD_eq_getElem?_getD,hj']
theorem convert_sound {s d:TypeId} {a:AV} {u:Value} (ha:Rep w G a u) {r:AV} (hr:aconvert P s d a=some r):∃z,(convert s d u).run P w=.ok z w∧Rep w G r z:=by
 unfold aconvert at hr
 split at hr
 ·
  cases ha
  split at hr
  ·
   rename_i hk
   obtain ⟨ds,hs⟩:=Option.isSome_iff_exists.1 (show (P.underlying s).isSome=true from hk)
   split at hr
   ·
    rename_i k hd
    cases hr
    refine ⟨_,?_,.int _ _⟩
    simp [convert,run_underlying hs,run_underlying (intT_sound hd),Conv.intToInt]
   ·
    split at hr
    ·
     rename_i hd
     cases hr
     exact ⟨_,run_convert_int_string w s d _ _ hk (isStrT_sound hd),.str _⟩
    · simp at hr
  · simp at hr
 ·
  cases ha
  split at hr
  ·
   rename_i hs hd
   cases hr
   refine ⟨_,?_,.str _⟩
   simp [convert,run_underlying (isStrT_sound hs),run_underlying (isStrT_sound hd)]
  · simp at hr
 ·
  split at hr
  ·
   rename_i hs hd
   split at hr
   ·
    rename_i bs hb
    cases hr
    exact ⟨_,bytesStr_sound hs hd hb ha,.str _⟩
   · simp at hr
  · simp at hr
 · simp at hr
theorem nil_sound {a:AV} {u:Value} (ha:Rep w G a u) {r:AV} (hr:anil a=some r):r=a∧((∃b,u=.pointer (some b))∨∃f x y,u=.func (.func f) x y):=by
 unfold anil at hr
 split at hr<;>simp at hr
 · subst hr;cases ha;exact ⟨rfl,.inl ⟨_,rfl⟩⟩
 · subst hr;cases ha;exact ⟨rfl,.inl ⟨_,rfl⟩⟩
 · subst hr;cases ha;exact ⟨rfl,.inl ⟨_,rfl⟩⟩
 · subst hr;cases ha;exact ⟨rfl,.inr ⟨_, _, _,rfl⟩⟩
theorem pick_sound {b:Bool} {x y:AV} {u v:Value} (hx:Rep w G x u) (hy:Rep w G y v):Rep w G (apick b x y) (if b then u else v):=by
 unfold apick
 split
 · cases hx;cases hy;cases b<;>exact .bool _
 ·
  cases b
  · exact hy
  · exact hx
theorem fldOff_sound {s:TypeId} {i o:Nat} (h:fldOff P s i=some o):∃fs f,P.underlying s=some (.struct fs)∧fs[i]? = some f∧f.offset=o∧∀a:Addr,(fieldPlace a f).run P w=.ok (a.add o) w:=by
 unfold fldOff at h
 split at h
 ·
  rename_i fs hs
  split at h
  ·
   rename_i f hf
   split at h
   ·
    rename_i j hj
    split at h
    · simp at h
    ·
     rename_i hz
     simp at h
     refine ⟨fs,f,hs,hf,h,fun a=>?_⟩
     simp [fieldPlace,sizeOf,typeInfo,hj,hz,h]
   · simp at h
  · simp at h
 · simp at h
theorem fieldAt_sound {s:TypeId} {i o:Nat} (h:fldOff P s i=some o) (b off:Nat):(Instr.fieldAt s (.pointer (some ⟨b,off,none⟩)) i).run P w=.ok (.pointer (some ⟨b,off+o,none⟩)) w:=by
 obtain ⟨fs,f,hs,hf,ho,hp⟩:=fldOff_sound (w:=w) h
 simp [Instr.fieldAt,run_underlying hs,hf,Instr.sureAddr,hp,Addr.add_lit]
theorem fldTK_sound {s:TypeId} {i o:Nat} {k:TK} (h:fldTK P s i=some (o,k)):∃fs f,P.underlying s=some (.struct fs)∧fs[i]? = some f∧f.offset=o∧tk P f.type=some k:=by
 unfold fldTK at h
 split at h
 ·
  rename_i fs hs
  split at h
  ·
   rename_i f hf
   split at h
   ·
    rename_i j hj
    simp at h
    exact ⟨fs,f,hs,hf,h.1,by rw [hj,h.2]⟩
   · simp at h
  · simp at h
 · simp at h
theorem field_sound {s:TypeId} {i o:Nat} {k:TK} (h:fldTK P s i=some (o,k)) {cs:List AV} {u:Value} (ha:Rep w G (.agg cs) u) {r:AV} (hr:getCells cs o k=some r) :
 ∃z,(Instr.field s u i).run P w=.ok z w∧Rep w G r z:=by
 obtain ⟨fs,f,hs,hf,ho,hk⟩:=fldTK_sound h
 cases ha
 rename_i vs hl hone hrep
 obtain ⟨v,hv,hx⟩:=part_sound (P:=P) hk hl hone hrep hr
 refine ⟨v,?_,hx⟩
 subst ho
 simp [Instr.field,run_underlying hs,hf,asAgg,hv]
theorem indexAddr_sound {t:TypeId} {a i:AV} {u v:Value} (ha:Rep w G a u) (hi:Rep w G i v) {r:AV} (hr:aindexAddr P t a i=some r):∃z,(Instr.indexAt t u v).run P w=.ok z w∧Rep w G r z:=by
 unfold aindexAddr at hr
 split at hr
 ·
  rename_i k n
  cases hi
  split at hr
  ·
   rename_i l c
   split at hr
   ·
    rename_i sz0 hsz0
    obtain ⟨e,j,he,hj,hjs⟩:=sliceSz_sound hsz0
    subst hjs
    split at hr
    ·
     rename_i hc
     obtain ⟨h0,hlt,hsz⟩:=hc
     cases hr
     have hlt':n.toNat<l.length:=by omega
     cases ha with
     | nilSlice c h=>simp at hlt;omega
     | emptySlice a c h=>simp at hlt;omega
     | slice _ _ b o cap sz f hcap hmax hs himm hcell hone hrep hcc=>
      have hszj:sz=j.size:=by rw [←hs n.toNat hlt'];exact hsz
      subst hszj
      refine ⟨.pointer (some ⟨b,o+n.toNat*j.size,none⟩),?_,?_⟩
      · simp [Instr.indexAt,asIntOf,run_underlying he,h0,hlt,sizeOf,typeInfo,hj,Addr.add_lit]
      ·
       have:=Rep.eptr (w:=w) (G:=G) (l.getD n.toNat .undef).cells 0 b (o+n.toNat*j.size) (fun q=>f n.toNat q)
        (fun q hq=>by rw [Nat.add_assoc];exact himm _ _ hlt' (by rw [←hsz];exact hq))
        (fun q hq=>by rw [Nat.add_assoc];exact hcell _ _ hlt' (by rw [←hsz];exact hq))
        (fun q hq=>hone _ _ hlt' (by rw [←hsz];exact hq))
        (fun q hq=>hrep _ _ hlt' (by rw [←hsz];exact hq))
       simpa using this
    · simp at hr
   · simp at hr
  ·
   rename_i q off
   split at hr
   ·
    rename_i len sz0 hsz0
    obtain ⟨e,j,he,hj,hjs⟩:=arrSz_sound hsz0
    subst hjs
    split at hr
    ·
     rename_i hc
     cases hr
     cases ha
     rename_i hq
     refine ⟨_,?_,.ptr _ _ hq⟩
     simp [Instr.indexAt,asIntOf,run_underlying he,hc.1,hc.2,sizeOf,typeInfo,hj,Addr.add_lit,Instr.sureAddr]
    · simp at hr
   · simp at hr
  ·
   rename_i q off sz ag len cap
   split at hr
   ·
    rename_i s hs
    obtain ⟨e,j,he,hj,hjs⟩:=sliceSz_sound hs
    subst hjs
    split at hr
    ·
     rename_i hc
     obtain ⟨h1,h2,h3⟩:=hc
     subst h1
     cases hr
     cases ha
     rename_i hq hl hm
     refine ⟨.pointer (some ⟨G.blk q,off+n.toNat*j.size,none⟩),?_,.ptr _ _ hq⟩
     simp [Instr.indexAt,asIntOf,run_underlying he,h2,h3,sizeOf,typeInfo,hj,Addr.add_lit]
    · simp at hr
   · simp at hr
  ·
   rename_i q off
   split at hr
   ·
    rename_i len sz0 hsz0
    obtain ⟨e,j,he,hj,hjs⟩:=arrSz_sound hsz0
    subst hjs
    split at hr
    ·
     rename_i hc
     cases hr
     cases ha
     refine ⟨_,?_,.glob _ _⟩
     simp [Instr.indexAt,asIntOf,run_underlying he,hc.1,hc.2,sizeOf,typeInfo,hj,Addr.add_lit,Instr.sureAddr]
    · simp at hr
   · simp at hr
  · simp at hr
 · simp at hr
theorem index_sound {t:TypeId} {a i:AV} {u v:Value} (ha:Rep w G a u) (hi:Rep w G i v) {r:AV} (hr:aindex P t a i=some r):∃z,(Instr.index t u v).run P w=.ok z w∧Rep w G r z:=by
 unfold aindex at hr
 split at hr
 ·
  rename_i k n
  cases hi
  split at hr
  ·
   rename_i l
   split at hr
   ·
    rename_i hst
    have he:=isStrT_sound hst
    split at hr
    ·
     rename_i hc
     cases hr
     cases ha
     refine ⟨_,?_,.int _ _⟩
     have hlt:n.toNat<l.length:=by omega
     rw [run_index_string (P:=P) w t _ k n he]
     rw [dif_pos (by simp [ByteArray.size];omega)]
     congr 2
     simp [List.getD_eq_getElem?_getD,hlt,ByteArray.getElem_eq_getElem_data]
    · simp at hr
   · simp at hr
  ·
   rename_i cs
   split at hr
   ·
    rename_i len sz0 kk hsz0 hk0
    obtain ⟨e,j,he,hj,hjs⟩:=arrSz_sound hsz0
    subst hjs
    have hk:tk P e=some kk:=by unfold arrTK at hk0;rw [he] at hk0;exact hk0
    split at hr
    ·
     rename_i hc
     cases ha
     rename_i vs hl hone hrep
     obtain ⟨z,hz,hx⟩:=part_sound (P:=P) hk hl hone hrep hr
     refine ⟨z,?_,hx⟩
     simp [Instr.index,asIntOf,run_underlying he,hc.1,hc.2,sizeOf,typeInfo,hj,hz]
    · simp at hr
   · simp at hr
  · simp at hr
 · simp at hr
theorem len_sound {t ty:TypeId} {a:AV} {u:Value} (ha:Rep w G a u) {r:AV} (hr:alen P t a=some r):∃z,(Builtin.len_ #[t] ty #[u]).run P w=.ok z w∧Rep w G r z:=by
 unfold alen at hr
 split at hr
 ·
  split at hr
  ·
   rename_i hs
   cases hr
   cases ha
   refine ⟨_,?_,.int _ _⟩
   rw [run_len_string w t ty _ (isStrT_sound hs)]
   simp [goInt,ByteArray.size]
  · simp at hr
 ·
  split at hr
  ·
   rename_i hs
   cases hr
   unfold isSliceT at hs
   split at hs
   ·
    rename_i e he
    cases ha
    · exact ⟨_,by simp [Builtin.len_,run_underlying he,goInt],.int _ _⟩
    · exact ⟨_,by simp [Builtin.len_,run_underlying he,goInt],.int _ _⟩
    · exact ⟨_,by simp [Builtin.len_,run_underlying he,goInt],.int _ _⟩
   · simp at hs
  · simp at hr
 ·
  split at hr
  ·
   rename_i hs
   cases hr
   unfold isSliceT at hs
   split at hs
   ·
    rename_i e he
    cases ha
    exact ⟨_,by simp [Builtin.len_,run_underlying he,goInt],.int _ _⟩
   · simp at hs
  · simp at hr
 · simp at hr
theorem abound_sound {lo:Option AV} {lv:Option Value} (h:match lo,lv with | some a,some u=>Rep w G a u | none,none=>True | _, _=>False) {d a:Int} (ha:abound d lo=some a) :
 (lo=none∧lv=none∧a=d)∨∃k,lv=some (.int k a)∧lo.isSome=true:=by
 cases lo with
 | none=>
  cases lv with
  | none=>simp [abound] at ha;exact .inl ⟨rfl,rfl,ha.symm⟩
  | some u=>exact h.elim
 | some x=>
  cases lv with
  | none=>exact h.elim
  | some u=>
   unfold abound at ha
   cases x<;>simp at ha
   rename_i k n
   subst ha
   cases (h:Rep w G _ u)
   exact .inr ⟨_,rfl,rfl⟩
theorem bounds_none {isSlice:Bool} {len cap:Nat} {lv hv:Option Value} {a b:Int}
 (hl:(lv=none∧a=0)∨∃k,lv=some (.int k a)) (hh:(hv=none∧b=len)∨∃k,hv=some (.int k b)) (h0:0≤a) (h1:a≤b) (h2:b≤cap) :
 (Instr.sliceBounds isSlice len cap lv hv none).run P w=.ok (a.toNat,b.toNat,cap) w:=by
 have e1:(b.toNat:Int)=b:=Int.toNat_of_nonneg (by omega)
 rcases hl with ⟨rfl,rfl⟩ | ⟨k,rfl⟩<;>rcases hh with ⟨rfl,rfl⟩ | ⟨k',rfl⟩
 · simp [Instr.sliceBounds]
 · simp [Instr.sliceBounds,run_sliceBound w k' b cap _ (by omega) h2]
 · simp [Instr.sliceBounds,run_sliceBound w k a len _ h0 h1]
 · simp [Instr.sliceBounds,run_sliceBound w k' b cap _ (by omega) h2,run_sliceBound w k a b.toNat _ h0 (by omega)]
theorem bounds_max {len cap:Nat} {lv:Option Value} {a b:Int} {k' k2:IntKind}
 (hl:(lv=none∧a=0)∨∃k,lv=some (.int k a)) (h0:0≤a) (h1:a≤b) (h2:b≤cap) :
 (Instr.sliceBounds true len cap lv (some (.int k' b)) (some (.int k2 b))).run P w=.ok (a.toNat,b.toNat,b.toNat) w:=by
 rcases hl with ⟨rfl,rfl⟩ | ⟨k,rfl⟩
 · simp [Instr.sliceBounds,run_sliceBound w k2 b cap _ (by omega) h2,run_sliceBound w k' b b.toNat _ (by omega) (by omega)]
 · simp [Instr.sliceBounds,run_sliceBound w k2 b cap _ (by omega) h2,run_sliceBound w k' b b.toNat _ (by omega) (by omega),run_sliceBound w k a b.toNat _ h0 (by omega)]
theorem sub_sound {l:List AV} {c c':Cap} {base:Option Addr} {n cap:Nat} (h:Rep w G (.slice l c) (.slice base n cap)) {a b m size:Nat} (hab:a≤b) (hb:b≤l.length) (hbm:b≤m) (hm:m≤cap)
 (hs:∀i,i<l.length→(l.getD i .undef).cells.length=size)
 (hc:c'=.none∨(c'=.full∧m=b)∨(c=.full∧c'=.full∧b=l.length∧m=cap)∨(c'=c∧a=0∧b=l.length∧m=cap)) :
 Rep w G (.slice ((l.drop a).take (b - a)) c') (.slice (if m=a then base else base.map (·.add (a*size))) (b - a) (m - a)):=by
 have hlen:((l.drop a).take (b - a)).length=b - a:=by simp;omega
 cases h with
 | nilSlice _ hown=>
  simp at hb
  have:a=0:=by omega
  have:m=0:=by omega
  subst b;subst a;subst m
  simp only [List.drop_nil,List.take_nil,Nat.sub_self,if_true]
  refine .nilSlice _ ?_
  rcases hc with rfl | ⟨rfl, _⟩ | ⟨_,rfl, _⟩ | ⟨rfl, _⟩<;>first | rfl | exact hown
 | emptySlice a0 _ hown=>
  simp at hb
  have:a=0:=by omega
  have:m=0:=by omega
  subst b;subst a;subst m
  simp only [List.drop_nil,List.take_nil,Nat.sub_self,if_true]
  refine .emptySlice _ _ ?_
  rcases hc with rfl | ⟨rfl, _⟩ | ⟨_,rfl, _⟩ | ⟨rfl, _⟩<;>first | rfl | exact hown
 | slice _ _ b0 o _ sz f hcap hmax hsz himm hcell hone hrep hcc=>
  have hbase:(if m=a then (some ⟨b0,o,none⟩:Option Addr) else (some (⟨b0,o,none⟩:Addr)).map (·.add (a*size)))=some ⟨b0,if m=a then o else o+a*size,none⟩:=by
   by_cases hma:m=a
   · simp [hma]
   · simp [hma,Addr.add_lit]
  rw [hbase]
  have key:Rep w G (.slice ((l.drop a).take (b - a)) c') (.slice (some ⟨b0,if m=a then o else o+a*size,none⟩) ((l.drop a).take (b - a)).length (m - a)):=by
   have hl0:∀i,i<((l.drop a).take (b - a)).length→a+i<l.length∧i<b - a∧size=sz∧m≠a:=fun i hi=>by
    rw [hlen] at hi
    exact ⟨by omega,hi,by rw [←hs (a+i) (by omega),hsz (a+i) (by omega)],by omega⟩
   have hg:∀i,i<((l.drop a).take (b - a)).length→((l.drop a).take (b - a)).getD i .undef=l.getD (a+i) .undef:=fun i hi=>getD_drop_take _ _ _ _ _ (hl0 i hi).2.1
   have hadd:∀i j,i<((l.drop a).take (b - a)).length→(if m=a then o else o+a*size)+(i*sz+j)=o+((a+i)*sz+j):=fun i j hi=>by
    rw [if_neg (hl0 i hi).2.2.2,(hl0 i hi).2.2.1,Nat.add_mul];omega
   refine .slice _ _ b0 _ _ sz (fun i j=>f (a+i) j) (by rw [hlen];omega) (by omega) (fun i hi=>?_) (fun i j hi hj=>?_) (fun i j hi hj=>?_) (fun i j hi hj=>hone _ _ (hl0 i hi).1 hj) (fun i j hi hj=>?_) ?_
   · rw [hg i hi];exact hsz _ (hl0 i hi).1
   · rw [hadd i j hi];exact himm _ _ (hl0 i hi).1 hj
   · rw [hadd i j hi];exact hcell _ _ (hl0 i hi).1 hj
   · rw [hg i hi];exact hrep _ _ (hl0 i hi).1 hj
   ·
    rw [hlen]
    rcases hc with rfl | ⟨rfl,h1⟩ | ⟨rfl,rfl,h1,h2⟩ | ⟨rfl,h1,h2,h3⟩
    · trivial
    · show m - a=b - a;omega
    · simp only [CapRep] at hcc ⊢;omega
    ·
     subst h1;subst h2;subst h3
     cases c' with
     | none=>trivial
     | full=>simp only [CapRep] at hcc ⊢;omega
     | own t=>
      obtain ⟨h1,h0,e,h2⟩:=hcc
      refine ⟨by subst h1;simp,by omega,e,?_⟩
      simpa using h2
  rw [hlen] at key
  exact key
def optRep (w:World) (G:Gh):Option AV→Option Value→Prop
 | some a,some u=>Rep w G a u
 | none,none=>True
 | _, _=>False
theorem slice_sound {t:TypeId} {x:AV} {lo hi mx:Option AV} {u:Value} {lv hv mv:Option Value} (hx:Rep w G x u) (hlo:optRep w G lo lv) (hhi:optRep w G hi hv) (hmx:optRep w G mx mv)
 {r:AV} (hr:aslice P t x lo hi mx=some r):∃z,(Instr.sliceAt t u lv hv mv).run P w=.ok z w∧Rep w G r z:=by
 have bl:∀ {d a:Int},abound d lo=some a→((lv=none∧a=d)∨∃k,lv=some (.int k a)):=fun {d a} h=>by
  rcases abound_sound (by unfold optRep at hlo;exact hlo) h with ⟨_,h1,h2⟩ | ⟨k,h1, _⟩
  · exact .inl ⟨h1,h2⟩
  · exact .inr ⟨k,h1⟩
 have bh:∀ {d a:Int},abound d hi=some a→((hv=none∧a=d∧hi=none)∨∃k,hv=some (.int k a)∧hi.isSome=true):=fun {d a} h=>by
  rcases abound_sound (by unfold optRep at hhi;exact hhi) h with ⟨h0,h1,h2⟩ | ⟨k,h1,h2⟩
  · exact .inl ⟨h1,h2,h0⟩
  · exact .inr ⟨k,h1,h2⟩
 unfold aslice at hr
 split at hr
 ·
  rename_i l
  split at hr
  ·
   rename_i hst
   have hs:=isStrT_sound hst
   split at hr
   ·
    rename_i a b ha hb
    split at hr
    ·
     rename_i hc
     obtain ⟨h0,h1,h2⟩:=hc
     cases hr
     cases hx
     cases mv with
     | some _=>exact hmx.elim
     | none=>
      refine ⟨_,?_,.str _⟩
      have hsize:(⟨l.toArray⟩:ByteArray).size=l.length:=by simp [ByteArray.size]
      have hB:=bounds_none (P:=P) (w:=w) (isSlice:=false) (len:=l.length) (cap:=l.length) (bl ha) ((bh hb).imp (fun h=>⟨h.1,h.2.1⟩) (fun ⟨k,h, _⟩=>⟨k,h⟩)) h0 h1 h2
      rw [run_sliceAt_string (P:=P) w t _ _ _ _ hs]
      simp only [Instr.slice,Sem.run_bind,run_underlying hs,Result.andThen_ok,Option.isSome_none,Bool.false_eq_true,if_false,hsize,hB,Sem.run_pure]
      congr 2
      apply ByteArray.ext
      simp [List.extract_eq_take_drop]
    · simp at hr
   · simp at hr
  · simp at hr
 ·
  rename_i l c
  split at hr
  ·
   rename_i sz0 hsz0
   obtain ⟨e,j,he,hj,hjs⟩:=sliceSz_sound hsz0
   subst hjs
   have hsz:(sizeOf e).run P w=.ok j.size w:=by simp [sizeOf,typeInfo,hj]
   obtain ⟨base,n,cap,rfl,hn,hcap⟩:∃base n cap,u=.slice base n cap∧n=l.length∧n≤cap:=by
    cases hx with
    | nilSlice _ _=>exact ⟨none,0,0,rfl,rfl,Nat.le_refl _⟩
    | emptySlice _ _ _=>exact ⟨_,0,0,rfl,rfl,Nat.le_refl _⟩
    | slice _ _ b0 o cap sz f hcap hmax hsz himm hcell hone hrep hcc=>exact ⟨_, _, _,rfl,rfl,hcap⟩
   subst hn
   have hat:(Instr.sliceAt t (.slice base l.length cap) lv hv mv).run P w=(Instr.slice t (.slice base l.length cap) lv hv mv).run P w:=by simp [Instr.sliceAt,run_underlying he]
   rw [hat]
   split at hr
   ·
    split at hr
    ·
     rename_i a b ha hb
     split at hr
     ·
      rename_i hc
      obtain ⟨h0,h1,h2,h3⟩:=hc
      cases hr
      cases mv with
      | some _=>exact hmx.elim
      | none=>
       have hB:=bounds_none (P:=P) (w:=w) (isSlice:=true) (len:=l.length) (cap:=cap) (bl ha) ((bh hb).imp (fun h=>⟨h.1,h.2.1⟩) (fun ⟨k,h, _⟩=>⟨k,h⟩)) h0 h1 (by omega)
       refine ⟨.slice (if cap=a.toNat then base else base.map (·.add (a.toNat*j.size))) (b.toNat - a.toNat) (cap - a.toNat),?_,sub_sound hx (by omega) (by omega) (by omega) (Nat.le_refl _) h3 ?_⟩
       · simp only [Instr.slice,Sem.run_bind,run_underlying he,Result.andThen_ok,hB,hsz,Sem.run_pure]
       ·
        rcases bh hb with ⟨hh1,hh2,hh3⟩ | ⟨k,hh1,hh2⟩
        ·
         subst hh3
         cases c with
         | none=>exact .inl rfl
         | full=>exact .inr (.inr (.inl ⟨rfl,rfl,by omega,rfl⟩))
         | own t=>
          cases lo with
          | none=>
           simp [abound] at ha
           exact .inr (.inr (.inr ⟨rfl,by omega,by omega,rfl⟩))
          | some _=>exact .inl rfl
        · cases c<;>simp [capOf,hh2]
     · simp at hr
    · simp at hr
   ·
    rename_i k m
    split at hr
    ·
     rename_i a b ha hb
     split at hr
     ·
      rename_i hc
      obtain ⟨h0,h1,h2,h3,h4,h5⟩:=hc
      cases hr
      subst h2
      rcases bh hb with ⟨hh1,hh2,hh3⟩ | ⟨k',hh1,hh2⟩
      · rw [hh3] at h4;simp at h4
      ·
       cases mv with
       | none=>exact hmx.elim
       | some q=>
        cases (show Rep w G (.int k b) q from hmx)
        subst hh1
        have hB:=bounds_max (P:=P) (w:=w) (len:=l.length) (cap:=cap) (k':=k') (k2:=k) (bl ha) h0 h1 (by omega)
        refine ⟨.slice (if b.toNat=a.toNat then base else base.map (·.add (a.toNat*j.size))) (b.toNat - a.toNat) (b.toNat - a.toNat),?_,sub_sound hx (by omega) (by omega) (Nat.le_refl _) (by omega) h5 (.inr (.inl ⟨rfl,rfl⟩))⟩
        simp only [Instr.slice,Sem.run_bind,run_underlying he,Result.andThen_ok,hB,hsz,Sem.run_pure]
     · simp at hr
    · simp at hr
   · simp at hr
  · simp at hr
 ·
  rename_i k off sz' ag ln cap
  split at hr
  ·
   rename_i sz kl a hsz0
   split at hr
   ·
    rename_i hc
    obtain ⟨rfl,h0,h1,h2⟩:=hc
    cases hr
    obtain ⟨e,j,he,hj,hjs⟩:=sliceSz_sound hsz0
    subst hjs
    have hsz:(sizeOf e).run P w=.ok j.size w:=by simp [sizeOf,typeInfo,hj]
    cases hx
    rename_i hkn hlc hmm
    cases lv with
    | none=>exact hlo.elim
    | some v=>
     cases (show Rep w G (.int kl a) v from hlo)
     cases hv with
     | some _=>exact hhi.elim
     | none=>
      cases mv with
      | some _=>exact hmx.elim
      | none=>
       have hB:=bounds_none (P:=P) (w:=w) (isSlice:=true) (len:=ln) (cap:=cap) (lv:=some (.int kl a)) (hv:=none) (a:=a) (b:=(ln:Nat)) (.inr ⟨kl,rfl⟩) (.inl ⟨rfl,rfl⟩) h0 h1 (by omega)
       have hat:(Instr.sliceAt t (.slice (some ⟨G.blk k,off,none⟩) ln cap) (some (.int kl a)) none none).run P w=(Instr.slice t (.slice (some ⟨G.blk k,off,none⟩) ln cap) (some (.int kl a)) none none).run P w:=by simp [Instr.sliceAt,run_underlying he]
       refine ⟨.slice (some ⟨G.blk k,off+a.toNat*j.size,none⟩) (ln - a.toNat) (cap - a.toNat),?_,.bsl _ _ _ _ _ _ hkn (by omega) (by omega)⟩
       rw [hat]
       simp only [Instr.slice,Sem.run_bind,run_underlying he,Result.andThen_ok,hB,hsz,Sem.run_pure,Int.toNat_natCast]
       rw [if_neg (by omega)];simp [Addr.add_lit]
   · simp at hr
  · simp at hr
 · simp at hr
end each
end Go.Ab
namespace Go.Ab
open Go.RowKit
theorem eqGuard_not {P:Program} {w:World} {op:BinOp} (ho:op≠.eql) (ho':op≠.neq) (t:TypeId) (x y:Operand) (u v:Value):(eqGuard op t x y u v).run P w=.ok () w:=by
 cases op<;>first | rfl | exact absurd rfl ho | exact absurd rfl ho'
theorem aeqP_sound {P:Program} {w:World} {G:Gh}:∀(d:Nat) (t:TypeId) (p:EqP),eqPlan P d t=some p→∀(D:Nat),d≤D→∀(x y:AV) (u v:Value) (b:Bool),Rep w G x u→Rep w G y v→aeqP p x y=some b →
 (Op.equalIn D t u v).run P w=.ok b w:=by
 intro d
 induction d with
 | zero=>intro t p h;simp [eqPlan] at h
 | succ d ih=>
  intro t p hp D hD x y u v b hx hy hb
  obtain ⟨D,rfl⟩:∃D',D=D'+1:=⟨D - 1,by omega⟩
  have hD':d≤D:=by omega
  unfold eqPlan at hp
  split at hp
  ·
   rename_i k hu
   cases hp
   cases x<;>cases y<;>simp only [aeqP] at hb<;>first
    | (simp at hb;done)
    | (
     split at hb
     ·
      rename_i hkk;subst hkk
      cases hx;cases hy;cases hb
      rw [run_equalIn_int w D t _ _ _ _ hu]
      congr 1
     · simp at hb)
  ·
   rename_i hu
   cases hp
   cases x<;>cases y<;>simp only [aeqP] at hb<;>first
    | (simp at hb;done)
    | (
     cases hx;cases hy;cases hb
     rw [run_equalIn_string w D t _ _ hu]
     congr 1
     rw [ByteArray.toList_eq,ByteArray.toList_eq]
     exact beq_dec _ _)
  ·
   rename_i hu
   cases hp
   cases x<;>cases y<;>simp only [aeqP] at hb<;>first
    | (simp at hb;done)
    | (
     cases hx;cases hy;cases hb
     exact run_equalIn_bool' w D t _ _ hu)
  ·
   rename_i e hu
   cases hp
   unfold aeqP at hb
   split at hb<;>first
    | contradiction
    | (simp at hb;done)
    | (cases hb;cases hx;cases hy;simp [Op.equalIn,run_underlying hu];done)
    | skip
  ·
   rename_i ms hu
   cases hp
   unfold aeqP at hb
   split at hb<;>first
    | contradiction
    | (simp at hb;done)
    | (cases hb;cases hx;cases hy;simp [Op.equalIn,run_underlying hu];done)
    | skip
  ·
   rename_i hu
   cases hp
   unfold aeqP at hb
   split at hb<;>first
    | contradiction
    | (simp at hb;done)
    | (cases hb;cases hx;cases hy;simp [Op.equalIn,run_underlying hu];done)
    | skip
  ·
   rename_i hu
   cases hp
   unfold aeqP at hb
   split at hb<;>first
    | contradiction
    | (simp at hb;done)
    | (cases hb;cases hx;cases hy;simp [Op.equalIn,run_underlying hu];done)
    | skip
  ·
   rename_i fs hu
   split at hp
   · simp at hp
   ·
    rename_i hst
    have hst:P.stoodInHeld t=false:=by simpa using hst
    cases hpl:planFs (eqPlan P d) P fs.toList with
    | none=>rw [hpl] at hp;simp at hp
    | some q=>
     rw [hpl] at hp
     cases hp
     cases x<;>cases y<;>simp only [aeqP] at hb<;>first
      | (simp at hb;done)
      | skip
     rename_i cs ds
     obtain ⟨vs,rfl,hvl,hvo,hvr⟩:∃vs:List Value,u=.agg vs.toArray∧vs.length=cs.length∧(∀i,i<cs.length→(vs.getD i undef).oneCell'=true)∧∀i,i<cs.length→Rep w G (cs.getD i .undef) (vs.getD i undef):=by
      cases hx with | agg _ vs hl ho hr=>exact ⟨vs,rfl,hl,ho,hr⟩
     obtain ⟨us,rfl,hul,huo,hur⟩:∃vs:List Value,v=.agg vs.toArray∧vs.length=ds.length∧(∀i,i<ds.length→(vs.getD i undef).oneCell'=true)∧∀i,i<ds.length→Rep w G (ds.getD i .undef) (vs.getD i undef):=by
      cases hy with | agg _ vs hl ho hr=>exact ⟨vs,rfl,hl,ho,hr⟩
     have hf:P.fieldsOf t=fs:=by simp [Program.fieldsOf,hu]
     rw [run_equalIn_struct (P:=P) w D t _ _ (by rw [hf];exact hu) hst,hf]
     generalize fs.toList=l at hpl
     clear hf hu
     induction l generalizing q b with
     | nil=>
      simp [planFs] at hpl;subst hpl
      simp [aeqPs] at hb;subst hb
      simp [Op.eqFields]
     | cons f l ih2=>
      unfold planFs at hpl
      unfold Op.eqFields
      split at hpl
      ·
       rename_i hn
       rw [if_neg (by simpa using hn)]
       exact ih2 _ _ hb hpl
      ·
       rename_i hn
       rw [if_pos (by simpa using hn)]
       split at hpl
       ·
        rename_i k p r hk hp hr
        cases hpl
        simp only [aeqPs] at hb
        split at hb
        ·
         rename_i a c ha hc
         split at hb
         ·
          rename_i r1 r2 hr1 hr2
          cases hb
          obtain ⟨z1,hz1,hx1⟩:=part_sound (P:=P) hk hvl hvo hvr ha
          obtain ⟨z2,hz2,hx2⟩:=part_sound (P:=P) hk hul huo hur hc
          simp only [Sem.run_bind,hz1,hz2,Result.andThen_ok,ih _ _ hp D hD' _ _ _ _ _ hx1 hx2 hr1]
          cases r1 with
          | false=>simp
          | true=>
           simpa using ih2 _ _ hr2 hr
         · simp at hb
        · simp at hb
       · simp at hpl
  · simp at hp
theorem eqTop_plan {P:Program} {t:TypeId} {p:EqP} (h:eqTop P t=some p):eqPlan P 8 t=some p∧∀fs,p=.strukt fs→P.eqGuardType P.depth t=false:=by
 unfold eqTop at h
 split at h
 ·
  rename_i fs hf
  split at h
  · simp at h
  ·
   rename_i hg
   cases h
   exact ⟨hf,fun _ _=>by simpa using hg⟩
 ·
  rename_i hne
  exact ⟨h,fun fs e=>by subst e;exact absurd h (hne fs)⟩
theorem aeqKey {P:Program} {w:World} {G:Gh} {t:TypeId} {x y:Operand} {a b:AV} {u v:Value} (ha:Rep w G a u) (hb:Rep w G b v) (hi:∀k n,a≠.int k n) (hs:∀l,a≠.str l)
 {p:EqP} (hp:eqTop P t=some p) {q:Bool} (hq:aeqT (isC x||isC y) p a b=some q) :
 (∀op,(eqGuard op t x y u v).run P w=.ok () w)∧(Op.equal t u v).run P w=.ok q w∧binOp .eql t u v=(do pure (.bool (←Op.equal t u v)):Sem Value)∧binOp .neq t u v=(do pure (.bool (!(←Op.equal t u v))):Sem Value):=by
 obtain ⟨hp1,hp2⟩:=eqTop_plan hp
 unfold aeqT at hq
 split at hq
 ·
  split at hq
  ·
   rename_i hc
   cases hq;cases ha;cases hb
   have hu:∃ms,P.underlying t=some (.interface ms):=by
    unfold eqPlan at hp1
    split at hp1<;>first
     | (rename_i h;exact ⟨_,h⟩)
     | (simp at hp1;done)
     | (
      split at hp1
      · simp at hp1
      · rename_i fs _ _;cases h:planFs (eqPlan P 7) P fs.toList<;>rw [h] at hp1<;>simp at hp1)
   obtain ⟨ms,hu⟩:=hu
   refine ⟨fun op=>?_,?_,rfl,rfl⟩
   ·
    have hc':isC x=true∨isC y=true:=by simpa using hc
    cases op<;>first
     | rfl
     | (
      rcases hc' with h | h
      ·
       cases x<;>simp [isC] at h
       simp [eqGuard]
      ·
       cases y<;>simp [isC] at h
       simp [eqGuard])
   ·
    show (Op.equalIn (9999+1) t .nilIface .nilIface).run P w=_
    generalize 9999=d
    simp [Op.equalIn,run_underlying hu]
  · simp at hq
 ·
  have h2:(Op.equal t u v).run P w=.ok q w:=aeqP_sound 8 t p hp1 10000 (by omega) a b u v q ha hb hq
  refine ⟨?_,h2,?_⟩
  ·
   unfold aeqP at hq
   split at hq<;>first
    | (simp at hq;done)
    | (exact absurd rfl (hi _ _))
    | (exact absurd rfl (hs _))
    | skip
   all_goals first
    | (cases ha;cases hb;intro op;cases op<;>rfl)
    | skip
   ·
    cases ha;cases hb
    intro op
    exact run_eqGuard_agg w op t x y _ _ (hp2 _ rfl)
  ·
   unfold aeqP at hq
   split at hq<;>first
    | (simp at hq;done)
    | (exact absurd rfl (hi _ _))
    | (exact absurd rfl (hs _))
    | (cases ha;cases hb;exact ⟨rfl,rfl⟩)
theorem aeqOp_sound {P:Program} {w:World} {G:Gh} {op:BinOp} {t:TypeId} {x y:Operand} {a b:AV} {u v:Value} (ha:Rep w G a u) (hb:Rep w G b v) (hi:∀k n,a≠.int k n) (hs:∀l,a≠.str l) {r:AV} (hr:aeqOp P op t (isC x||isC y) a b=some r) :
 ∃z,(do eqGuard op t x y u v;binOp op t u v:Sem Value).run P w=.ok z w∧Rep w G r z:=by
 unfold aeqOp at hr
 split at hr
 ·
  rename_i p hp
  split at hr
  ·
   rename_i q hq
   obtain ⟨h1,h2,h3,h4⟩:=aeqKey (x:=x) (y:=y) ha hb hi hs hp hq
   split at hr
   ·
    cases hr
    refine ⟨_,?_,.bool _⟩
    rw [h3]
    simp [Sem.run_bind,h1,h2]
   ·
    cases hr
    refine ⟨_,?_,.bool _⟩
    rw [h4]
    simp [Sem.run_bind,h1,h2]
   · simp at hr
  · simp at hr
 · simp at hr
theorem binOpT_sound {P:Program} {w:World} {G:Gh} {op:BinOp} {t:TypeId} {x y:Operand} {a b:AV} {u v:Value} (ha:Rep w G a u) (hb:Rep w G b v) {r:AV} (hr:abinOpT P op t (isC x||isC y) a b=some r) :
 ∃z,(do eqGuard op t x y u v;binOp op t u v:Sem Value).run P w=.ok z w∧Rep w G r z:=by
 unfold abinOpT at hr
 split at hr
 · exact binOp_sound ha hb hr
 · exact binOp_sound ha hb hr
 ·
  rename_i h1 h2
  exact aeqOp_sound ha hb (fun k n=>h1 k n) (fun l=>h2 l) hr
end Go.Ab
namespace Go.Ab
open Go.RowKit
theorem putAt_length {α:Type}:∀(xs:List α) (c:List α) (off:Nat),(putAt c off xs).length=c.length
 | [], _, _=>rfl
 | x::xs,c,off=>by rw [putAt,putAt_length xs];simp
theorem putAt_getD {α:Type} (d:α):∀(xs:List α) (c:List α) (off i:Nat),off+xs.length≤c.length→(putAt c off xs).getD i d=if off≤i∧i<off+xs.length then xs.getD (i - off) d else c.getD i d
 | [],c,off,i, _=>by simp [putAt];omega
 | x::xs,c,off,i,h=>by
  simp only [List.length_cons] at h
  rw [putAt,putAt_getD d xs _ _ _ (by simp;omega)]
  simp only [List.length_cons]
  by_cases h1:off+1≤i∧i<off+1+xs.length
  ·
   rw [if_pos h1,if_pos (by omega)]
   rw [show i - off=(i - (off+1))+1 from by omega]
   simp
  ·
   rw [if_neg h1]
   by_cases h2:i=off
   ·
    subst h2
    rw [if_pos (by omega)]
    simp [List.getD_eq_getElem?_getD,show i<c.length by omega]
   ·
    rw [if_neg (by omega)]
    simp [List.getD_eq_getElem?_getD,List.getElem?_set_ne (Ne.symm h2)]
def RepL (w:World) (G:Gh) (c:List AV) (vs:List Value):Prop:=vs.length=c.length∧∀i,i<c.length→(vs.getD i undef).oneCell'=true∧Rep w G (c.getD i .undef) (vs.getD i undef)
theorem RepL.putAt {w:World} {G:Gh} {c xs:List AV} {vs us:List Value} (h:RepL w G c vs) (k:RepL w G xs us) {off:Nat} (hle:off+xs.length≤c.length):RepL w G (putAt c off xs) (putAt vs off us):=by
 refine ⟨by rw [putAt_length,putAt_length];exact h.1,fun i hi=>?_⟩
 rw [putAt_length] at hi
 rw [putAt_getD _ _ _ _ _ hle,putAt_getD _ _ _ _ _ (by rw [h.1,k.1];exact hle),k.1]
 by_cases h1:off≤i∧i<off+xs.length
 · rw [if_pos h1,if_pos h1];exact k.2 _ (by omega)
 · rw [if_neg h1,if_neg h1];exact h.2 i hi
theorem rep_one {w:World} {G:Gh} {x:AV} {v:Value} (h:Rep w G x v) (ho:okCells x=true) (ha:∀cs,x≠.agg cs):v.oneCell'=true:=by
 cases h<;>first
  | rfl
  | (simp [okCells] at ho;done)
  | exact (ha _ rfl).elim
  | (rename_i hp;cases v<;>simp [plainV] at hp<;>rfl)
theorem rep_cells {w:World} {G:Gh} {x:AV} {v:Value} (h:Rep w G x v) (ho:okCells x=true):RepL w G x.cells v.cells.toList:=by
 by_cases ha:∃cs,x=.agg cs
 ·
  obtain ⟨cs,rfl⟩:=ha
  cases h
  rename_i vs hl hone hrep
  exact ⟨by simpa [Value.cells,AV.cells] using hl,fun i hi=>by simpa [Value.cells] using ⟨hone i hi,hrep i hi⟩⟩
 ·
  have h1:=rep_one h ho (fun cs e=>ha ⟨cs,e⟩)
  have hv:v.cells = #[v]:=by cases v<;>simp_all [Value.cells,Value.oneCell']
  have hx:x.cells=[x]:=by cases x<;>simp_all [AV.cells]
  rw [hv,hx]
  refine ⟨rfl,fun i hi=>?_⟩
  have:i=0:=by simp at hi;exact hi
  subst this
  exact ⟨h1,h⟩
theorem foldl_put (off:Nat):∀(l:List Value) (k:Nat) (cells:Array Value),((l.zipIdx k).foldl (fun cs (p:Value×Nat)=>cs.setIfInBounds (off+p.2) p.1) cells).toList=putAt cells.toList (off+k) l
 | [],k,cells=>rfl
 | x::l,k,cells=>by
  rw [List.zipIdx_cons,List.foldl_cons,foldl_put off l (k+1),putAt]
  simp [Nat.add_assoc]
theorem fill_sound {w:World} {G:Gh} {pl:Nat→Option (Nat×Nat)}:∀(parts:List (Nat×AV)) (vals:List (Nat×Value)) (c r:List AV) (vs:List Value),
 vals.length=parts.length→(∀i,i<parts.length→(vals.getD i (0,undef)).1=(parts.getD i (0,.undef)).1∧Rep w G (parts.getD i (0,.undef)).2 (vals.getD i (0,undef)).2) →
 RepL w G c vs→afill pl c parts=some r→∃us,Instr.fill pl vs.toArray vals=some us.toArray∧RepL w G r us
 | [],[],c,r,vs, _, _,hc,hr=>by
  simp [afill] at hr;subst hr
  exact ⟨vs,rfl,hc⟩
 | [], _::_, _, _, _,hl, _, _, _=>by simp at hl
 | _::_,[], _, _, _,hl, _, _, _=>by simp at hl
 | (i,x)::parts,(i',v)::vals,c,r,vs,hl,hp,hc,hr=>by
  have h0:=hp 0 (by simp)
  simp only [List.getD_cons_zero] at h0
  obtain ⟨rfl,hx⟩:=h0
  unfold afill at hr
  split at hr
  ·
   rename_i off size hpl
   split at hr
   ·
    rename_i hcond
    obtain ⟨h1,h2,h3⟩:=hcond
    have hcell:=rep_cells hx h1
    have hvs:v.cells.size=size:=by rw [←h2,←hcell.1];simp
    obtain ⟨us,hf,hu⟩:=fill_sound parts vals _ r (putAt vs off v.cells.toList) (by simpa using hl) (fun j hj=>by simpa using hp (j+1) (by simpa using hj)) (hc.putAt hcell (by omega)) hr
    refine ⟨us,?_,hu⟩
    unfold Instr.fill
    simp only [hpl]
    rw [if_neg (by simp [hvs];rw [hc.1];omega)]
    rw [←hf]
    congr 1
    have hfold:=foldl_put off v.cells.toList 0 vs.toArray
    apply Array.toList_inj.1
    rw [←Array.foldl_toList]
    simpa using hfold
   · simp at hr
  · simp at hr
theorem azero_sound {P:Program} {w:World} {G:Gh} {t:TypeId} {x:AV} (h:azero P t=some x) :
 ∃i z,P.info? t=some i∧i.zero=some z∧(zeroValue t).run P w=.ok z w∧Rep w G x z∧RepL w G x.cells z.cells.toList:=by
 unfold azero at h
 split at h
 ·
  rename_i i hi
  split at h
  ·
   rename_i cs hz
   split at h
   ·
    rename_i hall
    cases h
    have hr:Rep w G (.agg (cs.toList.map cst)) (.agg cs.toList.toArray):=by
     refine .agg _ _ (by simp) (fun j hj=>?_) (fun j hj=>?_)
     ·
      simp at hj
      have:=(Array.all_eq_true.1 hall) j hj
      simpa [List.getD_eq_getElem?_getD,hj] using this
     ·
      simp at hj
      have:=cst_rep w G (cs[j])
      simpa [List.getD_eq_getElem?_getD,hj] using this
    refine ⟨i,.agg cs,hi,hz,by simp [zeroValue,typeInfo,hi,hz],by simpa using hr,?_⟩
    have:=rep_cells hr rfl
    simpa using this
   · simp at h
  ·
   rename_i z hna hz
   split at h
   ·
    rename_i hone
    cases h
    refine ⟨i,z,hi,hz,by simp [zeroValue,typeInfo,hi,hz],cst_rep w G z,?_⟩
    have hzc:z.cells = #[z]:=by cases z<;>simp_all [Value.cells,Value.oneCell']
    have hcc:(cst z).cells=[cst z]:=by
     unfold cst
     split<;>first | rfl | (split<;>rfl)
    rw [hzc,hcc]
    refine ⟨rfl,fun j hj=>?_⟩
    have:j=0:=by simp at hj;exact hj
    subst this
    exact ⟨hone,cst_rep w G z⟩
   · simp at h
  · simp at h
 · simp at h
theorem parts_rep {w:World} {G:Gh} {fr:Nat→AV} {ρ:Operand→Value} (l:List (Nat×Operand)) (hr:∀p∈l,Rep w G (ev fr p.2) (ρ p.2)) :
 ∀i,i<(l.map fun p=>(p.1,ev fr p.2)).length→((l.map fun p=>(p.1,ρ p.2)).getD i (0,undef)).1=((l.map fun p=>(p.1,ev fr p.2)).getD i (0,.undef)).1 ∧
  Rep w G ((l.map fun p=>(p.1,ev fr p.2)).getD i (0,.undef)).2 ((l.map fun p=>(p.1,ρ p.2)).getD i (0,undef)).2:=by
 intro i hi
 simp at hi
 have:=hr l[i] (List.getElem_mem hi)
 simp [List.getD_eq_getElem?_getD,hi,this]
theorem mapM_place {P:Program} {w:World} (fs:Array Field) (h:fs.all (fun f=>(P.info? f.type).isSome)=true) :
 (fs.mapM (m:=Sem) fun f=>do pure (f.offset,←sizeOf f.type)).run P w=.ok (fs.map fun f=>(f.offset,((P.info? f.type).map (·.size)).getD 0)) w:=by
 obtain ⟨l⟩:=fs
 have h':∀f∈l,(P.info? f.type).isSome=true:=by simpa using h
 rw [List.mapM_toArray]
 have key:(l.mapM (m:=Sem) fun f=>do pure (f.offset,←sizeOf f.type)).run P w=.ok (l.map fun f=>(f.offset,((P.info? f.type).map (·.size)).getD 0)) w:=by
  clear h
  induction l with
  | nil=>simp
  | cons f l ih=>
   have hf:=h' f (by simp)
   obtain ⟨j,hj⟩:=Option.isSome_iff_exists.1 hf
   have ih:=ih (fun g hg=>h' g (by simp [hg]))
   simp [List.mapM_cons,sizeOf,typeInfo,hj] at ih ⊢
   rw [ih]
   simp
 simp only [Sem.run_map,key,Result.andThen_ok]
 simp
theorem build_sound {P:Program} {w:World} {G:Gh} {t:TypeId} {fr:Nat→AV} {ρ:Operand→Value} (parts:Array (Nat×Operand)) (hr:∀p∈parts.toList,Rep w G (ev fr p.2) (ρ p.2))
 {x:AV} (h:abuild P t (parts.toList.map fun p=>(p.1,ev fr p.2))=some x):∃z,(Instr.build t (parts.map fun (i,y)=>(i,ρ y))).run P w=.ok z w∧Rep w G x z:=by
 unfold abuild at h
 split at h
 ·
  rename_i zs hz
  split at h
  ·
   rename_i hok
   split at h
   ·
    rename_i c hc
    cases h
    obtain ⟨i,z,hi,hz',hrun,hrep,hrepl⟩:=azero_sound (w:=w) (G:=G) hz
    obtain ⟨us,hf,hu⟩:=fill_sound _ (parts.toList.map fun p=>(p.1,ρ p.2)) _ _ _ (by simp) (parts_rep _ hr) hrepl hc
    refine ⟨.agg us.toArray,?_,.agg _ _ hu.1 (fun i hi=>(hu.2 i hi).1) (fun i hi=>(hu.2 i hi).2)⟩
    have hpl:(parts.map fun (i,y)=>(i,ρ y)).toList=parts.toList.map fun p=>(p.1,ρ p.2):=by simp
    simp only [Array.toArray_toList] at hf
    unfold structOk at hok
    split at hok
    ·
     rename_i fs hfs
     have hplace:(fun i=>(fs.map fun f=>(f.offset,((P.info? f.type).map (·.size)).getD 0))[i]?)=place P t:=by
      funext i
      simp only [place,hfs,Array.getElem?_map]
      cases hfi:fs[i]? with
      | none=>rfl
      | some f=>
       have hm:f∈fs:=Array.mem_of_getElem? hfi
       have:=(Array.all_eq_true_iff_forall_mem.1 hok) f hm
       obtain ⟨j,hj⟩:=Option.isSome_iff_exists.1 this
       simp [hj]
     simp only [Instr.build,Sem.run_bind,hrun,Result.andThen_ok,run_underlying hfs,mapM_place fs hok,hplace,hpl,hf]
     rfl
    ·
     rename_i n e he
     obtain ⟨j,hj⟩:=Option.isSome_iff_exists.1 hok
     have hplace:(fun i=>some (i*j.size,j.size))=place P t:=by
      funext i
      simp [place,he,hj]
     have hs:(sizeOf e).run P w=.ok j.size w:=by simp [sizeOf,typeInfo,hj]
     simp only [Instr.build,Sem.run_bind,hrun,Result.andThen_ok,run_underlying he,hs,hplace,hpl,hf]
     rfl
    · simp at hok
   · simp at h
  · simp at h
 · simp at h
theorem mul_add_lt {i k j size:Nat} (hj:j<size):(k*size≤i*size+j∧i*size+j<k*size+size)↔i=k:=by
 constructor
 ·
  rintro ⟨h1,h2⟩
  rcases Nat.lt_trichotomy i k with h | h | h
  ·
   have:=Nat.mul_le_mul_right size (show i+1≤k from h)
   rw [Nat.add_mul] at this
   omega
  · exact h
  ·
   have:=Nat.mul_le_mul_right size (show k+1≤i from h)
   rw [Nat.add_mul] at this
   omega
 · rintro rfl;omega
theorem afill_seq {size:Nat}:∀(ps:List AV) (k:Nat) (c:List AV),(∀p∈ps,okCells p=true∧p.cells.length=size)→(k+ps.length)*size≤c.length →
 ∃r,afill (fun i=>some (i*size,size)) c ((ps.zipIdx k).map fun p=>(p.2,p.1))=some r∧r.length=c.length ∧
  ∀i j,j<size→r.getD (i*size+j) .undef=if k≤i∧i<k+ps.length then (ps.getD (i - k) .undef).cells.getD j .undef else c.getD (i*size+j) .undef
 | [],k,c, _, _=>⟨c,rfl,rfl,fun i j _=>by rw [if_neg (by simp)]⟩
 | p::ps,k,c,hp,hl=>by
  obtain ⟨h1,h2⟩:=hp p (by simp)
  simp only [List.length_cons] at hl
  have hks:(k+1)*size≤c.length:=Nat.le_trans (Nat.mul_le_mul_right size (by omega)) hl
  rw [Nat.add_mul,Nat.one_mul] at hks
  obtain ⟨r,hr,hrl,hg⟩:=afill_seq ps (k+1) (putAt c (k*size) p.cells) (fun q hq=>hp q (by simp [hq])) (by rw [putAt_length,show k+1+ps.length=k+(ps.length+1) from by omega];exact hl)
  refine ⟨r,?_,by rw [hrl,putAt_length],fun i j hj=>?_⟩
  ·
   rw [List.zipIdx_cons,List.map_cons,afill]
   simp only []
   rw [if_pos ⟨h1,h2,by omega⟩]
   exact hr
  ·
   rw [hg i j hj,putAt_getD _ _ _ _ _ (by rw [h2];omega),h2]
   by_cases hik:i=k
   ·
    subst hik
    rw [if_neg (by omega),if_pos ((mul_add_lt hj).2 rfl),if_pos (by simp)]
    simp
   ·
    rw [if_neg (show ¬(k*size≤i*size+j∧i*size+j<k*size+size) from fun h=>hik ((mul_add_lt hj).1 h))]
    by_cases hin:k+1≤i∧i<k+1+ps.length
    ·
     rw [if_pos hin,if_pos (by simp;omega)]
     rw [show i - k=(i - (k+1))+1 from by omega]
     simp
    · rw [if_neg hin,if_neg (by simp;omega)]
theorem parts_zip {α:Type} (parts:List (Nat×α)) (len:Nat) (h:parts.map (·.1)=List.range len):parts=((parts.map (·.2)).zipIdx 0).map fun p=>(p.2,p.1):=by
 apply List.ext_getElem
 · simp
 ·
  intro i h1 h2
  have hi:(parts.map (·.1))[i]'(by simpa using h1)=i:=by simp [h]
  simp at hi
  simp
  exact Prod.ext hi rfl
theorem HRel.row {w:World} {G:Gh} {h:List Blk} {live:List Nat} (hh:HRel w G h live) (o:Obj) :
 HRel (w.alloc o) { G with imm:=fun b q=>G.imm b q∨b=w.heap.size } h live∧Evo w G live (w.alloc o) { G with imm:=fun b q=>G.imm b q∨b=w.heap.size } live:=by
 have himm:∀b q,G.imm b q→(w.alloc o).cell? ⟨b,q,none⟩=w.cell? ⟨b,q,none⟩:=fun b q hb=>World.cell?_alloc_lt w o ⟨b,q,none⟩ (hh.imm_lt b q hb)
 have hext:Ext G { G with imm:=fun b q=>G.imm b q∨b=w.heap.size }:=⟨Nat.le_refl _,fun _ _=>rfl,fun _ _ h=>.inl h,fun _ _ h=>h⟩
 have htl:∀d,TokOk w G d→d.b<w.heap.size:=fun d ⟨⟨cur,hc, _⟩, _⟩=>(Array.getElem?_eq_some_iff.1 hc).1
 refine ⟨⟨hh.len,fun k x hx=>?_,fun k hk=>?_,hh.inj,fun b q hb=>?_,fun b q k hb hk=>?_,fun t ht=>?_,hh.tok_ne⟩,⟨rfl,rfl,rfl,by simp,himm,fun b hb _=>Below.heap_alloc w o b hb,fun b _ hb=>hb,hext⟩⟩
 ·
  have hk:k<G.n:=by rw [←hh.len];exact (List.getElem?_eq_some_iff.1 hx).1
  exact (hh.blk k x hx).mono (Below.heap_alloc w o _ (hh.blk_lt k hk)) himm hext
 · have:=hh.blk_lt k hk;simp;omega
 ·
  rcases hb with hb | rfl
  · have:=hh.imm_lt b q hb;simp;omega
  · simp
 ·
  rcases hb with hb | rfl
  · exact hh.imm_blk b q k hb hk
  · have:=hh.blk_lt k hk;show G.blk k≠_;omega
 ·
  obtain ⟨d,hd,hok⟩:=hh.tok t ht
  refine ⟨d,hd,?_⟩
  have hl:=htl d hok
  obtain ⟨⟨cur,hc,hs⟩,h1,h2,h3,h4⟩:=hok
  refine ⟨⟨cur,(Below.heap_alloc w o _ hl).trans hc,hs⟩,h1,h2,fun q hq hi=>?_,h4⟩
  rcases hi with hi | hi
  · exact h3 q hq hi
  · omega
theorem buildSlice_sound {P:Program} {w:World} {G:Gh} {h:List Blk} {live:List Nat} {t:TypeId} {len:Nat} {fr:Nat→AV} {ρ:Operand→Value} (parts:Array (Nat×Operand)) (hr:∀p∈parts.toList,Rep w G (ev fr p.2) (ρ p.2))
 (hh:HRel w G h live) {x:AV} (hx:abuildSlice P t len (parts.toList.map fun p=>(p.1,ev fr p.2))=some x) :
 ∃z w',(Instr.buildSlice t len (parts.map fun (i,y)=>(i,ρ y))).run P w=.ok z w'∧Post w G live (ret x h live) z w':=by
 unfold abuildSlice at hx
 split at hx
 ·
  rename_i sz0 hsz0
  unfold litSz at hsz0
  split at hsz0
  ·
   rename_i e he
   split at hsz0
   ·
    rename_i j zz hj hz
    split at hsz0
    ·
     rename_i hc0
     obtain ⟨h3,h4⟩:=hc0
     simp only [Option.some.injEq] at hsz0
     subst hsz0
     split at hx
     case isFalse=>simp at hx
     rename_i hcond
     obtain ⟨h1,h2,h50⟩:=hcond
     have h5:∀q∈(parts.toList.map fun p=>(p.1,ev fr p.2)).map (·.2),okCells q=true∧q.cells.length=j.size:=by
      intro q hq
      obtain ⟨p,hp,rfl⟩:=List.mem_map.1 hq
      have:=(List.all_eq_true.1 h50) p hp
      simpa using this
     cases hx
     obtain ⟨i,z,hi,hz',hrun,hrep,hrepl⟩:=azero_sound (w:=w) (G:=G) hz
     let ps:=(parts.toList.map fun p=>(p.1,ev fr p.2)).map (·.2)
     have hpl:ps.length=len:=by
      have:=congrArg List.length h1
      simpa [ps] using this
     have hzs:z.cells.size=j.size:=by have:=hrepl.1;simp at this;omega
     let zeros:Array Value:=(Array.range (len*j.size)).map (z.cells[· % z.cells.size]!)
     have hzl:zeros.size=len*j.size:=by simp [zeros]
     have hzrep:RepL w G (List.replicate (len*j.size) .undef) zeros.toList:=by
      refine ⟨by simp [hzl],fun q hq=>?_⟩
      simp only [List.length_replicate] at hq
      have hm:q%z.cells.size<z.cells.size:=Nat.mod_lt _ (by omega)
      have hone:=(hrepl.2 (q%z.cells.size) (by have:=hrepl.1;simp at this;omega)).1
      have e1:(List.replicate (len*j.size) AV.undef).getD q .undef=.undef:=by simp [List.getD_eq_getElem?_getD,hq]
      rw [e1]
      refine ⟨?_,.undef _⟩
      have:zeros.toList.getD q undef=z.cells.toList.getD (q%z.cells.size) undef:=by
       simp [zeros,List.getD_eq_getElem?_getD,hq,hm]
      rw [this];exact hone
     obtain ⟨r,hf,hrl,hg⟩:=afill_seq (size:=j.size) ps 0 (List.replicate (len*j.size) .undef) h5 (by simp [hpl])
     rw [←parts_zip _ len h1] at hf
     obtain ⟨us,hfu,hu⟩:=fill_sound _ (parts.toList.map fun p=>(p.1,ρ p.2)) _ _ _ (by simp) (parts_rep _ hr) hzrep hf
     have hpv:(parts.map fun (i,y)=>(i,ρ y)).toList=parts.toList.map fun p=>(p.1,ρ p.2):=by simp
     have hs:(sizeOf e).run P w=.ok j.size w:=by simp [sizeOf,typeInfo,hj]
     refine ⟨.slice (some ⟨w.heap.size,0,none⟩) len len,w.alloc (.cells us.toArray e),?_,?_⟩
     ·
      simp only [Array.toArray_toList] at hfu
      simp only [Instr.buildSlice,Sem.run_bind,run_underlying he,Result.andThen_ok,hs]
      rw [if_neg (by omega)]
      by_cases h0:len*j.size=0
      ·
       have hz0:(Array.range (len*j.size)).map ((#[]:Array Value)[· % (#[]:Array Value).size]!)=zeros:=by simp [zeros,h0]
       rw [if_pos h0]
       simp only [pure_bind,hz0,hpv,hfu]
       rfl
      ·
       rw [if_neg h0]
       simp only [Sem.run_bind,hrun,Result.andThen_ok,pure_bind]
       change Sem.run P (match Instr.fill (fun i=>some (i*j.size,j.size)) zeros _ with | some cells=>_ | x=>_) w=_
       simp only [hpv,hfu]
       rfl
     ·
      obtain ⟨hh',hev⟩:=hh.row (.cells us.toArray e)
      refine ⟨_,h,live, _,⟨rfl,rfl,rfl⟩,?_,hh',hev⟩
      have hrl':r.length=len*j.size:=by rw [hrl];simp
      have hcell:∀q,q<len*j.size→(w.alloc (.cells us.toArray e)).cell? ⟨w.heap.size,q,none⟩=some (us.getD q undef):=fun q hq=>by
       rw [World.cell?_alloc_new]
       have:q<us.length:=by rw [hu.1,hrl'];exact hq
       simp [List.getD_eq_getElem?_getD,this]
      have hq:∀i k,i<ps.length→k<j.size→i*j.size+k<len*j.size:=fun i k hi hk=>by
       have:=Nat.mul_le_mul_right j.size (show i+1≤len by omega)
       rw [Nat.add_mul] at this
       omega
      have key:=Rep.slice (w:=w.alloc (.cells us.toArray e)) (G:={ G with imm:=fun b q=>G.imm b q∨b=w.heap.size }) ps .full w.heap.size 0 ps.length j.size (fun i k=>us.getD (i*j.size+k) undef)
       (Nat.le_refl _) (by rw [hpl];have:=Nat.le_mul_of_pos_right len h3;unfold maxLen;omega) (fun i hi=>by
        have hm:ps.getD i .undef∈ps:=by rw [List.getD_eq_getElem?_getD,List.getElem?_eq_getElem hi];exact List.getElem_mem hi
        exact (h5 _ hm).2) (fun i k _ _=>.inr rfl) (fun i k hi hk=>by
        rw [Nat.zero_add];exact hcell _ (hq i k hi hk)) (fun i k hi hk=>(hu.2 _ (by rw [hrl'];exact hq i k hi hk)).1) (fun i k hi hk=>by
        have:=(hu.2 (i*j.size+k) (by rw [hrl'];exact hq i k hi hk)).2
        rw [hg i k hk,if_pos (by omega)] at this
        simpa using hev.rep this) rfl
      rw [hpl] at key
      exact key
    · simp at hsz0
   · simp at hsz0
  · simp at hsz0
 · simp at hx
end Go.Ab
namespace Go.Ab
open Go.RowKit
theorem optRep_map {w:World} {G:Gh} {fr:Nat→AV} {ρ:Operand→Value} (x:Option Operand) (h:∀y,x=some y→Rep w G (ev fr y) (ρ y)):optRep w G (x.map (ev fr)) (x.map ρ):=by
 cases x with
 | none=>trivial
 | some y=>exact h y rfl
theorem list_rep {w:World} {G:Gh} {fr:Nat→AV} {ρ:Operand→Value} (l:List Operand) (h:∀y∈l,Rep w G (ev fr y) (ρ y)) :
 ∀i,i<(l.map (ev fr)).length→Rep w G ((l.map (ev fr)).getD i .undef) ((l.map ρ).getD i undef):=by
 intro i hi
 simp at hi
 have:=h l[i] (List.getElem_mem hi)
 simpa [List.getD_eq_getElem?_getD,hi] using this
theorem run_value {P:Program} {w w':World} {s:Sem Value} {v:Value} (h:s.run P w=.ok v w'):(do pure (.value (←s)):Sem Next).run P w=.ok (.value v) w':=by
 simp [h]
theorem astepP_sound {P:Program} {fr:Nat→AV} {o:Oper} {x:AV} (hx:astepP P fr o=some x) (h:List Blk) (live:List Nat):AOp P fr h live o (ret x h live):=by
 obtain ⟨dst,op,ty,pos,after,guard⟩:=o
 cases op with
 | move y=>
  refine AOp.gives fun w G ρ hr _=>?_
  simp only [astepP,Option.some.injEq] at hx;subst hx
  exact ⟨ρ y,rfl,hr y (by simp [Op.operands])⟩
 | assign y=>
  refine AOp.gives fun w G ρ hr _=>?_
  simp only [astepP,Option.some.injEq] at hx;subst hx
  exact ⟨ρ y,rfl,hr y (by simp [Op.operands])⟩
 | pick c a b=>
  refine AOp.gives fun w G ρ hr _=>?_
  simp only [astepP] at hx
  split at hx
  ·
   rename_i t ht
   cases hx
   have hc:=hr c (by simp [Op.operands])
   rw [ht] at hc
   generalize hv:ρ c=v at hc
   cases hc
   refine ⟨if t then ρ a else ρ b,?_,pick_sound (hr a (by simp [Op.operands])) (hr b (by simp [Op.operands]))⟩
   simp [execOp,hv,asBool]
  · simp at hx
 | nilCheck y=>
  refine AOp.gives fun w G ρ hr _=>?_
  have hy:=hr y (by simp [Op.operands])
  obtain ⟨rfl,h1⟩:=nil_sound hy hx
  rcases h1 with ⟨b,hb⟩ | ⟨f,p,q,hb⟩
  · exact ⟨ρ y,by simp [execOp,hb],hy⟩
  · exact ⟨ρ y,by simp [execOp,hb],hy⟩
 | fieldAddr s y f=>
  refine AOp.gives fun w G ρ hr _=>?_
  have hy:=hr y (by simp [Op.operands])
  simp only [astepP] at hx
  split at hx
  ·
   rename_i o ho
   split at hx
   ·
    rename_i k off hk
    cases hx
    rw [hk] at hy
    generalize hv:ρ y=v at hy
    cases hy
    rename_i hk'
    exact ⟨_,by simp only [execOp,hv];exact run_value (fieldAt_sound ho _ _),.ptr _ _ hk'⟩
   ·
    rename_i c off hk
    cases hx
    rw [hk] at hy
    generalize hv:ρ y=v at hy
    cases hy
    rename_i b q g hi hc h1 h2
    refine ⟨_,by simp only [execOp,hv];exact run_value (fieldAt_sound ho _ _),?_⟩
    rw [Nat.add_assoc]
    exact .eptr _ _ b q g hi hc h1 h2
   ·
    rename_i g off hk
    cases hx
    rw [hk] at hy
    generalize hv:ρ y=v at hy
    cases hy
    exact ⟨_,by simp only [execOp,hv];exact run_value (fieldAt_sound ho _ _),.glob _ _⟩
   · simp at hx
  · simp at hx
 | field s y f=>
  refine AOp.gives fun w G ρ hr _=>?_
  have hy:=hr y (by simp [Op.operands])
  simp only [astepP] at hx
  split at hx
  ·
   rename_i o k hk
   split at hx
   ·
    rename_i cs hcs
    rw [hcs] at hy
    obtain ⟨z,hz,hrz⟩:=field_sound (P:=P) hk hy hx
    exact ⟨z,by simp only [execOp];exact run_value hz,hrz⟩
   · simp at hx
  · simp at hx
 | indexAddr t y i=>
  refine AOp.gives fun w G ρ hr _=>?_
  obtain ⟨z,hz,hrz⟩:=indexAddr_sound (P:=P) (hr y (by simp [Op.operands])) (hr i (by simp [Op.operands])) hx
  exact ⟨z,by simp only [execOp];exact run_value hz,hrz⟩
 | index t y i=>
  refine AOp.gives fun w G ρ hr _=>?_
  obtain ⟨z,hz,hrz⟩:=index_sound (P:=P) (hr y (by simp [Op.operands])) (hr i (by simp [Op.operands])) hx
  exact ⟨z,by simp only [execOp];exact run_value hz,hrz⟩
 | slice t y lo hi mx=>
  refine AOp.gives fun w G ρ hr _=>?_
  obtain ⟨z,hz,hrz⟩:=slice_sound (P:=P) (hr y (by simp [Op.operands])) (optRep_map lo fun q hq=>hr q (by subst hq;simp [Op.operands])) (optRep_map hi fun q hq=>hr q (by subst hq;simp [Op.operands]))
   (optRep_map mx fun q hq=>hr q (by subst hq;simp [Op.operands])) hx
  exact ⟨z,by simp only [execOp];exact run_value hz,hrz⟩
 | binOp op t a b t'=>
  refine AOp.gives fun w G ρ hr _=>?_
  obtain ⟨z,hz,hrz⟩:=binOpT_sound (P:=P) (t:=t) (x:=a) (y:=b) (hr a (by simp [Op.operands])) (hr b (by simp [Op.operands])) hx
  exact ⟨z,by simp only [execOp];exact run_value hz,hrz⟩
 | unOp op t a=>
  refine AOp.gives fun w G ρ hr _=>?_
  obtain ⟨z,hz,hrz⟩:=unOp_sound (P:=P) (hr a (by simp [Op.operands])) hx
  exact ⟨z,by simp only [execOp];exact run_value hz,hrz⟩
 | convert s d a=>
  refine AOp.gives fun w G ρ hr _=>?_
  obtain ⟨z,hz,hrz⟩:=convert_sound (P:=P) (hr a (by simp [Op.operands])) hx
  exact ⟨z,by simp only [execOp];exact run_value hz,hrz⟩
 | makeInterface t a=>
  refine AOp.gives fun w G ρ hr _=>?_
  simp only [astepP] at hx
  split at hx
  ·
   rename_i hc
   cases hx
   exact ⟨_,by simp only [execOp];exact run_value (run_makeInterface (P:=P) w t _ hc),.iface _ _ _ (hr a (by simp [Op.operands]))⟩
  · simp at hx
 | makeFunc f first cap=>
  refine AOp.gives fun w G ρ hr _=>?_
  simp only [astepP,Option.some.injEq] at hx;subst hx
  refine ⟨.func f (first.map ρ) (cap.map ρ),rfl,?_⟩
  have:=Rep.fn (w:=w) (G:=G) f (first.toList.map (ev fr)) (cap.toList.map (ev fr)) (first.toList.map ρ) (cap.toList.map ρ) (by simp) (by simp)
   (list_rep _ fun y hy=>hr y (by simp [Op.operands];exact .inl (by simpa using hy))) (list_rep _ fun y hy=>hr y (by simp [Op.operands];exact .inr (by simpa using hy)))
  have e:∀a:Array Operand,(a.toList.map ρ).toArray=a.map ρ:=fun a=>by obtain ⟨l⟩:=a;simp
  rw [e,e] at this
  exact this
 | extract y i=>
  refine AOp.gives fun w G ρ hr _=>?_
  have hy:=hr y (by simp [Op.operands])
  simp only [astepP] at hx
  split at hx
  ·
   rename_i vs hvs
   rw [hvs] at hy
   generalize hv:ρ y=v at hy
   cases hy
   rename_i us hl hrep
   obtain ⟨h1,h2⟩:=get?_getD .undef hx
   refine ⟨us.getD i undef,?_,by rw [←h2];exact hrep i h1⟩
   have h3:i<us.length:=by omega
   simp [execOp,hv,Instr.extract,h3,List.getD_eq_getElem?_getD]
  · simp at hx
 | build t parts=>
  refine AOp.gives fun w G ρ hr _=>?_
  obtain ⟨z,hz,hrz⟩:=build_sound (P:=P) (ρ:=ρ) (w:=w) (G:=G) parts (fun p hp=>hr p.2 (by simp [Op.operands];exact ⟨p.1,by simpa using hp⟩)) hx
  exact ⟨z,by simp only [execOp];exact run_value hz,hrz⟩
 | buildSlice t n parts=>
  intro w G ρ hρ hr hh
  obtain ⟨z,w',hz,hp⟩:=buildSlice_sound (P:=P) (ρ:=ρ) (w:=w) (G:=G) parts (fun p hp=>hr p.2 (by simp [Op.operands];exact ⟨p.1,by simpa using hp⟩)) hh hx
  simp only [execOp]
  rw [run_value hz]
  exact hp
 | call c=>
  obtain ⟨callee,args,ts⟩:=c
  cases callee with
  | value f=>simp [astepP] at hx
  | invoke r m=>simp [astepP] at hx
  | builtin b=>
   cases b<;>simp only [astepP] at hx<;>first | (simp at hx;done) | skip
   ·
    refine AOp.gives fun w G ρ hr _=>?_
    split at hx
    ·
     rename_i y t hy ht
     have ha:args = #[y]:=by apply Array.toList_inj.1;simpa using hy
     have hts:ts = #[t]:=by apply Array.toList_inj.1;simpa using ht
     subst ha;subst hts
     obtain ⟨z,hz,hrz⟩:=len_sound (P:=P) (ty:=ty) (hr y (by simp [Op.operands,Call.operands])) hx
     exact ⟨z,by simp [execOp,resolve,invoke,builtin,hz],hrz⟩
    · simp at hx
   ·
    refine AOp.gives fun w G ρ hr _=>?_
    unfold aminmax at hx
    split at hx
    ·
     rename_i k a k' b hab
     obtain ⟨l⟩:=args
     rcases l with _ | ⟨p, _ | ⟨q, _ | ⟨_, _⟩⟩⟩<;>simp at hab
     ·
      have hp:=hr p (by simp [Op.operands,Call.operands])
      have hq:=hr q (by simp [Op.operands,Call.operands])
      rw [hab.1] at hp;rw [hab.2] at hq
      generalize hv:ρ p=v at hp
      generalize hu:ρ q=u at hq
      cases hp;cases hq;cases hx
      refine ⟨_,?_,.int _ _⟩
      simp [execOp,resolve,invoke,builtin,Builtin.max_,Builtin.max2,hv,hu]
    · simp at hx
   ·
    refine AOp.gives fun w G ρ hr _=>?_
    unfold aminmax at hx
    split at hx
    ·
     rename_i k a k' b hab
     obtain ⟨l⟩:=args
     rcases l with _ | ⟨p, _ | ⟨q, _ | ⟨_, _⟩⟩⟩<;>simp at hab
     ·
      have hp:=hr p (by simp [Op.operands,Call.operands])
      have hq:=hr q (by simp [Op.operands,Call.operands])
      rw [hab.1] at hp;rw [hab.2] at hq
      generalize hv:ρ p=v at hp
      generalize hu:ρ q=u at hq
      cases hp;cases hq;cases hx
      refine ⟨_,?_,.int _ _⟩
      simp [execOp,resolve,invoke,builtin,Builtin.min_,Builtin.min2,hv,hu]
    · simp at hx
 | _=>simp [astepP] at hx
theorem astepP_congr {P:Program} {fr fr':Nat→AV} {o:Oper} (he:∀x∈o.op.operands,ev fr' x=ev fr x):astepP P fr' o=astepP P fr o:=by
 obtain ⟨dst,op,ty,pos,after,guard⟩:=o
 have hl:∀(l:List Operand),(∀x∈l,x∈op.operands)→l.map (ev fr')=l.map (ev fr):=fun l h=>List.map_congr_left fun x hx=>he x (h x hx)
 cases op with
 | call c=>
  obtain ⟨callee,args,ts⟩:=c
  cases callee with
  | value f=>rfl
  | invoke r m=>rfl
  | builtin b=>
   have:=hl args.toList (fun x hx=>by simp [Op.operands,Call.operands];simpa using hx)
   have h1:∀x∈args.toList,ev fr' x=ev fr x:=fun x hx=>he x (by simp [Op.operands,Call.operands];simpa using hx)
   cases b
   case len=>
    simp only [astepP]
    cases h:args.toList with
    | nil=>rfl
    | cons y r=>
     cases r with
     | nil=>
      have:=h1 y (by simp [h])
      cases ts.toList with
      | nil=>rfl
      | cons t q=>
       cases q with
       | nil=>show alen P t (ev fr' y)=alen P t (ev fr y);rw [this]
       | cons _ _=>rfl
     | cons _ _=>rfl
   case min=>show aminmax true (args.toList.map (ev fr'))=aminmax true (args.toList.map (ev fr));rw [this]
   case max=>show aminmax false (args.toList.map (ev fr'))=aminmax false (args.toList.map (ev fr));rw [this]
   all_goals rfl
 | slice t y lo hi mx=>
  have e1:∀q:Option Operand,(∀z,q=some z→z∈(Op.slice t y lo hi mx).operands)→q.map (ev fr')=q.map (ev fr):=fun q hq=>by
   cases q with
   | none=>rfl
   | some z=>simp only [Option.map_some];rw [he z (hq z rfl)]
  simp only [astepP]
  rw [he y (by simp [Op.operands]),e1 lo (fun z hz=>by subst hz;simp [Op.operands]),e1 hi (fun z hz=>by subst hz;simp [Op.operands]),e1 mx (fun z hz=>by subst hz;simp [Op.operands])]
 | build t parts=>
  have:(parts.toList.map fun p=>(p.1,ev fr' p.2))=parts.toList.map fun p=>(p.1,ev fr p.2):=List.map_congr_left fun p hp=>by
   rw [he p.2 (by simp [Op.operands];exact ⟨p.1,by simpa using hp⟩)]
  simp only [astepP,this]
 | buildSlice t n parts=>
  have:(parts.toList.map fun p=>(p.1,ev fr' p.2))=parts.toList.map fun p=>(p.1,ev fr p.2):=List.map_congr_left fun p hp=>by
   rw [he p.2 (by simp [Op.operands];exact ⟨p.1,by simpa using hp⟩)]
  simp only [astepP,this]
 | makeFunc f first cap=>
  simp only [astepP]
  rw [hl first.toList (fun x hx=>by simp [Op.operands];exact .inl (by simpa using hx)),hl cap.toList (fun x hx=>by simp [Op.operands];exact .inr (by simpa using hx))]
 | pick c a b=>
  simp only [astepP]
  rw [he c (by simp [Op.operands]),he a (by simp [Op.operands]),he b (by simp [Op.operands])]
 | binOp op t a b t'=>
  simp only [astepP]
  rw [he a (by simp [Op.operands]),he b (by simp [Op.operands])]
 | indexAddr t y i=>
  simp only [astepP]
  rw [he y (by simp [Op.operands]),he i (by simp [Op.operands])]
 | index t y i=>
  simp only [astepP]
  rw [he y (by simp [Op.operands]),he i (by simp [Op.operands])]
 | move y=>simp only [astepP];rw [he y (by simp [Op.operands])]
 | assign y=>simp only [astepP];rw [he y (by simp [Op.operands])]
 | nilCheck y=>simp only [astepP];rw [he y (by simp [Op.operands])]
 | fieldAddr s y f=>simp only [astepP];rw [he y (by simp [Op.operands])]
 | field s y f=>simp only [astepP];rw [he y (by simp [Op.operands])]
 | unOp op t y=>simp only [astepP];rw [he y (by simp [Op.operands])]
 | convert s d y=>simp only [astepP];rw [he y (by simp [Op.operands])]
 | makeInterface t y=>simp only [astepP];rw [he y (by simp [Op.operands])]
 | extract y i=>simp only [astepP];rw [he y (by simp [Op.operands])]
 | _=>rfl
end Go.Ab
namespace Go.Ab
open Go.RowKit
def globOf:List Blk→Nat→Option (List AV)
 | [], _=>none
 | .glb g' c _::r,g=>if g'=g then some c else globOf r g
 | _::r,g=>globOf r g
theorem globOf_mem {g:Nat} {c:List AV}:∀ {h:List Blk},globOf h g=some c→∃ob,Blk.glb g c ob∈h
 | .glb g' c' ob::r,hg=>by
  simp only [globOf] at hg
  split at hg
  · rename_i e;subst e;cases hg;exact ⟨ob,by simp⟩
  · obtain ⟨o,ho⟩:=globOf_mem hg;exact ⟨o,List.mem_cons_of_mem _ ho⟩
 | .cells _::r,hg=>let ⟨o,ho⟩:=globOf_mem (h:=r) hg;⟨o,List.mem_cons_of_mem _ ho⟩
 | .map _::r,hg=>let ⟨o,ho⟩:=globOf_mem (h:=r) hg;⟨o,List.mem_cons_of_mem _ ho⟩
 | .siter _ _::r,hg=>let ⟨o,ho⟩:=globOf_mem (h:=r) hg;⟨o,List.mem_cons_of_mem _ ho⟩
 | .miter _ _ _ _::r,hg=>let ⟨o,ho⟩:=globOf_mem (h:=r) hg;⟨o,List.mem_cons_of_mem _ ho⟩
 | .gone::r,hg=>let ⟨o,ho⟩:=globOf_mem (h:=r) hg;⟨o,List.mem_cons_of_mem _ ho⟩
theorem globOf_app {g:Nat} {c:List AV} (x:List Blk):∀ {h:List Blk},globOf h g=some c→globOf (h++x) g=some c
 | .glb g' c' ob::r,hg=>by
  simp only [globOf,List.cons_append] at hg ⊢
  split at hg
  · rename_i e;rw [if_pos e];exact hg
  · rename_i e;rw [if_neg e];exact globOf_app x hg
 | .cells _::r,hg=>globOf_app (h:=r) x hg
 | .map _::r,hg=>globOf_app (h:=r) x hg
 | .siter _ _::r,hg=>globOf_app (h:=r) x hg
 | .miter _ _ _ _::r,hg=>globOf_app (h:=r) x hg
 | .gone::r,hg=>globOf_app (h:=r) x hg
def aload (P:Program) (t:TypeId) (h:List Blk) (a:AV):Option AV:=
 match tk P t with
 | some k=>match a with
  | .ptr b off=>match h[b]? with
   | some (.cells c)=>getCells c off k
   | _=>none
  | .eptr c off=>getCells c off k
  | .glob g off=>match globOf h g with
   | some c=>getCells c off k
   | none=>none
  | _=>none
 | none=>none
def fits (k:TK) (x:AV):Bool:=
 match k,x with
 | .agg n,.agg cs=>cs.length==n
 | .agg _, _=>false
 | .one,.agg _=>false
 | .one,x=>okCells x
def astore (P:Program) (t:TypeId) (h:List Blk) (a v:AV):Option (List Blk):=
 match tk P t with
 | some k=>match a with
  | .ptr b off=>match h[b]? with
   | some (.cells c)=>if fits k v=true∧off+v.cells.length≤c.length then some (h.set b (.cells (putAt c off v.cells))) else none
   | _=>none
  | _=>none
 | none=>none
def astepH (P:Program) (fr:Nat→AV) (h:List Blk) (o:Oper):Option (AV×List Blk):=
 match o.op with
 | .load t a=>match aload P t h (ev fr a) with
  | some x=>some (x,h)
  | none=>none
 | .store t a v=>match astore P t h (ev fr a) (ev fr v) with
  | some h'=>some (.undef,h')
  | none=>none
 | .alloc t=>match azero P t with
  | some z=>some (.ptr h.length 0,h++[.cells z.cells])
  | none=>none
 | .box _ v=>if okCells (ev fr v) then some (.ptr h.length 0,h++[.cells (ev fr v).cells]) else none
 | _=>none
theorem fits_ok {k:TK} {x:AV} (h:fits k x=true):okCells x=true:=by
 cases k<;>cases x<;>simp_all [fits,okCells]
theorem fits_size {P:Program} {t:TypeId} {k:TK} (hk:tk P t=some k) {x:AV} (h:fits k x=true):∃i,P.info? t=some i∧x.cells.length=i.size:=by
 cases k with
 | one=>
  obtain ⟨d,i, _, _,hi,hs⟩:=tk_one hk
  refine ⟨i,hi,?_⟩
  cases x<;>simp_all [fits,AV.cells,okCells]
 | agg n=>
  obtain ⟨d,i, _, _,hi,hs⟩:=tk_agg hk
  refine ⟨i,hi,?_⟩
  cases x<;>simp_all [fits,AV.cells]
theorem putAt_eq {α:Type}:∀(xs:List α) (c:List α) (off:Nat),off+xs.length≤c.length→putAt c off xs=c.take off++xs++c.drop (off+xs.length)
 | [],c,off, _=>by simp [putAt]
 | x::xs,c,off,h=>by
  simp only [List.length_cons] at h
  rw [putAt,putAt_eq xs _ _ (by simp;omega)]
  have h1:(c.set off x).take (off+1)=c.take off++[x]:=by
   rw [List.take_add_one,List.take_set_of_le (Nat.le_refl _)]
   simp [show off<c.length by omega]
  have h2:(c.set off x).drop (off+1+xs.length)=c.drop (off+1+xs.length):=by
   rw [List.drop_set_of_lt (by omega)]
  rw [h1,h2]
  simp [List.length_cons,show off+(xs.length+1)=off+1+xs.length by omega]
theorem HRel.put {w:World} {G:Gh} {h:List Blk} {live:List Nat} (hh:HRel w G h live) {k:Nat} {x:Blk} (hk:k<G.n) (w':World) (hos:w'.os=w.os) (htape:w'.tape=w.tape) (hout:w'.output=w.output)
 (hsz:w'.heap.size=w.heap.size) (hoth:∀b,b≠G.blk k→w'.heap[b]? = w.heap[b]?) (hx:BlkRep w' G x (G.blk k)) :
 HRel w' G (h.set k x) live∧Evo w G live w' G live:=by
 have himm:∀b q,G.imm b q→w'.cell? ⟨b,q,none⟩=w.cell? ⟨b,q,none⟩:=fun b q hb=>World.cell?_of_block (hoth b (fun e=>hh.imm_blk b q k hb hk e.symm))
 refine ⟨⟨by simp [hh.len],fun j y hj=>?_,fun j hj=>by rw [hsz];exact hh.blk_lt j hj,hh.inj,fun b q hb=>by rw [hsz];exact hh.imm_lt b q hb,hh.imm_blk,fun t ht=>?_,hh.tok_ne⟩,
  ⟨hos,htape,hout,by omega,himm,fun b hb hn=>hoth b (fun e=>hn (.inl ⟨k,hk,e.symm⟩)),fun b _ hb=>hb,Ext.refl G⟩⟩
 ·
  rw [List.getElem?_set] at hj
  split at hj
  ·
   rename_i e
   subst e
   split at hj
   · cases hj;exact hx
   · simp at hj
  ·
   rename_i hne
   have hjn:j<G.n:=by rw [←hh.len];exact (List.getElem?_eq_some_iff.1 hj).1
   exact (hh.blk j y hj).mono (hoth _ (fun e=>hne (hh.inj _ _ hjn hk e).symm)) himm (Ext.refl G)
 ·
  obtain ⟨d,hd,⟨⟨cur,hc,hs⟩,h1,h2,h3,h4⟩⟩:=hh.tok t ht
  exact ⟨d,hd,⟨⟨cur,(hoth _ (fun e=>h4 k hk e.symm)).trans hc,hs⟩,h1,h2,h3,h4⟩⟩
theorem HRel.push {w:World} {G:Gh} {h:List Blk} {live:List Nat} (hh:HRel w G h live) (c:List AV) (vs:List Value) (e:TypeId) (hc:RepL w G c vs) :
 ∃G',HRel (w.alloc (.cells vs.toArray e)) G' (h++[.cells c]) live∧Evo w G live (w.alloc (.cells vs.toArray e)) G' live∧G'.n=G.n+1∧G'.blk G.n=w.heap.size:=by
 let G':Gh:={ G with n:=G.n+1,blk:=fun k=>if k=G.n then w.heap.size else G.blk k }
 have himm:∀b q,G.imm b q→(w.alloc (.cells vs.toArray e)).cell? ⟨b,q,none⟩=w.cell? ⟨b,q,none⟩:=fun b q hb=>World.cell?_alloc_lt w _ ⟨b,q,none⟩ (hh.imm_lt b q hb)
 have hold:∀k,k<G.n→G'.blk k=G.blk k:=fun k hk=>if_neg (by omega)
 have hnew:G'.blk G.n=w.heap.size:=if_pos rfl
 have hext:Ext G G':=⟨Nat.le_succ _,hold,fun _ _ h=>h,fun _ _ h=>h⟩
 have hcase:∀k,k<G.n+1→k=G.n∨k<G.n:=fun k hk=>by omega
 refine ⟨G',⟨by simp [hh.len,G'],fun k x hx=>?_,fun k hk=>?_,fun j k hj hk hjk=>?_,fun b q hb=>?_,fun b q k hb hk=>?_,fun t ht=>?_,hh.tok_ne⟩,
  ⟨rfl,rfl,rfl,by simp,himm,fun b hb _=>Below.heap_alloc w _ b hb,fun b hb ho=>?_,hext⟩,rfl,hnew⟩
 ·
  have hkl:=(List.getElem?_eq_some_iff.1 hx).1
  simp [hh.len] at hkl
  rcases hcase k hkl with rfl | hk
  ·
   rw [hnew]
   rw [List.getElem?_append_right (by rw [hh.len];exact Nat.le_refl _)] at hx
   simp [hh.len] at hx
   subst hx
   refine ⟨vs.toArray,e,heap_alloc_new w _,by simpa using hc.1,fun i hi=>?_⟩
   have:=hc.2 i hi
   exact ⟨by simpa [List.getD_eq_getElem?_getD] using this.1,by simpa [List.getD_eq_getElem?_getD] using this.2.mono himm hext⟩
  ·
   rw [hold k hk]
   rw [List.getElem?_append_left (by rw [hh.len];exact hk)] at hx
   exact (hh.blk k x hx).mono (Below.heap_alloc w _ _ (hh.blk_lt k hk)) himm hext
 ·
  rcases hcase k hk with rfl | hk
  · rw [hnew];simp
  · rw [hold k hk];have:=hh.blk_lt k hk;simp;omega
 ·
  rcases hcase j hj with rfl | hj<;>rcases hcase k hk with rfl | hk
  · rfl
  · rw [hnew,hold k hk] at hjk;have:=hh.blk_lt k hk;omega
  · rw [hnew,hold j hj] at hjk;have:=hh.blk_lt j hj;omega
  · rw [hold j hj,hold k hk] at hjk;exact hh.inj j k hj hk hjk
 · have:=hh.imm_lt b q hb;simp;omega
 ·
  rcases hcase k hk with rfl | hk
  · rw [hnew];have:=hh.imm_lt b q hb;omega
  · rw [hold k hk];exact hh.imm_blk b q k hb hk
 ·
  obtain ⟨d,hd,⟨⟨cur,hc',hs⟩,h1,h2,h3,h4⟩⟩:=hh.tok t ht
  have hl:d.b<w.heap.size:=(Array.getElem?_eq_some_iff.1 hc').1
  refine ⟨d,hd,⟨⟨cur,(Below.heap_alloc w _ _ hl).trans hc',hs⟩,h1,h2,h3,fun k hk=>?_⟩⟩
  rcases hcase k hk with rfl | hk
  · rw [hnew];omega
  · rw [hold k hk];exact h4 k hk
 ·
  rcases ho with ⟨k,hk,hkb⟩ | ho
  ·
   rcases hcase k hk with rfl | hk
   · rw [hnew] at hkb;omega
   · rw [hold k hk] at hkb;exact .inl ⟨k,hk,hkb⟩
  · exact .inr ho
theorem cellsAt_blk {w:World} {G:Gh} {h:List Blk} {live:List Nat} (hh:HRel w G h live) {k:Nat} {c:List AV} (hk:h[k]? = some (.cells c)):CellsAt w G (G.blk k) 0 c:=by
 obtain ⟨vs,e,h1,h2,h3⟩:=hh.blk k _ hk
 refine ⟨fun i=>vs.getD i undef,fun i hi=>⟨?_,h3 i hi⟩⟩
 rw [Nat.zero_add,cell_of_row w _ i vs e _ h1]
 have:i<vs.size:=by omega
 simp [this]
theorem aload_sound {P:Program} {w:World} {G:Gh} {h:List Blk} {live:List Nat} {t:TypeId} {a:AV} {v:Value} (hh:HRel w G h live) (ha:Rep w G a v) {x:AV} (hx:aload P t h a=some x) :
 ∃z,(Instr.loadAt t v).run P w=.ok z w∧Rep w G x z:=by
 unfold aload at hx
 split at hx
 ·
  rename_i k hk
  split at hx
  ·
   rename_i b off
   split at hx
   ·
    rename_i c hc
    cases ha
    obtain ⟨z,hz,hr⟩:=load_sound (P:=P) hk (cellsAt_blk hh hc) hx
    refine ⟨z,?_,hr⟩
    rw [Nat.zero_add] at hz
    simp [Instr.loadAt,Instr.sureAddr,hz]
   · simp at hx
  ·
   rename_i c off
   cases ha
   rename_i b o f hi hc ho hr
   obtain ⟨z,hz,hr⟩:=load_sound (P:=P) hk (⟨f,fun i hi=>⟨hc i hi,ho i hi,hr i hi⟩⟩:CellsAt w G b o c) hx
   exact ⟨z,by simp [Instr.loadAt,Instr.sureAddr,hz],hr⟩
  ·
   rename_i g off
   split at hx
   ·
    rename_i c hc
    cases ha
    obtain ⟨ob,hmem⟩:=globOf_mem hc
    obtain ⟨i,hi,hib⟩:=List.mem_iff_getElem.1 hmem
    have hb:=hh.blk i (.glb g c ob) (by rw [List.getElem?_eq_getElem hi,hib])
    obtain ⟨e0,vs,e,fz, _,h1,h2,h3⟩:=hb
    rw [e0] at h1
    have hca:CellsAt w G g 0 c:=⟨fun i=>vs.getD i undef,fun i hi=>⟨by
     rw [Nat.zero_add,cell_of_row w _ i vs e _ h1]
     have:i<vs.size:=by omega
     simp [this],h3 i hi⟩⟩
    obtain ⟨z,hz,hr⟩:=load_sound (P:=P) hk hca hx
    rw [Nat.zero_add] at hz
    exact ⟨z,by simp [Instr.loadAt,Instr.sureAddr,hz],hr⟩
   · simp at hx
  · simp at hx
 · simp at hx
theorem astore_sound {P:Program} {w:World} {G:Gh} {h h':List Blk} {live:List Nat} {t:TypeId} {a x:AV} {u v:Value} (hh:HRel w G h live) (ha:Rep w G a u) (hv:Rep w G x v) (hx:astore P t h a x=some h') :
 ∃w',(Instr.storeAt t u v).run P w=.ok () w'∧HRel w' G h' live∧Evo w G live w' G live:=by
 unfold astore at hx
 split at hx
 ·
  rename_i k hk
  split at hx
  ·
   rename_i b off
   split at hx
   ·
    rename_i c hc
    split at hx
    ·
     rename_i hcond
     obtain ⟨hf,hle⟩:=hcond
     cases hx
     cases ha
     rename_i hb
     obtain ⟨vs,e,h1,h2,h3⟩:=hh.blk b _ hc
     obtain ⟨i,hi,hsz⟩:=fits_size hk hf
     have hcells:=rep_cells hv (fits_ok hf)
     have hvs:v.cells.size=i.size:=by rw [←hsz,←hcells.1];simp
     have hst:=run_storeCells_at P (G.blk b) off e v.cells.toList 0 vs w h1 (by simp;rw [h2,hvs,←hsz];exact hle) (fun y hy=>by
      obtain ⟨q,hq,rfl⟩:=List.mem_iff_getElem.1 hy
      have hq':q<v.cells.size:=by simpa using hq
      have:=(hcells.2 q (by rw [←hcells.1];exact hq)).1
      simpa [List.getD_eq_getElem?_getD,hq'] using this)
     simp only [Nat.add_zero] at hst
     refine ⟨w.setRow (G.blk b) (vs.toList.take off++v.cells.toList++vs.toList.drop (off+v.cells.toList.length)).toArray,by simp [Instr.storeAt,Instr.sureAddr,storeVar,sizeOf,typeInfo,hi,hvs,hst],?_⟩
     ·
      refine hh.put hb (w.setRow (G.blk b) (vs.toList.take off++v.cells.toList++vs.toList.drop (off+v.cells.toList.length)).toArray) rfl rfl rfl (by simp) (fun q hq=>setRow_other w _ q _ hq) ?_
      have himm:∀b' q,G.imm b' q→(w.setRow (G.blk b) (vs.toList.take off++v.cells.toList++vs.toList.drop (off+v.cells.toList.length)).toArray).cell? ⟨b',q,none⟩=w.cell? ⟨b',q,none⟩:=fun b' q hbq=>
       World.cell?_of_block (setRow_other w _ b' _ (fun e=>hh.imm_blk b' q b hbq hb e.symm))
      refine ⟨_,e,setRow_heap w _ vs _ e _ h1,?_,fun j hj=>?_⟩
      · rw [putAt_length];simp;rw [hvs,←hsz];omega
      ·
       have hrl:RepL w G c vs.toList:=⟨by simpa using h2,fun i hi=>by simpa [List.getD_eq_getElem?_getD] using h3 i hi⟩
       have:=(hrl.putAt hcells hle).2 j hj
       rw [putAt_eq v.cells.toList vs.toList off (by simp;rw [h2,hvs,←hsz];exact hle)] at this
       exact ⟨by simpa [List.getD_eq_getElem?_getD] using this.1,by simpa [List.getD_eq_getElem?_getD] using this.2.mono himm (Ext.refl G)⟩
    · simp at hx
   · simp at hx
  · simp at hx
 · simp at hx
theorem astepH_sound {P:Program} {fr:Nat→AV} {h:List Blk} {live:List Nat} {o:Oper} {x:AV} {h':List Blk} (hx:astepH P fr h o=some (x,h')):AOp P fr h live o (ret x h' live):=by
 obtain ⟨dst,op,ty,pos,after,guard⟩:=o
 cases op with
 | load t a=>
  intro w G ρ hρ hr hh
  simp only [astepH] at hx
  split at hx
  ·
   rename_i y hy
   cases hx
   obtain ⟨z,hz,hrz⟩:=aload_sound (P:=P) hh (hr a (by simp [Op.operands])) hy
   simp only [execOp]
   rw [run_value hz]
   exact ⟨_, _, _,G,⟨rfl,rfl,rfl⟩,hrz,hh,Evo.refl _ _ _⟩
  · simp at hx
 | store t a v=>
  intro w G ρ hρ hr hh
  simp only [astepH] at hx
  split at hx
  ·
   rename_i y hy
   cases hx
   obtain ⟨w',hz,hh',he⟩:=astore_sound (P:=P) hh (hr a (by simp [Op.operands])) (hr v (by simp [Op.operands])) hy
   simp only [execOp,Sem.run_bind,hz,Result.andThen_ok,Sem.run_pure]
   exact ⟨_, _, _,G,⟨rfl,rfl,rfl⟩,.undef _,hh',he⟩
  · simp at hx
 | alloc t=>
  intro w G ρ hρ hr hh
  simp only [astepH] at hx
  split at hx
  ·
   rename_i z hz
   cases hx
   obtain ⟨i,zv,hi,hz',hrun,hrep,hrepl⟩:=azero_sound (w:=w) (G:=G) hz
   obtain ⟨G',hh',he,hn,hb⟩:=hh.push z.cells zv.cells.toList t hrepl
   simp only [execOp,Instr.alloc,Sem.run_bind,hrun,Result.andThen_ok,newVar,newRow,run_newObj,Sem.run_pure,AUpon]
   refine ⟨_, _, _,G',⟨rfl,rfl,rfl⟩,?_,by simpa using hh',by simpa using he⟩
   have:=Rep.ptr (w:=w.alloc (.cells zv.cells t)) (G:=G') h.length 0 (by rw [hn,hh.len];exact Nat.lt_succ_self _)
   rw [hh.len,hb] at this
   rw [hh.len]
   exact this
  · simp at hx
 | box t v=>
  intro w G ρ hρ hr hh
  simp only [astepH] at hx
  split at hx
  ·
   rename_i hok
   cases hx
   obtain ⟨G',hh',he,hn,hb⟩:=hh.push (ev fr v).cells (ρ v).cells.toList t (rep_cells (hr v (by simp [Op.operands])) hok)
   simp only [execOp,Instr.box,Sem.run_bind,newVar,newRow,run_newObj,Sem.run_pure,Result.andThen_ok,AUpon]
   refine ⟨_, _, _,G',⟨rfl,rfl,rfl⟩,?_,by simpa using hh',by simpa using he⟩
   have:=Rep.ptr (w:=w.alloc (.cells (ρ v).cells t)) (G:=G') h.length 0 (by rw [hn,hh.len];exact Nat.lt_succ_self _)
   rw [hh.len,hb] at this
   rw [hh.len]
   exact this
  · simp at hx
 | _=>simp [astepH] at hx
end Go.Ab
namespace Go.Ab
open Go.RowKit
def CapOK (live:List Nat) (c:Cap):Prop:=c=.full∨∃t,c=.own t∧t∈live
def Keeps (live:List Nat) (c:Cap) (live':List Nat) (c':Cap):Prop:=CapOK live' c'∧∀u,u∈live→c≠.own u→u∈live'∧c'≠.own u
theorem Keeps.refl {live:List Nat} {c:Cap} (h:CapOK live c):Keeps live c live c:=⟨h,fun _ h k=>⟨h,k⟩⟩
theorem Keeps.trans {la lb lc:List Nat} {a b c:Cap} (h:Keeps la a lb b) (k:Keeps lb b lc c):Keeps la a lc c:=⟨k.1,fun u hu hn=>k.2 u (h.2 u hu hn).1 (h.2 u hu hn).2⟩
theorem Keeps.ok {la lb:List Nat} {a b:Cap} (h:Keeps la a lb b):CapOK lb b:=h.1
def flatV (sz n:Nat) (f:Nat→Nat→Value):List Value:=(List.range (n*sz)).map fun q=>f (q / sz) (q%sz)
theorem flatV_length (sz n:Nat) (f:Nat→Nat→Value):(flatV sz n f).length=n*sz:=by simp [flatV]
theorem divmod_lt {sz n q:Nat} (h:q<n*sz):q / sz<n∧q%sz<sz∧q / sz*sz+q%sz=q:=by
 have hs:0<sz:=by
  rcases Nat.eq_zero_or_pos sz with rfl | h'
  · simp at h
  · exact h'
 exact ⟨(Nat.div_lt_iff_lt_mul hs).2 h,Nat.mod_lt _ hs,Nat.div_add_mod' q sz⟩
theorem flat_lt {sz n i j:Nat} (hi:i<n) (hj:j<sz):i*sz+j<n*sz:=by
 have:=Nat.mul_le_mul_right sz (show i+1≤n from hi)
 rw [Nat.add_mul] at this
 omega
theorem flatV_get {sz n i j:Nat} (f:Nat→Nat→Value) (hi:i<n) (hj:j<sz):(flatV sz n f)[i*sz+j]? = some (f i j):=by
 have hs:0<sz:=by omega
 have h1:(i*sz+j) / sz=i:=by rw [Nat.mul_comm,Nat.mul_add_div hs,Nat.div_eq_of_lt hj];rfl
 have h2:(i*sz+j)%sz=j:=by rw [Nat.mul_comm,Nat.mul_add_mod,Nat.mod_eq_of_lt hj]
 simp [flatV,List.getElem?_range (flat_lt hi hj),h1,h2]
theorem flatV_cells {w:World} {b o sz n:Nat} {f:Nat→Nat→Value} (hc:∀i j,i<n→j<sz→w.cell? ⟨b,o+(i*sz+j),none⟩=some (f i j)) :
 ∀(j:Nat) (v:Value),(flatV sz n f)[j]? = some v→w.cell? ((⟨b,o,none⟩:Addr).add j)=some v:=by
 intro j v hv
 have hj:j<n*sz:=by rw [←flatV_length sz n f];exact (List.getElem?_eq_some_iff.1 hv).1
 obtain ⟨h1,h2,h3⟩:=divmod_lt hj
 have hv':=flatV_get f h1 h2
 rw [h3] at hv'
 rw [hv'] at hv
 cases hv
 have:=hc _ _ h1 h2
 rw [h3] at this
 rw [Addr.add_lit]
 exact this
theorem flatV_one {sz n:Nat} {f:Nat→Nat→Value} (hc:∀i j,i<n→j<sz→(f i j).oneCell'=true):∀v∈flatV sz n f,v.oneCell'=true:=by
 intro v hv
 simp only [flatV,List.mem_map,List.mem_range] at hv
 obtain ⟨q,hq,rfl⟩:=hv
 obtain ⟨h1,h2, _⟩:=divmod_lt hq
 exact hc _ _ h1 h2
section
variable {P:Program} {w:World} {G:Gh} {h:List Blk} {live:List Nat}
theorem append_room (t ty e e':TypeId) (i:TypeInfo) (ht:P.underlying t=some (.slice e)) (hi:P.info? e=some i)
 (g sLen sCap:Nat) (cur:Array Value) (hg:w.heap[g]? = some (.cells cur e' (0,0)))
 (a:Addr) (m c:Nat) (news:List Value) (hl:news.length=m*i.size) (hnews:∀(j:Nat) (u:Value),news[j]? = some u→w.cell? (a.add j)=some u) (h1:∀u∈news,u.oneCell'=true)
 (hroom:sLen+m≤sCap) (hfit:sLen*i.size+news.length≤cur.size) :
 (Builtin.append_ #[t,t] ty #[.slice (some ⟨g,0,none⟩) sLen sCap,.slice (some a) m c]).run P w =
  .ok (.slice (some ⟨g,0,none⟩) (sLen+m) sCap) (w.setRow g (cur.toList.take (sLen*i.size)++news++cur.toList.drop (sLen*i.size+news.length)).toArray):=by
 have hf:=run_firstCells_some (P:=P) w i.size m a m c news hl hnews
 have hst:=run_storeCells_at P g (sLen*i.size) e' news 0 cur w hg (by simpa using hfit) h1
 simp only [Nat.add_zero] at hst
 simp [Builtin.append_,run_underlying ht,sizeOf,typeInfo,hi,Builtin.lenOf,hroom,hf,Addr.add_lit,hst]
theorem append_zero {t ty e:TypeId} {i:TypeInfo} (ht:P.underlying t=some (.slice e)) (hi:P.info? e=some i) (base base':Option Addr) (n cap cap':Nat) (hn:n≤cap) :
 (Builtin.append_ #[t,t] ty #[.slice base n cap,.slice base' 0 cap']).run P w=.ok (.slice base n cap) w:=by
 cases base<;>cases base'<;>simp [Builtin.append_,run_underlying ht,sizeOf,typeInfo,hi,Builtin.lenOf,hn,Builtin.firstCells,loadCells,loadCellsFrom,storeCells]
theorem HRel.grow (hh:HRel w G h live) (vs:Array Value) (e:TypeId) (sz len cap:Nat) (hvs:vs.size=cap*sz) (hlc:len≤cap) (hmax:cap≤maxLen) :
 let w':=w.drew.alloc (.cells vs e)
 let G':Gh:={ G with imm:=fun b q=>G.imm b q∨(b=w.heap.size∧q<len*sz),toks:=G.toks++[⟨w.heap.size,e,sz,len,cap⟩] }
 HRel w' G' h (G.toks.length::live)∧Evo w G live w' G' (G.toks.length::live):=by
 intro w' G'
 have hcell:∀a,w'.cell? a=(w.alloc (.cells vs e)).cell? a:=fun _=>rfl
 have hheap:∀b,b<w.heap.size→w'.heap[b]? = w.heap[b]? := fun b hb=>Below.heap_alloc w.drew _ b hb
 have hnew:w'.heap[w.heap.size]? = some (.cells vs e (0,0)):=heap_alloc_new w.drew _
 have hsize:w'.heap.size=w.heap.size+1:=by show (w.drew.alloc _).heap.size=_;simp
 have himm:∀b q,G.imm b q→w'.cell? ⟨b,q,none⟩=w.cell? ⟨b,q,none⟩:=fun b q hb=>World.cell?_alloc_lt w _ ⟨b,q,none⟩ (hh.imm_lt b q hb)
 have htok:∀(t:Nat) (d:Tok),G.toks[t]? = some d→G'.toks[t]? = some d:=fun t d hd=>by
  show (G.toks++_)[t]? = _
  rw [List.getElem?_append_left (List.getElem?_eq_some_iff.1 hd).1];exact hd
 have hext:Ext G G':=⟨Nat.le_refl _,fun _ _=>rfl,fun _ _ h=>.inl h,htok⟩
 have htl:∀d,TokOk w G d→d.b<w.heap.size:=fun d ⟨⟨cur,hc, _⟩, _⟩=>(Array.getElem?_eq_some_iff.1 hc).1
 have hme:G'.toks[G.toks.length]? = some ⟨w.heap.size,e,sz,len,cap⟩:=by show (G.toks++_)[G.toks.length]? = _;simp
 have hlt:∀t,t∈live→t<G.toks.length:=fun t ht=>by obtain ⟨d,hd, _⟩:=hh.tok t ht;exact (List.getElem?_eq_some_iff.1 hd).1
 have hinv:∀t,t∈live→∀d,G'.toks[t]? = some d→G.toks[t]? = some d:=fun t ht d hd=>by
  have:(G.toks++[(⟨w.heap.size,e,sz,len,cap⟩:Tok)])[t]? = some d:=hd
  rwa [List.getElem?_append_left (hlt t ht)] at this
 refine ⟨⟨hh.len,fun k x hx=>?_,fun k hk=>?_,hh.inj,fun b q hb=>?_,fun b q k hb hk=>?_,fun t ht=>?_,fun t u d d' ht hu hd hd' hb=>?_⟩,
  ⟨rfl,rfl,rfl,by omega,himm,fun b hb _=>hheap b hb,fun b hb ho=>?_,hext⟩⟩
 ·
  have hk:k<G.n:=by rw [←hh.len];exact (List.getElem?_eq_some_iff.1 hx).1
  exact (hh.blk k x hx).mono (hheap _ (hh.blk_lt k hk)) himm hext
 · have:=hh.blk_lt k hk;show G.blk k<_;omega
 ·
  rcases hb with hb | ⟨rfl, _⟩
  · have:=hh.imm_lt b q hb;omega
  · omega
 ·
  rcases hb with hb | ⟨rfl, _⟩
  · exact hh.imm_blk b q k hb hk
  · have:=hh.blk_lt k hk;show G.blk k≠_;omega
 ·
  rcases List.mem_cons.1 ht with rfl | ht
  ·
   refine ⟨_,hme,⟨vs,hnew,hvs⟩,hlc,hmax,fun q hq hi=>?_,fun k hk=>?_⟩
   ·
    rcases hi with hi | ⟨_,hi⟩
    · have:w.heap.size<w.heap.size:=hh.imm_lt _ _ hi;omega
    ·
     have hq:len*sz≤q:=hq
     omega
   · have:=hh.blk_lt k hk;show G.blk k≠_;simp only [];omega
  ·
   obtain ⟨d,hd,hok⟩:=hh.tok t ht
   have hl:=htl d hok
   obtain ⟨⟨cur,hc,hs⟩,h1,h2,h3,h4⟩:=hok
   refine ⟨d,htok t d hd,⟨⟨cur,(hheap _ hl).trans hc,hs⟩,h1,h2,fun q hq hi=>?_,h4⟩⟩
   rcases hi with hi | ⟨hi, _⟩
   · exact h3 q hq hi
   · omega
 ·
  have hbl:∀t,t∈live→∀d,G.toks[t]? = some d→d.b<w.heap.size:=fun t ht d hd=>by
   obtain ⟨d2,hd2,hok⟩:=hh.tok t ht
   rw [hd] at hd2;cases hd2
   exact htl d hok
  rcases List.mem_cons.1 ht with rfl | ht<;>rcases List.mem_cons.1 hu with rfl | hu
  · rfl
  ·
   rw [hme] at hd;cases hd
   have:=hbl u hu d' (hinv u hu d' hd');simp only [] at hb;omega
  ·
   rw [hme] at hd';cases hd'
   have:=hbl t ht d (hinv t ht d hd);simp only [] at hb;omega
  · exact hh.tok_ne t u d d' ht hu (hinv t ht d hd) (hinv u hu d' hd') hb
 ·
  rcases ho with ho | ⟨t,d,ht,hd,hb'⟩
  · exact .inl ho
  ·
   rcases List.mem_cons.1 ht with rfl | ht
   ·
    rw [hme] at hd;cases hd
    simp only [] at hb';omega
   · exact .inr ⟨t,d,ht,hinv t ht d hd,hb'⟩
theorem HRel.fillUp (hh:HRel w G h live) {t:Nat} (ht:t∈live) {d:Tok} (hd:G.toks[t]? = some d) (cur vs:Array Value) (hcur:w.heap[d.b]? = some (.cells cur d.e (0,0))) (q:Nat) (hq:d.len+q≤d.cap)
 (hvs:vs.size=d.cap*d.sz) (hsame:∀j,j<d.len*d.sz→vs[j]? = cur[j]?) :
 let w':=w.setRow d.b vs
 let G':Gh:={ G with imm:=fun b o=>G.imm b o∨(b=d.b∧d.len*d.sz≤o∧o<(d.len+q)*d.sz),toks:=G.toks++[⟨d.b,d.e,d.sz,d.len+q,d.cap⟩] }
 HRel w' G' h (G.toks.length::live.filter (· ≠ t))∧Evo w G live w' G' (G.toks.length::live.filter (· ≠ t)):=by
 intro w' G'
 obtain ⟨d2,hd2,⟨⟨cur2,hc2,hs2⟩,k1,k2,k3,k4⟩⟩:=hh.tok t ht
 rw [hd] at hd2;cases hd2
 have hbl:d.b<w.heap.size:=(Array.getElem?_eq_some_iff.1 hcur).1
 have hoth:∀b,b≠d.b→w'.heap[b]? = w.heap[b]? := fun b hb=>setRow_other w _ b _ hb
 have hself:w'.heap[d.b]? = some (.cells vs d.e (0,0)):=setRow_heap w _ cur vs d.e _ hcur
 have hsize:w'.heap.size=w.heap.size:=by simp [w']
 have himm:∀b o,G.imm b o→w'.cell? ⟨b,o,none⟩=w.cell? ⟨b,o,none⟩:=fun b o hb=>by
  by_cases hbd:b=d.b
  ·
   subst hbd
   have ho:o<d.len*d.sz:=by
    rcases Nat.lt_or_ge o (d.len*d.sz) with h' | h'
    · exact h'
    · exact (k3 o h' hb).elim
   rw [cell_of_row w' _ o vs d.e _ hself,cell_of_row w _ o cur d.e _ hcur]
   exact hsame o ho
  · exact World.cell?_of_block (hoth b hbd)
 have htok:∀(t:Nat) (d:Tok),G.toks[t]? = some d→G'.toks[t]? = some d:=fun t d hd=>by
  show (G.toks++_)[t]? = _
  rw [List.getElem?_append_left (List.getElem?_eq_some_iff.1 hd).1];exact hd
 have hext:Ext G G':=⟨Nat.le_refl _,fun _ _=>rfl,fun _ _ h=>.inl h,htok⟩
 have hme:G'.toks[G.toks.length]? = some ⟨d.b,d.e,d.sz,d.len+q,d.cap⟩:=by show (G.toks++_)[G.toks.length]? = _;simp
 have hlt:∀t,t∈live→t<G.toks.length:=fun t ht=>by obtain ⟨d,hd, _⟩:=hh.tok t ht;exact (List.getElem?_eq_some_iff.1 hd).1
 have hinv:∀u,u∈live→∀d',G'.toks[u]? = some d'→G.toks[u]? = some d':=fun u hu d' hd'=>by
  have:(G.toks++[(⟨d.b,d.e,d.sz,d.len+q,d.cap⟩:Tok)])[u]? = some d':=hd'
  rwa [List.getElem?_append_left (hlt u hu)] at this
 have hmem:∀u,u∈live.filter (· ≠ t)→u∈live∧u≠t:=fun u hu=>by simpa using hu
 refine ⟨⟨hh.len,fun k x hx=>?_,fun k hk=>by rw [hsize];exact hh.blk_lt k hk,hh.inj,fun b o hb=>?_,fun b o k hb hk=>?_,fun u hu=>?_,fun u v d1 d2 hu hv hd1 hd2 hb=>?_⟩,
  ⟨rfl,rfl,rfl,by omega,himm,fun b hb hn=>hoth b (fun e=>hn (.inr ⟨t,d,ht,hd,e.symm⟩)),fun b hb ho=>?_,hext⟩⟩
 ·
  have hk:k<G.n:=by rw [←hh.len];exact (List.getElem?_eq_some_iff.1 hx).1
  exact (hh.blk k x hx).mono (hoth _ (k4 k hk)) himm hext
 ·
  rw [hsize]
  rcases hb with hb | ⟨rfl, _⟩
  · exact hh.imm_lt b o hb
  · exact hbl
 ·
  rcases hb with hb | ⟨rfl, _⟩
  · exact hh.imm_blk b o k hb hk
  · exact k4 k hk
 ·
  rcases List.mem_cons.1 hu with rfl | hu
  ·
   refine ⟨_,hme,⟨vs,hself,hvs⟩,hq,k2,fun o ho hi=>?_,k4⟩
   rcases hi with hi | ⟨_, _,hi⟩
   ·
    have:d.len*d.sz≤(d.len+q)*d.sz:=Nat.mul_le_mul_right _ (by omega)
    exact k3 o (by simp only [] at ho;omega) hi
   · simp only [] at ho;omega
  ·
   obtain ⟨hu,hut⟩:=hmem u hu
   obtain ⟨d',hd',⟨⟨cur',hc',hs'⟩,h1,h2,h3,h4⟩⟩:=hh.tok u hu
   have hbne:d'.b≠d.b:=fun e=>hut (hh.tok_ne u t d' d hu ht hd' hd e)
   refine ⟨d',htok u d' hd',⟨⟨cur',(hoth _ hbne).trans hc',hs'⟩,h1,h2,fun o ho hi=>?_,h4⟩⟩
   rcases hi with hi | ⟨hi, _⟩
   · exact h3 o ho hi
   · exact hbne hi
 ·
  rcases List.mem_cons.1 hu with rfl | hu<;>rcases List.mem_cons.1 hv with rfl | hv
  · rfl
  ·
   obtain ⟨hv,hvt⟩:=hmem v hv
   rw [hme] at hd1;cases hd1
   exact (hvt (hh.tok_ne v t d2 d hv ht (hinv v hv d2 hd2) hd hb.symm)).elim
  ·
   obtain ⟨hu,hut⟩:=hmem u hu
   rw [hme] at hd2;cases hd2
   exact (hut (hh.tok_ne u t d1 d hu ht (hinv u hu d1 hd1) hd hb)).elim
  · exact hh.tok_ne u v d1 d2 (hmem u hu).1 (hmem v hv).1 (hinv u (hmem u hu).1 d1 hd1) (hinv v (hmem v hv).1 d2 hd2) hb
 ·
  rcases ho with ho | ⟨u,d',hu,hd',hb'⟩
  · exact .inl ho
  ·
   rcases List.mem_cons.1 hu with rfl | hu
   ·
    rw [hme] at hd';cases hd'
    exact .inr ⟨t,d,ht,hd,hb'⟩
   · exact .inr ⟨u,d',(hmem u hu).1,hinv u (hmem u hu).1 d' hd',hb'⟩
theorem both_get {sz n m i j:Nat} (f g:Nat→Nat→Value) (tail:List Value) (hi:i<n+m) (hj:j<sz) :
 (flatV sz n f++flatV sz m g++tail)[i*sz+j]? = some (if i<n then f i j else g (i - n) j):=by
 rw [List.getElem?_append_left (by rw [List.length_append,flatV_length,flatV_length,←Nat.add_mul];exact flat_lt hi hj)]
 by_cases h1:i<n
 ·
  rw [if_pos h1,List.getElem?_append_left (by rw [flatV_length];exact flat_lt h1 hj)]
  exact flatV_get f h1 hj
 ·
  rw [if_neg h1,List.getElem?_append_right (by rw [flatV_length];have:=Nat.mul_le_mul_right sz (show n≤i by omega);omega),flatV_length]
  have:i*sz+j - n*sz=(i - n)*sz+j:=by
   have h2:i*sz=(i - n)*sz+n*sz:=by rw [←Nat.add_mul];congr 1;omega
   omega
  rw [this]
  exact flatV_get g (by omega) hj
theorem getD_append' {α:Type} (l m:List α) (i:Nat) (d:α):(l++m).getD i d=if i<l.length then l.getD i d else m.getD (i - l.length) d:=by
 simp only [List.getD_eq_getElem?_getD,List.getElem?_append]
 split<;>rfl
theorem append_sound {fr:Nat→AV} {o:Oper} {K:KT} (s x:Operand) (t e:TypeId) (ho:o.op=.call { callee:=.builtin .append,args := #[s,x],argTypes := #[t,t] })
 (i:TypeInfo) (z:Value) (ht:P.underlying t=some (.slice e)) (hi:P.info? e=some i) (hz:i.zero=some z) (hzs:z.cells.size=i.size) (hsz:0<i.size)
 {l m:List AV} {c c2:Cap} (hs:ev fr s=.slice l c) (hx:ev fr x=.slice m c2) (hc:CapOK live c)
 (hl:∀y∈l,y.cells.length=i.size) (hm:∀y∈m,y.cells.length=i.size) (hbytes:(l.length+m.length)*i.bytes≤140737488355328) (hmx:l.length+m.length≤140737488355328)
 (hK:∀c' live',Keeps live c live' c'→K (.slice (l++m) c') h live'):AOp P fr h live o K:=by
 intro w G ρ hρ hr hh
 obtain ⟨dst,op,ty,pos,after,guard⟩:=o
 simp only at ho
 subst ho
 have hrs:=hr s (by simp [Op.operands,Call.operands])
 have hrx:=hr x (by simp [Op.operands,Call.operands])
 rw [hs] at hrs;rw [hx] at hrx
 have hgl:∀q,q<l.length→(l.getD q .undef).cells.length=i.size:=fun q hq=>hl _ (by rw [List.getD_eq_getElem?_getD,List.getElem?_eq_getElem hq];exact List.getElem_mem hq)
 have hgm:∀q,q<m.length→(m.getD q .undef).cells.length=i.size:=fun q hq=>hm _ (by rw [List.getD_eq_getElem?_getD,List.getElem?_eq_getElem hq];exact List.getElem_mem hq)
 generalize hu:ρ s=u at hrs
 generalize hv:ρ x=v at hrx
 have hrun:∀(z':Value) (w':World),(Builtin.append_ #[t,t] ty #[u,v]).run P w=.ok z' w'→(execOp ρ ⟨dst,.call { callee:=.builtin .append,args := #[s,x],argTypes := #[t,t] },ty,pos,after,guard⟩).run P w=.ok (.value z') w':=fun z' w' hz'=>by
  simp [execOp,resolve,invoke,builtin,hu,hv,hz']
 by_cases hm0:m=[]
 ·
  subst hm0
  have key:∃base n cap base' cap',u=.slice base n cap∧n≤cap∧v=.slice base' 0 cap':=by
   cases hrs with
   | nilSlice=>cases hrx with
    | nilSlice=>exact ⟨_, _, _, _, _,rfl,Nat.le_refl _,rfl⟩
    | emptySlice=>exact ⟨_, _, _, _, _,rfl,Nat.le_refl _,rfl⟩
    | slice=>exact ⟨_, _, _, _, _,rfl,Nat.le_refl _,rfl⟩
   | emptySlice=>cases hrx with
    | nilSlice=>exact ⟨_, _, _, _, _,rfl,Nat.le_refl _,rfl⟩
    | emptySlice=>exact ⟨_, _, _, _, _,rfl,Nat.le_refl _,rfl⟩
    | slice=>exact ⟨_, _, _, _, _,rfl,Nat.le_refl _,rfl⟩
   | slice _ _ b o cap sz f hcap=>cases hrx with
    | nilSlice=>exact ⟨_, _, _, _, _,rfl,hcap,rfl⟩
    | emptySlice=>exact ⟨_, _, _, _, _,rfl,hcap,rfl⟩
    | slice=>exact ⟨_, _, _, _, _,rfl,hcap,rfl⟩
  obtain ⟨base,n,cap,base',cap',rfl,hn,rfl⟩:=key
  rw [hrun _ _ (append_zero ht hi base base' n cap cap' hn)]
  refine ⟨_,h,live,G,hK c live (Keeps.refl hc),?_,hh,Evo.refl _ _ _⟩
  rw [List.append_nil]
  exact hrs
 ·
  have hmpos:0<m.length:=List.length_pos_iff.2 hm0
  cases hrx with
  | nilSlice=>simp at hm0
  | emptySlice=>simp at hm0
  | slice _ _ b2 o2 cap2 sz2 g hcap2 hmax2 hsz2 himm2 hcell2 hone2 hrep2 hcc2=>
   have e2:sz2=i.size:=by rw [←hsz2 0 hmpos];exact hgm 0 hmpos
   subst e2
   have hnews:=flatV_cells hcell2
   have hnone:=flatV_one hone2
   have hnl:=flatV_length i.size m.length g
   have h63:l.length+m.length≤maxLen:=by unfold maxLen;omega
   have fin:∀(w':World) (G':Gh) (live':List Nat) (b cap:Nat) (f:Nat→Nat→Value) (t':Nat) (e':TypeId),Evo w G live w' G' live'→HRel w' G' h live' →
    l.length+m.length≤cap→cap≤maxLen →
    (∀q j,q<l.length→j<i.size→(f q j).oneCell'=true∧Rep w G ((l.getD q .undef).cells.getD j .undef) (f q j)) →
    (∀q,q<(l.length+m.length)*i.size→G'.imm b q) →
    (∀q j,q<l.length+m.length→j<i.size→w'.cell? ⟨b,q*i.size+j,none⟩=some (if q<l.length then f q j else g (q - l.length) j)) →
    G'.toks[t']? = some ⟨b,e',i.size,l.length+m.length,cap⟩→t'∈live'→t'=G.toks.length→(∀u,u∈live→c≠.own u→u∈live') →
    Post w G live K (.slice (some ⟨b,0,none⟩) (l.length+m.length) cap) w':=by
    intro w' G' live' b cap f t' e' hev hh' hle hmx hf himm' hcell' htk htl hfr hkeep
    refine ⟨.slice (l++m) (.own t'),h,live',G',hK _ _ ⟨.inr ⟨t',rfl,htl⟩,fun u hu hn=>⟨hkeep u hu hn,fun e=>by
     cases e
     obtain ⟨d,hd, _⟩:=hh.tok _ hu
     rw [hfr] at hd
     simp at hd⟩⟩,?_,hh',hev⟩
    have key:=Rep.slice (w:=w') (G:=G') (l++m) (.own t') b 0 cap i.size (fun q j=>if q<l.length then f q j else g (q - l.length) j) (by simp;omega) hmx
     (fun q hq=>by
      simp only [List.length_append] at hq
      rw [getD_append'];split
      · exact hgl q (by assumption)
      · exact hgm _ (by omega))
     (fun q j hq hj=>by rw [Nat.zero_add];exact himm' _ (flat_lt (by simpa using hq) hj))
     (fun q j hq hj=>by rw [Nat.zero_add];exact hcell' q j (by simpa using hq) hj)
     (fun q j hq hj=>by
      simp only [List.length_append] at hq
      split
      · exact (hf q j (by assumption) hj).1
      · exact hone2 _ _ (by omega) hj)
     (fun q j hq hj=>by
      simp only [List.length_append] at hq
      rw [getD_append']
      split
      · exact hev.rep (hf q j (by assumption) hj).2
      · exact hev.rep (hrep2 _ _ (by omega) hj))
     ⟨rfl,by simp;omega,e',by simpa using htk⟩
    simpa using key
   have grow:∀(f:Nat→Nat→Value) (old:Nat),old<l.length+m.length →
    (∀q j,q<l.length→j<i.size→(f q j).oneCell'=true∧Rep w G ((l.getD q .undef).cells.getD j .undef) (f q j)) →
    Post w G live K (.slice (some ⟨w.heap.size,0,none⟩) (l.length+m.length) (grownCap w (l.length+m.length) old e))
     (w.drew.alloc (.cells ((flatV i.size l.length f).toArray++(flatV i.size m.length g).toArray++Builtin.zeroCells z.cells (grownCap w (l.length+m.length) old e - (l.length+m.length))) e)):=by
    intro f old hold hf
    have hge:=grownCap_ge w (l.length+m.length) old e
    have hcm:=grownCap_le_maxLen w (l.length+m.length) old e h63
    have hvs:((flatV i.size l.length f).toArray++(flatV i.size m.length g).toArray++Builtin.zeroCells z.cells (grownCap w (l.length+m.length) old e - (l.length+m.length))).size=grownCap w (l.length+m.length) old e*i.size:=by
     simp only [Array.size_append,List.size_toArray,size_zeroCells,hzs,flatV_length,←Nat.add_mul]
     congr 1;omega
    obtain ⟨hh',hev⟩:=hh.grow _ e i.size (l.length+m.length) (grownCap w (l.length+m.length) old e) hvs hge hcm
    refine fin _ _ _ _ _ f G.toks.length e hev hh' hge hcm hf (fun q hq=>.inr ⟨rfl,hq⟩) (fun q j hq hj=>?_) (by simp) (by simp) rfl (fun u hu _=>List.mem_cons_of_mem _ hu)
    show (w.drew.alloc _).cell? _=_
    have hc':=World.cell?_alloc_new w.drew ((flatV i.size l.length f).toArray++(flatV i.size m.length g).toArray++Builtin.zeroCells z.cells (grownCap w (l.length+m.length) old e - (l.length+m.length))) e (q*i.size+j)
    rw [World.size_drew] at hc'
    rw [hc']
    have:=both_get f g (Builtin.zeroCells z.cells (grownCap w (l.length+m.length) old e - (l.length+m.length))).toList hq hj
    rw [←this,←Array.getElem?_toList]
    simp
   have hsm:m.length*i.bytes≤140737488355328:=by
    have:=Nat.mul_le_mul_right i.bytes (show m.length≤l.length+m.length by omega)
    omega
   cases hrs with
   | nilSlice=>
    have hr':=run_append_nil (P:=P) w t ty e i z ht hi hz ⟨b2,o2,none⟩ m.length cap2 _ hnl hnews hmpos (by omega) (by omega)
    rw [hrun _ _ hr']
    have:=grow (fun _ _=>undef) 0 (by simp;exact hmpos) (fun q j hq=>by simp at hq)
    simp only [List.length_nil,Nat.zero_add] at this
    have e0:(flatV i.size 0 fun _ _=>undef).toArray = #[]:=by simp [flatV]
    rw [e0,Array.empty_append] at this
    exact this
   | emptySlice a0 _ _=>
    have hr':=run_append_grow (P:=P) w t ty e i z ht hi hz a0 0 0 [] (by simp) (by simp) ⟨b2,o2,none⟩ m.length cap2 _ hnl hnews (by omega) (by omega) (growslice_fits (by omega) (by simpa using hbytes))
    rw [hrun _ _ hr']
    have:=grow (fun _ _=>undef) 0 (by simp;exact hmpos) (fun q j hq=>by simp at hq)
    simp only [List.length_nil,Nat.zero_add] at this
    have e0:(flatV i.size 0 fun _ _=>undef).toArray = #[]:=by simp [flatV]
    rw [e0,Array.empty_append] at this
    simp only [Nat.zero_add,List.nil_append]
    rw [Array.empty_append]
    exact this
   | slice _ _ b o cap sz f hcap hmax hsz' himm hcell hone hrep hcc=>
    have hszl:0<l.length→sz=i.size:=fun h0=>by rw [←hsz' 0 h0];exact hgl 0 h0
    have hcell':∀q j,q<l.length→j<i.size→w.cell? ⟨b,o+(q*i.size+j),none⟩=some (f q j):=fun q j hq hj=>by
     have:=hszl (by omega);subst this;exact hcell q j hq hj
    have hf:∀q j,q<l.length→j<i.size→(f q j).oneCell'=true∧Rep w G ((l.getD q .undef).cells.getD j .undef) (f q j):=fun q j hq hj=>by
     have:=hszl (by omega);subst this;exact ⟨hone q j hq hj,hrep q j hq hj⟩
    by_cases hroom:l.length+m.length≤cap
    ·
     rcases hc with rfl | ⟨t0,rfl,ht0⟩
     · simp only [CapRep] at hcc;omega
     ·
      obtain ⟨rfl,hl0,e0,htk⟩:=hcc
      obtain ⟨d,hd,⟨⟨cur,hcur,hcs⟩,k1,k2,k3,k4⟩⟩:=hh.tok t0 ht0
      rw [htk] at hd
      cases hd
      simp only at hcur hcs k1 k2 k3 k4
      have:=hszl hl0
      subst this
      have hfit:l.length*i.size+(flatV i.size m.length g).length≤cur.size:=by rw [flatV_length,hcs,←Nat.add_mul];exact Nat.mul_le_mul_right _ hroom
      have hr':=append_room (P:=P) t ty e e0 i ht hi b l.length cap cur hcur ⟨b2,o2,none⟩ m.length cap2 _ hnl hnews hnone hroom hfit
      rw [hrun _ _ hr']
      have hlc:l.length*i.size≤cur.size:=by omega
      have htk0:(cur.toList.take (l.length*i.size)).length=l.length*i.size:=by simp;omega
      obtain ⟨hh',hev⟩:=hh.fillUp ht0 htk cur (cur.toList.take (l.length*i.size)++flatV i.size m.length g++cur.toList.drop (l.length*i.size+(flatV i.size m.length g).length)).toArray hcur m.length hroom
       (by simp only [List.size_toArray,List.length_append,List.length_drop,htk0,flatV_length,Array.length_toList];rw [hcs] at hfit ⊢;rw [flatV_length] at hfit;omega)
       (fun j hj=>by
        have hj':j<l.length*i.size:=hj
        simp only [List.getElem?_toArray,List.append_assoc]
        rw [List.getElem?_append_left (by rw [htk0];exact hj'),List.getElem?_take_of_lt hj']
        simp)
      refine fin _ _ _ _ _ f G.toks.length e0 hev hh' hroom hmax hf (fun q hq=>?_) (fun q j hq hj=>?_) (by simp) (by simp) rfl (fun u hu hne=>?_)
      ·
       by_cases h1:q<l.length*i.size
       ·
        obtain ⟨d1,d2,d3⟩:=divmod_lt h1
        refine .inl ?_
        have:=himm _ _ d1 d2
        rwa [d3,Nat.zero_add] at this
       · exact .inr ⟨rfl,by simp only [];omega,hq⟩
      ·
       rw [cell_of_row _ _ _ _ e0 _ (setRow_heap w b cur _ e0 _ hcur)]
       by_cases h1:q<l.length
       ·
        rw [if_pos h1]
        have hlt:=flat_lt h1 hj
        have:=hcell' q j h1 hj
        rw [Nat.zero_add,cell_of_row w b _ cur e0 _ hcur] at this
        simp only [List.getElem?_toArray,List.append_assoc]
        rw [List.getElem?_append_left (by rw [htk0];exact hlt),List.getElem?_take_of_lt hlt]
        simpa using this
       ·
        rw [if_neg h1]
        have e1:q*i.size+j - l.length*i.size=(q - l.length)*i.size+j:=by
         have h2:q*i.size=(q - l.length)*i.size+l.length*i.size:=by rw [←Nat.add_mul];congr 1;omega
         omega
        have e2:l.length*i.size≤q*i.size+j:=by have:=Nat.mul_le_mul_right i.size (show l.length≤q by omega);omega
        simp only [List.getElem?_toArray,List.append_assoc]
        rw [List.getElem?_append_right (by rw [htk0];exact e2),htk0,e1,List.getElem?_append_left (by rw [flatV_length];exact flat_lt (by omega) hj)]
        exact flatV_get g (by omega) hj
      ·
       refine List.mem_cons_of_mem _ (List.mem_filter.2 ⟨hu,?_⟩)
       simp only [ne_eq,decide_not,Bool.not_eq_eq_eq_not,Bool.not_true,decide_eq_false_iff_not]
       intro e;subst e;exact hne rfl
    ·
     have hr':=run_append_grow (P:=P) w t ty e i z ht hi hz ⟨b,o,none⟩ l.length cap (flatV i.size l.length f) (flatV_length _ _ _) (flatV_cells hcell') ⟨b2,o2,none⟩ m.length cap2 _ hnl hnews (by omega) (by omega) (growslice_fits (by omega) hbytes)
     rw [hrun _ _ hr']
     exact grow f cap (by omega) hf
def appSz (P:Program) (t:TypeId):Option (Nat×Nat):=
 match P.underlying t with
 | some (.slice e)=>match P.info? e with
  | some i=>match i.zero with
   | some z=>if z.cells.size=i.size∧0<i.size then some (i.size,i.bytes) else none
   | none=>none
  | none=>none
 | _=>none
theorem AOp.append {fr:Nat→AV} {o:Oper} {K:KT} (s x:Operand) (t:TypeId) (ho:o.op=.call { callee:=.builtin .append,args := #[s,x],argTypes := #[t,t] }) {sz bytes:Nat} (ht:appSz P t=some (sz,bytes))
 {l m:List AV} {c c2:Cap} (hs:ev fr s=.slice l c) (hx:ev fr x=.slice m c2) (hc:CapOK live c)
 (hl:∀y∈l,y.cells.length=sz) (hm:∀y∈m,y.cells.length=sz) (hbytes:(l.length+m.length)*bytes≤140737488355328) (hmx:l.length+m.length≤140737488355328)
 (hK:∀c' live',Keeps live c live' c'→K (.slice (l++m) c') h live'):AOp P fr h live o K:=by
 unfold appSz at ht
 split at ht
 ·
  rename_i e he
  split at ht
  ·
   rename_i i hi
   split at ht
   ·
    rename_i z hz
    split at ht
    ·
     rename_i hcnd
     simp only [Option.some.injEq,Prod.mk.injEq] at ht
     obtain ⟨rfl,rfl⟩:=ht
     exact append_sound s x t e ho i z he hi hz hcnd.1 hcnd.2 hs hx hc hl hm hbytes hmx hK
    · simp at ht
   · simp at ht
  · simp at ht
 · simp at ht
end
end Go.Ab
