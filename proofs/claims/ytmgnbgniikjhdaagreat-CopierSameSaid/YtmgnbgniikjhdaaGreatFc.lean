import Derived.Test.YtmgnbgniikjhdaaGreatFb
import Derived.MapKept
import Derived.Maps.RangeRun
import Derived.Laws.BytesString
import Derived.Laws.IdiomStrings
import Derived.Laws.RangeAny
import Derived.Sort.Grow
import Derived.Deep.Draws
import Derived.Lib.LaidTab
import Derived.ProofKit
import Derived.LaidMore
import Derived.OpenShut
import Derived.Stop.Joined
import Derived.Laws.MakeOwn
import Derived.Scope
/-
  THE FRAMEWORK, 13: structs among the arguments.
-/
set_option linter.unusedVariables false
set_option linter.unusedSimpArgs false
namespace Go.Ab
section
variable {P:Program} {d:Nat}
theorem TVs_TVl:∀ {fs:List Field} {ys:List AV},TVs (TV P d) fs ys→TVl P d (fs.map (·.type)) ys
 | [],[], _=>trivial
 | _::_, _::_,h=>⟨h.1,TVs_TVl h.2⟩
 | [], _::_,h=>h.elim
 | _::_,[],h=>h.elim
theorem TV_struct {t:TypeId} {x:AV} {ts:List TypeId} (hu:P.underlying t=some (.struct (P.fieldsOf t))) (hts:(P.fieldsOf t).toList.map (·.type)=ts) (h:TV P (d+1) t x):∃ys,x=.agg (ys.flatMap AV.cells)∧TVl P d ts ys:=by
 unfold TV at h;rw [hu] at h
 obtain ⟨ys,rfl,h⟩:=h
 exact ⟨ys,rfl,hts▸TVs_TVl h⟩
end
end Go.Ab
namespace Go.Ab
open Go.RowKit
inductive MK where
 | str
 | int (k:IntKind)
def MK.desc:MK→TypeDesc
 | .str=>.string
 | .int k=>.int k
def mapT (P:Program) (t:TypeId):Option (MK×TypeId):=
 match P.underlying t with
 | some (.map k e)=>match P.underlying k with
  | some .string=>some (.str,e)
  | some (.int j)=>some (.int j,e)
  | _=>none
 | _=>none
theorem mapT_sound {P:Program} {t e:TypeId} {m:MK} (h:mapT P t=some (m,e)):∃k,P.underlying t=some (.map k e)∧P.underlying k=some m.desc:=by
 unfold mapT at h
 split at h
 ·
  rename_i k e' hu
  split at h
  · rename_i hk;cases h;exact ⟨k,hu,hk⟩
  · rename_i j hk;cases h;exact ⟨k,hu,hk⟩
  · simp at h
 · simp at h
def okKey:MK→AV→Bool
 | .str,.str _=>true
 | .int k,.int j _=>decide (j=k)
 | _, _=>false
def keyEq:AV→AV→Bool
 | .str a,.str b=>decide (a=b)
 | .int _ a,.int _ b=>decide (a=b)
 | _, _=>false
def aget (k:AV):List (AV×AV)→Option AV
 | []=>none
 | p::r=>bif keyEq p.1 k then some p.2 else aget k r
def aput (k v:AV):List (AV×AV)→List (AV×AV)
 | []=>[(k,v)]
 | p::r=>bif keyEq p.1 k then (k,v)::r else p::aput k v r
def okKeys (m:MK) (es:List (AV×AV)):Bool:=es.all fun p=>okKey m p.1
theorem key_sound {w:World} {G:Gh} {m:MK} {x k:AV} {xv kv:Value} (hx:Rep w G x xv) (hk:Rep w G k kv) (ox:okKey m x=true) (ok:okKey m k=true) :
 MapKept.IsKey m.desc xv∧MapKept.IsKey m.desc kv∧(keyEq x k=true↔xv=kv):=by
 cases m with
 | str=>
  cases x<;>simp [okKey] at ox
  cases k<;>simp [okKey] at ok
  cases hx;cases hk
  refine ⟨trivial,trivial,?_⟩
  simp [keyEq]
 | int j=>
  cases x<;>simp [okKey] at ox
  cases k<;>simp [okKey] at ok
  cases hx;cases hk
  subst ox
  subst ok
  refine ⟨rfl,rfl,?_⟩
  simp [keyEq]
def EntsRep (w:World) (G:Gh) (es:List (AV×AV)) (us:List MapEntry):Prop:=
 us.length=es.length∧∀i,i<es.length→Rep w G (es.getD i (.undef,.undef)).1 (us.getD i default).key∧Rep w G (es.getD i (.undef,.undef)).2 (us.getD i default).val
theorem EntsRep.tail {w:World} {G:Gh} {p:AV×AV} {es:List (AV×AV)} {u:MapEntry} {us:List MapEntry} (h:EntsRep w G (p::es) (u::us)):(Rep w G p.1 u.key∧Rep w G p.2 u.val)∧EntsRep w G es us:=by
 obtain ⟨h1,h2⟩:=h
 refine ⟨by simpa using h2 0 (by simp),by simpa using h1,fun i hi=>by simpa using h2 (i+1) (by simpa using hi)⟩
theorem find_sound {w:World} {G:Gh} {m:MK} {k:AV} {kv:Value} (hk:Rep w G k kv) (ok:okKey m k=true):∀(es:List (AV×AV)) (us:List MapEntry) (n:Nat),EntsRep w G es us→okKeys m es=true →
 (aget k es=none∧Instr.findNow m.desc kv us n=some none∧(∀v,aput k v es=es++[(k,v)])) ∨
 ∃v j e,aget k es=some v∧Instr.findNow m.desc kv us n=some (some (n+j,e.val))∧us[j]? = some e∧e.key=kv∧j<es.length∧Rep w G v e.val∧(∀v,aput k v es=es.set j (k,v))
 | [],us,n,he, _=>by
  have:us=[]:=List.eq_nil_of_length_eq_zero he.1
  subst this
  exact .inl ⟨rfl,rfl,fun _=>rfl⟩
 | p::es,[],n,he, _=>by have:=he.1;simp at this
 | p::es,u::us,n,he,ho=>by
  obtain ⟨⟨h1,h2⟩,ht⟩:=he.tail
  simp only [okKeys,List.all_cons,Bool.and_eq_true] at ho
  obtain ⟨i1,i2,i3⟩:=key_sound h1 hk ho.1 ok
  obtain ⟨r,hr,hiff⟩:=MapKept.sameNow_of_keys i2 i1
  cases hq:keyEq p.1 k with
  | true=>
   have e:=i3.1 hq
   have hrt:r=true:=hiff.2 e.symm
   subst hrt
   exact .inr ⟨p.2,0,u,by simp [aget,hq],by simp [Instr.findNow,hr],rfl,e,by simp,h2,fun v=>by simp [aput,hq]⟩
  | false=>
   have hrf:r=false:=by
    cases r with
    | false=>rfl
    | true=>have:=i3.2 (hiff.1 rfl).symm;rw [hq] at this;cases this
   subst hrf
   rcases find_sound hk ok es us (n+1) ht ho.2 with ⟨a1,a2,a3⟩ | ⟨v,j,e,a1,a2,a3,a4,a5,a6,a7⟩
   · exact .inl ⟨by simp [aget,hq,a1],by simp [Instr.findNow,hr,a2],fun v=>by simp [aput,hq,a3]⟩
   · exact .inr ⟨v,j+1,e,by simp [aget,hq,a1],by simp [Instr.findNow,hr,a2];omega,by simpa using a3,a4,by simp;omega,a6,fun v=>by simp [aput,hq,a7]⟩
def entsOf (h:List Blk):AV→Option (List (AV×AV))
 | .map b=>match h[b]? with
  | some (.map es)=>some es
  | _=>none
 | .raw (.map none)=>some []
 | _=>none
def alookup (m:MK) (z:AV) (c:Bool) (k:AV) (es:List (AV×AV)):AV:=
 bif c then .tup [(aget k es).getD z,.bool (aget k es).isSome] else (aget k es).getD z
section
variable {P:Program} {fr:Nat→AV} {h:List Blk} {live:List Nat} {o:Oper} {K:KT}
theorem entsOf_sound {w:World} {G:Gh} (hh:HRel w G h live) {x:AV} {xv:Value} (hx:Rep w G x xv) {es:List (AV×AV)} (he:entsOf h x=some es) :
 ∃us:Array MapEntry,EntsRep w G es us.toList∧((xv=.map none∧us = #[])∨∃r clock,xv=.map (some r)∧w.heap[r]? = some (.map us clock)):=by
 unfold entsOf at he
 split at he
 ·
  rename_i b
  split at he
  ·
   rename_i es' hb
   cases he
   cases hx
   obtain ⟨us,clock,h1,h2, _,h3⟩:=hh.blk b _ hb
   refine ⟨us,⟨by simpa using h2,fun i hi=>?_⟩,.inr ⟨_,clock,rfl,h1⟩⟩
   have:=h3 i hi
   have e:us.toList.getD i default=us.getD i default:=by simp [List.getD_eq_getElem?_getD]
   rw [e];exact this
  · simp at he
 ·
  cases he
  cases hx
  exact ⟨#[],⟨rfl,by simp⟩,.inl ⟨rfl,rfl⟩⟩
 · simp at he
theorem AOp.lookup (t:TypeId) (x i:Operand) (c:Bool) (ho:o.op=.lookup t x i c) {m:MK} {e:TypeId} (ht:mapT P t=some (m,e)) {z:AV} (hz:azero P e=some z) {k:AV} (hk:ev fr i=k) (ok:okKey m k=true)
 {es:List (AV×AV)} (hes:entsOf h (ev fr x)=some es) (oks:okKeys m es=true):AOp P fr h live o (ret (alookup m z c k es) h live):=by
 subst hk
 obtain ⟨dst,op,ty,pos,after,guard⟩:=o
 simp only at ho;subst ho
 refine AOp.gives fun w G ρ hr hh=>?_
 obtain ⟨kt,hu,hd⟩:=mapT_sound ht
 have hrk:=hr i (by simp [Op.operands])
 obtain ⟨us,he,hm⟩:=entsOf_sound hh (hr x (by simp [Op.operands])) hes
 obtain ⟨inf,zv, _, _,hzr,hzrep, _⟩:=azero_sound (w:=w) (G:=G) hz
 have hkey:MapKept.IsKey m.desc (ρ i):=by
  obtain ⟨_,h2, _⟩:=key_sound hrk hrk ok ok
  exact h2
 have hck:=fun b=>MapKept.run_checkKey (w:=w) hd hkey b 9999
 have hget:∀r clock,ρ x=.map (some r)→w.heap[r]? = some (.map us clock)→(getObj r).run P w=.ok (.map us clock) w:=fun r clock _ hb=>MapKept.run_getObj_map hb
 rcases find_sound hrk ok es us.toList 0 he oks with ⟨a1,a2, _⟩ | ⟨v,j,e',a1,a2,a3,a4,a5,a6, _⟩
 ·
  refine ⟨if c then .tuple #[zv,.bool false] else zv,?_,?_⟩
  ·
   have hfk:=MapKept.run_findKey (w:=w) (P:=P) hd a2
   rcases hm with ⟨hv,rfl⟩ | ⟨r,clock,hv,hb⟩
   ·
    refine run_value ?_
    simp only [Instr.lookup,Sem.run_bind,run_underlying hu,Result.andThen_ok,hv,Sem.run_pure,hck,hfk,hzr]
   ·
    refine run_value ?_
    simp only [Instr.lookup,Sem.run_bind,run_underlying hu,Result.andThen_ok,hv,Sem.run_pure,hck,hfk,hzr,MapKept.run_getObj_map hb]
  ·
   cases c
   · simpa [alookup,a1] using hzrep
   ·
    simp only [alookup,a1,cond_true,Option.getD_none,Option.isSome_none,if_true]
    exact .tup [z,.bool false] [zv,.bool false] rfl (fun q hq=>by
     match q,hq with
     | 0, _=>exact hzrep
     | 1, _=>exact .bool false)
 ·
  refine ⟨if c then .tuple #[e'.val,.bool true] else e'.val,?_,?_⟩
  ·
   have hfk:=MapKept.run_findKey (w:=w) (P:=P) hd a2
   rcases hm with ⟨hv,rfl⟩ | ⟨r,clock,hv,hb⟩
   · simp at a3
   ·
    refine run_value ?_
    simp only [Instr.lookup,Sem.run_bind,run_underlying hu,Result.andThen_ok,hv,Sem.run_pure,hck,hfk,MapKept.run_getObj_map hb]
  ·
   cases c
   · simpa [alookup,a1] using a6
   ·
    simp only [alookup,a1,cond_true,Option.getD_some,Option.isSome_some,if_true]
    exact .tup [v,.bool true] [e'.val,.bool true] rfl (fun q hq=>by
     match q,hq with
     | 0, _=>exact a6
     | 1, _=>exact .bool true)
theorem HRel.pushObj {w:World} {G:Gh} (hh:HRel w G h live) (ob:Obj) (x:Blk)
 (hx:∀G',Ext G G'→(w.alloc ob).heap[w.heap.size]? = some ob→BlkRep (w.alloc ob) G' x w.heap.size) :
 ∃G',HRel (w.alloc ob) G' (h++[x]) live∧Evo w G live (w.alloc ob) G' live∧G'.n=G.n+1∧G'.blk G.n=w.heap.size:=by
 let G':Gh:={ G with n:=G.n+1,blk:=fun k=>if k=G.n then w.heap.size else G.blk k }
 have himm:∀b q,G.imm b q→(w.alloc ob).cell? ⟨b,q,none⟩=w.cell? ⟨b,q,none⟩:=fun b q hb=>World.cell?_alloc_lt w _ ⟨b,q,none⟩ (hh.imm_lt b q hb)
 have hold:∀k,k<G.n→G'.blk k=G.blk k:=fun k hk=>if_neg (by omega)
 have hnew:G'.blk G.n=w.heap.size:=if_pos rfl
 have hext:Ext G G':=⟨Nat.le_succ _,hold,fun _ _ h=>h,fun _ _ h=>h⟩
 have hcase:∀k,k<G.n+1→k=G.n∨k<G.n:=fun k hk=>by omega
 refine ⟨G',⟨by simp [hh.len,G'],fun k y hy=>?_,fun k hk=>?_,fun j k hj hk hjk=>?_,fun b q hb=>?_,fun b q k hb hk=>?_,fun t ht=>?_,hh.tok_ne⟩,
  ⟨rfl,rfl,rfl,by simp,himm,fun b hb _=>Below.heap_alloc w _ b hb,fun b hb ho=>?_,hext⟩,rfl,hnew⟩
 ·
  have hkl:=(List.getElem?_eq_some_iff.1 hy).1
  simp [hh.len] at hkl
  rcases hcase k hkl with rfl | hk
  ·
   rw [hnew]
   rw [List.getElem?_append_right (by rw [hh.len];exact Nat.le_refl _)] at hy
   simp [hh.len] at hy
   subst hy
   exact hx G' hext (heap_alloc_new w _)
  ·
   rw [hold k hk]
   rw [List.getElem?_append_left (by rw [hh.len];exact hk)] at hy
   exact (hh.blk k y hy).mono (Below.heap_alloc w _ _ (hh.blk_lt k hk)) himm hext
 ·
  rcases hcase k hk with rfl | hk
  · rw [hnew];simp
  · rw [hold k hk];have:=hh.blk_lt k hk;simp;omega
 ·
  rcases hcase j hj with rfl | hj<;>rcases hcase k hk with rfl | hk
  · rfl
  · rw [hnew,hold k hk] at hjk;have:=hh.blk_lt k hk;omega
  · rw [hnew,hold j hj] at hjk;have:=hh.blk_lt j hj;omega
  · rw [hold j hj,hold k hk] at hjk;exact hh.inj j k hj hk hjk
 · have:=hh.imm_lt b q hb;simp;omega
 ·
  rcases hcase k hk with rfl | hk
  · rw [hnew];have:=hh.imm_lt b q hb;omega
  · rw [hold k hk];exact hh.imm_blk b q k hb hk
 ·
  obtain ⟨d,hd,⟨⟨cur,hc',hs⟩,h1,h2,h3,h4⟩⟩:=hh.tok t ht
  have hl:d.b<w.heap.size:=(Array.getElem?_eq_some_iff.1 hc').1
  refine ⟨d,hd,⟨⟨cur,(Below.heap_alloc w _ _ hl).trans hc',hs⟩,h1,h2,h3,fun k hk=>?_⟩⟩
  rcases hcase k hk with rfl | hk
  · rw [hnew];omega
  · rw [hold k hk];exact h4 k hk
 ·
  rcases ho with ⟨k,hk,hkb⟩ | ho
  ·
   rcases hcase k hk with rfl | hk
   · rw [hnew] at hkb;omega
   · rw [hold k hk] at hkb;exact .inl ⟨k,hk,hkb⟩
  · exact .inr ho
theorem AOp.makeMap (t:TypeId) (ho:o.op=.makeMap t none) (hK:K (.map h.length) (h++[.map []]) live):AOp P fr h live o K:=by
 obtain ⟨dst,op,ty,pos,after,guard⟩:=o
 simp only at ho;subst ho
 intro w G ρ hρ hr hh
 obtain ⟨G',hh',he,hn,hb⟩:=hh.pushObj (.map #[] 0) (.map []) fun G' _ hw=>⟨#[],0,hw,rfl,⟨rfl,fun i hi=>by simp at hi⟩,fun i hi=>by simp at hi⟩
 have hrun:(execOp ρ ⟨dst,.makeMap t none,ty,pos,after,guard⟩).run P w=.ok (.value (.map (some w.heap.size))) (w.alloc (.map #[] 0)):=rfl
 rw [hrun]
 refine ⟨_, _, _,G',hK,?_,hh',he⟩
 have:=Rep.map (w:=w.alloc (.map #[] 0)) (G:=G') h.length (by rw [hn,hh.len];exact Nat.lt_succ_self _)
 rw [hh.len,hb] at this
 rw [hh.len]
 exact this
theorem AOp.mapUpdate (t:TypeId) (x i v:Operand) (ho:o.op=.mapUpdate t x i v) {m:MK} {e:TypeId} (ht:mapT P t=some (m,e)) {b:Nat} (hx:ev fr x=.map b) {es:List (AV×AV)} (hb:h[b]? = some (.map es))
 {k y:AV} (hk:ev fr i=k) (hv:ev fr v=y) (ok:okKey m k=true) (oks:okKeys m es=true) (hK:K .undef (h.set b (.map (aput k y es))) live):AOp P fr h live o K:=by
 subst hk;subst hv
 obtain ⟨dst,op,ty,pos,after,guard⟩:=o
 simp only at ho;subst ho
 intro w G ρ hρ hr hh
 obtain ⟨kt,hu,hd⟩:=mapT_sound ht
 have hrk:=hr i (by simp [Op.operands])
 have hrv:=hr v (by simp [Op.operands])
 have hrx:=hr x (by simp [Op.operands])
 rw [hx] at hrx
 generalize hxv:ρ x=xv at hrx
 cases hrx
 rename_i hbn
 obtain ⟨us,clock,h1,h2,⟨h3,h4⟩,h5⟩:=hh.blk b _ hb
 have he:EntsRep w G es us.toList:=⟨by simpa using h2,fun q hq=>by
  have e:us.toList.getD q default=us.getD q default:=by simp [List.getD_eq_getElem?_getD]
  rw [e];exact h5 q hq⟩
 have hkey:MapKept.IsKey m.desc (ρ i):=(key_sound hrk hrk ok ok).2.1
 have hck:=fun c=>MapKept.run_checkKey (w:=w) hd hkey c 9999
 have done:∀us':Array MapEntry,∀clock',clock'=us'.size→(∀q,q<us'.size→(us'.getD q default).born=q)→EntsRep w G (aput (ev fr i) (ev fr v) es) us'.toList →
  (Instr.mapUpdate t (.map (some (G.blk b))) (ρ i) (ρ v)).run P w=.ok () { w with heap:=w.heap.setIfInBounds (G.blk b) (.map us' clock') } →
  AUpon P (Post w G live K) ((execOp ρ ⟨dst,.mapUpdate t x i v,ty,pos,after,guard⟩).run P w):=by
  intro us' clock' hc hborn hrep hrun
  have hset:=MapKept.heap_set (o':=.map us' clock') h1
  have key:=hh.put (x:=.map (aput (ev fr i) (ev fr v) es)) hbn { w with heap:=w.heap.setIfInBounds (G.blk b) (.map us' clock') } rfl rfl rfl (by simp) (fun q hq=>hset.2 q hq)
  have himm:∀b' q,G.imm b' q→World.cell? { w with heap:=w.heap.setIfInBounds (G.blk b) (.map us' clock') } ⟨b',q,none⟩=w.cell? ⟨b',q,none⟩:=fun b' q hbq=>
   World.cell?_of_block (hset.2 b' (fun e=>hh.imm_blk b' q b hbq hbn e.symm))
  obtain ⟨hh',hev⟩:=key ⟨us',clock',hset.1,by simpa using hrep.1,⟨hc,hborn⟩,fun q hq=>by
   have:=hrep.2 q hq
   have e:us'.toList.getD q default=us'.getD q default:=by simp [List.getD_eq_getElem?_getD]
   rw [e] at this
   exact ⟨this.1.mono himm (Ext.refl G),this.2.mono himm (Ext.refl G)⟩⟩
  have hrun':(execOp ρ ⟨dst,.mapUpdate t x i v,ty,pos,after,guard⟩).run P w=.ok .skip { w with heap:=w.heap.setIfInBounds (G.blk b) (.map us' clock') }:=by
   simp only [execOp,hxv,Sem.run_bind,hrun,Result.andThen_ok,Sem.run_pure]
  rw [hrun']
  exact ⟨_, _, _,G,hK,.undef _,hh',hev⟩
 rcases find_sound hrk ok es us.toList 0 he oks with ⟨a1,a2,a3⟩ | ⟨u,j,e',a1,a2,a3,a4,a5,a6,a7⟩
 ·
  have hfk:=MapKept.run_findKey (w:=w) (P:=P) hd a2
  refine done (us.push { key:=ρ i,val:=ρ v,born:=clock }) (clock+1) (by simp [h3]) (fun q hq=>?_) ?_ ?_
  ·
   simp only [Array.size_push] at hq
   rcases Nat.lt_or_ge q us.size with hlt | hge
   ·
    have:=h4 q hlt
    simpa [Array.getElem?_push,hlt,Nat.ne_of_lt hlt] using this
   ·
    have:q=us.size:=by omega
    subst this
    simp [h3]
  ·
   rw [a3]
   refine ⟨by simp [h2],fun q hq=>?_⟩
   simp only [List.length_append,List.length_cons,List.length_nil,Nat.zero_add] at hq
   have hul:us.toList.length=es.length:=by simpa using h2
   simp only [Array.toList_push]
   rw [getD_append',getD_append',hul]
   by_cases hq1:q<es.length
   · rw [if_pos hq1,if_pos hq1];exact he.2 q hq1
   ·
    rw [if_neg hq1,if_neg hq1]
    have:q - es.length=0:=by omega
    rw [this]
    exact ⟨hrk,hrv⟩
  · simp [Instr.mapUpdate,run_underlying hu,MapKept.run_getObj_map h1,hck,hfk,MapKept.run_setObj_map _ h1,Result.andThen]
 ·
  have hfk:=MapKept.run_findKey (w:=w) (P:=P) hd a2
  have hj:us[j]? = some e':=by simpa using a3
  have hjl:j<us.size:=(Array.getElem?_eq_some_iff.1 hj).1
  refine done (us.modify j fun e=>{ e with key:=ρ i,val:=ρ v }) clock (by simp [h3]) (fun q hq=>?_) ?_ ?_
  ·
   simp only [Array.size_modify] at hq
   have:=h4 q hq
   by_cases hqj:j=q
   ·
    subst hqj
    simpa [Array.getElem?_modify,Array.getElem_modify,hq] using this
   · simpa [Array.getElem?_modify,Array.getElem_modify,hq,hqj] using this
  ·
   rw [a7]
   refine ⟨by simp [h2],fun q hq=>?_⟩
   simp only [List.length_set] at hq
   have hql:q<us.size:=by rw [h2];exact hq
   by_cases hqj:j=q
   ·
    subst hqj
    simp [List.getD_eq_getElem?_getD,Array.getElem?_modify,hq,hql]
    exact ⟨hrk,hrv⟩
   ·
    have:=he.2 q hq
    simpa [List.getD_eq_getElem?_getD,Array.getElem?_modify,hq,hql,hqj,List.getElem?_set] using this
  · simp [Instr.mapUpdate,run_underlying hu,MapKept.run_getObj_map h1,hck,hfk,hj,a4,MapKept.run_keyThatStays hkey,MapKept.run_setObj_map _ h1,Result.andThen]
end
end Go.Ab
namespace Go.Ab
open Go.RowKit
def entsBlk:Option Blk→Option (List (AV×AV))
 | some (.map es)=>some es
 | _=>none
theorem entsBlk_map (es:List (AV×AV)):entsBlk (some (.map es))=some es:=rfl
theorem entsOf_map (h:List Blk) (b:Nat):entsOf h (.map b)=entsBlk h[b]? := by
 unfold entsOf entsBlk;rfl
theorem entsOf_nil (h:List Blk):entsOf h (.raw (.map none))=some []:=rfl
def nextV (b:Bool) (xs:List AV):AV:=.tup (bif b then .bool true::xs else [.bool false])
theorem nextV_0 (b:Bool) (xs:List AV):extractOf (nextV b xs) 0=some (.bool b):=by cases b<;>rfl
theorem nextV_t (xs:List AV):nextV true xs=.tup (.bool true::xs):=rfl
theorem nextV_f (xs:List AV):nextV false xs=.tup [.bool false]:=rfl
attribute [push_cast] nextV_0 nextV_t nextV_f
def dec (l:List UInt8) (pos:Nat):Nat×Nat:=Utf8.decode ⟨l.toArray⟩ pos
theorem dec_ascii {l:List UInt8} {pos:Nat} (h:pos<l.length) (ha:(l.getD pos 0).toNat<128):dec l pos=((l.getD pos 0).toNat,1):=by
 have h':pos<(⟨l.toArray⟩:ByteArray).size:=by simpa [ByteArray.size] using h
 have e:(⟨l.toArray⟩:ByteArray)[pos]'h'=l.getD pos 0:=by
  simp [List.getD_eq_getElem?_getD,h,ByteArray.getElem_eq_getElem_data]
 have:=decode_ascii ⟨l.toArray⟩ pos h' (by rw [e];exact ha)
 rw [e] at this
 exact this
theorem dec_high {l:List UInt8} {pos:Nat} (h:pos<l.length) (ha:128≤(l.getD pos 0).toNat):128≤(dec l pos).1∧1≤(dec l pos).2:=by
 have h':pos<(⟨l.toArray⟩:ByteArray).size:=by simpa [ByteArray.size] using h
 have e:(⟨l.toArray⟩:ByteArray)[pos]'h'=l.getD pos 0:=by
  simp [List.getD_eq_getElem?_getD,h,ByteArray.getElem_eq_getElem_data]
 exact decode_high ⟨l.toArray⟩ pos h' (by rw [e];exact ha)
theorem dec_le (l:List UInt8) (pos:Nat):(dec l pos).1≤2147483647:=decode_le _ _
theorem set_same {h:List Blk} {b:Nat} {x:Blk} (hb:h[b]? = some x):h.set b x=h:=by
 obtain ⟨hlt,he⟩:=List.getElem?_eq_some_iff.1 hb
 rw [←he];exact List.set_getElem_self hlt
def wordT (P:Program) (t:TypeId):Bool:=isStrT P t
def isMapT (P:Program) (t:TypeId):Bool:=match P.underlying t with
 | some (.map _ _)=>true
 | _=>false
section
variable {P:Program} {fr:Nat→AV} {h:List Blk} {live:List Nat} {o:Oper} {K:KT}
theorem AOp.rangeS (t:TypeId) (x:Operand) (ho:o.op=.range t x) (ht:isStrT P t=true) {l:List UInt8} (hx:ev fr x=.str l) (hK:K (.ptr h.length 0) (h++[.siter l 0]) live):AOp P fr h live o K:=by
 obtain ⟨dst,op,ty,pos,after,guard⟩:=o
 simp only at ho;subst ho
 intro w G ρ hρ hr hh
 have hrx:=hr x (by simp [Op.operands])
 rw [hx] at hrx
 generalize hxv:ρ x=xv at hrx
 cases hrx
 obtain ⟨G',hh',he,hn,hb⟩:=HRel.pushObj hh (.stringIter ⟨l.toArray⟩ 0) (.siter l 0) fun G' _ hw=>hw
 have hrun:(execOp ρ ⟨dst,.range t x,ty,pos,after,guard⟩).run P w=.ok (.value (.pointer (some ⟨w.heap.size,0,none⟩))) (w.alloc (.stringIter ⟨l.toArray⟩ 0)):=by
  simp [execOp,hxv,Instr.range,run_underlying (isStrT_sound ht),run_newObj]
 rw [hrun]
 refine ⟨_, _, _,G',hK,?_,hh',he⟩
 have:=Rep.ptr (w:=w.alloc (.stringIter ⟨l.toArray⟩ 0)) (G:=G') h.length 0 (by rw [hn,hh.len];exact Nat.lt_succ_self _)
 rw [hh.len,hb] at this
 rw [hh.len]
 exact this
theorem AOp.nextS (x:Operand) (ho:o.op=.next x true) {b:Nat} (hx:ev fr x=.ptr b 0) {l:List UInt8} {pos:Nat} (hb:h[b]? = some (.siter l pos))
 (hK:K (nextV (decide ((pos:Int)<l.length)) [.int .i64 pos,.int .i32 (dec l pos).1]) (h.set b (.siter l (bif decide ((pos:Int)<l.length) then pos+(dec l pos).2 else pos))) live):AOp P fr h live o K:=by
 obtain ⟨dst,op,ty,ps,after,guard⟩:=o
 simp only at ho;subst ho
 intro w G ρ hρ hr hh
 have hrx:=hr x (by simp [Op.operands])
 rw [hx] at hrx
 generalize hxv:ρ x=xv at hrx
 cases hrx
 rename_i hbn
 have h1:w.heap[G.blk b]? = some (.stringIter ⟨l.toArray⟩ pos):=hh.blk b _ hb
 by_cases hp:pos<l.length
 ·
  have hp':pos<(⟨l.toArray⟩:ByteArray).size:=by simpa [ByteArray.size] using hp
  have hd:decide ((pos:Int)<l.length)=true:=decide_eq_true (by omega)
  rw [hd] at hK
  have hset:=MapKept.heap_set (o':=.stringIter ⟨l.toArray⟩ (pos+(dec l pos).2)) h1
  have hrun:(execOp ρ ⟨dst,.next x true,ty,ps,after,guard⟩).run P w=.ok (.value (.tuple #[.bool true,.int .i64 pos,.int .i32 (dec l pos).1])) { w with heap:=w.heap.setIfInBounds (G.blk b) (.stringIter ⟨l.toArray⟩ (pos+(dec l pos).2)) }:=by
   simp only [execOp,hxv,Instr.next,getObj,setObj,Sem.run_bind,Sem.run,h1,Result.andThen,hp',if_true]
   rfl
  rw [hrun]
  obtain ⟨hh',hev⟩:=hh.put (x:=.siter l (pos+(dec l pos).2)) hbn { w with heap:=w.heap.setIfInBounds (G.blk b) (.stringIter ⟨l.toArray⟩ (pos+(dec l pos).2)) } rfl rfl rfl (by simp) (fun q hq=>hset.2 q hq) hset.1
  refine ⟨_, _, _,G,hK,?_,hh',hev⟩
  exact .tup [.bool true,.int .i64 pos,.int .i32 (dec l pos).1] [.bool true,.int .i64 pos,.int .i32 (dec l pos).1] rfl (fun q hq=>by
   match q,hq with
   | 0, _=>exact .bool _
   | 1, _=>exact .int _ _
   | 2, _=>exact .int _ _)
 ·
  have hp':¬pos<(⟨l.toArray⟩:ByteArray).size:=by simpa [ByteArray.size] using hp
  have hd:decide ((pos:Int)<l.length)=false:=decide_eq_false (by omega)
  rw [hd] at hK
  have hrun:(execOp ρ ⟨dst,.next x true,ty,ps,after,guard⟩).run P w=.ok (.value (.tuple #[.bool false])) w:=by
   simp only [execOp,hxv,Instr.next,getObj,Sem.run_bind,Sem.run,h1,Result.andThen,hp',if_false]
   rfl
  rw [hrun]
  have hse:h.set b (.siter l pos)=h:=set_same hb
  simp only [cond_false] at hK
  rw [hse] at hK
  exact ⟨_, _, _,G,hK,.tup [.bool false] [.bool false] rfl (fun q hq=>by
   match q,hq with
   | 0, _=>exact .bool _),hh,Evo.refl _ _ _⟩
theorem AOp.rangeM (t:TypeId) (x:Operand) (ho:o.op=.range t x) (ht:isMapT P t=true) {k:Nat} (hx:ev fr x=.map k) {es:List (AV×AV)} (hm:h[k]? = some (.map es))
 (hK:K (.ptr h.length 0) (h++[.miter k es.length [] es.length]) live):AOp P fr h live o K:=by
 obtain ⟨dst,op,ty,pos,after,guard⟩:=o
 simp only at ho;subst ho
 intro w G ρ hρ hr hh
 have hrx:=hr x (by simp [Op.operands])
 rw [hx] at hrx
 generalize hxv:ρ x=xv at hrx
 cases hrx
 rename_i hkn
 obtain ⟨us,clock,h1,h2,⟨h3,h4⟩,h5⟩:=hh.blk k _ hm
 have hcl:clock=es.length:=by rw [h3,h2]
 subst hcl
 obtain ⟨G',hh',he,hn,hb⟩:=HRel.pushObj hh (.mapIter (some (G.blk k)) es.length #[] es.length) (.miter k es.length [] es.length) fun G' hex hw=>⟨Nat.lt_of_lt_of_le hkn hex.n,by rw [hex.blk k hkn];exact hw⟩
 have hmt:∃a b,P.underlying t=some (.map a b):=by
  unfold isMapT at ht
  split at ht
  · rename_i a b e;exact ⟨a,b,e⟩
  · simp at ht
 obtain ⟨a,b,hu⟩:=hmt
 have hrun:(execOp ρ ⟨dst,.range t x,ty,pos,after,guard⟩).run P w=.ok (.value (.pointer (some ⟨w.heap.size,0,none⟩))) (w.alloc (.mapIter (some (G.blk k)) es.length #[] es.length)):=by
  simp [execOp,hxv,Instr.range,run_underlying hu,MapKept.run_getObj_map h1,run_newObj,Result.andThen]
 rw [hrun]
 refine ⟨_, _, _,G',hK,?_,hh',he⟩
 have:=Rep.ptr (w:=w.alloc (.mapIter (some (G.blk k)) es.length #[] es.length)) (G:=G') h.length 0 (by rw [hn,hh.len];exact Nat.lt_succ_self _)
 rw [hh.len,hb] at this
 rw [hh.len]
 exact this
theorem AOp.nextM (x:Operand) (ho:o.op=.next x false) {it k:Nat} (hx:ev fr x=.ptr it 0) {es:List (AV×AV)} {seen:List Nat} (hm:h[k]? = some (.map es)) (hit:h[it]? = some (.miter k es.length seen es.length))
 (hK:∀(b:Bool) (i:Nat),(b=true→i<es.length∧i∉seen)→(b=false→∀j,j<es.length→j∈seen) →
  K (nextV b [(es.getD i (.undef,.undef)).1,(es.getD i (.undef,.undef)).2]) (h.set it (.miter k es.length (bif b then seen++[i] else seen) es.length)) live):AOp P fr h live o K:=by
 obtain ⟨dst,op,ty,ps,after,guard⟩:=o
 simp only at ho;subst ho
 intro w G ρ hρ hr hh
 have hrx:=hr x (by simp [Op.operands])
 rw [hx] at hrx
 generalize hxv:ρ x=xv at hrx
 cases hrx
 rename_i hbn
 obtain ⟨us,clock,h1,h2,⟨h3,h4⟩,h5⟩:=hh.blk k _ hm
 have hcl:clock=es.length:=by rw [h3,h2]
 subst hcl
 obtain ⟨hkn,hi1⟩:=hh.blk it _ hit
 have hold:∀e∈us.toList,e.born<es.length:=fun e he=>by
  obtain ⟨q,hq,rfl⟩:=List.mem_iff_getElem.1 he
  have hq':q<us.size:=by simpa using hq
  have:=h4 q hq'
  simp [Array.getD,hq'] at this
  simp only [Array.getElem_toList]
  rw [this,←h2];exact hq'
 rcases run_next_at (P:=P) w ty (G.blk it) (G.blk k) es.length es.length seen.toArray us es.length hi1 h1 hold (Nat.le_refl _) with ⟨hl,hrun⟩ | ⟨e,he,w1,hw1,hrun⟩
 ·
  have hall:∀j,j<es.length→j∈seen:=fun j hj=>by
   have hju:j<us.size:=by omega
   apply Classical.byContradiction
   intro hn
   have hm:us[j]∈(leftOf us seen.toArray).toList:=by
    have hb:=h4 j hju
    simp [Array.getD,hju] at hb
    simp [leftOf,hb,hn]
   have:(leftOf us seen.toArray).toList=[]:=by
    apply List.eq_nil_of_length_eq_zero
    simpa using hl
   rw [this] at hm;simp at hm
  have hrun':(execOp ρ ⟨dst,.next x false,ty,ps,after,guard⟩).run P w=.ok (.value (.tuple #[.bool false])) w:=by
   simp only [execOp,hxv]
   exact run_value hrun
  rw [hrun']
  have hse:h.set it (.miter k es.length seen es.length)=h:=set_same hit
  have:=hK false 0 (fun e=>Bool.noConfusion e) (fun _=>hall)
  simp only [cond_false] at this
  rw [hse] at this
  exact ⟨_, _, _,G,this,.tup [.bool false] [.bool false] rfl (fun q hq=>by
   match q,hq with
   | 0, _=>exact .bool _),hh,Evo.refl _ _ _⟩
 ·
  have he2:e∈us.toList∧e.born∉seen:=by simpa [leftOf] using he
  obtain ⟨q,hq,hqe⟩:=List.mem_iff_getElem.1 he2.1
  have hqu:q<us.size:=by simpa using hq
  have hqb:=h4 q hqu
  simp [Array.getD,hqu] at hqb
  have hqe':us[q]=e:=by simpa using hqe
  rw [hqe'] at hqb
  have hqn:q<es.length:=by omega
  have hns:q∉seen:=by rw [←hqb];exact he2.2
  have hset:=fun (w0:World) (hw:w0.heap[G.blk it]? = some (.mapIter (some (G.blk k)) es.length seen.toArray es.length))=>MapKept.heap_set (o':=.mapIter (some (G.blk k)) es.length (seen.toArray.push e.born) es.length) hw
  have hrun':(execOp ρ ⟨dst,.next x false,ty,ps,after,guard⟩).run P w=.ok (.value (.tuple #[.bool true,e.key,e.val])) (ChangeMaps.setBlock w1 (G.blk it) (.mapIter (some (G.blk k)) es.length (seen.toArray.push e.born) es.length)):=by
   simp only [execOp,hxv]
   exact run_value hrun
  rw [hrun']
  have hK':=hK true q (fun _=>⟨hqn,hns⟩) (fun e=>Bool.noConfusion e)
  have hrep:=h5 q hqn
  simp [Array.getD,hqu] at hrep
  rw [hqe'] at hrep
  have base:∃G1,HRel w1 G1 h live∧Evo w G live w1 G1 live∧G1=G∧w1.heap=w.heap:=by
   rcases hw1 with rfl | rfl
   · exact ⟨G,hh,Evo.refl _ _ _,rfl,rfl⟩
   ·
    have hev:Evo w G live w.drew G live:=⟨rfl,rfl,rfl,Nat.le_refl _,fun _ _ _=>rfl,fun _ _ _=>rfl,fun _ _ h=>h,Ext.refl G⟩
    exact ⟨G,⟨hh.len,fun k x hx=>BlkRep.mono (w:=w) (w':=w.drew) rfl hev.imm (Ext.refl G) (hh.blk k x hx),hh.blk_lt,hh.inj,hh.imm_lt,hh.imm_blk,hh.tok,hh.tok_ne⟩,hev,rfl,rfl⟩
  obtain ⟨G1,hh1,hev1,rfl,hheap⟩:=base
  have hs:=hset w1 (by rw [hheap];exact hi1)
  have hsz:(ChangeMaps.setBlock w1 (G1.blk it) (.mapIter (some (G1.blk k)) es.length (seen.toArray.push e.born) es.length)).heap.size=w1.heap.size:=by simp [ChangeMaps.setBlock]
  obtain ⟨hh',hev⟩:=hh1.put (x:=.miter k es.length (seen++[q]) es.length) hbn (ChangeMaps.setBlock w1 (G1.blk it) (.mapIter (some (G1.blk k)) es.length (seen.toArray.push e.born) es.length)) rfl rfl rfl hsz (fun q hq=>hs.2 q hq)
   ⟨hkn,by
    have e1:(seen++[q]).toArray=seen.toArray.push e.born:=by rw [hqb];simp
    rw [e1];exact hs.1⟩
  refine ⟨_, _, _,G1,hK',?_,hh',hev1.trans hev⟩
  refine .tup [.bool true,(es.getD q (.undef,.undef)).1,(es.getD q (.undef,.undef)).2] [.bool true,e.key,e.val] rfl (fun q' hq'=>?_)
  match q',hq' with
  | 0, _=>exact .bool _
  | 1, _=>exact (hev1.trans hev).rep (by simpa [List.getD_eq_getElem?_getD] using hrep.1)
  | 2, _=>exact (hev1.trans hev).rep (by simpa [List.getD_eq_getElem?_getD] using hrep.2)
theorem AOp.entry (x:Operand) (ho:o.op=.entry x) {it k:Nat} (hx:ev fr x=.ptr it 0) {es:List (AV×AV)} {seen:List Nat} {i:Nat} (hi:i<es.length) (hm:h[k]? = some (.map es)) (hit:h[it]? = some (.miter k es.length (seen++[i]) es.length)) :
 AOp P fr h live o (ret (.tup [(es.getD i (.undef,.undef)).1,(es.getD i (.undef,.undef)).2]) h live):=by
 obtain ⟨dst,op,ty,ps,after,guard⟩:=o
 simp only at ho;subst ho
 refine AOp.gives fun w G ρ hr hh=>?_
 have hrx:=hr x (by simp [Op.operands])
 rw [hx] at hrx
 generalize hxv:ρ x=xv at hrx
 cases hrx
 rename_i hbn
 obtain ⟨us,clock,h1,h2,⟨h3,h4⟩,h5⟩:=hh.blk k _ hm
 have hcl:clock=es.length:=by rw [h3,h2]
 subst hcl
 obtain ⟨hkn,hi1⟩:=hh.blk it _ hit
 have hiu:i<us.size:=by omega
 have hb:=h4 i hiu
 simp [Array.getD,hiu] at hb
 have hnd:(us.toList.map (·.born)).Nodup:=by
  have e:us.toList.map (·.born)=List.range us.size:=by
   apply List.ext_getElem
   · simp
   ·
    intro q q1 q2
    have hq:q<us.size:=by simpa using q1
    have:=h4 q hq
    simp [Array.getD,hq] at this
    simpa using this
  rw [e];exact List.nodup_range
 have hrun:=run_entry_at (P:=P) w (G.blk it) (G.blk k) es.length seen.toArray us es.length us[i] (by rw [hi1];simp [hb]) h1 (by simp) hnd
 refine ⟨.tuple #[us[i].key,us[i].val],by simp only [execOp,hxv];exact run_value hrun,?_⟩
 have hrep:=h5 i hi
 simp [Array.getD,hiu] at hrep
 refine .tup [(es.getD i (.undef,.undef)).1,(es.getD i (.undef,.undef)).2] [us[i].key,us[i].val] rfl (fun q hq=>?_)
 match q,hq with
 | 0, _=>simpa [List.getD_eq_getElem?_getD] using hrep.1
 | 1, _=>simpa [List.getD_eq_getElem?_getD] using hrep.2
def bV (p:UInt8):AV:=.int .u8 p.toNat
theorem getD_bV {l:List UInt8} {i:Nat} {d:AV} (h:i<l.length):(l.map bV).getD i d=.int .u8 (l.getD i 0).toNat:=by
 simp [List.getD_eq_getElem?_getD,h,bV]
theorem clL_bV (n:Nat) (l:List UInt8):AV.clL n (l.map bV):=by
 rw [AV.clL_mem];intro x hx;obtain ⟨y, _,rfl⟩:=List.mem_map.1 hx;trivial
theorem erL_bV (l:List UInt8):AV.erL (l.map bV)=l.map bV:=by
 rw [AV.erL_map,List.map_map];rfl
theorem cells_bV (l:List UInt8):∀y∈l.map bV,y.cells.length=1:=by
 intro y hy;obtain ⟨a, _,rfl⟩:=List.mem_map.1 hy;rfl
theorem allSz_bV (l:List UInt8):allSz (l.map bV) 1↔True:=iff_true_intro (allSz_map _ _ _ fun _=>rfl)
attribute [push_cast] getD_bV allSz_bV
theorem abytes_bV:∀l:List UInt8,abytes (l.map bV)=some l
 | []=>rfl
 | b::l=>by
  show (match abytes (l.map bV) with | some r=>some (UInt8.ofNat ((b.toNat:Int)).toNat::r) | none=>none)=_
  rw [abytes_bV l]
  simp
theorem abytes_one (n:Int):abytes [.int .u8 n]=some [UInt8.ofNat n.toNat]:=rfl
theorem aconvert_bytes {s d:TypeId} (l:List AV) (c:Cap):aconvert P s d (.slice l c)=match isBytesT P s,isStrT P d with
 | true,true=>match abytes l with
  | some bs=>some (.str bs)
  | none=>none
 | _, _=>none:=rfl
attribute [push_cast] abytes_bV abytes_one
end
end Go.Ab
namespace Go.Ab
open Go.RowKit
section
variable {P:Program} {h:List Blk} {live:List Nat} {K:KT}
theorem HRel.grown {w:World} {G:Gh} (hh:HRel w G h live) (k:Nat) (os:Array Obj):HRel (Go.Sort.grow (w.drewN k) os) G h live∧Evo w G live (Go.Sort.grow (w.drewN k) os) G live:=by
 have hheap:∀b,b<w.heap.size→(Go.Sort.grow (w.drewN k) os).heap[b]? = w.heap[b]? := fun b hb=>by
  show (w.heap++os)[b]? = _
  rw [Array.getElem?_append,if_pos hb]
 have hcell:∀b q,G.imm b q→(Go.Sort.grow (w.drewN k) os).cell? ⟨b,q,none⟩=w.cell? ⟨b,q,none⟩:=fun b q hb=>World.cell?_of_block (hheap b (hh.imm_lt b q hb))
 have hsz:w.heap.size≤(Go.Sort.grow (w.drewN k) os).heap.size:=by
  show _≤(w.heap++os).size
  simp
 have hev:Evo w G live (Go.Sort.grow (w.drewN k) os) G live:=⟨rfl,rfl,rfl,hsz,hcell,fun b hb _=>hheap b hb,fun _ _ h=>h,Ext.refl G⟩
 refine ⟨⟨hh.len,fun k x hx=>?_,fun k hk=>Nat.lt_of_lt_of_le (hh.blk_lt k hk) hsz,hh.inj,fun b o hb=>Nat.lt_of_lt_of_le (hh.imm_lt b o hb) hsz,hh.imm_blk,fun t ht=>?_,hh.tok_ne⟩,hev⟩
 ·
  have hk:k<G.n:=by rw [←hh.len];exact (List.getElem?_eq_some_iff.1 hx).1
  exact (hh.blk k x hx).mono (hheap _ (hh.blk_lt k hk)) hcell (Ext.refl G)
 ·
  obtain ⟨d,hd,⟨⟨cur,hc,hs⟩,h1,h2,h3,h4⟩⟩:=hh.tok t ht
  exact ⟨d,hd,⟨⟨cur,(hheap _ (Array.getElem?_eq_some_iff.1 hc).1).trans hc,hs⟩,h1,h2,h3,h4⟩⟩
theorem HRel.glob {w:World} {G:Gh} (hh:HRel w G h live) {g:Nat} {k:IntKind} {zs:List Int} (hg:globOf h g=some (zs.map (AV.int k))):∃e fz,w.heap[g]? = some (.cells (zs.map (Value.int k)).toArray e fz):=by
 obtain ⟨ob,hmem⟩:=globOf_mem hg
 obtain ⟨i,hi,hib⟩:=List.mem_iff_getElem.1 hmem
 have hb:=hh.blk i (.glb g (zs.map (AV.int k)) ob) (by rw [List.getElem?_eq_getElem hi,hib])
 obtain ⟨e0,vs,e,fz, _,h1,h2,h3⟩:=hb
 rw [e0] at h1
 refine ⟨e,fz,?_⟩
 rw [h1]
 congr 2
 apply Array.ext
 · simpa using h2
 ·
  intro j hj1 hj2
  have hj:j<zs.length:=by simpa using hj2
  have:=(h3 j (by simpa using hj)).2
  have e1:(zs.map (AV.int k)).getD j .undef=.int k zs[j]:=by simp [List.getD_eq_getElem?_getD,hj]
  have e2:vs.getD j undef=vs[j]:=by simp [Array.getD,hj1]
  rw [e1,e2] at this
  generalize vs[j]=v at this
  cases this
  simp
theorem ACalls.of_calls {f:FuncId} {fn:Func} {c:Code} {xs:List AV} (hf:P.funcs[f]? = some fn) (hn:(fn.name == "runtime.NumGoroutine")=false) (hb:fn.body=some c)
 (hc:∀w G (vs:List Value),vs.length=xs.length→(∀i,i<xs.length→Rep w G (xs.getD i .undef) (vs.getD i undef))→HRel w G h live→Calls P f vs.toArray w fun e w'=>∃v,e=.returned v∧Post w G live K v w') :
 ACalls P f xs h live K:=by
 intro w G vs hvl hr hh
 rw [run_callFunc hf hn hb]
 exact hc w G vs hvl hr hh
end
end Go.Ab
namespace Go.Ab
open Go.RowKit Go.ChangeShapes Go.WideShapes Go.Deep
def G0g (W:World) (g:Nat):Gh:=⟨1,fun _=>g,fun b _=>b<W.heap.size∧b≠g,[]⟩
theorem hrel0g {W:World} {g:Nat} {c:List AV} {ob:Obj} (hb:BlkRep W (G0g W g) (.glb g c ob) g) (hlt:g<W.heap.size):HRel W (G0g W g) [.glb g c ob] [] where
 len:=rfl
 blk:=fun k x h=>by
  match k,h with
  | 0,h=>cases h;exact hb
 blk_lt:=fun k _=>hlt
 inj:=fun j k hj hk _=>by
  have hj':j<1:=hj
  have hk':k<1:=hk
  omega
 imm_lt:=fun b o h=>h.1
 imm_blk:=fun b o k h _=>Ne.symm h.2
 tok:=fun t h=>by simp at h
 tok_ne:=fun t u d e h=>by simp at h
theorem below_of_g {W w':World} {g:Nat} {c:List AV} {ob:Obj} {G':Gh} {live':List Nat} (hb:W.heap[g]? = some ob) (h:Evo W (G0g W g) [] w' G' live') {r:List Blk} (hh:HRel w' G' (.glb g c ob::r) live'):Below W.heap.size W w':=
 ⟨h.os,h.tape,h.output,h.size,fun k hk=>by
  by_cases hkg:k=g
  ·
   subst hkg
   obtain ⟨e0,vs,e,fz,ho,h1, _⟩:=hh.blk 0 (.glb k c ob) rfl
   rw [e0] at h1
   rw [h1,hb,ho]
  ·
   exact h.other k hk (by
    rintro (⟨j,hj,e⟩ | ⟨t,d,ht, _⟩)
    · exact hkg e.symm
    · simp at ht)⟩
def scal:AV→Bool
 | .bool _ | .int _ _ | .str _=>true
 | _=>false
theorem Rep.scal {w:World} {G G':Gh} {x:AV} {v:Value} (h:Rep w G x v) (hs:Ab.scal x=true):Rep w G' x v:=by
 cases x<;>simp [Ab.scal] at hs
 · cases h;exact .bool _
 · cases h;exact .int _ _
 · cases h;exact .str _
def isScalT (P:Program) (t:TypeId):Bool:=match P.underlying t with
 | some .bool | some (.int _) | some .string=>true
 | _=>false
theorem TV_scal {P:Program}:∀ {d:Nat} {t:TypeId} {x:AV},isScalT P t=true→TV P d t x→scal x=true
 | 0,t,x, _,h=>h.elim
 | d+1,t,x,hs,h=>by
  unfold TV at h
  unfold isScalT at hs
  split at hs<;>first
   | (rename_i hu;rw [hu] at h;obtain ⟨b,rfl⟩:=h;rfl)
   | (rename_i hu;rw [hu] at h;obtain ⟨b,rfl, _⟩:=h;rfl)
   | simp at hs
theorem TVl_scal {P:Program} {d:Nat}:∀ {ts:List TypeId} {ys:List AV},ts.all (isScalT P)=true→TVl P d ts ys→∀y∈ys,scal y=true
 | [],[], _, _,y,hy=>by simp at hy
 | t::ts,x::ys,hs,h,y,hy=>by
  rw [List.all_cons,Bool.and_eq_true] at hs
  rcases List.mem_cons.1 hy with rfl | hy
  · exact TV_scal hs.1 h.1
  · exact TVl_scal hs.2 h.2 y hy
 | [], _::_, _,h, _, _=>h.elim
 | _::_,[], _,h, _, _=>h.elim
theorem laidVars_mem {P:Program} {w:World}:∀ {l:List (String×DataW Unit)} {ps:List MemPlace},DataW.LaidVars P w l ps→∀ {n:String} {d:DataW Unit},(n,d)∈l →
 ∃g t cs fuel p,P.globalNamed n=some g∧(P.globals[g]?).map (·.type)=some t∧w.var? P n=some cs∧DataW.trod (fun _=>()) P w 0 (fun _=>true) false fuel t cs.toList=some (d,p)
 | [],ps, _,n,d,hm=>by simp at hm
 | (n',d')::r,ps,⟨g,t,cs,fuel,p,q,h1,h2,h3,h4,h5, _⟩,n,d,hm=>by
  rcases List.mem_cons.1 hm with e | hm
  · cases e;exact ⟨g,t,cs,fuel,p,h1,h2,h3,h4⟩
  · exact laidVars_mem h5 hm
theorem laid_tab {P:Program} {W:World} {laid:List (String×DataW Unit)} {name:String} {k:IntKind} {zs:List Int} {g:Nat} {t e:TypeId} {n:Nat} (hp:laid.all (fun x=>x.2.handleName?.isNone)=true)
 (hm:(name,Lib.tabData k zs)∈laid) (hg:P.globalNamed name=some g) (hty:(P.globals[g]?).map (·.type)=some t) (ht:P.underlying t=some (.array n e)) (he:P.underlying e=some (.int k)) (hce:P.cellsOf e=1) (hct:P.cellsOf t=n)
 (h:laidMetH P laid W):∃e fz,W.heap[g]? = some (.cells (zs.map (Value.int k)).toArray e fz):=by
 have hf:laid.filter (fun x=>x.2.handleName?.isSome)=[]:=by
  rw [List.filter_eq_nil_iff]
  intro x hx
  have:=List.all_eq_true.1 hp x hx
  cases hh:x.2.handleName? with
  | none=>simp
  | some y=>rw [hh] at this;simp at this
 unfold laidMetH at h
 rw [hf] at h
 obtain ⟨ps,hv, _, _⟩:=h
 obtain ⟨g',t',cs,fuel,p,hg',ht',hvar,hd⟩:=laidVars_mem hv hm
 obtain rfl:=Option.some.inj (hg.symm.trans hg')
 obtain rfl:=Option.some.inj (hty.symm.trans ht')
 have hcs:=Lib.cells_of_tab ht he hce hct hd
 unfold World.var? at hvar
 rw [hg] at hvar
 simp only [Option.bind_some] at hvar
 split at hvar
 ·
  rename_i cs' e' fz' hw
  cases hvar
  refine ⟨e',fz',?_⟩
  rw [hw,←hcs]
 · simp at hvar
theorem law_true_laid {P:Program} {H:Type} {enc:TypeId×Value→H} {f:FuncId} {fn:Func} {s:ChangeSpec} {apart fresh handsOn:Bool} {d base:Nat} {tb:TypeId} {W:World} {args:Array Value} {ds gs:List (DataW H)} {before:List MemPlace}
 (hl:laidOutB P=true) (hread:fn.params.toList.all (fun t=>P.readableRec t&&decide (t<P.types.size))=true) (hsup:fn.params.toList.all (sup P d)=true) (hscal:fn.params.toList.all (isScalT P)=true)
 (hf:P.funcs[f]? = some fn) (hn:(fn.name == "runtime.NumGoroutine")=false) (hb:fn.body.isSome=true) (hres:fn.resultTypes = #[tb]) (htb:P.underlying tb=some .bool) (hvars:s.vars=[])
 (hspec:∀ds:List (DataW H),ds.length=fn.params.toList.length→s.fn H ds={ results:=[.lit (.bool true)],args:=ds })
 {g:Nat} {k:IntKind} {zs:List Int} {e:TypeId} {fz:Nat×Nat} (hglob:W.heap[g]? = some (.cells (zs.map (Value.int k)).toArray e fz))
 (hw:∀ob ys,TVl P d fn.params.toList ys→ACalls P f ys [.glb g (zs.map (AV.int k)) ob] [] (ret (.bool true) [.glb g (zs.map (AV.int k)) ob] []))
 (hval:∀(j:Nat) t v,fn.params[j]? = some t→args[j]? = some v→Value.okWide P W .any base t v)
 (hW:DataW.Whole enc P fn.params.toList s.vars apart W args.toList ds gs before) (hwt:(DataW.weightsEach P (fn.params.toList++s.plain.varTypes P) (ds++gs)).all (· ≤ reachBytes)=true) :
 Calls P f args W fun e W'=>∃v,e=.returned v∧s.post enc P fn apart fresh handsOn false W args v W':=by
 obtain ⟨p,q,hA,hV,rfl,hz,hnd⟩:=id hW
 rw [hvars] at hV
 obtain ⟨rfl,rfl⟩:=trodVars_none hV
 obtain ⟨hdl,ys,hys,hyl,hyr⟩:=args_rep (d:=d) (base:=base) fn.params.toList args.toList ds p hsup (fun j t v hj hv=>hval j t v (by simpa using hj) (by simpa using hv)) hA (fun n hn=>of_decide_eq_true (List.all_eq_true.1 hwt n (weightsEach_app _ hn)))
 obtain ⟨c,hc⟩:=Option.isSome_iff_exists.1 hb
 have hlt:g<W.heap.size:=(Array.getElem?_eq_some_iff.1 hglob).1
 have hblk:BlkRep W (G0g W g) (.glb g (zs.map (AV.int k)) (.cells (zs.map (Value.int k)).toArray e fz)) g:=
  ⟨rfl, _,e,fz,rfl,hglob,by simp,fun i hi=>by
   have hi':i<zs.length:=by simpa using hi
   simp only [List.getD_eq_getElem?_getD,List.getElem?_map,List.getElem?_eq_getElem hi',Option.map_some,Option.getD_some,Array.getD,List.size_toArray,List.length_map,hi',dif_pos]
   exact ⟨by simp [Value.oneCell'],by simpa using Rep.int k zs[i]⟩⟩
 have hcall:=hw (.cells (zs.map (Value.int k)).toArray e fz) ys hys W (G0g W g) args.toList hyl (fun i hi=>(hyr i hi).scal (TVl_scal hscal hys _ (by
  rw [List.getD_eq_getElem?_getD,List.getElem?_eq_getElem hi];exact List.getElem_mem hi))) (hrel0g hblk hlt)
 rw [run_callFunc hf hn hc] at hcall
 refine Calls.mono hcall fun e W' hpost=>?_
 obtain ⟨v,rfl,x,h',live',G',⟨rfl,rfl,rfl⟩,hrep,hh',hev⟩:=hpost
 cases hrep
 have hbel:=below_of_g hglob hev hh'
 have hlt:∀y∈p++[],y.block<W.heap.size:=fun y hy=>hW.lt y hy
 refine ⟨_,rfl,ds,[],p++[],[],p,[],hW,?_,?_,?_,?_,fun h=>nomatch h⟩
 ·
  rw [List.append_nil,hspec ds hdl,hres]
  exact ⟨[],[],⟨1,by simp [DataW.trod,htb,Value.cells]⟩,rfl,rfl⟩
 ·
  rw [List.append_nil,hspec ds hdl]
  exact trodAll_later hl _ _ _ _ hread (fun y hy=>hbel.same (hlt y (by simp [hy]))) (fun y hy=>by simpa using hlt y (by simp [hy])) hA
 · rw [hvars,List.append_nil,hspec ds hdl];rfl
 · exact hbel.frame _
end Go.Ab
namespace Go.Ab
open Go.RowKit
def makeT (P:Program) (t:TypeId):Option (Nat×Nat×List AV×Bool):=
 match P.underlying t with
 | some (.slice e)=>match P.info? e,azero P e,tk P e with
  | some j,some z,some k=>if 0<j.size∧z.cells.length=j.size then some (j.size,j.bytes,z.cells,match k with | .one=>false | .agg _=>true) else none
  | _, _, _=>none
 | _=>none
def rep (n:Nat) (z:List AV):List AV:=(List.range (n*z.length)).map fun q=>z.getD (q%z.length) .undef
theorem rep_length (n:Nat) (z:List AV):(rep n z).length=n*z.length:=by simp [rep]
def flat (l:List AV):List AV:=l.flatMap AV.cells
theorem flat_length {l:List AV} {sz:Nat} (h:∀y∈l,y.cells.length=sz):(flat l).length=l.length*sz:=by
 induction l with
 | nil=>simp [flat]
 | cons x r ih=>
  have:=ih (fun y hy=>h y (by simp [hy]))
  simp only [flat,List.flatMap_cons,List.length_append,List.length_cons] at this ⊢
  rw [this,h x (by simp),Nat.add_mul];omega
theorem flat_getD {l:List AV} {sz:Nat} (h:∀y∈l,y.cells.length=sz) {i j:Nat} (hi:i<l.length) (hj:j<sz):(flat l).getD (i*sz+j) .undef=(l.getD i .undef).cells.getD j .undef:=by
 induction l generalizing i with
 | nil=>simp at hi
 | cons x r ih=>
  have hx:=h x (by simp)
  simp only [flat,List.flatMap_cons]
  rw [getD_append',hx]
  cases i with
  | zero=>rw [if_pos (by omega)];simp
  | succ i=>
   have e:(i+1)*sz+j - sz=i*sz+j:=by rw [Nat.add_mul];omega
   rw [if_neg (by rw [Nat.add_mul];omega),e]
   exact ih (fun y hy=>h y (by simp [hy])) (by simpa using hi)
section
variable {P:Program} {fr:Nat→AV} {h:List Blk} {live:List Nat} {o:Oper} {K:KT}
theorem makeT_sound {t:TypeId} {sz by_:Nat} {z:List AV} {ag:Bool} (ht:makeT P t=some (sz,by_,z,ag)) :
 ∃e j zv,P.underlying t=some (.slice e)∧P.info? e=some j∧j.size=sz∧j.bytes=by_∧0<sz∧z.length=sz∧azero P e=some zv∧zv.cells=z∧(ag=true∨sz=1):=by
 unfold makeT at ht
 split at ht
 ·
  rename_i e he
  split at ht
  ·
   rename_i j zv k hj hz hk
   split at ht
   ·
    rename_i hc
    simp only [Option.some.injEq,Prod.mk.injEq] at ht
    obtain ⟨rfl,rfl,rfl,rfl⟩:=ht
    refine ⟨e,j,zv,he,hj,rfl,rfl,hc.1,hc.2,hz,rfl,?_⟩
    cases k with
    | agg n=>exact .inl rfl
    | one=>
     obtain ⟨d,i, _, _,hi,hs⟩:=tk_one hk
     rw [hj] at hi;cases hi
     exact .inr hs
   · simp at ht
  · simp at ht
 · simp at ht
theorem madeCells_rep {w:World} {G:Gh} {z:List AV} {zz:Array Value} (hr:RepL w G z zz.toList) (hz:0<z.length) (n:Nat):RepL w G (rep n z) (madeCells zz (n*z.length)).toList:=by
 have hzs:zz.size=z.length:=by simpa using hr.1
 refine ⟨by simp [rep_length,madeCells],fun q hq=>?_⟩
 rw [rep_length] at hq
 have hm:q%z.length<z.length:=Nat.mod_lt _ hz
 have h1:=hr.2 (q%z.length) hm
 have e1:(rep n z).getD q .undef=z.getD (q%z.length) .undef:=by simp [rep,List.getD_eq_getElem?_getD,hq]
 have e2:(madeCells zz (n*z.length)).toList.getD q undef=zz.toList.getD (q%z.length) undef:=by
  have hm':q%zz.size<zz.size:=by rw [hzs];exact hm
  simp only [List.getD_eq_getElem?_getD,Array.getElem?_toList,madeCells,Array.getElem?_map,Array.getElem?_range,hq,if_true,Option.map_some,Option.getD_some]
  rw [←hzs,getElem!_pos zz _ hm',Array.getElem?_eq_getElem hm'];rfl
 rw [e1,e2];exact h1
theorem AOp.makeSlice (t:TypeId) (l c:Operand) (ho:o.op=.makeSlice t l c) {sz by_:Nat} {z:List AV} {ag:Bool} (ht:makeT P t=some (sz,by_,z,ag)) {kl kc:IntKind} {n m:Nat}
 (hl:ev fr l=.int kl (n:Nat)) (hc:ev fr c=.int kc (m:Nat)) (hnm:n≤m) (hb:by_*m≤281474976710656) (hm:m≤140737488355328)
 (hK:K (.bsl h.length 0 sz ag n m) (h++[.cells (rep m z)]) live):AOp P fr h live o K:=by
 obtain ⟨dst,op,ty,pos,after,guard⟩:=o
 simp only at ho;subst ho
 intro w G ρ hρ hr hh
 obtain ⟨e,j,zv,he,hj,rfl,rfl,hpos,hzl,hz,hzc,hag⟩:=makeT_sound ht
 have h1:=hr l (by simp [Op.operands])
 have h2:=hr c (by simp [Op.operands])
 rw [hl] at h1;rw [hc] at h2
 generalize hu:ρ l=u at h1
 generalize hv:ρ c=v at h2
 cases h1;cases h2
 obtain ⟨i,zz,hi,hiz,hzr,hrep,hrepl⟩:=azero_sound (w:=w) (G:=G) hz
 rw [hj] at hi;cases hi
 rw [hzc] at hrepl
 have hb':(j.bytes:Int)*(m:Int)≤281474976710656:=by
  have h:((j.bytes*m:Nat):Int)≤281474976710656:=by omega
  rwa [Int.natCast_mul] at h
 have hrun:=run_make (P:=P) w t e j zz he hj hiz kl kc n m (by omega) (by omega) hb' (by omega)
 simp only [Int.toNat_natCast] at hrun
 have hrun':(execOp ρ ⟨dst,.makeSlice t l c,ty,pos,after,guard⟩).run P w=.ok (.value (.slice (some ⟨w.heap.size,0,none⟩) n m)) (w.alloc (.cells (madeCells zz.cells (m*j.size)) e)):=by
  simp only [execOp,hu,hv]
  exact run_value hrun
 rw [hrun']
 have hR:=madeCells_rep hrepl (by omega) m
 rw [hzl] at hR
 obtain ⟨G',hh',hev,hn,hbk⟩:=hh.push (rep m z) (madeCells zz.cells (m*j.size)).toList e hR
 refine ⟨_, _, _,G',hK,?_,by simpa using hh',by simpa using hev⟩
 have:=Rep.bsl (w:=w.alloc (.cells (madeCells zz.cells (m*j.size)) e)) (G:=G') h.length 0 j.size ag n m (by rw [hn,hh.len];exact Nat.lt_succ_self _) hnm (by unfold maxLen;omega)
 rw [hh.len,hbk] at this
 rw [hh.len]
 exact this
theorem HRel.putCells {w:World} {G:Gh} (hh:HRel w G h live) {k:Nat} {cs xs:List AV} {news:List Value} {off:Nat} (hk:h[k]? = some (.cells cs)) (hn:RepL w G xs news) (hle:off+xs.length≤cs.length) :
 ∃vs e,w.heap[G.blk k]? = some (.cells vs e (0,0))∧vs.size=cs.length ∧
  HRel (w.setRow (G.blk k) (vs.toList.take off++news++vs.toList.drop (off+news.length)).toArray) G (h.set k (.cells (putAt cs off xs))) live ∧
  Evo w G live (w.setRow (G.blk k) (vs.toList.take off++news++vs.toList.drop (off+news.length)).toArray) G live:=by
 have hb:k<G.n:=by rw [←hh.len];exact (List.getElem?_eq_some_iff.1 hk).1
 obtain ⟨vs,e,h1,h2,h3⟩:=hh.blk k _ hk
 refine ⟨vs,e,h1,h2,?_⟩
 refine hh.put hb (w.setRow (G.blk k) (vs.toList.take off++news++vs.toList.drop (off+news.length)).toArray) rfl rfl rfl (by simp) (fun q hq=>setRow_other w _ q _ hq) ?_
 have himm:∀b' q,G.imm b' q→(w.setRow (G.blk k) (vs.toList.take off++news++vs.toList.drop (off+news.length)).toArray).cell? ⟨b',q,none⟩=w.cell? ⟨b',q,none⟩:=fun b' q hbq=>
  World.cell?_of_block (setRow_other w _ b' _ (fun e=>hh.imm_blk b' q k hbq hb e.symm))
 refine ⟨_,e,setRow_heap w _ vs _ e _ h1,?_,fun j hj=>?_⟩
 · rw [putAt_length];simp;rw [hn.1];omega
 ·
  have hrl:RepL w G cs vs.toList:=⟨by simpa using h2,fun i hi=>by simpa [List.getD_eq_getElem?_getD] using h3 i hi⟩
  have:=(hrl.putAt hn hle).2 j hj
  rw [putAt_eq news vs.toList off (by simp;rw [h2,hn.1];exact hle)] at this
  exact ⟨by simpa [List.getD_eq_getElem?_getD] using this.1,by simpa [List.getD_eq_getElem?_getD] using this.2.mono himm (Ext.refl G)⟩
theorem slice_cells {w:World} {G:Gh} {m:List AV} {c:Cap} {u:Value} (hr:Rep w G (.slice m c) u) {sz:Nat} (hm:∀y∈m,y.cells.length=sz) {n:Nat} (hn:n≤m.length) :
 ∃base cap news,u=.slice base m.length cap∧m.length≤cap∧RepL w G (flat (m.take n)) news∧(Builtin.firstCells sz n u).run P w=.ok news.toArray w∧((base=none∧m=[])∨∃a,base=some a):=by
 have hmt:∀y∈m.take n,y.cells.length=sz:=fun y hy=>hm y (List.mem_of_mem_take hy)
 cases hr with
 | nilSlice=>exact ⟨none,0,[],rfl,Nat.le_refl _,⟨by simp [flat],fun i hi=>by simp [flat] at hi⟩,by simp [Builtin.firstCells],.inl ⟨rfl,rfl⟩⟩
 | emptySlice a=>
  have:n=0:=by simpa using hn
  subst this
  exact ⟨some a,0,[],rfl,Nat.le_refl _,⟨by simp [flat],fun i hi=>by simp [flat] at hi⟩,run_firstCells_some (P:=P) w sz 0 a 0 0 [] (by simp) (fun j v hj=>by simp at hj),.inr ⟨a,rfl⟩⟩
 | slice _ _ b o cap sz' f hcap hmax hsz himm hcell hone hrep hcc=>
  have hgm:∀q,q<m.length→(m.getD q .undef).cells.length=sz:=fun q hq=>hm _ (by rw [List.getD_eq_getElem?_getD,List.getElem?_eq_getElem hq];exact List.getElem_mem hq)
  have hs:0<m.length→sz'=sz:=fun h0=>by rw [←hsz 0 h0,hgm 0 h0]
  have hcell':∀q j,q<n→j<sz→w.cell? ⟨b,o+(q*sz+j),none⟩=some (f q j):=fun q j hq hj=>by
   have:=hs (by omega);subst this;exact hcell q j (by omega) hj
  refine ⟨some ⟨b,o,none⟩,cap,flatV sz n f,rfl,hcap,⟨by rw [flatV_length,flat_length hmt,List.length_take,Nat.min_eq_left hn],fun q hq=>?_⟩,run_firstCells_some (P:=P) w sz n ⟨b,o,none⟩ _ _ _ (flatV_length _ _ _) (flatV_cells hcell'),.inr ⟨_,rfl⟩⟩
  rw [flat_length hmt,List.length_take,Nat.min_eq_left hn] at hq
  obtain ⟨d1,d2,d3⟩:=divmod_lt hq
  have hqm:q / sz<m.length:=Nat.lt_of_lt_of_le d1 hn
  have:=hs (Nat.lt_of_le_of_lt (Nat.zero_le _) hqm)
  subst this
  have e1:(flatV sz' n f).getD q undef=f (q / sz') (q%sz'):=by
   have:=flatV_get f d1 d2
   rw [d3] at this
   rw [List.getD_eq_getElem?_getD,this];rfl
  have e2:(flat (m.take n)).getD q .undef=(m.getD (q / sz') .undef).cells.getD (q%sz') .undef:=by
   have:=flat_getD hmt (i:=q / sz') (j:=q%sz') (by rw [List.length_take,Nat.min_eq_left hn];exact d1) d2
   rw [d3] at this
   rw [this]
   congr 2
   simp [List.getD_eq_getElem?_getD,List.getElem?_take,d1]
  rw [e1,e2]
  exact ⟨hone _ _ hqm d2,hrep _ _ hqm d2⟩
theorem AOp.copyB (d s:Operand) (td ts:TypeId) (ho:o.op=.call { callee:=.builtin .copy,args := #[d,s],argTypes := #[td,ts] }) {sz:Nat} (ht:sliceSz P td=some sz) {k off ln cap:Nat} {ag:Bool}
 (hd:ev fr d=.bsl k off sz ag ln cap) {m:List AV} {c2:Cap} (hs:ev fr s=.slice m c2) {cs:List AV} (hk:h[k]? = some (.cells cs)) (hm:∀y∈m,y.cells.length=sz) (hfit:off+(min m.length ln)*sz≤cs.length)
 (hK:K (.int .i64 (min m.length ln:Nat)) (h.set k (.cells (putAt cs off (flat (m.take (min m.length ln)))))) live):AOp P fr h live o K:=by
 obtain ⟨n,hmin⟩:∃n,Nat.min m.length ln=n:=⟨_,rfl⟩
 have hnl:n≤m.length:=by rw [←hmin];exact Nat.min_le_left _ _
 rw [show min m.length ln=n from hmin] at hfit hK
 obtain ⟨dst,op,ty,pos,after,guard⟩:=o
 simp only at ho;subst ho
 intro w G ρ hρ hr hh
 obtain ⟨e,j,he,hj,rfl⟩:=sliceSz_sound ht
 have h1:=hr d (by simp [Op.operands,Call.operands])
 have h2:=hr s (by simp [Op.operands,Call.operands])
 rw [hd] at h1;rw [hs] at h2
 generalize hu:ρ d=u at h1
 generalize hv:ρ s=v at h2
 cases h1
 rename_i hkn hl hmx
 obtain ⟨base,cap',news,hvv, _,hrl,hfc, _⟩:=slice_cells (P:=P) h2 hm (n:=n) hnl
 have hlen:(flat (m.take (n))).length=n*j.size:=by
  rw [flat_length (fun y hy=>hm y (List.mem_of_mem_take hy)),List.length_take,Nat.min_eq_left hnl]
 obtain ⟨vs,e',hw,hsz,hh',hev⟩:=hh.putCells hk hrl (by rw [hlen];exact hfit)
 have hone:∀x∈news,x.oneCell'=true:=fun x hx=>by
  obtain ⟨q,hq,rfl⟩:=List.mem_iff_getElem.1 hx
  have:=(hrl.2 q (by rw [←hrl.1];exact hq)).1
  simpa [List.getD_eq_getElem?_getD,hq] using this
 have hst:=run_storeCells_at P (G.blk k) off e' news 0 vs w hw (by simp;rw [hsz,hrl.1,hlen];exact hfit) hone
 simp only [Nat.add_zero] at hst
 have hrun:(Builtin.copy_ #[td,ts] ty #[.slice (some ⟨G.blk k,off,none⟩) ln cap,v]).run P w=.ok (goInt (n)) (w.setRow (G.blk k) (vs.toList.take off++news++vs.toList.drop (off+news.length)).toArray):=by
  subst hvv
  simp [Builtin.copy_,run_underlying he,Builtin.lenOf,sizeOf,typeInfo,hj,hmin,hfc,hst]
 have hrun':(execOp ρ ⟨dst,.call { callee:=.builtin .copy,args := #[d,s],argTypes := #[td,ts] },ty,pos,after,guard⟩).run P w=.ok (.value (goInt (n))) (w.setRow (G.blk k) (vs.toList.take off++news++vs.toList.drop (off+news.length)).toArray):=by
  simp [execOp,resolve,invoke,builtin,hu,hv,hrun]
 rw [hrun']
 exact ⟨_, _, _,G,hK,.int _ _,hh',hev⟩
theorem AOp.appendB (s x:Operand) (t:TypeId) (ho:o.op=.call { callee:=.builtin .append,args := #[s,x],argTypes := #[t,t] }) {sz:Nat} (ht:sliceSz P t=some sz) {k ln cap:Nat} {ag:Bool}
 (hs:ev fr s=.bsl k 0 sz ag ln cap) {m:List AV} {c2:Cap} (hx:ev fr x=.slice m c2) {cs:List AV} (hk:h[k]? = some (.cells cs)) (hm:∀y∈m,y.cells.length=sz) (hcap:ln+m.length≤cap) (hfit:(ln+m.length)*sz≤cs.length)
 (hK:K (.bsl k 0 sz ag (ln+m.length) cap) (h.set k (.cells (putAt cs (ln*sz) (flat m)))) live):AOp P fr h live o K:=by
 obtain ⟨dst,op,ty,pos,after,guard⟩:=o
 simp only at ho;subst ho
 intro w G ρ hρ hr hh
 obtain ⟨e,j,he,hj,rfl⟩:=sliceSz_sound ht
 have h1:=hr s (by simp [Op.operands,Call.operands])
 have h2:=hr x (by simp [Op.operands,Call.operands])
 rw [hs] at h1;rw [hx] at h2
 generalize hu:ρ s=u at h1
 generalize hv:ρ x=v at h2
 cases h1
 rename_i hkn hl hmx
 obtain ⟨base,cap',news,hvv, _,hrl,hfc,hb⟩:=slice_cells (P:=P) h2 hm (n:=m.length) (Nat.le_refl _)
 rw [List.take_of_length_le (Nat.le_refl _)] at hrl
 have hlen:(flat m).length=m.length*j.size:=flat_length hm
 have hle:ln*j.size+(flat m).length≤cs.length:=by rw [hlen,←Nat.add_mul];exact hfit
 obtain ⟨vs,e',hw,hsz,hh',hev⟩:=hh.putCells hk hrl hle
 have hone:∀x∈news,x.oneCell'=true:=fun x hx=>by
  obtain ⟨q,hq,rfl⟩:=List.mem_iff_getElem.1 hx
  have:=(hrl.2 q (by rw [←hrl.1];exact hq)).1
  simpa [List.getD_eq_getElem?_getD,hq] using this
 have hst:=run_storeCells_at P (G.blk k) (ln*j.size) e' news 0 vs w hw (by simp;rw [hsz,hrl.1];exact hle) hone
 simp only [Nat.add_zero] at hst
 have hrun:(Builtin.append_ #[t,t] ty #[.slice (some ⟨G.blk k,0,none⟩) ln cap,v]).run P w=.ok (.slice (some ⟨G.blk k,0,none⟩) (ln+m.length) cap) (w.setRow (G.blk k) (vs.toList.take (ln*j.size)++news++vs.toList.drop (ln*j.size+news.length)).toArray):=by
  subst hvv
  simp [Builtin.append_,run_underlying he,sizeOf,typeInfo,hj,Builtin.lenOf,hcap,hfc,Addr.add_lit,hst]
 have hrun':(execOp ρ ⟨dst,.call { callee:=.builtin .append,args := #[s,x],argTypes := #[t,t] },ty,pos,after,guard⟩).run P w=.ok (.value (.slice (some ⟨G.blk k,0,none⟩) (ln+m.length) cap)) (w.setRow (G.blk k) (vs.toList.take (ln*j.size)++news++vs.toList.drop (ln*j.size+news.length)).toArray):=by
  simp [execOp,resolve,invoke,builtin,hu,hv,hrun]
 rw [hrun']
 exact ⟨_, _, _,G,hK,.bsl k 0 j.size ag (ln+m.length) cap hkn hcap hl,hh',hev⟩
end
end Go.Ab
namespace Go.Ab
open Go.RowKit
section
variable {P:Program} {fr:Nat→AV} {h:List Blk} {live:List Nat} {o:Oper} {K:KT}
def isSliceU (P:Program) (t:TypeId):Bool:=isSliceT P t
theorem equalIn_nil {P:Program} {w:World} {t e:TypeId} (he:P.underlying t=some (.slice e)) (d:Nat) (a:Option Addr) (n c:Nat):(Op.equalIn (d+1) t (.slice a n c) (.slice none 0 0)).run P w=.ok a.isNone w:=by
 unfold Op.equalIn
 simp only [Sem.run_bind,run_underlying he,Result.andThen_ok]
 cases a<;>rfl
theorem equal_nil {P:Program} {w:World} {t e:TypeId} (he:P.underlying t=some (.slice e)) (a:Option Addr) (n c:Nat):(Op.equal t (.slice a n c) (.slice none 0 0)).run P w=.ok a.isNone w:=equalIn_nil he 9999 a n c
theorem AOp.eqNil (t t':TypeId) (x:Operand) (ho:o.op=.binOp .eql t x (.const (.slice none 0 0)) t') (ht:isSliceT P t=true) {l:List AV} {c:Cap} (hx:ev fr x=.slice l c)
 (hK:∀b:Bool,(b=true→l=[])→K (.bool b) h live):AOp P fr h live o K:=by
 obtain ⟨dst,op,ty,pos,after,guard⟩:=o
 simp only at ho;subst ho
 intro w G ρ hρ hr hh
 have h1:=hr x (by simp [Op.operands])
 rw [hx] at h1
 generalize hu:ρ x=u at h1
 have hv:=hρ (.slice none 0 0)
 unfold isSliceT at ht
 split at ht
 ·
  rename_i e he
  have key:∃b:Bool,(b=true→l=[])∧(Op.equal t u (.slice none 0 0)).run P w=.ok b w∧∃a n c,u=.slice a n c:=by
   cases h1 with
   | nilSlice=>exact ⟨true,fun _=>rfl,equal_nil he _ _ _, _, _, _,rfl⟩
   | emptySlice a=>exact ⟨false,fun _=>rfl,equal_nil he _ _ _, _, _, _,rfl⟩
   | slice _ _ b o cap sz f=>exact ⟨false,fun e=>Bool.noConfusion e,equal_nil he _ _ _, _, _, _,rfl⟩
  obtain ⟨b,hb,hrun,a,n,c',rfl⟩:=key
  have hrun':(execOp ρ ⟨dst,.binOp .eql t x (.const (.slice none 0 0)) t',ty,pos,after,guard⟩).run P w=.ok (.value (.bool b)) w:=by
   simp [execOp,hu,hv,eqGuard,binOp,hrun]
  rw [hrun']
  exact ⟨_, _, _,G,hK b hb,.bool b,hh,Evo.refl _ _ _⟩
 · simp at ht
theorem AOp.insert (t:TypeId) (x i v:Operand) (ho:o.op=.insert t x i v) {m:MK} {e:TypeId} (ht:mapT P t=some (m,e)) {b:Nat} (hx:ev fr x=.map b) {es:List (AV×AV)} (hb:h[b]? = some (.map es))
 {k y:AV} (hk:ev fr i=k) (hv:ev fr v=y) (ok:okKey m k=true) (oks:okKeys m es=true) (hK:K .undef (h.set b (.map (aput k y es))) live):AOp P fr h live o K:=by
 have hup:=AOp.mapUpdate (P:=P) (fr:=fr) (h:=h) (live:=live) (o:={ o with op:=.mapUpdate t x i v }) (K:=K) t x i v rfl ht hx hb hk hv ok oks hK
 obtain ⟨dst,op,ty,pos,after,guard⟩:=o
 simp only at ho;subst ho
 exact fun w G ρ hρ hr hh=>hup w G ρ hρ hr hh
end
end Go.Ab
namespace Go.Ab
open Go.RowKit
def scopeQ (Q:Exit→AS→Prop):Exit→AS→Prop
 | .goto _, _=>False
 | e,S=>Q e S
theorem scopeQ_n (Q:Exit→AS→Prop) (S:AS):scopeQ Q .normal S=Q .normal S:=rfl
theorem scopeQ_r (Q:Exit→AS→Prop) (S:AS):scopeQ Q .ret S=Q .ret S:=rfl
theorem scopeQ_e (Q:Exit→AS→Prop) (k:Nat) (S:AS):scopeQ Q (.exit k) S=Q (.exit k) S:=rfl
attribute [push_cast] scopeQ_n scopeQ_r scopeQ_e
theorem awp_scope {P:Program} {Q:Exit→AS→Prop} {S:AS} {c:Code} (h:AwpC P c (scopeQ Q) S):AwpC P (.scope c) Q S:=by
 intro w G a hs
 refine wp_scope_straight (wp_mono (h w G a hs) fun e a' w' q=>?_)
 obtain ⟨G',S',q,hs',ev⟩:=q
 cases e with
 | goto l=>exact q.elim
 | _=>exact ⟨G',S',q,hs',ev⟩
section
variable {P:Program} {fr:Nat→AV} {h:List Blk} {live:List Nat} {o:Oper} {K:KT}
theorem HRel.drewn {w:World} {G:Gh} (hh:HRel w G h live):HRel w.drew G h live∧Evo w G live w.drew G live:=by
 have e:Go.Sort.grow (w.drewN 1) #[]=w.drew:=by
  cases w
  simp [Go.Sort.grow,World.drewN,World.drew]
 have:=hh.grown 1 #[]
 rw [e] at this
 exact this
theorem AOp.appendM (s x:Operand) (t:TypeId) (ho:o.op=.call { callee:=.builtin .append,args := #[s,x],argTypes := #[t,t] }) {sz by_:Nat} {z:List AV} {ag:Bool} (ht:makeT P t=some (sz,by_,z,ag))
 (hs:ev fr s=.slice [] .full) {m:List AV} {c2:Cap} (hx:ev fr x=.slice m c2) (hm0:0<m.length) (hm:∀y∈m,y.cells.length=sz) (hbytes:m.length*by_≤140737488355328) (hmx:m.length≤140737488355328)
 (hK:∀cap n,K (.bsl h.length 0 sz ag m.length cap) (h++[.cells (flat m++rep n z)]) live):AOp P fr h live o K:=by
 obtain ⟨dst,op,ty,pos,after,guard⟩:=o
 simp only at ho;subst ho
 intro w G ρ hρ hr hh
 obtain ⟨e,i,zv,he,hi,rfl,rfl,hpos,hzl,hz,hzc,hag⟩:=makeT_sound ht
 have hrs:=hr s (by simp [Op.operands,Call.operands])
 have hrx:=hr x (by simp [Op.operands,Call.operands])
 rw [hs] at hrs;rw [hx] at hrx
 generalize hu:ρ s=u at hrs
 generalize hv:ρ x=v at hrx
 obtain ⟨i',zz,hi',hiz,hzr,hrep,hrepl⟩:=azero_sound (w:=w) (G:=G) hz
 rw [hi] at hi';cases hi'
 rw [hzc] at hrepl
 obtain ⟨base,cap',news,hvv, _,hrl,hfc,hb⟩:=slice_cells (P:=P) hrx hm (n:=m.length) (Nat.le_refl _)
 rw [List.take_of_length_le (Nat.le_refl _)] at hrl
 have hlen:(flat m).length=m.length*i.size:=flat_length hm
 cases hrx with
 | nilSlice=>simp at hm0
 | emptySlice=>simp at hm0
 | slice _ _ b2 o2 cap2 sz2 g hcap2 hmax2 hsz2 himm2 hcell2 hone2 hrep2 hcc2=>
  have e2:sz2=i.size:=by
   rw [←hsz2 0 hm0]
   exact hm _ (by rw [List.getD_eq_getElem?_getD,List.getElem?_eq_getElem hm0];exact List.getElem_mem hm0)
  subst e2
  have hnews:=flatV_cells hcell2
  have hnl:=flatV_length i.size m.length g
  have hnn:news=flatV i.size m.length g:=by
   have h1:=run_firstCells_some (P:=P) w i.size m.length ⟨b2,o2,none⟩ m.length cap2 _ hnl hnews
   rw [h1] at hfc
   simp only [Result.ok.injEq] at hfc
   have:=congrArg Array.toList hfc.1
   simpa using this.symm
  have fin:∀k,Post w G live K (.slice (some ⟨w.heap.size,0,none⟩) m.length k) (w.drew.alloc (.cells (news.toArray++Builtin.zeroCells zz.cells (k - m.length)) e))→Post w G live K (.slice (some ⟨w.heap.size,0,none⟩) m.length k) (w.drew.alloc (.cells (news.toArray++Builtin.zeroCells zz.cells (k - m.length)) e)):=fun _ h=>h
  have grow:∀k,m.length≤k→k≤maxLen→Post w G live K (.slice (some ⟨w.heap.size,0,none⟩) m.length k) (w.drew.alloc (.cells (news.toArray++Builtin.zeroCells zz.cells (k - m.length)) e)):=by
   intro k hk1 hk2
   obtain ⟨hd,hed⟩:=hh.drewn
   have hzs:zz.cells.size=z.length:=by have:=hrepl.1;simpa using this
   have hrz:RepL w G (rep (k - m.length) z) (madeCells zz.cells ((k - m.length)*z.length)).toList:=madeCells_rep hrepl (by omega) (k - m.length)
   have hall:RepL w.drew G (flat m++rep (k - m.length) z) (news++(madeCells zz.cells ((k - m.length)*z.length)).toList):=by
    refine ⟨by rw [List.length_append,List.length_append,hrl.1,hrz.1],fun q hq=>?_⟩
    rw [getD_append',getD_append',hrl.1]
    split
    ·
     rename_i hq1
     have:=hrl.2 q hq1
     exact ⟨this.1,hed.rep this.2⟩
    ·
     rename_i hq1
     have:=hrz.2 (q - (flat m).length) (by rw [List.length_append] at hq;omega)
     exact ⟨this.1,hed.rep this.2⟩
   obtain ⟨G',hh',hev,hn,hbk⟩:=hd.push (flat m++rep (k - m.length) z) _ e hall
   have ec:news.toArray++Builtin.zeroCells zz.cells (k - m.length)=(news++(madeCells zz.cells ((k - m.length)*z.length)).toList).toArray:=by
    rw [←hzs]
    simp [Builtin.zeroCells,madeCells]
   rw [ec]
   refine ⟨_, _, _,G',hK k (k - m.length),?_,hh',hed.trans hev⟩
   have:=Rep.bsl (w:=w.drew.alloc (.cells (news++(madeCells zz.cells ((k - m.length)*z.length)).toList).toArray e)) (G:=G') h.length 0 i.size ag m.length k (by rw [hn,hh.len];exact Nat.lt_succ_self _) hk1 hk2
   rw [hh.len,hbk] at this
   rw [hh.len]
   exact this
  have hrun:∀(z':Value) (w':World),(Builtin.append_ #[t,t] ty #[u,.slice (some ⟨b2,o2,none⟩) m.length cap2]).run P w=.ok z' w'→(execOp ρ ⟨dst,.call { callee:=.builtin .append,args := #[s,x],argTypes := #[t,t] },ty,pos,after,guard⟩).run P w=.ok (.value z') w':=fun z' w' hz'=>by
   simp [execOp,resolve,invoke,builtin,hu,hv,hz']
  have h63:m.length≤maxLen:=by unfold maxLen;omega
  cases hrs with
  | nilSlice=>
   have hr':=run_append_nil (P:=P) w t ty e i zz he hi hiz ⟨b2,o2,none⟩ m.length cap2 _ hnl hnews hm0 (by omega) (by omega)
   rw [hrun _ _ hr',←hnn]
   exact grow _ (by have:=grownCap_ge w m.length 0 e;exact this) (grownCap_le_maxLen w m.length 0 e h63)
  | emptySlice a0 _ _=>
   have hr':=run_append_grow (P:=P) w t ty e i zz he hi hiz a0 0 0 [] (by simp) (by simp) ⟨b2,o2,none⟩ m.length cap2 _ hnl hnews (by omega) (by omega) (growslice_fits (by omega) (by simpa using hbytes))
   rw [hrun _ _ hr',←hnn]
   simp only [Nat.zero_add]
   rw [Array.empty_append]
   exact grow _ (by have:=grownCap_ge w m.length 0 e;exact this) (grownCap_le_maxLen w m.length 0 e h63)
  | slice _ _ b o cap sz f hcap hmax hsz' himm hcell hone hrep' hcc=>
   have hc0:cap=0:=by simpa [CapRep] using hcc
   subst hc0
   have hr':=run_append_grow (P:=P) w t ty e i zz he hi hiz ⟨b,o,none⟩ 0 0 [] (by simp) (by simp) ⟨b2,o2,none⟩ m.length cap2 _ hnl hnews (by omega) (by omega) (growslice_fits (by omega) (by simpa using hbytes))
   simp only [List.length_nil] at hrun ⊢
   rw [hrun _ _ hr',←hnn]
   simp only [Nat.zero_add]
   rw [Array.empty_append]
   exact grow _ (by have:=grownCap_ge w m.length 0 e;exact this) (grownCap_le_maxLen w m.length 0 e h63)
end
end Go.Ab
namespace Go.Ab
open Go.RowKit
attribute [push_cast] Bool.true_and and_true true_and cond_true cond_false if_pos if_neg clL_str erL_str clL_bV erL_bV
def sxN:Nat:=0
theorem sx0:sxN=0:=rfl
section
variable {P:Program} {q:RQ} {gd:Nat→Option Tmp} {n:Nat} {fl:FL} {h:List Blk} {live:List Nat} {F:FT} {o:Oper} {os:List Oper}
theorem sg_ {os':List Oper} {fl':FL} {h':List Blk} (k:dawp P q gd n os' (fget fl') h' live F)
 (s:dawp P q gd n os' (fget fl') h' live F→dawp P q gd n os (fget fl) h live F:=by
  intro k
  repeat (first
   | refine dawp_p rfl (by (simp (disch:=omega) only [push_cast,and_true,cond_true,cond_false,if_pos,if_neg,↓reduceIte,Nat.reduceEqDiff,Nat.reduceAdd,Nat.reduceLeDiff,sx])<;>rfl) rfl rfl ?_
   | refine dawp_h rfl (by (simp (disch:=omega) only [push_cast,and_true,cond_true,cond_false,if_pos,if_neg,↓reduceIte,Nat.reduceEqDiff,Nat.reduceAdd,Nat.reduceLeDiff,sx])<;>rfl) rfl rfl ?_
   | refine dawp_hn rfl (by (simp (disch:=omega) only [push_cast,and_true,cond_true,cond_false,if_pos,if_neg,↓reduceIte,Nat.reduceEqDiff,Nat.reduceAdd,Nat.reduceLeDiff,sx])<;>rfl) rfl ?_
   | refine dawp_g rfl rfl (by simp only [push_cast,and_true,cond_true,cond_false,if_pos,if_neg,↓reduceIte,Nat.reduceEqDiff,Nat.reduceAdd,Nat.reduceLeDiff,sx];rfl) (fun hg=>by
    have hg2:=hg
    try simp only [decide_eq_true_eq,decide_eq_false_iff_not,Bool.not_eq_true',Bool.not_eq_false',Bool.or_eq_true,Bool.and_eq_true,Bool.or_eq_false_iff,Bool.and_eq_false_imp,Int.not_lt,Int.not_le,Bool.false_or,Bool.or_false,Bool.true_and,Bool.and_true] at hg2
    simp (disch:=omega) only [hg,push_cast,and_true,cond_true,cond_false,if_pos,if_neg,↓reduceIte,Nat.reduceEqDiff,Nat.reduceAdd,Nat.reduceLeDiff,sx];rfl) rfl rfl ?_
   | refine dawp_gh rfl rfl (by simp only [push_cast,and_true,cond_true,cond_false,if_pos,if_neg,↓reduceIte,Nat.reduceEqDiff,Nat.reduceAdd,Nat.reduceLeDiff,sx];rfl) (fun hg=>by
    have hg2:=hg
    try simp only [decide_eq_true_eq,decide_eq_false_iff_not,Bool.not_eq_true',Bool.not_eq_false',Bool.or_eq_true,Bool.and_eq_true,Bool.or_eq_false_iff,Bool.and_eq_false_imp,Int.not_lt,Int.not_le,Bool.false_or,Bool.or_false,Bool.true_and,Bool.and_true] at hg2
    simp (disch:=omega) only [hg,push_cast,and_true,cond_true,cond_false,if_pos,if_neg,↓reduceIte,Nat.reduceEqDiff,Nat.reduceAdd,Nat.reduceLeDiff,sx];rfl) rfl rfl ?_)
  exact k):dawp P q gd n os (fget fl) h live F:=s k
def endF (P:Program) (y:Code) (Q:Exit→AS→Prop) (n:Nat) (V:List Tmp):FT:=fun fr h l=>AwpC P y Q ⟨n,fget (fkeep V fr),h,l⟩
def endN (Q:Exit→AS→Prop) (n:Nat) (V:List Tmp):FT:=fun fr h l=>Q .normal ⟨n,fget (fkeep V fr),h,l⟩
theorem re_ {y:Code} {Q:Exit→AS→Prop} {V:List Tmp} {fl2:FL} {h2:List Blk} (k:AwpC P y Q ⟨n,fget fl2,h2,live⟩)
 (hf:fkeep V (fget fl)=fl2:=by (simp (disch:=omega) only [push_cast,and_true,cond_true,cond_false,if_pos,if_neg,↓reduceIte,Nat.reduceEqDiff,Nat.reduceAdd,Nat.reduceLeDiff,sx])<;>rfl) (hh:h=h2:=by (try simp (disch:=omega) only [push_cast,and_true,cond_true,cond_false,if_pos,if_neg,↓reduceIte,Nat.reduceEqDiff,Nat.reduceAdd,Nat.reduceLeDiff,sx])<;>rfl):dawp P q gd n [] (fget fl) h live (endF P y Q n V):=by
 subst hf;subst hh;exact k
theorem rn_ {Q:Exit→AS→Prop} {V:List Tmp} {fl2:FL} {h2:List Blk} (k:Q .normal ⟨n,fget fl2,h2,live⟩)
 (hf:fkeep V (fget fl)=fl2:=by (simp (disch:=omega) only [push_cast,and_true,cond_true,cond_false,if_pos,if_neg,↓reduceIte,Nat.reduceEqDiff,Nat.reduceAdd,Nat.reduceLeDiff,sx])<;>rfl) (hh:h=h2:=by (try simp (disch:=omega) only [push_cast,and_true,cond_true,cond_false,if_pos,if_neg,↓reduceIte,Nat.reduceEqDiff,Nat.reduceAdd,Nat.reduceLeDiff,sx])<;>rfl):dawp P q gd n [] (fget fl) h live (endN Q n V):=by
 subst hf;subst hh;exact k
theorem rs_ {id:Nat} {l:List Oper} {y:Code} {Q:Exit→AS→Prop} (V:List Tmp) (k:dawp P ⟨false,[],[],[],[],[],0⟩ (gdOf l.toArray) n l (fget fl) h live (endF P y Q n V)):AwpC P (.seq (.region id l.toArray false) y) Q ⟨n,fget fl,h,live⟩:=
 awp_seq (awp_region_keep V ⟨false,[],[],[],[],[],0⟩ (fun h=>nomatch h) k)
theorem rt_ {id:Nat} {l:List Oper} {Q:Exit→AS→Prop} (V:List Tmp) (k:dawp P ⟨false,[],[],[],[],[],0⟩ (gdOf l.toArray) n l (fget fl) h live (endN Q n V)):AwpC P (.region id l.toArray false) Q ⟨n,fget fl,h,live⟩:=
 awp_region_keep V ⟨false,[],[],[],[],[],0⟩ (fun h=>nomatch h) k
theorem rsq_ {id:Nat} {l:List Oper} {d:Bool} {y:Code} {Q:Exit→AS→Prop} (V:List Tmp) (q:RQ) (hok:d=true→okAll q l.toArray=true∧P.follows .mixedOrders=true) (k:dawp P q (gdOf l.toArray) n l (fget fl) h live (endF P y Q n V)):AwpC P (.seq (.region id l.toArray d) y) Q ⟨n,fget fl,h,live⟩:=
 awp_seq (awp_region_keep V q hok k)
theorem rtq_ {id:Nat} {l:List Oper} {d:Bool} {Q:Exit→AS→Prop} (V:List Tmp) (q:RQ) (hok:d=true→okAll q l.toArray=true∧P.follows .mixedOrders=true) (k:dawp P q (gdOf l.toArray) n l (fget fl) h live (endN Q n V)):AwpC P (.region id l.toArray d) Q ⟨n,fget fl,h,live⟩:=
 awp_region_keep V q hok k
theorem rs2_ {id:Nat} {l l1 m l2:List Oper} {x y:Oper} {z:Code} {Q:Exit→AS→Prop} (V:List Tmp) (q:RQ) (hl:l1++x::(m++y::l2)=l) (hok:okTwo q l.toArray l1.length (l1.length+1+m.length)=true∧P.follows .mixedOrders=true)
 (hd:dawp P q (gdOf l.toArray) n l1 (fget fl) h live fun fr h live=>dawp P q (gdOf l.toArray) n (x::(m++y::l2)) fr h live (endF P z Q n V)∧dawp P q (gdOf l.toArray) n (y::x::(m++l2)) fr h live (endF P z Q n V)):AwpC P (.seq (.region id l.toArray true) z) Q ⟨n,fget fl,h,live⟩:=
 awp_seq (awp_region_two V q hl hok hd)
theorem rg_ {id:Nat} {l:List Oper} {y:Code} {Q:Exit→AS→Prop} (V:List Tmp) {fl2:FL} {h2:List Blk} (k:AwpC P y Q ⟨n,fget fl2,h2,live⟩)
 (s:dawp P ⟨false,[],[],[],[],[],0⟩ (gdOf l.toArray) n l (fget fl) h live (fun fr h' l'=>fkeep V fr=fl2∧h'=h2∧l'=live):=by
  repeat (first
   | refine dawp_p rfl (by (simp (disch:=omega) only [push_cast,and_true,cond_true,cond_false,if_pos,if_neg,↓reduceIte,Nat.reduceEqDiff,Nat.reduceAdd,Nat.reduceLeDiff,sx])<;>rfl) rfl rfl ?_
   | refine dawp_h rfl (by (simp (disch:=omega) only [push_cast,and_true,cond_true,cond_false,if_pos,if_neg,↓reduceIte,Nat.reduceEqDiff,Nat.reduceAdd,Nat.reduceLeDiff,sx])<;>rfl) rfl rfl ?_
   | refine dawp_hn rfl (by (simp (disch:=omega) only [push_cast,and_true,cond_true,cond_false,if_pos,if_neg,↓reduceIte,Nat.reduceEqDiff,Nat.reduceAdd,Nat.reduceLeDiff,sx])<;>rfl) rfl ?_
   | refine dawp_g rfl rfl (by simp only [push_cast,and_true,cond_true,cond_false,if_pos,if_neg,↓reduceIte,Nat.reduceEqDiff,Nat.reduceAdd,Nat.reduceLeDiff,sx];rfl) (fun hg=>by
    have hg2:=hg
    try simp only [decide_eq_true_eq,decide_eq_false_iff_not,Bool.not_eq_true',Bool.not_eq_false',Bool.or_eq_true,Bool.and_eq_true,Bool.or_eq_false_iff,Bool.and_eq_false_imp,Int.not_lt,Int.not_le,Bool.false_or,Bool.or_false,Bool.true_and,Bool.and_true] at hg2
    simp (disch:=omega) only [hg,push_cast,and_true,cond_true,cond_false,if_pos,if_neg,↓reduceIte,Nat.reduceEqDiff,Nat.reduceAdd,Nat.reduceLeDiff,sx];rfl) rfl rfl ?_
   | refine dawp_gh rfl rfl (by simp only [push_cast,and_true,cond_true,cond_false,if_pos,if_neg,↓reduceIte,Nat.reduceEqDiff,Nat.reduceAdd,Nat.reduceLeDiff,sx];rfl) (fun hg=>by
    have hg2:=hg
    try simp only [decide_eq_true_eq,decide_eq_false_iff_not,Bool.not_eq_true',Bool.not_eq_false',Bool.or_eq_true,Bool.and_eq_true,Bool.or_eq_false_iff,Bool.and_eq_false_imp,Int.not_lt,Int.not_le,Bool.false_or,Bool.or_false,Bool.true_and,Bool.and_true] at hg2
    simp (disch:=omega) only [hg,push_cast,and_true,cond_true,cond_false,if_pos,if_neg,↓reduceIte,Nat.reduceEqDiff,Nat.reduceAdd,Nat.reduceLeDiff,sx];rfl) rfl rfl ?_)
  exact dawp_nil ⟨by (simp (disch:=omega) only [push_cast,and_true,cond_true,cond_false,if_pos,if_neg,↓reduceIte,Nat.reduceEqDiff,Nat.reduceAdd,Nat.reduceLeDiff,sx])<;>rfl,by (try simp (disch:=omega) only [push_cast,and_true,cond_true,cond_false,if_pos,if_neg,↓reduceIte,Nat.reduceEqDiff,Nat.reduceAdd,Nat.reduceLeDiff,sx])<;>rfl,rfl⟩):AwpC P (.seq (.region id l.toArray false) y) Q ⟨n,fget fl,h,live⟩:=
 awp_seq (awp_region_keep V ⟨false,[],[],[],[],[],0⟩ (fun h=>nomatch h) (dawp.mono (fun fr h' l' e=>by obtain ⟨e1,e2,e3⟩:=e;subst e1;subst e2;subst e3;exact k) _ _ _ _ s))
theorem cl_ {t:Tmp} {fo:Operand} {args:Array Operand} {ts:Array TypeId} {f:FuncId} {first cap xs:List AV} {x:AV} {h2:List Blk} {l2:List Nat} (hk:kindOf q o=.w:=by rfl) (hw:dwant gd (fget fl) o=some true:=by rfl) (hd:o.dst=some t:=by rfl) (hn:decide (t<n)=true:=by rfl)
 (ho:o.op=.call { callee:=.value fo,args:=args,argTypes:=ts }:=by rfl)
 (hf:ev (fget fl) fo=.fn (.func f) first cap:=by (simp (disch:=omega) only [push_cast,and_true,cond_true,cond_false,if_pos,if_neg,↓reduceIte,Nat.reduceEqDiff,Nat.reduceAdd,Nat.reduceLeDiff,sx])<;>rfl)
 (hx:first++args.toList.map (ev (fget fl))++cap=xs:=by (simp (disch:=omega) only [push_cast,and_true,cond_true,cond_false,if_pos,if_neg,↓reduceIte,Nat.reduceEqDiff,Nat.reduceAdd,Nat.reduceLeDiff,sx])<;>rfl)
 (hc:ACalls P f xs h live (ret x h2 l2)) (k:dawp P q gd n os (fget ((t,x)::fl)) h2 l2 F):dawp P q gd n (o::os) (fget fl) h live F:=
 dawp_w hk hw hd hn (AOp.callx fo args ts ho hf hx (hc.mono fun y h' l' e=>by obtain ⟨e1,e2,e3⟩:=e;subst e1;subst e2;subst e3;exact k))
theorem ck_ {t:Tmp} {fo:Operand} {args:Array Operand} {ts:Array TypeId} {f:FuncId} {first cap xs:List AV} (hk:kindOf q o=.w:=by rfl) (hw:dwant gd (fget fl) o=some true:=by rfl) (hd:o.dst=some t:=by rfl) (hn:decide (t<n)=true:=by rfl)
 (ho:o.op=.call { callee:=.value fo,args:=args,argTypes:=ts }:=by rfl)
 (hf:ev (fget fl) fo=.fn (.func f) first cap:=by (simp (disch:=omega) only [push_cast,and_true,cond_true,cond_false,if_pos,if_neg,↓reduceIte,Nat.reduceEqDiff,Nat.reduceAdd,Nat.reduceLeDiff,sx])<;>rfl)
 (hx:first++args.toList.map (ev (fget fl))++cap=xs:=by (simp (disch:=omega) only [push_cast,and_true,cond_true,cond_false,if_pos,if_neg,↓reduceIte,Nat.reduceEqDiff,Nat.reduceAdd,Nat.reduceLeDiff,sx])<;>rfl)
 (k:ACalls P f xs h live fun x h' live'=>dawp P q gd n os (fget ((t,x)::fl)) h' live' F):dawp P q gd n (o::os) (fget fl) h live F:=
 dawp_w hk hw hd hn (AOp.callx fo args ts ho hf hx k)
theorem cr_ {t:Tmp} {fo:Operand} {args:Array Operand} {ts:Array TypeId} {f:FuncId} {first cap xs:List AV} {x:AV} (hk:kindOf q o=.r:=by rfl) (hw:dwant gd (fget fl) o=some true:=by rfl) (hd:o.dst=some t:=by rfl) (hn:decide (t<n)=true:=by rfl)
 (ho:o.op=.call { callee:=.value fo,args:=args,argTypes:=ts }:=by rfl)
 (hf:ev (fget fl) fo=.fn (.func f) first cap:=by (simp (disch:=omega) only [push_cast,and_true,cond_true,cond_false,if_pos,if_neg,↓reduceIte,Nat.reduceEqDiff,Nat.reduceAdd,Nat.reduceLeDiff,sx])<;>rfl)
 (hx:first++args.toList.map (ev (fget fl))++cap=xs:=by (simp (disch:=omega) only [push_cast,and_true,cond_true,cond_false,if_pos,if_neg,↓reduceIte,Nat.reduceEqDiff,Nat.reduceAdd,Nat.reduceLeDiff,sx])<;>rfl)
 (hc:ACalls P f xs h live (ret x h live)) (k:dawp P q gd n os (fget ((t,x)::fl)) h live F):dawp P q gd n (o::os) (fget fl) h live F:=
 dawp_r hk hw hd hn (AOp.callx fo args ts ho hf hx hc) k
theorem cg_ {t tg:Tmp} {g:Bool} {j:Nat} {want:Bool} {fo:Operand} {args:Array Operand} {ts:Array TypeId} {f:FuncId} {first cap xs:List AV} {x:AV} (hk:(kindOf q o==.r||kindOf q o==.w)=true:=by rfl) (ho:o.guard=some (j,want):=by rfl) (hgd:gd j=some tg:=by rfl)
 (hw:wantOf (gv (fget fl tg)) want=some g:=by (simp only [push_cast,and_true,cond_true,cond_false,if_pos,if_neg,↓reduceIte,Nat.reduceEqDiff,Nat.reduceAdd,Nat.reduceLeDiff,sx])<;>rfl) (hd:o.dst=some t:=by rfl) (hn:decide (t<n)=true:=by rfl)
 (ho2:o.op=.call { callee:=.value fo,args:=args,argTypes:=ts }:=by rfl)
 (hf:g=true→ev (fget fl) fo=.fn (.func f) first cap:=by (intro hg;have hg2:=hg;(try simp only [decide_eq_true_eq,decide_eq_false_iff_not,Bool.not_eq_true',Bool.not_eq_false',Bool.or_eq_true,Bool.and_eq_true,Bool.or_eq_false_iff,Bool.and_eq_false_imp,Int.not_lt,Int.not_le,Bool.false_or,Bool.or_false,Bool.true_and,Bool.and_true] at hg2);(simp (disch:=omega) only [hg,push_cast,and_true,cond_true,cond_false,if_pos,if_neg,↓reduceIte,Nat.reduceEqDiff,Nat.reduceAdd,Nat.reduceLeDiff,sx])<;>rfl))
 (hx:g=true→first++args.toList.map (ev (fget fl))++cap=xs:=by (intro hg;have hg2:=hg;(try simp only [decide_eq_true_eq,decide_eq_false_iff_not,Bool.not_eq_true',Bool.not_eq_false',Bool.or_eq_true,Bool.and_eq_true,Bool.or_eq_false_iff,Bool.and_eq_false_imp,Int.not_lt,Int.not_le,Bool.false_or,Bool.or_false,Bool.true_and,Bool.and_true] at hg2);(simp (disch:=omega) only [hg,push_cast,and_true,cond_true,cond_false,if_pos,if_neg,↓reduceIte,Nat.reduceEqDiff,Nat.reduceAdd,Nat.reduceLeDiff,sx])<;>rfl))
 (hc:g=true→ACalls P f xs h live (ret x h live)) (k:dawp P q gd n os (fget ((t,bif g then x else .tup [])::fl)) h live F):dawp P q gd n (o::os) (fget fl) h live F:=
 dawp_gr hk ho hgd hw (fun hg=>AOp.callx fo args ts ho2 (hf hg) (hx hg) (hc hg)) hd hn k
end
section
variable {P:Program} {Q:Exit→AS→Prop} {S:AS}
theorem sk_ {x y:Code} (h:∀K:AS→Prop,(∀S,AwpC P y Q S→K S)→AwpC P x (thenQ K Q) S):AwpC P (.seq x y) Q S:=awp_seq_k h
theorem sk0_ {y:Code} (h:AwpC P y Q S):AwpC P (.seq .skip y) Q S:=awp_seq (awp_skip h)
theorem then_n {A:AS→Prop} (h:A S):thenQ A Q .normal S:=h
theorem then_r {A:AS→Prop} (h:Q .ret S):thenQ A Q .ret S:=h
theorem then_x {A:AS→Prop} {i:Nat} (h:Q (.exit i) S):thenQ A Q (.exit i) S:=h
theorem blk_n {id:Nat} (h:Q .normal S):inBlockQ id Q .normal S:=h
theorem blk_r {id:Nat} (h:Q .ret S):inBlockQ id Q .ret S:=h
theorem blk_x {id:Nat} (h:Q .normal S):inBlockQ id Q (.exit id) S:=by rw [inBlockQ_e,if_pos rfl];exact h
theorem blk_y {id i:Nat} (hi:decide (i=id)=false) (h:Q (.exit i) S):inBlockQ id Q (.exit i) S:=by rw [inBlockQ_e,if_neg (of_decide_eq_false hi)];exact h
theorem up_ {G G':Prop} (k:G) (u:G→G':=by
 intro k
 repeat (first
  | with_reducible refine then_n ?_
  | with_reducible refine then_r ?_
  | with_reducible refine then_x ?_
  | with_reducible refine blk_n ?_
  | with_reducible refine blk_r ?_
  | with_reducible refine blk_x ?_
  | with_reducible refine blk_y rfl ?_)
 exact k):G':=u k
theorem cd_ {c:Operand} {x y:Code} {b:Bool} {p p':Prop} (hb:ev S.fr c=.bool b:=by (simp (disch:=omega) only [push_cast,and_true,cond_true,cond_false,if_pos,if_neg,↓reduceIte,Nat.reduceEqDiff,Nat.reduceAdd,Nat.reduceLeDiff,sx])<;>rfl)
 (hp:b=true↔p:=by (try simp only [decide_eq_true_eq,decide_eq_false_iff_not,Bool.not_eq_true',Bool.not_eq_false',Bool.or_eq_true,Bool.and_eq_true,Bool.or_eq_false_iff,Bool.and_eq_false_imp,Int.not_lt,Int.not_le])<;>exact Iff.rfl)
 (hp':b=false↔p':=by (try simp only [decide_eq_true_eq,decide_eq_false_iff_not,Bool.not_eq_true',Bool.not_eq_false',Bool.or_eq_true,Bool.and_eq_true,Bool.or_eq_false_iff,Bool.and_eq_false_imp,Int.not_lt,Int.not_le])<;>exact Iff.rfl)
 (ht:p→AwpC P x Q S) (hf:p'→AwpC P y Q S):AwpC P (.cond c x y) Q S:=awp_cond hb (fun e=>ht (hp.1 e)) (fun e=>hf (hp'.1 e))
theorem cdy_ {c:Operand} {x y:Code} {b:Bool} {p:Prop} (hb:ev S.fr c=.bool b:=by (simp (disch:=omega) only [push_cast,and_true,cond_true,cond_false,if_pos,if_neg,↓reduceIte,Nat.reduceEqDiff,Nat.reduceAdd,Nat.reduceLeDiff,sx])<;>rfl)
 (hp:b=true↔p:=by (try simp only [decide_eq_true_eq,decide_eq_false_iff_not,Bool.not_eq_true',Bool.not_eq_false',Bool.or_eq_true,Bool.and_eq_true,Bool.or_eq_false_iff,Bool.and_eq_false_imp,Int.not_lt,Int.not_le])<;>exact Iff.rfl)
 (ht:p→AwpC P x Q S) (hf:b=false→AwpC P y Q S):AwpC P (.cond c x y) Q S:=awp_cond hb (fun e=>ht (hp.1 e)) hf
theorem cdn_ {c:Operand} {x y:Code} {b:Bool} {p':Prop} (hb:ev S.fr c=.bool b:=by (simp (disch:=omega) only [push_cast,and_true,cond_true,cond_false,if_pos,if_neg,↓reduceIte,Nat.reduceEqDiff,Nat.reduceAdd,Nat.reduceLeDiff,sx])<;>rfl)
 (hp':b=false↔p':=by (try simp only [decide_eq_true_eq,decide_eq_false_iff_not,Bool.not_eq_true',Bool.not_eq_false',Bool.or_eq_true,Bool.and_eq_true,Bool.or_eq_false_iff,Bool.and_eq_false_imp,Int.not_lt,Int.not_le])<;>exact Iff.rfl)
 (ht:b=true→AwpC P x Q S) (hf:p'→AwpC P y Q S):AwpC P (.cond c x y) Q S:=awp_cond hb ht (fun e=>hf (hp'.1 e))
theorem cb_ {c:Operand} {x y:Code} {b:Bool} (hb:ev S.fr c=.bool b:=by (simp (disch:=omega) only [push_cast,and_true,cond_true,cond_false,if_pos,if_neg,↓reduceIte,Nat.reduceEqDiff,Nat.reduceAdd,Nat.reduceLeDiff,sx])<;>rfl)
 (ht:b=true→AwpC P x Q S) (hf:b=false→AwpC P y Q S):AwpC P (.cond c x y) Q S:=awp_cond hb ht hf
theorem fp_ {fn:Func} {h:List Blk} {K:KT} {xs:List AV} {x:AV} {live:List Nat} {rs:Array ResultVar} (hr:fn.results=rs)
 (hres:aresults P S rs.toList=some xs:=by (simp (disch:=omega) only [aresults,aresult,push_cast,and_true,cond_true,cond_false,if_pos,if_neg,↓reduceIte,Nat.reduceEqDiff,Nat.reduceAdd,Nat.reduceLeDiff,sx])<;>rfl)
 (hx:(atuple xs).er=x:=by (simp only [atuple,AV.er,AV.erL,push_cast])<;>rfl) (hcl:x.cl h.length:=by first | exact trivial | (simp [AV.cl,AV.clL];done) | (simp only [AV.cl,AV.clL,push_cast,and_true];done) | (simp only [AV.cl,AV.clL,push_cast,and_true];omega))
 (hh:∃junk,S.h=h++junk:=by first | exact ⟨_,rfl⟩ | exact ⟨[],(List.append_nil _).symm⟩ | exact ⟨_,by rw [List.append_assoc];rfl⟩) (hH:HCl h:=by assumption)
 (hl:∀u∈live,u∈S.live:=by exact fun _ h=>h) (hK:K x h live):fin P fn h K .ret S:=fin_pure (hr▸hres) hx hcl hh hH hl hK
theorem fg_ {fn:Func} {h h1:List Blk} {K:KT} {xs:List AV} {x:AV} {live:List Nat} {rs:Array ResultVar} (hr:fn.results=rs)
 (hres:aresults P S rs.toList=some xs:=by (simp (disch:=omega) only [aresults,aresult,push_cast,and_true,cond_true,cond_false,if_pos,if_neg,↓reduceIte,Nat.reduceEqDiff,Nat.reduceAdd,Nat.reduceLeDiff,sx])<;>rfl)
 (hx:atuple xs=x∨(atuple xs).er=x:=by exact .inr (by (simp only [atuple,AV.er,AV.erL,push_cast])<;>rfl)) (hcl:x.cl h1.length:=by first | exact trivial | (simp [AV.cl,AV.clL];done) | (simp only [AV.cl,AV.clL,push_cast,and_true];done) | (simp only [AV.cl,AV.clL,push_cast,and_true];omega))
 (hh:∃junk,S.h=h1++junk:=by first | exact ⟨_,rfl⟩ | exact ⟨[],(List.append_nil _).symm⟩ | exact ⟨_,by rw [List.append_assoc];rfl⟩) (hH:HCl h1:=by assumption) (hle:h.length≤h1.length:=by simp)
 (hl:∀u∈live,u∈S.live:=by exact fun _ h=>h) (hK:K x h1 live):fin P fn h K .ret S:=fin_gen (hr▸hres) hx hcl hh hH hle hl hK
theorem fz_ {fn:Func} {h h1:List Blk} {K:KT} {xs:List AV} {x:AV} {live:List Nat} {rs:Array ResultVar} (hr:fn.results=rs)
 (hres:aresults P S rs.toList=some xs:=by (simp (disch:=omega) only [aresults,aresult,push_cast,and_true,cond_true,cond_false,if_pos,if_neg,↓reduceIte,Nat.reduceEqDiff,Nat.reduceAdd,Nat.reduceLeDiff,sx])<;>rfl)
 (hx:((atuple xs).frz S.h h1.length).er=x) (hcl:x.cl h1.length:=by simp [AV.cl,AV.clL])
 (hh:∃junk,S.h=h1++junk:=by first | exact ⟨_,rfl⟩ | exact ⟨[],(List.append_nil _).symm⟩ | exact ⟨_,by rw [List.append_assoc];rfl⟩) (hH:HCl h1:=by assumption) (hle:h.length≤h1.length:=by simp)
 (hl:∀u∈live,u∈S.live:=by exact fun _ h=>h) (hK:K x h1 live):fin P fn h K .ret S:=fin_frz (hr▸hres) hx hcl hh hH hle hl hK
theorem fu_ {fn:Func} {h h1:List Blk} {K:KT} {xs:List AV} {x:AV} {live:List Nat} {rs:Array ResultVar} (hr:fn.results=rs)
 (hres:aresults P S rs.toList=some xs:=by (simp (disch:=omega) only [aresults,aresult,push_cast,and_true,cond_true,cond_false,if_pos,if_neg,↓reduceIte,Nat.reduceEqDiff,Nat.reduceAdd,Nat.reduceLeDiff,sx])<;>rfl)
 (hx:(atuple xs).frz S.h h1.length=x) (hcl:x.cl h1.length:=by simp [AV.cl,AV.clL])
 (hh:∃junk,S.h=h1++junk:=by first | exact ⟨_,rfl⟩ | exact ⟨[],(List.append_nil _).symm⟩ | exact ⟨_,by rw [List.append_assoc];rfl⟩) (hH:HCl h1:=by assumption) (hle:h.length≤h1.length:=by simp)
 (hl:∀u∈live,u∈S.live:=by exact fun _ h=>h) (hK:K x h1 live):fin P fn h K .ret S:=fin_frzu (hr▸hres) hx hcl hh hH hle hl hK
theorem fe_ {fn:Func} {h h1:List Blk} {K:KT} {xs:List AV} {x:AV} {live:List Nat} {rs:Array ResultVar} (hr:fn.results=rs)
 (hres:aresults P S rs.toList=some xs:=by (simp (disch:=omega) only [aresults,aresult,push_cast,and_true,cond_true,cond_false,if_pos,if_neg,↓reduceIte,Nat.reduceEqDiff,Nat.reduceAdd,Nat.reduceLeDiff,sx])<;>rfl)
 (hx:(atuple xs).er=x:=by (simp only [atuple,AV.er,AV.erL,push_cast])<;>rfl) (hcl:x.cl h1.length:=by simp [AV.cl,AV.clL])
 (hh:∃g junk,S.h=g++junk∧BW g h1) (hH:HCl h1:=by assumption) (hle:h.length≤h1.length:=by simp)
 (hl:∀u∈live,u∈S.live:=by exact fun _ h=>h) (hK:K x h1 live):fin P fn h K .ret S:=fin_er (hr▸hres) hx hcl hh hH hle hl hK
end
theorem ts_ {n:Nat} {fr:Nat→AV} {fl:FL} {h:List Blk} {live:List Nat} (hH:HCl h) (hfr:FTr h.length fr fl:=by repeat (first | exact FTr.nil | refine FTr.cons (by first | rfl | ((simp (disch:=omega) only [push_cast,and_true,cond_true,cond_false,if_pos,if_neg,↓reduceIte,Nat.reduceEqDiff,Nat.reduceAdd,Nat.reduceLeDiff,sx])<;>first | rfl | (congr 2;omega))) (by first | exact trivial | (simp [AV.cl,AV.clL,clL_str, -List.map_map, -List.map_take];done) | (simp only [AV.cl,AV.clL,push_cast,and_true,true_and];done) | (simp only [AV.cl,AV.clL,push_cast,and_true,true_and];omega) | (simp [AV.cl,AV.clL,clL_str, -List.map_map, -List.map_take];omega)) ?_)):Trunc ⟨n,fr,h,live⟩ ⟨n,fget fl,h,live⟩:=Trunc.same hfr hH
theorem tf_ {n:Nat} {fr:Nat→AV} {fl:FL} {h h1 junk:List Blk} {live live1:List Nat} (hH:HCl h1) (hl:∀u∈live1,u∈live)
 (hj:h=h1++junk:=by first | exact (List.append_nil _).symm | exact rfl | (rw [List.append_assoc];rfl)) (hfr:FTr h1.length fr fl:=by repeat (first | exact FTr.nil | refine FTr.cons (by first | rfl | ((simp (disch:=omega) only [push_cast,and_true,cond_true,cond_false,if_pos,if_neg,↓reduceIte,Nat.reduceEqDiff,Nat.reduceAdd,Nat.reduceLeDiff,sx])<;>first | rfl | (congr 2;omega))) (by first | exact trivial | (simp [AV.cl,AV.clL,clL_str, -List.map_map, -List.map_take];done) | (simp only [AV.cl,AV.clL,push_cast,and_true,true_and];done) | (simp only [AV.cl,AV.clL,push_cast,and_true,true_and];omega) | (simp [AV.cl,AV.clL,clL_str, -List.map_map, -List.map_take];omega)) ?_)):Trunc ⟨n,fr,h,live⟩ ⟨n,fget fl,h1,live1⟩:=Trunc.of hj hfr hH hl
theorem ab_ {P:Program} {f:FuncId} {fn:Func} {c:Code} {xs:List AV} {h:List Blk} {live:List Nat} {K:KT} (hf:P.funcs[f]? = some fn) (hn:(fn.name == "runtime.NumGoroutine")=false:=by rfl) (hb:fn.body=some c:=by rfl) (hl:xs.length≤fn.ntmps:=by exact Nat.le_of_ble_eq_true rfl)
 {fl:FL} (hg:fargs xs 0=fl:=by (simp only [fargs])<;>rfl) (hw:HCl h→(∀x∈xs,x.cl h.length)→AwpC P c (fin P fn h K) ⟨fn.ntmps,fget fl,h,live⟩):ACalls P f xs h live K:=
 acalls_of_awp hf hn hb hl (hg▸hw)
end Go.Ab
namespace Go.Ab
open Go.RowKit
section
variable {P:Program}
theorem awp_loopG {c:Code} {Q:Exit→AS→Prop} {S:AS} {X:Type} (I:X→AS) (μ:X→Nat) (x:X) (h0:Trunc S (I x)) (hl0:(I x).h.length=S.h.length)
 (round:∀x,AwpC P c (thenQ (fun S'=>∃y,Trunc S' (I y)∧(I x).h.length≤(I y).h.length ∧ μ y < μ x) Q) (I x)):AwpC P (.loop c) Q S:=by
 refine awp_weak h0 hl0 ?_
 refine awp_loop I μ x rfl fun x=>?_
 intro w G a hs
 refine wp_mono (round x w G a hs) fun e a' w' q=>?_
 obtain ⟨G',S',q,hs',hev⟩:=q
 cases e with
 | normal=>
  obtain ⟨y,ht,hl,hμ⟩:=q
  obtain ⟨h1,h2⟩:=hs'.trunc ht hev (by rw [←hs.heap.len];exact hl)
  exact ⟨_,I y,⟨y,rfl,hμ⟩,h1,h2⟩
 | _=>exact ⟨G',S',q,hs',hev⟩
theorem ACalls.hclK {f:FuncId} {xs:List AV} {h:List Blk} {live:List Nat} {K:KT} (hc:ACalls P f xs h live K):ACalls P f xs h live fun x h' l'=>K x h' l'∧HCl h':=
 fun w G vs h1 h2 h3=>(hc w G vs h1 h2 h3).mono fun v w' hp=>by
  obtain ⟨x,h',l',G',k,r,hh,e⟩:=hp
  exact ⟨x,h',l',G',⟨k,hh.hcl⟩,r,hh,e⟩
structure TruncF (S S1:AS):Prop where
 n:S1.n=S.n
 fr:∀t,S1.fr t=.undef∨((S1.fr t=S.fr t∨S1.fr t=((S.fr t).frz S.h S1.h.length).er)∧(S1.fr t).cl S1.h.length)
 h:∃junk,S.h=S1.h++junk
 cl:HCl S1.h
 live:∀u,u∈S1.live→u∈S.live
theorem SRel.truncF {w w':World} {G G':Gh} {live:List Nat} {a:Act} {S S1:AS} (hs:SRel w' G' a S) (ht:TruncF S S1) (hev:Evo w G live w' G' S.live) (hm:G.n≤S1.h.length):SRel w' ((G'.frz S1.h.length).cut S1.h.length) a S1∧Evo w G live w' ((G'.frz S1.h.length).cut S1.h.length) S1.live:=by
 obtain ⟨junk,hj⟩:=ht.h
 have hh:=hs.heap
 rw [hj] at hh
 refine ⟨⟨hs.defers,by rw [hs.size,ht.n],hh.cutF ht.cl ht.live,fun t=>?_⟩,(hev.frz _).cut hm (by show S1.h.length≤G'.n;rw [←hh.len];simp) ht.live⟩
 rcases ht.fr t with e | ⟨e | e,hc⟩
 · rw [e];exact .undef _
 ·
  have:=(hs.fr t)
  rw [←e] at this
  exact (this.mono (fun _ _ _=>rfl) (Gh.frz_ext G' _)).cut hc
 ·
  have:=(frz_sound hs.heap S1.h.length (hs.fr t)).er
  rw [←e] at this
  exact this.cut hc
theorem awp_seqF3 {x1 x2 x3 y:Code} {Q:Exit→AS→Prop} {S:AS} {X:Type} (I:X→AS) (h1:AwpC P x1 (thenQ (AwpC P x2 (thenQ (AwpC P x3 (thenQ (fun S'=>∃a,TruncF S' (I a)∧(I a).h.length=S.h.length) Q)) Q)) Q) S)
 (h2:∀a,AwpC P y Q (I a)):AwpC P (.seq x1 (.seq x2 (.seq x3 y))) Q S:=by
 intro w G a hs
 refine wp_seq (wp_mono (h1 w G a hs) fun e a1 w1 q1=>?_)
 obtain ⟨G1,S1,q1,hs1,e1⟩:=q1
 cases e with
 | normal=>
  refine wp_seq (wp_mono (q1 w1 G1 a1 hs1) fun e a2 w2 q2=>?_)
  obtain ⟨G2,S2,q2,hs2,e2⟩:=q2
  cases e with
  | normal=>
   refine wp_seq (wp_mono (q2 w2 G2 a2 hs2) fun e a3 w3 q3=>?_)
   obtain ⟨G3,S3,q3,hs3,e3⟩:=q3
   cases e with
   | normal=>
    obtain ⟨b,ht,hl⟩:=q3
    obtain ⟨k1,k2⟩:=hs3.truncF ht (e1.trans (e2.trans e3)) (by rw [hl,hs.heap.len];exact Nat.le_refl _)
    exact wp_mono (h2 b w3 _ a3 k1) fun _ _ _ q=>q.step k2
   | _=>exact ⟨G3,S3,q3,hs3,e1.trans (e2.trans e3)⟩
  | _=>exact ⟨G2,S2,q2,hs2,e1.trans e2⟩
 | _=>exact ⟨G1,S1,q1,hs1,e1⟩
end
end Go.Ab
namespace Go.Ab
open Go.RowKit
section
variable {P:Program}
theorem cell_heap {w w':World} (e:w'.heap=w.heap) (a:Addr):w'.cell? a=w.cell? a:=World.cell?_of_block (by rw [e])
theorem HRel.heap {w w':World} {G:Gh} {h:List Blk} {live:List Nat} (e:w'.heap=w.heap) (hh:HRel w G h live):HRel w' G h live where
 len:=hh.len
 blk:=fun k x hx=>(hh.blk k x hx).mono (by rw [e]) (fun b o _=>cell_heap e _) (Ext.refl G)
 blk_lt:=fun k hk=>by rw [e];exact hh.blk_lt k hk
 inj:=hh.inj
 imm_lt:=fun b o hb=>by rw [e];exact hh.imm_lt b o hb
 imm_blk:=hh.imm_blk
 tok:=fun t ht=>by
  obtain ⟨d,hd,⟨cur,hc,hs⟩,h1⟩:=hh.tok t ht
  exact ⟨d,hd,⟨cur,by rw [e];exact hc,hs⟩,h1⟩
 tok_ne:=hh.tok_ne
theorem buildSliceT_sound {w:World} {G:Gh} {h:List Blk} {live:List Nat} {t:TypeId} {len:Nat} {fr:Nat→AV} {ρ:Operand→Value} (parts:Array (Nat×Operand)) (hr:∀p∈parts.toList,Rep w G (ev fr p.2) (ρ p.2))
 (hh:HRel w G h live) {l:List AV} (hx:abuildSlice P t len (parts.toList.map fun p=>(p.1,ev fr p.2))=some (.slice l .full)) (hl0:0<len) {K:KT} (hK:∀u,u∉live→K (.slice l (.own u)) h (u::live)) :
 ∃z w',(Instr.buildSlice t len (parts.map fun (i,y)=>(i,ρ y))).run P w=.ok z w'∧Post w G live K z w':=by
 unfold abuildSlice at hx
 split at hx
 ·
  rename_i sz0 hsz0
  unfold litSz at hsz0
  split at hsz0
  ·
   rename_i e he
   split at hsz0
   ·
    rename_i j zz hj hz
    split at hsz0
    ·
     rename_i hc0
     obtain ⟨h3,h4⟩:=hc0
     simp only [Option.some.injEq] at hsz0
     subst hsz0
     split at hx
     case isFalse=>simp at hx
     rename_i hcond
     obtain ⟨h1,h2,h50⟩:=hcond
     have h5:∀q∈(parts.toList.map fun p=>(p.1,ev fr p.2)).map (·.2),okCells q=true∧q.cells.length=j.size:=by
      intro q hq
      obtain ⟨p,hp,rfl⟩:=List.mem_map.1 hq
      have:=(List.all_eq_true.1 h50) p hp
      simpa using this
     simp only [Option.some.injEq,AV.slice.injEq,and_true] at hx
     subst hx
     obtain ⟨i,z,hi,hz',hrun,hrep,hrepl⟩:=azero_sound (w:=w) (G:=G) hz
     let ps:=(parts.toList.map fun p=>(p.1,ev fr p.2)).map (·.2)
     have hpl:ps.length=len:=by
      have:=congrArg List.length h1
      simpa [ps] using this
     have hzs:z.cells.size=j.size:=by have:=hrepl.1;simp at this;omega
     let zeros:Array Value:=(Array.range (len*j.size)).map (z.cells[· % z.cells.size]!)
     have hzl:zeros.size=len*j.size:=by simp [zeros]
     have hzrep:RepL w G (List.replicate (len*j.size) .undef) zeros.toList:=by
      refine ⟨by simp [hzl],fun q hq=>?_⟩
      simp only [List.length_replicate] at hq
      have hm:q%z.cells.size<z.cells.size:=Nat.mod_lt _ (by omega)
      have hone:=(hrepl.2 (q%z.cells.size) (by have:=hrepl.1;simp at this;omega)).1
      have e1:(List.replicate (len*j.size) AV.undef).getD q .undef=.undef:=by simp [List.getD_eq_getElem?_getD,hq]
      rw [e1]
      refine ⟨?_,.undef _⟩
      have:zeros.toList.getD q undef=z.cells.toList.getD (q%z.cells.size) undef:=by
       simp [zeros,List.getD_eq_getElem?_getD,hq,hm]
      rw [this];exact hone
     obtain ⟨r,hf,hrl,hg⟩:=afill_seq (size:=j.size) ps 0 (List.replicate (len*j.size) .undef) h5 (by simp [hpl])
     rw [←parts_zip _ len h1] at hf
     obtain ⟨us,hfu,hu⟩:=fill_sound _ (parts.toList.map fun p=>(p.1,ρ p.2)) _ _ _ (by simp) (parts_rep _ hr) hzrep hf
     have hpv:(parts.map fun (i,y)=>(i,ρ y)).toList=parts.toList.map fun p=>(p.1,ρ p.2):=by simp
     have hs:(sizeOf e).run P w=.ok j.size w:=by simp [sizeOf,typeInfo,hj]
     refine ⟨.slice (some ⟨w.heap.size,0,none⟩) len len,w.alloc (.cells us.toArray e),?_,?_⟩
     ·
      simp only [Array.toArray_toList] at hfu
      simp only [Instr.buildSlice,Sem.run_bind,run_underlying he,Result.andThen_ok,hs]
      rw [if_neg (by omega)]
      have h0:len*j.size≠0:=Nat.mul_ne_zero (by omega) (by omega)
      rw [if_neg h0]
      simp only [Sem.run_bind,hrun,Result.andThen_ok,pure_bind]
      change Sem.run P (match Instr.fill (fun i=>some (i*j.size,j.size)) zeros _ with | some cells=>_ | x=>_) w=_
      simp only [hpv,hfu]
      rfl
     ·
      have hrl':r.length=len*j.size:=by rw [hrl];simp
      have hul:us.length=len*j.size:=by rw [hu.1,hrl']
      have hmx:len≤maxLen:=by have:=Nat.le_mul_of_pos_right len h3;unfold maxLen;omega
      obtain ⟨hh',hev⟩:=hh.grow us.toArray e j.size len len (by simpa using hul) (Nat.le_refl _) hmx
      have heq:(w.alloc (.cells us.toArray e)).heap=(w.drew.alloc (.cells us.toArray e)).heap:=rfl
      have hev2:Evo w G live (w.alloc (.cells us.toArray e)) { G with imm:=fun b q=>G.imm b q∨(b=w.heap.size∧q<len*j.size),toks:=G.toks++[⟨w.heap.size,e,j.size,len,len⟩] } (G.toks.length::live):=
       ⟨rfl,rfl,rfl,hev.size,fun b o hb=>(cell_heap heq _).trans (hev.imm b o hb),fun b hb hn=>by rw [heq];exact hev.other b hb hn,hev.own,hev.ext⟩
      refine ⟨_,h, _, _,hK G.toks.length (fun hm=>by
       obtain ⟨d,hd, _⟩:=hh.tok _ hm
       exact absurd (List.getElem?_eq_some_iff.1 hd).1 (Nat.lt_irrefl _)),?_,hh'.heap heq,hev2⟩
      have hcell:∀q,q<len*j.size→(w.alloc (.cells us.toArray e)).cell? ⟨w.heap.size,q,none⟩=some (us.getD q undef):=fun q hq=>by
       rw [World.cell?_alloc_new]
       have:q<us.length:=by rw [hul];exact hq
       simp [List.getD_eq_getElem?_getD,this]
      have hq:∀i k,i<ps.length→k<j.size→i*j.size+k<len*j.size:=fun i k hi hk=>by
       have:=Nat.mul_le_mul_right j.size (show i+1≤len by omega)
       rw [Nat.add_mul] at this
       omega
      have key:=Rep.slice (w:=w.alloc (.cells us.toArray e)) (G:={ G with imm:=fun b q=>G.imm b q∨(b=w.heap.size∧q<len*j.size),toks:=G.toks++[⟨w.heap.size,e,j.size,len,len⟩] }) ps (.own G.toks.length) w.heap.size 0 ps.length j.size (fun i k=>us.getD (i*j.size+k) undef)
       (Nat.le_refl _) (by rw [hpl];exact hmx) (fun i hi=>by
        have hm:ps.getD i .undef∈ps:=by rw [List.getD_eq_getElem?_getD,List.getElem?_eq_getElem hi];exact List.getElem_mem hi
        exact (h5 _ hm).2) (fun i k hi hk=>.inr ⟨rfl,by rw [Nat.zero_add];exact hq i k hi hk⟩) (fun i k hi hk=>by
        rw [Nat.zero_add];exact hcell _ (hq i k hi hk)) (fun i k hi hk=>(hu.2 _ (by rw [hrl'];exact hq i k hi hk)).1) (fun i k hi hk=>by
        have:=(hu.2 (i*j.size+k) (by rw [hrl'];exact hq i k hi hk)).2
        rw [hg i k hk,if_pos (by omega)] at this
        simpa using hev2.rep this) ⟨rfl,by omega,e,by rw [hpl];simp⟩
      rw [hpl] at key
      exact key
    · simp at hsz0
   · simp at hsz0
  · simp at hsz0
 · simp at hx
theorem AOp.buildSliceT {fr:Nat→AV} {h:List Blk} {live:List Nat} {o:Oper} {K:KT} {t:TypeId} {len:Nat} {parts:Array (Nat×Operand)} (ho:o.op=.buildSlice t len parts) {l:List AV} (hx:abuildSlice P t len (parts.toList.map fun p=>(p.1,ev fr p.2))=some (.slice l .full))
 (hl0:0<len) (hK:∀u,u∉live→K (.slice l (.own u)) h (u::live)):AOp P fr h live o K:=by
 obtain ⟨dst,op,ty,pos,after,guard⟩:=o
 simp only at ho;subst ho
 intro w G ρ hρ hr hh
 obtain ⟨z,w',hz,hp⟩:=buildSliceT_sound (P:=P) (ρ:=ρ) (w:=w) (G:=G) parts (fun p hp=>hr p.2 (by simp [Op.operands];exact ⟨p.1,by simpa using hp⟩)) hh hx hl0 hK
 simp only [execOp]
 rw [run_value hz]
 exact hp
theorem drop_tok {u:Nat} {live:List Nat} (h:u∉live):(u::live).filter (· ≠ u)=live:=by
 rw [List.filter_cons_of_neg (by simp),List.filter_eq_self.2]
 intro v hv
 simpa using fun e:v=u=>h (e▸hv)
theorem HRel.mark {w:World} {G:Gh} {h:List Blk} {live:List Nat} (hh:HRel w G h live) {t:Nat} (ht:t∈live) {d:Tok} (hd:G.toks[t]? = some d) {w':World} (hoth:∀b,b≠d.b→w'.heap[b]? = w.heap[b]?) (hsize:w'.heap.size=w.heap.size)
 (hcell:∀a,w'.cell? a=w.cell? a) (h1:w'.os=w.os) (h2:w'.tape=w.tape) (h3:w'.output=w.output):HRel w' G h (live.filter (· ≠ t))∧Evo w G live w' G (live.filter (· ≠ t)):=by
 obtain ⟨d2,hd2, _,k1,k2,k3,k4⟩:=hh.tok t ht
 rw [hd] at hd2;cases hd2
 have hmem:∀u,u∈live.filter (· ≠ t)→u∈live∧u≠t:=fun u hu=>by simpa using hu
 refine ⟨⟨hh.len,fun k x hx=>?_,fun k hk=>by rw [hsize];exact hh.blk_lt k hk,hh.inj,fun b o hb=>by rw [hsize];exact hh.imm_lt b o hb,hh.imm_blk,fun u hu=>?_,fun u v d1 d2 hu hv=>hh.tok_ne u v d1 d2 (hmem u hu).1 (hmem v hv).1⟩,
  ⟨h1,h2,h3,Nat.le_of_eq hsize.symm,fun b o _=>hcell _,fun b hb hn=>hoth b (fun e=>hn (.inr ⟨t,d,ht,hd,e.symm⟩)),fun b hb ho=>?_,Ext.refl G⟩⟩
 ·
  have hk:k<G.n:=by rw [←hh.len];exact (List.getElem?_eq_some_iff.1 hx).1
  exact (hh.blk k x hx).mono (hoth _ (k4 k hk)) (fun _ _ _=>hcell _) (Ext.refl G)
 ·
  obtain ⟨hu,hut⟩:=hmem u hu
  obtain ⟨d',hd',⟨cur',hc',hs'⟩,q⟩:=hh.tok u hu
  have hbne:d'.b≠d.b:=fun e=>hut (hh.tok_ne u t d' d hu ht hd' hd e)
  exact ⟨d',hd',⟨cur',(hoth _ hbne).trans hc',hs'⟩,q⟩
 ·
  rcases ho with ho | ⟨u,d',hu,hd',hb'⟩
  · exact .inl ho
  · exact .inr ⟨u,d',(hmem u hu).1,hd',hb'⟩
theorem AOp.convT {fr:Nat→AV} {h:List Blk} {live:List Nat} {o:Oper} {K:KT} (x:Operand) (t:TypeId) (ho:o.op=.convert t t x) (ht:isBytesT P t=true) {l:List AV} {u:Nat} (hx:ev fr x=.slice l (.own u)) (hu:u∈live)
 (hK:K (.slice l .none) h (live.filter (· ≠ u))):AOp P fr h live o K:=by
 obtain ⟨dst,op,ty,pos,after,guard⟩:=o
 simp only at ho;subst ho
 intro w G ρ hρ hr hh
 have h1:=hr x (by simp [Op.operands])
 rw [hx] at h1
 generalize hv:ρ x=v at h1
 obtain ⟨e,he,heu⟩:∃e,P.underlying t=some (.slice e)∧P.underlying e=some (.int .u8):=by
  unfold isBytesT at ht
  split at ht
  ·
   rename_i e he
   split at ht
   · rename_i hu;exact ⟨e,he,hu⟩
   · cases ht
  · cases ht
 cases h1 with
 | nilSlice c h=>cases h
 | emptySlice a c h=>cases h
 | slice l c b o cap sz f hcap hmax hsz himm hcell hone hrep hc=>
  obtain ⟨rfl,hl0,e',htk⟩:=hc
  obtain ⟨d2,hd2,⟨cur,hcur,hcs⟩,k1,k2,k3,k4⟩:=hh.tok u hu
  rw [htk] at hd2;cases hd2
  simp only at hcur
  have hbl:b<w.heap.size:=(Array.getElem?_eq_some_iff.1 hcur).1
  have hget:∀c,(w.freeze ⟨b,cur.size,none⟩ 1).heap[c]? = if c=b then some (.cells cur e' (cur.size,cur.size+1)) else w.heap[c]? := fun c=>by
   unfold World.freeze
   rw [if_neg (by decide)]
   show (w.heap.modify b _)[c]? = _
   rw [Array.getElem?_modify]
   by_cases hcb:c=b
   · subst hcb;rw [if_pos rfl,if_pos rfl,hcur];rfl
   · rw [if_neg (fun h=>hcb h.symm),if_neg hcb]
  have hsize:(w.freeze ⟨b,cur.size,none⟩ 1).heap.size=w.heap.size:=by
   unfold World.freeze;rw [if_neg (by decide)];simp
  have hcl:∀a,(w.freeze ⟨b,cur.size,none⟩ 1).cell? a=w.cell? a:=fun a=>by
   by_cases hab:a.block=b
   ·
    unfold World.cell?
    rw [hget,if_pos hab,hab,hcur]
   · exact World.cell?_of_block (by rw [hget,if_neg hab])
  have hrun:(convert t t (.slice (some ⟨b,0,none⟩) l.length cap)).run P w=.ok (.slice (some ⟨b,0,none⟩) l.length cap) (w.freeze ⟨b,cur.size,none⟩ 1):=by
   have hsh:w.shape? b=some (e',cur.size):=by unfold World.shape?;rw [hcur]
   simp [convert,run_underlying he,run_underlying heu,markStringish,hsh]
  simp only [execOp,hv]
  rw [run_value hrun]
  obtain ⟨hh',hev⟩:=hh.mark hu htk (w':=w.freeze ⟨b,cur.size,none⟩ 1) (fun c hc=>by rw [hget,if_neg hc]) hsize hcl (by unfold World.freeze;rw [if_neg (by decide)]) (by unfold World.freeze;rw [if_neg (by decide)]) (by unfold World.freeze;rw [if_neg (by decide)])
  refine ⟨_,h, _,G,hK,?_,hh',hev⟩
  exact Rep.slice l .none b 0 cap sz f hcap hmax hsz himm (fun i j h1 h2=>(hcl _).trans (hcell i j h1 h2)) hone (fun i j h1 h2=>hev.rep (hrep i j h1 h2)) trivial
end
end Go.Ab
namespace Go.Ab
open Go.RowKit
section
variable {P:Program} {fr:Nat→AV} {h:List Blk} {live:List Nat} {o:Oper} {K:KT}
theorem AOp.makeSliceV (t:TypeId) (l c:Operand) (ho:o.op=.makeSlice t l c) {sz by_:Nat} {z:List AV} (ht:makeT P t=some (sz,by_,z,true)) {kl kc:IntKind} {n m:Nat}
 (hl:ev fr l=.int kl (n:Nat)) (hc:ev fr c=.int kc (m:Nat)) (hnm:n≤m) (hb:by_*m≤281474976710656) (hm:m≤140737488355328)
 (hK:K (.slice (List.replicate n (.agg z)) .none) h live):AOp P fr h live o K:=by
 obtain ⟨dst,op,ty,pos,after,guard⟩:=o
 simp only at ho;subst ho
 intro w G ρ hρ hr hh
 obtain ⟨e,j,zv,he,hj,rfl,rfl,hpos,hzl,hz,hzc,hag⟩:=makeT_sound ht
 have h1:=hr l (by simp [Op.operands])
 have h2:=hr c (by simp [Op.operands])
 rw [hl] at h1;rw [hc] at h2
 generalize hu:ρ l=u at h1
 generalize hv:ρ c=v at h2
 cases h1;cases h2
 obtain ⟨i,zz,hi,hiz,hzr,hrep,hrepl⟩:=azero_sound (w:=w) (G:=G) hz
 rw [hj] at hi;cases hi
 rw [hzc] at hrepl
 have hb':(j.bytes:Int)*(m:Int)≤281474976710656:=by
  have h:((j.bytes*m:Nat):Int)≤281474976710656:=by omega
  rwa [Int.natCast_mul] at h
 have hrun:=run_make (P:=P) w t e j zz he hj hiz kl kc n m (by omega) (by omega) hb' (by omega)
 simp only [Int.toNat_natCast] at hrun
 have hrun':(execOp ρ ⟨dst,.makeSlice t l c,ty,pos,after,guard⟩).run P w=.ok (.value (.slice (some ⟨w.heap.size,0,none⟩) n m)) (w.alloc (.cells (madeCells zz.cells (m*j.size)) e)):=by
  simp only [execOp,hu,hv]
  exact run_value hrun
 rw [hrun']
 have hR:=madeCells_rep hrepl (by omega) m
 rw [hzl] at hR
 obtain ⟨hh',hev⟩:=hh.row (.cells (madeCells zz.cells (m*j.size)) e)
 refine ⟨_,h,live, _,hK,?_,hh',hev⟩
 have hsz:(madeCells zz.cells (m*j.size)).size=m*j.size:=by simp [madeCells]
 have hcell:∀q,q<m*j.size→(w.alloc (.cells (madeCells zz.cells (m*j.size)) e)).cell? ⟨w.heap.size,q,none⟩=some ((madeCells zz.cells (m*j.size)).toList.getD q undef):=fun q hq=>by
  rw [World.cell?_alloc_new]
  have:q<(madeCells zz.cells (m*j.size)).size:=by rw [hsz];exact hq
  simp [List.getD_eq_getElem?_getD,this]
 have hg:∀i,i<n→(List.replicate n (AV.agg z)).getD i .undef=.agg z:=fun i hi=>by simp [List.getD_eq_getElem?_getD,hi]
 have hq:∀i k,i<n→k<j.size→i*j.size+k<m*j.size:=fun i k hi hk=>by
  have:=Nat.mul_le_mul_right j.size (show i+1≤m by omega)
  rw [Nat.add_mul] at this
  omega
 have hrz:∀i k,i<n→k<j.size→(rep m z).getD (i*j.size+k) .undef=z.getD k .undef:=fun i k hi hk=>by
  have hlt:=hq i k hi hk
  have hmd:(i*j.size+k)%j.size=k:=Nat.mul_add_mod_of_lt hk
  generalize i*j.size+k=q at hlt hmd
  subst hmd
  simp [rep,List.getD_eq_getElem?_getD,hzl,hlt]
 have key:=Rep.slice (w:=w.alloc (.cells (madeCells zz.cells (m*j.size)) e)) (G:={ G with imm:=fun b q=>G.imm b q∨b=w.heap.size }) (List.replicate n (AV.agg z)) .none w.heap.size 0 m j.size (fun i k=>(madeCells zz.cells (m*j.size)).toList.getD (i*j.size+k) undef)
  (by simpa using hnm) (by unfold maxLen;omega) (fun i hi=>by rw [hg i (by simpa using hi)];exact hzl) (fun i k _ _=>.inr rfl) (fun i k hi hk=>by
   rw [Nat.zero_add];exact hcell _ (hq i k (by simpa using hi) hk)) (fun i k hi hk=>(hR.2 _ (by rw [rep_length,hzl];exact hq i k (by simpa using hi) hk)).1) (fun i k hi hk=>by
   have:=(hR.2 (i*j.size+k) (by rw [rep_length,hzl];exact hq i k (by simpa using hi) hk)).2
   rw [hrz i k (by simpa using hi) hk] at this
   rw [hg i (by simpa using hi)]
   exact hev.rep this) trivial
 simpa using key
end
theorem ftc_ {m:Nat} {fr:Nat→AV} {k:Nat} {v:AV} {r:FL} (hr:FTr m fr r) (h:fr k=v:=by first | rfl | ((simp (disch:=omega) only [push_cast,and_true,cond_true,cond_false,if_pos,if_neg,↓reduceIte,Nat.reduceEqDiff,Nat.reduceAdd,Nat.reduceLeDiff,sx])<;>first | rfl | (congr 2;omega)))
 (hc:v.cl m:=by first | exact trivial | (simp [AV.cl,AV.clL,clL_str, -List.map_map, -List.map_take];done) | (simp only [AV.cl,AV.clL,push_cast,and_true,true_and];done) | (simp only [AV.cl,AV.clL,push_cast,and_true,true_and];omega) | (simp [AV.cl,AV.clL,clL_str, -List.map_map, -List.map_take];omega)):FTr m fr ((k,v)::r):=FTr.cons h hc hr
section
variable {P:Program} {q:RQ} {gd:Nat→Option Tmp} {n:Nat} {fl:FL} {h:List Blk} {live:List Nat} {o:Oper} {os:List Oper} {Q:FT}
theorem ap_ {s x:Operand} {t:TypeId} {sz bytes:Nat} {l m:List AV} {c c2:Cap} {dt:Tmp}
 (hk:kindOf q o=.w:=by rfl) (hw:dwant gd (fget fl) o=some true:=by rfl) (hd:o.dst=some dt:=by rfl) (hn:decide (dt<n)=true:=by rfl)
 (ho:o.op=.call { callee:=.builtin .append,args := #[s,x],argTypes := #[t,t] }:=by rfl) (ht:appSz P t=some (sz,bytes):=by (simp (disch:=omega) only [push_cast,↓reduceIte,Nat.reduceEqDiff,Nat.reduceAdd,Nat.reduceLeDiff,sx])<;>rfl)
 (hs:ev (fget fl) s=.slice l c:=by (simp (disch:=omega) only [push_cast,↓reduceIte,Nat.reduceEqDiff,Nat.reduceAdd,Nat.reduceLeDiff,sx])<;>rfl) (hx:ev (fget fl) x=.slice m c2:=by (simp (disch:=omega) only [push_cast,↓reduceIte,Nat.reduceEqDiff,Nat.reduceAdd,Nat.reduceLeDiff,sx])<;>rfl)
 (a:CapOK live c) (b:∀y∈l,y.cells.length=sz) (c':∀y∈m,y.cells.length=sz) (d:(l.length+m.length)*bytes≤140737488355328) (e:l.length+m.length≤140737488355328)
 (k:∀c' live',Keeps live c live' c'→dawp P q gd n os (fget ((dt,.slice (l++m) c')::fl)) h live' Q):dawp P q gd n (o::os) (fget fl) h live Q:=
 dawp_w hk hw hd hn (AOp.append s x t ho ht hs hx a b c' d e k)
theorem dp_ {x:AV} {t:Tmp} (k:dawp P q gd n os (fget ((t,x)::fl)) h live Q) (hw:dwant gd (fget fl) o=some true:=by rfl) (hx:astepP P (fget fl) o=some x:=by (simp (disch:=omega) only [push_cast,↓reduceIte,Nat.reduceEqDiff,Nat.reduceAdd,Nat.reduceLeDiff,Int.reduceSub,Int.reduceToNat,Int.reduceAdd,sx])<;>rfl) (hd:o.dst=some t:=by rfl) (hn:decide (t<n)=true:=by rfl):dawp P q gd n (o::os) (fget fl) h live Q:=dawp_p hw hx hd hn k
theorem dh_ {x:AV} {h':List Blk} {t:Tmp} (k:dawp P q gd n os (fget ((t,x)::fl)) h' live Q) (hw:dwant gd (fget fl) o=some true:=by rfl) (hx:astepH P (fget fl) h o=some (x,h'):=by (simp (disch:=omega) only [push_cast,↓reduceIte,Nat.reduceEqDiff,Nat.reduceAdd,Nat.reduceLeDiff,Int.reduceSub,Int.reduceToNat,Int.reduceAdd,sx])<;>rfl) (hd:o.dst=some t:=by rfl) (hn:decide (t<n)=true:=by rfl) (hq:(fload q o||gst q o||scall q o)=false:=by rfl):dawp P q gd n (o::os) (fget fl) h live Q:=dawp_h hw hx hd hn k hq
theorem dn_ {x:AV} {h':List Blk} (k:dawp P q gd n os (fget fl) h' live Q) (hw:dwant gd (fget fl) o=some true:=by rfl) (hx:astepH P (fget fl) h o=some (x,h'):=by (simp (disch:=omega) only [push_cast,↓reduceIte,Nat.reduceEqDiff,Nat.reduceAdd,Nat.reduceLeDiff,Int.reduceSub,Int.reduceToNat,Int.reduceAdd,sx])<;>rfl) (hd:o.dst=none:=by rfl) (hq:(fload q o||gst q o||scall q o)=false:=by rfl):dawp P q gd n (o::os) (fget fl) h live Q:=dawp_hn hw hx hd k hq
theorem df_ {x:AV} {t:Tmp} (k:dawp P q gd n os (fget ((t,x)::fl)) h live Q) (hk:fload q o=true:=by rfl) (hw:dwant gd (fget fl) o=some true:=by rfl) (hx:floadOf P q.T (fget fl) h o=some x:=by simp (disch:=omega) only [push_cast,↓reduceIte,Nat.reduceEqDiff,Nat.reduceAdd,Nat.reduceLeDiff,Int.reduceSub,Int.reduceToNat,Int.reduceAdd,sx];first | rfl | (simp;rfl)) (hd:o.dst=some t:=by rfl) (hn:decide (t<n)=true:=by rfl):dawp P q gd n (o::os) (fget fl) h live Q:=dawp_f hk hw hx hd hn k
theorem dg_ {x:AV} {g:Bool} {j:Nat} {want:Bool} {t tg:Tmp} (k:dawp P q gd n os (fget ((t,bif g then x else .tup [])::fl)) h live Q) (ho:o.guard=some (j,want):=by rfl) (hgd:gd j=some tg:=by rfl) (hw:wantOf (gv (fget fl tg)) want=some g:=by simp only [push_cast,↓reduceIte,Nat.reduceEqDiff,Nat.reduceAdd,Nat.reduceLeDiff,Int.reduceSub,Int.reduceToNat,Int.reduceAdd,sx];rfl)
 (hx:g=true→astepP P (fget fl) o=some x:=by intro hg;simp (disch:=omega) only [hg,push_cast,↓reduceIte,Nat.reduceEqDiff,Nat.reduceAdd,Nat.reduceLeDiff,Int.reduceSub,Int.reduceToNat,Int.reduceAdd,sx];rfl) (hd:o.dst=some t:=by rfl) (hn:decide (t<n)=true:=by rfl):dawp P q gd n (o::os) (fget fl) h live Q:=dawp_g ho hgd hw hx hd hn k
theorem dgh_ {x:AV} {g:Bool} {j:Nat} {want:Bool} {t tg:Tmp} (k:dawp P q gd n os (fget ((t,bif g then x else .tup [])::fl)) h live Q) (ho:o.guard=some (j,want):=by rfl) (hgd:gd j=some tg:=by rfl) (hw:wantOf (gv (fget fl tg)) want=some g:=by simp only [push_cast,↓reduceIte,Nat.reduceEqDiff,Nat.reduceAdd,Nat.reduceLeDiff,Int.reduceSub,Int.reduceToNat,Int.reduceAdd,sx];rfl)
 (hx:g=true→astepH P (fget fl) h o=some (x,h):=by intro hg;simp (disch:=omega) only [hg,push_cast,↓reduceIte,Nat.reduceEqDiff,Nat.reduceAdd,Nat.reduceLeDiff,Int.reduceSub,Int.reduceToNat,Int.reduceAdd,sx];rfl) (hd:o.dst=some t:=by rfl) (hn:decide (t<n)=true:=by rfl) (hq:(fload q o||gst q o||scall q o)=false:=by rfl):dawp P q gd n (o::os) (fget fl) h live Q:=dawp_gh ho hgd hw hx hd hn k hq
theorem dga_ {x:AV} {h':List Blk} {t:Tmp} (k:dawp P q gd n os (fget ((t,x)::fl)) h' live Q) (hk:(!fload q o&&gst q o)=true:=by rfl) (hw:dwant gd (fget fl) o=some true:=by rfl) (hx:astepH P (fget fl) h o=some (x,h'):=by (simp (disch:=omega) only [push_cast,↓reduceIte,Nat.reduceEqDiff,Nat.reduceAdd,Nat.reduceLeDiff,Int.reduceSub,Int.reduceToNat,Int.reduceAdd,sx])<;>rfl) (hd:o.dst=some t:=by rfl) (hn:decide (t<n)=true:=by rfl) (hs:stab P q.T h h':=by repeat (first | exact stab.nil | refine stab.cons (by simp (disch:=omega) only [push_cast,↓reduceIte,Nat.reduceEqDiff,Nat.reduceAdd,Nat.reduceLeDiff,Int.reduceSub,Int.reduceToNat,Int.reduceAdd,sx]) ?_)) (hs2:stN q.N h h':=by first | exact (fun k hk=>absurd hk (Nat.not_lt_zero k)) | (intro k0 hk2;dsimp only at hk2;first | rw [List.getElem?_append_left hk2,List.getElem?_append_left hk2] | rw [List.getElem?_set_ne (by omega),List.getElem?_append_left hk2,List.getElem?_append_left hk2] | rw [List.getElem?_set_ne (by omega),List.getElem?_set_ne (by omega),List.getElem?_append_left hk2,List.getElem?_append_left hk2] | rw [List.getElem?_set_ne (by omega)])):dawp P q gd n (o::os) (fget fl) h live Q:=dawp_ga hk hw hx hd hn hs k hs2
theorem dgs_ {x:AV} {h':List Blk} (k:dawp P q gd n os (fget fl) h' live Q) (hk:(!fload q o&&gst q o)=true:=by rfl) (hw:dwant gd (fget fl) o=some true:=by rfl) (hx:astepH P (fget fl) h o=some (x,h'):=by (simp (disch:=omega) only [push_cast,↓reduceIte,Nat.reduceEqDiff,Nat.reduceAdd,Nat.reduceLeDiff,Int.reduceSub,Int.reduceToNat,Int.reduceAdd,sx])<;>rfl) (hd:o.dst=none:=by rfl) (hs:stab P q.T h h':=by repeat (first | exact stab.nil | refine stab.cons (by simp (disch:=omega) only [push_cast,↓reduceIte,Nat.reduceEqDiff,Nat.reduceAdd,Nat.reduceLeDiff,Int.reduceSub,Int.reduceToNat,Int.reduceAdd,sx]) ?_)) (hs2:stN q.N h h':=by first | exact (fun k hk=>absurd hk (Nat.not_lt_zero k)) | (intro k0 hk2;dsimp only at hk2;first | rw [List.getElem?_append_left hk2,List.getElem?_append_left hk2] | rw [List.getElem?_set_ne (by omega),List.getElem?_append_left hk2,List.getElem?_append_left hk2] | rw [List.getElem?_set_ne (by omega),List.getElem?_set_ne (by omega),List.getElem?_append_left hk2,List.getElem?_append_left hk2] | rw [List.getElem?_set_ne (by omega)])):dawp P q gd n (o::os) (fget fl) h live Q:=dawp_gs hk hw hx hd hs k hs2
theorem ds_ {t:Tmp} {fo:Operand} {args:Array Operand} {ts:Array TypeId} {f:FuncId} {first cap xs:List AV} {x:AV} (hk:(!fload q o&&!gst q o&&scall q o)=true:=by rfl) (hw:dwant gd (fget fl) o=some true:=by rfl) (hd:o.dst=some t:=by rfl) (hn:decide (t<n)=true:=by rfl)
 (ho:o.op=.call { callee:=.value fo,args:=args,argTypes:=ts }:=by rfl) (hf:ev (fget fl) fo=.fn (.func f) first cap:=by (simp (disch:=omega) only [push_cast,↓reduceIte,Nat.reduceEqDiff,Nat.reduceAdd,Nat.reduceLeDiff,Int.reduceSub,Int.reduceToNat,Int.reduceAdd,sx])<;>rfl) (hx:first++args.toList.map (ev (fget fl))++cap=xs:=by (simp (disch:=omega) only [push_cast,↓reduceIte,Nat.reduceEqDiff,Nat.reduceAdd,Nat.reduceLeDiff,Int.reduceSub,Int.reduceToNat,Int.reduceAdd,sx])<;>rfl)
 (hc:∀h' l',stN q.N h h'→ACalls P f xs h' l' (ret x h' l')) (k:dawp P q gd n os (fget ((t,x)::fl)) h live Q):dawp P q gd n (o::os) (fget fl) h live Q:=dawp_s hk hw hd hn (fun h' l' hs=>AOp.callx fo args ts ho hf hx (hc h' l' hs)) k
theorem cx_ {P:Program} {S:AS} {Q:Exit→AS→Prop} {c:Operand} {x y:Code} {b:Bool} {p p':Prop} (ht:p→AwpC P x Q S) (hf:p'→AwpC P y Q S) (hb:ev S.fr c=.bool b:=by (simp (disch:=omega) only [push_cast,and_true,cond_true,cond_false,if_pos,if_neg,↓reduceIte,Nat.reduceEqDiff,Nat.reduceAdd,Nat.reduceLeDiff,sx])<;>rfl)
 (hp:b=true↔p:=by (try simp only [decide_eq_true_eq,decide_eq_false_iff_not,Bool.not_eq_true',Bool.not_eq_false',Bool.or_eq_true,Bool.and_eq_true,Bool.or_eq_false_iff,Bool.and_eq_false_imp,Int.not_lt,Int.not_le])<;>exact Iff.rfl)
 (hp':b=false↔p':=by (try simp only [decide_eq_true_eq,decide_eq_false_iff_not,Bool.not_eq_true',Bool.not_eq_false',Bool.or_eq_true,Bool.and_eq_true,Bool.or_eq_false_iff,Bool.and_eq_false_imp,Int.not_lt,Int.not_le])<;>exact Iff.rfl):AwpC P (.cond c x y) Q S:=awp_cond hb (fun e=>ht (hp.1 e)) (fun e=>hf (hp'.1 e))
theorem cy_ {P:Program} {S:AS} {Q:Exit→AS→Prop} {c:Operand} {x y:Code} {b:Bool} (ht:b=true→AwpC P x Q S) (hf:b=false→AwpC P y Q S) (hb:ev S.fr c=.bool b:=by (simp (disch:=omega) only [push_cast,and_true,cond_true,cond_false,if_pos,if_neg,↓reduceIte,Nat.reduceEqDiff,Nat.reduceAdd,Nat.reduceLeDiff,sx])<;>rfl):AwpC P (.cond c x y) Q S:=awp_cond hb ht hf
theorem reI_ {P:Program} {y:Code} {Q:Exit→AS→Prop} {V:List Tmp} {fl2:FL} {h2:List Blk} (k:AwpC P y Q ⟨n,fget fl2,h2,live⟩) (hf:fkeep V (fget fl)=fl2:=by (simp (disch:=omega) only [push_cast,and_true,cond_true,cond_false,if_pos,if_neg,↓reduceIte,Nat.reduceEqDiff,Nat.reduceAdd,Nat.reduceLeDiff,Int.reduceSub,Int.reduceToNat,Int.reduceAdd,sx])<;>rfl) (hh:h=h2:=by (try simp (disch:=omega) only [push_cast,and_true,cond_true,cond_false,if_pos,if_neg,↓reduceIte,Nat.reduceEqDiff,Nat.reduceAdd,Nat.reduceLeDiff,Int.reduceSub,Int.reduceToNat,Int.reduceAdd,sx])<;>rfl):dawp P q gd n [] (fget fl) h live (endF P y Q n V):=re_ k hf hh
theorem rnI_ {P:Program} {Q:Exit→AS→Prop} {V:List Tmp} {fl2:FL} {h2:List Blk} (k:Q .normal ⟨n,fget fl2,h2,live⟩) (hf:fkeep V (fget fl)=fl2:=by (simp (disch:=omega) only [push_cast,and_true,cond_true,cond_false,if_pos,if_neg,↓reduceIte,Nat.reduceEqDiff,Nat.reduceAdd,Nat.reduceLeDiff,Int.reduceSub,Int.reduceToNat,Int.reduceAdd,sx])<;>rfl) (hh:h=h2:=by (try simp (disch:=omega) only [push_cast,and_true,cond_true,cond_false,if_pos,if_neg,↓reduceIte,Nat.reduceEqDiff,Nat.reduceAdd,Nat.reduceLeDiff,Int.reduceSub,Int.reduceToNat,Int.reduceAdd,sx])<;>rfl):dawp P q gd n [] (fget fl) h live (endN Q n V):=rn_ k hf hh
abbrev AC (P:Program) (f:FuncId) (xs:List AV) (h:List Blk) (live:List Nat) (r:AV):Prop:=ACalls P f xs h live (ret r h live)
theorem fq_ {P:Program} {S:AS} {fn:Func} {h:List Blk} {K:KT} {xs:List AV} {x:AV} {live:List Nat} {rs:Array ResultVar} (hr:fn.results=rs) (hK:K x h live)
 (hres:aresults P S rs.toList=some xs:=by (simp (disch:=omega) only [aresults,aresult,push_cast,and_true,cond_true,cond_false,if_pos,if_neg,↓reduceIte,Nat.reduceEqDiff,Nat.reduceAdd,Nat.reduceLeDiff,sx])<;>rfl)
 (hx:(atuple xs).er=x:=by (simp only [atuple,AV.er,AV.erL,push_cast])<;>rfl) (hcl:x.cl h.length:=by first | exact trivial | (simp [AV.cl,AV.clL];done) | (simp only [AV.cl,AV.clL,push_cast,and_true];done) | (simp only [AV.cl,AV.clL,push_cast,and_true];omega))
 (hh:∃junk,S.h=h++junk:=by first | exact ⟨_,rfl⟩ | exact ⟨[],(List.append_nil _).symm⟩ | exact ⟨_,by rw [List.append_assoc];rfl⟩) (hH:HCl h:=by assumption)
 (hl:∀u∈live,u∈S.live:=by exact fun _ h=>h):fin P fn h K .ret S:=fp_ hr hres hx hcl hh hH hl hK
theorem gq_ {P:Program} {S:AS} {fn:Func} {h h1:List Blk} {K:KT} {xs:List AV} {x:AV} {live:List Nat} {rs:Array ResultVar} (hr:fn.results=rs) (hK:K x h1 live)
 (hres:aresults P S rs.toList=some xs:=by (simp (disch:=omega) only [aresults,aresult,push_cast,and_true,cond_true,cond_false,if_pos,if_neg,↓reduceIte,Nat.reduceEqDiff,Nat.reduceAdd,Nat.reduceLeDiff,sx])<;>rfl)
 (hx:atuple xs=x∨(atuple xs).er=x:=by exact .inr (by (simp only [atuple,AV.er,AV.erL,push_cast])<;>rfl)) (hcl:x.cl h1.length:=by first | exact trivial | (simp [AV.cl,AV.clL];done) | (simp only [AV.cl,AV.clL,push_cast,and_true];done) | (simp only [AV.cl,AV.clL,push_cast,and_true];omega))
 (hh:∃junk,S.h=h1++junk:=by first | exact ⟨_,rfl⟩ | exact ⟨[],(List.append_nil _).symm⟩ | exact ⟨_,by rw [List.append_assoc];rfl⟩) (hH:HCl h1:=by assumption) (hle:h.length≤h1.length:=by simp)
 (hl:∀u∈live,u∈S.live:=by exact fun _ h=>h):fin P fn h K .ret S:=fg_ hr hres hx hcl hh hH hle hl hK
theorem rk_ {x y:AV} {h:List Blk} {live:List Nat} (e:x=y):x=y∧h=h∧live=live:=⟨e,rfl,rfl⟩
theorem aq_ {P:Program} {f:FuncId} {fn:Func} {c:Code} {xs:List AV} {h:List Blk} {live:List Nat} {K:KT} {fl:FL} (hf:P.funcs[f]? = some fn) (hw:HCl h→(∀x∈xs,x.cl h.length)→AwpC P c (fin P fn h K) ⟨fn.ntmps,fget fl,h,live⟩) (hn:(fn.name == "runtime.NumGoroutine")=false:=by rfl) (hb:fn.body=some c:=by rfl) (hl:xs.length≤fn.ntmps:=by exact Nat.le_of_ble_eq_true rfl)
 (hg:fargs xs 0=fl:=by (simp only [fargs])<;>rfl):ACalls P f xs h live K:=acalls_of_awp hf hn hb hl (hg▸hw)
theorem ln_ {X:Type} {A B C:X→Prop} (a:X) (h1:A a) (h2:B a:=by first | rfl | trivial | (simp only [List.length_set];done) | simp) (h3:C a:=by dsimp only;omega):∃a,A a∧B a∧C a:=⟨a,h1,h2,h3⟩
theorem sx:sxN=0:=sx0
theorem lp_ {P:Program} {c:Code} {Q:Exit→AS→Prop} {S:AS} {X:Type} (I:X→AS) (μ:X→Nat) (x:X) (h0:Trunc S (I x))
 (round:∀x,AwpC P c (thenQ (fun S'=>∃y,Trunc S' (I y)∧(I y).h.length=(I x).h.length ∧ μ y < μ x) Q) (I x)) (hl0:(I x).h.length=S.h.length:=by first | rfl | (simp only [List.length_set];done) | simp):AwpC P (.loop c) Q S:=awp_loop' I μ x h0 hl0 round
theorem sre_ {P:Program} {q:RQ} {gd:Nat→Option Tmp} {n:Nat} {fl fl' fl2:FL} {h h' h2:List Blk} {live:List Nat} {os:List Oper} {y:Code} {Q:Exit→AS→Prop} {V:List Tmp} (k:AwpC P y Q ⟨n,fget fl2,h2,live⟩) (s:dawp P q gd n [] (fget fl') h' live (endF P y Q n V)→dawp P q gd n os (fget fl) h live (endF P y Q n V):=by
 intro k
 repeat (first
  | refine dawp_p rfl (by (simp (disch:=omega) only [push_cast,and_true,cond_true,cond_false,if_pos,if_neg,↓reduceIte,Nat.reduceEqDiff,Nat.reduceAdd,Nat.reduceLeDiff,sx])<;>rfl) rfl rfl ?_
  | refine dawp_h rfl (by (simp (disch:=omega) only [push_cast,and_true,cond_true,cond_false,if_pos,if_neg,↓reduceIte,Nat.reduceEqDiff,Nat.reduceAdd,Nat.reduceLeDiff,sx])<;>rfl) rfl rfl ?_
  | refine dawp_hn rfl (by (simp (disch:=omega) only [push_cast,and_true,cond_true,cond_false,if_pos,if_neg,↓reduceIte,Nat.reduceEqDiff,Nat.reduceAdd,Nat.reduceLeDiff,sx])<;>rfl) rfl ?_
  | refine dawp_g rfl rfl (by simp only [push_cast,and_true,cond_true,cond_false,if_pos,if_neg,↓reduceIte,Nat.reduceEqDiff,Nat.reduceAdd,Nat.reduceLeDiff,sx];rfl) (fun hg=>by
   have hg2:=hg
   try simp only [decide_eq_true_eq,decide_eq_false_iff_not,Bool.not_eq_true',Bool.not_eq_false',Bool.or_eq_true,Bool.and_eq_true,Bool.or_eq_false_iff,Bool.and_eq_false_imp,Int.not_lt,Int.not_le,Bool.false_or,Bool.or_false,Bool.true_and,Bool.and_true] at hg2
   simp (disch:=omega) only [hg,push_cast,and_true,cond_true,cond_false,if_pos,if_neg,↓reduceIte,Nat.reduceEqDiff,Nat.reduceAdd,Nat.reduceLeDiff,sx];rfl) rfl rfl ?_
  | refine dawp_gh rfl rfl (by simp only [push_cast,and_true,cond_true,cond_false,if_pos,if_neg,↓reduceIte,Nat.reduceEqDiff,Nat.reduceAdd,Nat.reduceLeDiff,sx];rfl) (fun hg=>by
   have hg2:=hg
   try simp only [decide_eq_true_eq,decide_eq_false_iff_not,Bool.not_eq_true',Bool.not_eq_false',Bool.or_eq_true,Bool.and_eq_true,Bool.or_eq_false_iff,Bool.and_eq_false_imp,Int.not_lt,Int.not_le,Bool.false_or,Bool.or_false,Bool.true_and,Bool.and_true] at hg2
   simp (disch:=omega) only [hg,push_cast,and_true,cond_true,cond_false,if_pos,if_neg,↓reduceIte,Nat.reduceEqDiff,Nat.reduceAdd,Nat.reduceLeDiff,sx];rfl) rfl rfl ?_)
 exact k)
 (hf:fkeep V (fget fl')=fl2:=by (simp (disch:=omega) only [push_cast,and_true,cond_true,cond_false,if_pos,if_neg,↓reduceIte,Nat.reduceEqDiff,Nat.reduceAdd,Nat.reduceLeDiff,sx])<;>rfl) (hh:h'=h2:=by (try simp (disch:=omega) only [push_cast,and_true,cond_true,cond_false,if_pos,if_neg,↓reduceIte,Nat.reduceEqDiff,Nat.reduceAdd,Nat.reduceLeDiff,sx])<;>rfl):dawp P q gd n os (fget fl) h live (endF P y Q n V):=s (re_ k hf hh)
theorem srn_ {G:Prop} {P:Program} {q:RQ} {gd:Nat→Option Tmp} {n:Nat} {fl fl' fl2:FL} {h h' h2:List Blk} {live:List Nat} {os:List Oper} {Q:Exit→AS→Prop} {V:List Tmp} (k:G) (s:dawp P q gd n [] (fget fl') h' live (endN Q n V)→dawp P q gd n os (fget fl) h live (endN Q n V):=by
 intro k
 repeat (first
  | refine dawp_p rfl (by (simp (disch:=omega) only [push_cast,and_true,cond_true,cond_false,if_pos,if_neg,↓reduceIte,Nat.reduceEqDiff,Nat.reduceAdd,Nat.reduceLeDiff,sx])<;>rfl) rfl rfl ?_
  | refine dawp_h rfl (by (simp (disch:=omega) only [push_cast,and_true,cond_true,cond_false,if_pos,if_neg,↓reduceIte,Nat.reduceEqDiff,Nat.reduceAdd,Nat.reduceLeDiff,sx])<;>rfl) rfl rfl ?_
  | refine dawp_hn rfl (by (simp (disch:=omega) only [push_cast,and_true,cond_true,cond_false,if_pos,if_neg,↓reduceIte,Nat.reduceEqDiff,Nat.reduceAdd,Nat.reduceLeDiff,sx])<;>rfl) rfl ?_
  | refine dawp_g rfl rfl (by simp only [push_cast,and_true,cond_true,cond_false,if_pos,if_neg,↓reduceIte,Nat.reduceEqDiff,Nat.reduceAdd,Nat.reduceLeDiff,sx];rfl) (fun hg=>by
   have hg2:=hg
   try simp only [decide_eq_true_eq,decide_eq_false_iff_not,Bool.not_eq_true',Bool.not_eq_false',Bool.or_eq_true,Bool.and_eq_true,Bool.or_eq_false_iff,Bool.and_eq_false_imp,Int.not_lt,Int.not_le,Bool.false_or,Bool.or_false,Bool.true_and,Bool.and_true] at hg2
   simp (disch:=omega) only [hg,push_cast,and_true,cond_true,cond_false,if_pos,if_neg,↓reduceIte,Nat.reduceEqDiff,Nat.reduceAdd,Nat.reduceLeDiff,sx];rfl) rfl rfl ?_
  | refine dawp_gh rfl rfl (by simp only [push_cast,and_true,cond_true,cond_false,if_pos,if_neg,↓reduceIte,Nat.reduceEqDiff,Nat.reduceAdd,Nat.reduceLeDiff,sx];rfl) (fun hg=>by
   have hg2:=hg
   try simp only [decide_eq_true_eq,decide_eq_false_iff_not,Bool.not_eq_true',Bool.not_eq_false',Bool.or_eq_true,Bool.and_eq_true,Bool.or_eq_false_iff,Bool.and_eq_false_imp,Int.not_lt,Int.not_le,Bool.false_or,Bool.or_false,Bool.true_and,Bool.and_true] at hg2
   simp (disch:=omega) only [hg,push_cast,and_true,cond_true,cond_false,if_pos,if_neg,↓reduceIte,Nat.reduceEqDiff,Nat.reduceAdd,Nat.reduceLeDiff,sx];rfl) rfl rfl ?_)
 exact k)
 (hf:fkeep V (fget fl')=fl2:=by (simp (disch:=omega) only [push_cast,and_true,cond_true,cond_false,if_pos,if_neg,↓reduceIte,Nat.reduceEqDiff,Nat.reduceAdd,Nat.reduceLeDiff,sx])<;>rfl) (hh:h'=h2:=by (try simp (disch:=omega) only [push_cast,and_true,cond_true,cond_false,if_pos,if_neg,↓reduceIte,Nat.reduceEqDiff,Nat.reduceAdd,Nat.reduceLeDiff,sx])<;>rfl) (u:G→Q .normal ⟨n,fget fl2,h2,live⟩:=by
 intro k
 repeat (first
  | with_reducible refine then_n ?_
  | with_reducible refine then_r ?_
  | with_reducible refine then_x ?_
  | with_reducible refine blk_n ?_
  | with_reducible refine blk_r ?_
  | with_reducible refine blk_x ?_
  | with_reducible refine blk_y rfl ?_)
 exact k):dawp P q gd n os (fget fl) h live (endN Q n V):=s (rn_ (u k) hf hh)
theorem srt_ {G:Prop} {P:Program} {q:RQ} {gd:Nat→Option Tmp} {n:Nat} {fl fl' fl2:FL} {h h' h2:List Blk} {live:List Nat} {os:List Oper} {Q:Exit→AS→Prop} {V:List Tmp} (k:G) (s:dawp P q gd n [] (fget fl') h' live (endF P .ret Q n V)→dawp P q gd n os (fget fl) h live (endF P .ret Q n V):=by
 intro k
 repeat (first
  | refine dawp_p rfl (by (simp (disch:=omega) only [push_cast,and_true,cond_true,cond_false,if_pos,if_neg,↓reduceIte,Nat.reduceEqDiff,Nat.reduceAdd,Nat.reduceLeDiff,sx])<;>rfl) rfl rfl ?_
  | refine dawp_h rfl (by (simp (disch:=omega) only [push_cast,and_true,cond_true,cond_false,if_pos,if_neg,↓reduceIte,Nat.reduceEqDiff,Nat.reduceAdd,Nat.reduceLeDiff,sx])<;>rfl) rfl rfl ?_
  | refine dawp_hn rfl (by (simp (disch:=omega) only [push_cast,and_true,cond_true,cond_false,if_pos,if_neg,↓reduceIte,Nat.reduceEqDiff,Nat.reduceAdd,Nat.reduceLeDiff,sx])<;>rfl) rfl ?_
  | refine dawp_g rfl rfl (by simp only [push_cast,and_true,cond_true,cond_false,if_pos,if_neg,↓reduceIte,Nat.reduceEqDiff,Nat.reduceAdd,Nat.reduceLeDiff,sx];rfl) (fun hg=>by
   have hg2:=hg
   try simp only [decide_eq_true_eq,decide_eq_false_iff_not,Bool.not_eq_true',Bool.not_eq_false',Bool.or_eq_true,Bool.and_eq_true,Bool.or_eq_false_iff,Bool.and_eq_false_imp,Int.not_lt,Int.not_le,Bool.false_or,Bool.or_false,Bool.true_and,Bool.and_true] at hg2
   simp (disch:=omega) only [hg,push_cast,and_true,cond_true,cond_false,if_pos,if_neg,↓reduceIte,Nat.reduceEqDiff,Nat.reduceAdd,Nat.reduceLeDiff,sx];rfl) rfl rfl ?_
  | refine dawp_gh rfl rfl (by simp only [push_cast,and_true,cond_true,cond_false,if_pos,if_neg,↓reduceIte,Nat.reduceEqDiff,Nat.reduceAdd,Nat.reduceLeDiff,sx];rfl) (fun hg=>by
   have hg2:=hg
   try simp only [decide_eq_true_eq,decide_eq_false_iff_not,Bool.not_eq_true',Bool.not_eq_false',Bool.or_eq_true,Bool.and_eq_true,Bool.or_eq_false_iff,Bool.and_eq_false_imp,Int.not_lt,Int.not_le,Bool.false_or,Bool.or_false,Bool.true_and,Bool.and_true] at hg2
   simp (disch:=omega) only [hg,push_cast,and_true,cond_true,cond_false,if_pos,if_neg,↓reduceIte,Nat.reduceEqDiff,Nat.reduceAdd,Nat.reduceLeDiff,sx];rfl) rfl rfl ?_)
 exact k)
 (hf:fkeep V (fget fl')=fl2:=by (simp (disch:=omega) only [push_cast,and_true,cond_true,cond_false,if_pos,if_neg,↓reduceIte,Nat.reduceEqDiff,Nat.reduceAdd,Nat.reduceLeDiff,sx])<;>rfl) (hh:h'=h2:=by (try simp (disch:=omega) only [push_cast,and_true,cond_true,cond_false,if_pos,if_neg,↓reduceIte,Nat.reduceEqDiff,Nat.reduceAdd,Nat.reduceLeDiff,sx])<;>rfl) (u:G→Q .ret ⟨n,fget fl2,h2,live⟩:=by
 intro k
 repeat (first
  | with_reducible refine then_n ?_
  | with_reducible refine then_r ?_
  | with_reducible refine then_x ?_
  | with_reducible refine blk_n ?_
  | with_reducible refine blk_r ?_
  | with_reducible refine blk_x ?_
  | with_reducible refine blk_y rfl ?_)
 exact k):dawp P q gd n os (fget fl) h live (endF P .ret Q n V):=s (re_ (awp_ret (u k)) hf hh)
theorem ret_ {G:Prop} {P:Program} {S:AS} {Q:Exit→AS→Prop} (k:G) (u:G→Q .ret S:=by
 intro k
 repeat (first
  | with_reducible refine then_n ?_
  | with_reducible refine then_r ?_
  | with_reducible refine then_x ?_
  | with_reducible refine blk_n ?_
  | with_reducible refine blk_r ?_
  | with_reducible refine blk_x ?_
  | with_reducible refine blk_y rfl ?_)
 exact k):AwpC P .ret Q S:=awp_ret (u k)
theorem skp_ {G:Prop} {P:Program} {S:AS} {Q:Exit→AS→Prop} (k:G) (u:G→Q .normal S:=by
 intro k
 repeat (first
  | with_reducible refine then_n ?_
  | with_reducible refine then_r ?_
  | with_reducible refine then_x ?_
  | with_reducible refine blk_n ?_
  | with_reducible refine blk_r ?_
  | with_reducible refine blk_x ?_
  | with_reducible refine blk_y rfl ?_)
 exact k):AwpC P .skip Q S:=awp_skip (u k)
end
end Go.Ab
namespace Go.Ab
open Go.RowKit
section
variable {P:Program} {fr:Nat→AV} {h:List Blk} {live:List Nat} {o:Oper} {K:KT}
theorem AOp.appendG (s x:Operand) (t:TypeId) (ho:o.op=.call { callee:=.builtin .append,args := #[s,x],argTypes := #[t,t] }) {sz by_:Nat} {z:List AV} {ag:Bool} (ht:makeT P t=some (sz,by_,z,ag))
 {k ln cap:Nat} {ag':Bool} (hs:ev fr s=.bsl k 0 sz ag' ln cap) {m:List AV} {c2:Cap} (hx:ev fr x=.slice m c2) (hm0:0<m.length) (hm:∀y∈m,y.cells.length=sz) {cs:List AV} (hk:h[k]? = some (.cells cs)) (hcs:ln*sz≤cs.length) (hgr:cap<ln+m.length)
 (hbytes:(ln+m.length)*by_≤140737488355328) (hmx:ln+m.length≤140737488355328)
 (hK:∀cap',ln+m.length≤cap'→K (.bsl h.length 0 sz ag (ln+m.length) cap') (h++[.cells (cs.take (ln*sz)++flat m++rep (cap' - (ln+m.length)) z)]) live):AOp P fr h live o K:=by
 obtain ⟨dst,op,ty,pos,after,guard⟩:=o
 simp only at ho;subst ho
 intro w G ρ hρ hr hh
 obtain ⟨e,i,zv,he,hi,rfl,rfl,hpos,hzl,hz,hzc,hag⟩:=makeT_sound ht
 have hrs:=hr s (by simp [Op.operands,Call.operands])
 have hrx:=hr x (by simp [Op.operands,Call.operands])
 rw [hs] at hrs;rw [hx] at hrx
 generalize hu:ρ s=u at hrs
 generalize hv:ρ x=v at hrx
 obtain ⟨i',zz,hi',hiz,hzr,hrep,hrepl⟩:=azero_sound (w:=w) (G:=G) hz
 rw [hi] at hi';cases hi'
 rw [hzc] at hrepl
 obtain ⟨base,cap',news,hvv, _,hrl,hfc,hb⟩:=slice_cells (P:=P) hrx hm (n:=m.length) (Nat.le_refl _)
 rw [List.take_of_length_le (Nat.le_refl _)] at hrl
 have hlen:(flat m).length=m.length*i.size:=flat_length hm
 cases hrs
 rename_i hkn hl hmxc
 obtain ⟨vs,e',hw,hsz,hvr⟩:=hh.blk k _ hk
 have holdl:(vs.toList.take (ln*i.size)).length=ln*i.size:=by simp;omega
 have hrold:RepL w G (cs.take (ln*i.size)) (vs.toList.take (ln*i.size)):=by
  refine ⟨by rw [holdl,List.length_take];omega,fun q hq=>?_⟩
  rw [List.length_take] at hq
  have:=hvr q (by omega)
  simp only [List.getD_eq_getElem?_getD,List.getElem?_take_of_lt (show q<ln*i.size by omega),Array.getElem?_toList]
  simp only [List.getD_eq_getElem?_getD,Array.getD_eq_getD_getElem?] at this
  exact this
 cases hrx with
 | nilSlice=>simp at hm0
 | emptySlice=>simp at hm0
 | slice _ _ b2 o2 cap2 sz2 g hcap2 hmax2 hsz2 himm2 hcell2 hone2 hrep2 hcc2=>
  have e2:sz2=i.size:=by
   rw [←hsz2 0 hm0]
   exact hm _ (by rw [List.getD_eq_getElem?_getD,List.getElem?_eq_getElem hm0];exact List.getElem_mem hm0)
  subst e2
  have hnews:=flatV_cells hcell2
  have hnl:=flatV_length i.size m.length g
  have hnn:news=flatV i.size m.length g:=by
   have h1:=run_firstCells_some (P:=P) w i.size m.length ⟨b2,o2,none⟩ m.length cap2 _ hnl hnews
   rw [h1] at hfc
   simp only [Result.ok.injEq] at hfc
   have:=congrArg Array.toList hfc.1
   simpa using this.symm
  have hr':=run_append_grow (P:=P) w t ty e i zz he hi hiz ⟨G.blk k,0,none⟩ ln cap (vs.toList.take (ln*i.size)) holdl (fun j u hj=>by
   have hjl:j<ln*i.size:=by have:=(List.getElem?_eq_some_iff.1 hj).1;omega
   rw [Addr.add_lit,cell_of_row w _ _ vs e' _ hw]
   rw [List.getElem?_take_of_lt hjl] at hj
   simpa using hj) ⟨b2,o2,none⟩ m.length cap2 _ hnl hnews hgr (by omega) (growslice_fits (by omega) hbytes)
  have hrun:∀(z':Value) (w':World),(Builtin.append_ #[t,t] ty #[.slice (some ⟨G.blk k,0,none⟩) ln cap,.slice (some ⟨b2,o2,none⟩) m.length cap2]).run P w=.ok z' w'→(execOp ρ ⟨dst,.call { callee:=.builtin .append,args := #[s,x],argTypes := #[t,t] },ty,pos,after,guard⟩).run P w=.ok (.value z') w':=fun z' w' hz'=>by
   simp [execOp,resolve,invoke,builtin,hu,hv,hz']
  rw [hrun _ _ hr',←hnn]
  have hge:=grownCap_ge w (ln+m.length) cap e
  have hcm:=grownCap_le_maxLen w (ln+m.length) cap e (by unfold maxLen;omega)
  generalize grownCap w (ln+m.length) cap e=c' at hge hcm ⊢
  obtain ⟨hd,hed⟩:=hh.drewn
  have hzs:zz.cells.size=z.length:=by have:=hrepl.1;simpa using this
  have hrz:RepL w G (rep (c' - (ln+m.length)) z) (madeCells zz.cells ((c' - (ln+m.length))*z.length)).toList:=madeCells_rep hrepl (by omega) (c' - (ln+m.length))
  have hcat:∀ {a b:List AV} {x y:List Value},RepL w G a x→RepL w G b y→RepL w G (a++b) (x++y):=fun {a b x y} h1 h2=>by
   refine ⟨by rw [List.length_append,List.length_append,h1.1,h2.1],fun q hq=>?_⟩
   rw [getD_append',getD_append',h1.1]
   split
   · rename_i hq1;exact h1.2 q hq1
   · rename_i hq1;exact h2.2 (q - a.length) (by rw [List.length_append] at hq;omega)
  have hall0:=hcat (hcat hrold hrl) hrz
  have hall:RepL w.drew G (cs.take (ln*i.size)++flat m++rep (c' - (ln+m.length)) z) (vs.toList.take (ln*i.size)++news++(madeCells zz.cells ((c' - (ln+m.length))*z.length)).toList):=
   ⟨hall0.1,fun q hq=>⟨(hall0.2 q hq).1,hed.rep (hall0.2 q hq).2⟩⟩
  obtain ⟨G',hh',hev,hn,hbk⟩:=hd.push (cs.take (ln*i.size)++flat m++rep (c' - (ln+m.length)) z) _ e hall
  have ec:(vs.toList.take (ln*i.size)).toArray++news.toArray++Builtin.zeroCells zz.cells (c' - (ln+m.length))=(vs.toList.take (ln*i.size)++news++(madeCells zz.cells ((c' - (ln+m.length))*z.length)).toList).toArray:=by
   rw [←hzs]
   simp [Builtin.zeroCells,madeCells]
  rw [ec]
  refine ⟨_, _, _,G',hK c' hge,?_,hh',hed.trans hev⟩
  have:=Rep.bsl (w:=w.drew.alloc (.cells (vs.toList.take (ln*i.size)++news++(madeCells zz.cells ((c' - (ln+m.length))*z.length)).toList).toArray e)) (G:=G') h.length 0 i.size ag (ln+m.length) c' (by rw [hn,hh.len];exact Nat.lt_succ_self _) hge hcm
  rw [hh.len,hbk] at this
  rw [hh.len]
  exact this
theorem AOp.appendE (s x:Operand) (t:TypeId) (ho:o.op=.call { callee:=.builtin .append,args := #[s,x],argTypes := #[t,t] }) {sz by_:Nat} {z:List AV} {ag:Bool} (ht:makeT P t=some (sz,by_,z,ag)) (ht2:sliceSz P t=some sz)
 {k ln cap:Nat} (hs:ev fr s=.bsl k 0 sz ag ln cap) {m:List AV} {c2:Cap} (hx:ev fr x=.slice m c2) (hm0:0<m.length) (hm:∀y∈m,y.cells.length=sz) {cs r:List AV} (hk:h[k]? = some (.cells (cs++r))) (hcs:cs.length=ln*sz) (hr:r.length=(cap - ln)*sz) (hlc:ln≤cap) (hzl:z.length=sz)
 (hbytes:(ln+m.length)*by_≤140737488355328) (hmx:ln+m.length≤140737488355328)
 (hK:∀k' cap' h' r',h'[k']? = some (.cells (cs++flat m++r'))→r'.length=(cap' - (ln+m.length))*sz→ln+m.length≤cap'→(∀n,AV.clL n r→AV.clL n z→AV.clL n r')→(∀i,i<h.length→i≠k'→h'[i]? = h[i]?)→h.length≤h'.length→((k'=k∧h'.length=h.length)∨(k'=h.length∧h'.length=h.length+1))→K (.bsl k' 0 sz ag (ln+m.length) cap') h' live):AOp P fr h live o K:=by
 have hfl:(flat m).length=m.length*sz:=flat_length hm
 by_cases hroom:ln+m.length≤cap
 ·
  have hle:m.length*sz≤r.length:=by rw [hr];exact Nat.mul_le_mul_right _ (by omega)
  refine AOp.appendB s x t ho ht2 hs hx hk hm hroom (by rw [List.length_append,hcs,Nat.add_mul];omega) ?_
  have hp:putAt (cs++r) (ln*sz) (flat m)=cs++flat m++r.drop (m.length*sz):=by
   rw [putAt_eq _ _ _ (by rw [List.length_append,hfl];omega),←hcs,List.take_left,hfl,List.drop_append]
   simp [List.append_assoc]
  rw [hp]
  have hkl:=(List.getElem?_eq_some_iff.1 hk).1
  refine hK k cap _ (r.drop (m.length*sz)) (by simp [hkl]) (by rw [List.length_drop,hr,←Nat.sub_mul];congr 1;omega) hroom (fun n h1 _=>?_) (fun i _ h2=>List.getElem?_set_ne (Ne.symm h2)) (by rw [List.length_set];exact Nat.le_refl _) (.inl ⟨rfl,List.length_set ..⟩)
  rw [AV.clL_mem] at h1 ⊢
  exact fun x hx=>h1 x (List.mem_of_mem_drop hx)
 ·
  refine AOp.appendG s x t ho ht hs hx hm0 hm hk (by rw [List.length_append,hcs];omega) (by omega) hbytes hmx fun cap' hc'=>?_
  rw [show (cs++r).take (ln*sz)=cs by rw [←hcs,List.take_left]]
  refine hK h.length cap' _ (rep (cap' - (ln+m.length)) z) (by rw [List.getElem?_append_right (Nat.le_refl _),Nat.sub_self];rfl) (by rw [rep_length,hzl]) hc' (fun n _ h2=>?_) (fun i h1 _=>List.getElem?_append_left h1) (by simp) (.inr ⟨rfl,by simp⟩)
  rw [AV.clL_mem];intro x hx
  obtain ⟨q, _,rfl⟩:=List.mem_map.1 hx
  by_cases hq:q%z.length<z.length
  · exact (AV.clL_iff n z).1 h2 _ hq
  · rw [List.getD_eq_getElem?_getD,List.getElem?_eq_none (by omega)];trivial
theorem awp_seqG {x y:Code} {Q:Exit→AS→Prop} {S:AS} {X:Type} (I:X→AS) (h1:AwpC P x (thenQ (fun S'=>∃a,Trunc S' (I a)∧S.h.length≤(I a).h.length) Q) S) (h2:∀a,AwpC P y Q (I a)):AwpC P (.seq x y) Q S:=by
 refine awp_seq ?_
 intro w G a hs
 refine wp_mono (h1 w G a hs) fun e a' w' q=>?_
 obtain ⟨G',S',q,hs',hev⟩:=q
 cases e with
 | normal=>
  obtain ⟨b,ht,hl⟩:=q
  obtain ⟨k1,k2⟩:=hs'.trunc ht hev (by rw [←hs.heap.len];exact hl)
  exact ⟨_,I b,h2 b,k1,k2⟩
 | _=>exact ⟨G',S',q,hs',hev⟩
end
end Go.Ab
