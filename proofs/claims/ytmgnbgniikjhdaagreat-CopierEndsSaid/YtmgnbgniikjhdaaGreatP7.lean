import Derived.Test.YtmgnbgniikjhdaaGreatP6
/-
  CALLS: where a path leads, a name is right; what changes leave, is right.
-/
set_option linter.unusedVariables false
set_option linter.unusedSimpArgs false
namespace Go.Proofs.YtmgnbgniikjhdaaGreat
open Go.Ab
set_option maxRecDepth 8000
set_option maxHeartbeats 400000
structure TreeI (T:Tab) (m:Nat):Prop where
 pos:1≤m
 used:∀i:Int,(T.get i).2=true↔(1≤i∧i≤m)
 kid:∀(d:Int) (e:En),e∈(T.get d).1.ents→1≤e.2∧e.2≤m∧((T.get e.2).1.kind=2→d<e.2)
 one:∀(d d':Int) (e e':En),e∈(T.get d).1.ents→e'∈(T.get d').1.ents→e.2=e'.2→(T.get e.2).1.kind=2→d=d'∧e=e'
 par:∀i:Int,2≤i→i≤m→∃(d:Int) (e:En),e∈(T.get d).1.ents∧e.2=i∧d<i
 root:(T.get 1).1.kind=2
theorem get_put {T:Tab} (hT:T.Ok) {n:Nd} (hn:NdOk n) (hk:n.kind≠0) {j:Nat} (hj:(j:Int)+1≤T.room) (i:Int):(T.put j n).get i=if i=(j:Int)+1 then (n,true) else T.get i:=by
 have h1:=hT.len
 have h2:=hT.hi
 rw [get_eq (put_ok hT hn hk j),get_eq hT]
 show (if 1≤i∧i≤T.room then ((T.ns.set j n).getD (i - 1).toNat nd0,!decide (((T.ns.set j n).getD (i - 1).toNat nd0).kind=0)) else (nd0,false))=_
 by_cases h:i=(j:Int)+1
 ·
  subst h
  have e:(T.ns.set j n).getD ((j:Int)+1 - 1).toNat nd0=n:=by
   rw [show ((j:Int)+1 - 1).toNat=j by omega,List.getD_eq_getElem?_getD,List.getElem?_set_self (by omega)];rfl
  rw [if_pos ⟨by omega,hj⟩,if_pos rfl,e,decide_eq_false hk];rfl
 ·
  rw [if_neg h]
  by_cases hc:1≤i∧i≤T.room
  ·
   have e:(T.ns.set j n).getD (i - 1).toNat nd0=T.ns.getD (i - 1).toNat nd0:=by
    rw [List.getD_eq_getElem?_getD,List.getElem?_set_ne (by omega),List.getD_eq_getElem?_getD]
   rw [if_pos hc,if_pos hc,e]
  · rw [if_neg hc,if_neg hc]
theorem mem_insF {l:List En} {s:List UInt8} {id:Int} {e:En}:e∈insF l s id↔e=(s,id)∨e∈l:=by
 unfold insF
 rw [List.mem_append,List.mem_append,List.mem_singleton]
 constructor
 ·
  rintro (h | h | h)
  · exact .inr (List.mem_of_mem_take h)
  · exact .inl h
  · exact .inr (List.mem_of_mem_drop h)
 ·
  rintro (h | h)
  · exact .inr (.inl h)
  ·
   rw [←List.take_append_drop (spot l s) l,List.mem_append] at h
   exact h.elim .inl (fun h=>.inr (.inr h))
theorem ents_is {T:Tab} {d:Int} {e:En} (h:e∈(T.get d).1.ents):(T.get d).2=true:=by
 cases ha:T.at d with
 | none=>rw [get_no ha] at h;exact absurd h (by simp [nd0])
 | some j=>rw [get_at ha]
theorem withN_zero {n:Nd} {s:List UInt8} {id:Int} (h:(withN n s id).2=0):(withN n s id).1=nWith n (insF n.ents s id):=by
 unfold withN at h ⊢
 split
 · rename_i h1;rw [if_pos h1] at h;cases h
 ·
  rename_i h1
  rw [if_neg h1] at h
  cases hb:badN s id with
  | true=>rw [hb] at h;cases h
  | false=>
   rw [hb,cond_false] at h
   rw [cond_false]
   split
   · rename_i h2;rw [if_pos h2] at h;cases h
   ·
    rename_i h2
    rw [if_neg h2] at h
    split
    · rename_i h3;rw [if_pos h3] at h;cases h
    ·
     rename_i h3
     rw [if_neg h3] at h
     split
     · rename_i h4;rw [if_pos h4] at h;cases h
     · rfl
theorem at_room {T:Tab} {i:Int} {j:Nat} (h:T.at i=some j):j=(i - 1).toNat∧1≤i∧i≤T.room:=by
 unfold Tab.at at h
 split at h
 · rename_i hc;cases h;exact ⟨rfl,hc.1,hc.2.1⟩
 · cases h
theorem idxP_spec {α:Type} (p:α→Bool) (d:α):∀l:List α,(idxP p l<0∧∀j,j<l.length→p (l.getD j d)=false)∨(∃k:Nat,idxP p l=k∧k<l.length∧p (l.getD k d)=true)
 | []=>.inl ⟨by show (-1:Int)<0;decide,fun j hj=>by simp at hj⟩
 | x::l=>by
  by_cases hx:p x=true
  · exact .inr ⟨0,by simp [idxP,hx],by simp,by simpa using hx⟩
  ·
   have hx':p x=false:=by simpa using hx
   rcases idxP_spec p d l with ⟨h1,h2⟩ | ⟨k,h1,h2,h3⟩
   ·
    left
    refine ⟨by simp [idxP,hx',h1],fun j hj=>?_⟩
    cases j with
    | zero=>simpa using hx'
    | succ j=>simpa using h2 j (by simpa using hj)
   ·
    right
    refine ⟨k+1,?_,by simpa using h2,by simpa using h3⟩
    simp only [idxP,hx',cond_false,h1]
    rw [decide_eq_false (by omega)];simp
theorem idxP_first {α:Type} (p:α→Bool) (d:α):∀(l:List α) {k:Nat},idxP p l=k→∀j,j<k→p (l.getD j d)=false
 | [],k,h,j,hj=>by
  have:(-1:Int)=k:=h
  omega
 | x::l,k,h,j,hj=>by
  by_cases hx:p x=true
  ·
   have:idxP p (x::l)=0:=by simp [idxP,hx]
   omega
  ·
   have hx':p x=false:=by simpa using hx
   cases j with
   | zero=>simpa using hx'
   | succ j=>
    have:=idxP_range p l
    have e:idxP p (x::l)=if idxP p l<0 then -1 else idxP p l+1:=by
     simp only [idxP,hx',cond_false]
     by_cases h0:idxP p l<0
     · rw [if_pos h0];simp [decide_eq_true h0];try omega
     · rw [if_neg h0];simp [decide_eq_false h0]
    rw [e] at h
    split at h
    · omega
    · simpa using idxP_first p d l (k:=k - 1) (by omega) j (by omega)
theorem flSt_47 (s:List UInt8):∀i,(∀p∈(flSt s i).2,∀j,p.1≤j→j<p.2→s.getD j 0≠47)∧(0≤(flSt s i).1→∀j,(flSt s i).1.toNat≤j→j<i→s.getD j 0≠47)
 | 0=>⟨fun p hp=>by simp [flSt] at hp,fun h=>absurd (show (0:Int) ≤ -1 from h) (by decide)⟩
 | i+1=>by
  obtain ⟨h1,h2⟩:=flSt_47 s i
  by_cases hs:s.getD i 0=47
  ·
   rw [flSt_slash hs]
   by_cases h0:0≤(flSt s i).1
   ·
    rw [if_pos h0]
    refine ⟨fun p hp=>?_,fun h=>by dsimp only at h;omega⟩
    rcases List.mem_append.1 hp with hp | hp
    · exact h1 p hp
    · rw [List.mem_singleton.1 hp];exact h2 h0
   ·
    rw [if_neg h0]
    exact ⟨h1,fun h=>absurd h h0⟩
  ·
   rw [flSt_no hs]
   by_cases h0:(flSt s i).1<0
   ·
    rw [if_pos h0]
    refine ⟨h1,fun _ j ha hb=>?_⟩
    dsimp only at ha
    rw [show j=i by omega];exact hs
   ·
    rw [if_neg h0]
    refine ⟨h1,fun h j ha hb=>?_⟩
    by_cases e:j=i
    · rw [e];exact hs
    · exact h2 h j ha (by omega)
theorem namesF_mem {s x:List UInt8} (hx:x∈namesF s):x≠[]∧∀b∈x,b∈s∧b≠47:=by
 obtain ⟨p,hp,rfl⟩:=List.mem_map.1 hx
 obtain ⟨h1,h2⟩:=(spansF_bd s).1 p hp
 obtain ⟨k1,k2⟩:=flSt_47 s s.length
 have hno:∀j,p.1≤j→j<p.2→s.getD j 0≠47:=by
  unfold spansF at hp
  split at hp
  ·
   rename_i h0
   rcases List.mem_append.1 hp with hp | hp
   · exact k1 p hp
   · rw [List.mem_singleton.1 hp];exact k2 h0
  · exact k1 p hp
 refine ⟨fun e=>?_,fun b hb=>?_⟩
 ·
  have:=congrArg List.length e
  rw [List.length_take,List.length_drop,List.length_nil] at this
  omega
 ·
  obtain ⟨j,hj,rfl⟩:=List.mem_iff_getElem.1 hb
  have hj':=hj
  rw [List.length_take,List.length_drop] at hj'
  rw [List.getElem_take,List.getElem_drop]
  refine ⟨List.getElem_mem _,?_⟩
  have:=hno (p.1+j) (by omega) (by omega)
  rw [List.getD_eq_getElem?_getD,List.getElem?_eq_getElem (by omega)] at this
  exact this
theorem splitL_mem {s x:List UInt8} (hx:x∈splitL s):x=[46]∨(x≠[]∧∀b∈x,b∈s∧b≠47):=by
 unfold splitL at hx
 cases hc:(decide ((0:Int)<(namesF s).length)&&sufF s) with
 | true=>
  rw [hc,cond_true] at hx
  rcases List.mem_append.1 hx with h | h
  · exact .inr (namesF_mem h)
  · exact .inl (List.mem_singleton.1 h)
 | false=>rw [hc,cond_false] at hx;exact .inr (namesF_mem hx)
def NmOk (x:List UInt8):Prop:=x≠[]∧x.any sl0=false
theorem ib_none:∀ {s:List UInt8},Lib.indexByte s 0<0→∀b∈s,b≠0
 | b::l,h,c,hc=>by
  unfold Lib.indexByte at h
  by_cases hb:(b==0)=true
  · rw [if_pos hb] at h;omega
  ·
   rw [if_neg hb] at h
   rcases List.mem_cons.1 hc with rfl | hc
   · intro e;exact hb (by rw [e];rfl)
   ·
    refine ib_none ?_ c hc
    have:=Lib.indexByte_ge l 0
    by_cases h1:(Lib.indexByte l 0 == -1)=true
    · rw [beq_iff_eq] at h1;omega
    · rw [if_neg h1] at h;omega
theorem splitL_ok {s x:List UInt8} (hs:∀b∈s,b≠0) (hx:x∈splitL s):NmOk x:=by
 rcases splitL_mem hx with rfl | ⟨h1,h2⟩
 · exact ⟨by decide,by decide⟩
 ·
  refine ⟨h1,List.any_eq_false.2 fun b hb=>?_⟩
  obtain ⟨h3,h4⟩:=h2 b hb
  simp [sl0,h4,hs b h3]
theorem right_cases {n:Nd} (h:rightF n=true):(decide (n.mode<0)||decide (4095<n.mode)||!idB n.uid||!idB n.gid)=false ∧
 ((n.kind=1∧n.ents=[]∧n.target=[]∧n.data.length≤48)∨(n.kind=2∧n.data=[]∧n.target=[]∧risingF n.ents=true)∨(n.kind=3∧n.data=[]∧n.ents=[]∧n.mode=511∧fitsF n.target=true)):=by
 unfold rightF at h
 cases hc:(decide (n.mode<0)||decide (4095<n.mode)||!idB n.uid||!idB n.gid) with
 | true=>rw [hc] at h;cases h
 | false=>
  rw [hc,cond_false] at h
  refine ⟨rfl,?_⟩
  split at h
  ·
   rename_i h1
   simp only [Bool.and_eq_true,decide_eq_true_eq] at h
   exact .inl ⟨h1,List.length_eq_zero_iff.1 (by omega),h.1.2,by omega⟩
  ·
   split at h
   ·
    rename_i h1
    simp only [Bool.and_eq_true,decide_eq_true_eq] at h
    exact .inr (.inl ⟨h1,List.length_eq_zero_iff.1 (by omega),h.1.2,h.2⟩)
   ·
    split at h
    ·
     rename_i h1
     simp only [Bool.and_eq_true,decide_eq_true_eq] at h
     exact .inr (.inr ⟨h1,List.length_eq_zero_iff.1 (by omega),List.length_eq_zero_iff.1 (by omega),h.1.2,h.2⟩)
    · cases h
theorem right_dir {n:Nd} (hk:n.kind=2) (hc:(decide (n.mode<0)||decide (4095<n.mode)||!idB n.uid||!idB n.gid)=false) (hd:n.data=[]) (ht:n.target=[]) (hr:risingF n.ents=true):rightF n=true:=by
 unfold rightF
 rw [hc,cond_false,if_neg (by omega),if_pos hk,hd,ht,hr];rfl
theorem Tab.Rt.kind {T:Tab} (h:T.Rt) {i:Int} (hk:(T.get i).1.kind≠0):rightF (T.get i).1=true:=by
 refine h.get ?_
 cases ha:T.at i with
 | none=>rw [get_no ha] at hk;exact absurd rfl hk
 | some j=>rw [get_at ha]
def NmAt (T:Tab) (r:Int×List UInt8×Int):Prop:=(r.2.1=[]∧r.2.2=r.1)∨((T.get r.1).1.kind=2∧NmOk r.2.1∧r.2.1≠[46]∧r.2.1≠[46,46]∧r.2.1.length≤12∧r.2.2=findF (T.get r.1).1 r.2.1)
theorem resL_nm2 {T:Tab} (hR:T.Rt) (c:Cr) (fl:Bool):∀(n:Nat) (i k:Int) (l:List (List UInt8)),(∀x∈l,NmOk x)→(resL T c fl n i k l).2=0→NmAt T (resL T c fl n i k l).1
 | 0,i,k,l, _, _=>.inl ⟨rfl,rfl⟩
 | n+1,i,k,[], _, _=>.inl ⟨rfl,rfl⟩
 | n+1,i,k,s::l,hl,hz=>by
  have hls:∀x∈l,NmOk x:=fun x hx=>hl x (List.mem_cons_of_mem _ hx)
  rw [resL_cons] at hz ⊢
  split
  · rename_i h1;rw [if_pos h1] at hz;cases hz
  rename_i h1
  rw [if_neg h1] at hz
  split
  · rename_i h2;rw [if_pos h2] at hz;cases hz
  rename_i h2
  rw [if_neg h2] at hz
  split
  · rename_i h3;rw [if_pos h3] at hz;exact resL_nm2 hR c fl n _ _ l hls hz
  rename_i h3
  rw [if_neg h3] at hz
  split
  · rename_i h4;rw [if_pos h4] at hz;exact resL_nm2 hR c fl n _ _ l hls hz
  rename_i h4
  rw [if_neg h4] at hz
  split
  · rename_i h5;rw [if_pos h5] at hz;cases hz
  rename_i h5
  rw [if_neg h5] at hz
  split
  · rename_i h6;rw [if_pos h6] at hz;cases hz
  rename_i h6
  rw [if_neg h6] at hz
  split
  ·
   rename_i h7
   rw [if_pos h7] at hz
   split
   · rename_i h8;rw [if_pos h8] at hz;cases hz
   ·
    rename_i h8
    rw [if_neg h8] at hz
    refine resL_nm2 hR c fl n _ _ _ (fun x hx=>?_) hz
    rcases List.mem_append.1 hx with hx | hx
    ·
     refine splitL_ok ?_ hx
     rcases right_cases (hR.kind (by rw [h7.1];decide)) with ⟨_,h | h | h⟩
     · rw [h.1] at h7;exact absurd h7.1 (by decide)
     · rw [h.1] at h7;exact absurd h7.1 (by decide)
     ·
      have:=h.2.2.2.2
      simp only [fitsF,Bool.and_eq_true,decide_eq_true_eq] at this
      exact ib_none this.2
    · exact hls x hx
  rename_i h7
  rw [if_neg h7] at hz
  split
  · exact .inr ⟨Classical.not_not.1 h1,hl s List.mem_cons_self,h3,h4,by show s.length≤12;omega,rfl⟩
  ·
   rename_i h8
   rw [if_neg h8] at hz
   exact resL_nm2 hR c fl n _ _ l hls hz
theorem resF_at {T:Tab} (hR:T.Rt) (c:Cr) (p:List UInt8) (fl:Bool) (hz:rE T c p fl=0):NmAt T (rD T c p fl,rS T c p fl,rN T c p fl):=by
 unfold rE rD rS rN at *
 unfold resF at hz ⊢
 split
 · rename_i h;rw [if_pos h] at hz;exact absurd hz h
 ·
  rename_i h
  rw [if_neg h] at hz
  refine resL_nm2 hR c fl 1000 1 0 _ (fun x hx=>splitL_ok (ib_none ?_) hx) hz
  have h0:=Classical.not_not.1 h
  unfold fitE at h0
  split at h0
  · cases h0
  ·
   split at h0
   · cases h0
   ·
    split at h0
    · cases h0
    · omega
theorem bl_trans:∀x y z:List UInt8,Op.bytesLess x y=true→Op.bytesLess y z=true→Op.bytesLess x z=true
 | x,[],z,h, _=>by cases x<;>cases h
 | _, _::_,[], _,h=>by cases h
 | [], _::_, _::_, _, _=>rfl
 | a::x,b::y,c::z,h1,h2=>by
  simp only [Op.bytesLess,Bool.or_eq_true,Bool.and_eq_true,decide_eq_true_eq,beq_iff_eq] at h1 h2 ⊢
  rcases h1 with h1 | ⟨rfl,h1⟩
  ·
   rcases h2 with h2 | ⟨rfl,h2⟩
   · exact .inl (UInt8.lt_trans h1 h2)
   · exact .inl h1
  ·
   rcases h2 with h2 | ⟨rfl,h2⟩
   · exact .inl h2
   · exact .inr ⟨rfl,bl_trans x y z h1 h2⟩
theorem bl_tri:∀x y:List UInt8,Op.bytesLess x y=false→x≠y→Op.bytesLess y x=true
 | [],[], _,h=>absurd rfl h
 | [], _::_,h, _=>by cases h
 | _::_,[], _, _=>rfl
 | a::x,b::y,h,hn=>by
  simp only [Op.bytesLess,Bool.or_eq_false_iff,decide_eq_false_iff_not] at h
  simp only [Op.bytesLess,Bool.or_eq_true,Bool.and_eq_true,decide_eq_true_eq,beq_iff_eq]
  by_cases e:a=b
  ·
   subst e
   refine .inr ⟨rfl,bl_tri x y ?_ fun e=>hn (by rw [e])⟩
   have:=h.2
   simpa using this
  ·
   left
   have h1:=h.1
   rw [UInt8.lt_iff_toNat_lt] at h1 ⊢
   have:a.toNat≠b.toNat:=fun h=>e (UInt8.toNat_inj.1 h)
   omega
abbrev RisP (l:List En):Prop:=l.Pairwise fun a b=>Op.bytesLess a.1 b.1=true
theorem rising_iff (l:List En):risingF l=true↔(∀e∈l,nameF e.1=true∧1≤e.2)∧RisP l∧l.length≤8:=by
 unfold risingF
 rw [Bool.and_eq_true,Bool.not_eq_true',decide_eq_true_eq,List.any_eq_false]
 have hg:∀i (hi:i<l.length),l.getD i ([],0)=l[i]:=fun i hi=>by rw [List.getD_eq_getElem?_getD,List.getElem?_eq_getElem hi];rfl
 constructor
 ·
  rintro ⟨h1,h2⟩
  have hb:∀i (hi:i<l.length),nameF l[i].1=true∧1≤l[i].2∧∀h0:0<i,Op.bytesLess (l[i - 1]'(by omega)).1 l[i].1=true:=fun i hi=>by
   have:=h1 i (List.mem_range.2 hi)
   unfold badE at this
   rw [hg i hi] at this
   simp only [Bool.not_eq_true,Bool.or_eq_false_iff,Bool.not_eq_false',decide_eq_false_iff_not] at this
   refine ⟨this.1.1,by omega,fun h0=>?_⟩
   have h3:=this.2
   rw [show ((i:Int) - 1).toNat=i - 1 by omega,hg (i - 1) (by omega),decide_eq_true (by omega),Bool.true_and,Bool.not_eq_false'] at h3
   exact h3
  refine ⟨fun e he=>?_,?_,by omega⟩
  ·
   obtain ⟨i,hi,rfl⟩:=List.mem_iff_getElem.1 he
   exact ⟨(hb i hi).1,(hb i hi).2.1⟩
  ·
   rw [RisP,List.pairwise_iff_getElem]
   intro i j hi hj hij
   induction j with
   | zero=>omega
   | succ j ih=>
    have hs:=(hb (j+1) hj).2.2 (by omega)
    simp only [Nat.add_sub_cancel] at hs
    by_cases e:i=j
    · subst e;exact hs
    · exact bl_trans _ _ _ (ih (by omega) (by omega)) hs
 ·
  rintro ⟨h1,h2,h3⟩
  refine ⟨fun i hi=>?_,by omega⟩
  have hi:=List.mem_range.1 hi
  obtain ⟨k1,k2⟩:=h1 _ (List.getElem_mem hi)
  unfold badE
  rw [hg i hi,k1,decide_eq_false (by omega)]
  by_cases h0:0<i
  · rw [show ((i:Int) - 1).toNat=i - 1 by omega,hg (i - 1) (by omega),(List.pairwise_iff_getElem.1 h2) (i - 1) i (by omega) hi (by omega)];simp
  · rw [decide_eq_false (by omega)];simp
theorem nm_name {s:List UInt8} (h:NmOk s) (h1:s≠[46]) (h2:s≠[46,46]) (h3:s.length≤12):nameF s=true:=by
 unfold nameF
 rw [decide_eq_false h.1,decide_eq_false h1,decide_eq_false h2,h.2,decide_eq_true (show ((s.length:Int)≤12) by omega)];rfl
theorem idx_none {s:List UInt8} {l:List En} (h:idxP (eqS s) l<0):∀e∈l,e.1≠s:=by
 intro e he
 obtain ⟨j,hj,rfl⟩:=List.mem_iff_getElem.1 he
 rcases idxP_spec (eqS s) ([],0) l with ⟨_,h2⟩ | ⟨k,h1, _⟩
 ·
  have:=h2 j hj
  rw [List.getD_eq_getElem?_getD,List.getElem?_eq_getElem hj] at this
  simpa [eqS] using this
 · omega
theorem spot_spec (l:List En) (s:List UInt8) (hn:∀e∈l,e.1≠s) (hr:RisP l):(∀e∈l.take (spot l s),Op.bytesLess e.1 s=true)∧∀e∈l.drop (spot l s),Op.bytesLess s e.1=true:=by
 have hlt:∀e∈l,gtS s e=false→Op.bytesLess e.1 s=true:=fun e he h=>by
  unfold gtS at h
  rw [Bool.not_eq_false',Bool.or_eq_true,decide_eq_true_eq] at h
  exact h.elim id fun h=>absurd h (hn e he)
 have hgt:∀e∈l,gtS s e=true→Op.bytesLess s e.1=true:=fun e he h=>by
  unfold gtS at h
  rw [Bool.not_eq_true',Bool.or_eq_false_iff,decide_eq_false_iff_not] at h
  exact bl_tri _ _ h.1 h.2
 rcases idxP_spec (gtS s) ([],0) l with ⟨h1,h2⟩ | ⟨k,h1,h2,h3⟩
 ·
  rw [spot_neg h1,List.take_length,List.drop_length]
  refine ⟨fun e he=>hlt e he ?_,fun e he=>nomatch he⟩
  obtain ⟨j,hj,rfl⟩:=List.mem_iff_getElem.1 he
  have:=h2 j hj
  rwa [List.getD_eq_getElem?_getD,List.getElem?_eq_getElem hj] at this
 ·
  have hs:spot l s=k:=by
   unfold spot;rw [if_neg (by omega),h1];rfl
  rw [hs]
  rw [List.getD_eq_getElem?_getD,List.getElem?_eq_getElem h2] at h3
  have hk:Op.bytesLess s l[k].1=true:=hgt _ (List.getElem_mem h2) h3
  constructor
  ·
   intro e he
   obtain ⟨j,hj,rfl⟩:=List.mem_iff_getElem.1 he
   rw [List.length_take] at hj
   rw [List.getElem_take]
   refine hlt _ (List.getElem_mem _) ?_
   have:=idxP_first (gtS s) ([],0) l h1 j (by omega)
   rwa [List.getD_eq_getElem?_getD,List.getElem?_eq_getElem (by omega)] at this
  ·
   intro e he
   obtain ⟨j,hj,rfl⟩:=List.mem_iff_getElem.1 he
   rw [List.length_drop] at hj
   rw [List.getElem_drop]
   cases j with
   | zero=>exact hk
   | succ j=>exact bl_trans _ _ _ hk ((List.pairwise_iff_getElem.1 hr) k (k+(j+1)) h2 (by omega) (by omega))
theorem ins_rising {l:List En} {s:List UInt8} {id:Int} (h:risingF l=true) (hs:nameF s=true) (hid:1≤id) (hn:∀e∈l,e.1≠s) (hl:l.length<8):risingF (insF l s id)=true:=by
 obtain ⟨h1,h2,h3⟩:=(rising_iff l).1 h
 obtain ⟨k1,k2⟩:=spot_spec l s hn h2
 refine (rising_iff _).2 ⟨fun e he=>?_,?_,?_⟩
 ·
  rcases mem_insF.1 he with rfl | he
  · exact ⟨hs,hid⟩
  · exact h1 e he
 ·
  unfold insF
  rw [RisP,List.pairwise_append]
  refine ⟨h2.sublist (List.take_sublist _ _),?_,fun a ha b hb=>?_⟩
  ·
   rw [List.singleton_append,List.pairwise_cons]
   exact ⟨fun e he=>k2 e he,h2.sublist (List.drop_sublist _ _)⟩
  ·
   rcases List.mem_cons.1 hb with rfl | hb
   · exact k1 a ha
   · exact bl_trans _ _ _ (k1 a ha) (k2 b hb)
 ·
  unfold insF
  have:=spot_le l s
  rw [List.length_append,List.length_append,List.length_take,List.length_drop,List.length_singleton];omega
theorem withN_right {n:Nd} {s:List UInt8} {id:Int} (h:rightF n=true) (hz:(withN n s id).2=0):rightF (withN n s id).1=true:=by
 have hw:=hz
 unfold withN at hw
 split at hw
 · cases hw
 rename_i hk
 cases hb:badN s id with
 | true=>rw [hb] at hw;cases hw
 | false=>
  rw [hb,cond_false] at hw
  split at hw
  · cases hw
  rename_i h12
  split at hw
  · cases hw
  rename_i hix
  split at hw
  · cases hw
  rename_i h8
  rw [withN_zero hz]
  have hk2:n.kind=2:=Classical.not_not.1 hk
  obtain ⟨hc,hh⟩:=right_cases h
  rcases hh with hh | hh | hh
  · omega
  ·
   simp only [badN,Bool.or_eq_false_iff,decide_eq_false_iff_not] at hb
   exact right_dir hk2 hc hh.2.1 hh.2.2.1 (ins_rising hh.2.2.2 (nm_name ⟨hb.1.1.1.2,hb.2⟩ hb.1.1.2 hb.1.2 (by omega)) (by omega) (idx_none (by omega)) (by omega))
  · omega
end Go.Proofs.YtmgnbgniikjhdaaGreat
namespace Go.Proofs.YtmgnbgniikjhdaaGreat
open Go.Ab
set_option maxRecDepth 8000
set_option maxHeartbeats 400000
theorem free_spec {T:Tab} (hT:T.Ok) {i:Nat} (h:T.free=some i):(i:Int)+1≤T.room∧T.at ((i:Int)+1)=none∧T.ns.getD i nd0=nd0:=by
 unfold Tab.free at h
 obtain ⟨h1,l1,l2,h2, _⟩:=List.find?_eq_some_iff_append.1 h
 have hmem:i∈List.range T.room.toNat:=by rw [h2];simp
 have hlt:=List.mem_range.1 hmem
 have ha:T.at ((i:Int)+1)=none:=by simpa using h1
 refine ⟨by omega,ha,?_⟩
 unfold Tab.at at ha
 split at ha
 · cases ha
 ·
  rename_i hc
  rw [show ((i:Int)+1 - 1).toNat=i by omega] at hc
  have hk:(T.ns.getD i nd0).kind=0:=Classical.not_not.1 fun hk=>hc ⟨by omega,by omega,hk⟩
  have hl:=hT.len
  have hr:=hT.hi
  have hi:i<T.ns.length:=by omega
  rw [List.getD_eq_getElem?_getD,List.getElem?_eq_getElem hi] at hk ⊢
  exact hT.zero _ (List.getElem_mem hi) hk
theorem addT_bad {T:Tab} {n:Nd} (h:(addT T n).1.2≠0):(addT T n).2=T:=by
 unfold addT at h ⊢
 split
 · rfl
 ·
  rename_i hr
  rw [if_neg hr] at h
  split
  · rename_i i hf;rw [hf] at h;exact absurd rfl h
  · rfl
theorem addT_good {T:Tab} {n:Nd} (h:(addT T n).1.2=0):rightF n=true∧∃i,T.free=some i∧addT T n=(((i:Int)+1,0),T.put i n):=by
 unfold addT at h ⊢
 split
 · rename_i hr;rw [if_pos hr] at h;cases h
 ·
  rename_i hr
  rw [if_neg hr] at h
  refine ⟨by simpa using hr,?_⟩
  split
  · rename_i i hf;exact ⟨i,hf,rfl⟩
  · rename_i hf;rw [hf] at h;cases h
theorem get_isat {T:Tab} {i:Int} (h:(T.get i).2=true):∃j,T.at i=some j∧(j:Int)+1=i∧i≤T.room:=by
 cases ha:T.at i with
 | none=>rw [get_no ha] at h;cases h
 | some j=>
  obtain ⟨h1,h2,h3⟩:=at_room ha
  exact ⟨j,rfl,by omega,h3⟩
theorem get_kind_at {T:Tab} {i:Int} (h:(T.get i).1.kind≠0):(T.get i).2=true:=by
 cases ha:T.at i with
 | none=>rw [get_no ha] at h;exact absurd rfl h
 | some j=>rw [get_at ha]
theorem putT_get {T:Tab} (hT:T.Ok) {i:Int} {n:Nd} (hn:NdOk n) (hr:rightF n=true) (h:(T.get i).2=true):(putT T i n).1=0∧∀k,(putT T i n).2.get k=if k=i then (n,true) else T.get k:=by
 obtain ⟨j,ha,hj,hro⟩:=get_isat h
 have e:putT T i n=(0,T.put j n):=by unfold putT;rw [ha];simp only [hr];rfl
 rw [e]
 refine ⟨rfl,fun k=>?_⟩
 rw [get_put hT hn (rightF_kind hr) (by omega),hj]
theorem put_back {T:Tab} (hT:T.Ok) {n:Nd} (hn:NdOk n) (hr:rightF n=true) {i:Nat} (h:T.free=some i):dropT (T.put i n) ((i:Int)+1)=T:=by
 obtain ⟨h1,h2,h3⟩:=free_spec hT h
 have hg:((T.put i n).get ((i:Int)+1)).2=true:=by rw [get_put hT hn (rightF_kind hr) h1,if_pos rfl]
 obtain ⟨j,ha,hj, _⟩:=get_isat hg
 have e:j=i:=by omega
 subst e
 unfold dropT
 rw [ha]
 show (⟨T.room,(T.ns.set j n).set j nd0⟩:Tab)=T
 rw [List.set_set]
 have:T.ns.set j nd0=T.ns:=by
  refine List.ext_getElem (by simp) fun k k1 k2=>?_
  rw [List.getElem_set]
  split
  ·
   rename_i e;subst e
   rw [List.getD_eq_getElem?_getD,List.getElem?_eq_getElem k2] at h3
   exact h3.symm
  · rfl
 rw [this]
theorem add_get {T:Tab} (hT:T.Ok) {n:Nd} (hn:NdOk n) (h:(addT T n).1.2=0):(T.get (addT T n).1.1).2=false∧∀k,(addT T n).2.get k=if k=(addT T n).1.1 then (n,true) else T.get k:=by
 obtain ⟨hr,i,hf,e⟩:=addT_good h
 obtain ⟨h1,h2, _⟩:=free_spec hT hf
 rw [e]
 exact ⟨by show (T.get ((i:Int)+1)).2=false;rw [get_no h2],fun k=>get_put hT hn (rightF_kind hr) h1 k⟩
theorem chgF_bad {T:Tab} {c:Cr} {p:List UInt8} {fl:Bool} {g:Nd→Nd×Int} (h:(chgF T c p fl g).1≠0):(chgF T c p fl g).2=T:=by
 unfold chgF at h ⊢
 split
 · rfl
 ·
  rename_i h1
  rw [if_neg h1] at h
  split
  · rfl
  ·
   rename_i h2
   rw [if_neg h2] at h
   split
   · rfl
   ·
    rename_i h3
    rw [if_neg h3] at h
    unfold putT at h ⊢
    split
    · rfl
    ·
     rename_i j hj
     simp only [hj] at h
     split
     · rfl
     · rename_i hr;rw [if_neg hr] at h;exact absurd rfl h
theorem plantF_bad {T:Tab} (hT:Gd T) {c:Cr} {p:List UInt8} {fl:Bool} {g:Nd→Nd} (hg:∀n,NdOk n→NdOk (g n)) (h:(plantF T c p fl g).1.2≠0):(plantF T c p fl g).2=T:=by
 have hno:NdOk (ownN c (T.get (rD T c p fl)).1 (g (T.get (rD T c p fl)).1)):=ownN_ok (hg _ (hT.nd _))
 have hnm:=resF_nm T c p fl
 unfold plantF at h ⊢
 split
 · rfl
 rename_i h1;rw [if_neg h1] at h
 split
 · rfl
 rename_i h2;rw [if_neg h2] at h
 split
 · rfl
 rename_i h3;rw [if_neg h3] at h
 split
 · rfl
 rename_i h4;rw [if_neg h4] at h
 split
 · rename_i h5;exact addT_bad h5
 rename_i h5;rw [if_neg h5] at h
 have h50:=Classical.not_not.1 h5
 split
 ·
  obtain ⟨hr,i,hf,e⟩:=addT_good h50
  rw [e]
  exact put_back hT.1 hno hr hf
 ·
  rename_i h6;rw [if_neg h6] at h
  exfalso
  have h60:=Classical.not_not.1 h6
  obtain ⟨hf,hga⟩:=add_get hT.1 hno h50
  have hd:(T.get (rD T c p fl)).1.kind≠0:=by
   intro h0
   unfold withN at h60
   rw [if_pos (by rw [h0];decide)] at h60
   cases h60
  have hdi:=get_kind_at hd
  refine h (putT_get (addT_ok hT.1 hno) (withN_ok (hT.nd _) (by omega)) (withN_right (hT.2.kind hd) h60) ?_).1
  rw [hga]
  split
  · rfl
  · exact hdi
def remL (l:List En) (s:List UInt8):List En:=if idxP (eqS s) l<0 then l else l.take (idxP (eqS s) l).toNat++l.drop ((idxP (eqS s) l).toNat+1)
theorem remL_sub (l:List En) (s:List UInt8):(remL l s).Sublist l:=by
 unfold remL
 split
 · exact List.Sublist.refl _
 ·
  have:=(List.Sublist.refl (l.take (idxP (eqS s) l).toNat)).append (List.drop_sublist_drop_left l (Nat.le_succ (idxP (eqS s) l).toNat))
  rwa [List.take_append_drop] at this
theorem remL_len {l:List En} {s:List UInt8} (h:0≤idxP (eqS s) l):(remL l s).length+1=l.length:=by
 have:=idxP_range (eqS s) l
 unfold remL
 rw [if_neg (by omega),List.length_append,List.length_take,List.length_drop];omega
theorem remL_ne {l:List En} {s:List UInt8} (hr:RisP l):∀e∈remL l s,e.1≠s:=by
 intro e he
 unfold remL at he
 split at he
 · rename_i h;exact idx_none h e he
 ·
  rename_i h
  have hrg:=idxP_range (eqS s) l
  rcases idxP_spec (eqS s) ([],0) l with ⟨h1, _⟩ | ⟨k,h1,h2,h3⟩
  · omega
  ·
   rw [h1,Int.toNat_natCast] at he
   rw [List.getD_eq_getElem?_getD,List.getElem?_eq_getElem h2] at h3
   have hks:l[k].1=s:=by simpa [eqS] using h3
   have hp:=List.pairwise_iff_getElem.1 hr
   intro hes
   rcases List.mem_append.1 he with he | he
   ·
    obtain ⟨j,hj,rfl⟩:=List.mem_iff_getElem.1 he
    rw [List.length_take] at hj
    rw [List.getElem_take] at hes
    have:=hp j k (by omega) h2 (by omega)
    rw [hes,hks] at this
    exact absurd (bl_asym _ _ this) (by rw [this];decide)
   ·
    obtain ⟨j,hj,rfl⟩:=List.mem_iff_getElem.1 he
    rw [List.length_drop] at hj
    rw [List.getElem_drop] at hes
    have:=hp k (k+1+j) h2 (by omega) (by omega)
    rw [hes,hks] at this
    exact absurd (bl_asym _ _ this) (by rw [this];decide)
theorem remL_mem {l:List En} {s:List UInt8} {e:En} (he:e∈l) (hn:e.1≠s):e∈remL l s:=by
 unfold remL
 split
 · exact he
 ·
  rcases idxP_spec (eqS s) ([],0) l with ⟨h1, _⟩ | ⟨k,h1,h2,h3⟩
  · omega
  ·
   rw [h1,Int.toNat_natCast]
   rw [List.getD_eq_getElem?_getD,List.getElem?_eq_getElem h2] at h3
   have hks:l[k].1=s:=by simpa [eqS] using h3
   rw [←List.take_append_drop k l,List.mem_append] at he
   rcases he with he | he
   · exact List.mem_append_left _ he
   ·
    rw [List.drop_eq_getElem_cons h2,List.mem_cons] at he
    rcases he with rfl | he
    · exact absurd hks hn
    · exact List.mem_append_right _ he
theorem risP_of {n:Nd} (h:rightF n=true):RisP n.ents∧n.ents.length≤8∧∀e∈n.ents,nameF e.1=true∧1≤e.2:=by
 obtain ⟨_,h | h | h⟩:=right_cases h
 · rw [h.2.1];exact ⟨List.Pairwise.nil,by simp,fun e he=>nomatch he⟩
 ·
  obtain ⟨h1,h2,h3⟩:=(rising_iff _).1 h.2.2.2
  exact ⟨h2,h3,h1⟩
 · rw [h.2.2.1];exact ⟨List.Pairwise.nil,by simp,fun e he=>nomatch he⟩
theorem rem_right {n:Nd} (h:rightF n=true) (hk:n.kind=2) (s:List UInt8):rightF (nWith n (remL n.ents s))=true:=by
 obtain ⟨hc,hh⟩:=right_cases h
 obtain ⟨h1,h2,h3⟩:=risP_of h
 rcases hh with hh | hh | hh
 · omega
 ·
  refine right_dir hk hc hh.2.1 hh.2.2.1 ((rising_iff _).2 ⟨fun e he=>h3 e ((remL_sub _ _).subset he),h1.sublist (remL_sub _ _),?_⟩)
  exact Nat.le_trans (remL_sub _ _).length_le h2
 · omega
theorem nWith_self (n:Nd):nWith n n.ents=n:=rfl
theorem cut_get {T:Tab} (hT:Gd T) (d:Int) (s:List UInt8) (k:Int):(cutF T d s).get k=if k=d∧(T.get d).1.kind=2 then (nWith (T.get d).1 (remL (T.get d).1.ents s),true) else T.get k:=by
 unfold cutF
 by_cases hk:(T.get d).1.kind=2
 ·
  have hdi:=get_kind_at (T:=T) (i:=d) (by omega)
  by_cases hi:idxP (eqS s) (T.get d).1.ents<0
  ·
   have e:withoutN (T.get d).1 s=(nd0,2):=by unfold withoutN;rw [if_neg (fun h=>h hk),if_pos hi]
   rw [e,if_neg (by decide)]
   split
   ·
    rename_i h
    rw [h.1]
    have e2:remL (T.get d).1.ents s=(T.get d).1.ents:=by unfold remL;rw [if_pos hi]
    rw [e2,nWith_self,←hdi]
   · rfl
  ·
   have e:withoutN (T.get d).1 s=(nWith (T.get d).1 (remL (T.get d).1.ents s),0):=by unfold withoutN remL;rw [if_neg (fun h=>h hk),if_neg hi,if_neg hi]
   have hno:NdOk (nWith (T.get d).1 (remL (T.get d).1.ents s)):=by
    have:=withoutN_ok (s:=s) (hT.nd d)
    rw [e] at this;exact this
   rw [e,if_pos rfl,(putT_get hT.1 hno (rem_right (hT.2.kind (by omega)) hk s) hdi).2]
   by_cases hkd:k=d
   · rw [if_pos hkd,if_pos ⟨hkd,hk⟩]
   · rw [if_neg hkd,if_neg (fun h=>hkd h.1)]
 ·
  have e:withoutN (T.get d).1 s=(nd0,20):=by unfold withoutN;rw [if_pos hk]
  rw [e,if_neg (by decide),if_neg (fun h=>hk h.2)]
theorem findF_pos {n:Nd} (h:rightF n=true) {s:List UInt8}:(findF n s=0∧idxP (eqS s) n.ents<0)∨(1≤findF n s∧0≤idxP (eqS s) n.ents∧(s,findF n s)∈n.ents):=by
 unfold findF
 rcases idxP_spec (eqS s) ([],0) n.ents with ⟨h1, _⟩ | ⟨k,h1,h2,h3⟩
 · left;rw [if_neg (by omega)];exact ⟨rfl,h1⟩
 ·
  right
  rw [if_pos (by omega),h1,Int.toNat_natCast]
  rw [List.getD_eq_getElem?_getD,List.getElem?_eq_getElem h2] at h3 ⊢
  have hks:n.ents[k].1=s:=by simpa [eqS] using h3
  refine ⟨((risP_of h).2.2 _ (List.getElem_mem h2)).2,by omega,?_⟩
  rw [←hks];exact List.getElem_mem h2
theorem findE_zero {T:Tab} {c:Cr} {p:List UInt8} (h:findE T c p=0):rE T c p false=0∧rN T c p false≠0∧rS T c p false≠[]∧canT c T (rD T c p false) 2=true:=by
 unfold findE at h
 split at h
 · rename_i h1;exact absurd h h1
 rename_i h1
 split at h
 · cases h
 rename_i h2
 split at h
 · cases h
 rename_i h3
 split at h
 · cases h
 rename_i h4
 exact ⟨Classical.not_not.1 h1,h2,h3,by simpa using h4⟩
theorem renL_good {T:Tab} (hT:Gd T) {c:Cr} {p q:List UInt8} (o:List Int) (hp:findE T c p=0) (hq:rE T c q false=0) (hs:rS T c q false≠[]) {U:Tab} (hU:(rN T c q false≠0∧U=cutF T (rD T c q false) (rS T c q false))∨(rN T c q false=0∧U=T∧(rD T c q false=rD T c p false∨(T.get (rD T c q false)).1.ents.length<8))) :
 (withN ((cutF U (rD T c p false) (rS T c p false)).get (rD T c q false)).1 (rS T c q false) (rN T c p false)).2=0∧(putT (cutF U (rD T c p false) (rS T c p false)) (rD T c q false) (withN ((cutF U (rD T c p false) (rS T c p false)).get (rD T c q false)).1 (rS T c q false) (rN T c p false)).1).1=0:=by
 obtain ⟨p1,p2,p3,p4⟩:=findE_zero hp
 have hpa:=resF_at hT.2 c p false p1
 have hqa:=resF_at hT.2 c q false hq
 have hnm:=resF_nm T c q false
 generalize rD T c p false=dp at *
 generalize rS T c p false=sp at *
 generalize rN T c p false=np at *
 generalize rD T c q false=dq at *
 generalize rS T c q false=sq at *
 generalize rN T c q false=nq at *
 rcases hpa with hpa | ⟨pk,pn, -, -, -,pf⟩
 · exact absurd hpa.1 p3
 rcases hqa with hqa | ⟨qk,qn,q1,q2,q3,qf⟩
 · exact absurd hqa.1 hs
 dsimp only at pk pn pf qk qn q1 q2 q3 qf
 have hUg:Gd U:=by
  rcases hU with ⟨_,rfl⟩ | ⟨_,rfl, _⟩
  · exact hT.cut _ _
  · exact hT
 have hCg:Gd (cutF U dp sp):=hUg.cut _ _
 have hpr:=hT.2.kind (i:=dp) (by omega)
 have hqr:=hT.2.kind (i:=dq) (by omega)
 have key:((cutF U dp sp).get dq).1.kind=2∧(∀e∈((cutF U dp sp).get dq).1.ents,e.1≠sq)∧((cutF U dp sp).get dq).1.ents.length<8:=by
  have hU2:(U.get dq).1.kind=2∧(∀e∈(U.get dq).1.ents,e.1≠sq)∧((U.get dq).1.ents.length<8∨(dq=dp∧0≤idxP (eqS sp) (U.get dq).1.ents∧(U.get dq).1.ents.length≤8)):=by
   rcases hU with ⟨hn,rfl⟩ | ⟨hn,rfl,hd⟩
   ·
    rw [cut_get hT,if_pos ⟨rfl,qk⟩]
    refine ⟨qk,remL_ne (risP_of hqr).1,.inl ?_⟩
    rcases findF_pos hqr (s:=sq) with ⟨f1, _⟩ | ⟨f1,f2,f3⟩
    · omega
    ·
     have:=remL_len f2
     have:=(risP_of hqr).2.1
     show (remL _ _).length<8;omega
   ·
    rcases findF_pos hqr (s:=sq) with ⟨f1,f2⟩ | ⟨f1,f2,f3⟩
    ·
     refine ⟨qk,idx_none f2,?_⟩
     rcases hd with hd | hd
     ·
      subst hd
      rcases findF_pos hpr (s:=sp) with ⟨g1, _⟩ | ⟨g1,g2,g3⟩
      · omega
      · exact .inr ⟨rfl,g2,(risP_of hqr).2.1⟩
     · exact .inl hd
    · omega
  obtain ⟨u1,u2,u3⟩:=hU2
  rw [cut_get hUg]
  split
  ·
   rename_i h
   obtain ⟨h1,h2⟩:=h
   subst h1
   refine ⟨u1,fun e he=>u2 e ((remL_sub _ _).subset he),?_⟩
   show (remL _ _).length<8
   rcases u3 with u3 | ⟨_,u4,u5⟩
   · exact Nat.lt_of_le_of_lt (remL_sub _ _).length_le u3
   · have:=remL_len u4;omega
  ·
   rename_i h
   refine ⟨u1,u2,u3.elim id fun u3=>?_⟩
   exact absurd ⟨u3.1,by rw [←u3.1];exact u1⟩ h
 obtain ⟨k1,k2,k3⟩:=key
 have hnp:1≤np:=by
  rcases findF_pos hpr (s:=sp) with ⟨g1, _⟩ | ⟨g1,g2,g3⟩
  · omega
  · omega
 have hw:(withN ((cutF U dp sp).get dq).1 sq np).2=0:=by
  unfold withN
  have hb:badN sq np=false:=by
   unfold badN
   rw [decide_eq_false (by omega),decide_eq_false qn.1,decide_eq_false q1,decide_eq_false q2,qn.2];rfl
  have hx:¬0≤idxP (eqS sq) ((cutF U dp sp).get dq).1.ents:=by
   rcases idxP_spec (eqS sq) ([],0) ((cutF U dp sp).get dq).1.ents with ⟨h1, _⟩ | ⟨k,h1,h2,h3⟩
   · omega
   ·
    rw [List.getD_eq_getElem?_getD,List.getElem?_eq_getElem h2] at h3
    exact absurd (by simpa [eqS] using h3) (k2 _ (List.getElem_mem h2))
  rw [if_neg (fun h=>h k1),hb,cond_false,if_neg (by omega),if_neg hx,if_neg (by omega)]
 refine ⟨hw,(putT_get hCg.1 (withN_ok (hCg.nd _) (by omega)) (withN_right (hCg.2.kind (by omega)) hw) (get_kind_at (by omega))).1⟩
theorem renameF_bad {T:Tab} (hT:Gd T) {c:Cr} {p q:List UInt8} {o:List Int} (h:(renameF T c p q o).1≠0):(renameF T c p q o).2=T:=by
 unfold renameF at h ⊢
 split
 · rfl
 rename_i h1;rw [if_neg h1] at h
 split
 · rfl
 rename_i h2;rw [if_neg h2] at h
 split
 · rfl
 rename_i h3;rw [if_neg h3] at h
 split
 · rfl
 rename_i h4;rw [if_neg h4] at h
 split
 · rfl
 rename_i h5;rw [if_neg h5] at h
 split
 · rfl
 rename_i h6;rw [if_neg h6] at h
 split
 · rfl
 rename_i h7;rw [if_neg h7] at h
 split
 ·
  rename_i h8
  rw [if_pos h8] at h
  split
  · rfl
  ·
   rename_i h9
   rw [if_neg h9] at h
   obtain ⟨g1,g2⟩:=renL_good hT o (Classical.not_not.1 h1) (Classical.not_not.1 h2) h3 (.inl ⟨h8,rfl⟩)
   unfold renL at h
   rw [if_pos g1] at h
   exact absurd g2 h
 ·
  rename_i h8
  rw [if_neg h8] at h
  have h80:=Classical.not_not.1 h8
  obtain ⟨g1,g2⟩:=renL_good hT o (Classical.not_not.1 h1) (Classical.not_not.1 h2) h3 (.inr ⟨h80,rfl,by
   by_cases e:rD T c q false=rD T c p false
   · exact .inl e
   ·
    exact .inr (by
     by_cases e8:(8:Int)≤(T.get (rD T c q false)).1.ents.length
     · exact absurd ⟨h80,e,e8⟩ h7
     · omega)⟩)
  unfold renL at h
  rw [if_pos g1] at h
  exact absurd g2 h
theorem chaF_bad {T:Tab} (hT:Gd T) {P:Pr} {ca:Ca} {o:List Int} (h:(chaF T P ca o).1≠0):(chaF T P ca o).2=T:=by
 have hp:∀(c:Cr) (p:List UInt8) (fl:Bool) (g:Nd→Nd),(∀n,NdOk n→NdOk (g n))→(plantF T c p fl g).1.2≠0→(plantF T c p fl g).2=T:=fun c p fl g hg h=>plantF_bad hT hg h
 unfold chaF at h ⊢
 split
 ·
  rename_i h1;rw [if_pos h1] at h
  unfold chmodF at h ⊢
  split
  · rfl
  · rename_i h2;rw [if_neg h2] at h;exact chgF_bad h
 rename_i h1;rw [if_neg h1] at h
 split
 ·
  rename_i h2;rw [if_pos h2] at h
  exact hp _ _ _ _ (fun n hn=>⟨Nat.zero_le _,Nat.zero_le _,Nat.zero_le _,fun e he=>nomatch he⟩) h
 rename_i h2;rw [if_neg h2] at h
 split
 ·
  rename_i h3;rw [if_pos h3] at h
  unfold symlinkF at h ⊢
  split
  · rfl
  rename_i k1;rw [if_neg k1] at h
  split
  · rfl
  rename_i k2;rw [if_neg k2] at h
  split
  · rfl
  rename_i k3;rw [if_neg k3] at h
  exact hp _ _ _ _ (fun n hn=>⟨Nat.zero_le _,Nat.zero_le _,(by show ca.other.length≤1000;omega),fun e he=>nomatch he⟩) h
 rename_i h3;rw [if_neg h3] at h
 split
 ·
  rename_i h4;rw [if_pos h4] at h
  unfold unlinkF at h ⊢
  split
  · rfl
  rename_i k1;rw [if_neg k1] at h
  split
  · rfl
  rename_i k2;rw [if_neg k2] at h
  exact absurd rfl h
 rename_i h4;rw [if_neg h4] at h
 split
 ·
  rename_i h5;rw [if_pos h5] at h
  unfold rmdirF at h ⊢
  split
  · rfl
  rename_i k1;rw [if_neg k1] at h
  split
  · rfl
  rename_i k2;rw [if_neg k2] at h
  split
  · rfl
  rename_i k3;rw [if_neg k3] at h
  exact absurd rfl h
 rename_i h5;rw [if_neg h5] at h
 split
 · rename_i h6;rw [if_pos h6] at h;exact renameF_bad hT h
 rename_i h6;rw [if_neg h6] at h
 unfold chownF at h ⊢
 split
 · rfl
 · rename_i h7;rw [if_neg h7] at h;exact chgF_bad h
theorem openF_bad {T:Tab} (hT:Gd T) {c:Cr} {um:Int} {p:List UInt8} {f m:Int} (h:(openF T c um p f m).1.2≠0):(openF T c um p f m).2=T:=by
 unfold openF at h ⊢
 split
 · rfl
 rename_i h1;rw [if_neg h1] at h
 split
 · rfl
 rename_i h2;rw [if_neg h2] at h
 split
 ·
  rename_i h3;rw [if_pos h3] at h
  split
  · rfl
  ·
   rename_i h4;rw [if_neg h4] at h
   exact plantF_bad hT (fun n hn=>⟨Nat.zero_le _,Nat.zero_le _,Nat.zero_le _,fun e he=>nomatch he⟩) h
 rename_i h3;rw [if_neg h3] at h
 split
 · rfl
 rename_i h4;rw [if_neg h4] at h
 split
 · rfl
 rename_i h5;rw [if_neg h5] at h
 split
 · rfl
 rename_i h6;rw [if_neg h6] at h
 generalize bits .or .i64 (if hasF f 1=true then 4 else 0) (if hasF f 2=true then 2 else 0)=w at h ⊢
 split
 · rfl
 rename_i h7;rw [if_neg h7] at h
 split
 · rename_i h8;rw [if_pos h8] at h;exact absurd rfl h
 · rfl
theorem writeAtF_bad {T:Tab} {c:Cr} {i off:Int} {b:List UInt8} (h:(writeAtF T c i off b).1≠0):(writeAtF T c i off b).2=T:=by
 unfold writeAtF at h ⊢
 split
 · rfl
 rename_i h1;rw [if_neg h1] at h
 split
 · rfl
 rename_i h2;rw [if_neg h2] at h
 split
 · rfl
 rename_i h3;rw [if_neg h3] at h
 split
 · rfl
 rename_i h4;rw [if_neg h4] at h
 exact absurd rfl h
theorem put_node (P:Pr) (i j:Nat) (f:Fde) (h:f.node=(P.fd i).node) (hi:i<3):((P.put i f).fd j).node=(P.fd j).node:=by
 rcases (show i=0∨i=1∨i=2 by omega) with rfl | rfl | rfl<;>match j with
 | 0=>first | exact h | rfl
 | 1=>first | exact h | rfl
 | j+2=>first | exact h | rfl
theorem prO_same {P Q:Pr} (h:∀j,(P.fd j).node=(Q.fd j).node) (n:Nat):prO P n=prO Q n:=by
 unfold prO;simp only [h]
theorem openL_set {ps:List Pr} {pid:Nat} (hp:pid<ps.length) {Q:Pr} (h:∀j,(Q.fd j).node=(ps[pid].fd j).node):openL (ps.set pid Q)=openL ps:=by
 unfold openL
 rw [List.flatMap_def,List.flatMap_def,List.map_set,prO_same h 3]
 congr 1
 refine List.ext_getElem (by simp) fun k k1 k2=>?_
 rw [List.getElem_set]
 split
 · rename_i e;subst e;rw [List.getElem_map]
 · rfl
theorem doF_bad {T:Tab} (hT:Gd T) (ps:List Pr) (pid:Int) (ca:Ca) (h:(doF T ps pid ca).1.err≠0∨ca.kind≤4):(doF T ps pid ca).2.1=T∧openL (doF T ps pid ca).2.2=openL ps∧umQ (doF T ps pid ca).2.2 pid=umQ ps pid:=by
 unfold doF at h ⊢
 by_cases hp:0≤pid∧pid<ps.length
 ·
  rw [if_pos hp] at h ⊢
  obtain ⟨n,rfl⟩:∃n:Nat,pid=(n:Int):=⟨pid.toNat,by omega⟩
  have hn:n<ps.length:=by omega
  rw [Int.toNat_natCast] at h ⊢
  have hgd:ps.getD n pr0=ps[n]:=by rw [List.getD_eq_getElem?_getD,List.getElem?_eq_getElem hn];rfl
  rw [hgd] at h ⊢
  have key:(stepF T ps n ps[n] ca).2.1=T∧(∀j,((stepF T ps n ps[n] ca).2.2.fd j).node=(ps[n].fd j).node)∧(stepF T ps n ps[n] ca).2.2.um=ps[n].um:=by
   generalize ps[n]=P at h ⊢
   dsimp only at h
   unfold stepF at h ⊢
   split
   ·
    rename_i h1;rw [if_pos h1] at h
    have h0:(opnF T P ca).1.err≠0:=h.elim id fun h=>by omega
    have ha:∀i,(opnAt T P ca i).1.err≠0→(opnAt T P ca i).2=(T,P):=fun i hi=>by
     unfold opnAt at hi ⊢
     split
     · rename_i ho;rw [openF_bad hT ho]
     · rename_i ho;rw [if_neg ho] at hi;exact absurd rfl hi
    have:(opnF T P ca).2=(T,P):=by
     unfold opnF at h0 ⊢
     split
     · rename_i k;rw [if_pos k] at h0;exact ha _ h0
     rename_i k;rw [if_neg k] at h0
     split
     · rename_i k;rw [if_pos k] at h0;exact ha _ h0
     rename_i k;rw [if_neg k] at h0
     split
     · rename_i k;rw [if_pos k] at h0;exact ha _ h0
     · rfl
    rw [this];exact ⟨rfl,fun _=>rfl,rfl⟩
   rename_i h1;rw [if_neg h1] at h
   split
   ·
    refine ⟨rfl,fun j=>?_,?_⟩
    ·
     show ((redF T P ca).2.fd j).node=_
     unfold redF
     split
     · rfl
     · exact put_node P _ j _ rfl (by omega)
    ·
     show (redF T P ca).2.um=_
     unfold redF
     split
     · rfl
     · show (Pr.put _ _ _).um=_;unfold Pr.put;split<;>rfl
   rename_i h2;rw [if_neg h2] at h
   split
   ·
    rename_i h3;rw [if_pos h3] at h
    have h0:(wriF T P ca).1.err≠0:=h.elim id fun h=>by omega
    have:(wriF T P ca).2=(T,P):=by
     unfold wriF at h0 ⊢
     split
     · rfl
     rename_i k;rw [if_neg k] at h0
     split
     · rename_i k;rw [writeAtF_bad k]
     · rename_i k;rw [if_neg k] at h0;exact absurd rfl h0
    rw [this];exact ⟨rfl,fun _=>rfl,rfl⟩
   rename_i h3;rw [if_neg h3] at h
   split
   ·
    rename_i h4;rw [if_pos h4] at h
    have h0:(shutF T ps n P ca.a).1.err≠0:=h.elim id fun h=>by omega
    have:(shutF T ps n P ca.a).2=(T,P):=by
     unfold shutF at h0 ⊢
     split
     · rfl
     · rename_i k;rw [if_neg k] at h0;exact absurd rfl h0
    rw [this];exact ⟨rfl,fun _=>rfl,rfl⟩
   rename_i h4;rw [if_neg h4] at h
   split
   ·
    rename_i h5;rw [if_pos h5] at h
    exact h.elim (fun h=>absurd rfl h) fun h=>by omega
   rename_i h5;rw [if_neg h5] at h
   split
   ·
    rename_i h6;rw [if_pos h6] at h
    exact h.elim (fun h=>absurd rfl h) fun h=>by omega
   rename_i h6;rw [if_neg h6] at h
   split
   · exact ⟨rfl,fun _=>rfl,rfl⟩
   rename_i h7;rw [if_neg h7] at h
   split
   ·
    rename_i h8;rw [if_pos h8] at h
    have h0:(chaF T P ca (openL ps)).1≠0:=h.elim id fun h=>by omega
    exact ⟨chaF_bad hT h0,fun _=>rfl,rfl⟩
   · exact ⟨rfl,fun _=>rfl,rfl⟩
  obtain ⟨k1,k2,k3⟩:=key
  refine ⟨k1,openL_set hn k2,?_⟩
  unfold umQ
  rw [List.length_set,if_pos hp,if_pos hp,Int.toNat_natCast,hgd,List.getD_eq_getElem?_getD,List.getElem?_set_self hn]
  exact k3
 · rw [if_neg hp];exact ⟨rfl,rfl,rfl⟩
theorem sameF_refl (a:Nd):sameF a a=true:=by unfold sameF;simp
theorem sameT_refl (T:Tab):sameT T T=true:=by unfold sameT;exact List.all_eq_true.2 fun j _=>sameF_refl _
theorem drop_get {T:Tab} (hT:T.Ok) (j k:Int):(dropT T j).get k=if k=j then (nd0,false) else T.get k:=by
 cases ha:T.at j with
 | none=>
  have e:dropT T j=T:=by unfold dropT;rw [ha]
  rw [e]
  split
  · rename_i e;rw [e,get_no ha]
  · rfl
 | some a=>
  obtain ⟨h1,h2,h3⟩:=at_room ha
  have hl:=hT.len
  have hr:=hT.hi
  have hd:(dropT T j).Ok:=dropT_ok hT j
  rw [get_eq hd,get_eq hT]
  unfold dropT;rw [ha]
  show (if 1≤k∧k≤T.room then ((T.ns.set a nd0).getD (k - 1).toNat nd0,!decide (((T.ns.set a nd0).getD (k - 1).toNat nd0).kind=0)) else (nd0,false))=_
  by_cases hk:k=j
  ·
   rw [if_pos hk,hk,h1]
   rw [List.getD_eq_getElem?_getD,List.getElem?_set_self (by omega)]
   split<;>rfl
  ·
   rw [if_neg hk]
   by_cases hc:1≤k∧k≤T.room
   · rw [if_pos hc,if_pos hc,List.getD_eq_getElem?_getD,List.getElem?_set_ne (by omega),List.getD_eq_getElem?_getD]
   · rw [if_neg hc,if_neg hc]
theorem wrapS {a:Int} (h0:0≤a) (h1:a≤1000000):IntKind.i64.wrap a=a:=by
 unfold IntKind.wrap;simp [IntKind.bits,IntKind.signed];omega
end Go.Proofs.YtmgnbgniikjhdaaGreat
namespace Go.Proofs.YtmgnbgniikjhdaaGreat
open Go.Ab
set_option maxRecDepth 8000
set_option maxHeartbeats 400000
theorem parent_spec {T:Tab} (hT:T.Ok) (i:Int):(T.parent i=0∧∀(d:Int) (e:En),e∈(T.get d).1.ents→e.2≠i)∨(1≤T.parent i∧∃e∈(T.get (T.parent i)).1.ents,e.2=i):=by
 have hl:=refL_len hT
 have h3:=hT.lo
 rw [←rPar_eq hT]
 unfold rPar
 rcases idxP_spec (hasK i) nd0 (refL T) with ⟨h1,h2⟩ | ⟨k,h1,h2,h3'⟩
 ·
  left
  rw [if_pos h1]
  refine ⟨rfl,fun d e he hei=>?_⟩
  have hd:=ents_is he
  rw [get_eq hT] at hd he
  split at hd
  ·
   rename_i hc
   rw [if_pos hc] at he
   have:=h2 (d - 1).toNat (by rw [hl];omega)
   rw [ref_getD (by omega),hasK_ents,List.any_eq_false] at this
   exact this e he (by simp [hei])
  · cases hd
 ·
  right
  rw [if_neg (by omega),h1]
  rw [hl] at h2
  rw [ref_getD h2,hasK_ents,List.any_eq_true] at h3'
  obtain ⟨e,he,hee⟩:=h3'
  refine ⟨by omega,e,?_,by simpa using hee⟩
  rw [get_eq hT,if_pos ⟨by omega,by omega⟩,show ((k:Int)+1 - 1).toNat=k by omega];exact he
def Ent (T:Tab) (d:Int) (e:En):Prop:=e∈(T.get d).1.ents
def cnt (T:Tab) (i:Int):Nat→Nat
 | 0=>0
 | m+1=>cnt T i m+((T.get ((m:Int)+1)).1.ents.countP fun e=>decide (e.2=i))
theorem entsF_cnt (i d:Int):∀(l:List En) (v:Int),0≤v→v+l.length≤1000000→entsF (fun v _=>IntKind.i64.wrap (v+1)) i d v l=v+(l.countP fun e=>decide (e.2=i):Nat)
 | [],v, _, _=>by simp [entsF]
 | e::l,v,h0,h1=>by
  rw [List.length_cons] at h1
  show entsF (fun v _=>IntKind.i64.wrap (v+1)) i d (if e.2=i then IntKind.i64.wrap (v+1) else v) l=_
  rw [List.countP_cons]
  by_cases h:e.2=i
  · rw [if_pos h,wrapS (by omega) (by omega),entsF_cnt i d l _ (by omega) (by omega),if_pos (by simp [h])];omega
  · rw [if_neg h,entsF_cnt i d l _ h0 (by omega),if_neg (by simp [h])];omega
theorem cnt_le {T:Tab} (hT:T.Ok) (i:Int):∀m,cnt T i m≤1000*m
 | 0=>Nat.le_refl _
 | m+1=>by
  have:=cnt_le hT i m
  have h1:=(get_ok hT ((m:Int)+1)).2.1
  have h2:=List.countP_le_length (p:=fun e:En=>decide (e.2=i)) (l:=(T.get ((m:Int)+1)).1.ents)
  show cnt T i m+_≤_
  omega
theorem scan_cnt {T:Tab} (hT:T.Ok) (i:Int):∀m,m≤T.room.toNat→T.scan (fun v _=>IntKind.i64.wrap (v+1)) i 0 m=cnt T i m
 | 0, _=>rfl
 | m+1,hm=>by
  have ih:=scan_cnt hT i m (by omega)
  have hb:=cnt_le hT i m
  have hr:=hT.hi
  have h1:=(get_ok hT ((m:Int)+1)).2.1
  show (match T.at ((m:Int)+1) with | some j=>_ | none=>_)=_
  cases ha:T.at ((m:Int)+1) with
  | none=>
   simp only []
   rw [ih]
   show _=((cnt T i m+((T.get ((m:Int)+1)).1.ents.countP fun e=>decide (e.2=i)):Nat):Int)
   rw [get_no ha];rfl
  | some j=>
   simp only []
   rw [ih]
   show _=((cnt T i m+((T.get ((m:Int)+1)).1.ents.countP fun e=>decide (e.2=i)):Nat):Int)
   rw [get_at ha] at h1 ⊢
   dsimp only at h1 ⊢
   rw [entsF_cnt _ _ _ _ (by omega) (by omega)];omega
theorem links_cnt {T:Tab} (hT:T.Ok) (i:Int):T.links i=cnt T i T.room.toNat:=scan_cnt hT i _ (Nat.le_refl _)
theorem ent_room {T:Tab} (hT:T.Ok) {d:Int} {e:En} (h:Ent T d e):1≤d∧d≤T.room:=by
 have:=ents_is h
 rw [get_eq hT] at this
 split at this
 · assumption
 · cases this
theorem cnt_zero {T:Tab} {i:Int}:∀ {m:Nat},cnt T i m=0↔∀d:Nat,d<m→∀e,Ent T ((d:Int)+1) e→e.2≠i
 | 0=>⟨fun _ d h=>absurd h (Nat.not_lt_zero _),fun _=>rfl⟩
 | m+1=>by
  show cnt T i m+_=0↔_
  rw [Nat.add_eq_zero_iff,cnt_zero,List.countP_eq_zero]
  constructor
  ·
   rintro ⟨h1,h2⟩ d hd e he
   rcases Nat.lt_succ_iff_lt_or_eq.1 hd with h | h
   · exact h1 d h e he
   · subst h;simpa using h2 e he
  ·
   intro h
   exact ⟨fun d hd=>h d (by omega),fun e he=>by simpa using h m (by omega) e he⟩
theorem links_zero {T:Tab} (hT:T.Ok) (i:Int):T.links i=0↔∀d e,Ent T d e→e.2≠i:=by
 rw [links_cnt hT,Int.natCast_eq_zero,cnt_zero]
 constructor
 ·
  intro h d e he
  obtain ⟨h1,h2⟩:=ent_room hT he
  have hd:((d - 1).toNat:Int)+1=d:=by omega
  exact h (d - 1).toNat (by omega) e (by rw [hd];exact he)
 · intro h d _ e he;exact h _ e he
theorem links_pos {T:Tab} (hT:T.Ok) (i:Int):0<T.links i↔∃d e,Ent T d e∧e.2=i:=by
 have h0:0≤T.links i:=by rw [links_cnt hT];omega
 constructor
 ·
  intro h
  apply Classical.byContradiction
  intro hn
  have:=(links_zero hT i).2 fun d e he hi=>hn ⟨d,e,he,hi⟩
  omega
 ·
  rintro ⟨d,e,he,hi⟩
  rcases Int.lt_or_eq_of_le h0 with h | h
  · exact h
  · exact absurd hi ((links_zero hT i).1 h.symm d e he)
theorem count_one {l:List En} (hr:RisP l) {e:En} (he:e∈l) {i:Int} (hi:e.2=i) (hu:∀e'∈l,e'.2=i→e'=e):(l.countP fun e=>decide (e.2=i))=1:=by
 obtain ⟨l1,l2,rfl⟩:=List.append_of_mem he
 rw [RisP,List.pairwise_append,List.pairwise_cons] at hr
 obtain ⟨_,⟨h2, _⟩,h3⟩:=hr
 have hirr:∀s:List UInt8,Op.bytesLess s s≠true:=fun s h=>by
  have:=bl_asym s s h;rw [h] at this;cases this
 rw [List.countP_append,List.countP_cons,if_pos (by simp [hi]),List.countP_eq_zero.2,List.countP_eq_zero.2]
 ·
  intro x hx hxi
  have:=hu x (by simp [hx]) (by simpa using hxi)
  have h4:=h2 x hx
  rw [this] at h4;exact hirr _ h4
 ·
  intro x hx hxi
  have:=hu x (by simp [hx]) (by simpa using hxi)
  have h4:=h3 x hx e (by simp)
  rw [this] at h4;exact hirr _ h4
theorem links_one {T:Tab} (hT:Gd T) {i d:Int} {e:En} (he:Ent T d e) (hi:e.2=i) (hu:∀d' e',Ent T d' e'→e'.2=i→d'=d∧e'=e):T.links i=1:=by
 obtain ⟨h1,h2⟩:=ent_room hT.1 he
 have hdk:(T.get d).1.kind≠0:=by
  intro h0
  have:=ents_is he
  rw [get_kind hT.1,h0] at this;cases this
 have hr:=risP_of (hT.2.kind hdk)
 have key:∀m,cnt T i m=if d≤m then 1 else 0:=fun m=>by
  induction m with
  | zero=>rw [if_neg (by omega)];rfl
  | succ m ih=>
   show cnt T i m+_=_
   by_cases hd:(m:Int)+1=d
   · rw [ih,if_neg (by omega),if_pos (by omega),hd,count_one hr.1 he hi fun e' he' hi'=>(hu d e' he' hi').2]
   ·
    have hz:((T.get ((m:Int)+1)).1.ents.countP fun e=>decide (e.2=i))=0:=List.countP_eq_zero.2 fun x hx hxi=>hd (hu _ x hx (by simpa using hxi)).1
    rw [ih,hz]
    by_cases hm:d≤m
    · rw [if_pos hm,if_pos (by omega)]
    · rw [if_neg hm,if_neg (by omega)]
 rw [links_cnt hT.1,key,if_pos (by omega)];rfl
structure TreeW (T:Tab) (o X:List Int):Prop where
 root:(T.get 1).1.kind=2
 top:∀d e,Ent T d e→e.2≠1
 kid:∀d e,Ent T d e→(T.get e.2).2=true
 has:∀i,i∉X→(T.get i).1.kind=2→i≠1→∃d e,Ent T d e∧e.2=i
 one:∀d d' e e',Ent T d e→Ent T d' e'→e.2=e'.2→(T.get e.2).1.kind=2→d=d'∧e=e'
 rk:∃rk:Int→Nat,∀d e,Ent T d e→(T.get e.2).1.kind=2→rk d<rk e.2
 opn:∀i,i∉X→(T.get i).2=true→(T.get i).1.kind≠2→(∃d e,Ent T d e∧e.2=i)∨i∈o
 fil:∀i∈o,(T.get i).1.kind=1
def up (T:Tab):Nat→Int→Int
 | 0,i=>i
 | k+1,i=>T.parent (up T k i)
theorem up_in (T:Tab):∀(k:Nat) (i:Int),up T k (T.parent i)=up T (k+1) i
 | 0, _=>rfl
 | k+1,i=>by show T.parent (up T k (T.parent i))=_;rw [up_in T k i];rfl
theorem ent_dir {T:Tab} (hT:Gd T) {d:Int} {e:En} (h:Ent T d e):(T.get d).1.kind=2:=by
 have hk:(T.get d).1.kind≠0:=by
  intro h0
  have:=ents_is h
  rw [get_kind hT.1,h0] at this;cases this
 rcases right_cases (hT.2.kind hk) with ⟨_,k | k | k⟩
 · unfold Ent at h;rw [k.2.1] at h;cases h
 · exact k.1
 · unfold Ent at h;rw [k.2.2.1] at h;cases h
theorem par_pos {T:Tab} (hT:T.Ok) {i:Int} (h:T.parent i≠0):∃e,Ent T (T.parent i) e∧e.2=i:=by
 rcases parent_spec hT i with h1 | ⟨_,e,he,hi⟩
 · exact absurd h1.1 h
 · exact ⟨e,he,hi⟩
theorem par_of {T:Tab} (hT:T.Ok) {d:Int} {e:En} (h:Ent T d e) (hu:∀d' e',Ent T d' e'→e'.2=e.2→d'=d):T.parent e.2=d:=by
 rcases parent_spec hT e.2 with h1 | ⟨_,e',he,hi⟩
 · exact absurd rfl (h1.2 d e h)
 · exact hu _ e' he hi
theorem TreeW.par {T:Tab} {o X:List Int} (hT:Gd T) (hW:TreeW T o X) {d:Int} {e:En} (h:Ent T d e) (hk:(T.get e.2).1.kind=2):T.parent e.2=d:=
 par_of hT.1 h fun d' e' h' hi=>(hW.one d' d e' e h' h hi (by rw [hi];exact hk)).1
theorem par_zero {T:Tab} {o X:List Int} (hT:Gd T) (hW:TreeW T o X):T.parent 0=0:=by
 apply Classical.byContradiction
 intro h
 obtain ⟨e,he,hi⟩:=par_pos hT.1 h
 have:=get_pos hT.1 (hW.kid _ e he)
 omega
theorem par_one {T:Tab} {o X:List Int} (hT:Gd T) (hW:TreeW T o X):T.parent 1=0:=by
 apply Classical.byContradiction
 intro h
 obtain ⟨e,he,hi⟩:=par_pos hT.1 h
 exact hW.top _ e he hi
theorem pigeon:∀(N m:Nat) (f:Nat→Nat),(∀j,j<m→f j<N)→(∀i j,i<j→j<m→f i≠f j)→m≤N
 | 0,m,f,h, _=>by
  cases m with
  | zero=>exact Nat.le_refl _
  | succ m=>exact absurd (h 0 (by omega)) (Nat.not_lt_zero _)
 | N+1,m,f,h,hi=>by
  by_cases hx:∃j,j<m∧f j=N
  ·
   obtain ⟨j0,hj,hf⟩:=hx
   have:=pigeon N (m - 1) (fun j=>f (if j<j0 then j else j+1)) (fun j hj2=>by
    have h1:=h (if j<j0 then j else j+1) (by split<;>omega)
    have h2:f (if j<j0 then j else j+1)≠N:=by
     rw [←hf]
     split
     · exact hi _ _ (by omega) hj
     · exact (hi _ _ (by omega) (by omega)).symm
    omega) (fun i j hij hj2=>hi _ _ (by split<;>split<;>omega) (by split<;>omega))
   omega
  ·
   have:=pigeon N m f (fun j hj=>by
    have:=h j hj
    have:f j≠N:=fun e=>hx ⟨j,hj,e⟩
    omega) hi
   omega
theorem TreeW.reach {T:Tab} {o:List Int} (hT:Gd T) (hW:TreeW T o []) {i:Int} (hi:(T.get i).1.kind=2):∃k,k<24∧up T k i=1:=by
 obtain ⟨rk,hrk⟩:=hW.rk
 apply Classical.byContradiction
 intro hn
 have hdir:∀k,k≤24→(T.get (up T k i)).1.kind=2∧(∀j,j<k→rk (up T k i)<rk (up T j i)):=by
  intro k
  induction k with
  | zero=>exact fun _=>⟨hi,fun j hj=>absurd hj (Nat.not_lt_zero _)⟩
  | succ k ih=>
   intro hk
   obtain ⟨h1,h2⟩:=ih (by omega)
   obtain ⟨d,e,he,hei⟩:=hW.has (up T k i) (by simp) h1 (fun e=>hn ⟨k,by omega,e⟩)
   have hp:up T (k+1) i=d:=by
    show T.parent (up T k i)=d
    rw [←hei];exact hW.par hT he (by rw [hei];exact h1)
   have hr:=hrk d e he (by rw [hei];exact h1)
   rw [hei] at hr
   rw [hp]
   refine ⟨ent_dir hT he,fun j hj=>?_⟩
   rcases Nat.lt_succ_iff_lt_or_eq.1 hj with h | h
   · exact Nat.lt_trans hr (h2 j h)
   · subst h;exact hr
 have hb:∀j,j<25→1≤up T j i∧up T j i≤24:=fun j hj=>by
  have h1:=get_kind_at (T:=T) (i:=up T j i) (by rw [(hdir j (by omega)).1];decide)
  obtain ⟨a, _,h2,h3⟩:=get_isat h1
  have:=hT.1.hi
  omega
 have:=pigeon 24 25 (fun j=>(up T j i - 1).toNat) (fun j hj=>by have:=hb j hj;omega) (fun a b hab hbl=>by
  have h1:=(hdir b (by omega)).2 a hab
  have ha:=hb a (by omega)
  have hbb:=hb b hbl
  intro e
  have:up T a i=up T b i:=by omega
  rw [this] at h1
  exact absurd h1 (Nat.lt_irrefl _))
 omega
theorem TreeW.same {T U:Tab} {o X:List Int} (hW:TreeW T o X) (h:∀k,(U.get k).2=(T.get k).2∧(U.get k).1.kind=(T.get k).1.kind∧(U.get k).1.ents=(T.get k).1.ents):TreeW U o X:=by
 have hE:∀d e,Ent U d e↔Ent T d e:=fun d e=>by unfold Ent;rw [(h d).2.2]
 obtain ⟨rk,hrk⟩:=hW.rk
 exact ⟨by rw [(h 1).2.1];exact hW.root,fun d e he=>hW.top d e ((hE d e).1 he),fun d e he=>by rw [(h _).1];exact hW.kid d e ((hE d e).1 he),
  fun i hx hi h1=>by rw [(h i).2.1] at hi;obtain ⟨d,e,he,hei⟩:=hW.has i hx hi h1;exact ⟨d,e,(hE d e).2 he,hei⟩,
  fun d d' e e' he he' hee hk=>hW.one d d' e e' ((hE d e).1 he) ((hE d' e').1 he') hee (by rw [←(h _).2.1];exact hk),
  ⟨rk,fun d e he hk=>hrk d e ((hE d e).1 he) (by rw [←(h _).2.1];exact hk)⟩,
  fun i hx hi hk=>by
   rw [(h i).1] at hi;rw [(h i).2.1] at hk
   rcases hW.opn i hx hi hk with ⟨d,e,he,hei⟩ | h
   · exact .inl ⟨d,e,(hE d e).2 he,hei⟩
   · exact .inr h,
  fun i hi=>by rw [(h i).2.1];exact hW.fil i hi⟩
theorem TreeW.put {T:Tab} {o X:List Int} (hT:Gd T) (hW:TreeW T o X) {i:Int} {n:Nd} (hn:NdOk n) (hk:n.kind=(T.get i).1.kind) (he:n.ents=(T.get i).1.ents):TreeW (putT T i n).2 o X:=by
 cases ha:T.at i with
 | none=>
  have e:(putT T i n).2=T:=by unfold putT;rw [ha]
  rw [e];exact hW
 | some j=>
  by_cases hr:rightF n=true
  ·
   have hi:(T.get i).2=true:=by rw [get_at ha]
   refine hW.same fun k=>?_
   rw [(putT_get hT.1 hn hr hi).2]
   split
   · rename_i e;rw [e,hi];exact ⟨rfl,hk,he⟩
   · exact ⟨rfl,rfl,rfl⟩
  ·
   have e:(putT T i n).2=T:=by unfold putT;rw [ha];simp [show rightF n=false by simpa using hr]
   rw [e];exact hW
theorem TreeW.plant {T U:Tab} {o X:List Int} (hT:Gd T) (hW:TreeW T o X) {d k:Int} {nn:Nd} {s:List UInt8} (hd:(T.get d).1.kind=2) (hk:(T.get k).2=false) (he:nn.ents=[]) (hdk:d≠k)
 (hU:∀i,U.get i=if i=d then (nWith (T.get d).1 (insF (T.get d).1.ents s k),true) else if i=k then (nn,true) else T.get i):TreeW U o X:=by
 obtain ⟨rk,hrk⟩:=hW.rk
 have hk0:(T.get k).1=nd0:=by
  cases ha:T.at k with
  | none=>rw [get_no ha]
  | some j=>rw [get_at ha] at hk;cases hk
 have hno:∀d' e,Ent T d' e→e.2≠k:=fun d' e h h2=>by have:=hW.kid d' e h;rw [h2,hk] at this;cases this
 have hnk:∀e,¬Ent T k e:=fun e h=>by unfold Ent at h;rw [hk0] at h;cases h
 have hE:∀d' e,Ent U d' e↔(d'=d∧e=(s,k))∨Ent T d' e:=fun d' e=>by
  unfold Ent
  rw [hU]
  by_cases h1:d'=d
  ·
   rw [if_pos h1]
   show e∈insF _ _ _↔_
   rw [mem_insF,h1];simp
  ·
   rw [if_neg h1]
   by_cases h2:d'=k
   ·
    rw [if_pos h2]
    show e∈nn.ents↔_
    rw [he]
    refine ⟨fun h=>(nomatch h),fun h=>h.elim (fun h=>absurd h.1 h1) fun h=>?_⟩
    rw [h2] at h;exact absurd h (hnk e)
   · rw [if_neg h2];simp [h1]
 have hK:∀i,i≠k→(U.get i).1.kind=(T.get i).1.kind∧(U.get i).2=(T.get i).2:=fun i hi=>by
  rw [hU]
  split
  · rename_i h;subst h;exact ⟨rfl,(get_kind_at (by rw [hd];decide)).symm⟩
  · simp [hi]
 have h1k:(1:Int)≠k:=fun e=>by have:=hW.root;rw [e,hk0] at this;cases this
 refine ⟨by rw [(hK 1 h1k).1];exact hW.root,fun d' e h=>?_,fun d' e h=>?_,fun i hx hi h1=>?_,fun a b e e' h h' hee hkk=>?_,?_,fun i hx hi hkk=>?_,fun i hi=>?_⟩
 ·
  rcases (hE d' e).1 h with ⟨_,rfl⟩ | h
  · exact fun e=>h1k e.symm
  · exact hW.top d' e h
 ·
  rcases (hE d' e).1 h with ⟨_,rfl⟩ | h
  ·
   show (U.get k).2=true
   rw [hU,if_neg (Ne.symm hdk),if_pos rfl]
  · rw [(hK _ (hno d' e h)).2];exact hW.kid d' e h
 ·
  by_cases e:i=k
  · exact ⟨d,(s,k),(hE _ _).2 (.inl ⟨rfl,rfl⟩),e.symm⟩
  ·
   rw [(hK i e).1] at hi
   obtain ⟨d',e',h,h2⟩:=hW.has i hx hi h1
   exact ⟨d',e',(hE _ _).2 (.inr h),h2⟩
 ·
  rcases (hE a e).1 h with ⟨rfl,rfl⟩ | h
  ·
   rcases (hE b e').1 h' with ⟨rfl,rfl⟩ | h'
   · exact ⟨rfl,rfl⟩
   · exact absurd hee.symm (hno b e' h')
  ·
   rcases (hE b e').1 h' with ⟨rfl,rfl⟩ | h'
   · exact absurd hee (hno a e h)
   · exact hW.one a b e e' h h' hee (by rw [←(hK _ (hno a e h)).1];exact hkk)
 ·
  refine ⟨fun i=>if i=k then rk d+1 else rk i,fun d' e h hkk=>?_⟩
  rcases (hE d' e).1 h with ⟨rfl,rfl⟩ | h
  ·
   show (if d'=k then _ else rk d')<(if k=k then _ else _)
   rw [if_neg hdk,if_pos rfl];omega
  ·
   have h1:=hno d' e h
   have h2:d'≠k:=fun e2=>by rw [e2] at h;exact hnk e h
   dsimp only
   rw [if_neg h2,if_neg h1]
   exact hrk d' e h (by rw [←(hK _ h1).1];exact hkk)
 ·
  by_cases e:i=k
  · exact .inl ⟨d,(s,k),(hE _ _).2 (.inl ⟨rfl,rfl⟩),e.symm⟩
  ·
   rw [(hK i e).1] at hkk
   rw [(hK i e).2] at hi
   rcases hW.opn i hx hi hkk with ⟨d',e',h,h2⟩ | h
   · exact .inl ⟨d',e',(hE _ _).2 (.inr h),h2⟩
   · exact .inr h
 ·
  have:i≠k:=fun e=>by have:=hW.fil i hi;rw [e,hk0] at this;cases this
  rw [(hK i this).1];exact hW.fil i hi
end Go.Proofs.YtmgnbgniikjhdaaGreat
namespace Go.Proofs.YtmgnbgniikjhdaaGreat
open Go.Ab
set_option maxRecDepth 8000
set_option maxHeartbeats 400000
theorem TreeW.weak {T:Tab} {o X Y:List Int} (hW:TreeW T o X) (h:∀i∈X,i∈Y):TreeW T o Y:=
 ⟨hW.root,hW.top,hW.kid,fun i hx=>hW.has i (fun k=>hx (h i k)),hW.one,hW.rk,fun i hx=>hW.opn i (fun k=>hx (h i k)),hW.fil⟩
theorem cut_ent {T:Tab} (hT:Gd T) (d:Int) (s:List UInt8) (d':Int) (e:En):Ent (cutF T d s) d' e↔Ent T d' e∧(d'=d→e.1≠s):=by
 unfold Ent
 rw [cut_get hT]
 by_cases h:d'=d∧(T.get d).1.kind=2
 ·
  rw [if_pos h]
  show e∈remL _ _↔_
  rw [h.1]
  refine ⟨fun he=>⟨(remL_sub _ _).subset he,fun _=>remL_ne (risP_of (hT.2.kind (by rw [h.2];decide))).1 e he⟩,fun he=>remL_mem he.1 (he.2 rfl)⟩
 ·
  rw [if_neg h]
  refine ⟨fun he=>⟨he,fun hd=>?_⟩,fun he=>he.1⟩
  have:=ent_dir hT (d:=d') he
  rw [hd] at this
  exact absurd ⟨hd,this⟩ h
theorem cut_kind {T:Tab} (hT:Gd T) (d:Int) (s:List UInt8) (i:Int):((cutF T d s).get i).1.kind=(T.get i).1.kind∧((cutF T d s).get i).2=(T.get i).2:=by
 rw [cut_get hT]
 split
 ·
  rename_i h
  rw [h.1]
  exact ⟨rfl,(get_kind_at (by rw [h.2];decide)).symm⟩
 · exact ⟨rfl,rfl⟩
theorem ent_name {T:Tab} (hT:Gd T) {d:Int} {e e':En} (h:Ent T d e) (h':Ent T d e') (hn:e.1=e'.1):e=e':=by
 have hr:=(risP_of (hT.2.kind (i:=d) (by rw [ent_dir hT h];decide))).1
 obtain ⟨i,hi,rfl⟩:=List.mem_iff_getElem.1 h
 obtain ⟨j,hj,rfl⟩:=List.mem_iff_getElem.1 h'
 have hirr:∀s:List UInt8,Op.bytesLess s s≠true:=fun s h=>by
  have:=bl_asym s s h;rw [h] at this;cases this
 have hp:=List.pairwise_iff_getElem.1 hr
 rcases Nat.lt_trichotomy i j with h1 | h1 | h1
 · have:=hp i j hi hj h1;rw [hn] at this;exact absurd this (hirr _)
 · subst h1;rfl
 · have:=hp j i hj hi h1;rw [hn] at this;exact absurd this (hirr _)
theorem TreeW.cut {T:Tab} {o X:List Int} (hT:Gd T) (hW:TreeW T o X) {d:Int} {s:List UInt8} {n:Int} (he:Ent T d (s,n)):TreeW (cutF T d s) o (n::X):=by
 have hE:=cut_ent hT d s
 have hK:=cut_kind hT d s
 obtain ⟨rk,hrk⟩:=hW.rk
 have hkeep:∀d' e,Ent T d' e→e.2≠n→Ent (cutF T d s) d' e:=fun d' e h hne=>(hE d' e).2 ⟨h,fun hd hs=>hne (by
  subst hd;rw [ent_name hT h he hs])⟩
 refine ⟨by rw [(hK 1).1];exact hW.root,fun d' e h=>hW.top d' e ((hE _ _).1 h).1,fun d' e h=>by rw [(hK _).2];exact hW.kid d' e ((hE _ _).1 h).1,fun i hx hi h1=>?_,
  fun a b e e' h h' hee hk=>hW.one a b e e' ((hE _ _).1 h).1 ((hE _ _).1 h').1 hee (by rw [←(hK _).1];exact hk),⟨rk,fun d' e h hk=>hrk d' e ((hE _ _).1 h).1 (by rw [←(hK _).1];exact hk)⟩,fun i hx hi hk=>?_,fun i hi=>by rw [(hK i).1];exact hW.fil i hi⟩
 ·
  rw [(hK i).1] at hi
  simp only [List.mem_cons,not_or] at hx
  obtain ⟨d',e,h,hei⟩:=hW.has i hx.2 hi h1
  exact ⟨d',e,hkeep d' e h (by rw [hei];exact hx.1),hei⟩
 ·
  rw [(hK i).1] at hk
  rw [(hK i).2] at hi
  simp only [List.mem_cons,not_or] at hx
  rcases hW.opn i hx.2 hi hk with ⟨d',e,h,hei⟩ | h
  · exact .inl ⟨d',e,hkeep d' e h (by rw [hei];exact hx.1),hei⟩
  · exact .inr h
theorem TreeW.gone {T:Tab} {o X:List Int} (hT:Gd T) (hW:TreeW T o X) {n:Int} (h1:n≠1) (hno:∀d e,Ent T d e→e.2≠n) (hne:(T.get n).1.ents=[]) (ho:n∉o) {Y:List Int} (hY:∀i,i∈X→i=n∨i∈Y):TreeW (dropT T n) o Y:=by
 have hG:=drop_get hT.1 n
 have hE:∀d e,Ent (dropT T n) d e↔Ent T d e:=fun d e=>by
  unfold Ent;rw [hG]
  split
  · rename_i h;rw [h,hne];simp [nd0]
  · rfl
 have hK:∀i,i≠n→(dropT T n).get i=T.get i:=fun i hi=>by rw [hG,if_neg hi]
 have hz:(dropT T n).get n=(nd0,false):=by rw [hG,if_pos rfl]
 obtain ⟨rk,hrk⟩:=hW.rk
 refine ⟨by rw [hK 1 (Ne.symm h1)];exact hW.root,fun d e h=>hW.top d e ((hE _ _).1 h),fun d e h=>by rw [hK _ (hno d e ((hE _ _).1 h))];exact hW.kid d e ((hE _ _).1 h),fun i hx hi hi1=>?_,
  fun a b e e' h h' hee hk=>hW.one a b e e' ((hE _ _).1 h) ((hE _ _).1 h') hee (by rw [←hK _ (hno a e ((hE _ _).1 h))];exact hk),⟨rk,fun d e h hk=>hrk d e ((hE _ _).1 h) (by rw [←hK _ (hno d e ((hE _ _).1 h))];exact hk)⟩,fun i hx hi hk=>?_,fun i hi=>?_⟩
 ·
  have hin:i≠n:=fun e=>by rw [e,hz] at hi;cases hi
  rw [hK i hin] at hi
  obtain ⟨d,e,h,hei⟩:=hW.has i (fun h=>(hY i h).elim hin hx) hi hi1
  exact ⟨d,e,(hE _ _).2 h,hei⟩
 ·
  have hin:i≠n:=fun e=>by rw [e,hz] at hi;cases hi
  rw [hK i hin] at hi hk
  rcases hW.opn i (fun h=>(hY i h).elim hin hx) hi hk with ⟨d,e,h,hei⟩ | h
  · exact .inl ⟨d,e,(hE _ _).2 h,hei⟩
  · exact .inr h
 · rw [hK i (fun e=>ho (e▸hi))];exact hW.fil i hi
theorem TreeW.free {T:Tab} {o X Y:List Int} (hT:Gd T) (hW:TreeW T o X) {n:Int} (h1:n≠1) (hne:(T.get n).1.ents=[]) (hY:∀i,i∈X→i=n∨i∈Y):TreeW (freeF T n o).2 o Y:=by
 unfold freeF
 split
 ·
  rename_i h
  show TreeW T o Y
  refine ⟨hW.root,hW.top,hW.kid,fun i hx hi hi1=>?_,hW.one,hW.rk,fun i hx hi hk=>?_,hW.fil⟩
  ·
   by_cases hin:i=n
   ·
    subst hin
    rcases h with (h | h) | h
    · exact absurd h h1
    · exact (links_pos hT.1 _).1 h
    ·
     obtain ⟨y,hy,hyi⟩:=List.any_eq_true.1 h
     have:i=y:=by simpa using hyi
     subst this
     have:=hW.fil i hy;omega
   · exact hW.has i (fun h=>(hY i h).elim hin hx) hi hi1
  ·
   by_cases hin:i=n
   ·
    subst hin
    rcases h with (h | h) | h
    · exact absurd h h1
    · exact .inl ((links_pos hT.1 _).1 h)
    ·
     obtain ⟨y,hy,hyi⟩:=List.any_eq_true.1 h
     have:i=y:=by simpa using hyi
     subst this
     exact .inr hy
   · exact hW.opn i (fun h=>(hY i h).elim hin hx) hi hk
 ·
  rename_i h
  show TreeW (dropT T n) o Y
  refine hW.gone hT h1 (fun d e he hei=>h (.inl (.inr ((links_pos hT.1 n).2 ⟨d,e,he,hei⟩)))) hne (fun ho=>h (.inr (List.any_eq_true.2 ⟨n,ho,by simp⟩))) hY
theorem up_sub {T U:Tab} {o X:List Int} (hT:Gd T) (hU:Gd U) (hW:TreeW T o X) (hWU:TreeW U o X∨U.parent 0=0) (hE:∀d e,Ent U d e→Ent T d e) {i:Int} (hi:(T.get i).1.kind=2):∀k,up U k i≠0→up U k i=up T k i∧(T.get (up U k i)).1.kind=2
 | 0, _=>⟨rfl,hi⟩
 | k+1,h=>by
  have h0:U.parent 0=0:=hWU.elim (fun h=>par_zero hU h) id
  have hk:up U k i≠0:=fun e=>h (by show U.parent (up U k i)=0;rw [e,h0])
  obtain ⟨h1,h2⟩:=up_sub hT hU hW hWU hE hi k hk
  obtain ⟨e,he,hei⟩:=par_pos hU.1 (i:=up U k i) h
  have heT:=hE _ _ he
  have:T.parent (up U k i)=U.parent (up U k i):=by
   have:=hW.par hT heT (by rw [hei];exact h2)
   rw [hei] at this;exact this
  refine ⟨?_,ent_dir hT heT⟩
  show U.parent (up U k i)=T.parent (up T k i)
  rw [←h1,this]
theorem TreeW.ins {T U:Tab} {o X Y:List Int} (hT:Gd T) (hW:TreeW T o X) {d n:Int} {s:List UInt8} (hd:(T.get d).1.kind=2) (hn:(T.get n).2=true) (hn1:n≠1) (hdir:(T.get n).1.kind=2→(∀d' e,Ent T d' e→e.2≠n)∧∀k,up T k d≠n)
 (hY:∀i,i∈X→i=n∨i∈Y) (hU:∀i,U.get i=if i=d then (nWith (T.get d).1 (insF (T.get d).1.ents s n),true) else T.get i):TreeW U o Y:=by
 obtain ⟨rk,hrk⟩:=hW.rk
 have hE:∀d' e,Ent U d' e↔(d'=d∧e=(s,n))∨Ent T d' e:=fun d' e=>by
  unfold Ent
  rw [hU]
  by_cases h1:d'=d
  ·
   rw [if_pos h1]
   show e∈insF _ _ _↔_
   rw [mem_insF,h1];simp
  · rw [if_neg h1];simp [h1]
 have hK:∀i,(U.get i).1.kind=(T.get i).1.kind∧(U.get i).2=(T.get i).2:=fun i=>by
  rw [hU]
  split
  · rename_i h;subst h;exact ⟨rfl,(get_kind_at (by rw [hd];decide)).symm⟩
  · exact ⟨rfl,rfl⟩
 refine ⟨by rw [(hK 1).1];exact hW.root,fun d' e h=>?_,fun d' e h=>?_,fun i hx hi h1=>?_,fun a b e e' h h' hee hkk=>?_,?_,fun i hx hi hkk=>?_,fun i hi=>by rw [(hK i).1];exact hW.fil i hi⟩
 ·
  rcases (hE d' e).1 h with ⟨_,rfl⟩ | h
  · exact hn1
  · exact hW.top d' e h
 ·
  rw [(hK _).2]
  rcases (hE d' e).1 h with ⟨_,rfl⟩ | h
  · exact hn
  · exact hW.kid d' e h
 ·
  by_cases e:i=n
  · exact ⟨d,(s,n),(hE _ _).2 (.inl ⟨rfl,rfl⟩),e.symm⟩
  ·
   rw [(hK i).1] at hi
   obtain ⟨d',e',h,h2⟩:=hW.has i (fun h=>(hY i h).elim e hx) hi h1
   exact ⟨d',e',(hE _ _).2 (.inr h),h2⟩
 ·
  rw [(hK _).1] at hkk
  rcases (hE a e).1 h with ⟨rfl,rfl⟩ | h
  ·
   rcases (hE b e').1 h' with ⟨rfl,rfl⟩ | h'
   · exact ⟨rfl,rfl⟩
   · exact absurd hee.symm ((hdir hkk).1 b e' h')
  ·
   rcases (hE b e').1 h' with ⟨rfl,rfl⟩ | h'
   · exact absurd hee ((hdir (by rw [hee] at hkk;exact hkk)).1 a e h)
   · exact hW.one a b e e' h h' hee hkk
 ·
  by_cases hnd:(T.get n).1.kind=2
  ·
   obtain ⟨hno,hup⟩:=hdir hnd
   refine ⟨fun i=>@ite Nat (∃k,up T k i=n) (Classical.propDecidable _) (rk i+(rk d+1)) (rk i),fun d' e h hkk=>?_⟩
   rw [(hK _).1] at hkk
   dsimp only
   rcases (hE d' e).1 h with ⟨rfl,rfl⟩ | h
   · rw [if_neg (fun ⟨k,hk⟩=>hup k hk),if_pos ⟨0,rfl⟩];omega
   ·
    have hlt:=hrk d' e h hkk
    have hp:=hW.par hT h hkk
    have hiff:(∃k,up T k e.2=n)↔∃k,up T k d'=n:=by
     constructor
     ·
      rintro ⟨k,hk⟩
      cases k with
      | zero=>exact absurd hk (hno d' e h)
      | succ k=>exact ⟨k,by rw [←hp,up_in];exact hk⟩
     · rintro ⟨k,hk⟩;exact ⟨k+1,by rw [←up_in,hp];exact hk⟩
    by_cases hc:∃k,up T k d'=n
    · rw [if_pos hc,if_pos (hiff.2 hc)];omega
    · rw [if_neg hc,if_neg (fun h=>hc (hiff.1 h))];exact hlt
  ·
   refine ⟨rk,fun d' e h hkk=>?_⟩
   rw [(hK _).1] at hkk
   rcases (hE d' e).1 h with ⟨rfl,rfl⟩ | h
   · exact absurd hkk hnd
   · exact hrk d' e h hkk
 ·
  by_cases e:i=n
  · exact .inl ⟨d,(s,n),(hE _ _).2 (.inl ⟨rfl,rfl⟩),e.symm⟩
  ·
   rw [(hK i).1] at hkk
   rw [(hK i).2] at hi
   rcases hW.opn i (fun h=>(hY i h).elim e hx) hi hkk with ⟨d',e',h,h2⟩ | h
   · exact .inl ⟨d',e',(hE _ _).2 (.inr h),h2⟩
   · exact .inr h
theorem below_up {T:Tab} {n:Int}:∀(m:Nat) (i:Int),belowL T n m i=false→(∀k,k≤m→(∀j,j≤k→up T j i≠0)→up T k i≠n)
 | 0,i,h,k,hk, _=>by
  have:k=0:=by omega
  subst this
  show i≠n
  simpa [belowL] using h
 | m+1,i,h,k,hk,hz=>by
  unfold belowL at h
  have h0:=hz 0 (Nat.zero_le _)
  split at h
  ·
   rename_i hc
   rcases hc with hc | hc
   · simp [hc] at h
   · exact absurd hc h0
  ·
   rename_i hc
   cases k with
   | zero=>exact fun e=>hc (.inl e)
   | succ k=>
    have:=below_up m (T.parent i) h k (by omega) (fun j hj=>by rw [up_in];exact hz (j+1) (by omega))
    rwa [up_in] at this
theorem up_zero {T:Tab} (h:T.parent 0=0) {i:Int} {k:Nat} (hk:up T k i=0):∀m,k≤m→up T m i=0
 | 0,hm=>by rw [show k=0 by omega] at hk;exact hk
 | m+1,hm=>by
  by_cases e:k=m+1
  · rw [←e];exact hk
  ·
   show T.parent (up T m i)=0
   rw [up_zero h hk m (by omega),h]
theorem below_never {T:Tab} {o:List Int} (hT:Gd T) (hW:TreeW T o []) {n d:Int} (hn:n≠0) (hd:(T.get d).1.kind=2) (h:belowL T n 24 d=false):∀k,up T k d≠n:=by
 intro k hk
 obtain ⟨m,hm,h1⟩:=hW.reach hT hd
 have hp0:=par_zero hT hW
 have hz:up T (m+1) d=0:=by show T.parent (up T m d)=0;rw [h1,par_one hT hW]
 have hkm:k≤m:=by
  apply Classical.byContradiction
  intro hc
  have:=up_zero hp0 hz k (by omega)
  rw [this] at hk;exact hn hk.symm
 refine below_up 24 d h k (by omega) (fun j hj hj0=>?_) hk
 have:=up_zero hp0 hj0 k hj
 rw [this] at hk;exact hn hk.symm
end Go.Proofs.YtmgnbgniikjhdaaGreat
