import Derived.Test.YtjmlgeckgieaaaaGreatP6
/-
  CALLS: what fails changes nothing.
-/
set_option linter.unusedVariables false
set_option linter.unusedSimpArgs false
namespace Go.Proofs.YtjmlgeckgieaaaaGreat
open Go.Ab
set_option maxRecDepth 8000
set_option maxHeartbeats 400000
theorem free_spec {T:Tab} (hT:T.Ok) {i:Nat} (h:T.free=some i):(i:Int)+1≤T.room∧T.at ((i:Int)+1)=none∧T.ns.getD i nd0=nd0:=by
 unfold Tab.free at h
 obtain ⟨h1,l1,l2,h2, _⟩:=List.find?_eq_some_iff_append.1 h
 have hmem:i∈List.range T.room.toNat:=by rw [h2];simp
 have hlt:=List.mem_range.1 hmem
 have ha:T.at ((i:Int)+1)=none:=by simpa using h1
 refine ⟨by omega,ha,?_⟩
 unfold Tab.at at ha
 split at ha
 · cases ha
 ·
  rename_i hc
  rw [show ((i:Int)+1 - 1).toNat=i by omega] at hc
  have hk:(T.ns.getD i nd0).kind=0:=Classical.not_not.1 fun hk=>hc ⟨by omega,by omega,hk⟩
  have hl:=hT.len
  have hr:=hT.hi
  have hi:i<T.ns.length:=by omega
  rw [List.getD_eq_getElem?_getD,List.getElem?_eq_getElem hi] at hk ⊢
  exact hT.zero _ (List.getElem_mem hi) hk
theorem addT_bad {T:Tab} {n:Nd} (h:(addT T n).1.2≠0):(addT T n).2=T:=by
 unfold addT at h ⊢
 split
 · rfl
 ·
  rename_i hr
  rw [if_neg hr] at h
  split
  · rename_i i hf;rw [hf] at h;exact absurd rfl h
  · rfl
theorem addT_good {T:Tab} {n:Nd} (h:(addT T n).1.2=0):rightF n=true∧∃i,T.free=some i∧addT T n=(((i:Int)+1,0),T.put i n):=by
 unfold addT at h ⊢
 split
 · rename_i hr;rw [if_pos hr] at h;cases h
 ·
  rename_i hr
  rw [if_neg hr] at h
  refine ⟨by simpa using hr,?_⟩
  split
  · rename_i i hf;exact ⟨i,hf,rfl⟩
  · rename_i hf;rw [hf] at h;cases h
theorem get_isat {T:Tab} {i:Int} (h:(T.get i).2=true):∃j,T.at i=some j∧(j:Int)+1=i∧i≤T.room:=by
 cases ha:T.at i with
 | none=>rw [get_no ha] at h;cases h
 | some j=>
  obtain ⟨h1,h2,h3⟩:=at_room ha
  exact ⟨j,rfl,by omega,h3⟩
theorem get_kind_at {T:Tab} {i:Int} (h:(T.get i).1.kind≠0):(T.get i).2=true:=by
 cases ha:T.at i with
 | none=>rw [get_no ha] at h;exact absurd rfl h
 | some j=>rw [get_at ha]
theorem putT_get {T:Tab} (hT:T.Ok) {i:Int} {n:Nd} (hn:NdOk n) (hr:rightF n=true) (h:(T.get i).2=true):(putT T i n).1=0∧∀k,(putT T i n).2.get k=if k=i then (n,true) else T.get k:=by
 obtain ⟨j,ha,hj,hro⟩:=get_isat h
 have e:putT T i n=(0,T.put j n):=by unfold putT;rw [ha];simp only [hr];rfl
 rw [e]
 refine ⟨rfl,fun k=>?_⟩
 rw [get_put hT hn (rightF_kind hr) (by omega),hj]
theorem put_back {T:Tab} (hT:T.Ok) {n:Nd} (hn:NdOk n) (hr:rightF n=true) {i:Nat} (h:T.free=some i):dropT (T.put i n) ((i:Int)+1)=T:=by
 obtain ⟨h1,h2,h3⟩:=free_spec hT h
 have hg:((T.put i n).get ((i:Int)+1)).2=true:=by rw [get_put hT hn (rightF_kind hr) h1,if_pos rfl]
 obtain ⟨j,ha,hj, _⟩:=get_isat hg
 have e:j=i:=by omega
 subst e
 unfold dropT
 rw [ha]
 show (⟨T.room,(T.ns.set j n).set j nd0⟩:Tab)=T
 rw [List.set_set]
 have:T.ns.set j nd0=T.ns:=by
  refine List.ext_getElem (by simp) fun k k1 k2=>?_
  rw [List.getElem_set]
  split
  ·
   rename_i e;subst e
   rw [List.getD_eq_getElem?_getD,List.getElem?_eq_getElem k2] at h3
   exact h3.symm
  · rfl
 rw [this]
theorem add_get {T:Tab} (hT:T.Ok) {n:Nd} (hn:NdOk n) (h:(addT T n).1.2=0):(T.get (addT T n).1.1).2=false∧∀k,(addT T n).2.get k=if k=(addT T n).1.1 then (n,true) else T.get k:=by
 obtain ⟨hr,i,hf,e⟩:=addT_good h
 obtain ⟨h1,h2, _⟩:=free_spec hT hf
 rw [e]
 exact ⟨by show (T.get ((i:Int)+1)).2=false;rw [get_no h2],fun k=>get_put hT hn (rightF_kind hr) h1 k⟩
theorem chgF_bad {T:Tab} {c:Cr} {p:List UInt8} {fl:Bool} {g:Nd→Nd×Int} (h:(chgF T c p fl g).1≠0):(chgF T c p fl g).2=T:=by
 unfold chgF at h ⊢
 split
 · rfl
 ·
  rename_i h1
  rw [if_neg h1] at h
  split
  · rfl
  ·
   rename_i h2
   rw [if_neg h2] at h
   split
   · rfl
   ·
    rename_i h3
    rw [if_neg h3] at h
    unfold putT at h ⊢
    split
    · rfl
    ·
     rename_i j hj
     simp only [hj] at h
     split
     · rfl
     · rename_i hr;rw [if_neg hr] at h;exact absurd rfl h
theorem plantF_bad {T:Tab} (hT:Gd T) {c:Cr} {p:List UInt8} {fl:Bool} {g:Nd→Nd} (hg:∀n,NdOk n→NdOk (g n)) (h:(plantF T c p fl g).1.2≠0):(plantF T c p fl g).2=T:=by
 have hno:NdOk (ownN c (T.get (rD T c p fl)).1 (g (T.get (rD T c p fl)).1)):=ownN_ok (hg _ (hT.nd _))
 have hnm:=resF_nm T c p fl
 unfold plantF at h ⊢
 split
 · rfl
 rename_i h1;rw [if_neg h1] at h
 split
 · rfl
 rename_i h2;rw [if_neg h2] at h
 split
 · rfl
 rename_i h3;rw [if_neg h3] at h
 split
 · rfl
 rename_i h4;rw [if_neg h4] at h
 split
 · rename_i h5;exact addT_bad h5
 rename_i h5;rw [if_neg h5] at h
 have h50:=Classical.not_not.1 h5
 split
 ·
  obtain ⟨hr,i,hf,e⟩:=addT_good h50
  rw [e]
  exact put_back hT.1 hno hr hf
 ·
  rename_i h6;rw [if_neg h6] at h
  exfalso
  have h60:=Classical.not_not.1 h6
  obtain ⟨hf,hga⟩:=add_get hT.1 hno h50
  have hd:(T.get (rD T c p fl)).1.kind≠0:=by
   intro h0
   unfold withN at h60
   rw [if_pos (by rw [h0];decide)] at h60
   cases h60
  have hdi:=get_kind_at hd
  refine h (putT_get (addT_ok hT.1 hno) (withN_ok (hT.nd _) (by omega)) (withN_right (hT.2.kind hd) h60) ?_).1
  rw [hga]
  split
  · rfl
  · exact hdi
def remL (l:List En) (s:List UInt8):List En:=if idxP (eqS s) l<0 then l else l.take (idxP (eqS s) l).toNat++l.drop ((idxP (eqS s) l).toNat+1)
theorem remL_sub (l:List En) (s:List UInt8):(remL l s).Sublist l:=by
 unfold remL
 split
 · exact List.Sublist.refl _
 ·
  have:=(List.Sublist.refl (l.take (idxP (eqS s) l).toNat)).append (List.drop_sublist_drop_left l (Nat.le_succ (idxP (eqS s) l).toNat))
  rwa [List.take_append_drop] at this
theorem remL_len {l:List En} {s:List UInt8} (h:0≤idxP (eqS s) l):(remL l s).length+1=l.length:=by
 have:=idxP_range (eqS s) l
 unfold remL
 rw [if_neg (by omega),List.length_append,List.length_take,List.length_drop];omega
theorem remL_ne {l:List En} {s:List UInt8} (hr:RisP l):∀e∈remL l s,e.1≠s:=by
 intro e he
 unfold remL at he
 split at he
 · rename_i h;exact idx_none h e he
 ·
  rename_i h
  have hrg:=idxP_range (eqS s) l
  rcases idxP_spec (eqS s) ([],0) l with ⟨h1, _⟩ | ⟨k,h1,h2,h3⟩
  · omega
  ·
   rw [h1,Int.toNat_natCast] at he
   rw [List.getD_eq_getElem?_getD,List.getElem?_eq_getElem h2] at h3
   have hks:l[k].1=s:=by simpa [eqS] using h3
   have hp:=List.pairwise_iff_getElem.1 hr
   intro hes
   rcases List.mem_append.1 he with he | he
   ·
    obtain ⟨j,hj,rfl⟩:=List.mem_iff_getElem.1 he
    rw [List.length_take] at hj
    rw [List.getElem_take] at hes
    have:=hp j k (by omega) h2 (by omega)
    rw [hes,hks] at this
    exact absurd (bl_asym _ _ this) (by rw [this];decide)
   ·
    obtain ⟨j,hj,rfl⟩:=List.mem_iff_getElem.1 he
    rw [List.length_drop] at hj
    rw [List.getElem_drop] at hes
    have:=hp k (k+1+j) h2 (by omega) (by omega)
    rw [hes,hks] at this
    exact absurd (bl_asym _ _ this) (by rw [this];decide)
theorem remL_mem {l:List En} {s:List UInt8} {e:En} (he:e∈l) (hn:e.1≠s):e∈remL l s:=by
 unfold remL
 split
 · exact he
 ·
  rcases idxP_spec (eqS s) ([],0) l with ⟨h1, _⟩ | ⟨k,h1,h2,h3⟩
  · omega
  ·
   rw [h1,Int.toNat_natCast]
   rw [List.getD_eq_getElem?_getD,List.getElem?_eq_getElem h2] at h3
   have hks:l[k].1=s:=by simpa [eqS] using h3
   rw [←List.take_append_drop k l,List.mem_append] at he
   rcases he with he | he
   · exact List.mem_append_left _ he
   ·
    rw [List.drop_eq_getElem_cons h2,List.mem_cons] at he
    rcases he with rfl | he
    · exact absurd hks hn
    · exact List.mem_append_right _ he
theorem risP_of {n:Nd} (h:rightF n=true):RisP n.ents∧n.ents.length≤8∧∀e∈n.ents,nameF e.1=true∧1≤e.2:=by
 obtain ⟨_,h | h | h⟩:=right_cases h
 · rw [h.2.1];exact ⟨List.Pairwise.nil,by simp,fun e he=>nomatch he⟩
 ·
  obtain ⟨h1,h2,h3⟩:=(rising_iff _).1 h.2.2.2
  exact ⟨h2,h3,h1⟩
 · rw [h.2.2.1];exact ⟨List.Pairwise.nil,by simp,fun e he=>nomatch he⟩
theorem rem_right {n:Nd} (h:rightF n=true) (hk:n.kind=2) (s:List UInt8):rightF (nWith n (remL n.ents s))=true:=by
 obtain ⟨hc,hh⟩:=right_cases h
 obtain ⟨h1,h2,h3⟩:=risP_of h
 rcases hh with hh | hh | hh
 · omega
 ·
  refine right_dir hk hc hh.2.1 hh.2.2.1 ((rising_iff _).2 ⟨fun e he=>h3 e ((remL_sub _ _).subset he),h1.sublist (remL_sub _ _),?_⟩)
  exact Nat.le_trans (remL_sub _ _).length_le h2
 · omega
theorem nWith_self (n:Nd):nWith n n.ents=n:=rfl
theorem cut_get {T:Tab} (hT:Gd T) (d:Int) (s:List UInt8) (k:Int):(cutF T d s).get k=if k=d∧(T.get d).1.kind=2 then (nWith (T.get d).1 (remL (T.get d).1.ents s),true) else T.get k:=by
 unfold cutF
 by_cases hk:(T.get d).1.kind=2
 ·
  have hdi:=get_kind_at (T:=T) (i:=d) (by omega)
  by_cases hi:idxP (eqS s) (T.get d).1.ents<0
  ·
   have e:withoutN (T.get d).1 s=(nd0,2):=by unfold withoutN;rw [if_neg (fun h=>h hk),if_pos hi]
   rw [e,if_neg (by decide)]
   split
   ·
    rename_i h
    rw [h.1]
    have e2:remL (T.get d).1.ents s=(T.get d).1.ents:=by unfold remL;rw [if_pos hi]
    rw [e2,nWith_self,←hdi]
   · rfl
  ·
   have e:withoutN (T.get d).1 s=(nWith (T.get d).1 (remL (T.get d).1.ents s),0):=by unfold withoutN remL;rw [if_neg (fun h=>h hk),if_neg hi,if_neg hi]
   have hno:NdOk (nWith (T.get d).1 (remL (T.get d).1.ents s)):=by
    have:=withoutN_ok (s:=s) (hT.nd d)
    rw [e] at this;exact this
   rw [e,if_pos rfl,(putT_get hT.1 hno (rem_right (hT.2.kind (by omega)) hk s) hdi).2]
   by_cases hkd:k=d
   · rw [if_pos hkd,if_pos ⟨hkd,hk⟩]
   · rw [if_neg hkd,if_neg (fun h=>hkd h.1)]
 ·
  have e:withoutN (T.get d).1 s=(nd0,20):=by unfold withoutN;rw [if_pos hk]
  rw [e,if_neg (by decide),if_neg (fun h=>hk h.2)]
theorem findF_pos {n:Nd} (h:rightF n=true) {s:List UInt8}:(findF n s=0∧idxP (eqS s) n.ents<0)∨(1≤findF n s∧0≤idxP (eqS s) n.ents∧(s,findF n s)∈n.ents):=by
 unfold findF
 rcases idxP_spec (eqS s) ([],0) n.ents with ⟨h1, _⟩ | ⟨k,h1,h2,h3⟩
 · left;rw [if_neg (by omega)];exact ⟨rfl,h1⟩
 ·
  right
  rw [if_pos (by omega),h1,Int.toNat_natCast]
  rw [List.getD_eq_getElem?_getD,List.getElem?_eq_getElem h2] at h3 ⊢
  have hks:n.ents[k].1=s:=by simpa [eqS] using h3
  refine ⟨((risP_of h).2.2 _ (List.getElem_mem h2)).2,by omega,?_⟩
  rw [←hks];exact List.getElem_mem h2
theorem findE_zero {T:Tab} {c:Cr} {p:List UInt8} (h:findE T c p=0):rE T c p false=0∧rN T c p false≠0∧rS T c p false≠[]∧canT c T (rD T c p false) 2=true:=by
 unfold findE at h
 split at h
 · rename_i h1;exact absurd h h1
 rename_i h1
 split at h
 · cases h
 rename_i h2
 split at h
 · cases h
 rename_i h3
 split at h
 · cases h
 rename_i h4
 exact ⟨Classical.not_not.1 h1,h2,h3,by simpa using h4⟩
theorem renL_good {T:Tab} (hT:Gd T) {c:Cr} {p q:List UInt8} (o:List Int) (hp:findE T c p=0) (hq:rE T c q false=0) (hs:rS T c q false≠[]) {U:Tab} (hU:(rN T c q false≠0∧U=cutF T (rD T c q false) (rS T c q false))∨(rN T c q false=0∧U=T∧(rD T c q false=rD T c p false∨(T.get (rD T c q false)).1.ents.length<8))) :
 (withN ((cutF U (rD T c p false) (rS T c p false)).get (rD T c q false)).1 (rS T c q false) (rN T c p false)).2=0∧(putT (cutF U (rD T c p false) (rS T c p false)) (rD T c q false) (withN ((cutF U (rD T c p false) (rS T c p false)).get (rD T c q false)).1 (rS T c q false) (rN T c p false)).1).1=0:=by
 obtain ⟨p1,p2,p3,p4⟩:=findE_zero hp
 have hpa:=resF_at hT.2 c p false p1
 have hqa:=resF_at hT.2 c q false hq
 have hnm:=resF_nm T c q false
 generalize rD T c p false=dp at *
 generalize rS T c p false=sp at *
 generalize rN T c p false=np at *
 generalize rD T c q false=dq at *
 generalize rS T c q false=sq at *
 generalize rN T c q false=nq at *
 rcases hpa with hpa | ⟨pk,pn, -, -, -,pf⟩
 · exact absurd hpa.1 p3
 rcases hqa with hqa | ⟨qk,qn,q1,q2,q3,qf⟩
 · exact absurd hqa.1 hs
 dsimp only at pk pn pf qk qn q1 q2 q3 qf
 have hUg:Gd U:=by
  rcases hU with ⟨_,rfl⟩ | ⟨_,rfl, _⟩
  · exact hT.cut _ _
  · exact hT
 have hCg:Gd (cutF U dp sp):=hUg.cut _ _
 have hpr:=hT.2.kind (i:=dp) (by omega)
 have hqr:=hT.2.kind (i:=dq) (by omega)
 have key:((cutF U dp sp).get dq).1.kind=2∧(∀e∈((cutF U dp sp).get dq).1.ents,e.1≠sq)∧((cutF U dp sp).get dq).1.ents.length<8:=by
  have hU2:(U.get dq).1.kind=2∧(∀e∈(U.get dq).1.ents,e.1≠sq)∧((U.get dq).1.ents.length<8∨(dq=dp∧0≤idxP (eqS sp) (U.get dq).1.ents∧(U.get dq).1.ents.length≤8)):=by
   rcases hU with ⟨hn,rfl⟩ | ⟨hn,rfl,hd⟩
   ·
    rw [cut_get hT,if_pos ⟨rfl,qk⟩]
    refine ⟨qk,remL_ne (risP_of hqr).1,.inl ?_⟩
    rcases findF_pos hqr (s:=sq) with ⟨f1, _⟩ | ⟨f1,f2,f3⟩
    · omega
    ·
     have:=remL_len f2
     have:=(risP_of hqr).2.1
     show (remL _ _).length<8;omega
   ·
    rcases findF_pos hqr (s:=sq) with ⟨f1,f2⟩ | ⟨f1,f2,f3⟩
    ·
     refine ⟨qk,idx_none f2,?_⟩
     rcases hd with hd | hd
     ·
      subst hd
      rcases findF_pos hpr (s:=sp) with ⟨g1, _⟩ | ⟨g1,g2,g3⟩
      · omega
      · exact .inr ⟨rfl,g2,(risP_of hqr).2.1⟩
     · exact .inl hd
    · omega
  obtain ⟨u1,u2,u3⟩:=hU2
  rw [cut_get hUg]
  split
  ·
   rename_i h
   obtain ⟨h1,h2⟩:=h
   subst h1
   refine ⟨u1,fun e he=>u2 e ((remL_sub _ _).subset he),?_⟩
   show (remL _ _).length<8
   rcases u3 with u3 | ⟨_,u4,u5⟩
   · exact Nat.lt_of_le_of_lt (remL_sub _ _).length_le u3
   · have:=remL_len u4;omega
  ·
   rename_i h
   refine ⟨u1,u2,u3.elim id fun u3=>?_⟩
   exact absurd ⟨u3.1,by rw [←u3.1];exact u1⟩ h
 obtain ⟨k1,k2,k3⟩:=key
 have hnp:1≤np:=by
  rcases findF_pos hpr (s:=sp) with ⟨g1, _⟩ | ⟨g1,g2,g3⟩
  · omega
  · omega
 have hw:(withN ((cutF U dp sp).get dq).1 sq np).2=0:=by
  unfold withN
  have hb:badN sq np=false:=by
   unfold badN
   rw [decide_eq_false (by omega),decide_eq_false qn.1,decide_eq_false q1,decide_eq_false q2,qn.2];rfl
  have hx:¬0≤idxP (eqS sq) ((cutF U dp sp).get dq).1.ents:=by
   rcases idxP_spec (eqS sq) ([],0) ((cutF U dp sp).get dq).1.ents with ⟨h1, _⟩ | ⟨k,h1,h2,h3⟩
   · omega
   ·
    rw [List.getD_eq_getElem?_getD,List.getElem?_eq_getElem h2] at h3
    exact absurd (by simpa [eqS] using h3) (k2 _ (List.getElem_mem h2))
  rw [if_neg (fun h=>h k1),hb,cond_false,if_neg (by omega),if_neg hx,if_neg (by omega)]
 refine ⟨hw,(putT_get hCg.1 (withN_ok (hCg.nd _) (by omega)) (withN_right (hCg.2.kind (by omega)) hw) (get_kind_at (by omega))).1⟩
theorem renameF_bad {T:Tab} (hT:Gd T) {c:Cr} {p q:List UInt8} {o:List Int} (h:(renameF T c p q o).1≠0):(renameF T c p q o).2=T:=by
 unfold renameF at h ⊢
 split
 · rfl
 rename_i h1;rw [if_neg h1] at h
 split
 · rfl
 rename_i h2;rw [if_neg h2] at h
 split
 · rfl
 rename_i h3;rw [if_neg h3] at h
 split
 · rfl
 rename_i h4;rw [if_neg h4] at h
 split
 · rfl
 rename_i h5;rw [if_neg h5] at h
 split
 · rfl
 rename_i h6;rw [if_neg h6] at h
 split
 · rfl
 rename_i h7;rw [if_neg h7] at h
 split
 ·
  rename_i h8
  rw [if_pos h8] at h
  split
  · rfl
  ·
   rename_i h9
   rw [if_neg h9] at h
   obtain ⟨g1,g2⟩:=renL_good hT o (Classical.not_not.1 h1) (Classical.not_not.1 h2) h3 (.inl ⟨h8,rfl⟩)
   unfold renL at h
   rw [if_pos g1] at h
   exact absurd g2 h
 ·
  rename_i h8
  rw [if_neg h8] at h
  have h80:=Classical.not_not.1 h8
  obtain ⟨g1,g2⟩:=renL_good hT o (Classical.not_not.1 h1) (Classical.not_not.1 h2) h3 (.inr ⟨h80,rfl,by
   by_cases e:rD T c q false=rD T c p false
   · exact .inl e
   ·
    exact .inr (by
     by_cases e8:(8:Int)≤(T.get (rD T c q false)).1.ents.length
     · exact absurd ⟨h80,e,e8⟩ h7
     · omega)⟩)
  unfold renL at h
  rw [if_pos g1] at h
  exact absurd g2 h
theorem chaF_bad {T:Tab} (hT:Gd T) {P:Pr} {ca:Ca} {o:List Int} (h:(chaF T P ca o).1≠0):(chaF T P ca o).2=T:=by
 have hp:∀(c:Cr) (p:List UInt8) (fl:Bool) (g:Nd→Nd),(∀n,NdOk n→NdOk (g n))→(plantF T c p fl g).1.2≠0→(plantF T c p fl g).2=T:=fun c p fl g hg h=>plantF_bad hT hg h
 unfold chaF at h ⊢
 split
 ·
  rename_i h1;rw [if_pos h1] at h
  unfold chmodF at h ⊢
  split
  · rfl
  · rename_i h2;rw [if_neg h2] at h;exact chgF_bad h
 rename_i h1;rw [if_neg h1] at h
 split
 ·
  rename_i h2;rw [if_pos h2] at h
  exact hp _ _ _ _ (fun n hn=>⟨Nat.zero_le _,Nat.zero_le _,Nat.zero_le _,fun e he=>nomatch he⟩) h
 rename_i h2;rw [if_neg h2] at h
 split
 ·
  rename_i h3;rw [if_pos h3] at h
  unfold symlinkF at h ⊢
  split
  · rfl
  rename_i k1;rw [if_neg k1] at h
  split
  · rfl
  rename_i k2;rw [if_neg k2] at h
  split
  · rfl
  rename_i k3;rw [if_neg k3] at h
  exact hp _ _ _ _ (fun n hn=>⟨Nat.zero_le _,Nat.zero_le _,(by show ca.other.length≤1000;omega),fun e he=>nomatch he⟩) h
 rename_i h3;rw [if_neg h3] at h
 split
 ·
  rename_i h4;rw [if_pos h4] at h
  unfold unlinkF at h ⊢
  split
  · rfl
  rename_i k1;rw [if_neg k1] at h
  split
  · rfl
  rename_i k2;rw [if_neg k2] at h
  exact absurd rfl h
 rename_i h4;rw [if_neg h4] at h
 split
 ·
  rename_i h5;rw [if_pos h5] at h
  unfold rmdirF at h ⊢
  split
  · rfl
  rename_i k1;rw [if_neg k1] at h
  split
  · rfl
  rename_i k2;rw [if_neg k2] at h
  split
  · rfl
  rename_i k3;rw [if_neg k3] at h
  exact absurd rfl h
 rename_i h5;rw [if_neg h5] at h
 split
 · rename_i h6;rw [if_pos h6] at h;exact renameF_bad hT h
 rename_i h6;rw [if_neg h6] at h
 unfold chownF at h ⊢
 split
 · rfl
 · rename_i h7;rw [if_neg h7] at h;exact chgF_bad h
theorem openF_bad {T:Tab} (hT:Gd T) {c:Cr} {um:Int} {p:List UInt8} {f m:Int} (h:(openF T c um p f m).1.2≠0):(openF T c um p f m).2=T:=by
 unfold openF at h ⊢
 split
 · rfl
 rename_i h1;rw [if_neg h1] at h
 split
 · rfl
 rename_i h2;rw [if_neg h2] at h
 split
 ·
  rename_i h3;rw [if_pos h3] at h
  split
  · rfl
  ·
   rename_i h4;rw [if_neg h4] at h
   exact plantF_bad hT (fun n hn=>⟨Nat.zero_le _,Nat.zero_le _,Nat.zero_le _,fun e he=>nomatch he⟩) h
 rename_i h3;rw [if_neg h3] at h
 split
 · rfl
 rename_i h4;rw [if_neg h4] at h
 split
 · rfl
 rename_i h5;rw [if_neg h5] at h
 split
 · rfl
 rename_i h6;rw [if_neg h6] at h
 generalize bits .or .i64 (if hasF f 1=true then 4 else 0) (if hasF f 2=true then 2 else 0)=w at h ⊢
 split
 · rfl
 rename_i h7;rw [if_neg h7] at h
 split
 · rename_i h8;rw [if_pos h8] at h;exact absurd rfl h
 · rfl
theorem writeAtF_bad {T:Tab} {c:Cr} {i off:Int} {b:List UInt8} (h:(writeAtF T c i off b).1≠0):(writeAtF T c i off b).2=T:=by
 unfold writeAtF at h ⊢
 split
 · rfl
 rename_i h1;rw [if_neg h1] at h
 split
 · rfl
 rename_i h2;rw [if_neg h2] at h
 split
 · rfl
 rename_i h3;rw [if_neg h3] at h
 split
 · rfl
 rename_i h4;rw [if_neg h4] at h
 exact absurd rfl h
theorem put_node (P:Pr) (i j:Nat) (f:Fde) (h:f.node=(P.fd i).node) (hi:i<3):((P.put i f).fd j).node=(P.fd j).node:=by
 rcases (show i=0∨i=1∨i=2 by omega) with rfl | rfl | rfl<;>match j with
 | 0=>first | exact h | rfl
 | 1=>first | exact h | rfl
 | j+2=>first | exact h | rfl
theorem prO_same {P Q:Pr} (h:∀j,(P.fd j).node=(Q.fd j).node) (n:Nat):prO P n=prO Q n:=by
 unfold prO;simp only [h]
theorem openL_set {ps:List Pr} {pid:Nat} (hp:pid<ps.length) {Q:Pr} (h:∀j,(Q.fd j).node=(ps[pid].fd j).node):openL (ps.set pid Q)=openL ps:=by
 unfold openL
 rw [List.flatMap_def,List.flatMap_def,List.map_set,prO_same h 3]
 congr 1
 refine List.ext_getElem (by simp) fun k k1 k2=>?_
 rw [List.getElem_set]
 split
 · rename_i e;subst e;rw [List.getElem_map]
 · rfl
theorem doF_bad {T:Tab} (hT:Gd T) (ps:List Pr) (pid:Int) (ca:Ca) (h:(doF T ps pid ca).1.err≠0∨ca.kind≤4):(doF T ps pid ca).2.1=T∧openL (doF T ps pid ca).2.2=openL ps∧umQ (doF T ps pid ca).2.2 pid=umQ ps pid:=by
 unfold doF at h ⊢
 by_cases hp:0≤pid∧pid<ps.length
 ·
  rw [if_pos hp] at h ⊢
  obtain ⟨n,rfl⟩:∃n:Nat,pid=(n:Int):=⟨pid.toNat,by omega⟩
  have hn:n<ps.length:=by omega
  rw [Int.toNat_natCast] at h ⊢
  have hgd:ps.getD n pr0=ps[n]:=by rw [List.getD_eq_getElem?_getD,List.getElem?_eq_getElem hn];rfl
  rw [hgd] at h ⊢
  have key:(stepF T ps n ps[n] ca).2.1=T∧(∀j,((stepF T ps n ps[n] ca).2.2.fd j).node=(ps[n].fd j).node)∧(stepF T ps n ps[n] ca).2.2.um=ps[n].um:=by
   generalize ps[n]=P at h ⊢
   dsimp only at h
   unfold stepF at h ⊢
   split
   ·
    rename_i h1;rw [if_pos h1] at h
    have h0:(opnF T P ca).1.err≠0:=h.elim id fun h=>by omega
    have ha:∀i,(opnAt T P ca i).1.err≠0→(opnAt T P ca i).2=(T,P):=fun i hi=>by
     unfold opnAt at hi ⊢
     split
     · rename_i ho;rw [openF_bad hT ho]
     · rename_i ho;rw [if_neg ho] at hi;exact absurd rfl hi
    have:(opnF T P ca).2=(T,P):=by
     unfold opnF at h0 ⊢
     split
     · rename_i k;rw [if_pos k] at h0;exact ha _ h0
     rename_i k;rw [if_neg k] at h0
     split
     · rename_i k;rw [if_pos k] at h0;exact ha _ h0
     rename_i k;rw [if_neg k] at h0
     split
     · rename_i k;rw [if_pos k] at h0;exact ha _ h0
     · rfl
    rw [this];exact ⟨rfl,fun _=>rfl,rfl⟩
   rename_i h1;rw [if_neg h1] at h
   split
   ·
    refine ⟨rfl,fun j=>?_,?_⟩
    ·
     show ((redF T P ca).2.fd j).node=_
     unfold redF
     split
     · rfl
     · exact put_node P _ j _ rfl (by omega)
    ·
     show (redF T P ca).2.um=_
     unfold redF
     split
     · rfl
     · show (Pr.put _ _ _).um=_;unfold Pr.put;split<;>rfl
   rename_i h2;rw [if_neg h2] at h
   split
   ·
    rename_i h3;rw [if_pos h3] at h
    have h0:(wriF T P ca).1.err≠0:=h.elim id fun h=>by omega
    have:(wriF T P ca).2=(T,P):=by
     unfold wriF at h0 ⊢
     split
     · rfl
     rename_i k;rw [if_neg k] at h0
     split
     · rename_i k;rw [writeAtF_bad k]
     · rename_i k;rw [if_neg k] at h0;exact absurd rfl h0
    rw [this];exact ⟨rfl,fun _=>rfl,rfl⟩
   rename_i h3;rw [if_neg h3] at h
   split
   ·
    rename_i h4;rw [if_pos h4] at h
    have h0:(shutF T ps n P ca.a).1.err≠0:=h.elim id fun h=>by omega
    have:(shutF T ps n P ca.a).2=(T,P):=by
     unfold shutF at h0 ⊢
     split
     · rfl
     · rename_i k;rw [if_neg k] at h0;exact absurd rfl h0
    rw [this];exact ⟨rfl,fun _=>rfl,rfl⟩
   rename_i h4;rw [if_neg h4] at h
   split
   ·
    rename_i h5;rw [if_pos h5] at h
    exact h.elim (fun h=>absurd rfl h) fun h=>by omega
   rename_i h5;rw [if_neg h5] at h
   split
   ·
    rename_i h6;rw [if_pos h6] at h
    exact h.elim (fun h=>absurd rfl h) fun h=>by omega
   rename_i h6;rw [if_neg h6] at h
   split
   · exact ⟨rfl,fun _=>rfl,rfl⟩
   rename_i h7;rw [if_neg h7] at h
   split
   ·
    rename_i h8;rw [if_pos h8] at h
    have h0:(chaF T P ca (openL ps)).1≠0:=h.elim id fun h=>by omega
    exact ⟨chaF_bad hT h0,fun _=>rfl,rfl⟩
   · exact ⟨rfl,fun _=>rfl,rfl⟩
  obtain ⟨k1,k2,k3⟩:=key
  refine ⟨k1,openL_set hn k2,?_⟩
  unfold umQ
  rw [List.length_set,if_pos hp,if_pos hp,Int.toNat_natCast,hgd,List.getD_eq_getElem?_getD,List.getElem?_set_self hn]
  exact k3
 · rw [if_neg hp];exact ⟨rfl,rfl,rfl⟩
theorem sameF_refl (a:Nd):sameF a a=true:=by unfold sameF;simp
theorem sameT_refl (T:Tab):sameT T T=true:=by unfold sameT;exact List.all_eq_true.2 fun j _=>sameF_refl _
theorem drop_get {T:Tab} (hT:T.Ok) (j k:Int):(dropT T j).get k=if k=j then (nd0,false) else T.get k:=by
 cases ha:T.at j with
 | none=>
  have e:dropT T j=T:=by unfold dropT;rw [ha]
  rw [e]
  split
  · rename_i e;rw [e,get_no ha]
  · rfl
 | some a=>
  obtain ⟨h1,h2,h3⟩:=at_room ha
  have hl:=hT.len
  have hr:=hT.hi
  have hd:(dropT T j).Ok:=dropT_ok hT j
  rw [get_eq hd,get_eq hT]
  unfold dropT;rw [ha]
  show (if 1≤k∧k≤T.room then ((T.ns.set a nd0).getD (k - 1).toNat nd0,!decide (((T.ns.set a nd0).getD (k - 1).toNat nd0).kind=0)) else (nd0,false))=_
  by_cases hk:k=j
  ·
   rw [if_pos hk,hk,h1]
   rw [List.getD_eq_getElem?_getD,List.getElem?_set_self (by omega)]
   split<;>rfl
  ·
   rw [if_neg hk]
   by_cases hc:1≤k∧k≤T.room
   · rw [if_pos hc,if_pos hc,List.getD_eq_getElem?_getD,List.getElem?_set_ne (by omega),List.getD_eq_getElem?_getD]
   · rw [if_neg hc,if_neg hc]
theorem wrapS {a:Int} (h0:0≤a) (h1:a≤1000000):IntKind.i64.wrap a=a:=by
 unfold IntKind.wrap;simp [IntKind.bits,IntKind.signed];omega
end Go.Proofs.YtjmlgeckgieaaaaGreat
namespace Go.Proofs.YtjmlgeckgieaaaaGreat
open Go.Ab
set_option maxRecDepth 8000
set_option maxHeartbeats 400000
theorem same_iff {a b:Nd}:sameF a b=true↔a=b:=by
 unfold sameF
 simp only [Bool.and_eq_true,decide_eq_true_eq]
 constructor
 ·
  rintro ⟨⟨⟨⟨⟨⟨h1,h2⟩,h3⟩,h4⟩,h5⟩,h6⟩,h7⟩
  cases a;cases b;simp_all
 · rintro rfl;exact ⟨⟨⟨⟨⟨⟨rfl,rfl⟩,rfl⟩,rfl⟩,rfl⟩,rfl⟩,rfl⟩
theorem same_no {a b:Nd} (h:a≠b):sameF a b=false:=Bool.eq_false_iff.2 fun e=>h (same_iff.1 e)
theorem same_self (a:Nd):sameF a a=true:=same_iff.2 rfl
theorem get_none {T:Tab} {i:Int} (h:(T.get i).2=false):(T.get i).1=nd0:=by
 cases ha:T.at i with
 | none=>rw [get_no ha]
 | some j=>rw [get_at ha] at h;cases h
def fate (A B:Tab) (i:Int):Nat:=
 bif sameF (A.get i).1 (B.get i).1 then 4 else bif !(A.get i).2 then 0 else bif !(B.get i).2 then 1
 else bif decide ((A.get i).1.kind=2)&&sameF (nEnts (A.get i).1 (B.get i).1) (B.get i).1 then 2 else 3
def lostAt (A B:Tab) (i:Int):List Ey:=if fate A B i=2 then lessF i (A.get i).1.ents (B.get i).1.ents else []
def wonAt (A B:Tab) (i:Int):List Ey:=if fate A B i=2 then lessF i (B.get i).1.ents (A.get i).1.ents else []
theorem updB_b (D:Df) (g f:Nat) (i:Int):(updB D g i).b f=if g=f then D.b f++[i] else D.b f:=by
 show (if f=g then _ else _)=_
 by_cases h:g=f
 · rw [if_pos h,if_pos h.symm]
 · rw [if_neg h,if_neg (Ne.symm h)]
theorem stepD_all (A B:Tab) (D:Df) (i:Int):(∀f,f<4→(stepD A B D i).b f=if fate A B i=f then D.b f++[i] else D.b f)∧(stepD A B D i).lost=D.lost++lostAt A B i∧(stepD A B D i).won=D.won++wonAt A B i:=by
 unfold stepD lostAt wonAt fate
 cases sameF (A.get i).1 (B.get i).1 with
 | true=>exact ⟨fun f hf=>(if_neg (show ¬4=f by omega)).symm,(List.append_nil _).symm,(List.append_nil _).symm⟩
 | false=>
  simp only [cond_false]
  cases !(A.get i).2 with
  | true=>exact ⟨fun f _=>updB_b D 0 f i,(List.append_nil _).symm,(List.append_nil _).symm⟩
  | false=>
   simp only [cond_false]
   cases !(B.get i).2 with
   | true=>exact ⟨fun f _=>updB_b D 1 f i,(List.append_nil _).symm,(List.append_nil _).symm⟩
   | false=>
    simp only [cond_false]
    cases decide ((A.get i).1.kind=2)&&sameF (nEnts (A.get i).1 (B.get i).1) (B.get i).1 with
    | true=>exact ⟨fun f _=>updB_b D 2 f i,rfl,rfl⟩
    | false=>exact ⟨fun f _=>updB_b D 3 f i,(List.append_nil _).symm,(List.append_nil _).symm⟩
theorem dfN_b (A B:Tab) {f:Nat} (hf:f<4):∀m,(dfN A B m).b f=((List.range m).filter fun j:Nat=>decide (fate A B ((j:Int)+1)=f)).map fun j:Nat=>(j:Int)+1
 | 0=>rfl
 | m+1=>by
  show (stepD A B (dfN A B m) ((m:Int)+1)).b f=_
  rw [(stepD_all A B _ _).1 f hf,dfN_b A B hf m,List.range_succ,List.filter_append,List.map_append]
  by_cases h:fate A B ((m:Int)+1)=f
  · rw [if_pos h];simp [h]
  · rw [if_neg h];simp [h]
theorem dfN_lost (A B:Tab):∀m,(dfN A B m).lost=(List.range m).flatMap fun j:Nat=>lostAt A B ((j:Int)+1)
 | 0=>rfl
 | m+1=>by
  show (stepD A B (dfN A B m) ((m:Int)+1)).lost=_
  rw [(stepD_all A B _ _).2.1,dfN_lost A B m,List.range_succ,List.flatMap_append];simp
theorem dfN_won (A B:Tab):∀m,(dfN A B m).won=(List.range m).flatMap fun j:Nat=>wonAt A B ((j:Int)+1)
 | 0=>rfl
 | m+1=>by
  show (stepD A B (dfN A B m) ((m:Int)+1)).won=_
  rw [(stepD_all A B _ _).2.2,dfN_won A B m,List.range_succ,List.flatMap_append];simp
theorem filter_none {p:Nat→Bool} {m:Nat} (h:∀j,j<m→p j=false):(List.range m).filter p=[]:=
 List.filter_eq_nil_iff.2 fun j hj=>by rw [h j (List.mem_range.1 hj)];decide
theorem filter_one {p:Nat→Bool} {k:Nat}:∀ {m:Nat},k<m→p k=true→(∀j,j<m→j≠k→p j=false)→(List.range m).filter p=[k]
 | 0,hk, _, _=>absurd hk (Nat.not_lt_zero _)
 | m+1,hk,hp,h=>by
  rw [List.range_succ,List.filter_append]
  by_cases e:k=m
  ·
   subst e
   rw [filter_none fun j hj=>h j (by omega) (by omega)];simp [hp]
  · rw [filter_one (by omega) hp fun j hj=>h j (by omega)];simp [h m (by omega) (Ne.symm e)]
theorem flat_none {α:Type} {f:Nat→List α} {m:Nat} (h:∀j,j<m→f j=[]):(List.range m).flatMap f=[]:=
 List.flatMap_eq_nil_iff.2 fun j hj=>h j (List.mem_range.1 hj)
theorem flat_one {α:Type} {f:Nat→List α} {k:Nat}:∀ {m:Nat},k<m→(∀j,j<m→j≠k→f j=[])→(List.range m).flatMap f=f k
 | 0,hk, _=>absurd hk (Nat.not_lt_zero _)
 | m+1,hk,h=>by
  rw [List.range_succ,List.flatMap_append]
  by_cases e:k=m
  ·
   subst e
   rw [flat_none fun j hj=>h j (by omega) (by omega)];simp
  · rw [flat_one (by omega) fun j hj=>h j (by omega)];simp [h m (by omega) (Ne.symm e)]
theorem b_none {A B:Tab} {f:Nat} (hf:f<4) (h:∀i:Int,fate A B i≠f):(dfN A B 24).b f=[]:=by
 rw [dfN_b A B hf,filter_none fun j _=>decide_eq_false (h _)];rfl
theorem b_one {A B:Tab} {f:Nat} {k:Int} (hf:f<4) (hk:1≤k∧k≤24) (h:fate A B k=f) (hn:∀i:Int,i≠k→fate A B i≠f):(dfN A B 24).b f=[k]:=by
 have e:((k - 1).toNat:Int)+1=k:=by omega
 rw [dfN_b A B hf,filter_one (k:=(k - 1).toNat) (by omega) (by rw [e];exact decide_eq_true h) fun j _ hj=>decide_eq_false (hn _ (by omega))]
 show [((k - 1).toNat:Int)+1]=_
 rw [e]
theorem lost_none {A B:Tab} (h:∀i:Int,lostAt A B i=[]):(dfN A B 24).lost=[]:=by rw [dfN_lost,flat_none fun _ _=>h _]
theorem won_none {A B:Tab} (h:∀i:Int,wonAt A B i=[]):(dfN A B 24).won=[]:=by rw [dfN_won,flat_none fun _ _=>h _]
theorem lost_one {A B:Tab} {k:Int} (hk:1≤k∧k≤24) (h:∀i:Int,i≠k→lostAt A B i=[]):(dfN A B 24).lost=lostAt A B k:=by
 have e:((k - 1).toNat:Int)+1=k:=by omega
 rw [dfN_lost,flat_one (k:=(k - 1).toNat) (by omega) fun j _ hj=>h _ (by omega),e]
theorem won_one {A B:Tab} {k:Int} (hk:1≤k∧k≤24) (h:∀i:Int,i≠k→wonAt A B i=[]):(dfN A B 24).won=wonAt A B k:=by
 have e:((k - 1).toNat:Int)+1=k:=by omega
 rw [dfN_won,flat_one (k:=(k - 1).toNat) (by omega) fun j _ hj=>h _ (by omega),e]
theorem fate_4 {A B:Tab} {i:Int} (h:(A.get i).1=(B.get i).1):fate A B i=4:=by unfold fate;rw [same_iff.2 h];rfl
theorem lostAt_no {A B:Tab} {i:Int} (h:fate A B i≠2):lostAt A B i=[]:=if_neg h
theorem wonAt_no {A B:Tab} {i:Int} (h:fate A B i≠2):wonAt A B i=[]:=if_neg h
theorem nEnts_eq {a b:Nd}:nEnts a b=b↔a.kind=b.kind∧a.mode=b.mode∧a.uid=b.uid∧a.gid=b.gid∧a.data=b.data∧a.target=b.target:=by
 cases a;cases b;simp [nEnts,nWith]
theorem fate_rev {A B:Tab} (hA:A.Ok) (hB:B.Ok) (i:Int):fate B A i=if fate A B i=0 then 1 else if fate A B i=1 then 0 else fate A B i:=by
 by_cases hs:(A.get i).1=(B.get i).1
 · rw [fate_4 hs,fate_4 hs.symm];rfl
 ·
  have e1:=same_no hs
  have e2:=same_no (Ne.symm hs)
  unfold fate
  rw [e1,e2]
  simp only [cond_false]
  cases ha:(A.get i).2 with
  | false=>
   cases hb:(B.get i).2 with
   | false=>exact absurd ((get_none ha).trans (get_none hb).symm) hs
   | true=>rfl
  | true=>
   cases hb:(B.get i).2 with
   | false=>rfl
   | true=>
    have:(decide ((A.get i).1.kind=2)&&sameF (nEnts (A.get i).1 (B.get i).1) (B.get i).1)=(decide ((B.get i).1.kind=2)&&sameF (nEnts (B.get i).1 (A.get i).1) (A.get i).1):=by
     rw [Bool.eq_iff_iff]
     simp only [Bool.and_eq_true,decide_eq_true_eq,same_iff,nEnts_eq]
     constructor
     · rintro ⟨h1,h2,h3,h4,h5,h6,h7⟩;exact ⟨by omega,h2.symm,h3.symm,h4.symm,h5.symm,h6.symm,h7.symm⟩
     · rintro ⟨h1,h2,h3,h4,h5,h6,h7⟩;exact ⟨by omega,h2.symm,h3.symm,h4.symm,h5.symm,h6.symm,h7.symm⟩
    rw [this]
    cases (decide ((B.get i).1.kind=2)&&sameF (nEnts (B.get i).1 (A.get i).1) (A.get i).1)<;>rfl
theorem lostAt_rev {A B:Tab} (hA:A.Ok) (hB:B.Ok) (i:Int):lostAt B A i=wonAt A B i:=by
 unfold lostAt wonAt
 rw [fate_rev hA hB]
 by_cases h:fate A B i=2
 · rw [if_pos h,h];rfl
 ·
  rw [if_neg h]
  by_cases h0:fate A B i=0
  · rw [h0];rfl
  ·
   by_cases h1:fate A B i=1
   · rw [h1];rfl
   · rw [if_neg h0,if_neg h1,if_neg h]
theorem rev_all {A B:Tab} (hA:A.Ok) (hB:B.Ok):(dfN B A 24).b 0=(dfN A B 24).b 1∧(dfN B A 24).b 1=(dfN A B 24).b 0∧(dfN B A 24).b 2=(dfN A B 24).b 2∧(dfN B A 24).b 3=(dfN A B 24).b 3∧(dfN B A 24).lost=(dfN A B 24).won∧(dfN B A 24).won=(dfN A B 24).lost:=by
 have key:∀f g,f<4→g<4→(∀i:Int,fate B A i=f↔fate A B i=g)→(dfN B A 24).b f=(dfN A B 24).b g:=fun f g hf hg h=>by
  rw [dfN_b B A hf,dfN_b A B hg]
  congr 2
  funext j
  rw [decide_eq_decide];exact h _
 have hc:∀i:Int,(fate A B i=0∧fate B A i=1)∨(fate A B i=1∧fate B A i=0)∨(fate A B i≠0∧fate A B i≠1∧fate B A i=fate A B i):=fun i=>by
  rw [fate_rev hA hB i]
  by_cases h0:fate A B i=0
  · exact .inl ⟨h0,by rw [if_pos h0]⟩
  ·
   by_cases h1:fate A B i=1
   · exact .inr (.inl ⟨h1,by rw [if_neg h0,if_pos h1]⟩)
   · exact .inr (.inr ⟨h0,h1,by rw [if_neg h0,if_neg h1]⟩)
 refine ⟨key 0 1 (by decide) (by decide) fun i=>?_,key 1 0 (by decide) (by decide) fun i=>?_,key 2 2 (by decide) (by decide) fun i=>?_,key 3 3 (by decide) (by decide) fun i=>?_,?_,?_⟩
 · have:=hc i;omega
 · have:=hc i;omega
 · have:=hc i;omega
 · have:=hc i;omega
 · rw [dfN_lost,dfN_won];congr 1;funext j;exact lostAt_rev hA hB _
 · rw [dfN_lost,dfN_won];congr 1;funext j;exact (lostAt_rev hB hA _).symm
end Go.Proofs.YtjmlgeckgieaaaaGreat
namespace Go.Proofs.YtjmlgeckgieaaaaGreat
open Go.Ab
set_option maxRecDepth 8000
set_option maxHeartbeats 400000
theorem fate_le (A B:Tab) (i:Int):fate A B i≤4:=by
 unfold fate
 cases sameF (A.get i).1 (B.get i).1<;>cases !(A.get i).2<;>cases !(B.get i).2<;>cases (decide ((A.get i).1.kind=2)&&sameF (nEnts (A.get i).1 (B.get i).1) (B.get i).1)<;>decide
theorem fate_same {A B:Tab} {i:Int} (h:fate A B i=4):(A.get i).1=(B.get i).1:=by
 unfold fate at h
 cases hs:sameF (A.get i).1 (B.get i).1 with
 | true=>exact same_iff.1 hs
 | false=>
  rw [hs] at h
  exfalso;revert h
  cases !(A.get i).2<;>cases !(B.get i).2<;>cases (decide ((A.get i).1.kind=2)&&sameF (nEnts (A.get i).1 (B.get i).1) (B.get i).1)<;>decide
theorem b_nil {A B:Tab} {f:Nat} (hf:f<4) (h:(dfN A B 24).b f=[]) {j:Nat} (hj:j<24):fate A B ((j:Int)+1)≠f:=fun e=>by
 rw [dfN_b A B hf,List.map_eq_nil_iff] at h
 have:=List.filter_eq_nil_iff.1 h j (List.mem_range.2 hj)
 exact this (decide_eq_true e)
theorem sum_zero {A B:Tab}:sumI (dfN A B 24) 4=0↔sameT A B=true:=by
 unfold sameT
 rw [List.all_eq_true]
 constructor
 ·
  intro h j hj
  have hj:=List.mem_range.1 hj
  have hb:∀f,f<4→(dfN A B 24).b f=[]:=fun f hf=>List.eq_nil_of_length_eq_zero (by
   have:f=0∨f=1∨f=2∨f=3:=by omega
   simp only [sumI] at h
   rcases this with rfl | rfl | rfl | rfl<;>omega)
  have h4:=fate_le A B ((j:Int)+1)
  have h0:=b_nil (by decide) (hb 0 (by decide)) hj
  have h1:=b_nil (by decide) (hb 1 (by decide)) hj
  have h2:=b_nil (by decide) (hb 2 (by decide)) hj
  have h3:=b_nil (by decide) (hb 3 (by decide)) hj
  exact same_iff.2 (fate_same (by omega))
 ·
  intro h
  have hb:∀f,f<4→(dfN A B 24).b f=[]:=fun f hf=>by
   rw [dfN_b A B hf,filter_none];rfl
   intro j hj
   rw [fate_4 (same_iff.1 (h j (List.mem_range.2 hj)))]
   exact decide_eq_false (by omega)
  simp only [sumI,hb 0 (by decide),hb 1 (by decide),hb 2 (by decide),hb 3 (by decide)];rfl
theorem sameT_symm (A B:Tab):sameT A B=sameT B A:=by
 unfold sameT
 congr 1;funext j
 rw [Bool.eq_iff_iff,same_iff,same_iff];exact eq_comm
def ChQ (D:Df) (A B:Tab) (c:Ch):Prop:=
 (c.kind=0→c=chK 0∧sumI D 4=0) ∧
 (c.kind=1∨c.kind=2→sumI D 4=1∧∃i,D.b 3=[i]∧c=aloneF i (A.get i).1 (B.get i).1) ∧
 (c.kind=3→∃w:Ey,D.b 0=[w.2.2]∧D.b 1=[]∧D.b 3=[]∧D.lost=[]∧D.won=[w]∧c=⟨3,w.2.2,w.1,w.2.1,0,[],0⟩) ∧
 (c.kind=5→D.b 0=[]∧D.b 3=[]∧(∃w,D.won=[w])∧c=movedF D)∧(0≤c.kind∧c.kind≤7)
theorem len_one {α:Type} {l:List α} (h:(l.length:Int)=1) (d:α):l=[l.getD 0 d]:=by
 match l,h with
 | [a], _=>rfl
theorem len_nil {α:Type} {l:List α} (h:¬0<(l.length:Int)):l=[]:=List.eq_nil_of_length_eq_zero (by omega)
theorem chQ_7 (D:Df) (A B:Tab):ChQ D A B (chK 7):=⟨fun e=>absurd e (by decide),fun e=>absurd e (by decide),fun e=>absurd e (by decide),fun e=>absurd e (by decide),by decide⟩
theorem aloneF_k (i:Int) (a b:Nd):(aloneF i a b).kind=1∨(aloneF i a b).kind=2∨aloneF i a b=chK 7:=by
 unfold aloneF
 cases sameF (asAttr a b) b with
 | true=>exact .inl rfl
 | false=>
  cases (decide (a.kind=1)&&sameF (asData a b) b) with
  | true=>exact .inr (.inl rfl)
  | false=>exact .inr (.inr rfl)
theorem stepM_kind {w:Ey} {m:Ch} {l:Ey} {m':Ch} (h:stepM w m l=some m'):m'.kind=m.kind:=by
 unfold stepM at h
 cases h1:(decide (l.2.2=w.2.2)&&decide (m.dir=0)) with
 | true=>rw [h1] at h;cases h;rfl
 | false=>
  rw [h1,cond_false] at h
  cases h2:(decide (l.1=w.1)&&decide (l.2.1=w.2.1)&&decide (m.over=0)) with
  | true=>rw [h2] at h;cases h;rfl
  | false=>rw [h2] at h;cases h
theorem loopM_kind {w:Ey}:∀ {L:List Ey} {m m':Ch},loopM w L m=some m'→m'.kind=m.kind
 | [], _, _,h=>by cases h;rfl
 | l::L,m,m',h=>by
  unfold loopM at h
  cases hs:stepM w m l with
  | none=>rw [hs] at h;cases h
  | some n=>rw [hs] at h;exact (loopM_kind h).trans (stepM_kind hs)
theorem movedF_k (D:Df):(movedF D).kind=5∨movedF D=chK 7:=by
 unfold movedF
 cases h:loopM (D.won.getD 0 ey0) D.lost (m0 (D.won.getD 0 ey0)) with
 | none=>exact .inr rfl
 | some m=>
  cases hc:(decide (m.dir=0)||(decide (0<((D.b 1).length:Int))&&(decide (m.over=0)||!ownK (D.b 1) []||!decide ((D.b 1).getD 0 0=m.over)))) with
  | true=>exact .inr (by simp only [hc,cond_true])
  | false=>exact .inl (by simp only [hc,cond_false];exact loopM_kind h)
theorem chF_Q (D:Df) (A B:Tab):ChQ D A B (chF D A B):=by
 have h7:=chQ_7 D A B
 have hp:0≤sumI D 4:=by simp only [sumI];omega
 unfold chF
 cases h1:decide (sumI D 4=0) with
 | true=>exact ⟨fun _=>⟨rfl,of_decide_eq_true h1⟩,fun e=>absurd e (show ¬((0:Int)=1∨(0:Int)=2) by decide),fun e=>absurd e (show ¬(0:Int)=3 by decide),fun e=>absurd e (show ¬(0:Int)=5 by decide),show (0:Int)≤0∧(0:Int)≤7 by decide⟩
 | false=>
  rw [cond_false]
  have g1:=of_decide_eq_false h1
  cases h2:decide (0<((D.b 3).length:Int)) with
  | true=>
   rw [cond_true]
   have g2:=of_decide_eq_true h2
   cases h3:decide (1<sumI D 4) with
   | true=>exact h7
   | false=>
    rw [cond_false]
    have g3:=of_decide_eq_false h3
    have hl:((D.b 3).length:Int)=1:=by simp only [sumI] at g3 g2 ⊢;omega
    rcases aloneF_k ((D.b 3).getD 0 0) (A.get ((D.b 3).getD 0 0)).1 (B.get ((D.b 3).getD 0 0)).1 with k | k | k
    · refine ⟨fun e=>?_,fun _=>⟨by omega, _,len_one hl 0,rfl⟩,fun e=>?_,fun e=>?_,?_⟩<;>omega
    · refine ⟨fun e=>?_,fun _=>⟨by omega, _,len_one hl 0,rfl⟩,fun e=>?_,fun e=>?_,?_⟩<;>omega
    · rw [k];exact h7
  | false=>
   rw [cond_false]
   have g2:=len_nil (of_decide_eq_false h2)
   cases h3:decide (0<((D.b 0).length:Int)) with
   | true=>
    rw [cond_true]
    cases h4:(ownK (D.b 0) [D.b 1]&&decide ((D.lost.length:Int)=0)&&decide ((D.won.length:Int)=1)&&decide ((D.won.getD 0 ey0).2.2=(D.b 0).getD 0 0)) with
    | false=>exact h7
    | true=>
     rw [cond_true]
     simp only [Bool.and_eq_true,decide_eq_true_eq,ownK,List.any_cons,List.any_nil,Bool.or_false,Bool.not_eq_true',decide_eq_false_iff_not] at h4
     obtain ⟨⟨⟨⟨k1,k2⟩,k3⟩,k4⟩,k5⟩:=h4
     refine ⟨fun e=>absurd e (show ¬(3:Int)=0 by decide),fun e=>absurd e (show ¬((3:Int)=1∨(3:Int)=2) by decide),fun _=>⟨D.won.getD 0 ey0,by rw [k5];exact len_one k1 0,len_nil k2,g2,List.eq_nil_of_length_eq_zero (by omega),len_one k4 ey0,rfl⟩,fun e=>absurd e (show ¬(3:Int)=5 by decide),show (0:Int)≤3∧(3:Int)≤7 by decide⟩
   | false=>
    rw [cond_false]
    have g3:=len_nil (of_decide_eq_false h3)
    cases h4:ownK (D.b 1) [D.b 2] with
    | true=>exact ⟨fun e=>absurd e (show ¬(6:Int)=0 by decide),fun e=>absurd e (show ¬((6:Int)=1∨(6:Int)=2) by decide),fun e=>absurd e (show ¬(6:Int)=3 by decide),fun e=>absurd e (show ¬(6:Int)=5 by decide),show (0:Int)≤6∧(6:Int)≤7 by decide⟩
    | false=>
     rw [cond_false]
     cases h5:(decide ((D.lost.length:Int)=1)&&decide ((D.won.length:Int)=0)) with
     | true=>
      rw [cond_true]
      cases (decide (((D.b 1).length:Int)=0)||(ownK (D.b 1) []&&decide ((D.b 1).getD 0 0=(D.lost.getD 0 ey0).2.2))) with
      | true=>exact ⟨fun e=>absurd e (show ¬(4:Int)=0 by decide),fun e=>absurd e (show ¬((4:Int)=1∨(4:Int)=2) by decide),fun e=>absurd e (show ¬(4:Int)=3 by decide),fun e=>absurd e (show ¬(4:Int)=5 by decide),show (0:Int)≤4∧(4:Int)≤7 by decide⟩
      | false=>exact h7
     | false=>
      rw [cond_false]
      cases h6:decide ((D.won.length:Int)=1) with
      | false=>exact h7
      | true=>
       rw [cond_true]
       rcases movedF_k D with k | k
       · refine ⟨fun e=>?_,fun e=>?_,fun e=>?_,fun _=>⟨g3,g2,⟨_,len_one (of_decide_eq_true h6) ey0⟩,rfl⟩,?_⟩<;>omega
       · rw [k];exact h7
theorem lost_mem {A B:Tab} (hA:Gd A) {l:Ey} (h:l∈(dfN A B 24).lost):1≤l.1∧1≤l.2.2:=by
 rw [dfN_lost] at h
 obtain ⟨j, _,hj⟩:=List.mem_flatMap.1 h
 unfold lostAt at hj
 split at hj
 ·
  rename_i hf
  unfold lessF at hj
  obtain ⟨e,he,rfl⟩:=List.mem_map.1 hj
  have he:=(List.mem_filter.1 he).1
  have hk:(A.get ((j:Int)+1)).1.kind≠0:=fun k=>by
   unfold fate at hf
   revert hf
   rw [decide_eq_false (show ¬(A.get ((j:Int)+1)).1.kind=2 by omega)]
   cases sameF (A.get ((j:Int)+1)).1 (B.get ((j:Int)+1)).1<;>cases !(A.get ((j:Int)+1)).2<;>cases !(B.get ((j:Int)+1)).2<;>simp
  exact ⟨by show (1:Int)≤(j:Int)+1;omega,((risP_of (hA.2.kind hk)).2.2 e he).2⟩
 · cases hj
theorem won_mem {A B:Tab} (hA:Gd A) (hB:Gd B) {l:Ey} (h:l∈(dfN A B 24).won):1≤l.1∧1≤l.2.2:=by
 rw [←(rev_all hA.1 hB.1).2.2.2.2.1] at h
 exact lost_mem hB h
theorem ents_won {A B:Tab} {w:Ey} (h:w∈(dfN A B 24).won):(dfN A B 24).b 2≠[]:=fun e=>by
 rw [dfN_won] at h
 obtain ⟨j,hj,hw⟩:=List.mem_flatMap.1 h
 rw [wonAt_no (b_nil (by decide) e (List.mem_range.1 hj))] at hw
 cases hw
theorem loopM_over {w:Ey}:∀ {L:List Ey} {m m':Ch},(∀l∈L,1≤l.2.2)→loopM w L m=some m'→m.over≠0→m'.over≠0
 | [], _, _, _,h,ho=>by cases h;exact ho
 | l::L,m,m',hl,h,ho=>by
  unfold loopM at h
  cases hs:stepM w m l with
  | none=>rw [hs] at h;cases h
  | some n=>
   rw [hs] at h
   refine loopM_over (fun x hx=>hl x (List.mem_cons_of_mem _ hx)) h ?_
   unfold stepM at hs
   cases h1:(decide (l.2.2=w.2.2)&&decide (m.dir=0)) with
   | true=>rw [h1] at hs;cases hs;exact ho
   | false=>
    rw [h1,cond_false,decide_eq_false ho,Bool.and_false] at hs;cases hs
theorem moved_plain {D:Df} {w:Ey} (hw:D.won=[w]) (hl:∀l∈D.lost,1≤l.1∧1≤l.2.2) (hk:(movedF D).kind=5) (ho:(movedF D).over=0):∃l:Ey,D.lost=[l]∧l.2.2=w.2.2∧D.b 1=[]∧movedF D=⟨5,w.2.2,l.1,l.2.1,w.1,w.2.1,0⟩:=by
 unfold movedF at hk ho ⊢
 rw [hw] at hk ho ⊢
 simp only [List.getD_cons_zero] at hk ho ⊢
 cases h:loopM w D.lost (m0 w) with
 | none=>rw [h] at hk;exact absurd hk (show ¬(7:Int)=5 by decide)
 | some m=>
  rw [h] at hk ho
  simp only [] at hk ho ⊢
  cases hc:(decide (m.dir=0)||(decide (0<((D.b 1).length:Int))&&(decide (m.over=0)||!ownK (D.b 1) []||!decide ((D.b 1).getD 0 0=m.over)))) with
  | true=>rw [hc] at hk;exact absurd hk (show ¬(7:Int)=5 by decide)
  | false=>
   rw [hc,cond_false] at ho
   rw [cond_false]
   rw [ho] at hc
   simp only [Bool.or_eq_false_iff,decide_eq_false_iff_not,decide_true,Bool.true_or,Bool.and_true] at hc
   have hg:=len_nil hc.2
   match hL:D.lost with
   | []=>
    rw [hL] at h
    cases h
    exact absurd rfl hc.1
   | l::r=>
    rw [hL] at h hl
    unfold loopM at h
    cases hs:stepM w (m0 w) l with
    | none=>rw [hs] at h;cases h
    | some n=>
     rw [hs] at h
     have hr:∀x∈r,1≤x.2.2:=fun x hx=>(hl x (List.mem_cons_of_mem _ hx)).2
     have hno:n.over=0:=Classical.byContradiction fun e=>loopM_over hr h e ho
     have hl1:=hl l (by simp)
     have hn:l.2.2=w.2.2∧n=⟨5,w.2.2,l.1,l.2.1,w.1,w.2.1,0⟩:=by
      unfold stepM at hs
      cases h1:(decide (l.2.2=w.2.2)&&decide ((m0 w).dir=0)) with
      | true=>
       rw [h1,cond_true] at hs
       simp only [Bool.and_eq_true,decide_eq_true_eq] at h1
       exact ⟨h1.1,(Option.some.inj hs).symm⟩
      | false=>
       rw [h1,cond_false] at hs
       cases h2:(decide (l.1=w.1)&&decide (l.2.1=w.2.1)&&decide ((m0 w).over=0)) with
       | true=>
        rw [h2,cond_true] at hs
        have:=Option.some.inj hs
        rw [←this] at hno
        exact absurd (show l.2.2=0 from hno) (by omega)
       | false=>rw [h2] at hs;cases hs
     obtain ⟨hn1,rfl⟩:=hn
     match r,hr,h with
     | [], _,h=>cases h;exact ⟨l,rfl,hn1,hg,rfl⟩
     | l'::r',hr,h=>
      exfalso
      replace h:(match stepM w ⟨5,w.2.2,l.1,l.2.1,w.1,w.2.1,0⟩ l' with | some m'=>loopM w r' m' | none=>none)=some m:=h
      cases hs':stepM w ⟨5,w.2.2,l.1,l.2.1,w.1,w.2.1,0⟩ l' with
      | none=>rw [hs'] at h;cases h
      | some n'=>
       rw [hs'] at h
       refine loopM_over (fun x hx=>hr x (List.mem_cons_of_mem _ hx)) h ?_ ho
       unfold stepM at hs'
       rw [decide_eq_false (show ¬(l.1=0) by omega),Bool.and_false,cond_false] at hs'
       cases h2:(decide (l'.1=w.1)&&decide (l'.2.1=w.2.1)&&decide ((0:Int)=0)) with
       | true=>
        rw [h2,cond_true] at hs'
        have:=Option.some.inj hs'
        rw [←this]
        have:=hr l' (by simp)
        show ¬l'.2.2=0
        omega
       | false=>rw [h2] at hs';cases hs'
theorem moved_one {D:Df} {w l:Ey} (hw:D.won=[w]) (hl:D.lost=[l]) (he:l.2.2=w.2.2) (h1:1≤l.1) (hg:D.b 1=[]):movedF D=⟨5,w.2.2,l.1,l.2.1,w.1,w.2.1,0⟩:=by
 unfold movedF
 rw [hw,hl]
 have hs:stepM w (m0 w) l=some ⟨5,w.2.2,l.1,l.2.1,w.1,w.2.1,0⟩:=by
  unfold stepM
  rw [decide_eq_true he,show decide ((m0 w).dir=0)=true from rfl];rfl
 show (match loopM w [l] (m0 w) with | none=>_ | some m=>_)=_
 unfold loopM
 rw [hs]
 simp only [loopM]
 rw [hg,decide_eq_false (show ¬l.1=0 by omega)];rfl
theorem same_len {D R:Df} (h:R.b 0=D.b 1∧R.b 1=D.b 0∧R.b 2=D.b 2∧R.b 3=D.b 3):sumI R 4=sumI D 4:=by
 simp only [sumI,h.1,h.2.1,h.2.2.1,h.2.2.2];omega
theorem alone_rev {i:Int} {a b:Nd} (h:(aloneF i a b).kind=1∨(aloneF i a b).kind=2):aloneF i b a=aloneF i a b:=by
 have ha:sameF (asAttr a b) b=sameF (asAttr b a) a:=by
  rw [Bool.eq_iff_iff,same_iff,same_iff]
  cases a;cases b;simp only [asAttr,Nd.mk.injEq,true_and,and_true]
  constructor<;>(rintro ⟨h1,h2,h3,h4⟩;exact ⟨h1.symm,h2.symm,h3.symm,h4.symm⟩)
 unfold aloneF at h ⊢
 rw [←ha]
 cases h1:sameF (asAttr a b) b with
 | true=>rfl
 | false=>
  rw [h1,cond_false] at h
  rw [cond_false,cond_false]
  cases h2:(decide (a.kind=1)&&sameF (asData a b) b) with
  | false=>rw [h2] at h;exact absurd h (show ¬((7:Int)=1∨(7:Int)=2) by decide)
  | true=>
   have:(decide (b.kind=1)&&sameF (asData b a) a)=true:=by
    simp only [Bool.and_eq_true,decide_eq_true_eq,same_iff] at h2 ⊢
    obtain ⟨k1,k2⟩:=h2
    revert k1 k2
    cases a;cases b;simp only [asData,Nd.mk.injEq,true_and,and_true]
    rintro k1 ⟨k2,k3,k4,k5,k6⟩
    exact ⟨by omega,k2.symm,k3.symm,k4.symm,k5.symm,k6.symm⟩
   rw [this]
theorem same_law {A B:Tab} (hA:Gd A) (hB:Gd B) :
 (chOf A B=chK 0↔sameT A B=true)∧(chOf B A=chK 0↔sameT A B=true) ∧
 ((chOf A B).kind=1∨(chOf A B).kind=2→chOf B A=chOf A B) ∧
 ((chOf A B).kind=3→(chOf B A).kind=4∧(chOf B A).node=(chOf A B).node∧(chOf B A).dir=(chOf A B).dir∧(chOf B A).name=(chOf A B).name) ∧
 ((chOf A B).kind=5∧(chOf A B).over=0→(chOf B A).kind=5∧(chOf B A).dir=(chOf A B).to∧(chOf B A).to=(chOf A B).dir∧(chOf B A).name=(chOf A B).other∧(chOf B A).other=(chOf A B).name∧(chOf B A).node=(chOf A B).node) ∧
 (0≤(chOf A B).kind∧(chOf A B).kind≤7):=by
 obtain ⟨q0,q1,q3,q5,q7⟩:=chF_Q (dfN A B 24) A B
 have hr:=rev_all hA.1 hB.1
 have hz:∀ {A B:Tab},chOf A B=chK 0↔sameT A B=true:=fun {A B}=>by
  rw [←sum_zero]
  refine ⟨fun h=>((chF_Q (dfN A B 24) A B).1 (by show (chOf A B).kind=0;rw [h];rfl)).2,fun h=>?_⟩
  unfold chOf chF;rw [decide_eq_true h];rfl
 refine ⟨hz,by rw [sameT_symm];exact hz,fun h=>?_,fun h=>?_,fun h=>?_,q7⟩
 ·
  obtain ⟨h1,i,h3,hc⟩:=q1 h
  show chF (dfN B A 24) B A=chF (dfN A B 24) A B
  rw [hc]
  have hs:=same_len ⟨hr.1,hr.2.1,hr.2.2.1,hr.2.2.2.1⟩
  have hc2:chF (dfN B A 24) B A=aloneF i (B.get i).1 (A.get i).1:=by
   unfold chF
   rw [hs,h1,hr.2.2.2.1,h3];rfl
  rw [hc2]
  refine alone_rev ?_
  rw [←hc];exact h
 ·
  obtain ⟨w,h0,h1,h3,hl,hw,hc⟩:=q3 h
  have h2:=ents_won (A:=A) (B:=B) (w:=w) (by rw [hw];simp)
  have hs:=same_len ⟨hr.1,hr.2.1,hr.2.2.1,hr.2.2.2.1⟩
  have hn:sumI (dfN A B 24) 4≠0:=by simp only [sumI,h0,List.length_singleton];omega
  have hc2:chF (dfN B A 24) B A=⟨4,w.2.2,w.1,w.2.1,0,[],0⟩:=by
   unfold chF
   have ho:ownK [w.2.2] [(dfN A B 24).b 2]=false:=by
    unfold ownK
    have:(0:Int)<((dfN A B 24).b 2).length:=by
     cases hb:(dfN A B 24).b 2 with
     | nil=>exact absurd hb h2
     | cons x l=>rw [List.length_cons];omega
    simp only [List.any_cons,List.any_nil,decide_eq_true this];rfl
   rw [hs,decide_eq_false hn,hr.2.2.2.1,h3,hr.1,h1,hr.2.1,h0,hr.2.2.1,ho,hr.2.2.2.2.1,hw,hr.2.2.2.2.2,hl]
   simp [ownK]
  have e1:chOf B A=⟨4,w.2.2,w.1,w.2.1,0,[],0⟩:=hc2
  have e2:chOf A B=⟨3,w.2.2,w.1,w.2.1,0,[],0⟩:=hc
  rw [e1,e2];exact ⟨rfl,rfl,rfl,rfl⟩
 ·
  obtain ⟨h0,h3,⟨w,hw⟩,hc⟩:=q5 h.1
  have e2:chOf A B=movedF (dfN A B 24):=hc
  rw [e2] at h ⊢
  obtain ⟨l,hl,hn,h1,hm⟩:=moved_plain hw (fun l hl=>lost_mem hA hl) h.1 h.2
  have hw1:=won_mem hA hB (l:=w) (by rw [hw];simp)
  have h2:=ents_won (A:=A) (B:=B) (w:=w) (by rw [hw];simp)
  have hs:=same_len ⟨hr.1,hr.2.1,hr.2.2.1,hr.2.2.2.1⟩
  have hn0:sumI (dfN A B 24) 4≠0:=by
   have:(0:Int)<((dfN A B 24).b 2).length:=by
    cases hb:(dfN A B 24).b 2 with
    | nil=>exact absurd hb h2
    | cons x l=>rw [List.length_cons];omega
   simp only [sumI];omega
  have hm2:movedF (dfN B A 24)=⟨5,l.2.2,w.1,w.2.1,l.1,l.2.1,0⟩:=moved_one (by rw [hr.2.2.2.2.2,hl]) (by rw [hr.2.2.2.2.1,hw]) hn.symm hw1.1 (by rw [hr.2.1,h0])
  have e1:chOf B A=⟨5,l.2.2,w.1,w.2.1,l.1,l.2.1,0⟩:=by
   rw [←hm2]
   show chF (dfN B A 24) B A=_
   unfold chF
   rw [hs,decide_eq_false hn0,hr.2.2.2.1,h3,hr.1,h1,hr.2.1,h0,hr.2.2.2.2.1,hw,hr.2.2.2.2.2,hl]
   simp [ownK]
  rw [e1,hm]
  exact ⟨rfl,rfl,rfl,rfl,rfl,hn⟩
end Go.Proofs.YtjmlgeckgieaaaaGreat
namespace Go.Proofs.YtjmlgeckgieaaaaGreat
open Go.Ab
set_option maxRecDepth 8000
set_option maxHeartbeats 400000
theorem at_isSome {T:Tab} (i:Int):(T.at i).isSome=(T.get i).2:=by
 cases h:T.at i with
 | none=>rw [get_no h];rfl
 | some j=>rw [get_at h];rfl
theorem usedN_bd (T:Tab):∀m,m≤1000→0≤T.usedN m∧T.usedN m≤m
 | 0, _=>⟨Int.le_refl _,Int.le_refl _⟩
 | m+1,hm=>by
  have ih:=usedN_bd T m (by omega)
  unfold Tab.usedN
  cases (T.at ((m:Int)+1)).isSome with
  | false=>simp only [cond_false];omega
  | true=>simp only [cond_true];rw [IntWalk.i64_in _ (by omega)];omega
theorem usedN_room {T:Tab}:∀m,T.room.toNat≤m→T.usedN m=T.usedN T.room.toNat
 | 0,h=>by rw [Nat.le_zero.1 h]
 | m+1,h=>by
  rcases Nat.eq_or_lt_of_le h with h | h
  · rw [h]
  ·
   rw [←usedN_room m (by omega)]
   have:T.at ((m:Int)+1)=none:=by unfold Tab.at;rw [if_neg (by omega)]
   show (bif (T.at ((m:Int)+1)).isSome then _ else _)=_
   rw [this];rfl
theorem used_24 {T:Tab} (hT:T.Ok):T.used=T.usedN 24:=(usedN_room 24 (by have:=hT.hi;omega)).symm
theorem withN_kind {n:Nd} {s:List UInt8} {id:Int} (h:(withN n s id).2=0):(withN n s id).1.kind=2:=by
 unfold withN at h ⊢
 split
 · rename_i h1;rw [if_pos h1] at h;cases h
 ·
  rename_i h1
  rw [if_neg h1] at h
  cases hb:badN s id with
  | true=>rw [hb] at h;cases h
  | false=>
   rw [hb,cond_false] at h
   rw [cond_false]
   split
   · rename_i h2;rw [if_pos h2] at h;cases h
   ·
    rename_i h2
    rw [if_neg h2] at h
    split
    · rename_i h3;rw [if_pos h3] at h;cases h
    ·
     rename_i h3
     rw [if_neg h3] at h
     split
     · rename_i h4;rw [if_pos h4] at h;cases h
     ·
      show n.kind=2
      exact Classical.not_not.1 h1
theorem TreeI.free {T:Tab} {m:Nat} (h:TreeI T m) {i:Nat} (hf:T.free=some i):i=m∧(i:Int)+1≤T.room:=by
 unfold Tab.free at hf
 obtain ⟨h1,l1,l2,h2,h3⟩:=List.find?_eq_some_iff_append.1 hf
 have hn:(T.get ((i:Int)+1)).2=false:=by
  rw [←at_isSome]
  cases ha:T.at ((i:Int)+1) with
  | none=>rfl
  | some j=>rw [ha] at h1;cases h1
 have hmem:i∈List.range T.room.toNat:=by rw [h2];simp
 have hlt:=List.mem_range.1 hmem
 refine ⟨?_,by omega⟩
 rcases Nat.lt_trichotomy i m with hl | hl | hl
 ·
  have:=(h.used ((i:Int)+1)).2 ⟨by omega,by omega⟩
  rw [hn] at this;cases this
 · exact hl
 ·
  exfalso
  have hm:m∈l1:=by
   have hm2:m∈List.range T.room.toNat:=List.mem_range.2 (by omega)
   have hs:(List.range T.room.toNat).Pairwise (· < ·):=List.pairwise_lt_range
   rw [h2] at hm2 hs
   rcases List.mem_append.1 hm2 with h5 | h5
   · exact h5
   ·
    rcases List.mem_cons.1 h5 with h6 | h6
    · omega
    · have:=(List.pairwise_cons.1 (List.pairwise_append.1 hs).2.1).1 m h6;omega
  have:=h3 m hm
  simp only [Bool.not_eq_eq_eq_not,Bool.not_true] at this
  have hu:(T.get ((m:Int)+1)).2=true:=by
   rw [←at_isSome]
   cases ha:T.at ((m:Int)+1) with
   | none=>rw [ha] at this;cases this
   | some j=>rfl
  have:=(h.used _).1 hu
  omega
theorem TreeI.one_ok {T:Tab} (hT:T.Ok) {m:Nat} (h:TreeI T m) {r:Rw} (hr:RwOk r) (hz:(oneF T r).1=0):∃m',TreeI (oneF T r).2 m':=by
 have key:∃m':Nat,m≤m'∧(toldF T r).2.Ok∧((toldF T r).1.2=0→((toldF T r).1.1=(m:Int)+1∧m'=m+1∧(m:Int)+1≤T.room∧∀i,(toldF T r).2.get i=if i=(m:Int)+1 then (madeF r,true) else T.get i) ∨
  ((toldF T r).1.1=r.node∧m'=m∧(toldF T r).2=T∧(T.get r.node).2=true∧(T.get r.node).1.kind≠2)):=by
  have hok:=toldF_ok hT hr
  by_cases h4:r.kind≠4
  ·
   refine ⟨m+1,by omega,hok,fun h0=>.inl ?_⟩
   unfold toldF at h0 ⊢
   rw [if_pos h4] at h0 ⊢
   unfold addT at h0 ⊢
   split at h0
   · cases h0
   ·
    rename_i hrt
    rw [if_neg hrt]
    split at h0
    ·
     rename_i i hf
     obtain ⟨rfl,hro⟩:=h.free hf
     exact ⟨rfl,rfl,hro,fun i=>get_put hT (madeF_ok hr) (rightF_kind (by simpa using hrt)) hro i⟩
    · cases h0
  ·
   refine ⟨m,Nat.le_refl _,hok,fun h0=>.inr ?_⟩
   unfold toldF at h0 ⊢
   rw [if_neg h4] at h0 ⊢
   split at h0
   · cases h0
   ·
    rename_i hg
    rw [if_neg hg]
    split at h0
    · cases h0
    ·
     rename_i hk
     rw [if_neg hk]
     exact ⟨rfl,rfl,rfl,by simpa using hg,hk⟩
 obtain ⟨m',hmm,hok,key⟩:=key
 unfold oneF at hz ⊢
 split at hz
 · cases hz
 ·
  rename_i hp
  rw [if_neg hp]
  have hp':(T.get r.parent).2=true:=by simpa using hp
  have hpm:=(h.used _).1 hp'
  split at hz
  · rename_i hc;exact absurd hz hc
  ·
   rename_i hc
   rw [if_neg hc]
   split at hz
   · rename_i hw;exact absurd hz hw
   ·
    rename_i hw
    rw [if_neg hw]
    have hw0:(withN ((toldF T r).2.get r.parent).1 r.name (toldF T r).1.1).2=0:=Classical.not_not.1 hw
    have hc0:(toldF T r).1.2=0:=Classical.not_not.1 hc
    have hwk:=withN_kind hw0
    have hwe:=withN_zero hw0
    have hwo:NdOk (withN ((toldF T r).2.get r.parent).1 r.name (toldF T r).1.1).1:=withN_ok (get_ok hok _) (Nat.le_trans hr.name (by decide))
    generalize (withN ((toldF T r).2.get r.parent).1 r.name (toldF T r).1.1).1=n' at hz hwk hwe hwo ⊢
    unfold putT at hz ⊢
    split at hz
    · cases hz
    ·
     rename_i j hj
     split at hz
     · cases hz
     ·
      rename_i hrt
      try simp only [hj]
      rw [if_neg hrt]
      obtain ⟨hj1,hj2,hj3⟩:=at_room hj
      have hjp:((j:Nat):Int)+1=r.parent:=by omega
      have hget:∀i,((toldF T r).2.put j n').get i=if i=r.parent then (n',true) else (toldF T r).2.get i:=fun i=>by
       rw [get_put hok hwo (by rw [hwk];decide) (by omega) i,hjp]
      have hk0:((toldF T r).2.get r.parent).1.kind=2:=by rw [hwe] at hwk;exact hwk
      generalize (toldF T r).2.put j n'=T2 at hget ⊢
      rcases key hc0 with ⟨k1,k2,k3,k4⟩ | ⟨k1,k2,k3,k4,k5⟩
      ·
       have hpo:(toldF T r).2.get r.parent=T.get r.parent:=by rw [k4,if_neg (by omega)]
       rw [hpo] at hwe hk0
       rw [k1] at hwe
       have g2:∀i,T2.get i=if i=r.parent then (n',true) else if i=(m:Int)+1 then (madeF r,true) else T.get i:=fun i=>by rw [hget,k4]
       have hkind:∀i,i≤(m:Int)→(T2.get i).1.kind=(T.get i).1.kind:=fun i hi=>by
        rw [g2]
        split
        · rename_i e;subst e;rw [hwk,hk0]
        · rw [if_neg (by omega)]
       have hents:∀d e,e∈(T2.get d).1.ents→(d=r.parent∧e=(r.name,(m:Int)+1))∨e∈(T.get d).1.ents:=fun d e he=>by
        rw [g2] at he
        split at he
        ·
         rename_i hd
         rw [hwe] at he
         rcases mem_insF.1 he with h6 | h6
         · exact .inl ⟨hd,h6⟩
         · rw [hd];exact .inr h6
        ·
         split at he
         · simp [madeF] at he
         · exact .inr he
       have hold:∀d e,e∈(T.get d).1.ents→e∈(T2.get d).1.ents:=fun d e he=>by
        have hd:=(h.used d).1 (ents_is he)
        rw [g2]
        split
        ·
         rename_i hd2
         rw [hwe]
         exact mem_insF.2 (.inr (by rw [←hd2];exact he))
        · rw [if_neg (by omega)];exact he
       refine ⟨m',by omega,fun i=>?_,fun d e he=>?_,fun d d' e e' he he' hee hk=>?_,fun i hi1 hi2=>?_,?_⟩
       ·
        rw [g2]
        split
        · rename_i e;subst e;exact ⟨fun _=>by omega,fun _=>rfl⟩
        ·
         split
         · exact ⟨fun _=>by omega,fun _=>rfl⟩
         · rw [h.used];omega
       ·
        rcases hents d e he with ⟨h6,h7⟩ | h6
        ·
         subst h7
         exact ⟨by dsimp only;omega,by dsimp only;omega,fun _=>by dsimp only;omega⟩
        ·
         obtain ⟨q1,q2,q3⟩:=h.kid d e h6
         exact ⟨q1,by omega,fun hq=>q3 (by rw [←hkind _ q2];exact hq)⟩
       ·
        rcases hents d e he with ⟨h6,h7⟩ | h6
        ·
         rcases hents d' e' he' with ⟨h8,h9⟩ | h8
         · exact ⟨by rw [h6,h8],by rw [h7,h9]⟩
         ·
          have:=(h.kid d' e' h8).2.1
          rw [h7] at hee
          dsimp only at hee;omega
        ·
         rcases hents d' e' he' with ⟨h8,h9⟩ | h8
         ·
          have:=(h.kid d e h6).2.1
          rw [h9] at hee
          dsimp only at hee;omega
         · exact h.one d d' e e' h6 h8 hee (by rw [←hkind _ (h.kid d e h6).2.1];exact hk)
       ·
        by_cases hi:i≤m
        ·
         obtain ⟨d,e,q1,q2,q3⟩:=h.par i hi1 hi
         exact ⟨d,e,hold d e q1,q2,q3⟩
        ·
         refine ⟨r.parent,(r.name,(m:Int)+1),?_,by dsimp only;omega,by omega⟩
         rw [g2,if_pos rfl,hwe]
         exact mem_insF.2 (.inl rfl)
       · rw [hkind 1 (by have:=h.pos;omega)];exact h.root
      ·
       rw [k3] at hwe hk0
       rw [k1] at hwe
       have hnm:=(h.used _).1 k4
       have g2:∀i,T2.get i=if i=r.parent then (n',true) else T.get i:=fun i=>by rw [hget,k3]
       have hkind:∀i,(T2.get i).1.kind=(T.get i).1.kind:=fun i=>by
        rw [g2]
        split
        · rename_i e;subst e;rw [hwk,hk0]
        · rfl
       have hents:∀d e,e∈(T2.get d).1.ents→(d=r.parent∧e=(r.name,r.node))∨e∈(T.get d).1.ents:=fun d e he=>by
        rw [g2] at he
        split at he
        ·
         rename_i hd
         rw [hwe] at he
         rcases mem_insF.1 he with h6 | h6
         · exact .inl ⟨hd,h6⟩
         · rw [hd];exact .inr h6
        · exact .inr he
       have hold:∀d e,e∈(T.get d).1.ents→e∈(T2.get d).1.ents:=fun d e he=>by
        rw [g2]
        split
        ·
         rename_i hd2
         rw [hwe]
         exact mem_insF.2 (.inr (by rw [←hd2];exact he))
        · exact he
       refine ⟨m',by have:=h.pos;omega,fun i=>?_,fun d e he=>?_,fun d d' e e' he he' hee hk=>?_,fun i hi1 hi2=>?_,?_⟩
       ·
        rw [g2,k2]
        split
        · rename_i e;subst e;exact ⟨fun _=>by omega,fun _=>rfl⟩
        · exact h.used i
       ·
        rcases hents d e he with ⟨h6,h7⟩ | h6
        ·
         subst h7
         exact ⟨hnm.1,by dsimp only;omega,fun hq=>absurd (by rw [←hkind];exact hq) k5⟩
        ·
         obtain ⟨q1,q2,q3⟩:=h.kid d e h6
         exact ⟨q1,by omega,fun hq=>q3 (by rw [←hkind];exact hq)⟩
       ·
        have hk':=hk
        rw [hkind] at hk'
        rcases hents d e he with ⟨h6,h7⟩ | h6
        · rw [h7] at hk';exact absurd hk' k5
        ·
         rcases hents d' e' he' with ⟨h8,h9⟩ | h8
         · rw [hee,h9] at hk';exact absurd hk' k5
         · exact h.one d d' e e' h6 h8 hee hk'
       ·
        obtain ⟨d,e,q1,q2,q3⟩:=h.par i hi1 (by omega)
        exact ⟨d,e,hold d e q1,q2,q3⟩
       · rw [hkind];exact h.root
theorem TreeI.rest:∀(l:List Rw) (T:Tab) (i:Nat) (T':Tab) (m:Nat),T.Ok→TreeI T m→(∀r∈l,RwOk r)→restF T i l=.inr T'→∃m',TreeI T' m'
 | [],T,i,T',m, _,h, _,e=>by cases e;exact ⟨m,h⟩
 | r::l,T,i,T',m,hT,h,hl,e=>by
  unfold restF at e
  split at e
  · cases e
  ·
   rename_i hz
   obtain ⟨m',h'⟩:=h.one_ok hT (hl r (by simp)) (Classical.not_not.1 hz)
   exact TreeI.rest l _ _ T' m' (oneF_ok hT (hl r (by simp))) h' (fun r hr=>hl r (by simp [hr])) e
theorem newT_get (room:Int) (i:Int):(newT room).get i=(nd0,false):=by
 have:(newT room).at i=none:=by
  unfold Tab.at
  rw [if_neg]
  rintro ⟨_, _,h⟩
  refine h ?_
  show ((List.replicate 24 nd0).getD (i - 1).toNat nd0).kind=0
  rw [List.getD_eq_getElem?_getD,List.getElem?_replicate]
  split<;>rfl
 exact get_no this
theorem TreeI.build {room:Int} {l:List Rw} {T:Tab} (hl:∀r∈l,RwOk r) (e:buildF room l=.inr T):∃m,TreeI T m:=by
 unfold buildF at e
 cases hc:(decide ((l.length:Int)=0)||!decide ((l.getD 0 rw0).kind=2)||!decide ((l.getD 0 rw0).parent=0)||!decide ((l.getD 0 rw0).name=[])) with
 | true=>rw [hc] at e;cases e
 | false=>
  rw [hc,cond_false] at e
  have h0:=getD_ok hl 0
  simp only [Bool.or_eq_false_iff,Bool.not_eq_false',decide_eq_true_eq,decide_eq_false_iff_not] at hc
  split at e
  · cases e
  ·
   rename_i ha
   refine TreeI.rest _ _ _ T 1 (addT_ok (newT_ok room) (madeF_ok h0)) ?_ (fun r hr=>hl r (List.mem_of_mem_drop hr)) e
   unfold addT at ha ⊢
   split
   · rename_i hr;rw [if_pos hr] at ha;exact (ha (show (22:Int)≠0 by decide)).elim
   ·
    rename_i hr
    rw [if_neg hr] at ha
    have hf:(newT room).free=some 0:=by
     refine free_at (by show 0<(min (max room 1) 24).toNat;omega) ?_ (fun j hj=>by omega)
     rw [show (newT room).at (((0:Nat):Int)+1)=none from by
      cases hat:(newT room).at (((0:Nat):Int)+1) with
      | none=>rfl
      | some j=>
       have h1:=newT_get room (((0:Nat):Int)+1)
       rw [get_at hat] at h1
       cases congrArg Prod.snd h1];rfl
    rw [hf]
    have g:∀i,((newT room).put 0 (madeF (l.getD 0 rw0))).get i=if i=1 then (madeF (l.getD 0 rw0),true) else (nd0,false):=fun i=>by
     rw [get_put (newT_ok room) (madeF_ok h0) (rightF_kind (by simpa using hr)) (by show ((0:Nat):Int)+1≤min (max room 1) 24;omega),newT_get];rfl
    show TreeI ((newT room).put 0 (madeF (l.getD 0 rw0))) 1
    have ge:∀d e,e∈(((newT room).put 0 (madeF (l.getD 0 rw0))).get d).1.ents→False:=fun d e he=>by
     rw [g] at he
     split at he
     · simp [madeF] at he
     · simp [nd0] at he
    refine ⟨Nat.le_refl _,fun i=>?_,fun d e he=>(ge d e he).elim,fun d d' e e' he _ _ _=>(ge d e he).elim,fun i h1 h2=>by omega,?_⟩
    ·
     rw [g]
     split
     · exact ⟨fun _=>by omega,fun _=>rfl⟩
     · exact ⟨fun h=>(by cases h),fun h=>(by omega)⟩
    · rw [g,if_pos rfl];exact hc.1.1.2
theorem TreeI.bound {T:Tab} (hT:T.Ok) {m:Nat} (h:TreeI T m):m≤24:=by
 have hp:=h.pos
 obtain ⟨j, _,hj,hr⟩:=get_isat ((h.used m).2 ⟨by omega,by omega⟩)
 have:=hT.hi
 omega
theorem TreeI.usedN {T:Tab} {m:Nat} (h:TreeI T m):∀n,n≤24→T.usedN n=((min n m:Nat):Int)
 | 0, _=>by rw [Nat.zero_min];rfl
 | n+1,hn=>by
  have ih:=h.usedN n (by omega)
  show (bif (T.at ((n:Int)+1)).isSome then IntKind.i64.wrap (T.usedN n+1) else T.usedN n)=_
  rw [at_isSome,ih]
  by_cases hm:n+1≤m
  · rw [(h.used ((n:Int)+1)).2 ⟨by omega,by omega⟩,cond_true,IntWalk.i64_in _ (by omega)];omega
  ·
   have:(T.get ((n:Int)+1)).2=false:=Bool.eq_false_iff.2 fun e=>by have:=(h.used _).1 e;omega
   rw [this,cond_false];omega
theorem TreeI.count {T:Tab} (hT:T.Ok) {m:Nat} (h:TreeI T m):T.used=(m:Int):=by
 have:=h.bound hT
 rw [used_24 hT,h.usedN 24 (Nat.le_refl _)];omega
theorem built_used {room:Int} {l:List Rw} {c:Cr} {T:Tab} (h:builtF room l c=some T):1≤T.used∧T.used≤24∧∀k:Int,1≤k→k≤T.used→(T.get k).2=true:=by
 have hT:=(builtF_ok h).1
 obtain ⟨m,hm⟩:∃m,TreeI T m:=by
  unfold builtF at h
  cases h1:(decide ((50:Int)<l.length)||decide ((10:Int)<c.gs.length)) with
  | true=>rw [h1] at h;cases h
  | false=>
   rw [h1,cond_false] at h
   cases h2:l.any bigR with
   | true=>rw [h2] at h;cases h
   | false=>
    rw [h2,cond_false] at h
    cases hb:buildF room l with
    | inl x=>rw [hb] at h;cases h
    | inr T'=>
     rw [hb] at h
     cases h
     exact TreeI.build (small_ok h2) hb
 have hc:=hm.count hT
 have hp:=hm.pos
 have hb:=hm.bound hT
 exact ⟨by omega,by omega,fun k k1 k2=>(hm.used k).2 ⟨k1,by omega⟩⟩
theorem chOf_same {A B:Tab} (h:∀i:Int,(A.get i).1=(B.get i).1):chOf A B=chK 0:=by
 have:sameT A B=true:=by
  unfold sameT
  exact List.all_eq_true.2 fun j _=>same_iff.2 (h _)
 unfold chOf chF
 rw [decide_eq_true (sum_zero.2 this)];rfl
theorem chOf_alone {A B:Tab} {k:Int} (hk:1≤k∧k≤24) (h3:fate A B k=3) (hn:∀i:Int,i≠k→fate A B i=4):chOf A B=aloneF k (A.get k).1 (B.get k).1:=by
 have no:∀f,f<3→∀i:Int,fate A B i≠f:=fun f hf i=>by
  by_cases e:i=k
  · rw [e,h3];omega
  · rw [hn i e];omega
 have b3:=b_one (by decide) hk h3 fun i hi=>by rw [hn i hi];decide
 unfold chOf chF
 have hs:sumI (dfN A B 24) 4=1:=by
  simp only [sumI,b3,b_none (A:=A) (B:=B) (f:=0) (by decide) (no 0 (by decide)),b_none (A:=A) (B:=B) (f:=1) (by decide) (no 1 (by decide)),b_none (A:=A) (B:=B) (f:=2) (by decide) (no 2 (by decide))];rfl
 rw [hs,b3];rfl
theorem chOf_free {A B:Tab} {k:Int} (hk:1≤k∧k≤24) (h1:fate A B k=1) (hn:∀i:Int,i≠k→fate A B i=4):chOf A B=⟨6,k,0,[],0,[],0⟩:=by
 have no:∀f,f<4→f≠1→∀i:Int,fate A B i≠f:=fun f hf hg i=>by
  by_cases e:i=k
  · rw [e,h1];omega
  · rw [hn i e];omega
 have b1:=b_one (by decide) hk h1 fun i hi=>by rw [hn i hi];decide
 have b0:=b_none (A:=A) (B:=B) (f:=0) (by decide) (no 0 (by decide) (by decide))
 have b2:=b_none (A:=A) (B:=B) (f:=2) (by decide) (no 2 (by decide) (by decide))
 have b3:=b_none (A:=A) (B:=B) (f:=3) (by decide) (no 3 (by decide) (by decide))
 unfold chOf chF
 have hs:sumI (dfN A B 24) 4=1:=by simp only [sumI,b0,b1,b2,b3];rfl
 rw [hs,b0,b1,b2,b3];rfl
theorem put_fate {A B:Tab} {k:Int} {n:Nd} (ha:(A.get k).2=true) (hB:∀i:Int,B.get i=if i=k then (n,true) else A.get i) (he:n.ents=(A.get k).1.ents):(∀i:Int,i≠k→fate A B i=4)∧(n≠(A.get k).1→fate A B k=3):=by
 refine ⟨fun i hi=>fate_4 (by rw [hB,if_neg hi]),fun hne=>?_⟩
 have e:B.get k=(n,true):=by rw [hB,if_pos rfl]
 unfold fate
 rw [e]
 show (bif sameF (A.get k).1 n then 4 else bif !(A.get k).2 then 0 else bif !true then 1 else bif decide ((A.get k).1.kind=2)&&sameF (nEnts (A.get k).1 n) n then 2 else 3)=3
 have h2:sameF (nEnts (A.get k).1 n) n=false:=same_no fun h=>hne (by
  rw [←h]
  unfold nEnts
  rw [he];rfl)
 rw [same_no (Ne.symm hne),ha,h2,Bool.and_false];rfl
def prtN (n:Nd) (m u:Int):Nd:=⟨n.kind,m,u,n.gid,n.data,n.ents,n.target⟩
theorem prt_right {n:Nd} (h:rightF n=true) (h3:n.kind≠3) {m u:Int} (hm:0≤m∧m≤4095) (hu:0≤u∧u≤255):rightF (prtN n m u)=true:=by
 obtain ⟨hc,hk⟩:=right_cases h
 simp only [Bool.or_eq_false_iff,Bool.not_eq_false'] at hc
 have hc':(decide (m<0)||decide (4095<m)||!idB u||!idB n.gid)=false:=by
  have hi:idB u=true:=by unfold idB;rw [decide_eq_true (show 0≤u by omega),decide_eq_true (show u≤65535 by omega)];rfl
  rw [decide_eq_false (by omega),decide_eq_false (by omega),hi,hc.2];rfl
 unfold rightF prtN
 dsimp only
 rw [hc',cond_false]
 rcases hk with ⟨k1,k2,k3,k4⟩ | ⟨k1,k2,k3,k4⟩ | hk
 · rw [if_pos k1,k2,k3,decide_eq_true (show (n.data.length:Int)≤48 by omega)];rfl
 · rw [if_neg (by omega),if_pos k1,k2,k3,k4];rfl
 · exact absurd hk.1 h3
theorem prt_attr {n:Nd} {m u k:Int}:aloneF k n (prtN n m u)=⟨1,k,0,[],0,[],0⟩:=by
 unfold aloneF
 rw [same_iff.2 (show asAttr n (prtN n m u)=prtN n m u from rfl)];rfl
def newN:Nd:=⟨1,0,0,0,[],[],[]⟩
theorem newN_ok:NdOk newN:=⟨by decide,by decide,by decide,fun e he=>nomatch he⟩
theorem parts_law {T:Tab} (hT:Gd T) {k:Int} (hk:(T.get k).2=true) (h3:(T.get k).1.kind≠3) {a b u:Int} (ha:0≤a∧a≤4095) (hb:0≤b∧b≤4095) (hu:0≤u∧u≤255) {U:Tab}
 (hU:(putT (putT T k (prtN (T.get k).1 a (T.get k).1.uid)).2 k (prtN (T.get k).1 b u)).2=U) :
 Gd U∧(sameF (T.get k).1 (prtN (T.get k).1 b u)=true→chOf T U=chK 0)∧(sameF (T.get k).1 (prtN (T.get k).1 b u)=false→chOf T U=⟨1,k,0,[],0,[],0⟩) ∧
 ((addT U newN).1.2=0→chOf (addT U newN).2 U=⟨6,(addT U newN).1.1,0,[],0,[],0⟩):=by
 have hn:=hT.nd k
 obtain ⟨j,hj,hj2,hjr⟩:=get_isat hk
 have hjm:=hT.1.hi
 have hr:rightF (T.get k).1=true:=hT.2.get hk
 have hid:0≤(T.get k).1.uid∧(T.get k).1.uid≤65535:=by
  have:=(right_cases hr).1
  simp only [Bool.or_eq_false_iff,Bool.not_eq_false',idB,Bool.and_eq_true,decide_eq_true_eq] at this
  exact this.1.2
 have hn1:NdOk (prtN (T.get k).1 a (T.get k).1.uid):=⟨hn.1,hn.2.1,hn.2.2.1,hn.2.2.2⟩
 have hn2:NdOk (prtN (T.get k).1 b u):=⟨hn.1,hn.2.1,hn.2.2.1,hn.2.2.2⟩
 have hr1:rightF (prtN (T.get k).1 a (T.get k).1.uid)=true:=by
  obtain ⟨hc,hk2⟩:=right_cases hr
  simp only [Bool.or_eq_false_iff] at hc
  have hc':(decide (a<0)||decide (4095<a)||!idB (T.get k).1.uid||!idB (T.get k).1.gid)=false:=by
   rw [decide_eq_false (by omega),decide_eq_false (by omega),hc.1.2,hc.2];rfl
  unfold rightF prtN
  dsimp only
  rw [hc',cond_false]
  rcases hk2 with ⟨k1,k2,k3,k4⟩ | ⟨k1,k2,k3,k4⟩ | hk2
  · rw [if_pos k1,k2,k3,decide_eq_true (show ((T.get k).1.data.length:Int)≤48 by omega)];rfl
  · rw [if_neg (by omega),if_pos k1,k2,k3,k4];rfl
  · exact absurd hk2.1 h3
 have hr2:=prt_right hr h3 hb hu
 obtain ⟨_,g1⟩:=putT_get hT.1 hn1 hr1 hk
 have hG1:Gd (putT T k (prtN (T.get k).1 a (T.get k).1.uid)).2:=hT.put hn1 k
 obtain ⟨_,g2⟩:=putT_get (i:=k) hG1.1 hn2 hr2 (by rw [g1,if_pos rfl])
 rw [hU] at g2
 have hGU:Gd U:=hU▸hG1.put hn2 k
 have hB:∀i:Int,U.get i=if i=k then (prtN (T.get k).1 b u,true) else T.get i:=fun i=>by
  rw [g2,g1]
  split<;>rfl
 obtain ⟨f4,f3⟩:=put_fate hk hB rfl
 refine ⟨hGU,fun hs=>chOf_same fun i=>?_,fun hs=>?_,fun hz=>?_⟩
 ·
  rw [hB]
  split
  · rename_i e;rw [e];exact same_iff.1 hs
  · rfl
 ·
  have hne:prtN (T.get k).1 b u≠(T.get k).1:=fun e=>by rw [e,same_self] at hs;cases hs
  rw [chOf_alone (by omega) (f3 hne) f4,hB,if_pos rfl]
  exact prt_attr
 ·
  obtain ⟨hf,hga⟩:=add_get hGU.1 newN_ok hz
  obtain ⟨_,i,hi,he⟩:=addT_good hz
  have hri:=(free_spec hGU.1 hi).1
  have hjm:=hGU.1.hi
  refine chOf_free (by rw [he];show (1:Int)≤(i:Int)+1∧(i:Int)+1≤24;omega) ?_ fun i hi=>fate_4 (by rw [hga,if_neg hi])
  unfold fate
  rw [hga,if_pos rfl,hf,get_none hf];rfl
end Go.Proofs.YtjmlgeckgieaaaaGreat
namespace Go.Proofs.YtjmlgeckgieaaaaGreat
open Go.Ab
set_option maxRecDepth 8000
set_option maxHeartbeats 400000
theorem ch_X (c:Ch):AV.agg (chC c)=.agg [.int .i64 c.kind,.int .i64 c.node,.int .i64 c.dir,.str c.name,.int .i64 c.to,.str c.other,.int .i64 c.over]:=rfl
def vRaw:List Rw:=[⟨2,493,0,0,0,[],[],[],0⟩,⟨1,0,0,0,1,[102],[],[],0⟩]
def vT0:Tab:=match buildF 9 vRaw with
 | .inr T=>T
 | .inl _=>⟨0,[]⟩
theorem vBuild:buildF 9 vRaw=.inr vT0:=by kernel_rfl
def vCs:List Cr:=[⟨0,0,[]⟩]
def vP0:List Pr:=vCs.map (pr1 0)
def vA1:Ca:=⟨8,[120],[],493,0,[]⟩
def vA2:Ca:=⟨12,[120],[121],0,0,[]⟩
def vD1:Rs×Tab×List Pr:=doF vT0 vP0 0 vA1
def vD2:Rs×Tab×List Pr:=doF vD1.2.1 vD1.2.2 0 vA2
theorem v_1:chC (chOf vT0 vD1.2.1)=chC ⟨3,3,1,[120],0,[],0⟩:=by kernel_rfl
theorem v_2:chC (chOf vD1.2.1 vD2.2.1)=chC ⟨5,3,1,[120],1,[121],0⟩:=by kernel_rfl
theorem v_3:chC (chOf vD2.2.1 vD2.2.1)=chC (chK 0):=by kernel_rfl
theorem v_4:(chOf vT0 vD2.2.1).kind=3:=by kernel_rfl
theorem vl0:(List.map (pr1 0) vCs).length=1:=rfl
theorem vl1:vD1.2.2.length=1:=by kernel_rfl
theorem vl2:vD2.2.2.length=1:=by kernel_rfl
theorem v_DT:decide True=true:=rfl
theorem v_E0:bE (.inr vT0)=0:=rfl
theorem vRaw_ok:∀r∈vRaw,RwOk r:=by
 intro r hr
 simp only [vRaw,List.mem_cons,List.not_mem_nil,or_false] at hr
 rcases hr with rfl | rfl<;>exact ⟨by decide,by decide,by decide⟩
theorem vT0_ok:vT0.Ok:=buildF_ok vRaw_ok vBuild
theorem vT0_rt:vT0.Rt:=Tab.Rt.build vBuild
set_option maxHeartbeats 1000000 in
theorem c8 (h:List Blk) (live:List Nat) (hh0:h=[]):AC Tryz.prog 8 [] h live (.bool true):=by
 refine aq_ Tryz.func8 fun hH hX=>?_
 have sx:=(And.intro @v_E0 (And.intro @v_DT (And.intro @decI (And.intro @decB (And.intro @v_1 (And.intro @v_2 (And.intro @v_3 (And.intro @v_4 sx0))))))))
 refine rg_ [] ?_
 refine rs_ [1,3] ?_
 refine sg_ ?_
 refine ck_ (k:=?_)
 refine erx_ (ys:=[.int .i64 9,.slice (vRaw.map rV) .none]) (by simp only [List.map_cons,List.map_nil,AV.er,AV.erL];rfl) ((c30 9 vRaw _ _ vRaw_ok (by decide)).mono ?_);rintro _ _ _ ⟨rfl,g,p,rfl,rfl,hbp,hper,hpc,hHg⟩;rw [vBuild] at hbp ⊢;obtain ⟨ka,rfl,hka⟩:=hbp
 refine sre_ ?_
 refine rs_ [3,4] ?_
 refine sg_ ?_
 refine ck_ (k:=?_)
 refine erx_ (ys:=[.ptr ka 0,.int .i64 0,.slice (vCs.map crV) .none]) (by simp only [List.map_cons,List.map_nil,AV.er,AV.erL];rfl) ((c17 vT0 ka 0 vCs _ _ hka vT0_ok (by decide) (by decide)).mono ?_);rintro _ H0 _ ⟨rfl,hH0,rfl⟩
 obtain ⟨n,hn⟩:∃n,(h++g).length=n:=⟨_,rfl⟩
 have hl0:=newH_len (h++g) vT0 0 vCs
 have hy0:=newH_at (h++g) 0 (cs:=vCs) vT0_ok vT0_rt (by decide) (by decide)
 rw [hH0] at hl0 hy0
 rw [hn] at hl0 hy0
 simp only [hn]
 change H0.length=n+2+2*1 at hl0
 refine sre_ ?_
 refine rs_ [3,4,5] ?_
 refine sg_ ?_
 refine cl_ (hc:=c18 _ _ _ _ _ _ _ hy0) (k:=?_)
 refine sre_ ?_
 refine rs_ [3,4,5] ?_
 refine sg_ ?_
 refine ck_ (k:=?_)
 refine erx_ (ys:=[.ptr (n+1) 0,.int .i64 0,.agg (caC vA1)]) (by simp only [List.map_cons,List.map_nil,AV.er,AV.erL,List.append_nil]<;>rfl) ((kDo (d:=vD1) hy0.app 0 vA1 rfl (by decide) (by decide) (by decide)).mono ?_);rintro _ H1 _ ⟨⟨rfl,hy1,hl1,ho1,rfl⟩,hH1⟩
 change SysAt H1 (n+1) n (n+3) vD1.2.1 vD1.2.2 at hy1
 refine re_ ?_
 refine rs_ [3,4,5,6] ?_
 refine sg_ ?_
 refine cl_ (hc:=c18 _ _ _ _ _ _ _ hy1) (k:=?_)
 refine sre_ ?_
 refine rs_ [3,4,5,6] ?_
 refine sg_ ?_
 refine ck_ (k:=?_)
 refine erx_ (ys:=[.ptr (n+1) 0,.int .i64 0,.agg (caC vA2)]) (by simp only [List.map_cons,List.map_nil,AV.er,AV.erL,List.append_nil]<;>rfl) ((kDo (d:=vD2) hy1.app 0 vA2 rfl (by decide) (by decide) (by decide)).mono ?_);rintro _ H2 _ ⟨⟨rfl,hy2,hl2,ho2,rfl⟩,hH2⟩
 change SysAt H2 (n+1) n (n+3) vD2.2.1 vD2.2.2 at hy2
 refine re_ ?_
 refine rs_ [3,5,6,7] ?_
 refine sg_ ?_
 refine cl_ (hc:=c18 _ _ _ _ _ _ _ hy2) (k:=?_)
 refine sre_ ?_
 refine rs_ [0] ?_
 rw [List.length_append,List.length_singleton] at hl1 hl2
 have ha1:H1[H0.length]? = some (tabBlk vT0):=by rw [ho1 _ (by omega) (by intro j hj;have:=vl0;have:=vl1;have:=vl2;omega)];simp
 have ha2:H2[H0.length]? = some (tabBlk vT0):=by rw [ho2 _ (by omega) (by intro j hj;have:=vl0;have:=vl1;have:=vl2;omega)];exact atApp ha1
 have hb2:H2[H1.length]? = some (tabBlk vD1.2.1):=by rw [ho2 _ (by omega) (by intro j hj;have:=vl0;have:=vl1;have:=vl2;omega)];simp
 have hcc:∀g:List Blk,(H2++tabBlk vD2.2.1::g)[H2.length]? = some (tabBlk vD2.2.1):=fun g=>by simp
 refine sg_ ?_
 refine cg_ (hc:=fun hg=>c14 vT0 vD1.2.1 _ _ _ _ (by first | exact atApp ha2 | exact atApp (atApp ha2)) (by first | exact atApp hb2 | exact atApp (atApp hb2)) vT0_ok hy1.ok) (k:=?_)
 refine sg_ ?_
 refine cg_ (hc:=fun hg=>c14 vD1.2.1 vD2.2.1 _ _ _ _ (by first | exact atApp hb2 | exact atApp (atApp hb2)) (by simp only [push_cast]) hy1.ok hy2.ok) (k:=?_)
 refine sg_ ?_
 refine cg_ (hc:=fun hg=>c14 vD2.2.1 vD2.2.1 _ _ _ _ (by simp only [push_cast]) (by simp only [push_cast]) hy2.ok hy2.ok) (k:=?_)
 refine sg_ ?_
 refine cg_ (hc:=fun hg=>c14 vT0 vD2.2.1 _ _ _ _ (by first | exact atApp ha2 | exact atApp (atApp ha2)) (by simp only [push_cast]) vT0_ok hy2.ok) (k:=?_)
 refine srt_ ?_
 refine gq_ (h1:=h) Tryz.results8 ?_ (hh:=(⟨_,by rw [hh0];exact (List.nil_append _).symm⟩))
 exact rk_ rfl
end Go.Proofs.YtjmlgeckgieaaaaGreat
