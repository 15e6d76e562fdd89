import Derived.Test.YtmgnbgniikjhdaaGreatK18
/-
  CP: a command that was made; what is built is a tree.
-/
set_option linter.unusedVariables false
set_option linter.unusedSimpArgs false
namespace Go.Proofs.YtmgnbgniikjhdaaGreat
open Go.Ab
set_option maxRecDepth 8000
set_option maxHeartbeats 400000
theorem at_isSome {T:Tab} (i:Int):(T.at i).isSome=(T.get i).2:=by
 cases h:T.at i with
 | none=>rw [get_no h];rfl
 | some j=>rw [get_at h];rfl
theorem TreeI.free {T:Tab} {m:Nat} (h:TreeI T m) {i:Nat} (hf:T.free=some i):i=m∧(i:Int)+1≤T.room:=by
 unfold Tab.free at hf
 obtain ⟨h1,l1,l2,h2,h3⟩:=List.find?_eq_some_iff_append.1 hf
 have hn:(T.get ((i:Int)+1)).2=false:=by
  rw [←at_isSome]
  cases ha:T.at ((i:Int)+1) with
  | none=>rfl
  | some j=>rw [ha] at h1;cases h1
 have hmem:i∈List.range T.room.toNat:=by rw [h2];simp
 have hlt:=List.mem_range.1 hmem
 refine ⟨?_,by omega⟩
 rcases Nat.lt_trichotomy i m with hl | hl | hl
 ·
  have:=(h.used ((i:Int)+1)).2 ⟨by omega,by omega⟩
  rw [hn] at this;cases this
 · exact hl
 ·
  exfalso
  have hm:m∈l1:=by
   have hm2:m∈List.range T.room.toNat:=List.mem_range.2 (by omega)
   have hs:(List.range T.room.toNat).Pairwise (· < ·):=List.pairwise_lt_range
   rw [h2] at hm2 hs
   rcases List.mem_append.1 hm2 with h5 | h5
   · exact h5
   ·
    rcases List.mem_cons.1 h5 with h6 | h6
    · omega
    · have:=(List.pairwise_cons.1 (List.pairwise_append.1 hs).2.1).1 m h6;omega
  have:=h3 m hm
  simp only [Bool.not_eq_eq_eq_not,Bool.not_true] at this
  have hu:(T.get ((m:Int)+1)).2=true:=by
   rw [←at_isSome]
   cases ha:T.at ((m:Int)+1) with
   | none=>rw [ha] at this;cases this
   | some j=>rfl
  have:=(h.used _).1 hu
  omega
theorem TreeI.one_ok {T:Tab} (hT:T.Ok) {m:Nat} (h:TreeI T m) {r:Rw} (hr:RwOk r) (hz:(oneF T r).1=0):∃m',TreeI (oneF T r).2 m':=by
 have key:∃m':Nat,m≤m'∧(toldF T r).2.Ok∧((toldF T r).1.2=0→((toldF T r).1.1=(m:Int)+1∧m'=m+1∧(m:Int)+1≤T.room∧∀i,(toldF T r).2.get i=if i=(m:Int)+1 then (madeF r,true) else T.get i) ∨
  ((toldF T r).1.1=r.node∧m'=m∧(toldF T r).2=T∧(T.get r.node).2=true∧(T.get r.node).1.kind≠2)):=by
  have hok:=toldF_ok hT hr
  by_cases h4:r.kind≠4
  ·
   refine ⟨m+1,by omega,hok,fun h0=>.inl ?_⟩
   unfold toldF at h0 ⊢
   rw [if_pos h4] at h0 ⊢
   unfold addT at h0 ⊢
   split at h0
   · cases h0
   ·
    rename_i hrt
    rw [if_neg hrt]
    split at h0
    ·
     rename_i i hf
     obtain ⟨rfl,hro⟩:=h.free hf
     exact ⟨rfl,rfl,hro,fun i=>get_put hT (madeF_ok hr) (rightF_kind (by simpa using hrt)) hro i⟩
    · cases h0
  ·
   refine ⟨m,Nat.le_refl _,hok,fun h0=>.inr ?_⟩
   unfold toldF at h0 ⊢
   rw [if_neg h4] at h0 ⊢
   split at h0
   · cases h0
   ·
    rename_i hg
    rw [if_neg hg]
    split at h0
    · cases h0
    ·
     rename_i hk
     rw [if_neg hk]
     exact ⟨rfl,rfl,rfl,by simpa using hg,hk⟩
 obtain ⟨m',hmm,hok,key⟩:=key
 unfold oneF at hz ⊢
 split at hz
 · cases hz
 ·
  rename_i hp
  rw [if_neg hp]
  have hp':(T.get r.parent).2=true:=by simpa using hp
  have hpm:=(h.used _).1 hp'
  split at hz
  · rename_i hc;exact absurd hz hc
  ·
   rename_i hc
   rw [if_neg hc]
   split at hz
   · rename_i hw;exact absurd hz hw
   ·
    rename_i hw
    rw [if_neg hw]
    have hw0:(withN ((toldF T r).2.get r.parent).1 r.name (toldF T r).1.1).2=0:=Classical.not_not.1 hw
    have hc0:(toldF T r).1.2=0:=Classical.not_not.1 hc
    have hwk:=withN_kind hw0
    have hwe:=withN_zero hw0
    have hwo:NdOk (withN ((toldF T r).2.get r.parent).1 r.name (toldF T r).1.1).1:=withN_ok (get_ok hok _) (Nat.le_trans hr.name (by decide))
    generalize (withN ((toldF T r).2.get r.parent).1 r.name (toldF T r).1.1).1=n' at hz hwk hwe hwo ⊢
    unfold putT at hz ⊢
    split at hz
    · cases hz
    ·
     rename_i j hj
     split at hz
     · cases hz
     ·
      rename_i hrt
      try simp only [hj]
      rw [if_neg hrt]
      obtain ⟨hj1,hj2,hj3⟩:=at_room hj
      have hjp:((j:Nat):Int)+1=r.parent:=by omega
      have hget:∀i,((toldF T r).2.put j n').get i=if i=r.parent then (n',true) else (toldF T r).2.get i:=fun i=>by
       rw [get_put hok hwo (by rw [hwk];decide) (by omega) i,hjp]
      have hk0:((toldF T r).2.get r.parent).1.kind=2:=by rw [hwe] at hwk;exact hwk
      generalize (toldF T r).2.put j n'=T2 at hget ⊢
      rcases key hc0 with ⟨k1,k2,k3,k4⟩ | ⟨k1,k2,k3,k4,k5⟩
      ·
       have hpo:(toldF T r).2.get r.parent=T.get r.parent:=by rw [k4,if_neg (by omega)]
       rw [hpo] at hwe hk0
       rw [k1] at hwe
       have g2:∀i,T2.get i=if i=r.parent then (n',true) else if i=(m:Int)+1 then (madeF r,true) else T.get i:=fun i=>by rw [hget,k4]
       have hkind:∀i,i≤(m:Int)→(T2.get i).1.kind=(T.get i).1.kind:=fun i hi=>by
        rw [g2]
        split
        · rename_i e;subst e;rw [hwk,hk0]
        · rw [if_neg (by omega)]
       have hents:∀d e,e∈(T2.get d).1.ents→(d=r.parent∧e=(r.name,(m:Int)+1))∨e∈(T.get d).1.ents:=fun d e he=>by
        rw [g2] at he
        split at he
        ·
         rename_i hd
         rw [hwe] at he
         rcases mem_insF.1 he with h6 | h6
         · exact .inl ⟨hd,h6⟩
         · rw [hd];exact .inr h6
        ·
         split at he
         · simp [madeF] at he
         · exact .inr he
       have hold:∀d e,e∈(T.get d).1.ents→e∈(T2.get d).1.ents:=fun d e he=>by
        have hd:=(h.used d).1 (ents_is he)
        rw [g2]
        split
        ·
         rename_i hd2
         rw [hwe]
         exact mem_insF.2 (.inr (by rw [←hd2];exact he))
        · rw [if_neg (by omega)];exact he
       refine ⟨m',by omega,fun i=>?_,fun d e he=>?_,fun d d' e e' he he' hee hk=>?_,fun i hi1 hi2=>?_,?_⟩
       ·
        rw [g2]
        split
        · rename_i e;subst e;exact ⟨fun _=>by omega,fun _=>rfl⟩
        ·
         split
         · exact ⟨fun _=>by omega,fun _=>rfl⟩
         · rw [h.used];omega
       ·
        rcases hents d e he with ⟨h6,h7⟩ | h6
        ·
         subst h7
         exact ⟨by dsimp only;omega,by dsimp only;omega,fun _=>by dsimp only;omega⟩
        ·
         obtain ⟨q1,q2,q3⟩:=h.kid d e h6
         exact ⟨q1,by omega,fun hq=>q3 (by rw [←hkind _ q2];exact hq)⟩
       ·
        rcases hents d e he with ⟨h6,h7⟩ | h6
        ·
         rcases hents d' e' he' with ⟨h8,h9⟩ | h8
         · exact ⟨by rw [h6,h8],by rw [h7,h9]⟩
         ·
          have:=(h.kid d' e' h8).2.1
          rw [h7] at hee
          dsimp only at hee;omega
        ·
         rcases hents d' e' he' with ⟨h8,h9⟩ | h8
         ·
          have:=(h.kid d e h6).2.1
          rw [h9] at hee
          dsimp only at hee;omega
         · exact h.one d d' e e' h6 h8 hee (by rw [←hkind _ (h.kid d e h6).2.1];exact hk)
       ·
        by_cases hi:i≤m
        ·
         obtain ⟨d,e,q1,q2,q3⟩:=h.par i hi1 hi
         exact ⟨d,e,hold d e q1,q2,q3⟩
        ·
         refine ⟨r.parent,(r.name,(m:Int)+1),?_,by dsimp only;omega,by omega⟩
         rw [g2,if_pos rfl,hwe]
         exact mem_insF.2 (.inl rfl)
       · rw [hkind 1 (by have:=h.pos;omega)];exact h.root
      ·
       rw [k3] at hwe hk0
       rw [k1] at hwe
       have hnm:=(h.used _).1 k4
       have g2:∀i,T2.get i=if i=r.parent then (n',true) else T.get i:=fun i=>by rw [hget,k3]
       have hkind:∀i,(T2.get i).1.kind=(T.get i).1.kind:=fun i=>by
        rw [g2]
        split
        · rename_i e;subst e;rw [hwk,hk0]
        · rfl
       have hents:∀d e,e∈(T2.get d).1.ents→(d=r.parent∧e=(r.name,r.node))∨e∈(T.get d).1.ents:=fun d e he=>by
        rw [g2] at he
        split at he
        ·
         rename_i hd
         rw [hwe] at he
         rcases mem_insF.1 he with h6 | h6
         · exact .inl ⟨hd,h6⟩
         · rw [hd];exact .inr h6
        · exact .inr he
       have hold:∀d e,e∈(T.get d).1.ents→e∈(T2.get d).1.ents:=fun d e he=>by
        rw [g2]
        split
        ·
         rename_i hd2
         rw [hwe]
         exact mem_insF.2 (.inr (by rw [←hd2];exact he))
        · exact he
       refine ⟨m',by have:=h.pos;omega,fun i=>?_,fun d e he=>?_,fun d d' e e' he he' hee hk=>?_,fun i hi1 hi2=>?_,?_⟩
       ·
        rw [g2,k2]
        split
        · rename_i e;subst e;exact ⟨fun _=>by omega,fun _=>rfl⟩
        · exact h.used i
       ·
        rcases hents d e he with ⟨h6,h7⟩ | h6
        ·
         subst h7
         exact ⟨hnm.1,by dsimp only;omega,fun hq=>absurd (by rw [←hkind];exact hq) k5⟩
        ·
         obtain ⟨q1,q2,q3⟩:=h.kid d e h6
         exact ⟨q1,by omega,fun hq=>q3 (by rw [←hkind];exact hq)⟩
       ·
        have hk':=hk
        rw [hkind] at hk'
        rcases hents d e he with ⟨h6,h7⟩ | h6
        · rw [h7] at hk';exact absurd hk' k5
        ·
         rcases hents d' e' he' with ⟨h8,h9⟩ | h8
         · rw [hee,h9] at hk';exact absurd hk' k5
         · exact h.one d d' e e' h6 h8 hee hk'
       ·
        obtain ⟨d,e,q1,q2,q3⟩:=h.par i hi1 (by omega)
        exact ⟨d,e,hold d e q1,q2,q3⟩
       · rw [hkind];exact h.root
theorem TreeI.rest:∀(l:List Rw) (T:Tab) (i:Nat) (T':Tab) (m:Nat),T.Ok→TreeI T m→(∀r∈l,RwOk r)→restF T i l=.inr T'→∃m',TreeI T' m'
 | [],T,i,T',m, _,h, _,e=>by cases e;exact ⟨m,h⟩
 | r::l,T,i,T',m,hT,h,hl,e=>by
  unfold restF at e
  split at e
  · cases e
  ·
   rename_i hz
   obtain ⟨m',h'⟩:=h.one_ok hT (hl r (by simp)) (Classical.not_not.1 hz)
   exact TreeI.rest l _ _ T' m' (oneF_ok hT (hl r (by simp))) h' (fun r hr=>hl r (by simp [hr])) e
theorem newT_get (room:Int) (i:Int):(newT room).get i=(nd0,false):=by
 have:(newT room).at i=none:=by
  unfold Tab.at
  rw [if_neg]
  rintro ⟨_, _,h⟩
  refine h ?_
  show ((List.replicate 24 nd0).getD (i - 1).toNat nd0).kind=0
  rw [List.getD_eq_getElem?_getD,List.getElem?_replicate]
  split<;>rfl
 exact get_no this
theorem TreeI.build {room:Int} {l:List Rw} {T:Tab} (hl:∀r∈l,RwOk r) (e:buildF room l=.inr T):∃m,TreeI T m:=by
 unfold buildF at e
 cases hc:(decide ((l.length:Int)=0)||!decide ((l.getD 0 rw0).kind=2)||!decide ((l.getD 0 rw0).parent=0)||!decide ((l.getD 0 rw0).name=[])) with
 | true=>rw [hc] at e;cases e
 | false=>
  rw [hc,cond_false] at e
  have h0:=getD_ok hl 0
  simp only [Bool.or_eq_false_iff,Bool.not_eq_false',decide_eq_true_eq,decide_eq_false_iff_not] at hc
  split at e
  · cases e
  ·
   rename_i ha
   refine TreeI.rest _ _ _ T 1 (addT_ok (newT_ok room) (madeF_ok h0)) ?_ (fun r hr=>hl r (List.mem_of_mem_drop hr)) e
   unfold addT at ha ⊢
   split
   · rename_i hr;rw [if_pos hr] at ha;exact (ha (show (22:Int)≠0 by decide)).elim
   ·
    rename_i hr
    rw [if_neg hr] at ha
    have hf:(newT room).free=some 0:=by
     refine free_at (by show 0<(min (max room 1) 24).toNat;omega) ?_ (fun j hj=>by omega)
     rw [show (newT room).at (((0:Nat):Int)+1)=none from by
      cases hat:(newT room).at (((0:Nat):Int)+1) with
      | none=>rfl
      | some j=>
       have h1:=newT_get room (((0:Nat):Int)+1)
       rw [get_at hat] at h1
       cases congrArg Prod.snd h1];rfl
    rw [hf]
    have g:∀i,((newT room).put 0 (madeF (l.getD 0 rw0))).get i=if i=1 then (madeF (l.getD 0 rw0),true) else (nd0,false):=fun i=>by
     rw [get_put (newT_ok room) (madeF_ok h0) (rightF_kind (by simpa using hr)) (by show ((0:Nat):Int)+1≤min (max room 1) 24;omega),newT_get];rfl
    show TreeI ((newT room).put 0 (madeF (l.getD 0 rw0))) 1
    have ge:∀d e,e∈(((newT room).put 0 (madeF (l.getD 0 rw0))).get d).1.ents→False:=fun d e he=>by
     rw [g] at he
     split at he
     · simp [madeF] at he
     · simp [nd0] at he
    refine ⟨Nat.le_refl _,fun i=>?_,fun d e he=>(ge d e he).elim,fun d d' e e' he _ _ _=>(ge d e he).elim,fun i h1 h2=>by omega,?_⟩
    ·
     rw [g]
     split
     · exact ⟨fun _=>by omega,fun _=>rfl⟩
     · exact ⟨fun h=>(by cases h),fun h=>(by omega)⟩
    · rw [g,if_pos rfl];exact hc.1.1.2
theorem TreeI.treeW {T:Tab} {m:Nat} (h:TreeI T m):TreeW T [] []:=by
 have hd:∀d e,Ent T d e→1≤d∧d≤m:=fun d e he=>(h.used d).1 (ents_is he)
 refine ⟨h.root,fun d e he h1=>?_,fun d e he=>(h.used _).2 ⟨(h.kid d e he).1,(h.kid d e he).2.1⟩,fun i _ hi h1=>?_,h.one,⟨fun i=>i.toNat,fun d e he hk=>?_⟩,fun i _ hi hk=>?_,fun i hi=>nomatch hi⟩
 ·
  have:=(h.kid d e he).2.2 (by rw [h1];exact h.root)
  have:=hd d e he;omega
 ·
  have:=(h.used i).1 (get_kind_at (by rw [hi];decide))
  obtain ⟨d,e,he,hei, _⟩:=h.par i (by omega) this.2
  exact ⟨d,e,he,hei⟩
 ·
  have:=(h.kid d e he).2.2 hk
  have:=hd d e he
  show d.toNat<e.2.toNat
  omega
 ·
  have:=(h.used i).1 hi
  have h1:i≠1:=fun e=>hk (by rw [e];exact h.root)
  obtain ⟨d,e,he,hei, _⟩:=h.par i (by omega) this.2
  exact .inl ⟨d,e,he,hei⟩
theorem built_treeW {room:Int} {l:List Rw} {c:Cr} {T:Tab} (h:builtF room l c=some T):TreeW T [] []:=by
 unfold builtF at h
 cases h1:(decide ((50:Int)<l.length)||decide ((10:Int)<c.gs.length)) with
 | true=>rw [h1] at h;cases h
 | false=>
  rw [h1,cond_false] at h
  cases h2:l.any bigR with
  | true=>rw [h2] at h;cases h
  | false=>
   rw [h2,cond_false] at h
   split at h
   · cases h
   ·
    rename_i T' hT'
    cases h
    obtain ⟨m,hm⟩:=TreeI.build (small_ok h2) hT'
    exact hm.treeW
theorem cm_new2 {h:List Blk} {live live':List Nat} {cd cl:Cap} {c:Cm} (hk:Keeps live .full live' cd) (hn:c.nx≠5) {H:List Blk} (hH:H=h++[.cells (cmC h.length cd cl (.raw (.pointer none)) c)]) (b:Nat) (g:List Blk):CmAt live h.length b (H++g) live' c:=by
 subst hH
 exact ⟨cd,cl,.raw (.pointer none),by rw [List.append_assoc,get_app0];rfl,hk.1,fun u hu=>hk.2 u hu Cap.noConfusion,trivial,(fun i e=>nomatch e),fun h=>absurd h hn⟩
theorem cmNew_ok {args:List (List UInt8)} (h:wordsF args=true):CmB (cmNew (parse [112] args))∧(cmNew (parse [112] args)).nx≠5∧cmM (cmNew (parse [112] args))<3000∧((cmNew (parse [112] args)).nx=0∨(cmNew (parse [112] args)).nx=1):=by
 obtain ⟨h1,h2⟩:=words_ok h
 obtain ⟨k1,k2,k3⟩:=parse_bd (may:=[112]) (args:=args) (fun s hs=>Nat.le_trans (h1 s hs) (by decide)) (by omega)
 generalize parse [112] args=o at k1 k2 k3
 unfold cmNew
 split
 · exact ⟨⟨by decide,by decide,(fun f hf=>nomatch hf),by decide,by decide,by decide,by decide,(fun h=>nomatch h),by decide⟩,(fun h=>nomatch h),by decide,.inl rfl⟩
 ·
  rename_i hn
  have hl:1<(pr o).length:=Classical.byContradiction fun hh=>hn (.inr (by omega))
  have hg:(pr o).getD ((pr o).length - 1) []∈pr o:=by
   rw [List.getD_eq_getElem?_getD,List.getElem?_eq_getElem (by omega)];exact List.getElem_mem _
  have ht:((pr o).take ((pr o).length - 1)).length≤11:=by rw [List.length_take];omega
  have hM:((pr o).take ((pr o).length - 1)).length*105+1≤1156:=by omega
  exact ⟨⟨h1 _ (k3 _ hg),by show ((pr o).take ((pr o).length - 1)).length≤1000;omega,fun f hf=>h1 _ (k3 _ (List.mem_of_mem_take hf)),Nat.zero_le _,Nat.zero_le _,Nat.zero_le _,Nat.zero_le _,(fun h=>nomatch h),by show 0+(((pr o).take ((pr o).length - 1)).length*105+1)≤1000000;omega⟩,(fun h=>nomatch h),by show ((pr o).take ((pr o).length - 1)).length*105+1<3000;omega,.inr rfl⟩
theorem lk_built {room:Int} {l:List Rw} {c:Cr} {T:Tab} (h:builtF room l c=some T):TreeW T [] []:=built_treeW h
end Go.Proofs.YtmgnbgniikjhdaaGreat
