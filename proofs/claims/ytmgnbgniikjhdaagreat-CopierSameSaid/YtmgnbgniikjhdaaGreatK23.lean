import Derived.Test.YtmgnbgniikjhdaaGreatK22
/-
  A FILE is made or emptied by root, and written: what holds of the tree.
-/
set_option linter.unusedVariables false
set_option linter.unusedSimpArgs false
namespace Go.Proofs.YtmgnbgniikjhdaaGreat
open Go.Ab
set_option maxRecDepth 8000
set_option maxHeartbeats 400000
theorem and4095_fin:∀a:Fin 4096,bits .and .i64 (a.val:Int) 4095=a.val:=by decide +kernel
theorem and4095 {m:Int} (h:0≤m∧m≤4095):bits .and .i64 m 4095=m:=by
 obtain ⟨a,ha,rfl⟩:=n4096 h
 exact and4095_fin ⟨a,ha⟩
theorem right_ok {n:Nd} (h:rightF n=true) (k:n.kind=1):n.ents=[]∧n.target=[]∧n.data.length≤48∧(decide (n.mode<0)||decide (4095<n.mode)||!idB n.uid||!idB n.gid)=false:=by
 obtain ⟨h0,h1 | h1 | h1⟩:=right_cases h
 · exact ⟨h1.2.1,h1.2.2.1,h1.2.2.2,h0⟩
 · rw [k] at h1;exact absurd h1.1 (by decide)
 · rw [k] at h1;exact absurd h1.1 (by decide)
theorem right_f {m u g:Int} {b:List UInt8} (h:(decide (m<0)||decide (4095<m)||!idB u||!idB g)=false) (hb:b.length≤48):rightF ⟨1,m,u,g,b,[],[]⟩=true:=by
 unfold rightF
 dsimp only
 rw [h,cond_false,if_pos rfl]
 rw [decide_eq_true (show (b.length:Int)≤48 by omega)]
 rfl
theorem ndok_f {m u g:Int} {b:List UInt8} (hb:b.length≤48):NdOk ⟨1,m,u,g,b,[],[]⟩:=⟨by show b.length≤1000;omega,Nat.zero_le _,Nat.zero_le _,fun e he=>nomatch he⟩
theorem wr0 {c:Cr} (hc:c.uid=0) {k m:Int} (h:0≤m∧m≤4095):writtenF c k m=m:=by
 have hf:fileF c k=false:=by unfold fileF;rw [decide_eq_true hc];rfl
 unfold writtenF clearF
 rw [hf,Bool.false_and]
 exact and4095 h
theorem dataN0 {c:Cr} (hc:c.uid=0) {n:Nd} (h:rightF n=true) (k:n.kind=1) (b:List UInt8):dataN c n b=⟨1,n.mode,n.uid,n.gid,b,[],[]⟩:=by
 obtain ⟨h1,h2,h3,h4⟩:=right_ok h k
 unfold dataN
 rw [wr0 hc (right_mode h).1,h1,h2,k]
section
variable {W T T' U:Tab} {c:Cr} {o o':List Int} {A B:Int} {p dat:List UInt8}
structure Bt (W T:Tab) (c:Cr) (o:List Int) (A B:Int) (p dat:List UInt8):Prop where
 gd:Gd T
 tr:TreeW T o []
 kt:∀i,(W.get i).2=true→(T.get i).2=true∧(T.get i).1.kind=(W.get i).1.kind∧(T.get i).1.target=(W.get i).1.target
 eo:∀d e,Ent W d e→Ent T d e
 en:∀d e,Ent T d e→Ent W d e∨((W.get e.2).2=false∧(T.get e.2).1.kind≠3)
 ne:B≠A
 a:T.get A=W.get A
 k:(T.get B).1.kind=1
 d:(T.get B).1.data=dat
 to:∃d s,resF T c p true=((d,s,B),0)
 lk:∃d e,Ent T d e∧e.2=B
 la:∃d e,Ent T d e∧e.2=A
theorem Bt.i (h:Bt W T c o A B p dat):(T.get B).2=true:=get_kind_at (by rw [h.k];decide)
theorem Bt.r (h:Bt W T c o A B p dat):rightF (T.get B).1=true:=h.gd.2.get h.i
theorem Bt.mor (h:Bt W T c o A B p dat) (hW:Gd W) (hV:TreeW W o' []):Mor W T:=.of hW h.gd hV h.tr h.kt h.eo h.en
theorem Bt.stat (h:Bt W T c o A B p dat):statF T c p true=(staF T B,0):=by
 obtain ⟨d,s,h1⟩:=h.to
 unfold statF
 rw [h1,if_neg (fun h=>h rfl),if_pos h.i]
theorem Bt.more (h:Bt W T c o A B p dat) (ht:TreeW T o' []):Bt W T c o' A B p dat:=⟨h.gd,ht,h.kt,h.eo,h.en,h.ne,h.a,h.k,h.d,h.to,h.lk,h.la⟩
theorem Bt.put (hc:c.uid=0) (h:Bt W T c o A B p dat) {m u g:Int} {b:List UInt8} (hr:(decide (m<0)||decide (4095<m)||!idB u||!idB g)=false) (hb:b.length≤48)
 (hg:Gd (putT T B ⟨1,m,u,g,b,[],[]⟩).2) (ht:TreeW (putT T B ⟨1,m,u,g,b,[],[]⟩).2 o' []) :
 Bt W (putT T B ⟨1,m,u,g,b,[],[]⟩).2 c o' A B p b∧(putT T B ⟨1,m,u,g,b,[],[]⟩).1=0∧((putT T B ⟨1,m,u,g,b,[],[]⟩).2.get B).1=⟨1,m,u,g,b,[],[]⟩:=by
 obtain ⟨h0,hG⟩:=putT_get h.gd.1 (ndok_f hb) (right_f hr hb) h.i
 generalize (putT T B ⟨1,m,u,g,b,[],[]⟩).2=U at hg ht hG ⊢
 obtain ⟨e1,e2, -, -⟩:=right_ok h.r h.k
 have hB:U.get B=(⟨1,m,u,g,b,[],[]⟩,true):=by rw [hG,if_pos rfl]
 have hN:∀i,i≠B→U.get i=T.get i:=fun i hi=>by rw [hG,if_neg hi]
 have hk:∀i,(T.get i).2=true→(U.get i).2=true∧(U.get i).1.kind=(T.get i).1.kind∧(U.get i).1.target=(T.get i).1.target:=fun i hi=>by
  by_cases e:i=B
  · rw [e,hB];exact ⟨rfl,h.k.symm,e2.symm⟩
  · rw [hN i e];exact ⟨hi,rfl,rfl⟩
 have hE:∀d e,Ent U d e↔Ent T d e:=fun d e=>by
  unfold Ent
  by_cases q:d=B
  · rw [q,hB,e1]
  · rw [hN d q]
 have hkk:∀i,(U.get i).1.kind=(T.get i).1.kind:=fun i=>by
  by_cases e:i=B
  · rw [e,hB];exact h.k.symm
  · rw [hN i e]
 have hm:Mor T U:=.of h.gd hg h.tr ht hk (fun d e he=>(hE d e).2 he) (fun d e he=>.inl ((hE d e).1 he))
 obtain ⟨d,s,hto⟩:=h.to
 have hz:B≠0:=fun e=>by have:=h.i;rw [e,get_zero] at this;cases this
 refine ⟨⟨hg,ht,fun i hi=>?_,fun d e he=>(hE d e).2 (h.eo d e he),fun d e he=>?_,h.ne,(hN A (Ne.symm h.ne)).trans h.a,by rw [hB],by rw [hB],⟨d,s,(resF_mor hc h.gd h.tr hm hto).1 hz⟩,h.lk.elim fun d q=>q.elim fun e q=>⟨d,e,(hE d e).2 q.1,q.2⟩,h.la.elim fun d q=>q.elim fun e q=>⟨d,e,(hE d e).2 q.1,q.2⟩⟩,h0,by rw [hB]⟩
 ·
  obtain ⟨a1,a2,a3⟩:=h.kt i hi
  obtain ⟨b1,b2,b3⟩:=hk i a1
  exact ⟨b1,b2.trans a2,b3.trans a3⟩
 · rw [hkk];exact h.en d e ((hE d e).1 he)
theorem linked (hW:TreeW W [] []) (hk:(W.get B).1.kind=1):∃d e,Ent W d e∧e.2=B:=by
 rcases hW.opn B (List.not_mem_nil) (get_kind_at (by rw [hk];decide)) (by rw [hk];decide) with h | h
 · exact h
 · cases h
theorem Bt.refl (hT:Gd W) (hW:TreeW W [] []) (hA:(W.get A).1.kind=1) (hk:(W.get B).1.kind=1) (hn:B≠A) (ht:∃d s,resF W c p true=((d,s,B),0)):Bt W W c [] A B p (W.get B).1.data:=
 ⟨hT,hW,fun i hi=>⟨hi,rfl,rfl⟩,fun d e he=>he,fun d e he=>.inl he,hn,rfl,hk,rfl,ht,linked hW hk,linked hW hA⟩
theorem res_eta (T:Tab) (c:Cr) (p:List UInt8):resF T c p true=((rD T c p true,rS T c p true,rN T c p true),rE T c p true):=rfl
theorem Bt.new (hc:c.uid=0) (hT:Gd W) (hW:TreeW W [] []) (hA:(W.get A).1.kind=1) {um md:Int} (h:(plantF W c p true (fileG um md)).1.2=0)
 (hg:Gd (plantF W c p true (fileG um md)).2) (ht:TreeW (plantF W c p true (fileG um md)).2 o' []):Bt W (plantF W c p true (fileG um md)).2 c o' A (plantF W c p true (fileG um md)).1.1 p []:=by
 obtain ⟨hE,hN, -,hd,hf,hne,hG⟩:=plant_get hT (g:=fileG um md) (fun n hn=>⟨Nat.zero_le _,Nat.zero_le _,Nat.zero_le _,fun e he=>nomatch he⟩) (fun n=>rfl) h
 have hR:=res_eta W c p
 rw [hE,hN] at hR
 generalize rD W c p true=d at hd hne hG hR
 generalize rS W c p true=s at hG hR
 generalize (plantF W c p true (fileG um md)).1.1=k at hf hne hG ⊢
 generalize (plantF W c p true (fileG um md)).2=U at hG hg ht ⊢
 have hdi:=get_kind_at (T:=W) (i:=d) (by rw [hd];decide)
 have hAi:=get_kind_at (T:=W) (i:=A) (by rw [hA];decide)
 have hd1:=hG d
 rw [if_pos rfl] at hd1
 have hk1:=hG k
 rw [if_neg (Ne.symm hne),if_pos rfl] at hk1
 have hoth:∀i,i≠d→i≠k→U.get i=W.get i:=fun i h1 h2=>by rw [hG,if_neg h1,if_neg h2]
 have hkA:k≠A:=fun e=>by rw [e,hAi] at hf;cases hf
 have hdA:d≠A:=fun e=>by rw [e,hA] at hd;cases hd
 have hkk:(U.get k).1.kind=1:=by rw [hk1];rfl
 have hent:Ent U d (s,k):=by unfold Ent;rw [hd1];exact mem_insF.2 (.inl rfl)
 have hkt:∀i,(W.get i).2=true→(U.get i).2=true∧(U.get i).1.kind=(W.get i).1.kind∧(U.get i).1.target=(W.get i).1.target:=fun i hi=>by
  by_cases h1:i=d
  · rw [h1,hd1];exact ⟨rfl,rfl,rfl⟩
  by_cases h2:i=k
  · rw [h2,hf] at hi;cases hi
  rw [hoth i h1 h2];exact ⟨hi,rfl,rfl⟩
 have heo:∀d' e,Ent W d' e→Ent U d' e:=fun d' e he=>by
  unfold Ent at he ⊢
  by_cases h1:d'=d
  · rw [h1] at he ⊢;rw [hd1];exact mem_insF.2 (.inr he)
  by_cases h2:d'=k
  · rw [h2,get_no' hf] at he;cases he
  rw [hoth d' h1 h2];exact he
 have hen:∀d' e,Ent U d' e→Ent W d' e∨((W.get e.2).2=false∧(U.get e.2).1.kind≠3):=fun d' e he=>by
  unfold Ent at he ⊢
  by_cases h1:d'=d
  ·
   rw [h1] at he ⊢;rw [hd1] at he
   rcases mem_insF.1 he with q | q
   · right;rw [q];exact ⟨hf,by rw [hkk];decide⟩
   · exact .inl q
  by_cases h2:d'=k
  · rw [h2,hk1] at he;cases he
  rw [hoth d' h1 h2] at he;exact .inl he
 have hm:Mor W U:=.of hT hg hW ht hkt heo hen
 have hs:s≠[]:=by
  intro hs
  have hr:=hg.2.get (i:=d) (by rw [hd1])
  obtain ⟨_,q | q | q⟩:=right_cases hr
  · have:=q.1;rw [hd1] at this;exact absurd (this.symm.trans hd) (by decide)
  ·
   have:=((rising_iff _).1 q.2.2.2).1 _ hent
   rw [hs] at this;exact absurd (show nameF []=true from this.1) (by decide)
  · have:=q.1;rw [hd1] at this;exact absurd (this.symm.trans hd) (by decide)
 refine ⟨hg,ht,hkt,heo,hen,hkA,hoth A (Ne.symm hdA) (Ne.symm hkA),hkk,by rw [hk1];rfl,⟨d,s,?_⟩,⟨d, _,hent,rfl⟩,(linked hW hA).elim fun d q=>q.elim fun e q=>⟨d,e,heo d e q.1,q.2⟩⟩
 rw [(resF_mor hc hT hW hm hR).2 rfl hs,find_of hg hent]
theorem open22 (T:Tab) (c:Cr) (um md:Int) (p:List UInt8):openF T c um p 22 md=if rE T c p true≠0 then ((0,rE T c p true),T) else if (T.get (rN T c p true)).2=false then plantF T c p true (fileG um md) else if (T.get (rN T c p true)).1.kind=3 then ((0,40),T) else if (T.get (rN T c p true)).1.kind=2 then ((0,21),T) else if canT c T (rN T c p true) 2=false then ((0,13),T) else ((rN T c p true,0),(putT T (rN T c p true) (dataN c (T.get (rN T c p true)).1 [])).2):=by
 unfold openF createF
 rw [show flagsF 22=true from by decide,show hasF 22 40=false from by decide,show hasF 22 4=true from by decide,show hasF 22 8=false from by decide,show hasF 22 1=false from by decide,show hasF 22 2=true from by decide,show hasF 22 16=true from by decide]
 rfl
theorem open1 (T:Tab) (c:Cr) (um md:Int) (p:List UInt8):(openF T c um p 1 md).2=T∧((openF T c um p 1 md).1.2=0→(openF T c um p 1 md).1.1=rN T c p true):=by
 unfold openF
 rw [show flagsF 1=true from by decide,show hasF 1 40=false from by decide,show hasF 1 4=false from by decide,show hasF 1 8=false from by decide,show hasF 1 16=false from by decide]
 rw [if_neg (by decide)]
 show _∧(_→_)
 by_cases h1:rE T c p (!false)≠0
 · rw [if_pos h1];exact ⟨rfl,fun h=>absurd h h1⟩
 rw [if_neg h1]
 by_cases h2:(T.get (rN T c p (!false))).2=false
 · rw [if_pos h2,if_pos rfl];exact ⟨rfl,fun h=>absurd h (show (2:Int)≠0 by decide)⟩
 rw [if_neg h2,if_neg (by decide)]
 by_cases h3:(T.get (rN T c p (!false))).1.kind=3
 · rw [if_pos h3];exact ⟨rfl,fun h=>absurd h (show (40:Int)≠0 by decide)⟩
 rw [if_neg h3]
 by_cases h4:(T.get (rN T c p (!false))).1.kind=2
 · rw [if_pos h4];exact ⟨rfl,fun h=>absurd h (show (21:Int)≠0 by decide)⟩
 rw [if_neg h4]
 generalize canT c T (rN T c p (!false)) _=q
 cases q
 · exact ⟨rfl,fun h=>absurd h (show (13:Int)≠0 by decide)⟩
 · exact ⟨rfl,fun _=>rfl⟩
theorem Bt.open (hc:c.uid=0) (hT:Gd W) (hW:TreeW W [] []) (hA:(W.get A).1.kind=1) {um md:Int} (hq:(statF W c p true).2=0→(statF W c p true).1.node≠A) (h:(openF W c um p 22 md).1.2=0)
 (hg:Gd (openF W c um p 22 md).2) (ht:TreeW (openF W c um p 22 md).2 o' []):Bt W (openF W c um p 22 md).2 c o' A (openF W c um p 22 md).1.1 p []:=by
 rw [open22] at h hg ht ⊢
 by_cases h1:rE W c p true≠0
 · rw [if_pos h1] at h;exact absurd h h1
 rw [if_neg h1] at h hg ht ⊢
 by_cases h2:(W.get (rN W c p true)).2=false
 · rw [if_pos h2] at h hg ht ⊢;exact .new hc hT hW hA h hg ht
 rw [if_neg h2] at h hg ht ⊢
 by_cases h3:(W.get (rN W c p true)).1.kind=3
 · rw [if_pos h3] at h;exact absurd h (show (40:Int)≠0 by decide)
 rw [if_neg h3] at h hg ht ⊢
 by_cases h4:(W.get (rN W c p true)).1.kind=2
 · rw [if_pos h4] at h;exact absurd h (show (21:Int)≠0 by decide)
 rw [if_neg h4] at h hg ht ⊢
 by_cases h5:canT c W (rN W c p true) 2=false
 · rw [if_pos h5] at h;exact absurd h (show (13:Int)≠0 by decide)
 rw [if_neg h5] at h hg ht ⊢
 have h2':(W.get (rN W c p true)).2=true:=by simpa using h2
 have hr:=hT.2.get h2'
 have hk:(W.get (rN W c p true)).1.kind=1:=by
  rcases right_cases hr with ⟨_,k | k | k⟩
  · exact k.1
  · exact absurd k.1 h4
  · exact absurd k.1 h3
 have hn:rN W c p true≠A:=by
  have e:statF W c p true=(staF W (rN W c p true),0):=by
   unfold statF
   rw [if_neg h1,if_pos h2']
  rw [e] at hq
  have:=hq rfl
  unfold staF at this
  rw [if_pos h2'] at this
  exact this
 obtain ⟨-, -, -,hv⟩:=right_ok hr hk
 have hb:=Bt.refl (c:=c) (p:=p) hT hW hA hk hn ⟨rD W c p true,rS W c p true,(res_eta W c p).trans (by rw [Classical.not_not.1 h1])⟩
 rw [dataN0 hc hr hk] at hg ht ⊢
 exact (hb.put hc hv (Nat.zero_le _) hg ht).1
end
end Go.Proofs.YtmgnbgniikjhdaaGreat
