import Derived.Test.YtmgnbgniikjhdaaGreatK26
import Derived.Test.YtmgnbgniikjhdaaGreatK19
/-
  CP by root, with one source: the law.
-/
set_option linter.unusedVariables false
set_option linter.unusedSimpArgs false
namespace Go.Proofs.YtmgnbgniikjhdaaGreat
open Go.Ab
set_option maxRecDepth 8000
set_option maxHeartbeats 400000
def crR:Cr:=⟨0,0,[]⟩
def cS (kp:Bool) (fr to:List UInt8):Cm:={ cm0 with keep:=kp,left:=[fr],tgt:=to,nx:=1 }
theorem new_same1 (fr to:List UInt8):cmNew (parse [112] [[45,45],fr,to])=cS false fr to:=rfl
theorem new_same2 (fr to:List UInt8):cmNew (parse [112] [[45,112],[45,45],fr,to])=cS true fr to:=rfl
theorem cS_bd (kp:Bool) {fr to:List UInt8} (h1:fr.length≤40) (h2:to.length≤40):CmB (cS kp fr to):=
 ⟨by show to.length≤80;omega,by show (1:Nat)≤1000;omega,(fun f hf=>by rw [List.mem_singleton.1 hf];omega),Nat.zero_le _,Nat.zero_le _,Nat.zero_le _,Nat.zero_le _,(fun h=>nomatch h),by show 0+(1*105+1)≤1000000;omega⟩
theorem len3 {fr to:List UInt8} (h1:fr.length≤40) (h2:to.length≤40):∀s∈([[45,45],fr,to]:List (List UInt8)),s.length≤1000:=by
 intro s hs
 simp only [List.mem_cons,List.not_mem_nil,or_false] at hs
 rcases hs with rfl | rfl | rfl
 · exact Nat.le_of_lt (by decide)
 · omega
 · omega
theorem len4 {fr to:List UInt8} (h1:fr.length≤40) (h2:to.length≤40):∀s∈([[45,112],[45,45],fr,to]:List (List UInt8)),s.length≤1000:=by
 intro s hs
 simp only [List.mem_cons,List.not_mem_nil,or_false] at hs
 rcases hs with rfl | rfl | rfl | rfl
 · exact Nat.le_of_lt (by decide)
 · exact Nat.le_of_lt (by decide)
 · omega
 · omega
set_option maxHeartbeats 1000000 in
theorem c7 (room:Int) (l:List Rw) (um:Int) (fr tt:List UInt8) (kp:Bool) (h:List Blk) (live:List Nat) (hh0:h=[]) (hn:l.length≤9223372036854775807) (hf:fr.length≤9223372036854775807) (ht:tt.length≤9223372036854775807):AC Tryz.prog 7 [.int .i64 room,.slice (l.map rV) .none,.int .i64 um,.str fr,.str tt,.bool kp] h live (.bool true):=by
 refine aq_ Tryz.func7 fun hH hX=>?_
 refine rg_ [0,1,2,3,4,5] ?_
 refine rs_ [0,1,2,3,4,5,13] ?_
 refine cl_ (hc:=c8 _ _) (k:=?_)
 refine sre_ ?_
 refine sk_ fun K1 hK1=>?_
 refine rg_ [0,1,2,3,4,5,32] ?_
 refine cdn_ (ht:=fun hb1=>?_) (hf:=fun hb1=>?_)
 · exfalso;exact Bool.noConfusion hb1
 refine skp_ ?_
 refine hK1 _ ?_
 refine rs_ [3,4,5,14,15] ?_
 refine sg_ ?_
 refine ck_ (k:=?_)
 refine erx_ (ys:=[.int .i64 room,.slice (l.map rV) .none,.int .i64 um,.agg [.int .i64 0,.int .i64 0,.slice (([]:List Int).map iV) .none]]) (by simp only [List.map_cons,List.map_nil,AV.er,AV.erL,erL_rV]<;>rfl) ((ACalls.hclK (c9 room l um crR .none _ _ hn (by simp [crR]))).mono ?_);rintro x0 H0 l0 ⟨hb0,hH0⟩;obtain ⟨rfl,p0,rfl,hp0⟩:=begun_one hb0
 refine sre_ ?_
 refine sk_ fun K2 hK2=>?_
 refine rg_ [3,4,5,14,52] ?_
 refine cy_ (fun hb2=>?_) (fun hb2=>?_)
 ·
  refine rg_ [12] ?_
  refine ret_ ?_
  refine gq_ (h1:=h) Tryz.results7 ?_ (hh:=(⟨_,by rw [hh0];exact (List.nil_append _).symm⟩))
  first | exact ⟨rfl,rfl,rfl⟩ | exact ⟨by rw [if_neg hdg];rfl,rfl,rfl⟩ | exact ⟨by rw [hnB];by_cases hq:kp=true;(obtain ⟨q1,q2,q3⟩:=hkp hq;rw [q1,q2,q3];simp);simp [hq],rfl,rfl⟩
 simp only [Bool.or_eq_false_iff,decide_eq_false_iff_not,Bool.not_eq_false'] at hb2
 obtain ⟨⟨hb21,hb22⟩,hb23⟩:=hb2
 obtain ⟨T,hTe⟩:=Option.isSome_iff_exists.1 hb21
 obtain ⟨n,hnh,rfl,hy0⟩:=hp0 T hTe
 have hT:=(builtF_ok hTe).1
 have hR:=built_rt hTe
 have hnl:=lt_of_get hy0.s
 have hp3:=lt_of_get (hy0.p 0 (by exact Nat.zero_lt_one))
 refine skp_ ?_
 refine hK2 _ ?_
 refine rg_ [3,4,5,14,16] ?_
 refine rs_ [3,4,5,14,16,17] ?_
 refine sg_ ?_
 refine cl_ (hc:=c13 _ _ _ _ _ _ _ hy0.app) (k:=?_)
 refine sre_ ?_
 refine rs_ [3,4,5,14,16,17,18,19] ?_
 refine sg_ ?_
 refine cl_ (hc:=erx_ (ys:=[.ptr (H0.length+1) 0,.agg [.int .i64 0,.int .i64 0,.slice (([]:List Int).map iV) .none],.str fr]) (by simp only [List.map_cons,List.map_nil,AV.er,AV.erL,erL_rV]<;>rfl) (c31 T _ crR fr _ _ (by simp only [push_cast]) hT (by simp [crR]) hR hf)) (k:=?_)
 refine sre_ ?_
 refine rs_ [3,4,5,14,16,17,18,19,20] ?_
 refine sg_ ?_
 refine ck_ (k:=?_)
 refine ACalls.mono ?_ (ACalls.hclK (c24 [[45,45],fr,tt] _ _ _ (by simp) (len3 (by omega) (by omega))));rintro _ H1 live1 ⟨⟨rfl,cd1,cl1,hH1,hk1⟩,hHc1⟩;rw [new_same1] at hH1
 have hA1:=cm_new2 hk1 (show (1:Nat)≠5 by decide) hH1
 have hl1:=congrArg List.length hH1
 simp only [List.length_append,List.length_cons,List.length_nil,Nat.zero_add,Nat.reduceAdd] at hl1
 have hkl:(H0++[.cells [.int .i64 0,.int .i64 0,.slice [] .full],tabBlk T,.cells (staC (statF T crR fr true).1)]).length=H0.length+3:=by simp
 have hw1:H1[H0.length+1]? = some (tabBlk T):=by rw [hH1];exact atApp (by simp)
 have hst1:H1[H0.length+2]? = some (.cells (staC (statF T crR fr true).1)):=by rw [hH1];exact atApp (by simp)
 have hbx1:H1[H0.length]? = some (.cells [.int .i64 0,.int .i64 0,.slice [] .full]):=by rw [hH1];exact atApp (by simp)
 have hy1:SysAt H1 (n+1) n (n+3) T [pr1 um crR]:=by rw [hH1];exact hy0.app.app
 obtain ⟨m0,hm0⟩:∃m,m=cS false fr tt:=⟨_,rfl⟩
 obtain ⟨kd,hkd⟩:∃k,k=H0.length+3:=⟨_,rfl⟩
 rw [hkl,←hkd] at hA1 ⊢
 rw [←hm0] at hA1
 obtain ⟨L1,hL1⟩:∃L,L=l0:=⟨_,rfl⟩
 rw [←hL1] at hA1
 have hL:∀u∈l0,u∈L1:=fun u hu=>hL1▸hu
 refine sre_ ?_
 refine sk_ fun K3 hK3=>?_
 refine rg_ [3,4,5,14,16,17,18,19,20,67] ?_
 refine cy_ (fun hb3=>?_) (fun hb3=>?_)
 ·
  refine rt_ [4,5,14,16,17,18,19,20] ?_
  refine sg_ ?_
  refine ck_ (k:=?_)
  have hLo:∀u∈l0,u∈live1:=fun u hu=>(hA1 0 []).live u (hL u hu)
  refine ACalls.mono ?_ (ACalls.hclK (c24 [[45,112],[45,45],fr,tt] _ _ _ (by simp) (len4 (by omega) (by omega))));rintro _ H1 live1 ⟨⟨rfl,cd1,cl1,hH1,hk1⟩,hHc1⟩;rw [new_same2] at hH1
  have hA1:=cm_new2 hk1 (show (1:Nat)≠5 by decide) hH1
  rw [hl1] at hA1 ⊢
  have hl0:=hl1
  have hl1:=congrArg List.length hH1
  simp only [List.length_append,List.length_cons,List.length_nil,Nat.zero_add,Nat.reduceAdd] at hl1
  have hw1:H1[H0.length+1]? = some (tabBlk T):=by rw [hH1];exact atApp (hw1)
  have hst1:H1[H0.length+2]? = some (.cells (staC (statF T crR fr true).1)):=by rw [hH1];exact atApp (hst1)
  have hbx1:H1[H0.length]? = some (.cells [.int .i64 0,.int .i64 0,.slice [] .full]):=by rw [hH1];exact atApp (hbx1)
  have hy1:SysAt H1 (n+1) n (n+3) T [pr1 um crR]:=by rw [hH1];exact hy1.app
  obtain ⟨m0,hm0⟩:∃m,m=cS true fr tt:=⟨_,rfl⟩
  obtain ⟨kd,hkd⟩:∃k,k=H0.length+4:=⟨_,rfl⟩
  rw [←hkd] at hA1 ⊢
  rw [←hm0] at hA1
  have hL:=hLo
  have hmB:CmB m0:=by rw [hm0];exact cS_bd _ (by omega) (by omega)
  have hrun:=same_run (um:=um) (W:=T) (c:=crR) (kp:=kp) (fr:=fr) (tgt:=tt) rfl ⟨hT,hR⟩ (built_treeW hTe) hmB (by rw [hm0];rfl) (by rw [hm0,hb3];rfl) (by rw [hm0];rfl) (by rw [hm0];rfl) (by rw [hm0];rfl) (by rw [hm0];show 1*105+1<3000;decide)
  refine srn_ ?_
  refine hK3 _ ?_
  refine sk_ fun K4 hK4=>?_
  refine rs_ [4,5,14,16,17,18,19,20,82] ?_
  refine sg_ ?_
  refine ck_ (k:=?_)
  refine ACalls.mono (K:=runK (CmAt _ kd) (fun i=>i=kd) (n+1) n (n+3) 1 H1 _) ?_ (c16 cmN (CmAt _ kd) CmB (fun i=>i=kd) 25 kd (n+1) n (n+3) T [pr1 um crR] _ _ hy1 m0 (hA1 _) hmB (fun i e=>by rw [e];refine ⟨by omega,by omega,by omega,fun j hj=>?_⟩;have hj:j<1:=(by first | exact hj | (rw [hpl2] at hj;exact hj));omega) (cm_call _ kd) cm_step (cm_stay _ kd));rintro _ H2 live2 ⟨⟨rfl,hy2,hpl2,hA2,hle2,ho2⟩,hH2⟩
  generalize runF cmN 3000 T [pr1 um crR] m0 rs0 0=R at hrun hy2 hpl2 hA2 ⊢
  obtain ⟨hr0,hps,hdl,hK⟩:=hrun
  have hop:openL R.2.2.1=[]:=by rw [hps];rfl
  have hf3:∀i,i<H1.length→i≠kd→n+3<i→H2[i]? = H1[i]? := fun i h1 h2 h3=>ho2 i h1 h2 (by omega) (fun j hj=>by have hj:j<1:=hj;omega)
  have hw2g:=fun g:List Blk=>atApp (g:=g) ((hf3 _ (by omega) (by omega) (by omega)).trans hw1)
  have hst2:=(hf3 _ (by omega) (by omega) (by omega)).trans hst1
  have hbx2:=(hf3 _ (by omega) (by omega) (by omega)).trans hbx1
  have hst2g:=fun g:List Blk=>atApp (g:=g) hst2
  have hbx2g:=fun g:List Blk=>atApp (g:=g) hbx2
  obtain ⟨cda,ra,hga⟩:=hA2.get
  have sx:=And.intro hop (And.intro hst2 (And.intro hbx2 (And.intro hst2g (And.intro hbx2g sx))))
  refine sg_ ?_
  refine cg_ (hc:=fun hg=>c20 _ _ _ _ _ _ _ hy2) (k:=?_)
  refine sre_ ?_
  refine cy_ (fun hb4=>?_) (fun hb4=>?_)
  · exfalso;(simp [hop] at hb4;omega)
  refine skp_ ?_
  refine hK4 _ ?_
  refine rs_ [4,5,16,17,18,19,20,21] ?_
  refine sg_ ?_
  refine cl_ (hc:=c13 _ _ _ _ _ _ _ hy2) (k:=?_)
  refine sre_ ?_
  refine sk_ fun K5 hK5=>?_
  refine rs_ [4,5,16,17,18,20,21,93] ?_
  refine sg_ ?_
  refine cg_ (hc:=fun hg=>c29 kd R.2.2.2.dg cda _ _ _ (atApp hga) (by omega)) (k:=?_)
  refine sre_ ?_
  refine cy_ (fun hb5=>?_) (fun hb5=>?_)
  ·
   have hdg:R.2.2.2.dg≠[]:=by
    intro hd
    obtain ⟨s,to,B,hS,hTo,hBt,hkp⟩:=hK.resolve_left (fun q=>q hd)
    simp [hS.ok,hd] at hb5
   refine rs_ [12] ?_
   refine sg_ ?_
   refine cl_ (hc:=c29 kd R.2.2.2.dg cda _ _ _ (atApp hga) (by omega)) (k:=?_)
   refine srt_ ?_
   refine gq_ (h1:=h) Tryz.results7 ?_ (hl:=(fun u hu=>hA2.live u (hL u hu))) (hh:=(⟨_,by rw [hh0];exact (List.nil_append _).symm⟩))
   first | exact ⟨rfl,rfl,rfl⟩ | exact ⟨by rw [if_neg hdg];rfl,rfl,rfl⟩ | exact ⟨by rw [hnB];by_cases hq:kp=true;(obtain ⟨q1,q2,q3⟩:=hkp hq;rw [q1,q2,q3];simp);simp [hq],rfl,rfl⟩
  simp only [Bool.or_eq_false_iff,Bool.not_eq_false',decide_eq_true_eq] at hb5
  have hd:R.2.2.2.dg=[]:=Classical.byContradiction fun q=>by rw [if_neg q] at hb5;exact absurd hb5.2 (by decide)
  obtain ⟨s,to,B,hS,hTo,hBt,hkp⟩:=hK.resolve_left (fun q=>q hd)
  have hAk:=hS.a ⟨hT,hR⟩ (built_treeW hTe)
  have hse:=hS.e
  subst hse
  refine skp_ ?_
  refine hK5 _ ?_
  refine rs_ [4,5,16,18,21,22] ?_
  refine sg_ ?_
  refine cl_ (hc:=c23 T _ _ _ _ (by first | (simp only [push_cast];done) | (simp only [push_cast,List.append_assoc,hw2g];done) | exact hw2g _) hT) (k:=?_)
  refine sre_ ?_
  refine rs_ [4,5,16,18,21,22,24] ?_
  refine sg_ ?_
  refine cl_ (hc:=c23 R.2.1 _ _ _ _ (by first | (simp only [push_cast];done) | (simp only [push_cast,List.append_assoc,hw2g];done) | exact hw2g _) hy2.ok) (k:=?_)
  refine sre_ ?_
  refine sk_ fun K6 hK6=>?_
  refine rs_ [4,5,16,18,21,22,121] ?_
  refine sg_ ?_
  refine cl_ (hc:=c32 _ _ _ _ (Gd.nd ⟨hT,hR⟩ _) (hBt.gd.nd _)) (k:=?_)
  refine sre_ ?_
  refine cy_ (fun hb6=>?_) (fun hb6=>?_)
  · exfalso;rw [hBt.a,sameF_refl,hAk.1] at hb6;exact absurd hb6 (by decide)
  refine skp_ ?_
  refine hK6 _ ?_
  refine rs_ [5,18,21,22,26,27] ?_
  refine sg_ ?_
  refine cl_ (hc:=erx_ (ys:=[.ptr H2.length 0,.agg [.int .i64 0,.int .i64 0,.slice (([]:List Int).map iV) .none],.str tt]) (by simp only [List.map_cons,List.map_nil,AV.er,AV.erL,erL_rV]<;>rfl) (c31 R.2.1 _ crR tt _ _ (by first | (simp only [push_cast];done) | (simp only [push_cast,List.append_assoc,hw2g];done) | exact hw2g _) hy2.ok (by simp [crR]) hBt.gd.2 ht)) (k:=?_)
  refine sre_ ?_
  refine sk_ fun K7 hK7=>?_
  refine rg_ [5,18,21,22,26,27,135] ?_
  refine cy_ (fun hb7=>?_) (fun hb7=>?_)
  ·
   refine rg_ [12] ?_
   refine ret_ ?_
   refine gq_ (h1:=h) Tryz.results7 ?_ (hl:=(fun u hu=>hA2.live u (hL u hu))) (hh:=(⟨_,by rw [hh0];exact (List.nil_append _).symm⟩))
   first | exact ⟨rfl,rfl,rfl⟩ | exact ⟨by rw [if_neg hdg];rfl,rfl,rfl⟩ | exact ⟨by rw [hnB];by_cases hq:kp=true;(obtain ⟨q1,q2,q3⟩:=hkp hq;rw [q1,q2,q3];simp);simp [hq],rfl,rfl⟩
  have hto:to=tt:=hTo.resolve_left (fun q=>by
   obtain ⟨k1,k2,k3⟩:=stat_mor rfl ⟨hT,hR⟩ (built_treeW hTe) (hBt.mor ⟨hT,hR⟩ (built_treeW hTe)) q.1
   rw [k1,k3.trans q.2] at hb7
   exact absurd hb7 (by decide))
  rw [hto] at hBt
  have hsB:=hBt.stat
  have hnB:(statF R.2.1 crR tt true).1.node=B:=by rw [hsB];unfold staF;rw [if_pos hBt.i]
  refine skp_ ?_
  refine hK7 _ ?_
  refine rs_ [5,18,22,26,27,28] ?_
  refine sg_ ?_
  refine cl_ (hc:=c23 R.2.1 _ _ _ _ (by first | (simp only [push_cast];done) | (simp only [push_cast,List.append_assoc,hw2g];done) | exact hw2g _) hy2.ok) (k:=?_)
  refine sre_ ?_
  refine sk_ fun K8 hK8=>?_
  refine rg_ [5,22,28,160] ?_
  refine cy_ (fun hb8=>?_) (fun hb8=>?_)
  · exfalso;rw [hnB,hBt.d,(congrArg Prod.snd hsB:(statF R.2.1 crR tt true).2=0)] at hb8;simp [hBt.ne] at hb8
  refine skp_ ?_
  refine hK8 _ ?_
  refine rg_ [12] ?_
  refine ret_ ?_
  refine gq_ (h1:=h) Tryz.results7 ?_ (hl:=(fun u hu=>hA2.live u (hL u hu))) (hh:=(⟨_,by rw [hh0];exact (List.nil_append _).symm⟩))
  first | exact ⟨rfl,rfl,rfl⟩ | exact ⟨by rw [if_neg hdg];rfl,rfl,rfl⟩ | exact ⟨by rw [hnB];by_cases hq:kp=true;(obtain ⟨q1,q2,q3⟩:=hkp hq;rw [q1,q2,q3];simp);simp [hq],rfl,rfl⟩
 have hmB:CmB m0:=by rw [hm0];exact cS_bd _ (by omega) (by omega)
 have hrun:=same_run (um:=um) (W:=T) (c:=crR) (kp:=kp) (fr:=fr) (tgt:=tt) rfl ⟨hT,hR⟩ (built_treeW hTe) hmB (by rw [hm0];rfl) (by rw [hm0,hb3];rfl) (by rw [hm0];rfl) (by rw [hm0];rfl) (by rw [hm0];rfl) (by rw [hm0];show 1*105+1<3000;decide)
 refine skp_ ?_
 refine hK3 _ ?_
 refine sk_ fun K9 hK9=>?_
 refine rs_ [4,5,14,16,17,18,19,20,82] ?_
 refine sg_ ?_
 refine ck_ (k:=?_)
 refine ACalls.mono (K:=runK (CmAt _ kd) (fun i=>i=kd) (n+1) n (n+3) 1 H1 _) ?_ (c16 cmN (CmAt _ kd) CmB (fun i=>i=kd) 25 kd (n+1) n (n+3) T [pr1 um crR] _ _ hy1 m0 (hA1 _) hmB (fun i e=>by rw [e];refine ⟨by omega,by omega,by omega,fun j hj=>?_⟩;have hj:j<1:=(by first | exact hj | (rw [hpl2] at hj;exact hj));omega) (cm_call _ kd) cm_step (cm_stay _ kd));rintro _ H2 live2 ⟨⟨rfl,hy2,hpl2,hA2,hle2,ho2⟩,hH2⟩
 generalize runF cmN 3000 T [pr1 um crR] m0 rs0 0=R at hrun hy2 hpl2 hA2 ⊢
 obtain ⟨hr0,hps,hdl,hK⟩:=hrun
 have hop:openL R.2.2.1=[]:=by rw [hps];rfl
 have hf3:∀i,i<H1.length→i≠kd→n+3<i→H2[i]? = H1[i]? := fun i h1 h2 h3=>ho2 i h1 h2 (by omega) (fun j hj=>by have hj:j<1:=hj;omega)
 have hw2g:=fun g:List Blk=>atApp (g:=g) ((hf3 _ (by omega) (by omega) (by omega)).trans hw1)
 have hst2:=(hf3 _ (by omega) (by omega) (by omega)).trans hst1
 have hbx2:=(hf3 _ (by omega) (by omega) (by omega)).trans hbx1
 have hst2g:=fun g:List Blk=>atApp (g:=g) hst2
 have hbx2g:=fun g:List Blk=>atApp (g:=g) hbx2
 obtain ⟨cda,ra,hga⟩:=hA2.get
 have sx:=And.intro hop (And.intro hst2 (And.intro hbx2 (And.intro hst2g (And.intro hbx2g sx))))
 refine sg_ ?_
 refine cg_ (hc:=fun hg=>c20 _ _ _ _ _ _ _ hy2) (k:=?_)
 refine sre_ ?_
 refine cy_ (fun hb4=>?_) (fun hb4=>?_)
 · exfalso;(simp [hop] at hb4;omega)
 refine skp_ ?_
 refine hK9 _ ?_
 refine rs_ [4,5,16,17,18,19,20,21] ?_
 refine sg_ ?_
 refine cl_ (hc:=c13 _ _ _ _ _ _ _ hy2) (k:=?_)
 refine sre_ ?_
 refine sk_ fun K10 hK10=>?_
 refine rs_ [4,5,16,17,18,20,21,93] ?_
 refine sg_ ?_
 refine cg_ (hc:=fun hg=>c29 kd R.2.2.2.dg cda _ _ _ (atApp hga) (by omega)) (k:=?_)
 refine sre_ ?_
 refine cy_ (fun hb5=>?_) (fun hb5=>?_)
 ·
  have hdg:R.2.2.2.dg≠[]:=by
   intro hd
   obtain ⟨s,to,B,hS,hTo,hBt,hkp⟩:=hK.resolve_left (fun q=>q hd)
   simp [hS.ok,hd] at hb5
  refine rs_ [12] ?_
  refine sg_ ?_
  refine cl_ (hc:=c29 kd R.2.2.2.dg cda _ _ _ (atApp hga) (by omega)) (k:=?_)
  refine srt_ ?_
  refine gq_ (h1:=h) Tryz.results7 ?_ (hl:=(fun u hu=>hA2.live u (hL u hu))) (hh:=(⟨_,by rw [hh0];exact (List.nil_append _).symm⟩))
  first | exact ⟨rfl,rfl,rfl⟩ | exact ⟨by rw [if_neg hdg];rfl,rfl,rfl⟩ | exact ⟨by rw [hnB];by_cases hq:kp=true;(obtain ⟨q1,q2,q3⟩:=hkp hq;rw [q1,q2,q3];simp);simp [hq],rfl,rfl⟩
 simp only [Bool.or_eq_false_iff,Bool.not_eq_false',decide_eq_true_eq] at hb5
 have hd:R.2.2.2.dg=[]:=Classical.byContradiction fun q=>by rw [if_neg q] at hb5;exact absurd hb5.2 (by decide)
 obtain ⟨s,to,B,hS,hTo,hBt,hkp⟩:=hK.resolve_left (fun q=>q hd)
 have hAk:=hS.a ⟨hT,hR⟩ (built_treeW hTe)
 have hse:=hS.e
 subst hse
 refine skp_ ?_
 refine hK10 _ ?_
 refine rs_ [4,5,16,18,21,22] ?_
 refine sg_ ?_
 refine cl_ (hc:=c23 T _ _ _ _ (by first | (simp only [push_cast];done) | (simp only [push_cast,List.append_assoc,hw2g];done) | exact hw2g _) hT) (k:=?_)
 refine sre_ ?_
 refine rs_ [4,5,16,18,21,22,24] ?_
 refine sg_ ?_
 refine cl_ (hc:=c23 R.2.1 _ _ _ _ (by first | (simp only [push_cast];done) | (simp only [push_cast,List.append_assoc,hw2g];done) | exact hw2g _) hy2.ok) (k:=?_)
 refine sre_ ?_
 refine sk_ fun K11 hK11=>?_
 refine rs_ [4,5,16,18,21,22,121] ?_
 refine sg_ ?_
 refine cl_ (hc:=c32 _ _ _ _ (Gd.nd ⟨hT,hR⟩ _) (hBt.gd.nd _)) (k:=?_)
 refine sre_ ?_
 refine cy_ (fun hb6=>?_) (fun hb6=>?_)
 · exfalso;rw [hBt.a,sameF_refl,hAk.1] at hb6;exact absurd hb6 (by decide)
 refine skp_ ?_
 refine hK11 _ ?_
 refine rs_ [5,18,21,22,26,27] ?_
 refine sg_ ?_
 refine cl_ (hc:=erx_ (ys:=[.ptr H2.length 0,.agg [.int .i64 0,.int .i64 0,.slice (([]:List Int).map iV) .none],.str tt]) (by simp only [List.map_cons,List.map_nil,AV.er,AV.erL,erL_rV]<;>rfl) (c31 R.2.1 _ crR tt _ _ (by first | (simp only [push_cast];done) | (simp only [push_cast,List.append_assoc,hw2g];done) | exact hw2g _) hy2.ok (by simp [crR]) hBt.gd.2 ht)) (k:=?_)
 refine sre_ ?_
 refine sk_ fun K12 hK12=>?_
 refine rg_ [5,18,21,22,26,27,135] ?_
 refine cy_ (fun hb7=>?_) (fun hb7=>?_)
 ·
  refine rg_ [12] ?_
  refine ret_ ?_
  refine gq_ (h1:=h) Tryz.results7 ?_ (hl:=(fun u hu=>hA2.live u (hL u hu))) (hh:=(⟨_,by rw [hh0];exact (List.nil_append _).symm⟩))
  first | exact ⟨rfl,rfl,rfl⟩ | exact ⟨by rw [if_neg hdg];rfl,rfl,rfl⟩ | exact ⟨by rw [hnB];by_cases hq:kp=true;(obtain ⟨q1,q2,q3⟩:=hkp hq;rw [q1,q2,q3];simp);simp [hq],rfl,rfl⟩
 have hto:to=tt:=hTo.resolve_left (fun q=>by
  obtain ⟨k1,k2,k3⟩:=stat_mor rfl ⟨hT,hR⟩ (built_treeW hTe) (hBt.mor ⟨hT,hR⟩ (built_treeW hTe)) q.1
  rw [k1,k3.trans q.2] at hb7
  exact absurd hb7 (by decide))
 rw [hto] at hBt
 have hsB:=hBt.stat
 have hnB:(statF R.2.1 crR tt true).1.node=B:=by rw [hsB];unfold staF;rw [if_pos hBt.i]
 refine skp_ ?_
 refine hK12 _ ?_
 refine rs_ [5,18,22,26,27,28] ?_
 refine sg_ ?_
 refine cl_ (hc:=c23 R.2.1 _ _ _ _ (by first | (simp only [push_cast];done) | (simp only [push_cast,List.append_assoc,hw2g];done) | exact hw2g _) hy2.ok) (k:=?_)
 refine sre_ ?_
 refine sk_ fun K13 hK13=>?_
 refine rg_ [5,22,28,160] ?_
 refine cy_ (fun hb8=>?_) (fun hb8=>?_)
 · exfalso;rw [hnB,hBt.d,(congrArg Prod.snd hsB:(statF R.2.1 crR tt true).2=0)] at hb8;simp [hBt.ne] at hb8
 refine skp_ ?_
 refine hK13 _ ?_
 refine rg_ [12] ?_
 refine ret_ ?_
 refine gq_ (h1:=h) Tryz.results7 ?_ (hl:=(fun u hu=>hA2.live u (hL u hu))) (hh:=(⟨_,by rw [hh0];exact (List.nil_append _).symm⟩))
 first | exact ⟨rfl,rfl,rfl⟩ | exact ⟨by rw [if_neg hdg];rfl,rfl,rfl⟩ | exact ⟨by rw [hnB];by_cases hq:kp=true;(obtain ⟨q1,q2,q3⟩:=hkp hq;rw [q1,q2,q3];simp);simp [hq],rfl,rfl⟩
end Go.Proofs.YtmgnbgniikjhdaaGreat
