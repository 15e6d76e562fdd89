import Derived.Test.YtmgnbgniikjhdaaGreatK25
/-
  CP by root, with one source, call by call.
-/
set_option linter.unusedVariables false
set_option linter.unusedSimpArgs false
namespace Go.Proofs.YtmgnbgniikjhdaaGreat
open Go.Ab
set_option maxRecDepth 8000
set_option maxHeartbeats 400000
section
variable {W:Tab} {um:Int} {c:Cr} {fr tgt:List UInt8} {kp:Bool}
def ToW (W:Tab) (c:Cr) (tgt to:List UInt8):Prop:=((statF W c tgt true).2=0∧(statF W c tgt true).1.kind=2)∨to=tgt
structure SrcW (W:Tab) (c:Cr) (fr:List UInt8) (s:Sta):Prop where
 ok:(statF W c fr true).2=0
 e:s=(statF W c fr true).1
 k:s.kind≠2
theorem SrcW.a {s:Sta} (hT:Gd W) (hW:TreeW W [] []) (h:SrcW W c fr s):(W.get s.node).1.kind=1∧s.mode=(W.get s.node).1.mode∧s.uid=(W.get s.node).1.uid∧s.gid=(W.get s.node).1.gid∧rN W c fr true=s.node:=by
 obtain ⟨i,h1,h2,h3⟩:=stat_ok hT hW h.ok
 have e:=h.e.trans h3
 have hk:=h.k
 have hn:rN W c fr true=i:=by
  have h4:=h.ok
  unfold statF at h3 h4
  by_cases q:(resF W c fr true).2≠0
  · rw [if_pos q] at h4;exact absurd h4 q
  rw [if_neg q] at h3 h4
  by_cases q2:(W.get (resF W c fr true).1.2.2).2=true
  ·
   rw [if_pos q2] at h3
   unfold staF at h3
   rw [if_pos q2] at h3
   exact congrArg Sta.node h3
  · rw [if_neg q2] at h4;exact absurd h4 (show (2:Int)≠0 by decide)
 rw [e] at hk ⊢
 refine ⟨?_,rfl,rfl,rfl,hn⟩
 rcases right_cases (hT.2.get h1) with ⟨_,k | k | k⟩
 · exact k.1
 · exact absurd k.1 hk
 · exact absurd k.1 h2
def SmJ (W:Tab) (um:Int) (c:Cr) (fr tgt:List UInt8) (kp:Bool) (T:Tab) (ps:List Pr) (m:Cm) (r:Rs):Prop:=
 m.dg=[]∧m.keep=kp∧match m.nx with
 | 0=>False
 | 1=>T=W∧ps=[prS um c fd0 fd0]∧m.left=[fr]∧m.tgt=tgt
 | 2=>T=W∧ps=[prS um c fd0 fd0]∧m.left=[fr]∧m.tgt=tgt∧r.err=(statF W c tgt true).2∧r.st=(statF W c tgt true).1
 | 3=>T=W∧ps=[prS um c fd0 fd0]∧m.left=[]∧m.fr=fr∧ToW W c tgt m.to∧r.err=(statF W c fr true).2∧r.st=(statF W c fr true).1
 | 4=>T=W∧ps=[prS um c fd0 fd0]∧m.left=[]∧m.fr=fr∧ToW W c tgt m.to∧SrcW W c fr m.s∧r.err=(statF W c m.to true).2∧r.st=(statF W c m.to true).1
 | 5=>m.left=[]∧ToW W c tgt m.to∧SrcW W c fr m.s∧m.cp.fr=fr∧m.cp.to=m.to∧m.cp.fl=22∧((statF W c m.to true).2=0→(statF W c m.to true).1.node≠m.s.node)∧CpJ W um c m.s.node T ps m.cp r
 | 6=>ps=[prS um c fd0 fd0]∧kp=true∧m.left=[]∧ToW W c tgt m.to∧SrcW W c fr m.s∧r.err=0∧∃B,Bt W T c [] m.s.node B m.to (W.get m.s.node).1.data∧(T.get B).1.uid=(W.get m.s.node).1.uid∧(T.get B).1.gid=(W.get m.s.node).1.gid
 | _=>ps=[prS um c fd0 fd0]∧m.left=[]∧ToW W c tgt m.to∧SrcW W c fr m.s∧r.err=0∧∃B,Bt W T c [] m.s.node B m.to (W.get m.s.node).1.data∧(T.get B).1.mode=(W.get m.s.node).1.mode∧(T.get B).1.uid=(W.get m.s.node).1.uid∧(T.get B).1.gid=(W.get m.s.node).1.gid
def SmK (W:Tab) (um:Int) (c:Cr) (fr tgt:List UInt8) (kp:Bool) (T:Tab) (ps:List Pr) (m:Cm):Prop:=
 ps=[prS um c fd0 fd0]∧m.dg.length≤1∧(m.dg≠[]∨∃s to B,SrcW W c fr s∧ToW W c tgt to∧Bt W T c [] s.node B to (W.get s.node).1.data∧(kp=true→(T.get B).1.mode=(W.get s.node).1.mode∧(T.get B).1.uid=(W.get s.node).1.uid∧(T.get B).1.gid=(W.get s.node).1.gid))
def SmO (W:Tab) (um:Int) (c:Cr) (fr tgt:List UInt8) (kp:Bool) (T:Tab) (ps:List Pr) (x:CmR):Prop:=
 (x.1.2=true→SmJ W um c fr tgt kp (doF T ps 0 x.1.1).2.1 (doF T ps 0 x.1.1).2.2 x.2 (doF T ps 0 x.1.1).1)∧(x.1.2=false→SmK W um c fr tgt kp T ps x.2)
theorem src_end {m:Cm} (h:m.left=[]):cmSrc m=((caN,false),{ m with nx:=0 }):=by
 unfold cmSrc;rw [h];rfl
theorem o_skip {T:Tab} {ps:List Pr} {m:Cm} (hd:m.dg=[]) (h:m.left=[]) (hp:ps=[prS um c fd0 fd0]) (p:List UInt8) (e:Int):SmO W um c fr tgt kp T ps (cmSkip m p e):=by
 unfold cmSkip
 rw [src_end (m:=cmFail m p e) h]
 exact ⟨(fun h=>nomatch h),fun _=>⟨hp,by show (m.dg++[(p,e)]).length≤1;rw [hd];exact Nat.le_refl _,.inl (by unfold cmFail;simp)⟩⟩
theorem o_copies (hc:c.uid=0) (hT:Gd W) (hW:TreeW W [] []) {T:Tab} {ps:List Pr} {m:Cm} {r:Rs} (hg:Gd T) (ht:TreeW T (openL ps) []) (h1:m.dg=[]) (h2:m.keep=kp) (h3:m.left=[]) (h4:ToW W c tgt m.to) (h5:SrcW W c fr m.s) (h6:m.cp.fr=fr) (h7:m.cp.to=m.to) (h8:m.cp.fl=22)
 (h9:(statF W c m.to true).2=0→(statF W c m.to true).1.node≠m.s.node) (hJ:CpJ W um c m.s.node T ps m.cp r):SmO W um c fr tgt kp T ps (cmCopies m r):=by
 obtain ⟨a1,a2,a3,a4,a5⟩:=h5.a hT hW
 have hU:=cp_out hc hT hW a1 (b:=m.cp) (by rw [h6];exact a5) (by rw [h7];exact h9) h8 hg ht hJ
 unfold cmCopies
 generalize cpN m.cp r=x at hU ⊢
 obtain ⟨⟨k,more⟩,cp'⟩:=x
 obtain ⟨u1,u2⟩:=hU
 dsimp only at u1 u2 ⊢
 rw [h6,h7,h8] at u1
 rw [h7] at u2
 cases more with
 | true=>
  obtain ⟨v1,v2,v3,v4⟩:=u1 rfl
  exact ⟨fun _=>⟨h1,h2,h3,h4,h5,v2,v3,v4,h9,v1⟩,fun h=>nomatch h⟩
 | false=>
  obtain ⟨rfl,hw⟩:=u2 rfl
  rw [cond_false]
  cases hv:wrF cp' with
  | true=>exact o_skip (m:={ m with cp:=cp' }) h1 h3 rfl _ _
  | false=>
   rw [hv] at hw
   obtain ⟨B,hB⟩:=hw.resolve_left (fun h=>nomatch h)
   rw [cond_false]
   by_cases hk:m.keep=true
   ·
    rw [show (bif m.keep then _ else _:CmR)=_ from congrArg (fun q=>cond q _ _) hk,cond_true]
    refine ⟨fun _=>⟨h1,h2,?_⟩,fun h=>nomatch h⟩
    dsimp only
    have g1:=doF_gd hg [prS um c fd0 fd0] 0 ⟨6,m.to,[],m.s.uid,m.s.gid,[]⟩
    have t1:=doF_tree hg ht 0 ⟨6,m.to,[],m.s.uid,m.s.gid,[]⟩
    rw [do_chown,a3,a4] at g1 t1 ⊢
    obtain ⟨b1,b2,b3,b4⟩:=hB.chown hc a1 hT g1 t1
    exact ⟨rfl,h2.symm.trans hk,h3,h4,h5,b1,B,b2,b3,b4⟩
   ·
    rw [show (bif m.keep then _ else _:CmR)=_ from congrArg (fun q=>cond q _ _) (Bool.not_eq_true _▸hk),cond_false,src_end (m:={ m with cp:=cp' }) h3]
    exact ⟨(fun h=>nomatch h),fun _=>⟨rfl,by show m.dg.length≤1;rw [h1];exact Nat.zero_le _,.inr ⟨m.s,m.to,B,h5,h4,hB,fun q=>absurd (h2.trans q) hk⟩⟩⟩
theorem sm_out (hc:c.uid=0) (hT:Gd W) (hW:TreeW W [] []) {T:Tab} {ps:List Pr} {m:Cm} {r:Rs} (hg:Gd T) (ht:TreeW T (openL ps) []) (hJ:SmJ W um c fr tgt kp T ps m r):SmO W um c fr tgt kp T ps (cmN m r):=by
 obtain ⟨dg,keep,into,tg,left,fr',to,s,cp,nx⟩:=m
 obtain ⟨h1,h2,hJ⟩:=hJ
 dsimp only at h1 h2
 subst h1 h2
 match nx,hJ with
 | 1,hJ=>
  obtain ⟨rfl,rfl,h3,h4⟩:=hJ
  dsimp only at h3 h4
  subst h3 h4
  refine ⟨fun _=>?_,fun h=>nomatch h⟩
  show SmJ T um c fr tg keep (doF T _ 0 ⟨1,tg,[],0,0,[]⟩).2.1 (doF T _ 0 ⟨1,tg,[],0,0,[]⟩).2.2 _ (doF T _ 0 ⟨1,tg,[],0,0,[]⟩).1
  rw [do_stat]
  exact ⟨rfl,rfl,rfl,rfl,rfl,rfl,rfl,rfl⟩
 | 2,hJ=>
  obtain ⟨rfl,rfl,h3,h4,h5,h6⟩:=hJ
  dsimp only at h3 h4
  subst h3 h4
  show SmO _ _ _ _ _ _ _ _ (cmAimed _ r)
  unfold cmAimed
  dsimp only
  rw [if_neg (fun q=>absurd q.1 (show ¬(1:Int)<((1:Nat):Int) by decide))]
  unfold cmSrc
  rw [if_neg (show ¬(([fr].length:Nat):Int)=0 from show ¬((1:Nat):Int)=0 by decide)]
  refine ⟨fun _=>?_,fun h=>nomatch h⟩
  show SmJ T um c fr tg keep (doF T _ 0 ⟨1,fr,[],0,0,[]⟩).2.1 (doF T _ 0 ⟨1,fr,[],0,0,[]⟩).2.2 _ (doF T _ 0 ⟨1,fr,[],0,0,[]⟩).1
  rw [do_stat]
  refine ⟨rfl,rfl,rfl,rfl,rfl,rfl,?_,rfl,rfl⟩
  show ToW T c tg (bif decide (r.err=0)&&decide (r.st.kind=2) then _ else _)
  cases hb:decide (r.err=0)&&decide (r.st.kind=2) with
  | true=>
   rw [Bool.and_eq_true,decide_eq_true_eq,decide_eq_true_eq,h5,h6] at hb
   exact .inl hb
  | false=>exact .inr rfl
 | 3,hJ=>
  obtain ⟨rfl,rfl,h3,h4,h5,h6,h7⟩:=hJ
  dsimp only at h3 h4 h5
  subst h3 h4
  show SmO _ _ _ _ _ _ _ _ (cmLooked _ r)
  unfold cmLooked
  dsimp only
  by_cases hr:r.err≠0
  · rw [if_pos hr];exact o_skip rfl rfl rfl _ _
  rw [if_neg hr]
  by_cases hk:r.st.kind=2
  · rw [if_pos hk];exact o_skip rfl rfl rfl _ _
  rw [if_neg hk]
  refine ⟨fun _=>?_,fun h=>nomatch h⟩
  dsimp only
  rw [do_stat]
  exact ⟨rfl,rfl,rfl,rfl,rfl,rfl,h5,⟨h6.symm.trans (Classical.not_not.1 hr),h7,hk⟩,rfl,rfl⟩
 | 4,hJ=>
  obtain ⟨rfl,rfl,h3,h4,h5,h6,h7,h8⟩:=hJ
  dsimp only at h3 h4 h5 h6 h7 h8
  subst h3 h4
  show SmO _ _ _ _ _ _ _ _ (cmBegin _ r)
  unfold cmBegin
  dsimp only
  by_cases hr:r.err=0∧r.st.node=s.node
  · rw [if_pos hr];exact o_skip rfl rfl rfl _ _
  rw [if_neg hr]
  refine o_copies hc hT hW hg ht rfl rfl rfl h5 h6 rfl rfl rfl (fun q e=>hr ⟨h7.trans q,by rw [h8];exact e⟩) ⟨rfl,rfl,rfl,rfl,rfl⟩
 | 5,hJ=>
  obtain ⟨h3,h4,h5,h6,h7,h8,h9,h10⟩:=hJ
  exact o_copies hc hT hW hg ht rfl rfl h3 h4 h5 h6 h7 h8 h9 h10
 | 6,hJ=>
  obtain ⟨rfl,h2,h3,h4,h5,h6,B,hB,h7,h8⟩:=hJ
  dsimp only at h3 h4 h5 hB h7 h8
  obtain ⟨a1,a2,a3,a4,a5⟩:=h5.a hT hW
  show SmO _ _ _ _ _ _ _ _ (cmOwned _ r)
  unfold cmOwned
  dsimp only
  rw [if_neg (fun q=>q h6)]
  refine ⟨fun _=>⟨rfl,rfl,?_⟩,fun h=>nomatch h⟩
  dsimp only
  have g1:=doF_gd hg [prS um c fd0 fd0] 0 ⟨5,to,[],s.mode,0,[]⟩
  have t1:=doF_tree hg ht 0 ⟨5,to,[],s.mode,0,[]⟩
  rw [do_chmod,a2] at g1 t1 ⊢
  obtain ⟨b1,b2,b3⟩:=hB.chmod hc a1 hT g1 t1
  refine ⟨rfl,h3,h4,h5,b1,B,b2,?_,?_,?_⟩
  · rw [b3]
  · rw [b3];exact h7
  · rw [b3];exact h8
 | nx+7,hJ=>
  obtain ⟨rfl,h3,h4,h5,h6,B,hB,h7,h8,h9⟩:=hJ
  dsimp only at h3 h4 h5 hB h7 h8 h9
  show SmO _ _ _ _ _ _ _ _ (cmDone _ r)
  unfold cmDone
  rw [if_neg (fun q=>q h6),src_end h3]
  exact ⟨(fun h=>nomatch h),fun _=>⟨rfl,Nat.zero_le _,.inr ⟨s,to,B,h5,h4,hB,fun _=>⟨h7,h8,h9⟩⟩⟩⟩
theorem same_run (hc:c.uid=0) (hT:Gd W) (hW:TreeW W [] []) {m:Cm} (hB:CmB m) (h1:m.dg=[]) (h2:m.keep=kp) (h3:m.left=[fr]) (h4:m.tgt=tgt) (h5:m.nx=1) (hM:cmM m<3000) :
 0≤(runF cmN 3000 W [pr1 um c] m rs0 0).1∧SmK W um c fr tgt kp (runF cmN 3000 W [pr1 um c] m rs0 0).2.1 (runF cmN 3000 W [pr1 um c] m rs0 0).2.2.1 (runF cmN 3000 W [pr1 um c] m rs0 0).2.2.2:=by
 have h0:=run_ends (nxt:=cmN) cmM CmO (fun s r h1 h2=>cmM_step r h1 h2) 3000 W [pr1 um c] m rs0 0 hB.o hM
 refine ⟨h0,?_⟩
 refine run_inv (nxt:=cmN) (J:=fun T ps s r=>Gd T∧TreeW T (openL ps) []∧SmJ W um c fr tgt kp T ps s r) (K:=fun T ps s=>SmK W um c fr tgt kp T ps s) (fun T ps s r hJ hm=>?_) (fun T ps s r hJ hm=>?_) 3000 W [pr1 um c] m rs0 0 ⟨hT,hW,h1,h2,?_⟩ h0
 · exact ⟨doF_gd hJ.1 _ _ _,doF_tree hJ.1 hJ.2.1 _ _,(sm_out hc hT hW hJ.1 hJ.2.1 hJ.2.2).1 hm⟩
 · exact (sm_out hc hT hW hJ.1 hJ.2.1 hJ.2.2).2 hm
 · rw [h5];exact ⟨rfl,rfl,h3,h4⟩
end
end Go.Proofs.YtmgnbgniikjhdaaGreat
