import Derived.Test.YtmgnbgniikjhdaaGreatP5
/-
  CALLS: a process changes the tree.
-/
set_option linter.unusedVariables false
set_option linter.unusedSimpArgs false
namespace Go.Proofs.YtmgnbgniikjhdaaGreat
open Go.Ab
set_option maxRecDepth 8000
set_option maxHeartbeats 400000
theorem SysAt.same {h h':List Blk} {ks kt kb:Nat} {T:Tab} {ps:List Pr} (hs:SysAt h ks kt kb T ps) (he:∀i,i<h.length→h'[i]? = h[i]?):SysAt h' ks kt kb T ps:=
 ⟨by rw [he _ (lt_of_get hs.s)];exact hs.s,by rw [he _ (lt_of_get hs.t)];exact hs.t,fun i hi=>by rw [he _ (lt_of_get (hs.p i hi))];exact hs.p i hi,hs.st,hs.sb,hs.tb,hs.ok,hs.rt,hs.gs,hs.few⟩
def chaF (T:Tab) (P:Pr) (ca:Ca) (o:List Int):Int×Tab:=
 if ca.kind=5 then chmodF T P.c ca.path ca.a
 else if ca.kind=8 then mkdirF T P.c P.um ca.path ca.a
 else if ca.kind=9 then symlinkF T P.c ca.other ca.path
 else if ca.kind=10 then unlinkF T P.c ca.path o
 else if ca.kind=11 then rmdirF T P.c ca.path
 else if ca.kind=12 then renameF T P.c ca.path ca.other o
 else chownF T P.c ca.path ca.a ca.b (decide (ca.kind=6))
theorem rsC_len (r:Rs):(rsC r).length=12:=rfl
theorem rsC_t (r:Rs):(rsC r).take 12=rsC r:=rfl
theorem rsC_p (a b c0 c1 c2 c3 c4 c5 c6 t n d:AV) (r:Rs):putAt [a,b,c0,c1,c2,c3,c4,c5,c6,t,n,d] 0 (rsC r)=rsC r:=rfl
attribute [push_cast] rsC_len rsC_t rsC_p
theorem c78 (ks kt kb:Nat) (T:Tab) (ps:List Pr) (h:List Blk) (live:List Nat) (hy:SysAt h ks kt kb T ps) (kp:Nat) (P:Pr) (ca:Ca) (hkp:h[kp]? = some (.cells (prC P))) (hgs:P.c.gs.length≤17592186044416) (hpath:ca.path.length≤1000) (hoth:ca.other.length≤1000):ACalls Tryz.prog 78 [.ptr ks 0,.ptr kp 0,.agg (caC ca)] h live (ret (.agg (rsC (tol (chaF T P ca (openL ps)).1))) (h.set kt (tabBlk (chaF T P ca (openL ps)).2)) live):=by
 refine aq_ Tryz.func78 fun hH hX=>?_
 have hks:=hy.s
 have hkt:=hy.t
 have hkl:=lt_of_get hks
 have hktl:=lt_of_get hkt
 have hkpl:=lt_of_get hkp
 have hpq:=fun g:List Blk=>atApp (g:=g) hkp
 have hksg:=fun g:List Blk=>atApp (g:=g) hks
 have hs1:∀(y:Blk) (g:List Blk),(h++g).set kt y=h.set kt y++g:=fun y g=>setApp hkt
 have hsl:∀y:Blk,(h.set kt y).length=h.length:=fun y=>List.length_set ..
 have hol:=openL_len ps
 have hfw:=hy.few
 have sx:=(And.intro @hpq (And.intro @hksg (And.intro @hs1 (And.intro @hsl sx0))))
 refine rg_ [0,1,5,6] ?_
 refine sk_ fun K1 hK1=>?_
 refine rg_ [0,1,5,6,8] ?_
 refine awp_block ?_
 refine rg_ [0,1,5,6,8,9] ?_
 refine cx_ (fun hb1=>?_) (fun hb1=>?_)
 ·
  refine rsq_ [6] ⟨false,[],[],[],[],[],0⟩ (fun _=>⟨by kernel_rfl,by kernel_rfl⟩) ?_
  refine sg_ ?_
  refine cl_ (hc:=c112 T kt P.c ca.path ca.a _ _ (atApp hkt) hy.ok (by omega) hy.rt (by omega)) (k:=?_)
  refine cl_ (hc:=c70 _ _ _) (k:=?_)
  refine srt_ ?_
  refine gq_ (h1:=h.set kt _) Tryz.results78 ?_ (hh:=(⟨_,rfl⟩)) (hH:=(hcl_tab hH _ _))
  exact ⟨by unfold chaF;rw [if_pos hb1],by unfold chaF;rw [if_pos hb1],rfl⟩
 refine rg_ [0,1,5,6,8,25] ?_
 refine cx_ (fun hb2=>?_) (fun hb2=>?_)
 ·
  refine rsq_ [6] ⟨false,[],[],[],[],[],0⟩ (fun _=>⟨by kernel_rfl,by kernel_rfl⟩) ?_
  refine sg_ ?_
  refine cl_ (hc:=c113 T kt P.c P.um ca.path ca.a _ _ (atApp hkt) hy.ok (by omega) hy.rt (by omega)) (k:=?_)
  refine cl_ (hc:=c70 _ _ _) (k:=?_)
  refine srt_ ?_
  refine gq_ (h1:=h.set kt _) Tryz.results78 ?_ (hh:=(⟨_,rfl⟩)) (hH:=(hcl_tab hH _ _))
  exact ⟨by unfold chaF;rw [if_neg hb1,if_pos hb2],by unfold chaF;rw [if_neg hb1,if_pos hb2],rfl⟩
 refine rg_ [0,1,5,6,8,45] ?_
 refine cx_ (fun hb3=>?_) (fun hb3=>?_)
 ·
  refine rsq_ [6] ⟨false,[],[],[],[],[],0⟩ (fun _=>⟨by kernel_rfl,by kernel_rfl⟩) ?_
  refine sg_ ?_
  refine cl_ (hc:=c114 T kt P.c ca.other ca.path _ _ (atApp hkt) hy.ok (by omega) hy.rt (by omega) (by omega)) (k:=?_)
  refine cl_ (hc:=c70 _ _ _) (k:=?_)
  refine srt_ ?_
  refine gq_ (h1:=h.set kt _) Tryz.results78 ?_ (hh:=(⟨_,rfl⟩)) (hH:=(hcl_tab hH _ _))
  exact ⟨by unfold chaF;rw [if_neg hb1,if_neg hb2,if_pos hb3],by unfold chaF;rw [if_neg hb1,if_neg hb2,if_pos hb3],rfl⟩
 refine rg_ [0,1,5,6,8,61] ?_
 refine cx_ (fun hb4=>?_) (fun hb4=>?_)
 ·
  refine rsq_ [6] ⟨false,[],[],[],[],[74],h.length⟩ (fun _=>⟨by kernel_rfl,by kernel_rfl⟩) ?_
  refine sg_ ?_
  refine ds_ (hc:=fun h' l' hs=>c20 ks kt kb T ps h' l' (hy.same fun k0 hk0=>by rw [hs k0 hk0];exact List.getElem?_append_left hk0)) (k:=?_)
  refine cl_ (hc:=c115 T kt P.c ca.path (openL ps) _ _ _ (atApp hkt) hy.ok (by omega) hy.rt (by omega) (by omega)) (k:=?_)
  refine cl_ (hc:=c70 _ _ _) (k:=?_)
  refine srt_ ?_
  refine gq_ (h1:=h.set kt _) Tryz.results78 ?_ (hh:=(⟨_,rfl⟩)) (hH:=(hcl_tab hH _ _))
  exact ⟨by unfold chaF;rw [if_neg hb1,if_neg hb2,if_neg hb3,if_pos hb4],by unfold chaF;rw [if_neg hb1,if_neg hb2,if_neg hb3,if_pos hb4],rfl⟩
 refine rg_ [0,1,5,6,8,77] ?_
 refine cx_ (fun hb5=>?_) (fun hb5=>?_)
 ·
  refine rsq_ [6] ⟨false,[],[],[],[],[],0⟩ (fun _=>⟨by kernel_rfl,by kernel_rfl⟩) ?_
  refine sg_ ?_
  refine cl_ (hc:=c116 T kt P.c ca.path _ _ (atApp hkt) hy.ok (by omega) hy.rt (by omega)) (k:=?_)
  refine cl_ (hc:=c70 _ _ _) (k:=?_)
  refine srt_ ?_
  refine gq_ (h1:=h.set kt _) Tryz.results78 ?_ (hh:=(⟨_,rfl⟩)) (hH:=(hcl_tab hH _ _))
  exact ⟨by unfold chaF;rw [if_neg hb1,if_neg hb2,if_neg hb3,if_neg hb4,if_pos hb5],by unfold chaF;rw [if_neg hb1,if_neg hb2,if_neg hb3,if_neg hb4,if_pos hb5],rfl⟩
 refine rg_ [0,1,5,6,91] ?_
 refine cx_ (fun hb6=>?_) (fun hb6=>?_)
 ·
  refine rsq_ [6] ⟨false,[],[],[],[],[106],h.length⟩ (fun _=>⟨by kernel_rfl,by kernel_rfl⟩) ?_
  refine sg_ ?_
  refine ds_ (hc:=fun h' l' hs=>c20 ks kt kb T ps h' l' (hy.same fun k0 hk0=>by rw [hs k0 hk0];exact List.getElem?_append_left hk0)) (k:=?_)
  refine cl_ (hc:=c117 T kt P.c ca.path ca.other (openL ps) _ _ _ (atApp hkt) hy.ok (by omega) hy.rt (by omega) (by omega) (by omega)) (k:=?_)
  refine cl_ (hc:=c70 _ _ _) (k:=?_)
  refine srt_ ?_
  refine gq_ (h1:=h.set kt _) Tryz.results78 ?_ (hh:=(⟨_,rfl⟩)) (hH:=(hcl_tab hH _ _))
  exact ⟨by unfold chaF;rw [if_neg hb1,if_neg hb2,if_neg hb3,if_neg hb4,if_neg hb5,if_pos hb6],by unfold chaF;rw [if_neg hb1,if_neg hb2,if_neg hb3,if_neg hb4,if_neg hb5,if_pos hb6],rfl⟩
 refine skp_ ?_
 refine hK1 _ ?_
 refine rsq_ [6] ⟨false,[],[],[],[],[],0⟩ (fun _=>⟨by kernel_rfl,by kernel_rfl⟩) ?_
 refine sg_ ?_
 refine cl_ (hc:=c118 T kt P.c ca.path ca.a ca.b (decide (ca.kind=6)) _ _ (atApp hkt) hy.ok (by omega) hy.rt (by omega)) (k:=?_)
 refine cl_ (hc:=c70 _ _ _) (k:=?_)
 refine srt_ ?_
 refine gq_ (h1:=h.set kt _) Tryz.results78 ?_ (hh:=(⟨_,rfl⟩)) (hH:=(hcl_tab hH _ _))
 exact ⟨by unfold chaF;rw [if_neg hb1,if_neg hb2,if_neg hb3,if_neg hb4,if_neg hb5,if_neg hb6],by unfold chaF;rw [if_neg hb1,if_neg hb2,if_neg hb3,if_neg hb4,if_neg hb5,if_neg hb6],rfl⟩
end Go.Proofs.YtmgnbgniikjhdaaGreat
namespace Go.Proofs.YtmgnbgniikjhdaaGreat
open Go.Ab
set_option maxRecDepth 8000
set_option maxHeartbeats 400000
theorem get_set2 (h:List Blk) (a b:Nat) (x y:Blk) (l:List Blk) (j:Nat):((h.set a x).set b y++l)[h.length+j]? = l[j]? := by
 have:=get_app ((h.set a x).set b y) l j
 rwa [List.length_set,List.length_set] at this
theorem set_set2 (h:List Blk) (a b:Nat) (x y z:Blk) (l:List Blk) (j:Nat):((h.set a x).set b y++l).set (h.length+j) z=(h.set a x).set b y++l.set j z:=by
 have:=set_app ((h.set a x).set b y) l j z
 rwa [List.length_set,List.length_set] at this
def sysH (h:List Blk) (kt kp:Nat) (T:Tab) (P:Pr):List Blk:=(h.set kt (tabBlk T)).set kp (.cells (prC P))
theorem sysH_self {h:List Blk} {kt kp:Nat} {T:Tab} {P:Pr} (ht:h[kt]? = some (tabBlk T)) (hp:h[kp]? = some (.cells (prC P))):sysH h kt kp T P=h:=by
 unfold sysH;rw [set_self ht,set_self hp]
theorem sysH_tab {h:List Blk} {kt kp:Nat} (T:Tab) {P:Pr} (hp:h[kp]? = some (.cells (prC P))) (hne:kt≠kp):sysH h kt kp T P=h.set kt (tabBlk T):=by
 unfold sysH;exact set_self (getSet hp (Ne.symm hne))
theorem sysH_pr {h:List Blk} {kt kp:Nat} {T:Tab} (P:Pr) (ht:h[kt]? = some (tabBlk T)):sysH h kt kp T P=h.set kp (.cells (prC P)):=by
 unfold sysH;rw [set_self ht]
theorem sysH_cl {h:List Blk} (hH:HCl h) (kt kp:Nat) (T:Tab) (P:Pr):HCl (sysH h kt kp T P):=HCl.set (hcl_tab hH _ _) kp (clL_prC _ _)
theorem sysH_len (h:List Blk) (kt kp:Nat) (T:Tab) (P:Pr):(sysH h kt kp T P).length=h.length:=by unfold sysH;rw [List.length_set,List.length_set]
theorem prC_put (P:Pr) {i:Nat} (hi:i<3) (a b:Int) (c d:Bool):putAt (prC P) (4+i*4) [.int .i64 a,.int .i64 b,.bool c,.bool d]=prC (P.put i ⟨a,b,c,d⟩):=by
 rcases (show i=0∨i=1∨i=2 by omega) with rfl | rfl | rfl<;>rfl
def opnAt (T:Tab) (P:Pr) (ca:Ca) (i:Nat):Rs×Tab×Pr:=
 if (openF T P.c P.um ca.path ca.a ca.b).1.2≠0 then (tol (openF T P.c P.um ca.path ca.a ca.b).1.2,(openF T P.c P.um ca.path ca.a ca.b).2,P)
 else (⟨0,i,sta0,[],[],[]⟩,(openF T P.c P.um ca.path ca.a ca.b).2,P.put i ⟨(openF T P.c P.um ca.path ca.a ca.b).1.1,0,hasF ca.a 1,hasF ca.a 2⟩)
def opnF (T:Tab) (P:Pr) (ca:Ca):Rs×Tab×Pr:=
 if (P.fd 0).node=0 then opnAt T P ca 0 else if (P.fd 1).node=0 then opnAt T P ca 1 else if (P.fd 2).node=0 then opnAt T P ca 2 else (tol 24,T,P)
theorem opnF_at {T:Tab} {P:Pr} {ca:Ca} {i:Nat} (hi:i<3) (hb:∀j,j<i→(P.fd j).node≠0) (h0:(P.fd i).node=0):opnF T P ca=opnAt T P ca i:=by
 unfold opnF
 rcases (show i=0∨i=1∨i=2 by omega) with rfl | rfl | rfl
 · exact if_pos h0
 · rw [if_neg (hb 0 (by omega))];exact if_pos h0
 · rw [if_neg (hb 0 (by omega)),if_neg (hb 1 (by omega))];exact if_pos h0
theorem opnF_no {T:Tab} {P:Pr} {ca:Ca} (hb:∀j,j<3→(P.fd j).node≠0):opnF T P ca=(tol 24,T,P):=by
 unfold opnF
 rw [if_neg (hb 0 (by omega)),if_neg (hb 1 (by omega)),if_neg (hb 2 (by omega))]
def redF (T:Tab) (P:Pr) (ca:Ca):Rs×Pr:=
 if (ca.a<0∨3≤ca.a)∨(P.fd ca.a.toNat).node=0∨(P.fd ca.a.toNat).rd=false then (tol 9,P)
 else (⟨(readF T (P.fd ca.a.toNat).node (P.fd ca.a.toNat).off ca.b).2,0,sta0,[],[],(readF T (P.fd ca.a.toNat).node (P.fd ca.a.toNat).off ca.b).1⟩,
  P.put ca.a.toNat ⟨(P.fd ca.a.toNat).node,IntKind.i64.wrap ((P.fd ca.a.toNat).off+(readF T (P.fd ca.a.toNat).node (P.fd ca.a.toNat).off ca.b).1.length),(P.fd ca.a.toNat).rd,(P.fd ca.a.toNat).wr⟩)
theorem c71 (ks kt kb:Nat) (T:Tab) (ps:List Pr) (h:List Blk) (live:List Nat) (hy:SysAt h ks kt kb T ps) (kp:Nat) (P:Pr) (ca:Ca) (hkp:h[kp]? = some (.cells (prC P))) (hne:kt≠kp) (hgs:P.c.gs.length≤17592186044416) (hpath:ca.path.length≤1000):ACalls Tryz.prog 71 [.ptr ks 0,.ptr kp 0,.agg (caC ca)] h live (ret (.agg (rsC (opnF T P ca).1)) (sysH h kt kp (opnF T P ca).2.1 (opnF T P ca).2.2) live):=by
 refine aq_ Tryz.func71 fun hH hX=>?_
 have hks:=hy.s
 have hkt:=hy.t
 have hkl:=lt_of_get hks
 have hktl:=lt_of_get hkt
 have hkpl:=lt_of_get hkp
 have hpq:=fun g:List Blk=>atApp (g:=g) hkp
 have hksg:=fun g:List Blk=>atApp (g:=g) hks
 have hs1:∀(y:Blk) (g:List Blk),(h++g).set kt y=h.set kt y++g:=fun y g=>setApp hkt
 have hsl:∀y:Blk,(h.set kt y).length=h.length:=fun y=>List.length_set ..
 have hk3:∀x:Blk,(h.set kt x)[kp]? = some (.cells (prC P)):=fun x=>getSet hkp (Ne.symm hne)
 have hk4:∀(x:Blk) (g:List Blk),(h.set kt x++g)[kp]? = some (.cells (prC P)):=fun x g=>atApp (hk3 x)
 have hs5:∀(x y:Blk) (g:List Blk),(h.set kt x++g).set kp y=(h.set kt x).set kp y++g:=fun x y g=>setApp (hk3 x)
 have hg5:=fun x y l j=>get_set2 h kt kp x y l j
 have hg6:=fun x y z l j=>set_set2 h kt kp x y z l j
 have hB:HCl (h++[.cells (caC ca),.cells [.int .i64 0,.int .i64 0,.int .i64 0,.int .i64 0,.int .i64 0,.int .i64 0,.int .i64 0,.int .i64 0,.int .i64 0,.str [],.slice [] .full,.slice [] .full]]):=by
  have:=HCl.snoc (HCl.snoc (b:=.cells (caC ca)) hH (by simp [caC,Blk.cl,AV.cl,AV.clL,clL_bV, -List.map_map])) (b:=.cells [.int .i64 0,.int .i64 0,.int .i64 0,.int .i64 0,.int .i64 0,.int .i64 0,.int .i64 0,.int .i64 0,.int .i64 0,.str [],.slice [] .full,.slice [] .full]) (by simp [Blk.cl,AV.cl,AV.clL])
  rw [List.append_assoc] at this;exact this
 have sx:=(And.intro @hpq (And.intro @hksg (And.intro @hs1 (And.intro @hsl (And.intro @hk3 (And.intro @hk4 (And.intro @hs5 (And.intro @hg5 (And.intro @hg6 sx0)))))))))
 refine rg_ [0,1,5,6] ?_
 refine sk_ fun K1 hK1=>?_
 refine rg_ [0,1,5,6,10] ?_
 refine awp_block ?_
 refine lp_ (X:={i:Nat // i≤3∧∀j,j<i→(P.fd j).node≠0}) (fun x=>⟨Tryz.f71.ntmps,fget [(0,.ptr ks 0),(1,.ptr kp 0),(5,.ptr h.length 0),(6,.ptr (h.length+1) 0),(10,.int .i64 (x.1:Nat))],h++[.cells (caC ca),.cells [.int .i64 0,.int .i64 0,.int .i64 0,.int .i64 0,.int .i64 0,.int .i64 0,.int .i64 0,.int .i64 0,.int .i64 0,.str [],.slice [] .full,.slice [] .full]],live⟩) (fun x=>3 - x.1) (⟨0,by omega,fun j hj=>by omega⟩) ?_ (fun ⟨i,hi,hb⟩=>?_)
 ·
  try dsimp only
  exact tf_ hB (fun _ h=>h)
 try dsimp only
 refine rg_ [0,1,5,6,10,11] ?_
 refine sk_ fun K2 hK2=>?_
 refine cx_ (fun hb1=>?_) (fun hb1=>?_)
 rotate_left
 ·
  have hie:i=3:=by omega
  subst hie
  have hno:=opnF_no (T:=T) (ca:=ca) hb
  refine awp_exit (up_ ?_)
  refine hK1 _ ?_
  refine rs_ [6] ?_
  refine cl_ (hc:=c70 _ _ _) (k:=?_)
  refine srt_ ?_
  refine gq_ (h1:=sysH h kt kp T P) Tryz.results71 ?_ (hh:=(by rw [sysH_self hkt hkp];exact ⟨_,rfl⟩)) (hH:=(sysH_cl hH _ _ _ _)) (hle:=(Nat.le_of_eq (sysH_len _ _ _ _ _).symm))
  exact ⟨by rw [hno],by rw [hno],rfl⟩
 have hi3:i<3:=by omega
 have hq0:=prC_el P (i:=i) (q:=0) hi3 (by omega)
 have hpf:=prC_put P hi3
 have sx:=And.intro hq0 (And.intro hpf sx)
 refine skp_ ?_
 refine hK2 _ ?_
 refine sk_ fun K3 hK3=>?_
 refine awp_block ?_
 refine rg_ [0,1,5,6,7,10] ?_
 refine sk_ fun K4 hK4=>?_
 refine rg_ [0,1,5,6,7,10,20] ?_
 refine cx_ (fun hb2=>?_) (fun hb2=>?_)
 ·
  refine awp_exit (up_ ?_)
  refine hK3 _ ?_
  refine rt_ [0,1,5,6,10] ?_
  refine srn_ ?_
  refine ln_ ⟨i+1,by omega,fun j hj=>by rcases Nat.lt_succ_iff_lt_or_eq.1 hj with h | h;exact hb j h;subst h;exact hb2⟩ ?_
  try dsimp only
  exact tf_ hB (fun _ h=>h)
 have hat:=opnF_at (T:=T) (ca:=ca) hi3 hb hb2
 refine skp_ ?_
 refine hK4 _ ?_
 refine rsq_ [1,5,6,7,8,9] ⟨false,[],[],[],[],[],0⟩ (fun _=>⟨by kernel_rfl,by kernel_rfl⟩) ?_
 refine sg_ ?_
 refine cl_ (hc:=c104 T kt P.c P.um ca.path ca.a ca.b _ _ (atApp hkt) hy.ok (by omega) hy.rt (by omega)) (k:=?_)
 refine sre_ ?_
 refine sk_ fun K5 hK5=>?_
 refine rg_ [1,5,6,7,8,9,44] ?_
 refine cx_ (fun hb3=>?_) (fun hb3=>?_)
 ·
  refine rs_ [6] ?_
  refine sg_ ?_
  refine cl_ (hc:=c70 _ _ _) (k:=?_)
  refine srt_ ?_
  refine gq_ (h1:=sysH h kt kp _ P) Tryz.results71 ?_ (hh:=(by rw [sysH_tab _ hkp hne];exact ⟨_,rfl⟩)) (hH:=(sysH_cl hH _ _ _ _)) (hle:=(Nat.le_of_eq (sysH_len _ _ _ _ _).symm))
  exact ⟨by rw [hat];unfold opnAt;rw [if_pos hb3],by rw [hat];unfold opnAt;rw [if_pos hb3],rfl⟩
 refine skp_ ?_
 refine hK5 _ ?_
 refine rsq_ [6,7] ⟨true,[],[],[],[],[],0⟩ (fun _=>⟨by kernel_rfl,by kernel_rfl⟩) ?_
 refine sre_ ?_
 refine rg_ [6] ?_
 refine ret_ ?_
 refine gq_ (h1:=sysH h kt kp _ _) Tryz.results71 ?_ (hh:=(⟨_,rfl⟩)) (hH:=(sysH_cl hH _ _ _ _)) (hle:=(Nat.le_of_eq (sysH_len _ _ _ _ _).symm))
 exact ⟨by rw [hat];unfold opnAt;rw [if_neg (fun h=>h hb3)];rfl,by rw [hat];unfold opnAt;rw [if_neg (fun h=>h hb3)];rfl,rfl⟩
end Go.Proofs.YtmgnbgniikjhdaaGreat
namespace Go.Proofs.YtmgnbgniikjhdaaGreat
open Go.Ab
set_option maxRecDepth 8000
set_option maxHeartbeats 400000
theorem prC_off (P:Pr) {i:Nat} (hi:i<3) (b:Int):(prC P).set (4+i*4+1) (.int .i64 b)=prC (P.put i ⟨(P.fd i).node,b,(P.fd i).rd,(P.fd i).wr⟩):=by
 rcases (show i=0∨i=1∨i=2 by omega) with rfl | rfl | rfl<;>rfl
theorem redF_y {T:Tab} {P:Pr} {ca:Ca} {i:Nat} (hca:ca.a=(i:Int)) (hi:i<3):redF T P ca=if (P.fd i).node=0∨(P.fd i).rd=false then (tol 9,P)
 else (⟨(readF T (P.fd i).node (P.fd i).off ca.b).2,0,sta0,[],[],(readF T (P.fd i).node (P.fd i).off ca.b).1⟩,
  P.put i ⟨(P.fd i).node,IntKind.i64.wrap ((P.fd i).off+(readF T (P.fd i).node (P.fd i).off ca.b).1.length),(P.fd i).rd,(P.fd i).wr⟩):=by
 unfold redF
 rw [hca,Int.toNat_natCast]
 by_cases h:(P.fd i).node=0∨(P.fd i).rd=false
 · rw [if_pos h,if_pos (.inr h)]
 · rw [if_neg h,if_neg (by rintro (h1 | h1);omega;exact h h1)]
def wriF (T:Tab) (P:Pr) (ca:Ca):Rs×Tab×Pr:=
 if (ca.a<0∨3≤ca.a)∨(P.fd ca.a.toNat).node=0∨(P.fd ca.a.toNat).wr=false then (tol 9,T,P)
 else if (writeAtF T P.c (P.fd ca.a.toNat).node (P.fd ca.a.toNat).off ca.data).1≠0 then (tol (writeAtF T P.c (P.fd ca.a.toNat).node (P.fd ca.a.toNat).off ca.data).1,(writeAtF T P.c (P.fd ca.a.toNat).node (P.fd ca.a.toNat).off ca.data).2,P)
 else (⟨0,ca.data.length,sta0,[],[],[]⟩,(writeAtF T P.c (P.fd ca.a.toNat).node (P.fd ca.a.toNat).off ca.data).2,
  P.put ca.a.toNat ⟨(P.fd ca.a.toNat).node,IntKind.i64.wrap ((P.fd ca.a.toNat).off+ca.data.length),(P.fd ca.a.toNat).rd,(P.fd ca.a.toNat).wr⟩)
theorem wriF_y {T:Tab} {P:Pr} {ca:Ca} {i:Nat} (hca:ca.a=(i:Int)) (hi:i<3):wriF T P ca=if (P.fd i).node=0∨(P.fd i).wr=false then (tol 9,T,P)
 else if (writeAtF T P.c (P.fd i).node (P.fd i).off ca.data).1≠0 then (tol (writeAtF T P.c (P.fd i).node (P.fd i).off ca.data).1,(writeAtF T P.c (P.fd i).node (P.fd i).off ca.data).2,P)
 else (⟨0,ca.data.length,sta0,[],[],[]⟩,(writeAtF T P.c (P.fd i).node (P.fd i).off ca.data).2,P.put i ⟨(P.fd i).node,IntKind.i64.wrap ((P.fd i).off+ca.data.length),(P.fd i).rd,(P.fd i).wr⟩):=by
 unfold wriF
 rw [hca,Int.toNat_natCast]
 by_cases h:(P.fd i).node=0∨(P.fd i).wr=false
 · rw [if_pos h,if_pos (.inr h)]
 · rw [if_neg h,if_neg (by rintro (h1 | h1);omega;exact h h1)]
theorem n72 (s:AV) (kp:Nat) (ca:Ca) (h:List Blk) (live:List Nat) (hkp:kp<h.length) (hi:ca.a<0∨3≤ca.a):AC Tryz.prog 72 [s,.ptr kp 0,.agg (caC ca)] h live (.agg (rsC (tol 9))):=by
 refine aq_ Tryz.func72 fun hH hX=>?_
 refine rg_ [0,1,5,6] ?_
 refine rs_ [0,5,6,7] ?_
 refine sg_ ?_
 refine cl_ (hc:=n105 kp _ _ _ (by simp;omega) hi) (k:=?_)
 refine sre_ ?_
 refine sk_ fun K1 hK1=>?_
 refine rs_ [0,5,6,7,29] ?_
 refine dp_ ?_
 refine dp_ ?_
 refine dp_ ?_
 iterate 5 (refine dawp_skip rfl rfl rfl ?_)
 refine dp_ ?_
 refine dp_ ?_
 iterate 5 (refine dawp_skip rfl rfl rfl ?_)
 refine sre_ ?_
 refine cdy_ (ht:=fun hb1=>?_) (hf:=fun hb1=>?_)
 ·
  refine rs_ [6] ?_
  refine cl_ (hc:=c70 _ _ _) (k:=?_)
  refine srt_ ?_
  refine fq_ Tryz.results72 ?_
  exact rk_ rfl
 exfalso
 simp at hb1
theorem n73 (s:AV) (kp:Nat) (ca:Ca) (h:List Blk) (live:List Nat) (hkp:kp<h.length) (hi:ca.a<0∨3≤ca.a):AC Tryz.prog 73 [s,.ptr kp 0,.agg (caC ca)] h live (.agg (rsC (tol 9))):=by
 refine aq_ Tryz.func73 fun hH hX=>?_
 refine rg_ [0,1,5,6] ?_
 refine rs_ [0,1,5,6,7] ?_
 refine sg_ ?_
 refine cl_ (hc:=n105 kp _ _ _ (by simp;omega) hi) (k:=?_)
 refine sre_ ?_
 refine sk_ fun K1 hK1=>?_
 refine rs_ [0,1,5,6,7,28] ?_
 refine dp_ ?_
 refine dp_ ?_
 refine dp_ ?_
 iterate 5 (refine dawp_skip rfl rfl rfl ?_)
 refine dp_ ?_
 refine dp_ ?_
 iterate 5 (refine dawp_skip rfl rfl rfl ?_)
 refine sre_ ?_
 refine cdy_ (ht:=fun hb1=>?_) (hf:=fun hb1=>?_)
 ·
  refine rs_ [6] ?_
  refine cl_ (hc:=c70 _ _ _) (k:=?_)
  refine srt_ ?_
  refine fq_ Tryz.results73 ?_
  exact rk_ rfl
 exfalso
 simp at hb1
theorem y72 (ks kt kb:Nat) (T:Tab) (ps:List Pr) (h:List Blk) (live:List Nat) (hy:SysAt h ks kt kb T ps) (kp:Nat) (P:Pr) (ca:Ca) (hkp:h[kp]? = some (.cells (prC P))) (hne:kt≠kp) (i:Nat) (hca:ca.a=(i:Int)) (hi:i<3):ACalls Tryz.prog 72 [.ptr ks 0,.ptr kp 0,.agg (caC ca)] h live (ret (.agg (rsC (redF T P ca).1)) (h.set kp (.cells (prC (redF T P ca).2))) live):=by
 refine aq_ Tryz.func72 fun hH hX=>?_
 have hks:=hy.s
 have hkt:=hy.t
 have hkl:=lt_of_get hks
 have hktl:=lt_of_get hkt
 have hkpl:=lt_of_get hkp
 have hpq:=fun g:List Blk=>atApp (g:=g) hkp
 have hksg:=fun g:List Blk=>atApp (g:=g) hks
 have hs1:∀(y:Blk) (g:List Blk),(h++g).set kt y=h.set kt y++g:=fun y g=>setApp hkt
 have hs2:∀(y:Blk) (g:List Blk),(h++g).set kp y=h.set kp y++g:=fun y g=>setApp hkp
 have hsl:∀y:Blk,(h.set kt y).length=h.length:=fun y=>List.length_set ..
 have hk3:∀x:Blk,(h.set kt x)[kp]? = some (.cells (prC P)):=fun x=>getSet hkp (Ne.symm hne)
 have hk4:∀(x:Blk) (g:List Blk),(h.set kt x++g)[kp]? = some (.cells (prC P)):=fun x g=>atApp (hk3 x)
 have hs5:∀(x y:Blk) (g:List Blk),(h.set kt x++g).set kp y=(h.set kt x).set kp y++g:=fun x y g=>setApp (hk3 x)
 have hg5:=fun x y l j=>get_set2 h kt kp x y l j
 have hg6:=fun x y z l j=>set_set2 h kt kp x y z l j
 have hg7:=fun x y l=>get_set2 h kt kp x y l 0
 simp only [Nat.add_zero] at hg7
 have hq0:=prC_el P (i:=i) (q:=0) hi (by omega)
 have hq1:=prC_el P (i:=i) (q:=1) hi (by omega)
 have hq2:=prC_el P (i:=i) (q:=2) hi (by omega)
 have hq3:=prC_el P (i:=i) (q:=3) hi (by omega)
 have hpo:=prC_off P hi
 have sx:=(And.intro @hpq (And.intro @hksg (And.intro @hs1 (And.intro @hs2 (And.intro @hsl (And.intro @hk3 (And.intro @hk4 (And.intro @hs5 (And.intro @hg5 (And.intro @hg6 (And.intro @hg7 (And.intro @hca (And.intro @hq0 (And.intro @hq1 (And.intro @hq2 (And.intro @hq3 (And.intro @hpo sx0)))))))))))))))))
 refine rg_ [0,1,5,6] ?_
 refine rs_ [0,5,6,7] ?_
 refine sg_ ?_
 refine cl_ (hc:=c105 kp i _ _ (by simp;omega) hi) (k:=?_)
 refine sre_ ?_
 refine sk_ fun K1 hK1=>?_
 refine rg_ [0,5,6,7,29] ?_
 refine cx_ (fun hb1=>?_) (fun hb1=>?_)
 ·
  refine rs_ [6] ?_
  refine cl_ (hc:=c70 _ _ _) (k:=?_)
  refine srt_ ?_
  refine gq_ (h1:=h) Tryz.results72 ?_ (hcl:=(by simp [AV.cl,AV.clL,clL_bV,clL_rsC, -List.map_map])) (hh:=(⟨_,rfl⟩)) (hH:=(by first | exact hH | exact HCl.set hH kp (clL_prC _ _)))
  exact ⟨by rw [redF_y hca hi,if_pos hb1],by rw [redF_y hca hi,if_pos hb1];exact set_self hkp,rfl⟩
 refine skp_ ?_
 refine hK1 _ ?_
 refine rsq_ [6,7,8,9] ⟨true,[],[],[],[],[],0⟩ (fun _=>⟨by kernel_rfl,by kernel_rfl⟩) ?_
 refine sg_ ?_
 refine cr_ (hc:=c106 T kt _ _ _ _ _ (atApp hkt) hy.ok) (k:=?_)
 refine sre_ ?_
 refine rg_ [6,8,9] ?_
 refine rg_ [6] ?_
 refine ret_ ?_
 refine gq_ (h1:=h.set kp _) Tryz.results72 ?_ (hcl:=(by simp [AV.cl,AV.clL,clL_bV,clL_rsC, -List.map_map])) (hh:=(⟨_,rfl⟩)) (hH:=(by first | exact hH | exact HCl.set hH kp (clL_prC _ _)))
 exact ⟨by rw [redF_y hca hi,if_neg (by rintro (h | h);exact hb1.1 h;rw [hb1.2] at h;cases h)]<;>rfl,by rw [redF_y hca hi,if_neg (by rintro (h | h);exact hb1.1 h;rw [hb1.2] at h;cases h)]<;>rfl,rfl⟩
theorem y73 (ks kt kb:Nat) (T:Tab) (ps:List Pr) (h:List Blk) (live:List Nat) (hy:SysAt h ks kt kb T ps) (kp:Nat) (P:Pr) (ca:Ca) (hkp:h[kp]? = some (.cells (prC P))) (hne:kt≠kp) (hgs:P.c.gs.length≤17592186044416) (hdat:ca.data.length≤1000) (i:Nat) (hca:ca.a=(i:Int)) (hi:i<3):ACalls Tryz.prog 73 [.ptr ks 0,.ptr kp 0,.agg (caC ca)] h live (ret (.agg (rsC (wriF T P ca).1)) (sysH h kt kp (wriF T P ca).2.1 (wriF T P ca).2.2) live):=by
 refine aq_ Tryz.func73 fun hH hX=>?_
 have hks:=hy.s
 have hkt:=hy.t
 have hkl:=lt_of_get hks
 have hktl:=lt_of_get hkt
 have hkpl:=lt_of_get hkp
 have hpq:=fun g:List Blk=>atApp (g:=g) hkp
 have hksg:=fun g:List Blk=>atApp (g:=g) hks
 have hs1:∀(y:Blk) (g:List Blk),(h++g).set kt y=h.set kt y++g:=fun y g=>setApp hkt
 have hs2:∀(y:Blk) (g:List Blk),(h++g).set kp y=h.set kp y++g:=fun y g=>setApp hkp
 have hsl:∀y:Blk,(h.set kt y).length=h.length:=fun y=>List.length_set ..
 have hk3:∀x:Blk,(h.set kt x)[kp]? = some (.cells (prC P)):=fun x=>getSet hkp (Ne.symm hne)
 have hk4:∀(x:Blk) (g:List Blk),(h.set kt x++g)[kp]? = some (.cells (prC P)):=fun x g=>atApp (hk3 x)
 have hs5:∀(x y:Blk) (g:List Blk),(h.set kt x++g).set kp y=(h.set kt x).set kp y++g:=fun x y g=>setApp (hk3 x)
 have hg5:=fun x y l j=>get_set2 h kt kp x y l j
 have hg6:=fun x y z l j=>set_set2 h kt kp x y z l j
 have hg7:=fun x y l=>get_set2 h kt kp x y l 0
 simp only [Nat.add_zero] at hg7
 have hq0:=prC_el P (i:=i) (q:=0) hi (by omega)
 have hq1:=prC_el P (i:=i) (q:=1) hi (by omega)
 have hq2:=prC_el P (i:=i) (q:=2) hi (by omega)
 have hq3:=prC_el P (i:=i) (q:=3) hi (by omega)
 have hpo:=prC_off P hi
 have sx:=(And.intro @hpq (And.intro @hksg (And.intro @hs1 (And.intro @hs2 (And.intro @hsl (And.intro @hk3 (And.intro @hk4 (And.intro @hs5 (And.intro @hg5 (And.intro @hg6 (And.intro @hg7 (And.intro @hca (And.intro @hq0 (And.intro @hq1 (And.intro @hq2 (And.intro @hq3 (And.intro @hpo sx0)))))))))))))))))
 refine rg_ [0,1,5,6] ?_
 refine rs_ [0,1,5,6,7] ?_
 refine sg_ ?_
 refine cl_ (hc:=c105 kp i _ _ (by simp;omega) hi) (k:=?_)
 refine sre_ ?_
 refine sk_ fun K1 hK1=>?_
 refine rg_ [0,1,5,6,7,28] ?_
 refine cx_ (fun hb1=>?_) (fun hb1=>?_)
 ·
  refine rs_ [6] ?_
  refine cl_ (hc:=c70 _ _ _) (k:=?_)
  refine srt_ ?_
  refine gq_ (h1:=sysH h kt kp T P) Tryz.results73 ?_ (hh:=(by rw [sysH_self hkt hkp];exact ⟨_,rfl⟩)) (hH:=(sysH_cl hH _ _ _ _)) (hle:=(Nat.le_of_eq (sysH_len _ _ _ _ _).symm))
  exact ⟨by rw [wriF_y hca hi,if_pos hb1]<;>rfl,by rw [wriF_y hca hi,if_pos hb1]<;>rfl,rfl⟩
 refine skp_ ?_
 refine hK1 _ ?_
 refine sk_ fun K2 hK2=>?_
 refine rsq_ [5,6,7,8] ⟨false,[],[],[],[],[],0⟩ (fun _=>⟨by kernel_rfl,by kernel_rfl⟩) ?_
 refine sg_ ?_
 refine cl_ (hc:=c107 T kt P.c _ _ ca.data _ _ _ (atApp hkt) hy.ok (by omega) (by omega)) (k:=?_)
 refine sre_ ?_
 refine rg_ [5,6,7,8,50] ?_
 refine cx_ (fun hb2=>?_) (fun hb2=>?_)
 ·
  refine rs_ [6] ?_
  refine sg_ ?_
  refine cl_ (hc:=c70 _ _ _) (k:=?_)
  refine srt_ ?_
  refine gq_ (h1:=sysH h kt kp _ P) Tryz.results73 ?_ (hh:=(by rw [sysH_tab _ hkp hne];exact ⟨_,rfl⟩)) (hH:=(sysH_cl hH _ _ _ _)) (hle:=(Nat.le_of_eq (sysH_len _ _ _ _ _).symm))
  exact ⟨by rw [wriF_y hca hi,if_neg (by rintro (h | h);exact hb1.1 h;rw [hb1.2] at h;cases h),if_pos hb2]<;>rfl,by rw [wriF_y hca hi,if_neg (by rintro (h | h);exact hb1.1 h;rw [hb1.2] at h;cases h),if_pos hb2]<;>rfl,rfl⟩
 refine skp_ ?_
 refine hK2 _ ?_
 refine rsq_ [5,6] ⟨true,[],[],[],[],[],0⟩ (fun _=>⟨by kernel_rfl,by kernel_rfl⟩) ?_
 refine sre_ ?_
 refine rg_ [6] ?_
 refine ret_ ?_
 refine gq_ (h1:=sysH h kt kp _ _) Tryz.results73 ?_ (hh:=(⟨_,rfl⟩)) (hH:=(sysH_cl hH _ _ _ _)) (hle:=(Nat.le_of_eq (sysH_len _ _ _ _ _).symm))
 exact ⟨by rw [wriF_y hca hi,if_neg (by rintro (h | h);exact hb1.1 h;rw [hb1.2] at h;cases h),if_neg (fun h=>h hb2)]<;>rfl,by rw [wriF_y hca hi,if_neg (by rintro (h | h);exact hb1.1 h;rw [hb1.2] at h;cases h),if_neg (fun h=>h hb2)]<;>rfl,rfl⟩
end Go.Proofs.YtmgnbgniikjhdaaGreat
namespace Go.Proofs.YtmgnbgniikjhdaaGreat
open Go.Ab
set_option maxRecDepth 8000
set_option maxHeartbeats 400000
theorem SysAt.put {h:List Blk} {ks kt kb:Nat} {T:Tab} {ps:List Pr} (hs:SysAt h ks kt kb T ps) {pid:Nat} {P P':Pr} (hpid:pid<ps.length) (hP:ps[pid]=P) (hc:P'.c=P.c):SysAt (h.set (kb+2*pid) (.cells (prC P'))) ks kt kb T (ps.set pid P') where
 s:=by rw [List.length_set];exact getSet hs.s (by have:=hs.sb;omega)
 t:=getSet hs.t (by have:=hs.tb;omega)
 p:=fun i hi=>by
  rw [List.length_set] at hi
  rw [List.getElem_set]
  split
  · rename_i e;subst e;exact get_setk (lt_of_get (hs.p pid hpid))
  · exact getSet (hs.p i hi) (by omega)
 st:=hs.st
 sb:=hs.sb
 tb:=hs.tb
 ok:=hs.ok
 rt:=hs.rt
 gs:=fun Q hQ=>by
  rcases List.mem_or_eq_of_mem_set hQ with h | h
  · exact hs.gs Q h
  · rw [h,hc,←hP];exact hs.gs _ (List.getElem_mem hpid)
 few:=by rw [List.length_set];exact hs.few
theorem SysAt.tab {h:List Blk} {ks kt kb:Nat} {T T':Tab} {ps:List Pr} (hs:SysAt h ks kt kb T ps) (hok:T'.Ok) (hrt:T'.Rt):SysAt (h.set kt (tabBlk T')) ks kt kb T' ps where
 s:=getSet hs.s hs.st
 t:=get_setk (lt_of_get hs.t)
 p:=fun i hi=>getSet (hs.p i hi) (by have:=hs.tb;omega)
 st:=hs.st
 sb:=hs.sb
 tb:=hs.tb
 ok:=hok
 rt:=hrt
 gs:=hs.gs
 few:=hs.few
theorem SysAt.next {h:List Blk} {ks kt kb:Nat} {T T':Tab} {ps:List Pr} (hs:SysAt h ks kt kb T ps) {pid:Nat} {P P':Pr} (hpid:pid<ps.length) (hP:ps[pid]=P) (hc:P'.c=P.c) (hok:T'.Ok) (hrt:T'.Rt):SysAt (sysH h kt (kb+2*pid) T' P') ks kt kb T' (ps.set pid P'):=
 (hs.tab hok hrt).put hpid hP hc
def shutF (T:Tab) (ps:List Pr) (pid:Nat) (P:Pr) (a:Int):Rs×Tab×Pr:=
 if (a<0∨3≤a)∨(P.fd a.toNat).node=0 then (tol 9,T,P)
 else (tol 0,(freeF T (P.fd a.toNat).node (openL (ps.set pid (P.put a.toNat fd0)))).2,P.put a.toNat fd0)
theorem shutF_y {T:Tab} {ps:List Pr} {pid:Nat} {P:Pr} {a:Int} {i:Nat} (hca:a=(i:Int)) (hi:i<3):shutF T ps pid P a=if (P.fd i).node=0 then (tol 9,T,P)
 else (tol 0,(freeF T (P.fd i).node (openL (ps.set pid (P.put i fd0)))).2,P.put i fd0):=by
 unfold shutF
 rw [hca,Int.toNat_natCast]
 by_cases h:(P.fd i).node=0
 · rw [if_pos h,if_pos (.inr h)]
 · rw [if_neg h,if_neg (by rintro (h1 | h1);omega;exact h h1)]
theorem put_c (P:Pr) (i:Nat) (f:Fde):(P.put i f).c=P.c:=by unfold Pr.put;split<;>rfl
theorem n74 (s:AV) (kp:Nat) (ca:Ca) (h:List Blk) (live:List Nat) (hkp:kp<h.length) (hi:ca.a<0∨3≤ca.a):AC Tryz.prog 74 [s,.ptr kp 0,.agg (caC ca)] h live (.agg (rsC (tol 9))):=by
 refine aq_ Tryz.func74 fun hH hX=>?_
 refine rg_ [0,1,5,6] ?_
 refine rs_ [0,6,7] ?_
 refine sg_ ?_
 refine cl_ (hc:=n105 kp _ _ _ (by simp;omega) hi) (k:=?_)
 refine sre_ ?_
 refine sk_ fun K1 hK1=>?_
 refine rs_ [0,6,7,21] ?_
 refine dp_ ?_
 refine dp_ ?_
 refine dp_ ?_
 iterate 5 (refine dawp_skip rfl rfl rfl ?_)
 refine sre_ ?_
 refine cdy_ (ht:=fun hb1=>?_) (hf:=fun hb1=>?_)
 ·
  refine rs_ [6] ?_
  refine cl_ (hc:=c70 _ _ _) (k:=?_)
  refine srt_ ?_
  refine fq_ Tryz.results74 ?_
  exact rk_ rfl
 exfalso
 simp at hb1
theorem y74 (ks kt kb:Nat) (T:Tab) (ps:List Pr) (h:List Blk) (live:List Nat) (hy:SysAt h ks kt kb T ps) (pid:Nat) (P:Pr) (hpid:pid<ps.length) (hP:ps[pid]=P) (ca:Ca) (i:Nat) (hca:ca.a=(i:Int)) (hi:i<3):ACalls Tryz.prog 74 [.ptr ks 0,.ptr (kb+2*pid) 0,.agg (caC ca)] h live (ret (.agg (rsC (shutF T ps pid P ca.a).1)) (sysH h kt (kb+2*pid) (shutF T ps pid P ca.a).2.1 (shutF T ps pid P ca.a).2.2) live):=by
 refine aq_ Tryz.func74 fun hH hX=>?_
 obtain ⟨kp,hkpe⟩:∃kp,kb+2*pid=kp:=⟨_,rfl⟩
 have hkp:h[kp]? = some (.cells (prC P)):=by have:=hy.p pid hpid;rw [hP,hkpe] at this;exact this
 have hne:kt≠kp:=by have:=hy.tb;omega
 simp only [hkpe]
 have hks:=hy.s
 have hkt:=hy.t
 have hkl:=lt_of_get hks
 have hktl:=lt_of_get hkt
 have hkpl:=lt_of_get hkp
 have hpq:=fun g:List Blk=>atApp (g:=g) hkp
 have hksg:=fun g:List Blk=>atApp (g:=g) hks
 have hs2:∀(y:Blk) (g:List Blk),(h++g).set kp y=h.set kp y++g:=fun y g=>setApp hkp
 have hsl:∀y:Blk,(h.set kp y).length=h.length:=fun y=>List.length_set ..
 have hk3:∀(x:Blk) (g:List Blk),(h.set kp x++g)[ks]? = some (.cells [.ptr kt 0,.slice (pB kb ps.length) .none]):=fun x g=>atApp (getSet hks (by have:=hy.sb;omega))
 have hk4:∀x:Blk,(h.set kp x)[kt]? = some (tabBlk T):=fun x=>getSet hkt hne
 have hs5:∀(x y:Blk) (g:List Blk),(h.set kp x++g).set kt y=(h.set kt y).set kp x++g:=fun x y g=>by rw [setApp (hk4 x),List.set_comm _ _ (Ne.symm hne)]
 have hg5:=fun x y l j=>get_set2 h kt kp x y l j
 have hg6:=fun x y z l j=>set_set2 h kt kp x y z l j
 have hol:=openL_len (ps.set pid (P.put i fd0))
 rw [List.length_set] at hol
 have hfw:=hy.few
 have hy1:=hy.put hpid hP (put_c P i fd0)
 rw [hkpe] at hy1
 have hq0:=prC_el P (i:=i) (q:=0) hi (by omega)
 have hpf:=prC_put P hi
 have sx:=(And.intro @hpq (And.intro @hksg (And.intro @hs2 (And.intro @hsl (And.intro @hk3 (And.intro @hs5 (And.intro @hg5 (And.intro @hg6 (And.intro @hca (And.intro @hq0 (And.intro @hpf sx0)))))))))))
 refine rg_ [0,1,5,6] ?_
 refine rs_ [0,6,7] ?_
 refine sg_ ?_
 refine cl_ (hc:=c105 kp i _ _ (by simp;omega) hi) (k:=?_)
 refine sre_ ?_
 refine sk_ fun K1 hK1=>?_
 refine rg_ [0,6,7,21] ?_
 refine cx_ (fun hb1=>?_) (fun hb1=>?_)
 ·
  refine rs_ [6] ?_
  refine cl_ (hc:=c70 _ _ _) (k:=?_)
  refine srt_ ?_
  refine gq_ (h1:=sysH h kt kp T P) Tryz.results74 ?_ (hh:=(by rw [sysH_self hkt hkp];exact ⟨_,rfl⟩)) (hH:=(sysH_cl hH _ _ _ _)) (hle:=(Nat.le_of_eq (sysH_len _ _ _ _ _).symm))
  exact ⟨by rw [shutF_y hca hi,if_pos hb1],by rw [shutF_y hca hi,if_pos hb1],rfl⟩
 refine skp_ ?_
 refine hK1 _ ?_
 refine rg_ [0,6,7,8] ?_
 refine rg_ [0,6,8] ?_
 refine rsq_ [6] ⟨false,[],[],[],[],[36],h.length⟩ (fun _=>⟨by kernel_rfl,by kernel_rfl⟩) ?_
 refine sg_ ?_
 refine ds_ (hc:=fun h' l' hs=>c20 ks kt kb T (ps.set pid (P.put i fd0)) h' l' (hy1.same fun k0 hk0=>by rw [hs k0 (by rw [List.length_set] at hk0;exact hk0)];exact List.getElem?_append_left hk0)) (k:=?_)
 refine cl_ (hc:=c108 T kt _ (openL (ps.set pid (P.put i fd0))) _ _ _ (atApp (hk4 _)) hy.ok (by omega)) (k:=?_)
 refine re_ ?_
 refine rg_ [6] ?_
 refine ret_ ?_
 refine gq_ (h1:=sysH h kt kp _ _) Tryz.results74 ?_ (hh:=(⟨_,rfl⟩)) (hH:=(sysH_cl hH _ _ _ _)) (hle:=(Nat.le_of_eq (sysH_len _ _ _ _ _).symm))
 exact ⟨by rw [shutF_y hca hi,if_neg hb1];rfl,by rw [shutF_y hca hi,if_neg hb1];rfl,rfl⟩
end Go.Proofs.YtmgnbgniikjhdaaGreat
namespace Go.Proofs.YtmgnbgniikjhdaaGreat
open Go.Ab
set_option maxRecDepth 8000
set_option maxHeartbeats 400000
theorem Tab.Rt.put {T:Tab} (h:T.Rt) {n:Nd} (hn:rightF n=true) (j:Nat):(T.put j n).Rt:=fun m hm hk=>by
 rcases List.mem_or_eq_of_mem_set hm with h1 | h1
 · exact h m h1 hk
 · rw [h1];exact hn
theorem Tab.Rt.add {T:Tab} (h:T.Rt) (n:Nd):(addT T n).2.Rt:=by
 unfold addT
 split
 · exact h
 ·
  rename_i hr
  split
  · exact h.put (by simpa using hr) _
  · exact h
theorem Tab.Rt.putT {T:Tab} (h:T.Rt) (i:Int) (n:Nd):(putT T i n).2.Rt:=by
 unfold Proofs.YtmgnbgniikjhdaaGreat.putT
 split
 · exact h
 ·
  split
  · exact h
  · rename_i hr;exact h.put (by simpa using hr) _
theorem Tab.Rt.drop {T:Tab} (h:T.Rt) (i:Int):(dropT T i).Rt:=by
 unfold dropT
 split
 · exact h
 ·
  intro m hm hk
  rcases List.mem_or_eq_of_mem_set hm with h1 | h1
  · exact h m h1 hk
  · rw [h1] at hk;exact absurd rfl hk
theorem c74 (ks kt kb:Nat) (T:Tab) (ps:List Pr) (h:List Blk) (live:List Nat) (hy:SysAt h ks kt kb T ps) (pid:Nat) (P:Pr) (hpid:pid<ps.length) (hP:ps[pid]=P) (ca:Ca):ACalls Tryz.prog 74 [.ptr ks 0,.ptr (kb+2*pid) 0,.agg (caC ca)] h live (ret (.agg (rsC (shutF T ps pid P ca.a).1)) (sysH h kt (kb+2*pid) (shutF T ps pid P ca.a).2.1 (shutF T ps pid P ca.a).2.2) live):=by
 by_cases hi:0≤ca.a∧ca.a<3
 · exact y74 ks kt kb T ps h live hy pid P hpid hP ca ca.a.toNat (by omega) (by omega)
 ·
  have hkp:=hy.p pid hpid
  rw [hP] at hkp
  have e:shutF T ps pid P ca.a=(tol 9,T,P):=by unfold shutF;rw [if_pos (.inl (by omega))]
  rw [e,sysH_self hy.t hkp]
  exact n74 _ _ ca h live (lt_of_get hkp) (by omega)
theorem freeF_ok {T:Tab} (hT:T.Ok) (i:Int) (o:List Int):(freeF T i o).2.Ok:=by
 unfold freeF;split
 · exact hT
 · exact dropT_ok hT i
theorem freeF_rt {T:Tab} (hR:T.Rt) (i:Int) (o:List Int):(freeF T i o).2.Rt:=by
 unfold freeF;split
 · exact hR
 · exact hR.drop i
theorem shutF_ok {T:Tab} {ps:List Pr} {pid:Nat} {P:Pr} {a:Int} (hT:T.Ok) (hR:T.Rt):(shutF T ps pid P a).2.1.Ok∧(shutF T ps pid P a).2.1.Rt∧(shutF T ps pid P a).2.2.c=P.c:=by
 unfold shutF;split
 · exact ⟨hT,hR,rfl⟩
 · exact ⟨freeF_ok hT _ _,freeF_rt hR _ _,put_c _ _ _⟩
attribute [simp] sysH_len
def shutN (T:Tab) (ps:List Pr) (pid:Nat) (P:Pr):Nat→Tab×Pr
 | 0=>(T,P)
 | n+1=>(shutF (shutN T ps pid P n).1 (ps.set pid (shutN T ps pid P n).2) pid (shutN T ps pid P n).2 (n:Nat)).2
theorem shutN_ok {T:Tab} {ps:List Pr} {pid:Nat} {P:Pr} (hT:T.Ok) (hR:T.Rt):∀n,(shutN T ps pid P n).1.Ok∧(shutN T ps pid P n).1.Rt∧(shutN T ps pid P n).2.c=P.c
 | 0=>⟨hT,hR,rfl⟩
 | n+1=>by
  obtain ⟨h1,h2,h3⟩:=shutN_ok (ps:=ps) (pid:=pid) (P:=P) hT hR n
  obtain ⟨k1,k2,k3⟩:=shutF_ok (ps:=ps.set pid (shutN T ps pid P n).2) (pid:=pid) (P:=(shutN T ps pid P n).2) (a:=(n:Nat)) h1 h2
  exact ⟨k1,k2,k3.trans h3⟩
theorem sysH_sysH (h g:List Blk) {kt kp:Nat} (hne:kt≠kp) (ht:kt<h.length) (hp:kp<h.length) (T T':Tab) (P P':Pr):sysH (sysH h kt kp T P++g) kt kp T' P'=sysH h kt kp T' P'++g:=by
 unfold sysH
 rw [List.set_append_left _ _ (by rw [List.length_set,List.length_set];exact ht),List.set_append_left _ _ (by rw [List.length_set,List.length_set,List.length_set];exact hp)]
 rw [List.set_comm _ _ (Ne.symm hne),List.set_set,List.set_set]
theorem c76 (ks kt kb:Nat) (T:Tab) (ps:List Pr) (h:List Blk) (live:List Nat) (hy:SysAt h ks kt kb T ps) (pid:Nat) (P:Pr) (hpid:pid<ps.length) (hP:ps[pid]=P) (ca:Ca):ACalls Tryz.prog 76 [.ptr ks 0,.ptr (kb+2*pid) 0,.agg (caC ca)] h live (ret (.agg (rsC (tol 0))) (sysH h kt (kb+2*pid) (shutN T ps pid P 3).1 (shutN T ps pid P 3).2) live):=by
 refine aq_ Tryz.func76 fun hH hX=>?_
 obtain ⟨kp,hkpe⟩:∃kp,kb+2*pid=kp:=⟨_,rfl⟩
 have hkp:h[kp]? = some (.cells (prC P)):=by have:=hy.p pid hpid;rw [hP,hkpe] at this;exact this
 have hne:kt≠kp:=by have:=hy.tb;omega
 simp only [hkpe]
 have hktl:=lt_of_get hy.t
 have hksl:=lt_of_get hy.s
 have hkpl:=lt_of_get hkp
 have hyN:∀i,SysAt (sysH h kt kp (shutN T ps pid P i).1 (shutN T ps pid P i).2) ks kt kb (shutN T ps pid P i).1 (ps.set pid (shutN T ps pid P i).2):=fun i=>by
  obtain ⟨h1,h2,h3⟩:=shutN_ok (ps:=ps) (pid:=pid) (P:=P) hy.ok hy.rt i
  have:=hy.next hpid hP h3 h1 h2;rw [hkpe] at this;exact this
 have hsH:=sysH_len h kt kp
 have hB:∀i,HCl (sysH h kt kp (shutN T ps pid P i).1 (shutN T ps pid P i).2++[.cells (caC ca),.cells [.int .i64 0,.int .i64 0,.int .i64 0,.int .i64 0,.int .i64 0,.int .i64 0,.int .i64 0,.int .i64 0,.int .i64 0,.str [],.slice [] .full,.slice [] .full]]):=fun i=>by
  have:=HCl.snoc (HCl.snoc (b:=.cells (caC ca)) (sysH_cl hH kt kp (shutN T ps pid P i).1 (shutN T ps pid P i).2) (by simp [caC,Blk.cl,AV.cl,AV.clL,clL_bV, -List.map_map])) (b:=.cells [.int .i64 0,.int .i64 0,.int .i64 0,.int .i64 0,.int .i64 0,.int .i64 0,.int .i64 0,.int .i64 0,.int .i64 0,.str [],.slice [] .full,.slice [] .full]) (by simp [Blk.cl,AV.cl,AV.clL])
  rw [List.append_assoc] at this;exact this
 have h00:sysH h kt kp (shutN T ps pid P 0).1 (shutN T ps pid P 0).2=h:=sysH_self hy.t hkp
 refine rg_ [0,1,6] ?_
 refine sk_ fun K1 hK1=>?_
 refine rg_ [0,1,6,8] ?_
 refine awp_block ?_
 refine lp_ (X:={i:Nat // i≤3}) (fun x=>⟨Tryz.f76.ntmps,fget [(0,.ptr ks 0),(1,.ptr kp 0),(6,.ptr (h.length+1) 0),(8,.int .i64 (x.1:Nat))],sysH h kt kp (shutN T ps pid P x.1).1 (shutN T ps pid P x.1).2++[.cells (caC ca),.cells [.int .i64 0,.int .i64 0,.int .i64 0,.int .i64 0,.int .i64 0,.int .i64 0,.int .i64 0,.int .i64 0,.int .i64 0,.str [],.slice [] .full,.slice [] .full]],live⟩) (fun x=>3 - x.1) (⟨0,by omega⟩) ?_ (fun ⟨i,hi⟩=>?_)
 ·
  try dsimp only
  refine Trunc.of (by first | (rw [h00,List.append_nil]) | (rw [sysH_sysH _ _ hne hktl hkpl,List.append_nil];rfl)) ?_ (hB _) (fun _ h=>h)
  refine ftc_ ?_ (hc:=by first | exact trivial | (simp [AV.cl,AV.clL,sysH_len];done) | (simp [AV.cl,AV.clL,sysH_len];omega))
  refine ftc_ ?_ (hc:=by first | exact trivial | (simp [AV.cl,AV.clL,sysH_len];done) | (simp [AV.cl,AV.clL,sysH_len];omega))
  refine ftc_ ?_ (hc:=by first | exact trivial | (simp [AV.cl,AV.clL,sysH_len];done) | (simp [AV.cl,AV.clL,sysH_len];omega))
  refine ftc_ ?_ (hc:=by first | exact trivial | (simp [AV.cl,AV.clL,sysH_len];done) | (simp [AV.cl,AV.clL,sysH_len];omega))
  exact FTr.nil
 try dsimp only
 refine rg_ [0,1,6,8,9] ?_
 refine sk_ fun K2 hK2=>?_
 refine cx_ (fun hb1=>?_) (fun hb1=>?_)
 rotate_left
 ·
  have hie:i=3:=by omega
  subst hie
  have hg8:∀l j,(sysH h kt kp (shutN T ps pid P 3).1 (shutN T ps pid P 3).2++l)[h.length+j]? = l[j]? := fun l j=>get_set2 h kt kp _ _ l j
  have hg9:∀l j z,(sysH h kt kp (shutN T ps pid P 3).1 (shutN T ps pid P 3).2++l).set (h.length+j) z=sysH h kt kp (shutN T ps pid P 3).1 (shutN T ps pid P 3).2++l.set j z:=fun l j z=>set_set2 h kt kp _ _ z l j
  have sx:=And.intro hg8 (And.intro hg9 sx)
  refine awp_exit (up_ ?_)
  refine hK1 _ ?_
  refine rg_ [6] ?_
  refine ret_ ?_
  refine gq_ (h1:=sysH h kt kp _ _) Tryz.results76 ?_ (hh:=(⟨_,rfl⟩)) (hH:=(sysH_cl hH _ _ _ _)) (hle:=(Nat.le_of_eq (sysH_len _ _ _ _ _).symm))
  exact rk_ rfl
 refine skp_ ?_
 refine hK2 _ ?_
 refine sk_ fun K3 hK3=>?_
 refine awp_block ?_
 refine rg_ [0,1,6,7,8] ?_
 refine rt_ [0,1,6,8] ?_
 refine sg_ ?_
 refine cl_ (hc:=erx_ (ys:=[.ptr ks 0,.ptr kp 0,.agg (caC ⟨0,[],[],(i:Nat),0,[]⟩)]) (by simp only [List.map_cons,List.map_nil,AV.er,AV.erL];rfl) (hkpe▸c74 ks kt kb _ _ _ _ (hyN i).app pid _ (by rw [List.length_set];exact hpid) (List.getElem_set_self _) ⟨0,[],[],(i:Nat),0,[]⟩)) (k:=?_)
 refine rn_ (up_ ?_)
 refine hK3 _ ?_
 refine rt_ [0,1,6,8] ?_
 refine srn_ ?_
 refine ⟨⟨i+1,by omega⟩,?_,(by simp [sysH_len]),by dsimp only;omega⟩
 try dsimp only
 refine Trunc.of (by first | (rw [h00,List.append_nil]) | (rw [sysH_sysH _ _ hne hktl hkpl,List.append_nil];rfl)) ?_ (hB _) (fun _ h=>h)
 refine ftc_ ?_ (hc:=by first | exact trivial | (simp [AV.cl,AV.clL,sysH_len];done) | (simp [AV.cl,AV.clL,sysH_len];omega))
 refine ftc_ ?_ (hc:=by first | exact trivial | (simp [AV.cl,AV.clL,sysH_len];done) | (simp [AV.cl,AV.clL,sysH_len];omega))
 refine ftc_ ?_ (hc:=by first | exact trivial | (simp [AV.cl,AV.clL,sysH_len];done) | (simp [AV.cl,AV.clL,sysH_len];omega))
 refine ftc_ ?_ (hc:=by first | exact trivial | (simp [AV.cl,AV.clL,sysH_len];done) | (simp [AV.cl,AV.clL,sysH_len];omega))
 exact FTr.nil
end Go.Proofs.YtmgnbgniikjhdaaGreat
namespace Go.Proofs.YtmgnbgniikjhdaaGreat
open Go.Ab
set_option maxRecDepth 8000
set_option maxHeartbeats 400000
theorem c72 (ks kt kb:Nat) (T:Tab) (ps:List Pr) (h:List Blk) (live:List Nat) (hy:SysAt h ks kt kb T ps) (pid:Nat) (P:Pr) (hpid:pid<ps.length) (hP:ps[pid]=P) (ca:Ca):ACalls Tryz.prog 72 [.ptr ks 0,.ptr (kb+2*pid) 0,.agg (caC ca)] h live (ret (.agg (rsC (redF T P ca).1)) (h.set (kb+2*pid) (.cells (prC (redF T P ca).2))) live):=by
 have hkp:=hy.p pid hpid
 rw [hP] at hkp
 by_cases hi:0≤ca.a∧ca.a<3
 · exact y72 ks kt kb T ps h live hy _ P ca hkp (by have:=hy.tb;omega) ca.a.toNat (by omega) (by omega)
 ·
  have e:redF T P ca=(tol 9,P):=by unfold redF;rw [if_pos (.inl (by omega))]
  rw [e,set_self hkp]
  exact n72 _ _ ca h live (lt_of_get hkp) (by omega)
theorem c73 (ks kt kb:Nat) (T:Tab) (ps:List Pr) (h:List Blk) (live:List Nat) (hy:SysAt h ks kt kb T ps) (pid:Nat) (P:Pr) (hpid:pid<ps.length) (hP:ps[pid]=P) (ca:Ca) (hdat:ca.data.length≤1000):ACalls Tryz.prog 73 [.ptr ks 0,.ptr (kb+2*pid) 0,.agg (caC ca)] h live (ret (.agg (rsC (wriF T P ca).1)) (sysH h kt (kb+2*pid) (wriF T P ca).2.1 (wriF T P ca).2.2) live):=by
 have hkp:=hy.p pid hpid
 have hg:=hy.gs _ (List.getElem_mem hpid)
 rw [hP] at hkp hg
 by_cases hi:0≤ca.a∧ca.a<3
 · exact y73 ks kt kb T ps h live hy _ P ca hkp (by have:=hy.tb;omega) hg hdat ca.a.toNat (by omega) (by omega)
 ·
  have e:wriF T P ca=(tol 9,T,P):=by unfold wriF;rw [if_pos (.inl (by omega))]
  rw [e,sysH_self hy.t hkp]
  exact n73 _ _ ca h live (lt_of_get hkp) (by omega)
def doesL:List (AV×AV):=[(.int .i64 13,.fn (.func 71) [] []),(.int .i64 14,.fn (.func 72) [] []),(.int .i64 15,.fn (.func 73) [] []),(.int .i64 16,.fn (.func 74) [] []),(.int .i64 17,.fn (.func 75) [] []),(.int .i64 18,.fn (.func 76) [] [])]
theorem does_eq:(aput (.int .i64 18) (.fn (.func 76) [] []) (aput (.int .i64 17) (.fn (.func 75) [] []) (aput (.int .i64 16) (.fn (.func 74) [] []) (aput (.int .i64 15) (.fn (.func 73) [] []) (aput (.int .i64 14) (.fn (.func 72) [] []) (aput (.int .i64 13) (.fn (.func 71) [] []) []))))))=doesL:=by rfl
def stepF (T:Tab) (ps:List Pr) (pid:Nat) (P:Pr) (ca:Ca):Rs×Tab×Pr:=
 if ca.kind=13 then opnF T P ca
 else if ca.kind=14 then ((redF T P ca).1,T,(redF T P ca).2)
 else if ca.kind=15 then wriF T P ca
 else if ca.kind=16 then shutF T ps pid P ca.a
 else if ca.kind=17 then ((maskF P ca).1,T,(maskF P ca).2)
 else if ca.kind=18 then (tol 0,shutN T ps pid P 3)
 else if 1≤ca.kind∧ca.kind≤4 then (askF T P ca,T,P)
 else if 5≤ca.kind∧ca.kind≤12 then (tol (chaF T P ca (openL ps)).1,(chaF T P ca (openL ps)).2,P)
 else (tol 22,T,P)
theorem sysH_app (h g:List Blk) {kt kp:Nat} (ht:kt<h.length) (hp:kp<h.length) (T:Tab) (P:Pr):sysH (h++g) kt kp T P=sysH h kt kp T P++g:=by
 unfold sysH
 rw [List.set_append_left _ _ ht,List.set_append_left _ _ (by rw [List.length_set];exact hp)]
theorem six (f:FuncId) (r:Rs×Tab×Pr) (ks kt kb:Nat) (T:Tab) (ps:List Pr) (h:List Blk) (live:List Nat) (hy:SysAt h ks kt kb T ps) (pid:Nat) (P:Pr) (hpid:pid<ps.length) (hP:ps[pid]=P) (ca:Ca) (hpath:ca.path.length≤1000) (hdat:ca.data.length≤1000) (hk:13≤ca.kind∧ca.kind≤18) (hf:aget (.int .i64 ca.kind) doesL=some (.fn (.func f) [] [])) :
 ACalls Tryz.prog f [.ptr ks 0,.ptr (kb+2*pid) 0,.agg (caC ca)] h live (ret (.agg (rsC (stepF T ps pid P ca).1)) (sysH h kt (kb+2*pid) (stepF T ps pid P ca).2.1 (stepF T ps pid P ca).2.2) live):=by
 have hkp:=hy.p pid hpid
 have hg:=hy.gs _ (List.getElem_mem hpid)
 rw [hP] at hkp hg
 have hne:kt≠kb+2*pid:=by have:=hy.tb;omega
 rcases (show ca.kind=13∨ca.kind=14∨ca.kind=15∨ca.kind=16∨ca.kind=17∨ca.kind=18 by omega) with e | e | e | e | e | e
 ·
  rw [e] at hf;cases hf
  have es:stepF T ps pid P ca=opnF T P ca:=by unfold stepF;rw [if_pos e]
  rw [es];exact c71 ks kt kb T ps h live hy _ P ca hkp hne hg hpath
 ·
  rw [e] at hf;cases hf
  have es:stepF T ps pid P ca=((redF T P ca).1,T,(redF T P ca).2):=by unfold stepF;rw [if_neg (by omega),if_pos e]
  rw [es,sysH_pr _ hy.t];exact c72 ks kt kb T ps h live hy pid P hpid hP ca
 ·
  rw [e] at hf;cases hf
  have es:stepF T ps pid P ca=wriF T P ca:=by unfold stepF;rw [if_neg (by omega),if_neg (by omega),if_pos e]
  rw [es];exact c73 ks kt kb T ps h live hy pid P hpid hP ca hdat
 ·
  rw [e] at hf;cases hf
  have es:stepF T ps pid P ca=shutF T ps pid P ca.a:=by unfold stepF;rw [if_neg (by omega),if_neg (by omega),if_neg (by omega),if_pos e]
  rw [es];exact c74 ks kt kb T ps h live hy pid P hpid hP ca
 ·
  rw [e] at hf;cases hf
  have es:stepF T ps pid P ca=((maskF P ca).1,T,(maskF P ca).2):=by unfold stepF;rw [if_neg (by omega),if_neg (by omega),if_neg (by omega),if_neg (by omega),if_pos e]
  rw [es,sysH_pr _ hy.t];exact c75 _ h live _ P ca hkp
 ·
  rw [e] at hf;cases hf
  have es:stepF T ps pid P ca=(tol 0,shutN T ps pid P 3):=by unfold stepF;rw [if_neg (by omega),if_neg (by omega),if_neg (by omega),if_neg (by omega),if_neg (by omega),if_pos e]
  rw [es];exact c76 ks kt kb T ps h live hy pid P hpid hP ca
end Go.Proofs.YtmgnbgniikjhdaaGreat
namespace Go.Proofs.YtmgnbgniikjhdaaGreat
open Go.Ab
set_option maxRecDepth 8000
set_option maxHeartbeats 400000
theorem n43 (ks kt kb:Nat) (T:Tab) (ps:List Pr) (h:List Blk) (live:List Nat) (hy:SysAt h ks kt kb T ps) (pid:Int) (hp:pid<0∨(ps.length:Int)≤pid) (ca:Ca):AC Tryz.prog 43 [.ptr ks 0,.int .i64 pid,.agg (caC ca)] h live (.agg (rsC (tol 22))):=by
 refine aq_ Tryz.func43 fun hH hX=>?_
 refine rg_ [0,1,5,6] ?_
 refine rs_ [0,5,6,7] ?_
 refine sg_ ?_
 refine cl_ (hc:=n69 ks kt kb T ps _ _ hy.app pid hp) (k:=?_)
 refine sre_ ?_
 refine sk_ fun K1 hK1=>?_
 refine rg_ [0,5,6,7,15] ?_
 refine cdy_ (ht:=fun hb1=>?_) (hf:=fun hb1=>?_)
 ·
  refine rs_ [6] ?_
  refine cl_ (hc:=c70 _ _ _) (k:=?_)
  refine srt_ ?_
  refine fq_ Tryz.results43 ?_
  exact rk_ rfl
 exfalso;exact Bool.noConfusion hb1
theorem s43 (f:FuncId) (ks kt kb:Nat) (T:Tab) (ps:List Pr) (h:List Blk) (live:List Nat) (hy:SysAt h ks kt kb T ps) (pid:Nat) (P:Pr) (hpid:pid<ps.length) (hP:ps[pid]=P) (ca:Ca) (hpath:ca.path.length≤1000) (hoth:ca.other.length≤1000) (hdat:ca.data.length≤1000) (hk:13≤ca.kind∧ca.kind≤18) (hf:aget (.int .i64 ca.kind) doesL=some (.fn (.func f) [] [])):ACalls Tryz.prog 43 [.ptr ks 0,.int .i64 (pid:Nat),.agg (caC ca)] h live (ret (.agg (rsC (stepF T ps pid P ca).1)) (sysH h kt (kb+2*pid) (stepF T ps pid P ca).2.1 (stepF T ps pid P ca).2.2) live):=by
 refine aq_ Tryz.func43 fun hH hX=>?_
 obtain ⟨kp,hkpe⟩:∃kp,kb+2*pid=kp:=⟨_,rfl⟩
 have hkp:h[kp]? = some (.cells (prC P)):=by have:=hy.p pid hpid;rw [hP,hkpe] at this;exact this
 have hg:=hy.gs _ (List.getElem_mem hpid)
 rw [hP] at hg
 have hne:kt≠kp:=by have:=hy.tb;omega
 simp only [hkpe]
 have hkt:=hy.t
 have hktl:=lt_of_get hy.t
 have hksl:=lt_of_get hy.s
 have hkpl:=lt_of_get hkp
 have hpc:∀g:List Blk,ACalls Tryz.prog 69 [.ptr ks 0,.int .i64 (pid:Nat)] (h++g) live (ret (.ptr kp 0) (h++g) live):=fun g=>by rw [←hkpe];exact c69 ks kt kb T ps _ _ hy.app pid hpid
 have hsa:∀(g:List Blk) (T:Tab) (P:Pr),sysH (h++g) kt kp T P=sysH h kt kp T P++g:=fun g T P=>sysH_app h g hktl hkpl T P
 have hg8:∀(T:Tab) (P:Pr) (l:List Blk) (j:Nat),(sysH h kt kp T P++l)[h.length+j]? = l[j]? := fun T P l j=>get_set2 h kt kp _ _ l j
 have hg9:∀(T:Tab) (P:Pr) (l:List Blk) (j:Nat) (z:Blk),(sysH h kt kp T P++l).set (h.length+j) z=sysH h kt kp T P++l.set j z:=fun T P l j z=>set_set2 h kt kp _ _ z l j
 have hlk:∀m z,alookup m z true (.int .i64 ca.kind) doesL=.tup [.fn (.func f) [] [],.bool true]:=fun m z=>by unfold alookup;rw [hf];rfl
 have hsx:∀g:List Blk,ACalls Tryz.prog f [.ptr ks 0,.ptr kp 0,.agg (caC ca)] (h++g) live (ret (.agg (rsC (stepF T ps pid P ca).1)) (sysH (h++g) kt kp (stepF T ps pid P ca).2.1 (stepF T ps pid P ca).2.2) live):=fun g=>by rw [←hkpe];exact six f (tol 0,T,P) ks kt kb T ps _ _ hy.app pid P hpid hP ca hpath hdat hk hf
 have sx:=(And.intro @does_eq (And.intro @hlk (And.intro @hsa (And.intro @hg8 (And.intro @hg9 sx0)))))
 refine rg_ [0,1,5,6] ?_
 refine rs_ [0,5,6,7] ?_
 refine sg_ ?_
 refine cl_ (hc:=hpc _) (k:=?_)
 refine sre_ ?_
 refine sk_ fun K1 hK1=>?_
 refine rg_ [0,5,6,7,15] ?_
 refine cdn_ (ht:=fun hb1=>?_) (hf:=fun hb1=>?_)
 · exfalso;exact Bool.noConfusion hb1
 refine skp_ ?_
 refine hK1 _ ?_
 refine rs_ [0,5,6,7,8] ?_
 refine dawp_w rfl rfl rfl rfl (AOp.makeMap _ rfl ?_)
 iterate 6 (refine dawp_wn rfl rfl rfl (AOp.insert _ _ _ _ rfl Ty.mapT_173 (by (simp (disch:=omega) only [push_cast,↓reduceIte,Nat.reduceEqDiff,Nat.reduceAdd,Nat.reduceLeDiff,sx])<;>rfl) (by (simp (disch:=omega) only [push_cast,↓reduceIte,Nat.reduceEqDiff,Nat.reduceAdd,Nat.reduceLeDiff,sx])<;>rfl) (by (simp (disch:=omega) only [push_cast,↓reduceIte,Nat.reduceEqDiff,Nat.reduceAdd,Nat.reduceLeDiff,sx])<;>rfl) (by (simp (disch:=omega) only [push_cast,↓reduceIte,Nat.reduceEqDiff,Nat.reduceAdd,Nat.reduceLeDiff,sx])<;>rfl) rfl rfl ?_))
 refine sre_ ?_
 refine sk_ fun K2 hK2=>?_
 refine rs_ [0,5,6,7,9,10] ?_
 refine sg_ ?_
 refine dawp_r rfl rfl rfl rfl (AOp.lookup _ _ _ _ rfl Ty.mapT_173 Ty.azero_171 (by (simp (disch:=omega) only [push_cast,↓reduceIte,Nat.reduceEqDiff,Nat.reduceAdd,Nat.reduceLeDiff,sx])<;>rfl) rfl (by (simp (disch:=omega) only [entsOf_map,entsOf_nil,entsBlk_map,push_cast,↓reduceIte,Nat.reduceEqDiff,Nat.reduceAdd,Nat.reduceLeDiff,sx])<;>rfl) rfl) ?_
 refine sre_ ?_
 refine awp_block ?_
 refine rg_ [0,5,6,7,9,26] ?_
 refine cdy_ (ht:=fun hb2=>?_) (hf:=fun hb2=>?_)
 ·
  refine rs_ [6] ?_
  refine sg_ ?_
  refine cl_ (hc:=hsx _) (k:=?_)
  refine srt_ ?_
  refine gq_ (h1:=sysH h kt kp _ _) Tryz.results43 ?_ (hh:=(⟨_,rfl⟩)) (hH:=(sysH_cl hH _ _ _ _)) (hle:=(Nat.le_of_eq (sysH_len _ _ _ _ _).symm))
  exact rk_ rfl
 exfalso;exact Bool.noConfusion hb2
theorem o43 (ks kt kb:Nat) (T:Tab) (ps:List Pr) (h:List Blk) (live:List Nat) (hy:SysAt h ks kt kb T ps) (pid:Nat) (P:Pr) (hpid:pid<ps.length) (hP:ps[pid]=P) (ca:Ca) (hpath:ca.path.length≤1000) (hoth:ca.other.length≤1000) (hdat:ca.data.length≤1000) (hk:ca.kind<13∨18<ca.kind):ACalls Tryz.prog 43 [.ptr ks 0,.int .i64 (pid:Nat),.agg (caC ca)] h live (ret (.agg (rsC (stepF T ps pid P ca).1)) (sysH h kt (kb+2*pid) (stepF T ps pid P ca).2.1 (stepF T ps pid P ca).2.2) live):=by
 refine aq_ Tryz.func43 fun hH hX=>?_
 obtain ⟨kp,hkpe⟩:∃kp,kb+2*pid=kp:=⟨_,rfl⟩
 have hkp:h[kp]? = some (.cells (prC P)):=by have:=hy.p pid hpid;rw [hP,hkpe] at this;exact this
 have hg:=hy.gs _ (List.getElem_mem hpid)
 rw [hP] at hg
 have hne:kt≠kp:=by have:=hy.tb;omega
 simp only [hkpe]
 have hkt:=hy.t
 have hktl:=lt_of_get hy.t
 have hksl:=lt_of_get hy.s
 have hkpl:=lt_of_get hkp
 have hpc:∀g:List Blk,ACalls Tryz.prog 69 [.ptr ks 0,.int .i64 (pid:Nat)] (h++g) live (ret (.ptr kp 0) (h++g) live):=fun g=>by rw [←hkpe];exact c69 ks kt kb T ps _ _ hy.app pid hpid
 have hsa:∀(g:List Blk) (T:Tab) (P:Pr),sysH (h++g) kt kp T P=sysH h kt kp T P++g:=fun g T P=>sysH_app h g hktl hkpl T P
 have hg8:∀(T:Tab) (P:Pr) (l:List Blk) (j:Nat),(sysH h kt kp T P++l)[h.length+j]? = l[j]? := fun T P l j=>get_set2 h kt kp _ _ l j
 have hg9:∀(T:Tab) (P:Pr) (l:List Blk) (j:Nat) (z:Blk),(sysH h kt kp T P++l).set (h.length+j) z=sysH h kt kp T P++l.set j z:=fun T P l j z=>set_set2 h kt kp _ _ z l j
 have hf:aget (.int .i64 ca.kind) doesL=none:=by
  have h1:∀n:Int,n=13∨n=14∨n=15∨n=16∨n=17∨n=18→keyEq (.int .i64 n) (.int .i64 ca.kind)=false:=fun n hn=>by simp [keyEq];omega
  simp [doesL,aget,h1]
 have hlk:∀m z,alookup m z true (.int .i64 ca.kind) doesL=.tup [z,.bool false]:=fun m z=>by unfold alookup;rw [hf];rfl
 have hst:stepF T ps pid P ca=if 1≤ca.kind∧ca.kind≤4 then (askF T P ca,T,P) else if 5≤ca.kind∧ca.kind≤12 then (tol (chaF T P ca (openL ps)).1,(chaF T P ca (openL ps)).2,P) else (tol 22,T,P):=by
  unfold stepF;rw [if_neg (by omega),if_neg (by omega),if_neg (by omega),if_neg (by omega),if_neg (by omega),if_neg (by omega)]
 have hs1:∀(y:Blk) (g:List Blk),(h++g).set kt y=h.set kt y++g:=fun y g=>setApp hkt
 have hsl:∀y:Blk,(h.set kt y).length=h.length:=fun y=>List.length_set ..
 have sx:=(And.intro @does_eq (And.intro @hlk (And.intro @hs1 (And.intro @hsl sx0))))
 refine rg_ [0,1,5,6] ?_
 refine rs_ [0,5,6,7] ?_
 refine sg_ ?_
 refine cl_ (hc:=hpc _) (k:=?_)
 refine sre_ ?_
 refine sk_ fun K1 hK1=>?_
 refine rg_ [0,5,6,7,15] ?_
 refine cdn_ (ht:=fun hb1=>?_) (hf:=fun hb1=>?_)
 · exfalso;exact Bool.noConfusion hb1
 refine skp_ ?_
 refine hK1 _ ?_
 refine rs_ [0,5,6,7,8] ?_
 refine dawp_w rfl rfl rfl rfl (AOp.makeMap _ rfl ?_)
 iterate 6 (refine dawp_wn rfl rfl rfl (AOp.insert _ _ _ _ rfl Ty.mapT_173 (by (simp (disch:=omega) only [push_cast,↓reduceIte,Nat.reduceEqDiff,Nat.reduceAdd,Nat.reduceLeDiff,sx])<;>rfl) (by (simp (disch:=omega) only [push_cast,↓reduceIte,Nat.reduceEqDiff,Nat.reduceAdd,Nat.reduceLeDiff,sx])<;>rfl) (by (simp (disch:=omega) only [push_cast,↓reduceIte,Nat.reduceEqDiff,Nat.reduceAdd,Nat.reduceLeDiff,sx])<;>rfl) (by (simp (disch:=omega) only [push_cast,↓reduceIte,Nat.reduceEqDiff,Nat.reduceAdd,Nat.reduceLeDiff,sx])<;>rfl) rfl rfl ?_))
 refine sre_ ?_
 refine sk_ fun K2 hK2=>?_
 refine rs_ [0,5,6,7,9,10] ?_
 refine sg_ ?_
 refine dawp_r rfl rfl rfl rfl (AOp.lookup _ _ _ _ rfl Ty.mapT_173 Ty.azero_171 (by (simp (disch:=omega) only [push_cast,↓reduceIte,Nat.reduceEqDiff,Nat.reduceAdd,Nat.reduceLeDiff,sx])<;>rfl) rfl (by (simp (disch:=omega) only [entsOf_map,entsOf_nil,entsBlk_map,push_cast,↓reduceIte,Nat.reduceEqDiff,Nat.reduceAdd,Nat.reduceLeDiff,sx])<;>rfl) rfl) ?_
 refine sre_ ?_
 refine awp_block ?_
 refine rg_ [0,5,6,7,9,26] ?_
 refine cdn_ (ht:=fun hb2=>?_) (hf:=fun hb2=>?_)
 · exfalso;exact Bool.noConfusion hb2
 refine rg_ [0,5,6,7,33] ?_
 refine cx_ (fun hb3=>?_) (fun hb3=>?_)
 ·
  refine rs_ [6] ?_
  refine sg_ ?_
  refine cl_ (hc:=c77 ks kt kb T ps _ _ hy.app kp P ca (atApp hkp) hg hpath) (k:=?_)
  refine srt_ ?_
  refine gq_ (h1:=sysH h kt kp T P) Tryz.results43 ?_ (hh:=(by rw [sysH_self hkt hkp];exact ⟨_,rfl⟩)) (hH:=(sysH_cl hH _ _ _ _)) (hle:=(Nat.le_of_eq (sysH_len _ _ _ _ _).symm))
  exact ⟨by rw [hst,if_pos hb3],by rw [hst,if_pos hb3],rfl⟩
 refine rg_ [0,5,6,7,46] ?_
 refine cx_ (fun hb4=>?_) (fun hb4=>?_)
 ·
  refine rs_ [6] ?_
  refine sg_ ?_
  refine cl_ (hc:=c78 ks kt kb T ps _ _ hy.app kp P ca (atApp hkp) hg hpath hoth) (k:=?_)
  refine srt_ ?_
  refine gq_ (h1:=sysH h kt kp _ P) Tryz.results43 ?_ (hh:=(by rw [sysH_tab _ hkp hne];exact ⟨_,rfl⟩)) (hH:=(sysH_cl hH _ _ _ _)) (hle:=(Nat.le_of_eq (sysH_len _ _ _ _ _).symm))
  exact ⟨by rw [hst,if_neg (by omega),if_pos hb4],by rw [hst,if_neg (by omega),if_pos hb4],rfl⟩
 refine skp_ ?_
 refine hK2 _ ?_
 refine rs_ [6] ?_
 refine cl_ (hc:=c70 _ _ _) (k:=?_)
 refine srt_ ?_
 refine gq_ (h1:=sysH h kt kp T P) Tryz.results43 ?_ (hh:=(by rw [sysH_self hkt hkp];exact ⟨_,rfl⟩)) (hH:=(sysH_cl hH _ _ _ _)) (hle:=(Nat.le_of_eq (sysH_len _ _ _ _ _).symm))
 exact ⟨by rw [hst,if_neg (by omega),if_neg (by omega)],by rw [hst,if_neg (by omega),if_neg (by omega)],rfl⟩
end Go.Proofs.YtmgnbgniikjhdaaGreat
namespace Go.Proofs.YtmgnbgniikjhdaaGreat
open Go.Ab
set_option maxRecDepth 8000
set_option maxHeartbeats 400000
def Gd (T:Tab):Prop:=T.Ok∧T.Rt
section
variable {T:Tab} {c:Cr}
theorem Gd.put (h:Gd T) {n:Nd} (hn:NdOk n) (i:Int):Gd (putT T i n).2:=⟨putT_ok h.1 hn i,h.2.putT i n⟩
theorem Gd.add (h:Gd T) {n:Nd} (hn:NdOk n):Gd (addT T n).2:=⟨addT_ok h.1 hn,h.2.add n⟩
theorem Gd.drop (h:Gd T) (i:Int):Gd (dropT T i):=⟨dropT_ok h.1 i,h.2.drop i⟩
theorem Gd.nd (h:Gd T) (i:Int):NdOk (T.get i).1:=get_ok h.1 i
theorem Gd.chg (h:Gd T) (p:List UInt8) (fl:Bool) {g:Nd→Nd×Int} (hg:∀n,NdOk n→NdOk (g n).1):Gd (chgF T c p fl g).2:=by
 unfold chgF
 repeat' split
 · exact h
 · exact h
 · exact h
 · exact h.put (hg _ (h.nd _)) _
theorem Gd.chmod (h:Gd T) (p:List UInt8) (m:Int):Gd (chmodF T c p m).2:=by
 unfold chmodF;split
 · exact h
 · exact h.chg p true (chmodG_ok c m)
theorem Gd.chown (h:Gd T) (p:List UInt8) (u g:Int) (fl:Bool):Gd (chownF T c p u g fl).2:=by
 unfold chownF;split
 · exact h
 · exact h.chg p fl (chownG_ok c u g)
theorem Gd.plant (h:Gd T) (p:List UInt8) (fl:Bool) {g:Nd→Nd} (hg:∀n,NdOk n→NdOk (g n)):Gd (plantF T c p fl g).2:=by
 have ha:Gd (addT T (ownN c (T.get (rD T c p fl)).1 (g (T.get (rD T c p fl)).1))).2:=h.add (ownN_ok (hg _ (h.nd _)))
 have hnm:=resF_nm T c p fl
 unfold plantF
 repeat' split
 · exact h
 · exact h
 · exact h
 · exact h
 · exact ha
 · exact ha.drop _
 · exact ha.put (withN_ok (h.nd _) (by omega)) _
theorem Gd.mkdir (h:Gd T) (um:Int) (p:List UInt8) (m:Int):Gd (mkdirF T c um p m).2:=h.plant p false fun n hn=>⟨Nat.zero_le _,Nat.zero_le _,Nat.zero_le _,fun e he=>nomatch he⟩
theorem Gd.symlink (h:Gd T) (s p:List UInt8):Gd (symlinkF T c s p).2:=by
 unfold symlinkF
 repeat' split
 · exact h
 · exact h
 · exact h
 · exact h.plant p false fun n hn=>⟨Nat.zero_le _,Nat.zero_le _,(by show s.length≤1000;omega),fun e he=>nomatch he⟩
theorem Gd.create (h:Gd T) (um:Int) (p:List UInt8) (m:Int) (fl:Bool):Gd (createF T c um p m fl).2:=h.plant p fl fun n hn=>⟨Nat.zero_le _,Nat.zero_le _,Nat.zero_le _,fun e he=>nomatch he⟩
theorem Gd.cut (h:Gd T) (d:Int) (s:List UInt8):Gd (cutF T d s):=by
 unfold cutF;split
 · exact h.put (withoutN_ok (h.nd _)) _
 · exact h
theorem Gd.free (h:Gd T) (i:Int) (o:List Int):Gd (freeF T i o).2:=⟨freeF_ok h.1 i o,freeF_rt h.2 i o⟩
theorem Gd.unlink (h:Gd T) (p:List UInt8) (o:List Int):Gd (unlinkF T c p o).2:=by
 unfold unlinkF
 repeat' split
 · exact h
 · exact h
 · exact (h.cut _ _).free _ _
theorem Gd.rmdir (h:Gd T) (p:List UInt8):Gd (rmdirF T c p).2:=by
 unfold rmdirF
 repeat' split
 · exact h
 · exact h
 · exact h
 · exact (h.cut _ _).drop _
theorem Gd.renL (h:Gd T) {U:Tab} (hU:Gd U) (p q:List UInt8) (o:List Int):Gd (renL T c p q o U).2:=by
 have hnm:=resF_nm T c q false
 unfold Proofs.YtmgnbgniikjhdaaGreat.renL
 split
 · exact ((hU.cut _ _).put (withN_ok ((hU.cut _ _).nd _) (by omega)) _).free _ _
 · exact (hU.cut _ _).free _ _
theorem Gd.rename (h:Gd T) (p q:List UInt8) (o:List Int):Gd (renameF T c p q o).2:=by
 have h1:=h.renL (h.cut (rD T c q false) (rS T c q false)) (c:=c) p q o
 have h2:=h.renL h (c:=c) p q o
 unfold renameF
 by_cases b1:findE T c p≠0
 · rw [if_pos b1];exact h
 rw [if_neg b1]
 by_cases b2:rE T c q false≠0
 · rw [if_pos b2];exact h
 rw [if_neg b2]
 by_cases b3:rS T c q false=[]
 · rw [if_pos b3];exact h
 rw [if_neg b3]
 by_cases b4:canT c T (rD T c q false) 3=false
 · rw [if_pos b4];exact h
 rw [if_neg b4]
 by_cases b5:rN T c q false=rN T c p false
 · rw [if_pos b5];exact h
 rw [if_neg b5]
 by_cases b6:(T.get (rN T c p false)).1.kind=2∧belowL T (rN T c p false) 24 (rD T c q false)=true
 · rw [if_pos b6];exact h
 rw [if_neg b6]
 by_cases b7:rN T c q false=0∧rD T c q false≠rD T c p false∧(8:Int)≤(T.get (rD T c q false)).1.ents.length
 · rw [if_pos b7];exact h
 rw [if_neg b7]
 by_cases b8:rN T c q false≠0
 ·
  rw [if_pos b8]
  by_cases b9:overF c (T.get (rN T c p false)).1 (T.get (rD T c q false)).1 (T.get (rN T c q false)).1≠0
  · rw [if_pos b9];exact h
  · rw [if_neg b9];exact h1
 · rw [if_neg b8];exact h2
theorem Gd.opn (h:Gd T) (um:Int) (p:List UInt8) (f m:Int):Gd (openF T c um p f m).2:=by
 unfold openF
 repeat' split
 all_goals first | exact h | exact h.create um p m _ | exact h.put (dataN_ok (h.nd _) (Nat.zero_le _)) _
theorem Gd.write (h:Gd T) (i off:Int) (b:List UInt8):Gd (writeAtF T c i off b).2:=by
 have hd:=(h.nd i).1
 unfold writeAtF
 repeat' split
 · exact h
 · exact h
 · exact h
 · exact h
 · exact h.put (dataN_ok (h.nd _) (by rw [overB_len];omega)) _
theorem Gd.cha (h:Gd T) (P:Pr) (ca:Ca) (o:List Int):Gd (chaF T P ca o).2:=by
 unfold chaF
 repeat' split
 · exact h.chmod _ _
 · exact h.mkdir _ _ _
 · exact h.symlink _ _
 · exact h.unlink _ _
 · exact h.rmdir _
 · exact h.rename _ _ _
 · exact h.chown _ _ _ _
theorem opnAt_gd (h:Gd T) (P:Pr) (ca:Ca) (i:Nat):Gd (opnAt T P ca i).2.1∧(opnAt T P ca i).2.2.c=P.c:=by
 unfold opnAt;split
 · exact ⟨h.opn _ _ _ _,rfl⟩
 · exact ⟨h.opn _ _ _ _,put_c _ _ _⟩
theorem opnF_gd (h:Gd T) (P:Pr) (ca:Ca):Gd (opnF T P ca).2.1∧(opnF T P ca).2.2.c=P.c:=by
 unfold opnF
 repeat' split
 · exact opnAt_gd h P ca 0
 · exact opnAt_gd h P ca 1
 · exact opnAt_gd h P ca 2
 · exact ⟨h,rfl⟩
theorem wriF_gd (h:Gd T) (P:Pr) (ca:Ca):Gd (wriF T P ca).2.1∧(wriF T P ca).2.2.c=P.c:=by
 unfold wriF
 repeat' split
 · exact ⟨h,rfl⟩
 · exact ⟨h.write _ _ _,rfl⟩
 · exact ⟨h.write _ _ _,put_c _ _ _⟩
theorem stepF_gd (h:Gd T) (ps:List Pr) (pid:Nat) (P:Pr) (ca:Ca):Gd (stepF T ps pid P ca).2.1∧(stepF T ps pid P ca).2.2.c=P.c:=by
 unfold stepF
 repeat' split
 · exact opnF_gd h P ca
 ·
  refine ⟨h,?_⟩
  show (redF T P ca).2.c=P.c
  unfold redF;split
  · rfl
  · exact put_c _ _ _
 · exact wriF_gd h P ca
 ·
  obtain ⟨h1,h2,h3⟩:=shutF_ok (ps:=ps) (pid:=pid) (P:=P) (a:=ca.a) h.1 h.2
  exact ⟨⟨h1,h2⟩,h3⟩
 · exact ⟨h,rfl⟩
 ·
  obtain ⟨h1,h2,h3⟩:=shutN_ok (ps:=ps) (pid:=pid) (P:=P) h.1 h.2 3
  exact ⟨⟨h1,h2⟩,h3⟩
 · exact ⟨h,rfl⟩
 · exact ⟨h.cha _ _ _,rfl⟩
 · exact ⟨h,rfl⟩
end
end Go.Proofs.YtmgnbgniikjhdaaGreat
namespace Go.Proofs.YtmgnbgniikjhdaaGreat
open Go.Ab
set_option maxRecDepth 8000
set_option maxHeartbeats 400000
def doF (T:Tab) (ps:List Pr) (pid:Int) (ca:Ca):Rs×Tab×List Pr:=
 if 0≤pid∧pid<ps.length then ((stepF T ps pid.toNat (ps.getD pid.toNat pr0) ca).1,(stepF T ps pid.toNat (ps.getD pid.toNat pr0) ca).2.1,ps.set pid.toNat (stepF T ps pid.toNat (ps.getD pid.toNat pr0) ca).2.2)
 else (tol 22,T,ps)
theorem does_all (k:Int) (hk:13≤k∧k≤18):∃f,aget (.int .i64 k) doesL=some (.fn (.func f) [] []):=by
 rcases (show k=13∨k=14∨k=15∨k=16∨k=17∨k=18 by omega) with e | e | e | e | e | e<;>(subst e;exact ⟨_,rfl⟩)
theorem doF_len (T:Tab) (ps:List Pr) (pid:Int) (ca:Ca):(doF T ps pid ca).2.2.length=ps.length:=by
 unfold doF;split
 · exact List.length_set ..
 · rfl
theorem doF_gd {T:Tab} (hT:Gd T) (ps:List Pr) (pid:Int) (ca:Ca):Gd (doF T ps pid ca).2.1:=by
 unfold doF;split
 · exact (stepF_gd hT ps _ _ ca).1
 · exact hT
theorem c43 (ks kt kb:Nat) (T:Tab) (ps:List Pr) (h:List Blk) (live:List Nat) (hy:SysAt h ks kt kb T ps) (pid:Int) (ca:Ca) (hpath:ca.path.length≤1000) (hoth:ca.other.length≤1000) (hdat:ca.data.length≤1000):ACalls Tryz.prog 43 [.ptr ks 0,.int .i64 pid,.agg (caC ca)] h live fun x h' l'=>
 (x=.agg (rsC (doF T ps pid ca).1)∧SysAt h' ks kt kb (doF T ps pid ca).2.1 (doF T ps pid ca).2.2∧h'.length=h.length∧(∀i,i≠kt→(∀j,j<ps.length→i≠kb+2*j)→h'[i]? = h[i]?)∧l'=live)∧HCl h':=by
 refine ACalls.hclK ?_
 by_cases hp:0≤pid∧pid<ps.length
 ·
  obtain ⟨n,rfl⟩:∃n:Nat,pid=(n:Int):=⟨pid.toNat,by omega⟩
  have hn:n<ps.length:=by omega
  have hgd:ps.getD n pr0=ps[n]:=by rw [List.getD_eq_getElem?_getD,List.getElem?_eq_getElem hn];rfl
  have key:ACalls Tryz.prog 43 [.ptr ks 0,.int .i64 (n:Nat),.agg (caC ca)] h live (ret (.agg (rsC (stepF T ps n ps[n] ca).1)) (sysH h kt (kb+2*n) (stepF T ps n ps[n] ca).2.1 (stepF T ps n ps[n] ca).2.2) live):=by
   by_cases hk:13≤ca.kind∧ca.kind≤18
   ·
    obtain ⟨f,hf⟩:=does_all ca.kind hk
    exact s43 f ks kt kb T ps h live hy n _ hn rfl ca hpath hoth hdat hk hf
   · exact o43 ks kt kb T ps h live hy n _ hn rfl ca hpath hoth hdat (by omega)
  refine key.mono ?_
  rintro _ _ _ ⟨rfl,rfl,rfl⟩
  obtain ⟨⟨g1,g2⟩,g3⟩:=stepF_gd ⟨hy.ok,hy.rt⟩ ps n ps[n] ca
  have e:doF T ps n ca=((stepF T ps n ps[n] ca).1,(stepF T ps n ps[n] ca).2.1,ps.set n (stepF T ps n ps[n] ca).2.2):=by
   unfold doF;rw [if_pos hp,Int.toNat_natCast,hgd]
  rw [e]
  refine ⟨rfl,hy.next hn rfl g3 g1 g2,sysH_len _ _ _ _ _,fun i h1 h2=>?_,rfl⟩
  unfold sysH
  rw [List.getElem?_set_ne (fun h=>h2 n hn h.symm),List.getElem?_set_ne (fun h=>h1 h.symm)]
 ·
  have e:doF T ps pid ca=(tol 22,T,ps):=by unfold doF;rw [if_neg hp]
  rw [e]
  refine (n43 ks kt kb T ps h live hy pid (by omega) ca).mono ?_
  rintro _ _ _ ⟨rfl,rfl,rfl⟩
  exact ⟨rfl,hy,rfl,fun _ _ _=>rfl,rfl⟩
end Go.Proofs.YtmgnbgniikjhdaaGreat
namespace Go.Proofs.YtmgnbgniikjhdaaGreat
open Go.Ab
set_option maxRecDepth 8000
set_option maxHeartbeats 400000
def crC (c:Cr):List AV:=[.int .i64 c.uid,.int .i64 c.gid,.slice (c.gs.map iV) .none]
def crV (c:Cr):AV:=.agg (crC c)
theorem clL_crV (m:Nat) (l:List Cr):AV.clL m (l.map crV):=clL_all fun x hx=>by
 obtain ⟨c, _,rfl⟩:=List.mem_map.1 hx
 exact ⟨trivial,trivial,clL_iV _ _,trivial⟩
def pr1 (um:Int) (c:Cr):Pr:=⟨c,bits .and .i64 um 511,fd0,fd0,fd0⟩
def crQ (c:Cr) (q:Cap):List AV:=[.int .i64 c.uid,.int .i64 c.gid,.slice (c.gs.map iV) q]
def prQ (um:Int) (c:Cr) (q:Cap):List AV:=[.int .i64 c.uid,.int .i64 c.gid,.slice (c.gs.map iV) q,.int .i64 (bits .and .i64 um 511),.int .i64 0,.int .i64 0,.bool false,.bool false,.int .i64 0,.int .i64 0,.bool false,.bool false,.int .i64 0,.int .i64 0,.bool false,.bool false]
def pq (um:Int) (l:List (Cr×Cap)):List Blk:=l.flatMap fun p=>[.cells (crQ p.1 p.2),.cells (prQ um p.1 p.2)]
theorem pq_len (um:Int) (l:List (Cr×Cap)):(pq um l).length=2*l.length:=by
 induction l with
 | nil=>rfl
 | cons a l ih=>show (pq um l).length+1+1=_;rw [ih,List.length_cons];omega
theorem pq_snoc (um:Int) (l:List (Cr×Cap)) (c:Cr) (q:Cap):pq um (l++[(c,q)])=pq um l++[.cells (crQ c q),.cells (prQ um c q)]:=by
 unfold pq;rw [List.flatMap_append];rfl
theorem pq_cl {um:Int} {l:List (Cr×Cap)}:∀ {h:List Blk},HCl h→HCl (h++pq um l):=by
 induction l with
 | nil=>intro h hH;show HCl (h++[]);rw [List.append_nil];exact hH
 | cons a l ih=>
  intro h hH
  have h1:HCl (h++[.cells (crQ a.1 a.2),.cells (prQ um a.1 a.2)]):=by
   have:=HCl.snoc (HCl.snoc (b:=.cells (crQ a.1 a.2)) hH ⟨trivial,trivial,clL_iV _ _,trivial⟩) (b:=.cells (prQ um a.1 a.2)) ⟨trivial,trivial,clL_iV _ _,trivial,trivial,trivial,trivial,trivial,trivial,trivial,trivial,trivial,trivial,trivial,trivial,trivial,trivial⟩
   rw [List.append_assoc] at this;exact this
  have:=ih h1
  rw [List.append_assoc] at this;exact this
attribute [push_cast] pq_len
def newH (h:List Blk) (T:Tab) (um:Int) (cs:List Cr):List Blk:=h++([tabBlk T,.cells [.ptr h.length 0,.slice (pB (h.length+3) cs.length) .none]]++pq um (cs.map fun c=>(c,.none)))
theorem pq_bw (um:Int):∀l:List (Cr×Cap),BW (pq um l) (pq um (l.map fun p=>(p.1,Cap.none)))
 | []=>BW.refl _
 | a::l=>by
  show BW ([Blk.cells (crQ a.1 a.2)]++([Blk.cells (prQ um a.1 a.2)]++pq um l)) ([Blk.cells (crQ a.1 .none)]++([Blk.cells (prQ um a.1 .none)]++pq um (l.map fun p=>(p.1,Cap.none))))
  refine BW.app (BW.one ?_) (BW.app (BW.one ?_) (pq_bw um l))
  · show _=Blk.cells (AV.erL (crQ a.1 a.2));simp only [crQ,AV.erL,AV.er,erL_iV]
  · show _=Blk.cells (AV.erL (prQ um a.1 a.2));simp only [prQ,AV.erL,AV.er,erL_iV]
theorem erL_pB (kb n:Nat):AV.erL (pB kb n)=pB kb n:=by
 rw [AV.erL_map];unfold pB;rw [List.map_map];rfl
theorem new_bw (h:List Blk) (T:Tab) (um:Int) (cs:List Cr) (l:List (Cr×Cap)) (q:Cap) (hl:l.length=cs.length) (hm:l.map (·.1)=cs.take l.length):BW (h++([tabBlk T,.cells [.ptr h.length 0,.slice (pB (h.length+3) l.length) q]]++pq um l)) (newH h T um cs):=by
 have e:(cs.map fun c=>(c,Cap.none))=l.map fun p=>(p.1,Cap.none):=by
  rw [hl,List.take_length] at hm;rw [←hm,List.map_map];rfl
 unfold newH
 rw [e,hl]
 refine BW.app (BW.refl h) (BW.app ?_ (pq_bw um l))
 exact BW.app (BW.refl [tabBlk T]) (BW.one (by show _=Blk.cells [_,(AV.slice _ q).er];simp only [AV.er,erL_pB,AV.erL]))
theorem new_cl {h:List Blk} (hH:HCl h) (T:Tab) (um:Int) (l:List (Cr×Cap)) (q:Cap):HCl (h++([tabBlk T,.cells [.ptr h.length 0,.slice (pB (h.length+3) l.length) q]]++pq um l)):=by
 have hlen:(h++([tabBlk T,.cells [.ptr h.length 0,.slice (pB (h.length+3) l.length) q]]++pq um l)).length=h.length+2+2*l.length:=by simp [pq_len];omega
 intro b hb
 rw [hlen]
 rcases List.mem_append.1 hb with hb | hb
 · exact Blk.cl_mono (by omega) (hH b hb)
 ·
  rcases List.mem_append.1 hb with hb | hb
  ·
   simp only [List.mem_cons,List.not_mem_nil,or_false] at hb
   rcases hb with rfl | rfl
   · exact cl_tab _ _
   ·
    refine ⟨by show h.length<_;omega,clL_all fun x hx=>?_,trivial⟩
    obtain ⟨i,hi,rfl⟩:=List.mem_map.1 hx
    have:=List.mem_range.1 hi
    show h.length+3+2*i<_;omega
  ·
   obtain ⟨p, _,hp⟩:=List.mem_flatMap.1 hb
   simp only [List.mem_cons,List.not_mem_nil,or_false] at hp
   rcases hp with rfl | rfl
   · exact ⟨trivial,trivial,clL_iV _ _,trivial⟩
   · exact ⟨trivial,trivial,clL_iV _ _,trivial,trivial,trivial,trivial,trivial,trivial,trivial,trivial,trivial,trivial,trivial,trivial,trivial,trivial⟩
theorem newH_cl {h:List Blk} (hH:HCl h) (T:Tab) (um:Int) (cs:List Cr):HCl (newH h T um cs):=by
 have:=new_cl hH T um (cs.map fun c=>(c,Cap.none)) .none
 rw [List.length_map] at this;exact this
theorem pB_succ (kb n:Nat):pB kb (n+1)=pB kb n++[.ptr (kb+2*n) 0]:=by
 unfold pB;rw [List.range_succ,List.map_append];rfl
theorem new_step (h:List Blk) (T:Tab) (um:Int) (l:List (Cr×Cap)) (c:Cr) (c31 c44 q:Cap) (H:List Blk) (hHe:h++([tabBlk T,.cells [.ptr h.length 0,.slice (pB (h.length+3) l.length) q]]++pq um l)=H) (hHl:H.length=h.length+2+2*l.length) :
 H.set (h.length+1) (.cells [.ptr h.length 0,.slice (pB (h.length+3) l.length++[.ptr (H.length+1) 0]) c44])++[.cells (crQ c c31),.cells (prQ um c c31)]=h++([tabBlk T,.cells [.ptr h.length 0,.slice (pB (h.length+3) (l++[(c,c31)]).length) c44]]++pq um (l++[(c,c31)])):=by
 rw [pq_snoc,List.length_append,List.length_singleton,pB_succ,show h.length+3+2*l.length=H.length+1 by omega,←hHe,set_app,List.append_assoc]
 rfl
theorem cells_pB (kb n:Nat):∀y∈pB kb n,y.cells.length=1:=fun y hy=>by
 obtain ⟨i, _,rfl⟩:=List.mem_map.1 hy;rfl
attribute [push_cast] clL_crV erL_pB
theorem c34 (T:Tab) (k:Nat) (um:Int) (cs:List Cr) (h:List Blk) (live:List Nat) (hk:h[k]? = some (tabBlk T)) (hT:T.Ok) (hcs:∀c∈cs,c.gs.length≤17592186044416) (hcl:cs.length≤17592186044416):ACalls Tryz.prog 34 [.ptr k 0,.int .i64 um,.slice (cs.map crV) .none] h live (ret (.ptr (h.length+1) 0) (newH h T um cs) live):=by
 refine aq_ Tryz.func34 fun hH hX=>?_
 have hkl:=lt_of_get hk
 have hT2:=tab_all T hT
 refine rg_ [0,1,2] ?_
 refine rs_ [1,2,7] ?_
 refine sg_ ?_
 refine cl_ (hc:=c41 T k _ _ hk hT) (k:=?_)
 refine sre_ ?_
 refine sk_ fun K1 hK1=>?_
 refine rg_ [1,2,7,18] ?_
 refine cdn_ (ht:=fun hb1=>?_) (hf:=fun hb1=>?_)
 · exfalso;exact Bool.noConfusion hb1
 refine skp_ ?_
 refine hK1 _ ?_
 refine sk_ fun K2 hK2=>?_
 refine rg_ [1,7,23,24,25] ?_
 refine awp_block ?_
 refine awp_loopG (X:={x:List (Cr×Cap)×Cap×List Nat // x.1.map (·.1)=cs.take x.1.length∧x.1.length≤cs.length∧CapOK x.2.2 x.2.1∧∀u∈live,u∈x.2.2∧x.2.1≠.own u}) (fun x=>⟨Tryz.f34.ntmps,fget [(1,.int .i64 um),(7,.ptr (h.length+1) 0),(23,.slice (cs.map crV) .none),(24,.int .i64 cs.length),(25,.int .i64 (x.1.1.length:Nat))],h++([tabBlk T,.cells [.ptr h.length 0,.slice (pB (h.length+3) x.1.1.length) x.1.2.1]]++pq um x.1.1),x.1.2.2⟩) (fun x=>cs.length - x.1.1.length) (⟨⟨[],.full,live⟩,rfl,Nat.zero_le _,.inl rfl,fun u hu=>⟨hu,Cap.noConfusion⟩⟩) ?_ (by first | rfl | (simp only [List.length_set];done) | simp) (fun ⟨⟨l,q,live'⟩,hm,hi,hc,hlv⟩=>?_)
 ·
  try dsimp only
  refine Trunc.of (by first | (rw [List.append_nil];rfl) | (rw [List.append_nil];exact new_step h T um l c c31 c44 q H hHe hHl)) ?_ (new_cl hH T um _ _) (fun _ h=>h)
  refine ftc_ ?_ (hc:=by first | exact trivial | exact clL_crV _ _ | (simp [AV.cl,AV.clL];done) | (simp [AV.cl,AV.clL];omega))
  refine ftc_ ?_ (hc:=by first | exact trivial | exact clL_crV _ _ | (simp [AV.cl,AV.clL];done) | (simp [AV.cl,AV.clL];omega))
  refine ftc_ ?_ (hc:=by first | exact trivial | exact clL_crV _ _ | (simp [AV.cl,AV.clL];done) | (simp [AV.cl,AV.clL];omega))
  refine ftc_ ?_ (hc:=by first | exact trivial | exact clL_crV _ _ | (simp [AV.cl,AV.clL];done) | (simp [AV.cl,AV.clL];omega))
  refine ftc_ ?_ (hc:=by first | exact trivial | exact clL_crV _ _ | (simp [AV.cl,AV.clL];done) | (simp [AV.cl,AV.clL];omega))
  exact FTr.nil
 try dsimp only
 dsimp only at hm hi hc hlv
 obtain ⟨H,hHe⟩:∃H,h++([tabBlk T,.cells [.ptr h.length 0,.slice (pB (h.length+3) l.length) q]]++pq um l)=H:=⟨_,rfl⟩
 simp only [hHe]
 have hHl:H.length=h.length+2+2*l.length:=by rw [←hHe];simp [pq_len];omega
 have hHs:∀g:List Blk,(H++g)[h.length+1]? = some (.cells [.ptr h.length 0,.slice (pB (h.length+3) l.length) q]):=fun g=>atApp (by rw [←hHe,get_app];rfl)
 have hHz:∀(g:List Blk) (y:Blk),(H++g).set (h.length+1) y=H.set (h.length+1) y++g:=fun g y=>List.set_append_left _ _ (by omega)
 have sx:=And.intro hHs (And.intro hHz sx)
 refine rg_ [1,7,23,24,25,26] ?_
 refine sk_ fun K3 hK3=>?_
 refine cx_ (fun hb2=>?_) (fun hb2=>?_)
 rotate_left
 ·
  have hle:l.length=cs.length:=by omega
  refine awp_exit (up_ ?_)
  refine hK2 _ ?_
  refine rg_ [6] ?_
  refine ret_ ?_
  refine fe_ (h1:=newH h T um cs) Tryz.results34 (hh:=⟨H,[],(List.append_nil _).symm,hHe▸new_bw h T um cs l q hle hm⟩) (hcl:=(by show _<(newH h T um cs).length;unfold newH;simp;try omega)) (hl:=(fun u hu=>(hlv u hu).1)) (hH:=(newH_cl hH T um cs)) (hle:=(by unfold newH;simp)) (hK:=?_)
  exact rk_ rfl
 have hil:l.length<cs.length:=by omega
 obtain ⟨c,hcc⟩:∃c,cs[l.length]=c:=⟨_,rfl⟩
 have hgl:=hcs c (hcc▸List.getElem_mem hil)
 have hge:(cs.map crV).getD l.length .undef=.agg [.int .i64 c.uid,.int .i64 c.gid,.slice (c.gs.map iV) .none]:=by rw [List.getD_eq_getElem?_getD,List.getElem?_map,List.getElem?_eq_getElem hil,hcc];rfl
 have hgm:(cs.map crV)[l.length]? = some (.agg [.int .i64 c.uid,.int .i64 c.gid,.slice (c.gs.map iV) .none]):=by rw [List.getElem?_map,List.getElem?_eq_getElem hil,hcc];rfl
 have sx:=And.intro hge (And.intro hgm sx)
 refine skp_ ?_
 refine hK3 _ ?_
 refine sk_ fun K4 hK4=>?_
 refine awp_block ?_
 refine rg_ [1,7,9,23,24,25] ?_
 refine rs_ [1,7,9,23,24,25] ?_
 refine sg_ ?_
 refine ap_ (a:=.inl rfl) (b:=by simp) (c':=cells_iV _) (d:=by simp;omega) (e:=by simp;omega) (k:=?_)
 intro c31 live31 hk31
 refine sre_ ?_
 refine rtq_ [1,7,23,24,25] ⟨false,[(h.length+1,1,.one),(H.length,0,.agg 3)],[37,38],[],[42],[],0⟩ (fun _=>⟨by kernel_rfl,by kernel_rfl⟩) ?_
 refine sg_ ?_
 refine df_ ?_
 refine df_ ?_
 refine sg_ ?_
 refine dga_ ?_
 refine sg_ ?_
 refine ap_ (a:=(cap_mid hc (fun u h=>by cases h) hk31)) (b:=cells_pB _ _) (c':=by simp [AV.cells]) (d:=by simp [pB_len];omega) (e:=by simp [pB_len];omega) (k:=?_)
 intro c44 live44 hk44
 refine srn_ ?_
 refine hK4 _ ?_
 refine rt_ [1,7,23,24,25] ?_
 refine srn_ ?_
 refine ⟨⟨⟨l++[(c,c31)],c44,live44⟩,by dsimp only;rw [List.map_append,hm,List.length_append,List.length_singleton,List.take_succ_eq_append_getElem hil,hcc];rfl,by dsimp only;rw [List.length_append,List.length_singleton];omega,hk44.1,fun u hu=>by
  have a:=hlv u hu
  have b:=hk31.2 u a.1 Cap.noConfusion
  exact hk44.2 u b.1 a.2⟩,?_,(by dsimp only;first | (simp;done) | (simp;omega) | (rw [←hHe];simp [pq_len];done) | (rw [←hHe];simp [pq_len];omega)),by dsimp only;rw [List.length_append,List.length_singleton];omega⟩
 try dsimp only
 refine Trunc.of (by first | (rw [List.append_nil];rfl) | (rw [List.append_nil];exact new_step h T um l c c31 c44 q H hHe hHl)) ?_ (new_cl hH T um _ _) (fun _ h=>h)
 refine ftc_ ?_ (hc:=by first | exact trivial | exact clL_crV _ _ | (simp [AV.cl,AV.clL];done) | (simp [AV.cl,AV.clL];omega))
 refine ftc_ ?_ (hc:=by first | exact trivial | exact clL_crV _ _ | (simp [AV.cl,AV.clL];done) | (simp [AV.cl,AV.clL];omega))
 refine ftc_ ?_ (hc:=by first | exact trivial | exact clL_crV _ _ | (simp [AV.cl,AV.clL];done) | (simp [AV.cl,AV.clL];omega))
 refine ftc_ ?_ (hc:=by first | exact trivial | exact clL_crV _ _ | (simp [AV.cl,AV.clL];done) | (simp [AV.cl,AV.clL];omega))
 refine ftc_ ?_ (hc:=by first | exact trivial | exact clL_crV _ _ | (simp [AV.cl,AV.clL];done) | (simp [AV.cl,AV.clL];omega))
 exact FTr.nil
end Go.Proofs.YtmgnbgniikjhdaaGreat
namespace Go.Proofs.YtmgnbgniikjhdaaGreat
open Go.Ab
set_option maxRecDepth 8000
set_option maxHeartbeats 400000
theorem Tab.Rt.new (room:Int):(newT room).Rt:=fun n hn hk=>absurd (by rw [(List.mem_replicate.1 hn).2];rfl) hk
theorem Tab.Rt.one {T:Tab} (h:T.Rt) (r:Rw):(oneF T r).2.Rt:=by
 have ht:(toldF T r).2.Rt:=by
  unfold toldF
  split
  · exact h.add _
  ·
   split
   · exact h
   · split<;>exact h
 unfold oneF
 split
 · exact h
 ·
  split
  · exact ht
  ·
   split
   · exact ht
   · exact ht.putT _ _
theorem Tab.Rt.rest:∀(l:List Rw) (T:Tab) (i:Nat) (T':Tab),T.Rt→restF T i l=.inr T'→T'.Rt
 | [],T,i,T',h,e=>by cases e;exact h
 | r::l,T,i,T',h,e=>by
  unfold restF at e
  split at e
  · cases e
  · exact Tab.Rt.rest l _ _ T' (h.one r) e
theorem Tab.Rt.build {room:Int} {l:List Rw} {T:Tab} (e:buildF room l=.inr T):T.Rt:=by
 unfold buildF at e
 cases hc:(decide ((l.length:Int)=0)||!decide ((l.getD 0 rw0).kind=2)||!decide ((l.getD 0 rw0).parent=0)||!decide ((l.getD 0 rw0).name=[])) with
 | true=>rw [hc] at e;cases e
 | false=>
  rw [hc,cond_false] at e
  split at e
  · cases e
  · exact Tab.Rt.rest _ _ _ T ((Tab.Rt.new room).add _) e
theorem built_rt {room:Int} {l:List Rw} {c:Cr} {T:Tab} (h:builtF room l c=some T):T.Rt:=by
 unfold builtF at h
 cases h1:(decide ((50:Int)<l.length)||decide ((10:Int)<c.gs.length)) with
 | true=>rw [h1] at h;cases h
 | false=>
  rw [h1,cond_false] at h
  cases h2:l.any bigR with
  | true=>rw [h2] at h;cases h
  | false=>
   rw [h2,cond_false] at h
   split at h
   · cases h
   ·
    rename_i T' hT'
    cases h
    exact Tab.Rt.build hT'
theorem erL_rV (l:List Rw):AV.erL (l.map rV)=l.map rV:=by
 rw [AV.erL_map,List.map_map]
 refine List.map_congr_left fun r _=>?_
 show (rV r).er=rV r
 simp only [rV,rwC,AV.er,AV.erL,erL_bV]
def begunK (h:List Blk) (live:List Nat) (um:Int) (cs:List Cr) (o:Option Tab):KT:=fun x h' l'=>l'=live∧((o=none∧x=.tup [.raw (.pointer none),.bool false]∧h'=h)∨(∃T g,o=some T∧x=.tup [.ptr ((h++g).length+1) 0,.bool true]∧h'=newH (h++g) T um cs))
def cr0:Cr:=⟨0,0,[]⟩
theorem pq_get (um:Int):∀(l:List (Cr×Cap)) (i:Nat),i<l.length→∀g,(pq um l++g)[2*i+1]? = some (.cells (prQ um (l.getD i (cr0,.none)).1 (l.getD i (cr0,.none)).2))
 | a::l,0, _,g=>rfl
 | a::l,i+1,h,g=>by
  have:=pq_get um l i (by simpa using h) g
  show (Blk.cells (crQ a.1 a.2)::Blk.cells (prQ um a.1 a.2)::(pq um l++g))[2*i+1+1+1]? = _
  rw [List.getElem?_cons_succ,List.getElem?_cons_succ,this,List.getD_cons_succ]
theorem newH_len (h:List Blk) (T:Tab) (um:Int) (cs:List Cr):(newH h T um cs).length=h.length+2+2*cs.length:=by
 unfold newH;simp [pq_len];omega
theorem newH_at (h:List Blk) {T:Tab} (um:Int) {cs:List Cr} (hT:T.Ok) (hR:T.Rt) (hg:∀c∈cs,c.gs.length≤17592186044416) (hf:cs.length≤1000):SysAt (newH h T um cs) (h.length+1) h.length (h.length+3) T (cs.map (pr1 um)) where
 s:=by unfold newH;rw [get_app,List.length_map];rfl
 t:=by unfold newH;rw [get_app0];rfl
 p:=fun i hi=>by
  rw [List.length_map] at hi
  have:=pq_get um (cs.map fun c=>(c,Cap.none)) i (by simpa using hi) []
  rw [List.append_nil] at this
  unfold newH
  rw [show h.length+3+2*i=h.length+(2*i+1+1+1) by omega,get_app]
  show (tabBlk T::Blk.cells _::pq um (cs.map fun c=>(c,Cap.none)))[2*i+1+1+1]? = _
  rw [List.getElem?_cons_succ,List.getElem?_cons_succ,this,List.getD_eq_getElem?_getD,List.getElem?_map,List.getElem?_eq_getElem hi,List.getElem_map]
  rfl
 st:=by omega
 sb:=by omega
 tb:=by omega
 ok:=hT
 rt:=hR
 gs:=fun P hP=>by obtain ⟨c,hc,rfl⟩:=List.mem_map.1 hP;exact hg c hc
 few:=by rw [List.length_map];exact hf
structure At where
 pid:Int
 c:Ca
def at0:At:=⟨0,⟨0,[],[],0,0,[]⟩⟩
def atC (a:At):List AV:=.int .i64 a.pid::caC a.c
def atV (a:At):AV:=.agg (atC a)
theorem getD_atV {l:List At} {i:Nat} {d:AV} (h:i<l.length):(l.map atV).getD i d=.agg (atC (l.getD i at0)):=by
 simp [List.getD_eq_getElem?_getD,h,atV]
theorem allSz_atV (l:List At):allSz (l.map atV) 7↔True:=iff_true_intro (allSz_map _ _ _ fun _=>rfl)
theorem atC_0 (c:At):(atC c)[0]? = some (.int .i64 c.pid):=rfl
theorem atC_2 (c:At):(atC c)[2]? = some (.str c.c.path):=rfl
theorem atC_3 (c:At):(atC c)[3]? = some (.str c.c.other):=rfl
theorem atC_6 (c:At):(atC c)[6]? = some (.slice (c.c.data.map bV) .none):=rfl
theorem atC_len (c:At):(atC c).length=7:=rfl
theorem atC_ca (c:At):((atC c).drop 1).take 6=caC c.c:=rfl
theorem clL_atV (n:Nat) (l:List At):AV.clL n (l.map atV):=clL_all fun x hx=>by
 obtain ⟨c, _,rfl⟩:=List.mem_map.1 hx
 exact ⟨trivial,trivial,trivial,trivial,trivial,trivial,clL_bV _ _,trivial⟩
attribute [push_cast] getD_atV allSz_atV atC_0 atC_2 atC_3 atC_6 atC_len atC_ca
theorem getD_crV {l:List Cr} {i:Nat} {d:AV} (h:i<l.length):(l.map crV).getD i d=.agg (crC (l.getD i cr0)):=by
 simp [List.getD_eq_getElem?_getD,h,crV]
theorem allSz_crV (l:List Cr):allSz (l.map crV) 3↔True:=iff_true_intro (allSz_map _ _ _ fun _=>rfl)
theorem crC_2 (c:Cr):(crC c)[2]? = some (.slice (c.gs.map iV) .none):=rfl
theorem crC_len (c:Cr):(crC c).length=3:=rfl
attribute [push_cast] getD_crV allSz_crV crC_2 crC_len
def bigA (a:At):Bool:=decide ((100:Int)<a.c.path.length)||decide ((100:Int)<a.c.other.length)||decide ((100:Int)<a.c.data.length)
def bigC (c:Cr):Bool:=decide ((10:Int)<c.gs.length)
def fewF (l:List At) (cs:List Cr):Bool:=!l.any bigA&&(!cs.any bigC&&(decide ((l.length:Int)≤60)&&decide ((cs.length:Int)≤6)))
theorem fewF_ok {l:List At} {cs:List Cr} (h:fewF l cs=true):(∀a∈l,a.c.path.length≤100∧a.c.other.length≤100∧a.c.data.length≤100)∧(∀c∈cs,c.gs.length≤10)∧l.length≤60∧cs.length≤6:=by
 unfold fewF at h
 simp only [Bool.and_eq_true,Bool.not_eq_true',decide_eq_true_eq] at h
 obtain ⟨h1,h2,h3,h4⟩:=h
 refine ⟨fun a ha=>?_,fun c hc=>?_,by omega,by omega⟩
 ·
  have:=List.any_eq_false.1 h1 a ha
  simp only [bigA,Bool.not_eq_true,Bool.or_eq_false_iff,decide_eq_false_iff_not,Int.not_lt] at this
  exact ⟨by omega,by omega,by omega⟩
 ·
  have:=List.any_eq_false.1 h2 c hc
  simp only [bigC,decide_eq_true_eq,Int.not_lt] at this
  omega
attribute [push_cast] erL_rV clL_atV
end Go.Proofs.YtmgnbgniikjhdaaGreat
namespace Go.Proofs.YtmgnbgniikjhdaaGreat
open Go.Ab
set_option maxRecDepth 8000
set_option maxHeartbeats 400000
section
variable {P:Program}
theorem rt2_ {n:Nat} {fl:FL} {h:List Blk} {live:List Nat} {id:Nat} {l l1 m l2:List Oper} {x y:Oper} {Q:Exit→AS→Prop} (V:List Tmp) (q:RQ) (hl:l1++x::(m++y::l2)=l) (hok:okTwo q l.toArray l1.length (l1.length+1+m.length)=true∧P.follows .mixedOrders=true)
 (hd:dawp P q (gdOf l.toArray) n l1 (fget fl) h live fun fr h live=>dawp P q (gdOf l.toArray) n (x::(m++y::l2)) fr h live (endN Q n V)∧dawp P q (gdOf l.toArray) n (y::x::(m++l2)) fr h live (endN Q n V)):AwpC P (.region id l.toArray true) Q ⟨n,fget fl,h,live⟩:=
 awp_region_two V q hl hok hd
theorem awp_seqG {x y:Code} {Q:Exit→AS→Prop} {S:AS} {X:Type} (I:X→AS) (h1:AwpC P x (thenQ (fun S'=>∃a,Trunc S' (I a)∧S.h.length≤(I a).h.length) Q) S) (h2:∀a,AwpC P y Q (I a)):AwpC P (.seq x y) Q S:=by
 refine awp_seq ?_
 intro w G a hs
 refine wp_mono (h1 w G a hs) fun e a' w' q=>?_
 obtain ⟨G',S',q,hs',hev⟩:=q
 cases e with
 | normal=>
  obtain ⟨b,ht,hl⟩:=q
  obtain ⟨k1,k2⟩:=hs'.trunc ht hev (by rw [←hs.heap.len];exact hl)
  exact ⟨_,I b,h2 b,k1,k2⟩
 | _=>exact ⟨G',S',q,hs',hev⟩
end
theorem SysAt.set {h:List Blk} {ks kt kb:Nat} {T:Tab} {ps:List Pr} (hs:SysAt h ks kt kb T ps) {i:Nat} (h1:i≠ks) (h2:i≠kt) (h3:∀j,j<ps.length→i≠kb+2*j) (x:Blk):SysAt (h.set i x) ks kt kb T ps:=
 ⟨getSet hs.s (Ne.symm h1),getSet hs.t (Ne.symm h2),fun j hj=>getSet (hs.p j hj) (Ne.symm (h3 j hj)),hs.st,hs.sb,hs.tb,hs.ok,hs.rt,hs.gs,hs.few⟩
def wRaw:List Rw:=[⟨2,493,0,0,0,[],[],[],0⟩,⟨2,488,1,1,1,[100],[],[],0⟩,⟨1,420,1,1,2,[102],[104,105],[],0⟩,⟨3,511,0,0,1,[115],[],[100,47,102],0⟩]
def wT0:Tab:=match buildF 9 wRaw with
 | .inr T=>T
 | .inl _=>⟨0,[]⟩
theorem wBuild:buildF 9 wRaw=.inr wT0:=by kernel_rfl
def wCs:List Cr:=[⟨1,1,[]⟩,⟨0,0,[]⟩]
def wP0:List Pr:=wCs.map (pr1 18)
def wA1:Ca:=⟨13,[115],[],1,0,[]⟩
def wA2:Ca:=⟨10,[100,47,102],[],0,0,[]⟩
def wA3:Ca:=⟨14,[],[],0,9,[]⟩
def wA4:Ca:=⟨16,[],[],0,0,[]⟩
def wD1:Rs×Tab×List Pr:=doF wT0 wP0 0 wA1
def wD2:Rs×Tab×List Pr:=doF wD1.2.1 wD1.2.2 1 wA2
def wD3:Rs×Tab×List Pr:=doF wD2.2.1 wD2.2.2 0 wA3
def wD4:Rs×Tab×List Pr:=doF wD3.2.1 wD3.2.2 0 wA4
theorem w1e:wD1.1.err=0:=by kernel_rfl
theorem w1n:wD1.1.n=0:=by kernel_rfl
theorem w2e:wD2.1.err=0:=by kernel_rfl
theorem w3d:wD3.1.data=[104,105]:=by kernel_rfl
theorem w3u:wD3.2.1.used=4:=by kernel_rfl
theorem w4e:wD4.1.err=0:=by kernel_rfl
theorem w4u:wD4.2.1.used=3:=by kernel_rfl
theorem w4m:umQ wD4.2.2 1=18:=by kernel_rfl
theorem w4o:openL wD4.2.2=[]:=by kernel_rfl
theorem w0u:wT0.used=4:=by kernel_rfl
theorem kDo {ks kt kb:Nat} {T:Tab} {ps:List Pr} {h:List Blk} {live:List Nat} (hy:SysAt h ks kt kb T ps) (pid:Int) (ca:Ca) {d:Rs×Tab×List Pr} (e:doF T ps pid ca=d) (h1:ca.path.length≤1000) (h2:ca.other.length≤1000) (h3:ca.data.length≤1000):ACalls Tryz.prog 43 [.ptr ks 0,.int .i64 pid,.agg (caC ca)] h live fun x h' l'=>
 (x=.agg (rsC d.1)∧SysAt h' ks kt kb d.2.1 d.2.2∧h'.length=h.length∧(∀i,i≠kt→(∀j,j<ps.length→i≠kb+2*j)→h'[i]? = h[i]?)∧l'=live)∧HCl h':=
 e▸c43 ks kt kb T ps h live hy pid ca h1 h2 h3
theorem wl0:(List.map (pr1 18) wCs).length=2:=rfl
theorem wl1:wD1.2.2.length=2:=by kernel_rfl
theorem wl2:wD2.2.2.length=2:=by kernel_rfl
theorem wl3:wD3.2.2.length=2:=by kernel_rfl
theorem rsC_0 (r:Rs):(rsC r)[0]? = some (.int .i64 r.err):=rfl
theorem rsC_1 (r:Rs):(rsC r)[1]? = some (.int .i64 r.n):=rfl
theorem rsC_9 (r:Rs):(rsC r)[9]? = some (.str r.text):=rfl
theorem rsC_10 (r:Rs):(rsC r)[10]? = some (.slice (r.names.map .str) .none):=rfl
theorem rsC_11 (r:Rs):(rsC r)[11]? = some (.slice (r.data.map bV) .none):=rfl
attribute [push_cast] rsC_0 rsC_1 rsC_9 rsC_10 rsC_11
theorem wDT:decide True=true:=rfl
theorem wHi:decide ([UInt8.ofNat (UInt8.toNat 104),UInt8.ofNat (UInt8.toNat 105)]=[104,105])=true:=by decide
theorem wE0:bE (.inr wT0)=0:=rfl
theorem decI (a:Int):decide (a=a)=true:=by simp
theorem decB (a:List UInt8):decide (a=a)=true:=by simp
theorem wRaw_ok:∀r∈wRaw,RwOk r:=by
 intro r hr
 simp only [wRaw,List.mem_cons,List.not_mem_nil,or_false] at hr
 rcases hr with rfl | rfl | rfl | rfl<;>exact ⟨by decide,by decide,by decide⟩
theorem wT0_ok:wT0.Ok:=buildF_ok wRaw_ok wBuild
theorem wT0_rt:wT0.Rt:=Tab.Rt.build wBuild
theorem caC_w1:caC wA1=[.int .i64 13,.str [115],.str [],.int .i64 1,.int .i64 0,.slice [] .none]:=rfl
theorem wCs_eq:wCs.map crV=[.agg [.int .i64 1,.int .i64 1,.slice [] .none],.agg [.int .i64 0,.int .i64 0,.slice [] .none]]:=rfl
theorem begun_el {h:List Blk} {live:List Nat} {um:Int} {cs:List Cr} {room:Int} {l:List Rw} {x:AV} {h':List Blk} {l':List Nat} (hb:begunK h live um cs (builtF room l ⟨0,0,[]⟩) x h' l') :
 l'=live∧∃p,x=.tup [p,.bool (builtF room l ⟨0,0,[]⟩).isSome]∧∀T,builtF room l ⟨0,0,[]⟩=some T→(∀c∈cs,c.gs.length≤10)→cs.length≤6→∃n,p=.ptr (n+1) 0∧SysAt h' (n+1) n (n+3) T (cs.map (pr1 um)):=by
 obtain ⟨rfl,hb⟩:=hb
 refine ⟨rfl,?_⟩
 rcases hb with ⟨e,rfl,rfl⟩ | ⟨T,g,e,rfl,rfl⟩
 · rw [e];exact ⟨_,rfl,fun T hT=>nomatch hT⟩
 ·
  rw [e]
  refine ⟨_,rfl,fun T' hT' hg hf=>?_⟩
  cases hT'
  exact ⟨_,rfl,newH_at _ um (builtF_ok e).1 (built_rt e) (fun c hc=>Nat.le_trans (hg c hc) (by decide)) (Nat.le_trans hf (by decide))⟩
theorem getD_mem {l:List At} {i:Nat} (h:i<l.length):l.getD i at0∈l:=by
 rw [List.getD_eq_getElem?_getD,List.getElem?_eq_getElem h];exact List.getElem_mem h
end Go.Proofs.YtmgnbgniikjhdaaGreat
