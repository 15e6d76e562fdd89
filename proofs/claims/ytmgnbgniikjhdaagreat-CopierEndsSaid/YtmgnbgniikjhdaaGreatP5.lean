import Derived.Test.YtmgnbgniikjhdaaGreatP4
/-
  CALLS: entries are taken away and moved.
-/
set_option linter.unusedVariables false
set_option linter.unusedSimpArgs false
namespace Go.Proofs.YtmgnbgniikjhdaaGreat
open Go.Ab
set_option maxRecDepth 8000
set_option maxHeartbeats 400000
theorem c175 (T:Tab) (k:Nat) (i d:Int) (h:List Blk) (live:List Nat) (hk:h[k]? = some (tabBlk T)) (hT:T.Ok):AC Tryz.prog 175 [.ptr k 0,.int .i64 i,.int .i64 d] h live (.bool (belowL T d 24 i)):=by
 refine aq_ Tryz.func175 fun hH hX=>?_
 have hkl:=lt_of_get hk
 refine rg_ [0,1,2] ?_
 refine sk_ fun K1 hK1=>?_
 refine rg_ [0,1,2,7] ?_
 refine awp_block ?_
 refine lp_ (X:={x:Nat×Int // x.1≤24∧belowL T d 24 i=belowL T d (24 - x.1) x.2}) (fun x=>⟨Tryz.f175.ntmps,fget [(0,.ptr k 0),(1,.int .i64 x.1.2),(2,.int .i64 d),(7,.int .i64 (x.1.1:Nat))],h,live⟩) (fun x=>24 - x.1.1) (⟨(0,i),by dsimp only;omega,rfl⟩) ?_ (fun ⟨⟨m,j⟩,hm,hv⟩=>?_)
 ·
  try dsimp only
  exact ts_ hH
 try dsimp only
 dsimp only at hm hv
 refine rg_ [0,1,2,7,8] ?_
 refine sk_ fun K2 hK2=>?_
 refine cx_ (fun hb1=>?_) (fun hb1=>?_)
 rotate_left
 ·
  have hme:m=24:=by omega
  subst hme
  refine awp_exit (up_ ?_)
  refine hK1 _ ?_
  refine rg_ [6] ?_
  refine ret_ ?_
  refine fq_ Tryz.results175 ?_
  exact rk_ (by rw [hv];rfl)
 refine skp_ ?_
 refine hK2 _ ?_
 refine sk_ fun K3 hK3=>?_
 refine awp_block ?_
 refine sk_ fun K4 hK4=>?_
 refine rg_ [0,1,2,7,15] ?_
 refine cdy_ (ht:=fun hb2=>?_) (hf:=fun hb2=>?_)
 ·
  refine awp_exit (up_ ?_)
  refine hK1 _ ?_
  refine rg_ [6] ?_
  refine ret_ ?_
  refine fq_ Tryz.results175 ?_
  exact rk_ (by rw [hv,show 24 - m=(24 - (m+1))+1 by omega];exact congrArg AV.bool (if_pos hb2))
 have hb2':¬(j=d∨j=0):=by simpa using hb2
 refine skp_ ?_
 refine hK4 _ ?_
 refine rt_ [0,1,2,7] ?_
 refine sg_ ?_
 refine cl_ (hc:=c129 T k _ _ _ hk hT) (k:=?_)
 refine srn_ ?_
 refine hK3 _ ?_
 refine rt_ [0,1,2,7] ?_
 refine srn_ ?_
 refine ln_ ⟨(m+1,T.parent j),by dsimp only;omega,by rw [hv,show 24 - m=(24 - (m+1))+1 by omega];exact if_neg hb2'⟩ ?_
 try dsimp only
 exact ts_ hH
theorem c176 (c:Cr) (a b a2 b2:Int) (s s2:List UInt8) (e n d m:Nd) (h:List Blk) (live:List Nat) (hm:NdOk m):AC Tryz.prog 176 [.agg [.int .i64 c.uid,.int .i64 c.gid,.slice (c.gs.map iV) .none],.agg (plC a s b e n),.agg (plC a2 s2 b2 d m)] h live (.int .i64 (overF c n d m)):=by
 refine aq_ Tryz.func176 fun hH hX=>?_
 have hm2:=hm.2.1
 refine rg_ [3,4,5] ?_
 refine rsq_ [3,5,7,8] ⟨true,[],[],[],[],[],0⟩ (fun _=>⟨by kernel_rfl,by kernel_rfl⟩) ?_
 refine sre_ ?_
 refine sk_ fun K1 hK1=>?_
 refine awp_block ?_
 refine rs_ [5,7,8,17] ?_
 refine sg_ ?_
 refine cl_ (hc:=c226 c a2 b2 s2 d m _ _) (k:=?_)
 refine sre_ ?_
 refine cx_ (fun hb1=>?_) (fun hb1=>?_)
 ·
  refine rg_ [6] ?_
  refine ret_ ?_
  refine fq_ Tryz.results176 ?_
  exact rk_ (by unfold overF;rw [if_pos hb1])
 refine rg_ [5,7,8,22] ?_
 refine cx_ (fun hb2=>?_) (fun hb2=>?_)
 ·
  refine rg_ [6] ?_
  refine ret_ ?_
  refine fq_ Tryz.results176 ?_
  exact rk_ (by unfold overF;rw [if_neg (by rw [hb1];decide),if_pos hb2])
 refine rg_ [5,28] ?_
 refine cx_ (fun hb3=>?_) (fun hb3=>?_)
 ·
  refine rg_ [6] ?_
  refine ret_ ?_
  refine fq_ Tryz.results176 ?_
  exact rk_ (by unfold overF;rw [if_neg (by rw [hb1];decide),if_neg (by omega),if_pos hb3])
 refine rg_ [34] ?_
 refine cx_ (fun hb4=>?_) (fun hb4=>?_)
 ·
  refine rg_ [6] ?_
  refine ret_ ?_
  refine fq_ Tryz.results176 ?_
  exact rk_ (by unfold overF;rw [if_neg (by rw [hb1];decide),if_neg (by omega),if_neg (by omega),if_pos hb4])
 refine skp_ ?_
 refine hK1 _ ?_
 refine rg_ [6] ?_
 refine ret_ ?_
 refine fq_ Tryz.results176 ?_
 exact rk_ (by unfold overF;rw [if_neg (by rw [hb1];decide),if_neg (by omega),if_neg (by omega),if_neg (by omega)])
theorem c115 (T:Tab) (k:Nat) (c:Cr) (p:List UInt8) (o:List Int) (q:Cap) (h:List Blk) (live:List Nat) (hk:h[k]? = some (tabBlk T)) (hT:T.Ok) (hgs:c.gs.length≤17592186044416) (hR:T.Rt) (hp:p.length≤9223372036854775807) (ho:o.length≤1000000):ACalls Tryz.prog 115 [.ptr k 0,.agg [.int .i64 c.uid,.int .i64 c.gid,.slice (c.gs.map iV) .none],.str p,.slice (o.map iV) q] h live (ret (.int .i64 (unlinkF T c p o).1) (h.set k (tabBlk (unlinkF T c p o).2)) live):=by
 refine aq_ Tryz.func115 fun hH hX=>?_
 have hkl:=lt_of_get hk
 have hs1:∀(y:Blk) (g:List Blk),(h++g).set k y=h.set k y++g:=fun y g=>setApp hk
 have hse:h.set k (tabBlk T)=h:=set_self hk
 have hcl:∀x,HCl (h.set k (tabBlk x)):=fun x=>hcl_tab hH _ _
 have hk2:∀x:Blk,(h.set k x)[k]? = some x:=fun x=>get_setk hkl
 have hsl:∀x:Blk,(h.set k x).length=h.length:=fun x=>List.length_set ..
 have hss:∀x y:Blk,(h.set k x).set k y=h.set k y:=fun x y=>by rw [List.set_set]
 have hs3:∀(x y:Blk) (g:List Blk),(h.set k x++g).set k y=h.set k y++g:=fun x y g=>by rw [setApp (hk2 x),hss]
 have sx:=(And.intro @hs1 (And.intro @hs3 (And.intro @hk (And.intro @hsl (And.intro @hss sx0)))))
 refine rg_ [0,2,3,5] ?_
 refine rs_ [0,3,9,10] ?_
 refine sg_ ?_
 refine cl_ (hc:=c172 T k c p _ _ (atApp hk) hT hgs hR hp) (k:=?_)
 refine sre_ ?_
 refine sk_ fun K1 hK1=>?_
 refine rg_ [0,3,9,10,19] ?_
 refine cx_ (fun hb1=>?_) (fun hb1=>?_)
 ·
  refine rg_ [8] ?_
  refine ret_ ?_
  refine gq_ (h1:=h.set k (tabBlk T)) Tryz.results115 ?_ (hh:=(by rw [hse];exact ⟨_,rfl⟩)) (hH:=(hcl _))
  exact ⟨by unfold unlinkF;rw [if_pos hb1],by unfold unlinkF;rw [if_pos hb1],rfl⟩
 refine skp_ ?_
 refine hK1 _ ?_
 refine sk_ fun K2 hK2=>?_
 refine rg_ [0,3,9,24] ?_
 refine cx_ (fun hb2=>?_) (fun hb2=>?_)
 ·
  refine rg_ [8] ?_
  refine ret_ ?_
  refine gq_ (h1:=h.set k (tabBlk T)) Tryz.results115 ?_ (hh:=(by rw [hse];exact ⟨_,rfl⟩)) (hH:=(hcl _))
  exact ⟨by unfold unlinkF;rw [if_neg (fun h=>h hb1),if_pos hb2],by unfold unlinkF;rw [if_neg (fun h=>h hb1),if_pos hb2],rfl⟩
 refine skp_ ?_
 refine hK2 _ ?_
 refine rs_ [0,3,9] ?_
 refine sg_ ?_
 refine cl_ (hc:=c173 T k (rD T c p false) (rN T c p false) (rS T c p false) (T.get (rD T c p false)).1 (T.get (rN T c p false)).1 _ _ (atApp hk) hT) (k:=?_)
 refine re_ ?_
 refine rs_ [] ?_
 refine sg_ ?_
 refine cl_ (hc:=c108 _ k _ o _ _ _ (atApp (hk2 _)) (cutF_ok hT _ _) ho) (k:=?_)
 refine re_ ?_
 refine rg_ [8] ?_
 refine ret_ ?_
 refine gq_ (h1:=h.set k _) Tryz.results115 ?_ (hh:=(⟨_,rfl⟩)) (hH:=(hcl _))
 exact ⟨by unfold unlinkF;rw [if_neg (fun h=>h hb1),if_neg hb2],by unfold unlinkF;rw [if_neg (fun h=>h hb1),if_neg hb2],rfl⟩
theorem c116 (T:Tab) (k:Nat) (c:Cr) (p:List UInt8) (h:List Blk) (live:List Nat) (hk:h[k]? = some (tabBlk T)) (hT:T.Ok) (hgs:c.gs.length≤17592186044416) (hR:T.Rt) (hp:p.length≤9223372036854775807):ACalls Tryz.prog 116 [.ptr k 0,.agg [.int .i64 c.uid,.int .i64 c.gid,.slice (c.gs.map iV) .none],.str p] h live (ret (.int .i64 (rmdirF T c p).1) (h.set k (tabBlk (rmdirF T c p).2)) live):=by
 refine aq_ Tryz.func116 fun hH hX=>?_
 have hkl:=lt_of_get hk
 have hs1:∀(y:Blk) (g:List Blk),(h++g).set k y=h.set k y++g:=fun y g=>setApp hk
 have hse:h.set k (tabBlk T)=h:=set_self hk
 have hcl:∀x,HCl (h.set k (tabBlk x)):=fun x=>hcl_tab hH _ _
 have hk2:∀x:Blk,(h.set k x)[k]? = some x:=fun x=>get_setk hkl
 have hsl:∀x:Blk,(h.set k x).length=h.length:=fun x=>List.length_set ..
 have hss:∀x y:Blk,(h.set k x).set k y=h.set k y:=fun x y=>by rw [List.set_set]
 have hs3:∀(x y:Blk) (g:List Blk),(h.set k x++g).set k y=h.set k y++g:=fun x y g=>by rw [setApp (hk2 x),hss]
 have hn2:=(get_ok hT (rN T c p false)).2.1
 have sx:=(And.intro @hs1 (And.intro @hs3 (And.intro @hk (And.intro @hsl (And.intro @hss sx0)))))
 refine rg_ [0,2,4] ?_
 refine rs_ [0,7,8] ?_
 refine sg_ ?_
 refine cl_ (hc:=c172 T k c p _ _ (atApp hk) hT hgs hR hp) (k:=?_)
 refine sre_ ?_
 refine sk_ fun K1 hK1=>?_
 refine awp_block ?_
 refine rg_ [0,7,8,16] ?_
 refine cx_ (fun hb1=>?_) (fun hb1=>?_)
 ·
  refine rg_ [6] ?_
  refine ret_ ?_
  refine gq_ (h1:=h.set k (tabBlk T)) Tryz.results116 ?_ (hh:=(by rw [hse];exact ⟨_,rfl⟩)) (hH:=(hcl _))
  exact ⟨by unfold rmdirF;rw [if_pos hb1],by unfold rmdirF;rw [if_pos hb1],rfl⟩
 refine rg_ [0,7,20] ?_
 refine cx_ (fun hb2=>?_) (fun hb2=>?_)
 ·
  refine rg_ [6] ?_
  refine ret_ ?_
  refine gq_ (h1:=h.set k (tabBlk T)) Tryz.results116 ?_ (hh:=(by rw [hse];exact ⟨_,rfl⟩)) (hH:=(hcl _))
  exact ⟨by unfold rmdirF;rw [if_neg (fun h=>h hb1),if_pos hb2],by unfold rmdirF;rw [if_neg (fun h=>h hb1),if_pos hb2],rfl⟩
 refine rg_ [0,7,25] ?_
 refine cx_ (fun hb3=>?_) (fun hb3=>?_)
 ·
  refine rg_ [6] ?_
  refine ret_ ?_
  refine gq_ (h1:=h.set k (tabBlk T)) Tryz.results116 ?_ (hh:=(by rw [hse];exact ⟨_,rfl⟩)) (hH:=(hcl _))
  exact ⟨by unfold rmdirF;rw [if_neg (fun h=>h hb1),if_neg (fun h=>h hb2),if_pos hb3],by unfold rmdirF;rw [if_neg (fun h=>h hb1),if_neg (fun h=>h hb2),if_pos hb3],rfl⟩
 refine skp_ ?_
 refine hK1 _ ?_
 refine rs_ [0,7] ?_
 refine sg_ ?_
 refine cl_ (hc:=c173 T k (rD T c p false) (rN T c p false) (rS T c p false) (T.get (rD T c p false)).1 (T.get (rN T c p false)).1 _ _ (atApp hk) hT) (k:=?_)
 refine re_ ?_
 refine rs_ [] ?_
 refine sg_ ?_
 refine cl_ (hc:=c161 _ k _ _ _ (atApp (hk2 _)) (cutF_ok hT _ _)) (k:=?_)
 refine re_ ?_
 refine rg_ [6] ?_
 refine ret_ ?_
 refine gq_ (h1:=h.set k _) Tryz.results116 ?_ (hh:=(⟨_,rfl⟩)) (hH:=(hcl _))
 exact ⟨by unfold rmdirF;rw [if_neg (fun h=>h hb1),if_neg (fun h=>h hb2),if_neg (by omega)],by unfold rmdirF;rw [if_neg (fun h=>h hb1),if_neg (fun h=>h hb2),if_neg (by omega)],rfl⟩
theorem c117 (T:Tab) (k:Nat) (c:Cr) (p p2:List UInt8) (o:List Int) (q:Cap) (h:List Blk) (live:List Nat) (hk:h[k]? = some (tabBlk T)) (hT:T.Ok) (hgs:c.gs.length≤17592186044416) (hR:T.Rt) (hp:p.length≤9223372036854775807) (hp2:p2.length≤9223372036854775807) (ho:o.length≤1000000):ACalls Tryz.prog 117 [.ptr k 0,.agg [.int .i64 c.uid,.int .i64 c.gid,.slice (c.gs.map iV) .none],.str p,.str p2,.slice (o.map iV) q] h live (ret (.int .i64 (renameF T c p p2 o).1) (h.set k (tabBlk (renameF T c p p2 o).2)) live):=by
 refine aq_ Tryz.func117 fun hH hX=>?_
 have hkl:=lt_of_get hk
 have hs1:∀(y:Blk) (g:List Blk),(h++g).set k y=h.set k y++g:=fun y g=>setApp hk
 have hse:h.set k (tabBlk T)=h:=set_self hk
 have hcl:∀x,HCl (h.set k (tabBlk x)):=fun x=>hcl_tab hH _ _
 have hk2:∀x:Blk,(h.set k x)[k]? = some x:=fun x=>get_setk hkl
 have hsl:∀x:Blk,(h.set k x).length=h.length:=fun x=>List.length_set ..
 have hss:∀x y:Blk,(h.set k x).set k y=h.set k y:=fun x y=>by rw [List.set_set]
 have hs3:∀(x y:Blk) (g:List Blk),(h.set k x++g).set k y=h.set k y++g:=fun x y g=>by rw [setApp (hk2 x),hss]
 have hn2:=(get_ok hT (rD T c p2 false)).2.1
 have hnm:=resF_nm T c p2 false
 have hB:∀U:Tab,HCl (h.set k (tabBlk U)++[.cells [AV.int .i64 c.uid,.int .i64 c.gid,.slice (c.gs.map iV) .none],.cells (plC (rD T c p false) (rS T c p false) (rN T c p false) (T.get (rD T c p false)).1 (T.get (rN T c p false)).1),.cells (plC (rD T c p2 false) (rS T c p2 false) (rN T c p2 false) (T.get (rD T c p2 false)).1 (T.get (rN T c p2 false)).1)]):=fun U=>by
  have:=HCl.snoc (HCl.snoc (HCl.snoc (b:=.cells [AV.int .i64 c.uid,.int .i64 c.gid,.slice (c.gs.map iV) .none]) (hcl U) (by simp [Blk.cl,AV.cl,AV.clL,clL_iV, -List.map_map])) (b:=.cells (plC (rD T c p false) (rS T c p false) (rN T c p false) (T.get (rD T c p false)).1 (T.get (rN T c p false)).1)) (clL_plC _ _ _ _ _ _)) (b:=.cells (plC (rD T c p2 false) (rS T c p2 false) (rN T c p2 false) (T.get (rD T c p2 false)).1 (T.get (rN T c p2 false)).1)) (clL_plC _ _ _ _ _ _)
  rw [List.append_assoc,List.append_assoc] at this;exact this
 have sx:=(And.intro @hs1 (And.intro @hs3 (And.intro @hk (And.intro @hsl (And.intro @hss sx0)))))
 refine rg_ [0,2,3,4,6] ?_
 refine rs_ [0,3,4,6,11,12] ?_
 refine sg_ ?_
 refine cl_ (hc:=c172 T k c p _ _ (atApp hk) hT hgs hR hp) (k:=?_)
 refine sre_ ?_
 refine sk_ fun K1 hK1=>?_
 refine rg_ [0,3,4,6,11,12,25] ?_
 refine cx_ (fun hb1=>?_) (fun hb1=>?_)
 ·
  refine rg_ [10] ?_
  refine ret_ ?_
  refine gq_ (h1:=h.set k (tabBlk T)) Tryz.results117 ?_ (hh:=(by rw [hse];exact ⟨_,rfl⟩)) (hH:=(hcl _))
  exact ⟨by unfold renameF;rw [if_pos hb1],by unfold renameF;rw [if_pos hb1],rfl⟩
 refine skp_ ?_
 refine hK1 _ ?_
 refine rs_ [0,4,6,11,12,13] ?_
 refine sg_ ?_
 refine cl_ (hc:=c174 T k c p2 _ _ (atApp hk) hT hgs hR hp2) (k:=?_)
 refine sre_ ?_
 refine sk_ fun K2 hK2=>?_
 refine awp_block ?_
 refine rg_ [0,4,6,11,12,13,34] ?_
 refine cx_ (fun hb2=>?_) (fun hb2=>?_)
 ·
  refine rg_ [10] ?_
  refine ret_ ?_
  refine gq_ (h1:=h.set k (tabBlk T)) Tryz.results117 ?_ (hh:=(by rw [hse];exact ⟨_,rfl⟩)) (hH:=(hcl _))
  exact ⟨by unfold renameF;rw [if_neg (fun h=>h hb1),if_pos hb2],by unfold renameF;rw [if_neg (fun h=>h hb1),if_pos hb2],rfl⟩
 refine rg_ [0,4,6,11,13,38] ?_
 refine cx_ (fun hb3=>?_) (fun hb3=>?_)
 ·
  refine rg_ [10] ?_
  refine ret_ ?_
  refine gq_ (h1:=h.set k (tabBlk T)) Tryz.results117 ?_ (hh:=(by rw [hse];exact ⟨_,rfl⟩)) (hH:=(hcl _))
  exact ⟨by unfold renameF;rw [if_neg (fun h=>h hb1),if_neg (fun h=>h hb2),if_pos hb3],by unfold renameF;rw [if_neg (fun h=>h hb1),if_neg (fun h=>h hb2),if_pos hb3],rfl⟩
 refine rs_ [0,4,6,11,13,43] ?_
 refine sg_ ?_
 refine cl_ (hc:=c128 T k c _ _ _ _ _ (atApp hk) hT hgs) (k:=?_)
 refine sre_ ?_
 refine cx_ (fun hb4=>?_) (fun hb4=>?_)
 ·
  refine rg_ [10] ?_
  refine ret_ ?_
  refine gq_ (h1:=h.set k (tabBlk T)) Tryz.results117 ?_ (hh:=(by rw [hse];exact ⟨_,rfl⟩)) (hH:=(hcl _))
  exact ⟨by unfold renameF;rw [if_neg (fun h=>h hb1),if_neg (fun h=>h hb2),if_neg hb3,if_pos hb4],by unfold renameF;rw [if_neg (fun h=>h hb1),if_neg (fun h=>h hb2),if_neg hb3,if_pos hb4],rfl⟩
 refine rg_ [0,4,6,11,13,51] ?_
 refine cx_ (fun hb5=>?_) (fun hb5=>?_)
 ·
  refine rg_ [10] ?_
  refine ret_ ?_
  refine gq_ (h1:=h.set k (tabBlk T)) Tryz.results117 ?_ (hh:=(by rw [hse];exact ⟨_,rfl⟩)) (hH:=(hcl _))
  exact ⟨by unfold renameF;rw [if_neg (fun h=>h hb1),if_neg (fun h=>h hb2),if_neg hb3,if_neg (by rw [hb4];decide),if_pos hb5],by unfold renameF;rw [if_neg (fun h=>h hb1),if_neg (fun h=>h hb2),if_neg hb3,if_neg (by rw [hb4];decide),if_pos hb5],rfl⟩
 refine rs_ [0,4,6,11,13,59] ?_
 refine sg_ ?_
 refine cg_ (hc:=fun hg=>c175 T k _ _ _ _ (atApp hk) hT) (k:=?_)
 refine sre_ ?_
 refine cx_ (fun hb6=>?_) (fun hb6=>?_)
 ·
  refine rg_ [10] ?_
  refine ret_ ?_
  refine gq_ (h1:=h.set k (tabBlk T)) Tryz.results117 ?_ (hh:=(by rw [hse];exact ⟨_,rfl⟩)) (hH:=(hcl _))
  exact ⟨by unfold renameF;rw [if_neg (fun h=>h hb1),if_neg (fun h=>h hb2),if_neg hb3,if_neg (by rw [hb4];decide),if_neg hb5,if_pos hb6],by unfold renameF;rw [if_neg (fun h=>h hb1),if_neg (fun h=>h hb2),if_neg hb3,if_neg (by rw [hb4];decide),if_neg hb5,if_pos hb6],rfl⟩
 have hb6':¬((T.get (rN T c p false)).1.kind=2∧belowL T (rN T c p false) 24 (rD T c p2 false)=true):=by
  rintro ⟨h1,h2⟩
  rw [hb6 h1] at h2;cases h2
 refine rg_ [0,4,6,11,13,74] ?_
 refine cx_ (fun hb7=>?_) (fun hb7=>?_)
 ·
  refine rg_ [10] ?_
  refine ret_ ?_
  refine gq_ (h1:=h.set k (tabBlk T)) Tryz.results117 ?_ (hh:=(by rw [hse];exact ⟨_,rfl⟩)) (hH:=(hcl _))
  exact ⟨by unfold renameF;rw [if_neg (fun h=>h hb1),if_neg (fun h=>h hb2),if_neg hb3,if_neg (by rw [hb4];decide),if_neg hb5,if_neg hb6',if_pos ⟨hb7.1.1,hb7.1.2,hb7.2⟩],by unfold renameF;rw [if_neg (fun h=>h hb1),if_neg (fun h=>h hb2),if_neg hb3,if_neg (by rw [hb4];decide),if_neg hb5,if_neg hb6',if_pos ⟨hb7.1.1,hb7.1.2,hb7.2⟩],rfl⟩
 have hb7':¬(rN T c p2 false=0∧rD T c p2 false≠rD T c p false∧(8:Int)≤(T.get (rD T c p2 false)).1.ents.length):=by
  rintro ⟨h1,h2,h3⟩
  have:=hb7 ⟨h1,h2⟩
  omega
 refine skp_ ?_
 refine hK2 _ ?_
 refine awp_seq_m (X:={U:Tab // U.Ok∧renameF T c p p2 o=renL T c p p2 o U}) (fun U=>⟨Tryz.f117.ntmps,fget [(0,.ptr k 0),(4,.slice (o.map iV) q),(11,.ptr (h.length+1) 0),(13,.ptr (h.length+2) 0)],h.set k (tabBlk U.1)++[.cells [AV.int .i64 c.uid,.int .i64 c.gid,.slice (c.gs.map iV) .none],.cells (plC (rD T c p false) (rS T c p false) (rN T c p false) (T.get (rD T c p false)).1 (T.get (rN T c p false)).1),.cells (plC (rD T c p2 false) (rS T c p2 false) (rN T c p2 false) (T.get (rD T c p2 false)).1 (T.get (rN T c p2 false)).1)],live⟩) ?_ (fun ⟨U,hU,hrU⟩=>?_)
 rotate_left
 ·
  try dsimp only
  have hCU:(cutF U (rD T c p false) (rS T c p false)).Ok:=cutF_ok hU _ _
  have hwn:=withN_ok (s:=rS T c p2 false) (id:=rN T c p false) (get_ok hCU (rD T c p2 false)) (by omega)
  refine rs_ [0,4,11,13] ?_
  refine sg_ ?_
  refine cl_ (hc:=c173 U k (rD T c p false) (rN T c p false) (rS T c p false) (T.get (rD T c p false)).1 (T.get (rN T c p false)).1 _ _ (atApp (hk2 _)) hU) (k:=?_)
  refine re_ ?_
  refine rs_ [0,4,11,13,15] ?_
  refine sg_ ?_
  refine cl_ (hc:=c23 (cutF U (rD T c p false) (rS T c p false)) k _ _ _ (atApp (hk2 _)) hCU) (k:=?_)
  refine sre_ ?_
  refine rs_ [0,4,12,13,15] ?_
  refine sg_ ?_
  refine cl_ (hc:=c134 _ _ _ _ _ (get_ok hCU _) (by omega)) (k:=?_)
  refine sre_ ?_
  refine sk_ fun K3 hK3=>?_
  refine rg_ [0,4,12,13,15,132] ?_
  refine cx_ (fun hb10=>?_) (fun hb10=>?_)
  ·
   refine rt_ [0,4,12,13] ?_
   refine sg_ ?_
   refine cl_ (hc:=c135 (cutF U (rD T c p false) (rS T c p false)) k _ _ _ _ (atApp (hk2 _)) hCU hwn) (k:=?_)
   refine srn_ ?_
   refine hK3 _ ?_
   refine rs_ [12] ?_
   refine sg_ ?_
   refine cl_ (hc:=c108 _ k _ o _ _ _ (atApp (hk2 _)) (by first | exact putT_ok hCU hwn _ | exact hCU) ho) (k:=?_)
   refine re_ ?_
   refine rg_ [10] ?_
   refine ret_ ?_
   refine gq_ (h1:=h.set k _) Tryz.results117 ?_ (hh:=(⟨_,rfl⟩)) (hH:=(hcl _))
   exact ⟨by rw [hrU];unfold renL;rw [if_pos hb10],by rw [hrU];unfold renL;rw [if_pos hb10],rfl⟩
  refine skp_ ?_
  refine hK3 _ ?_
  refine rs_ [12] ?_
  refine sg_ ?_
  refine cl_ (hc:=c108 _ k _ o _ _ _ (atApp (hk2 _)) (by first | exact putT_ok hCU hwn _ | exact hCU) ho) (k:=?_)
  refine re_ ?_
  refine rg_ [10] ?_
  refine ret_ ?_
  refine gq_ (h1:=h.set k _) Tryz.results117 ?_ (hh:=(⟨_,rfl⟩)) (hH:=(hcl _))
  exact ⟨by rw [hrU];unfold renL;rw [if_neg hb10],by rw [hrU];unfold renL;rw [if_neg hb10],rfl⟩
 refine rg_ [0,4,6,11,13,98] ?_
 refine cx_ (fun hb8=>?_) (fun hb8=>?_)
 ·
  refine sk_ fun K4 hK4=>?_
  refine rs_ [0,4,11,13,14] ?_
  refine sg_ ?_
  refine cl_ (hc:=c176 c _ _ _ _ _ _ (T.get (rD T c p false)).1 (T.get (rN T c p false)).1 (T.get (rD T c p2 false)).1 (T.get (rN T c p2 false)).1 _ _ (get_ok hT _)) (k:=?_)
  refine sre_ ?_
  refine rg_ [0,4,11,13,14,104] ?_
  refine cx_ (fun hb9=>?_) (fun hb9=>?_)
  ·
   refine rg_ [10] ?_
   refine ret_ ?_
   refine gq_ (h1:=h.set k (tabBlk T)) Tryz.results117 ?_ (hh:=(by rw [hse];exact ⟨_,rfl⟩)) (hH:=(hcl _))
   exact ⟨by unfold renameF;rw [if_neg (fun h=>h hb1),if_neg (fun h=>h hb2),if_neg hb3,if_neg (by rw [hb4];decide),if_neg hb5,if_neg hb6',if_neg hb7',if_pos hb8,if_pos hb9],by unfold renameF;rw [if_neg (fun h=>h hb1),if_neg (fun h=>h hb2),if_neg hb3,if_neg (by rw [hb4];decide),if_neg hb5,if_neg hb6',if_neg hb7',if_pos hb8,if_pos hb9],rfl⟩
  refine skp_ ?_
  refine hK4 _ ?_
  refine rt_ [0,4,11,13] ?_
  refine sg_ ?_
  refine cl_ (hc:=c173 T k (rD T c p2 false) (rN T c p2 false) (rS T c p2 false) (T.get (rD T c p2 false)).1 (T.get (rN T c p2 false)).1 _ _ (atApp hk) hT) (k:=?_)
  refine rn_ (up_ ?_)
  first
   | exact ⟨⟨_,cutF_ok hT _ _,by unfold renameF;rw [if_neg (fun h=>h hb1),if_neg (fun h=>h hb2),if_neg hb3,if_neg (by rw [hb4];decide),if_neg hb5,if_neg hb6',if_neg hb7',if_pos hb8,if_neg (fun h=>h hb9)]⟩,tf_ (hB _) (fun _ h=>h) (hj:=by rw [List.append_nil]),by simp⟩
   | exact ⟨⟨T,hT,by unfold renameF;rw [if_neg (fun h=>h hb1),if_neg (fun h=>h hb2),if_neg hb3,if_neg (by rw [hb4];decide),if_neg hb5,if_neg hb6',if_neg hb7',if_neg (fun h=>h hb8)]⟩,tf_ (hB _) (fun _ h=>h) (hj:=by rw [List.append_nil,hse]),by simp⟩
 refine skp_ ?_
 first
  | exact ⟨⟨_,cutF_ok hT _ _,by unfold renameF;rw [if_neg (fun h=>h hb1),if_neg (fun h=>h hb2),if_neg hb3,if_neg (by rw [hb4];decide),if_neg hb5,if_neg hb6',if_neg hb7',if_pos hb8,if_neg (fun h=>h hb9)]⟩,tf_ (hB _) (fun _ h=>h) (hj:=by rw [List.append_nil]),by simp⟩
  | exact ⟨⟨T,hT,by unfold renameF;rw [if_neg (fun h=>h hb1),if_neg (fun h=>h hb2),if_neg hb3,if_neg (by rw [hb4];decide),if_neg hb5,if_neg hb6',if_neg hb7',if_neg (fun h=>h hb8)]⟩,tf_ (hB _) (fun _ h=>h) (hj:=by rw [List.append_nil,hse]),by simp⟩
end Go.Proofs.YtmgnbgniikjhdaaGreat
namespace Go.Proofs.YtmgnbgniikjhdaaGreat
open Go.Ab
set_option maxRecDepth 8000
set_option maxHeartbeats 400000
theorem ndC_s4 (n:Nd) (x:AV):(ndC n).set 4 x=[.int .i64 n.kind,.int .i64 n.mode,.int .i64 n.uid,.int .i64 n.gid,x,.slice (n.ents.map eV) .none,.str n.target]:=rfl
attribute [push_cast] ndC_s4
theorem dataN_er (c:Cr) (n:Nd) (b:List UInt8) (q:Cap) (k i:Nat) (j:Int):[AV.ptr k i,.int .i64 j,.agg [.int .i64 n.kind,.int .i64 (writtenF c n.kind n.mode),.int .i64 n.uid,.int .i64 n.gid,.slice (b.map bV) q,.slice (n.ents.map eV) .none,.str n.target]].map AV.er=[.ptr k i,.int .i64 j,.agg (ndC (dataN c n b))]:=by
 simp only [List.map_cons,List.map_nil,AV.er,AV.erL,erL_bV,erL_eV];rfl
theorem erx_ {P:Program} {f:FuncId} {xs ys:List AV} {h:List Blk} {live:List Nat} {K:KT} (e:xs.map AV.er=ys) (hc:ACalls P f ys h live K):ACalls P f xs h live K:=ACalls.er (e▸hc)
theorem dataN_ok {c:Cr} {n:Nd} (hn:NdOk n) {b:List UInt8} (hb:b.length≤1000):NdOk (dataN c n b):=⟨hb,hn.2⟩
def bF (b:Bool) (n:Int):Int:=if b=true then n else 0
theorem c217 (f b:Int) (p:Nat) (h:List Blk) (live:List Nat) (hp:h[p]? = some (.cells [.int .i64 f])):AC Tryz.prog 217 [.int .i64 b,.ptr p 0] h live (.bool (hasF f b)):=by
 refine aq_ Tryz.func217 fun hH hX=>?_
 have hpl:=lt_of_get hp
 have sx:=(And.intro @hp sx0)
 refine rg_ [0,1] ?_
 refine rg_ [3] ?_
 refine ret_ ?_
 refine fq_ Tryz.results217 ?_
 exact rk_ rfl
theorem c156 (f b:Int) (p:Nat) (h:List Blk) (live:List Nat) (hp:h[p]? = some (.cells [.int .i64 f])):AC Tryz.prog 156 [.int .i64 b,.ptr p 0] h live (.bool (hasF f b)):=by
 refine aq_ Tryz.func156 fun hH hX=>?_
 have hpl:=lt_of_get hp
 have sx:=(And.intro @hp sx0)
 refine rg_ [0,1] ?_
 refine rg_ [3] ?_
 refine ret_ ?_
 refine fq_ Tryz.results156 ?_
 exact rk_ rfl
theorem c155 (f:Int) (h:List Blk) (live:List Nat):AC Tryz.prog 155 [.int .i64 f] h live (.bool (flagsF f)):=by
 refine aq_ Tryz.func155 fun hH hX=>?_
 refine rg_ [1] ?_
 refine rg_ [1,3] ?_
 refine rs_ [2] ?_
 refine sg_ ?_
 refine cg_ (hc:=fun hg=>c217 f 3 h.length _ _ (by simp only [push_cast])) (k:=?_)
 refine sg_ ?_
 refine cg_ (hc:=fun hg=>c217 f 16 h.length _ _ (by simp only [push_cast])) (k:=?_)
 refine sg_ ?_
 refine cg_ (hc:=fun hg=>c217 f 2 h.length _ _ (by simp only [push_cast])) (k:=?_)
 refine sg_ ?_
 refine cg_ (hc:=fun hg=>c217 f 8 h.length _ _ (by simp only [push_cast])) (k:=?_)
 refine sg_ ?_
 refine cg_ (hc:=fun hg=>c217 f 4 h.length _ _ (by simp only [push_cast])) (k:=?_)
 refine srt_ ?_
 refine fq_ Tryz.results155 ?_
 exact rk_ rfl
theorem c158 (T:Tab) (k:Nat) (c:Cr) (i:Int) (n:Nd) (b:List UInt8) (q:Cap) (h:List Blk) (live:List Nat) (hk:h[k]? = some (tabBlk T)) (hT:T.Ok) (hgs:c.gs.length≤17592186044416) (hn:NdOk n) (hb:b.length≤1000):ACalls Tryz.prog 158 [.ptr k 0,.agg [.int .i64 c.uid,.int .i64 c.gid,.slice (c.gs.map iV) .none],.int .i64 i,.agg (ndC n),.slice (b.map bV) q] h live (ret (.tup []) (h.set k (tabBlk (putT T i (dataN c n b)).2)) live):=by
 refine aq_ Tryz.func158 fun hH hX=>?_
 have hkl:=lt_of_get hk
 have hs1:∀(y:Blk) (g:List Blk),(h++g).set k y=h.set k y++g:=fun y g=>setApp hk
 have hse:h.set k (tabBlk T)=h:=set_self hk
 have hcl:∀x,HCl (h.set k (tabBlk x)):=fun x=>hcl_tab hH _ _
 have hk2:∀x:Blk,(h.set k x)[k]? = some x:=fun x=>get_setk hkl
 have hsl:∀x:Blk,(h.set k x).length=h.length:=fun x=>List.length_set ..
 have sx:=(And.intro @hs1 (And.intro @hk (And.intro @hsl sx0)))
 refine rg_ [0,2,4,6,8] ?_
 refine rs_ [0,2,8] ?_
 refine sg_ ?_
 refine cl_ (hc:=c179 c _ _ _ _) (k:=?_)
 refine sre_ ?_
 refine rt_ [] ?_
 refine sg_ ?_
 refine cl_ (hc:=erx_ (dataN_er c n b q k 0 i) (c135 T k _ _ _ _ (atApp hk) hT (dataN_ok hn hb))) (k:=?_)
 refine rn_ (up_ ?_)
 refine gq_ (h1:=h.set k _) Tryz.results158 ?_ (hh:=(⟨_,rfl⟩)) (hH:=(hcl _))
 exact rk_ rfl
theorem c104 (T:Tab) (k:Nat) (c:Cr) (um:Int) (p:List UInt8) (f m:Int) (h:List Blk) (live:List Nat) (hk:h[k]? = some (tabBlk T)) (hT:T.Ok) (hgs:c.gs.length≤17592186044416) (hR:T.Rt) (hp:p.length≤9223372036854775807):ACalls Tryz.prog 104 [.ptr k 0,.agg [.int .i64 c.uid,.int .i64 c.gid,.slice (c.gs.map iV) .none],.int .i64 um,.str p,.int .i64 f,.int .i64 m] h live (ret (.tup [.int .i64 (openF T c um p f m).1.1,.int .i64 (openF T c um p f m).1.2]) (h.set k (tabBlk (openF T c um p f m).2)) live):=by
 refine aq_ Tryz.func104 fun hH hX=>?_
 have hkl:=lt_of_get hk
 have hs1:∀(y:Blk) (g:List Blk),(h++g).set k y=h.set k y++g:=fun y g=>setApp hk
 have hse:h.set k (tabBlk T)=h:=set_self hk
 have hcl:∀x,HCl (h.set k (tabBlk x)):=fun x=>hcl_tab hH _ _
 have hk2:∀x:Blk,(h.set k x)[k]? = some x:=fun x=>get_setk hkl
 have hsl:∀x:Blk,(h.set k x).length=h.length:=fun x=>List.length_set ..
 have hB:HCl (h++[.cells [AV.int .i64 c.uid,.int .i64 c.gid,.slice (c.gs.map iV) .none],.cells [.int .i64 f],.cells [.int .i64 (rD T c p (!hasF f 40)),.str (rS T c p (!hasF f 40)),.int .i64 (rN T c p (!hasF f 40))],.cells (ndC (T.get (rN T c p (!hasF f 40))).1)]):=by
  have:=HCl.snoc (HCl.snoc (HCl.snoc (HCl.snoc (b:=.cells [AV.int .i64 c.uid,.int .i64 c.gid,.slice (c.gs.map iV) .none]) hH (by simp [Blk.cl,AV.cl,AV.clL,clL_iV, -List.map_map])) (b:=.cells [.int .i64 f]) ⟨trivial,trivial⟩) (b:=.cells [.int .i64 (rD T c p (!hasF f 40)),.str (rS T c p (!hasF f 40)),.int .i64 (rN T c p (!hasF f 40))]) ⟨trivial,trivial,trivial,trivial⟩) (b:=.cells (ndC (T.get (rN T c p (!hasF f 40))).1)) (cl_ndB _ _)
  rw [List.append_assoc,List.append_assoc,List.append_assoc] at this;exact this
 have sx:=(And.intro @hs1 (And.intro @hk (And.intro @hsl sx0)))
 refine rg_ [0,2,3,5,7,10] ?_
 refine sk_ fun K1 hK1=>?_
 refine rs_ [0,2,3,5,7,10,23] ?_
 refine sg_ ?_
 refine cl_ (hc:=c155 f _ _) (k:=?_)
 refine sre_ ?_
 refine cx_ (fun hb1=>?_) (fun hb1=>?_)
 ·
  refine rg_ [12,13] ?_
  refine ret_ ?_
  refine gq_ (h1:=h.set k (tabBlk T)) Tryz.results104 ?_ (hh:=(by rw [hse];exact ⟨_,rfl⟩)) (hH:=(hcl _))
  exact ⟨by unfold openF;rw [if_pos hb1]<;>rfl,by unfold openF;rw [if_pos hb1]<;>rfl,rfl⟩
 refine skp_ ?_
 refine hK1 _ ?_
 refine rg_ [0,2,3,5,7,14] ?_
 refine rs_ [0,2,3,5,7,14,15] ?_
 refine sg_ ?_
 refine cl_ (hc:=c156 f 40 (h.length+1) _ _ (by simp only [push_cast])) (k:=?_)
 refine sre_ ?_
 refine rs_ [0,2,3,5,7,14,15,16,17] ?_
 refine sg_ ?_
 refine cl_ (hc:=c90 T k c p (!hasF f 40) _ _ (atApp hk) hT hgs hR hp) (k:=?_)
 refine sre_ ?_
 refine sk_ fun K2 hK2=>?_
 refine rg_ [0,2,3,5,7,14,15,16,17,37] ?_
 refine cx_ (fun hb2=>?_) (fun hb2=>?_)
 ·
  refine rg_ [12,13] ?_
  refine ret_ ?_
  refine gq_ (h1:=h.set k (tabBlk T)) Tryz.results104 ?_ (hh:=(by rw [hse];exact ⟨_,rfl⟩)) (hH:=(hcl _))
  exact ⟨by unfold openF;rw [if_neg (by rw [hb1];decide),if_pos hb2]<;>rfl,by unfold openF;rw [if_neg (by rw [hb1];decide),if_pos hb2]<;>rfl,rfl⟩
 refine skp_ ?_
 refine hK2 _ ?_
 refine rs_ [0,2,3,5,7,14,15,16,18,19] ?_
 refine sg_ ?_
 refine cl_ (hc:=c23 T k _ _ _ (atApp hk) hT) (k:=?_)
 refine sre_ ?_
 refine sk_ fun K3 hK3=>?_
 refine rg_ [0,2,3,5,7,14,15,16,18,47] ?_
 refine cx_ (fun hb3=>?_) (fun hb3=>?_)
 ·
  refine sk_ fun K4 hK4=>?_
  refine rs_ [0,2,3,5,7,15,50] ?_
  refine sg_ ?_
  refine cl_ (hc:=c156 f 4 (h.length+1) _ _ (by simp only [push_cast])) (k:=?_)
  refine sre_ ?_
  refine cx_ (fun hb4=>?_) (fun hb4=>?_)
  ·
   refine rg_ [12,13] ?_
   refine ret_ ?_
   refine gq_ (h1:=h.set k (tabBlk T)) Tryz.results104 ?_ (hh:=(by rw [hse];exact ⟨_,rfl⟩)) (hH:=(hcl _))
   exact ⟨by unfold openF;rw [if_neg (by rw [hb1];decide),if_neg (fun h=>h hb2),if_pos hb3,if_pos hb4]<;>rfl,by unfold openF;rw [if_neg (by rw [hb1];decide),if_neg (fun h=>h hb2),if_pos hb3,if_pos hb4]<;>rfl,rfl⟩
  refine skp_ ?_
  refine hK4 _ ?_
  refine rs_ [12,13] ?_
  refine sg_ ?_
  refine cl_ (hc:=c157 T k c um p m (!hasF f 40) _ _ (atApp hk) hT hgs hR hp) (k:=?_)
  refine srt_ ?_
  refine gq_ (h1:=h.set k _) Tryz.results104 ?_ (hh:=(⟨_,rfl⟩)) (hH:=(hcl _))
  exact ⟨by unfold openF;rw [if_neg (by rw [hb1];decide),if_neg (fun h=>h hb2),if_pos hb3,if_neg (by rw [hb4];decide)]<;>rfl,by unfold openF;rw [if_neg (by rw [hb1];decide),if_neg (fun h=>h hb2),if_pos hb3,if_neg (by rw [hb4];decide)]<;>rfl,rfl⟩
 refine skp_ ?_
 refine hK3 _ ?_
 refine rg_ [0,7,14,16,18,20] ?_
 refine awp_seq_m (X:={g:Int // g=(if hasF f 1=true then (4:Int) else 0)}) (fun g=>⟨Tryz.f104.ntmps,fget [(0,.ptr k 0),(7,.ptr h.length 0),(14,.fn (.func 156) [] [.ptr (h.length+1) 0]),(16,.ptr (h.length+2) 0),(18,.ptr (h.length+3) 0),(20,.int .i64 g.1)],h++[.cells [AV.int .i64 c.uid,.int .i64 c.gid,.slice (c.gs.map iV) .none],.cells [.int .i64 f],.cells [.int .i64 (rD T c p (!hasF f 40)),.str (rS T c p (!hasF f 40)),.int .i64 (rN T c p (!hasF f 40))],.cells (ndC (T.get (rN T c p (!hasF f 40))).1)],live⟩) ?_ (fun ⟨g1,hg1⟩=>?_)
 rotate_left
 ·
  try dsimp only
  refine awp_seq_m (X:={g:Int // g=bits .or .i64 (if hasF f 1=true then (4:Int) else 0) (if hasF f 2=true then (2:Int) else 0)}) (fun g=>⟨Tryz.f104.ntmps,fget [(0,.ptr k 0),(7,.ptr h.length 0),(14,.fn (.func 156) [] [.ptr (h.length+1) 0]),(16,.ptr (h.length+2) 0),(18,.ptr (h.length+3) 0),(20,.int .i64 g.1)],h++[.cells [AV.int .i64 c.uid,.int .i64 c.gid,.slice (c.gs.map iV) .none],.cells [.int .i64 f],.cells [.int .i64 (rD T c p (!hasF f 40)),.str (rS T c p (!hasF f 40)),.int .i64 (rN T c p (!hasF f 40))],.cells (ndC (T.get (rN T c p (!hasF f 40))).1)],live⟩) ?_ (fun ⟨g2,hg2⟩=>?_)
  rotate_left
  ·
   try dsimp only
   refine sk_ fun K5 hK5=>?_
   refine awp_block ?_
   refine rs_ [0,7,14,16,18,20,68] ?_
   refine sg_ ?_
   refine cl_ (hc:=c156 f 8 (h.length+1) _ _ (by simp only [push_cast])) (k:=?_)
   refine sre_ ?_
   refine cx_ (fun hb7=>?_) (fun hb7=>?_)
   ·
    refine rg_ [12,13] ?_
    refine ret_ ?_
    refine gq_ (h1:=h.set k (tabBlk T)) Tryz.results104 ?_ (hh:=(by rw [hse];exact ⟨_,rfl⟩)) (hH:=(hcl _))
    exact ⟨by unfold openF;rw [if_neg (by rw [hb1];decide),if_neg (fun h=>h hb2),if_neg (by rw [hb3];decide),if_pos hb7]<;>rfl,by unfold openF;rw [if_neg (by rw [hb1];decide),if_neg (fun h=>h hb2),if_neg (by rw [hb3];decide),if_pos hb7]<;>rfl,rfl⟩
   refine rg_ [0,7,14,16,18,20,71] ?_
   refine cx_ (fun hb8=>?_) (fun hb8=>?_)
   ·
    refine rg_ [12,13] ?_
    refine ret_ ?_
    refine gq_ (h1:=h.set k (tabBlk T)) Tryz.results104 ?_ (hh:=(by rw [hse];exact ⟨_,rfl⟩)) (hH:=(hcl _))
    exact ⟨by unfold openF;rw [if_neg (by rw [hb1];decide),if_neg (fun h=>h hb2),if_neg (by rw [hb3];decide),if_neg (by rw [hb7];decide),if_pos hb8]<;>rfl,by unfold openF;rw [if_neg (by rw [hb1];decide),if_neg (fun h=>h hb2),if_neg (by rw [hb3];decide),if_neg (by rw [hb7];decide),if_pos hb8]<;>rfl,rfl⟩
   refine rg_ [0,7,14,16,18,20,75] ?_
   refine cx_ (fun hb9=>?_) (fun hb9=>?_)
   ·
    refine rg_ [12,13] ?_
    refine ret_ ?_
    refine gq_ (h1:=h.set k (tabBlk T)) Tryz.results104 ?_ (hh:=(by rw [hse];exact ⟨_,rfl⟩)) (hH:=(hcl _))
    exact ⟨by unfold openF;rw [if_neg (by rw [hb1];decide),if_neg (fun h=>h hb2),if_neg (by rw [hb3];decide),if_neg (by rw [hb7];decide),if_neg hb8,if_pos hb9]<;>rfl,by unfold openF;rw [if_neg (by rw [hb1];decide),if_neg (fun h=>h hb2),if_neg (by rw [hb3];decide),if_neg (by rw [hb7];decide),if_neg hb8,if_pos hb9]<;>rfl,rfl⟩
   refine rs_ [0,7,14,16,18,79] ?_
   refine sg_ ?_
   refine cl_ (hc:=c128 T k c _ _ _ _ _ (atApp hk) hT hgs) (k:=?_)
   refine sre_ ?_
   refine cx_ (fun hb10=>?_) (fun hb10=>?_)
   ·
    refine rg_ [12,13] ?_
    refine ret_ ?_
    refine gq_ (h1:=h.set k (tabBlk T)) Tryz.results104 ?_ (hh:=(by rw [hse];exact ⟨_,rfl⟩)) (hH:=(hcl _))
    exact ⟨by unfold openF;rw [if_neg (by rw [hb1];decide),if_neg (fun h=>h hb2),if_neg (by rw [hb3];decide),if_neg (by rw [hb7];decide),if_neg hb8,if_neg hb9,if_pos (by rw [←hg2];exact hb10)]<;>rfl,by unfold openF;rw [if_neg (by rw [hb1];decide),if_neg (fun h=>h hb2),if_neg (by rw [hb3];decide),if_neg (by rw [hb7];decide),if_neg hb8,if_neg hb9,if_pos (by rw [←hg2];exact hb10)]<;>rfl,rfl⟩
   refine skp_ ?_
   refine hK5 _ ?_
   refine sk_ fun K6 hK6=>?_
   refine rs_ [0,7,16,18,88] ?_
   refine sg_ ?_
   refine cl_ (hc:=c156 f 16 (h.length+1) _ _ (by simp only [push_cast])) (k:=?_)
   refine re_ ?_
   refine cx_ (fun hb11=>?_) (fun hb11=>?_)
   ·
    refine rt_ [16] ?_
    refine sg_ ?_
    refine cl_ (hc:=c158 T k c _ (T.get (rN T c p (!hasF f 40))).1 [] _ _ _ (atApp hk) hT hgs (get_ok hT _) (by simp)) (k:=?_)
    refine rn_ (up_ ?_)
    refine hK6 _ ?_
    refine rg_ [12,13] ?_
    refine ret_ ?_
    refine gq_ (h1:=h.set k _) Tryz.results104 ?_ (hh:=(⟨_,rfl⟩)) (hH:=(hcl _))
    exact ⟨by unfold openF;rw [if_neg (by rw [hb1];decide),if_neg (fun h=>h hb2),if_neg (by rw [hb3];decide),if_neg (by rw [hb7];decide),if_neg hb8,if_neg hb9,if_neg (by rw [←hg2,hb10];decide),if_pos hb11]<;>rfl,by unfold openF;rw [if_neg (by rw [hb1];decide),if_neg (fun h=>h hb2),if_neg (by rw [hb3];decide),if_neg (by rw [hb7];decide),if_neg hb8,if_neg hb9,if_neg (by rw [←hg2,hb10];decide),if_pos hb11]<;>rfl,rfl⟩
   refine skp_ ?_
   refine hK6 _ ?_
   refine rg_ [12,13] ?_
   refine ret_ ?_
   refine gq_ (h1:=h.set k (tabBlk T)) Tryz.results104 ?_ (hh:=(by rw [hse];exact ⟨_,rfl⟩)) (hH:=(hcl _))
   exact ⟨by unfold openF;rw [if_neg (by rw [hb1];decide),if_neg (fun h=>h hb2),if_neg (by rw [hb3];decide),if_neg (by rw [hb7];decide),if_neg hb8,if_neg hb9,if_neg (by rw [←hg2,hb10];decide),if_neg (by rw [hb11];decide)]<;>rfl,by unfold openF;rw [if_neg (by rw [hb1];decide),if_neg (fun h=>h hb2),if_neg (by rw [hb3];decide),if_neg (by rw [hb7];decide),if_neg hb8,if_neg hb9,if_neg (by rw [←hg2,hb10];decide),if_neg (by rw [hb11];decide)]<;>rfl,rfl⟩
  refine rs_ [0,7,14,16,18,20,65] ?_
  refine sg_ ?_
  refine cl_ (hc:=c156 f 2 (h.length+1) _ _ (by simp only [push_cast])) (k:=?_)
  refine re_ ?_
  refine cx_ (fun hb6=>?_) (fun hb6=>?_)
  ·
   refine rt_ [0,7,14,16,18,20] ?_
   refine srn_ ?_
   first
    | exact ⟨⟨bits .or .i64 g1 2,by rw [hg1,if_pos hb6]⟩,tf_ hB (fun _ h=>h) (hj:=by rw [List.append_nil]),by simp⟩
    | exact ⟨⟨g1,by rw [hg1,if_neg (show ¬hasF f 2=true by rw [hb6];decide)];split<;>decide⟩,tf_ hB (fun _ h=>h) (hj:=by rw [List.append_nil]),by simp⟩
  refine skp_ ?_
  first
   | exact ⟨⟨bits .or .i64 g1 2,by rw [hg1,if_pos hb6]⟩,tf_ hB (fun _ h=>h) (hj:=by rw [List.append_nil]),by simp⟩
   | exact ⟨⟨g1,by rw [hg1,if_neg (show ¬hasF f 2=true by rw [hb6];decide)];split<;>decide⟩,tf_ hB (fun _ h=>h) (hj:=by rw [List.append_nil]),by simp⟩
 refine rs_ [0,7,14,16,18,20,61] ?_
 refine sg_ ?_
 refine cl_ (hc:=c156 f 1 (h.length+1) _ _ (by simp only [push_cast])) (k:=?_)
 refine re_ ?_
 refine cx_ (fun hb5=>?_) (fun hb5=>?_)
 ·
  refine rt_ [0,7,14,16,18,20] ?_
  refine srn_ ?_
  first
   | exact ⟨⟨_,(if_pos hb5).symm⟩,tf_ hB (fun _ h=>h) (hj:=by rw [List.append_nil]),by simp⟩
   | exact ⟨⟨_,(if_neg (by rw [hb5];decide)).symm⟩,tf_ hB (fun _ h=>h) (hj:=by rw [List.append_nil]),by simp⟩
 refine skp_ ?_
 first
  | exact ⟨⟨_,(if_pos hb5).symm⟩,tf_ hB (fun _ h=>h) (hj:=by rw [List.append_nil]),by simp⟩
  | exact ⟨⟨_,(if_neg (by rw [hb5];decide)).symm⟩,tf_ hB (fun _ h=>h) (hj:=by rw [List.append_nil]),by simp⟩
theorem c159 (T:Tab) (k:Nat) (i:Int) (h:List Blk) (live:List Nat) (hk:h[k]? = some (tabBlk T)) (hT:T.Ok):AC Tryz.prog 159 [.ptr k 0,.int .i64 i] h live (.tup [.agg (ndC (T.get i).1),.bool (decide ((T.get i).1.kind=1))]):=by
 refine aq_ Tryz.func159 fun hH hX=>?_
 refine rg_ [0,1,4] ?_
 refine rs_ [4,6] ?_
 refine sg_ ?_
 refine cl_ (hc:=c23 T k _ _ _ (atApp hk) hT) (k:=?_)
 refine sre_ ?_
 refine rsq_ [4,5] ⟨false,[(h.length+1,0,.agg 7),(h.length+1,0,.one)],[14,16],[4],[],[],0⟩ (fun _=>⟨by kernel_rfl,by kernel_rfl⟩) ?_
 refine df_ ?_
 refine sg_ ?_
 refine df_ ?_
 refine sg_ ?_
 refine dgs_ ?_
 refine srt_ ?_
 refine fq_ Tryz.results159 ?_
 exact rk_ rfl
end Go.Proofs.YtmgnbgniikjhdaaGreat
namespace Go.Proofs.YtmgnbgniikjhdaaGreat
open Go.Ab
set_option maxRecDepth 8000
set_option maxHeartbeats 400000
theorem rd_eq {l:List UInt8} {off n:Int} (hn:0≤off∧0≤n):List.take ((if ((List.drop (if (l.length:Int)<off then (l.length:Int) else off).toNat l).length:Int)<n then ((List.drop (if (l.length:Int)<off then (l.length:Int) else off).toNat l).length:Int) else n).toNat - 0) (List.map bV (List.drop (if (l.length:Int)<off then (l.length:Int) else off).toNat l))=((l.drop off.toNat).take n.toNat).map bV:=by
 have e:List.drop (if (l.length:Int)<off then (l.length:Int) else off).toNat l=l.drop off.toNat:=by
  split
  · rw [Int.toNat_natCast,List.drop_length,List.drop_of_length_le (by omega)]
  · rfl
 rw [e,Nat.sub_zero]
 split
 · rw [Int.toNat_natCast,←List.map_take,List.take_length,List.take_of_length_le (by omega)]
 · rw [List.map_take]
theorem c106 (T:Tab) (k:Nat) (i off n:Int) (h:List Blk) (live:List Nat) (hk:h[k]? = some (tabBlk T)) (hT:T.Ok):AC Tryz.prog 106 [.ptr k 0,.int .i64 i,.int .i64 off,.int .i64 n] h live (.tup [.slice ((readF T i off n).1.map bV) .none,.int .i64 (readF T i off n).2]):=by
 refine aq_ Tryz.func106 fun hH hX=>?_
 have hd:=(get_ok hT i).1
 refine rg_ [0,1,2,3] ?_
 refine rs_ [2,3,10,11] ?_
 refine sg_ ?_
 refine cl_ (hc:=c159 T k i _ _ hk hT) (k:=?_)
 refine sre_ ?_
 refine sk_ fun K1 hK1=>?_
 refine awp_block ?_
 refine rg_ [2,3,10,19] ?_
 refine cx_ (fun hb1=>?_) (fun hb1=>?_)
 ·
  refine rg_ [8,9] ?_
  refine ret_ ?_
  refine fq_ Tryz.results106 ?_
  exact rk_ (by unfold readF;rw [if_pos (by simpa using hb1)]<;>rfl)
 refine rg_ [2,3,10,22] ?_
 refine cx_ (fun hb2=>?_) (fun hb2=>?_)
 ·
  refine rg_ [8,9] ?_
  refine ret_ ?_
  refine fq_ Tryz.results106 ?_
  exact rk_ (by unfold readF;rw [if_neg (by simpa using hb1),if_pos hb2]<;>rfl)
 refine skp_ ?_
 refine hK1 _ ?_
 refine rg_ [3,12] ?_
 refine rs_ [8,9] ?_
 refine sg_ ?_
 simp only [rd_eq hb2]
 refine cl_ (hc:=c79 (((T.get i).1.data.drop off.toNat).take n.toNat) _ _ _ (by rw [List.length_take,List.length_drop];omega)) (k:=?_)
 refine srt_ ?_
 refine fq_ Tryz.results106 ?_
 exact rk_ (by unfold readF;rw [if_neg (by simpa using hb1),if_neg (by omega)]<;>rfl)
end Go.Proofs.YtmgnbgniikjhdaaGreat
namespace Go.Proofs.YtmgnbgniikjhdaaGreat
open Go.Ab
set_option maxRecDepth 8000
set_option maxHeartbeats 400000
theorem wr_max (a j b:Nat):(if (a:Int)<(j:Int)+(b:Int) then (j:Int)+(b:Int) else (a:Int))=((max a (j+b):Nat):Int):=by
 rcases Nat.le_total a (j+b) with h | h
 · rw [Nat.max_eq_right h];split<;>omega
 · rw [Nat.max_eq_left h];split<;>omega
theorem putAt_map {α β:Type} (f:α→β):∀(v c:List α) (off:Nat),putAt (c.map f) off (v.map f)=(putAt c off v).map f
 | [], _, _=>rfl
 | x::v,c,off=>by
  show putAt ((c.map f).set off (f x)) (off+1) (v.map f)=(putAt (c.set off x) (off+1) v).map f
  rw [←List.map_set,putAt_map f v]
theorem flat_bV (l:List UInt8):flat (l.map bV)=l.map bV:=by
 induction l with
 | nil=>rfl
 | cons a l ih=>show (bV a).cells++flat (l.map bV)=_;rw [ih];rfl
theorem rep_bV (n:Nat):rep n [.int .u8 0]=(List.replicate n (0:UInt8)).map bV:=List.ext_getElem (by simp [rep]) fun i _ _=>by simp [rep,Nat.mod_one];rfl
theorem one_frz (cs:List AV) (n:Nat) (hn:cs.length=n):((List.range n).map fun i=>mkEl false ((cs.drop (0+i*1)).take 1))=cs:=by
 subst hn
 refine List.ext_getElem (by simp) fun i h1 h2=>?_
 rw [List.getElem_map,List.getElem_range,Nat.zero_add,Nat.mul_one]
 show ((cs.drop i).take 1).headD .undef=cs[i]
 rw [List.drop_eq_getElem_cons h2];rfl
theorem overB_len (l:List UInt8) (j:Nat) (b:List UInt8):(overB l j b).length=max l.length (j+b.length):=by
 unfold overB;rw [putAt_length,putAt_length,List.length_replicate]
theorem wr_frz (l b:List UInt8) (j:Nat) (h:List Blk) (x y:Blk) (cs:List AV) (hcs:cs=(overB l j b).map bV):((AV.bsl (h.length+2) 0 1 false (max l.length (j+b.length)) (max l.length (j+b.length))).frz (h++[x,y,.cells cs]) (h.length+2)).er=.slice ((overB l j b).map bV) .none:=by
 subst hcs
 have hl:((overB l j b).map bV).length=max l.length (j+b.length):=by rw [List.length_map,overB_len]
 simp only [AV.frz]
 rw [if_pos (Nat.le_refl _),get_app]
 simp only [List.getElem?_cons_succ,List.getElem?_cons_zero]
 rw [if_pos ⟨by rw [hl];omega,by decide,by simp⟩,one_frz _ _ hl]
 simp only [AV.er,erL_bV]
theorem fgetF {h:List Blk} {m:Nat} {fr:Nat→AV}:∀ {fl:FL},(∀p∈fl,(p.2=fr p.1∨p.2=((fr p.1).frz h m).er)∧p.2.cl m)→∀t,fget fl t=.undef∨((fget fl t=fr t∨fget fl t=((fr t).frz h m).er)∧(fget fl t).cl m)
 | [], _,t=>.inl rfl
 | (k,v)::r,hp,t=>by
  rw [fget_cons]
  split
  · rename_i e;subst e;exact .inr (hp _ List.mem_cons_self)
  · exact fgetF (fun p h=>hp p (List.mem_cons_of_mem _ h)) t
theorem over_cs (l b:List UInt8) (j:Nat) (n:Nat) (hn:n=max l.length (j+b.length)):putAt (putAt (rep n [.int .u8 0]) 0 (flat (l.map bV))) j (flat (b.map bV))=(overB l j b).map bV:=by
 subst hn
 rw [flat_bV,flat_bV,rep_bV,putAt_map,putAt_map];rfl
theorem copy_all (l:List UInt8) (n:Nat) (hn:l.length≤n):(l.map bV).take (min (l.map bV).length n)=l.map bV:=List.take_of_length_le (by rw [List.length_map];omega)
theorem c107 (T:Tab) (k:Nat) (c:Cr) (i off:Int) (b:List UInt8) (q:Cap) (h:List Blk) (live:List Nat) (hk:h[k]? = some (tabBlk T)) (hT:T.Ok) (hgs:c.gs.length≤17592186044416) (hb:b.length≤1000000):ACalls Tryz.prog 107 [.ptr k 0,.agg [.int .i64 c.uid,.int .i64 c.gid,.slice (c.gs.map iV) .none],.int .i64 i,.int .i64 off,.slice (b.map bV) q] h live (ret (.int .i64 (writeAtF T c i off b).1) (h.set k (tabBlk (writeAtF T c i off b).2)) live):=by
 refine aq_ Tryz.func107 fun hH hX=>?_
 have hkl:=lt_of_get hk
 have hs1:∀(y:Blk) (g:List Blk),(h++g).set k y=h.set k y++g:=fun y g=>setApp hk
 have hse:h.set k (tabBlk T)=h:=set_self hk
 have hcl:∀x,HCl (h.set k (tabBlk x)):=fun x=>hcl_tab hH _ _
 have hk2:∀x:Blk,(h.set k x)[k]? = some x:=fun x=>get_setk hkl
 have hsl:∀x:Blk,(h.set k x).length=h.length:=fun x=>List.length_set ..
 have hd:=(get_ok hT i).1
 have hB:HCl (h++[.cells [AV.int .i64 c.uid,.int .i64 c.gid,.slice (c.gs.map iV) .none],.cells (ndC (T.get i).1)]):=by
  have:=HCl.snoc (HCl.snoc (b:=.cells [AV.int .i64 c.uid,.int .i64 c.gid,.slice (c.gs.map iV) .none]) hH (by simp [Blk.cl,AV.cl,AV.clL,clL_iV, -List.map_map])) (b:=.cells (ndC (T.get i).1)) (cl_ndB _ _)
  rw [List.append_assoc] at this;exact this
 have sx:=(And.intro @hs1 (And.intro @hk (And.intro @hsl sx0)))
 refine rg_ [0,2,3,4,6] ?_
 refine rs_ [0,2,3,4,6,11,12] ?_
 refine sg_ ?_
 refine cl_ (hc:=c159 T k i _ _ (atApp hk) hT) (k:=?_)
 refine sre_ ?_
 refine sk_ fun K1 hK1=>?_
 refine awp_block ?_
 refine rg_ [0,2,3,4,6,11,20] ?_
 refine cx_ (fun hb1=>?_) (fun hb1=>?_)
 ·
  refine rg_ [10] ?_
  refine ret_ ?_
  refine gq_ (h1:=h.set k (tabBlk T)) Tryz.results107 ?_ (hh:=(by rw [hse];exact ⟨_,rfl⟩)) (hH:=(hcl _))
  exact ⟨by unfold writeAtF;rw [if_pos (by simpa using hb1)]<;>rfl,by unfold writeAtF;rw [if_pos (by simpa using hb1)]<;>rfl,rfl⟩
 refine rg_ [0,2,3,4,6,11,23] ?_
 refine cx_ (fun hb2=>?_) (fun hb2=>?_)
 ·
  refine rg_ [10] ?_
  refine ret_ ?_
  refine gq_ (h1:=h.set k (tabBlk T)) Tryz.results107 ?_ (hh:=(by rw [hse];exact ⟨_,rfl⟩)) (hH:=(hcl _))
  exact ⟨by unfold writeAtF;rw [if_neg (by simpa using hb1),if_pos hb2]<;>rfl,by unfold writeAtF;rw [if_neg (by simpa using hb1),if_pos hb2]<;>rfl,rfl⟩
 obtain ⟨j,rfl⟩:∃j:Nat,off=(j:Int):=⟨off.toNat,by omega⟩
 refine rg_ [0,2,3,4,6,11,26] ?_
 refine cx_ (fun hb3=>?_) (fun hb3=>?_)
 ·
  refine rg_ [10] ?_
  refine ret_ ?_
  refine gq_ (h1:=h.set k (tabBlk T)) Tryz.results107 ?_ (hh:=(by rw [hse];exact ⟨_,rfl⟩)) (hH:=(hcl _))
  exact ⟨by unfold writeAtF;rw [if_neg (by simpa using hb1),if_neg (by omega),if_pos (List.eq_nil_of_length_eq_zero (by omega))]<;>rfl,by unfold writeAtF;rw [if_neg (by simpa using hb1),if_neg (by omega),if_pos (List.eq_nil_of_length_eq_zero (by omega))]<;>rfl,rfl⟩
 refine rg_ [0,2,3,4,6,11,30] ?_
 refine cx_ (fun hb4=>?_) (fun hb4=>?_)
 ·
  refine rg_ [10] ?_
  refine ret_ ?_
  refine gq_ (h1:=h.set k (tabBlk T)) Tryz.results107 ?_ (hh:=(by rw [hse];exact ⟨_,rfl⟩)) (hH:=(hcl _))
  exact ⟨by unfold writeAtF;rw [if_neg (by simpa using hb1),if_neg (by omega),if_neg (fun h=>by subst h;exact hb3 rfl),if_pos hb4]<;>rfl,by unfold writeAtF;rw [if_neg (by simpa using hb1),if_neg (by omega),if_neg (fun h=>by subst h;exact hb3 rfl),if_pos hb4]<;>rfl,rfl⟩
 have hbp:0<b.length:=by omega
 refine skp_ ?_
 refine hK1 _ ?_
 refine awp_seqF3 (X:=Unit) (fun _=>⟨Tryz.f107.ntmps,fget [(0,.ptr k 0),(2,.int .i64 i),(6,.ptr h.length 0),(11,.ptr (h.length+1) 0),(13,.slice ((overB (T.get i).1.data j b).map bV) .none)],h++[.cells [AV.int .i64 c.uid,.int .i64 c.gid,.slice (c.gs.map iV) .none],.cells (ndC (T.get i).1)],live⟩) ?_ (fun _=>?_)
 rotate_left
 ·
  try dsimp only
  refine rs_ [] ?_
  refine sg_ ?_
  refine cl_ (hc:=c158 T k c i (T.get i).1 (overB (T.get i).1.data j b) _ _ _ (atApp hk) hT hgs (get_ok hT _) (by rw [overB_len];omega)) (k:=?_)
  refine re_ ?_
  refine rg_ [10] ?_
  refine ret_ ?_
  refine gq_ (h1:=h.set k _) Tryz.results107 ?_ (hh:=(⟨_,rfl⟩)) (hH:=(hcl _))
  exact ⟨by unfold writeAtF;rw [if_neg (by simpa using hb1),if_neg (by omega),if_neg (fun h=>by subst h;exact hb3 rfl),if_neg (by omega)]<;>rfl,by unfold writeAtF;rw [if_neg (by simpa using hb1),if_neg (by omega),if_neg (fun h=>by subst h;exact hb3 rfl),if_neg (by omega)]<;>rfl,rfl⟩
 refine rt_ [0,2,3,4,6,11,13] ?_
 refine sg_ ?_
 simp only [wr_max]
 refine dawp_w rfl rfl rfl rfl (AOp.makeSlice _ _ _ rfl Ty.makeT_59 (by (simp (disch:=omega) only [push_cast,↓reduceIte,Nat.reduceEqDiff,Nat.reduceAdd,Nat.reduceLeDiff,sx])<;>rfl) (by (simp (disch:=omega) only [push_cast,↓reduceIte,Nat.reduceEqDiff,Nat.reduceAdd,Nat.reduceLeDiff,sx])<;>rfl) (Nat.le_refl _) (by omega) (by omega) ?_)
 refine srn_ ?_
 refine rt_ [0,2,3,4,6,11,13] ?_
 refine sg_ ?_
 refine dawp_w rfl rfl rfl rfl (AOp.copyB _ _ _ _ rfl Ty.sliceSz_59 (by (simp (disch:=omega) only [push_cast,↓reduceIte,Nat.reduceEqDiff,Nat.reduceAdd,Nat.reduceLeDiff,sx])<;>rfl) (by (simp (disch:=omega) only [push_cast,↓reduceIte,Nat.reduceEqDiff,Nat.reduceAdd,Nat.reduceLeDiff,sx])<;>rfl) (by (simp (disch:=omega) only [push_cast,↓reduceIte,Nat.reduceEqDiff,Nat.reduceAdd,Nat.reduceLeDiff,sx])<;>rfl) (cells_bV _) (by rw [rep_length];simp;omega) ?_)
 refine rn_ (up_ ?_)
 refine rt_ [0,2,6,11,13] ?_
 refine sg_ ?_
 refine dawp_w rfl rfl rfl rfl (AOp.copyB _ _ _ _ rfl Ty.sliceSz_59 (by (simp (disch:=omega) only [push_cast,↓reduceIte,Nat.reduceEqDiff,Nat.reduceAdd,Nat.reduceLeDiff,sx])<;>rfl) (by (simp (disch:=omega) only [push_cast,↓reduceIte,Nat.reduceEqDiff,Nat.reduceAdd,Nat.reduceLeDiff,sx])<;>rfl) (by (simp (disch:=omega) only [push_cast,↓reduceIte,Nat.reduceEqDiff,Nat.reduceAdd,Nat.reduceLeDiff,sx])<;>rfl) (cells_bV _) (by rw [putAt_length,rep_length];simp;omega) ?_)
 refine rn_ (up_ ?_)
 refine ⟨(),⟨rfl,fgetF fun p hp=>?_,⟨[_],by rw [List.append_assoc];rfl⟩,hB,fun _ h=>h⟩,by simp⟩
 simp only [List.mem_cons,List.not_mem_nil,or_false] at hp
 rcases hp with rfl | rfl | rfl | rfl | rfl
 · exact ⟨.inl rfl,by simp [AV.cl];omega⟩
 · exact ⟨.inl rfl,trivial⟩
 · exact ⟨.inl rfl,by simp [AV.cl]⟩
 · exact ⟨.inl rfl,by simp [AV.cl]⟩
 ·
  refine ⟨.inr ?_,clL_bV _ _⟩
  have hln:(h++[.cells [AV.int .i64 c.uid,.int .i64 c.gid,.slice (c.gs.map iV) .none],.cells (ndC (T.get i).1)]:List Blk).length=h.length+2:=by simp
  show _=AV.er (AV.frz _ (h++[.cells [AV.int .i64 c.uid,.int .i64 c.gid,.slice (c.gs.map iV) .none],.cells (ndC (T.get i).1)]:List Blk).length _)
  rw [hln]
  refine (wr_frz (T.get i).1.data b j h _ _ _ ?_).symm
  rw [Nat.zero_add,Nat.mul_one,List.take_of_length_le (by rw [List.length_map];omega),List.take_of_length_le (by rw [List.length_map];omega)]
  exact over_cs _ _ _ _ rfl
end Go.Proofs.YtmgnbgniikjhdaaGreat
namespace Go.Proofs.YtmgnbgniikjhdaaGreat
open Go.Ab
set_option maxRecDepth 8000
set_option maxHeartbeats 400000
theorem bl_asym:∀x y:List UInt8,Op.bytesLess x y=true→Op.bytesLess y x=false
 | x,[],h=>by cases x<;>cases h
 | [], _::_, _=>rfl
 | a::x,b::y,h=>by
  simp only [Op.bytesLess,Bool.or_eq_true,Bool.and_eq_true,decide_eq_true_eq,beq_iff_eq] at h
  simp only [Op.bytesLess,Bool.or_eq_false_iff,decide_eq_false_iff_not]
  rcases h with h | ⟨rfl,h⟩
  ·
   have hn:¬b<a:=fun h2=>absurd (UInt8.lt_trans h h2) (UInt8.lt_irrefl a)
   refine ⟨hn,?_⟩
   cases hb:(b==a) with
   | false=>rfl
   | true=>rw [beq_iff_eq] at hb;subst hb;exact absurd h (UInt8.lt_irrefl _)
  · exact ⟨UInt8.lt_irrefl a,by rw [bl_asym x y h,Bool.and_false]⟩
def RisS (l:List (List UInt8)):Prop:=∀i,0<i→i<l.length→Op.bytesLess (l.getD (i - 1) []) (l.getD i [])=true
def lenV (n:Nat):Int:=if n=0 then 0 else if n=1 then 1 else if n<4 then 2 else if n<8 then 3 else 4
theorem c303 (x:List UInt8) (h:List Blk) (live:List Nat):AC Tryz.prog 303 [.str x] h live (.bool false):=by
 refine aq_ Tryz.func303 fun hH hX=>?_
 refine rg_ [0] ?_
 refine rg_ [2] ?_
 refine ret_ ?_
 refine fq_ Tryz.results303 ?_
 exact rk_ (by simp)
theorem c285 (x y:List UInt8) (h:List Blk) (live:List Nat):AC Tryz.prog 285 [.str x,.str y] h live (.bool (Op.bytesLess x y)):=by
 refine aq_ Tryz.func285 fun hH hX=>?_
 refine rg_ [0,1] ?_
 refine rs_ [4] ?_
 refine sg_ ?_
 refine cl_ (hc:=c303 _ _ _) (k:=?_)
 refine sg_ ?_
 refine cg_ (hc:=fun hg=>c303 _ _ _) (k:=?_)
 refine srt_ ?_
 refine fq_ Tryz.results285 ?_
 exact rk_ (by simp)
theorem c289 (n:Nat) (h:List Blk) (live:List Nat) (hn:n≤8):ACalls Tryz.prog 289 [.int .u64 (n:Nat)] h live (fun x h' l'=>(∃v,x=.int .i64 v)∧h'=h∧l'=live):=by
 refine aq_ Tryz.func289 fun hH hX=>?_
 refine rg_ [0,2] ?_
 refine sk_ fun K1 hK1=>?_
 refine rg_ [0,2,4] ?_
 refine cx_ (fun hb1=>?_) (fun hb1=>?_)
 · exfalso;omega
 refine skp_ ?_
 refine hK1 _ ?_
 refine sk_ fun K2 hK2=>?_
 refine rg_ [0,2,8] ?_
 refine cx_ (fun hb2=>?_) (fun hb2=>?_)
 · exfalso;omega
 refine skp_ ?_
 refine hK2 _ ?_
 refine sk_ fun K3 hK3=>?_
 refine rg_ [0,2,14] ?_
 refine cx_ (fun hb3=>?_) (fun hb3=>?_)
 · exfalso;omega
 refine skp_ ?_
 refine hK3 _ ?_
 refine rs_ [2] ?_
 refine dp_ ?_
 refine dp_ ?_
 refine dp_ ?_
 refine dawp_p (x:=.int .u8 (lenV n)) rfl (by rcases (show n=0∨n=1∨n=2∨n=3∨n=4∨n=5∨n=6∨n=7∨n=8 by omega) with rfl | rfl | rfl | rfl | rfl | rfl | rfl | rfl | rfl<;>rfl) rfl rfl ?_
 refine srt_ ?_
 refine fq_ Tryz.results289 ?_
 exact ⟨⟨_,rfl⟩,rfl,rfl⟩
theorem c260 (n:Nat) (h:List Blk) (live:List Nat) (hn:n≤8):ACalls Tryz.prog 260 [.int .u64 (n:Nat)] h live (fun x h' l'=>(∃v,x=.int .i64 v)∧h'=h∧l'=live):=by
 refine aq_ Tryz.func260 fun hH hX=>?_
 refine rg_ [0] ?_
 refine sk_ fun K1 hK1=>?_
 refine cdn_ (ht:=fun hb1=>?_) (hf:=fun hb1=>?_)
 · exfalso;exact Bool.noConfusion hb1
 refine skp_ ?_
 refine hK1 _ ?_
 refine rs_ [2] ?_
 refine sg_ ?_
 refine ck_ (k:=?_)
 refine (c289 n _ _ hn).mono ?_;rintro _ _ _ ⟨⟨v,rfl⟩,rfl,rfl⟩
 refine srt_ ?_
 refine fq_ Tryz.results260 ?_
 exact ⟨⟨_,rfl⟩,rfl,rfl⟩
theorem c279 (l:List (List UInt8)) (q:Cap) (n:Nat) (h:List Blk) (live:List Nat) (hn:n≤l.length) (hl:l.length≤1000) (hr:RisS l):AC Tryz.prog 279 [.slice (l.map .str) q,.int .i64 0,.int .i64 (n:Nat)] h live (.tup []):=by
 refine aq_ Tryz.func279 fun hH hX=>?_
 refine rg_ [0,1,2,6] ?_
 refine awp_block ?_
 refine lp_ (X:={i:Nat // 1≤i}) (fun x=>⟨Tryz.f279.ntmps,fget [(0,.slice (l.map .str) q),(1,.int .i64 0),(2,.int .i64 (n:Nat)),(6,.int .i64 (x.1:Nat))],h,live⟩) (fun x=>n - x.1) (⟨1,Nat.le_refl _⟩) ?_ (fun ⟨i,hi⟩=>?_)
 ·
  try dsimp only
  exact ts_ hH
 try dsimp only
 refine sk_ fun K1 hK1=>?_
 refine rg_ [0,1,2,6,12] ?_
 refine cx_ (fun hb1=>?_) (fun hb1=>?_)
 rotate_left
 ·
  refine awp_exit (up_ ?_)
  refine fq_ Tryz.results279 ?_
  exact rk_ rfl
 have hil:i<n:=by omega
 have hri:=bl_asym _ _ (hr i (by omega) (by omega))
 refine skp_ ?_
 refine hK1 _ ?_
 refine sk_ fun K2 hK2=>?_
 refine awp_block ?_
 refine rg_ [0,1,2,6,7] ?_
 refine awp_block ?_
 refine lp_ (X:=Unit) (fun x=>⟨Tryz.f279.ntmps,fget [(0,.slice (l.map .str) q),(1,.int .i64 0),(2,.int .i64 (n:Nat)),(6,.int .i64 (i:Nat)),(7,.int .i64 (i:Nat))],h,live⟩) (fun x=>0) (()) ?_ (fun _=>?_)
 ·
  try dsimp only
  exact ts_ hH
 try dsimp only
 refine sk_ fun K3 hK3=>?_
 refine rsq_ [0,1,2,6,7,30] ⟨true,[],[],[],[],[],0⟩ (fun _=>⟨by kernel_rfl,by kernel_rfl⟩) ?_
 refine sg_ ?_
 refine cg_ (hc:=fun hg=>c285 _ _ _ _) (k:=?_)
 refine sre_ ?_
 refine cdn_ (ht:=fun hb2=>?_) (hf:=fun hb2=>?_)
 ·
  exfalso
  have hri2:=hri
  simp only [List.getD_eq_getElem?_getD] at hri2
  simp [show ((i:Int) - 1).toNat=i - 1 by omega] at hb2
  rw [hri2] at hb2
  cases hb2.2
 refine awp_exit (up_ ?_)
 refine hK2 _ ?_
 refine rt_ [0,1,2,6] ?_
 refine srn_ ?_
 refine ln_ ⟨i+1,by omega⟩ ?_
 try dsimp only
 exact ts_ hH
theorem c259 (l:List (List UInt8)) (q:Cap) (v:Int) (h:List Blk) (live:List Nat) (hl:l.length≤8) (hr:RisS l):AC Tryz.prog 259 [.slice (l.map .str) q,.int .i64 0,.int .i64 (l.length:Nat),.int .i64 v] h live (.tup []):=by
 refine aq_ Tryz.func259 fun hH hX=>?_
 refine rg_ [0,1,2,3,8] ?_
 refine rg_ [0,1,2,3,8,9] ?_
 refine awp_block ?_
 refine lp_ (X:=Unit) (fun x=>⟨Tryz.f259.ntmps,fget [(0,.slice (l.map .str) q),(1,.int .i64 0),(2,.int .i64 (l.length:Nat)),(3,.int .i64 v),(8,.bool true),(9,.bool true)],h,live⟩) (fun x=>0) (()) ?_ (fun _=>?_)
 ·
  try dsimp only
  exact ts_ hH
 try dsimp only
 refine awp_block ?_
 refine rg_ [0,1,2,3,8,9,10] ?_
 refine sk_ fun K1 hK1=>?_
 refine rg_ [0,1,2,3,8,9,10,23] ?_
 refine cdy_ (ht:=fun hb1=>?_) (hf:=fun hb1=>?_)
 ·
  refine rs_ [] ?_
  refine sg_ ?_
  refine cl_ (hc:=c279 l q l.length _ _ (Nat.le_refl _) (by omega) hr) (k:=?_)
  refine re_ ?_
  refine ret_ ?_
  refine fq_ Tryz.results259 ?_
  exact rk_ rfl
 exfalso
 simp only [decide_eq_true_eq,decide_eq_false_iff_not,Bool.not_eq_true',Bool.not_eq_false',Bool.or_eq_true,Bool.and_eq_true,Bool.or_eq_false_iff,Bool.and_eq_false_imp,Int.not_lt,Int.not_le] at hb1
 omega
theorem c220 (l:List (List UInt8)) (q:Cap) (h:List Blk) (live:List Nat) (hl:l.length≤8) (hr:RisS l):AC Tryz.prog 220 [.slice (l.map .str) q] h live (.tup []):=by
 refine aq_ Tryz.func220 fun hH hX=>?_
 refine rg_ [0,2] ?_
 refine rt_ [] ?_
 refine sg_ ?_
 refine ck_ (k:=?_)
 refine (c260 l.length _ _ hl).mono ?_;rintro _ _ _ ⟨⟨v,rfl⟩,rfl,rfl⟩
 refine cl_ (hc:=c259 l q v _ _ hl hr) (k:=?_)
 refine rn_ (up_ ?_)
 refine fq_ Tryz.results220 ?_
 exact rk_ rfl
end Go.Proofs.YtmgnbgniikjhdaaGreat
namespace Go.Proofs.YtmgnbgniikjhdaaGreat
open Go.Ab
set_option maxRecDepth 8000
set_option maxHeartbeats 400000
def readlinkF (T:Tab) (c:Cr) (p:List UInt8):List UInt8×Int:=
 if (statF T c p false).2≠0 then ([],(statF T c p false).2) else if (statF T c p false).1.kind≠3 then ([],22) else ((T.get (statF T c p false).1.node).1.target,0)
def listF (T:Tab) (c:Cr) (p:List UInt8):List (List UInt8)×Int:=
 if (statF T c p true).2≠0 then ([],(statF T c p true).2) else if (statF T c p true).1.kind≠2 then ([],20) else if canT c T (statF T c p true).1.node 4=false then ([],13)
 else (nmL (T.get (statF T c p true).1.node).1,0)
theorem ris_names {n:Nd} (hk:n.kind=2) (h:rightF n=true):n.ents.length≤8∧RisS (nmL n):=by
 unfold rightF at h
 cases hc:(decide (n.mode<0)||decide (4095<n.mode)||!idB n.uid||!idB n.gid) with
 | true=>rw [hc] at h;cases h
 | false=>
  rw [hc,cond_false,if_neg (by omega),if_pos hk] at h
  have hr:risingF n.ents=true:=by
   simp only [Bool.and_eq_true] at h;exact h.2
  unfold risingF at hr
  rw [Bool.and_eq_true,Bool.not_eq_true',decide_eq_true_eq] at hr
  obtain ⟨h1,h2⟩:=hr
  refine ⟨by omega,fun i hi0 hi=>?_⟩
  rw [nmL_len] at hi
  have hb:=List.any_eq_false.1 h1 i (List.mem_range.2 hi)
  have hg:∀j,(nmL n).getD j []=(n.ents.getD j ([],0)).1:=fun j=>by
   simp only [nmL,List.getD_eq_getElem?_getD,List.getElem?_map]
   cases n.ents[j]? <;> rfl
  rw [hg,hg]
  unfold badE at hb
  rw [show ((i:Int) - 1).toNat=i - 1 by omega] at hb
  cases hx:Op.bytesLess (n.ents.getD (i - 1) ([],0)).1 (n.ents.getD i ([],0)).1 with
  | true=>rfl
  | false=>
   rw [hx] at hb
   exact absurd (by simp;omega) hb
theorem stat_dir {T:Tab} {c:Cr} {p:List UInt8} {fl:Bool} {m:Int} (hm:m≠0) (h:(statF T c p fl).1.kind=m):(T.get (statF T c p fl).1.node).2=true∧(T.get (statF T c p fl).1.node).1.kind=m:=by
 unfold statF at h ⊢
 split at h
 · exact absurd h (Ne.symm hm)
 ·
  rename_i h1
  rw [if_neg h1]
  split at h
  ·
   rename_i h2
   rw [if_pos h2]
   have hn:=staF_node h2
   rw [hn]
   refine ⟨h2,?_⟩
   rw [←h];unfold staF;rw [if_pos h2]
  · exact absurd h (Ne.symm hm)
theorem cells_str1 (l:List (List UInt8)):∀y∈l.map AV.str,y.cells.length=1:=cells_strs' l
theorem c162 (n:Nd) (h:List Blk) (live:List Nat) (hl:n.ents.length≤8) (hr:RisS (nmL n)):AC Tryz.prog 162 [.agg (ndC n)] h live (.slice ((nmL n).map .str) .none):=by
 refine aq_ Tryz.func162 fun hH hX=>?_
 have hnl:=nmL_len n
 have hB:HCl (h++[.cells (ndC n)]):=HCl.snoc hH (cl_ndB _ _)
 have sx:=(And.intro @nm_step sx0)
 refine rg_ [1] ?_
 refine rg_ [1,3] ?_
 refine sk_ fun K1 hK1=>?_
 refine rg_ [3,7,8,9] ?_
 refine awp_block ?_
 refine lp_ (X:={p:Nat×Cap×List Nat // p.1≤n.ents.length∧CapOK p.2.2 p.2.1∧∀u∈live,u∈p.2.2∧p.2.1≠.own u}) (fun x=>⟨Tryz.f162.ntmps,fget [(3,.slice (((nmL n).take x.1.1).map .str) x.1.2.1),(7,.slice (n.ents.map eV) .none),(8,.int .i64 n.ents.length),(9,.int .i64 (x.1.1:Nat))],h++[.cells (ndC n)],x.1.2.2⟩) (fun x=>n.ents.length - x.1.1) (⟨⟨0,.full,live⟩,Nat.zero_le _,.inl rfl,fun u hu=>⟨hu,Cap.noConfusion⟩⟩) ?_ (fun ⟨⟨i,c,live'⟩,hi,hc,hlv⟩=>?_)
 ·
  try dsimp only
  exact tf_ hB (fun _ h=>h)
 try dsimp only
 dsimp only at hi hc hlv
 refine rg_ [3,7,8,9,10] ?_
 refine sk_ fun K2 hK2=>?_
 refine cx_ (fun hb1=>?_) (fun hb1=>?_)
 rotate_left
 ·
  have hie:i=n.ents.length:=by omega
  subst hie
  have htk:(nmL n).take n.ents.length=nmL n:=by rw [←hnl,List.take_length]
  have sx:=And.intro htk sx
  refine awp_exit (up_ ?_)
  refine hK1 _ ?_
  refine rs_ [3] ?_
  refine sg_ ?_
  refine cl_ (hc:=c220 (nmL n) _ _ _ (by omega) hr) (k:=?_)
  refine re_ ?_
  refine rg_ [2] ?_
  refine ret_ ?_
  refine fq_ Tryz.results162 ?_ (hcl:=(by simp [AV.cl,AV.clL,clL_str, -List.map_map])) (hl:=(fun u hu=>(hlv u hu).1))
  exact rk_ rfl
 have hil:i<n.ents.length:=by omega
 refine skp_ ?_
 refine hK2 _ ?_
 refine sk_ fun K3 hK3=>?_
 refine awp_block ?_
 refine rg_ [3,5,7,8,9] ?_
 refine rt_ [3,7,8,9] ?_
 refine sg_ ?_
 refine ap_ (a:=hc) (b:=cells_strs' _) (c':=by simp [AV.cells]) (d:=by simp;omega) (e:=by simp;omega) (k:=?_)
 intro c17 live17 hk17
 refine srn_ ?_
 refine hK3 _ ?_
 refine rt_ [3,7,8,9] ?_
 refine srn_ ?_
 refine ln_ ⟨⟨i+1,c17,live17⟩,by dsimp only;omega,hk17.1,fun u hu=>hk17.2 u (hlv u hu).1 (hlv u hu).2⟩ ?_
 try dsimp only
 exact tf_ hB (fun _ h=>h)
theorem c109 (T:Tab) (k:Nat) (c:Cr) (p:List UInt8) (h:List Blk) (live:List Nat) (hk:h[k]? = some (tabBlk T)) (hT:T.Ok) (hgs:c.gs.length≤17592186044416) (hR:T.Rt) (hp:p.length≤9223372036854775807):AC Tryz.prog 109 [.ptr k 0,.agg [.int .i64 c.uid,.int .i64 c.gid,.slice (c.gs.map iV) .none],.str p] h live (.tup [.agg (staC (statF T c p false).1),.int .i64 (statF T c p false).2]):=by
 refine aq_ Tryz.func109 fun hH hX=>?_
 refine rg_ [0,2,4,6] ?_
 refine rs_ [6,7] ?_
 refine sg_ ?_
 refine cl_ (hc:=c59 T k c p false _ _ (atApp hk) hT hgs hR hp) (k:=?_)
 refine srt_ ?_
 refine fq_ Tryz.results109 ?_
 exact rk_ rfl
theorem c110 (T:Tab) (k:Nat) (c:Cr) (p:List UInt8) (h:List Blk) (live:List Nat) (hk:h[k]? = some (tabBlk T)) (hT:T.Ok) (hgs:c.gs.length≤17592186044416) (hR:T.Rt) (hp:p.length≤9223372036854775807):AC Tryz.prog 110 [.ptr k 0,.agg [.int .i64 c.uid,.int .i64 c.gid,.slice (c.gs.map iV) .none],.str p] h live (.tup [.str (readlinkF T c p).1,.int .i64 (readlinkF T c p).2]):=by
 refine aq_ Tryz.func110 fun hH hX=>?_
 refine rg_ [0,2,4] ?_
 refine rs_ [0,8,9] ?_
 refine sg_ ?_
 refine cl_ (hc:=c109 T k c p _ _ (atApp hk) hT hgs hR hp) (k:=?_)
 refine sre_ ?_
 refine sk_ fun K1 hK1=>?_
 refine awp_block ?_
 refine rg_ [0,8,9,19] ?_
 refine cx_ (fun hb1=>?_) (fun hb1=>?_)
 ·
  refine rg_ [6,7] ?_
  refine ret_ ?_
  refine fq_ Tryz.results110 ?_
  exact rk_ (by unfold readlinkF;rw [if_pos hb1])
 refine rg_ [0,8,23] ?_
 refine cx_ (fun hb2=>?_) (fun hb2=>?_)
 ·
  refine rg_ [6,7] ?_
  refine ret_ ?_
  refine fq_ Tryz.results110 ?_
  exact rk_ (by unfold readlinkF;rw [if_neg (fun h=>h hb1),if_pos hb2])
 refine skp_ ?_
 refine hK1 _ ?_
 refine rs_ [10] ?_
 refine sg_ ?_
 refine cl_ (hc:=c23 T k _ _ _ (atApp hk) hT) (k:=?_)
 refine sre_ ?_
 refine rg_ [6,7] ?_
 refine ret_ ?_
 refine fq_ Tryz.results110 ?_
 exact rk_ (by unfold readlinkF;rw [if_neg (fun h=>h hb1),if_neg (fun h=>h hb2)])
theorem c111 (T:Tab) (k:Nat) (c:Cr) (p:List UInt8) (h:List Blk) (live:List Nat) (hk:h[k]? = some (tabBlk T)) (hT:T.Ok) (hgs:c.gs.length≤17592186044416) (hR:T.Rt) (hp:p.length≤9223372036854775807):AC Tryz.prog 111 [.ptr k 0,.agg [.int .i64 c.uid,.int .i64 c.gid,.slice (c.gs.map iV) .none],.str p] h live (.tup [.slice ((listF T c p).1.map .str) .none,.int .i64 (listF T c p).2]):=by
 refine aq_ Tryz.func111 fun hH hX=>?_
 refine rg_ [0,2,4] ?_
 refine rs_ [0,4,8,9] ?_
 refine sg_ ?_
 refine cl_ (hc:=c31 T k c p _ _ (atApp hk) hT hgs hR hp) (k:=?_)
 refine sre_ ?_
 refine sk_ fun K1 hK1=>?_
 refine awp_block ?_
 refine rg_ [0,4,8,9,19] ?_
 refine cx_ (fun hb1=>?_) (fun hb1=>?_)
 ·
  refine rg_ [6,7] ?_
  refine ret_ ?_
  refine fq_ Tryz.results111 ?_ (hcl:=(by simp [AV.cl,AV.clL,clL_str, -List.map_map]))
  exact rk_ (by unfold listF;rw [if_pos hb1]<;>rfl)
 refine rg_ [0,4,8,23] ?_
 refine cx_ (fun hb2=>?_) (fun hb2=>?_)
 ·
  refine rg_ [6,7] ?_
  refine ret_ ?_
  refine fq_ Tryz.results111 ?_ (hcl:=(by simp [AV.cl,AV.clL,clL_str, -List.map_map]))
  exact rk_ (by unfold listF;rw [if_neg (fun h=>h hb1),if_pos hb2]<;>rfl)
 obtain ⟨hdi,hdk⟩:=stat_dir (by decide) hb2
 obtain ⟨hrl,hrn⟩:=ris_names hdk (hR.get hdi)
 refine rs_ [0,8,27] ?_
 refine sg_ ?_
 refine cl_ (hc:=c128 T k c _ _ _ _ _ (atApp hk) hT hgs) (k:=?_)
 refine sre_ ?_
 refine cx_ (fun hb3=>?_) (fun hb3=>?_)
 ·
  refine rg_ [6,7] ?_
  refine ret_ ?_
  refine fq_ Tryz.results111 ?_ (hcl:=(by simp [AV.cl,AV.clL,clL_str, -List.map_map]))
  exact rk_ (by unfold listF;rw [if_neg (fun h=>h hb1),if_neg (fun h=>h hb2),if_pos hb3]<;>rfl)
 refine skp_ ?_
 refine hK1 _ ?_
 refine rs_ [10] ?_
 refine sg_ ?_
 refine cl_ (hc:=c23 T k _ _ _ (atApp hk) hT) (k:=?_)
 refine sre_ ?_
 refine rs_ [6,7] ?_
 refine sg_ ?_
 refine cl_ (hc:=c162 _ _ _ hrl hrn) (k:=?_)
 refine srt_ ?_
 refine fq_ Tryz.results111 ?_ (hcl:=(by simp [AV.cl,AV.clL,clL_str, -List.map_map]))
 exact rk_ (by unfold listF;rw [if_neg (fun h=>h hb1),if_neg (fun h=>h hb2),if_neg (by rw [hb3];decide)]<;>rfl)
end Go.Proofs.YtmgnbgniikjhdaaGreat
namespace Go.Proofs.YtmgnbgniikjhdaaGreat
open Go.Ab
set_option maxRecDepth 8000
set_option maxHeartbeats 400000
structure Fde where
 node:Int
 off:Int
 rd:Bool
 wr:Bool
 deriving DecidableEq
def fd0:Fde:=⟨0,0,false,false⟩
def fdC (f:Fde):List AV:=[.int .i64 f.node,.int .i64 f.off,.bool f.rd,.bool f.wr]
structure Pr where
 c:Cr
 um:Int
 f0:Fde
 f1:Fde
 f2:Fde
def Pr.fd (P:Pr):Nat→Fde
 | 0=>P.f0
 | 1=>P.f1
 | _=>P.f2
def Pr.put (P:Pr) (i:Nat) (f:Fde):Pr:=match i with
 | 0=>⟨P.c,P.um,f,P.f1,P.f2⟩
 | 1=>⟨P.c,P.um,P.f0,f,P.f2⟩
 | _=>⟨P.c,P.um,P.f0,P.f1,f⟩
def prC (P:Pr):List AV:=.int .i64 P.c.uid::.int .i64 P.c.gid::.slice (P.c.gs.map iV) .none::.int .i64 P.um::(fdC P.f0++(fdC P.f1++fdC P.f2))
structure Ca where
 kind:Int
 path:List UInt8
 other:List UInt8
 a:Int
 b:Int
 data:List UInt8
def caC (c:Ca):List AV:=[.int .i64 c.kind,.str c.path,.str c.other,.int .i64 c.a,.int .i64 c.b,.slice (c.data.map bV) .none]
structure Rs where
 err:Int
 n:Int
 st:Sta
 text:List UInt8
 names:List (List UInt8)
 data:List UInt8
def rsC (r:Rs):List AV:=.int .i64 r.err::.int .i64 r.n::(staC r.st++[.str r.text,.slice (r.names.map .str) .none,.slice (r.data.map bV) .none])
def tol (e:Int):Rs:=⟨e,0,sta0,[],[],[]⟩
def pB (kb:Nat) (n:Nat):List AV:=(List.range n).map fun i=>.ptr (kb+2*i) 0
structure SysAt (h:List Blk) (ks kt kb:Nat) (T:Tab) (ps:List Pr):Prop where
 s:h[ks]? = some (.cells [.ptr kt 0,.slice (pB kb ps.length) .none])
 t:h[kt]? = some (tabBlk T)
 p:∀i (hi:i<ps.length),h[kb+2*i]? = some (.cells (prC ps[i]))
 st:ks≠kt
 sb:ks<kb
 tb:kt<kb
 ok:T.Ok
 rt:T.Rt
 gs:∀P∈ps,P.c.gs.length≤17592186044416
 few:ps.length≤1000
theorem clL_prC (m:Nat) (P:Pr):AV.clL m (prC P):=⟨trivial,trivial,clL_iV _ _,trivial,trivial,trivial,trivial,trivial,trivial,trivial,trivial,trivial,trivial,trivial,trivial,trivial,trivial⟩
theorem clL_rsC (m:Nat) (r:Rs):AV.clL m (rsC r):=⟨trivial,trivial,trivial,trivial,trivial,trivial,trivial,trivial,trivial,trivial,clL_str _ _,clL_bV _ _,trivial⟩
theorem er_rsC (r:Rs):AV.erL (rsC r)=rsC r:=by
 show AV.int .i64 r.err::.int .i64 r.n::(staC r.st++[.str r.text,(AV.slice (r.names.map .str) .none).er,(AV.slice (r.data.map bV) .none).er])=_
 simp only [AV.er,erL_strs,erL_bV];rfl
theorem pB_len (kb n:Nat):(pB kb n).length=n:=by simp [pB]
theorem pB_get (kb n i:Nat) (h:i<n):(pB kb n)[i]? = some (.ptr (kb+2*i) 0):=by simp [pB,h]
theorem pB_getD (kb n i:Nat) (h:i<n):(pB kb n).getD i .undef=.ptr (kb+2*i) 0:=by rw [List.getD_eq_getElem?_getD,pB_get kb n i h];rfl
def arC (P:Pr):List AV:=fdC P.f0++(fdC P.f1++fdC P.f2)
theorem arC_len (P:Pr):(arC P).length=12:=rfl
theorem prC_len (P:Pr):(prC P).length=16:=rfl
theorem prC_arr (P:Pr):((prC P).drop 4).take 12=arC P:=rfl
theorem prC_3 (P:Pr):(prC P)[3]? = some (.int .i64 P.um):=rfl
theorem prC_cr (P:Pr):(prC P).take 3=[.int .i64 P.c.uid,.int .i64 P.c.gid,.slice (P.c.gs.map iV) .none]:=rfl
theorem caC_len (c:Ca):(caC c).length=6:=rfl
theorem caC_0 (c:Ca):(caC c)[0]? = some (.int .i64 c.kind):=rfl
theorem caC_1 (c:Ca):(caC c)[1]? = some (.str c.path):=rfl
theorem caC_2 (c:Ca):(caC c)[2]? = some (.str c.other):=rfl
theorem caC_3 (c:Ca):(caC c)[3]? = some (.int .i64 c.a):=rfl
theorem caC_4 (c:Ca):(caC c)[4]? = some (.int .i64 c.b):=rfl
theorem caC_5 (c:Ca):(caC c)[5]? = some (.slice (c.data.map bV) .none):=rfl
attribute [push_cast] pB_len arC_len prC_len prC_arr prC_3 prC_cr caC_len caC_0 caC_1 caC_2 caC_3 caC_4 caC_5
theorem arC_fd (P:Pr) {j:Nat} (hj:j<3):((arC P).drop (j*4)).take 4=fdC (P.fd j):=by
 rcases (show j=0∨j=1∨j=2 by omega) with rfl | rfl | rfl<;>rfl
def prO (P:Pr) (j:Nat):List Int:=((List.range j).filter fun i=>decide ((P.fd i).node≠0)).map fun i=>(P.fd i).node
theorem prO_y {P:Pr} {j:Nat} (h:(P.fd j).node≠0):prO P (j+1)=prO P j++[(P.fd j).node]:=by
 unfold prO;rw [List.range_succ,List.filter_append,List.map_append];simp [h]
theorem prO_n {P:Pr} {j:Nat} (h:(P.fd j).node=0):prO P (j+1)=prO P j:=by
 unfold prO;rw [List.range_succ,List.filter_append,List.map_append];simp [h]
def openL (ps:List Pr):List Int:=ps.flatMap fun P=>prO P 3
theorem openL_succ {ps:List Pr} {i:Nat} {P:Pr} (hi:i<ps.length) (hP:ps[i]=P):openL (ps.take i)++prO P 3=openL (ps.take (i+1)):=by
 unfold openL
 rw [List.take_succ_eq_append_getElem hi,List.flatMap_append,hP];simp
theorem prO_len (P:Pr) (j:Nat):(prO P j).length≤j:=by
 unfold prO;rw [List.length_map]
 exact Nat.le_trans (List.length_filter_le _ _) (by simp)
theorem openL_len (ps:List Pr):(openL ps).length≤3*ps.length:=by
 induction ps with
 | nil=>exact Nat.le_refl _
 | cons P r ih=>
  show (prO P 3++openL r).length≤_
  have:=prO_len P 3
  rw [List.length_append,List.length_cons];omega
theorem clL_arC (m:Nat) (P:Pr):AV.clL m (arC P):=⟨trivial,trivial,trivial,trivial,trivial,trivial,trivial,trivial,trivial,trivial,trivial,trivial,trivial⟩
theorem clL_all {m:Nat}:∀ {l:List AV},(∀x∈l,x.cl m)→AV.clL m l
 | [], _=>trivial
 | x::r,h=>⟨h x List.mem_cons_self,clL_all fun y hy=>h y (List.mem_cons_of_mem _ hy)⟩
theorem SysAt.pcl {h:List Blk} {ks kt kb:Nat} {T:Tab} {ps:List Pr} (hs:SysAt h ks kt kb T ps):AV.clL h.length (pB kb ps.length):=by
 refine clL_all fun x hx=>?_
 obtain ⟨i,hi,rfl⟩:=List.mem_map.1 hx
 exact (List.getElem?_eq_some_iff.1 (hs.p i (List.mem_range.1 hi))).1
theorem iV_snoc (l:List Int) (x:Int):l.map iV++[.int .i64 x]=(l++[x]).map iV:=by simp [iV]
attribute [push_cast] clL_prC clL_rsC er_rsC clL_arC clL_all
theorem c70 (e:Int) (h:List Blk) (live:List Nat):AC Tryz.prog 70 [.int .i64 e] h live (.agg (rsC (tol e))):=by
 refine aq_ Tryz.func70 fun hH hX=>?_
 refine rg_ [0,2] ?_
 refine rg_ [2] ?_
 refine ret_ ?_
 refine fq_ Tryz.results70 ?_
 exact rk_ rfl
theorem n69 (ks kt kb:Nat) (T:Tab) (ps:List Pr) (h:List Blk) (live:List Nat) (hs:SysAt h ks kt kb T ps) (pid:Int) (hp:pid<0∨(ps.length:Int)≤pid):AC Tryz.prog 69 [.ptr ks 0,.int .i64 pid] h live (.raw (.pointer none)):=by
 refine aq_ Tryz.func69 fun hH hX=>?_
 have hks:=hs.s
 have hkl:=lt_of_get hks
 have hfw:=hs.few
 have sx:=(And.intro @hks sx0)
 refine rg_ [0,1] ?_
 refine sk_ fun K1 hK1=>?_
 refine rg_ [0,1,19] ?_
 refine cx_ (fun hb1=>?_) (fun hb1=>?_)
 ·
  refine rg_ [4] ?_
  refine ret_ ?_
  refine fq_ Tryz.results69 ?_
  exact rk_ rfl
 exfalso;omega
theorem c69 (ks kt kb:Nat) (T:Tab) (ps:List Pr) (h:List Blk) (live:List Nat) (hs:SysAt h ks kt kb T ps) (pid:Nat) (hp:pid<ps.length):AC Tryz.prog 69 [.ptr ks 0,.int .i64 (pid:Nat)] h live (.ptr (kb+2*pid) 0):=by
 refine aq_ Tryz.func69 fun hH hX=>?_
 have hks:=hs.s
 have hkl:=lt_of_get hks
 have hfw:=hs.few
 have hpb:=pB_getD kb ps.length pid hp
 have hpg:=pB_get kb ps.length pid hp
 have hbl:=lt_of_get (hs.p pid hp)
 have sx:=(And.intro @hks (And.intro @hpb (And.intro @hpg sx0)))
 refine rg_ [0,1] ?_
 refine sk_ fun K1 hK1=>?_
 refine rg_ [0,1,19] ?_
 refine cdn_ (ht:=fun hb1=>?_) (hf:=fun hb1=>?_)
 ·
  exfalso
  simp at hb1
  omega
 refine skp_ ?_
 refine hK1 _ ?_
 refine rg_ [4] ?_
 refine ret_ ?_
 refine fq_ Tryz.results69 ?_
 exact rk_ rfl
theorem n105 (kp:Nat) (i:Int) (h:List Blk) (live:List Nat) (hkp:kp<h.length) (hi:i<0∨3≤i):AC Tryz.prog 105 [.ptr kp 0,.int .i64 i] h live (.raw (.pointer none)):=by
 refine aq_ Tryz.func105 fun hH hX=>?_
 refine rg_ [0,1] ?_
 refine sk_ fun K1 hK1=>?_
 refine rg_ [0,1,14] ?_
 refine cx_ (fun hb1=>?_) (fun hb1=>?_)
 ·
  refine rg_ [4] ?_
  refine ret_ ?_
  refine fq_ Tryz.results105 ?_
  exact rk_ rfl
 exfalso;omega
theorem c105 (kp i:Nat) (h:List Blk) (live:List Nat) (hkp:kp<h.length) (hi:i<3):AC Tryz.prog 105 [.ptr kp 0,.int .i64 (i:Nat)] h live (.ptr kp (4+i*4)):=by
 refine aq_ Tryz.func105 fun hH hX=>?_
 refine rg_ [0,1] ?_
 refine sk_ fun K1 hK1=>?_
 refine rg_ [0,1,14] ?_
 refine cdn_ (ht:=fun hb1=>?_) (hf:=fun hb1=>?_)
 ·
  exfalso
  simp at hb1
  omega
 refine skp_ ?_
 refine hK1 _ ?_
 refine rg_ [4] ?_
 refine ret_ ?_
 refine fq_ Tryz.results105 ?_
 exact rk_ rfl
theorem c20 (ks kt kb:Nat) (T:Tab) (ps:List Pr) (h:List Blk) (live:List Nat) (hs:SysAt h ks kt kb T ps):AC Tryz.prog 20 [.ptr ks 0] h live (.slice ((openL ps).map iV) .none):=by
 refine aq_ Tryz.func20 fun hH hX=>?_
 have hks:=hs.s
 have hkl:=lt_of_get hks
 have hfw:=hs.few
 have hol:=openL_len ps
 have hpc:=hs.pcl
 have hol2:=fun i=>openL_len (ps.take i)
 have hpo:=fun (P:Pr) j=>prO_len P j
 have sx:=(And.intro @hks sx0)
 refine rg_ [0] ?_
 refine sk_ fun K1 hK1=>?_
 refine rg_ [0,9] ?_
 refine cdn_ (ht:=fun hb1=>?_) (hf:=fun hb1=>?_)
 · exfalso;exact Bool.noConfusion hb1
 refine skp_ ?_
 refine hK1 _ ?_
 refine rg_ [0,3] ?_
 refine sk_ fun K2 hK2=>?_
 refine rg_ [3,13,14,15] ?_
 refine awp_block ?_
 refine lp_ (X:={p:Nat×Cap×List Nat // p.1≤ps.length∧CapOK p.2.2 p.2.1∧∀u∈live,u∈p.2.2∧p.2.1≠.own u}) (fun x=>⟨Tryz.f20.ntmps,fget [(3,.slice ((openL (ps.take x.1.1)).map iV) x.1.2.1),(13,.slice (pB kb ps.length) .none),(14,.int .i64 ps.length),(15,.int .i64 (x.1.1:Nat))],h,x.1.2.2⟩) (fun x=>ps.length - x.1.1) (⟨⟨0,.full,live⟩,Nat.zero_le _,.inl rfl,fun u hu=>⟨hu,Cap.noConfusion⟩⟩) ?_ (fun ⟨⟨i,c,live'⟩,hi,hc,hlv⟩=>?_)
 ·
  try dsimp only
  refine Trunc.of (by first | exact (List.append_nil _).symm | exact rfl | (rw [List.append_assoc];rfl)) ?_ hH (fun _ h=>h)
  refine ftc_ ?_ (hc:=by first | exact hpc | exact trivial | simp [AV.cl,AV.clL,clL_iV, -List.map_map, -List.map_append, -List.map_take])
  refine ftc_ ?_ (hc:=by first | exact hpc | exact trivial | simp [AV.cl,AV.clL,clL_iV, -List.map_map, -List.map_append, -List.map_take])
  refine ftc_ ?_ (hc:=by first | exact hpc | exact trivial | simp [AV.cl,AV.clL,clL_iV, -List.map_map, -List.map_append, -List.map_take])
  refine ftc_ ?_ (hc:=by first | exact hpc | exact trivial | simp [AV.cl,AV.clL,clL_iV, -List.map_map, -List.map_append, -List.map_take])
  exact FTr.nil
 try dsimp only
 dsimp only at hi hc hlv
 refine rg_ [3,13,14,15,16] ?_
 refine sk_ fun K3 hK3=>?_
 refine cx_ (fun hb2=>?_) (fun hb2=>?_)
 rotate_left
 ·
  have hie:i=ps.length:=by omega
  subst hie
  have htk:ps.take ps.length=ps:=List.take_length
  have sx:=And.intro htk sx
  refine awp_exit (up_ ?_)
  refine hK2 _ ?_
  refine rg_ [2] ?_
  refine ret_ ?_
  refine fq_ Tryz.results20 ?_ (hcl:=(by simp [AV.cl,AV.clL,clL_iV, -List.map_map])) (hl:=(fun u hu=>(hlv u hu).1))
  exact rk_ rfl
 have hil:i<ps.length:=by omega
 obtain ⟨P,hP⟩:∃P,ps[i]=P:=⟨_,rfl⟩
 have hpp:=hs.p i hil
 rw [hP] at hpp
 have hpl:=lt_of_get hpp
 have hpb:=pB_getD kb ps.length i hil
 have hpg:=pB_get kb ps.length i hil
 have sx:=And.intro hpp (And.intro hpb (And.intro hpg sx))
 refine skp_ ?_
 refine hK3 _ ?_
 refine sk_ fun K4 hK4=>?_
 refine awp_block ?_
 refine rg_ [3,5,13,14,15] ?_
 refine rg_ [3,13,14,15,22,23] ?_
 refine awp_block ?_
 refine lp_ (X:={p:Nat×Cap×List Nat // p.1≤3∧CapOK p.2.2 p.2.1∧∀u∈live,u∈p.2.2∧p.2.1≠.own u}) (fun x=>⟨Tryz.f20.ntmps,fget [(3,.slice ((openL (ps.take i)++prO P x.1.1).map iV) x.1.2.1),(13,.slice (pB kb ps.length) .none),(14,.int .i64 ps.length),(15,.int .i64 (i:Nat)),(22,.agg (arC P)),(23,.int .i64 (x.1.1:Nat))],h,x.1.2.2⟩) (fun x=>3 - x.1.1) (⟨⟨0,c,live'⟩,Nat.zero_le _,hc,hlv⟩) ?_ (fun ⟨⟨j,c2,live2⟩,hj,hc2,hlv2⟩=>?_)
 ·
  try dsimp only
  refine Trunc.of (by first | exact (List.append_nil _).symm | exact rfl | (rw [List.append_assoc];rfl)) ?_ hH (fun _ h=>h)
  refine FTr.cons (by show AV.slice (List.map iV (openL (List.take i ps))) c=_;rw [show prO P 0=[] from rfl,List.append_nil]) (by exact clL_iV _ _) ?_
  refine ftc_ ?_ (hc:=by first | exact hpc | exact trivial | exact clL_arC _ _ | simp [AV.cl,AV.clL,clL_iV, -List.map_map, -List.map_append, -List.map_take])
  refine ftc_ ?_ (hc:=by first | exact hpc | exact trivial | exact clL_arC _ _ | simp [AV.cl,AV.clL,clL_iV, -List.map_map, -List.map_append, -List.map_take])
  refine ftc_ ?_ (hc:=by first | exact hpc | exact trivial | exact clL_arC _ _ | simp [AV.cl,AV.clL,clL_iV, -List.map_map, -List.map_append, -List.map_take])
  refine ftc_ ?_ (hc:=by first | exact hpc | exact trivial | exact clL_arC _ _ | simp [AV.cl,AV.clL,clL_iV, -List.map_map, -List.map_append, -List.map_take])
  refine ftc_ ?_ (hc:=by first | exact hpc | exact trivial | exact clL_arC _ _ | simp [AV.cl,AV.clL,clL_iV, -List.map_map, -List.map_append, -List.map_take])
  exact FTr.nil
 try dsimp only
 dsimp only at hj hc2 hlv2
 refine rg_ [3,13,14,15,22,23,24] ?_
 refine sk_ fun K5 hK5=>?_
 refine cx_ (fun hb3=>?_) (fun hb3=>?_)
 rotate_left
 ·
  have hje:j=3:=by omega
  subst hje
  have hos:=openL_succ hil hP
  have sx:=And.intro hos sx
  refine awp_exit (up_ ?_)
  refine hK4 _ ?_
  refine rt_ [3,13,14,15] ?_
  refine srn_ ?_
  refine ln_ ⟨⟨i+1,c2,live2⟩,by dsimp only;omega,hc2,hlv2⟩ ?_
  try dsimp only
  refine Trunc.of (by first | exact (List.append_nil _).symm | exact rfl | (rw [List.append_assoc];rfl)) ?_ hH (fun _ h=>h)
  refine ftc_ ?_ (hc:=by first | exact hpc | exact trivial | simp [AV.cl,AV.clL,clL_iV, -List.map_map, -List.map_append, -List.map_take])
  refine ftc_ ?_ (hc:=by first | exact hpc | exact trivial | simp [AV.cl,AV.clL,clL_iV, -List.map_map, -List.map_append, -List.map_take])
  refine ftc_ ?_ (hc:=by first | exact hpc | exact trivial | simp [AV.cl,AV.clL,clL_iV, -List.map_map, -List.map_append, -List.map_take])
  refine ftc_ ?_ (hc:=by first | exact hpc | exact trivial | simp [AV.cl,AV.clL,clL_iV, -List.map_map, -List.map_append, -List.map_take])
  exact FTr.nil
 have ha1:=hol2 i
 have ha2:=hpo P j
 rw [List.length_take] at ha1
 have hfd:=arC_fd P (j:=j) (by omega)
 have sx:=And.intro hfd sx
 refine skp_ ?_
 refine hK5 _ ?_
 refine sk_ fun K6 hK6=>?_
 refine awp_block ?_
 refine rg_ [3,7,13,14,15,22,23] ?_
 refine rg_ [3,7,13,14,15,22,23,28] ?_
 refine cx_ (fun hb4=>?_) (fun hb4=>?_)
 ·
  have hpr:=prO_y hb4
  have sx:=And.intro hpr sx
  refine rt_ [3,13,14,15,22,23] ?_
  refine sg_ ?_
  refine ap_ (a:=hc2) (b:=cells_iV _) (c':=by simp [AV.cells]) (d:=by simp;omega) (e:=by simp;omega) (k:=?_)
  intro c33 live33 hk33
  refine srn_ ?_
  refine hK6 _ ?_
  refine rt_ [3,13,14,15,22,23] ?_
  refine srn_ ?_
  refine ln_ ⟨⟨j+1,c33,live33⟩,by dsimp only;omega,hk33.1,fun u hu=>hk33.2 u (hlv2 u hu).1 (hlv2 u hu).2⟩ ?_
  try dsimp only
  refine Trunc.of (by first | exact (List.append_nil _).symm | exact rfl | (rw [List.append_assoc];rfl)) ?_ hH (fun _ h=>h)
  refine FTr.cons (by show _=AV.slice (List.map iV (openL (List.take i ps)++prO P (j+1))) _;rw [hpr];first | rfl | (rw [←List.append_assoc,←iV_snoc];rfl)) (by exact clL_iV _ _) ?_
  refine ftc_ ?_ (hc:=by first | exact hpc | exact trivial | exact clL_arC _ _ | simp [AV.cl,AV.clL,clL_iV, -List.map_map, -List.map_append, -List.map_take])
  refine ftc_ ?_ (hc:=by first | exact hpc | exact trivial | exact clL_arC _ _ | simp [AV.cl,AV.clL,clL_iV, -List.map_map, -List.map_append, -List.map_take])
  refine ftc_ ?_ (hc:=by first | exact hpc | exact trivial | exact clL_arC _ _ | simp [AV.cl,AV.clL,clL_iV, -List.map_map, -List.map_append, -List.map_take])
  refine ftc_ ?_ (hc:=by first | exact hpc | exact trivial | exact clL_arC _ _ | simp [AV.cl,AV.clL,clL_iV, -List.map_map, -List.map_append, -List.map_take])
  refine ftc_ ?_ (hc:=by first | exact hpc | exact trivial | exact clL_arC _ _ | simp [AV.cl,AV.clL,clL_iV, -List.map_map, -List.map_append, -List.map_take])
  exact FTr.nil
 have hpr:=prO_n hb4
 have sx:=And.intro hpr sx
 refine skp_ ?_
 refine hK6 _ ?_
 refine rt_ [3,13,14,15,22,23] ?_
 refine srn_ ?_
 refine ln_ ⟨⟨j+1,c2,live2⟩,by dsimp only;omega,hc2,hlv2⟩ ?_
 try dsimp only
 refine Trunc.of (by first | exact (List.append_nil _).symm | exact rfl | (rw [List.append_assoc];rfl)) ?_ hH (fun _ h=>h)
 refine FTr.cons (by show _=AV.slice (List.map iV (openL (List.take i ps)++prO P (j+1))) _;rw [hpr];first | rfl | (rw [←List.append_assoc,←iV_snoc];rfl)) (by exact clL_iV _ _) ?_
 refine ftc_ ?_ (hc:=by first | exact hpc | exact trivial | exact clL_arC _ _ | simp [AV.cl,AV.clL,clL_iV, -List.map_map, -List.map_append, -List.map_take])
 refine ftc_ ?_ (hc:=by first | exact hpc | exact trivial | exact clL_arC _ _ | simp [AV.cl,AV.clL,clL_iV, -List.map_map, -List.map_append, -List.map_take])
 refine ftc_ ?_ (hc:=by first | exact hpc | exact trivial | exact clL_arC _ _ | simp [AV.cl,AV.clL,clL_iV, -List.map_map, -List.map_append, -List.map_take])
 refine ftc_ ?_ (hc:=by first | exact hpc | exact trivial | exact clL_arC _ _ | simp [AV.cl,AV.clL,clL_iV, -List.map_map, -List.map_append, -List.map_take])
 refine ftc_ ?_ (hc:=by first | exact hpc | exact trivial | exact clL_arC _ _ | simp [AV.cl,AV.clL,clL_iV, -List.map_map, -List.map_append, -List.map_take])
 exact FTr.nil
end Go.Proofs.YtmgnbgniikjhdaaGreat
namespace Go.Proofs.YtmgnbgniikjhdaaGreat
open Go.Ab
set_option maxRecDepth 8000
set_option maxHeartbeats 400000
theorem prC_fd (P:Pr) {i:Nat} (hi:i<3):((prC P).drop (4+i*4)).take 4=fdC (P.fd i):=by
 rcases (show i=0∨i=1∨i=2 by omega) with rfl | rfl | rfl<;>rfl
theorem prC_el (P:Pr) {i q:Nat} (hi:i<3) (hq:q<4):(prC P)[4+i*4+q]? = (fdC (P.fd i))[q]? := by
 rcases (show i=0∨i=1∨i=2 by omega) with rfl | rfl | rfl<;>rcases (show q=0∨q=1∨q=2∨q=3 by omega) with rfl | rfl | rfl | rfl<;>rfl
def pr0:Pr:=⟨⟨0,0,[]⟩,0,fd0,fd0,fd0⟩
def umQ (ps:List Pr) (pid:Int):Int:=if 0≤pid∧pid<ps.length then (ps.getD pid.toNat pr0).um else 0
def fdQ (ps:List Pr) (pid i:Int):Fde:=if (0≤pid∧pid<ps.length)∧0≤i∧i<3 then (ps.getD pid.toNat pr0).fd i.toNat else fd0
theorem SysAt.app {h g:List Blk} {ks kt kb:Nat} {T:Tab} {ps:List Pr} (hs:SysAt h ks kt kb T ps):SysAt (h++g) ks kt kb T ps:=
 ⟨atApp hs.s,atApp hs.t,fun i hi=>atApp (hs.p i hi),hs.st,hs.sb,hs.tb,hs.ok,hs.rt,hs.gs,hs.few⟩
theorem SysAt.pd {h:List Blk} {ks kt kb:Nat} {T:Tab} {ps:List Pr} (hs:SysAt h ks kt kb T ps) {i:Nat} (hi:i<ps.length):h[kb+2*i]? = some (.cells (prC (ps.getD i pr0))):=by
 have:=hs.p i hi
 rw [List.getD_eq_getElem?_getD,List.getElem?_eq_getElem hi];exact this
theorem SysAt.gd {h:List Blk} {ks kt kb:Nat} {T:Tab} {ps:List Pr} (hs:SysAt h ks kt kb T ps) {i:Nat} (hi:i<ps.length):(ps.getD i pr0).c.gs.length≤17592186044416:=by
 rw [List.getD_eq_getElem?_getD,List.getElem?_eq_getElem hi];exact hs.gs _ (List.getElem_mem hi)
theorem er_fdC (f:Fde):AV.erL (fdC f)=fdC f:=rfl
theorem clL_fdC (m:Nat) (f:Fde):AV.clL m (fdC f):=⟨trivial,trivial,trivial,trivial,trivial⟩
theorem fdC_len (f:Fde):(fdC f).length=4:=rfl
theorem fdC_t (f:Fde):(fdC f).take 4=fdC f:=rfl
theorem fdC_p (a b c d:AV) (f:Fde):putAt [a,b,c,d] 0 (fdC f)=fdC f:=rfl
attribute [push_cast] fdC_len fdC_t fdC_p
attribute [push_cast] er_fdC clL_fdC
theorem c13 (ks kt kb:Nat) (T:Tab) (ps:List Pr) (h:List Blk) (live:List Nat) (hs:SysAt h ks kt kb T ps):ACalls Tryz.prog 13 [.ptr ks 0] h live (ret (.ptr h.length 0) (h++[tabBlk T]) live):=by
 refine aq_ Tryz.func13 fun hH hX=>?_
 have hks:=hs.s
 have hkl:=lt_of_get hks
 have hkt:=hs.t
 have hktl:=lt_of_get hkt
 have hB:=hcl_new hH T
 have sx:=(And.intro @hks sx0)
 refine rg_ [0] ?_
 refine sk_ fun K1 hK1=>?_
 refine rg_ [0,4] ?_
 refine cdn_ (ht:=fun hb1=>?_) (hf:=fun hb1=>?_)
 · exfalso;exact Bool.noConfusion hb1
 refine skp_ ?_
 refine hK1 _ ?_
 refine rs_ [2] ?_
 refine sg_ ?_
 refine cl_ (hc:=c41 T kt _ _ hkt hs.ok) (k:=?_)
 refine srt_ ?_
 refine gq_ (h1:=h++[tabBlk T]) Tryz.results13 ?_ (hH:=hB)
 exact rk_ rfl
theorem z105 (i:Int) (h:List Blk) (live:List Nat):AC Tryz.prog 105 [.raw (.pointer none),.int .i64 i] h live (.raw (.pointer none)):=by
 refine aq_ Tryz.func105 fun hH hX=>?_
 refine rg_ [0,1] ?_
 refine sk_ fun K1 hK1=>?_
 refine rg_ [0,1,14] ?_
 refine cdy_ (ht:=fun hb1=>?_) (hf:=fun hb1=>?_)
 ·
  refine rg_ [4] ?_
  refine ret_ ?_
  refine fq_ Tryz.results105 ?_
  exact rk_ rfl
 exfalso
 simp at hb1
end Go.Proofs.YtmgnbgniikjhdaaGreat
namespace Go.Proofs.YtmgnbgniikjhdaaGreat
open Go.Ab
set_option maxRecDepth 8000
set_option maxHeartbeats 400000
def maskF (P:Pr) (ca:Ca):Rs×Pr:=(⟨0,P.um,sta0,[],[],[]⟩,⟨P.c,bits .and .i64 ca.a 511,P.f0,P.f1,P.f2⟩)
def askF (T:Tab) (P:Pr) (ca:Ca):Rs:=
 if ca.kind=1 then ⟨(statF T P.c ca.path true).2,0,(statF T P.c ca.path true).1,[],[],[]⟩
 else if ca.kind=2 then ⟨(statF T P.c ca.path false).2,0,(statF T P.c ca.path false).1,[],[],[]⟩
 else if ca.kind=3 then ⟨(readlinkF T P.c ca.path).2,0,sta0,(readlinkF T P.c ca.path).1,[],[]⟩
 else ⟨(listF T P.c ca.path).2,0,sta0,[],(listF T P.c ca.path).1,[]⟩
theorem prC_s3 (P:Pr) (m:Int):(prC P).set 3 (.int .i64 m)=prC ⟨P.c,m,P.f0,P.f1,P.f2⟩:=rfl
theorem caC_t (c:Ca):(caC c).take 6=caC c:=rfl
attribute [push_cast] prC_s3 caC_t
theorem rs_put (a b c0 c1 c2 c3 c4 c5 c6 t n d x0 x1 x2 x3 x4 x5 x6:AV):putAt [a,b,c0,c1,c2,c3,c4,c5,c6,t,n,d] 2 [x0,x1,x2,x3,x4,x5,x6]=[a,b,x0,x1,x2,x3,x4,x5,x6,t,n,d]:=rfl
theorem rs_take (a b c0 c1 c2 c3 c4 c5 c6 t n d:AV):[a,b,c0,c1,c2,c3,c4,c5,c6,t,n,d].take 12=[a,b,c0,c1,c2,c3,c4,c5,c6,t,n,d]:=rfl
theorem rs_all (a b c0 c1 c2 c3 c4 c5 c6 t n d a' b' c0' c1' c2' c3' c4' c5' c6' t' n' d':AV):putAt [a,b,c0,c1,c2,c3,c4,c5,c6,t,n,d] 0 [a',b',c0',c1',c2',c3',c4',c5',c6',t',n',d']=[a',b',c0',c1',c2',c3',c4',c5',c6',t',n',d']:=rfl
theorem sta_eq (s:Sta):staC s=[.int .i64 s.node,.int .i64 s.kind,.int .i64 s.mode,.int .i64 s.uid,.int .i64 s.gid,.int .i64 s.links,.int .i64 s.size]:=rfl
attribute [push_cast] rs_put rs_take rs_all
theorem c75 (s:AV) (h:List Blk) (live:List Nat) (kp:Nat) (P:Pr) (ca:Ca) (hkp:h[kp]? = some (.cells (prC P))):ACalls Tryz.prog 75 [s,.ptr kp 0,.agg (caC ca)] h live (ret (.agg (rsC (maskF P ca).1)) (h.set kp (.cells (prC (maskF P ca).2))) live):=by
 refine aq_ Tryz.func75 fun hH hX=>?_
 have hkl:=lt_of_get hkp
 have hpq:=fun g:List Blk=>atApp (g:=g) hkp
 have hs1:∀(y:Blk) (g:List Blk),(h++g).set kp y=h.set kp y++g:=fun y g=>setApp hkp
 have sx:=(And.intro @hpq (And.intro @hs1 sx0))
 refine rg_ [1,5,6] ?_
 refine rg_ [1,5,6,7] ?_
 refine rg_ [6,7] ?_
 refine rg_ [6] ?_
 refine ret_ ?_
 refine gq_ (h1:=h.set kp _) Tryz.results75 ?_ (hh:=(⟨_,rfl⟩)) (hH:=(HCl.set hH kp (clL_prC _ _)))
 exact rk_ rfl
theorem c77 (ks kt kb:Nat) (T:Tab) (ps:List Pr) (h:List Blk) (live:List Nat) (hs:SysAt h ks kt kb T ps) (kp:Nat) (P:Pr) (ca:Ca) (hkp:h[kp]? = some (.cells (prC P))) (hgs:P.c.gs.length≤17592186044416) (hpath:ca.path.length≤1000):AC Tryz.prog 77 [.ptr ks 0,.ptr kp 0,.agg (caC ca)] h live (.agg (rsC (askF T P ca))):=by
 refine aq_ Tryz.func77 fun hH hX=>?_
 have hks:=hs.s
 have hkt:=hs.t
 have hkl:=lt_of_get hks
 have hktl:=lt_of_get hkt
 have hkpl:=lt_of_get hkp
 have hpq:=fun g:List Blk=>atApp (g:=g) hkp
 have hksg:=fun g:List Blk=>atApp (g:=g) hks
 have sx:=(And.intro @hpq (And.intro @hksg (And.intro @sta_eq sx0)))
 refine rg_ [0,1,5,6] ?_
 refine sk_ fun K1 hK1=>?_
 refine rg_ [0,1,5,6,8] ?_
 refine awp_block ?_
 refine rg_ [0,1,5,6,8,25] ?_
 refine cx_ (fun hb1=>?_) (fun hb1=>?_)
 ·
  refine rtq_ [6] ⟨true,[],[],[],[],[],0⟩ (fun _=>⟨by kernel_rfl,by kernel_rfl⟩) ?_
  refine sg_ ?_
  refine cr_ (hc:=c31 T kt P.c ca.path _ _ (atApp hkt) hs.ok (by omega) hs.rt (by omega)) (k:=?_)
  refine srn_ ?_
  refine hK1 _ ?_
  refine rg_ [6] ?_
  refine ret_ ?_
  refine fq_ Tryz.results77 ?_ (hcl:=(by simp [AV.cl,AV.clL,clL_str,clL_bV, -List.map_map]))
  exact rk_ (by unfold askF;rw [if_pos hb1];rfl)
 refine rg_ [0,1,5,6,8,43] ?_
 refine cx_ (fun hb2=>?_) (fun hb2=>?_)
 ·
  refine rtq_ [6] ⟨true,[],[],[],[],[],0⟩ (fun _=>⟨by kernel_rfl,by kernel_rfl⟩) ?_
  refine sg_ ?_
  refine cr_ (hc:=c109 T kt P.c ca.path _ _ (atApp hkt) hs.ok (by omega) hs.rt (by omega)) (k:=?_)
  refine srn_ ?_
  refine hK1 _ ?_
  refine rg_ [6] ?_
  refine ret_ ?_
  refine fq_ Tryz.results77 ?_ (hcl:=(by simp [AV.cl,AV.clL,clL_str,clL_bV, -List.map_map]))
  exact rk_ (by unfold askF;rw [if_neg hb1,if_pos hb2];rfl)
 refine rg_ [0,1,5,6,61] ?_
 refine cx_ (fun hb3=>?_) (fun hb3=>?_)
 ·
  refine rtq_ [6] ⟨true,[],[],[],[],[],0⟩ (fun _=>⟨by kernel_rfl,by kernel_rfl⟩) ?_
  refine sg_ ?_
  refine cr_ (hc:=c110 T kt P.c ca.path _ _ (atApp hkt) hs.ok (by omega) hs.rt (by omega)) (k:=?_)
  refine srn_ ?_
  refine hK1 _ ?_
  refine rg_ [6] ?_
  refine ret_ ?_
  refine fq_ Tryz.results77 ?_ (hcl:=(by simp [AV.cl,AV.clL,clL_str,clL_bV, -List.map_map]))
  exact rk_ (by unfold askF;rw [if_neg hb1,if_neg hb2,if_pos hb3];rfl)
 refine rtq_ [6] ⟨true,[],[],[],[],[],0⟩ (fun _=>⟨by kernel_rfl,by kernel_rfl⟩) ?_
 refine sg_ ?_
 refine cr_ (hc:=c111 T kt P.c ca.path _ _ (atApp hkt) hs.ok (by omega) hs.rt (by omega)) (k:=?_)
 refine srn_ ?_
 refine hK1 _ ?_
 refine rg_ [6] ?_
 refine ret_ ?_
 refine fq_ Tryz.results77 ?_ (hcl:=(by simp [AV.cl,AV.clL,clL_str,clL_bV, -List.map_map]))
 exact rk_ (by unfold askF;rw [if_neg hb1,if_neg hb2,if_neg hb3];rfl)
end Go.Proofs.YtmgnbgniikjhdaaGreat
