import Derived.Test.YtmgnbgniikjhdaaGreatP4
/-
  CALLS: new nodes.
-/
set_option linter.unusedVariables false
set_option linter.unusedSimpArgs false
namespace Go.Proofs.YtmgnbgniikjhdaaGreat
open Go.Ab
set_option maxRecDepth 8000
set_option maxHeartbeats 400000
abbrev Made (P:Program) (tf:FuncId) (cs:List AV) (h0:List Blk) (g:Nd→Nd):Prop:=
 ∀(n:Nd) (h:List Blk) (live:List Nat),NdOk n→(∀i,i<h0.length→h[i]? = h0[i]?)→ACalls P tf (.agg (ndC n)::cs) h live (ret (.agg (ndC (g n))) h live)
theorem resL_nm (T:Tab) (c:Cr) (fl:Bool):∀(n:Nat) (i k:Int) (l:List (List UInt8)),(resL T c fl n i k l).1.2.1.length≤12
 | 0, _, _, _=>Nat.zero_le _
 | _+1, _, _,[]=>Nat.zero_le _
 | n+1,i,k,s::l=>by
  rw [resL_cons]
  split
  · exact Nat.zero_le _
  ·
   split
   · exact Nat.zero_le _
   ·
    split
    · exact resL_nm T c fl n _ _ _
    ·
     split
     · exact resL_nm T c fl n _ _ _
     ·
      split
      · exact Nat.zero_le _
      ·
       split
       · exact Nat.zero_le _
       ·
        split
        ·
         split
         · exact Nat.zero_le _
         · exact resL_nm T c fl n _ _ _
        ·
         split
         · show s.length≤12;omega
         · exact resL_nm T c fl n _ _ _
theorem resF_nm (T:Tab) (c:Cr) (p:List UInt8) (fl:Bool):(rS T c p fl).length≤12:=by
 show (resF T c p fl).1.2.1.length≤12
 unfold resF
 split
 · exact Nat.zero_le _
 · exact resL_nm T c fl _ _ _ _
theorem ownN_ok {c:Cr} {d n:Nd} (hn:NdOk n):NdOk (ownN c d n):=hn
theorem c167 (T:Tab) (k:Nat) (c:Cr) (p:List UInt8) (fl:Bool) (tf:FuncId) (cs:List AV) (g:Nd→Nd) (h:List Blk) (live:List Nat) (hk:h[k]? = some (tabBlk T)) (hT:T.Ok) (hgs:c.gs.length≤17592186044416) (hR:T.Rt) (hp:p.length≤9223372036854775807) (hcs:AV.clL h.length cs) (hg:∀n,NdOk n→NdOk (g n)) (ht:Made Tryz.prog tf cs h g):ACalls Tryz.prog 167 [.ptr k 0,.agg [.int .i64 c.uid,.int .i64 c.gid,.slice (c.gs.map iV) .none],.str p,.bool fl,.fn (.func tf) [] cs] h live (ret (.tup [.int .i64 (plantF T c p fl g).1.1,.int .i64 (plantF T c p fl g).1.2]) (h.set k (tabBlk (plantF T c p fl g).2)) live):=by
 refine aq_ Tryz.func167 fun hH hX=>?_
 have hkl:=lt_of_get hk
 have hs1:∀(y:Blk) (g:List Blk),(h++g).set k y=h.set k y++g:=fun y g=>setApp hk
 have hse:h.set k (tabBlk T)=h:=set_self hk
 have hcl:∀x,HCl (h.set k (tabBlk x)):=fun x=>hcl_tab hH _ _
 have hk2:∀x:Blk,(h.set k x)[k]? = some x:=fun x=>get_setk hkl
 have hsl:∀x:Blk,(h.set k x).length=h.length:=fun x=>List.length_set ..
 have hss:∀x y:Blk,(h.set k x).set k y=h.set k y:=fun x y=>by rw [List.set_set]
 have hs3:∀(x y:Blk) (g:List Blk),(h.set k x++g).set k y=h.set k y++g:=fun x y g=>by rw [setApp (hk2 x),hss]
 have hdn:=get_ok hT (rD T c p fl)
 have hnm:=resF_nm T c p fl
 have hwn:=withN_ok (s:=rS T c p fl) (id:=(addT T (ownN c (T.get (rD T c p fl)).1 (g (T.get (rD T c p fl)).1))).1.1) hdn (by omega)
 have hTA:(addT T (ownN c (T.get (rD T c p fl)).1 (g (T.get (rD T c p fl)).1))).2.Ok:=addT_ok hT (ownN_ok (hg _ hdn))
 have hB:HCl (h++[.cells [AV.int .i64 c.uid,.int .i64 c.gid,.slice (c.gs.map iV) .none],.cells [.int .i64 (rD T c p fl),.str (rS T c p fl),.int .i64 (rN T c p fl)],.cells (ndC (T.get (rD T c p fl)).1),.cells (ndC (ownN c (T.get (rD T c p fl)).1 (g (T.get (rD T c p fl)).1)))]):=by
  have:=HCl.snoc (HCl.snoc (HCl.snoc (HCl.snoc (b:=.cells [AV.int .i64 c.uid,.int .i64 c.gid,.slice (c.gs.map iV) .none]) hH (by simp [Blk.cl,AV.cl,AV.clL,clL_iV, -List.map_map])) (b:=.cells [.int .i64 (rD T c p fl),.str (rS T c p fl),.int .i64 (rN T c p fl)]) ⟨trivial,trivial,trivial,trivial⟩) (b:=.cells (ndC (T.get (rD T c p fl)).1)) (cl_ndB _ _)) (b:=.cells (ndC (ownN c (T.get (rD T c p fl)).1 (g (T.get (rD T c p fl)).1)))) (cl_ndB _ _)
  rw [List.append_assoc,List.append_assoc,List.append_assoc] at this;exact this
 have sx:=(And.intro @hs1 (And.intro @hs3 (And.intro @hk (And.intro @hsl sx0))))
 refine rg_ [0,2,3,4,6] ?_
 refine rs_ [0,4,6,12,13] ?_
 refine sg_ ?_
 refine cl_ (hc:=c90 T k c p fl _ _ (atApp hk) hT hgs hR hp) (k:=?_)
 refine sre_ ?_
 refine sk_ fun K1 hK1=>?_
 refine awp_block ?_
 refine rg_ [0,4,6,12,13,26] ?_
 refine cx_ (fun hb1=>?_) (fun hb1=>?_)
 ·
  refine rg_ [10,11] ?_
  refine ret_ ?_
  refine gq_ (h1:=h.set k (tabBlk T)) Tryz.results167 ?_ (hh:=(by rw [hse];exact ⟨_,rfl⟩)) (hH:=(hcl _))
  exact ⟨by unfold plantF;rw [if_pos hb1]<;>rfl,by unfold plantF;rw [if_pos hb1]<;>rfl,rfl⟩
 refine rg_ [0,4,6,12,30] ?_
 refine cx_ (fun hb2=>?_) (fun hb2=>?_)
 ·
  refine rg_ [10,11] ?_
  refine ret_ ?_
  refine gq_ (h1:=h.set k (tabBlk T)) Tryz.results167 ?_ (hh:=(by rw [hse];exact ⟨_,rfl⟩)) (hH:=(hcl _))
  exact ⟨by unfold plantF;rw [if_neg (fun h=>h hb1),if_pos hb2]<;>rfl,by unfold plantF;rw [if_neg (fun h=>h hb1),if_pos hb2]<;>rfl,rfl⟩
 refine rs_ [0,4,6,12,34] ?_
 refine sg_ ?_
 refine cl_ (hc:=c128 T k c _ _ _ _ _ (atApp hk) hT hgs) (k:=?_)
 refine sre_ ?_
 refine cx_ (fun hb3=>?_) (fun hb3=>?_)
 ·
  refine rg_ [10,11] ?_
  refine ret_ ?_
  refine gq_ (h1:=h.set k (tabBlk T)) Tryz.results167 ?_ (hh:=(by rw [hse];exact ⟨_,rfl⟩)) (hH:=(hcl _))
  exact ⟨by unfold plantF;rw [if_neg (fun h=>h hb1),if_neg (fun h=>h hb2),if_pos hb3]<;>rfl,by unfold plantF;rw [if_neg (fun h=>h hb1),if_neg (fun h=>h hb2),if_pos hb3]<;>rfl,rfl⟩
 refine skp_ ?_
 refine hK1 _ ?_
 refine rs_ [0,4,6,12,14] ?_
 refine sg_ ?_
 refine cl_ (hc:=c23 T k _ _ _ (atApp hk) hT) (k:=?_)
 refine sre_ ?_
 refine rs_ [0,6,12,14,16] ?_
 refine sg_ ?_
 refine cl_ (hc:=ht (T.get (rD T c p fl)).1 _ _ hdn (fun i hi=>List.getElem?_append_left hi)) (k:=?_)
 refine sre_ ?_
 refine rsq_ [0,12,14,16] ⟨false,[(h.length,0,.one),(h.length,1,.one)],[52,54],[55,56],[],[],0⟩ (fun _=>⟨by kernel_rfl,by kernel_rfl⟩) ?_
 refine sg_ ?_
 refine df_ ?_
 refine sg_ ?_
 refine df_ ?_
 refine sg_ ?_
 refine dgs_ ?_
 refine sg_ ?_
 refine dgs_ ?_
 refine re_ ?_
 refine awp_seq_m (X:=Unit) (fun _=>⟨Tryz.f167.ntmps,fget [(0,.ptr k 0),(12,.ptr (h.length+1) 0),(14,.ptr (h.length+2) 0),(16,.ptr (h.length+3) 0)],h++[.cells [AV.int .i64 c.uid,.int .i64 c.gid,.slice (c.gs.map iV) .none],.cells [.int .i64 (rD T c p fl),.str (rS T c p fl),.int .i64 (rN T c p fl)],.cells (ndC (T.get (rD T c p fl)).1),.cells (ndC (ownN c (T.get (rD T c p fl)).1 (g (T.get (rD T c p fl)).1)))],live⟩) ?_ (fun _=>?_)
 rotate_left
 ·
  try dsimp only
  refine sk_ fun K2 hK2=>?_
  refine rs_ [0,12,14,16,74] ?_
  refine sg_ ?_
  refine cg_ (hc:=fun hg=>c224 T k _ _ (atApp hk) hT) (k:=?_)
  refine sg_ ?_
  refine cg_ (hc:=fun hg=>c22 T k _ _ (atApp hk)) (k:=?_)
  refine sre_ ?_
  refine cx_ (fun hb5=>?_) (fun hb5=>?_)
  ·
   refine rg_ [10,11] ?_
   refine ret_ ?_
   refine gq_ (h1:=h.set k (tabBlk T)) Tryz.results167 ?_ (hh:=(by rw [hse];exact ⟨_,rfl⟩)) (hH:=(hcl _))
   exact ⟨by unfold plantF;rw [if_neg (fun h=>h hb1),if_neg (fun h=>h hb2),if_neg (by rw [hb3];decide),if_pos hb5]<;>rfl,by unfold plantF;rw [if_neg (fun h=>h hb1),if_neg (fun h=>h hb2),if_neg (by rw [hb3];decide),if_pos hb5]<;>rfl,rfl⟩
  refine skp_ ?_
  refine hK2 _ ?_
  refine rs_ [0,12,13,14,17] ?_
  refine sg_ ?_
  refine cl_ (hc:=c92 T k (ownN c (T.get (rD T c p fl)).1 (g (T.get (rD T c p fl)).1)) _ _ (atApp hk) hT (ownN_ok (hg _ hdn))) (k:=?_)
  refine sre_ ?_
  refine sk_ fun K3 hK3=>?_
  refine rg_ [0,12,13,14,17,82] ?_
  refine cx_ (fun hb6=>?_) (fun hb6=>?_)
  ·
   refine rg_ [10,11] ?_
   refine ret_ ?_
   refine gq_ (h1:=h.set k _) Tryz.results167 ?_ (hh:=(⟨_,rfl⟩)) (hH:=(hcl _))
   exact ⟨by unfold plantF;rw [if_neg (fun h=>h hb1),if_neg (fun h=>h hb2),if_neg (by rw [hb3];decide),if_neg (by omega),if_pos hb6]<;>rfl,by unfold plantF;rw [if_neg (fun h=>h hb1),if_neg (fun h=>h hb2),if_neg (by rw [hb3];decide),if_neg (by omega),if_pos hb6]<;>rfl,rfl⟩
  refine skp_ ?_
  refine hK3 _ ?_
  refine rs_ [0,12,13,14,17] ?_
  refine sg_ ?_
  refine cl_ (hc:=c134 _ _ _ _ _ hdn (by omega)) (k:=?_)
  refine sre_ ?_
  refine sk_ fun K4 hK4=>?_
  refine rg_ [0,12,13,14,17,93] ?_
  refine cx_ (fun hb7=>?_) (fun hb7=>?_)
  ·
   refine rs_ [13] ?_
   refine sg_ ?_
   refine cl_ (hc:=c161 _ k _ _ _ (atApp (hk2 _)) hTA) (k:=?_)
   refine re_ ?_
   refine rg_ [10,11] ?_
   refine ret_ ?_
   refine gq_ (h1:=h.set k _) Tryz.results167 ?_ (hh:=(⟨_,rfl⟩)) (hH:=(hcl _))
   exact ⟨by unfold plantF;rw [if_neg (fun h=>h hb1),if_neg (fun h=>h hb2),if_neg (by rw [hb3];decide),if_neg (by omega),if_neg (fun h=>h hb6),if_pos hb7]<;>rfl,by unfold plantF;rw [if_neg (fun h=>h hb1),if_neg (fun h=>h hb2),if_neg (by rw [hb3];decide),if_neg (by omega),if_neg (fun h=>h hb6),if_pos hb7]<;>rfl,rfl⟩
  refine skp_ ?_
  refine hK4 _ ?_
  refine rs_ [10,11] ?_
  refine sg_ ?_
  refine cl_ (hc:=c135 _ k _ _ _ _ (atApp (hk2 _)) hTA hwn) (k:=?_)
  refine srt_ ?_
  refine gq_ (h1:=h.set k _) Tryz.results167 ?_ (hh:=(⟨_,rfl⟩)) (hH:=(hcl _))
  exact ⟨by unfold plantF;rw [if_neg (fun h=>h hb1),if_neg (fun h=>h hb2),if_neg (by rw [hb3];decide),if_neg (by omega),if_neg (fun h=>h hb6),if_neg (fun h=>h hb7)]<;>rfl,by unfold plantF;rw [if_neg (fun h=>h hb1),if_neg (fun h=>h hb2),if_neg (by rw [hb3];decide),if_neg (by omega),if_neg (fun h=>h hb6),if_neg (fun h=>h hb7)]<;>rfl,rfl⟩
 refine rg_ [0,12,14,16,60] ?_
 refine cx_ (fun hb4=>?_) (fun hb4=>?_)
 ·
  refine rt_ [0,12,14,16] ?_
  refine srn_ ?_
  first
   | exact ⟨(),tf_ hB (fun _ h=>h) (hj:=by rw [List.append_nil];unfold ownN;rw [if_neg hb4]),by simp⟩
   | exact ⟨(),tf_ hB (fun _ h=>h) (hj:=by rw [List.append_nil];unfold ownN;rw [if_pos hb4]),by simp⟩
 refine skp_ ?_
 first
  | exact ⟨(),tf_ hB (fun _ h=>h) (hj:=by rw [List.append_nil];unfold ownN;rw [if_neg hb4]),by simp⟩
  | exact ⟨(),tf_ hB (fun _ h=>h) (hj:=by rw [List.append_nil];unfold ownN;rw [if_pos hb4]),by simp⟩
end Go.Proofs.YtmgnbgniikjhdaaGreat
namespace Go.Proofs.YtmgnbgniikjhdaaGreat
open Go.Ab
set_option maxRecDepth 8000
set_option maxHeartbeats 400000
theorem orL_succ (l:List Int) (i:Nat):i<l.length→bits .or .i64 (orL (l.take i)) (l.getD i 0)=orL (l.take (i+1)):=fun hi=>by
 unfold orL
 rw [List.take_add_one,List.foldl_append,List.getD_eq_getElem?_getD,List.getElem?_eq_getElem hi];rfl
theorem c169 (m:Int) (l:List Int) (q:Cap) (h:List Blk) (live:List Nat) (hl:l.length≤1000000):AC Tryz.prog 169 [.int .i64 m,.slice (l.map iV) q] h live (.int .i64 (bitsP m l)):=by
 refine aq_ Tryz.func169 fun hH hX=>?_
 refine rg_ [0,1] ?_
 refine rg_ [0,1,5] ?_
 refine sk_ fun K1 hK1=>?_
 refine rg_ [0,5,8,9,10] ?_
 refine awp_block ?_
 refine lp_ (X:={x:Nat×Int // x.1≤l.length∧x.2=orL (l.take x.1)}) (fun x=>⟨Tryz.f169.ntmps,fget [(0,.int .i64 m),(5,.int .i64 x.1.2),(8,.slice (l.map iV) q),(9,.int .i64 l.length),(10,.int .i64 (x.1.1:Nat))],h,live⟩) (fun x=>l.length - x.1.1) (⟨(0,0),by dsimp only;omega,rfl⟩) ?_ (fun ⟨⟨i,v⟩,hi,hv⟩=>?_)
 ·
  try dsimp only
  exact ts_ hH
 try dsimp only
 dsimp only at hi hv
 refine rg_ [0,5,8,9,10,11] ?_
 refine sk_ fun K2 hK2=>?_
 refine cx_ (fun hb1=>?_) (fun hb1=>?_)
 rotate_left
 ·
  have hie:i=l.length:=by omega
  refine awp_exit (up_ ?_)
  refine hK1 _ ?_
  refine rg_ [4] ?_
  refine ret_ ?_
  refine fq_ Tryz.results169 ?_
  exact rk_ (by rw [hv,hie,List.take_length];rfl)
 refine skp_ ?_
 refine hK2 _ ?_
 refine sk_ fun K3 hK3=>?_
 refine awp_block ?_
 refine rg_ [0,5,7,8,9,10] ?_
 refine rt_ [0,5,8,9,10] ?_
 refine srn_ ?_
 refine hK3 _ ?_
 refine rt_ [0,5,8,9,10] ?_
 refine srn_ ?_
 refine ln_ ⟨(i+1,bits .or .i64 v (l.getD i 0)),by dsimp only;omega,by rw [hv];exact orL_succ l i (by omega)⟩ ?_
 try dsimp only
 exact ts_ hH
theorem c168 (p1 p2:Nat) (m um:Int) (n:Nd) (h:List Blk) (live:List Nat) (hn:NdOk n) (h1:h[p1]? = some (.cells [.int .i64 m])) (h2:h[p2]? = some (.cells [.int .i64 um])):AC Tryz.prog 168 [.agg (ndC n),.ptr p1 0,.ptr p2 0] h live (.agg (ndC (mkdirG um m n))):=by
 refine aq_ Tryz.func168 fun hH hX=>?_
 have hl1:=lt_of_get h1
 have hl2:=lt_of_get h2
 have hg1:=fun g:List Blk=>atApp (g:=g) h1
 have hg2:=fun g:List Blk=>atApp (g:=g) h2
 have sx:=(And.intro @hg1 (And.intro @hg2 sx0))
 refine rg_ [1,2,3,4] ?_
 refine rsq_ [4,5] ⟨true,[],[],[],[],[],0⟩ (fun _=>⟨by kernel_rfl,by kernel_rfl⟩) ?_
 refine sg_ ?_
 refine cr_ (hc:=c169 _ [511,512] _ _ _ (by simp)) (k:=?_)
 refine sg_ ?_
 refine cr_ (hc:=c169 _ [511] _ _ _ (by simp)) (k:=?_)
 refine sg_ ?_
 refine cr_ (hc:=c169 _ [1024] _ _ _ (by simp)) (k:=?_)
 refine sre_ ?_
 refine rg_ [4] ?_
 refine ret_ ?_
 refine fq_ Tryz.results168 ?_
 exact rk_ rfl
theorem c113 (T:Tab) (k:Nat) (c:Cr) (um:Int) (p:List UInt8) (m:Int) (h:List Blk) (live:List Nat) (hk:h[k]? = some (tabBlk T)) (hT:T.Ok) (hgs:c.gs.length≤17592186044416) (hR:T.Rt) (hp:p.length≤9223372036854775807):ACalls Tryz.prog 113 [.ptr k 0,.agg [.int .i64 c.uid,.int .i64 c.gid,.slice (c.gs.map iV) .none],.int .i64 um,.str p,.int .i64 m] h live (ret (.int .i64 (mkdirF T c um p m).1) (h.set k (tabBlk (mkdirF T c um p m).2)) live):=by
 refine aq_ Tryz.func113 fun hH hX=>?_
 have hkl:=lt_of_get hk
 have hs1:∀(y:Blk) (g:List Blk),(h++g).set k y=h.set k y++g:=fun y g=>setApp hk
 have hse:h.set k (tabBlk T)=h:=set_self hk
 have hcl:∀x,HCl (h.set k (tabBlk x)):=fun x=>hcl_tab hH _ _
 have sx:=(And.intro @hs1 sx0)
 refine rg_ [0,3,6,7,9] ?_
 refine rs_ [12] ?_
 refine sg_ ?_
 refine cl_ (hc:=c167 T k c p false _ _ (mkdirG um m) _ _ (atApp hk) hT hgs hR hp (by simp [AV.clL,AV.cl]) (fun n hn=>⟨Nat.zero_le _,Nat.zero_le _,Nat.zero_le _,fun e he=>nomatch he⟩) (fun n h' live hn ho=>c168 _ _ m um n h' live hn (by rw [ho _ (by simp)];simp only [push_cast]) (by rw [ho _ (by simp)];simp only [push_cast]))) (k:=?_)
 refine sre_ ?_
 refine rg_ [10] ?_
 refine ret_ ?_
 refine gq_ (h1:=h.set k _) Tryz.results113 ?_ (hh:=(⟨_,rfl⟩)) (hH:=(hcl _))
 exact rk_ rfl
theorem c171 (p1:Nat) (s:List UInt8) (n:Nd) (h:List Blk) (live:List Nat) (hn:NdOk n) (h1:h[p1]? = some (.cells [.str s])):AC Tryz.prog 171 [.agg (ndC n),.ptr p1 0] h live (.agg (ndC (symG s n))):=by
 refine aq_ Tryz.func171 fun hH hX=>?_
 have hl1:=lt_of_get h1
 have hg1:=fun g:List Blk=>atApp (g:=g) h1
 have sx:=(And.intro @hg1 sx0)
 refine rg_ [1,3] ?_
 refine rg_ [3] ?_
 refine ret_ ?_
 refine fq_ Tryz.results171 ?_
 exact rk_ rfl
theorem c114 (T:Tab) (k:Nat) (c:Cr) (s p:List UInt8) (h:List Blk) (live:List Nat) (hk:h[k]? = some (tabBlk T)) (hT:T.Ok) (hgs:c.gs.length≤17592186044416) (hR:T.Rt) (hp:p.length≤9223372036854775807) (hs:s.length≤9223372036854775807):ACalls Tryz.prog 114 [.ptr k 0,.agg [.int .i64 c.uid,.int .i64 c.gid,.slice (c.gs.map iV) .none],.str s,.str p] h live (ret (.int .i64 (symlinkF T c s p).1) (h.set k (tabBlk (symlinkF T c s p).2)) live):=by
 refine aq_ Tryz.func114 fun hH hX=>?_
 have hkl:=lt_of_get hk
 have hs1:∀(y:Blk) (g:List Blk),(h++g).set k y=h.set k y++g:=fun y g=>setApp hk
 have hse:h.set k (tabBlk T)=h:=set_self hk
 have hcl:∀x,HCl (h.set k (tabBlk x)):=fun x=>hcl_tab hH _ _
 have sx:=(And.intro @hs1 sx0)
 refine rg_ [0,3,5,6] ?_
 refine sk_ fun K1 hK1=>?_
 refine awp_block ?_
 refine rg_ [0,3,5,6,11] ?_
 refine cx_ (fun hb1=>?_) (fun hb1=>?_)
 ·
  refine rg_ [8] ?_
  refine ret_ ?_
  refine gq_ (h1:=h.set k (tabBlk T)) Tryz.results114 ?_ (hh:=(by rw [hse];exact ⟨_,rfl⟩)) (hH:=(hcl _))
  exact ⟨by unfold symlinkF;rw [if_pos hb1],by unfold symlinkF;rw [if_pos hb1],rfl⟩
 refine rg_ [0,3,5,6,14] ?_
 refine cx_ (fun hb2=>?_) (fun hb2=>?_)
 ·
  refine rg_ [8] ?_
  refine ret_ ?_
  refine gq_ (h1:=h.set k (tabBlk T)) Tryz.results114 ?_ (hh:=(by rw [hse];exact ⟨_,rfl⟩)) (hH:=(hcl _))
  exact ⟨by unfold symlinkF;rw [if_neg hb1,if_pos hb2],by unfold symlinkF;rw [if_neg hb1,if_pos hb2],rfl⟩
 refine rs_ [0,3,5,6,18] ?_
 refine sg_ ?_
 refine cl_ (hc:=c170 s 0 _ _) (k:=?_)
 refine sre_ ?_
 refine cx_ (fun hb3=>?_) (fun hb3=>?_)
 ·
  refine rg_ [8] ?_
  refine ret_ ?_
  refine gq_ (h1:=h.set k (tabBlk T)) Tryz.results114 ?_ (hh:=(by rw [hse];exact ⟨_,rfl⟩)) (hH:=(hcl _))
  exact ⟨by unfold symlinkF;rw [if_neg hb1,if_neg (by omega),if_pos hb3],by unfold symlinkF;rw [if_neg hb1,if_neg (by omega),if_pos hb3],rfl⟩
 refine skp_ ?_
 refine hK1 _ ?_
 refine rs_ [10] ?_
 refine sg_ ?_
 refine cl_ (hc:=c167 T k c p false _ _ (symG s) _ _ (atApp hk) hT hgs hR hp (by simp [AV.clL,AV.cl]) (fun n hn=>⟨Nat.zero_le _,Nat.zero_le _,(by show s.length≤1000;omega),fun e he=>nomatch he⟩) (fun n h' live hn ho=>c171 _ s n h' live hn (by rw [ho _ (by simp)];simp only [push_cast]))) (k:=?_)
 refine sre_ ?_
 refine rg_ [8] ?_
 refine ret_ ?_
 refine gq_ (h1:=h.set k _) Tryz.results114 ?_ (hh:=(⟨_,rfl⟩)) (hH:=(hcl _))
 exact ⟨by unfold symlinkF;rw [if_neg hb1,if_neg (by omega),if_neg (by omega)],by unfold symlinkF;rw [if_neg hb1,if_neg (by omega),if_neg (by omega)],rfl⟩
theorem c218 (p1 p2:Nat) (m um:Int) (n:Nd) (h:List Blk) (live:List Nat) (hn:NdOk n) (h1:h[p1]? = some (.cells [.int .i64 m])) (h2:h[p2]? = some (.cells [.int .i64 um])):AC Tryz.prog 218 [.agg (ndC n),.ptr p1 0,.ptr p2 0] h live (.agg (ndC (fileG um m n))):=by
 refine aq_ Tryz.func218 fun hH hX=>?_
 have hl1:=lt_of_get h1
 have hl2:=lt_of_get h2
 have hg1:=fun g:List Blk=>atApp (g:=g) h1
 have hg2:=fun g:List Blk=>atApp (g:=g) h2
 have sx:=(And.intro @hg1 (And.intro @hg2 sx0))
 refine rg_ [1,2,4] ?_
 refine rsq_ [4] ⟨true,[],[],[],[],[],0⟩ (fun _=>⟨by kernel_rfl,by kernel_rfl⟩) ?_
 refine sg_ ?_
 refine cr_ (hc:=c169 _ [511] _ _ _ (by simp)) (k:=?_)
 refine srt_ ?_
 refine fq_ Tryz.results218 ?_
 exact rk_ rfl
theorem c157 (T:Tab) (k:Nat) (c:Cr) (um:Int) (p:List UInt8) (m:Int) (fl:Bool) (h:List Blk) (live:List Nat) (hk:h[k]? = some (tabBlk T)) (hT:T.Ok) (hgs:c.gs.length≤17592186044416) (hR:T.Rt) (hp:p.length≤9223372036854775807):ACalls Tryz.prog 157 [.ptr k 0,.agg [.int .i64 c.uid,.int .i64 c.gid,.slice (c.gs.map iV) .none],.int .i64 um,.str p,.int .i64 m,.bool fl] h live (ret (.tup [.int .i64 (createF T c um p m fl).1.1,.int .i64 (createF T c um p m fl).1.2]) (h.set k (tabBlk (createF T c um p m fl).2)) live):=by
 refine aq_ Tryz.func157 fun hH hX=>?_
 have hkl:=lt_of_get hk
 have hs1:∀(y:Blk) (g:List Blk),(h++g).set k y=h.set k y++g:=fun y g=>setApp hk
 have hse:h.set k (tabBlk T)=h:=set_self hk
 have hcl:∀x,HCl (h.set k (tabBlk x)):=fun x=>hcl_tab hH _ _
 have sx:=(And.intro @hs1 sx0)
 refine rg_ [0,3,5,7,8,10] ?_
 refine rs_ [12,13] ?_
 refine sg_ ?_
 refine cl_ (hc:=c167 T k c p fl _ _ (fileG um m) _ _ (atApp hk) hT hgs hR hp (by simp [AV.clL,AV.cl]) (fun n hn=>⟨Nat.zero_le _,Nat.zero_le _,Nat.zero_le _,fun e he=>nomatch he⟩) (fun n h' live hn ho=>c218 _ _ m um n h' live hn (by rw [ho _ (by simp)];simp only [push_cast]) (by rw [ho _ (by simp)];simp only [push_cast]))) (k:=?_)
 refine srt_ ?_
 refine gq_ (h1:=h.set k _) Tryz.results157 ?_ (hh:=(⟨_,rfl⟩)) (hH:=(hcl _))
 exact rk_ rfl
end Go.Proofs.YtmgnbgniikjhdaaGreat
namespace Go.Proofs.YtmgnbgniikjhdaaGreat
open Go.Ab
set_option maxRecDepth 8000
set_option maxHeartbeats 400000
def plC (a:Int) (s:List UInt8) (b:Int) (d n:Nd):List AV:=.int .i64 a::.str s::.int .i64 b::(ndC d++ndC n)
theorem clL_plC (m:Nat) (a:Int) (s:List UInt8) (b:Int) (d n:Nd):AV.clL m (plC a s b d n):=⟨trivial,trivial,trivial,clL_append' m _ _ (clL_ndC m d) (clL_ndC m n)⟩
theorem er_plC (a:Int) (s:List UInt8) (b:Int) (d n:Nd):AV.erL (plC a s b d n)=plC a s b d n:=by
 show AV.int .i64 a::.str s::.int .i64 b::AV.erL (ndC d++ndC n)=_
 rw [AV.erL_map,List.map_append,←AV.erL_map,←AV.erL_map,er_ndC,er_ndC];rfl
variable (a b:Int) (s:List UInt8) (d n m:Nd)
theorem plC_len:(plC a s b d n).length=17:=rfl
theorem plC_0:(plC a s b d n)[0]? = some (.int .i64 a):=rfl
theorem plC_1:(plC a s b d n)[1]? = some (.str s):=rfl
theorem plC_2:(plC a s b d n)[2]? = some (.int .i64 b):=rfl
theorem plC_4:(plC a s b d n)[4]? = some (.int .i64 d.mode):=rfl
theorem plC_5:(plC a s b d n)[5]? = some (.int .i64 d.uid):=rfl
theorem plC_8:(plC a s b d n)[8]? = some (.slice (d.ents.map eV) .none):=rfl
theorem plC_10:(plC a s b d n)[10]? = some (.int .i64 n.kind):=rfl
theorem plC_12:(plC a s b d n)[12]? = some (.int .i64 n.uid):=rfl
theorem plC_15:(plC a s b d n)[15]? = some (.slice (n.ents.map eV) .none):=rfl
theorem plC_t:(plC a s b d n).take 17=plC a s b d n:=rfl
theorem plC_p0 (x0 x1 x2 x3 x4 x5 x6 x7 x8 x9 y0 y1 y2 y3 y4 y5 y6:AV):putAt [x0,x1,x2,x3,x4,x5,x6,x7,x8,x9,y0,y1,y2,y3,y4,y5,y6] 0 (plC a s b d n)=plC a s b d n:=rfl
theorem plC_p1 (x3 x4 x5 x6 x7 x8 x9 y0 y1 y2 y3 y4 y5 y6:AV):putAt [.int .i64 a,.str s,.int .i64 b,x3,x4,x5,x6,x7,x8,x9,y0,y1,y2,y3,y4,y5,y6] 3 (ndC d)=.int .i64 a::.str s::.int .i64 b::(ndC d++[y0,y1,y2,y3,y4,y5,y6]):=rfl
theorem plC_p2 (y0 y1 y2 y3 y4 y5 y6:AV):putAt (.int .i64 a::.str s::.int .i64 b::(ndC d++[y0,y1,y2,y3,y4,y5,y6])) 10 (ndC n)=plC a s b d n:=rfl
theorem plC_l (y0 y1 y2 y3 y4 y5 y6:AV):(.int .i64 a::.str s::.int .i64 b::(ndC d++[y0,y1,y2,y3,y4,y5,y6]):List AV).length=17:=rfl
attribute [push_cast] plC_len plC_0 plC_1 plC_2 plC_4 plC_5 plC_8 plC_10 plC_12 plC_15 plC_t plC_p0 plC_p1 plC_p2 plC_l
theorem withoutN_ok {n:Nd} {s:List UInt8} (hn:NdOk n):NdOk (withoutN n s).1:=by
 unfold withoutN
 split
 · exact ndOk_0
 ·
  split
  · exact ndOk_0
  ·
   refine ⟨hn.1,?_,hn.2.2.1,fun e he=>?_⟩
   ·
    have:=hn.2.1
    show (n.ents.take (idxP (eqS s) n.ents).toNat++n.ents.drop ((idxP (eqS s) n.ents).toNat+1)).length≤1000
    rw [List.length_append,List.length_take,List.length_drop];omega
   ·
    rcases List.mem_append.1 he with h | h
    · exact hn.2.2.2 e (List.mem_of_mem_take h)
    · exact hn.2.2.2 e (List.mem_of_mem_drop h)
theorem cutF_ok {T:Tab} (hT:T.Ok) (d:Int) (s:List UInt8):(cutF T d s).Ok:=by
 unfold cutF
 split
 · exact putT_ok hT (withoutN_ok (get_ok hT _)) _
 · exact hT
attribute [push_cast] clL_plC er_plC
theorem c174 (T:Tab) (k:Nat) (c:Cr) (p:List UInt8) (h:List Blk) (live:List Nat) (hk:h[k]? = some (tabBlk T)) (hT:T.Ok) (hgs:c.gs.length≤17592186044416) (hR:T.Rt) (hp:p.length≤9223372036854775807):AC Tryz.prog 174 [.ptr k 0,.agg [.int .i64 c.uid,.int .i64 c.gid,.slice (c.gs.map iV) .none],.str p] h live (.tup [.agg (plC (rD T c p false) (rS T c p false) (rN T c p false) (T.get (rD T c p false)).1 (T.get (rN T c p false)).1),.int .i64 (rE T c p false)]):=by
 refine aq_ Tryz.func174 fun hH hX=>?_
 refine rg_ [0,2,4,6] ?_
 refine rs_ [0,6,8,9] ?_
 refine sg_ ?_
 refine cl_ (hc:=c90 T k c p false _ _ (atApp hk) hT hgs hR hp) (k:=?_)
 refine sre_ ?_
 refine rg_ [0,6,8,9,10] ?_
 refine rs_ [0,6,8,9,10] ?_
 refine sg_ ?_
 refine cl_ (hc:=c23 T k _ _ _ (atApp hk) hT) (k:=?_)
 refine sre_ ?_
 refine rs_ [6,9,10] ?_
 refine sg_ ?_
 refine cl_ (hc:=c23 T k _ _ _ (atApp hk) hT) (k:=?_)
 refine sre_ ?_
 refine rg_ [6,7] ?_
 refine ret_ ?_
 refine fq_ Tryz.results174 ?_
 exact rk_ rfl
theorem c226 (c:Cr) (a b:Int) (s:List UInt8) (d n:Nd) (h:List Blk) (live:List Nat):AC Tryz.prog 226 [.agg (plC a s b d n),.agg [.int .i64 c.uid,.int .i64 c.gid,.slice (c.gs.map iV) .none]] h live (.bool (stickyF c d.mode d.uid n.uid)):=by
 refine aq_ Tryz.func226 fun hH hX=>?_
 refine rg_ [2,3] ?_
 refine rs_ [4] ?_
 refine sg_ ?_
 refine cl_ (hc:=c264 c _ _ _ _ _) (k:=?_)
 refine srt_ ?_
 refine fq_ Tryz.results226 ?_
 exact rk_ rfl
theorem c172 (T:Tab) (k:Nat) (c:Cr) (p:List UInt8) (h:List Blk) (live:List Nat) (hk:h[k]? = some (tabBlk T)) (hT:T.Ok) (hgs:c.gs.length≤17592186044416) (hR:T.Rt) (hp:p.length≤9223372036854775807):AC Tryz.prog 172 [.ptr k 0,.agg [.int .i64 c.uid,.int .i64 c.gid,.slice (c.gs.map iV) .none],.str p] h live (.tup [.agg (plC (rD T c p false) (rS T c p false) (rN T c p false) (T.get (rD T c p false)).1 (T.get (rN T c p false)).1),.int .i64 (findE T c p)]):=by
 refine aq_ Tryz.func172 fun hH hX=>?_
 refine rg_ [0,2,4,6] ?_
 refine rs_ [0,4,6,8,9] ?_
 refine sg_ ?_
 refine cl_ (hc:=c174 T k c p _ _ (atApp hk) hT hgs hR hp) (k:=?_)
 refine sre_ ?_
 refine sk_ fun K1 hK1=>?_
 refine awp_block ?_
 refine rg_ [0,4,6,8,9,17] ?_
 refine cx_ (fun hb1=>?_) (fun hb1=>?_)
 ·
  refine rg_ [6,7] ?_
  refine ret_ ?_
  refine fq_ Tryz.results172 ?_
  exact rk_ (by unfold findE;rw [if_pos hb1])
 refine rg_ [0,4,6,8,22] ?_
 refine cx_ (fun hb2=>?_) (fun hb2=>?_)
 ·
  refine rg_ [6,7] ?_
  refine ret_ ?_
  refine fq_ Tryz.results172 ?_
  exact rk_ (by unfold findE;rw [if_neg (fun h=>h hb1),if_pos hb2])
 refine rg_ [0,4,6,8,28] ?_
 refine cx_ (fun hb3=>?_) (fun hb3=>?_)
 ·
  refine rg_ [6,7] ?_
  refine ret_ ?_
  refine fq_ Tryz.results172 ?_
  exact rk_ (by unfold findE;rw [if_neg (fun h=>h hb1),if_neg hb2,if_pos hb3])
 refine rs_ [4,6,8,34] ?_
 refine sg_ ?_
 refine cl_ (hc:=c128 T k c _ _ _ _ _ (atApp hk) hT hgs) (k:=?_)
 refine sre_ ?_
 refine cx_ (fun hb4=>?_) (fun hb4=>?_)
 ·
  refine rg_ [6,7] ?_
  refine ret_ ?_
  refine fq_ Tryz.results172 ?_
  exact rk_ (by unfold findE;rw [if_neg (fun h=>h hb1),if_neg hb2,if_neg hb3,if_pos hb4])
 refine rs_ [6,8,43] ?_
 refine sg_ ?_
 refine cl_ (hc:=c226 c (rD T c p false) (rN T c p false) (rS T c p false) (T.get (rD T c p false)).1 (T.get (rN T c p false)).1 _ _) (k:=?_)
 refine sre_ ?_
 refine cx_ (fun hb5=>?_) (fun hb5=>?_)
 ·
  refine rg_ [6,7] ?_
  refine ret_ ?_
  refine fq_ Tryz.results172 ?_
  exact rk_ (by unfold findE;rw [if_neg (fun h=>h hb1),if_neg hb2,if_neg hb3,if_neg (by rw [hb4];decide),if_pos hb5])
 refine skp_ ?_
 refine hK1 _ ?_
 refine rg_ [6,7] ?_
 refine ret_ ?_
 refine fq_ Tryz.results172 ?_
 exact rk_ (by unfold findE;rw [if_neg (fun h=>h hb1),if_neg hb2,if_neg hb3,if_neg (by rw [hb4];decide),if_neg (by rw [hb5];decide)])
theorem c227 (n:Nd) (s:List UInt8) (h:List Blk) (live:List Nat) (hn:NdOk n):AC Tryz.prog 227 [.agg (ndC n),.str s] h live (.tup [.agg (ndC (withoutN n s).1),.int .i64 (withoutN n s).2]):=by
 refine aq_ Tryz.func227 fun hH hX=>?_
 have hidx:=idxP_range (eqS s) n.ents
 have hn2:=hn.2.1
 refine rg_ [1,2,4] ?_
 refine sk_ fun K1 hK1=>?_
 refine rg_ [1,2,4,9] ?_
 refine cx_ (fun hb1=>?_) (fun hb1=>?_)
 ·
  refine rg_ [4,5] ?_
  refine ret_ ?_
  refine fq_ Tryz.results227 ?_ (hcl:=(by simp [AV.cl,AV.clL,clL_ndC,nd0, -List.map_map]))
  exact rk_ (by unfold withoutN;rw [if_pos hb1];rfl)
 refine skp_ ?_
 refine hK1 _ ?_
 refine rs_ [2,4,6] ?_
 refine sg_ ?_
 refine cl_ (hc:=c186 _ _ _ _ hn) (k:=?_)
 refine sre_ ?_
 refine sk_ fun K2 hK2=>?_
 refine rg_ [2,4,6,15] ?_
 refine cx_ (fun hb2=>?_) (fun hb2=>?_)
 ·
  refine rg_ [4,5] ?_
  refine ret_ ?_
  refine fq_ Tryz.results227 ?_ (hcl:=(by simp [AV.cl,AV.clL,clL_ndC,nd0, -List.map_map]))
  exact rk_ (by unfold withoutN;rw [if_neg (fun h=>h hb1),if_pos hb2];rfl)
 obtain ⟨j,hj⟩:∃j:Nat,idxP (eqS s) n.ents=(j:Int):=⟨(idxP (eqS s) n.ents).toNat,by omega⟩
 have sx:=And.intro hj sx
 refine skp_ ?_
 refine hK2 _ ?_
 refine rs_ [4,5] ?_
 refine sg_ ?_
 refine cl_ (hc:=c197 n j (j+1) [] _ _ _ hn (by omega) (by omega) (by simp) (by simp only [List.length_nil];omega)) (k:=?_)
 refine srt_ ?_
 refine fq_ Tryz.results227 ?_ (hcl:=(by simp [AV.cl,AV.clL,clL_ndC,nd0, -List.map_map]))
 exact rk_ (by unfold withoutN;rw [if_neg (fun h=>h hb1),if_neg (by omega),hj];rfl)
theorem c173 (T:Tab) (k:Nat) (a b:Int) (s:List UInt8) (d n:Nd) (h:List Blk) (live:List Nat) (hk:h[k]? = some (tabBlk T)) (hT:T.Ok):ACalls Tryz.prog 173 [.agg (plC a s b d n),.ptr k 0] h live (ret (.tup []) (h.set k (tabBlk (cutF T a s))) live):=by
 refine aq_ Tryz.func173 fun hH hX=>?_
 have hkl:=lt_of_get hk
 have hs1:∀(y:Blk) (g:List Blk),(h++g).set k y=h.set k y++g:=fun y g=>setApp hk
 have hse:h.set k (tabBlk T)=h:=set_self hk
 have hcl:∀x,HCl (h.set k (tabBlk x)):=fun x=>hcl_tab hH _ _
 have sx:=(And.intro @hs1 sx0)
 refine rg_ [1,2] ?_
 refine rs_ [1,2,4] ?_
 refine sg_ ?_
 refine cl_ (hc:=c23 T k _ _ _ (atApp hk) hT) (k:=?_)
 refine sre_ ?_
 refine rs_ [1,2,6,7] ?_
 refine sg_ ?_
 refine cl_ (hc:=c227 _ _ _ _ (get_ok hT _)) (k:=?_)
 refine sre_ ?_
 refine rg_ [1,2,6,25] ?_
 refine cx_ (fun hb1=>?_) (fun hb1=>?_)
 ·
  refine rt_ [] ?_
  refine sg_ ?_
  refine cl_ (hc:=c135 T k _ _ _ _ (atApp hk) hT (withoutN_ok (get_ok hT _))) (k:=?_)
  refine rn_ (up_ ?_)
  refine gq_ (h1:=h.set k _) Tryz.results173 ?_ (hh:=(⟨_,rfl⟩)) (hH:=(hcl _))
  exact ⟨rfl,by unfold cutF;rw [if_pos hb1],rfl⟩
 refine skp_ ?_
 refine gq_ (h1:=h.set k (tabBlk T)) Tryz.results173 ?_ (hh:=(by rw [hse];exact ⟨_,rfl⟩)) (hH:=(hcl _))
 exact ⟨rfl,by unfold cutF;rw [if_neg hb1],rfl⟩
theorem c108 (T:Tab) (k:Nat) (i:Int) (o:List Int) (q:Cap) (h:List Blk) (live:List Nat) (hk:h[k]? = some (tabBlk T)) (hT:T.Ok) (ho:o.length≤1000000):ACalls Tryz.prog 108 [.ptr k 0,.int .i64 i,.slice (o.map iV) q] h live (ret (.bool (freeF T i o).1) (h.set k (tabBlk (freeF T i o).2)) live):=by
 refine aq_ Tryz.func108 fun hH hX=>?_
 have hkl:=lt_of_get hk
 have hs1:∀(y:Blk) (g:List Blk),(h++g).set k y=h.set k y++g:=fun y g=>setApp hk
 have hse:h.set k (tabBlk T)=h:=set_self hk
 have hcl:∀x,HCl (h.set k (tabBlk x)):=fun x=>hcl_tab hH _ _
 have sx:=(And.intro @hs1 sx0)
 refine rg_ [0,1,2] ?_
 refine sk_ fun K1 hK1=>?_
 refine rs_ [0,1,19] ?_
 refine sg_ ?_
 refine cg_ (hc:=fun hg=>c130 T k _ _ _ hk hT) (k:=?_)
 refine sg_ ?_
 refine cg_ (hc:=fun hg=>c160 o _ _ _ _ (by omega)) (k:=?_)
 refine sre_ ?_
 refine cx_ (fun hb1=>?_) (fun hb1=>?_)
 ·
  refine rg_ [6] ?_
  refine ret_ ?_
  refine gq_ (h1:=h.set k (tabBlk T)) Tryz.results108 ?_ (hh:=(⟨[],by rw [List.append_nil,hse]⟩)) (hH:=(hcl _))
  exact ⟨by unfold freeF;rw [if_pos hb1],by unfold freeF;rw [if_pos hb1],rfl⟩
 have hf:¬((i=1∨0<T.links i)∨(o.any fun y=>decide (i=y))=true):=by
  rintro ((h | h) | h)
  · exact hb1.1.1 h
  · omega
  · rw [hb1.2] at h;cases h
 refine skp_ ?_
 refine hK1 _ ?_
 refine rs_ [6] ?_
 refine sg_ ?_
 refine cl_ (hc:=c161 T k _ _ _ hk hT) (k:=?_)
 refine srt_ ?_
 refine gq_ (h1:=h.set k _) Tryz.results108 ?_ (hh:=(⟨[],by rw [List.append_nil]⟩)) (hH:=(hcl _))
 exact ⟨by unfold freeF;rw [if_neg hf],by unfold freeF;rw [if_neg hf],rfl⟩
end Go.Proofs.YtmgnbgniikjhdaaGreat
namespace Go.Proofs.YtmgnbgniikjhdaaGreat
open Go.Ab
set_option maxRecDepth 8000
set_option maxHeartbeats 400000
theorem c175 (T:Tab) (k:Nat) (i d:Int) (h:List Blk) (live:List Nat) (hk:h[k]? = some (tabBlk T)) (hT:T.Ok):AC Tryz.prog 175 [.ptr k 0,.int .i64 i,.int .i64 d] h live (.bool (belowL T d 24 i)):=by
 refine aq_ Tryz.func175 fun hH hX=>?_
 have hkl:=lt_of_get hk
 refine rg_ [0,1,2] ?_
 refine sk_ fun K1 hK1=>?_
 refine rg_ [0,1,2,7] ?_
 refine awp_block ?_
 refine lp_ (X:={x:Nat×Int // x.1≤24∧belowL T d 24 i=belowL T d (24 - x.1) x.2}) (fun x=>⟨Tryz.f175.ntmps,fget [(0,.ptr k 0),(1,.int .i64 x.1.2),(2,.int .i64 d),(7,.int .i64 (x.1.1:Nat))],h,live⟩) (fun x=>24 - x.1.1) (⟨(0,i),by dsimp only;omega,rfl⟩) ?_ (fun ⟨⟨m,j⟩,hm,hv⟩=>?_)
 ·
  try dsimp only
  exact ts_ hH
 try dsimp only
 dsimp only at hm hv
 refine rg_ [0,1,2,7,8] ?_
 refine sk_ fun K2 hK2=>?_
 refine cx_ (fun hb1=>?_) (fun hb1=>?_)
 rotate_left
 ·
  have hme:m=24:=by omega
  subst hme
  refine awp_exit (up_ ?_)
  refine hK1 _ ?_
  refine rg_ [6] ?_
  refine ret_ ?_
  refine fq_ Tryz.results175 ?_
  exact rk_ (by rw [hv];rfl)
 refine skp_ ?_
 refine hK2 _ ?_
 refine sk_ fun K3 hK3=>?_
 refine awp_block ?_
 refine sk_ fun K4 hK4=>?_
 refine rg_ [0,1,2,7,15] ?_
 refine cdy_ (ht:=fun hb2=>?_) (hf:=fun hb2=>?_)
 ·
  refine awp_exit (up_ ?_)
  refine hK1 _ ?_
  refine rg_ [6] ?_
  refine ret_ ?_
  refine fq_ Tryz.results175 ?_
  exact rk_ (by rw [hv,show 24 - m=(24 - (m+1))+1 by omega];exact congrArg AV.bool (if_pos hb2))
 have hb2':¬(j=d∨j=0):=by simpa using hb2
 refine skp_ ?_
 refine hK4 _ ?_
 refine rt_ [0,1,2,7] ?_
 refine sg_ ?_
 refine cl_ (hc:=c129 T k _ _ _ hk hT) (k:=?_)
 refine srn_ ?_
 refine hK3 _ ?_
 refine rt_ [0,1,2,7] ?_
 refine srn_ ?_
 refine ln_ ⟨(m+1,T.parent j),by dsimp only;omega,by rw [hv,show 24 - m=(24 - (m+1))+1 by omega];exact if_neg hb2'⟩ ?_
 try dsimp only
 exact ts_ hH
theorem c176 (c:Cr) (a b a2 b2:Int) (s s2:List UInt8) (e n d m:Nd) (h:List Blk) (live:List Nat) (hm:NdOk m):AC Tryz.prog 176 [.agg [.int .i64 c.uid,.int .i64 c.gid,.slice (c.gs.map iV) .none],.agg (plC a s b e n),.agg (plC a2 s2 b2 d m)] h live (.int .i64 (overF c n d m)):=by
 refine aq_ Tryz.func176 fun hH hX=>?_
 have hm2:=hm.2.1
 refine rg_ [3,4,5] ?_
 refine rsq_ [3,5,7,8] ⟨true,[],[],[],[],[],0⟩ (fun _=>⟨by kernel_rfl,by kernel_rfl⟩) ?_
 refine sre_ ?_
 refine sk_ fun K1 hK1=>?_
 refine awp_block ?_
 refine rs_ [5,7,8,17] ?_
 refine sg_ ?_
 refine cl_ (hc:=c226 c a2 b2 s2 d m _ _) (k:=?_)
 refine sre_ ?_
 refine cx_ (fun hb1=>?_) (fun hb1=>?_)
 ·
  refine rg_ [6] ?_
  refine ret_ ?_
  refine fq_ Tryz.results176 ?_
  exact rk_ (by unfold overF;rw [if_pos hb1])
 refine rg_ [5,7,8,22] ?_
 refine cx_ (fun hb2=>?_) (fun hb2=>?_)
 ·
  refine rg_ [6] ?_
  refine ret_ ?_
  refine fq_ Tryz.results176 ?_
  exact rk_ (by unfold overF;rw [if_neg (by rw [hb1];decide),if_pos hb2])
 refine rg_ [5,28] ?_
 refine cx_ (fun hb3=>?_) (fun hb3=>?_)
 ·
  refine rg_ [6] ?_
  refine ret_ ?_
  refine fq_ Tryz.results176 ?_
  exact rk_ (by unfold overF;rw [if_neg (by rw [hb1];decide),if_neg (by omega),if_pos hb3])
 refine rg_ [34] ?_
 refine cx_ (fun hb4=>?_) (fun hb4=>?_)
 ·
  refine rg_ [6] ?_
  refine ret_ ?_
  refine fq_ Tryz.results176 ?_
  exact rk_ (by unfold overF;rw [if_neg (by rw [hb1];decide),if_neg (by omega),if_neg (by omega),if_pos hb4])
 refine skp_ ?_
 refine hK1 _ ?_
 refine rg_ [6] ?_
 refine ret_ ?_
 refine fq_ Tryz.results176 ?_
 exact rk_ (by unfold overF;rw [if_neg (by rw [hb1];decide),if_neg (by omega),if_neg (by omega),if_neg (by omega)])
theorem c115 (T:Tab) (k:Nat) (c:Cr) (p:List UInt8) (o:List Int) (q:Cap) (h:List Blk) (live:List Nat) (hk:h[k]? = some (tabBlk T)) (hT:T.Ok) (hgs:c.gs.length≤17592186044416) (hR:T.Rt) (hp:p.length≤9223372036854775807) (ho:o.length≤1000000):ACalls Tryz.prog 115 [.ptr k 0,.agg [.int .i64 c.uid,.int .i64 c.gid,.slice (c.gs.map iV) .none],.str p,.slice (o.map iV) q] h live (ret (.int .i64 (unlinkF T c p o).1) (h.set k (tabBlk (unlinkF T c p o).2)) live):=by
 refine aq_ Tryz.func115 fun hH hX=>?_
 have hkl:=lt_of_get hk
 have hs1:∀(y:Blk) (g:List Blk),(h++g).set k y=h.set k y++g:=fun y g=>setApp hk
 have hse:h.set k (tabBlk T)=h:=set_self hk
 have hcl:∀x,HCl (h.set k (tabBlk x)):=fun x=>hcl_tab hH _ _
 have hk2:∀x:Blk,(h.set k x)[k]? = some x:=fun x=>get_setk hkl
 have hsl:∀x:Blk,(h.set k x).length=h.length:=fun x=>List.length_set ..
 have hss:∀x y:Blk,(h.set k x).set k y=h.set k y:=fun x y=>by rw [List.set_set]
 have hs3:∀(x y:Blk) (g:List Blk),(h.set k x++g).set k y=h.set k y++g:=fun x y g=>by rw [setApp (hk2 x),hss]
 have sx:=(And.intro @hs1 (And.intro @hs3 (And.intro @hk (And.intro @hsl (And.intro @hss sx0)))))
 refine rg_ [0,2,3,5] ?_
 refine rs_ [0,3,9,10] ?_
 refine sg_ ?_
 refine cl_ (hc:=c172 T k c p _ _ (atApp hk) hT hgs hR hp) (k:=?_)
 refine sre_ ?_
 refine sk_ fun K1 hK1=>?_
 refine rg_ [0,3,9,10,19] ?_
 refine cx_ (fun hb1=>?_) (fun hb1=>?_)
 ·
  refine rg_ [8] ?_
  refine ret_ ?_
  refine gq_ (h1:=h.set k (tabBlk T)) Tryz.results115 ?_ (hh:=(by rw [hse];exact ⟨_,rfl⟩)) (hH:=(hcl _))
  exact ⟨by unfold unlinkF;rw [if_pos hb1],by unfold unlinkF;rw [if_pos hb1],rfl⟩
 refine skp_ ?_
 refine hK1 _ ?_
 refine sk_ fun K2 hK2=>?_
 refine rg_ [0,3,9,24] ?_
 refine cx_ (fun hb2=>?_) (fun hb2=>?_)
 ·
  refine rg_ [8] ?_
  refine ret_ ?_
  refine gq_ (h1:=h.set k (tabBlk T)) Tryz.results115 ?_ (hh:=(by rw [hse];exact ⟨_,rfl⟩)) (hH:=(hcl _))
  exact ⟨by unfold unlinkF;rw [if_neg (fun h=>h hb1),if_pos hb2],by unfold unlinkF;rw [if_neg (fun h=>h hb1),if_pos hb2],rfl⟩
 refine skp_ ?_
 refine hK2 _ ?_
 refine rs_ [0,3,9] ?_
 refine sg_ ?_
 refine cl_ (hc:=c173 T k (rD T c p false) (rN T c p false) (rS T c p false) (T.get (rD T c p false)).1 (T.get (rN T c p false)).1 _ _ (atApp hk) hT) (k:=?_)
 refine re_ ?_
 refine rs_ [] ?_
 refine sg_ ?_
 refine cl_ (hc:=c108 _ k _ o _ _ _ (atApp (hk2 _)) (cutF_ok hT _ _) ho) (k:=?_)
 refine re_ ?_
 refine rg_ [8] ?_
 refine ret_ ?_
 refine gq_ (h1:=h.set k _) Tryz.results115 ?_ (hh:=(⟨_,rfl⟩)) (hH:=(hcl _))
 exact ⟨by unfold unlinkF;rw [if_neg (fun h=>h hb1),if_neg hb2],by unfold unlinkF;rw [if_neg (fun h=>h hb1),if_neg hb2],rfl⟩
theorem c116 (T:Tab) (k:Nat) (c:Cr) (p:List UInt8) (h:List Blk) (live:List Nat) (hk:h[k]? = some (tabBlk T)) (hT:T.Ok) (hgs:c.gs.length≤17592186044416) (hR:T.Rt) (hp:p.length≤9223372036854775807):ACalls Tryz.prog 116 [.ptr k 0,.agg [.int .i64 c.uid,.int .i64 c.gid,.slice (c.gs.map iV) .none],.str p] h live (ret (.int .i64 (rmdirF T c p).1) (h.set k (tabBlk (rmdirF T c p).2)) live):=by
 refine aq_ Tryz.func116 fun hH hX=>?_
 have hkl:=lt_of_get hk
 have hs1:∀(y:Blk) (g:List Blk),(h++g).set k y=h.set k y++g:=fun y g=>setApp hk
 have hse:h.set k (tabBlk T)=h:=set_self hk
 have hcl:∀x,HCl (h.set k (tabBlk x)):=fun x=>hcl_tab hH _ _
 have hk2:∀x:Blk,(h.set k x)[k]? = some x:=fun x=>get_setk hkl
 have hsl:∀x:Blk,(h.set k x).length=h.length:=fun x=>List.length_set ..
 have hss:∀x y:Blk,(h.set k x).set k y=h.set k y:=fun x y=>by rw [List.set_set]
 have hs3:∀(x y:Blk) (g:List Blk),(h.set k x++g).set k y=h.set k y++g:=fun x y g=>by rw [setApp (hk2 x),hss]
 have hn2:=(get_ok hT (rN T c p false)).2.1
 have sx:=(And.intro @hs1 (And.intro @hs3 (And.intro @hk (And.intro @hsl (And.intro @hss sx0)))))
 refine rg_ [0,2,4] ?_
 refine rs_ [0,7,8] ?_
 refine sg_ ?_
 refine cl_ (hc:=c172 T k c p _ _ (atApp hk) hT hgs hR hp) (k:=?_)
 refine sre_ ?_
 refine sk_ fun K1 hK1=>?_
 refine awp_block ?_
 refine rg_ [0,7,8,16] ?_
 refine cx_ (fun hb1=>?_) (fun hb1=>?_)
 ·
  refine rg_ [6] ?_
  refine ret_ ?_
  refine gq_ (h1:=h.set k (tabBlk T)) Tryz.results116 ?_ (hh:=(by rw [hse];exact ⟨_,rfl⟩)) (hH:=(hcl _))
  exact ⟨by unfold rmdirF;rw [if_pos hb1],by unfold rmdirF;rw [if_pos hb1],rfl⟩
 refine rg_ [0,7,20] ?_
 refine cx_ (fun hb2=>?_) (fun hb2=>?_)
 ·
  refine rg_ [6] ?_
  refine ret_ ?_
  refine gq_ (h1:=h.set k (tabBlk T)) Tryz.results116 ?_ (hh:=(by rw [hse];exact ⟨_,rfl⟩)) (hH:=(hcl _))
  exact ⟨by unfold rmdirF;rw [if_neg (fun h=>h hb1),if_pos hb2],by unfold rmdirF;rw [if_neg (fun h=>h hb1),if_pos hb2],rfl⟩
 refine rg_ [0,7,25] ?_
 refine cx_ (fun hb3=>?_) (fun hb3=>?_)
 ·
  refine rg_ [6] ?_
  refine ret_ ?_
  refine gq_ (h1:=h.set k (tabBlk T)) Tryz.results116 ?_ (hh:=(by rw [hse];exact ⟨_,rfl⟩)) (hH:=(hcl _))
  exact ⟨by unfold rmdirF;rw [if_neg (fun h=>h hb1),if_neg (fun h=>h hb2),if_pos hb3],by unfold rmdirF;rw [if_neg (fun h=>h hb1),if_neg (fun h=>h hb2),if_pos hb3],rfl⟩
 refine skp_ ?_
 refine hK1 _ ?_
 refine rs_ [0,7] ?_
 refine sg_ ?_
 refine cl_ (hc:=c173 T k (rD T c p false) (rN T c p false) (rS T c p false) (T.get (rD T c p false)).1 (T.get (rN T c p false)).1 _ _ (atApp hk) hT) (k:=?_)
 refine re_ ?_
 refine rs_ [] ?_
 refine sg_ ?_
 refine cl_ (hc:=c161 _ k _ _ _ (atApp (hk2 _)) (cutF_ok hT _ _)) (k:=?_)
 refine re_ ?_
 refine rg_ [6] ?_
 refine ret_ ?_
 refine gq_ (h1:=h.set k _) Tryz.results116 ?_ (hh:=(⟨_,rfl⟩)) (hH:=(hcl _))
 exact ⟨by unfold rmdirF;rw [if_neg (fun h=>h hb1),if_neg (fun h=>h hb2),if_neg (by omega)],by unfold rmdirF;rw [if_neg (fun h=>h hb1),if_neg (fun h=>h hb2),if_neg (by omega)],rfl⟩
theorem c117 (T:Tab) (k:Nat) (c:Cr) (p p2:List UInt8) (o:List Int) (q:Cap) (h:List Blk) (live:List Nat) (hk:h[k]? = some (tabBlk T)) (hT:T.Ok) (hgs:c.gs.length≤17592186044416) (hR:T.Rt) (hp:p.length≤9223372036854775807) (hp2:p2.length≤9223372036854775807) (ho:o.length≤1000000):ACalls Tryz.prog 117 [.ptr k 0,.agg [.int .i64 c.uid,.int .i64 c.gid,.slice (c.gs.map iV) .none],.str p,.str p2,.slice (o.map iV) q] h live (ret (.int .i64 (renameF T c p p2 o).1) (h.set k (tabBlk (renameF T c p p2 o).2)) live):=by
 refine aq_ Tryz.func117 fun hH hX=>?_
 have hkl:=lt_of_get hk
 have hs1:∀(y:Blk) (g:List Blk),(h++g).set k y=h.set k y++g:=fun y g=>setApp hk
 have hse:h.set k (tabBlk T)=h:=set_self hk
 have hcl:∀x,HCl (h.set k (tabBlk x)):=fun x=>hcl_tab hH _ _
 have hk2:∀x:Blk,(h.set k x)[k]? = some x:=fun x=>get_setk hkl
 have hsl:∀x:Blk,(h.set k x).length=h.length:=fun x=>List.length_set ..
 have hss:∀x y:Blk,(h.set k x).set k y=h.set k y:=fun x y=>by rw [List.set_set]
 have hs3:∀(x y:Blk) (g:List Blk),(h.set k x++g).set k y=h.set k y++g:=fun x y g=>by rw [setApp (hk2 x),hss]
 have hn2:=(get_ok hT (rD T c p2 false)).2.1
 have hnm:=resF_nm T c p2 false
 have hB:∀U:Tab,HCl (h.set k (tabBlk U)++[.cells [AV.int .i64 c.uid,.int .i64 c.gid,.slice (c.gs.map iV) .none],.cells (plC (rD T c p false) (rS T c p false) (rN T c p false) (T.get (rD T c p false)).1 (T.get (rN T c p false)).1),.cells (plC (rD T c p2 false) (rS T c p2 false) (rN T c p2 false) (T.get (rD T c p2 false)).1 (T.get (rN T c p2 false)).1)]):=fun U=>by
  have:=HCl.snoc (HCl.snoc (HCl.snoc (b:=.cells [AV.int .i64 c.uid,.int .i64 c.gid,.slice (c.gs.map iV) .none]) (hcl U) (by simp [Blk.cl,AV.cl,AV.clL,clL_iV, -List.map_map])) (b:=.cells (plC (rD T c p false) (rS T c p false) (rN T c p false) (T.get (rD T c p false)).1 (T.get (rN T c p false)).1)) (clL_plC _ _ _ _ _ _)) (b:=.cells (plC (rD T c p2 false) (rS T c p2 false) (rN T c p2 false) (T.get (rD T c p2 false)).1 (T.get (rN T c p2 false)).1)) (clL_plC _ _ _ _ _ _)
  rw [List.append_assoc,List.append_assoc] at this;exact this
 have sx:=(And.intro @hs1 (And.intro @hs3 (And.intro @hk (And.intro @hsl (And.intro @hss sx0)))))
 refine rg_ [0,2,3,4,6] ?_
 refine rs_ [0,3,4,6,11,12] ?_
 refine sg_ ?_
 refine cl_ (hc:=c172 T k c p _ _ (atApp hk) hT hgs hR hp) (k:=?_)
 refine sre_ ?_
 refine sk_ fun K1 hK1=>?_
 refine rg_ [0,3,4,6,11,12,25] ?_
 refine cx_ (fun hb1=>?_) (fun hb1=>?_)
 ·
  refine rg_ [10] ?_
  refine ret_ ?_
  refine gq_ (h1:=h.set k (tabBlk T)) Tryz.results117 ?_ (hh:=(by rw [hse];exact ⟨_,rfl⟩)) (hH:=(hcl _))
  exact ⟨by unfold renameF;rw [if_pos hb1],by unfold renameF;rw [if_pos hb1],rfl⟩
 refine skp_ ?_
 refine hK1 _ ?_
 refine rs_ [0,4,6,11,12,13] ?_
 refine sg_ ?_
 refine cl_ (hc:=c174 T k c p2 _ _ (atApp hk) hT hgs hR hp2) (k:=?_)
 refine sre_ ?_
 refine sk_ fun K2 hK2=>?_
 refine awp_block ?_
 refine rg_ [0,4,6,11,12,13,34] ?_
 refine cx_ (fun hb2=>?_) (fun hb2=>?_)
 ·
  refine rg_ [10] ?_
  refine ret_ ?_
  refine gq_ (h1:=h.set k (tabBlk T)) Tryz.results117 ?_ (hh:=(by rw [hse];exact ⟨_,rfl⟩)) (hH:=(hcl _))
  exact ⟨by unfold renameF;rw [if_neg (fun h=>h hb1),if_pos hb2],by unfold renameF;rw [if_neg (fun h=>h hb1),if_pos hb2],rfl⟩
 refine rg_ [0,4,6,11,13,38] ?_
 refine cx_ (fun hb3=>?_) (fun hb3=>?_)
 ·
  refine rg_ [10] ?_
  refine ret_ ?_
  refine gq_ (h1:=h.set k (tabBlk T)) Tryz.results117 ?_ (hh:=(by rw [hse];exact ⟨_,rfl⟩)) (hH:=(hcl _))
  exact ⟨by unfold renameF;rw [if_neg (fun h=>h hb1),if_neg (fun h=>h hb2),if_pos hb3],by unfold renameF;rw [if_neg (fun h=>h hb1),if_neg (fun h=>h hb2),if_pos hb3],rfl⟩
 refine rs_ [0,4,6,11,13,43] ?_
 refine sg_ ?_
 refine cl_ (hc:=c128 T k c _ _ _ _ _ (atApp hk) hT hgs) (k:=?_)
 refine sre_ ?_
 refine cx_ (fun hb4=>?_) (fun hb4=>?_)
 ·
  refine rg_ [10] ?_
  refine ret_ ?_
  refine gq_ (h1:=h.set k (tabBlk T)) Tryz.results117 ?_ (hh:=(by rw [hse];exact ⟨_,rfl⟩)) (hH:=(hcl _))
  exact ⟨by unfold renameF;rw [if_neg (fun h=>h hb1),if_neg (fun h=>h hb2),if_neg hb3,if_pos hb4],by unfold renameF;rw [if_neg (fun h=>h hb1),if_neg (fun h=>h hb2),if_neg hb3,if_pos hb4],rfl⟩
 refine rg_ [0,4,6,11,13,51] ?_
 refine cx_ (fun hb5=>?_) (fun hb5=>?_)
 ·
  refine rg_ [10] ?_
  refine ret_ ?_
  refine gq_ (h1:=h.set k (tabBlk T)) Tryz.results117 ?_ (hh:=(by rw [hse];exact ⟨_,rfl⟩)) (hH:=(hcl _))
  exact ⟨by unfold renameF;rw [if_neg (fun h=>h hb1),if_neg (fun h=>h hb2),if_neg hb3,if_neg (by rw [hb4];decide),if_pos hb5],by unfold renameF;rw [if_neg (fun h=>h hb1),if_neg (fun h=>h hb2),if_neg hb3,if_neg (by rw [hb4];decide),if_pos hb5],rfl⟩
 refine rs_ [0,4,6,11,13,59] ?_
 refine sg_ ?_
 refine cg_ (hc:=fun hg=>c175 T k _ _ _ _ (atApp hk) hT) (k:=?_)
 refine sre_ ?_
 refine cx_ (fun hb6=>?_) (fun hb6=>?_)
 ·
  refine rg_ [10] ?_
  refine ret_ ?_
  refine gq_ (h1:=h.set k (tabBlk T)) Tryz.results117 ?_ (hh:=(by rw [hse];exact ⟨_,rfl⟩)) (hH:=(hcl _))
  exact ⟨by unfold renameF;rw [if_neg (fun h=>h hb1),if_neg (fun h=>h hb2),if_neg hb3,if_neg (by rw [hb4];decide),if_neg hb5,if_pos hb6],by unfold renameF;rw [if_neg (fun h=>h hb1),if_neg (fun h=>h hb2),if_neg hb3,if_neg (by rw [hb4];decide),if_neg hb5,if_pos hb6],rfl⟩
 have hb6':¬((T.get (rN T c p false)).1.kind=2∧belowL T (rN T c p false) 24 (rD T c p2 false)=true):=by
  rintro ⟨h1,h2⟩
  rw [hb6 h1] at h2;cases h2
 refine rg_ [0,4,6,11,13,74] ?_
 refine cx_ (fun hb7=>?_) (fun hb7=>?_)
 ·
  refine rg_ [10] ?_
  refine ret_ ?_
  refine gq_ (h1:=h.set k (tabBlk T)) Tryz.results117 ?_ (hh:=(by rw [hse];exact ⟨_,rfl⟩)) (hH:=(hcl _))
  exact ⟨by unfold renameF;rw [if_neg (fun h=>h hb1),if_neg (fun h=>h hb2),if_neg hb3,if_neg (by rw [hb4];decide),if_neg hb5,if_neg hb6',if_pos ⟨hb7.1.1,hb7.1.2,hb7.2⟩],by unfold renameF;rw [if_neg (fun h=>h hb1),if_neg (fun h=>h hb2),if_neg hb3,if_neg (by rw [hb4];decide),if_neg hb5,if_neg hb6',if_pos ⟨hb7.1.1,hb7.1.2,hb7.2⟩],rfl⟩
 have hb7':¬(rN T c p2 false=0∧rD T c p2 false≠rD T c p false∧(8:Int)≤(T.get (rD T c p2 false)).1.ents.length):=by
  rintro ⟨h1,h2,h3⟩
  have:=hb7 ⟨h1,h2⟩
  omega
 refine skp_ ?_
 refine hK2 _ ?_
 refine awp_seq_m (X:={U:Tab // U.Ok∧renameF T c p p2 o=renL T c p p2 o U}) (fun U=>⟨Tryz.f117.ntmps,fget [(0,.ptr k 0),(4,.slice (o.map iV) q),(11,.ptr (h.length+1) 0),(13,.ptr (h.length+2) 0)],h.set k (tabBlk U.1)++[.cells [AV.int .i64 c.uid,.int .i64 c.gid,.slice (c.gs.map iV) .none],.cells (plC (rD T c p false) (rS T c p false) (rN T c p false) (T.get (rD T c p false)).1 (T.get (rN T c p false)).1),.cells (plC (rD T c p2 false) (rS T c p2 false) (rN T c p2 false) (T.get (rD T c p2 false)).1 (T.get (rN T c p2 false)).1)],live⟩) ?_ (fun ⟨U,hU,hrU⟩=>?_)
 rotate_left
 ·
  try dsimp only
  have hCU:(cutF U (rD T c p false) (rS T c p false)).Ok:=cutF_ok hU _ _
  have hwn:=withN_ok (s:=rS T c p2 false) (id:=rN T c p false) (get_ok hCU (rD T c p2 false)) (by omega)
  refine rs_ [0,4,11,13] ?_
  refine sg_ ?_
  refine cl_ (hc:=c173 U k (rD T c p false) (rN T c p false) (rS T c p false) (T.get (rD T c p false)).1 (T.get (rN T c p false)).1 _ _ (atApp (hk2 _)) hU) (k:=?_)
  refine re_ ?_
  refine rs_ [0,4,11,13,15] ?_
  refine sg_ ?_
  refine cl_ (hc:=c23 (cutF U (rD T c p false) (rS T c p false)) k _ _ _ (atApp (hk2 _)) hCU) (k:=?_)
  refine sre_ ?_
  refine rs_ [0,4,12,13,15] ?_
  refine sg_ ?_
  refine cl_ (hc:=c134 _ _ _ _ _ (get_ok hCU _) (by omega)) (k:=?_)
  refine sre_ ?_
  refine sk_ fun K3 hK3=>?_
  refine rg_ [0,4,12,13,15,132] ?_
  refine cx_ (fun hb10=>?_) (fun hb10=>?_)
  ·
   refine rt_ [0,4,12,13] ?_
   refine sg_ ?_
   refine cl_ (hc:=c135 (cutF U (rD T c p false) (rS T c p false)) k _ _ _ _ (atApp (hk2 _)) hCU hwn) (k:=?_)
   refine srn_ ?_
   refine hK3 _ ?_
   refine rs_ [12] ?_
   refine sg_ ?_
   refine cl_ (hc:=c108 _ k _ o _ _ _ (atApp (hk2 _)) (by first | exact putT_ok hCU hwn _ | exact hCU) ho) (k:=?_)
   refine re_ ?_
   refine rg_ [10] ?_
   refine ret_ ?_
   refine gq_ (h1:=h.set k _) Tryz.results117 ?_ (hh:=(⟨_,rfl⟩)) (hH:=(hcl _))
   exact ⟨by rw [hrU];unfold renL;rw [if_pos hb10],by rw [hrU];unfold renL;rw [if_pos hb10],rfl⟩
  refine skp_ ?_
  refine hK3 _ ?_
  refine rs_ [12] ?_
  refine sg_ ?_
  refine cl_ (hc:=c108 _ k _ o _ _ _ (atApp (hk2 _)) (by first | exact putT_ok hCU hwn _ | exact hCU) ho) (k:=?_)
  refine re_ ?_
  refine rg_ [10] ?_
  refine ret_ ?_
  refine gq_ (h1:=h.set k _) Tryz.results117 ?_ (hh:=(⟨_,rfl⟩)) (hH:=(hcl _))
  exact ⟨by rw [hrU];unfold renL;rw [if_neg hb10],by rw [hrU];unfold renL;rw [if_neg hb10],rfl⟩
 refine rg_ [0,4,6,11,13,98] ?_
 refine cx_ (fun hb8=>?_) (fun hb8=>?_)
 ·
  refine sk_ fun K4 hK4=>?_
  refine rs_ [0,4,11,13,14] ?_
  refine sg_ ?_
  refine cl_ (hc:=c176 c _ _ _ _ _ _ (T.get (rD T c p false)).1 (T.get (rN T c p false)).1 (T.get (rD T c p2 false)).1 (T.get (rN T c p2 false)).1 _ _ (get_ok hT _)) (k:=?_)
  refine sre_ ?_
  refine rg_ [0,4,11,13,14,104] ?_
  refine cx_ (fun hb9=>?_) (fun hb9=>?_)
  ·
   refine rg_ [10] ?_
   refine ret_ ?_
   refine gq_ (h1:=h.set k (tabBlk T)) Tryz.results117 ?_ (hh:=(by rw [hse];exact ⟨_,rfl⟩)) (hH:=(hcl _))
   exact ⟨by unfold renameF;rw [if_neg (fun h=>h hb1),if_neg (fun h=>h hb2),if_neg hb3,if_neg (by rw [hb4];decide),if_neg hb5,if_neg hb6',if_neg hb7',if_pos hb8,if_pos hb9],by unfold renameF;rw [if_neg (fun h=>h hb1),if_neg (fun h=>h hb2),if_neg hb3,if_neg (by rw [hb4];decide),if_neg hb5,if_neg hb6',if_neg hb7',if_pos hb8,if_pos hb9],rfl⟩
  refine skp_ ?_
  refine hK4 _ ?_
  refine rt_ [0,4,11,13] ?_
  refine sg_ ?_
  refine cl_ (hc:=c173 T k (rD T c p2 false) (rN T c p2 false) (rS T c p2 false) (T.get (rD T c p2 false)).1 (T.get (rN T c p2 false)).1 _ _ (atApp hk) hT) (k:=?_)
  refine rn_ (up_ ?_)
  first
   | exact ⟨⟨_,cutF_ok hT _ _,by unfold renameF;rw [if_neg (fun h=>h hb1),if_neg (fun h=>h hb2),if_neg hb3,if_neg (by rw [hb4];decide),if_neg hb5,if_neg hb6',if_neg hb7',if_pos hb8,if_neg (fun h=>h hb9)]⟩,tf_ (hB _) (fun _ h=>h) (hj:=by rw [List.append_nil]),by simp⟩
   | exact ⟨⟨T,hT,by unfold renameF;rw [if_neg (fun h=>h hb1),if_neg (fun h=>h hb2),if_neg hb3,if_neg (by rw [hb4];decide),if_neg hb5,if_neg hb6',if_neg hb7',if_neg (fun h=>h hb8)]⟩,tf_ (hB _) (fun _ h=>h) (hj:=by rw [List.append_nil,hse]),by simp⟩
 refine skp_ ?_
 first
  | exact ⟨⟨_,cutF_ok hT _ _,by unfold renameF;rw [if_neg (fun h=>h hb1),if_neg (fun h=>h hb2),if_neg hb3,if_neg (by rw [hb4];decide),if_neg hb5,if_neg hb6',if_neg hb7',if_pos hb8,if_neg (fun h=>h hb9)]⟩,tf_ (hB _) (fun _ h=>h) (hj:=by rw [List.append_nil]),by simp⟩
  | exact ⟨⟨T,hT,by unfold renameF;rw [if_neg (fun h=>h hb1),if_neg (fun h=>h hb2),if_neg hb3,if_neg (by rw [hb4];decide),if_neg hb5,if_neg hb6',if_neg hb7',if_neg (fun h=>h hb8)]⟩,tf_ (hB _) (fun _ h=>h) (hj:=by rw [List.append_nil,hse]),by simp⟩
end Go.Proofs.YtmgnbgniikjhdaaGreat
namespace Go.Proofs.YtmgnbgniikjhdaaGreat
open Go.Ab
set_option maxRecDepth 8000
set_option maxHeartbeats 400000
theorem ndC_s4 (n:Nd) (x:AV):(ndC n).set 4 x=[.int .i64 n.kind,.int .i64 n.mode,.int .i64 n.uid,.int .i64 n.gid,x,.slice (n.ents.map eV) .none,.str n.target]:=rfl
attribute [push_cast] ndC_s4
theorem dataN_er (c:Cr) (n:Nd) (b:List UInt8) (q:Cap) (k i:Nat) (j:Int):[AV.ptr k i,.int .i64 j,.agg [.int .i64 n.kind,.int .i64 (writtenF c n.kind n.mode),.int .i64 n.uid,.int .i64 n.gid,.slice (b.map bV) q,.slice (n.ents.map eV) .none,.str n.target]].map AV.er=[.ptr k i,.int .i64 j,.agg (ndC (dataN c n b))]:=by
 simp only [List.map_cons,List.map_nil,AV.er,AV.erL,erL_bV,erL_eV];rfl
theorem erx_ {P:Program} {f:FuncId} {xs ys:List AV} {h:List Blk} {live:List Nat} {K:KT} (e:xs.map AV.er=ys) (hc:ACalls P f ys h live K):ACalls P f xs h live K:=ACalls.er (e▸hc)
theorem dataN_ok {c:Cr} {n:Nd} (hn:NdOk n) {b:List UInt8} (hb:b.length≤1000):NdOk (dataN c n b):=⟨hb,hn.2⟩
def bF (b:Bool) (n:Int):Int:=if b=true then n else 0
theorem c217 (f b:Int) (p:Nat) (h:List Blk) (live:List Nat) (hp:h[p]? = some (.cells [.int .i64 f])):AC Tryz.prog 217 [.int .i64 b,.ptr p 0] h live (.bool (hasF f b)):=by
 refine aq_ Tryz.func217 fun hH hX=>?_
 have hpl:=lt_of_get hp
 have sx:=(And.intro @hp sx0)
 refine rg_ [0,1] ?_
 refine rg_ [3] ?_
 refine ret_ ?_
 refine fq_ Tryz.results217 ?_
 exact rk_ rfl
theorem c156 (f b:Int) (p:Nat) (h:List Blk) (live:List Nat) (hp:h[p]? = some (.cells [.int .i64 f])):AC Tryz.prog 156 [.int .i64 b,.ptr p 0] h live (.bool (hasF f b)):=by
 refine aq_ Tryz.func156 fun hH hX=>?_
 have hpl:=lt_of_get hp
 have sx:=(And.intro @hp sx0)
 refine rg_ [0,1] ?_
 refine rg_ [3] ?_
 refine ret_ ?_
 refine fq_ Tryz.results156 ?_
 exact rk_ rfl
theorem c155 (f:Int) (h:List Blk) (live:List Nat):AC Tryz.prog 155 [.int .i64 f] h live (.bool (flagsF f)):=by
 refine aq_ Tryz.func155 fun hH hX=>?_
 refine rg_ [1] ?_
 refine rg_ [1,3] ?_
 refine rs_ [2] ?_
 refine sg_ ?_
 refine cg_ (hc:=fun hg=>c217 f 3 h.length _ _ (by simp only [push_cast])) (k:=?_)
 refine sg_ ?_
 refine cg_ (hc:=fun hg=>c217 f 16 h.length _ _ (by simp only [push_cast])) (k:=?_)
 refine sg_ ?_
 refine cg_ (hc:=fun hg=>c217 f 2 h.length _ _ (by simp only [push_cast])) (k:=?_)
 refine sg_ ?_
 refine cg_ (hc:=fun hg=>c217 f 8 h.length _ _ (by simp only [push_cast])) (k:=?_)
 refine sg_ ?_
 refine cg_ (hc:=fun hg=>c217 f 4 h.length _ _ (by simp only [push_cast])) (k:=?_)
 refine srt_ ?_
 refine fq_ Tryz.results155 ?_
 exact rk_ rfl
theorem c158 (T:Tab) (k:Nat) (c:Cr) (i:Int) (n:Nd) (b:List UInt8) (q:Cap) (h:List Blk) (live:List Nat) (hk:h[k]? = some (tabBlk T)) (hT:T.Ok) (hgs:c.gs.length≤17592186044416) (hn:NdOk n) (hb:b.length≤1000):ACalls Tryz.prog 158 [.ptr k 0,.agg [.int .i64 c.uid,.int .i64 c.gid,.slice (c.gs.map iV) .none],.int .i64 i,.agg (ndC n),.slice (b.map bV) q] h live (ret (.tup []) (h.set k (tabBlk (putT T i (dataN c n b)).2)) live):=by
 refine aq_ Tryz.func158 fun hH hX=>?_
 have hkl:=lt_of_get hk
 have hs1:∀(y:Blk) (g:List Blk),(h++g).set k y=h.set k y++g:=fun y g=>setApp hk
 have hse:h.set k (tabBlk T)=h:=set_self hk
 have hcl:∀x,HCl (h.set k (tabBlk x)):=fun x=>hcl_tab hH _ _
 have hk2:∀x:Blk,(h.set k x)[k]? = some x:=fun x=>get_setk hkl
 have hsl:∀x:Blk,(h.set k x).length=h.length:=fun x=>List.length_set ..
 have sx:=(And.intro @hs1 (And.intro @hk (And.intro @hsl sx0)))
 refine rg_ [0,2,4,6,8] ?_
 refine rs_ [0,2,8] ?_
 refine sg_ ?_
 refine cl_ (hc:=c179 c _ _ _ _) (k:=?_)
 refine sre_ ?_
 refine rt_ [] ?_
 refine sg_ ?_
 refine cl_ (hc:=erx_ (dataN_er c n b q k 0 i) (c135 T k _ _ _ _ (atApp hk) hT (dataN_ok hn hb))) (k:=?_)
 refine rn_ (up_ ?_)
 refine gq_ (h1:=h.set k _) Tryz.results158 ?_ (hh:=(⟨_,rfl⟩)) (hH:=(hcl _))
 exact rk_ rfl
theorem c104 (T:Tab) (k:Nat) (c:Cr) (um:Int) (p:List UInt8) (f m:Int) (h:List Blk) (live:List Nat) (hk:h[k]? = some (tabBlk T)) (hT:T.Ok) (hgs:c.gs.length≤17592186044416) (hR:T.Rt) (hp:p.length≤9223372036854775807):ACalls Tryz.prog 104 [.ptr k 0,.agg [.int .i64 c.uid,.int .i64 c.gid,.slice (c.gs.map iV) .none],.int .i64 um,.str p,.int .i64 f,.int .i64 m] h live (ret (.tup [.int .i64 (openF T c um p f m).1.1,.int .i64 (openF T c um p f m).1.2]) (h.set k (tabBlk (openF T c um p f m).2)) live):=by
 refine aq_ Tryz.func104 fun hH hX=>?_
 have hkl:=lt_of_get hk
 have hs1:∀(y:Blk) (g:List Blk),(h++g).set k y=h.set k y++g:=fun y g=>setApp hk
 have hse:h.set k (tabBlk T)=h:=set_self hk
 have hcl:∀x,HCl (h.set k (tabBlk x)):=fun x=>hcl_tab hH _ _
 have hk2:∀x:Blk,(h.set k x)[k]? = some x:=fun x=>get_setk hkl
 have hsl:∀x:Blk,(h.set k x).length=h.length:=fun x=>List.length_set ..
 have hB:HCl (h++[.cells [AV.int .i64 c.uid,.int .i64 c.gid,.slice (c.gs.map iV) .none],.cells [.int .i64 f],.cells [.int .i64 (rD T c p (!hasF f 40)),.str (rS T c p (!hasF f 40)),.int .i64 (rN T c p (!hasF f 40))],.cells (ndC (T.get (rN T c p (!hasF f 40))).1)]):=by
  have:=HCl.snoc (HCl.snoc (HCl.snoc (HCl.snoc (b:=.cells [AV.int .i64 c.uid,.int .i64 c.gid,.slice (c.gs.map iV) .none]) hH (by simp [Blk.cl,AV.cl,AV.clL,clL_iV, -List.map_map])) (b:=.cells [.int .i64 f]) ⟨trivial,trivial⟩) (b:=.cells [.int .i64 (rD T c p (!hasF f 40)),.str (rS T c p (!hasF f 40)),.int .i64 (rN T c p (!hasF f 40))]) ⟨trivial,trivial,trivial,trivial⟩) (b:=.cells (ndC (T.get (rN T c p (!hasF f 40))).1)) (cl_ndB _ _)
  rw [List.append_assoc,List.append_assoc,List.append_assoc] at this;exact this
 have sx:=(And.intro @hs1 (And.intro @hk (And.intro @hsl sx0)))
 refine rg_ [0,2,3,5,7,10] ?_
 refine sk_ fun K1 hK1=>?_
 refine rs_ [0,2,3,5,7,10,23] ?_
 refine sg_ ?_
 refine cl_ (hc:=c155 f _ _) (k:=?_)
 refine sre_ ?_
 refine cx_ (fun hb1=>?_) (fun hb1=>?_)
 ·
  refine rg_ [12,13] ?_
  refine ret_ ?_
  refine gq_ (h1:=h.set k (tabBlk T)) Tryz.results104 ?_ (hh:=(by rw [hse];exact ⟨_,rfl⟩)) (hH:=(hcl _))
  exact ⟨by unfold openF;rw [if_pos hb1]<;>rfl,by unfold openF;rw [if_pos hb1]<;>rfl,rfl⟩
 refine skp_ ?_
 refine hK1 _ ?_
 refine rg_ [0,2,3,5,7,14] ?_
 refine rs_ [0,2,3,5,7,14,15] ?_
 refine sg_ ?_
 refine cl_ (hc:=c156 f 40 (h.length+1) _ _ (by simp only [push_cast])) (k:=?_)
 refine sre_ ?_
 refine rs_ [0,2,3,5,7,14,15,16,17] ?_
 refine sg_ ?_
 refine cl_ (hc:=c90 T k c p (!hasF f 40) _ _ (atApp hk) hT hgs hR hp) (k:=?_)
 refine sre_ ?_
 refine sk_ fun K2 hK2=>?_
 refine rg_ [0,2,3,5,7,14,15,16,17,37] ?_
 refine cx_ (fun hb2=>?_) (fun hb2=>?_)
 ·
  refine rg_ [12,13] ?_
  refine ret_ ?_
  refine gq_ (h1:=h.set k (tabBlk T)) Tryz.results104 ?_ (hh:=(by rw [hse];exact ⟨_,rfl⟩)) (hH:=(hcl _))
  exact ⟨by unfold openF;rw [if_neg (by rw [hb1];decide),if_pos hb2]<;>rfl,by unfold openF;rw [if_neg (by rw [hb1];decide),if_pos hb2]<;>rfl,rfl⟩
 refine skp_ ?_
 refine hK2 _ ?_
 refine rs_ [0,2,3,5,7,14,15,16,18,19] ?_
 refine sg_ ?_
 refine cl_ (hc:=c23 T k _ _ _ (atApp hk) hT) (k:=?_)
 refine sre_ ?_
 refine sk_ fun K3 hK3=>?_
 refine rg_ [0,2,3,5,7,14,15,16,18,47] ?_
 refine cx_ (fun hb3=>?_) (fun hb3=>?_)
 ·
  refine sk_ fun K4 hK4=>?_
  refine rs_ [0,2,3,5,7,15,50] ?_
  refine sg_ ?_
  refine cl_ (hc:=c156 f 4 (h.length+1) _ _ (by simp only [push_cast])) (k:=?_)
  refine sre_ ?_
  refine cx_ (fun hb4=>?_) (fun hb4=>?_)
  ·
   refine rg_ [12,13] ?_
   refine ret_ ?_
   refine gq_ (h1:=h.set k (tabBlk T)) Tryz.results104 ?_ (hh:=(by rw [hse];exact ⟨_,rfl⟩)) (hH:=(hcl _))
   exact ⟨by unfold openF;rw [if_neg (by rw [hb1];decide),if_neg (fun h=>h hb2),if_pos hb3,if_pos hb4]<;>rfl,by unfold openF;rw [if_neg (by rw [hb1];decide),if_neg (fun h=>h hb2),if_pos hb3,if_pos hb4]<;>rfl,rfl⟩
  refine skp_ ?_
  refine hK4 _ ?_
  refine rs_ [12,13] ?_
  refine sg_ ?_
  refine cl_ (hc:=c157 T k c um p m (!hasF f 40) _ _ (atApp hk) hT hgs hR hp) (k:=?_)
  refine srt_ ?_
  refine gq_ (h1:=h.set k _) Tryz.results104 ?_ (hh:=(⟨_,rfl⟩)) (hH:=(hcl _))
  exact ⟨by unfold openF;rw [if_neg (by rw [hb1];decide),if_neg (fun h=>h hb2),if_pos hb3,if_neg (by rw [hb4];decide)]<;>rfl,by unfold openF;rw [if_neg (by rw [hb1];decide),if_neg (fun h=>h hb2),if_pos hb3,if_neg (by rw [hb4];decide)]<;>rfl,rfl⟩
 refine skp_ ?_
 refine hK3 _ ?_
 refine rg_ [0,7,14,16,18,20] ?_
 refine awp_seq_m (X:={g:Int // g=(if hasF f 1=true then (4:Int) else 0)}) (fun g=>⟨Tryz.f104.ntmps,fget [(0,.ptr k 0),(7,.ptr h.length 0),(14,.fn (.func 156) [] [.ptr (h.length+1) 0]),(16,.ptr (h.length+2) 0),(18,.ptr (h.length+3) 0),(20,.int .i64 g.1)],h++[.cells [AV.int .i64 c.uid,.int .i64 c.gid,.slice (c.gs.map iV) .none],.cells [.int .i64 f],.cells [.int .i64 (rD T c p (!hasF f 40)),.str (rS T c p (!hasF f 40)),.int .i64 (rN T c p (!hasF f 40))],.cells (ndC (T.get (rN T c p (!hasF f 40))).1)],live⟩) ?_ (fun ⟨g1,hg1⟩=>?_)
 rotate_left
 ·
  try dsimp only
  refine awp_seq_m (X:={g:Int // g=bits .or .i64 (if hasF f 1=true then (4:Int) else 0) (if hasF f 2=true then (2:Int) else 0)}) (fun g=>⟨Tryz.f104.ntmps,fget [(0,.ptr k 0),(7,.ptr h.length 0),(14,.fn (.func 156) [] [.ptr (h.length+1) 0]),(16,.ptr (h.length+2) 0),(18,.ptr (h.length+3) 0),(20,.int .i64 g.1)],h++[.cells [AV.int .i64 c.uid,.int .i64 c.gid,.slice (c.gs.map iV) .none],.cells [.int .i64 f],.cells [.int .i64 (rD T c p (!hasF f 40)),.str (rS T c p (!hasF f 40)),.int .i64 (rN T c p (!hasF f 40))],.cells (ndC (T.get (rN T c p (!hasF f 40))).1)],live⟩) ?_ (fun ⟨g2,hg2⟩=>?_)
  rotate_left
  ·
   try dsimp only
   refine sk_ fun K5 hK5=>?_
   refine awp_block ?_
   refine rs_ [0,7,14,16,18,20,68] ?_
   refine sg_ ?_
   refine cl_ (hc:=c156 f 8 (h.length+1) _ _ (by simp only [push_cast])) (k:=?_)
   refine sre_ ?_
   refine cx_ (fun hb7=>?_) (fun hb7=>?_)
   ·
    refine rg_ [12,13] ?_
    refine ret_ ?_
    refine gq_ (h1:=h.set k (tabBlk T)) Tryz.results104 ?_ (hh:=(by rw [hse];exact ⟨_,rfl⟩)) (hH:=(hcl _))
    exact ⟨by unfold openF;rw [if_neg (by rw [hb1];decide),if_neg (fun h=>h hb2),if_neg (by rw [hb3];decide),if_pos hb7]<;>rfl,by unfold openF;rw [if_neg (by rw [hb1];decide),if_neg (fun h=>h hb2),if_neg (by rw [hb3];decide),if_pos hb7]<;>rfl,rfl⟩
   refine rg_ [0,7,14,16,18,20,71] ?_
   refine cx_ (fun hb8=>?_) (fun hb8=>?_)
   ·
    refine rg_ [12,13] ?_
    refine ret_ ?_
    refine gq_ (h1:=h.set k (tabBlk T)) Tryz.results104 ?_ (hh:=(by rw [hse];exact ⟨_,rfl⟩)) (hH:=(hcl _))
    exact ⟨by unfold openF;rw [if_neg (by rw [hb1];decide),if_neg (fun h=>h hb2),if_neg (by rw [hb3];decide),if_neg (by rw [hb7];decide),if_pos hb8]<;>rfl,by unfold openF;rw [if_neg (by rw [hb1];decide),if_neg (fun h=>h hb2),if_neg (by rw [hb3];decide),if_neg (by rw [hb7];decide),if_pos hb8]<;>rfl,rfl⟩
   refine rg_ [0,7,14,16,18,20,75] ?_
   refine cx_ (fun hb9=>?_) (fun hb9=>?_)
   ·
    refine rg_ [12,13] ?_
    refine ret_ ?_
    refine gq_ (h1:=h.set k (tabBlk T)) Tryz.results104 ?_ (hh:=(by rw [hse];exact ⟨_,rfl⟩)) (hH:=(hcl _))
    exact ⟨by unfold openF;rw [if_neg (by rw [hb1];decide),if_neg (fun h=>h hb2),if_neg (by rw [hb3];decide),if_neg (by rw [hb7];decide),if_neg hb8,if_pos hb9]<;>rfl,by unfold openF;rw [if_neg (by rw [hb1];decide),if_neg (fun h=>h hb2),if_neg (by rw [hb3];decide),if_neg (by rw [hb7];decide),if_neg hb8,if_pos hb9]<;>rfl,rfl⟩
   refine rs_ [0,7,14,16,18,79] ?_
   refine sg_ ?_
   refine cl_ (hc:=c128 T k c _ _ _ _ _ (atApp hk) hT hgs) (k:=?_)
   refine sre_ ?_
   refine cx_ (fun hb10=>?_) (fun hb10=>?_)
   ·
    refine rg_ [12,13] ?_
    refine ret_ ?_
    refine gq_ (h1:=h.set k (tabBlk T)) Tryz.results104 ?_ (hh:=(by rw [hse];exact ⟨_,rfl⟩)) (hH:=(hcl _))
    exact ⟨by unfold openF;rw [if_neg (by rw [hb1];decide),if_neg (fun h=>h hb2),if_neg (by rw [hb3];decide),if_neg (by rw [hb7];decide),if_neg hb8,if_neg hb9,if_pos (by rw [←hg2];exact hb10)]<;>rfl,by unfold openF;rw [if_neg (by rw [hb1];decide),if_neg (fun h=>h hb2),if_neg (by rw [hb3];decide),if_neg (by rw [hb7];decide),if_neg hb8,if_neg hb9,if_pos (by rw [←hg2];exact hb10)]<;>rfl,rfl⟩
   refine skp_ ?_
   refine hK5 _ ?_
   refine sk_ fun K6 hK6=>?_
   refine rs_ [0,7,16,18,88] ?_
   refine sg_ ?_
   refine cl_ (hc:=c156 f 16 (h.length+1) _ _ (by simp only [push_cast])) (k:=?_)
   refine re_ ?_
   refine cx_ (fun hb11=>?_) (fun hb11=>?_)
   ·
    refine rt_ [16] ?_
    refine sg_ ?_
    refine cl_ (hc:=c158 T k c _ (T.get (rN T c p (!hasF f 40))).1 [] _ _ _ (atApp hk) hT hgs (get_ok hT _) (by simp)) (k:=?_)
    refine rn_ (up_ ?_)
    refine hK6 _ ?_
    refine rg_ [12,13] ?_
    refine ret_ ?_
    refine gq_ (h1:=h.set k _) Tryz.results104 ?_ (hh:=(⟨_,rfl⟩)) (hH:=(hcl _))
    exact ⟨by unfold openF;rw [if_neg (by rw [hb1];decide),if_neg (fun h=>h hb2),if_neg (by rw [hb3];decide),if_neg (by rw [hb7];decide),if_neg hb8,if_neg hb9,if_neg (by rw [←hg2,hb10];decide),if_pos hb11]<;>rfl,by unfold openF;rw [if_neg (by rw [hb1];decide),if_neg (fun h=>h hb2),if_neg (by rw [hb3];decide),if_neg (by rw [hb7];decide),if_neg hb8,if_neg hb9,if_neg (by rw [←hg2,hb10];decide),if_pos hb11]<;>rfl,rfl⟩
   refine skp_ ?_
   refine hK6 _ ?_
   refine rg_ [12,13] ?_
   refine ret_ ?_
   refine gq_ (h1:=h.set k (tabBlk T)) Tryz.results104 ?_ (hh:=(by rw [hse];exact ⟨_,rfl⟩)) (hH:=(hcl _))
   exact ⟨by unfold openF;rw [if_neg (by rw [hb1];decide),if_neg (fun h=>h hb2),if_neg (by rw [hb3];decide),if_neg (by rw [hb7];decide),if_neg hb8,if_neg hb9,if_neg (by rw [←hg2,hb10];decide),if_neg (by rw [hb11];decide)]<;>rfl,by unfold openF;rw [if_neg (by rw [hb1];decide),if_neg (fun h=>h hb2),if_neg (by rw [hb3];decide),if_neg (by rw [hb7];decide),if_neg hb8,if_neg hb9,if_neg (by rw [←hg2,hb10];decide),if_neg (by rw [hb11];decide)]<;>rfl,rfl⟩
  refine rs_ [0,7,14,16,18,20,65] ?_
  refine sg_ ?_
  refine cl_ (hc:=c156 f 2 (h.length+1) _ _ (by simp only [push_cast])) (k:=?_)
  refine re_ ?_
  refine cx_ (fun hb6=>?_) (fun hb6=>?_)
  ·
   refine rt_ [0,7,14,16,18,20] ?_
   refine srn_ ?_
   first
    | exact ⟨⟨bits .or .i64 g1 2,by rw [hg1,if_pos hb6]⟩,tf_ hB (fun _ h=>h) (hj:=by rw [List.append_nil]),by simp⟩
    | exact ⟨⟨g1,by rw [hg1,if_neg (show ¬hasF f 2=true by rw [hb6];decide)];split<;>decide⟩,tf_ hB (fun _ h=>h) (hj:=by rw [List.append_nil]),by simp⟩
  refine skp_ ?_
  first
   | exact ⟨⟨bits .or .i64 g1 2,by rw [hg1,if_pos hb6]⟩,tf_ hB (fun _ h=>h) (hj:=by rw [List.append_nil]),by simp⟩
   | exact ⟨⟨g1,by rw [hg1,if_neg (show ¬hasF f 2=true by rw [hb6];decide)];split<;>decide⟩,tf_ hB (fun _ h=>h) (hj:=by rw [List.append_nil]),by simp⟩
 refine rs_ [0,7,14,16,18,20,61] ?_
 refine sg_ ?_
 refine cl_ (hc:=c156 f 1 (h.length+1) _ _ (by simp only [push_cast])) (k:=?_)
 refine re_ ?_
 refine cx_ (fun hb5=>?_) (fun hb5=>?_)
 ·
  refine rt_ [0,7,14,16,18,20] ?_
  refine srn_ ?_
  first
   | exact ⟨⟨_,(if_pos hb5).symm⟩,tf_ hB (fun _ h=>h) (hj:=by rw [List.append_nil]),by simp⟩
   | exact ⟨⟨_,(if_neg (by rw [hb5];decide)).symm⟩,tf_ hB (fun _ h=>h) (hj:=by rw [List.append_nil]),by simp⟩
 refine skp_ ?_
 first
  | exact ⟨⟨_,(if_pos hb5).symm⟩,tf_ hB (fun _ h=>h) (hj:=by rw [List.append_nil]),by simp⟩
  | exact ⟨⟨_,(if_neg (by rw [hb5];decide)).symm⟩,tf_ hB (fun _ h=>h) (hj:=by rw [List.append_nil]),by simp⟩
theorem c159 (T:Tab) (k:Nat) (i:Int) (h:List Blk) (live:List Nat) (hk:h[k]? = some (tabBlk T)) (hT:T.Ok):AC Tryz.prog 159 [.ptr k 0,.int .i64 i] h live (.tup [.agg (ndC (T.get i).1),.bool (decide ((T.get i).1.kind=1))]):=by
 refine aq_ Tryz.func159 fun hH hX=>?_
 refine rg_ [0,1,4] ?_
 refine rs_ [4,6] ?_
 refine sg_ ?_
 refine cl_ (hc:=c23 T k _ _ _ (atApp hk) hT) (k:=?_)
 refine sre_ ?_
 refine rsq_ [4,5] ⟨false,[(h.length+1,0,.agg 7),(h.length+1,0,.one)],[14,16],[4],[],[],0⟩ (fun _=>⟨by kernel_rfl,by kernel_rfl⟩) ?_
 refine df_ ?_
 refine sg_ ?_
 refine df_ ?_
 refine sg_ ?_
 refine dgs_ ?_
 refine srt_ ?_
 refine fq_ Tryz.results159 ?_
 exact rk_ rfl
end Go.Proofs.YtmgnbgniikjhdaaGreat
namespace Go.Proofs.YtmgnbgniikjhdaaGreat
open Go.Ab
set_option maxRecDepth 8000
set_option maxHeartbeats 400000
theorem rd_eq {l:List UInt8} {off n:Int} (hn:0≤off∧0≤n):List.take ((if ((List.drop (if (l.length:Int)<off then (l.length:Int) else off).toNat l).length:Int)<n then ((List.drop (if (l.length:Int)<off then (l.length:Int) else off).toNat l).length:Int) else n).toNat - 0) (List.map bV (List.drop (if (l.length:Int)<off then (l.length:Int) else off).toNat l))=((l.drop off.toNat).take n.toNat).map bV:=by
 have e:List.drop (if (l.length:Int)<off then (l.length:Int) else off).toNat l=l.drop off.toNat:=by
  split
  · rw [Int.toNat_natCast,List.drop_length,List.drop_of_length_le (by omega)]
  · rfl
 rw [e,Nat.sub_zero]
 split
 · rw [Int.toNat_natCast,←List.map_take,List.take_length,List.take_of_length_le (by omega)]
 · rw [List.map_take]
theorem c106 (T:Tab) (k:Nat) (i off n:Int) (h:List Blk) (live:List Nat) (hk:h[k]? = some (tabBlk T)) (hT:T.Ok):AC Tryz.prog 106 [.ptr k 0,.int .i64 i,.int .i64 off,.int .i64 n] h live (.tup [.slice ((readF T i off n).1.map bV) .none,.int .i64 (readF T i off n).2]):=by
 refine aq_ Tryz.func106 fun hH hX=>?_
 have hd:=(get_ok hT i).1
 refine rg_ [0,1,2,3] ?_
 refine rs_ [2,3,10,11] ?_
 refine sg_ ?_
 refine cl_ (hc:=c159 T k i _ _ hk hT) (k:=?_)
 refine sre_ ?_
 refine sk_ fun K1 hK1=>?_
 refine awp_block ?_
 refine rg_ [2,3,10,19] ?_
 refine cx_ (fun hb1=>?_) (fun hb1=>?_)
 ·
  refine rg_ [8,9] ?_
  refine ret_ ?_
  refine fq_ Tryz.results106 ?_
  exact rk_ (by unfold readF;rw [if_pos (by simpa using hb1)]<;>rfl)
 refine rg_ [2,3,10,22] ?_
 refine cx_ (fun hb2=>?_) (fun hb2=>?_)
 ·
  refine rg_ [8,9] ?_
  refine ret_ ?_
  refine fq_ Tryz.results106 ?_
  exact rk_ (by unfold readF;rw [if_neg (by simpa using hb1),if_pos hb2]<;>rfl)
 refine skp_ ?_
 refine hK1 _ ?_
 refine rg_ [3,12] ?_
 refine rs_ [8,9] ?_
 refine sg_ ?_
 simp only [rd_eq hb2]
 refine cl_ (hc:=c79 (((T.get i).1.data.drop off.toNat).take n.toNat) _ _ _ (by rw [List.length_take,List.length_drop];omega)) (k:=?_)
 refine srt_ ?_
 refine fq_ Tryz.results106 ?_
 exact rk_ (by unfold readF;rw [if_neg (by simpa using hb1),if_neg (by omega)]<;>rfl)
end Go.Proofs.YtmgnbgniikjhdaaGreat
namespace Go.Proofs.YtmgnbgniikjhdaaGreat
open Go.Ab
set_option maxRecDepth 8000
set_option maxHeartbeats 400000
theorem wr_max (a j b:Nat):(if (a:Int)<(j:Int)+(b:Int) then (j:Int)+(b:Int) else (a:Int))=((max a (j+b):Nat):Int):=by
 rcases Nat.le_total a (j+b) with h | h
 · rw [Nat.max_eq_right h];split<;>omega
 · rw [Nat.max_eq_left h];split<;>omega
theorem putAt_map {α β:Type} (f:α→β):∀(v c:List α) (off:Nat),putAt (c.map f) off (v.map f)=(putAt c off v).map f
 | [], _, _=>rfl
 | x::v,c,off=>by
  show putAt ((c.map f).set off (f x)) (off+1) (v.map f)=(putAt (c.set off x) (off+1) v).map f
  rw [←List.map_set,putAt_map f v]
theorem flat_bV (l:List UInt8):flat (l.map bV)=l.map bV:=by
 induction l with
 | nil=>rfl
 | cons a l ih=>show (bV a).cells++flat (l.map bV)=_;rw [ih];rfl
theorem rep_bV (n:Nat):rep n [.int .u8 0]=(List.replicate n (0:UInt8)).map bV:=List.ext_getElem (by simp [rep]) fun i _ _=>by simp [rep,Nat.mod_one];rfl
theorem one_frz (cs:List AV) (n:Nat) (hn:cs.length=n):((List.range n).map fun i=>mkEl false ((cs.drop (0+i*1)).take 1))=cs:=by
 subst hn
 refine List.ext_getElem (by simp) fun i h1 h2=>?_
 rw [List.getElem_map,List.getElem_range,Nat.zero_add,Nat.mul_one]
 show ((cs.drop i).take 1).headD .undef=cs[i]
 rw [List.drop_eq_getElem_cons h2];rfl
theorem overB_len (l:List UInt8) (j:Nat) (b:List UInt8):(overB l j b).length=max l.length (j+b.length):=by
 unfold overB;rw [putAt_length,putAt_length,List.length_replicate]
theorem wr_frz (l b:List UInt8) (j:Nat) (h:List Blk) (x y:Blk) (cs:List AV) (hcs:cs=(overB l j b).map bV):((AV.bsl (h.length+2) 0 1 false (max l.length (j+b.length)) (max l.length (j+b.length))).frz (h++[x,y,.cells cs]) (h.length+2)).er=.slice ((overB l j b).map bV) .none:=by
 subst hcs
 have hl:((overB l j b).map bV).length=max l.length (j+b.length):=by rw [List.length_map,overB_len]
 simp only [AV.frz]
 rw [if_pos (Nat.le_refl _),get_app]
 simp only [List.getElem?_cons_succ,List.getElem?_cons_zero]
 rw [if_pos ⟨by rw [hl];omega,by decide,by simp⟩,one_frz _ _ hl]
 simp only [AV.er,erL_bV]
theorem fgetF {h:List Blk} {m:Nat} {fr:Nat→AV}:∀ {fl:FL},(∀p∈fl,(p.2=fr p.1∨p.2=((fr p.1).frz h m).er)∧p.2.cl m)→∀t,fget fl t=.undef∨((fget fl t=fr t∨fget fl t=((fr t).frz h m).er)∧(fget fl t).cl m)
 | [], _,t=>.inl rfl
 | (k,v)::r,hp,t=>by
  rw [fget_cons]
  split
  · rename_i e;subst e;exact .inr (hp _ List.mem_cons_self)
  · exact fgetF (fun p h=>hp p (List.mem_cons_of_mem _ h)) t
theorem over_cs (l b:List UInt8) (j:Nat) (n:Nat) (hn:n=max l.length (j+b.length)):putAt (putAt (rep n [.int .u8 0]) 0 (flat (l.map bV))) j (flat (b.map bV))=(overB l j b).map bV:=by
 subst hn
 rw [flat_bV,flat_bV,rep_bV,putAt_map,putAt_map];rfl
theorem copy_all (l:List UInt8) (n:Nat) (hn:l.length≤n):(l.map bV).take (min (l.map bV).length n)=l.map bV:=List.take_of_length_le (by rw [List.length_map];omega)
theorem c107 (T:Tab) (k:Nat) (c:Cr) (i off:Int) (b:List UInt8) (q:Cap) (h:List Blk) (live:List Nat) (hk:h[k]? = some (tabBlk T)) (hT:T.Ok) (hgs:c.gs.length≤17592186044416) (hb:b.length≤1000000):ACalls Tryz.prog 107 [.ptr k 0,.agg [.int .i64 c.uid,.int .i64 c.gid,.slice (c.gs.map iV) .none],.int .i64 i,.int .i64 off,.slice (b.map bV) q] h live (ret (.int .i64 (writeAtF T c i off b).1) (h.set k (tabBlk (writeAtF T c i off b).2)) live):=by
 refine aq_ Tryz.func107 fun hH hX=>?_
 have hkl:=lt_of_get hk
 have hs1:∀(y:Blk) (g:List Blk),(h++g).set k y=h.set k y++g:=fun y g=>setApp hk
 have hse:h.set k (tabBlk T)=h:=set_self hk
 have hcl:∀x,HCl (h.set k (tabBlk x)):=fun x=>hcl_tab hH _ _
 have hk2:∀x:Blk,(h.set k x)[k]? = some x:=fun x=>get_setk hkl
 have hsl:∀x:Blk,(h.set k x).length=h.length:=fun x=>List.length_set ..
 have hd:=(get_ok hT i).1
 have hB:HCl (h++[.cells [AV.int .i64 c.uid,.int .i64 c.gid,.slice (c.gs.map iV) .none],.cells (ndC (T.get i).1)]):=by
  have:=HCl.snoc (HCl.snoc (b:=.cells [AV.int .i64 c.uid,.int .i64 c.gid,.slice (c.gs.map iV) .none]) hH (by simp [Blk.cl,AV.cl,AV.clL,clL_iV, -List.map_map])) (b:=.cells (ndC (T.get i).1)) (cl_ndB _ _)
  rw [List.append_assoc] at this;exact this
 have sx:=(And.intro @hs1 (And.intro @hk (And.intro @hsl sx0)))
 refine rg_ [0,2,3,4,6] ?_
 refine rs_ [0,2,3,4,6,11,12] ?_
 refine sg_ ?_
 refine cl_ (hc:=c159 T k i _ _ (atApp hk) hT) (k:=?_)
 refine sre_ ?_
 refine sk_ fun K1 hK1=>?_
 refine awp_block ?_
 refine rg_ [0,2,3,4,6,11,20] ?_
 refine cx_ (fun hb1=>?_) (fun hb1=>?_)
 ·
  refine rg_ [10] ?_
  refine ret_ ?_
  refine gq_ (h1:=h.set k (tabBlk T)) Tryz.results107 ?_ (hh:=(by rw [hse];exact ⟨_,rfl⟩)) (hH:=(hcl _))
  exact ⟨by unfold writeAtF;rw [if_pos (by simpa using hb1)]<;>rfl,by unfold writeAtF;rw [if_pos (by simpa using hb1)]<;>rfl,rfl⟩
 refine rg_ [0,2,3,4,6,11,23] ?_
 refine cx_ (fun hb2=>?_) (fun hb2=>?_)
 ·
  refine rg_ [10] ?_
  refine ret_ ?_
  refine gq_ (h1:=h.set k (tabBlk T)) Tryz.results107 ?_ (hh:=(by rw [hse];exact ⟨_,rfl⟩)) (hH:=(hcl _))
  exact ⟨by unfold writeAtF;rw [if_neg (by simpa using hb1),if_pos hb2]<;>rfl,by unfold writeAtF;rw [if_neg (by simpa using hb1),if_pos hb2]<;>rfl,rfl⟩
 obtain ⟨j,rfl⟩:∃j:Nat,off=(j:Int):=⟨off.toNat,by omega⟩
 refine rg_ [0,2,3,4,6,11,26] ?_
 refine cx_ (fun hb3=>?_) (fun hb3=>?_)
 ·
  refine rg_ [10] ?_
  refine ret_ ?_
  refine gq_ (h1:=h.set k (tabBlk T)) Tryz.results107 ?_ (hh:=(by rw [hse];exact ⟨_,rfl⟩)) (hH:=(hcl _))
  exact ⟨by unfold writeAtF;rw [if_neg (by simpa using hb1),if_neg (by omega),if_pos (List.eq_nil_of_length_eq_zero (by omega))]<;>rfl,by unfold writeAtF;rw [if_neg (by simpa using hb1),if_neg (by omega),if_pos (List.eq_nil_of_length_eq_zero (by omega))]<;>rfl,rfl⟩
 refine rg_ [0,2,3,4,6,11,30] ?_
 refine cx_ (fun hb4=>?_) (fun hb4=>?_)
 ·
  refine rg_ [10] ?_
  refine ret_ ?_
  refine gq_ (h1:=h.set k (tabBlk T)) Tryz.results107 ?_ (hh:=(by rw [hse];exact ⟨_,rfl⟩)) (hH:=(hcl _))
  exact ⟨by unfold writeAtF;rw [if_neg (by simpa using hb1),if_neg (by omega),if_neg (fun h=>by subst h;exact hb3 rfl),if_pos hb4]<;>rfl,by unfold writeAtF;rw [if_neg (by simpa using hb1),if_neg (by omega),if_neg (fun h=>by subst h;exact hb3 rfl),if_pos hb4]<;>rfl,rfl⟩
 have hbp:0<b.length:=by omega
 refine skp_ ?_
 refine hK1 _ ?_
 refine awp_seqF3 (X:=Unit) (fun _=>⟨Tryz.f107.ntmps,fget [(0,.ptr k 0),(2,.int .i64 i),(6,.ptr h.length 0),(11,.ptr (h.length+1) 0),(13,.slice ((overB (T.get i).1.data j b).map bV) .none)],h++[.cells [AV.int .i64 c.uid,.int .i64 c.gid,.slice (c.gs.map iV) .none],.cells (ndC (T.get i).1)],live⟩) ?_ (fun _=>?_)
 rotate_left
 ·
  try dsimp only
  refine rs_ [] ?_
  refine sg_ ?_
  refine cl_ (hc:=c158 T k c i (T.get i).1 (overB (T.get i).1.data j b) _ _ _ (atApp hk) hT hgs (get_ok hT _) (by rw [overB_len];omega)) (k:=?_)
  refine re_ ?_
  refine rg_ [10] ?_
  refine ret_ ?_
  refine gq_ (h1:=h.set k _) Tryz.results107 ?_ (hh:=(⟨_,rfl⟩)) (hH:=(hcl _))
  exact ⟨by unfold writeAtF;rw [if_neg (by simpa using hb1),if_neg (by omega),if_neg (fun h=>by subst h;exact hb3 rfl),if_neg (by omega)]<;>rfl,by unfold writeAtF;rw [if_neg (by simpa using hb1),if_neg (by omega),if_neg (fun h=>by subst h;exact hb3 rfl),if_neg (by omega)]<;>rfl,rfl⟩
 refine rt_ [0,2,3,4,6,11,13] ?_
 refine sg_ ?_
 simp only [wr_max]
 refine dawp_w rfl rfl rfl rfl (AOp.makeSlice _ _ _ rfl Ty.makeT_59 (by (simp (disch:=omega) only [push_cast,↓reduceIte,Nat.reduceEqDiff,Nat.reduceAdd,Nat.reduceLeDiff,sx])<;>rfl) (by (simp (disch:=omega) only [push_cast,↓reduceIte,Nat.reduceEqDiff,Nat.reduceAdd,Nat.reduceLeDiff,sx])<;>rfl) (Nat.le_refl _) (by omega) (by omega) ?_)
 refine srn_ ?_
 refine rt_ [0,2,3,4,6,11,13] ?_
 refine sg_ ?_
 refine dawp_w rfl rfl rfl rfl (AOp.copyB _ _ _ _ rfl Ty.sliceSz_59 (by (simp (disch:=omega) only [push_cast,↓reduceIte,Nat.reduceEqDiff,Nat.reduceAdd,Nat.reduceLeDiff,sx])<;>rfl) (by (simp (disch:=omega) only [push_cast,↓reduceIte,Nat.reduceEqDiff,Nat.reduceAdd,Nat.reduceLeDiff,sx])<;>rfl) (by (simp (disch:=omega) only [push_cast,↓reduceIte,Nat.reduceEqDiff,Nat.reduceAdd,Nat.reduceLeDiff,sx])<;>rfl) (cells_bV _) (by rw [rep_length];simp;omega) ?_)
 refine rn_ (up_ ?_)
 refine rt_ [0,2,6,11,13] ?_
 refine sg_ ?_
 refine dawp_w rfl rfl rfl rfl (AOp.copyB _ _ _ _ rfl Ty.sliceSz_59 (by (simp (disch:=omega) only [push_cast,↓reduceIte,Nat.reduceEqDiff,Nat.reduceAdd,Nat.reduceLeDiff,sx])<;>rfl) (by (simp (disch:=omega) only [push_cast,↓reduceIte,Nat.reduceEqDiff,Nat.reduceAdd,Nat.reduceLeDiff,sx])<;>rfl) (by (simp (disch:=omega) only [push_cast,↓reduceIte,Nat.reduceEqDiff,Nat.reduceAdd,Nat.reduceLeDiff,sx])<;>rfl) (cells_bV _) (by rw [putAt_length,rep_length];simp;omega) ?_)
 refine rn_ (up_ ?_)
 refine ⟨(),⟨rfl,fgetF fun p hp=>?_,⟨[_],by rw [List.append_assoc];rfl⟩,hB,fun _ h=>h⟩,by simp⟩
 simp only [List.mem_cons,List.not_mem_nil,or_false] at hp
 rcases hp with rfl | rfl | rfl | rfl | rfl
 · exact ⟨.inl rfl,by simp [AV.cl];omega⟩
 · exact ⟨.inl rfl,trivial⟩
 · exact ⟨.inl rfl,by simp [AV.cl]⟩
 · exact ⟨.inl rfl,by simp [AV.cl]⟩
 ·
  refine ⟨.inr ?_,clL_bV _ _⟩
  have hln:(h++[.cells [AV.int .i64 c.uid,.int .i64 c.gid,.slice (c.gs.map iV) .none],.cells (ndC (T.get i).1)]:List Blk).length=h.length+2:=by simp
  show _=AV.er (AV.frz _ (h++[.cells [AV.int .i64 c.uid,.int .i64 c.gid,.slice (c.gs.map iV) .none],.cells (ndC (T.get i).1)]:List Blk).length _)
  rw [hln]
  refine (wr_frz (T.get i).1.data b j h _ _ _ ?_).symm
  rw [Nat.zero_add,Nat.mul_one,List.take_of_length_le (by rw [List.length_map];omega),List.take_of_length_le (by rw [List.length_map];omega)]
  exact over_cs _ _ _ _ rfl
end Go.Proofs.YtmgnbgniikjhdaaGreat
namespace Go.Proofs.YtmgnbgniikjhdaaGreat
open Go.Ab
set_option maxRecDepth 8000
set_option maxHeartbeats 400000
theorem bl_asym:∀x y:List UInt8,Op.bytesLess x y=true→Op.bytesLess y x=false
 | x,[],h=>by cases x<;>cases h
 | [], _::_, _=>rfl
 | a::x,b::y,h=>by
  simp only [Op.bytesLess,Bool.or_eq_true,Bool.and_eq_true,decide_eq_true_eq,beq_iff_eq] at h
  simp only [Op.bytesLess,Bool.or_eq_false_iff,decide_eq_false_iff_not]
  rcases h with h | ⟨rfl,h⟩
  ·
   have hn:¬b<a:=fun h2=>absurd (UInt8.lt_trans h h2) (UInt8.lt_irrefl a)
   refine ⟨hn,?_⟩
   cases hb:(b==a) with
   | false=>rfl
   | true=>rw [beq_iff_eq] at hb;subst hb;exact absurd h (UInt8.lt_irrefl _)
  · exact ⟨UInt8.lt_irrefl a,by rw [bl_asym x y h,Bool.and_false]⟩
def RisS (l:List (List UInt8)):Prop:=∀i,0<i→i<l.length→Op.bytesLess (l.getD (i - 1) []) (l.getD i [])=true
def lenV (n:Nat):Int:=if n=0 then 0 else if n=1 then 1 else if n<4 then 2 else if n<8 then 3 else 4
theorem c303 (x:List UInt8) (h:List Blk) (live:List Nat):AC Tryz.prog 303 [.str x] h live (.bool false):=by
 refine aq_ Tryz.func303 fun hH hX=>?_
 refine rg_ [0] ?_
 refine rg_ [2] ?_
 refine ret_ ?_
 refine fq_ Tryz.results303 ?_
 exact rk_ (by simp)
theorem c285 (x y:List UInt8) (h:List Blk) (live:List Nat):AC Tryz.prog 285 [.str x,.str y] h live (.bool (Op.bytesLess x y)):=by
 refine aq_ Tryz.func285 fun hH hX=>?_
 refine rg_ [0,1] ?_
 refine rs_ [4] ?_
 refine sg_ ?_
 refine cl_ (hc:=c303 _ _ _) (k:=?_)
 refine sg_ ?_
 refine cg_ (hc:=fun hg=>c303 _ _ _) (k:=?_)
 refine srt_ ?_
 refine fq_ Tryz.results285 ?_
 exact rk_ (by simp)
theorem c289 (n:Nat) (h:List Blk) (live:List Nat) (hn:n≤8):ACalls Tryz.prog 289 [.int .u64 (n:Nat)] h live (fun x h' l'=>(∃v,x=.int .i64 v)∧h'=h∧l'=live):=by
 refine aq_ Tryz.func289 fun hH hX=>?_
 refine rg_ [0,2] ?_
 refine sk_ fun K1 hK1=>?_
 refine rg_ [0,2,4] ?_
 refine cx_ (fun hb1=>?_) (fun hb1=>?_)
 · exfalso;omega
 refine skp_ ?_
 refine hK1 _ ?_
 refine sk_ fun K2 hK2=>?_
 refine rg_ [0,2,8] ?_
 refine cx_ (fun hb2=>?_) (fun hb2=>?_)
 · exfalso;omega
 refine skp_ ?_
 refine hK2 _ ?_
 refine sk_ fun K3 hK3=>?_
 refine rg_ [0,2,14] ?_
 refine cx_ (fun hb3=>?_) (fun hb3=>?_)
 · exfalso;omega
 refine skp_ ?_
 refine hK3 _ ?_
 refine rs_ [2] ?_
 refine dp_ ?_
 refine dp_ ?_
 refine dp_ ?_
 refine dawp_p (x:=.int .u8 (lenV n)) rfl (by rcases (show n=0∨n=1∨n=2∨n=3∨n=4∨n=5∨n=6∨n=7∨n=8 by omega) with rfl | rfl | rfl | rfl | rfl | rfl | rfl | rfl | rfl<;>rfl) rfl rfl ?_
 refine srt_ ?_
 refine fq_ Tryz.results289 ?_
 exact ⟨⟨_,rfl⟩,rfl,rfl⟩
theorem c260 (n:Nat) (h:List Blk) (live:List Nat) (hn:n≤8):ACalls Tryz.prog 260 [.int .u64 (n:Nat)] h live (fun x h' l'=>(∃v,x=.int .i64 v)∧h'=h∧l'=live):=by
 refine aq_ Tryz.func260 fun hH hX=>?_
 refine rg_ [0] ?_
 refine sk_ fun K1 hK1=>?_
 refine cdn_ (ht:=fun hb1=>?_) (hf:=fun hb1=>?_)
 · exfalso;exact Bool.noConfusion hb1
 refine skp_ ?_
 refine hK1 _ ?_
 refine rs_ [2] ?_
 refine sg_ ?_
 refine ck_ (k:=?_)
 refine (c289 n _ _ hn).mono ?_;rintro _ _ _ ⟨⟨v,rfl⟩,rfl,rfl⟩
 refine srt_ ?_
 refine fq_ Tryz.results260 ?_
 exact ⟨⟨_,rfl⟩,rfl,rfl⟩
theorem c279 (l:List (List UInt8)) (q:Cap) (n:Nat) (h:List Blk) (live:List Nat) (hn:n≤l.length) (hl:l.length≤1000) (hr:RisS l):AC Tryz.prog 279 [.slice (l.map .str) q,.int .i64 0,.int .i64 (n:Nat)] h live (.tup []):=by
 refine aq_ Tryz.func279 fun hH hX=>?_
 refine rg_ [0,1,2,6] ?_
 refine awp_block ?_
 refine lp_ (X:={i:Nat // 1≤i}) (fun x=>⟨Tryz.f279.ntmps,fget [(0,.slice (l.map .str) q),(1,.int .i64 0),(2,.int .i64 (n:Nat)),(6,.int .i64 (x.1:Nat))],h,live⟩) (fun x=>n - x.1) (⟨1,Nat.le_refl _⟩) ?_ (fun ⟨i,hi⟩=>?_)
 ·
  try dsimp only
  exact ts_ hH
 try dsimp only
 refine sk_ fun K1 hK1=>?_
 refine rg_ [0,1,2,6,12] ?_
 refine cx_ (fun hb1=>?_) (fun hb1=>?_)
 rotate_left
 ·
  refine awp_exit (up_ ?_)
  refine fq_ Tryz.results279 ?_
  exact rk_ rfl
 have hil:i<n:=by omega
 have hri:=bl_asym _ _ (hr i (by omega) (by omega))
 refine skp_ ?_
 refine hK1 _ ?_
 refine sk_ fun K2 hK2=>?_
 refine awp_block ?_
 refine rg_ [0,1,2,6,7] ?_
 refine awp_block ?_
 refine lp_ (X:=Unit) (fun x=>⟨Tryz.f279.ntmps,fget [(0,.slice (l.map .str) q),(1,.int .i64 0),(2,.int .i64 (n:Nat)),(6,.int .i64 (i:Nat)),(7,.int .i64 (i:Nat))],h,live⟩) (fun x=>0) (()) ?_ (fun _=>?_)
 ·
  try dsimp only
  exact ts_ hH
 try dsimp only
 refine sk_ fun K3 hK3=>?_
 refine rsq_ [0,1,2,6,7,30] ⟨true,[],[],[],[],[],0⟩ (fun _=>⟨by kernel_rfl,by kernel_rfl⟩) ?_
 refine sg_ ?_
 refine cg_ (hc:=fun hg=>c285 _ _ _ _) (k:=?_)
 refine sre_ ?_
 refine cdn_ (ht:=fun hb2=>?_) (hf:=fun hb2=>?_)
 ·
  exfalso
  have hri2:=hri
  simp only [List.getD_eq_getElem?_getD] at hri2
  simp [show ((i:Int) - 1).toNat=i - 1 by omega] at hb2
  rw [hri2] at hb2
  cases hb2.2
 refine awp_exit (up_ ?_)
 refine hK2 _ ?_
 refine rt_ [0,1,2,6] ?_
 refine srn_ ?_
 refine ln_ ⟨i+1,by omega⟩ ?_
 try dsimp only
 exact ts_ hH
theorem c259 (l:List (List UInt8)) (q:Cap) (v:Int) (h:List Blk) (live:List Nat) (hl:l.length≤8) (hr:RisS l):AC Tryz.prog 259 [.slice (l.map .str) q,.int .i64 0,.int .i64 (l.length:Nat),.int .i64 v] h live (.tup []):=by
 refine aq_ Tryz.func259 fun hH hX=>?_
 refine rg_ [0,1,2,3,8] ?_
 refine rg_ [0,1,2,3,8,9] ?_
 refine awp_block ?_
 refine lp_ (X:=Unit) (fun x=>⟨Tryz.f259.ntmps,fget [(0,.slice (l.map .str) q),(1,.int .i64 0),(2,.int .i64 (l.length:Nat)),(3,.int .i64 v),(8,.bool true),(9,.bool true)],h,live⟩) (fun x=>0) (()) ?_ (fun _=>?_)
 ·
  try dsimp only
  exact ts_ hH
 try dsimp only
 refine awp_block ?_
 refine rg_ [0,1,2,3,8,9,10] ?_
 refine sk_ fun K1 hK1=>?_
 refine rg_ [0,1,2,3,8,9,10,23] ?_
 refine cdy_ (ht:=fun hb1=>?_) (hf:=fun hb1=>?_)
 ·
  refine rs_ [] ?_
  refine sg_ ?_
  refine cl_ (hc:=c279 l q l.length _ _ (Nat.le_refl _) (by omega) hr) (k:=?_)
  refine re_ ?_
  refine ret_ ?_
  refine fq_ Tryz.results259 ?_
  exact rk_ rfl
 exfalso
 simp only [decide_eq_true_eq,decide_eq_false_iff_not,Bool.not_eq_true',Bool.not_eq_false',Bool.or_eq_true,Bool.and_eq_true,Bool.or_eq_false_iff,Bool.and_eq_false_imp,Int.not_lt,Int.not_le] at hb1
 omega
theorem c220 (l:List (List UInt8)) (q:Cap) (h:List Blk) (live:List Nat) (hl:l.length≤8) (hr:RisS l):AC Tryz.prog 220 [.slice (l.map .str) q] h live (.tup []):=by
 refine aq_ Tryz.func220 fun hH hX=>?_
 refine rg_ [0,2] ?_
 refine rt_ [] ?_
 refine sg_ ?_
 refine ck_ (k:=?_)
 refine (c260 l.length _ _ hl).mono ?_;rintro _ _ _ ⟨⟨v,rfl⟩,rfl,rfl⟩
 refine cl_ (hc:=c259 l q v _ _ hl hr) (k:=?_)
 refine rn_ (up_ ?_)
 refine fq_ Tryz.results220 ?_
 exact rk_ rfl
end Go.Proofs.YtmgnbgniikjhdaaGreat
