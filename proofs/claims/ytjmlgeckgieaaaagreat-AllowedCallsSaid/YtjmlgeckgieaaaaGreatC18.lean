import Derived.Test.YtjmlgeckgieaaaaGreatC17
/-
  ALLOWED: the law of calls, its walk.
-/
set_option linter.unusedVariables false
set_option linter.unusedSimpArgs false
namespace Go.Proofs.YtjmlgeckgieaaaaGreat
open Go.Ab
set_option maxRecDepth 8000
set_option maxHeartbeats 400000
def caV (c:Ca):AV:=.agg (caC c)
def ca0:Ca:=⟨0,[],[],0,0,[]⟩
theorem getD_caV {l:List Ca} {i:Nat} {d:AV} (h:i<l.length):(l.map caV).getD i d=.agg (caC (l.getD i ca0)):=by
 simp [List.getD_eq_getElem?_getD,h,caV]
theorem allSz_caV (l:List Ca):allSz (l.map caV) 6↔True:=iff_true_intro (allSz_map _ _ _ fun _=>rfl)
theorem clL_caV (n:Nat) (l:List Ca):AV.clL n (l.map caV):=clL_all fun x hx=>by
 obtain ⟨c, _,rfl⟩:=List.mem_map.1 hx
 exact ⟨trivial,trivial,trivial,trivial,trivial,clL_bV _ _,trivial⟩
attribute [push_cast] getD_caV allSz_caV
theorem u_8w (x:UInt8):IntKind.i64.wrap (x.toNat:Int)=(x.toNat:Int):=wrapS (by omega) (by have:=x.toNat_lt;omega)
theorem t_mod (a b:Nat):(a:Int).tmod (b:Int)=((a%b:Nat):Int):=(Int.ofNat_tmod a b).symm
theorem p_caC (c:Ca):putAt [AV.int .i64 0,.str [],.str [],.int .i64 0,.int .i64 0,.slice [] .full] 0 (caC c)=caC c:=rfl
theorem t_caC (c:Ca):(caC c).take 6=caC c:=rfl
theorem i_mod (a b:Nat):((a:Int)%(b:Int)).toNat=a%b:=by rw [←Int.natCast_emod];rfl
theorem cl_caC (n:Nat) (c:Ca):Blk.cl n (.cells (caC c)):=⟨trivial,trivial,trivial,trivial,trivial,clL_bV _ _,trivial⟩
attribute [push_cast] clL_caV
set_option maxHeartbeats 4000000 in
theorem c7 (room:Int) (l:List Rw) (um:Int) (cs:List Cr) (pids:List UInt8) (calls:List Ca) (h:List Blk) (live:List Nat) (hh0:h=[]) (hn:l.length≤9223372036854775807) (hcs:∀c∈cs,c.gs.length≤17592186044416) (hcl:cs.length≤17592186044416) (hpl0:pids.length≤9223372036854775807) (hal:calls.length≤9223372036854775807):AC Tryz.prog 7 [.int .i64 room,.slice (l.map rV) .none,.int .i64 um,.slice (cs.map crV) .none,.slice (pids.map bV) .none,.slice (calls.map caV) .none] h live (.bool true):=by
 refine aq_ Tryz.func7 fun hH hX=>?_
 have sx:=(And.intro @u_8w (And.intro @t_mod (And.intro @p_caC (And.intro @t_caC (And.intro @i_mod sx0)))))
 refine rg_ [0,1,2,3,4,5] ?_
 refine rs_ [0,1,2,3,4,5,13] ?_
 refine cl_ (hc:=c26 _ _) (k:=?_)
 refine sre_ ?_
 refine sk_ fun K1 hK1=>?_
 refine rg_ [0,1,2,3,4,5,27] ?_
 refine cdn_ (ht:=fun hb1=>?_) (hf:=fun hb1=>?_)
 · exfalso;exact Bool.noConfusion hb1
 refine skp_ ?_
 refine hK1 _ ?_
 refine rs_ [2,3,4,5,14,15] ?_
 refine sg_ ?_
 refine ck_ (k:=?_)
 refine erx_ (ys:=[.int .i64 room,.slice (l.map rV) .none,.agg [.int .i64 0,.int .i64 0,.slice (([]:List Int).map iV) .none]]) (by simp only [List.map_cons,List.map_nil,AV.er,AV.erL,erL_rV]<;>rfl) ((ACalls.hclK (c27 room l ⟨0,0,[]⟩ _ _ hn (by simp))).mono ?_);rintro _ H live ⟨⟨rfl,g,p,rfl,hHe,hpc,hp⟩,hHg⟩
 refine sre_ ?_
 refine sk_ fun K2 hK2=>?_
 refine rg_ [2,3,4,5,14,61] ?_
 refine cdn_ (ht:=fun hb2=>?_) (hf:=fun hb2=>?_)
 ·
  refine rg_ [12] ?_
  refine ret_ ?_
  refine gq_ (h1:=h) Tryz.results7 ?_ (hh:=(⟨_,by rw [hh0];exact (List.nil_append _).symm⟩))
  exact rk_ rfl
 obtain ⟨⟨⟨⟨⟨hb21,hb22⟩,hb23⟩,hb24⟩,hb25⟩,hb26⟩:=hb2
 obtain ⟨T,hTe⟩:=Option.isSome_iff_exists.1 hb21
 obtain ⟨k,rfl,hk⟩:=hp T hTe
 have hkl:=lt_of_get hk
 obtain ⟨hT, -⟩:=builtF_ok hTe
 have hR:=built_rt hTe
 have hzp:((pids.length:Int)=0)=False:=eq_false (by omega)
 have hzc:((cs.length:Int)=0)=False:=eq_false (by omega)
 have sx:=And.intro hzp (And.intro hzc sx)
 refine skp_ ?_
 refine hK2 _ ?_
 refine sk_ fun K3 hK3=>?_
 refine rg_ [2,3,4,5,14,16] ?_
 refine awp_block ?_
 refine lp_ (X:={i:Nat // i≤cs.length}) (fun x=>⟨Tryz.f7.ntmps,fget [(3,.slice (cs.map crV) .none),(4,.slice (pids.map bV) .none),(5,.slice (calls.map caV) .none),(2,.int .i64 um),(14,.ptr k 0),(16,.int .i64 (x.1:Nat))],H,live⟩) (fun x=>cs.length - x.1) (⟨0,by omega⟩) ?_ (fun ⟨i0,hi0⟩=>?_)
 ·
  try dsimp only
  refine Trunc.of (by first | exact (List.append_nil _).symm | exact rfl | (rw [List.append_assoc];rfl)) ?_ (by assumption) (fun _ h=>h)
  refine ftc_ ?_ (hc:=by first | exact trivial | exact clL_caV _ _ | exact clL_crV _ _ | exact clL_bV _ _ | exact clL_iV _ _ | (simp [AV.cl,AV.clL];done) | (simp only [AV.cl];omega) | (simp only [AV.cl];simp;omega))
  refine ftc_ ?_ (hc:=by first | exact trivial | exact clL_caV _ _ | exact clL_crV _ _ | exact clL_bV _ _ | exact clL_iV _ _ | (simp [AV.cl,AV.clL];done) | (simp only [AV.cl];omega) | (simp only [AV.cl];simp;omega))
  refine ftc_ ?_ (hc:=by first | exact trivial | exact clL_caV _ _ | exact clL_crV _ _ | exact clL_bV _ _ | exact clL_iV _ _ | (simp [AV.cl,AV.clL];done) | (simp only [AV.cl];omega) | (simp only [AV.cl];simp;omega))
  refine ftc_ ?_ (hc:=by first | exact trivial | exact clL_caV _ _ | exact clL_crV _ _ | exact clL_bV _ _ | exact clL_iV _ _ | (simp [AV.cl,AV.clL];done) | (simp only [AV.cl];omega) | (simp only [AV.cl];simp;omega))
  refine ftc_ ?_ (hc:=by first | exact trivial | exact clL_caV _ _ | exact clL_crV _ _ | exact clL_bV _ _ | exact clL_iV _ _ | (simp [AV.cl,AV.clL];done) | (simp only [AV.cl];omega) | (simp only [AV.cl];simp;omega))
  refine ftc_ ?_ (hc:=by first | exact trivial | exact clL_caV _ _ | exact clL_crV _ _ | exact clL_bV _ _ | exact clL_iV _ _ | (simp [AV.cl,AV.clL];done) | (simp only [AV.cl];omega) | (simp only [AV.cl];simp;omega))
  exact FTr.nil
 try dsimp only
 refine sk_ fun K4 hK4=>?_
 refine rg_ [2,3,4,5,14,16,65] ?_
 refine cdy_ (ht:=fun hb3=>?_) (hf:=fun hb3=>?_)
 rotate_left
 ·
  refine awp_exit (up_ ?_)
  refine hK3 _ ?_
  refine rs_ [3,4,5,17] ?_
  refine sg_ ?_
  refine ck_ (k:=?_)
  refine (c17 T k um cs _ _ hk hT hcs hcl).mono ?_;rintro _ H0 live ⟨rfl,hHx,rfl⟩
  obtain ⟨n,hnn⟩:∃n,H.length=n:=⟨_,rfl⟩
  have hy0:=newH_at H um (cs:=cs) hT hR hcs (by omega)
  have hH0:=newH_cl hHg T um cs
  rw [hHx] at hy0 hH0
  rw [hnn] at hy0
  simp only [hnn]
  have hnl:=lt_of_get hy0.s
  have hw0:TreeW T (openL (cs.map (pr1 um))) []:=by rw [openL_new];exact built_treeW hTe
  have hc0:∀j,j<cs.length→((cs.map (pr1 um)).getD j pr0).c=cs.getD j cr0:=fun j hj=>by simp [List.getD_eq_getElem?_getD,hj,pr1]
  refine sre_ ?_
  refine sk_ fun K5 hK5=>?_
  refine rg_ [3,4,5,17,18] ?_
  refine awp_block ?_
  refine awp_loopG (X:={x:Nat×List Blk×Tab×List Pr // x.1≤calls.length∧SysAt x.2.1 (n+1) n (n+3) x.2.2.1 x.2.2.2∧x.2.2.2.length=cs.length∧HCl x.2.1∧TreeW x.2.2.1 (openL x.2.2.2) []∧∀j,j<cs.length→(x.2.2.2.getD j pr0).c=cs.getD j cr0}) (fun x=>⟨Tryz.f7.ntmps,fget [(3,.slice (cs.map crV) .none),(4,.slice (pids.map bV) .none),(5,.slice (calls.map caV) .none),(17,.ptr (n+1) 0),(18,.int .i64 (x.1.1:Nat))],x.1.2.1,live⟩) (fun x=>calls.length - x.1.1) (⟨⟨0,H0,T,cs.map (pr1 um)⟩,Nat.zero_le _,hy0,List.length_map ..,hH0,hw0,hc0⟩) ?_ (by first | rfl | (simp only [List.length_set];done) | simp) (fun ⟨⟨i,H1,T1,ps⟩,hi,hy,hpl,hHc,hw,hpc⟩=>?_)
  ·
   try dsimp only
   refine Trunc.of (by first | exact (List.append_nil _).symm | exact rfl | (rw [List.append_assoc];rfl)) ?_ (by assumption) ((fun u hu=>by first | exact hu | exact (hlv u hu).1))
   refine ftc_ ?_ (hc:=by first | exact trivial | exact clL_caV _ _ | exact clL_crV _ _ | exact clL_bV _ _ | exact clL_iV _ _ | (simp [AV.cl,AV.clL];done) | (simp only [AV.cl];omega) | (simp only [AV.cl];simp;omega))
   refine ftc_ ?_ (hc:=by first | exact trivial | exact clL_caV _ _ | exact clL_crV _ _ | exact clL_bV _ _ | exact clL_iV _ _ | (simp [AV.cl,AV.clL];done) | (simp only [AV.cl];omega) | (simp only [AV.cl];simp;omega))
   refine ftc_ ?_ (hc:=by first | exact trivial | exact clL_caV _ _ | exact clL_crV _ _ | exact clL_bV _ _ | exact clL_iV _ _ | (simp [AV.cl,AV.clL];done) | (simp only [AV.cl];omega) | (simp only [AV.cl];simp;omega))
   refine ftc_ ?_ (hc:=by first | exact trivial | exact clL_caV _ _ | exact clL_crV _ _ | exact clL_bV _ _ | exact clL_iV _ _ | (simp [AV.cl,AV.clL];done) | (simp only [AV.cl];omega) | (simp only [AV.cl];simp;omega))
   refine ftc_ ?_ (hc:=by first | exact trivial | exact clL_caV _ _ | exact clL_crV _ _ | exact clL_bV _ _ | exact clL_iV _ _ | (simp [AV.cl,AV.clL];done) | (simp only [AV.cl];omega) | (simp only [AV.cl];simp;omega))
   exact FTr.nil
  try dsimp only
  dsimp only at hi hy hpl hHc hw hpc
  have hnl2:=lt_of_get hy.s
  have hkb:∀j,j<ps.length→n+3+2*j<H1.length:=fun j hj=>lt_of_get (hy.p j hj)
  refine sk_ fun K6 hK6=>?_
  refine rg_ [3,4,5,17,18,82] ?_
  refine cdy_ (ht:=fun hb5=>?_) (hf:=fun hb5=>?_)
  rotate_left
  ·
   refine awp_exit (up_ ?_)
   refine hK5 _ ?_
   refine rg_ [12] ?_
   refine ret_ ?_
   refine gq_ (h1:=h) Tryz.results7 ?_ (hh:=(⟨_,by rw [hh0];exact (List.nil_append _).symm⟩))
   exact rk_ rfl
  have hil:i<calls.length:=by omega
  obtain ⟨ca,hca⟩:∃ca,calls.getD i ca0=ca:=⟨_,rfl⟩
  have hip:i%pids.length<pids.length:=Nat.mod_lt _ (by omega)
  obtain ⟨pd,hpd⟩:∃pd,(pids.getD (i%pids.length) 0).toNat%cs.length=pd:=⟨_,rfl⟩
  have hpdl:pd<cs.length:=hpd▸Nat.mod_lt _ (by omega)
  obtain ⟨d,hd⟩:∃d,doF T1 ps (pd:Nat) ca=d:=⟨_,rfl⟩
  have hdl:d.2.2.length=ps.length:=by rw [←hd];exact doF_len _ _ _ _
  have hw2:TreeW d.2.1 (openL d.2.2) []:=by rw [←hd];exact doF_tree ⟨hy.ok,hy.rt⟩ hw _ _
  have hpc2:∀j,j<cs.length→(d.2.2.getD j pr0).c=cs.getD j cr0:=fun j hj=>by rw [←hd,doF_c ⟨hy.ok,hy.rt⟩];exact hpc j hj
  obtain ⟨Q,hQ⟩:∃Q,ps.getD pd pr0=Q:=⟨_,rfl⟩
  have hQc:Q.c=cs.getD pd cr0:=hQ▸hpc pd hpdl
  have hcg:(cs.getD pd cr0).gs.length≤17592186044416:=by rw [List.getD_eq_getElem?_getD,List.getElem?_eq_getElem hpdl];exact hcs _ (List.getElem_mem hpdl)
  have hHa:HCl (H1++[.cells (caC ca)]):=HCl.snoc hHc (cl_caC _ _)
  have hpi:(((pids.getD (i%pids.length) 0).toNat:Int)%(cs.length:Int))=(pd:Int):=by rw [←hpd];rfl
  have sx:=And.intro hca (And.intro hpi sx)
  refine skp_ ?_
  refine hK6 _ ?_
  refine sk_ fun K7 hK7=>?_
  refine awp_block ?_
  refine rg_ [3,4,5,17,18,19] ?_
  refine sk_ fun K8 hK8=>?_
  refine rg_ [3,4,5,17,18,19,104] ?_
  refine cdn_ (ht:=fun hb6=>?_) (hf:=fun hb6=>?_)
  ·
   refine rg_ [12] ?_
   refine ret_ ?_
   refine gq_ (h1:=h) Tryz.results7 ?_ (hh:=(⟨_,by rw [hh0];exact (List.nil_append _).symm⟩))
   exact rk_ rfl
  refine skp_ ?_
  refine hK8 _ ?_
  refine rg_ [3,4,5,17,18,19,20] ?_
  refine rg_ [3,4,5,17,18,19,20,21] ?_
  refine sk_ fun K9 hK9=>?_
  refine rg_ [3,4,5,17,18,19,20,21,22] ?_
  refine awp_block ?_
  refine lp_ (X:={p:Nat×Cap×List Nat // p.1≤3∧CapOK p.2.2 p.2.1∧∀u∈live,u∈p.2.2∧p.2.1≠.own u}) (fun x=>⟨Tryz.f7.ntmps,fget [(3,.slice (cs.map crV) .none),(4,.slice (pids.map bV) .none),(5,.slice (calls.map caV) .none),(17,.ptr (n+1) 0),(18,.int .i64 (i:Nat)),(19,.ptr H1.length 0),(20,.int .i64 (pd:Nat)),(21,.slice ((wrL Q x.1.1).map iV) x.1.2.1),(22,.int .i64 (x.1.1:Nat))],H1++[.cells (caC ca)],x.1.2.2⟩) (fun x=>3 - x.1.1) (⟨⟨0,.full,live⟩,Nat.zero_le _,.inl rfl,fun u hu=>⟨hu,Cap.noConfusion⟩⟩) ?_ (fun ⟨⟨k3,c3,live'⟩,hi3,hc3,hlv⟩=>?_)
  ·
   try dsimp only
   refine Trunc.of (by first | exact (List.append_nil _).symm | exact rfl | (rw [List.append_assoc];rfl)) ?_ hHa (fun _ h=>h)
   refine ftc_ ?_ (hc:=by first | exact trivial | exact clL_caV _ _ | exact clL_crV _ _ | exact clL_bV _ _ | exact clL_iV _ _ | (simp [AV.cl,AV.clL];done) | (simp only [AV.cl];omega) | (simp only [AV.cl];simp;omega))
   refine ftc_ ?_ (hc:=by first | exact trivial | exact clL_caV _ _ | exact clL_crV _ _ | exact clL_bV _ _ | exact clL_iV _ _ | (simp [AV.cl,AV.clL];done) | (simp only [AV.cl];omega) | (simp only [AV.cl];simp;omega))
   refine ftc_ ?_ (hc:=by first | exact trivial | exact clL_caV _ _ | exact clL_crV _ _ | exact clL_bV _ _ | exact clL_iV _ _ | (simp [AV.cl,AV.clL];done) | (simp only [AV.cl];omega) | (simp only [AV.cl];simp;omega))
   refine ftc_ ?_ (hc:=by first | exact trivial | exact clL_caV _ _ | exact clL_crV _ _ | exact clL_bV _ _ | exact clL_iV _ _ | (simp [AV.cl,AV.clL];done) | (simp only [AV.cl];omega) | (simp only [AV.cl];simp;omega))
   refine ftc_ ?_ (hc:=by first | exact trivial | exact clL_caV _ _ | exact clL_crV _ _ | exact clL_bV _ _ | exact clL_iV _ _ | (simp [AV.cl,AV.clL];done) | (simp only [AV.cl];omega) | (simp only [AV.cl];simp;omega))
   refine ftc_ ?_ (hc:=by first | exact trivial | exact clL_caV _ _ | exact clL_crV _ _ | exact clL_bV _ _ | exact clL_iV _ _ | (simp [AV.cl,AV.clL];done) | (simp only [AV.cl];omega) | (simp only [AV.cl];simp;omega))
   refine ftc_ ?_ (hc:=by first | exact trivial | exact clL_caV _ _ | exact clL_crV _ _ | exact clL_bV _ _ | exact clL_iV _ _ | (simp [AV.cl,AV.clL];done) | (simp only [AV.cl];omega) | (simp only [AV.cl];simp;omega))
   refine FTr.cons (by first | rfl | (simp only [push_cast];rw [wrL_y hwy];simp [iV];done) | (simp only [push_cast];rw [wrL_n hwn];rfl)) (by first | exact clL_iV _ _ | simp [AV.cl,AV.clL,clL_iV, -List.map_map]) ?_
   refine ftc_ ?_ (hc:=by first | exact trivial | exact clL_caV _ _ | exact clL_crV _ _ | exact clL_bV _ _ | exact clL_iV _ _ | (simp [AV.cl,AV.clL];done) | (simp only [AV.cl];omega) | (simp only [AV.cl];simp;omega))
   exact FTr.nil
  try dsimp only
  dsimp only at hi3 hc3 hlv
  have hwl:=wrL_len Q k3
  refine sk_ fun K10 hK10=>?_
  refine rg_ [3,4,5,17,18,19,20,21,22,117] ?_
  refine cx_ (fun hb7=>?_) (fun hb7=>?_)
  rotate_left
  ·
   have hke:k3=3:=by omega
   subst hke
   refine awp_exit (up_ ?_)
   refine hK9 _ ?_
   refine rs_ [3,4,5,17,18,19,20,21,24] ?_
   refine sg_ ?_
   refine cl_ (hc:=c18 _ _ _ _ _ _ _ hy.app) (k:=?_)
   refine sre_ ?_
   refine rs_ [3,4,5,17,18,19,20,21,24] ?_
   refine sg_ ?_
   refine ck_ (k:=?_)
   refine (kDo (by first | exact hy.app | exact hy.app.app | exact hy.app.app.app) (pd:Nat) ca hd (by omega) (by omega) (by omega)).mono ?_;rintro _ H2 live2 ⟨⟨rfl,hy2,hl2,ho2,rfl⟩,hH2⟩
   simp at hl2
   have hnl3:=lt_of_get hy2.s
   have hwas:H2[H1.length+1]? = some (tabBlk T1):=by rw [ho2 _ (by omega) (fun j hj=>by have:=hkb j hj;omega)];simp
   have hcc:H2[H1.length]? = some (.cells (caC ca)):=by rw [ho2 _ (by omega) (fun j hj=>by have:=hkb j hj;omega)];simp
   have hcg2:=fun g:List Blk=>atApp (g:=g) hcc
   have sx:=And.intro hcc (And.intro hcg2 sx)
   refine re_ ?_
   refine rsq_ [3,4,5,17,18,151] ⟨false,[],[144],[],[147],[],0⟩ (fun _=>⟨by kernel_rfl,by kernel_rfl⟩) ?_
   refine dp_ ?_
   refine dh_ ?_
   refine dp_ ?_
   refine dp_ ?_
   refine dg_ ?_
   refine dg_ ?_
   refine dg_ ?_
   refine dawp_gf rfl rfl rfl (by simp only [push_cast,↓reduceIte,Nat.reduceEqDiff,Nat.reduceAdd,Nat.reduceLeDiff,sx];rfl) (fun hg=>by simp (disch:=omega) only [hg,push_cast,↓reduceIte,Nat.reduceEqDiff,Nat.reduceAdd,Nat.reduceLeDiff,sx];first | rfl | (simp;rfl)) rfl rfl ?_
   refine sg_ ?_
   refine dawp_gg rfl rfl rfl (by simp only [push_cast,↓reduceIte,Nat.reduceEqDiff,Nat.reduceAdd,Nat.reduceLeDiff,sx];rfl) (st_nil rfl rfl _ _) (fun hg=>AOp.callx _ _ _ rfl (by simp (disch:=omega) only [hg,push_cast,↓reduceIte,Nat.reduceEqDiff,Nat.reduceAdd,Nat.reduceLeDiff,sx]<;>rfl) (by simp (disch:=omega) only [hg,push_cast,↓reduceIte,Nat.reduceEqDiff,Nat.reduceAdd,Nat.reduceLeDiff,sx]<;>rfl) (c18 _ _ _ _ _ _ _ hy2)) rfl rfl ?_
   obtain ⟨HX,hHX0⟩:∃HX,(bif !decide (ca.kind=18) then H2++[tabBlk d.2.1] else H2)=HX:=⟨_,rfl⟩
   try rw [hHX0]
   have hXe:HX=H2++[tabBlk d.2.1]∨HX=H2:=by
    rw [←hHX0]
    cases (!decide (ca.kind=18)) with
    | true=>exact .inl rfl
    | false=>exact .inr rfl
   have hXt:ca.kind≠18→HX[H2.length]? = some (tabBlk d.2.1):=fun h18=>by rw [←hHX0,decide_eq_false h18];simp
   have hyX:SysAt HX (n+1) n (n+3) d.2.1 d.2.2:=by rcases hXe with e | e<;>rw [e];exact hy2.app;exact hy2
   have hHX:HCl HX:=by rcases hXe with e | e<;>rw [e];exact hcl_new hH2 _;exact hH2
   have hXw:HX[H1.length+1]? = some (tabBlk T1):=by rcases hXe with e | e<;>rw [e];exact atApp hwas;exact hwas
   have hXl:H1.length≤HX.length:=by rcases hXe with e | e<;>rw [e]<;>first | (simp;omega) | omega
   refine sg_ ?_
   refine cg_ (hc:=fun hg=>ACalls.erx (ys:=[.agg [.int .i64 (cs.getD pd cr0).uid,.int .i64 (cs.getD pd cr0).gid,.slice ((cs.getD pd cr0).gs.map iV) .none],.ptr (H1.length+1) 0,.ptr H2.length 0,.slice ((wrL Q 3).map iV) .none]) (by simp only [List.map_cons,List.map_nil,AV.er,AV.erL,erL_iV,crC,List.take_succ_cons,List.take_zero]<;>rfl) (c29 T1 d.2.1 (cs.getD pd cr0) (wrL Q 3) _ _ _ _ hXw (hXt (by simpa using hg)) hy.ok hy2.ok hcg (by have:=wrL_len Q 3;omega))) (k:=?_)
   refine sre_ ?_
   refine cy_ (fun hb9=>?_) (fun hb9=>?_)
   ·
    exfalso
    simp at hb9
    have hlaw:=allow_law ⟨hy.ok,hy.rt⟩ hw pd (by omega) ca hb9.1 hd
    rw [hQ,hQc,List.getD_eq_getElem?_getD] at hlaw
    rw [hlaw] at hb9
    exact absurd hb9.2 (by simp)
   refine skp_ ?_
   refine hK7 _ ?_
   refine rt_ [3,4,5,17,18] ?_
   refine srn_ ?_
   refine ⟨⟨⟨i+1,HX,d.2.1,d.2.2⟩,by dsimp only;omega,hyX,hdl.trans hpl,hHX,hw2,hpc2⟩,?_,(by first | exact Nat.le_refl _ | (dsimp only;omega)),by dsimp only;omega⟩
   try dsimp only
   refine Trunc.of (by first | exact (List.append_nil _).symm | exact rfl | (rw [List.append_assoc];rfl)) ?_ (by assumption) ((fun u hu=>by first | exact hu | exact (hlv u hu).1))
   refine ftc_ ?_ (hc:=by first | exact trivial | exact clL_caV _ _ | exact clL_crV _ _ | exact clL_bV _ _ | exact clL_iV _ _ | (simp [AV.cl,AV.clL];done) | (simp only [AV.cl];omega) | (simp only [AV.cl];simp;omega))
   refine ftc_ ?_ (hc:=by first | exact trivial | exact clL_caV _ _ | exact clL_crV _ _ | exact clL_bV _ _ | exact clL_iV _ _ | (simp [AV.cl,AV.clL];done) | (simp only [AV.cl];omega) | (simp only [AV.cl];simp;omega))
   refine ftc_ ?_ (hc:=by first | exact trivial | exact clL_caV _ _ | exact clL_crV _ _ | exact clL_bV _ _ | exact clL_iV _ _ | (simp [AV.cl,AV.clL];done) | (simp only [AV.cl];omega) | (simp only [AV.cl];simp;omega))
   refine ftc_ ?_ (hc:=by first | exact trivial | exact clL_caV _ _ | exact clL_crV _ _ | exact clL_bV _ _ | exact clL_iV _ _ | (simp [AV.cl,AV.clL];done) | (simp only [AV.cl];omega) | (simp only [AV.cl];simp;omega))
   refine ftc_ ?_ (hc:=by first | exact trivial | exact clL_caV _ _ | exact clL_crV _ _ | exact clL_bV _ _ | exact clL_iV _ _ | (simp [AV.cl,AV.clL];done) | (simp only [AV.cl];omega) | (simp only [AV.cl];simp;omega))
   exact FTr.nil
  have hk3:k3<3:=by omega
  have hfq:fdQ ps (pd:Nat) (k3:Nat)=Q.fd k3:=by
   unfold fdQ
   rw [if_pos ⟨⟨by omega,by omega⟩,by omega,by omega⟩,Int.toNat_natCast,Int.toNat_natCast,hQ]
  have sx:=And.intro hfq sx
  refine skp_ ?_
  refine hK10 _ ?_
  refine sk_ fun K11 hK11=>?_
  refine awp_block ?_
  refine rs_ [3,4,5,17,18,19,20,21,22,23] ?_
  refine sg_ ?_
  refine cl_ (hc:=c28 _ _ _ _ _ _ _ hy.app _ _) (k:=?_)
  refine sre_ ?_
  refine rg_ [3,4,5,17,18,19,20,21,22,23,125] ?_
  refine cy_ (fun hb8=>?_) (fun hb8=>?_)
  ·
   have hwy:(Q.fd k3).wr=true:=by simpa using hb8
   refine rt_ [3,4,5,17,18,19,20,21,22] ?_
   refine sg_ ?_
   refine ap_ (a:=hc3) (b:=cells_iV _) (c':=by simp [AV.cells]) (d:=by simp only [List.length_map,List.length_cons,List.length_nil];omega) (e:=by simp only [List.length_map,List.length_cons,List.length_nil];omega) (k:=?_)
   intro c130 live130 hk130
   refine srn_ ?_
   refine hK11 _ ?_
   refine rt_ [3,4,5,17,18,19,20,21,22] ?_
   refine srn_ ?_
   refine ln_ ⟨⟨k3+1,c130,live130⟩,by dsimp only;omega,cap_snoc hlv hk130⟩ ?_
   try dsimp only
   refine Trunc.of (by first | exact (List.append_nil _).symm | exact rfl | (rw [List.append_assoc];rfl)) ?_ hHa (fun _ h=>h)
   refine ftc_ ?_ (hc:=by first | exact trivial | exact clL_caV _ _ | exact clL_crV _ _ | exact clL_bV _ _ | exact clL_iV _ _ | (simp [AV.cl,AV.clL];done) | (simp only [AV.cl];omega) | (simp only [AV.cl];simp;omega))
   refine ftc_ ?_ (hc:=by first | exact trivial | exact clL_caV _ _ | exact clL_crV _ _ | exact clL_bV _ _ | exact clL_iV _ _ | (simp [AV.cl,AV.clL];done) | (simp only [AV.cl];omega) | (simp only [AV.cl];simp;omega))
   refine ftc_ ?_ (hc:=by first | exact trivial | exact clL_caV _ _ | exact clL_crV _ _ | exact clL_bV _ _ | exact clL_iV _ _ | (simp [AV.cl,AV.clL];done) | (simp only [AV.cl];omega) | (simp only [AV.cl];simp;omega))
   refine ftc_ ?_ (hc:=by first | exact trivial | exact clL_caV _ _ | exact clL_crV _ _ | exact clL_bV _ _ | exact clL_iV _ _ | (simp [AV.cl,AV.clL];done) | (simp only [AV.cl];omega) | (simp only [AV.cl];simp;omega))
   refine ftc_ ?_ (hc:=by first | exact trivial | exact clL_caV _ _ | exact clL_crV _ _ | exact clL_bV _ _ | exact clL_iV _ _ | (simp [AV.cl,AV.clL];done) | (simp only [AV.cl];omega) | (simp only [AV.cl];simp;omega))
   refine ftc_ ?_ (hc:=by first | exact trivial | exact clL_caV _ _ | exact clL_crV _ _ | exact clL_bV _ _ | exact clL_iV _ _ | (simp [AV.cl,AV.clL];done) | (simp only [AV.cl];omega) | (simp only [AV.cl];simp;omega))
   refine ftc_ ?_ (hc:=by first | exact trivial | exact clL_caV _ _ | exact clL_crV _ _ | exact clL_bV _ _ | exact clL_iV _ _ | (simp [AV.cl,AV.clL];done) | (simp only [AV.cl];omega) | (simp only [AV.cl];simp;omega))
   refine FTr.cons (by first | rfl | (simp only [push_cast];rw [wrL_y hwy];simp [iV];done) | (simp only [push_cast];rw [wrL_n hwn];rfl)) (by first | exact clL_iV _ _ | simp [AV.cl,AV.clL,clL_iV, -List.map_map]) ?_
   refine ftc_ ?_ (hc:=by first | exact trivial | exact clL_caV _ _ | exact clL_crV _ _ | exact clL_bV _ _ | exact clL_iV _ _ | (simp [AV.cl,AV.clL];done) | (simp only [AV.cl];omega) | (simp only [AV.cl];simp;omega))
   exact FTr.nil
  have hwn:(Q.fd k3).wr=false:=by simpa using hb8
  refine skp_ ?_
  refine hK11 _ ?_
  refine rt_ [3,4,5,17,18,19,20,21,22] ?_
  refine srn_ ?_
  refine ln_ ⟨⟨k3+1,c3,live'⟩,by dsimp only;omega,hc3,hlv⟩ ?_
  try dsimp only
  refine Trunc.of (by first | exact (List.append_nil _).symm | exact rfl | (rw [List.append_assoc];rfl)) ?_ hHa (fun _ h=>h)
  refine ftc_ ?_ (hc:=by first | exact trivial | exact clL_caV _ _ | exact clL_crV _ _ | exact clL_bV _ _ | exact clL_iV _ _ | (simp [AV.cl,AV.clL];done) | (simp only [AV.cl];omega) | (simp only [AV.cl];simp;omega))
  refine ftc_ ?_ (hc:=by first | exact trivial | exact clL_caV _ _ | exact clL_crV _ _ | exact clL_bV _ _ | exact clL_iV _ _ | (simp [AV.cl,AV.clL];done) | (simp only [AV.cl];omega) | (simp only [AV.cl];simp;omega))
  refine ftc_ ?_ (hc:=by first | exact trivial | exact clL_caV _ _ | exact clL_crV _ _ | exact clL_bV _ _ | exact clL_iV _ _ | (simp [AV.cl,AV.clL];done) | (simp only [AV.cl];omega) | (simp only [AV.cl];simp;omega))
  refine ftc_ ?_ (hc:=by first | exact trivial | exact clL_caV _ _ | exact clL_crV _ _ | exact clL_bV _ _ | exact clL_iV _ _ | (simp [AV.cl,AV.clL];done) | (simp only [AV.cl];omega) | (simp only [AV.cl];simp;omega))
  refine ftc_ ?_ (hc:=by first | exact trivial | exact clL_caV _ _ | exact clL_crV _ _ | exact clL_bV _ _ | exact clL_iV _ _ | (simp [AV.cl,AV.clL];done) | (simp only [AV.cl];omega) | (simp only [AV.cl];simp;omega))
  refine ftc_ ?_ (hc:=by first | exact trivial | exact clL_caV _ _ | exact clL_crV _ _ | exact clL_bV _ _ | exact clL_iV _ _ | (simp [AV.cl,AV.clL];done) | (simp only [AV.cl];omega) | (simp only [AV.cl];simp;omega))
  refine ftc_ ?_ (hc:=by first | exact trivial | exact clL_caV _ _ | exact clL_crV _ _ | exact clL_bV _ _ | exact clL_iV _ _ | (simp [AV.cl,AV.clL];done) | (simp only [AV.cl];omega) | (simp only [AV.cl];simp;omega))
  refine FTr.cons (by first | rfl | (simp only [push_cast];rw [wrL_y hwy];simp [iV];done) | (simp only [push_cast];rw [wrL_n hwn];rfl)) (by first | exact clL_iV _ _ | simp [AV.cl,AV.clL,clL_iV, -List.map_map]) ?_
  refine ftc_ ?_ (hc:=by first | exact trivial | exact clL_caV _ _ | exact clL_crV _ _ | exact clL_bV _ _ | exact clL_iV _ _ | (simp [AV.cl,AV.clL];done) | (simp only [AV.cl];omega) | (simp only [AV.cl];simp;omega))
  exact FTr.nil
 have hil0:i0<cs.length:=by omega
 refine skp_ ?_
 refine hK4 _ ?_
 refine sk_ fun K12 hK12=>?_
 refine awp_block ?_
 refine rg_ [2,3,4,5,14,16,74] ?_
 refine cy_ (fun hb4=>?_) (fun hb4=>?_)
 ·
  refine rg_ [12] ?_
  refine ret_ ?_
  refine gq_ (h1:=h) Tryz.results7 ?_ (hh:=(⟨_,by rw [hh0];exact (List.nil_append _).symm⟩))
  exact rk_ rfl
 refine skp_ ?_
 refine hK12 _ ?_
 refine rt_ [2,3,4,5,14,16] ?_
 refine srn_ ?_
 refine ln_ ⟨i0+1,by omega⟩ ?_
 try dsimp only
 refine Trunc.of (by first | exact (List.append_nil _).symm | exact rfl | (rw [List.append_assoc];rfl)) ?_ (by assumption) (fun _ h=>h)
 refine ftc_ ?_ (hc:=by first | exact trivial | exact clL_caV _ _ | exact clL_crV _ _ | exact clL_bV _ _ | exact clL_iV _ _ | (simp [AV.cl,AV.clL];done) | (simp only [AV.cl];omega) | (simp only [AV.cl];simp;omega))
 refine ftc_ ?_ (hc:=by first | exact trivial | exact clL_caV _ _ | exact clL_crV _ _ | exact clL_bV _ _ | exact clL_iV _ _ | (simp [AV.cl,AV.clL];done) | (simp only [AV.cl];omega) | (simp only [AV.cl];simp;omega))
 refine ftc_ ?_ (hc:=by first | exact trivial | exact clL_caV _ _ | exact clL_crV _ _ | exact clL_bV _ _ | exact clL_iV _ _ | (simp [AV.cl,AV.clL];done) | (simp only [AV.cl];omega) | (simp only [AV.cl];simp;omega))
 refine ftc_ ?_ (hc:=by first | exact trivial | exact clL_caV _ _ | exact clL_crV _ _ | exact clL_bV _ _ | exact clL_iV _ _ | (simp [AV.cl,AV.clL];done) | (simp only [AV.cl];omega) | (simp only [AV.cl];simp;omega))
 refine ftc_ ?_ (hc:=by first | exact trivial | exact clL_caV _ _ | exact clL_crV _ _ | exact clL_bV _ _ | exact clL_iV _ _ | (simp [AV.cl,AV.clL];done) | (simp only [AV.cl];omega) | (simp only [AV.cl];simp;omega))
 refine ftc_ ?_ (hc:=by first | exact trivial | exact clL_caV _ _ | exact clL_crV _ _ | exact clL_bV _ _ | exact clL_iV _ _ | (simp [AV.cl,AV.clL];done) | (simp only [AV.cl];omega) | (simp only [AV.cl];simp;omega))
 exact FTr.nil
end Go.Proofs.YtjmlgeckgieaaaaGreat
