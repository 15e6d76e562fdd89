import Derived.Test.YtmgnbgniikjhdaaGreatK14
/-
  The document's example.
-/
set_option linter.unusedVariables false
set_option linter.unusedSimpArgs false
namespace Go.Proofs.YtmgnbgniikjhdaaGreat
open Go.Ab
set_option maxRecDepth 8000
set_option maxHeartbeats 400000
def aRaw:List Rw:=[⟨2,511,0,0,0,[],[],[],0⟩,⟨1,420,1,0,1,[102],[49,50,51,52,53,54,55,56,57],[],0⟩]
def aCr:Cr:=⟨1,1,[]⟩
def aT:Tab:=(builtF 9 aRaw aCr).getD ⟨0,[]⟩
theorem aBuilt:builtF 9 aRaw aCr=some aT:=by kernel_rfl
def aC1:Cm:={ cm0 with left:=[[102]],tgt:=[103],nx:=1 }
def aC2:Cm:={ cm0 with left:=[[102]],tgt:=[102],nx:=1 }
theorem aNew1:cmNew (parse [112] [[102],[103]])=aC1:=by rfl
theorem aNew2:cmNew (parse [112] [[102],[102]])=aC2:=by rfl
def aR1:Int×Tab×List Pr×Cm:=runF cmN 3000 aT [pr1 18 aCr] aC1 rs0 0
def aR2:Int×Tab×List Pr×Cm:=runF cmN 3000 aR1.2.1 aR1.2.2.1 aC2 rs0 0
theorem a_1:aR1.1=12:=by kernel_rfl
theorem a_2:(aR1.2.1.get 3).1.data=[49,50,51,52,53,54,55,56,57]:=by kernel_rfl
theorem a_3:(aR1.2.1.get 3).1.mode=420:=by kernel_rfl
theorem a_4:aR1.2.2.2.dg=[]:=by kernel_rfl
theorem a_5:aR2.2.2.2.dg=[([102],22)]:=by kernel_rfl
theorem a_6:openL aR2.2.2.1=[]:=by kernel_rfl
theorem a_B1:CmB aC1:=⟨by decide,by decide,by decide,by decide,by decide,by decide,by decide,(fun h=>nomatch h),by decide⟩
theorem a_B2:CmB aC2:=⟨by decide,by decide,by decide,by decide,by decide,by decide,by decide,(fun h=>nomatch h),by decide⟩
theorem a_DT:decide True=true:=rfl
theorem a_7:(if aR1.2.2.2.dg=[] then (0:Int) else 1)=0:=by rw [a_4];rfl
theorem a_8:(if aR2.2.2.2.dg=[] then (0:Int) else 1)=1:=by rw [a_5];rfl
theorem newH_pre (h:List Blk) (T:Tab) (um:Int) (cs:List Cr) {i:Nat} (hi:i<h.length):(newH h T um cs)[i]? = h[i]? := by
 unfold newH;exact List.getElem?_append_left hi
theorem begun_pre {h:List Blk} {live:List Nat} {um:Int} {c:Cr} {o:Option Tab} {x:AV} {h':List Blk} {l':List Nat} (hb:begunK h live um [c] o x h' l'):∀i,i<h.length→h'[i]? = h[i]? := by
 obtain ⟨rfl,hb⟩:=hb
 rcases hb with ⟨e,rfl,rfl⟩ | ⟨T,g,e,rfl,rfl⟩
 · exact fun i _=>rfl
 · exact fun i hi=>by rw [newH_pre _ _ _ _ (by rw [List.length_append];omega)];exact List.getElem?_append_left hi
theorem junk_of {h H:List Blk} (hp:∀i,i<h.length→H[i]? = h[i]?):∃g,H=h++g:=by
 refine ⟨H.drop h.length,?_⟩
 have:H.take h.length=h:=by
  apply List.ext_getElem?
  intro i
  rw [List.getElem?_take]
  split
  · rename_i hi;exact hp i hi
  · rename_i hi;rw [List.getElem?_eq_none (by omega)]
 exact (List.take_append_drop h.length H).symm.trans (congrArg (· ++ H.drop h.length) this)
theorem junk_app {h H g:List Blk} (hp:∃g,H=h++g):∃g',H++g=h++g':=by
 obtain ⟨k,rfl⟩:=hp
 exact ⟨k++g,List.append_assoc _ _ _⟩
theorem CmAt.live {L:List Nat} {kd b:Nat} {h:List Blk} {live:List Nat} {c:Cm} (hA:CmAt L kd b h live c):∀u∈L,u∈live:=by
 obtain ⟨cd,cl,pc, _, _,h3, _⟩:=hA
 exact fun u hu=>(h3 u hu).1
theorem cm_new {h:List Blk} {live live':List Nat} {cd cl:Cap} {c:Cm} (hk:Keeps live .full live' cd) (hn:c.nx=1) {H:List Blk} (hH:H=h++[.cells (cmC h.length cd cl (.raw (.pointer none)) c)]) (b:Nat) (g:List Blk):CmAt live h.length b (H++g) live' c:=by
 subst hH
 exact ⟨cd,cl,.raw (.pointer none),by rw [List.append_assoc,get_app0];rfl,hk.1,fun u hu=>hk.2 u hu Cap.noConfusion,trivial,(fun i e=>nomatch e),fun h=>by rw [hn] at h;cases h⟩
theorem CmAt.get {L:List Nat} {kd b:Nat} {h:List Blk} {live:List Nat} {c:Cm} (hA:CmAt L kd b h live c):∃cd rest,h[kd]? = some (.cells (.slice (c.dg.map dgV) cd::.slice (([]:List (List UInt8)).map .str) .full::rest)):=by
 obtain ⟨cd,cl,pc,h1, _⟩:=hA
 exact ⟨cd, _,h1⟩
set_option maxHeartbeats 1000000 in
theorem c8 (h:List Blk) (live:List Nat):AC Tryz.prog 8 [] h live (.bool true):=by
 refine aq_ Tryz.func8 fun hH hX=>?_
 have sx:=(And.intro @a_1 (And.intro @a_2 (And.intro @a_3 (And.intro @a_7 (And.intro @a_8 (And.intro @a_6 (And.intro @a_DT (And.intro @decI (And.intro @decB sx0)))))))))
 refine rs_ [] ?_
 refine dawp_p rfl (by (simp (disch:=omega) only [push_cast,↓reduceIte,Nat.reduceEqDiff,Nat.reduceAdd,Nat.reduceLeDiff,sx,Option.isSome_some])<;>rfl) rfl rfl ?_
 refine re_ (hf:=by (simp (disch:=omega) only [push_cast,↓reduceIte,Nat.reduceEqDiff,Nat.reduceAdd,Nat.reduceLeDiff,sx,Option.isSome_some])<;>rfl) (hh:=by (try simp (disch:=omega) only [push_cast,↓reduceIte,Nat.reduceEqDiff,Nat.reduceAdd,Nat.reduceLeDiff,sx,Option.isSome_some])<;>rfl) ?_
 refine rsq_ [1,2] ⟨false,[],[],[],[10,11],[],0⟩ (fun h=>nomatch h) ?_
 refine dawp_p rfl (by (simp (disch:=omega) only [push_cast,↓reduceIte,Nat.reduceEqDiff,Nat.reduceAdd,Nat.reduceLeDiff,sx,Option.isSome_some])<;>rfl) rfl rfl ?_
 refine dawp_gx rfl rfl rfl rfl (AOp.buildSliceT rfl (by (simp (disch:=omega) only [push_cast,↓reduceIte,Nat.reduceEqDiff,Nat.reduceAdd,Nat.reduceLeDiff,sx,Option.isSome_some])<;>rfl) (by decide) fun u10 hu10=>⟨St.refl _,?_⟩)
 refine dawp_gx rfl rfl rfl rfl (AOp.convT _ _ rfl (by kernel_rfl) (by (simp (disch:=omega) only [push_cast,↓reduceIte,Nat.reduceEqDiff,Nat.reduceAdd,Nat.reduceLeDiff,sx,Option.isSome_some])<;>rfl) (by simp) ⟨St.refl _,?_⟩)
 rw [drop_tok (by assumption)]
 iterate 3 (refine dawp_p rfl (by (simp (disch:=omega) only [push_cast,↓reduceIte,Nat.reduceEqDiff,Nat.reduceAdd,Nat.reduceLeDiff,sx,Option.isSome_some])<;>rfl) rfl rfl ?_)
 refine dawp_w rfl rfl rfl rfl (AOp.callx _ _ _ rfl (by (simp (disch:=omega) only [push_cast,↓reduceIte,Nat.reduceEqDiff,Nat.reduceAdd,Nat.reduceLeDiff,sx,Option.isSome_some])<;>rfl) (by (simp (disch:=omega) only [push_cast,↓reduceIte,Nat.reduceEqDiff,Nat.reduceAdd,Nat.reduceLeDiff,sx,Option.isSome_some])<;>rfl) ?_)
 refine erx_ (ys:=[.int .i64 9,.slice (aRaw.map rV) .none,.int .i64 18,.agg [.int .i64 1,.int .i64 1,.slice (([]:List Int).map iV) .none]]) (by simp only [List.map_cons,List.map_nil,AV.er,AV.erL];rfl) ((ACalls.hclK (c9 9 aRaw 18 aCr .none _ _ (by decide) (by decide))).mono ?_);rintro x0 H0 l0 ⟨hb0,hH0⟩;have hpre:=begun_pre hb0;obtain ⟨rfl,p0,rfl,hp0⟩:=begun_one hb0;obtain ⟨n,hnh,rfl,hy0⟩:=hp0 aT aBuilt;rw [aBuilt];have hnl:=lt_of_get hy0.s;have hpl:=lt_of_get (hy0.p 0 (by decide))
 iterate 5 (refine dawp_p rfl (by (simp (disch:=omega) only [push_cast,↓reduceIte,Nat.reduceEqDiff,Nat.reduceAdd,Nat.reduceLeDiff,sx,Option.isSome_some])<;>rfl) rfl rfl ?_)
 refine re_ (hf:=by (simp (disch:=omega) only [push_cast,↓reduceIte,Nat.reduceEqDiff,Nat.reduceAdd,Nat.reduceLeDiff,sx,Option.isSome_some])<;>rfl) (hh:=by (try simp (disch:=omega) only [push_cast,↓reduceIte,Nat.reduceEqDiff,Nat.reduceAdd,Nat.reduceLeDiff,sx,Option.isSome_some])<;>rfl) ?_
 refine rs_ [1,2,3] ?_
 refine dawp_p rfl (by (simp (disch:=omega) only [push_cast,↓reduceIte,Nat.reduceEqDiff,Nat.reduceAdd,Nat.reduceLeDiff,sx,Option.isSome_some])<;>rfl) rfl rfl ?_
 refine dawp_w rfl rfl rfl rfl (AOp.callx _ _ _ rfl (by (simp (disch:=omega) only [push_cast,↓reduceIte,Nat.reduceEqDiff,Nat.reduceAdd,Nat.reduceLeDiff,sx,Option.isSome_some])<;>rfl) (by (simp (disch:=omega) only [push_cast,↓reduceIte,Nat.reduceEqDiff,Nat.reduceAdd,Nat.reduceLeDiff,sx,Option.isSome_some])<;>rfl) ?_)
 refine ACalls.mono ?_ (ACalls.hclK (c24 [[102],[103]] _ _ _ (by decide) (by decide)));rintro _ H1 live1 ⟨⟨rfl,cd1,cl1,hH1,hk1⟩,hHc1⟩;rw [aNew1] at hH1;have hA1:=cm_new hk1 rfl hH1;have hy1:SysAt H1 (n+1) n (n+3) aT [pr1 18 aCr]:=by rw [hH1];exact hy0.app
 have hl1:H1.length=H0.length+1:=by rw [hH1];simp
 refine dawp_p rfl (by (simp (disch:=omega) only [push_cast,↓reduceIte,Nat.reduceEqDiff,Nat.reduceAdd,Nat.reduceLeDiff,sx,Option.isSome_some])<;>rfl) rfl rfl ?_
 refine re_ (hf:=by (simp (disch:=omega) only [push_cast,↓reduceIte,Nat.reduceEqDiff,Nat.reduceAdd,Nat.reduceLeDiff,sx,Option.isSome_some])<;>rfl) (hh:=by (try simp (disch:=omega) only [push_cast,↓reduceIte,Nat.reduceEqDiff,Nat.reduceAdd,Nat.reduceLeDiff,sx,Option.isSome_some])<;>rfl) ?_
 refine rs_ [1,2,3,4] ?_
 iterate 3 (refine dawp_p rfl (by (simp (disch:=omega) only [push_cast,↓reduceIte,Nat.reduceEqDiff,Nat.reduceAdd,Nat.reduceLeDiff,sx,Option.isSome_some])<;>rfl) rfl rfl ?_)
 refine dawp_w rfl rfl rfl rfl (AOp.callx _ _ _ rfl (by (simp (disch:=omega) only [push_cast,↓reduceIte,Nat.reduceEqDiff,Nat.reduceAdd,Nat.reduceLeDiff,sx,Option.isSome_some])<;>rfl) (by (simp (disch:=omega) only [push_cast,↓reduceIte,Nat.reduceEqDiff,Nat.reduceAdd,Nat.reduceLeDiff,sx,Option.isSome_some])<;>rfl) ?_)
 refine ACalls.mono (K:=runK (CmAt l0 H0.length) (fun i=>i=H0.length) (n+1) n (n+3) 1 H1 aR1) ?_ (c16 cmN (CmAt l0 H0.length) CmB (fun i=>i=H0.length) 25 H0.length (n+1) n (n+3) aT [pr1 18 aCr] _ _ hy1 aC1 (hA1 _) a_B1 (fun i e=>by rw [e];refine ⟨by omega,by omega,by omega,fun j hj=>?_⟩;have hj:j<1:=(by first | exact hj | (rw [hpl2] at hj;exact hj));omega) (cm_call l0 H0.length) cm_step (cm_stay l0 H0.length));rintro _ H2 live2 ⟨⟨rfl,hy2,hpl2,hA2,hle2,ho2⟩,hH2⟩
 refine dawp_p rfl (by (simp (disch:=omega) only [push_cast,↓reduceIte,Nat.reduceEqDiff,Nat.reduceAdd,Nat.reduceLeDiff,sx,Option.isSome_some])<;>rfl) rfl rfl ?_
 refine re_ (hf:=by (simp (disch:=omega) only [push_cast,↓reduceIte,Nat.reduceEqDiff,Nat.reduceAdd,Nat.reduceLeDiff,sx,Option.isSome_some])<;>rfl) (hh:=by (try simp (disch:=omega) only [push_cast,↓reduceIte,Nat.reduceEqDiff,Nat.reduceAdd,Nat.reduceLeDiff,sx,Option.isSome_some])<;>rfl) ?_
 refine rs_ [1,2,3,4,5] ?_
 refine dawp_p rfl (by (simp (disch:=omega) only [push_cast,↓reduceIte,Nat.reduceEqDiff,Nat.reduceAdd,Nat.reduceLeDiff,sx,Option.isSome_some])<;>rfl) rfl rfl ?_
 refine dawp_w rfl rfl rfl rfl (AOp.callx _ _ _ rfl (by (simp (disch:=omega) only [push_cast,↓reduceIte,Nat.reduceEqDiff,Nat.reduceAdd,Nat.reduceLeDiff,sx,Option.isSome_some])<;>rfl) (by (simp (disch:=omega) only [push_cast,↓reduceIte,Nat.reduceEqDiff,Nat.reduceAdd,Nat.reduceLeDiff,sx,Option.isSome_some])<;>rfl) ?_)
 refine (c13 _ _ _ _ _ _ _ hy2).mono ?_;rintro _ _ _ ⟨rfl,rfl,rfl⟩
 refine dawp_w rfl rfl rfl rfl (AOp.callx _ _ _ rfl (by (simp (disch:=omega) only [push_cast,↓reduceIte,Nat.reduceEqDiff,Nat.reduceAdd,Nat.reduceLeDiff,sx,Option.isSome_some])<;>rfl) (by (simp (disch:=omega) only [push_cast,↓reduceIte,Nat.reduceEqDiff,Nat.reduceAdd,Nat.reduceLeDiff,sx,Option.isSome_some])<;>rfl) ?_)
 refine (c23 aR1.2.1 _ 3 _ _ (by simp only [push_cast]) hy2.ok).mono ?_;rintro _ _ _ ⟨rfl,rfl,rfl⟩
 iterate 3 (refine dawp_p rfl (by (simp (disch:=omega) only [push_cast,↓reduceIte,Nat.reduceEqDiff,Nat.reduceAdd,Nat.reduceLeDiff,sx,Option.isSome_some])<;>rfl) rfl rfl ?_)
 refine dawp_h rfl (by (simp (disch:=omega) only [push_cast,↓reduceIte,Nat.reduceEqDiff,Nat.reduceAdd,Nat.reduceLeDiff,sx,Option.isSome_some])<;>rfl) rfl rfl ?_
 refine dawp_hn rfl (by (simp (disch:=omega) only [push_cast,↓reduceIte,Nat.reduceEqDiff,Nat.reduceAdd,Nat.reduceLeDiff,sx,Option.isSome_some])<;>rfl) rfl ?_
 refine dawp_p rfl (by (simp (disch:=omega) only [push_cast,↓reduceIte,Nat.reduceEqDiff,Nat.reduceAdd,Nat.reduceLeDiff,sx,Option.isSome_some])<;>rfl) rfl rfl ?_
 refine re_ (hf:=by (simp (disch:=omega) only [push_cast,↓reduceIte,Nat.reduceEqDiff,Nat.reduceAdd,Nat.reduceLeDiff,sx,Option.isSome_some])<;>rfl) (hh:=by (try simp (disch:=omega) only [push_cast,↓reduceIte,Nat.reduceEqDiff,Nat.reduceAdd,Nat.reduceLeDiff,sx,Option.isSome_some])<;>rfl) ?_
 refine rs_ [1,2,3,4,5,7] ?_
 refine dawp_p rfl (by (simp (disch:=omega) only [push_cast,↓reduceIte,Nat.reduceEqDiff,Nat.reduceAdd,Nat.reduceLeDiff,sx,Option.isSome_some])<;>rfl) rfl rfl ?_
 refine dawp_w rfl rfl rfl rfl (AOp.callx _ _ _ rfl (by (simp (disch:=omega) only [push_cast,↓reduceIte,Nat.reduceEqDiff,Nat.reduceAdd,Nat.reduceLeDiff,sx,Option.isSome_some])<;>rfl) (by (simp (disch:=omega) only [push_cast,↓reduceIte,Nat.reduceEqDiff,Nat.reduceAdd,Nat.reduceLeDiff,sx,Option.isSome_some])<;>rfl) ?_)
 refine ACalls.mono ?_ (ACalls.hclK (c24 [[102],[102]] _ _ _ (by decide) (by decide)));rintro _ H3 live3 ⟨⟨rfl,cd3,cl3,hH3,hk3⟩,hHc3⟩;rw [aNew2] at hH3
 obtain ⟨G,hG⟩:∃G,H2++[tabBlk aR1.2.1,Blk.cells (ndC (aR1.2.1.get 3).1)]=G:=⟨_,rfl⟩
 have hGl:G.length=H2.length+2:=by rw [←hG];simp
 have hGn:G[H2.length+1]? = some (.cells (ndC (aR1.2.1.get 3).1)):=by rw [←hG];simp
 rw [hG] at hH3 ⊢
 have hA3:=cm_new hk3 rfl hH3
 have hy3:SysAt H3 (n+1) n (n+3) aR1.2.1 aR1.2.2.1:=by rw [hH3,←hG];exact hy2.app.app
 have hl3:H3.length=G.length+1:=by rw [hH3];simp
 refine dawp_p rfl (by (simp (disch:=omega) only [push_cast,↓reduceIte,Nat.reduceEqDiff,Nat.reduceAdd,Nat.reduceLeDiff,sx,Option.isSome_some])<;>rfl) rfl rfl ?_
 refine re_ (hf:=by (simp (disch:=omega) only [push_cast,↓reduceIte,Nat.reduceEqDiff,Nat.reduceAdd,Nat.reduceLeDiff,sx,Option.isSome_some])<;>rfl) (hh:=by (try simp (disch:=omega) only [push_cast,↓reduceIte,Nat.reduceEqDiff,Nat.reduceAdd,Nat.reduceLeDiff,sx,Option.isSome_some])<;>rfl) ?_
 refine rs_ [1,2,3,4,5,7] ?_
 iterate 3 (refine dawp_p rfl (by (simp (disch:=omega) only [push_cast,↓reduceIte,Nat.reduceEqDiff,Nat.reduceAdd,Nat.reduceLeDiff,sx,Option.isSome_some])<;>rfl) rfl rfl ?_)
 refine dawp_w rfl rfl rfl rfl (AOp.callx _ _ _ rfl (by (simp (disch:=omega) only [push_cast,↓reduceIte,Nat.reduceEqDiff,Nat.reduceAdd,Nat.reduceLeDiff,sx,Option.isSome_some])<;>rfl) (by (simp (disch:=omega) only [push_cast,↓reduceIte,Nat.reduceEqDiff,Nat.reduceAdd,Nat.reduceLeDiff,sx,Option.isSome_some])<;>rfl) ?_)
 refine ACalls.mono (K:=runK (CmAt live2 G.length) (fun i=>i=G.length) (n+1) n (n+3) aR1.2.2.1.length H3 aR2) ?_ (c16 cmN (CmAt live2 G.length) CmB (fun i=>i=G.length) 25 G.length (n+1) n (n+3) aR1.2.1 aR1.2.2.1 _ _ hy3 aC2 (hA3 _) a_B2 (fun i e=>by rw [e];refine ⟨by omega,by omega,by omega,fun j hj=>?_⟩;have hj:j<1:=(by first | exact hj | (rw [hpl2] at hj;exact hj));omega) (cm_call live2 G.length) cm_step (cm_stay live2 G.length));rintro _ H4 live4 ⟨⟨rfl,hy4,hpl4,hA4,hle4,ho4⟩,hH4⟩
 have hoj:∀i,n+3<i→i<H3.length→i≠G.length→H4[i]? = H3[i]? := fun i h1 h2 h3=>ho4 i h2 h3 (by omega) (fun j hj=>by rw [hpl2] at hj;have hj:j<1:=hj;omega)
 obtain ⟨cda,ra,hga⟩:=hA2.get
 obtain ⟨cdb,rb,hgb⟩:=hA4.get
 have hga3:H3[H0.length]? = H2[H0.length]? := by
  rw [hH3,←hG,List.append_assoc];exact List.getElem?_append_left (lt_of_get hga)
 have hga4:=(hoj _ (by omega) (by omega) (by omega)).trans (hga3.trans hga)
 have hnd4:H4[H2.length+1]? = some (.cells (ndC (aR1.2.1.get 3).1)):=by rw [hoj _ (by omega) (by omega) (by omega),hH3];exact atApp hGn
 have sx:=And.intro hnd4 sx
 have hpj:∀i,i<h.length→H4[i]? = h[i]? := fun i hi=>by
  rw [ho4 i (by omega) (by omega) (by omega) (fun j hj=>by rw [hpl2] at hj;have hj:j<1:=hj;omega),hH3,List.getElem?_append_left (by omega),←hG,List.getElem?_append_left (by omega),ho2 i (by omega) (by omega) (by omega) (fun j hj=>by have hj:j<1:=hj;omega),hH1,List.getElem?_append_left (by omega)];exact hpre i (by first | exact hi | (simp;omega))
 refine re_ (hf:=by (simp (disch:=omega) only [push_cast,↓reduceIte,Nat.reduceEqDiff,Nat.reduceAdd,Nat.reduceLeDiff,sx,Option.isSome_some])<;>rfl) (hh:=by (try simp (disch:=omega) only [push_cast,↓reduceIte,Nat.reduceEqDiff,Nat.reduceAdd,Nat.reduceLeDiff,sx,Option.isSome_some])<;>rfl) ?_
 refine rs_ [0] ?_
 iterate 2 (refine dawp_p rfl (by (simp (disch:=omega) only [push_cast,↓reduceIte,Nat.reduceEqDiff,Nat.reduceAdd,Nat.reduceLeDiff,sx,Option.isSome_some])<;>rfl) rfl rfl ?_)
 iterate 2 (refine dawp_g rfl rfl (by simp only [push_cast,↓reduceIte,Nat.reduceEqDiff,Nat.reduceAdd,Nat.reduceLeDiff,sx,Option.isSome_some];rfl) (fun hg=>by simp (disch:=omega) only [hg,push_cast,↓reduceIte,Nat.reduceEqDiff,Nat.reduceAdd,Nat.reduceLeDiff,sx,Option.isSome_some];rfl) rfl rfl ?_)
 iterate 2 (refine dawp_p rfl (by (simp (disch:=omega) only [push_cast,↓reduceIte,Nat.reduceEqDiff,Nat.reduceAdd,Nat.reduceLeDiff,sx,Option.isSome_some])<;>rfl) rfl rfl ?_)
 refine dawp_g rfl rfl (by simp only [push_cast,↓reduceIte,Nat.reduceEqDiff,Nat.reduceAdd,Nat.reduceLeDiff,sx,Option.isSome_some];rfl) (fun hg=>by simp (disch:=omega) only [hg,push_cast,↓reduceIte,Nat.reduceEqDiff,Nat.reduceAdd,Nat.reduceLeDiff,sx,Option.isSome_some];rfl) rfl rfl ?_
 refine dawp_gh rfl rfl (by simp only [push_cast,↓reduceIte,Nat.reduceEqDiff,Nat.reduceAdd,Nat.reduceLeDiff,sx,Option.isSome_some];rfl) (fun hg=>by simp (disch:=omega) only [hg,push_cast,↓reduceIte,Nat.reduceEqDiff,Nat.reduceAdd,Nat.reduceLeDiff,sx,Option.isSome_some];rfl) rfl rfl ?_
 iterate 2 (refine dawp_g rfl rfl (by simp only [push_cast,↓reduceIte,Nat.reduceEqDiff,Nat.reduceAdd,Nat.reduceLeDiff,sx,Option.isSome_some];rfl) (fun hg=>by simp (disch:=omega) only [hg,push_cast,↓reduceIte,Nat.reduceEqDiff,Nat.reduceAdd,Nat.reduceLeDiff,sx,Option.isSome_some];rfl) rfl rfl ?_)
 iterate 2 (refine dawp_p rfl (by (simp (disch:=omega) only [push_cast,↓reduceIte,Nat.reduceEqDiff,Nat.reduceAdd,Nat.reduceLeDiff,sx,Option.isSome_some])<;>rfl) rfl rfl ?_)
 refine dawp_g rfl rfl (by simp only [push_cast,↓reduceIte,Nat.reduceEqDiff,Nat.reduceAdd,Nat.reduceLeDiff,sx,Option.isSome_some];rfl) (fun hg=>by simp (disch:=omega) only [hg,push_cast,↓reduceIte,Nat.reduceEqDiff,Nat.reduceAdd,Nat.reduceLeDiff,sx,Option.isSome_some];rfl) rfl rfl ?_
 refine dawp_gh rfl rfl (by simp only [push_cast,↓reduceIte,Nat.reduceEqDiff,Nat.reduceAdd,Nat.reduceLeDiff,sx,Option.isSome_some];rfl) (fun hg=>by simp (disch:=omega) only [hg,push_cast,↓reduceIte,Nat.reduceEqDiff,Nat.reduceAdd,Nat.reduceLeDiff,sx,Option.isSome_some];rfl) rfl rfl ?_
 refine dawp_g rfl rfl (by simp only [push_cast,↓reduceIte,Nat.reduceEqDiff,Nat.reduceAdd,Nat.reduceLeDiff,sx,Option.isSome_some];rfl) (fun hg=>by simp (disch:=omega) only [hg,push_cast,↓reduceIte,Nat.reduceEqDiff,Nat.reduceAdd,Nat.reduceLeDiff,sx,Option.isSome_some];rfl) rfl rfl ?_
 iterate 2 (refine dawp_p rfl (by (simp (disch:=omega) only [push_cast,↓reduceIte,Nat.reduceEqDiff,Nat.reduceAdd,Nat.reduceLeDiff,sx,Option.isSome_some])<;>rfl) rfl rfl ?_)
 iterate 3 (refine dawp_g rfl rfl (by simp only [push_cast,↓reduceIte,Nat.reduceEqDiff,Nat.reduceAdd,Nat.reduceLeDiff,sx,Option.isSome_some];rfl) (fun hg=>by simp (disch:=omega) only [hg,push_cast,↓reduceIte,Nat.reduceEqDiff,Nat.reduceAdd,Nat.reduceLeDiff,sx,Option.isSome_some];rfl) rfl rfl ?_)
 refine dawp_gr rfl rfl rfl (by simp only [push_cast,↓reduceIte,Nat.reduceEqDiff,Nat.reduceAdd,Nat.reduceLeDiff,sx,Option.isSome_some];rfl) (fun hg=>AOp.callx _ _ _ rfl (by (simp (disch:=omega) only [hg,push_cast,↓reduceIte,Nat.reduceEqDiff,Nat.reduceAdd,Nat.reduceLeDiff,sx,Option.isSome_some])<;>rfl) (by (simp (disch:=omega) only [hg,push_cast,↓reduceIte,Nat.reduceEqDiff,Nat.reduceAdd,Nat.reduceLeDiff,sx,Option.isSome_some])<;>rfl) (c29 H0.length aR1.2.2.2.dg cda _ _ _ hga4 (by rw [a_4];decide))) rfl rfl ?_
 refine dawp_g rfl rfl (by simp only [push_cast,↓reduceIte,Nat.reduceEqDiff,Nat.reduceAdd,Nat.reduceLeDiff,sx,Option.isSome_some];rfl) (fun hg=>by simp (disch:=omega) only [hg,push_cast,↓reduceIte,Nat.reduceEqDiff,Nat.reduceAdd,Nat.reduceLeDiff,sx,Option.isSome_some];rfl) rfl rfl ?_
 iterate 2 (refine dawp_p rfl (by (simp (disch:=omega) only [push_cast,↓reduceIte,Nat.reduceEqDiff,Nat.reduceAdd,Nat.reduceLeDiff,sx,Option.isSome_some])<;>rfl) rfl rfl ?_)
 iterate 3 (refine dawp_g rfl rfl (by simp only [push_cast,↓reduceIte,Nat.reduceEqDiff,Nat.reduceAdd,Nat.reduceLeDiff,sx,Option.isSome_some];rfl) (fun hg=>by simp (disch:=omega) only [hg,push_cast,↓reduceIte,Nat.reduceEqDiff,Nat.reduceAdd,Nat.reduceLeDiff,sx,Option.isSome_some];rfl) rfl rfl ?_)
 refine dawp_gr rfl rfl rfl (by simp only [push_cast,↓reduceIte,Nat.reduceEqDiff,Nat.reduceAdd,Nat.reduceLeDiff,sx,Option.isSome_some];rfl) (fun hg=>AOp.callx _ _ _ rfl (by (simp (disch:=omega) only [hg,push_cast,↓reduceIte,Nat.reduceEqDiff,Nat.reduceAdd,Nat.reduceLeDiff,sx,Option.isSome_some])<;>rfl) (by (simp (disch:=omega) only [hg,push_cast,↓reduceIte,Nat.reduceEqDiff,Nat.reduceAdd,Nat.reduceLeDiff,sx,Option.isSome_some])<;>rfl) (c29 G.length aR2.2.2.2.dg cdb _ _ _ hgb (by rw [a_5];decide))) rfl rfl ?_
 refine dawp_g rfl rfl (by simp only [push_cast,↓reduceIte,Nat.reduceEqDiff,Nat.reduceAdd,Nat.reduceLeDiff,sx,Option.isSome_some];rfl) (fun hg=>by simp (disch:=omega) only [hg,push_cast,↓reduceIte,Nat.reduceEqDiff,Nat.reduceAdd,Nat.reduceLeDiff,sx,Option.isSome_some];rfl) rfl rfl ?_
 iterate 2 (refine dawp_p rfl (by (simp (disch:=omega) only [push_cast,↓reduceIte,Nat.reduceEqDiff,Nat.reduceAdd,Nat.reduceLeDiff,sx,Option.isSome_some])<;>rfl) rfl rfl ?_)
 refine dawp_g rfl rfl (by simp only [push_cast,↓reduceIte,Nat.reduceEqDiff,Nat.reduceAdd,Nat.reduceLeDiff,sx,Option.isSome_some];rfl) (fun hg=>by simp (disch:=omega) only [hg,push_cast,↓reduceIte,Nat.reduceEqDiff,Nat.reduceAdd,Nat.reduceLeDiff,sx,Option.isSome_some];rfl) rfl rfl ?_
 refine dawp_gr rfl rfl rfl (by simp only [push_cast,↓reduceIte,Nat.reduceEqDiff,Nat.reduceAdd,Nat.reduceLeDiff,sx,Option.isSome_some];rfl) (fun hg=>AOp.callx _ _ _ rfl (by (simp (disch:=omega) only [hg,push_cast,↓reduceIte,Nat.reduceEqDiff,Nat.reduceAdd,Nat.reduceLeDiff,sx,Option.isSome_some])<;>rfl) (by (simp (disch:=omega) only [hg,push_cast,↓reduceIte,Nat.reduceEqDiff,Nat.reduceAdd,Nat.reduceLeDiff,sx,Option.isSome_some])<;>rfl) (c20 _ _ _ _ _ _ _ hy4)) rfl rfl ?_
 iterate 2 (refine dawp_g rfl rfl (by simp only [push_cast,↓reduceIte,Nat.reduceEqDiff,Nat.reduceAdd,Nat.reduceLeDiff,sx,Option.isSome_some];rfl) (fun hg=>by simp (disch:=omega) only [hg,push_cast,↓reduceIte,Nat.reduceEqDiff,Nat.reduceAdd,Nat.reduceLeDiff,sx,Option.isSome_some];rfl) rfl rfl ?_)
 iterate 2 (refine dawp_p rfl (by (simp (disch:=omega) only [push_cast,↓reduceIte,Nat.reduceEqDiff,Nat.reduceAdd,Nat.reduceLeDiff,sx,Option.isSome_some])<;>rfl) rfl rfl ?_)
 refine re_ (hf:=by (simp (disch:=omega) only [push_cast,↓reduceIte,Nat.reduceEqDiff,Nat.reduceAdd,Nat.reduceLeDiff,sx,Option.isSome_some])<;>rfl) (hh:=by (try simp (disch:=omega) only [push_cast,↓reduceIte,Nat.reduceEqDiff,Nat.reduceAdd,Nat.reduceLeDiff,sx,Option.isSome_some])<;>rfl) ?_
 refine ret_ ?_
 refine gq_ (h1:=h) (hres:=by (simp (disch:=omega) only [aresults,aresult,push_cast,↓reduceIte,Nat.reduceEqDiff,Nat.reduceAdd,Nat.reduceLeDiff,sx,Option.isSome_some])<;>rfl) Tryz.results8 ?_ (hl:=(fun u hu=>hA4.live u (hA2.live u hu))) (hh:=(by first | exact junk_of hpj | exact junk_app (junk_of hpj) | exact junk_app (junk_app (junk_of hpj))))
 exact rk_ rfl
end Go.Proofs.YtmgnbgniikjhdaaGreat
