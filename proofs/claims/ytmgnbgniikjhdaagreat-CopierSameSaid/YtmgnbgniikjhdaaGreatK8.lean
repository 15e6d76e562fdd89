import Derived.Test.YtmgnbgniikjhdaaGreatK7
/-
  CP: the command goes on with a copy.
-/
set_option linter.unusedVariables false
set_option linter.unusedSimpArgs false
namespace Go.Proofs.YtmgnbgniikjhdaaGreat
open Go.Ab
set_option maxRecDepth 8000
set_option maxHeartbeats 400000
theorem src_cp (c:Cm):(cmSrc c).2.cp=c.cp:=by unfold cmSrc;split<;>rfl
def cpsK (kd kc:Nat) (cd:Cap) (h:List Blk) (live:List Nat) (X:CmR):KT:=fun x h' live'=>x=kV X.1∧∃cd' cl',h'=(h.set kc (.cells (cpC kc X.2.cp))).set kd (.cells (cmC kd cd' cl' (.ptr kc 0) X.2))∧Keeps live cd live' cd'
theorem c266 (kd kc:Nat) (cd cl:Cap) (c:Cm) (r:Rs) (h:List Blk) (live:List Nat) (hk0:h[kd]? = some (.cells (cmC kd cd cl (.ptr kc 0) c))) (hkc:h[kc]? = some (.cells (cpC kc c.cp))) (hne:kc≠kd) (hc:CapOK live cd) (htg:c.tgt.length≤1000) (hlf:c.left.length≤1000) (hlb:∀f∈c.left,f.length≤1000) (hdg:c.dg.length≤1000000):ACalls Tryz.prog 266 [.ptr kd 0,.agg (rsC r)] h live (cpsK kd kc cd h live (cmCopies c r)):=by
 refine aq_ Tryz.func266 fun hH hX=>?_
 obtain ⟨X,hX⟩:∃X,cpN c.cp r=X:=⟨_,rfl⟩
 have hkdl:=lt_of_get hk0
 have hkcl:=lt_of_get hkc
 have hk1:=hk0
 unfold cmC at hk1
 have hpq:=fun g:List Blk=>atApp (g:=g) hk1
 have hs0:∀(y:Blk) (g:List Blk),(h++g).set kc y=h.set kc y++g:=fun y g=>setApp hkc
 have hg8:∀(y:Blk) (l:List Blk) (j:Nat),(h.set kc y++l)[h.length+j]? = l[j]? := fun y l j=>by
  have:=get_app (h.set kc y) l j
  rw [List.length_set] at this;exact this
 have hg7:=fun (y:Blk) (g:List Blk)=>atApp (g:=g) (getSet (y:=y) hk1 (Ne.symm hne))
 have hg9:∀(y:Blk) (l:List Blk) (j:Nat) (z:Blk),(h.set kc y++l).set (h.length+j) z=h.set kc y++l.set j z:=fun y l j z=>by
  have:=set_app (h.set kc y) l j z
  rw [List.length_set] at this;exact this
 have hNx:∀g:List Blk,ACalls Tryz.prog 17 [.ptr kc 0,.agg (rsC r)] (h++g) live (ret (kV X.1) ((h++g).set kc (.cells (cpC kc X.2))) live):=fun g=>hX▸c17 kc c.cp r _ _ (atApp hkc)
 have hcH:∀g:List Blk,HCl (h++g)→HCl (h.set kc (.cells (cpC kc X.2))++g):=fun g hg=>by rw [←hs0];exact HCl.set hg kc (clL_cpC (by rw [List.length_append];omega) _)
 have hcZ:HCl (h++[.cells (rsC r),.cells [.int .i64 0,.str [],.str [],.int .i64 0,.int .i64 0,.slice [] .full],.cells (caC X.1.1)]):=by
  have:=HCl.snoc (b:=.cells (caC X.1.1)) (HCl.snoc (b:=.cells [.int .i64 0,.str [],.str [],.int .i64 0,.int .i64 0,.slice [] .full]) (HCl.snoc (b:=.cells (rsC r)) hH (clL_rsC _ _)) ⟨trivial,trivial,trivial,trivial,trivial,trivial,trivial⟩) (clL_caC _ _)
  rw [List.append_assoc,List.append_assoc] at this;exact this
 have sx:=(And.intro @hpq (And.intro @hs0 (And.intro @hg7 (And.intro @hg8 (And.intro @hg9 sx0)))))
 refine rg_ [0,3,4] ?_
 refine sk_ fun K1 hK1=>?_
 refine awp_seqG (X:=Unit) (fun _=>⟨Tryz.f266.ntmps,fget [(0,.ptr kd 0),(4,.ptr (h.length+1) 0),(6,.ptr (h.length+2) 0),(7,.bool X.1.2)],h.set kc (.cells (cpC kc X.2))++[.cells (rsC r),.cells [.int .i64 0,.str [],.str [],.int .i64 0,.int .i64 0,.slice [] .full],.cells (caC X.1.1)],live⟩) ?_ (fun _=>?_)
 rotate_left
 ·
  try dsimp only
  have hcZ2:=hcH _ hcZ
  have hkd1:(h.set kc (.cells (cpC kc X.2)))[kd]? = some (.cells (cmC kd cd cl (.ptr kc 0) { c with cp:=X.2 })):=getSet hk0 (Ne.symm hne)
  have hkc1:(h.set kc (.cells (cpC kc X.2)))[kc]? = some (.cells (cpC kc X.2)):=get_setk hkcl
  have hl1:(h.set kc (.cells (cpC kc X.2))).length=h.length:=List.length_set ..
  have hH1:HCl (h.set kc (.cells (cpC kc X.2))):=HCl.set hH kc (clL_cpC hkcl _)
  clear hpq hs0 hg7 hg8 hg9 hNx hcH hcZ hcZ2 sx
  obtain ⟨H1,e1⟩:∃H1,h.set kc (.cells (cpC kc X.2))=H1:=⟨_,rfl⟩
  unfold cpsK
  rw [e1] at hkd1 hkc1 hl1 hH1 ⊢
  simp only [←hl1]
  have hk:=hkd1
  have hpc:(AV.ptr kc 0).cl H1.length:=lt_of_get hkc1
  have hkl:=lt_of_get hk
  unfold cmC at hk
  have hpq:=fun g:List Blk=>atApp (g:=g) hk
  have hs1:∀(y:Blk) (g:List Blk),(H1++g).set kd y=H1.set kd y++g:=fun y g=>setApp hk
  have hcm:=fun (g:List Blk) (a b:Cap) (c:Cm)=>clL_cmC (m:=(H1++g).length) (kd:=kd) (by rw [List.length_append];omega) a b (AV.cl_mono (by rw [List.length_append];omega) _ hpc) c
  have hkcg:=fun g:List Blk=>atApp (g:=g) hkc1
  have sx:=And.intro hpq (And.intro hs1 sx0)
  refine rg_ [0,4,6,19] ?_
  refine cy_ (fun hb1=>?_) (fun hb1=>?_)
  ·
   refine rs_ [4,5] ?_
   refine sg_ ?_
   refine cl_ (hc:=c83 kd X.1.1 .none 266 _ _ (atApp hk) (by exact ⟨clL_dgV _ _,trivial,trivial,trivial,trivial,(by first | exact clL_str _ _ | exact clL_str_tail _ _ | simp [AV.clL, -List.map_map]),trivial,trivial,trivial,trivial,trivial,trivial,trivial,trivial,trivial,AV.cl_mono (by simp only [List.length_append,List.length_set];omega) _ hpc,(by first | exact nxM_cl (by simp only [List.length_append,List.length_set];omega) _ | exact ⟨⟨show kd<_ from (by simp only [List.length_append,List.length_set];omega),trivial⟩,trivial⟩ | trivial),trivial⟩)) (k:=?_)
   refine srt_ ?_
   refine gq_ (h1:=H1.set kd _) Tryz.results266 ?_ (hcl:=(by first | exact ⟨⟨clL_caC _ _,trivial,trivial⟩,trivial⟩ | exact ⟨clL_caC _ _,trivial,trivial⟩ | simp [AV.cl,AV.clL,clL_caP])) (hh:=(⟨_,rfl⟩)) (hH:=(HCl.set hH1 kd (by exact ⟨clL_dgV _ _,trivial,trivial,trivial,trivial,(by first | exact clL_str _ _ | exact clL_str_tail _ _ | simp [AV.clL, -List.map_map]),trivial,trivial,trivial,trivial,trivial,trivial,trivial,trivial,trivial,hpc,(by first | exact nxM_cl hkl _ | exact ⟨⟨show kd<_ from hkl,trivial⟩,trivial⟩ | trivial),trivial⟩))) (hle:=(by rw [List.length_set];omega))
   have e:cmCopies c r=((X.1.1,true),{ c with cp:=X.2,nx:=5 }):=by
    unfold cmCopies
    rw [hX]
    dsimp only
    rw [hb1];rfl
   rw [e]
   try unfold cpsK
   dsimp only [cmSkip]
   rw [e1]
   exact ⟨rfl, _, _,rfl,Keeps.refl hc⟩
  refine skp_ ?_
  refine hK1 _ ?_
  refine sk_ fun K2 hK2=>?_
  refine rs_ [0,4,8,9] ?_
  refine sg_ ?_
  refine cl_ (hc:=c18 kc X.2 _ _ (atApp hkc1)) (k:=?_)
  refine sre_ ?_
  refine rg_ [0,4,8,35] ?_
  refine cy_ (fun hb2=>?_) (fun hb2=>?_)
  ·
   refine rs_ [4,5] ?_
   refine sg_ ?_
   refine ck_ (k:=?_)
   refine ACalls.mono ?_ (c230 kd cd _ (.ptr kc 0) ({ c with cp:=X.2 }) _ _ (atApp hk) hc (AV.cl_mono (by simp only [List.length_append,List.length_set];omega) _ hpc) htg hlf hlb _ _ (by assumption));rintro _ _ live3 ⟨rfl,cd3,cl3,rfl,hk3⟩
   refine srt_ ?_
   refine gq_ (h1:=H1.set kd _) Tryz.results266 ?_ (hcl:=(by first | exact ⟨⟨clL_caC _ _,trivial,trivial⟩,trivial⟩ | exact ⟨clL_caC _ _,trivial,trivial⟩ | simp [AV.cl,AV.clL,clL_caP])) (hh:=(⟨_,rfl⟩)) (hH:=(HCl.set hH1 kd (by exact ⟨clL_dgV _ _,trivial,trivial,trivial,trivial,(by first | exact clL_str _ _ | exact clL_str_tail _ _ | simp [AV.clL, -List.map_map]),trivial,trivial,trivial,trivial,trivial,trivial,trivial,trivial,trivial,hpc,(by first | exact nxM_cl hkl _ | exact ⟨⟨show kd<_ from hkl,trivial⟩,trivial⟩ | trivial),trivial⟩))) (hle:=(by rw [List.length_set];omega))
   have e:cmCopies c r=cmSkip { c with cp:=X.2 } X.2.wp X.2.we:=by
    unfold cmCopies
    rw [hX]
    dsimp only
    rw [hb1,cond_false,hb2];rfl
   rw [e]
   try unfold cpsK
   dsimp only [cmSkip]
   rw [src_cp,show (cmFail { c with cp:=X.2 } X.2.wp X.2.we).cp=X.2 from rfl,e1]
   exact ⟨rfl, _, _,rfl,hk3⟩
  refine skp_ ?_
  refine hK2 _ ?_
  refine sk_ fun K3 hK3=>?_
  refine rg_ [0,4,48] ?_
  refine cy_ (fun hb3=>?_) (fun hb3=>?_)
  ·
   have hkp:c.keep=false:=by simpa using hb3
   refine rs_ [4,5] ?_
   refine sg_ ?_
   refine ck_ (k:=?_)
   refine ACalls.mono ?_ (c120 kd cd _ (.ptr kc 0) ({ c with cp:=X.2 }) _ _ (atApp hk) hc (AV.cl_mono (by simp only [List.length_append,List.length_set];omega) _ hpc) htg hlf hlb);rintro _ _ live3 ⟨rfl,cd3,cl3,rfl,hk3⟩
   refine srt_ ?_
   refine gq_ (h1:=H1.set kd _) Tryz.results266 ?_ (hcl:=(by first | exact ⟨⟨clL_caC _ _,trivial,trivial⟩,trivial⟩ | exact ⟨clL_caC _ _,trivial,trivial⟩ | simp [AV.cl,AV.clL,clL_caP])) (hh:=(⟨_,rfl⟩)) (hH:=(HCl.set hH1 kd (by exact ⟨clL_dgV _ _,trivial,trivial,trivial,trivial,(by first | exact clL_str _ _ | exact clL_str_tail _ _ | simp [AV.clL, -List.map_map]),trivial,trivial,trivial,trivial,trivial,trivial,trivial,trivial,trivial,hpc,(by first | exact nxM_cl hkl _ | exact ⟨⟨show kd<_ from hkl,trivial⟩,trivial⟩ | trivial),trivial⟩))) (hle:=(by rw [List.length_set];omega))
   have e:cmCopies c r=cmSrc { c with cp:=X.2 }:=by
    unfold cmCopies
    rw [hX]
    dsimp only
    rw [hb1,cond_false,hb2,cond_false,hkp];rfl
   rw [e]
   try unfold cpsK
   dsimp only [cmSkip]
   rw [src_cp,e1]
   exact ⟨rfl, _, _,rfl,hk3⟩
  have hkp:c.keep=true:=by simpa using hb3
  refine skp_ ?_
  refine hK3 _ ?_
  refine rsq_ [4,5] ⟨false,[],[],[],[],[],0⟩ (fun _=>⟨by kernel_rfl,by kernel_rfl⟩) ?_
  refine sg_ ?_
  refine cl_ (hc:=c83 kd ⟨6,c.to,[],c.s.uid,c.s.gid,[]⟩ .full 291 _ _ (atApp hk) (by exact ⟨clL_dgV _ _,trivial,trivial,trivial,trivial,(by first | exact clL_str _ _ | exact clL_str_tail _ _ | simp [AV.clL, -List.map_map]),trivial,trivial,trivial,trivial,trivial,trivial,trivial,trivial,trivial,AV.cl_mono (by simp only [List.length_append,List.length_set];omega) _ hpc,(by first | exact nxM_cl (by simp only [List.length_append,List.length_set];omega) _ | exact ⟨⟨show kd<_ from (by simp only [List.length_append,List.length_set];omega),trivial⟩,trivial⟩ | trivial),trivial⟩)) (k:=?_)
  refine srt_ ?_
  refine gq_ (h1:=H1.set kd _) Tryz.results266 ?_ (hcl:=(by first | exact ⟨⟨clL_caC _ _,trivial,trivial⟩,trivial⟩ | exact ⟨clL_caC _ _,trivial,trivial⟩ | simp [AV.cl,AV.clL,clL_caP])) (hh:=(⟨_,rfl⟩)) (hH:=(HCl.set hH1 kd (by exact ⟨clL_dgV _ _,trivial,trivial,trivial,trivial,(by first | exact clL_str _ _ | exact clL_str_tail _ _ | simp [AV.clL, -List.map_map]),trivial,trivial,trivial,trivial,trivial,trivial,trivial,trivial,trivial,hpc,(by first | exact nxM_cl hkl _ | exact ⟨⟨show kd<_ from hkl,trivial⟩,trivial⟩ | trivial),trivial⟩))) (hle:=(by rw [List.length_set];omega))
  have e:cmCopies c r=((⟨6,c.to,[],c.s.uid,c.s.gid,[]⟩,true),{ c with cp:=X.2,nx:=6 }):=by
   unfold cmCopies
   rw [hX]
   dsimp only
   rw [hb1,cond_false,hb2,cond_false,hkp];rfl
  rw [e]
  try unfold cpsK
  dsimp only [cmSkip]
  rw [e1]
  exact ⟨rfl, _, _,rfl,Keeps.refl hc⟩
 refine rt2_ (l1:=[_, _, _, _, _]) (m:=[_, _, _]) [0,4,6,7] ⟨false,[(kd,15,.one),(h.length,0,.agg 12)],[14,15],[],[6],[],0⟩ rfl ⟨by kernel_rfl,by kernel_rfl⟩ ?_
 refine sg_ ?_
 refine df_ ?_
 refine df_ ?_
 refine ⟨?_,?_⟩
 ·
  refine cl_ (hc:=hNx _) (k:=?_)
  refine sg_ ?_
  refine dga_ ?_
  refine srn_ ?_
  exact ⟨(),ts_ (hcH _ hcZ),by simp⟩
 ·
  refine dga_ ?_
  refine cl_ (hc:=hNx _) (k:=?_)
  refine srn_ ?_
  exact ⟨(),ts_ (hcH _ hcZ),by simp⟩
end Go.Proofs.YtmgnbgniikjhdaaGreat
