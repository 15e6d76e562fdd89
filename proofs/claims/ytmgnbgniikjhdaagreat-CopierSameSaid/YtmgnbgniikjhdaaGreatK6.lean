import Derived.Test.YtmgnbgniikjhdaaGreatK5
/-
  CP: the command's walk.
-/
set_option linter.unusedVariables false
set_option linter.unusedSimpArgs false
namespace Go.Proofs.YtmgnbgniikjhdaaGreat
open Go.Ab
set_option maxRecDepth 8000
set_option maxHeartbeats 400000
def nxM (kd:Nat):Nat→AV
 | 0=>.raw .nilFunc
 | 1=>.fn (.func 51) [.ptr kd 0] []
 | 2=>.fn (.func 84) [.ptr kd 0] []
 | 3=>.fn (.func 182) [.ptr kd 0] []
 | 4=>.fn (.func 231) [.ptr kd 0] []
 | 5=>.fn (.func 266) [.ptr kd 0] []
 | 6=>.fn (.func 291) [.ptr kd 0] []
 | _=>.fn (.func 304) [.ptr kd 0] []
theorem nxM_cl {m kd:Nat} (h:kd<m):∀n,(nxM kd n).cl m
 | 0=>trivial
 | 1 | 2 | 3 | 4 | 5 | 6=>⟨⟨h,trivial⟩,trivial⟩
 | _+7=>⟨⟨h,trivial⟩,trivial⟩
def cmC (kd:Nat) (cd cl:Cap) (pc:AV) (c:Cm):List AV:=[.slice (c.dg.map dgV) cd,.slice [] .full,.bool c.keep,.bool c.into,.str c.tgt,.slice (c.left.map .str) cl,.str c.fr,.str c.to,.int .i64 c.s.node,.int .i64 c.s.kind,.int .i64 c.s.mode,.int .i64 c.s.uid,.int .i64 c.s.gid,.int .i64 c.s.links,.int .i64 c.s.size,pc,nxM kd c.nx]
theorem clL_cmC {m kd:Nat} (h:kd<m) (cd cl:Cap) {pc:AV} (hp:pc.cl m) (c:Cm):AV.clL m (cmC kd cd cl pc c):=
 ⟨clL_dgV _ _,trivial,trivial,trivial,trivial,clL_str _ _,trivial,trivial,trivial,trivial,trivial,trivial,trivial,trivial,trivial,hp,nxM_cl h _,trivial⟩
def srcK (kd:Nat) (pc:AV) (cd:Cap) (h:List Blk) (live:List Nat) (X:CmR):KT:=fun x h' live'=>x=kV X.1∧∃cd' cl',h'=h.set kd (.cells (cmC kd cd' cl' pc X.2))∧Keeps live cd live' cd'
attribute [push_cast] clL_cmC
theorem c83 (kd:Nat) (k:Ca) (cp:Cap) (f:FuncId) {x0 x1 x2 x3 x4 x5 x6 x7 x8 x9 x10 x11 x12 x13 x14 x15 x16:AV} (h:List Blk) (live:List Nat) (hk:h[kd]? = some (.cells [x0,x1,x2,x3,x4,x5,x6,x7,x8,x9,x10,x11,x12,x13,x14,x15,x16])) (hcl:AV.clL h.length [x0,x1,x2,x3,x4,x5,x6,x7,x8,x9,x10,x11,x12,x13,x14,x15,.fn (.func f) [.ptr kd 0] []]):ACalls Tryz.prog 83 [.ptr kd 0,.fn (.func f) [.ptr kd 0] [],.agg [.int .i64 k.kind,.str k.path,.str k.other,.int .i64 k.a,.int .i64 k.b,.slice (k.data.map bV) cp]] h live (ret (kV (k,true)) (h.set kd (.cells [x0,x1,x2,x3,x4,x5,x6,x7,x8,x9,x10,x11,x12,x13,x14,x15,.fn (.func f) [.ptr kd 0] []])) live):=by
 refine aq_ Tryz.func83 fun hH hX=>?_
 have hkl:=lt_of_get hk
 have hpq:=fun g:List Blk=>atApp (g:=g) hk
 have hs1:∀(y:Blk) (g:List Blk),(h++g).set kd y=h.set kd y++g:=fun y g=>setApp hk
 have sx:=(And.intro @hpq (And.intro @hs1 sx0))
 refine rg_ [0,1,5,6] ?_
 refine rg_ [5,6] ?_
 refine rg_ [6,7] ?_
 refine ret_ ?_
 refine gq_ (h1:=h.set kd _) Tryz.results83 ?_ (hcl:=(by simp [AV.cl,AV.clL,clL_bV, -List.map_map])) (hh:=(⟨_,rfl⟩)) (hH:=(HCl.set hH kd hcl))
 exact rk_ rfl
theorem c120 (kd:Nat) (cd cl:Cap) (pc:AV) (c:Cm) (h:List Blk) (live:List Nat) (hk:h[kd]? = some (.cells (cmC kd cd cl pc c))) (hc:CapOK live cd) (hpc:pc.cl h.length) (htg:c.tgt.length≤1000) (hlf:c.left.length≤1000) (hlb:∀f∈c.left,f.length≤1000)   : ACalls Tryz.prog 120 [.ptr kd 0] h live (srcK kd pc cd h live (cmSrc c)):=by
 refine aq_ Tryz.func120 fun hH hX=>?_
 have hkl:=lt_of_get hk
 unfold cmC at hk
 have hpq:=fun g:List Blk=>atApp (g:=g) hk
 have hs1:∀(y:Blk) (g:List Blk),(h++g).set kd y=h.set kd y++g:=fun y g=>setApp hk
 have hcm:=fun (g:List Blk) (a b:Cap) (c:Cm)=>clL_cmC (m:=(h++g).length) (kd:=kd) (by rw [List.length_append];omega) a b (AV.cl_mono (by rw [List.length_append];omega) pc hpc) c
 have sx:=(And.intro @hpq (And.intro @hs1 sx0))
 refine rg_ [0,2] ?_
 refine sk_ fun K1 hK1=>?_
 refine rg_ [0,2,9] ?_
 refine cx_ (fun hb1=>?_) (fun hb1=>?_)
 ·
  refine rg_ [2] ?_
  refine rg_ [2,3] ?_
  refine ret_ ?_
  refine gq_ (h1:=h.set kd _) Tryz.results120 ?_ (hcl:=(by first | exact ⟨⟨clL_caC _ _,trivial,trivial⟩,trivial⟩ | exact ⟨clL_caC _ _,trivial,trivial⟩ | simp [AV.cl,AV.clL,clL_caP])) (hh:=(⟨_,rfl⟩)) (hH:=(HCl.set hH kd (by exact ⟨clL_dgV _ _,trivial,trivial,trivial,trivial,(by first | exact clL_str _ _ | exact clL_str_tail _ _ | simp [AV.clL, -List.map_map]),trivial,trivial,trivial,trivial,trivial,trivial,trivial,trivial,trivial,hpc,(by first | exact nxM_cl hkl _ | exact ⟨⟨show kd<_ from hkl,trivial⟩,trivial⟩ | trivial),trivial⟩)))
  have e:cmSrc c=_:=if_pos hb1
  rw [e]
  exact ⟨rfl, _, _,rfl,Keeps.refl hc⟩
 refine skp_ ?_
 refine hK1 _ ?_
 refine rsq_ [0,2] ⟨false,[(kd,5,.one)],[21],[28],[],[],0⟩ (fun _=>⟨by kernel_rfl,by kernel_rfl⟩) ?_
 refine sg_ ?_
 refine df_ ?_
 refine sg_ ?_
 refine dgs_ ?_
 refine sre_ ?_
 refine rg_ [0,2] ?_
 refine sk_ fun K2 hK2=>?_
 refine rg_ [0,2,41] ?_
 refine cy_ (fun hb2=>?_) (fun hb2=>?_)
 ·
  refine rtq_ [0,2] ⟨true,[],[],[],[],[],0⟩ (fun _=>⟨by kernel_rfl,by kernel_rfl⟩) ?_
  refine sg_ ?_
  refine cr_ (hc:=c181 _ _ _ (hlb _ (getD0_mem _ (by omega)))) (k:=?_)
  refine cr_ (hc:=c180 _ _ _ _ (by omega) (Nat.le_trans (baseF_le (n:=1000) (by have:=hlb _ (getD0_mem [] (show 0<c.left.length by omega));omega)) (by decide))) (k:=?_)
  refine srn_ ?_
  refine hK2 _ ?_
  refine rs_ [2,3] ?_
  refine sg_ ?_
  refine cl_ (hc:=c83 kd ⟨1,c.left.getD 0 [],[],0,0,[]⟩ .full 182 _ _ (get_setapp hkl) (by exact ⟨clL_dgV _ _,trivial,trivial,trivial,trivial,(by first | exact clL_str _ _ | exact clL_str_tail _ _ | simp [AV.clL, -List.map_map]),trivial,trivial,trivial,trivial,trivial,trivial,trivial,trivial,trivial,AV.cl_mono (by simp only [List.length_append,List.length_set];omega) _ hpc,(by first | exact nxM_cl (by simp only [List.length_append,List.length_set];omega) _ | exact ⟨⟨show kd<_ from (by simp only [List.length_append,List.length_set];omega),trivial⟩,trivial⟩ | trivial),trivial⟩)) (k:=?_)
  refine srt_ ?_
  refine gq_ (h1:=h.set kd _) Tryz.results120 ?_ (hcl:=(by first | exact ⟨⟨clL_caC _ _,trivial,trivial⟩,trivial⟩ | exact ⟨clL_caC _ _,trivial,trivial⟩ | simp [AV.cl,AV.clL,clL_caP])) (hh:=(⟨_,rfl⟩)) (hH:=(HCl.set hH kd (by exact ⟨clL_dgV _ _,trivial,trivial,trivial,trivial,(by first | exact clL_str _ _ | exact clL_str_tail _ _ | simp [AV.clL, -List.map_map]),trivial,trivial,trivial,trivial,trivial,trivial,trivial,trivial,trivial,hpc,(by first | exact nxM_cl hkl _ | exact ⟨⟨show kd<_ from hkl,trivial⟩,trivial⟩ | trivial),trivial⟩)))
  have e:cmSrc c=_:=if_neg hb1
  rw [e]
  rw [hb2]
  exact ⟨rfl, _, _,rfl,Keeps.refl hc⟩
 refine skp_ ?_
 refine hK2 _ ?_
 refine rs_ [2,3] ?_
 refine sg_ ?_
 refine cl_ (hc:=c83 kd ⟨1,c.left.getD 0 [],[],0,0,[]⟩ .full 182 _ _ (get_setapp hkl) (by exact ⟨clL_dgV _ _,trivial,trivial,trivial,trivial,(by first | exact clL_str _ _ | exact clL_str_tail _ _ | simp [AV.clL, -List.map_map]),trivial,trivial,trivial,trivial,trivial,trivial,trivial,trivial,trivial,AV.cl_mono (by simp only [List.length_append,List.length_set];omega) _ hpc,(by first | exact nxM_cl (by simp only [List.length_append,List.length_set];omega) _ | exact ⟨⟨show kd<_ from (by simp only [List.length_append,List.length_set];omega),trivial⟩,trivial⟩ | trivial),trivial⟩)) (k:=?_)
 refine srt_ ?_
 refine gq_ (h1:=h.set kd _) Tryz.results120 ?_ (hcl:=(by first | exact ⟨⟨clL_caC _ _,trivial,trivial⟩,trivial⟩ | exact ⟨clL_caC _ _,trivial,trivial⟩ | simp [AV.cl,AV.clL,clL_caP])) (hh:=(⟨_,rfl⟩)) (hH:=(HCl.set hH kd (by exact ⟨clL_dgV _ _,trivial,trivial,trivial,trivial,(by first | exact clL_str _ _ | exact clL_str_tail _ _ | simp [AV.clL, -List.map_map]),trivial,trivial,trivial,trivial,trivial,trivial,trivial,trivial,trivial,hpc,(by first | exact nxM_cl hkl _ | exact ⟨⟨show kd<_ from hkl,trivial⟩,trivial⟩ | trivial),trivial⟩)))
 have e:cmSrc c=_:=if_neg hb1
 rw [e]
 rw [hb2]
 exact ⟨rfl, _, _,rfl,Keeps.refl hc⟩
theorem c230 (kd:Nat) (cd cl:Cap) (pc:AV) (c:Cm) (h:List Blk) (live:List Nat) (hk:h[kd]? = some (.cells (cmC kd cd cl pc c))) (hc:CapOK live cd) (hpc:pc.cl h.length) (htg:c.tgt.length≤1000) (hlf:c.left.length≤1000) (hlb:∀f∈c.left,f.length≤1000) (p:List UInt8) (e:Int) (hdg:c.dg.length≤1000000):ACalls Tryz.prog 230 [.ptr kd 0,.str p,.int .i64 e] h live (srcK kd pc cd h live (cmSkip c p e)):=by
 refine aq_ Tryz.func230 fun hH hX=>?_
 have hkl:=lt_of_get hk
 unfold cmC at hk
 have hpq:=fun g:List Blk=>atApp (g:=g) hk
 have hs1:∀(y:Blk) (g:List Blk),(h++g).set kd y=h.set kd y++g:=fun y g=>setApp hk
 have hcm:=fun (g:List Blk) (a b:Cap) (c:Cm)=>clL_cmC (m:=(h++g).length) (kd:=kd) (by rw [List.length_append];omega) a b (AV.cl_mono (by rw [List.length_append];omega) pc hpc) c
 have sx:=(And.intro @hpq (And.intro @hs1 sx0))
 refine rg_ [0,1,2,6] ?_
 refine rs_ [0,6] ?_
 refine sg_ ?_
 refine ck_ (k:=?_)
 refine (c49 kd c.dg cd _ p e _ _ (atApp hk) hc (clL_cmC (m:=_) (kd:=kd) (by simp only [List.length_append,List.length_set];omega) cd cl (AV.cl_mono (by simp only [List.length_append,List.length_set];omega) _ hpc) c).2 (by omega)).mono ?_;rintro _ _ live2 ⟨rfl,cd2,rfl,hk2⟩
 refine re_ ?_
 refine rs_ [6,7] ?_
 refine sg_ ?_
 refine ck_ (k:=?_)
 refine (c120 kd cd2 cl pc (cmFail c p e) _ _ (get_setapp hkl) hk2.ok (AV.cl_mono (by simp only [List.length_append,List.length_set];omega) _ hpc) htg hlf hlb).mono ?_;rintro _ _ live3 ⟨rfl,cd3,cl3,rfl,hk3⟩
 refine srt_ ?_
 refine gq_ (h1:=h.set kd _) Tryz.results230 ?_ (hcl:=(by first | exact ⟨⟨clL_caC _ _,trivial,trivial⟩,trivial⟩ | exact ⟨clL_caC _ _,trivial,trivial⟩ | simp [AV.cl,AV.clL,clL_caP])) (hh:=(⟨_,rfl⟩)) (hH:=(HCl.set hH kd (by exact ⟨clL_dgV _ _,trivial,trivial,trivial,trivial,(by first | exact clL_str _ _ | exact clL_str_tail _ _ | simp [AV.clL, -List.map_map]),trivial,trivial,trivial,trivial,trivial,trivial,trivial,trivial,trivial,hpc,(by first | exact nxM_cl hkl _ | exact ⟨⟨show kd<_ from hkl,trivial⟩,trivial⟩ | trivial),trivial⟩)))
 exact ⟨rfl, _, _,rfl,hk2.trans hk3⟩
theorem c51 (kd:Nat) (cd cl:Cap) (pc:AV) (c:Cm) (h:List Blk) (live:List Nat) (hk:h[kd]? = some (.cells (cmC kd cd cl pc c))) (hc:CapOK live cd) (hpc:pc.cl h.length) (htg:c.tgt.length≤1000) (hlf:c.left.length≤1000) (hlb:∀f∈c.left,f.length≤1000) (r:Rs) (hdg:c.dg.length≤1000000):ACalls Tryz.prog 51 [.ptr kd 0,.agg (rsC r)] h live (srcK kd pc cd h live (cmFirst c)):=by
 refine aq_ Tryz.func51 fun hH hX=>?_
 have hkl:=lt_of_get hk
 unfold cmC at hk
 have hpq:=fun g:List Blk=>atApp (g:=g) hk
 have hs1:∀(y:Blk) (g:List Blk),(h++g).set kd y=h.set kd y++g:=fun y g=>setApp hk
 have hcm:=fun (g:List Blk) (a b:Cap) (c:Cm)=>clL_cmC (m:=(h++g).length) (kd:=kd) (by rw [List.length_append];omega) a b (AV.cl_mono (by rw [List.length_append];omega) pc hpc) c
 have sx:=(And.intro @hpq (And.intro @hs1 sx0))
 refine rg_ [0,4] ?_
 refine rs_ [4,5] ?_
 refine sg_ ?_
 refine cl_ (hc:=c83 kd ⟨1,c.tgt,[],0,0,[]⟩ .full 84 _ _ (atApp hk) (by exact ⟨clL_dgV _ _,trivial,trivial,trivial,trivial,(by first | exact clL_str _ _ | exact clL_str_tail _ _ | simp [AV.clL, -List.map_map]),trivial,trivial,trivial,trivial,trivial,trivial,trivial,trivial,trivial,AV.cl_mono (by simp only [List.length_append,List.length_set];omega) _ hpc,(by first | exact nxM_cl (by simp only [List.length_append,List.length_set];omega) _ | exact ⟨⟨show kd<_ from (by simp only [List.length_append,List.length_set];omega),trivial⟩,trivial⟩ | trivial),trivial⟩)) (k:=?_)
 refine srt_ ?_
 refine gq_ (h1:=h.set kd _) Tryz.results51 ?_ (hcl:=(by first | exact ⟨⟨clL_caC _ _,trivial,trivial⟩,trivial⟩ | exact ⟨clL_caC _ _,trivial,trivial⟩ | simp [AV.cl,AV.clL,clL_caP])) (hh:=(⟨_,rfl⟩)) (hH:=(HCl.set hH kd (by exact ⟨clL_dgV _ _,trivial,trivial,trivial,trivial,(by first | exact clL_str _ _ | exact clL_str_tail _ _ | simp [AV.clL, -List.map_map]),trivial,trivial,trivial,trivial,trivial,trivial,trivial,trivial,trivial,hpc,(by first | exact nxM_cl hkl _ | exact ⟨⟨show kd<_ from hkl,trivial⟩,trivial⟩ | trivial),trivial⟩)))
 exact ⟨rfl, _, _,rfl,Keeps.refl hc⟩
theorem c84 (kd:Nat) (cd cl:Cap) (pc:AV) (c:Cm) (h:List Blk) (live:List Nat) (hk:h[kd]? = some (.cells (cmC kd cd cl pc c))) (hc:CapOK live cd) (hpc:pc.cl h.length) (htg:c.tgt.length≤1000) (hlf:c.left.length≤1000) (hlb:∀f∈c.left,f.length≤1000) (r:Rs) (hdg:c.dg.length≤1000000):ACalls Tryz.prog 84 [.ptr kd 0,.agg (rsC r)] h live (srcK kd pc cd h live (cmAimed c r)):=by
 refine aq_ Tryz.func84 fun hH hX=>?_
 have hkl:=lt_of_get hk
 unfold cmC at hk
 have hpq:=fun g:List Blk=>atApp (g:=g) hk
 have hs1:∀(y:Blk) (g:List Blk),(h++g).set kd y=h.set kd y++g:=fun y g=>setApp hk
 have hcm:=fun (g:List Blk) (a b:Cap) (c:Cm)=>clL_cmC (m:=(h++g).length) (kd:=kd) (by rw [List.length_append];omega) a b (AV.cl_mono (by rw [List.length_append];omega) pc hpc) c
 have sx:=(And.intro @hpq (And.intro @hs1 (And.intro @sta_eq sx0)))
 refine rg_ [0,3,4] ?_
 refine rg_ [0,4] ?_
 refine sk_ fun K1 hK1=>?_
 refine rg_ [0,4,30] ?_
 refine cy_ (fun hb1=>?_) (fun hb1=>?_)
 ·
  refine rsq_ [0,4] ⟨false,[],[],[],[],[],0⟩ (fun _=>⟨by kernel_rfl,by kernel_rfl⟩) ?_
  refine sg_ ?_
  refine ck_ (k:=?_)
  refine (c49 kd c.dg cd _ c.tgt 20 _ _ (get_setapp hkl) hc (clL_cmC (m:=_) (kd:=kd) (by simp only [List.length_append,List.length_set];omega) cd cl (AV.cl_mono (by simp only [List.length_append,List.length_set];omega) _ hpc) ({ c with into:=decide (r.err=0)&&decide (r.st.kind=2) })).2 (by omega)).mono ?_;rintro _ _ live2 ⟨rfl,cd2,rfl,hk2⟩
  refine re_ ?_
  refine rt_ [0,4] ?_
  refine srn_ ?_
  refine hK1 _ ?_
  refine rs_ [4,5] ?_
  refine sg_ ?_
  first
   | (refine ck_ (k:=?_);refine ACalls.mono ?_ (c120 kd cd2 _ pc ({ cmFail { c with into:=decide (r.err=0)&&decide (r.st.kind=2) } c.tgt 20 with left:=[] }) _ _ (by first | exact get_setapp hkl | exact atApp hk) hk2.ok (AV.cl_mono (by simp only [List.length_append,List.length_set];omega) _ hpc) htg (Nat.zero_le _) (fun f hf=>nomatch hf));rintro _ _ live3 ⟨rfl,cd3,cl3,rfl,hk3⟩)
   | (refine ck_ (k:=?_);refine ACalls.mono ?_ (c120 kd cd _ pc ({ c with into:=decide (r.err=0)&&decide (r.st.kind=2) }) _ _ (by first | exact get_setapp hkl | exact atApp hk) hc (AV.cl_mono (by simp only [List.length_append,List.length_set];omega) _ hpc) htg hlf hlb);rintro _ _ live3 ⟨rfl,cd3,cl3,rfl,hk3⟩)
  refine srt_ ?_
  refine gq_ (h1:=h.set kd _) Tryz.results84 ?_ (hcl:=(by first | exact ⟨⟨clL_caC _ _,trivial,trivial⟩,trivial⟩ | exact ⟨clL_caC _ _,trivial,trivial⟩ | simp [AV.cl,AV.clL,clL_caP])) (hh:=(⟨_,rfl⟩)) (hH:=(HCl.set hH kd (by exact ⟨clL_dgV _ _,trivial,trivial,trivial,trivial,(by first | exact clL_str _ _ | exact clL_str_tail _ _ | simp [AV.clL, -List.map_map]),trivial,trivial,trivial,trivial,trivial,trivial,trivial,trivial,trivial,hpc,(by first | exact nxM_cl hkl _ | exact ⟨⟨show kd<_ from hkl,trivial⟩,trivial⟩ | trivial),trivial⟩)))
  have e:cmAimed c r=_:=if_pos (by simp at hb1 ⊢;omega)
  rw [e]
  exact ⟨rfl, _, _,rfl,hk2.trans hk3⟩
 refine skp_ ?_
 refine hK1 _ ?_
 refine rs_ [4,5] ?_
 refine sg_ ?_
 first
  | (refine ck_ (k:=?_);refine ACalls.mono ?_ (c120 kd cd2 _ pc ({ cmFail { c with into:=decide (r.err=0)&&decide (r.st.kind=2) } c.tgt 20 with left:=[] }) _ _ (by first | exact get_setapp hkl | exact atApp hk) hk2.ok (AV.cl_mono (by simp only [List.length_append,List.length_set];omega) _ hpc) htg (Nat.zero_le _) (fun f hf=>nomatch hf));rintro _ _ live3 ⟨rfl,cd3,cl3,rfl,hk3⟩)
  | (refine ck_ (k:=?_);refine ACalls.mono ?_ (c120 kd cd _ pc ({ c with into:=decide (r.err=0)&&decide (r.st.kind=2) }) _ _ (by first | exact get_setapp hkl | exact atApp hk) hc (AV.cl_mono (by simp only [List.length_append,List.length_set];omega) _ hpc) htg hlf hlb);rintro _ _ live3 ⟨rfl,cd3,cl3,rfl,hk3⟩)
 refine srt_ ?_
 refine gq_ (h1:=h.set kd _) Tryz.results84 ?_ (hcl:=(by first | exact ⟨⟨clL_caC _ _,trivial,trivial⟩,trivial⟩ | exact ⟨clL_caC _ _,trivial,trivial⟩ | simp [AV.cl,AV.clL,clL_caP])) (hh:=(⟨_,rfl⟩)) (hH:=(HCl.set hH kd (by exact ⟨clL_dgV _ _,trivial,trivial,trivial,trivial,(by first | exact clL_str _ _ | exact clL_str_tail _ _ | simp [AV.clL, -List.map_map]),trivial,trivial,trivial,trivial,trivial,trivial,trivial,trivial,trivial,hpc,(by first | exact nxM_cl hkl _ | exact ⟨⟨show kd<_ from hkl,trivial⟩,trivial⟩ | trivial),trivial⟩)))
 have e:cmAimed c r=_:=if_neg (by simp at hb1 ⊢;omega)
 rw [e]
 exact ⟨rfl, _, _,rfl,hk3⟩
theorem c182 (kd:Nat) (cd cl:Cap) (pc:AV) (c:Cm) (h:List Blk) (live:List Nat) (hk:h[kd]? = some (.cells (cmC kd cd cl pc c))) (hc:CapOK live cd) (hpc:pc.cl h.length) (htg:c.tgt.length≤1000) (hlf:c.left.length≤1000) (hlb:∀f∈c.left,f.length≤1000) (r:Rs) (hdg:c.dg.length≤1000000):ACalls Tryz.prog 182 [.ptr kd 0,.agg (rsC r)] h live (srcK kd pc cd h live (cmLooked c r)):=by
 refine aq_ Tryz.func182 fun hH hX=>?_
 have hkl:=lt_of_get hk
 unfold cmC at hk
 have hpq:=fun g:List Blk=>atApp (g:=g) hk
 have hs1:∀(y:Blk) (g:List Blk),(h++g).set kd y=h.set kd y++g:=fun y g=>setApp hk
 have hcm:=fun (g:List Blk) (a b:Cap) (c:Cm)=>clL_cmC (m:=(h++g).length) (kd:=kd) (by rw [List.length_append];omega) a b (AV.cl_mono (by rw [List.length_append];omega) pc hpc) c
 have sx:=(And.intro @hpq (And.intro @hs1 (And.intro @sta_eq sx0)))
 refine rg_ [0,3,4] ?_
 refine rg_ [0,3,4] ?_
 refine sk_ fun K1 hK1=>?_
 refine awp_block ?_
 refine rg_ [0,3,4,11] ?_
 refine cx_ (fun hb1=>?_) (fun hb1=>?_)
 ·
  refine rsq_ [4,5] ⟨false,[],[],[],[],[],0⟩ (fun _=>⟨by kernel_rfl,by kernel_rfl⟩) ?_
  refine sg_ ?_
  refine ck_ (k:=?_)
  refine ACalls.mono ?_ (c230 kd cd _ pc ({ c with s:=r.st }) _ _ (get_setapp hkl) hc (AV.cl_mono (by simp only [List.length_append,List.length_set];omega) _ hpc) htg hlf hlb _ _ (by assumption));rintro _ _ live3 ⟨rfl,cd3,cl3,rfl,hk3⟩
  refine srt_ ?_
  refine gq_ (h1:=h.set kd _) Tryz.results182 ?_ (hcl:=(by first | exact ⟨⟨clL_caC _ _,trivial,trivial⟩,trivial⟩ | exact ⟨clL_caC _ _,trivial,trivial⟩ | simp [AV.cl,AV.clL,clL_caP])) (hh:=(⟨_,rfl⟩)) (hH:=(HCl.set hH kd (by exact ⟨clL_dgV _ _,trivial,trivial,trivial,trivial,(by first | exact clL_str _ _ | exact clL_str_tail _ _ | simp [AV.clL, -List.map_map]),trivial,trivial,trivial,trivial,trivial,trivial,trivial,trivial,trivial,hpc,(by first | exact nxM_cl hkl _ | exact ⟨⟨show kd<_ from hkl,trivial⟩,trivial⟩ | trivial),trivial⟩)))
  have e:cmLooked c r=_:=if_pos hb1
  rw [e]
  exact ⟨rfl, _, _,rfl,hk3⟩
 refine rg_ [0,4,25] ?_
 refine cx_ (fun hb2=>?_) (fun hb2=>?_)
 ·
  refine rs_ [4,5] ?_
  refine sg_ ?_
  refine ck_ (k:=?_)
  refine ACalls.mono ?_ (c230 kd cd _ pc ({ c with s:=r.st }) _ _ (get_setapp hkl) hc (AV.cl_mono (by simp only [List.length_append,List.length_set];omega) _ hpc) htg hlf hlb _ _ (by assumption));rintro _ _ live3 ⟨rfl,cd3,cl3,rfl,hk3⟩
  refine srt_ ?_
  refine gq_ (h1:=h.set kd _) Tryz.results182 ?_ (hcl:=(by first | exact ⟨⟨clL_caC _ _,trivial,trivial⟩,trivial⟩ | exact ⟨clL_caC _ _,trivial,trivial⟩ | simp [AV.cl,AV.clL,clL_caP])) (hh:=(⟨_,rfl⟩)) (hH:=(HCl.set hH kd (by exact ⟨clL_dgV _ _,trivial,trivial,trivial,trivial,(by first | exact clL_str _ _ | exact clL_str_tail _ _ | simp [AV.clL, -List.map_map]),trivial,trivial,trivial,trivial,trivial,trivial,trivial,trivial,trivial,hpc,(by first | exact nxM_cl hkl _ | exact ⟨⟨show kd<_ from hkl,trivial⟩,trivial⟩ | trivial),trivial⟩)))
  have e:cmLooked c r=_:=(if_neg (by omega)).trans (if_pos hb2)
  rw [e]
  exact ⟨rfl, _, _,rfl,hk3⟩
 refine skp_ ?_
 refine hK1 _ ?_
 refine rs_ [4,5] ?_
 refine sg_ ?_
 refine cl_ (hc:=c83 kd ⟨1,c.to,[],0,0,[]⟩ .full 231 _ _ (get_setapp hkl) (by exact ⟨clL_dgV _ _,trivial,trivial,trivial,trivial,(by first | exact clL_str _ _ | exact clL_str_tail _ _ | simp [AV.clL, -List.map_map]),trivial,trivial,trivial,trivial,trivial,trivial,trivial,trivial,trivial,AV.cl_mono (by simp only [List.length_append,List.length_set];omega) _ hpc,(by first | exact nxM_cl (by simp only [List.length_append,List.length_set];omega) _ | exact ⟨⟨show kd<_ from (by simp only [List.length_append,List.length_set];omega),trivial⟩,trivial⟩ | trivial),trivial⟩)) (k:=?_)
 refine srt_ ?_
 refine gq_ (h1:=h.set kd _) Tryz.results182 ?_ (hcl:=(by first | exact ⟨⟨clL_caC _ _,trivial,trivial⟩,trivial⟩ | exact ⟨clL_caC _ _,trivial,trivial⟩ | simp [AV.cl,AV.clL,clL_caP])) (hh:=(⟨_,rfl⟩)) (hH:=(HCl.set hH kd (by exact ⟨clL_dgV _ _,trivial,trivial,trivial,trivial,(by first | exact clL_str _ _ | exact clL_str_tail _ _ | simp [AV.clL, -List.map_map]),trivial,trivial,trivial,trivial,trivial,trivial,trivial,trivial,trivial,hpc,(by first | exact nxM_cl hkl _ | exact ⟨⟨show kd<_ from hkl,trivial⟩,trivial⟩ | trivial),trivial⟩)))
 have e:cmLooked c r=_:=(if_neg (by omega)).trans (if_neg hb2)
 rw [e]
 exact ⟨rfl, _, _,rfl,Keeps.refl hc⟩
theorem c291 (kd:Nat) (cd cl:Cap) (pc:AV) (c:Cm) (h:List Blk) (live:List Nat) (hk:h[kd]? = some (.cells (cmC kd cd cl pc c))) (hc:CapOK live cd) (hpc:pc.cl h.length) (htg:c.tgt.length≤1000) (hlf:c.left.length≤1000) (hlb:∀f∈c.left,f.length≤1000) (r:Rs) (hdg:c.dg.length≤1000000):ACalls Tryz.prog 291 [.ptr kd 0,.agg (rsC r)] h live (srcK kd pc cd h live (cmOwned c r)):=by
 refine aq_ Tryz.func291 fun hH hX=>?_
 have hkl:=lt_of_get hk
 unfold cmC at hk
 have hpq:=fun g:List Blk=>atApp (g:=g) hk
 have hs1:∀(y:Blk) (g:List Blk),(h++g).set kd y=h.set kd y++g:=fun y g=>setApp hk
 have hcm:=fun (g:List Blk) (a b:Cap) (c:Cm)=>clL_cmC (m:=(h++g).length) (kd:=kd) (by rw [List.length_append];omega) a b (AV.cl_mono (by rw [List.length_append];omega) pc hpc) c
 have sx:=(And.intro @hpq (And.intro @hs1 sx0))
 refine rg_ [0,3,4] ?_
 refine rg_ [0,3,4,6] ?_
 refine sk_ fun K1 hK1=>?_
 refine rg_ [0,4,6,14] ?_
 refine cx_ (fun hb1=>?_) (fun hb1=>?_)
 ·
  refine rt_ [0,4,6] ?_
  refine srn_ ?_
  refine hK1 _ ?_
  refine rs_ [4,5] ?_
  refine sg_ ?_
  first
   | refine cl_ (hc:=c83 kd ⟨5,c.to,[],bits .andNot .i64 c.s.mode 3072,0,[]⟩ .full 304 _ _ (atApp hk) (by exact ⟨clL_dgV _ _,trivial,trivial,trivial,trivial,(by first | exact clL_str _ _ | exact clL_str_tail _ _ | simp [AV.clL, -List.map_map]),trivial,trivial,trivial,trivial,trivial,trivial,trivial,trivial,trivial,AV.cl_mono (by simp only [List.length_append,List.length_set];omega) _ hpc,(by first | exact nxM_cl (by simp only [List.length_append,List.length_set];omega) _ | exact ⟨⟨show kd<_ from (by simp only [List.length_append,List.length_set];omega),trivial⟩,trivial⟩ | trivial),trivial⟩)) (k:=?_);fail_if_success (have:=(show r.err=0 from by assumption);skip)
   | refine cl_ (hc:=c83 kd ⟨5,c.to,[],c.s.mode,0,[]⟩ .full 304 _ _ (atApp hk) (by exact ⟨clL_dgV _ _,trivial,trivial,trivial,trivial,(by first | exact clL_str _ _ | exact clL_str_tail _ _ | simp [AV.clL, -List.map_map]),trivial,trivial,trivial,trivial,trivial,trivial,trivial,trivial,trivial,AV.cl_mono (by simp only [List.length_append,List.length_set];omega) _ hpc,(by first | exact nxM_cl (by simp only [List.length_append,List.length_set];omega) _ | exact ⟨⟨show kd<_ from (by simp only [List.length_append,List.length_set];omega),trivial⟩,trivial⟩ | trivial),trivial⟩)) (k:=?_)
  refine srt_ ?_
  refine gq_ (h1:=h.set kd _) Tryz.results291 ?_ (hcl:=(by first | exact ⟨⟨clL_caC _ _,trivial,trivial⟩,trivial⟩ | exact ⟨clL_caC _ _,trivial,trivial⟩ | simp [AV.cl,AV.clL,clL_caP])) (hh:=(⟨_,rfl⟩)) (hH:=(HCl.set hH kd (by exact ⟨clL_dgV _ _,trivial,trivial,trivial,trivial,(by first | exact clL_str _ _ | exact clL_str_tail _ _ | simp [AV.clL, -List.map_map]),trivial,trivial,trivial,trivial,trivial,trivial,trivial,trivial,trivial,hpc,(by first | exact nxM_cl hkl _ | exact ⟨⟨show kd<_ from hkl,trivial⟩,trivial⟩ | trivial),trivial⟩)))
  have e:(if r.err≠0 then bits .andNot .i64 c.s.mode 3072 else c.s.mode)=_:=if_pos hb1
  unfold cmOwned
  rw [e]
  exact ⟨rfl, _, _,rfl,Keeps.refl hc⟩
 refine skp_ ?_
 refine hK1 _ ?_
 refine rs_ [4,5] ?_
 refine sg_ ?_
 first
  | refine cl_ (hc:=c83 kd ⟨5,c.to,[],bits .andNot .i64 c.s.mode 3072,0,[]⟩ .full 304 _ _ (atApp hk) (by exact ⟨clL_dgV _ _,trivial,trivial,trivial,trivial,(by first | exact clL_str _ _ | exact clL_str_tail _ _ | simp [AV.clL, -List.map_map]),trivial,trivial,trivial,trivial,trivial,trivial,trivial,trivial,trivial,AV.cl_mono (by simp only [List.length_append,List.length_set];omega) _ hpc,(by first | exact nxM_cl (by simp only [List.length_append,List.length_set];omega) _ | exact ⟨⟨show kd<_ from (by simp only [List.length_append,List.length_set];omega),trivial⟩,trivial⟩ | trivial),trivial⟩)) (k:=?_);fail_if_success (have:=(show r.err=0 from by assumption);skip)
  | refine cl_ (hc:=c83 kd ⟨5,c.to,[],c.s.mode,0,[]⟩ .full 304 _ _ (atApp hk) (by exact ⟨clL_dgV _ _,trivial,trivial,trivial,trivial,(by first | exact clL_str _ _ | exact clL_str_tail _ _ | simp [AV.clL, -List.map_map]),trivial,trivial,trivial,trivial,trivial,trivial,trivial,trivial,trivial,AV.cl_mono (by simp only [List.length_append,List.length_set];omega) _ hpc,(by first | exact nxM_cl (by simp only [List.length_append,List.length_set];omega) _ | exact ⟨⟨show kd<_ from (by simp only [List.length_append,List.length_set];omega),trivial⟩,trivial⟩ | trivial),trivial⟩)) (k:=?_)
 refine srt_ ?_
 refine gq_ (h1:=h.set kd _) Tryz.results291 ?_ (hcl:=(by first | exact ⟨⟨clL_caC _ _,trivial,trivial⟩,trivial⟩ | exact ⟨clL_caC _ _,trivial,trivial⟩ | simp [AV.cl,AV.clL,clL_caP])) (hh:=(⟨_,rfl⟩)) (hH:=(HCl.set hH kd (by exact ⟨clL_dgV _ _,trivial,trivial,trivial,trivial,(by first | exact clL_str _ _ | exact clL_str_tail _ _ | simp [AV.clL, -List.map_map]),trivial,trivial,trivial,trivial,trivial,trivial,trivial,trivial,trivial,hpc,(by first | exact nxM_cl hkl _ | exact ⟨⟨show kd<_ from hkl,trivial⟩,trivial⟩ | trivial),trivial⟩)))
 have e:(if r.err≠0 then bits .andNot .i64 c.s.mode 3072 else c.s.mode)=_:=if_neg (by omega)
 unfold cmOwned
 rw [e]
 exact ⟨rfl, _, _,rfl,Keeps.refl hc⟩
theorem c304 (kd:Nat) (cd cl:Cap) (pc:AV) (c:Cm) (h:List Blk) (live:List Nat) (hk:h[kd]? = some (.cells (cmC kd cd cl pc c))) (hc:CapOK live cd) (hpc:pc.cl h.length) (htg:c.tgt.length≤1000) (hlf:c.left.length≤1000) (hlb:∀f∈c.left,f.length≤1000) (r:Rs) (hdg:c.dg.length≤1000000):ACalls Tryz.prog 304 [.ptr kd 0,.agg (rsC r)] h live (srcK kd pc cd h live (cmDone c r)):=by
 refine aq_ Tryz.func304 fun hH hX=>?_
 have hkl:=lt_of_get hk
 unfold cmC at hk
 have hpq:=fun g:List Blk=>atApp (g:=g) hk
 have hs1:∀(y:Blk) (g:List Blk),(h++g).set kd y=h.set kd y++g:=fun y g=>setApp hk
 have hcm:=fun (g:List Blk) (a b:Cap) (c:Cm)=>clL_cmC (m:=(h++g).length) (kd:=kd) (by rw [List.length_append];omega) a b (AV.cl_mono (by rw [List.length_append];omega) pc hpc) c
 have sx:=(And.intro @hpq (And.intro @hs1 sx0))
 refine rg_ [0,3,4] ?_
 refine sk_ fun K1 hK1=>?_
 refine rg_ [0,3,4,8] ?_
 refine cx_ (fun hb1=>?_) (fun hb1=>?_)
 ·
  refine rsq_ [4,5] ⟨false,[],[],[],[],[],0⟩ (fun _=>⟨by kernel_rfl,by kernel_rfl⟩) ?_
  refine sg_ ?_
  refine ck_ (k:=?_)
  refine ACalls.mono ?_ (c230 kd cd _ pc (c) _ _ (atApp hk) hc (AV.cl_mono (by simp only [List.length_append,List.length_set];omega) _ hpc) htg hlf hlb _ _ (by assumption));rintro _ _ live3 ⟨rfl,cd3,cl3,rfl,hk3⟩
  refine srt_ ?_
  refine gq_ (h1:=h.set kd _) Tryz.results304 ?_ (hcl:=(by first | exact ⟨⟨clL_caC _ _,trivial,trivial⟩,trivial⟩ | exact ⟨clL_caC _ _,trivial,trivial⟩ | simp [AV.cl,AV.clL,clL_caP])) (hh:=(⟨_,rfl⟩)) (hH:=(HCl.set hH kd (by exact ⟨clL_dgV _ _,trivial,trivial,trivial,trivial,(by first | exact clL_str _ _ | exact clL_str_tail _ _ | simp [AV.clL, -List.map_map]),trivial,trivial,trivial,trivial,trivial,trivial,trivial,trivial,trivial,hpc,(by first | exact nxM_cl hkl _ | exact ⟨⟨show kd<_ from hkl,trivial⟩,trivial⟩ | trivial),trivial⟩)))
  have e:cmDone c r=_:=if_pos hb1
  rw [e]
  exact ⟨rfl, _, _,rfl,hk3⟩
 refine skp_ ?_
 refine hK1 _ ?_
 refine rs_ [4,5] ?_
 refine sg_ ?_
 refine ck_ (k:=?_)
 refine ACalls.mono ?_ (c120 kd cd _ pc (c) _ _ (atApp hk) hc (AV.cl_mono (by simp only [List.length_append,List.length_set];omega) _ hpc) htg hlf hlb);rintro _ _ live3 ⟨rfl,cd3,cl3,rfl,hk3⟩
 refine srt_ ?_
 refine gq_ (h1:=h.set kd _) Tryz.results304 ?_ (hcl:=(by first | exact ⟨⟨clL_caC _ _,trivial,trivial⟩,trivial⟩ | exact ⟨clL_caC _ _,trivial,trivial⟩ | simp [AV.cl,AV.clL,clL_caP])) (hh:=(⟨_,rfl⟩)) (hH:=(HCl.set hH kd (by exact ⟨clL_dgV _ _,trivial,trivial,trivial,trivial,(by first | exact clL_str _ _ | exact clL_str_tail _ _ | simp [AV.clL, -List.map_map]),trivial,trivial,trivial,trivial,trivial,trivial,trivial,trivial,trivial,hpc,(by first | exact nxM_cl hkl _ | exact ⟨⟨show kd<_ from hkl,trivial⟩,trivial⟩ | trivial),trivial⟩)))
 have e:cmDone c r=_:=if_neg (by omega)
 rw [e]
 exact ⟨rfl, _, _,rfl,hk3⟩
end Go.Proofs.YtmgnbgniikjhdaaGreat
