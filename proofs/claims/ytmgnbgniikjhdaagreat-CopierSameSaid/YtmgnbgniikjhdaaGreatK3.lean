import Derived.Test.YtmgnbgniikjhdaaGreatK2
/-
  CP: a file that is copied, call by call: its walk.
-/
set_option linter.unusedVariables false
set_option linter.unusedSimpArgs false
namespace Go.Proofs.YtmgnbgniikjhdaaGreat
open Go.Ab
set_option maxRecDepth 8000
set_option maxHeartbeats 400000
def nxC (kc:Nat):Nat→AV
 | 0=>.raw .nilFunc
 | 1=>.fn (.func 42) [.ptr kc 0] []
 | 2=>.fn (.func 68) [.ptr kc 0] []
 | 3=>.fn (.func 103) [.ptr kc 0] []
 | 4=>.fn (.func 216) [.ptr kc 0] []
 | 5=>.fn (.func 258) [.ptr kc 0] []
 | 6=>.fn (.func 153) [.ptr kc 0] []
 | _=>.fn (.func 102) [.ptr kc 0] []
def cpC (kc:Nat) (c:Cp):List AV:=[.str c.fr,.str c.to,.int .i64 c.fl,.int .i64 c.md,.int .i64 c.a,.int .i64 c.b,.int .i64 c.n,.str c.wp,.int .i64 c.we,nxC kc c.nx]
def kV (x:Ca×Bool):AV:=.tup [.agg (caC x.1),.bool x.2]
theorem nxC_cl {m kc:Nat} (h:kc<m):∀n,(nxC kc n).cl m
 | 0=>trivial
 | 1 | 2 | 3 | 4 | 5 | 6=>⟨⟨h,trivial⟩,trivial⟩
 | _+7=>⟨⟨h,trivial⟩,trivial⟩
theorem clL_cpC {m kc:Nat} (h:kc<m) (c:Cp):AV.clL m (cpC kc c):=⟨trivial,trivial,trivial,trivial,trivial,trivial,trivial,trivial,trivial,nxC_cl h _,trivial⟩
theorem clL_caC (m:Nat) (c:Ca):AV.clL m (caC c):=⟨trivial,trivial,trivial,trivial,trivial,clL_bV _ _,trivial⟩
theorem kV_eq (x:Ca×Bool):kV x=.tup [.agg (caC x.1),.bool x.2]:=rfl
attribute [push_cast] kV_eq
theorem er_caC (c:Ca):AV.erL (caC c)=caC c:=by
 show [AV.int .i64 c.kind,.str c.path,.str c.other,.int .i64 c.a,.int .i64 c.b,(AV.slice (c.data.map bV) .none).er]=_
 simp only [AV.er,erL_bV];rfl
theorem ca_put (a b c d e f:AV) (k:Ca):putAt [a,b,c,d,e,f] 0 (caC k)=caC k:=rfl
attribute [push_cast] ca_put
theorem clL_caP (m:Nat) (a b c d e f:AV) (k:Ca):AV.clL m (AV.erL (List.take 6 (putAt [a,b,c,d,e,f] 0 (caC k)))):=by
 rw [show AV.erL (List.take 6 (putAt [a,b,c,d,e,f] 0 (caC k)))=caC k from er_caC k];exact clL_caC m k
attribute [push_cast] clL_cpC clL_caC er_caC clL_caP
theorem c67 (kc:Nat) (k:Ca) (cp:Cap) (f:FuncId) {x0 x1 x2 x3 x4 x5 x6 x7 x8 x9:AV} (h:List Blk) (live:List Nat) (hk:h[kc]? = some (.cells [x0,x1,x2,x3,x4,x5,x6,x7,x8,x9])) (hcl:AV.clL h.length [x0,x1,x2,x3,x4,x5,x6,x7,x8,x9])  : ACalls Tryz.prog 67 [.ptr kc 0,.fn (.func f) [.ptr kc 0] [],.agg [.int .i64 k.kind,.str k.path,.str k.other,.int .i64 k.a,.int .i64 k.b,.slice (k.data.map bV) cp]] h live (ret (kV (k,true)) (h.set kc (.cells [x0,x1,x2,x3,x4,x5,x6,x7,x8,.fn (.func f) [.ptr kc 0] []])) live):=by
 refine aq_ Tryz.func67 fun hH hX=>?_
 have hkl:=lt_of_get hk
 have hpq:=fun g:List Blk=>atApp (g:=g) hk
 have hs1:∀(y:Blk) (g:List Blk),(h++g).set kc y=h.set kc y++g:=fun y g=>setApp hk
 have sx:=(And.intro @hpq (And.intro @hs1 sx0))
 refine rg_ [0,1,5,6] ?_
 refine rg_ [5,6] ?_
 refine rg_ [6,7] ?_
 refine ret_ ?_
 refine gq_ (h1:=h.set kc _) Tryz.results67 ?_ (hcl:=(by simp [AV.cl,AV.clL,clL_bV, -List.map_map])) (hh:=(⟨_,rfl⟩)) (hH:=(HCl.set hH kc (by simp only [AV.clL,Blk.cl] at hcl ⊢;exact ⟨hcl.1,hcl.2.1,hcl.2.2.1,hcl.2.2.2.1,hcl.2.2.2.2.1,hcl.2.2.2.2.2.1,hcl.2.2.2.2.2.2.1,hcl.2.2.2.2.2.2.2.1,hcl.2.2.2.2.2.2.2.2.1,⟨⟨hkl,trivial⟩,trivial⟩,trivial⟩)))
 exact rk_ rfl
theorem c42 (kc:Nat) (c:Cp) (r:Rs) (h:List Blk) (live:List Nat) (hk:h[kc]? = some (.cells (cpC kc c))):ACalls Tryz.prog 42 [.ptr kc 0,.agg (rsC r)] h live (ret (kV (cpFirst c).1) (h.set kc (.cells (cpC kc (cpFirst c).2))) live):=by
 refine aq_ Tryz.func42 fun hH hX=>?_
 have hkl:=lt_of_get hk
 unfold cpC at hk
 have hpq:=fun g:List Blk=>atApp (g:=g) hk
 have hs1:∀(y:Blk) (g:List Blk),(h++g).set kc y=h.set kc y++g:=fun y g=>setApp hk
 have sx:=(And.intro @hpq (And.intro @hs1 sx0))
 refine rg_ [0,4] ?_
 refine rs_ [4,5] ?_
 refine sg_ ?_
 refine cl_ (hc:=c67 kc ⟨13,c.fr,[],1,0,[]⟩ .full 68 _ _ (atApp hk) (by exact ⟨trivial,trivial,trivial,trivial,trivial,trivial,trivial,trivial,trivial,(by first | exact nxC_cl (by simp only [List.length_append,List.length_set];omega) _ | trivial),trivial⟩)) (k:=?_)
 refine srt_ ?_
 refine gq_ (h1:=h.set kc _) Tryz.results42 ?_ (hcl:=(by first | exact ⟨⟨clL_caC _ _,trivial,trivial⟩,trivial⟩ | exact ⟨clL_caC _ _,trivial,trivial⟩ | simp [AV.cl,AV.clL,clL_caP])) (hh:=(⟨_,rfl⟩)) (hH:=(HCl.set hH kc ⟨trivial,trivial,trivial,trivial,trivial,trivial,trivial,trivial,trivial,(by first | exact nxC_cl hkl _ | trivial),trivial⟩))
 exact rk_ rfl
theorem c153 (kc:Nat) (c:Cp) (r:Rs) (h:List Blk) (live:List Nat) (hk:h[kc]? = some (.cells (cpC kc c))):ACalls Tryz.prog 153 [.ptr kc 0,.agg (rsC r)] h live (ret (kV (cpShut c).1) (h.set kc (.cells (cpC kc (cpShut c).2))) live):=by
 refine aq_ Tryz.func153 fun hH hX=>?_
 have hkl:=lt_of_get hk
 unfold cpC at hk
 have hpq:=fun g:List Blk=>atApp (g:=g) hk
 have hs1:∀(y:Blk) (g:List Blk),(h++g).set kc y=h.set kc y++g:=fun y g=>setApp hk
 have sx:=(And.intro @hpq (And.intro @hs1 sx0))
 refine rg_ [0,4] ?_
 refine rs_ [4,5] ?_
 refine sg_ ?_
 refine cl_ (hc:=c67 kc ⟨16,[],[],c.a,0,[]⟩ .full 102 _ _ (atApp hk) (by exact ⟨trivial,trivial,trivial,trivial,trivial,trivial,trivial,trivial,trivial,(by first | exact nxC_cl (by simp only [List.length_append,List.length_set];omega) _ | trivial),trivial⟩)) (k:=?_)
 refine srt_ ?_
 refine gq_ (h1:=h.set kc _) Tryz.results153 ?_ (hcl:=(by first | exact ⟨⟨clL_caC _ _,trivial,trivial⟩,trivial⟩ | exact ⟨clL_caC _ _,trivial,trivial⟩ | simp [AV.cl,AV.clL,clL_caP])) (hh:=(⟨_,rfl⟩)) (hH:=(HCl.set hH kc ⟨trivial,trivial,trivial,trivial,trivial,trivial,trivial,trivial,trivial,(by first | exact nxC_cl hkl _ | trivial),trivial⟩))
 exact rk_ rfl
theorem c102 (kc:Nat) (c:Cp) (r:Rs) (h:List Blk) (live:List Nat) (hk:h[kc]? = some (.cells (cpC kc c))):ACalls Tryz.prog 102 [.ptr kc 0,.agg (rsC r)] h live (ret (kV (cpEnd c).1) (h.set kc (.cells (cpC kc (cpEnd c).2))) live):=by
 refine aq_ Tryz.func102 fun hH hX=>?_
 have hkl:=lt_of_get hk
 unfold cpC at hk
 have hpq:=fun g:List Blk=>atApp (g:=g) hk
 have hs1:∀(y:Blk) (g:List Blk),(h++g).set kc y=h.set kc y++g:=fun y g=>setApp hk
 have sx:=(And.intro @hpq (And.intro @hs1 sx0))
 refine rg_ [0,4] ?_
 refine rg_ [4] ?_
 refine rg_ [4,5] ?_
 refine ret_ ?_
 refine gq_ (h1:=h.set kc _) Tryz.results102 ?_ (hcl:=(by first | exact ⟨⟨clL_caC _ _,trivial,trivial⟩,trivial⟩ | exact ⟨clL_caC _ _,trivial,trivial⟩ | simp [AV.cl,AV.clL,clL_caP])) (hh:=(⟨_,rfl⟩)) (hH:=(HCl.set hH kc ⟨trivial,trivial,trivial,trivial,trivial,trivial,trivial,trivial,trivial,(by first | exact nxC_cl hkl _ | trivial),trivial⟩))
 exact rk_ rfl
theorem c154 (kc:Nat) (c:Cp) (r:Rs) (h:List Blk) (live:List Nat) (hk:h[kc]? = some (.cells (cpC kc c))):ACalls Tryz.prog 154 [.ptr kc 0,.agg (rsC r)] h live (ret (kV (cpRead c).1) (h.set kc (.cells (cpC kc (cpRead c).2))) live):=by
 refine aq_ Tryz.func154 fun hH hX=>?_
 have hkl:=lt_of_get hk
 unfold cpC at hk
 have hpq:=fun g:List Blk=>atApp (g:=g) hk
 have hs1:∀(y:Blk) (g:List Blk),(h++g).set kc y=h.set kc y++g:=fun y g=>setApp hk
 have sx:=(And.intro @hpq (And.intro @hs1 sx0))
 refine rg_ [0,4] ?_
 refine rg_ [0,4] ?_
 refine rs_ [4,5] ?_
 refine sg_ ?_
 refine cl_ (hc:=c67 kc ⟨14,[],[],c.a,8,[]⟩ .full 216 _ _ (get_setapp hkl) (by exact ⟨trivial,trivial,trivial,trivial,trivial,trivial,trivial,trivial,trivial,(by first | exact nxC_cl (by simp only [List.length_append,List.length_set];omega) _ | trivial),trivial⟩)) (k:=?_)
 refine srt_ ?_
 refine gq_ (h1:=h.set kc _) Tryz.results154 ?_ (hcl:=(by first | exact ⟨⟨clL_caC _ _,trivial,trivial⟩,trivial⟩ | exact ⟨clL_caC _ _,trivial,trivial⟩ | simp [AV.cl,AV.clL,clL_caP])) (hh:=(⟨_,rfl⟩)) (hH:=(HCl.set hH kc ⟨trivial,trivial,trivial,trivial,trivial,trivial,trivial,trivial,trivial,(by first | exact nxC_cl hkl _ | trivial),trivial⟩))
 exact rk_ rfl
theorem c68 (kc:Nat) (c:Cp) (r:Rs) (h:List Blk) (live:List Nat) (hk:h[kc]? = some (.cells (cpC kc c))):ACalls Tryz.prog 68 [.ptr kc 0,.agg (rsC r)] h live (ret (kV (cpOpened c r).1) (h.set kc (.cells (cpC kc (cpOpened c r).2))) live):=by
 refine aq_ Tryz.func68 fun hH hX=>?_
 have hkl:=lt_of_get hk
 unfold cpC at hk
 have hpq:=fun g:List Blk=>atApp (g:=g) hk
 have hs1:∀(y:Blk) (g:List Blk),(h++g).set kc y=h.set kc y++g:=fun y g=>setApp hk
 have sx:=(And.intro @hpq (And.intro @hs1 sx0))
 refine rg_ [0,3,4] ?_
 refine sk_ fun K1 hK1=>?_
 refine rg_ [0,3,4,8] ?_
 refine cx_ (fun hb1=>?_) (fun hb1=>?_)
 ·
  refine rsq_ [0,3,4] ⟨false,[],[],[],[],[],0⟩ (fun _=>⟨by kernel_rfl,by kernel_rfl⟩) ?_
  refine sre_ ?_
  refine rs_ [4,5] ?_
  refine sg_ ?_
  refine cl_ (hc:=c102 kc ({ c with wp:=c.fr,we:=r.err }) r _ _ (get_setapp hkl)) (k:=?_)
  refine srt_ ?_
  refine gq_ (h1:=h.set kc _) Tryz.results68 ?_ (hcl:=(by first | exact ⟨⟨clL_caC _ _,trivial,trivial⟩,trivial⟩ | exact ⟨clL_caC _ _,trivial,trivial⟩ | simp [AV.cl,AV.clL,clL_caP])) (hh:=(⟨_,rfl⟩)) (hH:=(HCl.set hH kc ⟨trivial,trivial,trivial,trivial,trivial,trivial,trivial,trivial,trivial,(by first | exact nxC_cl hkl _ | trivial),trivial⟩))
  have e:cpOpened c r=_:=if_pos hb1
  rw [e]
  exact ⟨rfl,rfl,rfl⟩
 refine skp_ ?_
 refine hK1 _ ?_
 refine rg_ [0,4] ?_
 refine rsq_ [4,5] ⟨false,[],[],[],[],[],0⟩ (fun _=>⟨by kernel_rfl,by kernel_rfl⟩) ?_
 refine sg_ ?_
 refine cl_ (hc:=c67 kc ⟨13,c.to,[],c.fl,c.md,[]⟩ .full 103 _ _ (get_setapp hkl) (by exact ⟨trivial,trivial,trivial,trivial,trivial,trivial,trivial,trivial,trivial,(by first | exact nxC_cl (by simp only [List.length_append,List.length_set];omega) _ | trivial),trivial⟩)) (k:=?_)
 refine srt_ ?_
 refine gq_ (h1:=h.set kc _) Tryz.results68 ?_ (hcl:=(by first | exact ⟨⟨clL_caC _ _,trivial,trivial⟩,trivial⟩ | exact ⟨clL_caC _ _,trivial,trivial⟩ | simp [AV.cl,AV.clL,clL_caP])) (hh:=(⟨_,rfl⟩)) (hH:=(HCl.set hH kc ⟨trivial,trivial,trivial,trivial,trivial,trivial,trivial,trivial,trivial,(by first | exact nxC_cl hkl _ | trivial),trivial⟩))
 have e:cpOpened c r=_:=if_neg (by omega)
 rw [e]
 exact ⟨rfl,rfl,rfl⟩
theorem c103 (kc:Nat) (c:Cp) (r:Rs) (h:List Blk) (live:List Nat) (hk:h[kc]? = some (.cells (cpC kc c))):ACalls Tryz.prog 103 [.ptr kc 0,.agg (rsC r)] h live (ret (kV (cpBoth c r).1) (h.set kc (.cells (cpC kc (cpBoth c r).2))) live):=by
 refine aq_ Tryz.func103 fun hH hX=>?_
 have hkl:=lt_of_get hk
 unfold cpC at hk
 have hpq:=fun g:List Blk=>atApp (g:=g) hk
 have hs1:∀(y:Blk) (g:List Blk),(h++g).set kc y=h.set kc y++g:=fun y g=>setApp hk
 have sx:=(And.intro @hpq (And.intro @hs1 sx0))
 refine rg_ [0,3,4] ?_
 refine sk_ fun K1 hK1=>?_
 refine rg_ [0,3,4,8] ?_
 refine cx_ (fun hb1=>?_) (fun hb1=>?_)
 ·
  refine rsq_ [0,3,4] ⟨false,[],[],[],[],[],0⟩ (fun _=>⟨by kernel_rfl,by kernel_rfl⟩) ?_
  refine sre_ ?_
  refine rs_ [4,5] ?_
  refine sg_ ?_
  refine cl_ (hc:=c153 kc ({ c with wp:=c.to,we:=r.err }) r _ _ (get_setapp hkl)) (k:=?_)
  refine srt_ ?_
  refine gq_ (h1:=h.set kc _) Tryz.results103 ?_ (hcl:=(by first | exact ⟨⟨clL_caC _ _,trivial,trivial⟩,trivial⟩ | exact ⟨clL_caC _ _,trivial,trivial⟩ | simp [AV.cl,AV.clL,clL_caP])) (hh:=(⟨_,rfl⟩)) (hH:=(HCl.set hH kc ⟨trivial,trivial,trivial,trivial,trivial,trivial,trivial,trivial,trivial,(by first | exact nxC_cl hkl _ | trivial),trivial⟩))
  have e:cpBoth c r=_:=if_pos hb1
  rw [e]
  exact ⟨rfl,rfl,rfl⟩
 refine skp_ ?_
 refine hK1 _ ?_
 refine rg_ [0,3,4] ?_
 refine rs_ [4,5] ?_
 refine sg_ ?_
 refine cl_ (hc:=c154 kc ({ c with b:=r.n }) r _ _ (get_setapp hkl)) (k:=?_)
 refine srt_ ?_
 refine gq_ (h1:=h.set kc _) Tryz.results103 ?_ (hcl:=(by first | exact ⟨⟨clL_caC _ _,trivial,trivial⟩,trivial⟩ | exact ⟨clL_caC _ _,trivial,trivial⟩ | simp [AV.cl,AV.clL,clL_caP])) (hh:=(⟨_,rfl⟩)) (hH:=(HCl.set hH kc ⟨trivial,trivial,trivial,trivial,trivial,trivial,trivial,trivial,trivial,(by first | exact nxC_cl hkl _ | trivial),trivial⟩))
 have e:cpBoth c r=_:=if_neg (by omega)
 rw [e]
 exact ⟨rfl,rfl,rfl⟩
theorem c258 (kc:Nat) (c:Cp) (r:Rs) (h:List Blk) (live:List Nat) (hk:h[kc]? = some (.cells (cpC kc c))):ACalls Tryz.prog 258 [.ptr kc 0,.agg (rsC r)] h live (ret (kV (cpPut c r).1) (h.set kc (.cells (cpC kc (cpPut c r).2))) live):=by
 refine aq_ Tryz.func258 fun hH hX=>?_
 have hkl:=lt_of_get hk
 unfold cpC at hk
 have hpq:=fun g:List Blk=>atApp (g:=g) hk
 have hs1:∀(y:Blk) (g:List Blk),(h++g).set kc y=h.set kc y++g:=fun y g=>setApp hk
 have sx:=(And.intro @hpq (And.intro @hs1 sx0))
 refine rg_ [0,3,4] ?_
 refine sk_ fun K1 hK1=>?_
 refine rg_ [0,3,4,8] ?_
 refine cx_ (fun hb1=>?_) (fun hb1=>?_)
 ·
  refine rsq_ [0,4] ⟨false,[],[],[],[],[],0⟩ (fun _=>⟨by kernel_rfl,by kernel_rfl⟩) ?_
  refine sre_ ?_
  refine rs_ [4,5] ?_
  refine sg_ ?_
  refine cl_ (hc:=c67 kc ⟨16,[],[],c.b,0,[]⟩ .full 153 _ _ (get_setapp hkl) (by exact ⟨trivial,trivial,trivial,trivial,trivial,trivial,trivial,trivial,trivial,(by first | exact nxC_cl (by simp only [List.length_append,List.length_set];omega) _ | trivial),trivial⟩)) (k:=?_)
  refine srt_ ?_
  refine gq_ (h1:=h.set kc _) Tryz.results258 ?_ (hcl:=(by first | exact ⟨⟨clL_caC _ _,trivial,trivial⟩,trivial⟩ | exact ⟨clL_caC _ _,trivial,trivial⟩ | simp [AV.cl,AV.clL,clL_caP])) (hh:=(⟨_,rfl⟩)) (hH:=(HCl.set hH kc ⟨trivial,trivial,trivial,trivial,trivial,trivial,trivial,trivial,trivial,(by first | exact nxC_cl hkl _ | trivial),trivial⟩))
  have e:cpPut c r=_:=if_pos hb1
  rw [e]
  exact ⟨rfl,rfl,rfl⟩
 refine skp_ ?_
 refine hK1 _ ?_
 refine rs_ [4,5] ?_
 refine sg_ ?_
 refine cl_ (hc:=c154 kc (c) r _ _ (atApp hk)) (k:=?_)
 refine srt_ ?_
 refine gq_ (h1:=h.set kc _) Tryz.results258 ?_ (hcl:=(by first | exact ⟨⟨clL_caC _ _,trivial,trivial⟩,trivial⟩ | exact ⟨clL_caC _ _,trivial,trivial⟩ | simp [AV.cl,AV.clL,clL_caP])) (hh:=(⟨_,rfl⟩)) (hH:=(HCl.set hH kc ⟨trivial,trivial,trivial,trivial,trivial,trivial,trivial,trivial,trivial,(by first | exact nxC_cl hkl _ | trivial),trivial⟩))
 have e:cpPut c r=_:=if_neg (by omega)
 rw [e]
 exact ⟨rfl,rfl,rfl⟩
theorem c216 (kc:Nat) (c:Cp) (r:Rs) (h:List Blk) (live:List Nat) (hk:h[kc]? = some (.cells (cpC kc c))):ACalls Tryz.prog 216 [.ptr kc 0,.agg (rsC r)] h live (ret (kV (cpGot c r).1) (h.set kc (.cells (cpC kc (cpGot c r).2))) live):=by
 refine aq_ Tryz.func216 fun hH hX=>?_
 have hkl:=lt_of_get hk
 unfold cpC at hk
 have hpq:=fun g:List Blk=>atApp (g:=g) hk
 have hs1:∀(y:Blk) (g:List Blk),(h++g).set kc y=h.set kc y++g:=fun y g=>setApp hk
 have sx:=(And.intro @hpq (And.intro @hs1 sx0))
 refine rg_ [0,3,4] ?_
 refine sk_ fun K1 hK1=>?_
 refine awp_block ?_
 refine rg_ [0,3,4,19] ?_
 refine cx_ (fun hb1=>?_) (fun hb1=>?_)
 ·
  refine rtq_ [0,4] ⟨false,[],[],[],[],[],0⟩ (fun _=>⟨by kernel_rfl,by kernel_rfl⟩) ?_
  refine srn_ ?_
  refine hK1 _ ?_
  refine rs_ [4,5] ?_
  refine sg_ ?_
  refine cl_ (hc:=c67 kc ⟨16,[],[],c.b,0,[]⟩ .full 153 _ _ (by first | exact get_setapp hkl | exact atApp hk) (by exact ⟨trivial,trivial,trivial,trivial,trivial,trivial,trivial,trivial,trivial,(by first | exact nxC_cl (by simp only [List.length_append,List.length_set];omega) _ | trivial),trivial⟩)) (k:=?_)
  refine srt_ ?_
  refine gq_ (h1:=h.set kc _) Tryz.results216 ?_ (hcl:=(by first | exact ⟨⟨clL_caC _ _,trivial,trivial⟩,trivial⟩ | exact ⟨clL_caC _ _,trivial,trivial⟩ | simp [AV.cl,AV.clL,clL_caP])) (hh:=(⟨_,rfl⟩)) (hH:=(HCl.set hH kc ⟨trivial,trivial,trivial,trivial,trivial,trivial,trivial,trivial,trivial,(by first | exact nxC_cl hkl _ | trivial),trivial⟩))
  have e:cpGot c r=_:=if_pos hb1
  rw [e]
  exact ⟨rfl,rfl,rfl⟩
 refine rg_ [0,3,4,33] ?_
 refine cx_ (fun hb2=>?_) (fun hb2=>?_)
 ·
  refine skp_ ?_
  refine hK1 _ ?_
  refine rs_ [4,5] ?_
  refine sg_ ?_
  refine cl_ (hc:=c67 kc ⟨16,[],[],c.b,0,[]⟩ .full 153 _ _ (by first | exact get_setapp hkl | exact atApp hk) (by exact ⟨trivial,trivial,trivial,trivial,trivial,trivial,trivial,trivial,trivial,(by first | exact nxC_cl (by simp only [List.length_append,List.length_set];omega) _ | trivial),trivial⟩)) (k:=?_)
  refine srt_ ?_
  refine gq_ (h1:=h.set kc _) Tryz.results216 ?_ (hcl:=(by first | exact ⟨⟨clL_caC _ _,trivial,trivial⟩,trivial⟩ | exact ⟨clL_caC _ _,trivial,trivial⟩ | simp [AV.cl,AV.clL,clL_caP])) (hh:=(⟨_,rfl⟩)) (hH:=(HCl.set hH kc ⟨trivial,trivial,trivial,trivial,trivial,trivial,trivial,trivial,trivial,(by first | exact nxC_cl hkl _ | trivial),trivial⟩))
  have e:cpGot c r=_:=(if_neg (by omega)).trans (if_pos hb2)
  rw [e]
  exact ⟨rfl,rfl,rfl⟩
 refine rg_ [0,3,4,38] ?_
 refine cx_ (fun hb3=>?_) (fun hb3=>?_)
 rotate_left
 ·
  refine rsq_ [4,5] ⟨false,[],[],[],[],[],0⟩ (fun _=>⟨by kernel_rfl,by kernel_rfl⟩) ?_
  refine sg_ ?_
  refine cl_ (hc:=c67 kc ⟨15,[],[],c.b,0,r.data⟩ .none 258 _ _ (atApp hk) (by exact ⟨trivial,trivial,trivial,trivial,trivial,trivial,trivial,trivial,trivial,(by first | exact nxC_cl (by simp only [List.length_append,List.length_set];omega) _ | trivial),trivial⟩)) (k:=?_)
  refine srt_ ?_
  refine gq_ (h1:=h.set kc _) Tryz.results216 ?_ (hcl:=(by first | exact ⟨⟨clL_caC _ _,trivial,trivial⟩,trivial⟩ | exact ⟨clL_caC _ _,trivial,trivial⟩ | simp [AV.cl,AV.clL,clL_caP])) (hh:=(⟨_,rfl⟩)) (hH:=(HCl.set hH kc ⟨trivial,trivial,trivial,trivial,trivial,trivial,trivial,trivial,trivial,(by first | exact nxC_cl hkl _ | trivial),trivial⟩))
  have e:cpGot c r=_:=(if_neg (by omega)).trans ((if_neg hb2).trans (if_neg hb3))
  rw [e]
  exact ⟨rfl,rfl,rfl⟩
 refine rt_ [0,4] ?_
 refine srn_ ?_
 refine hK1 _ ?_
 refine rs_ [4,5] ?_
 refine sg_ ?_
 refine cl_ (hc:=c67 kc ⟨16,[],[],c.b,0,[]⟩ .full 153 _ _ (by first | exact get_setapp hkl | exact atApp hk) (by exact ⟨trivial,trivial,trivial,trivial,trivial,trivial,trivial,trivial,trivial,(by first | exact nxC_cl (by simp only [List.length_append,List.length_set];omega) _ | trivial),trivial⟩)) (k:=?_)
 refine srt_ ?_
 refine gq_ (h1:=h.set kc _) Tryz.results216 ?_ (hcl:=(by first | exact ⟨⟨clL_caC _ _,trivial,trivial⟩,trivial⟩ | exact ⟨clL_caC _ _,trivial,trivial⟩ | simp [AV.cl,AV.clL,clL_caP])) (hh:=(⟨_,rfl⟩)) (hH:=(HCl.set hH kc ⟨trivial,trivial,trivial,trivial,trivial,trivial,trivial,trivial,trivial,(by first | exact nxC_cl hkl _ | trivial),trivial⟩))
 have e:cpGot c r=_:=(if_neg (by omega)).trans ((if_neg hb2).trans (if_pos hb3))
 rw [e]
 exact ⟨rfl,rfl,rfl⟩
end Go.Proofs.YtmgnbgniikjhdaaGreat
