import Derived.Test.YtmgnbgniikjhdaaGreatK6
/-
  CP: what a copy, and the command, do next.
-/
set_option linter.unusedVariables false
set_option linter.unusedSimpArgs false
namespace Go.Proofs.YtmgnbgniikjhdaaGreat
open Go.Ab
set_option maxRecDepth 8000
set_option maxHeartbeats 400000
theorem cp_f (kc:Nat) (n:Nat):n=0∨∃f,nxC kc n=.fn (.func f) [.ptr kc 0] []:=by
 match n with
 | 0=>exact .inl rfl
 | 1 | 2 | 3 | 4 | 5 | 6=>exact .inr ⟨_,rfl⟩
 | _+7=>exact .inr ⟨_,rfl⟩
theorem cp_all (kc:Nat) (c:Cp) (r:Rs) (f:FuncId) (h:List Blk) (live:List Nat) (hk:h[kc]? = some (.cells (cpC kc c))) (hf:nxC kc c.nx=.fn (.func f) [.ptr kc 0] []):ACalls Tryz.prog f [.ptr kc 0,.agg (rsC r)] h live (ret (kV (cpN c r).1) (h.set kc (.cells (cpC kc (cpN c r).2))) live):=by
 obtain ⟨fr,to,fl,md,a,b,n,wp,we,nx⟩:=c
 unfold cpN
 match nx with
 | 0=>cases hf
 | 1=>cases hf;exact c42 kc _ r h live hk
 | 2=>cases hf;exact c68 kc _ r h live hk
 | 3=>cases hf;exact c103 kc _ r h live hk
 | 4=>cases hf;exact c216 kc _ r h live hk
 | 5=>cases hf;exact c258 kc _ r h live hk
 | 6=>cases hf;exact c153 kc _ r h live hk
 | _+7=>cases hf;exact c102 kc _ r h live hk
theorem n17 (kc:Nat) (c:Cp) (r:Rs) (h:List Blk) (live:List Nat) (hk:h[kc]? = some (.cells (cpC kc c))) (hn:c.nx=0):AC Tryz.prog 17 [.ptr kc 0,.agg (rsC r)] h live (kV (caN,false)):=by
 refine aq_ Tryz.func17 fun hH hX=>?_
 have hkl:=lt_of_get hk
 have hk0:=hk
 unfold cpC at hk
 have hpq:=fun g:List Blk=>atApp (g:=g) hk
 have hs1:∀(y:Blk) (g:List Blk),(h++g).set kc y=h.set kc y++g:=fun y g=>setApp hk
 have hf:nxC kc c.nx=.raw .nilFunc:=by rw [hn];rfl
 have sx:=(And.intro @hpq (And.intro @hs1 (And.intro @hf sx0)))
 refine rg_ [0,3,4] ?_
 refine sk_ fun K1 hK1=>?_
 refine rg_ [0,3,4,14] ?_
 refine cy_ (fun hb1=>?_) (fun hb1=>?_)
 ·
  refine rg_ [4,5] ?_
  refine ret_ ?_
  refine fq_ Tryz.results17 ?_
  exact rk_ rfl
 exfalso;exact Bool.noConfusion hb1
theorem z17 (r:Rs) (h:List Blk) (live:List Nat):AC Tryz.prog 17 [.raw (.pointer none),.agg (rsC r)] h live (kV (caN,false)):=by
 refine aq_ Tryz.func17 fun hH hX=>?_
 refine rg_ [0,3,4] ?_
 refine sk_ fun K1 hK1=>?_
 refine rs_ [0,3,4,14] ?_
 refine dp_ ?_
 refine dp_ ?_
 refine dp_ ?_
 iterate 5 (refine dawp_skip rfl rfl rfl ?_)
 refine sre_ ?_
 refine cy_ (fun hb1=>?_) (fun hb1=>?_)
 ·
  refine rg_ [4,5] ?_
  refine ret_ ?_
  refine fq_ Tryz.results17 ?_
  exact rk_ rfl
 exfalso;exact Bool.noConfusion hb1
theorem s17 (kc:Nat) (c:Cp) (r:Rs) (h:List Blk) (live:List Nat) (hk:h[kc]? = some (.cells (cpC kc c))) (f:FuncId) (hf:nxC kc c.nx=.fn (.func f) [.ptr kc 0] []):ACalls Tryz.prog 17 [.ptr kc 0,.agg (rsC r)] h live (ret (kV (cpN c r).1) (h.set kc (.cells (cpC kc (cpN c r).2))) live):=by
 refine aq_ Tryz.func17 fun hH hX=>?_
 have hkl:=lt_of_get hk
 have hk0:=hk
 unfold cpC at hk
 have hpq:=fun g:List Blk=>atApp (g:=g) hk
 have hs1:∀(y:Blk) (g:List Blk),(h++g).set kc y=h.set kc y++g:=fun y g=>setApp hk
 have sx:=(And.intro @hpq (And.intro @hs1 (And.intro @hf sx0)))
 refine rg_ [0,3,4] ?_
 refine sk_ fun K1 hK1=>?_
 refine rg_ [0,3,4,14] ?_
 refine cy_ (fun hb1=>?_) (fun hb1=>?_)
 · exfalso;exact Bool.noConfusion hb1
 refine skp_ ?_
 refine hK1 _ ?_
 refine rsq_ [4,5] ⟨false,[],[],[],[],[],0⟩ (fun _=>⟨by kernel_rfl,by kernel_rfl⟩) ?_
 refine sg_ ?_
 refine cl_ (hc:=cp_all kc c r f _ _ (atApp hk0) hf) (k:=?_)
 refine srt_ ?_
 refine gq_ (h1:=h.set kc _) Tryz.results17 ?_ (hcl:=(by first | exact ⟨⟨clL_caC _ _,trivial,trivial⟩,trivial⟩ | exact ⟨clL_caC _ _,trivial,trivial⟩ | simp [AV.cl,AV.clL,clL_caP])) (hh:=(⟨_,rfl⟩)) (hH:=(HCl.set hH kc (clL_cpC hkl _)))
 exact rk_ rfl
theorem c17 (kc:Nat) (c:Cp) (r:Rs) (h:List Blk) (live:List Nat) (hk:h[kc]? = some (.cells (cpC kc c))):ACalls Tryz.prog 17 [.ptr kc 0,.agg (rsC r)] h live (ret (kV (cpN c r).1) (h.set kc (.cells (cpC kc (cpN c r).2))) live):=by
 rcases cp_f kc c.nx with e | ⟨f,hf⟩
 ·
  have e2:cpN c r=((caN,false),c):=by
   obtain ⟨fr,to,fl,md,a,b,n,wp,we,nx⟩:=c
   cases e;rfl
  rw [e2,set_self hk]
  exact n17 kc c r h live hk e
 · exact s17 kc c r h live hk f hf
theorem c18 (kc:Nat) (c:Cp) (h:List Blk) (live:List Nat) (hk:h[kc]? = some (.cells (cpC kc c))):AC Tryz.prog 18 [.ptr kc 0] h live (.tup [.agg [.str c.wp,.int .i64 c.we],.bool (wrF c)]):=by
 refine aq_ Tryz.func18 fun hH hX=>?_
 have hkl:=lt_of_get hk
 have hk0:=hk
 unfold cpC at hk
 have hpq:=fun g:List Blk=>atApp (g:=g) hk
 have hs1:∀(y:Blk) (g:List Blk),(h++g).set kc y=h.set kc y++g:=fun y g=>setApp hk
 have sx:=(And.intro @hpq sx0)
 refine rg_ [0,2] ?_
 refine sk_ fun K1 hK1=>?_
 refine rg_ [0,2,5] ?_
 refine cy_ (fun hb1=>?_) (fun hb1=>?_)
 · exfalso;exact Bool.noConfusion hb1
 refine skp_ ?_
 refine hK1 _ ?_
 refine rsq_ [2,3] ⟨false,[(kc,7,.agg 2)],[14],[2],[],[],0⟩ (fun _=>⟨by kernel_rfl,by kernel_rfl⟩) ?_
 refine sg_ ?_
 refine df_ ?_
 refine sg_ ?_
 refine dgs_ ?_
 refine srt_ ?_
 refine fq_ Tryz.results18 ?_
 exact rk_ (by rw [wrF,Bool.and_true])
theorem z18 (h:List Blk) (live:List Nat):AC Tryz.prog 18 [.raw (.pointer none)] h live (.tup [.agg [.str [],.int .i64 0],.bool false]):=by
 refine aq_ Tryz.func18 fun hH hX=>?_
 refine rg_ [0,2] ?_
 refine sk_ fun K1 hK1=>?_
 refine rg_ [0,2,5] ?_
 refine cy_ (fun hb1=>?_) (fun hb1=>?_)
 ·
  refine rg_ [2,3] ?_
  refine ret_ ?_
  refine fq_ Tryz.results18 ?_
  exact rk_ rfl
 exfalso;exact Bool.noConfusion hb1
theorem c15 (fr to:List UInt8) (fl md:Int) (h:List Blk) (live:List Nat):ACalls Tryz.prog 15 [.str fr,.str to,.int .i64 fl,.int .i64 md] h live (ret (.ptr h.length 0) (h++[.cells (cpC h.length (cp0 fr to fl md))]) live):=by
 refine aq_ Tryz.func15 fun hH hX=>?_
 refine rg_ [0,1,2,3] ?_
 refine rg_ [9] ?_
 refine rg_ [9] ?_
 refine rg_ [8] ?_
 refine ret_ ?_
 refine gq_ (h1:=h++[_]) Tryz.results15 ?_ (hcl:=(by show h.length<_;simp)) (hh:=(⟨[],(List.append_nil _).symm⟩)) (hH:=(HCl.snoc hH (clL_cpC (Nat.lt_succ_self _) (cp0 fr to fl md))))
 exact rk_ rfl
end Go.Proofs.YtmgnbgniikjhdaaGreat
