import Derived.Test.YtmgnbgniikjhdaaGreatK8
/-
  CP: the command's next call.
-/
set_option linter.unusedVariables false
set_option linter.unusedSimpArgs false
namespace Go.Proofs.YtmgnbgniikjhdaaGreat
open Go.Ab
set_option maxRecDepth 8000
set_option maxHeartbeats 400000
def nextK (kd:Nat) (pc:AV) (cd:Cap) (h:List Blk) (live:List Nat) (X:CmR):KT:=fun x h' live'=>x=kV X.1∧∃cd' cl' pc',h.length≤h'.length∧h'[kd]? = some (.cells (cmC kd cd' cl' pc' X.2))∧(∀i,i<h.length→i≠kd→pc≠.ptr i 0→h'[i]? = h[i]?) ∧
 (pc'=pc∨∃kc,pc'=.ptr kc 0∧h.length≤kc)∧(X.2.nx=5→∃kc,pc'=.ptr kc 0∧kc≠kd∧h'[kc]? = some (.cells (cpC kc X.2.cp)))∧Keeps live cd live' cd'∧pc'.cl h'.length
theorem src_nx (c:Cm):(cmSrc c).2.nx≠5:=by unfold cmSrc;split<;>exact fun h=>nomatch h
theorem srcK_next {kd:Nat} {pc:AV} {cd:Cap} {h:List Blk} {live:List Nat} {X:CmR} (hl:kd<h.length) (hpc:pc.cl h.length) (hn:X.2.nx≠5):∀x h' l',srcK kd pc cd h live X x h' l'→nextK kd pc cd h live X x h' l':=by
 rintro _ _ _ ⟨rfl,cd',cl',rfl,hk⟩
 exact ⟨rfl,cd',cl',pc,by rw [List.length_set];exact Nat.le_refl _,get_setk hl,fun i _ h2 _=>List.getElem?_set_ne (Ne.symm h2),.inl rfl,fun h=>absurd h hn,hk,by rw [List.length_set];exact hpc⟩
theorem cpsK_next {kd kc:Nat} {cd:Cap} {h:List Blk} {live:List Nat} {X:CmR} (hl:kd<h.length) (hc:kc<h.length) (hne:kc≠kd):∀x h' l',cpsK kd kc cd h live X x h' l'→nextK kd (.ptr kc 0) cd h live X x h' l':=by
 rintro _ _ _ ⟨rfl,cd',cl',rfl,hk⟩
 refine ⟨rfl,cd',cl',.ptr kc 0,by rw [List.length_set,List.length_set];exact Nat.le_refl _,get_setk (by rw [List.length_set];exact hl),fun i _ h2 h3=>?_,.inl rfl,fun _=>⟨kc,rfl,hne,?_⟩,hk,?_⟩
 · rw [List.getElem?_set_ne (Ne.symm h2),List.getElem?_set_ne (fun e=>h3 (by rw [e]))]
 · rw [List.getElem?_set_ne (Ne.symm hne)];exact get_setk hc
 · show kc<_;rw [List.length_set,List.length_set];exact hc
theorem c231 (kd:Nat) (cd cl:Cap) (pc:AV) (c:Cm) (h:List Blk) (live:List Nat) (hk:h[kd]? = some (.cells (cmC kd cd cl pc c))) (hc:CapOK live cd) (hpc:pc.cl h.length) (htg:c.tgt.length≤1000) (hlf:c.left.length≤1000) (hlb:∀f∈c.left,f.length≤1000) (r:Rs) (hdg:c.dg.length≤1000000):ACalls Tryz.prog 231 [.ptr kd 0,.agg (rsC r)] h live (nextK kd pc cd h live (cmBegin c r)):=by
 refine aq_ Tryz.func231 fun hH hX=>?_
 have hkl:=lt_of_get hk
 unfold cmC at hk
 have hpq:=fun g:List Blk=>atApp (g:=g) hk
 have hs1:∀(y:Blk) (g:List Blk),(h++g).set kd y=h.set kd y++g:=fun y g=>setApp hk
 have hcm:=fun (g:List Blk) (a b:Cap) (c:Cm)=>clL_cmC (m:=(h++g).length) (kd:=kd) (by rw [List.length_append];omega) a b (AV.cl_mono (by rw [List.length_append];omega) pc hpc) c
 have hq8:∀(y:Blk) (l:List Blk) (j:Nat),(h.set kd y++l)[h.length+j]? = l[j]? := fun y l j=>by
  have:=get_app (h.set kd y) l j
  rw [List.length_set] at this;exact this
 have hq9:∀(y:Blk) (l:List Blk) (j:Nat) (z:Blk),(h.set kd y++l).set (h.length+j) z=h.set kd y++l.set j z:=fun y l j z=>by
  have:=set_app (h.set kd y) l j z
  rw [List.length_set] at this;exact this
 have sx:=(And.intro @hpq (And.intro @hs1 (And.intro @hq8 (And.intro @hq9 (And.intro @sta_eq sx0)))))
 refine rg_ [0,3,4] ?_
 refine sk_ fun K1 hK1=>?_
 refine rsq_ [0,3,4,19] ⟨true,[],[],[],[],[],0⟩ (fun _=>⟨by kernel_rfl,by kernel_rfl⟩) ?_
 refine sre_ ?_
 refine cy_ (fun hb1=>?_) (fun hb1=>?_)
 ·
  refine rs_ [4,5] ?_
  refine sg_ ?_
  refine ck_ (k:=?_)
  refine ACalls.mono ?_ (c230 kd cd _ pc (c) _ _ (atApp hk) hc (AV.cl_mono (by simp only [List.length_append,List.length_set];omega) _ hpc) htg hlf hlb _ _ (by assumption));rintro _ _ live3 ⟨rfl,cd3,cl3,rfl,hk3⟩
  refine srt_ ?_
  refine gq_ (h1:=h.set kd _) Tryz.results231 ?_ (hcl:=(by first | exact ⟨⟨clL_caC _ _,trivial,trivial⟩,trivial⟩ | exact ⟨clL_caC _ _,trivial,trivial⟩ | simp [AV.cl,AV.clL,clL_caP])) (hh:=(⟨_,rfl⟩)) (hH:=(by first | exact hHH _ ⟨trivial,trivial,trivial,trivial,trivial,clL_bV _ _,trivial⟩ | exact hHH _ (clL_caC _ _) | exact HCl.set hH kd (by exact ⟨clL_dgV _ _,trivial,trivial,trivial,trivial,(by first | exact clL_str _ _ | exact clL_str_tail _ _ | simp [AV.clL, -List.map_map]),trivial,trivial,trivial,trivial,trivial,trivial,trivial,trivial,trivial,hpc,(by first | exact nxM_cl hkl _ | exact ⟨⟨show kd<_ from hkl,trivial⟩,trivial⟩ | trivial),trivial⟩))) (hle:=(by simp))
  have e:cmBegin c r=cmSkip c c.fr 22:=if_pos (by simpa using hb1)
  rw [e]
  exact srcK_next hkl hpc (src_nx _) _ _ _ ⟨rfl, _, _,rfl,hk3⟩
 refine skp_ ?_
 refine hK1 _ ?_
 refine rsq_ [0,3,4] ⟨false,[],[],[],[],[],0⟩ (fun _=>⟨by kernel_rfl,by kernel_rfl⟩) ?_
 refine sg_ ?_
 refine cl_ (hc:=c15 c.fr c.to 22 (bits .and .i64 c.s.mode 511) _ _) (k:=?_)
 refine sre_ ?_
 refine rs_ [4,5] ?_
 refine sg_ ?_
 refine ck_ (k:=?_)
 refine ACalls.mono ?_ (c266 kd (h.length+2) cd cl { c with cp:=cp0 c.fr c.to 22 (bits .and .i64 c.s.mode 511) } r _ _ (get_setapp hkl) (by rw [hq8];rfl) (by omega) hc htg hlf hlb hdg);rintro _ _ live3 ⟨rfl,cd3,cl3,rfl,hk3⟩
 have e:cmBegin c r=_:=if_neg (by simpa using hb1)
 rw [e]
 generalize cmCopies _ r=Y at *
 refine srt_ ?_
 have hHH:∀b2,b2.cl (h.length+2)→HCl (h.set kd (.cells (cmC kd cd3 cl3 (.ptr (h.length+2) 0) Y.2))++[.cells (rsC r),b2,.cells (cpC (h.length+2) Y.2.cp)]):=fun b2 hb2=>by
  have h3:=HCl.set (HCl.snoc (b:=.cells (cpC (h.length+2) Y.2.cp)) (HCl.snoc (b:=b2) (HCl.snoc (b:=.cells (rsC r)) hH (clL_rsC _ _)) (by simpa using hb2)) (clL_cpC (by simp) _)) kd (b:=.cells (cmC kd cd3 cl3 (.ptr (h.length+2) 0) Y.2)) (clL_cmC (by simp;omega) _ _ (by show h.length+2<_;simp) _)
  rw [List.append_assoc,List.append_assoc,hs1] at h3;exact h3
 refine gq_ (h1:=h.set kd _++[_, _, _]) Tryz.results231 ?_ (hcl:=(by first | exact ⟨⟨clL_caC _ _,trivial,trivial⟩,trivial⟩ | exact ⟨clL_caC _ _,trivial,trivial⟩ | simp [AV.cl,AV.clL,clL_caP])) (hh:=(⟨[],(List.append_nil _).symm⟩)) (hH:=(by first | exact hHH _ ⟨trivial,trivial,trivial,trivial,trivial,clL_bV _ _,trivial⟩ | exact hHH _ (clL_caC _ _) | exact HCl.set hH kd (by exact ⟨clL_dgV _ _,trivial,trivial,trivial,trivial,(by first | exact clL_str _ _ | exact clL_str_tail _ _ | simp [AV.clL, -List.map_map]),trivial,trivial,trivial,trivial,trivial,trivial,trivial,trivial,trivial,hpc,(by first | exact nxM_cl hkl _ | exact ⟨⟨show kd<_ from hkl,trivial⟩,trivial⟩ | trivial),trivial⟩))) (hle:=(by simp))
 exact ⟨rfl,cd3,cl3,.ptr (h.length+2) 0,by simp,get_setapp hkl,fun i h1 h2 _=>by rw [List.getElem?_append_left (by rw [List.length_set];exact h1)];exact List.getElem?_set_ne (Ne.symm h2),.inr ⟨_,rfl,by omega⟩,fun _=>⟨h.length+2,rfl,by omega,by rw [hq8];rfl⟩,hk3,by show h.length+2<_;simp⟩
theorem cm_f (kd:Nat) (n:Nat):n=0∨∃f,nxM kd n=.fn (.func f) [.ptr kd 0] []:=by
 match n with
 | 0=>exact .inl rfl
 | 1 | 2 | 3 | 4 | 5 | 6=>exact .inr ⟨_,rfl⟩
 | _+7=>exact .inr ⟨_,rfl⟩
theorem skip_nx (c:Cm) (p:List UInt8) (e:Int):(cmSkip c p e).2.nx≠5:=src_nx _
theorem cm_all (kd:Nat) (cd cl:Cap) (pc:AV) (c:Cm) (r:Rs) (f:FuncId) (h:List Blk) (live:List Nat) (hk:h[kd]? = some (.cells (cmC kd cd cl pc c))) (hc:CapOK live cd) (hpc:pc.cl h.length) (htg:c.tgt.length≤1000) (hlf:c.left.length≤1000) (hlb:∀f∈c.left,f.length≤1000) (hdg:c.dg.length≤1000000) (h5:c.nx=5→∃kc,pc=.ptr kc 0∧kc≠kd∧h[kc]? = some (.cells (cpC kc c.cp))) (hf:nxM kd c.nx=.fn (.func f) [.ptr kd 0] []):ACalls Tryz.prog f [.ptr kd 0,.agg (rsC r)] h live (nextK kd pc cd h live (cmN c r)):=by
 have hkl:=lt_of_get hk
 obtain ⟨dg,keep,into,tgt,left,fr,to,s,cp,nx⟩:=c
 unfold cmN
 match nx with
 | 0=>cases hf
 | 1=>cases hf;exact (c51 kd cd cl pc _ h live hk hc hpc htg hlf hlb r hdg).mono (srcK_next hkl hpc (fun h=>nomatch h))
 | 2=>cases hf;exact (c84 kd cd cl pc _ h live hk hc hpc htg hlf hlb r hdg).mono (srcK_next hkl hpc (by simp only [cmAimed];split<;>exact src_nx _))
 | 3=>cases hf;exact (c182 kd cd cl pc _ h live hk hc hpc htg hlf hlb r hdg).mono (srcK_next hkl hpc (by simp only [cmLooked];split;exact skip_nx _ _ _;split;exact skip_nx _ _ _;exact fun h=>nomatch h))
 | 4=>cases hf;exact c231 kd cd cl pc _ h live hk hc hpc htg hlf hlb r hdg
 | 5=>
  cases hf
  obtain ⟨kc,rfl,h1,h2⟩:=h5 rfl
  exact (c266 kd kc cd cl _ r h live hk h2 h1 hc htg hlf hlb hdg).mono (cpsK_next hkl hpc h1)
 | 6=>cases hf;exact (c291 kd cd cl pc _ h live hk hc hpc htg hlf hlb r hdg).mono (srcK_next hkl hpc (fun h=>nomatch h))
 | _+7=>cases hf;exact (c304 kd cd cl pc _ h live hk hc hpc htg hlf hlb r hdg).mono (srcK_next hkl hpc (by simp only [cmDone];split;exact skip_nx _ _ _;exact src_nx _))
theorem n25 (kd:Nat) (cd cl:Cap) (pc:AV) (c:Cm) (r:Rs) (h:List Blk) (live:List Nat) (hk:h[kd]? = some (.cells (cmC kd cd cl pc c))) (hn:c.nx=0):AC Tryz.prog 25 [.ptr kd 0,.agg (rsC r)] h live (kV (caN,false)):=by
 refine aq_ Tryz.func25 fun hH hX=>?_
 have hkl:=lt_of_get hk
 have hf:nxM kd c.nx=.raw .nilFunc:=by rw [hn];rfl
 unfold cmC at hk
 have hpq:=fun g:List Blk=>atApp (g:=g) hk
 have sx:=(And.intro @hpq (And.intro @hf sx0))
 refine rg_ [0,3,4] ?_
 refine sk_ fun K1 hK1=>?_
 refine rg_ [0,3,4,14] ?_
 refine cy_ (fun hb1=>?_) (fun hb1=>?_)
 ·
  refine rg_ [4,5] ?_
  refine ret_ ?_
  refine fq_ Tryz.results25 ?_
  exact rk_ rfl
 exfalso;exact Bool.noConfusion hb1
theorem z25 (r:Rs) (h:List Blk) (live:List Nat):AC Tryz.prog 25 [.raw (.pointer none),.agg (rsC r)] h live (kV (caN,false)):=by
 refine aq_ Tryz.func25 fun hH hX=>?_
 refine rg_ [0,3,4] ?_
 refine sk_ fun K1 hK1=>?_
 refine rs_ [0,3,4,14] ?_
 refine dp_ ?_
 refine dp_ ?_
 refine dp_ ?_
 iterate 5 (refine dawp_skip rfl rfl rfl ?_)
 refine sre_ ?_
 refine cy_ (fun hb1=>?_) (fun hb1=>?_)
 ·
  refine rg_ [4,5] ?_
  refine ret_ ?_
  refine fq_ Tryz.results25 ?_
  exact rk_ rfl
 exfalso;exact Bool.noConfusion hb1
theorem s25 (kd:Nat) (cd cl:Cap) (pc:AV) (c:Cm) (r:Rs) (f:FuncId) (h:List Blk) (live:List Nat) (hk:h[kd]? = some (.cells (cmC kd cd cl pc c))) (hc:CapOK live cd) (hpc:pc.cl h.length) (htg:c.tgt.length≤1000) (hlf:c.left.length≤1000) (hlb:∀f∈c.left,f.length≤1000) (hdg:c.dg.length≤1000000) (h5:c.nx=5→∃kc,pc=.ptr kc 0∧kc≠kd∧h[kc]? = some (.cells (cpC kc c.cp))) (hf:nxM kd c.nx=.fn (.func f) [.ptr kd 0] []):ACalls Tryz.prog 25 [.ptr kd 0,.agg (rsC r)] h live (nextK kd pc cd h live (cmN c r)):=by
 refine aq_ Tryz.func25 fun hH hX=>?_
 have hkl:=lt_of_get hk
 have hk0:=hk
 unfold cmC at hk
 have hpq:=fun g:List Blk=>atApp (g:=g) hk
 have sx:=(And.intro @hpq (And.intro @hf sx0))
 refine rg_ [0,3,4] ?_
 refine sk_ fun K1 hK1=>?_
 refine rg_ [0,3,4,14] ?_
 refine cy_ (fun hb1=>?_) (fun hb1=>?_)
 · exfalso;exact Bool.noConfusion hb1
 refine skp_ ?_
 refine hK1 _ ?_
 refine rsq_ [4,5] ⟨false,[],[],[],[],[],0⟩ (fun _=>⟨by kernel_rfl,by kernel_rfl⟩) ?_
 refine sg_ ?_
 refine ck_ (k:=?_)
 refine ACalls.mono ?_ (ACalls.hclK (cm_all kd cd cl pc c r f _ _ (atApp hk0) hc (AV.cl_mono (by simp only [List.length_append];omega) _ hpc) htg hlf hlb hdg (fun h=>by obtain ⟨kc,a1,a2,a3⟩:=h5 h;exact ⟨kc,a1,a2,atApp a3⟩) hf));rintro _ H live2 ⟨⟨rfl,cd2,cl2,pc2,hHl,hHk,hHo,hp2,h52,hk2⟩,hHc⟩
 have hlen:h.length+1<H.length:=by simp at hHl;omega
 have hH1:H[h.length+1]? = some (.cells [.int .i64 0,.str [],.str [],.int .i64 0,.int .i64 0,.slice [] .full]):=by rw [hHo _ (by simp) (by omega) (fun e=>by rw [e] at hpc;exact absurd hpc (by show ¬h.length+1<h.length;omega))];simp
 have hH2:∀y:Blk,(H.set (h.length+1) y)[h.length+1]? = some y:=fun y=>get_setk hlen
 have sx:=And.intro hH1 (And.intro hH2 sx)
 refine srt_ ?_
 refine gq_ (h1:=H.set (h.length+1) _) Tryz.results25 ?_ (hcl:=(by first | exact ⟨⟨clL_caC _ _,trivial,trivial⟩,trivial⟩ | exact ⟨clL_caC _ _,trivial,trivial⟩ | simp [AV.cl,AV.clL,clL_caP])) (hh:=(⟨[],(List.append_nil _).symm⟩)) (hH:=(HCl.set hHc _ (by first | exact clL_caC _ _ | exact clL_caP _ _ _ _ _ _ _ _))) (hle:=(by rw [List.length_set];omega))
 refine ⟨rfl,cd2,cl2,pc2,by rw [List.length_set];omega,?_,fun i h1 h2 h3=>?_,?_,fun h55=>?_,hk2.1,by rw [List.length_set];exact hk2.2⟩
 · rw [List.getElem?_set_ne (by omega)];exact hHk
 · rw [List.getElem?_set_ne (by omega),hHo i (by simp;omega) h2 h3,List.getElem?_append_left h1]
 ·
  rcases hp2 with e | ⟨kc,e,hl⟩
  · exact .inl e
  · exact .inr ⟨kc,e,by simp at hl;omega⟩
 ·
  obtain ⟨kc,a1,a2,a3⟩:=h52 h55
  refine ⟨kc,a1,a2,?_⟩
  rw [List.getElem?_set_ne ?_];exact a3
  rcases hp2 with e | ⟨k,e,hl⟩
  · rw [←e,a1] at hpc;intro e2;rw [←e2] at hpc;exact absurd hpc (by show ¬h.length+1<h.length;omega)
  · rw [a1] at e;cases e;simp at hl;omega
theorem c25 (kd:Nat) (cd cl:Cap) (pc:AV) (c:Cm) (r:Rs) (h:List Blk) (live:List Nat) (hk:h[kd]? = some (.cells (cmC kd cd cl pc c))) (hc:CapOK live cd) (hpc:pc.cl h.length) (htg:c.tgt.length≤1000) (hlf:c.left.length≤1000) (hlb:∀f∈c.left,f.length≤1000) (hdg:c.dg.length≤1000000) (h5:c.nx=5→∃kc,pc=.ptr kc 0∧kc≠kd∧h[kc]? = some (.cells (cpC kc c.cp))):ACalls Tryz.prog 25 [.ptr kd 0,.agg (rsC r)] h live (nextK kd pc cd h live (cmN c r)):=by
 rcases cm_f kd c.nx with e | ⟨f,hf⟩
 ·
  have e2:cmN c r=((caN,false),c):=by
   obtain ⟨dg,keep,into,tgt,left,fr,to,s,cp,nx⟩:=c
   cases e;rfl
  rw [e2]
  refine (n25 kd cd cl pc c r h live hk e).mono ?_
  rintro _ _ _ ⟨rfl,rfl,rfl⟩
  exact ⟨rfl,cd,cl,pc,Nat.le_refl _,hk,fun i _ _ _=>rfl,.inl rfl,h5,Keeps.refl hc,hpc⟩
 · exact s25 kd cd cl pc c r f h live hk hc hpc htg hlf hlb hdg h5 hf
end Go.Proofs.YtmgnbgniikjhdaaGreat
