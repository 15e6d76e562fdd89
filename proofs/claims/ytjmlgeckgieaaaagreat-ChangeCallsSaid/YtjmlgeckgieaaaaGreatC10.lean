import Derived.Test.YtjmlgeckgieaaaaGreatC9
/-
  CHANGES: the law of calls, its walk.
-/
set_option linter.unusedVariables false
set_option linter.unusedSimpArgs false
namespace Go.Proofs.YtjmlgeckgieaaaaGreat
open Go.Ab
set_option maxRecDepth 8000
set_option maxHeartbeats 400000
def caV (c:Ca):AV:=.agg (caC c)
def ca0:Ca:=⟨0,[],[],0,0,[]⟩
theorem getD_caV {l:List Ca} {i:Nat} {d:AV} (h:i<l.length):(l.map caV).getD i d=.agg (caC (l.getD i ca0)):=by
 simp [List.getD_eq_getElem?_getD,h,caV]
theorem allSz_caV (l:List Ca):allSz (l.map caV) 6↔True:=iff_true_intro (allSz_map _ _ _ fun _=>rfl)
theorem clL_caV (n:Nat) (l:List Ca):AV.clL n (l.map caV):=clL_all fun x hx=>by
 obtain ⟨c, _,rfl⟩:=List.mem_map.1 hx
 exact ⟨trivial,trivial,trivial,trivial,trivial,clL_bV _ _,trivial⟩
attribute [push_cast] getD_caV allSz_caV
theorem u_8w (x:UInt8):IntKind.i64.wrap (x.toNat:Int)=(x.toNat:Int):=wrapS (by omega) (by have:=x.toNat_lt;omega)
theorem t_mod (a b:Nat):(a:Int).tmod (b:Int)=((a%b:Nat):Int):=(Int.ofNat_tmod a b).symm
theorem p_caC (c:Ca):putAt [AV.int .i64 0,.str [],.str [],.int .i64 0,.int .i64 0,.slice [] .full] 0 (caC c)=caC c:=rfl
theorem t_caC (c:Ca):(caC c).take 6=caC c:=rfl
theorem i_mod (a b:Nat):((a:Int)%(b:Int)).toNat=a%b:=by rw [←Int.natCast_emod];rfl
theorem cl_caC (n:Nat) (c:Ca):Blk.cl n (.cells (caC c)):=⟨trivial,trivial,trivial,trivial,trivial,clL_bV _ _,trivial⟩
attribute [push_cast] clL_caV
set_option maxHeartbeats 4000000 in
theorem c4 (room:Int) (l:List Rw) (um:Int) (cs:List Cr) (pids:List UInt8) (calls:List Ca) (h:List Blk) (live:List Nat) (hh0:h=[]) (hn:l.length≤9223372036854775807) (hcs:∀c∈cs,c.gs.length≤17592186044416) (hcl:cs.length≤17592186044416) (hpl0:pids.length≤9223372036854775807) (hal:calls.length≤9223372036854775807):AC Tryz.prog 4 [.int .i64 room,.slice (l.map rV) .none,.int .i64 um,.slice (cs.map crV) .none,.slice (pids.map bV) .none,.slice (calls.map caV) .none] h live (.bool true):=by
 refine aq_ Tryz.func4 fun hH hX=>?_
 have sx:=(And.intro @u_8w (And.intro @t_mod (And.intro @p_caC (And.intro @t_caC (And.intro @i_mod sx0)))))
 refine rg_ [0,1,2,3,4,5] ?_
 refine rs_ [0,1,2,3,4,5,13] ?_
 refine cl_ (hc:=c8 _ _ hh0) (k:=?_)
 refine sre_ ?_
 refine sk_ fun K1 hK1=>?_
 refine rg_ [0,1,2,3,4,5,25] ?_
 refine cdn_ (ht:=fun hb1=>?_) (hf:=fun hb1=>?_)
 · exfalso;exact Bool.noConfusion hb1
 refine skp_ ?_
 refine hK1 _ ?_
 refine rs_ [2,3,4,5,14,15] ?_
 refine sg_ ?_
 refine ck_ (k:=?_)
 refine erx_ (ys:=[.int .i64 room,.slice (l.map rV) .none,.agg [.int .i64 0,.int .i64 0,.slice (([]:List Int).map iV) .none]]) (by simp only [List.map_cons,List.map_nil,AV.er,AV.erL,erL_rV]<;>rfl) ((ACalls.hclK (c9 room l ⟨0,0,[]⟩ _ _ hn (by simp))).mono ?_);rintro _ H live ⟨⟨rfl,g,p,rfl,hHe,hpc,hp⟩,hHg⟩
 refine sre_ ?_
 refine sk_ fun K2 hK2=>?_
 refine rg_ [2,3,4,5,14,59] ?_
 refine cdn_ (ht:=fun hb2=>?_) (hf:=fun hb2=>?_)
 ·
  refine rg_ [12] ?_
  refine ret_ ?_
  refine gq_ (h1:=h) Tryz.results4 ?_ (hh:=(⟨_,by rw [hh0];exact (List.nil_append _).symm⟩))
  exact rk_ rfl
 obtain ⟨⟨⟨⟨⟨hb21,hb22⟩,hb23⟩,hb24⟩,hb25⟩,hb26⟩:=hb2
 obtain ⟨T,hTe⟩:=Option.isSome_iff_exists.1 hb21
 obtain ⟨k,rfl,hk⟩:=hp T hTe
 obtain ⟨hT, -⟩:=builtF_ok hTe
 have hR:=built_rt hTe
 have hzp:((pids.length:Int)=0)=False:=eq_false (by omega)
 have hzc:((cs.length:Int)=0)=False:=eq_false (by omega)
 have sx:=And.intro hzp (And.intro hzc sx)
 refine skp_ ?_
 refine hK2 _ ?_
 refine rs_ [3,4,5,16] ?_
 refine sg_ ?_
 refine ck_ (k:=?_)
 refine (c17 T k um cs _ _ hk hT hcs hcl).mono ?_;rintro _ H0 live ⟨rfl,hHx,rfl⟩
 obtain ⟨n,hnn⟩:∃n,H.length=n:=⟨_,rfl⟩
 have hy0:=newH_at H um (cs:=cs) hT hR hcs (by omega)
 have hH0:=newH_cl hHg T um cs
 rw [hHx] at hy0 hH0
 rw [hnn] at hy0
 simp only [hnn]
 have hnl:=lt_of_get hy0.s
 have hw0:TreeW T (openL (cs.map (pr1 um))) []:=by rw [openL_new];exact built_treeW hTe
 refine sre_ ?_
 refine sk_ fun K3 hK3=>?_
 refine rg_ [3,4,5,16,17] ?_
 refine awp_block ?_
 refine awp_loopG (X:={x:Nat×List Blk×Tab×List Pr // x.1≤calls.length∧SysAt x.2.1 (n+1) n (n+3) x.2.2.1 x.2.2.2∧x.2.2.2.length=cs.length∧HCl x.2.1∧TreeW x.2.2.1 (openL x.2.2.2) []}) (fun x=>⟨Tryz.f4.ntmps,fget [(3,.slice (cs.map crV) .none),(4,.slice (pids.map bV) .none),(5,.slice (calls.map caV) .none),(16,.ptr (n+1) 0),(17,.int .i64 (x.1.1:Nat))],x.1.2.1,live⟩) (fun x=>calls.length - x.1.1) (⟨⟨0,H0,T,cs.map (pr1 um)⟩,Nat.zero_le _,hy0,List.length_map ..,hH0,hw0⟩) ?_ (by first | rfl | (simp only [List.length_set];done) | simp) (fun ⟨⟨i,H,T1,ps⟩,hi,hy,hpl,hHc,hw⟩=>?_)
 ·
  try dsimp only
  refine Trunc.of (by first | exact (List.append_nil _).symm | exact rfl | (rw [List.append_assoc];rfl)) ?_ (by assumption) (fun _ h=>h)
  refine ftc_ ?_ (hc:=by first | exact trivial | exact clL_caV _ _ | exact clL_crV _ _ | exact clL_bV _ _ | (simp [AV.cl,AV.clL];done) | (simp only [AV.cl,List.length_append,List.length_singleton];omega))
  refine ftc_ ?_ (hc:=by first | exact trivial | exact clL_caV _ _ | exact clL_crV _ _ | exact clL_bV _ _ | (simp [AV.cl,AV.clL];done) | (simp only [AV.cl,List.length_append,List.length_singleton];omega))
  refine ftc_ ?_ (hc:=by first | exact trivial | exact clL_caV _ _ | exact clL_crV _ _ | exact clL_bV _ _ | (simp [AV.cl,AV.clL];done) | (simp only [AV.cl,List.length_append,List.length_singleton];omega))
  refine ftc_ ?_ (hc:=by first | exact trivial | exact clL_caV _ _ | exact clL_crV _ _ | exact clL_bV _ _ | (simp [AV.cl,AV.clL];done) | (simp only [AV.cl,List.length_append,List.length_singleton];omega))
  refine ftc_ ?_ (hc:=by first | exact trivial | exact clL_caV _ _ | exact clL_crV _ _ | exact clL_bV _ _ | (simp [AV.cl,AV.clL];done) | (simp only [AV.cl,List.length_append,List.length_singleton];omega))
  exact FTr.nil
 try dsimp only
 dsimp only at hi hy hpl hHc hw
 have hnl2:=lt_of_get hy.s
 have hkb:∀j,j<ps.length→n+3+2*j<H.length:=fun j hj=>lt_of_get (hy.p j hj)
 refine sk_ fun K4 hK4=>?_
 refine rg_ [3,4,5,16,17,67] ?_
 refine cdy_ (ht:=fun hb3=>?_) (hf:=fun hb3=>?_)
 rotate_left
 ·
  refine awp_exit (up_ ?_)
  refine hK3 _ ?_
  refine rg_ [12] ?_
  refine ret_ ?_
  refine gq_ (h1:=h) Tryz.results4 ?_ (hh:=(⟨_,by rw [hh0];exact (List.nil_append _).symm⟩))
  exact rk_ rfl
 have hil:i<calls.length:=by omega
 obtain ⟨ca,hca⟩:∃ca,calls.getD i ca0=ca:=⟨_,rfl⟩
 have hip:i%pids.length<pids.length:=Nat.mod_lt _ (by omega)
 obtain ⟨pd,hpd⟩:∃pd,(pids.getD (i%pids.length) 0).toNat%cs.length=pd:=⟨_,rfl⟩
 obtain ⟨d,hd⟩:∃d,doF T1 ps (pd:Nat) ca=d:=⟨_,rfl⟩
 have hdl:d.2.2.length=ps.length:=by rw [←hd];exact doF_len _ _ _ _
 have hlaw:=calls_law ⟨hy.ok,hy.rt⟩ hw (pd:Nat) ca hd
 have hw2:TreeW d.2.1 (openL d.2.2) []:=by rw [←hd];exact doF_tree ⟨hy.ok,hy.rt⟩ hw _ _
 have hpi:(((pids.getD (i%pids.length) 0).toNat:Int)%(cs.length:Int))=(pd:Int):=by rw [←hpd];rfl
 have sx:=And.intro hca (And.intro hpi sx)
 refine skp_ ?_
 refine hK4 _ ?_
 refine sk_ fun K5 hK5=>?_
 refine awp_block ?_
 refine rg_ [3,4,5,16,17,18] ?_
 refine sk_ fun K6 hK6=>?_
 refine rg_ [3,4,5,16,17,18,89] ?_
 refine cdn_ (ht:=fun hb4=>?_) (hf:=fun hb4=>?_)
 ·
  refine rg_ [12] ?_
  refine ret_ ?_
  refine gq_ (h1:=h) Tryz.results4 ?_ (hh:=(⟨_,by rw [hh0];exact (List.nil_append _).symm⟩))
  exact rk_ rfl
 refine skp_ ?_
 refine hK6 _ ?_
 refine rs_ [3,4,5,16,17,18,19] ?_
 refine sg_ ?_
 refine cl_ (hc:=c18 _ _ _ _ _ _ _ hy.app) (k:=?_)
 refine sre_ ?_
 refine awp_seqG (X:={X:List Blk // SysAt X (n+1) n (n+3) d.2.1 d.2.2∧X.length=H.length+3∧X[H.length+2]? = some (.cells (rsC d.1))∧X[H.length+1]? = some (tabBlk T1)∧X[H.length]? = some (.cells (caC ca))∧HCl X}) (fun X=>⟨Tryz.f4.ntmps,fget [(3,.slice (cs.map crV) .none),(4,.slice (pids.map bV) .none),(5,.slice (calls.map caV) .none),(16,.ptr (n+1) 0),(17,.int .i64 (i:Nat)),(18,.ptr H.length 0),(19,.ptr (H.length+1) 0),(20,.ptr (H.length+2) 0)],X.1,live⟩) ?_ (fun ⟨H2,hy2,hl2,hx2,hwas,hcc,hH2⟩=>?_)
 rotate_left
 ·
  try dsimp only
  have hlen2:H.length≤H2.length:=by omega
  have hnl1:n+1<H.length:=by omega
  have hnl3:=lt_of_get hy2.s
  have hwg:=fun g:List Blk=>atApp (g:=g) hwas
  have hxg:=fun g:List Blk=>atApp (g:=g) hx2
  have hcg:=fun g:List Blk=>atApp (g:=g) hcc
  have hHt:HCl (H2++[tabBlk d.2.1]):=hcl_new hH2 _
  have sx:=And.intro hx2 (And.intro hxg (And.intro hcc (And.intro hcg sx)))
  refine rs_ [3,4,5,16,17,18,20,21] ?_
  refine sg_ ?_
  refine cl_ (hc:=c18 _ _ _ _ _ _ _ hy2) (k:=?_)
  refine cl_ (hc:=c14 T1 d.2.1 _ _ _ _ (by first | exact hwg _ | exact atApp (hwg _)) (by simp only [push_cast]) hy.ok hy2.ok) (k:=?_)
  refine sre_ ?_
  refine rg_ [3,4,5,16,17,18,20,21,22] ?_
  refine awp_seq_m (X:=Unit) (fun _=>⟨Tryz.f4.ntmps,fget [(3,.slice (cs.map crV) .none),(4,.slice (pids.map bV) .none),(5,.slice (calls.map caV) .none),(16,.ptr (n+1) 0),(17,.int .i64 (i:Nat)),(20,.ptr (H.length+2) 0),(21,.int .i64 (chOf T1 d.2.1).kind),(22,.bool true)],H2++[tabBlk d.2.1],live⟩) ?_ (fun _=>?_)
  rotate_left
  ·
   try dsimp only
   refine rg_ [3,4,5,16,17,192] ?_
   refine cy_ (fun hb17=>?_) (fun hb17=>?_)
   ·
    exfalso
    simp at hb17
    exact hb17.2 (hlaw.2 hb17.1)
   refine skp_ ?_
   refine hK5 _ ?_
   refine rt_ [3,4,5,16,17] ?_
   refine srn_ ?_
   refine ⟨⟨⟨i+1,H2++[tabBlk d.2.1],d.2.1,d.2.2⟩,by dsimp only;omega,hy2.app,hdl.trans hpl,hcl_new hH2 _,hw2⟩,?_,(by first | exact Nat.le_refl _ | (dsimp only;simp<;>omega)),by dsimp only;omega⟩
   try dsimp only
   refine Trunc.of (by first | exact (List.append_nil _).symm | exact rfl | (rw [List.append_assoc];rfl)) ?_ (by assumption) (fun _ h=>h)
   refine ftc_ ?_ (hc:=by first | exact trivial | exact clL_caV _ _ | exact clL_crV _ _ | exact clL_bV _ _ | (simp [AV.cl,AV.clL];done) | (simp only [AV.cl,List.length_append,List.length_singleton];omega))
   refine ftc_ ?_ (hc:=by first | exact trivial | exact clL_caV _ _ | exact clL_crV _ _ | exact clL_bV _ _ | (simp [AV.cl,AV.clL];done) | (simp only [AV.cl,List.length_append,List.length_singleton];omega))
   refine ftc_ ?_ (hc:=by first | exact trivial | exact clL_caV _ _ | exact clL_crV _ _ | exact clL_bV _ _ | (simp [AV.cl,AV.clL];done) | (simp only [AV.cl,List.length_append,List.length_singleton];omega))
   refine ftc_ ?_ (hc:=by first | exact trivial | exact clL_caV _ _ | exact clL_crV _ _ | exact clL_bV _ _ | (simp [AV.cl,AV.clL];done) | (simp only [AV.cl,List.length_append,List.length_singleton];omega))
   refine ftc_ ?_ (hc:=by first | exact trivial | exact clL_caV _ _ | exact clL_crV _ _ | exact clL_bV _ _ | (simp [AV.cl,AV.clL];done) | (simp only [AV.cl,List.length_append,List.length_singleton];omega))
   exact FTr.nil
  refine rg_ [3,4,5,16,17,20,21,22,114] ?_
  refine awp_block ?_
  refine sk_ fun K7 hK7=>?_
  refine rg_ [3,4,5,16,17,20,21,22,114,115] ?_
  refine cx_ (fun hb5=>?_) (fun hb5=>?_)
  ·
   refine skp_ ?_
   refine hK7 _ ?_
   refine cx_ (fun hb7=>?_) (fun hb7=>?_)
   ·
    refine rt_ [3,4,5,16,17,20,21,22] ?_
    refine srn_ ?_
    clear hK1 hK2 hK3 hK4 hK5 hK6
    rcases hlaw.1 with hk | ⟨hc,hk⟩ | ⟨hc,hk⟩ | ⟨hc,hk⟩ | ⟨hc,hk⟩ | ⟨hc,hk | hk | hk⟩ | ⟨hc,hk | hk⟩ | ⟨hc,hk⟩ | hc
    all_goals try (exfalso;omega)
    all_goals try simp only [hk]
    all_goals refine ⟨(),ts_ (by assumption) (hfr:=?_),(by first | exact rfl | exact trivial)⟩
    all_goals repeat (first | exact FTr.nil | refine ftc_ ?_ (hc:=by first | exact trivial | exact clL_caV _ _ | exact clL_crV _ _ | exact clL_bV _ _ | (simp [AV.cl,AV.clL];done) | (simp only [AV.cl,List.length_append,List.length_singleton];omega)))
   refine sk_ fun K8 hK8=>?_
   refine rg_ [3,4,5,16,17,20,21,22,114,124] ?_
   refine cx_ (fun hb8=>?_) (fun hb8=>?_)
   ·
    refine skp_ ?_
    refine hK8 _ ?_
    refine cx_ (fun hb9=>?_) (fun hb9=>?_)
    ·
     refine rt_ [3,4,5,16,17,20,21,22] ?_
     refine srn_ ?_
     clear hK1 hK2 hK3 hK4 hK5 hK6
     rcases hlaw.1 with hk | ⟨hc,hk⟩ | ⟨hc,hk⟩ | ⟨hc,hk⟩ | ⟨hc,hk⟩ | ⟨hc,hk | hk | hk⟩ | ⟨hc,hk | hk⟩ | ⟨hc,hk⟩ | hc
     all_goals try (exfalso;omega)
     all_goals try simp only [hk]
     all_goals refine ⟨(),ts_ (by assumption) (hfr:=?_),(by first | exact rfl | exact trivial)⟩
     all_goals repeat (first | exact FTr.nil | refine ftc_ ?_ (hc:=by first | exact trivial | exact clL_caV _ _ | exact clL_crV _ _ | exact clL_bV _ _ | (simp [AV.cl,AV.clL];done) | (simp only [AV.cl,List.length_append,List.length_singleton];omega)))
    refine sk_ fun K9 hK9=>?_
    refine rg_ [3,4,5,16,17,20,21,22,114,132] ?_
    refine cx_ (fun hb10=>?_) (fun hb10=>?_)
    ·
     refine skp_ ?_
     refine hK9 _ ?_
     refine cx_ (fun hb11=>?_) (fun hb11=>?_)
     ·
      refine rt_ [3,4,5,16,17,20,21,22] ?_
      refine srn_ ?_
      clear hK1 hK2 hK3 hK4 hK5 hK6
      rcases hlaw.1 with hk | ⟨hc,hk⟩ | ⟨hc,hk⟩ | ⟨hc,hk⟩ | ⟨hc,hk⟩ | ⟨hc,hk | hk | hk⟩ | ⟨hc,hk | hk⟩ | ⟨hc,hk⟩ | hc
      all_goals try (exfalso;omega)
      all_goals try simp only [hk]
      all_goals refine ⟨(),ts_ (by assumption) (hfr:=?_),(by first | exact rfl | exact trivial)⟩
      all_goals repeat (first | exact FTr.nil | refine ftc_ ?_ (hc:=by first | exact trivial | exact clL_caV _ _ | exact clL_crV _ _ | exact clL_bV _ _ | (simp [AV.cl,AV.clL];done) | (simp only [AV.cl,List.length_append,List.length_singleton];omega)))
     refine rg_ [3,4,5,16,17,20,21,22,114,140] ?_
     refine cx_ (fun hb12=>?_) (fun hb12=>?_)
     ·
      refine rt_ [3,4,5,16,17,20,21,22] ?_
      refine srn_ ?_
      clear hK1 hK2 hK3 hK4 hK5 hK6
      rcases hlaw.1 with hk | ⟨hc,hk⟩ | ⟨hc,hk⟩ | ⟨hc,hk⟩ | ⟨hc,hk⟩ | ⟨hc,hk | hk | hk⟩ | ⟨hc,hk | hk⟩ | ⟨hc,hk⟩ | hc
      all_goals try (exfalso;omega)
      all_goals try simp only [hk]
      all_goals refine ⟨(),ts_ (by assumption) (hfr:=?_),(by first | exact rfl | exact trivial)⟩
      all_goals repeat (first | exact FTr.nil | refine ftc_ ?_ (hc:=by first | exact trivial | exact clL_caV _ _ | exact clL_crV _ _ | exact clL_bV _ _ | (simp [AV.cl,AV.clL];done) | (simp only [AV.cl,List.length_append,List.length_singleton];omega)))
     refine rg_ [3,4,5,16,17,20,21,22,114,147] ?_
     refine cx_ (fun hb13=>?_) (fun hb13=>?_)
     ·
      refine rt_ [3,4,5,16,17,20,21,22] ?_
      refine srn_ ?_
      clear hK1 hK2 hK3 hK4 hK5 hK6
      rcases hlaw.1 with hk | ⟨hc,hk⟩ | ⟨hc,hk⟩ | ⟨hc,hk⟩ | ⟨hc,hk⟩ | ⟨hc,hk | hk | hk⟩ | ⟨hc,hk | hk⟩ | ⟨hc,hk⟩ | hc
      all_goals try (exfalso;omega)
      all_goals try simp only [hk]
      all_goals refine ⟨(),ts_ (by assumption) (hfr:=?_),(by first | exact rfl | exact trivial)⟩
      all_goals repeat (first | exact FTr.nil | refine ftc_ ?_ (hc:=by first | exact trivial | exact clL_caV _ _ | exact clL_crV _ _ | exact clL_bV _ _ | (simp [AV.cl,AV.clL];done) | (simp only [AV.cl,List.length_append,List.length_singleton];omega)))
     refine rg_ [3,4,5,16,17,20,21,22,114,162] ?_
     refine cx_ (fun hb14=>?_) (fun hb14=>?_)
     ·
      refine rt_ [3,4,5,16,17,20,21,22] ?_
      refine srn_ ?_
      clear hK1 hK2 hK3 hK4 hK5 hK6
      rcases hlaw.1 with hk | ⟨hc,hk⟩ | ⟨hc,hk⟩ | ⟨hc,hk⟩ | ⟨hc,hk⟩ | ⟨hc,hk | hk | hk⟩ | ⟨hc,hk | hk⟩ | ⟨hc,hk⟩ | hc
      all_goals try (exfalso;omega)
      all_goals try simp only [hk]
      all_goals refine ⟨(),ts_ (by assumption) (hfr:=?_),(by first | exact rfl | exact trivial)⟩
      all_goals repeat (first | exact FTr.nil | refine ftc_ ?_ (hc:=by first | exact trivial | exact clL_caV _ _ | exact clL_crV _ _ | exact clL_bV _ _ | (simp [AV.cl,AV.clL];done) | (simp only [AV.cl,List.length_append,List.length_singleton];omega)))
     refine rg_ [3,4,5,16,17,20,21,22,114,173] ?_
     refine cx_ (fun hb15=>?_) (fun hb15=>?_)
     ·
      refine rt_ [3,4,5,16,17,20,21,22] ?_
      refine srn_ ?_
      clear hK1 hK2 hK3 hK4 hK5 hK6
      rcases hlaw.1 with hk | ⟨hc,hk⟩ | ⟨hc,hk⟩ | ⟨hc,hk⟩ | ⟨hc,hk⟩ | ⟨hc,hk | hk | hk⟩ | ⟨hc,hk | hk⟩ | ⟨hc,hk⟩ | hc
      all_goals try (exfalso;omega)
      all_goals try simp only [hk]
      all_goals refine ⟨(),ts_ (by assumption) (hfr:=?_),(by first | exact rfl | exact trivial)⟩
      all_goals repeat (first | exact FTr.nil | refine ftc_ ?_ (hc:=by first | exact trivial | exact clL_caV _ _ | exact clL_crV _ _ | exact clL_bV _ _ | (simp [AV.cl,AV.clL];done) | (simp only [AV.cl,List.length_append,List.length_singleton];omega)))
     refine rg_ [3,4,5,16,17,20,21,22,180] ?_
     refine cx_ (fun hb16=>?_) (fun hb16=>?_)
     ·
      refine rt_ [3,4,5,16,17,20,21,22] ?_
      refine srn_ ?_
      clear hK1 hK2 hK3 hK4 hK5 hK6
      rcases hlaw.1 with hk | ⟨hc,hk⟩ | ⟨hc,hk⟩ | ⟨hc,hk⟩ | ⟨hc,hk⟩ | ⟨hc,hk | hk | hk⟩ | ⟨hc,hk | hk⟩ | ⟨hc,hk⟩ | hc
      all_goals try (exfalso;omega)
      all_goals try simp only [hk]
      all_goals refine ⟨(),ts_ (by assumption) (hfr:=?_),(by first | exact rfl | exact trivial)⟩
      all_goals repeat (first | exact FTr.nil | refine ftc_ ?_ (hc:=by first | exact trivial | exact clL_caV _ _ | exact clL_crV _ _ | exact clL_bV _ _ | (simp [AV.cl,AV.clL];done) | (simp only [AV.cl,List.length_append,List.length_singleton];omega)))
     refine skp_ ?_
     clear hK1 hK2 hK3 hK4 hK5 hK6
     rcases hlaw.1 with hk | ⟨hc,hk⟩ | ⟨hc,hk⟩ | ⟨hc,hk⟩ | ⟨hc,hk⟩ | ⟨hc,hk | hk | hk⟩ | ⟨hc,hk | hk⟩ | ⟨hc,hk⟩ | hc
     all_goals try (exfalso;omega)
     all_goals try simp only [hk]
     all_goals refine ⟨(),ts_ (by assumption) (hfr:=?_),(by first | exact rfl | exact trivial)⟩
     all_goals repeat (first | exact FTr.nil | refine ftc_ ?_ (hc:=by first | exact trivial | exact clL_caV _ _ | exact clL_crV _ _ | exact clL_bV _ _ | (simp [AV.cl,AV.clL];done) | (simp only [AV.cl,List.length_append,List.length_singleton];omega)))
    refine rt_ [3,4,5,16,17,20,21,22,114,132] ?_
    refine srn_ ?_
    refine hK9 _ ?_
    refine cx_ (fun hb11=>?_) (fun hb11=>?_)
    ·
     refine rt_ [3,4,5,16,17,20,21,22] ?_
     refine srn_ ?_
     clear hK1 hK2 hK3 hK4 hK5 hK6
     rcases hlaw.1 with hk | ⟨hc,hk⟩ | ⟨hc,hk⟩ | ⟨hc,hk⟩ | ⟨hc,hk⟩ | ⟨hc,hk | hk | hk⟩ | ⟨hc,hk | hk⟩ | ⟨hc,hk⟩ | hc
     all_goals try (exfalso;omega)
     all_goals try simp only [hk]
     all_goals refine ⟨(),ts_ (by assumption) (hfr:=?_),(by first | exact rfl | exact trivial)⟩
     all_goals repeat (first | exact FTr.nil | refine ftc_ ?_ (hc:=by first | exact trivial | exact clL_caV _ _ | exact clL_crV _ _ | exact clL_bV _ _ | (simp [AV.cl,AV.clL];done) | (simp only [AV.cl,List.length_append,List.length_singleton];omega)))
    refine rg_ [3,4,5,16,17,20,21,22,114,140] ?_
    refine cx_ (fun hb12=>?_) (fun hb12=>?_)
    ·
     refine rt_ [3,4,5,16,17,20,21,22] ?_
     refine srn_ ?_
     clear hK1 hK2 hK3 hK4 hK5 hK6
     rcases hlaw.1 with hk | ⟨hc,hk⟩ | ⟨hc,hk⟩ | ⟨hc,hk⟩ | ⟨hc,hk⟩ | ⟨hc,hk | hk | hk⟩ | ⟨hc,hk | hk⟩ | ⟨hc,hk⟩ | hc
     all_goals try (exfalso;omega)
     all_goals try simp only [hk]
     all_goals refine ⟨(),ts_ (by assumption) (hfr:=?_),(by first | exact rfl | exact trivial)⟩
     all_goals repeat (first | exact FTr.nil | refine ftc_ ?_ (hc:=by first | exact trivial | exact clL_caV _ _ | exact clL_crV _ _ | exact clL_bV _ _ | (simp [AV.cl,AV.clL];done) | (simp only [AV.cl,List.length_append,List.length_singleton];omega)))
    refine rg_ [3,4,5,16,17,20,21,22,114,147] ?_
    refine cx_ (fun hb13=>?_) (fun hb13=>?_)
    ·
     refine rt_ [3,4,5,16,17,20,21,22] ?_
     refine srn_ ?_
     clear hK1 hK2 hK3 hK4 hK5 hK6
     rcases hlaw.1 with hk | ⟨hc,hk⟩ | ⟨hc,hk⟩ | ⟨hc,hk⟩ | ⟨hc,hk⟩ | ⟨hc,hk | hk | hk⟩ | ⟨hc,hk | hk⟩ | ⟨hc,hk⟩ | hc
     all_goals try (exfalso;omega)
     all_goals try simp only [hk]
     all_goals refine ⟨(),ts_ (by assumption) (hfr:=?_),(by first | exact rfl | exact trivial)⟩
     all_goals repeat (first | exact FTr.nil | refine ftc_ ?_ (hc:=by first | exact trivial | exact clL_caV _ _ | exact clL_crV _ _ | exact clL_bV _ _ | (simp [AV.cl,AV.clL];done) | (simp only [AV.cl,List.length_append,List.length_singleton];omega)))
    refine rg_ [3,4,5,16,17,20,21,22,114,162] ?_
    refine cx_ (fun hb14=>?_) (fun hb14=>?_)
    ·
     refine rt_ [3,4,5,16,17,20,21,22] ?_
     refine srn_ ?_
     clear hK1 hK2 hK3 hK4 hK5 hK6
     rcases hlaw.1 with hk | ⟨hc,hk⟩ | ⟨hc,hk⟩ | ⟨hc,hk⟩ | ⟨hc,hk⟩ | ⟨hc,hk | hk | hk⟩ | ⟨hc,hk | hk⟩ | ⟨hc,hk⟩ | hc
     all_goals try (exfalso;omega)
     all_goals try simp only [hk]
     all_goals refine ⟨(),ts_ (by assumption) (hfr:=?_),(by first | exact rfl | exact trivial)⟩
     all_goals repeat (first | exact FTr.nil | refine ftc_ ?_ (hc:=by first | exact trivial | exact clL_caV _ _ | exact clL_crV _ _ | exact clL_bV _ _ | (simp [AV.cl,AV.clL];done) | (simp only [AV.cl,List.length_append,List.length_singleton];omega)))
    refine rg_ [3,4,5,16,17,20,21,22,114,173] ?_
    refine cx_ (fun hb15=>?_) (fun hb15=>?_)
    ·
     refine rt_ [3,4,5,16,17,20,21,22] ?_
     refine srn_ ?_
     clear hK1 hK2 hK3 hK4 hK5 hK6
     rcases hlaw.1 with hk | ⟨hc,hk⟩ | ⟨hc,hk⟩ | ⟨hc,hk⟩ | ⟨hc,hk⟩ | ⟨hc,hk | hk | hk⟩ | ⟨hc,hk | hk⟩ | ⟨hc,hk⟩ | hc
     all_goals try (exfalso;omega)
     all_goals try simp only [hk]
     all_goals refine ⟨(),ts_ (by assumption) (hfr:=?_),(by first | exact rfl | exact trivial)⟩
     all_goals repeat (first | exact FTr.nil | refine ftc_ ?_ (hc:=by first | exact trivial | exact clL_caV _ _ | exact clL_crV _ _ | exact clL_bV _ _ | (simp [AV.cl,AV.clL];done) | (simp only [AV.cl,List.length_append,List.length_singleton];omega)))
    refine rg_ [3,4,5,16,17,20,21,22,180] ?_
    refine cx_ (fun hb16=>?_) (fun hb16=>?_)
    ·
     refine rt_ [3,4,5,16,17,20,21,22] ?_
     refine srn_ ?_
     clear hK1 hK2 hK3 hK4 hK5 hK6
     rcases hlaw.1 with hk | ⟨hc,hk⟩ | ⟨hc,hk⟩ | ⟨hc,hk⟩ | ⟨hc,hk⟩ | ⟨hc,hk | hk | hk⟩ | ⟨hc,hk | hk⟩ | ⟨hc,hk⟩ | hc
     all_goals try (exfalso;omega)
     all_goals try simp only [hk]
     all_goals refine ⟨(),ts_ (by assumption) (hfr:=?_),(by first | exact rfl | exact trivial)⟩
     all_goals repeat (first | exact FTr.nil | refine ftc_ ?_ (hc:=by first | exact trivial | exact clL_caV _ _ | exact clL_crV _ _ | exact clL_bV _ _ | (simp [AV.cl,AV.clL];done) | (simp only [AV.cl,List.length_append,List.length_singleton];omega)))
    refine skp_ ?_
    clear hK1 hK2 hK3 hK4 hK5 hK6
    rcases hlaw.1 with hk | ⟨hc,hk⟩ | ⟨hc,hk⟩ | ⟨hc,hk⟩ | ⟨hc,hk⟩ | ⟨hc,hk | hk | hk⟩ | ⟨hc,hk | hk⟩ | ⟨hc,hk⟩ | hc
    all_goals try (exfalso;omega)
    all_goals try simp only [hk]
    all_goals refine ⟨(),ts_ (by assumption) (hfr:=?_),(by first | exact rfl | exact trivial)⟩
    all_goals repeat (first | exact FTr.nil | refine ftc_ ?_ (hc:=by first | exact trivial | exact clL_caV _ _ | exact clL_crV _ _ | exact clL_bV _ _ | (simp [AV.cl,AV.clL];done) | (simp only [AV.cl,List.length_append,List.length_singleton];omega)))
   refine rt_ [3,4,5,16,17,20,21,22,114,124] ?_
   refine srn_ ?_
   refine hK8 _ ?_
   refine cx_ (fun hb9=>?_) (fun hb9=>?_)
   ·
    refine rt_ [3,4,5,16,17,20,21,22] ?_
    refine srn_ ?_
    clear hK1 hK2 hK3 hK4 hK5 hK6
    rcases hlaw.1 with hk | ⟨hc,hk⟩ | ⟨hc,hk⟩ | ⟨hc,hk⟩ | ⟨hc,hk⟩ | ⟨hc,hk | hk | hk⟩ | ⟨hc,hk | hk⟩ | ⟨hc,hk⟩ | hc
    all_goals try (exfalso;omega)
    all_goals try simp only [hk]
    all_goals refine ⟨(),ts_ (by assumption) (hfr:=?_),(by first | exact rfl | exact trivial)⟩
    all_goals repeat (first | exact FTr.nil | refine ftc_ ?_ (hc:=by first | exact trivial | exact clL_caV _ _ | exact clL_crV _ _ | exact clL_bV _ _ | (simp [AV.cl,AV.clL];done) | (simp only [AV.cl,List.length_append,List.length_singleton];omega)))
   refine sk_ fun K10 hK10=>?_
   refine rg_ [3,4,5,16,17,20,21,22,114,132] ?_
   refine cx_ (fun hb10=>?_) (fun hb10=>?_)
   ·
    refine skp_ ?_
    refine hK10 _ ?_
    refine cx_ (fun hb11=>?_) (fun hb11=>?_)
    ·
     refine rt_ [3,4,5,16,17,20,21,22] ?_
     refine srn_ ?_
     clear hK1 hK2 hK3 hK4 hK5 hK6
     rcases hlaw.1 with hk | ⟨hc,hk⟩ | ⟨hc,hk⟩ | ⟨hc,hk⟩ | ⟨hc,hk⟩ | ⟨hc,hk | hk | hk⟩ | ⟨hc,hk | hk⟩ | ⟨hc,hk⟩ | hc
     all_goals try (exfalso;omega)
     all_goals try simp only [hk]
     all_goals refine ⟨(),ts_ (by assumption) (hfr:=?_),(by first | exact rfl | exact trivial)⟩
     all_goals repeat (first | exact FTr.nil | refine ftc_ ?_ (hc:=by first | exact trivial | exact clL_caV _ _ | exact clL_crV _ _ | exact clL_bV _ _ | (simp [AV.cl,AV.clL];done) | (simp only [AV.cl,List.length_append,List.length_singleton];omega)))
    refine rg_ [3,4,5,16,17,20,21,22,114,140] ?_
    refine cx_ (fun hb12=>?_) (fun hb12=>?_)
    ·
     refine rt_ [3,4,5,16,17,20,21,22] ?_
     refine srn_ ?_
     clear hK1 hK2 hK3 hK4 hK5 hK6
     rcases hlaw.1 with hk | ⟨hc,hk⟩ | ⟨hc,hk⟩ | ⟨hc,hk⟩ | ⟨hc,hk⟩ | ⟨hc,hk | hk | hk⟩ | ⟨hc,hk | hk⟩ | ⟨hc,hk⟩ | hc
     all_goals try (exfalso;omega)
     all_goals try simp only [hk]
     all_goals refine ⟨(),ts_ (by assumption) (hfr:=?_),(by first | exact rfl | exact trivial)⟩
     all_goals repeat (first | exact FTr.nil | refine ftc_ ?_ (hc:=by first | exact trivial | exact clL_caV _ _ | exact clL_crV _ _ | exact clL_bV _ _ | (simp [AV.cl,AV.clL];done) | (simp only [AV.cl,List.length_append,List.length_singleton];omega)))
    refine rg_ [3,4,5,16,17,20,21,22,114,147] ?_
    refine cx_ (fun hb13=>?_) (fun hb13=>?_)
    ·
     refine rt_ [3,4,5,16,17,20,21,22] ?_
     refine srn_ ?_
     clear hK1 hK2 hK3 hK4 hK5 hK6
     rcases hlaw.1 with hk | ⟨hc,hk⟩ | ⟨hc,hk⟩ | ⟨hc,hk⟩ | ⟨hc,hk⟩ | ⟨hc,hk | hk | hk⟩ | ⟨hc,hk | hk⟩ | ⟨hc,hk⟩ | hc
     all_goals try (exfalso;omega)
     all_goals try simp only [hk]
     all_goals refine ⟨(),ts_ (by assumption) (hfr:=?_),(by first | exact rfl | exact trivial)⟩
     all_goals repeat (first | exact FTr.nil | refine ftc_ ?_ (hc:=by first | exact trivial | exact clL_caV _ _ | exact clL_crV _ _ | exact clL_bV _ _ | (simp [AV.cl,AV.clL];done) | (simp only [AV.cl,List.length_append,List.length_singleton];omega)))
    refine rg_ [3,4,5,16,17,20,21,22,114,162] ?_
    refine cx_ (fun hb14=>?_) (fun hb14=>?_)
    ·
     refine rt_ [3,4,5,16,17,20,21,22] ?_
     refine srn_ ?_
     clear hK1 hK2 hK3 hK4 hK5 hK6
     rcases hlaw.1 with hk | ⟨hc,hk⟩ | ⟨hc,hk⟩ | ⟨hc,hk⟩ | ⟨hc,hk⟩ | ⟨hc,hk | hk | hk⟩ | ⟨hc,hk | hk⟩ | ⟨hc,hk⟩ | hc
     all_goals try (exfalso;omega)
     all_goals try simp only [hk]
     all_goals refine ⟨(),ts_ (by assumption) (hfr:=?_),(by first | exact rfl | exact trivial)⟩
     all_goals repeat (first | exact FTr.nil | refine ftc_ ?_ (hc:=by first | exact trivial | exact clL_caV _ _ | exact clL_crV _ _ | exact clL_bV _ _ | (simp [AV.cl,AV.clL];done) | (simp only [AV.cl,List.length_append,List.length_singleton];omega)))
    refine rg_ [3,4,5,16,17,20,21,22,114,173] ?_
    refine cx_ (fun hb15=>?_) (fun hb15=>?_)
    ·
     refine rt_ [3,4,5,16,17,20,21,22] ?_
     refine srn_ ?_
     clear hK1 hK2 hK3 hK4 hK5 hK6
     rcases hlaw.1 with hk | ⟨hc,hk⟩ | ⟨hc,hk⟩ | ⟨hc,hk⟩ | ⟨hc,hk⟩ | ⟨hc,hk | hk | hk⟩ | ⟨hc,hk | hk⟩ | ⟨hc,hk⟩ | hc
     all_goals try (exfalso;omega)
     all_goals try simp only [hk]
     all_goals refine ⟨(),ts_ (by assumption) (hfr:=?_),(by first | exact rfl | exact trivial)⟩
     all_goals repeat (first | exact FTr.nil | refine ftc_ ?_ (hc:=by first | exact trivial | exact clL_caV _ _ | exact clL_crV _ _ | exact clL_bV _ _ | (simp [AV.cl,AV.clL];done) | (simp only [AV.cl,List.length_append,List.length_singleton];omega)))
    refine rg_ [3,4,5,16,17,20,21,22,180] ?_
    refine cx_ (fun hb16=>?_) (fun hb16=>?_)
    ·
     refine rt_ [3,4,5,16,17,20,21,22] ?_
     refine srn_ ?_
     clear hK1 hK2 hK3 hK4 hK5 hK6
     rcases hlaw.1 with hk | ⟨hc,hk⟩ | ⟨hc,hk⟩ | ⟨hc,hk⟩ | ⟨hc,hk⟩ | ⟨hc,hk | hk | hk⟩ | ⟨hc,hk | hk⟩ | ⟨hc,hk⟩ | hc
     all_goals try (exfalso;omega)
     all_goals try simp only [hk]
     all_goals refine ⟨(),ts_ (by assumption) (hfr:=?_),(by first | exact rfl | exact trivial)⟩
     all_goals repeat (first | exact FTr.nil | refine ftc_ ?_ (hc:=by first | exact trivial | exact clL_caV _ _ | exact clL_crV _ _ | exact clL_bV _ _ | (simp [AV.cl,AV.clL];done) | (simp only [AV.cl,List.length_append,List.length_singleton];omega)))
    refine skp_ ?_
    clear hK1 hK2 hK3 hK4 hK5 hK6
    rcases hlaw.1 with hk | ⟨hc,hk⟩ | ⟨hc,hk⟩ | ⟨hc,hk⟩ | ⟨hc,hk⟩ | ⟨hc,hk | hk | hk⟩ | ⟨hc,hk | hk⟩ | ⟨hc,hk⟩ | hc
    all_goals try (exfalso;omega)
    all_goals try simp only [hk]
    all_goals refine ⟨(),ts_ (by assumption) (hfr:=?_),(by first | exact rfl | exact trivial)⟩
    all_goals repeat (first | exact FTr.nil | refine ftc_ ?_ (hc:=by first | exact trivial | exact clL_caV _ _ | exact clL_crV _ _ | exact clL_bV _ _ | (simp [AV.cl,AV.clL];done) | (simp only [AV.cl,List.length_append,List.length_singleton];omega)))
   refine rt_ [3,4,5,16,17,20,21,22,114,132] ?_
   refine srn_ ?_
   refine hK10 _ ?_
   refine cx_ (fun hb11=>?_) (fun hb11=>?_)
   ·
    refine rt_ [3,4,5,16,17,20,21,22] ?_
    refine srn_ ?_
    clear hK1 hK2 hK3 hK4 hK5 hK6
    rcases hlaw.1 with hk | ⟨hc,hk⟩ | ⟨hc,hk⟩ | ⟨hc,hk⟩ | ⟨hc,hk⟩ | ⟨hc,hk | hk | hk⟩ | ⟨hc,hk | hk⟩ | ⟨hc,hk⟩ | hc
    all_goals try (exfalso;omega)
    all_goals try simp only [hk]
    all_goals refine ⟨(),ts_ (by assumption) (hfr:=?_),(by first | exact rfl | exact trivial)⟩
    all_goals repeat (first | exact FTr.nil | refine ftc_ ?_ (hc:=by first | exact trivial | exact clL_caV _ _ | exact clL_crV _ _ | exact clL_bV _ _ | (simp [AV.cl,AV.clL];done) | (simp only [AV.cl,List.length_append,List.length_singleton];omega)))
   refine rg_ [3,4,5,16,17,20,21,22,114,140] ?_
   refine cx_ (fun hb12=>?_) (fun hb12=>?_)
   ·
    refine rt_ [3,4,5,16,17,20,21,22] ?_
    refine srn_ ?_
    clear hK1 hK2 hK3 hK4 hK5 hK6
    rcases hlaw.1 with hk | ⟨hc,hk⟩ | ⟨hc,hk⟩ | ⟨hc,hk⟩ | ⟨hc,hk⟩ | ⟨hc,hk | hk | hk⟩ | ⟨hc,hk | hk⟩ | ⟨hc,hk⟩ | hc
    all_goals try (exfalso;omega)
    all_goals try simp only [hk]
    all_goals refine ⟨(),ts_ (by assumption) (hfr:=?_),(by first | exact rfl | exact trivial)⟩
    all_goals repeat (first | exact FTr.nil | refine ftc_ ?_ (hc:=by first | exact trivial | exact clL_caV _ _ | exact clL_crV _ _ | exact clL_bV _ _ | (simp [AV.cl,AV.clL];done) | (simp only [AV.cl,List.length_append,List.length_singleton];omega)))
   refine rg_ [3,4,5,16,17,20,21,22,114,147] ?_
   refine cx_ (fun hb13=>?_) (fun hb13=>?_)
   ·
    refine rt_ [3,4,5,16,17,20,21,22] ?_
    refine srn_ ?_
    clear hK1 hK2 hK3 hK4 hK5 hK6
    rcases hlaw.1 with hk | ⟨hc,hk⟩ | ⟨hc,hk⟩ | ⟨hc,hk⟩ | ⟨hc,hk⟩ | ⟨hc,hk | hk | hk⟩ | ⟨hc,hk | hk⟩ | ⟨hc,hk⟩ | hc
    all_goals try (exfalso;omega)
    all_goals try simp only [hk]
    all_goals refine ⟨(),ts_ (by assumption) (hfr:=?_),(by first | exact rfl | exact trivial)⟩
    all_goals repeat (first | exact FTr.nil | refine ftc_ ?_ (hc:=by first | exact trivial | exact clL_caV _ _ | exact clL_crV _ _ | exact clL_bV _ _ | (simp [AV.cl,AV.clL];done) | (simp only [AV.cl,List.length_append,List.length_singleton];omega)))
   refine rg_ [3,4,5,16,17,20,21,22,114,162] ?_
   refine cx_ (fun hb14=>?_) (fun hb14=>?_)
   ·
    refine rt_ [3,4,5,16,17,20,21,22] ?_
    refine srn_ ?_
    clear hK1 hK2 hK3 hK4 hK5 hK6
    rcases hlaw.1 with hk | ⟨hc,hk⟩ | ⟨hc,hk⟩ | ⟨hc,hk⟩ | ⟨hc,hk⟩ | ⟨hc,hk | hk | hk⟩ | ⟨hc,hk | hk⟩ | ⟨hc,hk⟩ | hc
    all_goals try (exfalso;omega)
    all_goals try simp only [hk]
    all_goals refine ⟨(),ts_ (by assumption) (hfr:=?_),(by first | exact rfl | exact trivial)⟩
    all_goals repeat (first | exact FTr.nil | refine ftc_ ?_ (hc:=by first | exact trivial | exact clL_caV _ _ | exact clL_crV _ _ | exact clL_bV _ _ | (simp [AV.cl,AV.clL];done) | (simp only [AV.cl,List.length_append,List.length_singleton];omega)))
   refine rg_ [3,4,5,16,17,20,21,22,114,173] ?_
   refine cx_ (fun hb15=>?_) (fun hb15=>?_)
   ·
    refine rt_ [3,4,5,16,17,20,21,22] ?_
    refine srn_ ?_
    clear hK1 hK2 hK3 hK4 hK5 hK6
    rcases hlaw.1 with hk | ⟨hc,hk⟩ | ⟨hc,hk⟩ | ⟨hc,hk⟩ | ⟨hc,hk⟩ | ⟨hc,hk | hk | hk⟩ | ⟨hc,hk | hk⟩ | ⟨hc,hk⟩ | hc
    all_goals try (exfalso;omega)
    all_goals try simp only [hk]
    all_goals refine ⟨(),ts_ (by assumption) (hfr:=?_),(by first | exact rfl | exact trivial)⟩
    all_goals repeat (first | exact FTr.nil | refine ftc_ ?_ (hc:=by first | exact trivial | exact clL_caV _ _ | exact clL_crV _ _ | exact clL_bV _ _ | (simp [AV.cl,AV.clL];done) | (simp only [AV.cl,List.length_append,List.length_singleton];omega)))
   refine rg_ [3,4,5,16,17,20,21,22,180] ?_
   refine cx_ (fun hb16=>?_) (fun hb16=>?_)
   ·
    refine rt_ [3,4,5,16,17,20,21,22] ?_
    refine srn_ ?_
    clear hK1 hK2 hK3 hK4 hK5 hK6
    rcases hlaw.1 with hk | ⟨hc,hk⟩ | ⟨hc,hk⟩ | ⟨hc,hk⟩ | ⟨hc,hk⟩ | ⟨hc,hk | hk | hk⟩ | ⟨hc,hk | hk⟩ | ⟨hc,hk⟩ | hc
    all_goals try (exfalso;omega)
    all_goals try simp only [hk]
    all_goals refine ⟨(),ts_ (by assumption) (hfr:=?_),(by first | exact rfl | exact trivial)⟩
    all_goals repeat (first | exact FTr.nil | refine ftc_ ?_ (hc:=by first | exact trivial | exact clL_caV _ _ | exact clL_crV _ _ | exact clL_bV _ _ | (simp [AV.cl,AV.clL];done) | (simp only [AV.cl,List.length_append,List.length_singleton];omega)))
   refine skp_ ?_
   clear hK1 hK2 hK3 hK4 hK5 hK6
   rcases hlaw.1 with hk | ⟨hc,hk⟩ | ⟨hc,hk⟩ | ⟨hc,hk⟩ | ⟨hc,hk⟩ | ⟨hc,hk | hk | hk⟩ | ⟨hc,hk | hk⟩ | ⟨hc,hk⟩ | hc
   all_goals try (exfalso;omega)
   all_goals try simp only [hk]
   all_goals refine ⟨(),ts_ (by assumption) (hfr:=?_),(by first | exact rfl | exact trivial)⟩
   all_goals repeat (first | exact FTr.nil | refine ftc_ ?_ (hc:=by first | exact trivial | exact clL_caV _ _ | exact clL_crV _ _ | exact clL_bV _ _ | (simp [AV.cl,AV.clL];done) | (simp only [AV.cl,List.length_append,List.length_singleton];omega)))
  refine rg_ [3,4,5,16,17,20,21,22,114,115] ?_
  refine cx_ (fun hb6=>?_) (fun hb6=>?_)
  ·
   refine skp_ ?_
   refine hK7 _ ?_
   refine cx_ (fun hb7=>?_) (fun hb7=>?_)
   ·
    refine rt_ [3,4,5,16,17,20,21,22] ?_
    refine srn_ ?_
    clear hK1 hK2 hK3 hK4 hK5 hK6
    rcases hlaw.1 with hk | ⟨hc,hk⟩ | ⟨hc,hk⟩ | ⟨hc,hk⟩ | ⟨hc,hk⟩ | ⟨hc,hk | hk | hk⟩ | ⟨hc,hk | hk⟩ | ⟨hc,hk⟩ | hc
    all_goals try (exfalso;omega)
    all_goals try simp only [hk]
    all_goals refine ⟨(),ts_ (by assumption) (hfr:=?_),(by first | exact rfl | exact trivial)⟩
    all_goals repeat (first | exact FTr.nil | refine ftc_ ?_ (hc:=by first | exact trivial | exact clL_caV _ _ | exact clL_crV _ _ | exact clL_bV _ _ | (simp [AV.cl,AV.clL];done) | (simp only [AV.cl,List.length_append,List.length_singleton];omega)))
   refine sk_ fun K11 hK11=>?_
   refine rg_ [3,4,5,16,17,20,21,22,114,124] ?_
   refine cx_ (fun hb8=>?_) (fun hb8=>?_)
   ·
    refine skp_ ?_
    refine hK11 _ ?_
    refine cx_ (fun hb9=>?_) (fun hb9=>?_)
    ·
     refine rt_ [3,4,5,16,17,20,21,22] ?_
     refine srn_ ?_
     clear hK1 hK2 hK3 hK4 hK5 hK6
     rcases hlaw.1 with hk | ⟨hc,hk⟩ | ⟨hc,hk⟩ | ⟨hc,hk⟩ | ⟨hc,hk⟩ | ⟨hc,hk | hk | hk⟩ | ⟨hc,hk | hk⟩ | ⟨hc,hk⟩ | hc
     all_goals try (exfalso;omega)
     all_goals try simp only [hk]
     all_goals refine ⟨(),ts_ (by assumption) (hfr:=?_),(by first | exact rfl | exact trivial)⟩
     all_goals repeat (first | exact FTr.nil | refine ftc_ ?_ (hc:=by first | exact trivial | exact clL_caV _ _ | exact clL_crV _ _ | exact clL_bV _ _ | (simp [AV.cl,AV.clL];done) | (simp only [AV.cl,List.length_append,List.length_singleton];omega)))
    refine sk_ fun K12 hK12=>?_
    refine rg_ [3,4,5,16,17,20,21,22,114,132] ?_
    refine cx_ (fun hb10=>?_) (fun hb10=>?_)
    ·
     refine skp_ ?_
     refine hK12 _ ?_
     refine cx_ (fun hb11=>?_) (fun hb11=>?_)
     ·
      refine rt_ [3,4,5,16,17,20,21,22] ?_
      refine srn_ ?_
      clear hK1 hK2 hK3 hK4 hK5 hK6
      rcases hlaw.1 with hk | ⟨hc,hk⟩ | ⟨hc,hk⟩ | ⟨hc,hk⟩ | ⟨hc,hk⟩ | ⟨hc,hk | hk | hk⟩ | ⟨hc,hk | hk⟩ | ⟨hc,hk⟩ | hc
      all_goals try (exfalso;omega)
      all_goals try simp only [hk]
      all_goals refine ⟨(),ts_ (by assumption) (hfr:=?_),(by first | exact rfl | exact trivial)⟩
      all_goals repeat (first | exact FTr.nil | refine ftc_ ?_ (hc:=by first | exact trivial | exact clL_caV _ _ | exact clL_crV _ _ | exact clL_bV _ _ | (simp [AV.cl,AV.clL];done) | (simp only [AV.cl,List.length_append,List.length_singleton];omega)))
     refine rg_ [3,4,5,16,17,20,21,22,114,140] ?_
     refine cx_ (fun hb12=>?_) (fun hb12=>?_)
     ·
      refine rt_ [3,4,5,16,17,20,21,22] ?_
      refine srn_ ?_
      clear hK1 hK2 hK3 hK4 hK5 hK6
      rcases hlaw.1 with hk | ⟨hc,hk⟩ | ⟨hc,hk⟩ | ⟨hc,hk⟩ | ⟨hc,hk⟩ | ⟨hc,hk | hk | hk⟩ | ⟨hc,hk | hk⟩ | ⟨hc,hk⟩ | hc
      all_goals try (exfalso;omega)
      all_goals try simp only [hk]
      all_goals refine ⟨(),ts_ (by assumption) (hfr:=?_),(by first | exact rfl | exact trivial)⟩
      all_goals repeat (first | exact FTr.nil | refine ftc_ ?_ (hc:=by first | exact trivial | exact clL_caV _ _ | exact clL_crV _ _ | exact clL_bV _ _ | (simp [AV.cl,AV.clL];done) | (simp only [AV.cl,List.length_append,List.length_singleton];omega)))
     refine rg_ [3,4,5,16,17,20,21,22,114,147] ?_
     refine cx_ (fun hb13=>?_) (fun hb13=>?_)
     ·
      refine rt_ [3,4,5,16,17,20,21,22] ?_
      refine srn_ ?_
      clear hK1 hK2 hK3 hK4 hK5 hK6
      rcases hlaw.1 with hk | ⟨hc,hk⟩ | ⟨hc,hk⟩ | ⟨hc,hk⟩ | ⟨hc,hk⟩ | ⟨hc,hk | hk | hk⟩ | ⟨hc,hk | hk⟩ | ⟨hc,hk⟩ | hc
      all_goals try (exfalso;omega)
      all_goals try simp only [hk]
      all_goals refine ⟨(),ts_ (by assumption) (hfr:=?_),(by first | exact rfl | exact trivial)⟩
      all_goals repeat (first | exact FTr.nil | refine ftc_ ?_ (hc:=by first | exact trivial | exact clL_caV _ _ | exact clL_crV _ _ | exact clL_bV _ _ | (simp [AV.cl,AV.clL];done) | (simp only [AV.cl,List.length_append,List.length_singleton];omega)))
     refine rg_ [3,4,5,16,17,20,21,22,114,162] ?_
     refine cx_ (fun hb14=>?_) (fun hb14=>?_)
     ·
      refine rt_ [3,4,5,16,17,20,21,22] ?_
      refine srn_ ?_
      clear hK1 hK2 hK3 hK4 hK5 hK6
      rcases hlaw.1 with hk | ⟨hc,hk⟩ | ⟨hc,hk⟩ | ⟨hc,hk⟩ | ⟨hc,hk⟩ | ⟨hc,hk | hk | hk⟩ | ⟨hc,hk | hk⟩ | ⟨hc,hk⟩ | hc
      all_goals try (exfalso;omega)
      all_goals try simp only [hk]
      all_goals refine ⟨(),ts_ (by assumption) (hfr:=?_),(by first | exact rfl | exact trivial)⟩
      all_goals repeat (first | exact FTr.nil | refine ftc_ ?_ (hc:=by first | exact trivial | exact clL_caV _ _ | exact clL_crV _ _ | exact clL_bV _ _ | (simp [AV.cl,AV.clL];done) | (simp only [AV.cl,List.length_append,List.length_singleton];omega)))
     refine rg_ [3,4,5,16,17,20,21,22,114,173] ?_
     refine cx_ (fun hb15=>?_) (fun hb15=>?_)
     ·
      refine rt_ [3,4,5,16,17,20,21,22] ?_
      refine srn_ ?_
      clear hK1 hK2 hK3 hK4 hK5 hK6
      rcases hlaw.1 with hk | ⟨hc,hk⟩ | ⟨hc,hk⟩ | ⟨hc,hk⟩ | ⟨hc,hk⟩ | ⟨hc,hk | hk | hk⟩ | ⟨hc,hk | hk⟩ | ⟨hc,hk⟩ | hc
      all_goals try (exfalso;omega)
      all_goals try simp only [hk]
      all_goals refine ⟨(),ts_ (by assumption) (hfr:=?_),(by first | exact rfl | exact trivial)⟩
      all_goals repeat (first | exact FTr.nil | refine ftc_ ?_ (hc:=by first | exact trivial | exact clL_caV _ _ | exact clL_crV _ _ | exact clL_bV _ _ | (simp [AV.cl,AV.clL];done) | (simp only [AV.cl,List.length_append,List.length_singleton];omega)))
     refine rg_ [3,4,5,16,17,20,21,22,180] ?_
     refine cx_ (fun hb16=>?_) (fun hb16=>?_)
     ·
      refine rt_ [3,4,5,16,17,20,21,22] ?_
      refine srn_ ?_
      clear hK1 hK2 hK3 hK4 hK5 hK6
      rcases hlaw.1 with hk | ⟨hc,hk⟩ | ⟨hc,hk⟩ | ⟨hc,hk⟩ | ⟨hc,hk⟩ | ⟨hc,hk | hk | hk⟩ | ⟨hc,hk | hk⟩ | ⟨hc,hk⟩ | hc
      all_goals try (exfalso;omega)
      all_goals try simp only [hk]
      all_goals refine ⟨(),ts_ (by assumption) (hfr:=?_),(by first | exact rfl | exact trivial)⟩
      all_goals repeat (first | exact FTr.nil | refine ftc_ ?_ (hc:=by first | exact trivial | exact clL_caV _ _ | exact clL_crV _ _ | exact clL_bV _ _ | (simp [AV.cl,AV.clL];done) | (simp only [AV.cl,List.length_append,List.length_singleton];omega)))
     refine skp_ ?_
     clear hK1 hK2 hK3 hK4 hK5 hK6
     rcases hlaw.1 with hk | ⟨hc,hk⟩ | ⟨hc,hk⟩ | ⟨hc,hk⟩ | ⟨hc,hk⟩ | ⟨hc,hk | hk | hk⟩ | ⟨hc,hk | hk⟩ | ⟨hc,hk⟩ | hc
     all_goals try (exfalso;omega)
     all_goals try simp only [hk]
     all_goals refine ⟨(),ts_ (by assumption) (hfr:=?_),(by first | exact rfl | exact trivial)⟩
     all_goals repeat (first | exact FTr.nil | refine ftc_ ?_ (hc:=by first | exact trivial | exact clL_caV _ _ | exact clL_crV _ _ | exact clL_bV _ _ | (simp [AV.cl,AV.clL];done) | (simp only [AV.cl,List.length_append,List.length_singleton];omega)))
    refine rt_ [3,4,5,16,17,20,21,22,114,132] ?_
    refine srn_ ?_
    refine hK12 _ ?_
    refine cx_ (fun hb11=>?_) (fun hb11=>?_)
    ·
     refine rt_ [3,4,5,16,17,20,21,22] ?_
     refine srn_ ?_
     clear hK1 hK2 hK3 hK4 hK5 hK6
     rcases hlaw.1 with hk | ⟨hc,hk⟩ | ⟨hc,hk⟩ | ⟨hc,hk⟩ | ⟨hc,hk⟩ | ⟨hc,hk | hk | hk⟩ | ⟨hc,hk | hk⟩ | ⟨hc,hk⟩ | hc
     all_goals try (exfalso;omega)
     all_goals try simp only [hk]
     all_goals refine ⟨(),ts_ (by assumption) (hfr:=?_),(by first | exact rfl | exact trivial)⟩
     all_goals repeat (first | exact FTr.nil | refine ftc_ ?_ (hc:=by first | exact trivial | exact clL_caV _ _ | exact clL_crV _ _ | exact clL_bV _ _ | (simp [AV.cl,AV.clL];done) | (simp only [AV.cl,List.length_append,List.length_singleton];omega)))
    refine rg_ [3,4,5,16,17,20,21,22,114,140] ?_
    refine cx_ (fun hb12=>?_) (fun hb12=>?_)
    ·
     refine rt_ [3,4,5,16,17,20,21,22] ?_
     refine srn_ ?_
     clear hK1 hK2 hK3 hK4 hK5 hK6
     rcases hlaw.1 with hk | ⟨hc,hk⟩ | ⟨hc,hk⟩ | ⟨hc,hk⟩ | ⟨hc,hk⟩ | ⟨hc,hk | hk | hk⟩ | ⟨hc,hk | hk⟩ | ⟨hc,hk⟩ | hc
     all_goals try (exfalso;omega)
     all_goals try simp only [hk]
     all_goals refine ⟨(),ts_ (by assumption) (hfr:=?_),(by first | exact rfl | exact trivial)⟩
     all_goals repeat (first | exact FTr.nil | refine ftc_ ?_ (hc:=by first | exact trivial | exact clL_caV _ _ | exact clL_crV _ _ | exact clL_bV _ _ | (simp [AV.cl,AV.clL];done) | (simp only [AV.cl,List.length_append,List.length_singleton];omega)))
    refine rg_ [3,4,5,16,17,20,21,22,114,147] ?_
    refine cx_ (fun hb13=>?_) (fun hb13=>?_)
    ·
     refine rt_ [3,4,5,16,17,20,21,22] ?_
     refine srn_ ?_
     clear hK1 hK2 hK3 hK4 hK5 hK6
     rcases hlaw.1 with hk | ⟨hc,hk⟩ | ⟨hc,hk⟩ | ⟨hc,hk⟩ | ⟨hc,hk⟩ | ⟨hc,hk | hk | hk⟩ | ⟨hc,hk | hk⟩ | ⟨hc,hk⟩ | hc
     all_goals try (exfalso;omega)
     all_goals try simp only [hk]
     all_goals refine ⟨(),ts_ (by assumption) (hfr:=?_),(by first | exact rfl | exact trivial)⟩
     all_goals repeat (first | exact FTr.nil | refine ftc_ ?_ (hc:=by first | exact trivial | exact clL_caV _ _ | exact clL_crV _ _ | exact clL_bV _ _ | (simp [AV.cl,AV.clL];done) | (simp only [AV.cl,List.length_append,List.length_singleton];omega)))
    refine rg_ [3,4,5,16,17,20,21,22,114,162] ?_
    refine cx_ (fun hb14=>?_) (fun hb14=>?_)
    ·
     refine rt_ [3,4,5,16,17,20,21,22] ?_
     refine srn_ ?_
     clear hK1 hK2 hK3 hK4 hK5 hK6
     rcases hlaw.1 with hk | ⟨hc,hk⟩ | ⟨hc,hk⟩ | ⟨hc,hk⟩ | ⟨hc,hk⟩ | ⟨hc,hk | hk | hk⟩ | ⟨hc,hk | hk⟩ | ⟨hc,hk⟩ | hc
     all_goals try (exfalso;omega)
     all_goals try simp only [hk]
     all_goals refine ⟨(),ts_ (by assumption) (hfr:=?_),(by first | exact rfl | exact trivial)⟩
     all_goals repeat (first | exact FTr.nil | refine ftc_ ?_ (hc:=by first | exact trivial | exact clL_caV _ _ | exact clL_crV _ _ | exact clL_bV _ _ | (simp [AV.cl,AV.clL];done) | (simp only [AV.cl,List.length_append,List.length_singleton];omega)))
    refine rg_ [3,4,5,16,17,20,21,22,114,173] ?_
    refine cx_ (fun hb15=>?_) (fun hb15=>?_)
    ·
     refine rt_ [3,4,5,16,17,20,21,22] ?_
     refine srn_ ?_
     clear hK1 hK2 hK3 hK4 hK5 hK6
     rcases hlaw.1 with hk | ⟨hc,hk⟩ | ⟨hc,hk⟩ | ⟨hc,hk⟩ | ⟨hc,hk⟩ | ⟨hc,hk | hk | hk⟩ | ⟨hc,hk | hk⟩ | ⟨hc,hk⟩ | hc
     all_goals try (exfalso;omega)
     all_goals try simp only [hk]
     all_goals refine ⟨(),ts_ (by assumption) (hfr:=?_),(by first | exact rfl | exact trivial)⟩
     all_goals repeat (first | exact FTr.nil | refine ftc_ ?_ (hc:=by first | exact trivial | exact clL_caV _ _ | exact clL_crV _ _ | exact clL_bV _ _ | (simp [AV.cl,AV.clL];done) | (simp only [AV.cl,List.length_append,List.length_singleton];omega)))
    refine rg_ [3,4,5,16,17,20,21,22,180] ?_
    refine cx_ (fun hb16=>?_) (fun hb16=>?_)
    ·
     refine rt_ [3,4,5,16,17,20,21,22] ?_
     refine srn_ ?_
     clear hK1 hK2 hK3 hK4 hK5 hK6
     rcases hlaw.1 with hk | ⟨hc,hk⟩ | ⟨hc,hk⟩ | ⟨hc,hk⟩ | ⟨hc,hk⟩ | ⟨hc,hk | hk | hk⟩ | ⟨hc,hk | hk⟩ | ⟨hc,hk⟩ | hc
     all_goals try (exfalso;omega)
     all_goals try simp only [hk]
     all_goals refine ⟨(),ts_ (by assumption) (hfr:=?_),(by first | exact rfl | exact trivial)⟩
     all_goals repeat (first | exact FTr.nil | refine ftc_ ?_ (hc:=by first | exact trivial | exact clL_caV _ _ | exact clL_crV _ _ | exact clL_bV _ _ | (simp [AV.cl,AV.clL];done) | (simp only [AV.cl,List.length_append,List.length_singleton];omega)))
    refine skp_ ?_
    clear hK1 hK2 hK3 hK4 hK5 hK6
    rcases hlaw.1 with hk | ⟨hc,hk⟩ | ⟨hc,hk⟩ | ⟨hc,hk⟩ | ⟨hc,hk⟩ | ⟨hc,hk | hk | hk⟩ | ⟨hc,hk | hk⟩ | ⟨hc,hk⟩ | hc
    all_goals try (exfalso;omega)
    all_goals try simp only [hk]
    all_goals refine ⟨(),ts_ (by assumption) (hfr:=?_),(by first | exact rfl | exact trivial)⟩
    all_goals repeat (first | exact FTr.nil | refine ftc_ ?_ (hc:=by first | exact trivial | exact clL_caV _ _ | exact clL_crV _ _ | exact clL_bV _ _ | (simp [AV.cl,AV.clL];done) | (simp only [AV.cl,List.length_append,List.length_singleton];omega)))
   refine rt_ [3,4,5,16,17,20,21,22,114,124] ?_
   refine srn_ ?_
   refine hK11 _ ?_
   refine cx_ (fun hb9=>?_) (fun hb9=>?_)
   ·
    refine rt_ [3,4,5,16,17,20,21,22] ?_
    refine srn_ ?_
    clear hK1 hK2 hK3 hK4 hK5 hK6
    rcases hlaw.1 with hk | ⟨hc,hk⟩ | ⟨hc,hk⟩ | ⟨hc,hk⟩ | ⟨hc,hk⟩ | ⟨hc,hk | hk | hk⟩ | ⟨hc,hk | hk⟩ | ⟨hc,hk⟩ | hc
    all_goals try (exfalso;omega)
    all_goals try simp only [hk]
    all_goals refine ⟨(),ts_ (by assumption) (hfr:=?_),(by first | exact rfl | exact trivial)⟩
    all_goals repeat (first | exact FTr.nil | refine ftc_ ?_ (hc:=by first | exact trivial | exact clL_caV _ _ | exact clL_crV _ _ | exact clL_bV _ _ | (simp [AV.cl,AV.clL];done) | (simp only [AV.cl,List.length_append,List.length_singleton];omega)))
   refine sk_ fun K13 hK13=>?_
   refine rg_ [3,4,5,16,17,20,21,22,114,132] ?_
   refine cx_ (fun hb10=>?_) (fun hb10=>?_)
   ·
    refine skp_ ?_
    refine hK13 _ ?_
    refine cx_ (fun hb11=>?_) (fun hb11=>?_)
    ·
     refine rt_ [3,4,5,16,17,20,21,22] ?_
     refine srn_ ?_
     clear hK1 hK2 hK3 hK4 hK5 hK6
     rcases hlaw.1 with hk | ⟨hc,hk⟩ | ⟨hc,hk⟩ | ⟨hc,hk⟩ | ⟨hc,hk⟩ | ⟨hc,hk | hk | hk⟩ | ⟨hc,hk | hk⟩ | ⟨hc,hk⟩ | hc
     all_goals try (exfalso;omega)
     all_goals try simp only [hk]
     all_goals refine ⟨(),ts_ (by assumption) (hfr:=?_),(by first | exact rfl | exact trivial)⟩
     all_goals repeat (first | exact FTr.nil | refine ftc_ ?_ (hc:=by first | exact trivial | exact clL_caV _ _ | exact clL_crV _ _ | exact clL_bV _ _ | (simp [AV.cl,AV.clL];done) | (simp only [AV.cl,List.length_append,List.length_singleton];omega)))
    refine rg_ [3,4,5,16,17,20,21,22,114,140] ?_
    refine cx_ (fun hb12=>?_) (fun hb12=>?_)
    ·
     refine rt_ [3,4,5,16,17,20,21,22] ?_
     refine srn_ ?_
     clear hK1 hK2 hK3 hK4 hK5 hK6
     rcases hlaw.1 with hk | ⟨hc,hk⟩ | ⟨hc,hk⟩ | ⟨hc,hk⟩ | ⟨hc,hk⟩ | ⟨hc,hk | hk | hk⟩ | ⟨hc,hk | hk⟩ | ⟨hc,hk⟩ | hc
     all_goals try (exfalso;omega)
     all_goals try simp only [hk]
     all_goals refine ⟨(),ts_ (by assumption) (hfr:=?_),(by first | exact rfl | exact trivial)⟩
     all_goals repeat (first | exact FTr.nil | refine ftc_ ?_ (hc:=by first | exact trivial | exact clL_caV _ _ | exact clL_crV _ _ | exact clL_bV _ _ | (simp [AV.cl,AV.clL];done) | (simp only [AV.cl,List.length_append,List.length_singleton];omega)))
    refine rg_ [3,4,5,16,17,20,21,22,114,147] ?_
    refine cx_ (fun hb13=>?_) (fun hb13=>?_)
    ·
     refine rt_ [3,4,5,16,17,20,21,22] ?_
     refine srn_ ?_
     clear hK1 hK2 hK3 hK4 hK5 hK6
     rcases hlaw.1 with hk | ⟨hc,hk⟩ | ⟨hc,hk⟩ | ⟨hc,hk⟩ | ⟨hc,hk⟩ | ⟨hc,hk | hk | hk⟩ | ⟨hc,hk | hk⟩ | ⟨hc,hk⟩ | hc
     all_goals try (exfalso;omega)
     all_goals try simp only [hk]
     all_goals refine ⟨(),ts_ (by assumption) (hfr:=?_),(by first | exact rfl | exact trivial)⟩
     all_goals repeat (first | exact FTr.nil | refine ftc_ ?_ (hc:=by first | exact trivial | exact clL_caV _ _ | exact clL_crV _ _ | exact clL_bV _ _ | (simp [AV.cl,AV.clL];done) | (simp only [AV.cl,List.length_append,List.length_singleton];omega)))
    refine rg_ [3,4,5,16,17,20,21,22,114,162] ?_
    refine cx_ (fun hb14=>?_) (fun hb14=>?_)
    ·
     refine rt_ [3,4,5,16,17,20,21,22] ?_
     refine srn_ ?_
     clear hK1 hK2 hK3 hK4 hK5 hK6
     rcases hlaw.1 with hk | ⟨hc,hk⟩ | ⟨hc,hk⟩ | ⟨hc,hk⟩ | ⟨hc,hk⟩ | ⟨hc,hk | hk | hk⟩ | ⟨hc,hk | hk⟩ | ⟨hc,hk⟩ | hc
     all_goals try (exfalso;omega)
     all_goals try simp only [hk]
     all_goals refine ⟨(),ts_ (by assumption) (hfr:=?_),(by first | exact rfl | exact trivial)⟩
     all_goals repeat (first | exact FTr.nil | refine ftc_ ?_ (hc:=by first | exact trivial | exact clL_caV _ _ | exact clL_crV _ _ | exact clL_bV _ _ | (simp [AV.cl,AV.clL];done) | (simp only [AV.cl,List.length_append,List.length_singleton];omega)))
    refine rg_ [3,4,5,16,17,20,21,22,114,173] ?_
    refine cx_ (fun hb15=>?_) (fun hb15=>?_)
    ·
     refine rt_ [3,4,5,16,17,20,21,22] ?_
     refine srn_ ?_
     clear hK1 hK2 hK3 hK4 hK5 hK6
     rcases hlaw.1 with hk | ⟨hc,hk⟩ | ⟨hc,hk⟩ | ⟨hc,hk⟩ | ⟨hc,hk⟩ | ⟨hc,hk | hk | hk⟩ | ⟨hc,hk | hk⟩ | ⟨hc,hk⟩ | hc
     all_goals try (exfalso;omega)
     all_goals try simp only [hk]
     all_goals refine ⟨(),ts_ (by assumption) (hfr:=?_),(by first | exact rfl | exact trivial)⟩
     all_goals repeat (first | exact FTr.nil | refine ftc_ ?_ (hc:=by first | exact trivial | exact clL_caV _ _ | exact clL_crV _ _ | exact clL_bV _ _ | (simp [AV.cl,AV.clL];done) | (simp only [AV.cl,List.length_append,List.length_singleton];omega)))
    refine rg_ [3,4,5,16,17,20,21,22,180] ?_
    refine cx_ (fun hb16=>?_) (fun hb16=>?_)
    ·
     refine rt_ [3,4,5,16,17,20,21,22] ?_
     refine srn_ ?_
     clear hK1 hK2 hK3 hK4 hK5 hK6
     rcases hlaw.1 with hk | ⟨hc,hk⟩ | ⟨hc,hk⟩ | ⟨hc,hk⟩ | ⟨hc,hk⟩ | ⟨hc,hk | hk | hk⟩ | ⟨hc,hk | hk⟩ | ⟨hc,hk⟩ | hc
     all_goals try (exfalso;omega)
     all_goals try simp only [hk]
     all_goals refine ⟨(),ts_ (by assumption) (hfr:=?_),(by first | exact rfl | exact trivial)⟩
     all_goals repeat (first | exact FTr.nil | refine ftc_ ?_ (hc:=by first | exact trivial | exact clL_caV _ _ | exact clL_crV _ _ | exact clL_bV _ _ | (simp [AV.cl,AV.clL];done) | (simp only [AV.cl,List.length_append,List.length_singleton];omega)))
    refine skp_ ?_
    clear hK1 hK2 hK3 hK4 hK5 hK6
    rcases hlaw.1 with hk | ⟨hc,hk⟩ | ⟨hc,hk⟩ | ⟨hc,hk⟩ | ⟨hc,hk⟩ | ⟨hc,hk | hk | hk⟩ | ⟨hc,hk | hk⟩ | ⟨hc,hk⟩ | hc
    all_goals try (exfalso;omega)
    all_goals try simp only [hk]
    all_goals refine ⟨(),ts_ (by assumption) (hfr:=?_),(by first | exact rfl | exact trivial)⟩
    all_goals repeat (first | exact FTr.nil | refine ftc_ ?_ (hc:=by first | exact trivial | exact clL_caV _ _ | exact clL_crV _ _ | exact clL_bV _ _ | (simp [AV.cl,AV.clL];done) | (simp only [AV.cl,List.length_append,List.length_singleton];omega)))
   refine rt_ [3,4,5,16,17,20,21,22,114,132] ?_
   refine srn_ ?_
   refine hK13 _ ?_
   refine cx_ (fun hb11=>?_) (fun hb11=>?_)
   ·
    refine rt_ [3,4,5,16,17,20,21,22] ?_
    refine srn_ ?_
    clear hK1 hK2 hK3 hK4 hK5 hK6
    rcases hlaw.1 with hk | ⟨hc,hk⟩ | ⟨hc,hk⟩ | ⟨hc,hk⟩ | ⟨hc,hk⟩ | ⟨hc,hk | hk | hk⟩ | ⟨hc,hk | hk⟩ | ⟨hc,hk⟩ | hc
    all_goals try (exfalso;omega)
    all_goals try simp only [hk]
    all_goals refine ⟨(),ts_ (by assumption) (hfr:=?_),(by first | exact rfl | exact trivial)⟩
    all_goals repeat (first | exact FTr.nil | refine ftc_ ?_ (hc:=by first | exact trivial | exact clL_caV _ _ | exact clL_crV _ _ | exact clL_bV _ _ | (simp [AV.cl,AV.clL];done) | (simp only [AV.cl,List.length_append,List.length_singleton];omega)))
   refine rg_ [3,4,5,16,17,20,21,22,114,140] ?_
   refine cx_ (fun hb12=>?_) (fun hb12=>?_)
   ·
    refine rt_ [3,4,5,16,17,20,21,22] ?_
    refine srn_ ?_
    clear hK1 hK2 hK3 hK4 hK5 hK6
    rcases hlaw.1 with hk | ⟨hc,hk⟩ | ⟨hc,hk⟩ | ⟨hc,hk⟩ | ⟨hc,hk⟩ | ⟨hc,hk | hk | hk⟩ | ⟨hc,hk | hk⟩ | ⟨hc,hk⟩ | hc
    all_goals try (exfalso;omega)
    all_goals try simp only [hk]
    all_goals refine ⟨(),ts_ (by assumption) (hfr:=?_),(by first | exact rfl | exact trivial)⟩
    all_goals repeat (first | exact FTr.nil | refine ftc_ ?_ (hc:=by first | exact trivial | exact clL_caV _ _ | exact clL_crV _ _ | exact clL_bV _ _ | (simp [AV.cl,AV.clL];done) | (simp only [AV.cl,List.length_append,List.length_singleton];omega)))
   refine rg_ [3,4,5,16,17,20,21,22,114,147] ?_
   refine cx_ (fun hb13=>?_) (fun hb13=>?_)
   ·
    refine rt_ [3,4,5,16,17,20,21,22] ?_
    refine srn_ ?_
    clear hK1 hK2 hK3 hK4 hK5 hK6
    rcases hlaw.1 with hk | ⟨hc,hk⟩ | ⟨hc,hk⟩ | ⟨hc,hk⟩ | ⟨hc,hk⟩ | ⟨hc,hk | hk | hk⟩ | ⟨hc,hk | hk⟩ | ⟨hc,hk⟩ | hc
    all_goals try (exfalso;omega)
    all_goals try simp only [hk]
    all_goals refine ⟨(),ts_ (by assumption) (hfr:=?_),(by first | exact rfl | exact trivial)⟩
    all_goals repeat (first | exact FTr.nil | refine ftc_ ?_ (hc:=by first | exact trivial | exact clL_caV _ _ | exact clL_crV _ _ | exact clL_bV _ _ | (simp [AV.cl,AV.clL];done) | (simp only [AV.cl,List.length_append,List.length_singleton];omega)))
   refine rg_ [3,4,5,16,17,20,21,22,114,162] ?_
   refine cx_ (fun hb14=>?_) (fun hb14=>?_)
   ·
    refine rt_ [3,4,5,16,17,20,21,22] ?_
    refine srn_ ?_
    clear hK1 hK2 hK3 hK4 hK5 hK6
    rcases hlaw.1 with hk | ⟨hc,hk⟩ | ⟨hc,hk⟩ | ⟨hc,hk⟩ | ⟨hc,hk⟩ | ⟨hc,hk | hk | hk⟩ | ⟨hc,hk | hk⟩ | ⟨hc,hk⟩ | hc
    all_goals try (exfalso;omega)
    all_goals try simp only [hk]
    all_goals refine ⟨(),ts_ (by assumption) (hfr:=?_),(by first | exact rfl | exact trivial)⟩
    all_goals repeat (first | exact FTr.nil | refine ftc_ ?_ (hc:=by first | exact trivial | exact clL_caV _ _ | exact clL_crV _ _ | exact clL_bV _ _ | (simp [AV.cl,AV.clL];done) | (simp only [AV.cl,List.length_append,List.length_singleton];omega)))
   refine rg_ [3,4,5,16,17,20,21,22,114,173] ?_
   refine cx_ (fun hb15=>?_) (fun hb15=>?_)
   ·
    refine rt_ [3,4,5,16,17,20,21,22] ?_
    refine srn_ ?_
    clear hK1 hK2 hK3 hK4 hK5 hK6
    rcases hlaw.1 with hk | ⟨hc,hk⟩ | ⟨hc,hk⟩ | ⟨hc,hk⟩ | ⟨hc,hk⟩ | ⟨hc,hk | hk | hk⟩ | ⟨hc,hk | hk⟩ | ⟨hc,hk⟩ | hc
    all_goals try (exfalso;omega)
    all_goals try simp only [hk]
    all_goals refine ⟨(),ts_ (by assumption) (hfr:=?_),(by first | exact rfl | exact trivial)⟩
    all_goals repeat (first | exact FTr.nil | refine ftc_ ?_ (hc:=by first | exact trivial | exact clL_caV _ _ | exact clL_crV _ _ | exact clL_bV _ _ | (simp [AV.cl,AV.clL];done) | (simp only [AV.cl,List.length_append,List.length_singleton];omega)))
   refine rg_ [3,4,5,16,17,20,21,22,180] ?_
   refine cx_ (fun hb16=>?_) (fun hb16=>?_)
   ·
    refine rt_ [3,4,5,16,17,20,21,22] ?_
    refine srn_ ?_
    clear hK1 hK2 hK3 hK4 hK5 hK6
    rcases hlaw.1 with hk | ⟨hc,hk⟩ | ⟨hc,hk⟩ | ⟨hc,hk⟩ | ⟨hc,hk⟩ | ⟨hc,hk | hk | hk⟩ | ⟨hc,hk | hk⟩ | ⟨hc,hk⟩ | hc
    all_goals try (exfalso;omega)
    all_goals try simp only [hk]
    all_goals refine ⟨(),ts_ (by assumption) (hfr:=?_),(by first | exact rfl | exact trivial)⟩
    all_goals repeat (first | exact FTr.nil | refine ftc_ ?_ (hc:=by first | exact trivial | exact clL_caV _ _ | exact clL_crV _ _ | exact clL_bV _ _ | (simp [AV.cl,AV.clL];done) | (simp only [AV.cl,List.length_append,List.length_singleton];omega)))
   refine skp_ ?_
   clear hK1 hK2 hK3 hK4 hK5 hK6
   rcases hlaw.1 with hk | ⟨hc,hk⟩ | ⟨hc,hk⟩ | ⟨hc,hk⟩ | ⟨hc,hk⟩ | ⟨hc,hk | hk | hk⟩ | ⟨hc,hk | hk⟩ | ⟨hc,hk⟩ | hc
   all_goals try (exfalso;omega)
   all_goals try simp only [hk]
   all_goals refine ⟨(),ts_ (by assumption) (hfr:=?_),(by first | exact rfl | exact trivial)⟩
   all_goals repeat (first | exact FTr.nil | refine ftc_ ?_ (hc:=by first | exact trivial | exact clL_caV _ _ | exact clL_crV _ _ | exact clL_bV _ _ | (simp [AV.cl,AV.clL];done) | (simp only [AV.cl,List.length_append,List.length_singleton];omega)))
  refine rt_ [3,4,5,16,17,20,21,22,114,115] ?_
  refine srn_ ?_
  refine hK7 _ ?_
  refine cx_ (fun hb7=>?_) (fun hb7=>?_)
  ·
   refine rt_ [3,4,5,16,17,20,21,22] ?_
   refine srn_ ?_
   clear hK1 hK2 hK3 hK4 hK5 hK6
   rcases hlaw.1 with hk | ⟨hc,hk⟩ | ⟨hc,hk⟩ | ⟨hc,hk⟩ | ⟨hc,hk⟩ | ⟨hc,hk | hk | hk⟩ | ⟨hc,hk | hk⟩ | ⟨hc,hk⟩ | hc
   all_goals try (exfalso;omega)
   all_goals try simp only [hk]
   all_goals refine ⟨(),ts_ (by assumption) (hfr:=?_),(by first | exact rfl | exact trivial)⟩
   all_goals repeat (first | exact FTr.nil | refine ftc_ ?_ (hc:=by first | exact trivial | exact clL_caV _ _ | exact clL_crV _ _ | exact clL_bV _ _ | (simp [AV.cl,AV.clL];done) | (simp only [AV.cl,List.length_append,List.length_singleton];omega)))
  refine sk_ fun K14 hK14=>?_
  refine rg_ [3,4,5,16,17,20,21,22,114,124] ?_
  refine cx_ (fun hb8=>?_) (fun hb8=>?_)
  ·
   refine skp_ ?_
   refine hK14 _ ?_
   refine cx_ (fun hb9=>?_) (fun hb9=>?_)
   ·
    refine rt_ [3,4,5,16,17,20,21,22] ?_
    refine srn_ ?_
    clear hK1 hK2 hK3 hK4 hK5 hK6
    rcases hlaw.1 with hk | ⟨hc,hk⟩ | ⟨hc,hk⟩ | ⟨hc,hk⟩ | ⟨hc,hk⟩ | ⟨hc,hk | hk | hk⟩ | ⟨hc,hk | hk⟩ | ⟨hc,hk⟩ | hc
    all_goals try (exfalso;omega)
    all_goals try simp only [hk]
    all_goals refine ⟨(),ts_ (by assumption) (hfr:=?_),(by first | exact rfl | exact trivial)⟩
    all_goals repeat (first | exact FTr.nil | refine ftc_ ?_ (hc:=by first | exact trivial | exact clL_caV _ _ | exact clL_crV _ _ | exact clL_bV _ _ | (simp [AV.cl,AV.clL];done) | (simp only [AV.cl,List.length_append,List.length_singleton];omega)))
   refine sk_ fun K15 hK15=>?_
   refine rg_ [3,4,5,16,17,20,21,22,114,132] ?_
   refine cx_ (fun hb10=>?_) (fun hb10=>?_)
   ·
    refine skp_ ?_
    refine hK15 _ ?_
    refine cx_ (fun hb11=>?_) (fun hb11=>?_)
    ·
     refine rt_ [3,4,5,16,17,20,21,22] ?_
     refine srn_ ?_
     clear hK1 hK2 hK3 hK4 hK5 hK6
     rcases hlaw.1 with hk | ⟨hc,hk⟩ | ⟨hc,hk⟩ | ⟨hc,hk⟩ | ⟨hc,hk⟩ | ⟨hc,hk | hk | hk⟩ | ⟨hc,hk | hk⟩ | ⟨hc,hk⟩ | hc
     all_goals try (exfalso;omega)
     all_goals try simp only [hk]
     all_goals refine ⟨(),ts_ (by assumption) (hfr:=?_),(by first | exact rfl | exact trivial)⟩
     all_goals repeat (first | exact FTr.nil | refine ftc_ ?_ (hc:=by first | exact trivial | exact clL_caV _ _ | exact clL_crV _ _ | exact clL_bV _ _ | (simp [AV.cl,AV.clL];done) | (simp only [AV.cl,List.length_append,List.length_singleton];omega)))
    refine rg_ [3,4,5,16,17,20,21,22,114,140] ?_
    refine cx_ (fun hb12=>?_) (fun hb12=>?_)
    ·
     refine rt_ [3,4,5,16,17,20,21,22] ?_
     refine srn_ ?_
     clear hK1 hK2 hK3 hK4 hK5 hK6
     rcases hlaw.1 with hk | ⟨hc,hk⟩ | ⟨hc,hk⟩ | ⟨hc,hk⟩ | ⟨hc,hk⟩ | ⟨hc,hk | hk | hk⟩ | ⟨hc,hk | hk⟩ | ⟨hc,hk⟩ | hc
     all_goals try (exfalso;omega)
     all_goals try simp only [hk]
     all_goals refine ⟨(),ts_ (by assumption) (hfr:=?_),(by first | exact rfl | exact trivial)⟩
     all_goals repeat (first | exact FTr.nil | refine ftc_ ?_ (hc:=by first | exact trivial | exact clL_caV _ _ | exact clL_crV _ _ | exact clL_bV _ _ | (simp [AV.cl,AV.clL];done) | (simp only [AV.cl,List.length_append,List.length_singleton];omega)))
    refine rg_ [3,4,5,16,17,20,21,22,114,147] ?_
    refine cx_ (fun hb13=>?_) (fun hb13=>?_)
    ·
     refine rt_ [3,4,5,16,17,20,21,22] ?_
     refine srn_ ?_
     clear hK1 hK2 hK3 hK4 hK5 hK6
     rcases hlaw.1 with hk | ⟨hc,hk⟩ | ⟨hc,hk⟩ | ⟨hc,hk⟩ | ⟨hc,hk⟩ | ⟨hc,hk | hk | hk⟩ | ⟨hc,hk | hk⟩ | ⟨hc,hk⟩ | hc
     all_goals try (exfalso;omega)
     all_goals try simp only [hk]
     all_goals refine ⟨(),ts_ (by assumption) (hfr:=?_),(by first | exact rfl | exact trivial)⟩
     all_goals repeat (first | exact FTr.nil | refine ftc_ ?_ (hc:=by first | exact trivial | exact clL_caV _ _ | exact clL_crV _ _ | exact clL_bV _ _ | (simp [AV.cl,AV.clL];done) | (simp only [AV.cl,List.length_append,List.length_singleton];omega)))
    refine rg_ [3,4,5,16,17,20,21,22,114,162] ?_
    refine cx_ (fun hb14=>?_) (fun hb14=>?_)
    ·
     refine rt_ [3,4,5,16,17,20,21,22] ?_
     refine srn_ ?_
     clear hK1 hK2 hK3 hK4 hK5 hK6
     rcases hlaw.1 with hk | ⟨hc,hk⟩ | ⟨hc,hk⟩ | ⟨hc,hk⟩ | ⟨hc,hk⟩ | ⟨hc,hk | hk | hk⟩ | ⟨hc,hk | hk⟩ | ⟨hc,hk⟩ | hc
     all_goals try (exfalso;omega)
     all_goals try simp only [hk]
     all_goals refine ⟨(),ts_ (by assumption) (hfr:=?_),(by first | exact rfl | exact trivial)⟩
     all_goals repeat (first | exact FTr.nil | refine ftc_ ?_ (hc:=by first | exact trivial | exact clL_caV _ _ | exact clL_crV _ _ | exact clL_bV _ _ | (simp [AV.cl,AV.clL];done) | (simp only [AV.cl,List.length_append,List.length_singleton];omega)))
    refine rg_ [3,4,5,16,17,20,21,22,114,173] ?_
    refine cx_ (fun hb15=>?_) (fun hb15=>?_)
    ·
     refine rt_ [3,4,5,16,17,20,21,22] ?_
     refine srn_ ?_
     clear hK1 hK2 hK3 hK4 hK5 hK6
     rcases hlaw.1 with hk | ⟨hc,hk⟩ | ⟨hc,hk⟩ | ⟨hc,hk⟩ | ⟨hc,hk⟩ | ⟨hc,hk | hk | hk⟩ | ⟨hc,hk | hk⟩ | ⟨hc,hk⟩ | hc
     all_goals try (exfalso;omega)
     all_goals try simp only [hk]
     all_goals refine ⟨(),ts_ (by assumption) (hfr:=?_),(by first | exact rfl | exact trivial)⟩
     all_goals repeat (first | exact FTr.nil | refine ftc_ ?_ (hc:=by first | exact trivial | exact clL_caV _ _ | exact clL_crV _ _ | exact clL_bV _ _ | (simp [AV.cl,AV.clL];done) | (simp only [AV.cl,List.length_append,List.length_singleton];omega)))
    refine rg_ [3,4,5,16,17,20,21,22,180] ?_
    refine cx_ (fun hb16=>?_) (fun hb16=>?_)
    ·
     refine rt_ [3,4,5,16,17,20,21,22] ?_
     refine srn_ ?_
     clear hK1 hK2 hK3 hK4 hK5 hK6
     rcases hlaw.1 with hk | ⟨hc,hk⟩ | ⟨hc,hk⟩ | ⟨hc,hk⟩ | ⟨hc,hk⟩ | ⟨hc,hk | hk | hk⟩ | ⟨hc,hk | hk⟩ | ⟨hc,hk⟩ | hc
     all_goals try (exfalso;omega)
     all_goals try simp only [hk]
     all_goals refine ⟨(),ts_ (by assumption) (hfr:=?_),(by first | exact rfl | exact trivial)⟩
     all_goals repeat (first | exact FTr.nil | refine ftc_ ?_ (hc:=by first | exact trivial | exact clL_caV _ _ | exact clL_crV _ _ | exact clL_bV _ _ | (simp [AV.cl,AV.clL];done) | (simp only [AV.cl,List.length_append,List.length_singleton];omega)))
    refine skp_ ?_
    clear hK1 hK2 hK3 hK4 hK5 hK6
    rcases hlaw.1 with hk | ⟨hc,hk⟩ | ⟨hc,hk⟩ | ⟨hc,hk⟩ | ⟨hc,hk⟩ | ⟨hc,hk | hk | hk⟩ | ⟨hc,hk | hk⟩ | ⟨hc,hk⟩ | hc
    all_goals try (exfalso;omega)
    all_goals try simp only [hk]
    all_goals refine ⟨(),ts_ (by assumption) (hfr:=?_),(by first | exact rfl | exact trivial)⟩
    all_goals repeat (first | exact FTr.nil | refine ftc_ ?_ (hc:=by first | exact trivial | exact clL_caV _ _ | exact clL_crV _ _ | exact clL_bV _ _ | (simp [AV.cl,AV.clL];done) | (simp only [AV.cl,List.length_append,List.length_singleton];omega)))
   refine rt_ [3,4,5,16,17,20,21,22,114,132] ?_
   refine srn_ ?_
   refine hK15 _ ?_
   refine cx_ (fun hb11=>?_) (fun hb11=>?_)
   ·
    refine rt_ [3,4,5,16,17,20,21,22] ?_
    refine srn_ ?_
    clear hK1 hK2 hK3 hK4 hK5 hK6
    rcases hlaw.1 with hk | ⟨hc,hk⟩ | ⟨hc,hk⟩ | ⟨hc,hk⟩ | ⟨hc,hk⟩ | ⟨hc,hk | hk | hk⟩ | ⟨hc,hk | hk⟩ | ⟨hc,hk⟩ | hc
    all_goals try (exfalso;omega)
    all_goals try simp only [hk]
    all_goals refine ⟨(),ts_ (by assumption) (hfr:=?_),(by first | exact rfl | exact trivial)⟩
    all_goals repeat (first | exact FTr.nil | refine ftc_ ?_ (hc:=by first | exact trivial | exact clL_caV _ _ | exact clL_crV _ _ | exact clL_bV _ _ | (simp [AV.cl,AV.clL];done) | (simp only [AV.cl,List.length_append,List.length_singleton];omega)))
   refine rg_ [3,4,5,16,17,20,21,22,114,140] ?_
   refine cx_ (fun hb12=>?_) (fun hb12=>?_)
   ·
    refine rt_ [3,4,5,16,17,20,21,22] ?_
    refine srn_ ?_
    clear hK1 hK2 hK3 hK4 hK5 hK6
    rcases hlaw.1 with hk | ⟨hc,hk⟩ | ⟨hc,hk⟩ | ⟨hc,hk⟩ | ⟨hc,hk⟩ | ⟨hc,hk | hk | hk⟩ | ⟨hc,hk | hk⟩ | ⟨hc,hk⟩ | hc
    all_goals try (exfalso;omega)
    all_goals try simp only [hk]
    all_goals refine ⟨(),ts_ (by assumption) (hfr:=?_),(by first | exact rfl | exact trivial)⟩
    all_goals repeat (first | exact FTr.nil | refine ftc_ ?_ (hc:=by first | exact trivial | exact clL_caV _ _ | exact clL_crV _ _ | exact clL_bV _ _ | (simp [AV.cl,AV.clL];done) | (simp only [AV.cl,List.length_append,List.length_singleton];omega)))
   refine rg_ [3,4,5,16,17,20,21,22,114,147] ?_
   refine cx_ (fun hb13=>?_) (fun hb13=>?_)
   ·
    refine rt_ [3,4,5,16,17,20,21,22] ?_
    refine srn_ ?_
    clear hK1 hK2 hK3 hK4 hK5 hK6
    rcases hlaw.1 with hk | ⟨hc,hk⟩ | ⟨hc,hk⟩ | ⟨hc,hk⟩ | ⟨hc,hk⟩ | ⟨hc,hk | hk | hk⟩ | ⟨hc,hk | hk⟩ | ⟨hc,hk⟩ | hc
    all_goals try (exfalso;omega)
    all_goals try simp only [hk]
    all_goals refine ⟨(),ts_ (by assumption) (hfr:=?_),(by first | exact rfl | exact trivial)⟩
    all_goals repeat (first | exact FTr.nil | refine ftc_ ?_ (hc:=by first | exact trivial | exact clL_caV _ _ | exact clL_crV _ _ | exact clL_bV _ _ | (simp [AV.cl,AV.clL];done) | (simp only [AV.cl,List.length_append,List.length_singleton];omega)))
   refine rg_ [3,4,5,16,17,20,21,22,114,162] ?_
   refine cx_ (fun hb14=>?_) (fun hb14=>?_)
   ·
    refine rt_ [3,4,5,16,17,20,21,22] ?_
    refine srn_ ?_
    clear hK1 hK2 hK3 hK4 hK5 hK6
    rcases hlaw.1 with hk | ⟨hc,hk⟩ | ⟨hc,hk⟩ | ⟨hc,hk⟩ | ⟨hc,hk⟩ | ⟨hc,hk | hk | hk⟩ | ⟨hc,hk | hk⟩ | ⟨hc,hk⟩ | hc
    all_goals try (exfalso;omega)
    all_goals try simp only [hk]
    all_goals refine ⟨(),ts_ (by assumption) (hfr:=?_),(by first | exact rfl | exact trivial)⟩
    all_goals repeat (first | exact FTr.nil | refine ftc_ ?_ (hc:=by first | exact trivial | exact clL_caV _ _ | exact clL_crV _ _ | exact clL_bV _ _ | (simp [AV.cl,AV.clL];done) | (simp only [AV.cl,List.length_append,List.length_singleton];omega)))
   refine rg_ [3,4,5,16,17,20,21,22,114,173] ?_
   refine cx_ (fun hb15=>?_) (fun hb15=>?_)
   ·
    refine rt_ [3,4,5,16,17,20,21,22] ?_
    refine srn_ ?_
    clear hK1 hK2 hK3 hK4 hK5 hK6
    rcases hlaw.1 with hk | ⟨hc,hk⟩ | ⟨hc,hk⟩ | ⟨hc,hk⟩ | ⟨hc,hk⟩ | ⟨hc,hk | hk | hk⟩ | ⟨hc,hk | hk⟩ | ⟨hc,hk⟩ | hc
    all_goals try (exfalso;omega)
    all_goals try simp only [hk]
    all_goals refine ⟨(),ts_ (by assumption) (hfr:=?_),(by first | exact rfl | exact trivial)⟩
    all_goals repeat (first | exact FTr.nil | refine ftc_ ?_ (hc:=by first | exact trivial | exact clL_caV _ _ | exact clL_crV _ _ | exact clL_bV _ _ | (simp [AV.cl,AV.clL];done) | (simp only [AV.cl,List.length_append,List.length_singleton];omega)))
   refine rg_ [3,4,5,16,17,20,21,22,180] ?_
   refine cx_ (fun hb16=>?_) (fun hb16=>?_)
   ·
    refine rt_ [3,4,5,16,17,20,21,22] ?_
    refine srn_ ?_
    clear hK1 hK2 hK3 hK4 hK5 hK6
    rcases hlaw.1 with hk | ⟨hc,hk⟩ | ⟨hc,hk⟩ | ⟨hc,hk⟩ | ⟨hc,hk⟩ | ⟨hc,hk | hk | hk⟩ | ⟨hc,hk | hk⟩ | ⟨hc,hk⟩ | hc
    all_goals try (exfalso;omega)
    all_goals try simp only [hk]
    all_goals refine ⟨(),ts_ (by assumption) (hfr:=?_),(by first | exact rfl | exact trivial)⟩
    all_goals repeat (first | exact FTr.nil | refine ftc_ ?_ (hc:=by first | exact trivial | exact clL_caV _ _ | exact clL_crV _ _ | exact clL_bV _ _ | (simp [AV.cl,AV.clL];done) | (simp only [AV.cl,List.length_append,List.length_singleton];omega)))
   refine skp_ ?_
   clear hK1 hK2 hK3 hK4 hK5 hK6
   rcases hlaw.1 with hk | ⟨hc,hk⟩ | ⟨hc,hk⟩ | ⟨hc,hk⟩ | ⟨hc,hk⟩ | ⟨hc,hk | hk | hk⟩ | ⟨hc,hk | hk⟩ | ⟨hc,hk⟩ | hc
   all_goals try (exfalso;omega)
   all_goals try simp only [hk]
   all_goals refine ⟨(),ts_ (by assumption) (hfr:=?_),(by first | exact rfl | exact trivial)⟩
   all_goals repeat (first | exact FTr.nil | refine ftc_ ?_ (hc:=by first | exact trivial | exact clL_caV _ _ | exact clL_crV _ _ | exact clL_bV _ _ | (simp [AV.cl,AV.clL];done) | (simp only [AV.cl,List.length_append,List.length_singleton];omega)))
  refine rt_ [3,4,5,16,17,20,21,22,114,124] ?_
  refine srn_ ?_
  refine hK14 _ ?_
  refine cx_ (fun hb9=>?_) (fun hb9=>?_)
  ·
   refine rt_ [3,4,5,16,17,20,21,22] ?_
   refine srn_ ?_
   clear hK1 hK2 hK3 hK4 hK5 hK6
   rcases hlaw.1 with hk | ⟨hc,hk⟩ | ⟨hc,hk⟩ | ⟨hc,hk⟩ | ⟨hc,hk⟩ | ⟨hc,hk | hk | hk⟩ | ⟨hc,hk | hk⟩ | ⟨hc,hk⟩ | hc
   all_goals try (exfalso;omega)
   all_goals try simp only [hk]
   all_goals refine ⟨(),ts_ (by assumption) (hfr:=?_),(by first | exact rfl | exact trivial)⟩
   all_goals repeat (first | exact FTr.nil | refine ftc_ ?_ (hc:=by first | exact trivial | exact clL_caV _ _ | exact clL_crV _ _ | exact clL_bV _ _ | (simp [AV.cl,AV.clL];done) | (simp only [AV.cl,List.length_append,List.length_singleton];omega)))
  refine sk_ fun K16 hK16=>?_
  refine rg_ [3,4,5,16,17,20,21,22,114,132] ?_
  refine cx_ (fun hb10=>?_) (fun hb10=>?_)
  ·
   refine skp_ ?_
   refine hK16 _ ?_
   refine cx_ (fun hb11=>?_) (fun hb11=>?_)
   ·
    refine rt_ [3,4,5,16,17,20,21,22] ?_
    refine srn_ ?_
    clear hK1 hK2 hK3 hK4 hK5 hK6
    rcases hlaw.1 with hk | ⟨hc,hk⟩ | ⟨hc,hk⟩ | ⟨hc,hk⟩ | ⟨hc,hk⟩ | ⟨hc,hk | hk | hk⟩ | ⟨hc,hk | hk⟩ | ⟨hc,hk⟩ | hc
    all_goals try (exfalso;omega)
    all_goals try simp only [hk]
    all_goals refine ⟨(),ts_ (by assumption) (hfr:=?_),(by first | exact rfl | exact trivial)⟩
    all_goals repeat (first | exact FTr.nil | refine ftc_ ?_ (hc:=by first | exact trivial | exact clL_caV _ _ | exact clL_crV _ _ | exact clL_bV _ _ | (simp [AV.cl,AV.clL];done) | (simp only [AV.cl,List.length_append,List.length_singleton];omega)))
   refine rg_ [3,4,5,16,17,20,21,22,114,140] ?_
   refine cx_ (fun hb12=>?_) (fun hb12=>?_)
   ·
    refine rt_ [3,4,5,16,17,20,21,22] ?_
    refine srn_ ?_
    clear hK1 hK2 hK3 hK4 hK5 hK6
    rcases hlaw.1 with hk | ⟨hc,hk⟩ | ⟨hc,hk⟩ | ⟨hc,hk⟩ | ⟨hc,hk⟩ | ⟨hc,hk | hk | hk⟩ | ⟨hc,hk | hk⟩ | ⟨hc,hk⟩ | hc
    all_goals try (exfalso;omega)
    all_goals try simp only [hk]
    all_goals refine ⟨(),ts_ (by assumption) (hfr:=?_),(by first | exact rfl | exact trivial)⟩
    all_goals repeat (first | exact FTr.nil | refine ftc_ ?_ (hc:=by first | exact trivial | exact clL_caV _ _ | exact clL_crV _ _ | exact clL_bV _ _ | (simp [AV.cl,AV.clL];done) | (simp only [AV.cl,List.length_append,List.length_singleton];omega)))
   refine rg_ [3,4,5,16,17,20,21,22,114,147] ?_
   refine cx_ (fun hb13=>?_) (fun hb13=>?_)
   ·
    refine rt_ [3,4,5,16,17,20,21,22] ?_
    refine srn_ ?_
    clear hK1 hK2 hK3 hK4 hK5 hK6
    rcases hlaw.1 with hk | ⟨hc,hk⟩ | ⟨hc,hk⟩ | ⟨hc,hk⟩ | ⟨hc,hk⟩ | ⟨hc,hk | hk | hk⟩ | ⟨hc,hk | hk⟩ | ⟨hc,hk⟩ | hc
    all_goals try (exfalso;omega)
    all_goals try simp only [hk]
    all_goals refine ⟨(),ts_ (by assumption) (hfr:=?_),(by first | exact rfl | exact trivial)⟩
    all_goals repeat (first | exact FTr.nil | refine ftc_ ?_ (hc:=by first | exact trivial | exact clL_caV _ _ | exact clL_crV _ _ | exact clL_bV _ _ | (simp [AV.cl,AV.clL];done) | (simp only [AV.cl,List.length_append,List.length_singleton];omega)))
   refine rg_ [3,4,5,16,17,20,21,22,114,162] ?_
   refine cx_ (fun hb14=>?_) (fun hb14=>?_)
   ·
    refine rt_ [3,4,5,16,17,20,21,22] ?_
    refine srn_ ?_
    clear hK1 hK2 hK3 hK4 hK5 hK6
    rcases hlaw.1 with hk | ⟨hc,hk⟩ | ⟨hc,hk⟩ | ⟨hc,hk⟩ | ⟨hc,hk⟩ | ⟨hc,hk | hk | hk⟩ | ⟨hc,hk | hk⟩ | ⟨hc,hk⟩ | hc
    all_goals try (exfalso;omega)
    all_goals try simp only [hk]
    all_goals refine ⟨(),ts_ (by assumption) (hfr:=?_),(by first | exact rfl | exact trivial)⟩
    all_goals repeat (first | exact FTr.nil | refine ftc_ ?_ (hc:=by first | exact trivial | exact clL_caV _ _ | exact clL_crV _ _ | exact clL_bV _ _ | (simp [AV.cl,AV.clL];done) | (simp only [AV.cl,List.length_append,List.length_singleton];omega)))
   refine rg_ [3,4,5,16,17,20,21,22,114,173] ?_
   refine cx_ (fun hb15=>?_) (fun hb15=>?_)
   ·
    refine rt_ [3,4,5,16,17,20,21,22] ?_
    refine srn_ ?_
    clear hK1 hK2 hK3 hK4 hK5 hK6
    rcases hlaw.1 with hk | ⟨hc,hk⟩ | ⟨hc,hk⟩ | ⟨hc,hk⟩ | ⟨hc,hk⟩ | ⟨hc,hk | hk | hk⟩ | ⟨hc,hk | hk⟩ | ⟨hc,hk⟩ | hc
    all_goals try (exfalso;omega)
    all_goals try simp only [hk]
    all_goals refine ⟨(),ts_ (by assumption) (hfr:=?_),(by first | exact rfl | exact trivial)⟩
    all_goals repeat (first | exact FTr.nil | refine ftc_ ?_ (hc:=by first | exact trivial | exact clL_caV _ _ | exact clL_crV _ _ | exact clL_bV _ _ | (simp [AV.cl,AV.clL];done) | (simp only [AV.cl,List.length_append,List.length_singleton];omega)))
   refine rg_ [3,4,5,16,17,20,21,22,180] ?_
   refine cx_ (fun hb16=>?_) (fun hb16=>?_)
   ·
    refine rt_ [3,4,5,16,17,20,21,22] ?_
    refine srn_ ?_
    clear hK1 hK2 hK3 hK4 hK5 hK6
    rcases hlaw.1 with hk | ⟨hc,hk⟩ | ⟨hc,hk⟩ | ⟨hc,hk⟩ | ⟨hc,hk⟩ | ⟨hc,hk | hk | hk⟩ | ⟨hc,hk | hk⟩ | ⟨hc,hk⟩ | hc
    all_goals try (exfalso;omega)
    all_goals try simp only [hk]
    all_goals refine ⟨(),ts_ (by assumption) (hfr:=?_),(by first | exact rfl | exact trivial)⟩
    all_goals repeat (first | exact FTr.nil | refine ftc_ ?_ (hc:=by first | exact trivial | exact clL_caV _ _ | exact clL_crV _ _ | exact clL_bV _ _ | (simp [AV.cl,AV.clL];done) | (simp only [AV.cl,List.length_append,List.length_singleton];omega)))
   refine skp_ ?_
   clear hK1 hK2 hK3 hK4 hK5 hK6
   rcases hlaw.1 with hk | ⟨hc,hk⟩ | ⟨hc,hk⟩ | ⟨hc,hk⟩ | ⟨hc,hk⟩ | ⟨hc,hk | hk | hk⟩ | ⟨hc,hk | hk⟩ | ⟨hc,hk⟩ | hc
   all_goals try (exfalso;omega)
   all_goals try simp only [hk]
   all_goals refine ⟨(),ts_ (by assumption) (hfr:=?_),(by first | exact rfl | exact trivial)⟩
   all_goals repeat (first | exact FTr.nil | refine ftc_ ?_ (hc:=by first | exact trivial | exact clL_caV _ _ | exact clL_crV _ _ | exact clL_bV _ _ | (simp [AV.cl,AV.clL];done) | (simp only [AV.cl,List.length_append,List.length_singleton];omega)))
  refine rt_ [3,4,5,16,17,20,21,22,114,132] ?_
  refine srn_ ?_
  refine hK16 _ ?_
  refine cx_ (fun hb11=>?_) (fun hb11=>?_)
  ·
   refine rt_ [3,4,5,16,17,20,21,22] ?_
   refine srn_ ?_
   clear hK1 hK2 hK3 hK4 hK5 hK6
   rcases hlaw.1 with hk | ⟨hc,hk⟩ | ⟨hc,hk⟩ | ⟨hc,hk⟩ | ⟨hc,hk⟩ | ⟨hc,hk | hk | hk⟩ | ⟨hc,hk | hk⟩ | ⟨hc,hk⟩ | hc
   all_goals try (exfalso;omega)
   all_goals try simp only [hk]
   all_goals refine ⟨(),ts_ (by assumption) (hfr:=?_),(by first | exact rfl | exact trivial)⟩
   all_goals repeat (first | exact FTr.nil | refine ftc_ ?_ (hc:=by first | exact trivial | exact clL_caV _ _ | exact clL_crV _ _ | exact clL_bV _ _ | (simp [AV.cl,AV.clL];done) | (simp only [AV.cl,List.length_append,List.length_singleton];omega)))
  refine rg_ [3,4,5,16,17,20,21,22,114,140] ?_
  refine cx_ (fun hb12=>?_) (fun hb12=>?_)
  ·
   refine rt_ [3,4,5,16,17,20,21,22] ?_
   refine srn_ ?_
   clear hK1 hK2 hK3 hK4 hK5 hK6
   rcases hlaw.1 with hk | ⟨hc,hk⟩ | ⟨hc,hk⟩ | ⟨hc,hk⟩ | ⟨hc,hk⟩ | ⟨hc,hk | hk | hk⟩ | ⟨hc,hk | hk⟩ | ⟨hc,hk⟩ | hc
   all_goals try (exfalso;omega)
   all_goals try simp only [hk]
   all_goals refine ⟨(),ts_ (by assumption) (hfr:=?_),(by first | exact rfl | exact trivial)⟩
   all_goals repeat (first | exact FTr.nil | refine ftc_ ?_ (hc:=by first | exact trivial | exact clL_caV _ _ | exact clL_crV _ _ | exact clL_bV _ _ | (simp [AV.cl,AV.clL];done) | (simp only [AV.cl,List.length_append,List.length_singleton];omega)))
  refine rg_ [3,4,5,16,17,20,21,22,114,147] ?_
  refine cx_ (fun hb13=>?_) (fun hb13=>?_)
  ·
   refine rt_ [3,4,5,16,17,20,21,22] ?_
   refine srn_ ?_
   clear hK1 hK2 hK3 hK4 hK5 hK6
   rcases hlaw.1 with hk | ⟨hc,hk⟩ | ⟨hc,hk⟩ | ⟨hc,hk⟩ | ⟨hc,hk⟩ | ⟨hc,hk | hk | hk⟩ | ⟨hc,hk | hk⟩ | ⟨hc,hk⟩ | hc
   all_goals try (exfalso;omega)
   all_goals try simp only [hk]
   all_goals refine ⟨(),ts_ (by assumption) (hfr:=?_),(by first | exact rfl | exact trivial)⟩
   all_goals repeat (first | exact FTr.nil | refine ftc_ ?_ (hc:=by first | exact trivial | exact clL_caV _ _ | exact clL_crV _ _ | exact clL_bV _ _ | (simp [AV.cl,AV.clL];done) | (simp only [AV.cl,List.length_append,List.length_singleton];omega)))
  refine rg_ [3,4,5,16,17,20,21,22,114,162] ?_
  refine cx_ (fun hb14=>?_) (fun hb14=>?_)
  ·
   refine rt_ [3,4,5,16,17,20,21,22] ?_
   refine srn_ ?_
   clear hK1 hK2 hK3 hK4 hK5 hK6
   rcases hlaw.1 with hk | ⟨hc,hk⟩ | ⟨hc,hk⟩ | ⟨hc,hk⟩ | ⟨hc,hk⟩ | ⟨hc,hk | hk | hk⟩ | ⟨hc,hk | hk⟩ | ⟨hc,hk⟩ | hc
   all_goals try (exfalso;omega)
   all_goals try simp only [hk]
   all_goals refine ⟨(),ts_ (by assumption) (hfr:=?_),(by first | exact rfl | exact trivial)⟩
   all_goals repeat (first | exact FTr.nil | refine ftc_ ?_ (hc:=by first | exact trivial | exact clL_caV _ _ | exact clL_crV _ _ | exact clL_bV _ _ | (simp [AV.cl,AV.clL];done) | (simp only [AV.cl,List.length_append,List.length_singleton];omega)))
  refine rg_ [3,4,5,16,17,20,21,22,114,173] ?_
  refine cx_ (fun hb15=>?_) (fun hb15=>?_)
  ·
   refine rt_ [3,4,5,16,17,20,21,22] ?_
   refine srn_ ?_
   clear hK1 hK2 hK3 hK4 hK5 hK6
   rcases hlaw.1 with hk | ⟨hc,hk⟩ | ⟨hc,hk⟩ | ⟨hc,hk⟩ | ⟨hc,hk⟩ | ⟨hc,hk | hk | hk⟩ | ⟨hc,hk | hk⟩ | ⟨hc,hk⟩ | hc
   all_goals try (exfalso;omega)
   all_goals try simp only [hk]
   all_goals refine ⟨(),ts_ (by assumption) (hfr:=?_),(by first | exact rfl | exact trivial)⟩
   all_goals repeat (first | exact FTr.nil | refine ftc_ ?_ (hc:=by first | exact trivial | exact clL_caV _ _ | exact clL_crV _ _ | exact clL_bV _ _ | (simp [AV.cl,AV.clL];done) | (simp only [AV.cl,List.length_append,List.length_singleton];omega)))
  refine rg_ [3,4,5,16,17,20,21,22,180] ?_
  refine cx_ (fun hb16=>?_) (fun hb16=>?_)
  ·
   refine rt_ [3,4,5,16,17,20,21,22] ?_
   refine srn_ ?_
   clear hK1 hK2 hK3 hK4 hK5 hK6
   rcases hlaw.1 with hk | ⟨hc,hk⟩ | ⟨hc,hk⟩ | ⟨hc,hk⟩ | ⟨hc,hk⟩ | ⟨hc,hk | hk | hk⟩ | ⟨hc,hk | hk⟩ | ⟨hc,hk⟩ | hc
   all_goals try (exfalso;omega)
   all_goals try simp only [hk]
   all_goals refine ⟨(),ts_ (by assumption) (hfr:=?_),(by first | exact rfl | exact trivial)⟩
   all_goals repeat (first | exact FTr.nil | refine ftc_ ?_ (hc:=by first | exact trivial | exact clL_caV _ _ | exact clL_crV _ _ | exact clL_bV _ _ | (simp [AV.cl,AV.clL];done) | (simp only [AV.cl,List.length_append,List.length_singleton];omega)))
  refine skp_ ?_
  clear hK1 hK2 hK3 hK4 hK5 hK6
  rcases hlaw.1 with hk | ⟨hc,hk⟩ | ⟨hc,hk⟩ | ⟨hc,hk⟩ | ⟨hc,hk⟩ | ⟨hc,hk | hk | hk⟩ | ⟨hc,hk | hk⟩ | ⟨hc,hk⟩ | hc
  all_goals try (exfalso;omega)
  all_goals try simp only [hk]
  all_goals refine ⟨(),ts_ (by assumption) (hfr:=?_),(by first | exact rfl | exact trivial)⟩
  all_goals repeat (first | exact FTr.nil | refine ftc_ ?_ (hc:=by first | exact trivial | exact clL_caV _ _ | exact clL_crV _ _ | exact clL_bV _ _ | (simp [AV.cl,AV.clL];done) | (simp only [AV.cl,List.length_append,List.length_singleton];omega)))
 refine rt2_ (l1:=[_, _, _, _, _, _, _, _, _, _, _, _, _]) [3,4,5,16,17,18,19,20] ⟨false,[(H.length,0,.agg 6)],[99,104],[],[20],[],0⟩ rfl ⟨by kernel_rfl,by kernel_rfl⟩ ?_
 refine sg_ ?_
 refine df_ ?_
 refine sg_ ?_
 refine df_ ?_
 refine ⟨?_,?_⟩
 ·
  refine ck_ (k:=?_)
  refine (kDo (by first | exact hy.app | exact hy.app.app | exact hy.app.app.app) (pd:Nat) ca hd (by omega) (by omega) (by omega)).mono ?_;rintro _ H2 live ⟨⟨rfl,hy2,hl2,ho2,rfl⟩,hH2⟩
  simp at hl2
  have hl2:=hl2.symm
  have hnl3:=lt_of_get hy2.s
  have hwas:H2[H.length+1]? = some (tabBlk T1):=by rw [ho2 _ (by omega) (fun j hj=>by have:=hkb j hj;omega)];simp
  have hcc:H2[H.length]? = some (.cells (caC ca)):=by rw [ho2 _ (by omega) (fun j hj=>by have:=hkb j hj;omega)];simp
  first
   | (
    have hq:H2[H.length+2]? = some (.cells [.int .i64 0,.int .i64 0,.int .i64 0,.int .i64 0,.int .i64 0,.int .i64 0,.int .i64 0,.int .i64 0,.int .i64 0,.str [],.slice [] .full,.slice [] .full]):=by
     rw [ho2 _ (by omega) (fun j hj=>by have:=hkb j hj;omega)];simp
    have sx:=And.intro hq sx)
   | skip
  have hcg:=fun g:List Blk=>atApp (g:=g) hcc
  have sx:=And.intro hcc (And.intro hcg sx)
  refine dga_ ?_
  refine srn_ ?_
  first
   | (
    refine ⟨⟨H2++[.cells (rsC d.1)],hy2.app,by rw [List.length_append,List.length_singleton];omega,(by rw [hl2,List.getElem?_append_right (Nat.le_refl _),Nat.sub_self];rfl),atApp hwas,atApp hcc,HCl.snoc (b:=.cells (rsC d.1)) hH2 (clL_rsC _ _)⟩,?_,(by dsimp only;simp<;>omega)⟩
    dsimp only
    rw [show AV.ptr H2.length 0=AV.ptr (H.length+2) 0 by rw [hl2]]
    exact tf_ (HCl.snoc (b:=.cells (rsC d.1)) hH2 (clL_rsC _ _)) (fun _ h=>h))
   | (
    refine ⟨⟨H2.set (H.length+2) (.cells (rsC d.1)),hy2.set (by omega) (by omega) (fun j hj=>by rw [hdl] at hj;have:=hkb j hj;omega) _,by rw [List.length_set];omega,get_setk (by omega),getSet hwas (by omega),getSet hcc (by omega),HCl.set hH2 _ (clL_rsC _ _)⟩,?_,(by dsimp only;simp<;>omega)⟩
    dsimp only
    exact tf_ (HCl.set hH2 _ (clL_rsC _ _)) (fun _ h=>h))
 ·
  refine dga_ ?_
  refine ck_ (k:=?_)
  refine (kDo (by first | exact hy.app | exact hy.app.app | exact hy.app.app.app) (pd:Nat) ca hd (by omega) (by omega) (by omega)).mono ?_;rintro _ H2 live ⟨⟨rfl,hy2,hl2,ho2,rfl⟩,hH2⟩
  simp at hl2
  have hl2:=hl2.symm
  have hnl3:=lt_of_get hy2.s
  have hwas:H2[H.length+1]? = some (tabBlk T1):=by rw [ho2 _ (by omega) (fun j hj=>by have:=hkb j hj;omega)];simp
  have hcc:H2[H.length]? = some (.cells (caC ca)):=by rw [ho2 _ (by omega) (fun j hj=>by have:=hkb j hj;omega)];simp
  first
   | (
    have hq:H2[H.length+2]? = some (.cells [.int .i64 0,.int .i64 0,.int .i64 0,.int .i64 0,.int .i64 0,.int .i64 0,.int .i64 0,.int .i64 0,.int .i64 0,.str [],.slice [] .full,.slice [] .full]):=by
     rw [ho2 _ (by omega) (fun j hj=>by have:=hkb j hj;omega)];simp
    have sx:=And.intro hq sx)
   | skip
  have hcg:=fun g:List Blk=>atApp (g:=g) hcc
  have sx:=And.intro hcc (And.intro hcg sx)
  refine srn_ ?_
  first
   | (
    refine ⟨⟨H2++[.cells (rsC d.1)],hy2.app,by rw [List.length_append,List.length_singleton];omega,(by rw [hl2,List.getElem?_append_right (Nat.le_refl _),Nat.sub_self];rfl),atApp hwas,atApp hcc,HCl.snoc (b:=.cells (rsC d.1)) hH2 (clL_rsC _ _)⟩,?_,(by dsimp only;simp<;>omega)⟩
    dsimp only
    rw [show AV.ptr H2.length 0=AV.ptr (H.length+2) 0 by rw [hl2]]
    exact tf_ (HCl.snoc (b:=.cells (rsC d.1)) hH2 (clL_rsC _ _)) (fun _ h=>h))
   | (
    refine ⟨⟨H2.set (H.length+2) (.cells (rsC d.1)),hy2.set (by omega) (by omega) (fun j hj=>by rw [hdl] at hj;have:=hkb j hj;omega) _,by rw [List.length_set];omega,get_setk (by omega),getSet hwas (by omega),getSet hcc (by omega),HCl.set hH2 _ (clL_rsC _ _)⟩,?_,(by dsimp only;simp<;>omega)⟩
    dsimp only
    exact tf_ (HCl.set hH2 _ (clL_rsC _ _)) (fun _ h=>h))
end Go.Proofs.YtjmlgeckgieaaaaGreat
