import Derived.Test.YtjmlgeckgieaaaaGreatC11
/-
  CHANGES: the document's, of tables.
-/
set_option linter.unusedVariables false
set_option linter.unusedSimpArgs false
namespace Go.Proofs.YtjmlgeckgieaaaaGreat
open Go.Ab
set_option maxRecDepth 8000
set_option maxHeartbeats 400000
theorem c37 (Ta Tb:Tab) (LA LB:List Nd) (h:List Blk) (live:List Nat) (hTa:Ta.Ok) (hTb:Tb.Ok) (hA:∀i,rGet LA i=(Ta.get i).1) (hBB:∀i,rGet LB i=(Tb.get i).1) (hLA:LA.length≤1000) (hLB:LB.length≤1000):AC Tryz.prog 37 [tV LA,tV LB] h live (.agg (rdC (dfN Ta Tb 24) fun _=>.none)):=by
 refine aq_ Tryz.func37 fun hH hX=>?_
 unfold tV
 have hB:∀m cs,HCl (h++[.cells [.slice (LA.map nV) .none],.cells [.slice (LB.map nV) .none],.cells [.slice [] .full,.slice [] .full,.slice [] .full,.int .i64 0,.slice [] .full,.slice [] .full],.cells (rdC (dfN Ta Tb m) cs)]):=fun m cs=>by
  have:=(((HCl.snoc hH (b:=.cells [.slice (LA.map nV) .none]) (by simp [Blk.cl,AV.cl,AV.clL,clL_nV, -List.map_map])).snoc (b:=.cells [.slice (LB.map nV) .none]) (by simp [Blk.cl,AV.cl,AV.clL,clL_nV, -List.map_map])).snoc (b:=.cells [.slice [] .full,.slice [] .full,.slice [] .full,.int .i64 0,.slice [] .full,.slice [] .full]) (by simp [Blk.cl,AV.clL,AV.cl])).snoc (b:=.cells (rdC (dfN Ta Tb m) cs)) (clL_rdC _ _ _)
  rw [List.append_assoc,List.append_assoc,List.append_assoc] at this;exact this
 have sx:=(And.intro @map_yV_app (And.intro @iV_snoc sx0))
 refine rs_ [2,3,4] ?_
 iterate 3 (refine dawp_h rfl (by (simp (disch:=omega) only [push_cast,↓reduceIte,Nat.reduceEqDiff,Nat.reduceAdd,Nat.reduceLeDiff,sx,rdSet0,rdSet1,rdSet2])<;>rfl) rfl rfl ?_)
 refine re_ (hf:=by (simp (disch:=omega) only [push_cast,↓reduceIte,Nat.reduceEqDiff,Nat.reduceAdd,Nat.reduceLeDiff,sx,rdSet0,rdSet1,rdSet2])<;>rfl) (hh:=by (try simp (disch:=omega) only [push_cast,↓reduceIte,Nat.reduceEqDiff,Nat.reduceAdd,Nat.reduceLeDiff,sx,rdSet0,rdSet1,rdSet2])<;>rfl) ?_
 refine rs_ [2,3,4,5] ?_
 refine dawp_p rfl (by (simp (disch:=omega) only [push_cast,↓reduceIte,Nat.reduceEqDiff,Nat.reduceAdd,Nat.reduceLeDiff,sx,rdSet0,rdSet1,rdSet2])<;>rfl) rfl rfl ?_
 refine dawp_h rfl (by (simp (disch:=omega) only [push_cast,↓reduceIte,Nat.reduceEqDiff,Nat.reduceAdd,Nat.reduceLeDiff,sx,rdSet0,rdSet1,rdSet2])<;>rfl) rfl rfl ?_
 refine dawp_hn rfl (by (simp (disch:=omega) only [push_cast,↓reduceIte,Nat.reduceEqDiff,Nat.reduceAdd,Nat.reduceLeDiff,sx,rdSet0,rdSet1,rdSet2])<;>rfl) rfl ?_
 refine re_ (hf:=by (simp (disch:=omega) only [push_cast,↓reduceIte,Nat.reduceEqDiff,Nat.reduceAdd,Nat.reduceLeDiff,sx,rdSet0,rdSet1,rdSet2])<;>rfl) (hh:=by (try simp (disch:=omega) only [push_cast,↓reduceIte,Nat.reduceEqDiff,Nat.reduceAdd,Nat.reduceLeDiff,sx,rdSet0,rdSet1,rdSet2])<;>rfl) ?_
 refine sk_ fun K1 hK1=>?_
 refine rs_ [2,3,4,5,6] ?_
 refine dawp_p rfl (by (simp (disch:=omega) only [push_cast,↓reduceIte,Nat.reduceEqDiff,Nat.reduceAdd,Nat.reduceLeDiff,sx,rdSet0,rdSet1,rdSet2])<;>rfl) rfl rfl ?_
 refine re_ (hf:=by (simp (disch:=omega) only [push_cast,↓reduceIte,Nat.reduceEqDiff,Nat.reduceAdd,Nat.reduceLeDiff,sx,rdSet0,rdSet1,rdSet2])<;>rfl) (hh:=by (try simp (disch:=omega) only [push_cast,↓reduceIte,Nat.reduceEqDiff,Nat.reduceAdd,Nat.reduceLeDiff,sx,rdSet0,rdSet1,rdSet2])<;>rfl) ?_
 refine awp_block ?_
 refine lp_ (X:={p:Nat×(Nat→Cap)×List Nat // p.1≤24∧CapsN live p.2.2 p.2.1 5}) (fun x=>⟨Tryz.f37.ntmps,fget [(2,.ptr h.length 0),(3,.ptr (h.length+1) 0),(4,.ptr (h.length+2) 0),(5,.ptr (h.length+3) 0),(6,.int .i64 ((x.1.1:Int)+1))],h++[.cells [.slice (LA.map nV) .none],.cells [.slice (LB.map nV) .none],.cells [.slice [] .full,.slice [] .full,.slice [] .full,.int .i64 0,.slice [] .full,.slice [] .full],.cells (rdC (dfN Ta Tb x.1.1) x.1.2.1)],x.1.2.2⟩) (fun x=>24 - x.1.1) (⟨⟨0,fun _=>.full,live⟩,Nat.zero_le _,CapsN.full live 5⟩) ?_ (fun ⟨⟨m,cs,live'⟩,hm,hq⟩=>?_)
 ·
  try dsimp only
  refine Trunc.of (by first | exact (List.append_nil _).symm | (simp only [hst];rw [List.append_assoc];rfl)) ?_ (hB _ _) (fun _ h=>h)
  refine FTr.cons (by first | rfl | ((simp (disch:=omega) only [push_cast,↓reduceIte,Nat.reduceEqDiff,Nat.reduceAdd,Nat.reduceLeDiff,sx,rdSet0,rdSet1,rdSet2])<;>rfl)) (by simp [AV.cl,AV.clL];try omega) ?_
  refine FTr.cons (by first | rfl | ((simp (disch:=omega) only [push_cast,↓reduceIte,Nat.reduceEqDiff,Nat.reduceAdd,Nat.reduceLeDiff,sx,rdSet0,rdSet1,rdSet2])<;>rfl)) (by simp [AV.cl,AV.clL];try omega) ?_
  refine FTr.cons (by first | rfl | ((simp (disch:=omega) only [push_cast,↓reduceIte,Nat.reduceEqDiff,Nat.reduceAdd,Nat.reduceLeDiff,sx,rdSet0,rdSet1,rdSet2])<;>rfl)) (by simp [AV.cl,AV.clL];try omega) ?_
  refine FTr.cons (by first | rfl | ((simp (disch:=omega) only [push_cast,↓reduceIte,Nat.reduceEqDiff,Nat.reduceAdd,Nat.reduceLeDiff,sx,rdSet0,rdSet1,rdSet2])<;>rfl)) (by simp [AV.cl,AV.clL];try omega) ?_
  refine FTr.cons (by first | rfl | ((simp (disch:=omega) only [push_cast,↓reduceIte,Nat.reduceEqDiff,Nat.reduceAdd,Nat.reduceLeDiff,sx,rdSet0,rdSet1,rdSet2])<;>rfl)) (by simp [AV.cl,AV.clL];try omega) ?_
  exact FTr.nil
 try dsimp only
 dsimp only at hm hq
 have hlen:=dfN_len hTa hTb m
 have hea:=(get_ok hTa ((m:Int)+1)).2.1
 have heb:=(get_ok hTb ((m:Int)+1)).2.1
 have hla:=lessF_len ((m:Int)+1) (Ta.get ((m:Int)+1)).1.ents (Tb.get ((m:Int)+1)).1.ents
 have hlb:=lessF_len ((m:Int)+1) (Tb.get ((m:Int)+1)).1.ents (Ta.get ((m:Int)+1)).1.ents
 have ka:(Ta.get ((m:Int)+1)).2=!decide ((Ta.get ((m:Int)+1)).1.kind=0):=get_kind hTa _
 have kb:(Tb.get ((m:Int)+1)).2=!decide ((Tb.get ((m:Int)+1)).1.kind=0):=get_kind hTb _
 refine sk_ fun K2 hK2=>?_
 refine rs_ [2,3,4,5,6,12] ?_
 iterate 2 (refine dawp_p rfl (by (simp (disch:=omega) only [push_cast,↓reduceIte,Nat.reduceEqDiff,Nat.reduceAdd,Nat.reduceLeDiff,sx,rdSet0,rdSet1,rdSet2])<;>rfl) rfl rfl ?_)
 refine re_ (hf:=by (simp (disch:=omega) only [push_cast,↓reduceIte,Nat.reduceEqDiff,Nat.reduceAdd,Nat.reduceLeDiff,sx,rdSet0,rdSet1,rdSet2])<;>rfl) (hh:=by (try simp (disch:=omega) only [push_cast,↓reduceIte,Nat.reduceEqDiff,Nat.reduceAdd,Nat.reduceLeDiff,sx,rdSet0,rdSet1,rdSet2])<;>rfl) ?_
 refine cd_ (hb:=by (simp (disch:=omega) only [push_cast,↓reduceIte,Nat.reduceEqDiff,Nat.reduceAdd,Nat.reduceLeDiff,sx,rdSet0,rdSet1,rdSet2])<;>rfl) (ht:=fun hb1=>?_) (hf:=fun hb1=>?_)
 rotate_left
 ·
  have hme:m=24:=by omega
  subst hme
  refine awp_exit (up_ ?_)
  refine hK1 _ ?_
  refine rs_ [4] ?_
  refine dawp_h rfl (by (simp (disch:=omega) only [push_cast,↓reduceIte,Nat.reduceEqDiff,Nat.reduceAdd,Nat.reduceLeDiff,sx,rdSet0,rdSet1,rdSet2])<;>rfl) rfl rfl ?_
  refine dawp_hn rfl (by (simp (disch:=omega) only [push_cast,↓reduceIte,Nat.reduceEqDiff,Nat.reduceAdd,Nat.reduceLeDiff,sx,rdSet0,rdSet1,rdSet2])<;>rfl) rfl ?_
  refine re_ (hf:=by (simp (disch:=omega) only [push_cast,↓reduceIte,Nat.reduceEqDiff,Nat.reduceAdd,Nat.reduceLeDiff,sx,rdSet0,rdSet1,rdSet2])<;>rfl) (hh:=by (try simp (disch:=omega) only [push_cast,↓reduceIte,Nat.reduceEqDiff,Nat.reduceAdd,Nat.reduceLeDiff,sx,rdSet0,rdSet1,rdSet2])<;>rfl) ?_
  refine ret_ ?_
  refine fq_ (hres:=by (simp (disch:=omega) only [aresults,aresult,push_cast,↓reduceIte,Nat.reduceEqDiff,Nat.reduceAdd,Nat.reduceLeDiff,sx,rdSet0,rdSet1,rdSet2])<;>rfl) Tryz.results37 ?_ (hcl:=(by exact clL_rdC _ _ _)) (hl:=(fun u hu=>(hq.keep u hu).1))
  exact rk_ rfl
 have hml:m<24:=by omega
 refine skp_ ?_
 refine hK2 _ ?_
 refine sk_ fun K3 hK3=>?_
 refine awp_block ?_
 refine rs_ [2,3,4,5,6,7] ?_
 refine dawp_h rfl (by (simp (disch:=omega) only [push_cast,↓reduceIte,Nat.reduceEqDiff,Nat.reduceAdd,Nat.reduceLeDiff,sx,rdSet0,rdSet1,rdSet2])<;>rfl) rfl rfl ?_
 refine dawp_p rfl (by (simp (disch:=omega) only [push_cast,↓reduceIte,Nat.reduceEqDiff,Nat.reduceAdd,Nat.reduceLeDiff,sx,rdSet0,rdSet1,rdSet2])<;>rfl) rfl rfl ?_
 refine dawp_w rfl rfl rfl rfl (AOp.callx _ _ _ rfl (by (simp (disch:=omega) only [push_cast,↓reduceIte,Nat.reduceEqDiff,Nat.reduceAdd,Nat.reduceLeDiff,sx,rdSet0,rdSet1,rdSet2])<;>rfl) (by (simp (disch:=omega) only [push_cast,↓reduceIte,Nat.reduceEqDiff,Nat.reduceAdd,Nat.reduceLeDiff,sx,rdSet0,rdSet1,rdSet2])<;>rfl) ?_)
 refine ((hA _▸c39 LA _ _ _ hLA)).mono ?_;rintro _ _ _ ⟨rfl,rfl,rfl⟩
 refine dawp_h rfl (by (simp (disch:=omega) only [push_cast,↓reduceIte,Nat.reduceEqDiff,Nat.reduceAdd,Nat.reduceLeDiff,sx,rdSet0,rdSet1,rdSet2])<;>rfl) rfl rfl ?_
 refine dawp_hn rfl (by (simp (disch:=omega) only [push_cast,↓reduceIte,Nat.reduceEqDiff,Nat.reduceAdd,Nat.reduceLeDiff,sx,rdSet0,rdSet1,rdSet2])<;>rfl) rfl ?_
 refine re_ (hf:=by (simp (disch:=omega) only [push_cast,↓reduceIte,Nat.reduceEqDiff,Nat.reduceAdd,Nat.reduceLeDiff,sx,rdSet0,rdSet1,rdSet2])<;>rfl) (hh:=by (try simp (disch:=omega) only [push_cast,↓reduceIte,Nat.reduceEqDiff,Nat.reduceAdd,Nat.reduceLeDiff,sx,rdSet0,rdSet1,rdSet2])<;>rfl) ?_
 refine rs_ [2,3,4,5,6,7,8] ?_
 refine dawp_h rfl (by (simp (disch:=omega) only [push_cast,↓reduceIte,Nat.reduceEqDiff,Nat.reduceAdd,Nat.reduceLeDiff,sx,rdSet0,rdSet1,rdSet2])<;>rfl) rfl rfl ?_
 refine dawp_p rfl (by (simp (disch:=omega) only [push_cast,↓reduceIte,Nat.reduceEqDiff,Nat.reduceAdd,Nat.reduceLeDiff,sx,rdSet0,rdSet1,rdSet2])<;>rfl) rfl rfl ?_
 refine dawp_w rfl rfl rfl rfl (AOp.callx _ _ _ rfl (by (simp (disch:=omega) only [push_cast,↓reduceIte,Nat.reduceEqDiff,Nat.reduceAdd,Nat.reduceLeDiff,sx,rdSet0,rdSet1,rdSet2])<;>rfl) (by (simp (disch:=omega) only [push_cast,↓reduceIte,Nat.reduceEqDiff,Nat.reduceAdd,Nat.reduceLeDiff,sx,rdSet0,rdSet1,rdSet2])<;>rfl) ?_)
 refine ((hBB _▸c39 LB _ _ _ hLB)).mono ?_;rintro _ _ _ ⟨rfl,rfl,rfl⟩
 refine dawp_h rfl (by (simp (disch:=omega) only [push_cast,↓reduceIte,Nat.reduceEqDiff,Nat.reduceAdd,Nat.reduceLeDiff,sx,rdSet0,rdSet1,rdSet2])<;>rfl) rfl rfl ?_
 refine dawp_hn rfl (by (simp (disch:=omega) only [push_cast,↓reduceIte,Nat.reduceEqDiff,Nat.reduceAdd,Nat.reduceLeDiff,sx,rdSet0,rdSet1,rdSet2])<;>rfl) rfl ?_
 refine re_ (hf:=by (simp (disch:=omega) only [push_cast,↓reduceIte,Nat.reduceEqDiff,Nat.reduceAdd,Nat.reduceLeDiff,sx,rdSet0,rdSet1,rdSet2])<;>rfl) (hh:=by (try simp (disch:=omega) only [push_cast,↓reduceIte,Nat.reduceEqDiff,Nat.reduceAdd,Nat.reduceLeDiff,sx,rdSet0,rdSet1,rdSet2])<;>rfl) ?_
 refine rs_ [2,3,4,5,6,7,8,9] ?_
 iterate 2 (refine dawp_h rfl (by (simp (disch:=omega) only [push_cast,↓reduceIte,Nat.reduceEqDiff,Nat.reduceAdd,Nat.reduceLeDiff,sx,rdSet0,rdSet1,rdSet2])<;>rfl) rfl rfl ?_)
 refine dawp_w rfl rfl rfl rfl (AOp.callx _ _ _ rfl (by (simp (disch:=omega) only [push_cast,↓reduceIte,Nat.reduceEqDiff,Nat.reduceAdd,Nat.reduceLeDiff,sx,rdSet0,rdSet1,rdSet2])<;>rfl) (by (simp (disch:=omega) only [push_cast,↓reduceIte,Nat.reduceEqDiff,Nat.reduceAdd,Nat.reduceLeDiff,sx,rdSet0,rdSet1,rdSet2])<;>rfl) ?_)
 refine (c82 _ _ _ _ (get_ok hTa _) (get_ok hTb _)).mono ?_;rintro _ _ _ ⟨rfl,rfl,rfl⟩
 refine dawp_p rfl (by (simp (disch:=omega) only [push_cast,↓reduceIte,Nat.reduceEqDiff,Nat.reduceAdd,Nat.reduceLeDiff,sx,rdSet0,rdSet1,rdSet2])<;>rfl) rfl rfl ?_
 refine re_ (hf:=by (simp (disch:=omega) only [push_cast,↓reduceIte,Nat.reduceEqDiff,Nat.reduceAdd,Nat.reduceLeDiff,sx,rdSet0,rdSet1,rdSet2])<;>rfl) (hh:=by (try simp (disch:=omega) only [push_cast,↓reduceIte,Nat.reduceEqDiff,Nat.reduceAdd,Nat.reduceLeDiff,sx,rdSet0,rdSet1,rdSet2])<;>rfl) ?_
 refine sk_ fun K4 hK4=>?_
 refine rs_ [2,3,4,5,6,7,8,24] ?_
 refine dawp_p rfl (by (simp (disch:=omega) only [push_cast,↓reduceIte,Nat.reduceEqDiff,Nat.reduceAdd,Nat.reduceLeDiff,sx,rdSet0,rdSet1,rdSet2])<;>rfl) rfl rfl ?_
 refine re_ (hf:=by (simp (disch:=omega) only [push_cast,↓reduceIte,Nat.reduceEqDiff,Nat.reduceAdd,Nat.reduceLeDiff,sx,rdSet0,rdSet1,rdSet2])<;>rfl) (hh:=by (try simp (disch:=omega) only [push_cast,↓reduceIte,Nat.reduceEqDiff,Nat.reduceAdd,Nat.reduceLeDiff,sx,rdSet0,rdSet1,rdSet2])<;>rfl) ?_
 refine cb_ (hb:=by (simp (disch:=omega) only [push_cast,↓reduceIte,Nat.reduceEqDiff,Nat.reduceAdd,Nat.reduceLeDiff,sx,rdSet0,rdSet1,rdSet2])<;>rfl) (ht:=fun hb2=>?_) (hf:=fun hb2=>?_)
 ·
  have hst:dfN Ta Tb (m+1)=dfN Ta Tb m:=by
   show stepD Ta Tb (dfN Ta Tb m) ((m:Int)+1)=_
   unfold stepD;rw [hb2];rfl
  refine awp_exit (up_ ?_)
  refine hK3 _ ?_
  refine rt_ [2,3,4,5,6] ?_
  iterate 3 (refine dawp_p rfl (by (simp (disch:=omega) only [push_cast,↓reduceIte,Nat.reduceEqDiff,Nat.reduceAdd,Nat.reduceLeDiff,sx,rdSet0,rdSet1,rdSet2])<;>rfl) rfl rfl ?_)
  refine rn_ (hf:=by (simp (disch:=omega) only [push_cast,↓reduceIte,Nat.reduceEqDiff,Nat.reduceAdd,Nat.reduceLeDiff,sx,rdSet0,rdSet1,rdSet2])<;>rfl) (hh:=by (try simp (disch:=omega) only [push_cast,↓reduceIte,Nat.reduceEqDiff,Nat.reduceAdd,Nat.reduceLeDiff,sx,rdSet0,rdSet1,rdSet2])<;>rfl) (up_ ?_)
  refine ln_ ⟨⟨m+1,cs,live'⟩,by dsimp only;omega,hq⟩ ?_
  try dsimp only
  refine Trunc.of (by first | exact (List.append_nil _).symm | (simp only [hst];rw [List.append_assoc];rfl)) ?_ (hB _ _) (fun _ h=>h)
  refine FTr.cons (by (simp (disch:=omega) only [push_cast,↓reduceIte,Nat.reduceEqDiff,Nat.reduceAdd,Nat.reduceLeDiff,sx,rdSet0,rdSet1,rdSet2])<;>first | rfl | (congr 2;omega)) (by simp [AV.cl,AV.clL];try omega) ?_
  refine FTr.cons (by (simp (disch:=omega) only [push_cast,↓reduceIte,Nat.reduceEqDiff,Nat.reduceAdd,Nat.reduceLeDiff,sx,rdSet0,rdSet1,rdSet2])<;>first | rfl | (congr 2;omega)) (by simp [AV.cl,AV.clL];try omega) ?_
  refine FTr.cons (by (simp (disch:=omega) only [push_cast,↓reduceIte,Nat.reduceEqDiff,Nat.reduceAdd,Nat.reduceLeDiff,sx,rdSet0,rdSet1,rdSet2])<;>first | rfl | (congr 2;omega)) (by simp [AV.cl,AV.clL];try omega) ?_
  refine FTr.cons (by (simp (disch:=omega) only [push_cast,↓reduceIte,Nat.reduceEqDiff,Nat.reduceAdd,Nat.reduceLeDiff,sx,rdSet0,rdSet1,rdSet2])<;>first | rfl | (congr 2;omega)) (by simp [AV.cl,AV.clL];try omega) ?_
  refine FTr.cons (by (simp (disch:=omega) only [push_cast,↓reduceIte,Nat.reduceEqDiff,Nat.reduceAdd,Nat.reduceLeDiff,sx,rdSet0,rdSet1,rdSet2])<;>first | rfl | (congr 2;omega)) (by simp [AV.cl,AV.clL];try omega) ?_
  exact FTr.nil
 refine skp_ ?_
 refine hK4 _ ?_
 refine sk_ fun K5 hK5=>?_
 refine rs_ [2,3,4,5,6,7,8,27] ?_
 refine dawp_p rfl (by (simp (disch:=omega) only [push_cast,↓reduceIte,Nat.reduceEqDiff,Nat.reduceAdd,Nat.reduceLeDiff,sx,rdSet0,rdSet1,rdSet2])<;>rfl) rfl rfl ?_
 refine dawp_h rfl (by (simp (disch:=omega) only [push_cast,↓reduceIte,Nat.reduceEqDiff,Nat.reduceAdd,Nat.reduceLeDiff,sx,rdSet0,rdSet1,rdSet2])<;>rfl) rfl rfl ?_
 refine dawp_p rfl (by (simp (disch:=omega) only [push_cast,↓reduceIte,Nat.reduceEqDiff,Nat.reduceAdd,Nat.reduceLeDiff,sx,rdSet0,rdSet1,rdSet2])<;>rfl) rfl rfl ?_
 refine re_ (hf:=by (simp (disch:=omega) only [push_cast,↓reduceIte,Nat.reduceEqDiff,Nat.reduceAdd,Nat.reduceLeDiff,sx,rdSet0,rdSet1,rdSet2])<;>rfl) (hh:=by (try simp (disch:=omega) only [push_cast,↓reduceIte,Nat.reduceEqDiff,Nat.reduceAdd,Nat.reduceLeDiff,sx,rdSet0,rdSet1,rdSet2])<;>rfl) ?_
 refine cb_ (hb:=by (simp (disch:=omega) only [push_cast,↓reduceIte,Nat.reduceEqDiff,Nat.reduceAdd,Nat.reduceLeDiff,sx,rdSet0,rdSet1,rdSet2])<;>rfl) (ht:=fun hb3=>?_) (hf:=fun hb3=>?_)
 ·
  rw [hb3] at ka
  have hst:dfN Ta Tb (m+1)=updB (dfN Ta Tb m) 0 ((m:Int)+1):=by
   show stepD Ta Tb (dfN Ta Tb m) ((m:Int)+1)=_
   unfold stepD;rw [hb2,ka];rfl
  refine rs_ [2,3,4,5,6] ?_
  refine dawp_p rfl (by (simp (disch:=omega) only [push_cast,↓reduceIte,Nat.reduceEqDiff,Nat.reduceAdd,Nat.reduceLeDiff,sx,rdSet0,rdSet1,rdSet2])<;>rfl) rfl rfl ?_
  refine dawp_h rfl (by (simp (disch:=omega) only [push_cast,↓reduceIte,Nat.reduceEqDiff,Nat.reduceAdd,Nat.reduceLeDiff,sx,rdSet0,rdSet1,rdSet2])<;>rfl) rfl rfl ?_
  iterate 2 (refine dawp_p rfl (by (simp (disch:=omega) only [push_cast,↓reduceIte,Nat.reduceEqDiff,Nat.reduceAdd,Nat.reduceLeDiff,sx,rdSet0,rdSet1,rdSet2])<;>rfl) rfl rfl ?_)
  refine dawp_w rfl rfl rfl rfl (AOp.append _ _ _ rfl (by (simp (disch:=omega) only [push_cast,↓reduceIte,Nat.reduceEqDiff,Nat.reduceAdd,Nat.reduceLeDiff,sx,rdSet0,rdSet1,rdSet2])<;>rfl) (by (simp (disch:=omega) only [push_cast,↓reduceIte,Nat.reduceEqDiff,Nat.reduceAdd,Nat.reduceLeDiff,sx,rdSet0,rdSet1,rdSet2])<;>rfl) (by (simp (disch:=omega) only [push_cast,↓reduceIte,Nat.reduceEqDiff,Nat.reduceAdd,Nat.reduceLeDiff,sx,rdSet0,rdSet1,rdSet2])<;>rfl) (hq.ok 0 (by decide)) (cells_iV _) (by simp [AV.cells]) (by simp only [List.length_map,List.length_cons,List.length_nil];have h1:=hlen.1 0;omega) (by simp only [List.length_map,List.length_cons,List.length_nil];have h1:=hlen.1 0;omega) ?_)
  intro c32 live32 hk32
  have hq1:=hq.upd (show 0<5 by decide) hk32
  refine dawp_p rfl (by (simp (disch:=omega) only [push_cast,↓reduceIte,Nat.reduceEqDiff,Nat.reduceAdd,Nat.reduceLeDiff,sx,rdSet0,rdSet1,rdSet2])<;>rfl) rfl rfl ?_
  refine dawp_hn rfl (by (simp (disch:=omega) only [push_cast,↓reduceIte,Nat.reduceEqDiff,Nat.reduceAdd,Nat.reduceLeDiff,sx,rdSet0,rdSet1,rdSet2])<;>rfl) rfl ?_
  refine re_ (hf:=by (simp (disch:=omega) only [push_cast,↓reduceIte,Nat.reduceEqDiff,Nat.reduceAdd,Nat.reduceLeDiff,sx,rdSet0,rdSet1,rdSet2])<;>rfl) (hh:=by (try simp (disch:=omega) only [push_cast,↓reduceIte,Nat.reduceEqDiff,Nat.reduceAdd,Nat.reduceLeDiff,sx,rdSet0,rdSet1,rdSet2])<;>rfl) ?_
  refine awp_exit (up_ ?_)
  refine hK3 _ ?_
  refine rt_ [2,3,4,5,6] ?_
  iterate 3 (refine dawp_p rfl (by (simp (disch:=omega) only [push_cast,↓reduceIte,Nat.reduceEqDiff,Nat.reduceAdd,Nat.reduceLeDiff,sx,rdSet0,rdSet1,rdSet2])<;>rfl) rfl rfl ?_)
  refine rn_ (hf:=by (simp (disch:=omega) only [push_cast,↓reduceIte,Nat.reduceEqDiff,Nat.reduceAdd,Nat.reduceLeDiff,sx,rdSet0,rdSet1,rdSet2])<;>rfl) (hh:=by (try simp (disch:=omega) only [push_cast,↓reduceIte,Nat.reduceEqDiff,Nat.reduceAdd,Nat.reduceLeDiff,sx,rdSet0,rdSet1,rdSet2])<;>rfl) (up_ ?_)
  refine ln_ ⟨⟨m+1,updC cs 0 c32,live32⟩,by dsimp only;omega,hq1⟩ ?_
  try dsimp only
  refine Trunc.of (by first | exact (List.append_nil _).symm | (simp only [hst];rw [List.append_assoc];rfl)) ?_ (hB _ _) (fun _ h=>h)
  refine FTr.cons (by (simp (disch:=omega) only [push_cast,↓reduceIte,Nat.reduceEqDiff,Nat.reduceAdd,Nat.reduceLeDiff,sx,rdSet0,rdSet1,rdSet2])<;>first | rfl | (congr 2;omega)) (by simp [AV.cl,AV.clL];try omega) ?_
  refine FTr.cons (by (simp (disch:=omega) only [push_cast,↓reduceIte,Nat.reduceEqDiff,Nat.reduceAdd,Nat.reduceLeDiff,sx,rdSet0,rdSet1,rdSet2])<;>first | rfl | (congr 2;omega)) (by simp [AV.cl,AV.clL];try omega) ?_
  refine FTr.cons (by (simp (disch:=omega) only [push_cast,↓reduceIte,Nat.reduceEqDiff,Nat.reduceAdd,Nat.reduceLeDiff,sx,rdSet0,rdSet1,rdSet2])<;>first | rfl | (congr 2;omega)) (by simp [AV.cl,AV.clL];try omega) ?_
  refine FTr.cons (by (simp (disch:=omega) only [push_cast,↓reduceIte,Nat.reduceEqDiff,Nat.reduceAdd,Nat.reduceLeDiff,sx,rdSet0,rdSet1,rdSet2])<;>first | rfl | (congr 2;omega)) (by simp [AV.cl,AV.clL];try omega) ?_
  refine FTr.cons (by (simp (disch:=omega) only [push_cast,↓reduceIte,Nat.reduceEqDiff,Nat.reduceAdd,Nat.reduceLeDiff,sx,rdSet0,rdSet1,rdSet2])<;>first | rfl | (congr 2;omega)) (by simp [AV.cl,AV.clL];try omega) ?_
  exact FTr.nil
 rw [hb3] at ka
 refine skp_ ?_
 refine hK5 _ ?_
 refine sk_ fun K6 hK6=>?_
 refine rs_ [2,3,4,5,6,7,8,36] ?_
 refine dawp_p rfl (by (simp (disch:=omega) only [push_cast,↓reduceIte,Nat.reduceEqDiff,Nat.reduceAdd,Nat.reduceLeDiff,sx,rdSet0,rdSet1,rdSet2])<;>rfl) rfl rfl ?_
 refine dawp_h rfl (by (simp (disch:=omega) only [push_cast,↓reduceIte,Nat.reduceEqDiff,Nat.reduceAdd,Nat.reduceLeDiff,sx,rdSet0,rdSet1,rdSet2])<;>rfl) rfl rfl ?_
 refine dawp_p rfl (by (simp (disch:=omega) only [push_cast,↓reduceIte,Nat.reduceEqDiff,Nat.reduceAdd,Nat.reduceLeDiff,sx,rdSet0,rdSet1,rdSet2])<;>rfl) rfl rfl ?_
 refine re_ (hf:=by (simp (disch:=omega) only [push_cast,↓reduceIte,Nat.reduceEqDiff,Nat.reduceAdd,Nat.reduceLeDiff,sx,rdSet0,rdSet1,rdSet2])<;>rfl) (hh:=by (try simp (disch:=omega) only [push_cast,↓reduceIte,Nat.reduceEqDiff,Nat.reduceAdd,Nat.reduceLeDiff,sx,rdSet0,rdSet1,rdSet2])<;>rfl) ?_
 refine cb_ (hb:=by (simp (disch:=omega) only [push_cast,↓reduceIte,Nat.reduceEqDiff,Nat.reduceAdd,Nat.reduceLeDiff,sx,rdSet0,rdSet1,rdSet2])<;>rfl) (ht:=fun hb4=>?_) (hf:=fun hb4=>?_)
 ·
  rw [hb4] at kb
  have hst:dfN Ta Tb (m+1)=updB (dfN Ta Tb m) 1 ((m:Int)+1):=by
   show stepD Ta Tb (dfN Ta Tb m) ((m:Int)+1)=_
   unfold stepD;rw [hb2,ka,kb];rfl
  refine rs_ [2,3,4,5,6] ?_
  refine dawp_p rfl (by (simp (disch:=omega) only [push_cast,↓reduceIte,Nat.reduceEqDiff,Nat.reduceAdd,Nat.reduceLeDiff,sx,rdSet0,rdSet1,rdSet2])<;>rfl) rfl rfl ?_
  refine dawp_h rfl (by (simp (disch:=omega) only [push_cast,↓reduceIte,Nat.reduceEqDiff,Nat.reduceAdd,Nat.reduceLeDiff,sx,rdSet0,rdSet1,rdSet2])<;>rfl) rfl rfl ?_
  iterate 2 (refine dawp_p rfl (by (simp (disch:=omega) only [push_cast,↓reduceIte,Nat.reduceEqDiff,Nat.reduceAdd,Nat.reduceLeDiff,sx,rdSet0,rdSet1,rdSet2])<;>rfl) rfl rfl ?_)
  refine dawp_w rfl rfl rfl rfl (AOp.append _ _ _ rfl (by (simp (disch:=omega) only [push_cast,↓reduceIte,Nat.reduceEqDiff,Nat.reduceAdd,Nat.reduceLeDiff,sx,rdSet0,rdSet1,rdSet2])<;>rfl) (by (simp (disch:=omega) only [push_cast,↓reduceIte,Nat.reduceEqDiff,Nat.reduceAdd,Nat.reduceLeDiff,sx,rdSet0,rdSet1,rdSet2])<;>rfl) (by (simp (disch:=omega) only [push_cast,↓reduceIte,Nat.reduceEqDiff,Nat.reduceAdd,Nat.reduceLeDiff,sx,rdSet0,rdSet1,rdSet2])<;>rfl) (hq.ok 1 (by decide)) (cells_iV _) (by simp [AV.cells]) (by simp only [List.length_map,List.length_cons,List.length_nil];have h1:=hlen.1 1;omega) (by simp only [List.length_map,List.length_cons,List.length_nil];have h1:=hlen.1 1;omega) ?_)
  intro c41 live41 hk41
  have hq1:=hq.upd (show 1<5 by decide) hk41
  refine dawp_p rfl (by (simp (disch:=omega) only [push_cast,↓reduceIte,Nat.reduceEqDiff,Nat.reduceAdd,Nat.reduceLeDiff,sx,rdSet0,rdSet1,rdSet2])<;>rfl) rfl rfl ?_
  refine dawp_hn rfl (by (simp (disch:=omega) only [push_cast,↓reduceIte,Nat.reduceEqDiff,Nat.reduceAdd,Nat.reduceLeDiff,sx,rdSet0,rdSet1,rdSet2])<;>rfl) rfl ?_
  refine re_ (hf:=by (simp (disch:=omega) only [push_cast,↓reduceIte,Nat.reduceEqDiff,Nat.reduceAdd,Nat.reduceLeDiff,sx,rdSet0,rdSet1,rdSet2])<;>rfl) (hh:=by (try simp (disch:=omega) only [push_cast,↓reduceIte,Nat.reduceEqDiff,Nat.reduceAdd,Nat.reduceLeDiff,sx,rdSet0,rdSet1,rdSet2])<;>rfl) ?_
  refine awp_exit (up_ ?_)
  refine hK3 _ ?_
  refine rt_ [2,3,4,5,6] ?_
  iterate 3 (refine dawp_p rfl (by (simp (disch:=omega) only [push_cast,↓reduceIte,Nat.reduceEqDiff,Nat.reduceAdd,Nat.reduceLeDiff,sx,rdSet0,rdSet1,rdSet2])<;>rfl) rfl rfl ?_)
  refine rn_ (hf:=by (simp (disch:=omega) only [push_cast,↓reduceIte,Nat.reduceEqDiff,Nat.reduceAdd,Nat.reduceLeDiff,sx,rdSet0,rdSet1,rdSet2])<;>rfl) (hh:=by (try simp (disch:=omega) only [push_cast,↓reduceIte,Nat.reduceEqDiff,Nat.reduceAdd,Nat.reduceLeDiff,sx,rdSet0,rdSet1,rdSet2])<;>rfl) (up_ ?_)
  refine ln_ ⟨⟨m+1,updC cs 1 c41,live41⟩,by dsimp only;omega,hq1⟩ ?_
  try dsimp only
  refine Trunc.of (by first | exact (List.append_nil _).symm | (simp only [hst];rw [List.append_assoc];rfl)) ?_ (hB _ _) (fun _ h=>h)
  refine FTr.cons (by (simp (disch:=omega) only [push_cast,↓reduceIte,Nat.reduceEqDiff,Nat.reduceAdd,Nat.reduceLeDiff,sx,rdSet0,rdSet1,rdSet2])<;>first | rfl | (congr 2;omega)) (by simp [AV.cl,AV.clL];try omega) ?_
  refine FTr.cons (by (simp (disch:=omega) only [push_cast,↓reduceIte,Nat.reduceEqDiff,Nat.reduceAdd,Nat.reduceLeDiff,sx,rdSet0,rdSet1,rdSet2])<;>first | rfl | (congr 2;omega)) (by simp [AV.cl,AV.clL];try omega) ?_
  refine FTr.cons (by (simp (disch:=omega) only [push_cast,↓reduceIte,Nat.reduceEqDiff,Nat.reduceAdd,Nat.reduceLeDiff,sx,rdSet0,rdSet1,rdSet2])<;>first | rfl | (congr 2;omega)) (by simp [AV.cl,AV.clL];try omega) ?_
  refine FTr.cons (by (simp (disch:=omega) only [push_cast,↓reduceIte,Nat.reduceEqDiff,Nat.reduceAdd,Nat.reduceLeDiff,sx,rdSet0,rdSet1,rdSet2])<;>first | rfl | (congr 2;omega)) (by simp [AV.cl,AV.clL];try omega) ?_
  refine FTr.cons (by (simp (disch:=omega) only [push_cast,↓reduceIte,Nat.reduceEqDiff,Nat.reduceAdd,Nat.reduceLeDiff,sx,rdSet0,rdSet1,rdSet2])<;>first | rfl | (congr 2;omega)) (by simp [AV.cl,AV.clL];try omega) ?_
  exact FTr.nil
 rw [hb4] at kb
 refine skp_ ?_
 refine hK6 _ ?_
 refine sk_ fun K7 hK7=>?_
 refine rsq_ [2,3,4,5,6,7,8,52] ⟨true,[],[],[],[],[],0⟩ (fun _=>⟨by kernel_rfl,by kernel_rfl⟩) ?_
 refine dawp_p rfl (by (simp (disch:=omega) only [push_cast,↓reduceIte,Nat.reduceEqDiff,Nat.reduceAdd,Nat.reduceLeDiff,sx,rdSet0,rdSet1,rdSet2])<;>rfl) rfl rfl ?_
 refine dawp_h rfl (by (simp (disch:=omega) only [push_cast,↓reduceIte,Nat.reduceEqDiff,Nat.reduceAdd,Nat.reduceLeDiff,sx,rdSet0,rdSet1,rdSet2])<;>rfl) rfl rfl ?_
 iterate 2 (refine dawp_p rfl (by (simp (disch:=omega) only [push_cast,↓reduceIte,Nat.reduceEqDiff,Nat.reduceAdd,Nat.reduceLeDiff,sx,rdSet0,rdSet1,rdSet2])<;>rfl) rfl rfl ?_)
 refine dawp_gh rfl rfl (by simp only [push_cast,↓reduceIte,Nat.reduceEqDiff,Nat.reduceAdd,Nat.reduceLeDiff,sx,rdSet0,rdSet1,rdSet2];rfl) (fun hg=>by simp (disch:=omega) only [hg,push_cast,↓reduceIte,Nat.reduceEqDiff,Nat.reduceAdd,Nat.reduceLeDiff,sx,rdSet0,rdSet1,rdSet2];rfl) rfl rfl ?_
 refine dawp_gr rfl rfl rfl (by simp only [push_cast,↓reduceIte,Nat.reduceEqDiff,Nat.reduceAdd,Nat.reduceLeDiff,sx,rdSet0,rdSet1,rdSet2];rfl) (fun hg=>AOp.callx _ _ _ rfl (by (simp (disch:=omega) only [hg,push_cast,↓reduceIte,Nat.reduceEqDiff,Nat.reduceAdd,Nat.reduceLeDiff,sx,rdSet0,rdSet1,rdSet2])<;>rfl) (by (simp (disch:=omega) only [hg,push_cast,↓reduceIte,Nat.reduceEqDiff,Nat.reduceAdd,Nat.reduceLeDiff,sx,rdSet0,rdSet1,rdSet2])<;>rfl) (c83 _ _ _ (get_ok hTa _))) rfl rfl ?_
 refine dawp_gh rfl rfl (by simp only [push_cast,↓reduceIte,Nat.reduceEqDiff,Nat.reduceAdd,Nat.reduceLeDiff,sx,rdSet0,rdSet1,rdSet2];rfl) (fun hg=>by simp (disch:=omega) only [hg,push_cast,↓reduceIte,Nat.reduceEqDiff,Nat.reduceAdd,Nat.reduceLeDiff,sx,rdSet0,rdSet1,rdSet2];rfl) rfl rfl ?_
 refine dawp_gr rfl rfl rfl (by simp only [push_cast,↓reduceIte,Nat.reduceEqDiff,Nat.reduceAdd,Nat.reduceLeDiff,sx,rdSet0,rdSet1,rdSet2];rfl) (fun hg=>AOp.callx _ _ _ rfl (by (simp (disch:=omega) only [hg,push_cast,↓reduceIte,Nat.reduceEqDiff,Nat.reduceAdd,Nat.reduceLeDiff,sx,rdSet0,rdSet1,rdSet2])<;>rfl) (by (simp (disch:=omega) only [hg,push_cast,↓reduceIte,Nat.reduceEqDiff,Nat.reduceAdd,Nat.reduceLeDiff,sx,rdSet0,rdSet1,rdSet2])<;>rfl) (c83 _ _ _ (get_ok hTb _))) rfl rfl ?_
 refine dawp_gr rfl rfl rfl (by simp only [push_cast,↓reduceIte,Nat.reduceEqDiff,Nat.reduceAdd,Nat.reduceLeDiff,sx,rdSet0,rdSet1,rdSet2];rfl) (fun hg=>AOp.callx _ _ _ rfl (by (simp (disch:=omega) only [hg,push_cast,↓reduceIte,Nat.reduceEqDiff,Nat.reduceAdd,Nat.reduceLeDiff,sx,rdSet0,rdSet1,rdSet2])<;>rfl) (by (simp (disch:=omega) only [hg,push_cast,↓reduceIte,Nat.reduceEqDiff,Nat.reduceAdd,Nat.reduceLeDiff,sx,rdSet0,rdSet1,rdSet2])<;>rfl) (c82 _ _ _ _ (nWith_nd (get_ok hTa _)) (nWith_nd (get_ok hTb _)))) rfl rfl ?_
 refine dawp_p rfl (by (simp (disch:=omega) only [push_cast,↓reduceIte,Nat.reduceEqDiff,Nat.reduceAdd,Nat.reduceLeDiff,sx,rdSet0,rdSet1,rdSet2])<;>rfl) rfl rfl ?_
 refine re_ (hf:=by (simp (disch:=omega) only [push_cast,↓reduceIte,Nat.reduceEqDiff,Nat.reduceAdd,Nat.reduceLeDiff,sx,rdSet0,rdSet1,rdSet2])<;>rfl) (hh:=by (try simp (disch:=omega) only [push_cast,↓reduceIte,Nat.reduceEqDiff,Nat.reduceAdd,Nat.reduceLeDiff,sx,rdSet0,rdSet1,rdSet2])<;>rfl) ?_
 refine cb_ (hb:=by (simp (disch:=omega) only [push_cast,↓reduceIte,Nat.reduceEqDiff,Nat.reduceAdd,Nat.reduceLeDiff,sx,rdSet0,rdSet1,rdSet2])<;>rfl) (ht:=fun hb5=>?_) (hf:=fun hb5=>?_)
 ·
  rw [same_bare] at hb5
  have hs3:=rdSet3 (dfN Ta Tb m) cs ((m:Int)+1)
  have hw3:IntKind.i64.wrap ((((dfN Ta Tb m).b 2).length:Int)+1)=(((dfN Ta Tb m).b 2).length:Int)+1:=wrapS (by omega) (by have:=hlen.1 2;omega)
  have hst:dfN Ta Tb (m+1)=⟨(updB (dfN Ta Tb m) 2 ((m:Int)+1)).b,(dfN Ta Tb m).lost++lessF ((m:Int)+1) (Ta.get ((m:Int)+1)).1.ents (Tb.get ((m:Int)+1)).1.ents,(dfN Ta Tb m).won++lessF ((m:Int)+1) (Tb.get ((m:Int)+1)).1.ents (Ta.get ((m:Int)+1)).1.ents⟩:=by
   show stepD Ta Tb (dfN Ta Tb m) ((m:Int)+1)=_
   unfold stepD;rw [hb2,ka,kb,hb5];rfl
  have sx:=And.intro hs3 (And.intro hw3 sx)
  refine rs_ [2,3,4,5,6,7,8] ?_
  refine dawp_p rfl (by (simp (disch:=omega) only [push_cast,↓reduceIte,Nat.reduceEqDiff,Nat.reduceAdd,Nat.reduceLeDiff,sx,rdSet0,rdSet1,rdSet2])<;>rfl) rfl rfl ?_
  refine dawp_h rfl (by (simp (disch:=omega) only [push_cast,↓reduceIte,Nat.reduceEqDiff,Nat.reduceAdd,Nat.reduceLeDiff,sx,rdSet0,rdSet1,rdSet2])<;>rfl) rfl rfl ?_
  iterate 2 (refine dawp_p rfl (by (simp (disch:=omega) only [push_cast,↓reduceIte,Nat.reduceEqDiff,Nat.reduceAdd,Nat.reduceLeDiff,sx,rdSet0,rdSet1,rdSet2])<;>rfl) rfl rfl ?_)
  refine dawp_hn rfl (by (simp (disch:=omega) only [push_cast,↓reduceIte,Nat.reduceEqDiff,Nat.reduceAdd,Nat.reduceLeDiff,sx,rdSet0,rdSet1,rdSet2])<;>rfl) rfl ?_
  refine re_ (hf:=by (simp (disch:=omega) only [push_cast,↓reduceIte,Nat.reduceEqDiff,Nat.reduceAdd,Nat.reduceLeDiff,sx,rdSet0,rdSet1,rdSet2])<;>rfl) (hh:=by (try simp (disch:=omega) only [push_cast,↓reduceIte,Nat.reduceEqDiff,Nat.reduceAdd,Nat.reduceLeDiff,sx,rdSet0,rdSet1,rdSet2])<;>rfl) ?_
  refine rsq_ [2,3,4,5,6,7,8] ⟨true,[],[],[],[],[],0⟩ (fun _=>⟨by kernel_rfl,by kernel_rfl⟩) ?_
  refine dawp_p rfl (by (simp (disch:=omega) only [push_cast,↓reduceIte,Nat.reduceEqDiff,Nat.reduceAdd,Nat.reduceLeDiff,sx,rdSet0,rdSet1,rdSet2])<;>rfl) rfl rfl ?_
  refine dawp_h rfl (by (simp (disch:=omega) only [push_cast,↓reduceIte,Nat.reduceEqDiff,Nat.reduceAdd,Nat.reduceLeDiff,sx,rdSet0,rdSet1,rdSet2])<;>rfl) rfl rfl ?_
  refine dawp_p rfl (by (simp (disch:=omega) only [push_cast,↓reduceIte,Nat.reduceEqDiff,Nat.reduceAdd,Nat.reduceLeDiff,sx,rdSet0,rdSet1,rdSet2])<;>rfl) rfl rfl ?_
  iterate 2 (refine dawp_h rfl (by (simp (disch:=omega) only [push_cast,↓reduceIte,Nat.reduceEqDiff,Nat.reduceAdd,Nat.reduceLeDiff,sx,rdSet0,rdSet1,rdSet2])<;>rfl) rfl rfl ?_)
  refine dawp_r rfl rfl rfl rfl (AOp.callx _ _ _ rfl (by (simp (disch:=omega) only [push_cast,↓reduceIte,Nat.reduceEqDiff,Nat.reduceAdd,Nat.reduceLeDiff,sx,rdSet0,rdSet1,rdSet2])<;>rfl) (by (simp (disch:=omega) only [push_cast,↓reduceIte,Nat.reduceEqDiff,Nat.reduceAdd,Nat.reduceLeDiff,sx,rdSet0,rdSet1,rdSet2])<;>rfl) (c84 _ _ _ _ _ (get_ok hTa _) (get_ok hTb _))) ?_
  refine dawp_w rfl rfl rfl rfl (AOp.append _ _ _ rfl (by (simp (disch:=omega) only [push_cast,↓reduceIte,Nat.reduceEqDiff,Nat.reduceAdd,Nat.reduceLeDiff,sx,rdSet0,rdSet1,rdSet2])<;>rfl) (by (simp (disch:=omega) only [push_cast,↓reduceIte,Nat.reduceEqDiff,Nat.reduceAdd,Nat.reduceLeDiff,sx,rdSet0,rdSet1,rdSet2])<;>rfl) (by (simp (disch:=omega) only [push_cast,↓reduceIte,Nat.reduceEqDiff,Nat.reduceAdd,Nat.reduceLeDiff,sx,rdSet0,rdSet1,rdSet2])<;>rfl) (hq.ok 3 (by decide)) (cells_yV _) (cells_yV _) (by simp only [List.length_map];have h1:=hlen.2.1;first | omega | (have h2:(updB (dfN Ta Tb m) 2 ((m:Int)+1)).lost.length≤1000*m:=h1;omega)) (by simp only [List.length_map];have h1:=hlen.2.1;first | omega | (have h2:(updB (dfN Ta Tb m) 2 ((m:Int)+1)).lost.length≤1000*m:=h1;omega)) ?_)
  intro c63 live63 hk63
  have hq1:=hq.upd (show 3<5 by decide) hk63
  refine dawp_p rfl (by (simp (disch:=omega) only [push_cast,↓reduceIte,Nat.reduceEqDiff,Nat.reduceAdd,Nat.reduceLeDiff,sx,rdSet0,rdSet1,rdSet2])<;>rfl) rfl rfl ?_
  refine dawp_hn rfl (by (simp (disch:=omega) only [push_cast,↓reduceIte,Nat.reduceEqDiff,Nat.reduceAdd,Nat.reduceLeDiff,sx,rdSet0,rdSet1,rdSet2])<;>rfl) rfl ?_
  refine re_ (hf:=by (simp (disch:=omega) only [push_cast,↓reduceIte,Nat.reduceEqDiff,Nat.reduceAdd,Nat.reduceLeDiff,sx,rdSet0,rdSet1,rdSet2])<;>rfl) (hh:=by (try simp (disch:=omega) only [push_cast,↓reduceIte,Nat.reduceEqDiff,Nat.reduceAdd,Nat.reduceLeDiff,sx,rdSet0,rdSet1,rdSet2])<;>rfl) ?_
  refine rsq_ [2,3,4,5,6] ⟨true,[],[],[],[],[],0⟩ (fun _=>⟨by kernel_rfl,by kernel_rfl⟩) ?_
  refine dawp_p rfl (by (simp (disch:=omega) only [push_cast,↓reduceIte,Nat.reduceEqDiff,Nat.reduceAdd,Nat.reduceLeDiff,sx,rdSet0,rdSet1,rdSet2])<;>rfl) rfl rfl ?_
  refine dawp_h rfl (by (simp (disch:=omega) only [push_cast,↓reduceIte,Nat.reduceEqDiff,Nat.reduceAdd,Nat.reduceLeDiff,sx,rdSet0,rdSet1,rdSet2])<;>rfl) rfl rfl ?_
  refine dawp_p rfl (by (simp (disch:=omega) only [push_cast,↓reduceIte,Nat.reduceEqDiff,Nat.reduceAdd,Nat.reduceLeDiff,sx,rdSet0,rdSet1,rdSet2])<;>rfl) rfl rfl ?_
  iterate 2 (refine dawp_h rfl (by (simp (disch:=omega) only [push_cast,↓reduceIte,Nat.reduceEqDiff,Nat.reduceAdd,Nat.reduceLeDiff,sx,rdSet0,rdSet1,rdSet2])<;>rfl) rfl rfl ?_)
  refine dawp_r rfl rfl rfl rfl (AOp.callx _ _ _ rfl (by (simp (disch:=omega) only [push_cast,↓reduceIte,Nat.reduceEqDiff,Nat.reduceAdd,Nat.reduceLeDiff,sx,rdSet0,rdSet1,rdSet2])<;>rfl) (by (simp (disch:=omega) only [push_cast,↓reduceIte,Nat.reduceEqDiff,Nat.reduceAdd,Nat.reduceLeDiff,sx,rdSet0,rdSet1,rdSet2])<;>rfl) (c84 _ _ _ _ _ (get_ok hTb _) (get_ok hTa _))) ?_
  refine dawp_w rfl rfl rfl rfl (AOp.append _ _ _ rfl (by (simp (disch:=omega) only [push_cast,↓reduceIte,Nat.reduceEqDiff,Nat.reduceAdd,Nat.reduceLeDiff,sx,rdSet0,rdSet1,rdSet2])<;>rfl) (by (simp (disch:=omega) only [push_cast,↓reduceIte,Nat.reduceEqDiff,Nat.reduceAdd,Nat.reduceLeDiff,sx,rdSet0,rdSet1,rdSet2])<;>rfl) (by (simp (disch:=omega) only [push_cast,↓reduceIte,Nat.reduceEqDiff,Nat.reduceAdd,Nat.reduceLeDiff,sx,rdSet0,rdSet1,rdSet2])<;>rfl) (hq1.ok 4 (by decide)) (cells_yV _) (cells_yV _) (by simp only [List.length_map];have h1:=hlen.2.2;first | omega | (have h2:(updB (dfN Ta Tb m) 2 ((m:Int)+1)).won.length≤1000*m:=h1;omega)) (by simp only [List.length_map];have h1:=hlen.2.2;first | omega | (have h2:(updB (dfN Ta Tb m) 2 ((m:Int)+1)).won.length≤1000*m:=h1;omega)) ?_)
  intro c71 live71 hk71
  have hq2:=hq1.upd (show 4<5 by decide) hk71
  refine dawp_p rfl (by (simp (disch:=omega) only [push_cast,↓reduceIte,Nat.reduceEqDiff,Nat.reduceAdd,Nat.reduceLeDiff,sx,rdSet0,rdSet1,rdSet2])<;>rfl) rfl rfl ?_
  refine dawp_hn rfl (by (simp (disch:=omega) only [push_cast,↓reduceIte,Nat.reduceEqDiff,Nat.reduceAdd,Nat.reduceLeDiff,sx,rdSet0,rdSet1,rdSet2])<;>rfl) rfl ?_
  refine re_ (hf:=by (simp (disch:=omega) only [push_cast,↓reduceIte,Nat.reduceEqDiff,Nat.reduceAdd,Nat.reduceLeDiff,sx,rdSet0,rdSet1,rdSet2])<;>rfl) (hh:=by (try simp (disch:=omega) only [push_cast,↓reduceIte,Nat.reduceEqDiff,Nat.reduceAdd,Nat.reduceLeDiff,sx,rdSet0,rdSet1,rdSet2])<;>rfl) ?_
  refine awp_exit (up_ ?_)
  refine hK3 _ ?_
  refine rt_ [2,3,4,5,6] ?_
  iterate 3 (refine dawp_p rfl (by (simp (disch:=omega) only [push_cast,↓reduceIte,Nat.reduceEqDiff,Nat.reduceAdd,Nat.reduceLeDiff,sx,rdSet0,rdSet1,rdSet2])<;>rfl) rfl rfl ?_)
  refine rn_ (hf:=by (simp (disch:=omega) only [push_cast,↓reduceIte,Nat.reduceEqDiff,Nat.reduceAdd,Nat.reduceLeDiff,sx,rdSet0,rdSet1,rdSet2])<;>rfl) (hh:=by (try simp (disch:=omega) only [push_cast,↓reduceIte,Nat.reduceEqDiff,Nat.reduceAdd,Nat.reduceLeDiff,sx,rdSet0,rdSet1,rdSet2])<;>rfl) (up_ ?_)
  refine ln_ ⟨⟨m+1,updC (updC cs 3 c63) 4 c71,live71⟩,by dsimp only;omega,hq2⟩ ?_
  try dsimp only
  refine Trunc.of (by first | exact (List.append_nil _).symm | (simp only [hst];rw [List.append_assoc];rfl)) ?_ (hB _ _) (fun _ h=>h)
  refine FTr.cons (by (simp (disch:=omega) only [push_cast,↓reduceIte,Nat.reduceEqDiff,Nat.reduceAdd,Nat.reduceLeDiff,sx,rdSet0,rdSet1,rdSet2])<;>first | rfl | (congr 2;omega)) (by simp [AV.cl,AV.clL];try omega) ?_
  refine FTr.cons (by (simp (disch:=omega) only [push_cast,↓reduceIte,Nat.reduceEqDiff,Nat.reduceAdd,Nat.reduceLeDiff,sx,rdSet0,rdSet1,rdSet2])<;>first | rfl | (congr 2;omega)) (by simp [AV.cl,AV.clL];try omega) ?_
  refine FTr.cons (by (simp (disch:=omega) only [push_cast,↓reduceIte,Nat.reduceEqDiff,Nat.reduceAdd,Nat.reduceLeDiff,sx,rdSet0,rdSet1,rdSet2])<;>first | rfl | (congr 2;omega)) (by simp [AV.cl,AV.clL];try omega) ?_
  refine FTr.cons (by (simp (disch:=omega) only [push_cast,↓reduceIte,Nat.reduceEqDiff,Nat.reduceAdd,Nat.reduceLeDiff,sx,rdSet0,rdSet1,rdSet2])<;>first | rfl | (congr 2;omega)) (by simp [AV.cl,AV.clL];try omega) ?_
  refine FTr.cons (by (simp (disch:=omega) only [push_cast,↓reduceIte,Nat.reduceEqDiff,Nat.reduceAdd,Nat.reduceLeDiff,sx,rdSet0,rdSet1,rdSet2])<;>first | rfl | (congr 2;omega)) (by simp [AV.cl,AV.clL];try omega) ?_
  exact FTr.nil
 rw [same_bare] at hb5
 have hst:dfN Ta Tb (m+1)=updB (dfN Ta Tb m) 3 ((m:Int)+1):=by
  show stepD Ta Tb (dfN Ta Tb m) ((m:Int)+1)=_
  unfold stepD;rw [hb2,ka,kb,hb5];rfl
 refine skp_ ?_
 refine hK7 _ ?_
 refine rt_ [2,3,4,5,6] ?_
 refine dawp_p rfl (by (simp (disch:=omega) only [push_cast,↓reduceIte,Nat.reduceEqDiff,Nat.reduceAdd,Nat.reduceLeDiff,sx,rdSet0,rdSet1,rdSet2])<;>rfl) rfl rfl ?_
 refine dawp_h rfl (by (simp (disch:=omega) only [push_cast,↓reduceIte,Nat.reduceEqDiff,Nat.reduceAdd,Nat.reduceLeDiff,sx,rdSet0,rdSet1,rdSet2])<;>rfl) rfl rfl ?_
 iterate 2 (refine dawp_p rfl (by (simp (disch:=omega) only [push_cast,↓reduceIte,Nat.reduceEqDiff,Nat.reduceAdd,Nat.reduceLeDiff,sx,rdSet0,rdSet1,rdSet2])<;>rfl) rfl rfl ?_)
 refine dawp_w rfl rfl rfl rfl (AOp.append _ _ _ rfl (by (simp (disch:=omega) only [push_cast,↓reduceIte,Nat.reduceEqDiff,Nat.reduceAdd,Nat.reduceLeDiff,sx,rdSet0,rdSet1,rdSet2])<;>rfl) (by (simp (disch:=omega) only [push_cast,↓reduceIte,Nat.reduceEqDiff,Nat.reduceAdd,Nat.reduceLeDiff,sx,rdSet0,rdSet1,rdSet2])<;>rfl) (by (simp (disch:=omega) only [push_cast,↓reduceIte,Nat.reduceEqDiff,Nat.reduceAdd,Nat.reduceLeDiff,sx,rdSet0,rdSet1,rdSet2])<;>rfl) (hq.ok 2 (by decide)) (cells_iV _) (by simp [AV.cells]) (by simp only [List.length_map,List.length_cons,List.length_nil];have h1:=hlen.1 3;omega) (by simp only [List.length_map,List.length_cons,List.length_nil];have h1:=hlen.1 3;omega) ?_)
 intro c77 live77 hk77
 have hq1:=hq.upd (show 2<5 by decide) hk77
 refine dawp_p rfl (by (simp (disch:=omega) only [push_cast,↓reduceIte,Nat.reduceEqDiff,Nat.reduceAdd,Nat.reduceLeDiff,sx,rdSet0,rdSet1,rdSet2])<;>rfl) rfl rfl ?_
 refine dawp_hn rfl (by (simp (disch:=omega) only [push_cast,↓reduceIte,Nat.reduceEqDiff,Nat.reduceAdd,Nat.reduceLeDiff,sx,rdSet0,rdSet1,rdSet2])<;>rfl) rfl ?_
 refine rn_ (hf:=by (simp (disch:=omega) only [push_cast,↓reduceIte,Nat.reduceEqDiff,Nat.reduceAdd,Nat.reduceLeDiff,sx,rdSet0,rdSet1,rdSet2])<;>rfl) (hh:=by (try simp (disch:=omega) only [push_cast,↓reduceIte,Nat.reduceEqDiff,Nat.reduceAdd,Nat.reduceLeDiff,sx,rdSet0,rdSet1,rdSet2])<;>rfl) (up_ ?_)
 refine hK3 _ ?_
 refine rt_ [2,3,4,5,6] ?_
 iterate 3 (refine dawp_p rfl (by (simp (disch:=omega) only [push_cast,↓reduceIte,Nat.reduceEqDiff,Nat.reduceAdd,Nat.reduceLeDiff,sx,rdSet0,rdSet1,rdSet2])<;>rfl) rfl rfl ?_)
 refine rn_ (hf:=by (simp (disch:=omega) only [push_cast,↓reduceIte,Nat.reduceEqDiff,Nat.reduceAdd,Nat.reduceLeDiff,sx,rdSet0,rdSet1,rdSet2])<;>rfl) (hh:=by (try simp (disch:=omega) only [push_cast,↓reduceIte,Nat.reduceEqDiff,Nat.reduceAdd,Nat.reduceLeDiff,sx,rdSet0,rdSet1,rdSet2])<;>rfl) (up_ ?_)
 refine ln_ ⟨⟨m+1,updC cs 2 c77,live77⟩,by dsimp only;omega,hq1⟩ ?_
 try dsimp only
 refine Trunc.of (by first | exact (List.append_nil _).symm | (simp only [hst];rw [List.append_assoc];rfl)) ?_ (hB _ _) (fun _ h=>h)
 refine FTr.cons (by (simp (disch:=omega) only [push_cast,↓reduceIte,Nat.reduceEqDiff,Nat.reduceAdd,Nat.reduceLeDiff,sx,rdSet0,rdSet1,rdSet2])<;>first | rfl | (congr 2;omega)) (by simp [AV.cl,AV.clL];try omega) ?_
 refine FTr.cons (by (simp (disch:=omega) only [push_cast,↓reduceIte,Nat.reduceEqDiff,Nat.reduceAdd,Nat.reduceLeDiff,sx,rdSet0,rdSet1,rdSet2])<;>first | rfl | (congr 2;omega)) (by simp [AV.cl,AV.clL];try omega) ?_
 refine FTr.cons (by (simp (disch:=omega) only [push_cast,↓reduceIte,Nat.reduceEqDiff,Nat.reduceAdd,Nat.reduceLeDiff,sx,rdSet0,rdSet1,rdSet2])<;>first | rfl | (congr 2;omega)) (by simp [AV.cl,AV.clL];try omega) ?_
 refine FTr.cons (by (simp (disch:=omega) only [push_cast,↓reduceIte,Nat.reduceEqDiff,Nat.reduceAdd,Nat.reduceLeDiff,sx,rdSet0,rdSet1,rdSet2])<;>first | rfl | (congr 2;omega)) (by simp [AV.cl,AV.clL];try omega) ?_
 refine FTr.cons (by (simp (disch:=omega) only [push_cast,↓reduceIte,Nat.reduceEqDiff,Nat.reduceAdd,Nat.reduceLeDiff,sx,rdSet0,rdSet1,rdSet2])<;>first | rfl | (congr 2;omega)) (by simp [AV.cl,AV.clL];try omega) ?_
 exact FTr.nil
def rwB (D:Df) (a b:Ey):Bool:=!decide (a.2.2=(D.won.getD 0 ey0).2.2)||(decide (0<b.2.2)&&(!decide (b.1=(D.won.getD 0 ey0).1)||!decide (b.2.1=(D.won.getD 0 ey0).2.1)||decide (b.2.2=(D.won.getD 0 ey0).2.2)))||!onlyF (D.b 1) b.2.2
def rMove (D:Df) (a b:Ey):Ch:=bif rwB D a b then chK 7 else ⟨5,(D.won.getD 0 ey0).2.2,a.1,a.2.1,(D.won.getD 0 ey0).1,(D.won.getD 0 ey0).2.1,b.2.2⟩
theorem clL_yC (n:Nat) (a:Ey):AV.clL n [.int .i64 a.1,.str a.2.1,.int .i64 a.2.2]:=⟨trivial,trivial,trivial,trivial⟩
attribute [push_cast] clL_yC
theorem c86 (D:Df) (a b:Ey) (h:List Blk) (live:List Nat) (hw:0<D.won.length):AC Tryz.prog 86 [.agg (rdC D fun _=>.none),.agg [.int .i64 a.1,.str a.2.1,.int .i64 a.2.2],.agg [.int .i64 b.1,.str b.2.1,.int .i64 b.2.2]] h live (.agg (chC (rMove D a b))):=by
 refine aq_ Tryz.func86 fun hH hX=>?_
 refine rg_ [3,4,5,6] ?_
 refine rg_ [3,4,5,6,7] ?_
 refine sk_ fun K1 hK1=>?_
 refine rs_ [4,5,6,7,50] ?_
 refine sg_ ?_
 refine cg_ (hc:=fun hg=>c85 (D.b 1) _ _ _ _) (k:=?_)
 refine sre_ ?_
 refine cy_ (fun hb1=>?_) (fun hb1=>?_)
 ·
  refine rg_ [6] ?_
  refine ret_ ?_
  refine fq_ Tryz.results86 ?_ (hcl:=(by simp [AV.cl,AV.clL]))
  exact rk_ (by unfold rMove;rw [show rwB D a b=true from hb1];rfl)
 refine skp_ ?_
 refine hK1 _ ?_
 refine rg_ [6] ?_
 refine ret_ ?_
 refine fq_ Tryz.results86 ?_ (hcl:=(by simp [AV.cl,AV.clL]))
 exact rk_ (by unfold rMove;rw [show rwB D a b=false from hb1];rfl)
def rE1 (D:Df):Bool:=decide ((D.lost.length:Int)=1)&&decide ((D.won.length:Int)=0)&&onlyF (D.b 1) (D.lost.getD 0 ey0).2.2
def rEnt (D:Df):Ch:=
 bif rE1 D then ⟨4,(D.lost.getD 0 ey0).2.2,(D.lost.getD 0 ey0).1,(D.lost.getD 0 ey0).2.1,0,[],0⟩
 else bif !decide ((D.won.length:Int)=1)||decide ((D.lost.length:Int)=0)||decide ((2:Int)<D.lost.length) then chK 7
 else bif decide ((D.lost.length:Int)=1) then rMove D (D.lost.getD 0 ey0) (0,[],0)
 else bif decide ((rMove D (D.lost.getD 0 ey0) (D.lost.getD 1 ey0)).kind=5) then rMove D (D.lost.getD 0 ey0) (D.lost.getD 1 ey0) else rMove D (D.lost.getD 1 ey0) (D.lost.getD 0 ey0)
theorem c40 (D:Df) (h:List Blk) (live:List Nat) (hwl:D.won.length≤1000000) (hll:D.lost.length≤1000000):AC Tryz.prog 40 [.agg (rdC D fun _=>.none)] h live (.agg (chC (rEnt D))):=by
 refine aq_ Tryz.func40 fun hH hX=>?_
 have sx:=(And.intro @v_DT sx0)
 refine rg_ [1,2] ?_
 refine sk_ fun K1 hK1=>?_
 refine rsq_ [1,2,23] ⟨true,[],[],[],[],[],0⟩ (fun _=>⟨by kernel_rfl,by kernel_rfl⟩) ?_
 refine sg_ ?_
 refine cg_ (hc:=fun hg=>c85 (D.b 1) _ _ _ _) (k:=?_)
 refine sre_ ?_
 refine cy_ (fun hb1=>?_) (fun hb1=>?_)
 ·
  have hx1:=hb1
  simp only [decide_eq_true_eq,decide_eq_false_iff_not,Bool.not_eq_true',Bool.not_eq_false',Bool.or_eq_true,Bool.and_eq_true,Bool.or_eq_false_iff,Bool.and_eq_false_imp,Int.not_lt,Int.not_le] at hx1
  refine rsq_ [2] ⟨true,[],[],[],[],[],0⟩ (fun _=>⟨by kernel_rfl,by kernel_rfl⟩) ?_
  refine srt_ ?_
  refine fq_ Tryz.results40 ?_ (hcl:=(by simp [AV.cl,AV.clL,clL_chC]))
  exact rk_ (by unfold rEnt;rw [show rE1 D=true from hb1];rfl)
 refine skp_ ?_
 refine hK1 _ ?_
 refine sk_ fun K2 hK2=>?_
 refine rg_ [1,2,55] ?_
 refine cy_ (fun hb2=>?_) (fun hb2=>?_)
 ·
  refine rg_ [2] ?_
  refine ret_ ?_
  refine fq_ Tryz.results40 ?_ (hcl:=(by simp [AV.cl,AV.clL,clL_chC]))
  exact rk_ (by unfold rEnt;rw [show rE1 D=false from hb1,hb2];rfl)
 have hx2:=hb2
 simp only [decide_eq_true_eq,decide_eq_false_iff_not,Bool.not_eq_true',Bool.not_eq_false',Bool.or_eq_true,Bool.and_eq_true,Bool.or_eq_false_iff,Bool.and_eq_false_imp,Int.not_lt,Int.not_le] at hx2
 refine skp_ ?_
 refine hK2 _ ?_
 refine sk_ fun K3 hK3=>?_
 refine rg_ [1,2,60] ?_
 refine cy_ (fun hb3=>?_) (fun hb3=>?_)
 ·
  have hx3:=hb3
  simp only [decide_eq_true_eq] at hx3
  refine rsq_ [2] ⟨true,[],[],[],[],[],0⟩ (fun _=>⟨by kernel_rfl,by kernel_rfl⟩) ?_
  refine sg_ ?_
  refine cr_ (hc:=c86 D (D.lost.getD 0 ey0) (0,[],0) _ _ (by omega)) (k:=?_)
  refine srt_ ?_
  refine fq_ Tryz.results40 ?_ (hcl:=(by simp [AV.cl,AV.clL,clL_chC]))
  exact rk_ (by unfold rEnt;rw [show rE1 D=false from hb1,hb2,hb3];rfl)
 have hx3:=hb3
 simp only [decide_eq_false_iff_not] at hx3
 refine skp_ ?_
 refine hK3 _ ?_
 refine rsq_ [1,2,3] ⟨false,[(h.length,0,.agg 6),(h.length,4,.one)],[68,70,72,74,76],[],[3],[77],0⟩ (fun _=>⟨by kernel_rfl,by kernel_rfl⟩) ?_
 refine df_ ?_
 refine sg_ ?_
 refine df_ ?_
 refine sg_ ?_
 refine df_ ?_
 refine sg_ ?_
 refine df_ ?_
 refine sg_ ?_
 refine df_ ?_
 refine ds_ (hc:=fun h' l' hs=>c86 D (D.lost.getD 0 ey0) (D.lost.getD 1 ey0) _ _ (by omega)) (k:=?_)
 refine dga_ ?_
 refine sre_ ?_
 refine sk_ fun K4 hK4=>?_
 refine rg_ [1,2,3,80] ?_
 refine cy_ (fun hb4=>?_) (fun hb4=>?_)
 ·
  refine rg_ [2] ?_
  refine ret_ ?_
  refine fq_ Tryz.results40 ?_ (hcl:=(by simp [AV.cl,AV.clL,clL_chC]))
  exact rk_ (by unfold rEnt;rw [show rE1 D=false from hb1,hb2,hb3,hb4];rfl)
 refine skp_ ?_
 refine hK4 _ ?_
 refine rsq_ [2] ⟨true,[],[],[],[],[],0⟩ (fun _=>⟨by kernel_rfl,by kernel_rfl⟩) ?_
 refine sg_ ?_
 refine cr_ (hc:=c86 D (D.lost.getD 1 ey0) (D.lost.getD 0 ey0) _ _ (by omega)) (k:=?_)
 refine srt_ ?_
 refine fq_ Tryz.results40 ?_ (hcl:=(by simp [AV.cl,AV.clL,clL_chC]))
 exact rk_ (by unfold rEnt;rw [show rE1 D=false from hb1,hb2,hb3,hb4];rfl)
def rOf (D:Df) (A B:Tab):Ch:=
 bif decide (((D.b 3).length:Int)=1)&&decide (((D.b 0).length:Int)+(D.b 1).length+(D.b 2).length=0) then aloneF ((D.b 3).getD 0 0) (A.get ((D.b 3).getD 0 0)).1 (B.get ((D.b 3).getD 0 0)).1
 else bif decide ((0:Int)<(D.b 3).length) then chK 7
 else bif decide (((D.b 0).length:Int)+(D.b 1).length+(D.b 2).length=0) then chK 0
 else bif decide ((0:Int)<(D.b 0).length) then
  (bif decide (((D.b 0).length:Int)=1)&&decide (((D.b 1).length:Int)=0)&&decide ((D.lost.length:Int)=0)&&decide ((D.won.length:Int)=1)&&decide ((D.won.getD 0 ey0).2.2=(D.b 0).getD 0 0) then ⟨3,(D.b 0).getD 0 0,(D.won.getD 0 ey0).1,(D.won.getD 0 ey0).2.1,0,[],0⟩ else chK 7)
 else bif decide (((D.b 1).length:Int)=1)&&decide (((D.b 2).length:Int)=0) then ⟨6,(D.b 1).getD 0 0,0,[],0,[],0⟩
 else rEnt D
theorem c15 (Ta Tb:Tab) (LA LB:List Nd) (h:List Blk) (live:List Nat) (hTa:Ta.Ok) (hTb:Tb.Ok) (hA:∀i,rGet LA i=(Ta.get i).1) (hBB:∀i,rGet LB i=(Tb.get i).1) (hLA:LA.length≤1000) (hLB:LB.length≤1000):AC Tryz.prog 15 [tV LA,tV LB] h live (.agg (chC (rOf (dfN Ta Tb 24) Ta Tb))):=by
 refine aq_ Tryz.func15 fun hH hX=>?_
 unfold tV
 obtain ⟨hlb,hll,hlw⟩:=dfN_len hTa hTb 24
 obtain ⟨D,hD⟩:∃D,dfN Ta Tb 24=D:=⟨_,rfl⟩
 rw [hD] at hlb hll hlw ⊢
 have hl0:=hlb 0
 have hl1:=hlb 1
 have hl2:=hlb 2
 have hl3:=hlb 3
 have hw1:IntKind.i64.wrap (((D.b 0).length:Int)+(D.b 1).length)=((D.b 0).length:Int)+(D.b 1).length:=wrapS (by omega) (by omega)
 have hw2:IntKind.i64.wrap (((D.b 0).length:Int)+(D.b 1).length+(D.b 2).length)=((D.b 0).length:Int)+(D.b 1).length+(D.b 2).length:=wrapS (by omega) (by omega)
 have sx:=(And.intro @hw1 (And.intro @hw2 sx0))
 refine rg_ [2,3,4] ?_
 refine rs_ [2,3,4,5] ?_
 refine sg_ ?_
 refine cl_ (hc:=(hD▸c37 Ta Tb LA LB _ _ hTa hTb hA hBB hLA hLB)) (k:=?_)
 refine sre_ ?_
 refine sk_ fun K1 hK1=>?_
 refine rg_ [2,3,4,5,25] ?_
 refine cy_ (fun hb1=>?_) (fun hb1=>?_)
 ·
  have hx1:=hb1
  simp only [decide_eq_true_eq,decide_eq_false_iff_not,Bool.not_eq_true',Bool.not_eq_false',Bool.or_eq_true,Bool.and_eq_true,Bool.or_eq_false_iff,Bool.and_eq_false_imp,Int.not_lt,Int.not_le] at hx1
  refine rsq_ [4] ⟨true,[],[],[],[],[],0⟩ (fun _=>⟨by kernel_rfl,by kernel_rfl⟩) ?_
  refine sg_ ?_
  refine cr_ (hc:=(hA _▸c39 LA _ _ _ hLA)) (k:=?_)
  refine sg_ ?_
  refine cr_ (hc:=(hBB _▸c39 LB _ _ _ hLB)) (k:=?_)
  refine cr_ (hc:=c38 _ _ _ _ _ (get_ok hTa _) (get_ok hTb _)) (k:=?_)
  refine srt_ ?_
  refine fq_ Tryz.results15 ?_ (hcl:=(by simp [AV.cl,AV.clL,clL_chC]))
  exact rk_ (by unfold rOf;rw [hb1];rfl)
 refine skp_ ?_
 refine hK1 _ ?_
 refine sk_ fun K2 hK2=>?_
 refine rg_ [4,5,46] ?_
 refine cy_ (fun hb2=>?_) (fun hb2=>?_)
 ·
  refine rg_ [4] ?_
  refine ret_ ?_
  refine fq_ Tryz.results15 ?_ (hcl:=(by simp [AV.cl,AV.clL,clL_chC]))
  exact rk_ (by unfold rOf;rw [hb1,hb2];rfl)
 refine skp_ ?_
 refine hK2 _ ?_
 refine sk_ fun K3 hK3=>?_
 refine rg_ [4,5,58] ?_
 refine cy_ (fun hb3=>?_) (fun hb3=>?_)
 ·
  refine rg_ [4] ?_
  refine ret_ ?_
  refine fq_ Tryz.results15 ?_ (hcl:=(by simp [AV.cl,AV.clL,clL_chC]))
  exact rk_ (by unfold rOf;rw [hb1,hb2,hb3];rfl)
 refine skp_ ?_
 refine hK3 _ ?_
 refine sk_ fun K4 hK4=>?_
 refine rg_ [4,5,63] ?_
 refine cy_ (fun hb4=>?_) (fun hb4=>?_)
 ·
  have hx4:=hb4
  simp only [decide_eq_true_eq] at hx4
  refine sk_ fun K5 hK5=>?_
  refine rsq_ [4,5,97] ⟨true,[],[],[],[],[],0⟩ (fun _=>⟨by kernel_rfl,by kernel_rfl⟩) ?_
  refine sre_ ?_
  refine cy_ (fun hb5=>?_) (fun hb5=>?_)
  ·
   have hx5:=hb5
   simp only [decide_eq_true_eq,decide_eq_false_iff_not,Bool.not_eq_true',Bool.not_eq_false',Bool.or_eq_true,Bool.and_eq_true,Bool.or_eq_false_iff,Bool.and_eq_false_imp,Int.not_lt,Int.not_le] at hx5
   refine rsq_ [4] ⟨true,[],[],[],[],[],0⟩ (fun _=>⟨by kernel_rfl,by kernel_rfl⟩) ?_
   refine srt_ ?_
   refine fq_ Tryz.results15 ?_ (hcl:=(by simp [AV.cl,AV.clL,clL_chC]))
   exact rk_ (by unfold rOf;rw [hb1,hb2,hb3,hb4,hb5];rfl)
  refine skp_ ?_
  refine hK5 _ ?_
  refine rg_ [4] ?_
  refine ret_ ?_
  refine fq_ Tryz.results15 ?_ (hcl:=(by simp [AV.cl,AV.clL,clL_chC]))
  exact rk_ (by unfold rOf;rw [hb1,hb2,hb3,hb4,hb5];rfl)
 refine skp_ ?_
 refine hK4 _ ?_
 refine sk_ fun K6 hK6=>?_
 refine rg_ [4,5,122] ?_
 refine cy_ (fun hb6=>?_) (fun hb6=>?_)
 ·
  have hx6:=hb6
  simp only [decide_eq_true_eq,decide_eq_false_iff_not,Bool.not_eq_true',Bool.not_eq_false',Bool.or_eq_true,Bool.and_eq_true,Bool.or_eq_false_iff,Bool.and_eq_false_imp,Int.not_lt,Int.not_le] at hx6
  refine rg_ [4] ?_
  refine ret_ ?_
  refine fq_ Tryz.results15 ?_ (hcl:=(by simp [AV.cl,AV.clL,clL_chC]))
  exact rk_ (by unfold rOf;rw [hb1,hb2,hb3,hb4,hb6];rfl)
 refine skp_ ?_
 refine hK6 _ ?_
 refine rs_ [4] ?_
 refine sg_ ?_
 refine cl_ (hc:=c40 D _ _ (by omega) (by omega)) (k:=?_)
 refine srt_ ?_
 refine fq_ Tryz.results15 ?_ (hcl:=(by simp [AV.cl,AV.clL,clL_chC]))
 exact rk_ (by unfold rOf;rw [hb1,hb2,hb3,hb4,hb6];rfl)
end Go.Proofs.YtjmlgeckgieaaaaGreat
