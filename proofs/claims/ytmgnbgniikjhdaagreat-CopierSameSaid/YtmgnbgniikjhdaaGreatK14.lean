import Derived.Test.YtmgnbgniikjhdaaGreatK13
/-
  A law's system begins; words; the document's example.
-/
set_option linter.unusedVariables false
set_option linter.unusedSimpArgs false
namespace Go.Proofs.YtmgnbgniikjhdaaGreat
open Go.Ab
set_option maxRecDepth 8000
set_option maxHeartbeats 400000
def wordsF (l:List (List UInt8)):Bool:=l.all (fun s=>decide (s.length≤80))&&decide (l.length≤12)
theorem words_all {l:List (List UInt8)} (h:∀j,j<l.length→(l.getD j []).length≤80):wordsF l=decide (l.length≤12):=by
 have:l.all (fun s=>decide (s.length≤80))=true:=by
  rw [List.all_eq_true];intro s hs
  obtain ⟨i,hi,rfl⟩:=List.mem_iff_getElem.1 hs
  have:=h i hi
  simpa [List.getD_eq_getElem?_getD,hi] using this
 rw [wordsF,this,Bool.true_and]
theorem words_not {l:List (List UInt8)} {i:Nat} (hi:i<l.length) (h:80<(l.getD i []).length):wordsF l=false:=by
 have:l.all (fun s=>decide (s.length≤80))=false:=by
  rw [List.all_eq_false]
  refine ⟨l[i],List.getElem_mem hi,?_⟩
  simp [List.getD_eq_getElem?_getD,hi] at h
  simpa using h
 rw [wordsF,this,Bool.false_and]
theorem words_ok {l:List (List UInt8)} (h:wordsF l=true):(∀s∈l,s.length≤80)∧l.length≤12:=by
 simpa [wordsF] using h
theorem begun_one {h:List Blk} {live:List Nat} {um:Int} {c:Cr} {room:Int} {l:List Rw} {x:AV} {h':List Blk} {l':List Nat} (hb:begunK h live um [c] (builtF room l c) x h' l') :
 l'=live∧∃p,x=.tup [p,.bool (builtF room l c).isSome]∧∀T,builtF room l c=some T→∃n,h.length≤n∧p=.ptr (n+1) 0∧SysAt h' (n+1) n (n+3) T [pr1 um c]:=by
 obtain ⟨rfl,hb⟩:=hb
 refine ⟨rfl,?_⟩
 rcases hb with ⟨e,rfl,rfl⟩ | ⟨T,g,e,rfl,rfl⟩
 · rw [e];exact ⟨_,rfl,fun T hT=>nomatch hT⟩
 ·
  rw [e]
  refine ⟨_,rfl,fun T' hT'=>?_⟩
  cases hT'
  have hg:c.gs.length≤10:=by
   apply Classical.byContradiction
   intro hn
   unfold builtF at e
   rw [show (decide ((50:Int)<l.length)||decide ((10:Int)<c.gs.length))=true by simp;omega] at e
   cases e
  exact ⟨_,by simp,rfl,newH_at _ um (cs:=[c]) (builtF_ok e).1 (built_rt e) (fun c' hc=>by rw [List.mem_singleton.1 hc];exact Nat.le_trans hg (by decide)) (by simp)⟩
theorem c21 (l:List (List UInt8)) (cp:Cap) (h:List Blk) (live:List Nat) (hl:l.length≤9223372036854775807):AC Tryz.prog 21 [.slice (l.map .str) cp] h live (.bool (wordsF l)):=by
 refine aq_ Tryz.func21 fun hH hX=>?_
 refine rs_ [0] ?_
 refine dawp_p rfl (by (simp (disch:=omega) only [push_cast,↓reduceIte,Nat.reduceEqDiff,Nat.reduceAdd,Nat.reduceLeDiff,sx,List.length_map])<;>rfl) rfl rfl ?_
 refine re_ (hf:=by (simp (disch:=omega) only [push_cast,↓reduceIte,Nat.reduceEqDiff,Nat.reduceAdd,Nat.reduceLeDiff,sx,List.length_map])<;>rfl) (hh:=by (try simp (disch:=omega) only [push_cast,↓reduceIte,Nat.reduceEqDiff,Nat.reduceAdd,Nat.reduceLeDiff,sx,List.length_map])<;>rfl) ?_
 refine sk_ fun K1 hK1=>?_
 refine rs_ [0,3] ?_
 refine dawp_p rfl (by (simp (disch:=omega) only [push_cast,↓reduceIte,Nat.reduceEqDiff,Nat.reduceAdd,Nat.reduceLeDiff,sx,List.length_map])<;>rfl) rfl rfl ?_
 refine re_ (hf:=by (simp (disch:=omega) only [push_cast,↓reduceIte,Nat.reduceEqDiff,Nat.reduceAdd,Nat.reduceLeDiff,sx,List.length_map])<;>rfl) (hh:=by (try simp (disch:=omega) only [push_cast,↓reduceIte,Nat.reduceEqDiff,Nat.reduceAdd,Nat.reduceLeDiff,sx,List.length_map])<;>rfl) ?_
 refine awp_block ?_
 refine lp_ (X:={i:Nat // i≤l.length∧∀j,j<i→(l.getD j []).length≤80}) (fun x=>⟨Tryz.f21.ntmps,fget [(0,.slice (l.map .str) cp),(3,.int .i64 (x.1:Nat))],h,live⟩) (fun x=>l.length - x.1) (⟨0,by omega,fun j hj=>by omega⟩) ?_ (fun ⟨i,hi,hn⟩=>?_)
 ·
  try dsimp only
  refine Trunc.same ?_ hH
  refine FTr.cons (by first | rfl | ((simp (disch:=omega) only [push_cast,↓reduceIte,Nat.reduceEqDiff,Nat.reduceAdd,Nat.reduceLeDiff,sx,List.length_map])<;>rfl)) (by simp [AV.cl,AV.clL,clL_str]) ?_
  refine FTr.cons (by first | rfl | ((simp (disch:=omega) only [push_cast,↓reduceIte,Nat.reduceEqDiff,Nat.reduceAdd,Nat.reduceLeDiff,sx,List.length_map])<;>rfl)) (by simp [AV.cl,AV.clL,clL_str]) ?_
  exact FTr.nil
 try dsimp only
 refine sk_ fun K2 hK2=>?_
 refine rs_ [0,3,7] ?_
 iterate 4 (refine dawp_p rfl (by (simp (disch:=omega) only [push_cast,↓reduceIte,Nat.reduceEqDiff,Nat.reduceAdd,Nat.reduceLeDiff,sx,List.length_map])<;>rfl) rfl rfl ?_)
 refine re_ (hf:=by (simp (disch:=omega) only [push_cast,↓reduceIte,Nat.reduceEqDiff,Nat.reduceAdd,Nat.reduceLeDiff,sx,List.length_map])<;>rfl) (hh:=by (try simp (disch:=omega) only [push_cast,↓reduceIte,Nat.reduceEqDiff,Nat.reduceAdd,Nat.reduceLeDiff,sx,List.length_map])<;>rfl) ?_
 refine cd_ (hb:=by (simp (disch:=omega) only [push_cast,↓reduceIte,Nat.reduceEqDiff,Nat.reduceAdd,Nat.reduceLeDiff,sx,List.length_map])<;>rfl) (ht:=fun hb1=>?_) (hf:=fun hb1=>?_)
 rotate_left
 ·
  refine awp_exit (up_ ?_)
  refine hK1 _ ?_
  refine rs_ [2] ?_
  iterate 4 (refine dawp_p rfl (by (simp (disch:=omega) only [push_cast,↓reduceIte,Nat.reduceEqDiff,Nat.reduceAdd,Nat.reduceLeDiff,sx,List.length_map])<;>rfl) rfl rfl ?_)
  refine re_ (hf:=by (simp (disch:=omega) only [push_cast,↓reduceIte,Nat.reduceEqDiff,Nat.reduceAdd,Nat.reduceLeDiff,sx,List.length_map])<;>rfl) (hh:=by (try simp (disch:=omega) only [push_cast,↓reduceIte,Nat.reduceEqDiff,Nat.reduceAdd,Nat.reduceLeDiff,sx,List.length_map])<;>rfl) ?_
  refine ret_ ?_
  refine fq_ (hres:=by (simp (disch:=omega) only [aresults,aresult,push_cast,↓reduceIte,Nat.reduceEqDiff,Nat.reduceAdd,Nat.reduceLeDiff,sx,List.length_map])<;>rfl) Tryz.results21 ?_
  exact rk_ (by rw [words_all fun j hj=>hn j (by omega)];congr 2;simp;omega)
 refine skp_ ?_
 refine hK2 _ ?_
 refine sk_ fun K3 hK3=>?_
 refine awp_block ?_
 refine rs_ [0,3,15] ?_
 iterate 3 (refine dawp_p rfl (by (simp (disch:=omega) only [push_cast,↓reduceIte,Nat.reduceEqDiff,Nat.reduceAdd,Nat.reduceLeDiff,sx,List.length_map])<;>rfl) rfl rfl ?_)
 refine dawp_h rfl (by (simp (disch:=omega) only [push_cast,↓reduceIte,Nat.reduceEqDiff,Nat.reduceAdd,Nat.reduceLeDiff,sx,List.length_map])<;>rfl) rfl rfl ?_
 iterate 2 (refine dawp_p rfl (by (simp (disch:=omega) only [push_cast,↓reduceIte,Nat.reduceEqDiff,Nat.reduceAdd,Nat.reduceLeDiff,sx,List.length_map])<;>rfl) rfl rfl ?_)
 refine re_ (hf:=by (simp (disch:=omega) only [push_cast,↓reduceIte,Nat.reduceEqDiff,Nat.reduceAdd,Nat.reduceLeDiff,sx,List.length_map])<;>rfl) (hh:=by (try simp (disch:=omega) only [push_cast,↓reduceIte,Nat.reduceEqDiff,Nat.reduceAdd,Nat.reduceLeDiff,sx,List.length_map])<;>rfl) ?_
 refine cd_ (hb:=by (simp (disch:=omega) only [push_cast,↓reduceIte,Nat.reduceEqDiff,Nat.reduceAdd,Nat.reduceLeDiff,sx,List.length_map])<;>rfl) (ht:=fun hb2=>?_) (hf:=fun hb2=>?_)
 ·
  refine rs_ [2] ?_
  refine dawp_p rfl (by (simp (disch:=omega) only [push_cast,↓reduceIte,Nat.reduceEqDiff,Nat.reduceAdd,Nat.reduceLeDiff,sx,List.length_map])<;>rfl) rfl rfl ?_
  refine re_ (hf:=by (simp (disch:=omega) only [push_cast,↓reduceIte,Nat.reduceEqDiff,Nat.reduceAdd,Nat.reduceLeDiff,sx,List.length_map])<;>rfl) (hh:=by (try simp (disch:=omega) only [push_cast,↓reduceIte,Nat.reduceEqDiff,Nat.reduceAdd,Nat.reduceLeDiff,sx,List.length_map])<;>rfl) ?_
  refine ret_ ?_
  refine fq_ (hres:=by (simp (disch:=omega) only [aresults,aresult,push_cast,↓reduceIte,Nat.reduceEqDiff,Nat.reduceAdd,Nat.reduceLeDiff,sx,List.length_map])<;>rfl) Tryz.results21 ?_
  exact rk_ (by rw [words_not (i:=i) (by omega) (by omega)])
 refine skp_ ?_
 refine hK3 _ ?_
 refine rt_ [0,3] ?_
 iterate 3 (refine dawp_p rfl (by (simp (disch:=omega) only [push_cast,↓reduceIte,Nat.reduceEqDiff,Nat.reduceAdd,Nat.reduceLeDiff,sx,List.length_map])<;>rfl) rfl rfl ?_)
 refine rn_ (hf:=by (simp (disch:=omega) only [push_cast,↓reduceIte,Nat.reduceEqDiff,Nat.reduceAdd,Nat.reduceLeDiff,sx,List.length_map])<;>rfl) (hh:=by (try simp (disch:=omega) only [push_cast,↓reduceIte,Nat.reduceEqDiff,Nat.reduceAdd,Nat.reduceLeDiff,sx,List.length_map])<;>rfl) (up_ ?_)
 refine ln_ ⟨i+1,by omega,fun j hj=>by rcases Nat.lt_succ_iff_lt_or_eq.1 hj with h | h;exact hn j h;subst h;omega⟩ ?_
 try dsimp only
 refine Trunc.same ?_ hH
 refine FTr.cons (by (simp (disch:=omega) only [push_cast,↓reduceIte,Nat.reduceEqDiff,Nat.reduceAdd,Nat.reduceLeDiff,sx,List.length_map])<;>first | rfl | (congr 2;omega)) (by simp [AV.cl,AV.clL,clL_str]) ?_
 refine FTr.cons (by (simp (disch:=omega) only [push_cast,↓reduceIte,Nat.reduceEqDiff,Nat.reduceAdd,Nat.reduceLeDiff,sx,List.length_map])<;>first | rfl | (congr 2;omega)) (by simp [AV.cl,AV.clL,clL_str]) ?_
 exact FTr.nil
theorem c9 (room:Int) (l:List Rw) (um:Int) (c:Cr) (cp:Cap) (h:List Blk) (live:List Nat) (hn:l.length≤9223372036854775807) (hc:c.gs.length≤17592186044416):ACalls Tryz.prog 9 [.int .i64 room,.slice (l.map rV) .none,.int .i64 um,.agg [.int .i64 c.uid,.int .i64 c.gid,.slice (c.gs.map iV) cp]] h live (begunK h live um [c] (builtF room l c)):=by
 refine aq_ Tryz.func9 fun hH hX=>?_
 refine rg_ [0,1,2,7] ?_
 refine rs_ [2,7,10,11] ?_
 refine sg_ ?_
 refine ck_ (k:=?_)
 refine erx_ (ys:=[.int .i64 room,.slice (l.map rV) .none,.agg [.int .i64 c.uid,.int .i64 c.gid,.slice (c.gs.map iV) .none]]) (by simp only [List.map_cons,List.map_nil,AV.er,AV.erL,erL_rV,erL_iV]<;>rfl) ((ACalls.hclK (c33 room l c _ _ hn (by omega))).mono ?_);rintro _ _ _ ⟨⟨rfl,g,p,rfl,rfl,hpc,hp⟩,hHg⟩
 refine sre_ ?_
 refine sk_ fun K1 hK1=>?_
 refine rg_ [2,7,10,20] ?_
 refine cy_ (fun hb1=>?_) (fun hb1=>?_)
 ·
  have hbn:builtF room l c=none:=by simpa using hb1
  refine rg_ [8,9] ?_
  refine ret_ ?_
  refine gq_ (h1:=h) Tryz.results9 ?_ (hcl:=(by first | (simp [AV.cl,AV.clL];done) | skip;show _∧_;refine ⟨?_,trivial,trivial⟩;show _<(newH _ T um [c]).length;rw [newH_len];(simp<;>omega))) (hH:=(by first | exact hH | exact newH_cl (by rw [List.append_assoc] at hHg;exact hHg) T um [c])) (hle:=(by first | exact Nat.le_refl _ | (rw [newH_len];(simp<;>omega))))
  exact ⟨rfl,.inl ⟨hbn,rfl,rfl⟩⟩
 obtain ⟨T,hTe⟩:=Option.isSome_iff_exists.1 (by simpa using hb1)
 obtain ⟨k,rfl,hk⟩:=hp T hTe
 obtain ⟨hT, _⟩:=builtF_ok hTe
 refine skp_ ?_
 refine hK1 _ ?_
 refine rs_ [8,9] ?_
 refine sg_ ?_
 refine ck_ (k:=?_)
 refine erx_ (ys:=[.ptr k 0,.int .i64 um,.slice (([c]:List Cr).map crV) .none]) (by simp only [List.map_cons,List.map_nil,AV.er,AV.erL,erL_iV]<;>rfl) ((c34 T k um [c] _ _ (by first | exact hk | (rw [List.append_assoc] at hk;exact hk)) hT (by intro c' hc';rw [List.mem_singleton.1 hc'];exact hc) (by simp)).mono ?_);rintro _ _ _ ⟨rfl,rfl,rfl⟩
 refine srt_ ?_
 refine gq_ (h1:=newH (h++_::g) T um [c]) Tryz.results9 ?_ (hcl:=(by first | (simp [AV.cl,AV.clL];done) | skip;show _∧_;refine ⟨?_,trivial,trivial⟩;show _<(newH _ T um [c]).length;rw [newH_len];(simp<;>omega))) (hH:=(by first | exact hH | exact newH_cl (by rw [List.append_assoc] at hHg;exact hHg) T um [c])) (hle:=(by first | exact Nat.le_refl _ | (rw [newH_len];(simp<;>omega))))
 exact ⟨rfl,.inr ⟨T, _,hTe,by simp,rfl⟩⟩
end Go.Proofs.YtmgnbgniikjhdaaGreat
