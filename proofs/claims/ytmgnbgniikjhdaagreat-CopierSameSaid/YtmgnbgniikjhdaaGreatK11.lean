import Derived.Test.YtmgnbgniikjhdaaGreatK10
/-
  CP: it is made of words; a machine is run by the law.
-/
set_option linter.unusedVariables false
set_option linter.unusedSimpArgs false
namespace Go.Proofs.YtmgnbgniikjhdaaGreat
open Go.Ab
set_option maxRecDepth 8000
set_option maxHeartbeats 400000
theorem parseF_len (may:List UInt8) (B:Nat):∀(n:Nat) (left:List (List UInt8)) (fl:List Fl) (fl':List Fl) (r':List (List UInt8)),(∀s∈left,s.length≤B)→parseF may n left fl=some (fl',r')→fl'.length≤fl.length+n*B∧r'.length≤left.length
 | 0,left,fl,fl',r', _,h=>by cases h;exact ⟨by omega,Nat.le_refl _⟩
 | n+1,[],fl,fl',r', _,h=>by cases h;exact ⟨by omega,Nat.le_refl _⟩
 | n+1,s::r,fl,fl',r',hb,h=>by
  simp only [parseF] at h
  cases ho:isOpt s<;>rw [ho] at h
  · cases h;exact ⟨by omega,Nat.le_refl _⟩
  ·
   cases hd:decide (s=[45,45])<;>rw [hd] at h
   ·
    simp only [cond_true,cond_false] at h
    split at h
    · cases h
    ·
     rename_i fl2 r2 hl
     have hs:=letters_spec _ _ _ _ _ _ hl
     have hr2:∀x∈r2,x.length≤B:=by
      intro x hx
      rcases hs.1 with e | e<;>rw [e] at hx
      · exact hb x (by simp [hx])
      · exact hb x (by simp [List.mem_of_mem_drop hx])
     have:=parseF_len may B n r2 fl2 fl' r' hr2 h
     have h1:(s.drop 1).length≤B:=by have:=hb s (by simp);simp only [List.length_drop];omega
     have h2:r2.length≤r.length:=by rcases hs.1 with e | e<;>rw [e]<;>simp
     refine ⟨?_,by simp only [List.length_cons];omega⟩
     have h3:=hs.2
     have h4:(n+1)*B=n*B+B:=by rw [Nat.add_mul,Nat.one_mul]
     omega
   · cases h;exact ⟨by omega,by simp⟩
theorem parseF_sub (may:List UInt8):∀(n:Nat) (left:List (List UInt8)) (fl:List Fl) (fl':List Fl) (r':List (List UInt8)),parseF may n left fl=some (fl',r')→∀x∈r',x∈left
 | 0,left,fl,fl',r',h,x,hx=>by cases h;exact hx
 | n+1,[],fl,fl',r',h,x,hx=>by cases h;exact hx
 | n+1,s::r,fl,fl',r',h,x,hx=>by
  simp only [parseF] at h
  cases ho:isOpt s<;>rw [ho] at h
  · cases h;exact hx
  ·
   cases hd:decide (s=[45,45])<;>rw [hd] at h
   ·
    simp only [cond_true,cond_false] at h
    split at h
    · cases h
    ·
     rename_i fl2 r2 hl
     have:=parseF_sub may n r2 fl2 fl' r' h x hx
     rcases (letters_spec _ _ _ _ _ _ hl).1 with e | e<;>rw [e] at this
     · exact List.mem_cons_of_mem _ this
     · exact List.mem_cons_of_mem _ (List.mem_of_mem_drop this)
   · cases h;exact List.mem_cons_of_mem _ hx
theorem parse_bd {may:List UInt8} {args:List (List UInt8)} (h1:∀s∈args,s.length≤1000) (h2:args.length≤1000):(pf (parse may args)).length≤1000000∧(pr (parse may args)).length≤args.length∧∀x∈pr (parse may args),x∈args:=by
 cases h:parse may args with
 | none=>exact ⟨Nat.zero_le _,Nat.zero_le _,fun x hx=>nomatch hx⟩
 | some p=>
  obtain ⟨fl,r⟩:=p
  obtain ⟨k1,k2⟩:=parseF_len may 1000 args.length args [] fl r h1 h
  simp only [List.length_nil,Nat.zero_add] at k1
  exact ⟨by show fl.length≤_;omega,k2,parseF_sub may _ _ _ _ _ h⟩
def cm0:Cm:=⟨[],false,false,[],[],[],[],sta0,cp0 [] [] 0 0,0⟩
def cmNew (o:Option (List Fl×List (List UInt8))):Cm:=
 if errP o.isSome≠0∨((pr o).length:Int) - 1<1 then cmFail cm0 [] 22
 else { cm0 with keep:=(valF (pf o) 112).2,left:=(pr o).take ((pr o).length - 1),tgt:=(pr o).getD ((pr o).length - 1) [],nx:=1 }
def newK (o:Option (List Fl×List (List UInt8))) (h:List Blk) (live:List Nat):KT:=fun x h' live'=>x=.ptr h.length 0∧∃cd cl,h'=h++[.cells (cmC h.length cd cl (.raw (.pointer none)) (cmNew o))]∧Keeps live .full live' cd
theorem c24 (args:List (List UInt8)) (cl:Cap) (h:List Blk) (live:List Nat) (hargs:args.length≤1000) (hw:∀s∈args,s.length≤1000):ACalls Tryz.prog 24 [.slice (args.map .str) cl] h live (newK (parse [112] args) h live):=by
 refine aq_ Tryz.func24 fun hH hX=>?_
 obtain ⟨o,ho⟩:∃o,parse [112] args=o:=⟨_,rfl⟩
 have hpl:=parse_bd (may:=[112]) hw hargs
 rw [ho] at hpl ⊢
 obtain ⟨hpl1,hpl2,hpl3⟩:=hpl
 refine rs_ [0] ?_
 refine dawp_p rfl (by (simp (disch:=omega) only [push_cast,↓reduceIte,Nat.reduceEqDiff,Nat.reduceAdd,Nat.reduceLeDiff,sx,parseV])<;>rfl) rfl rfl ?_
 refine re_ (hf:=by (simp (disch:=omega) only [push_cast,↓reduceIte,Nat.reduceEqDiff,Nat.reduceAdd,Nat.reduceLeDiff,sx,parseV])<;>rfl) (hh:=by (try simp (disch:=omega) only [push_cast,↓reduceIte,Nat.reduceEqDiff,Nat.reduceAdd,Nat.reduceLeDiff,sx,parseV])<;>rfl) ?_
 refine rs_ [0,3] ?_
 refine dawp_p rfl (by (simp (disch:=omega) only [push_cast,↓reduceIte,Nat.reduceEqDiff,Nat.reduceAdd,Nat.reduceLeDiff,sx,parseV])<;>rfl) rfl rfl ?_
 refine dawp_h rfl (by (simp (disch:=omega) only [push_cast,↓reduceIte,Nat.reduceEqDiff,Nat.reduceAdd,Nat.reduceLeDiff,sx,parseV])<;>rfl) rfl rfl ?_
 refine dawp_p rfl (by (simp (disch:=omega) only [push_cast,↓reduceIte,Nat.reduceEqDiff,Nat.reduceAdd,Nat.reduceLeDiff,sx,parseV])<;>rfl) rfl rfl ?_
 refine re_ (hf:=by (simp (disch:=omega) only [push_cast,↓reduceIte,Nat.reduceEqDiff,Nat.reduceAdd,Nat.reduceLeDiff,sx,parseV])<;>rfl) (hh:=by (try simp (disch:=omega) only [push_cast,↓reduceIte,Nat.reduceEqDiff,Nat.reduceAdd,Nat.reduceLeDiff,sx,parseV])<;>rfl) ?_
 refine rsq_ [3,4,5] ⟨false,[],[],[],[4],[11],0⟩ (fun h=>nomatch h) ?_
 refine dawp_p rfl (by (simp (disch:=omega) only [push_cast,↓reduceIte,Nat.reduceEqDiff,Nat.reduceAdd,Nat.reduceLeDiff,sx,parseV])<;>rfl) rfl rfl ?_
 refine dawp_s rfl rfl rfl rfl (fun h' l' hs=>AOp.callx _ _ _ rfl (by (simp (disch:=omega) only [push_cast,↓reduceIte,Nat.reduceEqDiff,Nat.reduceAdd,Nat.reduceLeDiff,sx,parseV])<;>rfl) (by (simp (disch:=omega) only [push_cast,↓reduceIte,Nat.reduceEqDiff,Nat.reduceAdd,Nat.reduceLeDiff,sx,parseV])<;>rfl) (ho▸c48 [112] args cl _ _ (by decide) hargs hw)) ?_
 iterate 3 (refine dawp_p rfl (by (simp (disch:=omega) only [push_cast,↓reduceIte,Nat.reduceEqDiff,Nat.reduceAdd,Nat.reduceLeDiff,sx,parseV])<;>rfl) rfl rfl ?_)
 refine dawp_ga rfl rfl (by (simp (disch:=omega) only [push_cast,↓reduceIte,Nat.reduceEqDiff,Nat.reduceAdd,Nat.reduceLeDiff,sx,parseV])<;>rfl) rfl rfl (by exact stab.nil) ?_
 refine dawp_hn rfl (by (simp (disch:=omega) only [push_cast,↓reduceIte,Nat.reduceEqDiff,Nat.reduceAdd,Nat.reduceLeDiff,sx,parseV])<;>rfl) rfl ?_
 refine dawp_p rfl (by (simp (disch:=omega) only [push_cast,↓reduceIte,Nat.reduceEqDiff,Nat.reduceAdd,Nat.reduceLeDiff,sx,parseV])<;>rfl) rfl rfl ?_
 refine re_ (hf:=by (simp (disch:=omega) only [push_cast,↓reduceIte,Nat.reduceEqDiff,Nat.reduceAdd,Nat.reduceLeDiff,sx,parseV])<;>rfl) (hh:=by (try simp (disch:=omega) only [push_cast,↓reduceIte,Nat.reduceEqDiff,Nat.reduceAdd,Nat.reduceLeDiff,sx,parseV])<;>rfl) ?_
 refine rs_ [3,4,5,6] ?_
 refine dawp_p rfl (by (simp (disch:=omega) only [push_cast,↓reduceIte,Nat.reduceEqDiff,Nat.reduceAdd,Nat.reduceLeDiff,sx,parseV])<;>rfl) rfl rfl ?_
 refine dawp_h rfl (by (simp (disch:=omega) only [push_cast,↓reduceIte,Nat.reduceEqDiff,Nat.reduceAdd,Nat.reduceLeDiff,sx,parseV])<;>rfl) rfl rfl ?_
 iterate 3 (refine dawp_p rfl (by (simp (disch:=omega) only [push_cast,↓reduceIte,Nat.reduceEqDiff,Nat.reduceAdd,Nat.reduceLeDiff,sx,parseV])<;>rfl) rfl rfl ?_)
 refine re_ (hf:=by (simp (disch:=omega) only [push_cast,↓reduceIte,Nat.reduceEqDiff,Nat.reduceAdd,Nat.reduceLeDiff,sx,parseV])<;>rfl) (hh:=by (try simp (disch:=omega) only [push_cast,↓reduceIte,Nat.reduceEqDiff,Nat.reduceAdd,Nat.reduceLeDiff,sx,parseV])<;>rfl) ?_
 refine sk_ fun K1 hK1=>?_
 refine rs_ [3,4,6,23] ?_
 iterate 3 (refine dawp_p rfl (by (simp (disch:=omega) only [push_cast,↓reduceIte,Nat.reduceEqDiff,Nat.reduceAdd,Nat.reduceLeDiff,sx,parseV])<;>rfl) rfl rfl ?_)
 iterate 2 (refine dawp_g rfl rfl (by simp only [push_cast,↓reduceIte,Nat.reduceEqDiff,Nat.reduceAdd,Nat.reduceLeDiff,sx,parseV];rfl) (fun hg=>by simp (disch:=omega) only [hg,push_cast,↓reduceIte,Nat.reduceEqDiff,Nat.reduceAdd,Nat.reduceLeDiff,sx,parseV];rfl) rfl rfl ?_)
 refine dawp_p rfl (by (simp (disch:=omega) only [push_cast,↓reduceIte,Nat.reduceEqDiff,Nat.reduceAdd,Nat.reduceLeDiff,sx,parseV])<;>rfl) rfl rfl ?_
 refine re_ (hf:=by (simp (disch:=omega) only [push_cast,↓reduceIte,Nat.reduceEqDiff,Nat.reduceAdd,Nat.reduceLeDiff,sx,parseV])<;>rfl) (hh:=by (try simp (disch:=omega) only [push_cast,↓reduceIte,Nat.reduceEqDiff,Nat.reduceAdd,Nat.reduceLeDiff,sx,parseV])<;>rfl) ?_
 refine cb_ (hb:=by (simp (disch:=omega) only [push_cast,↓reduceIte,Nat.reduceEqDiff,Nat.reduceAdd,Nat.reduceLeDiff,sx,parseV])<;>rfl) (ht:=fun hb1=>?_) (hf:=fun hb1=>?_)
 ·
  refine rs_ [3] ?_
  iterate 3 (refine dawp_p rfl (by (simp (disch:=omega) only [push_cast,↓reduceIte,Nat.reduceEqDiff,Nat.reduceAdd,Nat.reduceLeDiff,sx,parseV])<;>rfl) rfl rfl ?_)
  refine dawp_w rfl rfl rfl rfl (AOp.callx _ _ _ rfl (by (simp (disch:=omega) only [push_cast,↓reduceIte,Nat.reduceEqDiff,Nat.reduceAdd,Nat.reduceLeDiff,sx,parseV])<;>rfl) (by (simp (disch:=omega) only [push_cast,↓reduceIte,Nat.reduceEqDiff,Nat.reduceAdd,Nat.reduceLeDiff,sx,parseV])<;>rfl) ?_)
  refine ACalls.mono ?_ (c49 h.length [] .full _ [] 22 _ _ (by rw [get_app0];rfl) (.inl rfl) (by exact ⟨trivial,trivial,trivial,trivial,trivial,trivial,trivial,trivial,trivial,trivial,trivial,trivial,trivial,trivial,trivial,trivial,trivial⟩) (Nat.zero_le _));rintro _ _ live2 ⟨rfl,cd2,rfl,hk2⟩
  refine re_ (hf:=by (simp (disch:=omega) only [push_cast,↓reduceIte,Nat.reduceEqDiff,Nat.reduceAdd,Nat.reduceLeDiff,sx,parseV])<;>rfl) (hh:=by (try simp (disch:=omega) only [push_cast,↓reduceIte,Nat.reduceEqDiff,Nat.reduceAdd,Nat.reduceLeDiff,sx,parseV])<;>rfl) ?_
  refine rs_ [2] ?_
  iterate 2 (refine dawp_p rfl (by (simp (disch:=omega) only [push_cast,↓reduceIte,Nat.reduceEqDiff,Nat.reduceAdd,Nat.reduceLeDiff,sx,parseV])<;>rfl) rfl rfl ?_)
  refine re_ (hf:=by (simp (disch:=omega) only [push_cast,↓reduceIte,Nat.reduceEqDiff,Nat.reduceAdd,Nat.reduceLeDiff,sx,parseV])<;>rfl) (hh:=by (try simp (disch:=omega) only [push_cast,↓reduceIte,Nat.reduceEqDiff,Nat.reduceAdd,Nat.reduceLeDiff,sx,parseV])<;>rfl) ?_
  refine ret_ ?_
  refine gq_ (h1:=h++[_]) (hres:=by (simp (disch:=omega) only [aresults,aresult,push_cast,↓reduceIte,Nat.reduceEqDiff,Nat.reduceAdd,Nat.reduceLeDiff,sx,parseV])<;>rfl) Tryz.results24 ?_ (hcl:=(by show h.length<_;simp)) (hH:=(HCl.snoc hH (by exact ⟨(by first | exact clL_dgV _ _ | trivial),trivial,trivial,trivial,trivial,(by first | exact clL_str _ _ | trivial | (show AV.clL _ _;rw [Nat.sub_zero,←List.map_take];exact clL_str _ _)),trivial,trivial,trivial,trivial,trivial,trivial,trivial,trivial,trivial,trivial,(by first | exact ⟨⟨show h.length<_ by simp,trivial⟩,trivial⟩ | trivial),trivial⟩)))
  have e:cmNew o=cmFail cm0 [] 22:=if_pos (by simpa using hb1)
  exact ⟨rfl,cd2,.full,by rw [e];rfl,hk2⟩
 have hb1q:=hb1
 simp only [Bool.or_eq_false_iff,decide_eq_false_iff_not] at hb1q
 obtain ⟨-,hpr⟩:=hb1q
 have hix:((pr o).length - 1:Int).toNat=(pr o).length - 1:=by omega
 have hiy:((pr o).length - 1:Int).toNat - 0=(pr o).length - 1:=by omega
 have sx:=And.intro hiy (And.intro hix sx)
 refine skp_ ?_
 refine hK1 _ ?_
 refine rsq_ [3] ⟨false,[(h.length+1,0,.agg 2),(h.length+1,1,.one)],[32,35,39],[44,46,48],[],[33],0⟩ (fun _=>⟨by kernel_rfl,by kernel_rfl⟩) ?_
 iterate 3 (refine dawp_p rfl (by (simp (disch:=omega) only [push_cast,↓reduceIte,Nat.reduceEqDiff,Nat.reduceAdd,Nat.reduceLeDiff,sx,parseV])<;>rfl) rfl rfl ?_)
 refine dawp_f rfl rfl (by simp (disch:=omega) only [push_cast,↓reduceIte,Nat.reduceEqDiff,Nat.reduceAdd,Nat.reduceLeDiff,sx,parseV];first | rfl | (simp;rfl)) rfl rfl ?_
 refine dawp_s rfl rfl rfl rfl (fun h' l' hs=>AOp.callx _ _ _ rfl (by (simp (disch:=omega) only [push_cast,↓reduceIte,Nat.reduceEqDiff,Nat.reduceAdd,Nat.reduceLeDiff,sx,parseV])<;>rfl) (by (simp (disch:=omega) only [push_cast,↓reduceIte,Nat.reduceEqDiff,Nat.reduceAdd,Nat.reduceLeDiff,sx,parseV])<;>rfl) (c50 (pf o) .none (pr o) .none 112 _ _ (by omega))) ?_
 refine dawp_p rfl (by (simp (disch:=omega) only [push_cast,↓reduceIte,Nat.reduceEqDiff,Nat.reduceAdd,Nat.reduceLeDiff,sx,parseV])<;>rfl) rfl rfl ?_
 refine dawp_f rfl rfl (by simp (disch:=omega) only [push_cast,↓reduceIte,Nat.reduceEqDiff,Nat.reduceAdd,Nat.reduceLeDiff,sx,parseV];first | rfl | (simp;rfl)) rfl rfl ?_
 iterate 3 (refine dawp_p rfl (by (simp (disch:=omega) only [push_cast,↓reduceIte,Nat.reduceEqDiff,Nat.reduceAdd,Nat.reduceLeDiff,sx,parseV])<;>rfl) rfl rfl ?_)
 refine dawp_f rfl rfl (by simp (disch:=omega) only [push_cast,↓reduceIte,Nat.reduceEqDiff,Nat.reduceAdd,Nat.reduceLeDiff,sx,parseV];first | rfl | (simp;rfl)) rfl rfl ?_
 iterate 2 (refine dawp_p rfl (by (simp (disch:=omega) only [push_cast,↓reduceIte,Nat.reduceEqDiff,Nat.reduceAdd,Nat.reduceLeDiff,sx,parseV])<;>rfl) rfl rfl ?_)
 refine dawp_h rfl (by (simp (disch:=omega) only [push_cast,↓reduceIte,Nat.reduceEqDiff,Nat.reduceAdd,Nat.reduceLeDiff,sx,parseV])<;>rfl) rfl rfl ?_
 iterate 2 (refine dawp_p rfl (by (simp (disch:=omega) only [push_cast,↓reduceIte,Nat.reduceEqDiff,Nat.reduceAdd,Nat.reduceLeDiff,sx,parseV])<;>rfl) rfl rfl ?_)
 refine dawp_gs rfl rfl (by (simp (disch:=omega) only [push_cast,↓reduceIte,Nat.reduceEqDiff,Nat.reduceAdd,Nat.reduceLeDiff,sx,parseV])<;>rfl) rfl (by exact stab.cons (by simp (disch:=omega) only [push_cast,↓reduceIte,Nat.reduceEqDiff,Nat.reduceAdd,Nat.reduceLeDiff,sx,parseV]) (stab.cons (by simp (disch:=omega) only [push_cast,↓reduceIte,Nat.reduceEqDiff,Nat.reduceAdd,Nat.reduceLeDiff,sx,parseV]) (stab.nil))) ?_
 iterate 2 (refine dawp_p rfl (by (simp (disch:=omega) only [push_cast,↓reduceIte,Nat.reduceEqDiff,Nat.reduceAdd,Nat.reduceLeDiff,sx,parseV])<;>rfl) rfl rfl ?_)
 refine dawp_gs rfl rfl (by (simp (disch:=omega) only [push_cast,↓reduceIte,Nat.reduceEqDiff,Nat.reduceAdd,Nat.reduceLeDiff,sx,parseV])<;>rfl) rfl (by exact stab.cons (by simp (disch:=omega) only [push_cast,↓reduceIte,Nat.reduceEqDiff,Nat.reduceAdd,Nat.reduceLeDiff,sx,parseV]) (stab.cons (by simp (disch:=omega) only [push_cast,↓reduceIte,Nat.reduceEqDiff,Nat.reduceAdd,Nat.reduceLeDiff,sx,parseV]) (stab.nil))) ?_
 iterate 2 (refine dawp_p rfl (by (simp (disch:=omega) only [push_cast,↓reduceIte,Nat.reduceEqDiff,Nat.reduceAdd,Nat.reduceLeDiff,sx,parseV])<;>rfl) rfl rfl ?_)
 refine dawp_gs rfl rfl (by (simp (disch:=omega) only [push_cast,↓reduceIte,Nat.reduceEqDiff,Nat.reduceAdd,Nat.reduceLeDiff,sx,parseV])<;>rfl) rfl (by exact stab.cons (by simp (disch:=omega) only [push_cast,↓reduceIte,Nat.reduceEqDiff,Nat.reduceAdd,Nat.reduceLeDiff,sx,parseV]) (stab.cons (by simp (disch:=omega) only [push_cast,↓reduceIte,Nat.reduceEqDiff,Nat.reduceAdd,Nat.reduceLeDiff,sx,parseV]) (stab.nil))) ?_
 refine re_ (hf:=by (simp (disch:=omega) only [push_cast,↓reduceIte,Nat.reduceEqDiff,Nat.reduceAdd,Nat.reduceLeDiff,sx,parseV])<;>rfl) (hh:=by (try simp (disch:=omega) only [push_cast,↓reduceIte,Nat.reduceEqDiff,Nat.reduceAdd,Nat.reduceLeDiff,sx,parseV])<;>rfl) ?_
 refine rs_ [3] ?_
 iterate 5 (refine dawp_p rfl (by (simp (disch:=omega) only [push_cast,↓reduceIte,Nat.reduceEqDiff,Nat.reduceAdd,Nat.reduceLeDiff,sx,parseV])<;>rfl) rfl rfl ?_)
 refine dawp_hn rfl (by (simp (disch:=omega) only [push_cast,↓reduceIte,Nat.reduceEqDiff,Nat.reduceAdd,Nat.reduceLeDiff,sx,parseV])<;>rfl) rfl ?_
 refine re_ (hf:=by (simp (disch:=omega) only [push_cast,↓reduceIte,Nat.reduceEqDiff,Nat.reduceAdd,Nat.reduceLeDiff,sx,parseV])<;>rfl) (hh:=by (try simp (disch:=omega) only [push_cast,↓reduceIte,Nat.reduceEqDiff,Nat.reduceAdd,Nat.reduceLeDiff,sx,parseV])<;>rfl) ?_
 refine rs_ [2] ?_
 iterate 2 (refine dawp_p rfl (by (simp (disch:=omega) only [push_cast,↓reduceIte,Nat.reduceEqDiff,Nat.reduceAdd,Nat.reduceLeDiff,sx,parseV])<;>rfl) rfl rfl ?_)
 refine re_ (hf:=by (simp (disch:=omega) only [push_cast,↓reduceIte,Nat.reduceEqDiff,Nat.reduceAdd,Nat.reduceLeDiff,sx,parseV])<;>rfl) (hh:=by (try simp (disch:=omega) only [push_cast,↓reduceIte,Nat.reduceEqDiff,Nat.reduceAdd,Nat.reduceLeDiff,sx,parseV])<;>rfl) ?_
 refine ret_ ?_
 refine gq_ (h1:=h++[_]) (hres:=by (simp (disch:=omega) only [aresults,aresult,push_cast,↓reduceIte,Nat.reduceEqDiff,Nat.reduceAdd,Nat.reduceLeDiff,sx,parseV])<;>rfl) Tryz.results24 ?_ (hcl:=(by show h.length<_;simp)) (hH:=(HCl.snoc hH (by exact ⟨(by first | exact clL_dgV _ _ | trivial),trivial,trivial,trivial,trivial,(by first | exact clL_str _ _ | trivial | (show AV.clL _ _;rw [Nat.sub_zero,←List.map_take];exact clL_str _ _)),trivial,trivial,trivial,trivial,trivial,trivial,trivial,trivial,trivial,trivial,(by first | exact ⟨⟨show h.length<_ by simp,trivial⟩,trivial⟩ | trivial),trivial⟩)))
 have e:cmNew o=_:=if_neg (by simpa using hb1)
 have htk:List.take ((pr o).length - 1 - 0) ((pr o).map AV.str)=((pr o).take ((pr o).length - 1)).map .str:=by rw [Nat.sub_zero,List.map_take]
 exact ⟨rfl,.full, _,by rw [e,htk];rfl,Keeps.refl (.inl rfl)⟩
end Go.Proofs.YtmgnbgniikjhdaaGreat
