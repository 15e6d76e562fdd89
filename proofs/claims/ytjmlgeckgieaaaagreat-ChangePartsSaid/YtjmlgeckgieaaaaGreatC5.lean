import Derived.Test.YtjmlgeckgieaaaaGreatP7
/-
  CHANGES: the law that what became of a table is nothing just if it is the same.
-/
set_option linter.unusedVariables false
set_option linter.unusedSimpArgs false
namespace Go.Proofs.YtjmlgeckgieaaaaGreat
open Go.Ab
set_option maxRecDepth 8000
set_option maxHeartbeats 400000
theorem smallF_len {acs:List Ac} (h:smallF acs=true):acs.length≤1000:=by
 simp only [smallF,Bool.and_eq_true,decide_eq_true_eq] at h
 omega
theorem actF_rt {T:Tab} (h:T.Rt) (a:Ac):(actF T a).Rt:=by
 unfold actF
 split
 · exact h.putT _ _
 ·
  split
  · exact h.add _
  · exact h.drop _
theorem playF_rt:∀ {l:List Ac} {T:Tab},T.Rt→(playF T l).Rt
 | [], _,h=>h
 | a::l, _,h=>playF_rt (l:=l) (actF_rt h a)
def chB (a b:Ch):Bool:=decide (a.kind=b.kind)&&(decide (a.node=b.node)&&(decide (a.dir=b.dir)&&(decide (a.name=b.name)&&(decide (a.to=b.to)&&(decide (a.other=b.other)&&decide (a.over=b.over))))))
theorem chz_eq (c:Ch) {b:Bool} (h:c=chK 0↔b=true):(decide (c.kind=0)&&(decide (c.node=0)&&(decide (c.dir=0)&&(decide (c.name=[])&&(decide (c.to=0)&&(decide (c.other=[])&&(decide (c.over=0)&&true)))))))=b:=by
 rw [Bool.eq_iff_iff,←h];cases c;simp [chK]
theorem chB_iff {a b:Ch}:chB a b=true↔a=b:=by
 cases a;cases b;simp [chB]
theorem c6 (room:Int) (l:List Rw) (acs:List Ac) (h:List Blk) (live:List Nat) (hh0:h=[]) (hn:l.length≤9223372036854775807) (hac:acs.length≤9223372036854775807) (hnm:∀a∈acs,∀e∈a.n.ents,e.1.length≤9223372036854775807):AC Tryz.prog 6 [.int .i64 room,.slice (l.map rV) .none,.slice (acs.map aV) .none] h live (.bool true):=by
 refine aq_ Tryz.func6 fun hH hX=>?_
 have sx:=(And.intro @ch_X sx0)
 refine rg_ [0,1,2] ?_
 refine rs_ [0,1,2,7] ?_
 refine cl_ (hc:=c8 _ _ hh0) (k:=?_)
 refine sre_ ?_
 refine sk_ fun K1 hK1=>?_
 refine rg_ [0,1,2,15] ?_
 refine cdn_ (ht:=fun hb1=>?_) (hf:=fun hb1=>?_)
 · exfalso;exact Bool.noConfusion hb1
 refine skp_ ?_
 refine hK1 _ ?_
 refine rs_ [2,8,9] ?_
 refine sg_ ?_
 refine ck_ (k:=?_)
 refine erx_ (ys:=[.int .i64 room,.slice (l.map rV) .none,.agg [.int .i64 0,.int .i64 0,.slice (([]:List Int).map iV) .none]]) (by simp only [List.map_cons,List.map_nil,AV.er,AV.erL,erL_rV]<;>rfl) ((ACalls.hclK (c9 room l ⟨0,0,[]⟩ _ _ hn (by simp))).mono ?_);rintro _ H _ ⟨⟨rfl,g,p,rfl,hHe,hpc,hp⟩,hHg⟩
 refine sre_ ?_
 refine sk_ fun K2 hK2=>?_
 refine rs_ [2,8,29] ?_
 refine sg_ ?_
 refine cg_ (hc:=fun hg=>c10 acs _ _ hac) (k:=?_)
 refine sre_ ?_
 refine cdn_ (ht:=fun hb2=>?_) (hf:=fun hb2=>?_)
 ·
  refine rg_ [6] ?_
  refine ret_ ?_
  refine gq_ (h1:=h) Tryz.results6 ?_ (hh:=(⟨_,by rw [hh0];exact (List.nil_append _).symm⟩))
  exact rk_ rfl
 obtain ⟨hb21,hb22⟩:=hb2
 obtain ⟨T,hTe⟩:=Option.isSome_iff_exists.1 hb21
 obtain ⟨k,rfl,hk⟩:=hp T hTe
 obtain ⟨hT, -⟩:=builtF_ok hTe
 have hR:=built_rt hTe
 have hand:∀a∈acs,NdOk a.n:=fun a ha=>small_nd hb22 ha (hnm a ha)
 obtain ⟨U,hU⟩:∃U,playF T acs=U:=⟨_,rfl⟩
 have hUg:Gd U:=hU▸⟨playF_ok hT hand,playF_rt hR⟩
 obtain ⟨l1,l2,l3,l4,l5,l6⟩:=same_law ⟨hT,hR⟩ hUg
 refine skp_ ?_
 refine hK2 _ ?_
 refine rs_ [2,8,10] ?_
 refine sg_ ?_
 refine cl_ (hc:=c11 T k _ _ hk hT) (k:=?_)
 refine sre_ ?_
 refine rs_ [8,10] ?_
 refine sg_ ?_
 refine ck_ (k:=?_)
 refine (c12 T k acs _ _ (atApp hk) hT (smallF_len hb22) hand).mono ?_;rintro _ H2 _ ⟨rfl,hH2,rfl⟩
 rw [hU] at hH2
 have h2k:H2[k]? = some (tabBlk U):=by rw [←hH2,setApp hk];exact get_setapp (lt_of_get hk)
 have h2c:H2[H.length]? = some (tabBlk T):=by rw [←hH2,setApp hk];exact get_setloc0
 refine re_ ?_
 refine rs_ [8,10,11] ?_
 refine sg_ ?_
 refine cl_ (hc:=c14 T U _ _ _ _ h2c h2k hT hUg.1) (k:=?_)
 refine sre_ ?_
 refine rs_ [8,10,11,12] ?_
 refine sg_ ?_
 refine cl_ (hc:=c14 U T _ _ _ _ (atApp h2k) (atApp h2c) hUg.1 hT) (k:=?_)
 refine sre_ ?_
 refine sk_ fun K3 hK3=>?_
 refine rsq_ [11,12,56] ⟨true,[],[],[],[],[],0⟩ (fun _=>⟨by kernel_rfl,by kernel_rfl⟩) ?_
 refine sg_ ?_
 refine cr_ (hc:=c25 T U _ _ _ _ (by first | exact atApp h2c | exact atApp (atApp h2c)) (by first | exact atApp h2k | exact atApp (atApp h2k)) hT hUg.1) (k:=?_)
 refine sg_ ?_
 refine cg_ (hc:=fun hg=>c25 T U _ _ _ _ (by first | exact atApp h2c | exact atApp (atApp h2c)) (by first | exact atApp h2k | exact atApp (atApp h2k)) hT hUg.1) (k:=?_)
 refine sre_ ?_
 refine cy_ (fun hb3=>?_) (fun hb3=>?_)
 ·
  exfalso
  rw [chz_eq _ l1,chz_eq _ l2] at hb3
  simp at hb3
 refine skp_ ?_
 refine hK3 _ ?_
 refine sk_ fun K4 hK4=>?_
 refine rg_ [11,12,64] ?_
 refine cy_ (fun hb4=>?_) (fun hb4=>?_)
 ·
  refine rg_ [6] ?_
  refine ret_ ?_
  refine gq_ (h1:=h) Tryz.results6 ?_ (hh:=(⟨_,by rw [hh0];exact (List.nil_append _).symm⟩))
  exact rk_ (by rw [l3 (by simpa using hb4)];simp)
 refine skp_ ?_
 refine hK4 _ ?_
 refine sk_ fun K5 hK5=>?_
 refine rg_ [11,12,70] ?_
 refine cy_ (fun hb5=>?_) (fun hb5=>?_)
 ·
  refine rg_ [6] ?_
  refine ret_ ?_
  refine gq_ (h1:=h) Tryz.results6 ?_ (hh:=(⟨_,by rw [hh0];exact (List.nil_append _).symm⟩))
  exact rk_ (by obtain ⟨a1,a2,a3,a4⟩:=l4 (by simpa using hb5);rw [a1,a2,a3,a4];simp)
 refine skp_ ?_
 refine hK5 _ ?_
 refine sk_ fun K6 hK6=>?_
 refine rg_ [11,12,102] ?_
 refine cy_ (fun hb6=>?_) (fun hb6=>?_)
 ·
  refine rg_ [6] ?_
  refine ret_ ?_
  refine gq_ (h1:=h) Tryz.results6 ?_ (hh:=(⟨_,by rw [hh0];exact (List.nil_append _).symm⟩))
  exact rk_ (by obtain ⟨a1,a2,a3,a4,a5,a6⟩:=l5 (by simpa using hb6);rw [a1,a2,a3,a4,a5,a6];simp)
 refine skp_ ?_
 refine hK6 _ ?_
 refine rg_ [6] ?_
 refine ret_ ?_
 refine gq_ (h1:=h) Tryz.results6 ?_ (hh:=(⟨_,by rw [hh0];exact (List.nil_append _).symm⟩))
 exact rk_ (by rw [decide_eq_true l6.1,decide_eq_true l6.2];rfl)
end Go.Proofs.YtjmlgeckgieaaaaGreat
