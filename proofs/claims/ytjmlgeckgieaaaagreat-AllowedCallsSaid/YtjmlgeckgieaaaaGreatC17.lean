import Derived.Test.YtjmlgeckgieaaaaGreatC16
/-
  ALLOWED: what is built, and the document's example, of the laws of layer 19; rules.
-/
set_option linter.unusedVariables false
set_option linter.unusedSimpArgs false
namespace Go.Proofs.YtjmlgeckgieaaaaGreat
open Go.Ab
set_option maxRecDepth 8000
set_option maxHeartbeats 400000
theorem c27 (room:Int) (l:List Rw) (c:Cr) (h:List Blk) (live:List Nat) (hn:l.length≤9223372036854775807) (hgs:c.gs.length≤9223372036854775807):ACalls Tryz.prog 27 [.int .i64 room,.slice (l.map rV) .none,.agg [.int .i64 c.uid,.int .i64 c.gid,.slice (c.gs.map iV) .none]] h live (builtK h live (builtF room l c)):=by
 refine aq_ Tryz.func27 fun hH hX=>?_
 have hB:HCl (h++[.cells [.int .i64 c.uid,.int .i64 c.gid,.slice (c.gs.map iV) .none]]):=HCl.snoc hH (by simp [Blk.cl,AV.cl,AV.clL,clL_iV, -List.map_map])
 refine rg_ [0,1,5] ?_
 refine sk_ fun K1 hK1=>?_
 refine rg_ [0,1,20] ?_
 refine cy_ (fun hb1=>?_) (fun hb1=>?_)
 ·
  refine rg_ [6,7] ?_
  refine ret_ ?_
  refine fq_ Tryz.results27 ?_
  unfold builtF;rw [hb1,cond_true];exact ⟨rfl,[], _,rfl,(List.append_nil _).symm,trivial,fun T hT=>by cases hT⟩
 have hb1':=hb1
 simp only [decide_eq_true_eq,decide_eq_false_iff_not,Bool.not_eq_true',Bool.not_eq_false',Bool.or_eq_true,Bool.and_eq_true,Bool.or_eq_false_iff,Bool.and_eq_false_imp,Int.not_lt,Int.not_le] at hb1'
 refine skp_ ?_
 refine hK1 _ ?_
 refine sk_ fun K2 hK2=>?_
 refine rg_ [0,1,8] ?_
 refine awp_block ?_
 refine lp_ (X:={i:Nat // i≤l.length∧∀j,j<i→bigR (l.getD j rw0)=false}) (fun x=>⟨Tryz.f27.ntmps,fget [(0,.int .i64 room),(1,.slice (l.map rV) .none),(8,.int .i64 (x.1:Nat))],h++[.cells [.int .i64 c.uid,.int .i64 c.gid,.slice (c.gs.map iV) .none]],live⟩) (fun x=>l.length - x.1) (⟨0,by omega,fun j hj=>by omega⟩) ?_ (fun ⟨i,hi,hno⟩=>?_)
 ·
  try dsimp only
  refine Trunc.of (by first | exact (List.append_nil _).symm | exact rfl | (rw [List.append_assoc];rfl)) ?_ hB (fun _ h=>h)
  refine ftc_ ?_ (hc:=by first | trivial | exact clL_rV _ _ | simp [AV.cl,AV.clL])
  refine ftc_ ?_ (hc:=by first | trivial | exact clL_rV _ _ | simp [AV.cl,AV.clL])
  refine ftc_ ?_ (hc:=by first | trivial | exact clL_rV _ _ | simp [AV.cl,AV.clL])
  exact FTr.nil
 try dsimp only
 refine sk_ fun K3 hK3=>?_
 refine rg_ [0,1,8,24] ?_
 refine cx_ (fun hb2=>?_) (fun hb2=>?_)
 rotate_left
 ·
  have hie:i=l.length:=by omega
  subst hie
  have hal:l.any bigR=false:=any_getD_f rw0 hno
  have hok:=small_ok hal
  refine awp_exit (up_ ?_)
  refine hK2 _ ?_
  refine rs_ [9,11] ?_
  refine sg_ ?_
  refine ck_ (k:=?_)
  refine (c30 room l _ _ hok (by omega)).mono ?_;rintro _ _ _ ⟨rfl,g,p,rfl,rfl,hbp,hper,hpc,hHg⟩
  refine sre_ ?_
  refine rg_ [6,7] ?_
  refine ret_ ?_
  refine fin_gen (h1:=h++([.cells [.int .i64 c.uid,.int .i64 c.gid,.slice (c.gs.map iV) .none]]++g)) (live:=_) (by (simp (disch:=omega) only [Tryz.results27,aresults,aresult,push_cast,↓reduceIte,Nat.reduceEqDiff,Nat.reduceAdd,Nat.reduceLeDiff])<;>rfl) (.inr (by simp only [atuple,AV.er,AV.erL,hper];rfl)) (by simp only [AV.cl,AV.clL];rw [←List.append_assoc];exact ⟨hpc,trivial,trivial⟩) (⟨[],by simp⟩) (by rw [←List.append_assoc];exact hHg) (by simp) (fun _ h=>h) ?_
  refine ⟨rfl, _,p,?_,rfl,by rw [←List.append_assoc];exact hpc,fun T hT=>?_⟩
  ·
   unfold builtF
   rw [hb1,cond_false,hal,cond_false]
   show AV.tup [p,.bool (decide (bE (buildF room l)=0))]=_
   cases ho:buildF room l with
   | inl x=>have:=buildF_err ho;exact congrArg (fun b=>AV.tup [p,.bool b]) (decide_eq_false this)
   | inr T=>rfl
  ·
   unfold builtF at hT
   rw [hb1,cond_false,hal,cond_false] at hT
   cases ho:buildF room l with
   | inl x=>rw [ho] at hT;cases hT
   | inr T'=>rw [ho] at hT hbp;cases hT;rw [←List.append_assoc];exact hbp
 have hil:i<l.length:=by omega
 refine skp_ ?_
 refine hK3 _ ?_
 refine sk_ fun K4 hK4=>?_
 refine awp_block ?_
 refine rg_ [0,1,8,51] ?_
 refine cy_ (fun hb3=>?_) (fun hb3=>?_)
 ·
  have hal:l.any bigR=true:=any_getD_t rw0 hil hb3
  refine rg_ [6,7] ?_
  refine ret_ ?_
  refine fq_ Tryz.results27 ?_
  unfold builtF;rw [hb1,cond_false,hal,cond_true];exact ⟨rfl,[], _,rfl,(List.append_nil _).symm,trivial,fun T hT=>by cases hT⟩
 refine skp_ ?_
 refine hK4 _ ?_
 refine rt_ [0,1,8] ?_
 refine srn_ ?_
 refine ln_ ⟨i+1,by omega,fun j hj=>by rcases Nat.lt_succ_iff_lt_or_eq.1 hj with h | h;exact hno j h;subst h;exact hb3⟩ ?_
 try dsimp only
 refine Trunc.of (by first | exact (List.append_nil _).symm | exact rfl | (rw [List.append_assoc];rfl)) ?_ hB (fun _ h=>h)
 refine ftc_ ?_ (hc:=by first | trivial | exact clL_rV _ _ | simp [AV.cl,AV.clL])
 refine ftc_ ?_ (hc:=by first | trivial | exact clL_rV _ _ | simp [AV.cl,AV.clL])
 refine ftc_ ?_ (hc:=by first | trivial | exact clL_rV _ _ | simp [AV.cl,AV.clL])
 exact FTr.nil
def rawA:List Rw:=[⟨2,1023,0,0,0,[],[],[],0⟩,⟨1,420,1,0,1,[102],[],[],0⟩]
def rawB:List Rw:=[⟨2,1023,0,0,0,[],[],[],0⟩]
def tabOf (o:(Int×Int)⊕Tab):Tab:=match o with
 | .inr T=>T
 | .inl _=>⟨0,[]⟩
def tA:Tab:=tabOf (buildF 9 rawA)
def tB:Tab:=tabOf (buildF 9 rawB)
theorem buildA:buildF 9 rawA=.inr tA:=by kernel_rfl
theorem buildB:buildF 9 rawB=.inr tB:=by kernel_rfl
theorem a_w1:allowF tA tB ⟨1,0,[]⟩ []=true:=by kernel_rfl
theorem a_w2:allowF tA tB ⟨2,0,[]⟩ []=false:=by kernel_rfl
theorem a_w3:allowF tA tB ⟨0,0,[]⟩ []=true:=by kernel_rfl
theorem a_w4:allowF tA tA ⟨2,0,[]⟩ []=true:=by kernel_rfl
theorem a_w5:wayF tA ⟨2,0,[]⟩ 1=true:=by kernel_rfl
theorem a_w6:seenF tA ⟨2,0,[]⟩ 2=true:=by kernel_rfl
theorem rawA_ok:∀r∈rawA,RwOk r:=by
 intro r hr
 simp only [rawA,List.mem_cons,List.not_mem_nil,or_false] at hr
 rcases hr with rfl | rfl<;>exact ⟨by decide,by decide,by decide⟩
theorem rawB_ok:∀r∈rawB,RwOk r:=by
 intro r hr
 simp only [rawB,List.mem_cons,List.not_mem_nil,or_false] at hr
 subst hr;exact ⟨by decide,by decide,by decide⟩
theorem tA_ok:tA.Ok:=buildF_ok rawA_ok buildA
theorem tB_ok:tB.Ok:=buildF_ok rawB_ok buildB
theorem bE_r19 (T:Tab):bE (.inr T)=0:=rfl
theorem bI_r19 (T:Tab):bI (.inr T)=0:=rfl
set_option maxHeartbeats 1000000 in
theorem c26 (h:List Blk) (live:List Nat):AC Tryz.prog 26 [] h live (.bool true):=by
 refine aq_ Tryz.func26 fun hH hX=>?_
 have sx:=(And.intro @bE_r19 (And.intro @bI_r19 (And.intro @a_w1 (And.intro @a_w2 (And.intro @a_w3 (And.intro @a_w4 (And.intro @a_w5 (And.intro @a_w6 sx0))))))))
 refine rg_ [] ?_
 refine rs_ [1,3] ?_
 refine sg_ ?_
 refine ck_ (k:=?_)
 refine ACalls.erx (by simp only [List.map_cons,List.map_nil,AV.er,AV.erL];rfl) ((c30 9 rawA _ _ rawA_ok (by decide)).mono ?_);rintro _ _ _ ⟨rfl,g,p,rfl,rfl,hbp,hper,hpc,hHg⟩;rw [buildA] at hbp ⊢;obtain ⟨ka,rfl,hka⟩:=hbp
 refine sre_ ?_
 refine rs_ [1,3,4,6] ?_
 refine sg_ ?_
 refine ck_ (k:=?_)
 refine ACalls.erx (by simp only [List.map_cons,List.map_nil,AV.er,AV.erL];rfl) ((c30 9 rawB _ _ rawB_ok (by decide)).mono ?_);rintro _ _ _ ⟨rfl,g2,p2,rfl,rfl,hbp2,hper2,hpc2,hHg2⟩;rw [buildB] at hbp2 ⊢;obtain ⟨kb,rfl,hkb⟩:=hbp2;have hka2:(h++(g++g2))[ka]? = some (tabBlk tA):=by { rw [←List.append_assoc];exact atApp hka };have hkb2:(h++(g++g2))[kb]? = some (tabBlk tB):=by { rw [←List.append_assoc];exact hkb }
 refine sre_ ?_
 refine rs_ [0] ?_
 refine sg_ ?_
 refine cg_ (hc:=fun hg=>ACalls.erx (by simp only [List.map_cons,List.map_nil,AV.er,AV.erL,erL_iV]<;>rfl) (c29 tA tB ⟨1,0,[]⟩ [] ka kb _ _ (by first | exact hka2 | exact atApp hka2) (by first | exact hkb2 | exact atApp hkb2) tA_ok tB_ok (by simp) (by simp))) (k:=?_)
 refine sg_ ?_
 refine cg_ (hc:=fun hg=>ACalls.erx (by simp only [List.map_cons,List.map_nil,AV.er,AV.erL,erL_iV]<;>rfl) (c29 tA tB ⟨2,0,[]⟩ [] ka kb _ _ (by first | exact hka2 | exact atApp hka2) (by first | exact hkb2 | exact atApp hkb2) tA_ok tB_ok (by simp) (by simp))) (k:=?_)
 refine sg_ ?_
 refine cg_ (hc:=fun hg=>ACalls.erx (by simp only [List.map_cons,List.map_nil,AV.er,AV.erL,erL_iV]<;>rfl) (c29 tA tB ⟨0,0,[]⟩ [] ka kb _ _ (by first | exact hka2 | exact atApp hka2) (by first | exact hkb2 | exact atApp hkb2) tA_ok tB_ok (by simp) (by simp))) (k:=?_)
 refine sg_ ?_
 refine cg_ (hc:=fun hg=>ACalls.erx (by simp only [List.map_cons,List.map_nil,AV.er,AV.erL,erL_iV]<;>rfl) (c29 tA tA ⟨2,0,[]⟩ [] ka ka _ _ (by first | exact hka2 | exact atApp hka2) (by first | exact hka2 | exact atApp hka2) tA_ok tA_ok (by simp) (by simp))) (k:=?_)
 refine sg_ ?_
 refine cg_ (hc:=fun hg=>c62 tA ka ⟨2,0,[]⟩ _ _ _ _ (by first | exact hka2 | exact atApp hka2) tA_ok (by simp)) (k:=?_)
 refine sg_ ?_
 refine cg_ (hc:=fun hg=>c63 tA ka ⟨2,0,[]⟩ _ _ _ _ (by first | exact hka2 | exact atApp hka2) tA_ok (by simp)) (k:=?_)
 refine srt_ ?_
 refine fq_ Tryz.results26 ?_
 exact rk_ rfl
section
variable {P:Program} {n:Nat}
theorem dawp_gf {q:RQ} {gd:Nat→Option Tmp} {fl:FL} {h:List Blk} {live:List Nat} {F:FT} {o:Oper} {os:List Oper} {x:AV} {g:Bool} {j:Nat} {want:Bool} {t tg:Tmp} (hk:fload q o=true) (ho:o.guard=some (j,want)) (hgd:gd j=some tg) (hw:wantOf (gv (fget fl tg)) want=some g)
 (hx:g=true→floadOf P q.T (fget fl) h o=some x) (hd:o.dst=some t) (hn:decide (t<n)=true) (k:dawp P q gd n os (fget ((t,bif g then x else .tup [])::fl)) h live F):dawp P q gd n (o::os) (fget fl) h live F:=by
 rw [←gval_gv,←hgd] at hw
 unfold wantOf at hw
 rw [←dwant_some ho] at hw
 cases g with
 | true=>exact dawp_f hk hw (hx rfl) hd hn k
 | false=>exact dawp_skip hw hd hn k
theorem dawp_gg {q:RQ} {gd:Nat→Option Tmp} {fl:FL} {h h':List Blk} {live:List Nat} {F:FT} {o:Oper} {os:List Oper} {x:AV} {g:Bool} {j:Nat} {want:Bool} {t tg:Tmp} (hk:(!fload q o&&gst q o)=true) (ho:o.guard=some (j,want)) (hgd:gd j=some tg) (hw:wantOf (gv (fget fl tg)) want=some g)
 (hs:St P q h h') (hx:g=true→AOp P (fget fl) h live o (ret x h' live)) (hd:o.dst=some t) (hn:decide (t<n)=true) (k:dawp P q gd n os (fget ((t,bif g then x else .tup [])::fl)) (bif g then h' else h) live F):dawp P q gd n (o::os) (fget fl) h live F:=by
 rw [←gval_gv,←hgd] at hw
 unfold wantOf at hw
 rw [←dwant_some ho] at hw
 cases g with
 | true=>exact dawp_gx hk hw hd hn ((hx rfl).mono fun y h1 l1 e=>by obtain ⟨e1,e2,e3⟩:=e;subst e1;subst e2;subst e3;exact ⟨hs,k⟩)
 | false=>exact dawp_skip hw hd hn k
theorem st_nil {q:RQ} (hT:q.T=[]) (hN:q.N=0) (h h':List Blk):St P q h h':=
 ⟨fun b off k t hm=>(by rw [hT] at hm;cases hm),fun k hk=>(by rw [hN] at hk;exact absurd hk (Nat.not_lt_zero _))⟩
end
theorem wrL_y {P:Pr} {k:Nat} (h:(P.fd k).wr=true):wrL P (k+1)=wrL P k++[(P.fd k).node]:=by
 unfold wrL
 rw [List.range_succ,List.filter_append,List.map_append];simp [h]
theorem wrL_n {P:Pr} {k:Nat} (h:(P.fd k).wr=false):wrL P (k+1)=wrL P k:=by
 unfold wrL
 rw [List.range_succ,List.filter_append,List.map_append];simp [h]
theorem wrL_len (P:Pr) (k:Nat):(wrL P k).length≤k:=by
 unfold wrL
 rw [List.length_map]
 exact Nat.le_trans (List.length_filter_le _ _) (by simp)
theorem doF_c {T:Tab} (hT:Gd T) (ps:List Pr) (pid:Int) (ca:Ca) (j:Nat):((doF T ps pid ca).2.2.getD j pr0).c=(ps.getD j pr0).c:=by
 unfold doF
 split
 ·
  rename_i h
  show ((ps.set pid.toNat _).getD j pr0).c=_
  rw [List.getD_eq_getElem?_getD,List.getElem?_set]
  split
  ·
   rename_i e
   rw [←e,if_pos (by omega)]
   exact (stepF_gd hT ps pid.toNat (ps.getD pid.toNat pr0) ca).2
  · rw [List.getD_eq_getElem?_getD]
 · rfl
end Go.Proofs.YtjmlgeckgieaaaaGreat
