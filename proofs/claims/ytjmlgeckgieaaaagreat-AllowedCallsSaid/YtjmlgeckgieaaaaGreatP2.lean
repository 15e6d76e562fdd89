import Derived.Test.YtjmlgeckgieaaaaGreatP1
/-
  TABLES: nodes by themselves.
-/
set_option linter.unusedVariables false
set_option linter.unusedSimpArgs false
namespace Go.Proofs.YtjmlgeckgieaaaaGreat
open Go.Ab
set_option maxRecDepth 8000
set_option maxHeartbeats 400000
def idB (n:Int):Bool:=decide (0≤n)&&decide (n≤65535)
def badE (l:List En) (i:Nat):Bool:=!nameF (l.getD i ([],0)).1||decide ((l.getD i ([],0)).2<1)||(decide (0<(i:Int))&&!Op.bytesLess (l.getD ((i:Int) - 1).toNat ([],0)).1 (l.getD i ([],0)).1)
def risingF (l:List En):Bool:=!((List.range l.length).any (badE l))&&decide ((l.length:Int)≤8)
def rightF (n:Nd):Bool:=
 bif (decide (n.mode<0)||decide (4095<n.mode)||!idB n.uid||!idB n.gid) then false
 else if n.kind=1 then decide ((n.ents.length:Int)=0)&&decide (n.target=[])&&decide ((n.data.length:Int)≤48)
 else if n.kind=2 then decide ((n.data.length:Int)=0)&&decide (n.target=[])&&risingF n.ents
 else if n.kind=3 then decide ((n.data.length:Int)+n.ents.length=0)&&decide (n.mode=511)&&fitsF n.target
 else false
theorem anyR_t {p:Nat→Bool} {m n:Nat} (hm:m<n) (h:p m=true):(List.range n).any p=true:=List.any_eq_true.2 ⟨m,List.mem_range.2 hm,h⟩
theorem anyR_f {p:Nat→Bool} {n:Nat} (h:∀j,j<n→p j=false):(List.range n).any p=false:=List.any_eq_false.2 fun j hj=>by simp [h j (List.mem_range.1 hj)]
theorem rightF_kind {n:Nd} (h:rightF n=true):n.kind≠0:=by
 intro h0
 unfold rightF at h
 rw [h0] at h
 cases hc:(decide (n.mode<0)||decide (4095<n.mode)||!idB n.uid||!idB n.gid)<;>rw [hc] at h<;>cases h
theorem mtk_eV (l:List En) (n:Nat):(l.map eV).take n=(l.take n).map eV:=List.map_take.symm
theorem mdr_eV (l:List En) (n:Nat):(l.map eV).drop n=(l.drop n).map eV:=List.map_drop.symm
theorem ltk_En (l:List En) (n:Nat):(l.take n).length=min n l.length:=List.length_take
theorem ldr_En (l:List En) (n:Nat):(l.drop n).length=l.length - n:=List.length_drop
def eqS (s:List UInt8) (e:En):Bool:=decide (e.1=s)
def gtS (s:List UInt8) (e:En):Bool:=!(Op.bytesLess e.1 s||decide (e.1=s))
theorem c103 (n:Int) (h:List Blk) (live:List Nat):AC Tryz.prog 103 [.int .i64 n] h live (.bool (idB n)):=by
 refine aq_ Tryz.func103 fun hH hX=>?_
 refine rg_ [0] ?_
 refine rg_ [2] ?_
 refine ret_ ?_
 refine fq_ Tryz.results103 ?_
 exact rk_ rfl
theorem c146 (s:List UInt8) (h:List Blk) (live:List Nat) (hs:s.length≤9223372036854775807):AC Tryz.prog 146 [.str s] h live (.bool (nameF s)):=by
 refine aq_ Tryz.func146 fun hH hX=>?_
 refine rg_ [0] ?_
 refine rs_ [2] ?_
 refine sg_ ?_
 refine cg_ (hc:=fun hg=>c156 s _ _ hs) (k:=?_)
 refine srt_ ?_
 refine fq_ Tryz.results146 ?_
 exact rk_ rfl
theorem c105 (s:List UInt8) (h:List Blk) (live:List Nat) (hs:s.length≤9223372036854775807):AC Tryz.prog 105 [.str s] h live (.bool (fitsF s)):=by
 refine aq_ Tryz.func105 fun hH hX=>?_
 refine rg_ [0] ?_
 refine rs_ [2] ?_
 refine sg_ ?_
 refine cg_ (hc:=fun hg=>c137 s 0 _ _) (k:=?_)
 refine srt_ ?_
 refine fq_ Tryz.results105 ?_
 exact rk_ rfl
theorem c104 (l:List En) (h:List Blk) (live:List Nat) (hl:l.length≤1000000) (hn:∀e∈l,e.1.length≤9223372036854775807):AC Tryz.prog 104 [.slice (l.map eV) .none] h live (.bool (risingF l)):=by
 refine aq_ Tryz.func104 fun hH hX=>?_
 have hnl:∀i,(l.getD i ([],0)).1.length≤9223372036854775807:=fun i=>by
  by_cases h:i<l.length
  · rw [List.getD_eq_getElem?_getD,List.getElem?_eq_getElem h];exact hn _ (List.getElem_mem h)
  · rw [List.getD_eq_getElem?_getD,List.getElem?_eq_none (by omega)];exact Nat.zero_le _
 have sx:=(And.intro @Bool.true_and sx0)
 refine rg_ [0] ?_
 refine sk_ fun K1 hK1=>?_
 refine rg_ [0,5,6,7] ?_
 refine awp_block ?_
 refine lp_ (X:={i:Nat // i≤l.length∧∀j,j<i→badE l j=false}) (fun x=>⟨Tryz.f104.ntmps,fget [(0,.slice (l.map eV) .none),(5,.slice (l.map eV) .none),(6,.int .i64 l.length),(7,.int .i64 (x.1:Nat))],h,live⟩) (fun x=>l.length - x.1) (⟨0,by omega,fun j hj=>by omega⟩) ?_ (fun ⟨i,hi,hb⟩=>?_)
 ·
  try dsimp only
  exact tf_ hH (fun _ h=>h)
 try dsimp only
 refine rg_ [0,5,6,7,8] ?_
 refine sk_ fun K2 hK2=>?_
 refine cx_ (fun hb1=>?_) (fun hb1=>?_)
 rotate_left
 ·
  have hie:i=l.length:=by omega
  subst hie
  refine awp_exit (up_ ?_)
  refine hK1 _ ?_
  refine rg_ [2] ?_
  refine ret_ ?_
  refine fq_ Tryz.results104 ?_
  exact rk_ (by unfold risingF;rw [anyR_f hb];rfl)
 have hil:i<l.length:=by omega
 have hnli:=hnl i
 refine skp_ ?_
 refine hK2 _ ?_
 refine sk_ fun K3 hK3=>?_
 refine awp_block ?_
 refine rg_ [0,3,4,5,6,7] ?_
 refine rsq_ [0,5,6,7,35] ⟨true,[],[],[],[],[],0⟩ (fun _=>⟨by kernel_rfl,by kernel_rfl⟩) ?_
 refine sg_ ?_
 refine cr_ (hc:=c146 _ _ _ (by omega)) (k:=?_)
 refine sre_ ?_
 refine cy_ (fun hb2=>?_) (fun hb2=>?_)
 ·
  have hbe:badE l i=true:=hb2
  refine rg_ [2] ?_
  refine ret_ ?_
  refine fq_ Tryz.results104 ?_
  exact rk_ (by unfold risingF;rw [anyR_t hil hbe];rfl)
 have hbe:badE l i=false:=hb2
 refine skp_ ?_
 refine hK3 _ ?_
 refine rt_ [0,5,6,7] ?_
 refine srn_ ?_
 refine ln_ ⟨i+1,by omega,fun j hj=>by rcases Nat.lt_succ_iff_lt_or_eq.1 hj with h | h;exact hb j h;subst h;exact hbe⟩ ?_
 try dsimp only
 exact tf_ hH (fun _ h=>h)
theorem c59 (n:Nd) (h:List Blk) (live:List Nat) (ho:NdOk n):AC Tryz.prog 59 [.agg (ndC n)] h live (.bool (rightF n)):=by
 refine aq_ Tryz.func59 fun hH hX=>?_
 obtain ⟨ho1,ho2,ho3⟩:=ho
 refine rg_ [1] ?_
 refine sk_ fun K1 hK1=>?_
 refine rs_ [1,22] ?_
 refine sg_ ?_
 refine cg_ (hc:=fun hg=>c103 _ _ _) (k:=?_)
 refine sg_ ?_
 refine cg_ (hc:=fun hg=>c103 _ _ _) (k:=?_)
 refine sre_ ?_
 refine cy_ (fun hb1=>?_) (fun hb1=>?_)
 ·
  refine rg_ [2] ?_
  refine ret_ ?_
  refine fq_ Tryz.results59 ?_
  exact rk_ (by unfold rightF;rw [hb1];rfl)
 refine skp_ ?_
 refine hK1 _ ?_
 refine sk_ fun K2 hK2=>?_
 refine rg_ [1,24] ?_
 refine awp_block ?_
 refine rg_ [1,24,25] ?_
 refine cx_ (fun hb2=>?_) (fun hb2=>?_)
 ·
  refine rg_ [2] ?_
  refine ret_ ?_
  refine fq_ Tryz.results59 ?_
  exact rk_ (by unfold rightF;rw [hb1,cond_false,if_pos hb2])
 refine rg_ [1,24,42] ?_
 refine cx_ (fun hb3=>?_) (fun hb3=>?_)
 ·
  refine rs_ [2] ?_
  refine sg_ ?_
  refine cg_ (hc:=fun hg=>c104 _ _ _ (by omega) (fun e he=>Nat.le_trans (ho3.2 e he) (by decide))) (k:=?_)
  refine srt_ ?_
  refine fq_ Tryz.results59 ?_
  exact rk_ (by unfold rightF;rw [hb1,cond_false,if_neg hb2,if_pos hb3])
 refine rg_ [1,58] ?_
 refine cx_ (fun hb4=>?_) (fun hb4=>?_)
 ·
  refine rs_ [2] ?_
  refine sg_ ?_
  refine cg_ (hc:=fun hg=>c105 _ _ _ (by omega)) (k:=?_)
  refine srt_ ?_
  refine fq_ Tryz.results59 ?_
  exact rk_ (by unfold rightF;rw [hb1,cond_false,if_neg hb2,if_neg hb3,if_pos hb4])
 refine skp_ ?_
 refine hK2 _ ?_
 refine rg_ [2] ?_
 refine ret_ ?_
 refine fq_ Tryz.results59 ?_
 exact rk_ (by unfold rightF;rw [hb1,cond_false,if_neg hb2,if_neg hb3,if_neg hb4])
theorem c177 (b:Nat) (s:List UInt8) (e:En) (h:List Blk) (live:List Nat) (hb:h[b]? = some (.cells [.str s])):ACalls Tryz.prog 177 (.agg [.str e.1,.int .i64 e.2]::[.ptr b 0]) h live (ret (.bool (eqS s e)) h live):=by
 refine aq_ Tryz.func177 fun hH hX=>?_
 have hbl:=lt_of_get hb
 have hb':=fun g:List Blk=>atApp (g:=g) hb
 have sx:=(And.intro @hb' (And.intro @hb sx0))
 refine rg_ [1,2] ?_
 refine rg_ [3] ?_
 refine ret_ ?_
 refine fq_ Tryz.results177 ?_
 exact rk_ rfl
theorem c158 (b:Nat) (s:List UInt8) (e:En) (h:List Blk) (live:List Nat) (hb:h[b]? = some (.cells [.str s])):ACalls Tryz.prog 158 (.agg [.str e.1,.int .i64 e.2]::[.ptr b 0]) h live (ret (.bool (gtS s e)) h live):=by
 refine aq_ Tryz.func158 fun hH hX=>?_
 have hbl:=lt_of_get hb
 have hb':=fun g:List Blk=>atApp (g:=g) hb
 have sx:=(And.intro @hb' (And.intro @hb sx0))
 refine rg_ [1,2] ?_
 refine rg_ [3] ?_
 refine ret_ ?_
 refine fq_ Tryz.results158 ?_
 exact rk_ rfl
theorem c157 (n:Nd) (s:List UInt8) (h:List Blk) (live:List Nat) (ho:NdOk n):AC Tryz.prog 157 [.agg (ndC n),.str s] h live (.int .i64 (idxP (eqS s) n.ents)):=by
 refine aq_ Tryz.func157 fun hH hX=>?_
 obtain ⟨ho1,ho2,ho3⟩:=ho
 refine rg_ [2,3] ?_
 refine rs_ [4] ?_
 refine sg_ ?_
 refine cl_ (hc:=c149 n.ents _ 177 [.ptr (h.length+1) 0] (eqS s) _ _ (by omega) (fun e=>c177 (h.length+1) s e _ _ (by simp only [push_cast])) (by simp [AV.cl,AV.clL])) (k:=?_)
 refine srt_ ?_
 refine fq_ Tryz.results157 ?_
 exact rk_ rfl
def nWith (n:Nd) (l:List En):Nd:=⟨n.kind,n.mode,n.uid,n.gid,n.data,l,n.target⟩
theorem putAt_eq {α:Type}:∀(v c:List α) (off:Nat),off+v.length≤c.length→putAt c off v=c.take off++v++c.drop (off+v.length)
 | [],c,off,h=>by
  show c=_
  simp
 | x::v,c,off,h=>by
  show putAt (c.set off x) (off+1) v=_
  simp at h
  rw [putAt_eq v _ _ (by simp;omega),List.take_succ_eq_append_getElem (by simp;omega)]
  simp [List.take_set_of_le,List.drop_set_of_lt,show off<off+1+v.length by omega,show off+1+v.length=off+(v.length+1) by omega]
theorem flat_len (l:List En):(flat (l.map eV)).length=l.length*2:=by
 rw [flat_length (sz:=2) (cells_eV l),List.length_map]
theorem flat_app (a b:List AV):flat (a++b)=flat a++flat b:=by simp [flat]
theorem put3 (A B C:List En) (c:List AV) (hc:(A.length+B.length+C.length)*2≤c.length) :
 (putAt (putAt (putAt c 0 (flat (A.map eV))) (A.length*2) (flat (B.map eV))) ((A.length+B.length)*2) (flat (C.map eV))).take ((A++B++C).length*2)=flat ((A++B++C).map eV):=by
 have hA:=flat_len A;have hB:=flat_len B;have hC:=flat_len C
 rw [putAt_eq (flat (A.map eV)) c 0 (by omega),List.take_zero,List.nil_append]
 have e1:putAt (flat (A.map eV)++c.drop (0+(flat (A.map eV)).length)) (A.length*2) (flat (B.map eV))=flat (A.map eV)++(flat (B.map eV)++(c.drop (A.length*2)).drop (B.length*2)):=by
  rw [show A.length*2=(flat (A.map eV)).length+0 by omega,putAt_right,putAt_eq _ _ _ (by rw [List.length_drop];omega)]
  simp [hA,hB]
 rw [e1]
 have e2:putAt (flat (A.map eV)++(flat (B.map eV)++(c.drop (A.length*2)).drop (B.length*2))) ((A.length+B.length)*2) (flat (C.map eV))=(flat (A.map eV)++flat (B.map eV))++(flat (C.map eV)++((c.drop (A.length*2)).drop (B.length*2)).drop (C.length*2)):=by
  rw [←List.append_assoc,show (A.length+B.length)*2=(flat (A.map eV)++flat (B.map eV)).length+0 by simp;omega,putAt_right,putAt_eq _ _ _ (by rw [List.length_drop,List.length_drop];omega)]
  simp [hC]
 rw [e2,List.map_append,List.map_append,flat_app,flat_app,←List.append_assoc]
 exact List.take_left' (by simp;omega)
theorem put3_len (A B C:List En) (c:List AV) (hc:(A.length+B.length+C.length)*2≤c.length) :
 (putAt (putAt (putAt c 0 (flat (A.map eV))) (A.length*2) (flat (B.map eV))) ((A.length+B.length)*2) (flat (C.map eV))).length=c.length:=by
 have hA:=flat_len A;have hB:=flat_len B;have hC:=flat_len C
 have h:∀(v c:List AV) (off:Nat),(putAt c off v).length=c.length:=fun v=>by
  induction v with
  | nil=>intro c off;rfl
  | cons x v ih=>intro c off;show (putAt (c.set off x) (off+1) v).length=_;rw [ih,List.length_set]
 rw [h,h,h]
theorem flat_el:∀(M:List En) (i:Nat) (h:i<M.length),AV.agg (((flat (M.map eV)).drop (i*2)).take 2)=eV M[i]
 | x::r,0, _=>rfl
 | x::r,i+1,h=>by
  have:=flat_el r i (by simpa using h)
  rw [List.map_cons,show flat (eV x::r.map eV)=[.str x.1,.int .i64 x.2]++flat (r.map eV) from rfl,show (i+1)*2=2+i*2 by omega,List.drop_append,List.drop_of_length_le (show 2≤2+i*2 by omega),List.nil_append]
  simpa using this
theorem frozen (M:List En) (cs:List AV) (h:cs.take (M.length*2)=flat (M.map eV)):((List.range M.length).map fun i=>mkEl true ((cs.drop (0+i*2)).take 2))=M.map eV:=by
 refine List.ext_getElem (by simp) fun i h1 h2=>?_
 simp only [List.length_map,List.length_range] at h1
 rw [List.getElem_map,List.getElem_map,List.getElem_range,Nat.zero_add]
 have e:(cs.drop (i*2)).take 2=((cs.take (M.length*2)).drop (i*2)).take 2:=by
  rw [List.drop_take,List.take_take,Nat.min_eq_left (by omega)]
 show AV.agg _=eV _
 rw [e,h]
 exact flat_el M i h1
theorem with_frz (n:Nd) (A B C:List En) (h:List Blk) (x y:Blk) (c:List AV) (cap:Nat) (hc:(A.length+B.length+C.length)*2≤c.length) (t:Nat) (ht:t=(A++B++C).length) (l1 l2:Nat) (h1:l1=A.length*2) (h2:l2=(A.length+B.length)*2) :
 ((AV.agg [.int .i64 n.kind,.int .i64 n.mode,.int .i64 n.uid,.int .i64 n.gid,.slice (n.data.map bV) .none,.bsl (h.length+2) 0 2 true t cap,.str n.target]).frz (h++[x,y,.cells (putAt (putAt (putAt c 0 (flat (A.map eV))) l1 (flat (B.map eV))) l2 (flat (C.map eV)))]) h.length).er=.agg (ndC (nWith n (A++B++C))):=by
 subst ht h1 h2
 have hl:=put3_len A B C c hc
 have hg:(h++[x,y,Blk.cells (putAt (putAt (putAt c 0 (flat (A.map eV))) (A.length*2) (flat (B.map eV))) ((A.length+B.length)*2) (flat (C.map eV)))])[h.length+2]? = some (.cells (putAt (putAt (putAt c 0 (flat (A.map eV))) (A.length*2) (flat (B.map eV))) ((A.length+B.length)*2) (flat (C.map eV)))):=by
  rw [List.getElem?_append_right (by omega),show h.length+2 - h.length=2 by omega];rfl
 have hab:(A++B++C).length=A.length+B.length+C.length:=by rw [List.length_append,List.length_append]
 simp only [AV.frz,AV.frzL]
 rw [if_pos (by omega),hg]
 simp only []
 rw [if_pos ⟨by rw [hl];omega,by decide,.inl trivial⟩,frozen _ _ (put3 A B C c hc)]
 simp only [AV.er,AV.erL,erL_bV,erL_eV]
 rfl
theorem putAt_len:∀(v c:List AV) (off:Nat),(putAt c off v).length=c.length
 | [], _, _=>rfl
 | x::v,c,off=>by show (putAt (c.set off x) (off+1) v).length=_;rw [putAt_len,List.length_set]
def rep2 (n:Nat):List AV:=rep n [.str [],.int .i64 0]
theorem rep2_len (n:Nat):(rep2 n).length=n*2:=rep_length _ _
theorem c159 (n:Nd) (a b:Nat) (m:List En) (c:Cap) (h:List Blk) (live:List Nat) (ho:NdOk n) (ha:a≤n.ents.length) (hb:b≤n.ents.length) (hm:m.length≤1000) (hf:a+m.length≤b+1):AC Tryz.prog 159 [.agg (ndC n),.int .i64 (a:Int),.int .i64 (b:Int),.slice (m.map eV) c] h live (.agg (ndC (nWith n (n.ents.take a++(m++n.ents.drop b))))):=by
 refine aq_ Tryz.func159 fun hH hX=>?_
 obtain ⟨ho1,ho2,ho3⟩:=ho
 have hmin:min n.ents.length a=a:=Nat.min_eq_right ha
 have sx:=(And.intro @hmin (And.intro @mtk_eV (And.intro @mdr_eV (And.intro @ltk_En (And.intro @ldr_En sx0)))))
 refine rg_ [1,2,3,4,8] ?_
 refine rs_ [2,3,4,8,9] ?_
 refine sg_ ?_
 refine dawp_w rfl rfl rfl rfl (AOp.makeSlice _ _ _ rfl Ty.makeT_62 (n:=a) (m:=n.ents.length+1) rfl rfl (by omega) (by omega) (by omega) ?_)
 refine sre_ ?_
 refine rs_ [2,3,4,8,9] ?_
 refine sg_ ?_
 refine dawp_w rfl rfl rfl rfl (AOp.copyB _ _ _ _ rfl Ty.sliceSz_62 (by (simp (disch:=omega) only [push_cast,↓reduceIte,Nat.reduceEqDiff,Nat.reduceAdd,Nat.reduceLeDiff,sx])<;>rfl) (by (simp (disch:=omega) only [push_cast,↓reduceIte,Nat.reduceEqDiff,Nat.reduceAdd,Nat.reduceLeDiff,sx])<;>rfl) (by (simp (disch:=omega) only [push_cast,↓reduceIte,Nat.reduceEqDiff,Nat.reduceAdd,Nat.reduceLeDiff,sx])<;>rfl) (cells_eV _) (by rw [rep_length];simp;omega) ?_)
 refine re_ ?_
 refine rs_ [2,4,8,9] ?_
 refine sg_ ?_
 refine dawp_w rfl rfl rfl rfl (AOp.appendB _ _ _ rfl Ty.sliceSz_62 (by (simp (disch:=omega) only [push_cast,↓reduceIte,Nat.reduceEqDiff,Nat.reduceAdd,Nat.reduceLeDiff,sx])<;>rfl) (by (simp (disch:=omega) only [push_cast,↓reduceIte,Nat.reduceEqDiff,Nat.reduceAdd,Nat.reduceLeDiff,sx])<;>rfl) (by (simp (disch:=omega) only [push_cast,↓reduceIte,Nat.reduceEqDiff,Nat.reduceAdd,Nat.reduceLeDiff,sx])<;>rfl) (cells_eV _) (by simp;omega) (by rw [putAt_len,rep_length];simp;omega) ?_)
 refine sre_ ?_
 refine rs_ [4,8] ?_
 refine sg_ ?_
 refine dawp_w rfl rfl rfl rfl (AOp.appendB _ _ _ rfl Ty.sliceSz_62 (by (simp (disch:=omega) only [push_cast,↓reduceIte,Nat.reduceEqDiff,Nat.reduceAdd,Nat.reduceLeDiff,sx])<;>rfl) (by (simp (disch:=omega) only [push_cast,↓reduceIte,Nat.reduceEqDiff,Nat.reduceAdd,Nat.reduceLeDiff,sx])<;>rfl) (by (simp (disch:=omega) only [push_cast,↓reduceIte,Nat.reduceEqDiff,Nat.reduceAdd,Nat.reduceLeDiff,sx])<;>rfl) (cells_eV _) (by simp;omega) (by rw [putAt_len,putAt_len,rep_length];simp;omega) ?_)
 refine sre_ ?_
 refine rs_ [4,8] ?_
 refine sg_ ?_
 refine cl_ (hc:=c76 _ _ _ _ (by omega)) (k:=?_)
 refine sre_ ?_
 refine rg_ [8] ?_
 refine ret_ ?_
 refine fz_ (h1:=h) Tryz.results159 (hx:=(with_frz n (n.ents.take a) m (n.ents.drop b) h _ _ (rep (n.ents.length+1) [.str [],.int .i64 0]) (n.ents.length+1) (by rw [rep_length];simp;omega) (a+m.length+(n.ents.length - b)) (by simp [Nat.min_eq_left ha];omega) (a*2) ((a+m.length)*2) (by simp [Nat.min_eq_left ha]) (by simp [Nat.min_eq_left ha]))) (hcl:=(by exact clL_ndC _ _)) (hK:=?_)
 exact rk_ (by first | rfl | rw [List.append_assoc])
def badN (s:List UInt8) (id:Int):Bool:=decide (id<1)||decide (s=[])||decide (s=[46])||decide (s=[46,46])||s.any sl0
def spot (l:List En) (s:List UInt8):Nat:=if idxP (gtS s) l<0 then l.length else (idxP (gtS s) l).toNat
def insF (l:List En) (s:List UInt8) (id:Int):List En:=l.take (spot l s)++([(s,id)]++l.drop (spot l s))
def withN (n:Nd) (s:List UInt8) (id:Int):Nd×Int:=
 if n.kind≠2 then (nd0,20) else bif badN s id then (nd0,22) else if (12:Int)<s.length then (nd0,36) else if 0≤idxP (eqS s) n.ents then (nd0,17) else if (8:Int)≤n.ents.length then (nd0,28) else (nWith n (insF n.ents s id),0)
theorem spot_le (l:List En) (s:List UInt8):spot l s≤l.length:=by
 unfold spot
 have:=idxP_range (gtS s) l
 split<;>omega
theorem spot_neg {l:List En} {s:List UInt8} (h:idxP (gtS s) l<0):spot l s=l.length:=if_pos h
theorem spot_pos {l:List En} {s:List UInt8} (h:0≤idxP (gtS s) l):idxP (gtS s) l=(spot l s:Nat):=by
 unfold spot;rw [if_neg (by omega)];omega
theorem withN_ok {n:Nd} {s:List UInt8} {id:Int} (ho:NdOk n) (hs:s.length≤9223372036854775807):NdOk (withN n s id).1:=by
 unfold withN
 split
 · exact ndOk_0
 ·
  cases badN s id with
  | true=>exact ndOk_0
  | false=>
   rw [cond_false]
   split
   · exact ndOk_0
   ·
    split
    · exact ndOk_0
    ·
     split
     · exact ndOk_0
     ·
      have:=spot_le n.ents s
      refine ⟨ho.1,?_,ho.2.2.1,fun e he=>?_⟩
      ·
       show (insF n.ents s id).length≤1000
       simp [insF];omega
      ·
       rcases List.mem_append.1 he with h | h
       · exact ho.2.2.2 e (List.mem_of_mem_take h)
       ·
        rcases List.mem_append.1 h with h | h
        · rw [List.mem_singleton.1 h];exact hs
        · exact ho.2.2.2 e (List.mem_of_mem_drop h)
theorem c121 (n:Nd) (s:List UInt8) (id:Int) (h:List Blk) (live:List Nat) (ho:NdOk n) (hs:s.length≤9223372036854775807):AC Tryz.prog 121 [.agg (ndC n),.str s,.int .i64 id] h live (.tup [.agg (ndC (withN n s id).1),.int .i64 (withN n s id).2]):=by
 refine aq_ Tryz.func121 fun hH hX=>?_
 have ho':=ho
 obtain ⟨ho1,ho2,ho3⟩:=ho'
 have hsl:=spot_le n.ents s
 refine rg_ [2,3,4,6] ?_
 refine sk_ fun K1 hK1=>?_
 refine awp_block ?_
 refine rg_ [2,3,4,6,9] ?_
 refine cx_ (fun hb1=>?_) (fun hb1=>?_)
 ·
  refine rg_ [6,7] ?_
  refine ret_ ?_
  refine fq_ Tryz.results121 ?_ (hcl:=(by simp [AV.cl,AV.clL,clL_ndC,nd0, -List.map_map]))
  exact rk_ (by unfold withN;rw [if_pos hb1];rfl)
 refine rs_ [2,3,4,6,14] ?_
 refine sg_ ?_
 refine cg_ (hc:=fun hg=>c156 s _ _ (by omega)) (k:=?_)
 refine sre_ ?_
 refine cy_ (fun hb2=>?_) (fun hb2=>?_)
 ·
  have hbd:badN s id=true:=hb2
  refine rg_ [6,7] ?_
  refine ret_ ?_
  refine fq_ Tryz.results121 ?_ (hcl:=(by simp [AV.cl,AV.clL,clL_ndC,nd0, -List.map_map]))
  exact rk_ (by unfold withN;rw [if_neg (fun h=>h hb1),hbd];rfl)
 have hbd:badN s id=false:=hb2
 refine rg_ [2,3,4,6,34] ?_
 refine cx_ (fun hb3=>?_) (fun hb3=>?_)
 ·
  refine rg_ [6,7] ?_
  refine ret_ ?_
  refine fq_ Tryz.results121 ?_ (hcl:=(by simp [AV.cl,AV.clL,clL_ndC,nd0, -List.map_map]))
  exact rk_ (by unfold withN;rw [if_neg (fun h=>h hb1),hbd,cond_false,if_pos hb3];rfl)
 refine rs_ [2,3,4,6,39] ?_
 refine sg_ ?_
 refine cl_ (hc:=c157 _ _ _ _ ho) (k:=?_)
 refine sre_ ?_
 refine cx_ (fun hb4=>?_) (fun hb4=>?_)
 ·
  refine rg_ [6,7] ?_
  refine ret_ ?_
  refine fq_ Tryz.results121 ?_ (hcl:=(by simp [AV.cl,AV.clL,clL_ndC,nd0, -List.map_map]))
  exact rk_ (by unfold withN;rw [if_neg (fun h=>h hb1),hbd,cond_false,if_neg (by omega),if_pos hb4];rfl)
 refine rg_ [2,3,4,6,45] ?_
 refine cx_ (fun hb5=>?_) (fun hb5=>?_)
 ·
  refine rg_ [6,7] ?_
  refine ret_ ?_
  refine fq_ Tryz.results121 ?_ (hcl:=(by simp [AV.cl,AV.clL,clL_ndC,nd0, -List.map_map]))
  exact rk_ (by unfold withN;rw [if_neg (fun h=>h hb1),hbd,cond_false,if_neg (by omega),if_neg (by omega),if_pos hb5];rfl)
 refine skp_ ?_
 refine hK1 _ ?_
 refine rs_ [2,3,4,6,8] ?_
 refine sg_ ?_
 refine cl_ (hc:=c149 n.ents _ 158 [.ptr (h.length+1) 0] (gtS s) _ _ (by omega) (fun e=>c158 (h.length+1) s e _ _ (by simp only [push_cast])) (by simp [AV.cl,AV.clL])) (k:=?_)
 refine sre_ ?_
 refine sk_ fun K2 hK2=>?_
 refine rg_ [2,3,4,6,8,56] ?_
 refine cx_ (fun hb6=>?_) (fun hb6=>?_)
 ·
  have hspl:(n.ents.length:Int)=(spot n.ents s:Nat):=by rw [spot_neg hb6]
  refine rt_ [2,3,4,6,8] ?_
  refine srn_ ?_
  refine hK2 _ ?_
  refine rs_ [6,7] ?_
  refine sg_ ?_
  try simp only [hspl]
  refine cl_ (hc:=c159 n (spot n.ents s) (spot n.ents s) [(s,id)] _ _ _ ho hsl hsl (by simp) (by simp)) (k:=?_)
  refine srt_ ?_
  refine fq_ Tryz.results121 ?_ (hcl:=(by simp [AV.cl,AV.clL,clL_ndC,nd0, -List.map_map]))
  exact rk_ (by unfold withN;rw [if_neg (fun h=>h hb1),hbd,cond_false,if_neg (by omega),if_neg (by omega),if_neg (by omega)];rfl)
 have hsp:=spot_pos hb6
 simp only [hsp]
 refine skp_ ?_
 refine hK2 _ ?_
 refine rs_ [6,7] ?_
 refine sg_ ?_
 try simp only [hspl]
 refine cl_ (hc:=c159 n (spot n.ents s) (spot n.ents s) [(s,id)] _ _ _ ho hsl hsl (by simp) (by simp)) (k:=?_)
 refine srt_ ?_
 refine fq_ Tryz.results121 ?_ (hcl:=(by simp [AV.cl,AV.clL,clL_ndC,nd0, -List.map_map]))
 exact rk_ (by unfold withN;rw [if_neg (fun h=>h hb1),hbd,cond_false,if_neg (by omega),if_neg (by omega),if_neg (by omega)];rfl)
end Go.Proofs.YtjmlgeckgieaaaaGreat
namespace Go.Proofs.YtjmlgeckgieaaaaGreat
open Go.Ab
set_option maxRecDepth 8000
set_option maxHeartbeats 400000
def zRest:List AV:=(List.replicate 24 [AV.int .i64 0,.int .i64 0,.int .i64 0,.int .i64 0,.slice [] .full,.slice [] .full,.str []]).flatten
theorem azero_tab:azero Tryz.prog 85=some (.agg (.int .i64 0::zRest)):=by kernel_rfl
theorem tk_tab:tk Tryz.prog 85=some (.agg 169):=by kernel_rfl
theorem zRest_er:AV.erL zRest=tabC (List.replicate 24 nd0):=by kernel_rfl
theorem zRest_len:zRest.length=168:=by kernel_rfl
theorem zRest_take:zRest.take 168=zRest:=List.take_of_length_le (by rw [zRest_len];omega)
def newT (room:Int):Tab:=⟨min (max room 1) 24,List.replicate 24 nd0⟩
theorem newT_room (room:Int):min (max room 1) 24=if 24<(if room<1 then 1 else room) then 24 else if room<1 then 1 else room:=by
 by_cases h:room<1
 · rw [if_pos h,if_neg (by omega)];omega
 ·
  rw [if_neg h]
  by_cases h2:24<room
  · rw [if_pos h2];omega
  · rw [if_neg h2];omega
theorem newT_ok (room:Int):(newT room).Ok where
 lo:=by show 1≤min (max room 1) 24;omega
 hi:=by show min (max room 1) 24≤24;omega
 len:=List.length_replicate
 nd:=fun n hn=>by rw [(List.mem_replicate.1 hn).2];exact ndOk_0
 zero:=fun n hn _=>(List.mem_replicate.1 hn).2
theorem put_ok {T:Tab} (hT:T.Ok) {n:Nd} (hn:NdOk n) (hk:n.kind≠0) (j:Nat):(T.put j n).Ok where
 lo:=hT.lo
 hi:=hT.hi
 len:=by show (T.ns.set j n).length=24;rw [List.length_set];exact hT.len
 nd:=fun m hm=>by
  rcases List.mem_or_eq_of_mem_set hm with h | h
  · exact hT.nd m h
  · rw [h];exact hn
 zero:=fun m hm h0=>by
  rcases List.mem_or_eq_of_mem_set hm with h | h
  · exact hT.zero m h h0
  · exact absurd (h▸h0) hk
def Tab.free (T:Tab):Option Nat:=(List.range T.room.toNat).find? fun i=>(T.at ((i:Int)+1)).isNone
theorem free_at {T:Tab} {i:Nat} (hi:i<T.room.toNat) (h:(T.at ((i:Int)+1)).isNone=true) (hn:∀j,j<i→(T.at ((j:Int)+1)).isNone=false):T.free=some i:=by
 unfold Tab.free
 rw [List.find?_eq_some_iff_append]
 refine ⟨h,List.range i,(List.range (T.room.toNat - i - 1)).map (i+1 + ·),?_,fun a ha=>by simp [hn a (List.mem_range.1 ha)]⟩
 refine List.ext_getElem (by simp;omega) fun a h1 h2=>?_
 simp only [List.length_range] at h1
 rw [List.getElem_range]
 by_cases ha:a<i
 · rw [List.getElem_append_left (by simpa using ha),List.getElem_range]
 ·
  rw [List.getElem_append_right (by simp;omega)]
  simp only [List.length_range]
  rcases Nat.eq_or_lt_of_le (Nat.le_of_not_lt ha) with h | h
  · subst h;simp
  ·
   rw [List.getElem_cons]
   rw [dif_neg (by omega)]
   simp;omega
theorem free_none {T:Tab} (hn:∀j,j<T.room.toNat→(T.at ((j:Int)+1)).isNone=false):T.free=none:=by
 unfold Tab.free
 rw [List.find?_eq_none]
 intro a ha
 simp [hn a (List.mem_range.1 ha)]
def addT (T:Tab) (n:Nd):(Int×Int)×Tab:=
 if rightF n=false then ((0,22),T) else match T.free with
  | some i=>(((i:Int)+1,0),T.put i n)
  | none=>((0,28),T)
def putT (T:Tab) (i:Int) (n:Nd):Int×Tab:=match T.at i with
 | none=>(2,T)
 | some j=>if rightF n=false then (22,T) else (0,T.put j n)
theorem addT_ok {T:Tab} (hT:T.Ok) {n:Nd} (hn:NdOk n):(addT T n).2.Ok:=by
 unfold addT
 split
 · exact hT
 ·
  rename_i h
  split
  · exact put_ok hT hn (rightF_kind (by simpa using h)) _
  · exact hT
theorem putT_ok {T:Tab} (hT:T.Ok) {n:Nd} (hn:NdOk n) (i:Int):(putT T i n).2.Ok:=by
 unfold putT
 split
 · exact hT
 ·
  split
  · exact hT
  ·
   rename_i h
   exact put_ok hT hn (rightF_kind (by simpa using h)) _
theorem hcl_tab {h:List Blk} (hH:HCl h) (k:Nat) (T:Tab):HCl (h.set k (tabBlk T)):=HCl.set hH k (cl_tab _ _)
theorem hcl_new {h:List Blk} (hH:HCl h) (T:Tab):HCl (h++[tabBlk T]):=HCl.snoc hH (cl_tab _ _)
theorem setApp {h g:List Blk} {k:Nat} {x y:Blk} (hk:h[k]? = some x):(h++g).set k y=h.set k y++g:=List.set_append_left _ _ (lt_of_get hk)
theorem c45 (room:Int) (h:List Blk) (live:List Nat):ACalls Tryz.prog 45 [.int .i64 room] h live (ret (.ptr h.length 0) (h++[tabBlk (newT room)]) live):=by
 refine aq_ Tryz.func45 fun hH hX=>?_
 have sx:=(And.intro @azero_tab (And.intro @tk_tab sx0))
 refine rg_ [0] ?_
 refine rg_ [2] ?_
 refine ret_ ?_
 refine fe_ (h1:=h++[tabBlk (newT room)]) Tryz.results45 (hh:=⟨h++[_],[],(List.append_nil _).symm,BW.app (BW.refl _) (BW.one (by show tabBlk (newT room)=.cells (AV.erL (_::zRest));simp only [AV.erL,AV.er,zRest_er,Bool.false_eq_true,if_false];exact congrArg (fun z:Int=>Blk.cells (.int .i64 z::tabC (List.replicate 24 nd0))) (newT_room room)))⟩) (hH:=(hcl_new hH _)) (hK:=?_)
 exact rk_ rfl
theorem c24 (T:Tab) (k:Nat) (n:Nd) (h:List Blk) (live:List Nat) (hk:h[k]? = some (tabBlk T)) (hT:T.Ok) (hn:NdOk n):ACalls Tryz.prog 24 [.ptr k 0,.agg (ndC n)] h live (ret (.tup [.int .i64 (addT T n).1.1,.int .i64 (addT T n).1.2]) (h.set k (tabBlk (addT T n).2)) live):=by
 refine aq_ Tryz.func24 fun hH hX=>?_
 have hkl:=lt_of_get hk
 have hs1:∀(y:Blk) (g:List Blk),(h++g).set k y=h.set k y++g:=fun y g=>setApp hk
 have hs2:∀g:List Blk,(h++g)[k]? = some (tabBlk T):=fun g=>atApp hk
 obtain ⟨hlo,hhi,hlen, -, -⟩:=id hT
 have hB:HCl (h++[.cells (ndC n)]):=HCl.snoc hH (clL_ndC _ _)
 have hroom:((T.room.toNat:Nat):Int)=T.room:=by omega
 have sx:=(And.intro @hs1 (And.intro @hs2 (And.intro @hk (And.intro @tab_put sx0))))
 refine rg_ [0,3] ?_
 refine sk_ fun K1 hK1=>?_
 refine rs_ [0,3,9] ?_
 refine sg_ ?_
 refine cl_ (hc:=c59 n _ _ hn) (k:=?_)
 refine sre_ ?_
 refine cy_ (fun hb1=>?_) (fun hb1=>?_)
 ·
  refine rg_ [4,5] ?_
  refine ret_ ?_
  refine gq_ (h1:=h.set k (tabBlk T)) Tryz.results24 ?_ (hh:=(by rw [set_self hk];exact ⟨_,rfl⟩)) (hH:=(hcl_tab hH _ _))
  exact ⟨by unfold addT;rw [if_pos (by simpa using hb1)],by unfold addT;rw [if_pos (by simpa using hb1)],rfl⟩
 refine skp_ ?_
 refine hK1 _ ?_
 refine sk_ fun K2 hK2=>?_
 refine rs_ [0,3,11,12] ?_
 refine sg_ ?_
 refine cl_ (hc:=c42 T k _ _ (atApp hk)) (k:=?_)
 refine sre_ ?_
 refine awp_block ?_
 refine lp_ (X:={i:Nat // i≤T.room.toNat∧∀j,j<i→(T.at ((j:Int)+1)).isNone=false}) (fun x=>⟨Tryz.f24.ntmps,fget [(0,.ptr k 0),(3,.ptr h.length 0),(11,.int .i64 T.room),(12,.int .i64 (x.1:Nat))],h++[.cells (ndC n)],live⟩) (fun x=>T.room.toNat - x.1) (⟨0,by omega,fun j hj=>by omega⟩) ?_ (fun ⟨i,hi,hno⟩=>?_)
 ·
  try dsimp only
  exact tf_ hB (fun _ h=>h)
 try dsimp only
 refine rg_ [0,3,11,12,13] ?_
 refine sk_ fun K3 hK3=>?_
 refine cx_ (fun hb2=>?_) (fun hb2=>?_)
 rotate_left
 ·
  have hfr:T.free=none:=free_none fun j hj=>hno j (by omega)
  refine awp_exit (up_ ?_)
  refine hK2 _ ?_
  refine rg_ [4,5] ?_
  refine ret_ ?_
  refine gq_ (h1:=h.set k (tabBlk T)) Tryz.results24 ?_ (hh:=(by rw [set_self hk];exact ⟨_,rfl⟩)) (hH:=(hcl_tab hH _ _))
  exact ⟨by unfold addT;rw [if_neg (by simpa using hb1),hfr],by unfold addT;rw [if_neg (by simpa using hb1),hfr],rfl⟩
 have hil:i<T.room.toNat:=by omega
 have hil24:i<24:=by omega
 refine skp_ ?_
 refine hK3 _ ?_
 refine sk_ fun K4 hK4=>?_
 refine awp_block ?_
 refine rg_ [0,3,6,11,12] ?_
 refine rs_ [0,3,6,11,12,19] ?_
 refine sg_ ?_
 refine cl_ (hc:=c58 T k _ _ _ (atApp hk) hT) (k:=?_)
 refine dawp_p rfl (np_eql k (T.at ((i:Int)+1)) _) rfl rfl ?_
 refine re_ ?_
 refine cy_ (fun hb3=>?_) (fun hb3=>?_)
 ·
  have hfr:=free_at hil hb3 hno
  refine rsq_ [6] ⟨true,[],[],[],[],[],0⟩ (fun _=>⟨by kernel_rfl,by kernel_rfl⟩) ?_
  refine sg_ ?_
  refine cr_ (hc:=c31 n _ _ hn) (k:=?_)
  refine sre_ ?_
  refine rg_ [4,5] ?_
  refine ret_ ?_
  refine gq_ (h1:=h.set k (tabBlk (T.put i n))) Tryz.results24 ?_ (hh:=(⟨_,rfl⟩)) (hH:=(hcl_tab hH _ _))
  exact ⟨by unfold addT;rw [if_neg (by simpa using hb1),hfr],by unfold addT;rw [if_neg (by simpa using hb1),hfr],rfl⟩
 refine skp_ ?_
 refine hK4 _ ?_
 refine rt_ [0,3,11,12] ?_
 refine srn_ ?_
 refine ln_ ⟨i+1,by omega,fun j hj=>by rcases Nat.lt_succ_iff_lt_or_eq.1 hj with h | h;exact hno j h;subst h;exact hb3⟩ ?_
 try dsimp only
 exact tf_ hB (fun _ h=>h)
theorem pn22 (T:Tab) (k:Nat) (i:Int) (n:Nd) (h:List Blk) (live:List Nat) (hk:h[k]? = some (tabBlk T)) (hT:T.Ok) (hn:NdOk n) (ha:T.at i=none):AC Tryz.prog 22 [.ptr k 0,.int .i64 i,.agg (ndC n)] h live (.int .i64 2):=by
 refine aq_ Tryz.func22 fun hH hX=>?_
 have sx:=(And.intro @ha sx0)
 refine rg_ [0,1,5] ?_
 refine rs_ [5,7] ?_
 refine sg_ ?_
 refine cl_ (hc:=c58 T k i _ _ (atApp hk) hT) (k:=?_)
 refine sre_ ?_
 refine sk_ fun K1 hK1=>?_
 refine rg_ [5,7,12] ?_
 refine cdy_ (ht:=fun hb1=>?_) (hf:=fun hb1=>?_)
 ·
  refine rg_ [6] ?_
  refine ret_ ?_
  refine fq_ Tryz.results22 ?_
  exact rk_ rfl
 exfalso;exact Bool.noConfusion hb1
theorem ps22 (T:Tab) (k:Nat) (i:Int) (n:Nd) (h:List Blk) (live:List Nat) (hk:h[k]? = some (tabBlk T)) (hT:T.Ok) (hn:NdOk n) (j:Nat) (ha:T.at i=some j):ACalls Tryz.prog 22 [.ptr k 0,.int .i64 i,.agg (ndC n)] h live (ret (.int .i64 (if rightF n=false then 22 else 0)) (h.set k (tabBlk (if rightF n=false then T else T.put j n))) live):=by
 refine aq_ Tryz.func22 fun hH hX=>?_
 have hkl:=lt_of_get hk
 have hs1:∀(y:Blk) (g:List Blk),(h++g).set k y=h.set k y++g:=fun y g=>setApp hk
 have hs2:∀g:List Blk,(h++g)[k]? = some (tabBlk T):=fun g=>atApp hk
 obtain ⟨hj,hij,hir,hkd⟩:=at_some hT ha
 have sx:=(And.intro @ha (And.intro @hs1 (And.intro @hs2 (And.intro @hk (And.intro @tab_put sx0)))))
 refine rg_ [0,1,5] ?_
 refine rs_ [5,7] ?_
 refine sg_ ?_
 refine cl_ (hc:=c58 T k i _ _ (atApp hk) hT) (k:=?_)
 refine sre_ ?_
 refine sk_ fun K1 hK1=>?_
 refine rg_ [5,7,12] ?_
 refine cdn_ (ht:=fun hb1=>?_) (hf:=fun hb1=>?_)
 · exfalso;exact Bool.noConfusion hb1
 refine skp_ ?_
 refine hK1 _ ?_
 refine sk_ fun K2 hK2=>?_
 refine rs_ [5,7,15] ?_
 refine sg_ ?_
 refine cl_ (hc:=c59 n _ _ hn) (k:=?_)
 refine sre_ ?_
 refine cy_ (fun hb2=>?_) (fun hb2=>?_)
 ·
  refine rg_ [6] ?_
  refine ret_ ?_
  refine gq_ (h1:=h.set k (tabBlk T)) Tryz.results22 ?_ (hh:=(by rw [set_self hk];exact ⟨_,rfl⟩)) (hH:=(hcl_tab hH _ _))
  exact ⟨by rw [if_pos (by simpa using hb2)],by rw [if_pos (by simpa using hb2)],rfl⟩
 refine skp_ ?_
 refine hK2 _ ?_
 refine rsq_ [] ⟨true,[],[],[],[],[],0⟩ (fun h=>nomatch h) ?_
 refine sg_ ?_
 refine cr_ (hc:=c31 n _ _ hn) (k:=?_)
 refine sre_ ?_
 refine rg_ [6] ?_
 refine ret_ ?_
 refine gq_ (h1:=h.set k (tabBlk (T.put j n))) Tryz.results22 ?_ (hh:=(⟨_,rfl⟩)) (hH:=(hcl_tab hH _ _))
 exact ⟨by rw [if_neg (by simpa using hb2)],by rw [if_neg (by simpa using hb2)],rfl⟩
set_option maxRecDepth 8000 in
theorem c22 (T:Tab) (k:Nat) (i:Int) (n:Nd) (h:List Blk) (live:List Nat) (hk:h[k]? = some (tabBlk T)) (hT:T.Ok) (hn:NdOk n):ACalls Tryz.prog 22 [.ptr k 0,.int .i64 i,.agg (ndC n)] h live (ret (.int .i64 (putT T i n).1) (h.set k (tabBlk (putT T i n).2)) live):=by
 unfold putT
 rcases ha:T.at i with _ | j
 ·
  have:=pn22 T k i n h live hk hT hn ha
  simp only [set_self hk];exact this
 ·
  have:=ps22 T k i n h live hk hT hn j ha
  by_cases hr:rightF n=false
  · simp only [if_pos hr] at this ⊢;exact this
  · simp only [if_neg hr] at this ⊢;exact this
structure Rw where
 kind:Int
 mode:Int
 uid:Int
 gid:Int
 parent:Int
 name:List UInt8
 data:List UInt8
 target:List UInt8
 node:Int
def rwC (r:Rw):List AV:=[.int .i64 r.kind,.int .i64 r.mode,.int .i64 r.uid,.int .i64 r.gid,.int .i64 r.parent,.str r.name,.slice (r.data.map bV) .none,.str r.target,.int .i64 r.node]
def rV (r:Rw):AV:=.agg (rwC r)
def rw0:Rw:=⟨0,0,0,0,0,[],[],[],0⟩
structure RwOk (r:Rw):Prop where
 name:r.name.length≤1000
 data:r.data.length≤1000
 target:r.target.length≤1000
def madeF (r:Rw):Nd:=⟨r.kind,r.mode,r.uid,r.gid,r.data,[],r.target⟩
theorem madeF_ok {r:Rw} (h:RwOk r):NdOk (madeF r):=⟨h.data,Nat.zero_le _,h.target,fun e he=>by cases he⟩
def toldF (T:Tab) (r:Rw):(Int×Int)×Tab:=
 if r.kind≠4 then addT T (madeF r) else if (T.get r.node).2=false then ((0,2),T) else if (T.get r.node).1.kind=2 then ((0,1),T) else ((r.node,0),T)
theorem toldF_ok {T:Tab} (hT:T.Ok) {r:Rw} (hr:RwOk r):(toldF T r).2.Ok:=by
 unfold toldF
 split
 · exact addT_ok hT (madeF_ok hr)
 ·
  split
  · exact hT
  ·
   split
   · exact hT
   · exact hT
def oneF (T:Tab) (r:Rw):Int×Tab:=
 if (T.get r.parent).2=false then (2,T)
 else if (toldF T r).1.2≠0 then ((toldF T r).1.2,(toldF T r).2)
 else if (withN ((toldF T r).2.get r.parent).1 r.name (toldF T r).1.1).2≠0 then ((withN ((toldF T r).2.get r.parent).1 r.name (toldF T r).1.1).2,(toldF T r).2)
 else putT (toldF T r).2 r.parent (withN ((toldF T r).2.get r.parent).1 r.name (toldF T r).1.1).1
theorem oneF_ok {T:Tab} (hT:T.Ok) {r:Rw} (hr:RwOk r):(oneF T r).2.Ok:=by
 have h1:=toldF_ok hT hr
 unfold oneF
 split
 · exact hT
 ·
  split
  · exact h1
  ·
   split
   · exact h1
   · exact putT_ok h1 (withN_ok (get_ok h1 _) (Nat.le_trans hr.name (by decide))) _
theorem rwC_len (r:Rw):(rwC r).length=9:=rfl
theorem rwC_0 (n:Rw):(rwC n)[0]? = some (.int .i64 n.kind):=rfl
theorem rwC_1 (n:Rw):(rwC n)[1]? = some (.int .i64 n.mode):=rfl
theorem rwC_2 (n:Rw):(rwC n)[2]? = some (.int .i64 n.uid):=rfl
theorem rwC_3 (n:Rw):(rwC n)[3]? = some (.int .i64 n.gid):=rfl
theorem rwC_4 (n:Rw):(rwC n)[4]? = some (.int .i64 n.parent):=rfl
theorem rwC_5 (n:Rw):(rwC n)[5]? = some (.str n.name):=rfl
theorem rwC_6 (n:Rw):(rwC n)[6]? = some (.slice (n.data.map bV) .none):=rfl
theorem rwC_7 (n:Rw):(rwC n)[7]? = some (.str n.target):=rfl
theorem rwC_8 (n:Rw):(rwC n)[8]? = some (.int .i64 n.node):=rfl
theorem rwTake (n:Rw):(rwC n).take 9=rwC n:=rfl
theorem rwPut (a b c d e f g h i:AV) (n:Rw):putAt [a,b,c,d,e,f,g,h,i] 0 (rwC n)=rwC n:=rfl
attribute [push_cast] rwC_len rwC_0 rwC_1 rwC_2 rwC_3 rwC_4 rwC_5 rwC_6 rwC_7 rwC_8 rwTake rwPut
theorem clL_rwC (m:Nat) (n:Rw):AV.clL m (rwC n):=by simp [rwC,AV.clL,AV.cl,clL_bV, -List.map_map]
theorem drop_map_rV (l:List Rw) (i:Nat):List.drop i (List.map rV l)=List.map rV (List.drop i l):=List.map_drop.symm
theorem er_rwC (n:Rw):AV.erL (rwC n)=rwC n:=by simp [rwC,AV.erL,AV.er,erL_bV, -List.map_map]
theorem getD_rV {l:List Rw} {i:Nat} {d:AV} (h:i<l.length):(l.map rV).getD i d=.agg (rwC (l.getD i rw0)):=by
 simp [List.getD_eq_getElem?_getD,h,rV]
theorem allSz_rV (l:List Rw):allSz (l.map rV) 9↔True:=iff_true_intro (allSz_map _ _ _ fun _=>rfl)
attribute [push_cast] getD_rV allSz_rV
theorem clL_rV (n:Nat) (l:List Rw):AV.clL n (l.map rV):=by
 rw [AV.clL_mem];intro x hx;obtain ⟨y, _,rfl⟩:=List.mem_map.1 hx;exact clL_rwC _ _
theorem madeF_cells (r:Rw):ndC (madeF r)=[.int .i64 r.kind,.int .i64 r.mode,.int .i64 r.uid,.int .i64 r.gid,.slice (r.data.map bV) .none,.slice [] .none,.str r.target]:=rfl
attribute [push_cast] clL_rwC er_rwC clL_rV
theorem c74 (r:Rw) (h:List Blk) (live:List Nat):AC Tryz.prog 74 [.agg (rwC r)] h live (.agg (ndC (madeF r))):=by
 refine aq_ Tryz.func74 fun hH hX=>?_
 refine rg_ [1,2] ?_
 refine rg_ [2] ?_
 refine ret_ ?_
 refine fq_ Tryz.results74 ?_ (hx:=by (simp only [atuple,AV.er,AV.erL,push_cast,madeF_cells])<;>rfl) (hcl:=(by simp [AV.cl,AV.clL,clL_bV, -List.map_map]))
 exact rk_ rfl
theorem c120 (T:Tab) (k:Nat) (r:Rw) (h:List Blk) (live:List Nat) (hk:h[k]? = some (tabBlk T)) (hT:T.Ok) (hr:RwOk r):ACalls Tryz.prog 120 [.agg (rwC r),.ptr k 0] h live (ret (.tup [.int .i64 (toldF T r).1.1,.int .i64 (toldF T r).1.2]) (h.set k (tabBlk (toldF T r).2)) live):=by
 refine aq_ Tryz.func120 fun hH hX=>?_
 have hkl:=lt_of_get hk
 have hs1:∀(y:Blk) (g:List Blk),(h++g).set k y=h.set k y++g:=fun y g=>setApp hk
 have hs2:∀g:List Blk,(h++g)[k]? = some (tabBlk T):=fun g=>atApp hk
 have sx:=(And.intro @hs1 sx0)
 refine rg_ [1,2] ?_
 refine sk_ fun K1 hK1=>?_
 refine rg_ [1,2,10] ?_
 refine cx_ (fun hb1=>?_) (fun hb1=>?_)
 ·
  refine rs_ [4,5] ?_
  refine sg_ ?_
  refine cl_ (hc:=c74 r _ _) (k:=?_)
  refine cl_ (hc:=c24 T k (madeF r) _ _ (atApp hk) hT (madeF_ok hr)) (k:=?_)
  refine srt_ ?_
  refine gq_ (h1:=h.set k (tabBlk (addT T (madeF r)).2)) Tryz.results120 ?_ (hh:=(⟨_,rfl⟩)) (hH:=(hcl_tab hH _ _))
  exact ⟨by unfold toldF;rw [if_pos hb1],by unfold toldF;rw [if_pos hb1],rfl⟩
 refine skp_ ?_
 refine hK1 _ ?_
 refine rs_ [2,6,7] ?_
 refine sg_ ?_
 refine cl_ (hc:=c21 T k _ _ _ (atApp hk) hT) (k:=?_)
 refine sre_ ?_
 refine sk_ fun K2 hK2=>?_
 refine awp_block ?_
 refine rg_ [2,6,24] ?_
 refine cx_ (fun hb2=>?_) (fun hb2=>?_)
 ·
  refine rg_ [4,5] ?_
  refine ret_ ?_
  refine gq_ (h1:=h.set k (tabBlk T)) Tryz.results120 ?_ (hh:=(by rw [set_self hk];exact ⟨_,rfl⟩)) (hH:=(hcl_tab hH _ _))
  exact ⟨by unfold toldF;rw [if_neg (fun h=>h hb1),if_pos hb2],by unfold toldF;rw [if_neg (fun h=>h hb1),if_pos hb2],rfl⟩
 refine rg_ [2,27] ?_
 refine cx_ (fun hb3=>?_) (fun hb3=>?_)
 ·
  refine rg_ [4,5] ?_
  refine ret_ ?_
  refine gq_ (h1:=h.set k (tabBlk T)) Tryz.results120 ?_ (hh:=(by rw [set_self hk];exact ⟨_,rfl⟩)) (hH:=(hcl_tab hH _ _))
  exact ⟨by unfold toldF;rw [if_neg (fun h=>h hb1),if_neg (by simp [hb2]),if_pos hb3],by unfold toldF;rw [if_neg (fun h=>h hb1),if_neg (by simp [hb2]),if_pos hb3],rfl⟩
 refine skp_ ?_
 refine hK2 _ ?_
 refine rg_ [4,5] ?_
 refine ret_ ?_
 refine gq_ (h1:=h.set k (tabBlk T)) Tryz.results120 ?_ (hh:=(by rw [set_self hk];exact ⟨_,rfl⟩)) (hH:=(hcl_tab hH _ _))
 exact ⟨by unfold toldF;rw [if_neg (fun h=>h hb1),if_neg (by simp [hb2]),if_neg hb3],by unfold toldF;rw [if_neg (fun h=>h hb1),if_neg (by simp [hb2]),if_neg hb3],rfl⟩
theorem c75 (T:Tab) (k:Nat) (r:Rw) (h:List Blk) (live:List Nat) (hk:h[k]? = some (tabBlk T)) (hT:T.Ok) (hr:RwOk r):ACalls Tryz.prog 75 [.agg (rwC r),.ptr k 0] h live (ret (.int .i64 (oneF T r).1) (h.set k (tabBlk (oneF T r).2)) live):=by
 refine aq_ Tryz.func75 fun hH hX=>?_
 have hkl:=lt_of_get hk
 have hs1:∀(y:Blk) (g:List Blk),(h++g).set k y=h.set k y++g:=fun y g=>setApp hk
 have hs2:∀g:List Blk,(h++g)[k]? = some (tabBlk T):=fun g=>atApp hk
 have hT1:=toldF_ok hT hr
 have hg:∀(x:Tab) (g:List Blk),(h.set k (tabBlk x)++g)[k]? = some (tabBlk x):=fun x g=>get_setapp hkl
 have hr1:=hr.name
 have sx:=(And.intro @hs1 sx0)
 refine rg_ [1,2] ?_
 refine rg_ [1,2,5] ?_
 refine sk_ fun K1 hK1=>?_
 refine rs_ [1,2,5,7] ?_
 refine sg_ ?_
 refine cl_ (hc:=c21 T k _ _ _ (atApp hk) hT) (k:=?_)
 refine sre_ ?_
 refine rg_ [1,2,5,22] ?_
 refine cx_ (fun hb1=>?_) (fun hb1=>?_)
 ·
  refine rg_ [4] ?_
  refine ret_ ?_
  refine gq_ (h1:=h.set k (tabBlk T)) Tryz.results75 ?_ (hh:=(by rw [set_self hk];exact ⟨_,rfl⟩)) (hH:=(hcl_tab hH _ _))
  exact ⟨by unfold oneF;rw [if_pos hb1],by unfold oneF;rw [if_pos hb1],rfl⟩
 refine skp_ ?_
 refine hK1 _ ?_
 refine rs_ [1,2,5,8,9] ?_
 refine sg_ ?_
 refine cl_ (hc:=c120 T k r _ _ (atApp hk) hT hr) (k:=?_)
 refine sre_ ?_
 refine sk_ fun K2 hK2=>?_
 refine rg_ [1,2,5,8,9,30] ?_
 refine cx_ (fun hb2=>?_) (fun hb2=>?_)
 ·
  refine rg_ [4] ?_
  refine ret_ ?_
  refine gq_ (h1:=h.set k (tabBlk (toldF T r).2)) Tryz.results75 ?_ (hH:=(hcl_tab hH _ _))
  exact ⟨by unfold oneF;rw [if_neg (by simp [hb1]),if_pos hb2],by unfold oneF;rw [if_neg (by simp [hb1]),if_pos hb2],rfl⟩
 refine skp_ ?_
 refine hK2 _ ?_
 refine rs_ [1,2,8,10] ?_
 refine sg_ ?_
 refine cl_ (hc:=c21 (toldF T r).2 k _ _ _ (hg _ _) hT1) (k:=?_)
 refine sre_ ?_
 refine rs_ [1,2,9,10] ?_
 refine sg_ ?_
 refine cl_ (hc:=c121 _ _ _ _ _ (get_ok hT1 _) (by omega)) (k:=?_)
 refine sre_ ?_
 refine sk_ fun K3 hK3=>?_
 refine rg_ [1,2,9,10,48] ?_
 refine cx_ (fun hb3=>?_) (fun hb3=>?_)
 ·
  refine rg_ [4] ?_
  refine ret_ ?_
  refine gq_ (h1:=h.set k (tabBlk (toldF T r).2)) Tryz.results75 ?_ (hH:=(hcl_tab hH _ _))
  exact ⟨by unfold oneF;rw [if_neg (by simp [hb1]),if_neg (fun h=>h hb2),if_pos hb3],by unfold oneF;rw [if_neg (by simp [hb1]),if_neg (fun h=>h hb2),if_pos hb3],rfl⟩
 refine skp_ ?_
 refine hK3 _ ?_
 refine rs_ [4] ?_
 refine sg_ ?_
 refine cl_ (hc:=c22 (toldF T r).2 k _ _ _ _ (hg _ _) hT1 (withN_ok (get_ok hT1 _) (Nat.le_trans hr.name (by decide)))) (k:=?_)
 refine srt_ ?_
 refine gq_ (h1:=h.set k (tabBlk (putT (toldF T r).2 r.parent (withN ((toldF T r).2.get r.parent).1 r.name (toldF T r).1.1).1).2)) Tryz.results75 ?_ (hH:=(hcl_tab hH _ _))
 exact ⟨by unfold oneF;rw [if_neg (by simp [hb1]),if_neg (fun h=>h hb2),if_neg (fun h=>h hb3)],by unfold oneF;rw [if_neg (by simp [hb1]),if_neg (fun h=>h hb2),if_neg (fun h=>h hb3)],rfl⟩
def restF (T:Tab) (i:Nat):List Rw→Int×Int⊕Tab
 | []=>.inr T
 | r::l=>if (oneF T r).1≠0 then .inl ((i:Int)+1,(oneF T r).1) else restF (oneF T r).2 (i+1) l
def buildF (room:Int) (l:List Rw):(Int×Int)⊕Tab:=
 bif (decide ((l.length:Int)=0)||!decide ((l.getD 0 rw0).kind=2)||!decide ((l.getD 0 rw0).parent=0)||!decide ((l.getD 0 rw0).name=[])) then .inl (0,22)
 else if (addT (newT room) (madeF (l.getD 0 rw0))).1.2≠0 then .inl (0,(addT (newT room) (madeF (l.getD 0 rw0))).1.2)
 else restF (addT (newT room) (madeF (l.getD 0 rw0))).2 0 (l.drop 1)
theorem restF_get (T:Tab) (i:Nat) {l:List Rw} {m:Nat} (hm:m<l.length):restF T i (l.drop m)=if (oneF T (l.getD m rw0)).1≠0 then .inl ((i:Int)+1,(oneF T (l.getD m rw0)).1) else restF (oneF T (l.getD m rw0)).2 (i+1) (l.drop (m+1)):=by
 rw [List.drop_eq_getElem_cons hm]
 simp only [restF,List.getD_eq_getElem?_getD,List.getElem?_eq_getElem hm,Option.getD_some]
def bI:(Int×Int)⊕Tab→Int
 | .inl (i, _)=>i
 | .inr _=>0
def bE:(Int×Int)⊕Tab→Int
 | .inl (_,e)=>e
 | .inr _=>0
def bP (h:List Blk) (o:(Int×Int)⊕Tab) (p:AV):Prop:=match o with
 | .inl _=>p=.raw (.pointer none)
 | .inr T=>∃k,p=.ptr k 0∧h[k]? = some (tabBlk T)
def buildK (h:List Blk) (live:List Nat) (o:(Int×Int)⊕Tab):KT:=fun x h' l'=>l'=live∧∃g p,x=.tup [p,.int .i64 (bI o),.int .i64 (bE o)]∧h'=h++g∧bP h' o p∧p.er=p∧p.cl h'.length∧HCl h'
theorem restF_err:∀(l:List Rw) (T:Tab) (i:Nat) (x:Int×Int),restF T i l=.inl x→x.2≠0
 | [],T,i,x,h=>by cases h
 | r::l,T,i,x,h=>by
  unfold restF at h
  split at h
  · cases h;assumption
  · exact restF_err l _ _ x h
theorem buildF_err {room:Int} {l:List Rw} {x:Int×Int} (h:buildF room l=.inl x):x.2≠0:=by
 unfold buildF at h
 cases hc:(decide ((l.length:Int)=0)||!decide ((l.getD 0 rw0).kind=2)||!decide ((l.getD 0 rw0).parent=0)||!decide ((l.getD 0 rw0).name=[])) with
 | true=>rw [hc,cond_true] at h;cases h;decide
 | false=>
  rw [hc,cond_false] at h
  split at h
  · cases h;assumption
  · exact restF_err _ _ _ x h
theorem restF_ok:∀(l:List Rw) (T:Tab) (i:Nat) (T':Tab),T.Ok→(∀r∈l,RwOk r)→restF T i l=.inr T'→T'.Ok
 | [],T,i,T',hT, _,h=>by cases h;exact hT
 | r::l,T,i,T',hT,hl,h=>by
  unfold restF at h
  split at h
  · cases h
  · exact restF_ok l _ _ T' (oneF_ok hT (hl r (by simp))) (fun r hr=>hl r (by simp [hr])) h
theorem buildF_ok {room:Int} {l:List Rw} {T:Tab} (hl:∀r∈l,RwOk r) (h:buildF room l=.inr T):T.Ok:=by
 unfold buildF at h
 cases hc:(decide ((l.length:Int)=0)||!decide ((l.getD 0 rw0).kind=2)||!decide ((l.getD 0 rw0).parent=0)||!decide ((l.getD 0 rw0).name=[])) with
 | true=>rw [hc,cond_true] at h;cases h
 | false=>
  rw [hc,cond_false] at h
  split at h
  · cases h
  ·
   refine restF_ok _ _ _ T (addT_ok (newT_ok _) (madeF_ok ?_)) (fun r hr=>hl r (List.mem_of_mem_drop hr)) h
   by_cases h0:0<l.length
   · rw [List.getD_eq_getElem?_getD,List.getElem?_eq_getElem h0];exact hl _ (List.getElem_mem h0)
   · rw [List.getD_eq_getElem?_getD,List.getElem?_eq_none (by omega)];exact ⟨by decide,by decide,by decide⟩
theorem getD_ok {l:List Rw} (hl:∀r∈l,RwOk r) (i:Nat):RwOk (l.getD i rw0):=by
 by_cases h:i<l.length
 · rw [List.getD_eq_getElem?_getD,List.getElem?_eq_getElem h];exact hl _ (List.getElem_mem h)
 · rw [List.getD_eq_getElem?_getD,List.getElem?_eq_none (by omega)];exact ⟨by decide,by decide,by decide⟩
theorem c30 (room:Int) (l:List Rw) (h:List Blk) (live:List Nat) (hl:∀r∈l,RwOk r) (hn:l.length≤1000000):ACalls Tryz.prog 30 [.int .i64 room,.slice (l.map rV) .none] h live (buildK h live (buildF room l)):=by
 refine aq_ Tryz.func30 fun hH hX=>?_
 have h0ok:=getD_ok hl 0
 have hT1:=addT_ok (newT_ok room) (madeF_ok h0ok)
 have hL:∀r∈l.drop 1,RwOk r:=fun r hr=>hl r (List.mem_of_mem_drop hr)
 have hLl:(l.drop 1).length=l.length - 1:=List.length_drop
 have htd:List.take (l.length - 1) (List.map rV (List.drop 1 l))=List.map rV (List.drop 1 l):=List.take_of_length_le (by rw [List.length_map,hLl];exact Nat.le_refl _)
 have sx:=(And.intro @drop_map_rV (And.intro @htd sx0))
 refine rg_ [0,1] ?_
 refine sk_ fun K1 hK1=>?_
 refine rg_ [0,1,36] ?_
 refine cy_ (fun hb1=>?_) (fun hb1=>?_)
 ·
  refine rg_ [4,5,6] ?_
  refine ret_ ?_
  refine fq_ Tryz.results30 ?_
  unfold buildF;rw [hb1,cond_true];exact ⟨rfl,[], _,rfl,(List.append_nil _).symm,rfl,rfl,trivial,hH⟩
 have hb1':=hb1
 simp only [decide_eq_true_eq,decide_eq_false_iff_not,Bool.not_eq_true',Bool.not_eq_false',Bool.or_eq_true,Bool.and_eq_true,Bool.or_eq_false_iff,Bool.and_eq_false_imp,Int.not_lt,Int.not_le] at hb1'
 refine skp_ ?_
 refine hK1 _ ?_
 refine rs_ [1,7] ?_
 refine sg_ ?_
 refine cl_ (hc:=c45 room _ _) (k:=?_)
 refine sre_ ?_
 refine sk_ fun K2 hK2=>?_
 refine rs_ [1,7,9] ?_
 refine sg_ ?_
 refine cl_ (hc:=c74 _ _ _) (k:=?_)
 refine cl_ (hc:=c24 (newT room) h.length (madeF (l.getD 0 rw0)) _ _ (by simp only [push_cast]) (newT_ok _) (madeF_ok h0ok)) (k:=?_)
 refine sre_ ?_
 refine rg_ [1,7,9,49] ?_
 refine cx_ (fun hb2=>?_) (fun hb2=>?_)
 ·
  refine rg_ [4,5,6] ?_
  refine ret_ ?_
  refine fq_ Tryz.results30 ?_
  unfold buildF;rw [hb1,cond_false,if_pos hb2];exact ⟨rfl,[], _,rfl,(List.append_nil _).symm,rfl,rfl,trivial,hH⟩
 refine skp_ ?_
 refine hK2 _ ?_
 refine sk_ fun K3 hK3=>?_
 refine rg_ [7,52,53,54] ?_
 refine awp_block ?_
 refine lp_ (X:={p:Nat×Tab // p.1≤(l.drop 1).length∧p.2.Ok∧restF (addT (newT room) (madeF (l.getD 0 rw0))).2 0 (l.drop 1)=restF p.2 p.1 ((l.drop 1).drop p.1)}) (fun x=>⟨Tryz.f30.ntmps,fget [(7,.ptr h.length 0),(52,.slice ((l.drop 1).map rV) .none),(53,.int .i64 ((l.drop 1).length:Nat)),(54,.int .i64 (x.1.1:Nat))],h++[tabBlk x.1.2],live⟩) (fun x=>(l.drop 1).length - x.1.1) (⟨⟨0,(addT (newT room) (madeF (l.getD 0 rw0))).2⟩,Nat.zero_le _,hT1,rfl⟩) ?_ (fun ⟨⟨i,T⟩,hi,hT,hrest⟩=>?_)
 ·
  try dsimp only
  refine Trunc.of (by first | exact (List.append_nil _).symm | exact rfl | (rw [List.append_assoc];rfl)) ?_ (hcl_new hH _) (fun _ h=>h)
  refine ftc_ ?_ (hc:=by first | trivial | exact clL_rV _ _ | simp [AV.cl,AV.clL])
  refine ftc_ ?_ (hc:=by first | trivial | exact clL_rV _ _ | simp [AV.cl,AV.clL])
  refine ftc_ ?_ (hc:=by first | trivial | exact clL_rV _ _ | simp [AV.cl,AV.clL])
  refine ftc_ ?_ (hc:=by first | trivial | exact clL_rV _ _ | simp [AV.cl,AV.clL])
  exact FTr.nil
 try dsimp only
 dsimp only at hi hT hrest
 have hri:=getD_ok hL i
 refine rg_ [7,52,53,54,55] ?_
 refine sk_ fun K4 hK4=>?_
 refine cx_ (fun hb3=>?_) (fun hb3=>?_)
 rotate_left
 ·
  have hie:i=(l.drop 1).length:=by omega
  subst hie
  refine awp_exit (up_ ?_)
  refine hK3 _ ?_
  refine rg_ [4,5,6] ?_
  refine ret_ ?_
  refine gq_ (h1:=h++[tabBlk T]) Tryz.results30 ?_ (hH:=(hcl_new hH _))
  unfold buildF;rw [hb1,cond_false,if_neg (fun h=>h hb2),hrest,List.drop_length];exact ⟨rfl,[tabBlk T], _,rfl,rfl,⟨h.length,rfl,by simp⟩,rfl,by simp [AV.cl],hcl_new hH _⟩
 have hil:i<(l.drop 1).length:=by omega
 refine skp_ ?_
 refine hK4 _ ?_
 refine sk_ fun K5 hK5=>?_
 refine awp_block ?_
 refine rg_ [7,10,11,52,53,54] ?_
 refine rs_ [7,10,12,52,53,54] ?_
 refine sg_ ?_
 refine cl_ (hc:=c75 T h.length ((l.drop 1).getD i rw0) _ _ (by simp only [push_cast]) hT hri) (k:=?_)
 refine sre_ ?_
 refine rg_ [7,10,12,52,53,54,63] ?_
 refine cx_ (fun hb4=>?_) (fun hb4=>?_)
 ·
  refine rg_ [4,5,6] ?_
  refine ret_ ?_
  refine fq_ Tryz.results30 ?_
  unfold buildF;rw [hb1,cond_false,if_neg (fun h=>h hb2),hrest,restF_get T i hil,if_pos hb4];exact ⟨rfl,[], _,rfl,(List.append_nil _).symm,rfl,rfl,trivial,hH⟩
 refine skp_ ?_
 refine hK5 _ ?_
 refine rt_ [7,52,53,54] ?_
 refine srn_ ?_
 refine ln_ ⟨⟨i+1,(oneF T ((l.drop 1).getD i rw0)).2⟩,by dsimp only;omega,oneF_ok hT hri,by rw [hrest,restF_get T i hil,if_neg (fun h=>h hb4)]⟩ ?_
 try dsimp only
 refine Trunc.of (by first | exact (List.append_nil _).symm | exact rfl | (rw [List.append_assoc];rfl)) ?_ (hcl_new hH _) (fun _ h=>h)
 refine ftc_ ?_ (hc:=by first | trivial | exact clL_rV _ _ | simp [AV.cl,AV.clL])
 refine ftc_ ?_ (hc:=by first | trivial | exact clL_rV _ _ | simp [AV.cl,AV.clL])
 refine ftc_ ?_ (hc:=by first | trivial | exact clL_rV _ _ | simp [AV.cl,AV.clL])
 refine ftc_ ?_ (hc:=by first | trivial | exact clL_rV _ _ | simp [AV.cl,AV.clL])
 exact FTr.nil
def bigR (r:Rw):Bool:=decide ((40:Int)<r.name.length)||decide ((100:Int)<r.data.length)||decide ((100:Int)<r.target.length)
def builtF (room:Int) (l:List Rw) (c:Cr):Option Tab:=
 bif (decide ((50:Int)<l.length)||decide ((10:Int)<c.gs.length)) then none
 else bif l.any bigR then none else match buildF room l with
  | .inl _=>none
  | .inr T=>some T
theorem builtF_ok {room:Int} {l:List Rw} {c:Cr} {T:Tab} (h:builtF room l c=some T):T.Ok∧c.gs.length≤10:=by
 unfold builtF at h
 cases h1:(decide ((50:Int)<l.length)||decide ((10:Int)<c.gs.length)) with
 | true=>rw [h1] at h;cases h
 | false=>
  rw [h1,cond_false] at h
  cases h2:l.any bigR with
  | true=>rw [h2] at h;cases h
  | false=>
   rw [h2,cond_false] at h
   split at h
   · cases h
   ·
    rename_i T' hT
    cases h
    simp only [Bool.or_eq_false_iff,decide_eq_false_iff_not,Int.not_lt] at h1
    refine ⟨buildF_ok (fun r hr=>?_) hT,by omega⟩
    have:=List.any_eq_false.1 h2 r hr
    simp only [bigR,Bool.not_eq_true,Bool.or_eq_false_iff,decide_eq_false_iff_not,Int.not_lt] at this
    exact ⟨by omega,by omega,by omega⟩
theorem any_getD_f {α:Type} {p:α→Bool} {l:List α} (d:α) (h:∀j,j<l.length→p (l.getD j d)=false):l.any p=false:=by
 rw [List.any_eq_false]
 intro x hx
 obtain ⟨j,hj,rfl⟩:=List.mem_iff_getElem.1 hx
 have:=h j hj
 simp [List.getD_eq_getElem?_getD,hj] at this
 simp [this]
theorem any_getD_t {α:Type} {p:α→Bool} {l:List α} (d:α) {j:Nat} (hj:j<l.length) (h:p (l.getD j d)=true):l.any p=true:=by
 rw [List.any_eq_true]
 exact ⟨l.getD j d,by simp [List.getD_eq_getElem?_getD,hj],h⟩
theorem small_ok {l:List Rw} (h:l.any bigR=false):∀r∈l,RwOk r:=fun r hr=>by
 have:=List.any_eq_false.1 h r hr
 simp only [bigR,Bool.not_eq_true,Bool.or_eq_false_iff,decide_eq_false_iff_not,Int.not_lt] at this
 exact ⟨by omega,by omega,by omega⟩
def builtK (h:List Blk) (live:List Nat) (o:Option Tab):KT:=fun x h' l'=>l'=live∧∃g p,x=.tup [p,.bool o.isSome]∧h'=h++g∧p.cl h'.length∧∀T,o=some T→∃k,p=.ptr k 0∧h'[k]? = some (tabBlk T)
theorem c9 (room:Int) (l:List Rw) (c:Cr) (h:List Blk) (live:List Nat) (hn:l.length≤9223372036854775807) (hgs:c.gs.length≤9223372036854775807):ACalls Tryz.prog 9 [.int .i64 room,.slice (l.map rV) .none,.agg [.int .i64 c.uid,.int .i64 c.gid,.slice (c.gs.map iV) .none]] h live (builtK h live (builtF room l c)):=by
 refine aq_ Tryz.func9 fun hH hX=>?_
 have hB:HCl (h++[.cells [.int .i64 c.uid,.int .i64 c.gid,.slice (c.gs.map iV) .none]]):=HCl.snoc hH (by simp [Blk.cl,AV.cl,AV.clL,clL_iV, -List.map_map])
 refine rg_ [0,1,5] ?_
 refine sk_ fun K1 hK1=>?_
 refine rg_ [0,1,20] ?_
 refine cy_ (fun hb1=>?_) (fun hb1=>?_)
 ·
  refine rg_ [6,7] ?_
  refine ret_ ?_
  refine fq_ Tryz.results9 ?_
  unfold builtF;rw [hb1,cond_true];exact ⟨rfl,[], _,rfl,(List.append_nil _).symm,trivial,fun T hT=>by cases hT⟩
 have hb1':=hb1
 simp only [decide_eq_true_eq,decide_eq_false_iff_not,Bool.not_eq_true',Bool.not_eq_false',Bool.or_eq_true,Bool.and_eq_true,Bool.or_eq_false_iff,Bool.and_eq_false_imp,Int.not_lt,Int.not_le] at hb1'
 refine skp_ ?_
 refine hK1 _ ?_
 refine sk_ fun K2 hK2=>?_
 refine rg_ [0,1,8] ?_
 refine awp_block ?_
 refine lp_ (X:={i:Nat // i≤l.length∧∀j,j<i→bigR (l.getD j rw0)=false}) (fun x=>⟨Tryz.f9.ntmps,fget [(0,.int .i64 room),(1,.slice (l.map rV) .none),(8,.int .i64 (x.1:Nat))],h++[.cells [.int .i64 c.uid,.int .i64 c.gid,.slice (c.gs.map iV) .none]],live⟩) (fun x=>l.length - x.1) (⟨0,by omega,fun j hj=>by omega⟩) ?_ (fun ⟨i,hi,hno⟩=>?_)
 ·
  try dsimp only
  refine Trunc.of (by first | exact (List.append_nil _).symm | exact rfl | (rw [List.append_assoc];rfl)) ?_ hB (fun _ h=>h)
  refine ftc_ ?_ (hc:=by first | trivial | exact clL_rV _ _ | simp [AV.cl,AV.clL])
  refine ftc_ ?_ (hc:=by first | trivial | exact clL_rV _ _ | simp [AV.cl,AV.clL])
  refine ftc_ ?_ (hc:=by first | trivial | exact clL_rV _ _ | simp [AV.cl,AV.clL])
  exact FTr.nil
 try dsimp only
 refine sk_ fun K3 hK3=>?_
 refine rg_ [0,1,8,24] ?_
 refine cx_ (fun hb2=>?_) (fun hb2=>?_)
 rotate_left
 ·
  have hie:i=l.length:=by omega
  subst hie
  have hal:l.any bigR=false:=any_getD_f rw0 hno
  have hok:=small_ok hal
  refine awp_exit (up_ ?_)
  refine hK2 _ ?_
  refine rs_ [9,11] ?_
  refine sg_ ?_
  refine ck_ (k:=?_)
  refine (c30 room l _ _ hok (by omega)).mono ?_;rintro _ _ _ ⟨rfl,g,p,rfl,rfl,hbp,hper,hpc,hHg⟩
  refine sre_ ?_
  refine rg_ [6,7] ?_
  refine ret_ ?_
  refine fin_gen (h1:=h++([.cells [.int .i64 c.uid,.int .i64 c.gid,.slice (c.gs.map iV) .none]]++g)) (live:=_) (by (simp (disch:=omega) only [Tryz.results9,aresults,aresult,push_cast,↓reduceIte,Nat.reduceEqDiff,Nat.reduceAdd,Nat.reduceLeDiff])<;>rfl) (.inr (by simp only [atuple,AV.er,AV.erL,hper];rfl)) (by simp only [AV.cl,AV.clL];rw [←List.append_assoc];exact ⟨hpc,trivial,trivial⟩) (⟨[],by simp⟩) (by rw [←List.append_assoc];exact hHg) (by simp) (fun _ h=>h) ?_
  refine ⟨rfl, _,p,?_,rfl,by rw [←List.append_assoc];exact hpc,fun T hT=>?_⟩
  ·
   unfold builtF
   rw [hb1,cond_false,hal,cond_false]
   show AV.tup [p,.bool (decide (bE (buildF room l)=0))]=_
   cases ho:buildF room l with
   | inl x=>have:=buildF_err ho;exact congrArg (fun b=>AV.tup [p,.bool b]) (decide_eq_false this)
   | inr T=>rfl
  ·
   unfold builtF at hT
   rw [hb1,cond_false,hal,cond_false] at hT
   cases ho:buildF room l with
   | inl x=>rw [ho] at hT;cases hT
   | inr T'=>rw [ho] at hT hbp;cases hT;rw [←List.append_assoc];exact hbp
 have hil:i<l.length:=by omega
 refine skp_ ?_
 refine hK3 _ ?_
 refine sk_ fun K4 hK4=>?_
 refine awp_block ?_
 refine rg_ [0,1,8,51] ?_
 refine cy_ (fun hb3=>?_) (fun hb3=>?_)
 ·
  have hal:l.any bigR=true:=any_getD_t rw0 hil hb3
  refine rg_ [6,7] ?_
  refine ret_ ?_
  refine fq_ Tryz.results9 ?_
  unfold builtF;rw [hb1,cond_false,hal,cond_true];exact ⟨rfl,[], _,rfl,(List.append_nil _).symm,trivial,fun T hT=>by cases hT⟩
 refine skp_ ?_
 refine hK4 _ ?_
 refine rt_ [0,1,8] ?_
 refine srn_ ?_
 refine ln_ ⟨i+1,by omega,fun j hj=>by rcases Nat.lt_succ_iff_lt_or_eq.1 hj with h | h;exact hno j h;subst h;exact hb3⟩ ?_
 try dsimp only
 refine Trunc.of (by first | exact (List.append_nil _).symm | exact rfl | (rw [List.append_assoc];rfl)) ?_ hB (fun _ h=>h)
 refine ftc_ ?_ (hc:=by first | trivial | exact clL_rV _ _ | simp [AV.cl,AV.clL])
 refine ftc_ ?_ (hc:=by first | trivial | exact clL_rV _ _ | simp [AV.cl,AV.clL])
 refine ftc_ ?_ (hc:=by first | trivial | exact clL_rV _ _ | simp [AV.cl,AV.clL])
 exact FTr.nil
end Go.Proofs.YtjmlgeckgieaaaaGreat
namespace Go.Proofs.YtjmlgeckgieaaaaGreat
open Go.Ab
set_option maxRecDepth 8000
set_option maxHeartbeats 400000
def nmL (n:Nd):List (List UInt8):=n.ents.map (·.1)
def kdL (n:Nd):List Int:=n.ents.map (·.2)
theorem nmL_len (n:Nd):(nmL n).length=n.ents.length:=List.length_map _
theorem kdL_len (n:Nd):(kdL n).length=n.ents.length:=List.length_map _
def nvC (n:Nd):List AV:=[.int .i64 n.kind,.int .i64 n.mode,.int .i64 n.uid,.int .i64 n.gid,.str n.data,.slice ((nmL n).map .str) .none,.slice ((kdL n).map iV) .none,.str n.target]
def nV (n:Nd):AV:=.agg (nvC n)
theorem nvC_len (n:Nd):(nvC n).length=8:=rfl
theorem nvC_0 (n:Nd):(nvC n)[0]? = some (.int .i64 n.kind):=rfl
theorem nvC_1 (n:Nd):(nvC n)[1]? = some (.int .i64 n.mode):=rfl
theorem nvC_2 (n:Nd):(nvC n)[2]? = some (.int .i64 n.uid):=rfl
theorem nvC_3 (n:Nd):(nvC n)[3]? = some (.int .i64 n.gid):=rfl
theorem nvC_4 (n:Nd):(nvC n)[4]? = some (.str n.data):=rfl
theorem nvC_5 (n:Nd):(nvC n)[5]? = some (.slice ((nmL n).map .str) .none):=rfl
theorem nvC_6 (n:Nd):(nvC n)[6]? = some (.slice ((kdL n).map iV) .none):=rfl
theorem nvC_7 (n:Nd):(nvC n)[7]? = some (.str n.target):=rfl
theorem nvTake (n:Nd):(nvC n).take 8=nvC n:=rfl
theorem nvPut (a b c d e f g h:AV) (n:Nd):putAt [a,b,c,d,e,f,g,h] 0 (nvC n)=nvC n:=rfl
theorem nvPut' (m n:Nd):putAt (nvC m) 0 (nvC n)=nvC n:=rfl
attribute [push_cast] nvC_len nvC_0 nvC_1 nvC_2 nvC_3 nvC_4 nvC_5 nvC_6 nvC_7 nvTake nvPut nvPut'
theorem clL_nvC (m:Nat) (n:Nd):AV.clL m (nvC n):=by simp [nvC,AV.clL,AV.cl,clL_str,clL_iV, -List.map_map]
theorem erL_strs (l:List (List UInt8)):AV.erL (l.map .str)=l.map .str:=by rw [AV.erL_map,List.map_map];rfl
theorem er_nvC (n:Nd):AV.erL (nvC n)=nvC n:=by simp [nvC,AV.erL,AV.er,erL_strs,erL_iV, -List.map_map]
theorem clL_nV (n:Nat) (l:List Nd):AV.clL n (l.map nV):=by
 rw [AV.clL_mem];intro x hx;obtain ⟨y, _,rfl⟩:=List.mem_map.1 hx;exact clL_nvC _ _
theorem erL_nV (l:List Nd):AV.erL (l.map nV)=l.map nV:=by
 rw [AV.erL_map,List.map_map]
 exact List.map_congr_left fun n _=>congrArg AV.agg (er_nvC n)
theorem getD_nV {l:List Nd} {i:Nat} {d:AV} (h:i<l.length):(l.map nV).getD i d=.agg (nvC (l.getD i nd0)):=by
 simp [List.getD_eq_getElem?_getD,h,nV]
theorem allSz_nV (l:List Nd):allSz (l.map nV) 8↔True:=iff_true_intro (allSz_map _ _ _ fun _=>rfl)
attribute [push_cast] getD_nV allSz_nV
theorem cells_nV (l:List Nd):∀y∈l.map nV,y.cells.length=8:=by
 intro y hy;obtain ⟨a, _,rfl⟩:=List.mem_map.1 hy;rfl
theorem cat_put {α:Type} (f:α→List AV) (s:Nat) (hf:∀x,(f x).length=s):∀(l:List α) (j:Nat) (x:α) (r:List AV),j<l.length→putAt (l.flatMap f++r) (j*s) (f x)=(l.set j x).flatMap f++r
 | y::l,0,x,r, _=>by
  rw [Nat.zero_mul,List.flatMap_cons,List.append_assoc,putAt_eq _ _ _ (by simp [hf]),List.set_cons_zero,List.flatMap_cons,hf]
  simp [hf]
 | y::l,j+1,x,r,h=>by
  have hl:(j+1)*s=(f y).length+j*s:=by rw [hf,Nat.add_mul];omega
  rw [List.flatMap_cons,List.append_assoc,hl,putAt_right,cat_put f s hf l j x r (by simpa using h),List.set_cons_succ,List.flatMap_cons,List.append_assoc]
theorem cat_el {α:Type} (f:α→List AV) (s:Nat) (hf:∀x,(f x).length=s):∀(l:List α) (j:Nat) (r:List AV) (h:j<l.length),(((l.flatMap f++r).drop (j*s)).take s)=f l[j]
 | y::l,0,r, _=>by
  rw [Nat.zero_mul,List.drop_zero,List.flatMap_cons,List.append_assoc]
  exact List.take_left' (hf y)
 | y::l,j+1,r,h=>by
  have hl:(j+1)*s=(f y).length+j*s:=by rw [hf,Nat.add_mul];omega
  rw [List.flatMap_cons,List.append_assoc,hl,List.drop_append,List.drop_of_length_le (by omega),List.nil_append,Nat.add_sub_cancel_left]
  exact cat_el f s hf l j r (by simpa using h)
theorem cat_frozen {α:Type} (f:α→List AV) (s:Nat) (hf:∀x,(f x).length=s) (l:List α) (r:List AV):((List.range l.length).map fun i=>mkEl true (((l.flatMap f++r).drop (0+i*s)).take s))=l.map fun x=>.agg (f x):=by
 refine List.ext_getElem (by simp) fun i h1 h2=>?_
 simp only [List.length_map,List.length_range] at h1
 rw [List.getElem_map,List.getElem_map,List.getElem_range,Nat.zero_add,cat_el f s hf l i r h1]
 rfl
theorem cat_len {α:Type} (f:α→List AV) (s:Nat) (hf:∀x,(f x).length=s):∀(l:List α),(l.flatMap f).length=l.length*s
 | []=>by simp
 | y::l=>by rw [List.flatMap_cons,List.length_append,hf,cat_len f s hf l,List.length_cons,Nat.add_mul];omega
theorem flat_nV (l:List Nd):flat (l.map nV)=l.flatMap nvC:=by
 induction l with
 | nil=>rfl
 | cons n l ih=>simp only [flat,List.map_cons,List.flatMap_cons] at ih ⊢;rw [ih];rfl
theorem rep_cat (n:Nat) (z:List AV) (hz:0<z.length):rep n z=(List.replicate n ()).flatMap fun _=>z:=by
 have hc:∀m,(List.replicate m ()).flatMap (fun _=>z)=flat (List.replicate m (AV.agg z)):=fun m=>by
  induction m with
  | zero=>rfl
  | succ m ih=>rw [List.replicate_succ,List.replicate_succ,List.flatMap_cons,ih];rfl
 have hm:∀y∈List.replicate n (AV.agg z),y.cells.length=z.length:=fun y hy=>by rw [(List.mem_replicate.1 hy).2];rfl
 rw [hc]
 refine List.ext_getElem (by rw [rep_length,flat_length hm,List.length_replicate]) fun q h1 h2=>?_
 rw [rep_length] at h1
 have hd:=divmod_lt (sz:=z.length) (n:=n) h1
 have:=flat_getD hm (i:=q / z.length) (j:=q%z.length) (by rw [List.length_replicate];exact hd.1) hd.2.1
 rw [hd.2.2] at this
 rw [List.getD_eq_getElem?_getD,List.getElem?_eq_getElem h2,Option.getD_some] at this
 rw [this]
 simp only [rep,List.getElem_map,List.getElem_range]
 rw [List.getD_eq_getElem?_getD (l:=List.replicate n (AV.agg z)),List.getElem?_replicate,if_pos hd.1]
 rfl
def zN:List AV:=[.int .i64 0,.int .i64 0,.int .i64 0,.int .i64 0,.str [],.slice [] .full,.slice [] .full,.str []]
theorem erL_rep (r:Nat):AV.erL (List.replicate r (AV.agg zN))=(List.replicate r nd0).map nV:=by
 rw [AV.erL_map,List.map_replicate,List.map_replicate];rfl
theorem new_frz (r:Nat) (h:List Blk) (x:Blk) (live:List Nat):((AV.agg [.bsl (h.length+1) 0 8 true r r]).frz (h++[x,.cells (rep r zN)]) h.length).er=.agg [.slice ((List.replicate r nd0).map nV) .none]:=by
 have hg:(h++[x,Blk.cells (rep r zN)])[h.length+1]? = some (.cells (rep r zN)):=by
  rw [List.getElem?_append_right (by omega),show h.length+1 - h.length=1 by omega];rfl
 have hc:=cat_frozen (fun _:Unit=>zN) 8 (fun _=>rfl) (List.replicate r ()) []
 rw [List.append_nil,←rep_cat r zN (by decide),List.length_replicate] at hc
 simp only [AV.frz,AV.frzL]
 rw [if_pos (by omega),hg]
 simp only []
 rw [if_pos ⟨by rw [rep_length];show 0+r*8≤r*8;omega,by decide,.inl trivial⟩,hc,List.map_replicate]
 simp only [AV.er,AV.erL,erL_rep]
theorem set_frz (L:List Nd) (j:Nat) (hj:j<L.length) (n:Nd) (h:List Blk) (x y z:Blk) (cap:Nat) (r:List AV) :
 ((AV.agg [.bsl (h.length+3) 0 8 true L.length cap]).frz (h++[x,y,z,.cells (putAt (L.flatMap nvC++r) (j*8) (nvC n))]) h.length).er=.agg [.slice ((L.set j n).map nV) .none]:=by
 have hg:(h++[x,y,z,Blk.cells (putAt (L.flatMap nvC++r) (j*8) (nvC n))])[h.length+3]? = some (.cells ((L.set j n).flatMap nvC++r)):=by
  rw [List.getElem?_append_right (by omega),show h.length+3 - h.length=3 by omega,cat_put nvC 8 nvC_len L j n r hj];rfl
 have hc:=cat_frozen nvC 8 nvC_len (L.set j n) r
 rw [List.length_set] at hc
 simp only [AV.frz,AV.frzL]
 rw [if_pos (by omega),hg]
 simp only []
 rw [if_pos ⟨by rw [List.length_append,cat_len nvC 8 nvC_len,List.length_set];omega,by decide,.inl trivial⟩,hc]
 simp only [AV.er,AV.erL]
 exact congrArg (fun l=>AV.agg [.slice l .none]) (erL_nV (L.set j n))
def tV (L:List Nd):AV:=.agg [.slice (L.map nV) .none]
theorem nm_step {n:Nd} {i:Nat} (h:i<n.ents.length):List.map AV.str ((nmL n).take i)++[.str (n.ents.getD i ([],0)).1]=((nmL n).take (i+1)).map AV.str:=by
 rw [List.take_succ_eq_append_getElem (by rw [nmL_len];exact h),List.map_append]
 simp [nmL,List.getD_eq_getElem?_getD,h]
theorem kd_step {n:Nd} {i:Nat} (h:i<n.ents.length):List.map iV ((kdL n).take i)++[.int .i64 (n.ents.getD i ([],0)).2]=((kdL n).take (i+1)).map iV:=by
 rw [List.take_succ_eq_append_getElem (by rw [kdL_len];exact h),List.map_append]
 simp [kdL,List.getD_eq_getElem?_getD,h,iV]
theorem cells_strs' (l:List (List UInt8)):∀y∈l.map AV.str,y.cells.length=1:=by
 intro y hy;obtain ⟨x, _,rfl⟩:=List.mem_map.1 hy;rfl
attribute [push_cast] clL_nvC erL_strs er_nvC clL_nV erL_nV erL_rep
theorem c41 (r:Nat) (h:List Blk) (live:List Nat) (h1:1≤r) (h24:r≤24):AC Tryz.prog 41 [.int .i64 r] h live (tV (List.replicate r nd0)):=by
 refine aq_ Tryz.func41 fun hH hX=>?_
 refine rg_ [0,2] ?_
 refine rg_ [2,3] ?_
 refine sk_ fun K1 hK1=>?_
 refine rg_ [2,3,6] ?_
 refine cx_ (fun hb1=>?_) (fun hb1=>?_)
 · exfalso;omega
 refine skp_ ?_
 refine hK1 _ ?_
 refine sk_ fun K2 hK2=>?_
 refine rg_ [2,3,8] ?_
 refine cx_ (fun hb2=>?_) (fun hb2=>?_)
 · exfalso;omega
 refine skp_ ?_
 refine hK2 _ ?_
 refine rs_ [2] ?_
 refine sg_ ?_
 refine dawp_w rfl rfl rfl rfl (AOp.makeSlice _ _ _ rfl Ty.makeT_40 (n:=r) (m:=r) rfl rfl (by omega) (by omega) (by omega) ?_)
 refine srt_ ?_
 refine fz_ (h1:=h) Tryz.results41 (hx:=(new_frz r h _ live)) (hcl:=(by exact ⟨clL_nV _ _,trivial⟩)) (hK:=?_)
 exact rk_ rfl
theorem c43 (L:List Nd) (j:Nat) (n:Nd) (h:List Blk) (live:List Nat) (hj:j<L.length) (hL:L.length≤1000):AC Tryz.prog 43 [tV L,.int .i64 ((j:Int)+1),.agg (nvC n)] h live (tV (L.set j n)):=by
 refine aq_ Tryz.func43 fun hH hX=>?_
 unfold tV
 have hcl:(L.flatMap nvC).length=L.length*8:=cat_len nvC 8 nvC_len L
 have sx:=(And.intro @flat_nV (And.intro @if_and_t (And.intro @bq_n (And.intro @bq_b (And.intro @Int.add_sub_cancel (And.intro @Nat.zero_add (And.intro @hcl sx0)))))))
 refine rg_ [1,3,5,6] ?_
 refine rg_ [1,3,5,6,7] ?_
 refine rs_ [1,5,6,7] ?_
 refine sg_ ?_
 refine dawp_w rfl rfl rfl rfl (AOp.appendM _ _ _ rfl Ty.makeT_40 (by (simp (disch:=omega) only [push_cast])<;>rfl) (by (simp (disch:=omega) only [push_cast])<;>rfl) (by simp;omega) (cells_nV _) (by simp;omega) (by simp;omega) ?_)
 intro cap rn
 refine sre_ ?_
 refine rg_ [6,7] ?_
 refine rg_ [6] ?_
 refine ret_ ?_
 refine fz_ (h1:=h) Tryz.results43 (hx:=(set_frz L j hj n h _ _ _ _ _)) (hcl:=(by exact ⟨clL_nV _ _,trivial⟩)) (hK:=?_)
 exact rk_ rfl
theorem cap_mid {l l1:List Nat} {c d c1:Cap} (hd:CapOK l d) (hcd:∀u,c=.own u→d≠.own u) (k1:Keeps l c l1 c1):CapOK l1 d:=by
 rcases hd with rfl | ⟨t,rfl,ht⟩
 · exact .inl rfl
 · exact .inr ⟨t,rfl,(k1.2 t ht (fun e=>hcd t e rfl)).1⟩
theorem two_caps {live l l1 l2:List Nat} {c d c1 d1:Cap} (hd:CapOK l d) (hcd:∀u,c=.own u→d≠.own u) (hlv:∀u∈live,u∈l∧c≠.own u∧d≠.own u) (k1:Keeps l c l1 c1) (k2:Keeps l1 d l2 d1) :
 CapOK l2 c1∧CapOK l2 d1∧(∀u,c1=.own u→d1≠.own u)∧∀u∈live,u∈l2∧c1≠.own u∧d1≠.own u:=by
 have hne:∀u,c1=.own u→d≠.own u:=fun u hu e=>by
  rcases hd with rfl | ⟨t,rfl,ht⟩
  · cases e
  ·
   cases e
   exact (k1.2 u ht (fun e=>hcd u e rfl)).2 hu
 have hc1:∀u,c1=.own u→u∈l1:=fun u hu=>by
  rcases k1.1 with h | ⟨t,h,ht⟩
  · rw [h] at hu;cases hu
  · rw [h] at hu;cases hu;exact ht
 refine ⟨?_,k2.1,fun u hu=>(k2.2 u (hc1 u hu) (hne u hu)).2,fun u hu=>?_⟩
 ·
  rcases k1.1 with h | ⟨t,h,ht⟩
  · exact .inl h
  · exact .inr ⟨t,h,(k2.2 t ht (hne t h)).1⟩
 ·
  obtain ⟨h1,h2,h3⟩:=hlv u hu
  have a:=k1.2 u h1 h2
  have b:=k2.2 u a.1 h3
  exact ⟨b.1,a.2,b.2⟩
theorem c44 (n:Nd) (h:List Blk) (live:List Nat) (hn:NdOk n):AC Tryz.prog 44 [.agg (ndC n)] h live (.agg (nvC n)):=by
 refine aq_ Tryz.func44 fun hH hX=>?_
 obtain ⟨hn1,hn2,hn3, -⟩:=hn
 have hnl:=nmL_len n
 have hkl:=kdL_len n
 have hB:∀a b (c d:Cap),HCl (h++[.cells (ndC n),.cells [.int .i64 0,.int .i64 0,.int .i64 0,.int .i64 0,.str [],.slice [] .full,.slice [] .full,.str []],.cells [.int .i64 n.kind,.int .i64 n.mode,.int .i64 n.uid,.int .i64 n.gid,.str n.data,.slice (((nmL n).take a).map .str) c,.slice (((kdL n).take b).map iV) d,.str n.target]]):=fun a b c d=>by
  have:=HCl.snoc (HCl.snoc (HCl.snoc (b:=.cells (ndC n)) hH (clL_ndC _ _)) (b:=.cells [.int .i64 0,.int .i64 0,.int .i64 0,.int .i64 0,.str [],.slice [] .full,.slice [] .full,.str []]) (by simp [Blk.cl,AV.clL,AV.cl])) (b:=.cells [.int .i64 n.kind,.int .i64 n.mode,.int .i64 n.uid,.int .i64 n.gid,.str n.data,.slice (((nmL n).take a).map .str) c,.slice (((kdL n).take b).map iV) d,.str n.target]) (by simp [Blk.cl,AV.clL,AV.cl,clL_str,clL_iV, -List.map_take, -List.map_map])
  rw [List.append_assoc,List.append_assoc] at this;exact this
 have sx:=(And.intro @nm_step (And.intro @kd_step sx0))
 refine rg_ [1,2] ?_
 refine rg_ [1,2,3] ?_
 refine sk_ fun K1 hK1=>?_
 refine rg_ [1,2,3,4] ?_
 refine awp_block ?_
 refine lp_ (X:={p:Nat×Cap×Cap×List Nat // p.1≤n.ents.length∧CapOK p.2.2.2 p.2.1∧CapOK p.2.2.2 p.2.2.1∧(∀u,p.2.1=.own u→p.2.2.1≠.own u)∧∀u∈live,u∈p.2.2.2∧p.2.1≠.own u∧p.2.2.1≠.own u}) (fun x=>⟨Tryz.f44.ntmps,fget [(1,.ptr h.length 0),(2,.ptr (h.length+1) 0),(3,.ptr (h.length+2) 0),(4,.int .i64 (x.1.1:Nat))],h++[.cells (ndC n),.cells [.int .i64 0,.int .i64 0,.int .i64 0,.int .i64 0,.str [],.slice [] .full,.slice [] .full,.str []],.cells [.int .i64 n.kind,.int .i64 n.mode,.int .i64 n.uid,.int .i64 n.gid,.str n.data,.slice (((nmL n).take x.1.1).map .str) x.1.2.1,.slice (((kdL n).take x.1.1).map iV) x.1.2.2.1,.str n.target]],x.1.2.2.2⟩) (fun x=>n.ents.length - x.1.1) (⟨⟨0,.full,.full,live⟩,Nat.zero_le _,.inl rfl,.inl rfl,(fun u hu=>by cases hu),fun u hu=>⟨hu,Cap.noConfusion,Cap.noConfusion⟩⟩) ?_ (fun ⟨⟨i,c,d,live'⟩,hi,hc,hd,hcd,hlv⟩=>?_)
 ·
  try dsimp only
  exact tf_ (hB _ _ _ _) (fun _ h=>h)
 try dsimp only
 dsimp only at hi hc hd hcd hlv
 refine sk_ fun K2 hK2=>?_
 refine rg_ [1,2,3,4,23] ?_
 refine cx_ (fun hb1=>?_) (fun hb1=>?_)
 rotate_left
 ·
  have hie:i=n.ents.length:=by omega
  subst hie
  refine awp_exit (up_ ?_)
  refine hK1 _ ?_
  refine rg_ [2] ?_
  refine ret_ ?_
  refine fq_ Tryz.results44 ?_ (hcl:=(by simp [AV.cl,AV.clL,clL_str,clL_iV, -List.map_map, -List.map_take])) (hl:=(fun u hu=>(hlv u hu).1))
  exact rk_ (by rw [←hnl,List.take_of_length_le (by simp),hnl,←hkl,List.take_of_length_le (by simp)];rfl)
 have hil:i<n.ents.length:=by omega
 refine skp_ ?_
 refine hK2 _ ?_
 refine sk_ fun K3 hK3=>?_
 refine awp_block ?_
 refine rsq_ [1,2,3,4] ⟨false,[],[],[],[],[],0⟩ (fun _=>⟨by kernel_rfl,by kernel_rfl⟩) ?_
 refine sg_ ?_
 refine ap_ (a:=hc) (b:=cells_strs' _) (c':=by simp [AV.cells]) (d:=by simp;omega) (e:=by simp;omega) (k:=?_)
 intro c35 live35 hk35
 refine sre_ ?_
 refine rtq_ [1,2,3,4] ⟨false,[],[],[],[],[],0⟩ (fun _=>⟨by kernel_rfl,by kernel_rfl⟩) ?_
 refine sg_ ?_
 refine ap_ (a:=cap_mid hd hcd hk35) (b:=cells_iV _) (c':=by simp [AV.cells]) (d:=by simp;omega) (e:=by simp;omega) (k:=?_)
 intro c46 live46 hk46
 refine srn_ ?_
 refine hK3 _ ?_
 refine rt_ [1,2,3,4] ?_
 refine srn_ ?_
 refine ln_ ⟨⟨i+1,c35,c46,live46⟩,by dsimp only;omega,two_caps hd hcd hlv hk35 hk46⟩ ?_
 try dsimp only
 exact tf_ (hB _ _ _ _) (fun _ h=>h)
end Go.Proofs.YtjmlgeckgieaaaaGreat
namespace Go.Proofs.YtjmlgeckgieaaaaGreat
open Go.Ab
set_option maxRecDepth 8000
set_option maxHeartbeats 400000
def refL (T:Tab):List Nd:=T.ns.take T.room.toNat
def stL (T:Tab) (m:Nat):List Nd:=T.ns.take m++List.replicate (T.room.toNat - m) nd0
theorem refL_len {T:Tab} (hT:T.Ok):(refL T).length=T.room.toNat:=by
 have h1:=hT.len;have h2:=hT.hi;have h3:=hT.lo
 unfold refL;rw [List.length_take];omega
theorem stL_len {T:Tab} (hT:T.Ok) {m:Nat} (hm:m≤T.room.toNat):(stL T m).length=T.room.toNat:=by
 have h1:=hT.len;have h2:=hT.hi;have h3:=hT.lo
 unfold stL;rw [List.length_append,List.length_take,List.length_replicate];omega
theorem stL_all {T:Tab}:stL T T.room.toNat=refL T:=by
 unfold stL refL;rw [Nat.sub_self];simp
theorem stL_0 (T:Tab):stL T 0=List.replicate T.room.toNat nd0:=by unfold stL;simp
theorem stL_set {T:Tab} (hT:T.Ok) {m:Nat} (hm:m<T.room.toNat):(stL T m).set m (T.ns.getD m nd0)=stL T (m+1):=by
 have h1:=hT.len;have h2:=hT.hi;have h3:=hT.lo
 unfold stL
 rw [List.set_append_right _ _ (by rw [List.length_take];omega),List.length_take,Nat.min_eq_left (by omega),Nat.sub_self,
  show T.room.toNat - m=(T.room.toNat - (m+1))+1 by omega,List.replicate_succ,List.set_cons_zero,List.take_succ_eq_append_getElem (show m<T.ns.length by omega),List.append_assoc,List.singleton_append,List.getD_eq_getElem?_getD,List.getElem?_eq_getElem (show m<T.ns.length by omega),Option.getD_some]
theorem stL_no {T:Tab} (hT:T.Ok) {m:Nat} (hm:m<T.room.toNat) (h:T.at ((m:Int)+1)=none):stL T m=stL T (m+1):=by
 have h1:=hT.len;have h2:=hT.hi;have h3:=hT.lo
 have hk:(T.ns.getD m nd0).kind=0:=by
  unfold Tab.at at h
  by_cases hc:(T.ns.getD m nd0).kind=0
  · exact hc
  · rw [if_pos ⟨by omega,by omega,by rw [show ((m:Int)+1 - 1).toNat=m by omega];exact hc⟩] at h;cases h
 have hz:T.ns.getD m nd0=nd0:=by
  rw [List.getD_eq_getElem?_getD,List.getElem?_eq_getElem (by omega)] at hk ⊢
  exact hT.zero _ (List.getElem_mem _) hk
 rw [←stL_set hT hm,hz]
 unfold stL
 rw [List.set_append_right _ _ (by rw [List.length_take];omega),List.length_take,Nat.min_eq_left (by omega),Nat.sub_self,
  show T.room.toNat - m=(T.room.toNat - (m+1))+1 by omega,List.replicate_succ,List.set_cons_zero]
theorem at_m {T:Tab} (hT:T.Ok) {m:Nat} (j:Nat) (h:T.at ((m:Int)+1)=some j):j=m:=by
 have:=(at_some hT h).2.1;omega
theorem get_step {T:Tab} (hT:T.Ok) {m:Nat} (h:(T.get ((m:Int)+1)).2=true):(T.get ((m:Int)+1)).1=T.ns.getD m nd0:=by
 cases ha:T.at ((m:Int)+1) with
 | none=>rw [get_no ha] at h;cases h
 | some j=>rw [get_at ha,at_m hT j ha]
theorem at_of_get {T:Tab} {i:Int} (h:(T.get i).2=false):T.at i=none:=by
 cases ha:T.at i with
 | none=>rfl
 | some j=>rw [get_at ha] at h;cases h
def rGet (L:List Nd) (i:Int):Nd:=bif (decide (i<1)||decide ((L.length:Int)<i)) then nd0 else L.getD (i - 1).toNat nd0
def rIs (L:List Nd) (i:Int):Bool:=decide (1≤i)&&decide (i≤L.length)&&!decide ((L.getD (i - 1).toNat nd0).kind=0)
def hasK (i:Int) (n:Nd):Bool:=(kdL n).any fun y=>decide (y=i)
def rPar (L:List Nd) (i:Int):Int:=if idxP (hasK i) L<0 then 0 else idxP (hasK i) L+1
def rCan (L:List Nd) (c:Cr) (i w:Int):Bool:=!decide ((rGet L i).kind=0)&&canF c (rGet L i).uid (rGet L i).gid (rGet L i).mode w
def rWayL (L:List Nd) (c:Cr):Nat→Int→Bool
 | 0, _=>false
 | n+1,d=>if d=1 then true else bif rCan L c (rPar L d) 1 then rWayL L c n (rPar L d) else false
def rWay (L:List Nd) (c:Cr) (d:Int):Bool:=bif decide ((rGet L d).kind=2) then rWayL L c 24 d else false
def rSeenAt (L:List Nd) (c:Cr) (i:Int) (d:Nat):Bool:=hasK i (L.getD d nd0)&&rWay L c ((d:Int)+1)&&rCan L c ((d:Int)+1) 1
def rSeen (L:List Nd) (c:Cr) (i:Int):Bool:=rIs L i&&(decide (i=1)||(List.range L.length).any (rSeenAt L c i))
theorem rWayL_m (T:List Nd) (c:Cr) {m:Nat} (hm:m<24) (d:Int):rWayL T c (24 - m) d=if d=1 then true else bif rCan T c (rPar T d) 1 then rWayL T c (24 - (m+1)) (rPar T d) else false:=by
 rw [show 24 - m=(24 - (m+1))+1 by omega];rfl
theorem rPar_at {L:List Nd} {i:Int} {d:Nat} (hd:d<L.length) (h:hasK i (L.getD d nd0)=true) (hn:∀j,j<d→hasK i (L.getD j nd0)=false):rPar L i=(d:Int)+1:=by
 unfold rPar;rw [idxP_at nd0 hd h hn,if_neg (by omega)]
theorem rPar_no {L:List Nd} {i:Int} (hn:∀j,j<L.length→hasK i (L.getD j nd0)=false):rPar L i=0:=by
 unfold rPar;rw [idxP_none nd0 hn,if_pos (by omega)]
theorem getD_kd {n:Nd} {i:Nat} {d:AV} (h:i<n.ents.length):((kdL n).map iV).getD i d=.int .i64 ((kdL n).getD i 0):=getD_iV (by rw [kdL_len];exact h)
theorem hasK_t {i:Int} {n:Nd} {k:Nat} (hk:k<n.ents.length) (h:(kdL n).getD k 0=i):hasK i n=true:=any_getD_t 0 (by rw [kdL_len];exact hk) (decide_eq_true h)
theorem hasK_f {i:Int} {n:Nd} (h:∀k,k<n.ents.length→(kdL n).getD k 0≠i):hasK i n=false:=any_getD_f 0 fun j hj=>decide_eq_false (h j (by rw [←kdL_len];exact hj))
theorem c16 (T:Tab) (k:Nat) (h:List Blk) (live:List Nat) (hk:h[k]? = some (tabBlk T)) (hT:T.Ok):AC Tryz.prog 16 [.ptr k 0] h live (tV (refL T)):=by
 refine aq_ Tryz.func16 fun hH hX=>?_
 have hkl:=lt_of_get hk
 have hlo:=hT.lo
 have hhi:=hT.hi
 have hr:((T.room.toNat:Nat):Int)=T.room:=by omega
 have hB:∀m,HCl (h++[.cells [.slice [] .full],.cells [.slice ((stL T m).map nV) .none]]):=fun m=>by
  have:=HCl.snoc (HCl.snoc (b:=.cells [.slice [] .full]) hH (by simp [Blk.cl,AV.clL,AV.cl])) (b:=.cells [.slice ((stL T m).map nV) .none]) (by simp [Blk.cl,AV.clL,AV.cl,clL_nV, -List.map_map])
  rw [List.append_assoc] at this;exact this
 have hlen:∀m,m≤T.room.toNat→(stL T m).length=T.room.toNat:=fun m hm=>stL_len hT hm
 refine rg_ [0,2] ?_
 refine rs_ [0,2,3] ?_
 refine sg_ ?_
 refine cl_ (hc:=c42 T k _ _ (atApp hk)) (k:=?_)
 refine cl_ (hc:=(hr▸c41 T.room.toNat _ _ (by omega) (by omega))) (k:=?_)
 refine sre_ ?_
 refine sk_ fun K1 hK1=>?_
 refine rg_ [0,2,3,4] ?_
 refine awp_block ?_
 refine lp_ (X:={m:Nat // m≤T.room.toNat}) (fun x=>⟨Tryz.f16.ntmps,fget [(0,.ptr k 0),(2,.ptr h.length 0),(3,.ptr (h.length+1) 0),(4,.int .i64 ((x.1:Int)+1))],h++[.cells [.slice [] .full],.cells [.slice ((stL T x.1).map nV) .none]],live⟩) (fun x=>T.room.toNat - x.1) (⟨0,by omega⟩) ?_ (fun ⟨m,hm⟩=>?_)
 ·
  try dsimp only
  exact tf_ (hB _) (fun _ h=>h) (hj:=(by first | exact (List.append_nil _).symm | (rw [hgs,stL_set hT hml,List.append_assoc];rfl) | (rw [stL_no hT hml (at_of_get hb2)];rw [List.append_assoc];rfl) | (rw [List.append_assoc];rfl) | (rw [stL_0];exact (List.append_nil _).symm)))
 try dsimp only
 refine sk_ fun K2 hK2=>?_
 refine rs_ [0,2,3,4,13] ?_
 refine sg_ ?_
 refine cl_ (hc:=c42 T k _ _ (atApp hk)) (k:=?_)
 refine sre_ ?_
 refine cx_ (fun hb1=>?_) (fun hb1=>?_)
 rotate_left
 ·
  have hme:m=T.room.toNat:=by omega
  subst hme
  refine awp_exit (up_ ?_)
  refine hK1 _ ?_
  refine rg_ [2] ?_
  refine ret_ ?_
  refine fq_ Tryz.results16 ?_ (hcl:=(by exact ⟨clL_nV _ _,trivial⟩))
  exact rk_ (by rw [stL_all];rfl)
 have hml:m<T.room.toNat:=by omega
 refine skp_ ?_
 refine hK2 _ ?_
 refine sk_ fun K3 hK3=>?_
 refine awp_block ?_
 refine rs_ [0,2,3,4,5,6] ?_
 refine sg_ ?_
 refine cl_ (hc:=c21 T k _ _ _ (atApp hk) hT) (k:=?_)
 refine sre_ ?_
 refine rg_ [0,2,3,4,5,22] ?_
 refine cy_ (fun hb2=>?_) (fun hb2=>?_)
 ·
  have hgs:=get_step hT hb2
  refine rtq_ [0,2,3,4] ⟨true,[],[],[],[],[],0⟩ (fun _=>⟨by kernel_rfl,by kernel_rfl⟩) ?_
  refine sg_ ?_
  refine cr_ (hc:=c44 _ _ _ (get_ok hT _)) (k:=?_)
  refine cr_ (hc:=c43 (stL T m) m (T.get ((m:Int)+1)).1 _ _ (by rw [hlen m hm];exact hml) (by rw [hlen m hm];omega)) (k:=?_)
  refine srn_ ?_
  refine hK3 _ ?_
  refine rt_ [0,2,3,4] ?_
  refine srn_ ?_
  refine ln_ ⟨m+1,by omega⟩ ?_
  try dsimp only
  exact tf_ (hB _) (fun _ h=>h) (hj:=(by first | exact (List.append_nil _).symm | (rw [hgs,stL_set hT hml,List.append_assoc];rfl) | (rw [stL_no hT hml (at_of_get hb2)];rw [List.append_assoc];rfl) | (rw [List.append_assoc];rfl) | (rw [stL_0];exact (List.append_nil _).symm)))
 refine skp_ ?_
 refine hK3 _ ?_
 refine rt_ [0,2,3,4] ?_
 refine srn_ ?_
 refine ln_ ⟨m+1,by omega⟩ ?_
 try dsimp only
 exact tf_ (hB _) (fun _ h=>h) (hj:=(by first | exact (List.append_nil _).symm | (rw [hgs,stL_set hT hml,List.append_assoc];rfl) | (rw [stL_no hT hml (at_of_get hb2)];rw [List.append_assoc];rfl) | (rw [List.append_assoc];rfl) | (rw [stL_0];exact (List.append_nil _).symm)))
theorem c39 (L:List Nd) (i:Int) (h:List Blk) (live:List Nat) (hL:L.length≤1000):AC Tryz.prog 39 [tV L,.int .i64 i] h live (.agg (nvC (rGet L i))):=by
 refine aq_ Tryz.func39 fun hH hX=>?_
 unfold tV
 refine rg_ [1,2,4] ?_
 refine sk_ fun K1 hK1=>?_
 refine rg_ [1,2,4,13] ?_
 refine cy_ (fun hb1=>?_) (fun hb1=>?_)
 ·
  refine rg_ [4] ?_
  refine ret_ ?_
  refine fq_ Tryz.results39 ?_ (hcl:=(by simp [AV.cl,AV.clL,clL_nvC]))
  exact rk_ (by unfold rGet;rw [hb1];rfl)
 have hb1':=hb1
 simp only [decide_eq_true_eq,decide_eq_false_iff_not,Bool.not_eq_true',Bool.not_eq_false',Bool.or_eq_true,Bool.and_eq_true,Bool.or_eq_false_iff,Bool.and_eq_false_imp,Int.not_lt,Int.not_le] at hb1'
 refine skp_ ?_
 refine hK1 _ ?_
 refine rg_ [4] ?_
 refine ret_ ?_
 refine fq_ Tryz.results39 ?_ (hcl:=(by simp [AV.cl,AV.clL,clL_nvC]))
 exact rk_ (by unfold rGet;rw [hb1];rfl)
end Go.Proofs.YtjmlgeckgieaaaaGreat
namespace Go.Proofs.YtjmlgeckgieaaaaGreat
open Go.Ab
set_option maxRecDepth 8000
set_option maxHeartbeats 400000
theorem eq_of_getD {α:Type} (d:α):∀ {a b:List α},a.length=b.length→(∀j,j<a.length→a.getD j d=b.getD j d)→a=b:=fun {a b} hl h=>by
 refine List.ext_getElem hl fun i h1 h2=>?_
 have:=h i h1
 simpa [List.getD_eq_getElem?_getD,h1,h2] using this
theorem ne_of_getD {α:Type} (d:α) {a b:List α} {j:Nat} (h:¬a.getD j d=b.getD j d):a≠b:=fun e=>h (by rw [e])
def sameF (a b:Nd):Bool:=decide (a.kind=b.kind)&&decide (a.mode=b.mode)&&decide (a.uid=b.uid)&&decide (a.gid=b.gid)&&decide (a.target=b.target)&&decide (a.data=b.data)&&decide (a.ents=b.ents)
theorem c60 (a b:List UInt8) (q r:Cap) (h:List Blk) (live:List Nat) (ha:a.length≤1000000) (hb:b.length≤1000000):AC Tryz.prog 60 [.slice (a.map bV) q,.slice (b.map bV) r] h live (.bool (decide (a=b))):=by
 refine aq_ Tryz.func60 fun hH hX=>?_
 refine rg_ [0,1] ?_
 refine sk_ fun K1 hK1=>?_
 refine rg_ [0,1,11] ?_
 refine cx_ (fun hb1=>?_) (fun hb1=>?_)
 ·
  refine rg_ [4] ?_
  refine ret_ ?_
  refine fq_ Tryz.results60 ?_
  exact rk_ (by rw [decide_eq_false (fun e=>hb1 (by rw [e]))])
 have hab:a.length=b.length:=by omega
 refine skp_ ?_
 refine hK1 _ ?_
 refine sk_ fun K2 hK2=>?_
 refine rg_ [1,12,13,14] ?_
 refine awp_block ?_
 refine lp_ (X:={i:Nat // i≤a.length∧∀j,j<i→a.getD j 0=b.getD j 0}) (fun x=>⟨Tryz.f60.ntmps,fget [(1,.slice (b.map bV) r),(12,.slice (a.map bV) q),(13,.int .i64 a.length),(14,.int .i64 (x.1:Nat))],h,live⟩) (fun x=>a.length - x.1) (⟨0,by omega,fun j hj=>by omega⟩) ?_ (fun ⟨i,hi,hn⟩=>?_)
 ·
  try dsimp only
  exact tf_ hH (fun _ h=>h)
 try dsimp only
 refine rg_ [1,12,13,14,15] ?_
 refine sk_ fun K3 hK3=>?_
 refine cx_ (fun hb2=>?_) (fun hb2=>?_)
 rotate_left
 ·
  have hx:=eq_of_getD 0 hab fun j hj=>hn j (by omega)
  refine awp_exit (up_ ?_)
  refine hK2 _ ?_
  refine rg_ [4] ?_
  refine ret_ ?_
  refine fq_ Tryz.results60 ?_
  exact rk_ (by rw [decide_eq_true hx])
 have hil:i<a.length:=by omega
 have hil':i<b.length:=by omega
 refine skp_ ?_
 refine hK3 _ ?_
 refine sk_ fun K4 hK4=>?_
 refine awp_block ?_
 refine rg_ [1,5,6,12,13,14] ?_
 refine rsq_ [1,12,13,14,24] ⟨true,[],[],[],[],[],0⟩ (fun h=>nomatch h) ?_
 refine sre_ ?_
 refine cx_ (fun hb3=>?_) (fun hb3=>?_)
 ·
  have hx:a≠b:=ne_of_getD 0 (j:=i) (fun e=>hb3 (by rw [e]))
  refine rg_ [4] ?_
  refine ret_ ?_
  refine fq_ Tryz.results60 ?_
  exact rk_ (by rw [decide_eq_false hx])
 have heq:a.getD i 0=b.getD i 0:=by
  first | exact UInt8.toNat_inj.1 (by omega) | exact Prod.ext hb3.1 hb3.2 | (simp at hb3;exact Prod.ext hb3.1 hb3.2)
 refine skp_ ?_
 refine hK4 _ ?_
 refine rt_ [1,12,13,14] ?_
 refine srn_ ?_
 refine ln_ ⟨i+1,by omega,fun j hj=>by rcases Nat.lt_succ_iff_lt_or_eq.1 hj with h | h;exact hn j h;subst h;exact heq⟩ ?_
 try dsimp only
 exact tf_ hH (fun _ h=>h)
theorem c61 (a b:List En) (q r:Cap) (h:List Blk) (live:List Nat) (ha:a.length≤1000000) (hb:b.length≤1000000):AC Tryz.prog 61 [.slice (a.map eV) q,.slice (b.map eV) r] h live (.bool (decide (a=b))):=by
 refine aq_ Tryz.func61 fun hH hX=>?_
 refine rg_ [0,1] ?_
 refine sk_ fun K1 hK1=>?_
 refine rg_ [0,1,11] ?_
 refine cx_ (fun hb1=>?_) (fun hb1=>?_)
 ·
  refine rg_ [4] ?_
  refine ret_ ?_
  refine fq_ Tryz.results61 ?_
  exact rk_ (by rw [decide_eq_false (fun e=>hb1 (by rw [e]))])
 have hab:a.length=b.length:=by omega
 refine skp_ ?_
 refine hK1 _ ?_
 refine sk_ fun K2 hK2=>?_
 refine rg_ [1,12,13,14] ?_
 refine awp_block ?_
 refine lp_ (X:={i:Nat // i≤a.length∧∀j,j<i→a.getD j ([],0)=b.getD j ([],0)}) (fun x=>⟨Tryz.f61.ntmps,fget [(1,.slice (b.map eV) r),(12,.slice (a.map eV) q),(13,.int .i64 a.length),(14,.int .i64 (x.1:Nat))],h,live⟩) (fun x=>a.length - x.1) (⟨0,by omega,fun j hj=>by omega⟩) ?_ (fun ⟨i,hi,hn⟩=>?_)
 ·
  try dsimp only
  exact tf_ hH (fun _ h=>h)
 try dsimp only
 refine rg_ [1,12,13,14,15] ?_
 refine sk_ fun K3 hK3=>?_
 refine cx_ (fun hb2=>?_) (fun hb2=>?_)
 rotate_left
 ·
  have hx:=eq_of_getD ([],0) hab fun j hj=>hn j (by omega)
  refine awp_exit (up_ ?_)
  refine hK2 _ ?_
  refine rg_ [4] ?_
  refine ret_ ?_
  refine fq_ Tryz.results61 ?_
  exact rk_ (by rw [decide_eq_true hx])
 have hil:i<a.length:=by omega
 have hil':i<b.length:=by omega
 refine skp_ ?_
 refine hK3 _ ?_
 refine sk_ fun K4 hK4=>?_
 refine awp_block ?_
 refine rg_ [1,5,6,12,13,14] ?_
 refine rsq_ [1,12,13,14,24] ⟨true,[],[],[],[],[],0⟩ (fun _=>⟨by kernel_rfl,by kernel_rfl⟩) ?_
 refine sre_ ?_
 refine cx_ (fun hb3=>?_) (fun hb3=>?_)
 ·
  have hx:a≠b:=ne_of_getD ([],0) (j:=i) (fun e=>by rw [e] at hb3;simp at hb3)
  refine rg_ [4] ?_
  refine ret_ ?_
  refine fq_ Tryz.results61 ?_
  exact rk_ (by rw [decide_eq_false hx])
 have heq:a.getD i ([],0)=b.getD i ([],0):=by
  first | exact UInt8.toNat_inj.1 (by omega) | exact Prod.ext hb3.1 hb3.2 | (simp at hb3;exact Prod.ext hb3.1 hb3.2)
 refine skp_ ?_
 refine hK4 _ ?_
 refine rt_ [1,12,13,14] ?_
 refine srn_ ?_
 refine ln_ ⟨i+1,by omega,fun j hj=>by rcases Nat.lt_succ_iff_lt_or_eq.1 hj with h | h;exact hn j h;subst h;exact heq⟩ ?_
 try dsimp only
 exact tf_ hH (fun _ h=>h)
theorem c23 (a b:Nd) (h:List Blk) (live:List Nat) (ha:NdOk a) (hb:NdOk b):AC Tryz.prog 23 [.agg (ndC a),.agg (ndC b)] h live (.bool (sameF a b)):=by
 refine aq_ Tryz.func23 fun hH hX=>?_
 obtain ⟨ha1,ha2, -, -⟩:=ha
 obtain ⟨hb1,hb2, -, -⟩:=hb
 refine rg_ [2,3] ?_
 refine rs_ [4] ?_
 refine sg_ ?_
 refine cg_ (hc:=fun hg=>c60 _ _ _ _ _ _ (by omega) (by omega)) (k:=?_)
 refine sg_ ?_
 refine cg_ (hc:=fun hg=>c61 _ _ _ _ _ _ (by omega) (by omega)) (k:=?_)
 refine srt_ ?_
 refine fq_ Tryz.results23 ?_
 exact rk_ rfl
end Go.Proofs.YtjmlgeckgieaaaaGreat
