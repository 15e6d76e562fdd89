import Derived.Test.YtmgnbgniikjhdaaGreatK23
/-
  A machine's calls, by root, one file read and one written.
-/
set_option linter.unusedVariables false
set_option linter.unusedSimpArgs false
namespace Go.Proofs.YtmgnbgniikjhdaaGreat
open Go.Ab
set_option maxRecDepth 8000
set_option maxHeartbeats 400000
def fA (A o:Int):Fde:=⟨A,o,true,false⟩
def fB (B o:Int):Fde:=⟨B,o,false,true⟩
def prS (um:Int) (c:Cr) (f g:Fde):Pr:=⟨c,bits .and .i64 um 511,f,g,fd0⟩
section
variable (T:Tab) (um:Int) (c:Cr)
theorem do_stat (f g:Fde) (p:List UInt8):doF T [prS um c f g] 0 ⟨1,p,[],0,0,[]⟩=(⟨(statF T c p true).2,0,(statF T c p true).1,[],[],[]⟩,T,[prS um c f g]):=by
 rw [one_do]
 unfold stepF askF
 rfl
theorem opnAt_eq {T:Tab} {P:Pr} {ca:Ca} {X:(Int×Int)×Tab} (i:Nat) (hX:openF T P.c P.um ca.path ca.a ca.b=X):opnAt T P ca i=if X.1.2≠0 then (tol X.1.2,X.2,P) else (⟨0,i,sta0,[],[],[]⟩,X.2,P.put i ⟨X.1.1,0,hasF ca.a 1,hasF ca.a 2⟩):=by
 subst hX;rfl
theorem do_open1 {p:List UInt8} {X:(Int×Int)×Tab} (hX:openF T c (bits .and .i64 um 511) p 1 0=X):doF T [prS um c fd0 fd0] 0 ⟨13,p,[],1,0,[]⟩=if X.1.2≠0 then (tol X.1.2,X.2,[prS um c fd0 fd0]) else (⟨0,0,sta0,[],[],[]⟩,X.2,[prS um c (fA X.1.1 0) fd0]):=by
 have e:stepF T [prS um c fd0 fd0] 0 (prS um c fd0 fd0) ⟨13,p,[],1,0,[]⟩=opnF T (prS um c fd0 fd0) ⟨13,p,[],1,0,[]⟩:=by
  unfold stepF;exact if_pos rfl
 have h1:hasF 1 1=true:=by decide
 have h2:hasF 1 2=false:=by decide
 rw [one_do,e,opnF_at (i:=0) (by decide) (fun j hj=>absurd hj (Nat.not_lt_zero _)) rfl,opnAt_eq (P:=prS um c fd0 fd0) (ca:=⟨13,p,[],1,0,[]⟩) 0 hX]
 by_cases h:X.1.2≠0
 · rw [if_pos h,if_pos h]
 · rw [if_neg h,if_neg h];dsimp only;rw [h1,h2];rfl
theorem do_open2 {A:Int} (hA:A≠0) (x:Int) {p:List UInt8} {md:Int} {X:(Int×Int)×Tab} (hX:openF T c (bits .and .i64 um 511) p 22 md=X):doF T [prS um c (fA A x) fd0] 0 ⟨13,p,[],22,md,[]⟩=if X.1.2≠0 then (tol X.1.2,X.2,[prS um c (fA A x) fd0]) else (⟨0,1,sta0,[],[],[]⟩,X.2,[prS um c (fA A x) (fB X.1.1 0)]):=by
 have e:stepF T [prS um c (fA A x) fd0] 0 (prS um c (fA A x) fd0) ⟨13,p,[],22,md,[]⟩=opnF T (prS um c (fA A x) fd0) ⟨13,p,[],22,md,[]⟩:=by
  unfold stepF;exact if_pos rfl
 have h1:hasF 22 1=false:=by decide
 have h2:hasF 22 2=true:=by decide
 rw [one_do,e,opnF_at (i:=1) (by decide) (fun j hj=>by
  obtain rfl:j=0:=by omega
  exact hA) rfl,opnAt_eq (P:=prS um c (fA A x) fd0) (ca:=⟨13,p,[],22,md,[]⟩) 1 hX]
 by_cases h:X.1.2≠0
 · rw [if_pos h,if_pos h]
 · rw [if_neg h,if_neg h];dsimp only;rw [h1,h2];rfl
theorem do_read {A:Int} (hA:A≠0) (x:Int) (g:Fde):doF T [prS um c (fA A x) g] 0 ⟨14,[],[],0,8,[]⟩=(⟨(readF T A x 8).2,0,sta0,[],[],(readF T A x 8).1⟩,T,[prS um c (fA A (IntKind.i64.wrap (x+(readF T A x 8).1.length))) g]):=by
 have e:stepF T [prS um c (fA A x) g] 0 (prS um c (fA A x) g) ⟨14,[],[],0,8,[]⟩=((redF T (prS um c (fA A x) g) ⟨14,[],[],0,8,[]⟩).1,T,(redF T (prS um c (fA A x) g) ⟨14,[],[],0,8,[]⟩).2):=by
  unfold stepF;rw [if_neg (by decide)];exact if_pos rfl
 rw [one_do,e,redF_y (i:=0) rfl (by decide),if_neg (by rintro (h | h);exact hA h;cases h)]
 rfl
theorem do_write {B:Int} (hB:B≠0) {x:Int} (f:Fde) {b:List UInt8} {X:Int×Tab} (hX:writeAtF T c B x b=X):doF T [prS um c f (fB B x)] 0 ⟨15,[],[],1,0,b⟩=if X.1≠0 then (tol X.1,X.2,[prS um c f (fB B x)]) else (⟨0,b.length,sta0,[],[],[]⟩,X.2,[prS um c f (fB B (IntKind.i64.wrap (x+b.length)))]):=by
 have e:stepF T [prS um c f (fB B x)] 0 (prS um c f (fB B x)) ⟨15,[],[],1,0,b⟩=wriF T (prS um c f (fB B x)) ⟨15,[],[],1,0,b⟩:=by
  unfold stepF;rw [if_neg (show ¬(15:Int)=13 by decide),if_neg (show ¬(15:Int)=14 by decide)];exact if_pos rfl
 have e2:wriF T (prS um c f (fB B x)) ⟨15,[],[],1,0,b⟩=if X.1≠0 then (tol X.1,X.2,prS um c f (fB B x)) else (⟨0,b.length,sta0,[],[],[]⟩,X.2,prS um c f (fB B (IntKind.i64.wrap (x+b.length)))):=by
  rw [wriF_y (i:=1) rfl (by decide),if_neg (by rintro (h | h);exact hB h;cases h)]
  subst hX;rfl
 rw [one_do,e,e2]
 by_cases h:X.1≠0
 · rw [if_pos h,if_pos h]
 · rw [if_neg h,if_neg h]
theorem do_close1 {B:Int} (hB:B≠0) (x:Int) (f:Fde):doF T [prS um c f (fB B x)] 0 ⟨16,[],[],1,0,[]⟩=(tol 0,(freeF T B (openL [prS um c f fd0])).2,[prS um c f fd0]):=by
 have e:stepF T [prS um c f (fB B x)] 0 (prS um c f (fB B x)) ⟨16,[],[],1,0,[]⟩=shutF T [prS um c f (fB B x)] 0 (prS um c f (fB B x)) 1:=by
  unfold stepF;rw [if_neg (by decide),if_neg (by decide),if_neg (by decide)];exact if_pos rfl
 rw [one_do,e,shutF_y (a:=1) (i:=1) rfl (by decide),if_neg (show ¬((prS um c f (fB B x)).fd 1).node=0 from hB)]
 rfl
theorem do_close0 {A:Int} (hA:A≠0) (x:Int):doF T [prS um c (fA A x) fd0] 0 ⟨16,[],[],0,0,[]⟩=(tol 0,(freeF T A (openL [prS um c fd0 fd0])).2,[prS um c fd0 fd0]):=by
 have e:stepF T [prS um c (fA A x) fd0] 0 (prS um c (fA A x) fd0) ⟨16,[],[],0,0,[]⟩=shutF T [prS um c (fA A x) fd0] 0 (prS um c (fA A x) fd0) 0:=by
  unfold stepF;rw [if_neg (by decide),if_neg (by decide),if_neg (by decide)];exact if_pos rfl
 rw [one_do,e,shutF_y (a:=0) (i:=0) rfl (by decide),if_neg (show ¬((prS um c (fA A x) fd0).fd 0).node=0 from hA)]
 rfl
theorem do_chown (p:List UInt8) (u g:Int):doF T [prS um c fd0 fd0] 0 ⟨6,p,[],u,g,[]⟩=(tol (chownF T c p u g true).1,(chownF T c p u g true).2,[prS um c fd0 fd0]):=by
 rw [one_do]
 unfold stepF chaF
 rfl
theorem do_chmod (p:List UInt8) (m:Int):doF T [prS um c fd0 fd0] 0 ⟨5,p,[],m,0,[]⟩=(tol (chmodF T c p m).1,(chmodF T c p m).2,[prS um c fd0 fd0]):=by
 rw [one_do]
 unfold stepF chaF
 rfl
theorem putAt_take {α:Type}:∀(v c:List α) (off:Nat),off+v.length≤c.length→(putAt c off v).take (off+v.length)=c.take off++v
 | [],c,off,h=>by
  show c.take (off+0)=_
  rw [List.append_nil];rfl
 | x::v,c,off,h=>by
  show (putAt (c.set off x) (off+1) v).take _=_
  simp at h
  rw [List.length_cons,show off+(v.length+1)=off+1+v.length by omega,putAt_take v _ _ (by simp;omega),List.take_succ_eq_append_getElem (by simp;omega)]
  simp [List.take_set_of_le]
theorem overB_end (l b:List UInt8):overB l l.length b=l++b:=by
 unfold overB
 rw [Nat.max_eq_right (by omega),putAt_all _ _ _ (by rw [putAt_length,List.length_replicate])]
 have:=putAt_take l (List.replicate (l.length+b.length) 0) 0 (by rw [List.length_replicate];omega)
 rw [Nat.zero_add] at this
 rw [this];rfl
theorem free_no {T:Tab} (hT:T.Ok) {i:Int} (h:∃d e,Ent T d e∧e.2=i) (o:List Int):(freeF T i o).2=T:=by
 unfold freeF;rw [if_pos (.inl (.inr ((links_pos hT i).2 h)))]
theorem openL_00:openL [prS um c fd0 fd0]=[]:=rfl
end
section
variable {W T:Tab} {um:Int} {c:Cr} {o o':List Int} {A B:Int} {p dat:List UInt8}
theorem Bt.write (hc:c.uid=0) (h:Bt W T c o A B p dat) {b:List UInt8} (hl:b≠[]) (he:(writeAtF T c B dat.length b).1=0) (hg:Gd (writeAtF T c B dat.length b).2) (ht:TreeW (writeAtF T c B dat.length b).2 o' []):Bt W (writeAtF T c B dat.length b).2 c o' A B p (dat++b):=by
 unfold writeAtF at he hg ht ⊢
 rw [if_neg (fun q=>q h.k),if_neg (by omega),if_neg hl] at he hg ht ⊢
 by_cases h1:48 - (b.length:Int)<dat.length
 · rw [if_pos h1] at he;exact absurd he (show (27:Int)≠0 by decide)
 rw [if_neg h1] at hg ht ⊢
 have hov:overB (T.get B).1.data ((dat.length:Nat):Int).toNat b=dat++b:=by
  rw [h.d,Int.toNat_natCast];exact overB_end _ _
 rw [hov,dataN0 hc h.r h.k] at hg ht ⊢
 exact (h.put hc (right_ok h.r h.k).2.2.2 (by rw [List.length_append];omega) hg ht).1
theorem Bt.chown (hc:c.uid=0) (h:Bt W T c [] A B p dat) (hA:(W.get A).1.kind=1) (hW:Gd W) (hg:Gd (chownF T c p (W.get A).1.uid (W.get A).1.gid true).2) (ht:TreeW (chownF T c p (W.get A).1.uid (W.get A).1.gid true).2 [] []) :
 (chownF T c p (W.get A).1.uid (W.get A).1.gid true).1=0∧Bt W (chownF T c p (W.get A).1.uid (W.get A).1.gid true).2 c [] A B p dat∧(((chownF T c p (W.get A).1.uid (W.get A).1.gid true).2).get B).1.uid=(W.get A).1.uid∧(((chownF T c p (W.get A).1.uid (W.get A).1.gid true).2).get B).1.gid=(W.get A).1.gid:=by
 obtain ⟨d,s,hto⟩:=h.to
 obtain ⟨-, -, -,a4⟩:=right_ok (hW.2.get (i:=A) (get_kind_at (by rw [hA];decide))) hA
 obtain ⟨b1,b2,b3,b4⟩:=right_ok h.r h.k
 simp only [Bool.or_eq_false_iff,decide_eq_false_iff_not,Bool.not_eq_false',idB,Bool.and_eq_true,decide_eq_true_eq] at a4 b4
 obtain ⟨⟨⟨a5,a6⟩,a7,a8⟩,a9,a10⟩:=a4
 obtain ⟨⟨⟨b5,b6⟩,b7,b8⟩,b9,b10⟩:=b4
 generalize (W.get A).1.uid=u at *
 generalize (W.get A).1.gid=g at *
 have hv:(decide ((T.get B).1.mode<0)||decide (4095<(T.get B).1.mode)||!idB u||!idB g)=false:=by
  unfold idB
  rw [decide_eq_false b5,decide_eq_false b6,decide_eq_true a7,decide_eq_true a8,decide_eq_true a9,decide_eq_true a10];rfl
 have e:chownF T c p u g true=putT T B ⟨1,(T.get B).1.mode,u,g,dat,[],[]⟩:=by
  unfold chownF chgF
  have hE:rE T c p true=0:=congrArg Prod.snd hto
  have hN:rN T c p true=B:=congrArg (fun q=>q.1.2.2) hto
  rw [if_neg (by omega),hE,hN,if_neg (fun q=>q rfl),h.i,if_neg (by decide)]
  have e2:chownG c u g (T.get B).1=(⟨1,(T.get B).1.mode,u,g,dat,[],[]⟩,0):=by
   unfold chownG mayOwn
   rw [decide_eq_true hc,Bool.true_or,cond_true,if_neg (by omega),if_pos a7,if_pos a9,wr0 hc (right_mode h.r).1,h.d,b1,b2,h.k]
  rw [e2,if_neg (fun q=>q rfl)]
 rw [e] at hg ht ⊢
 obtain ⟨k1,k2,k3⟩:=h.put hc hv (h.d▸b3) hg ht
 exact ⟨k2,k1,by rw [k3],by rw [k3]⟩
theorem Bt.chmod (hc:c.uid=0) (h:Bt W T c [] A B p dat) (hA:(W.get A).1.kind=1) (hW:Gd W) (hg:Gd (chmodF T c p (W.get A).1.mode).2) (ht:TreeW (chmodF T c p (W.get A).1.mode).2 [] []) :
 (chmodF T c p (W.get A).1.mode).1=0∧Bt W (chmodF T c p (W.get A).1.mode).2 c [] A B p dat∧((chmodF T c p (W.get A).1.mode).2.get B).1=⟨1,(W.get A).1.mode,(T.get B).1.uid,(T.get B).1.gid,dat,[],[]⟩:=by
 obtain ⟨d,s,hto⟩:=h.to
 have am:=(right_mode (hW.2.get (i:=A) (get_kind_at (by rw [hA];decide)))).1
 obtain ⟨b1,b2,b3,b4⟩:=right_ok h.r h.k
 generalize (W.get A).1.mode=m at *
 have hv:(decide (m<0)||decide (4095<m)||!idB (T.get B).1.uid||!idB (T.get B).1.gid)=false:=by
  simp only [Bool.or_eq_false_iff] at b4 ⊢
  exact ⟨⟨⟨decide_eq_false (by omega),decide_eq_false (by omega)⟩,b4.1.2⟩,b4.2⟩
 have e:chmodF T c p m=putT T B ⟨1,m,(T.get B).1.uid,(T.get B).1.gid,dat,[],[]⟩:=by
  unfold chmodF chgF
  have hE:rE T c p true=0:=congrArg Prod.snd hto
  have hN:rN T c p true=B:=congrArg (fun q=>q.1.2.2) hto
  rw [if_neg (by omega),hE,hN,if_neg (fun q=>q rfl),h.i,if_neg (by decide)]
  have e2:chmodG c m (T.get B).1=(⟨1,m,(T.get B).1.uid,(T.get B).1.gid,dat,[],[]⟩,0):=by
   unfold chmodG mayMode modeN modeF
   rw [decide_eq_true hc,Bool.true_or,cond_true,Bool.true_or,Bool.true_or,cond_true,and4095 am,h.d,b1,b2,h.k]
  rw [e2,if_neg (fun q=>q rfl)]
 rw [e] at hg ht ⊢
 obtain ⟨k1,k2,k3⟩:=h.put hc hv (h.d▸b3) hg ht
 exact ⟨k2,k1,k3⟩
end
end Go.Proofs.YtmgnbgniikjhdaaGreat
