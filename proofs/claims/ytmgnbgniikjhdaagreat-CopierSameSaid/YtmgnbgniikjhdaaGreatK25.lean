import Derived.Test.YtmgnbgniikjhdaaGreatK24
/-
  A COPY by root, call by call.
-/
set_option linter.unusedVariables false
set_option linter.unusedSimpArgs false
namespace Go.Proofs.YtmgnbgniikjhdaaGreat
open Go.Ab
set_option maxRecDepth 8000
set_option maxHeartbeats 400000
theorem wrF_y {b:Cp} (h:b.we≠0):wrF b=true:=by
 unfold wrF;rw [decide_eq_false h,Bool.and_false];rfl
theorem wrap_nat {x:Int} (h0:0≤x) (h1:x≤1000):IntKind.i64.wrap x=x:=wrapS h0 (by omega)
section
variable {W:Tab} {um:Int} {c:Cr} {A:Int}
def CpJ (W:Tab) (um:Int) (c:Cr) (A:Int) (T:Tab) (ps:List Pr) (b:Cp) (r:Rs):Prop:=
 match b.nx with
 | 0=>False
 | 1=>b.wp=[]∧b.we=0∧b.n=0∧T=W∧ps=[prS um c fd0 fd0]
 | 2=>b.wp=[]∧b.we=0∧b.n=0∧T=W∧(r.err≠0→ps=[prS um c fd0 fd0])∧(r.err=0→r.n=0∧ps=[prS um c (fA A 0) fd0])
 | 3=>b.wp=[]∧b.we=0∧b.n=0∧b.a=0∧(r.err≠0→ps=[prS um c (fA A 0) fd0])∧(r.err=0→r.n=1∧∃B,ps=[prS um c (fA A 0) (fB B 0)]∧Bt W T c (openL ps) A B b.to [])
 | 4=>b.wp=[]∧b.we=0∧b.a=0∧b.b=1∧r.err=0∧∃(B:Int) (k:Nat),k≤(W.get A).1.data.length∧r.data=((W.get A).1.data.drop k).take 8∧ps=[prS um c (fA A ((k+r.data.length:Nat):Int)) (fB B k)]∧Bt W T c (openL ps) A B b.to ((W.get A).1.data.take k)
 | 5=>b.wp=[]∧b.we=0∧b.a=0∧b.b=1∧∃(B:Int) (k:Nat) (x:Int),B≠0∧k≤(W.get A).1.data.length∧ps=[prS um c (fA A k) (fB B x)]∧(r.err=0→x=k∧Bt W T c (openL ps) A B b.to ((W.get A).1.data.take k))
 | 6=>b.a=0∧∃x,ps=[prS um c (fA A x) fd0]∧(wrF b=true∨∃B,Bt W T c (openL ps) A B b.to (W.get A).1.data)
 | _=>ps=[prS um c fd0 fd0]∧(wrF b=true∨∃B,Bt W T c (openL ps) A B b.to (W.get A).1.data)
def CpU (W:Tab) (um:Int) (c:Cr) (A:Int) (T:Tab) (ps:List Pr) (b:Cp) (x:CpR):Prop:=
 (x.1.2=true→CpJ W um c A (doF T ps 0 x.1.1).2.1 (doF T ps 0 x.1.1).2.2 x.2 (doF T ps 0 x.1.1).1∧x.2.fr=b.fr∧x.2.to=b.to∧x.2.fl=b.fl) ∧
 (x.1.2=false→ps=[prS um c fd0 fd0]∧(wrF x.2=true∨∃B,Bt W T c (openL ps) A B b.to (W.get A).1.data))
theorem read_at {T:Tab} {B:Int} {o:List Int} {p dat:List UInt8} (h:Bt W T c o A B p dat) (hA:(W.get A).1.kind=1) (k:Nat):readF T A k 8=(((W.get A).1.data.drop k).take 8,0):=by
 unfold readF
 rw [h.a,if_neg (fun q=>q hA),if_neg (by omega),Int.toNat_natCast]
 rfl
theorem take8_len (D:List UInt8) {k:Nat} (h:k≤D.length):k+((D.drop k).take 8).length≤D.length:=by
 rw [List.length_take,List.length_drop];omega
theorem take8_eq (D:List UInt8) (k:Nat):D.take k++(D.drop k).take 8=D.take (k+((D.drop k).take 8).length):=by
 rw [List.take_add]
 congr 1
 rw [List.length_take]
 by_cases h:8≤(D.drop k).length
 · rw [Nat.min_eq_left h]
 · rw [Nat.min_eq_right (by omega),List.take_of_length_le (by omega),List.take_of_length_le (Nat.le_refl _)]
theorem zero_ne {T:Tab} {i:Int} (h:(T.get i).1.kind=1):i≠0:=fun e=>by rw [e,get_zero] at h;cases h
theorem cp_out (hc:c.uid=0) (hT:Gd W) (hW:TreeW W [] []) (hA:(W.get A).1.kind=1) {T:Tab} {ps:List Pr} {b:Cp} {r:Rs} (hN:rN W c b.fr true=A) (hq:(statF W c b.to true).2=0→(statF W c b.to true).1.node≠A) (hfl:b.fl=22)
 (hg:Gd T) (ht:TreeW T (openL ps) []) (hJ:CpJ W um c A T ps b r):CpU W um c A T ps b (cpN b r):=by
 have hA0:=zero_ne hA
 have hD:(W.get A).1.data.length≤48:=(right_ok (hT.2.get (get_kind_at (by rw [hA];decide))) hA).2.2.1
 obtain ⟨fr,to,fl,md,a,bb,n,wp,we,nx⟩:=b
 dsimp only at hN hq hfl
 subst hfl
 have gd':=fun k=>doF_gd hg ps 0 k
 have tr':=fun k=>doF_tree hg ht 0 k
 have shut:∀(b:Cp) (x:Int),b.a=0→ps=[prS um c (fA A x) fd0]→(wrF b=true∨∃B,Bt W T c (openL ps) A B b.to (W.get A).1.data)→CpU W um c A T ps b (cpShut b):=by
  rintro b x hb rfl hw
  unfold cpShut
  refine ⟨fun _=>⟨?_,rfl,rfl,rfl⟩,fun h=>nomatch h⟩
  dsimp only
  rw [hb]
  have g1:=gd' ⟨16,[],[],0,0,[]⟩
  have t1:=tr' ⟨16,[],[],0,0,[]⟩
  rw [do_close0 _ _ _ hA0] at g1 t1 ⊢
  refine ⟨rfl,hw.imp id ?_⟩
  rintro ⟨B,hB⟩
  have e:=free_no hg.1 hB.la (openL [prS um c fd0 fd0])
  dsimp only at t1 ⊢
  rw [e] at t1 ⊢
  exact ⟨B,hB.more t1⟩
 have cB:∀(b:Cp) (B x y:Int),b.a=0→b.b=1→B≠0→ps=[prS um c (fA A x) (fB B y)]→(wrF b=true∨Bt W T c (openL ps) A B b.to (W.get A).1.data)→CpU W um c A T ps b (cpB b):=by
  rintro b B x y hb hb1 hB0 rfl hw
  unfold cpB
  refine ⟨fun _=>⟨?_,rfl,rfl,rfl⟩,fun h=>nomatch h⟩
  dsimp only
  rw [hb1]
  have t1:=tr' ⟨16,[],[],1,0,[]⟩
  rw [do_close1 _ _ _ hB0] at t1 ⊢
  refine ⟨hb,x,rfl,hw.imp id ?_⟩
  intro hB
  have e:=free_no hg.1 hB.lk (openL [prS um c (fA A x) fd0])
  dsimp only at t1 ⊢
  rw [e] at t1 ⊢
  exact ⟨B,hB.more t1⟩
 have rd:∀(b:Cp) (B:Int) (k:Nat),b.wp=[]→b.we=0→b.a=0→b.b=1→k≤(W.get A).1.data.length→ps=[prS um c (fA A k) (fB B k)]→Bt W T c (openL ps) A B b.to ((W.get A).1.data.take k)→CpU W um c A T ps b (cpRead b):=by
  rintro b B k h1 h2 h3 h4 hk rfl hB
  unfold cpRead
  refine ⟨fun _=>⟨?_,rfl,rfl,rfl⟩,fun h=>nomatch h⟩
  dsimp only
  rw [h3]
  have t1:=tr' ⟨14,[],[],0,8,[]⟩
  have hl:=take8_len (W.get A).1.data hk
  rw [do_read _ _ _ hA0,read_at hB hA] at t1 ⊢
  dsimp only at t1 ⊢
  rw [show (k:Int)+(((W.get A).1.data.drop k).take 8).length=((k+(((W.get A).1.data.drop k).take 8).length:Nat):Int) by omega,wrap_nat (by omega) (by omega)] at t1 ⊢
  exact ⟨h1,h2,rfl,h4,rfl,B,k,hk,rfl,rfl,hB.more t1⟩
 match nx,hJ with
 | 1,hJ=>
  obtain ⟨h1,h2,h3,rfl,rfl⟩:=hJ
  dsimp only at h1 h2 h3
  obtain ⟨o1,o2⟩:=open1 T c (bits .and .i64 um 511) 0 fr
  refine ⟨fun _=>⟨?_,rfl,rfl,rfl⟩,fun h=>nomatch h⟩
  show CpJ T um c A (doF T _ 0 ⟨13,fr,[],1,0,[]⟩).2.1 (doF T _ 0 ⟨13,fr,[],1,0,[]⟩).2.2 _ (doF T _ 0 ⟨13,fr,[],1,0,[]⟩).1
  rw [do_open1 T um c rfl]
  by_cases h:(openF T c (bits .and .i64 um 511) fr 1 0).1.2≠0
  ·
   rw [if_pos h]
   exact ⟨h1,h2,h3,o1,fun _=>rfl,fun h'=>absurd h' h⟩
  ·
   rw [if_neg h]
   have e:=(o2 (Classical.not_not.1 h)).trans hN
   exact ⟨h1,h2,h3,o1,fun h'=>absurd rfl h',fun _=>⟨rfl,by rw [e]⟩⟩
 | 2,hJ=>
  obtain ⟨h1,h2,h3,rfl,h5,h6⟩:=hJ
  dsimp only at h1 h2 h3
  show CpU _ _ _ _ _ _ _ (cpOpened _ r)
  unfold cpOpened
  by_cases hr:r.err≠0
  ·
   rw [if_pos hr]
   exact ⟨(fun h=>nomatch h),fun _=>⟨h5 hr,.inl (wrF_y hr)⟩⟩
  rw [if_neg hr]
  obtain ⟨h7,rfl⟩:=h6 (Classical.not_not.1 hr)
  refine ⟨fun _=>⟨?_,rfl,rfl,rfl⟩,fun h=>nomatch h⟩
  dsimp only
  have g1:=gd' ⟨13,to,[],22,md,[]⟩
  have t1:=tr' ⟨13,to,[],22,md,[]⟩
  rw [do_open2 T um c hA0 0 rfl] at g1 t1 ⊢
  by_cases h:(openF T c (bits .and .i64 um 511) to 22 md).1.2≠0
  ·
   rw [if_pos h]
   exact ⟨h1,h2,h3,h7,fun _=>rfl,fun h'=>absurd h' h⟩
  ·
   rw [if_neg h] at g1 t1 ⊢
   exact ⟨h1,h2,h3,h7,fun h'=>absurd rfl h',fun _=>⟨rfl, _,rfl,.open hc hT hW hA hq (Classical.not_not.1 h) g1 t1⟩⟩
 | 3,hJ=>
  obtain ⟨h1,h2,h3,h4,h5,h6⟩:=hJ
  dsimp only at h1 h2 h3 h4
  show CpU _ _ _ _ _ _ _ (cpBoth _ r)
  unfold cpBoth
  by_cases hr:r.err≠0
  ·
   rw [if_pos hr]
   exact shut ⟨fr,to,22,md,a,bb,n,to,r.err,3⟩ 0 h4 (h5 hr) (.inl (wrF_y hr))
  rw [if_neg hr]
  obtain ⟨h7,B,h8,h9⟩:=h6 (Classical.not_not.1 hr)
  exact rd ⟨fr,to,22,md,a,r.n,n,wp,we,3⟩ B 0 h1 h2 h4 h7 (Nat.zero_le _) h8 h9
 | 4,hJ=>
  obtain ⟨h1,h2,h3,h4,h5,B,k,h6,h7,h8,h9⟩:=hJ
  dsimp only at h1 h2 h3 h4 h9
  have hB0:=zero_ne h9.k
  show CpU _ _ _ _ _ _ _ (cpGot _ r)
  unfold cpGot
  rw [if_neg (fun q=>q h5)]
  by_cases hd:(r.data.length:Int)=0
  ·
   rw [if_pos hd]
   have hd0:r.data.length=0:=by omega
   have hk:(W.get A).1.data.length≤k:=by
    rw [h7,List.length_take,List.length_drop] at hd0;omega
   rw [List.take_of_length_le hk] at h9
   exact cB ⟨fr,to,22,md,a,bb,n,wp,we,4⟩ B _ _ h3 h4 hB0 h8 (.inr h9)
  rw [if_neg hd]
  dsimp only
  by_cases hn:n=49
  ·
   rw [if_pos hn]
   exact cB ⟨fr,to,22,md,a,bb,n,fr,27,4⟩ B _ _ h3 h4 hB0 h8 (.inl (wrF_y (show (27:Int)≠0 by decide)))
  rw [if_neg hn]
  subst h8
  refine ⟨fun _=>⟨?_,rfl,rfl,rfl⟩,fun h=>nomatch h⟩
  dsimp only
  rw [h4]
  have g1:=gd' ⟨15,[],[],1,0,r.data⟩
  have t1:=tr' ⟨15,[],[],1,0,r.data⟩
  have hl:=take8_len (W.get A).1.data h6
  have hle:=take8_eq (W.get A).1.data k
  rw [←h7] at hl hle
  rw [do_write T um c hB0 _ rfl] at g1 t1 ⊢
  have hkl:((W.get A).1.data.take k).length=k:=by rw [List.length_take];omega
  by_cases h:(writeAtF T c B k r.data).1≠0
  ·
   rw [if_pos h]
   exact ⟨h1,h2,h3,rfl,B, _, _,hB0,hl,rfl,fun h'=>absurd h' h⟩
  ·
   rw [if_neg h] at g1 t1 ⊢
   have hx:IntKind.i64.wrap ((k:Int)+r.data.length)=((k+r.data.length:Nat):Int):=by rw [wrap_nat (by omega) (by omega)];omega
   refine ⟨h1,h2,h3,rfl,B, _, _,hB0,hl,rfl,fun _=>⟨hx,?_⟩⟩
   have hw:=Bt.write hc h9 (b:=r.data) (o':=openL [prS um c (fA A ((k+r.data.length:Nat):Int)) (fB B (IntKind.i64.wrap ((k:Int)+r.data.length)))]) (fun e=>hd (by rw [e];rfl)) (by rw [hkl];exact Classical.not_not.1 h) (by rw [hkl];exact g1) (by rw [hkl];exact t1)
   rw [hkl,hle] at hw
   exact hw
 | 5,hJ=>
  obtain ⟨h1,h2,h3,h4,B,k,x,hB0,h6,h8,h9⟩:=hJ
  dsimp only at h1 h2 h3 h4 h9
  show CpU _ _ _ _ _ _ _ (cpPut _ r)
  unfold cpPut
  by_cases hr:r.err≠0
  ·
   rw [if_pos hr]
   exact cB ⟨fr,to,22,md,a,bb,n,to,r.err,5⟩ B _ _ h3 h4 hB0 h8 (.inl (wrF_y hr))
  rw [if_neg hr]
  obtain ⟨rfl,hB⟩:=h9 (Classical.not_not.1 hr)
  exact rd ⟨fr,to,22,md,a,bb,n,wp,we,5⟩ B k h1 h2 h3 h4 h6 h8 hB
 | 6,hJ=>
  obtain ⟨h1,x,h2,h3⟩:=hJ
  exact shut _ x h1 h2 h3
 | nx+7,hJ=>
  obtain ⟨h1,h2⟩:=hJ
  exact ⟨(fun h=>nomatch h),fun _=>⟨h1,h2⟩⟩
end
end Go.Proofs.YtmgnbgniikjhdaaGreat
