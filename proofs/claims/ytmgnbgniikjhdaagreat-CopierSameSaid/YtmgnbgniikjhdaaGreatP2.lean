import Derived.Test.YtmgnbgniikjhdaaGreatP1
import Derived.Test.YtmgnbgniikjhdaaGreatFc
/-
  TEXTS: whether a slash or a nought stands in a text.
-/
set_option linter.unusedVariables false
set_option linter.unusedSimpArgs false
namespace Go.Proofs.YtmgnbgniikjhdaaGreat
open Go.Ab
set_option maxRecDepth 8000
set_option maxHeartbeats 400000
theorem bq_n (a:Nat):(a==a)=true:=beq_self_eq_true a
theorem bq_b (a:Bool):(a==a)=true:=beq_self_eq_true a
theorem if_and_t {α:Type} {p:Prop} [Decidable p] (a b:α):(if True∧p then a else b)=if p then a else b:=by
 by_cases h:p
 · rw [if_pos ⟨trivial,h⟩,if_pos h]
 · rw [if_neg (fun x=>h x.2),if_neg h]
def sl0 (c:UInt8):Bool:=decide (c=47)||decide (c=0)
def irF (r:Int):Int:=if r=47 then 0 else if r=0 then 1 else -1
theorem encS_facts {r:Int} (hv:Utf8.valid r=true) (h128:128≤r):2≤(encS r).length∧(encS r).length≤4∧128≤((encS r).getD ((encS r).length - 1) 0).toNat:=by
 obtain ⟨h1,h2,h3⟩:=encode_facts r hv h128
 have e:(encS r).length=(Utf8.encode r).size:=Array.length_toList
 refine ⟨by omega,by omega,?_⟩
 have hlt:(Utf8.encode r).size - 1<(encS r).length:=by omega
 have:=h3 (by omega)
 rw [e,List.getD_eq_getElem?_getD,List.getElem?_eq_getElem hlt,Option.getD_some]
 exact this
theorem ib_fin:∀r:Fin 128,Lib.indexByte [47,0] (UInt8.ofNat r.val)=irF r.val:=by decide +kernel
theorem ib_rune {r:Int} (h0:0≤r) (h1:r<128):Lib.indexByte [47,0] (UInt8.ofNat r.toNat)=irF r:=by
 have:=ib_fin ⟨r.toNat,by omega⟩
 simp only [Int.toNat_of_nonneg h0] at this
 exact this
theorem u8_rune {r:Int} (h0:0≤r) (h1:r<128):((UInt8.ofNat r.toNat).toNat:Int)=r:=by simp;omega
theorem irF_high {r:Int} (h:128≤r):irF r = -1:=by unfold irF;rw [if_neg (by omega),if_neg (by omega)]
theorem dec470 {pos:Nat} (h:pos<2):dec [47,0] pos=(([47,0]:List UInt8).getD pos 0 |>.toNat,1):=dec_ascii h (by
 have:pos=0∨pos=1:=by omega
 rcases this with rfl | rfl<;>decide)
theorem getD470 {pos:Nat} (h:pos<2):(([47,0]:List UInt8).getD pos 0).toNat=47∨(([47,0]:List UInt8).getD pos 0).toNat=0:=by
 have:pos=0∨pos=1:=by omega
 rcases this with rfl | rfl
 · exact .inl rfl
 · exact .inr rfl
theorem decode_span (s:ByteArray) (pos:Nat) (h:pos<s.size) (ha:128≤(s.get! (pos+0)).toNat):∀k,k<(Utf8.decode s pos).2→pos+k<s.size∧128≤(s.get! (pos+k)).toNat:=by
 have hn:¬(s.get! (pos+0)).toNat<128:=by omega
 simp only [Utf8.decode,hn,if_false]
 intro k hk
 have h0:pos+0<s.size∧128≤(s.get! (pos+0)).toNat:=⟨h,ha⟩
 repeat' split at hk
 all_goals simp only [Bool.and_eq_true,decide_eq_true_eq,beq_iff_eq] at *
 all_goals (
  have hc:k=0∨k=1∨k=2∨k=3:=by omega
  rcases hc with rfl | rfl | rfl | rfl<;>first | exact h0 | (exfalso;omega) | (refine ⟨?_,?_⟩<;>omega))
theorem dec_span {l:List UInt8} {pos:Nat} (h:pos<l.length) (ha:128≤(l.getD pos 0).toNat):∀k,k<(dec l pos).2→pos+k<l.length∧128≤(l.getD (pos+k) 0).toNat:=by
 have e:∀i,i<l.length→(⟨l.toArray⟩:ByteArray).get! i=l.getD i 0:=fun i hi=>by
  simp [ByteArray.get!,List.getD_eq_getElem?_getD,hi]
 intro k hk
 have:=decode_span ⟨l.toArray⟩ pos (by simpa [ByteArray.size] using h) (by rw [e _ (by omega)];exact ha) k hk
 have hl:pos+k<l.length:=by simpa [ByteArray.size] using this.1
 exact ⟨hl,by rw [←e _ hl];exact this.2⟩
theorem any_take_false {l:List UInt8} {n:Nat} (h:∀j,j<n→sl0 (l.getD j 0)=false) (hn:l.length≤n):l.any sl0=false:=by
 rw [List.any_eq_false]
 intro c hc
 obtain ⟨j,hj,rfl⟩:=List.mem_iff_getElem.1 hc
 have:=h j (by omega)
 simp [List.getD_eq_getElem?_getD,hj] at this
 simp [this]
theorem any_get_true {l:List UInt8} {j:Nat} (hj:j<l.length) (h:sl0 (l.getD j 0)=true):l.any sl0=true:=by
 rw [List.any_eq_true]
 exact ⟨l.getD j 0,by simp [List.getD_eq_getElem?_getD,hj],h⟩
theorem sl0_high {c:UInt8} (h:128≤c.toNat):sl0 c=false:=by
 unfold sl0
 rw [decide_eq_false (by rintro rfl;exact absurd h (by decide)),decide_eq_false (by rintro rfl;exact absurd h (by decide))];rfl
theorem irF_byte (c:UInt8):decide (0≤irF c.toNat)=sl0 c:=by
 unfold irF sl0
 by_cases h1:c=47
 · subst h1;rfl
 ·
  by_cases h2:c=0
  · subst h2;rfl
  ·
   have e1:¬((c.toNat:Int)=47):=fun h=>h1 (UInt8.toNat_inj.1 (by have:c.toNat=47:=(by omega);rw [this];rfl))
   have e2:¬((c.toNat:Int)=0):=fun h=>h2 (UInt8.toNat_inj.1 (by have:c.toNat=0:=(by omega);rw [this];rfl))
   rw [if_neg e1,if_neg e2,decide_eq_false h1,decide_eq_false h2];rfl
theorem ir_step {l:List UInt8} {pos:Nat} (h:pos<l.length):decide (0≤irF (dec l pos).1)=sl0 (l.getD pos 0)∧(sl0 (l.getD pos 0)=false→(pos+(dec l pos).2≤l.length∧pos<pos+(dec l pos).2∧∀j,pos≤j→j<pos+(dec l pos).2→sl0 (l.getD j 0)=false)):=by
 by_cases ha:(l.getD pos 0).toNat<128
 ·
  rw [dec_ascii h ha]
  refine ⟨irF_byte _,fun hs=>⟨by dsimp only;omega,by dsimp only;omega,fun j h1 h2=>?_⟩⟩
  dsimp only at h2
  rw [show j=pos by omega];exact hs
 ·
  obtain ⟨h1,h2⟩:=dec_high h (by omega)
  have hsp:=dec_span h (by omega)
  refine ⟨?_,fun _=>⟨?_,by omega,fun j hj hj'=>?_⟩⟩
  · rw [irF_high (by omega),sl0_high (by omega)];rfl
  · have:=(hsp ((dec l pos).2 - 1) (by omega)).1;omega
  ·
   have:=(hsp (j - pos) (by omega)).2
   rw [show pos+(j - pos)=j by omega] at this
   exact sl0_high this
def as0:List AV:=List.replicate 256 (.bool false)
def as1:List AV:=as0.set 47 (.bool true)
def as2:List AV:=as1.set 0 (.bool true)
theorem azero_as:azero Tryz.prog 347=some (.agg as0):=by kernel_rfl
theorem tk_as:tk Tryz.prog 347=some (.agg 256):=by kernel_rfl
theorem as0_len:as0.length=256:=List.length_replicate
theorem as1_len:as1.length=256:=by rw [as1,List.length_set,as0_len]
theorem as2_len:as2.length=256:=by rw [as2,List.length_set,as1_len]
theorem as0_take:as0.take 256=as0:=List.take_of_length_le (by rw [as0_len];omega)
theorem as2_take:as2.take 256=as2:=List.take_of_length_le (by rw [as2_len];omega)
theorem putAt_all {α:Type}:∀(v c:List α) (off:Nat),off+v.length=c.length→putAt c off v=c.take off++v
 | [],c,off,h=>by
  show c=_
  rw [List.append_nil,List.take_of_length_le (by simp at h;omega)]
 | x::v,c,off,h=>by
  show putAt (c.set off x) (off+1) v=_
  simp at h
  rw [putAt_all v _ _ (by simp;omega),List.take_succ_eq_append_getElem (by simp;omega)]
  simp [List.take_set_of_le]
theorem as_put (c:List AV) (hc:c.length=256):putAt c 0 as2=as2:=by
 rw [putAt_all _ _ _ (by rw [as2_len,hc])];rfl
theorem as_put0:putAt as0 0 as2=as2:=as_put _ as0_len
theorem as_put2:putAt as2 0 as2=as2:=as_put _ as2_len
theorem as2_er:AV.erL as2=as2:=by kernel_rfl
theorem as2_get (c:UInt8):as2[0+c.toNat*1]? = some (.bool (sl0 c)):=by
 have hc:=c.toNat_lt
 rw [Nat.zero_add,Nat.mul_one]
 unfold as2 as1 as0 sl0
 rw [List.getElem?_set,List.getElem?_set,List.getElem?_replicate]
 by_cases h1:c=0
 · subst h1;rw [if_pos (by decide),if_pos (by rw [List.length_set,List.length_replicate];omega)];rfl
 ·
  have e1:¬0=c.toNat:=fun h=>h1 (UInt8.toNat_inj.1 h.symm)
  rw [if_neg e1]
  by_cases h2:c=47
  · subst h2;rw [if_pos (by decide),if_pos (by rw [List.length_replicate];omega)];rfl
  ·
   have e2:¬47=c.toNat:=fun h=>h2 (UInt8.toNat_inj.1 h.symm)
   rw [if_neg e2,if_pos (by omega),decide_eq_false h1,decide_eq_false h2];rfl
theorem clL_as (n:Nat) (l:List AV) (h:∀x∈l,∃b,x=AV.bool b):AV.clL n l:=by
 rw [AV.clL_mem];intro x hx;obtain ⟨b,rfl⟩:=h x hx;trivial
theorem as0_b:∀x∈as0,∃b,x=AV.bool b:=fun x hx=>⟨false,(List.mem_replicate.1 hx).2⟩
theorem as1_b:∀x∈as1,∃b,x=AV.bool b:=fun x hx=>by
 rcases List.mem_or_eq_of_mem_set hx with h | h
 · exact as0_b x h
 · exact ⟨_,h⟩
theorem as2_b:∀x∈as2,∃b,x=AV.bool b:=fun x hx=>by
 rcases List.mem_or_eq_of_mem_set hx with h | h
 · exact as1_b x h
 · exact ⟨_,h⟩
def asI (i:Nat):List AV:=if i=0 then as0 else if i=1 then as1 else as2
theorem asI_len (i:Nat):(asI i).length=256:=by
 unfold asI;split
 · exact as0_len
 ·
  split
  · exact as1_len
  · exact as2_len
theorem asI_cl (n i:Nat):AV.clL n (asI i):=by
 unfold asI;split
 · exact clL_as _ _ as0_b
 ·
  split
  · exact clL_as _ _ as1_b
  · exact clL_as _ _ as2_b
theorem asI_set {i:Nat} (h:i<2):(asI i).set (0+(([47,0]:List UInt8).getD i 0).toNat*1) (.bool true)=asI (i+1):=by
 have:i=0∨i=1:=by omega
 rcases this with rfl | rfl<;>rfl
theorem c269 (n:Int) (h:List Blk) (live:List Nat):AC Tryz.prog 269 [.int .i64 n] h live (.bool (decide (8<n))):=by
 refine aq_ Tryz.func269 fun hH hX=>?_
 refine rg_ [0] ?_
 refine rg_ [2] ?_
 refine ret_ ?_
 refine fq_ Tryz.results269 ?_
 exact rk_ rfl
theorem c271 (k:Nat) (c:UInt8) (h:List Blk) (live:List Nat) (hk:h[k]? = some (.cells as2)):AC Tryz.prog 271 [.ptr k 0,.int .u8 c.toNat] h live (.bool (sl0 c)):=by
 refine aq_ Tryz.func271 fun hH hX=>?_
 have hc:=c.toNat_lt
 have sx:=(And.intro @hk (And.intro @as2_get sx0))
 refine rg_ [0,1] ?_
 refine rg_ [4] ?_
 refine ret_ ?_
 refine fq_ Tryz.results271 ?_
 exact rk_ rfl
theorem c292 (r:Int) (h:List Blk) (live:List Nat):AC Tryz.prog 292 [.int .i32 r] h live (.bool (Utf8.valid r)):=by
 refine aq_ Tryz.func292 fun hH hX=>?_
 refine rg_ [0] ?_
 refine sk_ fun K1 hK1=>?_
 refine awp_block ?_
 refine rg_ [0,3] ?_
 refine cx_ (fun hb1=>?_) (fun hb1=>?_)
 ·
  refine rg_ [2] ?_
  refine ret_ ?_
  refine fq_ Tryz.results292 ?_
  exact rk_ (by rw [validRune_eq,validRune,decide_eq_true (by omega)])
 refine rg_ [10] ?_
 refine cx_ (fun hb2=>?_) (fun hb2=>?_)
 ·
  refine rg_ [2] ?_
  refine ret_ ?_
  refine fq_ Tryz.results292 ?_
  exact rk_ (by rw [validRune_eq,validRune,decide_eq_true (by omega)])
 refine skp_ ?_
 refine hK1 _ ?_
 refine rg_ [2] ?_
 refine ret_ ?_
 refine fq_ Tryz.results292 ?_
 exact rk_ (by rw [validRune_eq,validRune,decide_eq_false (by omega)])
theorem asI_get:(47:UInt8).toNat=47:=rfl
theorem bytes470 (i:Nat) (h:i<2):(([47,0]:List UInt8).getD i 0).toNat<128:=by
 have:i=0∨i=1:=by omega
 rcases this with rfl | rfl<;>decide
theorem asI_take (i:Nat):(asI i).take 256=asI i:=List.take_of_length_le (by rw [asI_len];omega)
theorem as_putI (i:Nat):putAt (asI i) 0 (asI i)=asI i:=by rw [putAt_all _ _ _ (by omega)];rfl
theorem asI_2:asI 2=as2:=rfl
def nameF (s:List UInt8):Bool:=!decide (s=[])&&decide ((s.length:Int)≤12)&&!decide (s=[46])&&!decide (s=[46,46])&&!s.any sl0
def fitsF (s:List UInt8):Bool:=!decide (s=[])&&decide ((s.length:Int)≤64)&&decide (Lib.indexByte s 0<0)
theorem c270 (h:List Blk) (live:List Nat):AC Tryz.prog 270 [.str [47,0]] h live (.tup [.agg as2,.bool true]):=by
 refine aq_ Tryz.func270 fun hH hX=>?_
 have sx:=(And.intro @azero_as (And.intro @tk_as (And.intro @asI_take (And.intro @as_putI (And.intro @asI_len (And.intro @asI_2 (And.intro @as2_take (And.intro @as_put2 (And.intro @if_and_t (And.intro @asI_set sx0))))))))))
 refine rg_ [0,2] ?_
 refine sk_ fun K1 hK1=>?_
 refine rg_ [0,2,4] ?_
 refine awp_block ?_
 refine lp_ (X:={i:Nat // i≤2}) (fun x=>⟨Tryz.f270.ntmps,fget [(0,.str [47,0]),(2,.ptr h.length 0),(4,.int .i64 (x.1:Nat))],h++[.cells (asI x.1)],live⟩) (fun x=>2 - x.1) (⟨0,by omega⟩) ?_ (fun ⟨i,hi⟩=>?_)
 ·
  try dsimp only
  exact tf_ (HCl.snoc hH (asI_cl _ _)) (fun _ h=>h)
 try dsimp only
 refine sk_ fun K2 hK2=>?_
 refine rg_ [0,2,4,9] ?_
 refine cy_ (fun hb1=>?_) (fun hb1=>?_)
 rotate_left
 ·
  simp only [decide_eq_true_eq,decide_eq_false_iff_not,Bool.not_eq_true',Bool.not_eq_false',Bool.or_eq_true,Bool.and_eq_true,Bool.or_eq_false_iff,Bool.and_eq_false_imp,Int.not_lt,Int.not_le,push_cast] at hb1
  have hie:i=2:=by omega
  subst hie
  refine awp_exit (up_ ?_)
  refine hK1 _ ?_
  refine rg_ [2,3] ?_
  refine ret_ ?_
  refine fq_ Tryz.results270 ?_ (hx:=by (simp only [atuple,AV.er,AV.erL,push_cast,as2_er,asI_2])<;>rfl) (hcl:=(by simp [AV.cl,AV.clL,clL_as _ _ as2_b]))
  exact rk_ rfl
 simp only [decide_eq_true_eq,decide_eq_false_iff_not,Bool.not_eq_true',Bool.not_eq_false',Bool.or_eq_true,Bool.and_eq_true,Bool.or_eq_false_iff,Bool.and_eq_false_imp,Int.not_lt,Int.not_le,push_cast] at hb1
 have hil:i<2:=by omega
 have h47:=bytes470 i hil
 refine skp_ ?_
 refine hK2 _ ?_
 refine sk_ fun K3 hK3=>?_
 refine awp_block ?_
 refine rg_ [0,2,4,5] ?_
 refine sk_ fun K4 hK4=>?_
 refine rg_ [0,2,4,5,16] ?_
 refine cx_ (fun hb2=>?_) (fun hb2=>?_)
 · exfalso;omega
 refine skp_ ?_
 refine hK4 _ ?_
 refine rt_ [0,2,4] ?_
 refine srn_ ?_
 refine hK3 _ ?_
 refine rt_ [0,2,4] ?_
 refine srn_ ?_
 refine ln_ ⟨i+1,by omega⟩ ?_
 try dsimp only
 exact tf_ (HCl.snoc hH (asI_cl _ _)) (fun _ h=>h)
theorem c268 (r:Int) (h:List Blk) (live:List Nat) (h0:0≤r) (h1:r≤2147483647):AC Tryz.prog 268 [.str [47,0],.int .i32 r] h live (.int .i64 (irF r)):=by
 refine aq_ Tryz.func268 fun hH hX=>?_
 have hib:0≤r→r<128→ACalls Tryz.prog 170 [.str [47,0],.int .u8 r] h live (ret (.int .i64 (irF r)) h live):=fun a b=>by
  have:=c170 [47,0] (UInt8.ofNat r.toNat) h live
  rw [ib_rune a b,u8_rune a b] at this;exact this
 refine rs_ [0,1] ?_
 refine dp_ ?_
 refine reI_ ?_
 refine awp_block ?_
 refine rs_ [0,1,160] ?_
 refine dp_ ?_
 refine dp_ ?_
 refine dp_ ?_
 refine dg_ ?_
 refine dg_ ?_
 refine dp_ ?_
 refine dp_ ?_
 refine reI_ ?_
 refine cx_ (fun hb1=>?_) (fun hb1=>?_) (hb:=by (simp (disch:=omega) only [push_cast,↓reduceIte,Nat.reduceEqDiff,Nat.reduceAdd,Nat.reduceLeDiff,sx,Int.reduceSub,Int.reduceToNat,Int.reduceAdd])<;>rfl)
 ·
  refine rs_ [4] ?_
  refine dp_ ?_
  refine dp_ ?_
  refine dp_ ?_
  refine cl_ (hc:=hib hb1.1 hb1.2) (k:=?_)
  refine dp_ ?_
  refine reI_ ?_
  refine ret_ ?_
  refine fq_ (hres:=by (simp (disch:=omega) only [aresults,aresult,push_cast,↓reduceIte,Nat.reduceEqDiff,Nat.reduceAdd,Nat.reduceLeDiff,sx,Int.reduceSub,Int.reduceToNat,Int.reduceAdd])<;>rfl) Tryz.results268 ?_
  exact rk_ rfl
 have hr:128≤r:=by omega
 refine rs_ [0,1,171] ?_
 refine dp_ ?_
 refine dp_ ?_
 refine dp_ ?_
 refine reI_ ?_
 refine cx_ (fun hb2=>?_) (fun hb2=>?_) (hb:=by (simp (disch:=omega) only [push_cast,↓reduceIte,Nat.reduceEqDiff,Nat.reduceAdd,Nat.reduceLeDiff,sx,Int.reduceSub,Int.reduceToNat,Int.reduceAdd])<;>rfl)
 ·
  refine sk_ fun K1 hK1=>?_
  refine rs_ [175] ?_
  refine dp_ ?_
  refine dawp_w rfl rfl rfl rfl (AOp.rangeS _ _ rfl Ty.isStrT_9 (by (simp (disch:=omega) only [push_cast,↓reduceIte,Nat.reduceEqDiff,Nat.reduceAdd,Nat.reduceLeDiff,sx,Int.reduceSub,Int.reduceToNat,Int.reduceAdd])<;>rfl) ?_)
  refine reI_ ?_
  refine awp_block ?_
  refine lp_ (X:={i:Nat // i≤2}) (fun x=>⟨Tryz.f268.ntmps,fget [(175,.ptr h.length 0)],h++[.siter [47,0] x.1],live⟩) (fun x=>2 - x.1) (⟨0,by omega⟩) ?_ (fun ⟨i,hi⟩=>?_)
  ·
   try dsimp only
   refine Trunc.of (by first | exact (List.append_nil _).symm | exact rfl | (rw [List.append_assoc];rfl)) ?_ (HCl.snoc hH trivial) (fun _ h=>h)
   refine FTr.cons (by first | rfl | ((simp (disch:=omega) only [push_cast,↓reduceIte,Nat.reduceEqDiff,Nat.reduceAdd,Nat.reduceLeDiff,sx,Int.reduceSub,Int.reduceToNat,Int.reduceAdd])<;>rfl)) (by simp [AV.cl,AV.clL]) ?_
   exact FTr.nil
  try dsimp only
  refine rs_ [175,176,177] ?_
  refine dawp_w rfl rfl rfl rfl (AOp.nextS _ rfl (by (simp (disch:=omega) only [push_cast,↓reduceIte,Nat.reduceEqDiff,Nat.reduceAdd,Nat.reduceLeDiff,sx,Int.reduceSub,Int.reduceToNat,Int.reduceAdd])<;>rfl) (by (simp (disch:=omega) only [push_cast,↓reduceIte,Nat.reduceEqDiff,Nat.reduceAdd,Nat.reduceLeDiff,sx,Int.reduceSub,Int.reduceToNat,Int.reduceAdd])<;>rfl) ?_)
  refine dp_ ?_
  refine reI_ ?_
  refine sk_ fun K2 hK2=>?_
  refine cy_ (fun hb3=>?_) (fun hb3=>?_) (hb:=by (simp (disch:=omega) only [push_cast,↓reduceIte,Nat.reduceEqDiff,Nat.reduceAdd,Nat.reduceLeDiff,sx,Int.reduceSub,Int.reduceToNat,Int.reduceAdd])<;>rfl)
  rotate_left
  ·
   simp only [hb3,nextV_f,cond_false]
   refine awp_exit (up_ ?_)
   refine hK1 _ ?_
   refine rs_ [4] ?_
   refine dp_ ?_
   refine reI_ ?_
   refine ret_ ?_
   refine fq_ (hres:=by (simp (disch:=omega) only [aresults,aresult,push_cast,↓reduceIte,Nat.reduceEqDiff,Nat.reduceAdd,Nat.reduceLeDiff,sx,Int.reduceSub,Int.reduceToNat,Int.reduceAdd])<;>rfl) Tryz.results268 ?_
   exact rk_ (by rw [hb2];rfl)
  simp only [hb3,nextV_t,cond_true]
  simp only [decide_eq_true_eq,decide_eq_false_iff_not,Bool.not_eq_true',Bool.not_eq_false',Bool.or_eq_true,Bool.and_eq_true,Bool.or_eq_false_iff,Bool.and_eq_false_imp,Int.not_lt,Int.not_le,push_cast] at hb3
  have hil:i<2:=by omega
  have hdec:=dec470 hil
  have hgd:=getD470 hil
  rw [hdec]
  simp only []
  refine skp_ ?_
  refine hK2 _ ?_
  refine awp_block ?_
  refine rs_ [5,6,175] ?_
  refine dp_ ?_
  refine dp_ ?_
  refine dp_ ?_
  refine dp_ ?_
  refine reI_ ?_
  refine rs_ [5,175,181] ?_
  refine dp_ ?_
  refine dp_ ?_
  refine reI_ ?_
  refine cx_ (fun hb4=>?_) (fun hb4=>?_) (hb:=by (simp (disch:=omega) only [push_cast,↓reduceIte,Nat.reduceEqDiff,Nat.reduceAdd,Nat.reduceLeDiff,sx,Int.reduceSub,Int.reduceToNat,Int.reduceAdd])<;>rfl)
  · exfalso;omega
  refine skp_ ?_
  refine ln_ ⟨i+1,by omega⟩ ?_
  try dsimp only
  refine Trunc.of (by first | exact (List.append_nil _).symm | exact rfl | (rw [List.append_assoc];rfl)) ?_ (HCl.snoc hH trivial) (fun _ h=>h)
  refine FTr.cons (by (simp (disch:=omega) only [push_cast,↓reduceIte,Nat.reduceEqDiff,Nat.reduceAdd,Nat.reduceLeDiff,sx,Int.reduceSub,Int.reduceToNat,Int.reduceAdd])<;>first | rfl | (congr 2;omega)) (by simp [AV.cl,AV.clL]) ?_
  exact FTr.nil
 refine rs_ [0,1,183] ?_
 refine dp_ ?_
 refine cl_ (hc:=c292 _ _ _) (k:=?_)
 refine dp_ ?_
 refine dp_ ?_
 refine reI_ ?_
 refine cdn_ (ht:=fun hb5=>?_) (hf:=fun hb5=>?_)
 ·
  refine rs_ [4] ?_
  refine dp_ ?_
  refine reI_ ?_
  refine ret_ ?_
  refine fq_ (hres:=by (simp (disch:=omega) only [aresults,aresult,push_cast,↓reduceIte,Nat.reduceEqDiff,Nat.reduceAdd,Nat.reduceLeDiff,sx,Int.reduceSub,Int.reduceToNat,Int.reduceAdd])<;>rfl) Tryz.results268 ?_
  exact rk_ (by rw [irF_high hr])
 obtain ⟨hl1,hl2,hl3⟩:=encS_facts hb5 hr
 refine awp_scope ?_
 refine rs_ [0,7] ?_
 refine dp_ ?_
 refine dp_ ?_
 refine dp_ ?_
 refine reI_ ?_
 refine rs_ [0,7,8] ?_
 refine dp_ ?_
 refine dp_ ?_
 refine dp_ ?_
 refine dp_ ?_
 refine reI_ ?_
 refine rs_ [0,7,8,9] ?_
 refine dp_ ?_
 refine dp_ ?_
 refine reI_ ?_
 refine rs_ [0,7,8,9] ?_
 refine dp_ ?_
 refine reI_ ?_
 refine sk_ fun K3 hK3=>?_
 refine awp_block ?_
 refine lp_ (X:=Unit) (fun x=>⟨Tryz.f268.ntmps,fget [(0,.str [47,0]),(7,.str (encS r)),(8,.int .i64 (((encS r).length:Nat) - 1)),(9,.int .i64 (((encS r).length:Nat) - 1))],h,live⟩) (fun x=>0) (()) ?_ (fun x=>?_)
 ·
  try dsimp only
  refine Trunc.same ?_ hH
  refine FTr.cons (by first | rfl | ((simp (disch:=omega) only [push_cast,↓reduceIte,Nat.reduceEqDiff,Nat.reduceAdd,Nat.reduceLeDiff,sx,Int.reduceSub,Int.reduceToNat,Int.reduceAdd])<;>rfl)) (by simp [AV.cl,AV.clL,clL_str]) ?_
  refine FTr.cons (by first | rfl | ((simp (disch:=omega) only [push_cast,↓reduceIte,Nat.reduceEqDiff,Nat.reduceAdd,Nat.reduceLeDiff,sx,Int.reduceSub,Int.reduceToNat,Int.reduceAdd])<;>rfl)) (by simp [AV.cl,AV.clL,clL_str]) ?_
  refine FTr.cons (by first | rfl | ((simp (disch:=omega) only [push_cast,↓reduceIte,Nat.reduceEqDiff,Nat.reduceAdd,Nat.reduceLeDiff,sx,Int.reduceSub,Int.reduceToNat,Int.reduceAdd])<;>rfl)) (by simp [AV.cl,AV.clL,clL_str]) ?_
  refine FTr.cons (by first | rfl | ((simp (disch:=omega) only [push_cast,↓reduceIte,Nat.reduceEqDiff,Nat.reduceAdd,Nat.reduceLeDiff,sx,Int.reduceSub,Int.reduceToNat,Int.reduceAdd])<;>rfl)) (by simp [AV.cl,AV.clL,clL_str]) ?_
  exact FTr.nil
 try dsimp only
 refine sk_ fun K4 hK4=>?_
 refine rs_ [0,7,8,9,26] ?_
 refine dp_ ?_
 refine dp_ ?_
 refine dp_ ?_
 refine dp_ ?_
 refine reI_ ?_
 refine cdn_ (ht:=fun hb6=>?_) (hf:=fun hb6=>?_)
 rotate_left
 ·
  refine awp_exit (up_ ?_)
  refine hK3 _ ?_
  refine sk_ fun K5 hK5=>?_
  refine rs_ [4] ?_
  refine dp_ ?_
  refine reI_ ?_
  refine ret_ ?_
  refine fq_ (hres:=by (simp (disch:=omega) only [aresults,aresult,push_cast,↓reduceIte,Nat.reduceEqDiff,Nat.reduceAdd,Nat.reduceLeDiff,sx,Int.reduceSub,Int.reduceToNat,Int.reduceAdd])<;>rfl) Tryz.results268 ?_
  exact rk_ (by rw [irF_high hr])
 simp only [decide_eq_true_eq,decide_eq_false_iff_not,Bool.not_eq_true',Bool.not_eq_false',Bool.or_eq_true,Bool.and_eq_true,Bool.or_eq_false_iff,Bool.and_eq_false_imp,Int.not_lt,Int.not_le,push_cast] at hb6
 have hl:(encS r).length=2:=by omega
 simp only [hl]
 refine skp_ ?_
 refine hK4 _ ?_
 refine awp_block ?_
 refine awp_scope ?_
 refine sk_ fun K6 hK6=>?_
 refine rsq_ [0,7,8,9,33] ⟨false,[],[],[],[],[],0⟩ (fun _=>⟨by kernel_rfl,by kernel_rfl⟩) ?_
 refine dp_ ?_
 refine dp_ ?_
 refine dp_ ?_
 refine dp_ ?_
 refine dp_ ?_
 refine dp_ ?_
 refine dp_ ?_
 refine reI_ ?_
 refine cx_ (fun hb7=>?_) (fun hb7=>?_) (hb:=by (simp (disch:=omega) only [push_cast,↓reduceIte,Nat.reduceEqDiff,Nat.reduceAdd,Nat.reduceLeDiff,sx,Int.reduceSub,Int.reduceToNat,Int.reduceAdd])<;>rfl)
 rotate_left
 · exfalso;rw [hl] at hl3;change 128≤((encS r).getD 1 0).toNat at hl3;have:(([47,0]:List UInt8).getD 1 0).toNat=0:=rfl;omega
 refine rsq_ [0,7,8,9,11] ⟨false,[],[],[],[],[],0⟩ (fun _=>⟨by kernel_rfl,by kernel_rfl⟩) ?_
 refine dp_ ?_
 refine dp_ ?_
 refine dp_ ?_
 refine dp_ ?_
 refine dp_ ?_
 refine dp_ ?_
 refine dp_ ?_
 refine cl_ (hc:=c170 _ _ _ _) (k:=?_)
 refine dp_ ?_
 refine reI_ ?_
 refine sk_ fun K7 hK7=>?_
 refine rs_ [0,7,8,9,11,43] ?_
 refine dp_ ?_
 refine dp_ ?_
 refine reI_ ?_
 refine cx_ (fun hb8=>?_) (fun hb8=>?_) (hb:=by (simp (disch:=omega) only [push_cast,↓reduceIte,Nat.reduceEqDiff,Nat.reduceAdd,Nat.reduceLeDiff,sx,Int.reduceSub,Int.reduceToNat,Int.reduceAdd])<;>rfl)
 ·
  refine rs_ [4] ?_
  refine dp_ ?_
  refine reI_ ?_
  refine ret_ ?_
  refine fq_ (hres:=by (simp (disch:=omega) only [aresults,aresult,push_cast,↓reduceIte,Nat.reduceEqDiff,Nat.reduceAdd,Nat.reduceLeDiff,sx,Int.reduceSub,Int.reduceToNat,Int.reduceAdd])<;>rfl) Tryz.results268 ?_
  exact rk_ (by rw [irF_high hr])
 exfalso;have:Lib.indexByte (List.take (2 - 2) ([]:List UInt8)) ((encS r).getD 1 0) = -1:=rfl;omega
theorem c241 (s:List UInt8) (h:List Blk) (live:List Nat) (hs:s.length≤9223372036854775807):ACalls Tryz.prog 241 [.str s,.str [47,0]] h live (fun x h' l'=>∃r:Int,x=.int .i64 r∧decide (0≤r)=s.any sl0∧h'=h∧l'=live):=by
 refine aq_ Tryz.func241 fun hH hX=>?_
 have hno:s.any sl0=false→decide ((0:Int) ≤ -1)=s.any sl0:=fun e=>by rw [e];rfl
 have hyes:∀i:Nat,s.any sl0=true→decide ((0:Int)≤i)=s.any sl0:=fun i e=>by rw [e];exact decide_eq_true (Int.natCast_nonneg i)
 have sx:=(And.intro @azero_as (And.intro @tk_as (And.intro @as_put0 (And.intro @as2_take sx0))))
 refine rg_ [0,1] ?_
 refine sk_ fun K1 hK1=>?_
 refine rg_ [0,1,12] ?_
 refine cdn_ (ht:=fun hb1=>?_) (hf:=fun hb1=>?_)
 · exfalso;simp at hb1
 refine skp_ ?_
 refine hK1 _ ?_
 refine sk_ fun K2 hK2=>?_
 refine rg_ [0,1,15] ?_
 refine cdn_ (ht:=fun hb2=>?_) (hf:=fun hb2=>?_)
 · exfalso;simp at hb2
 refine skp_ ?_
 refine hK2 _ ?_
 refine sk_ fun K3 hK3=>?_
 refine rs_ [0,1,26] ?_
 refine sg_ ?_
 refine cl_ (hc:=c269 _ _ _) (k:=?_)
 refine re_ ?_
 refine cy_ (fun hb4=>?_) (fun hb4=>?_)
 ·
  refine rs_ [0,1,6,7] ?_
  refine sg_ ?_
  refine cl_ (hc:=c270 _ _) (k:=?_)
  refine sre_ ?_
  refine rg_ [0,1,6,32] ?_
  refine cy_ (fun hb5=>?_) (fun hb5=>?_)
  ·
   refine sk_ fun K4 hK4=>?_
   refine rg_ [0,6,8] ?_
   refine awp_block ?_
   refine lp_ (X:={i:Nat // i≤s.length∧∀j,j<i→sl0 (s.getD j 0)=false}) (fun x=>⟨Tryz.f241.ntmps,fget [(0,.str s),(6,.ptr h.length 0),(8,.int .i64 (x.1:Nat))],h++[.cells as2],live⟩) (fun x=>s.length - x.1) (⟨0,by omega,fun j hj=>by omega⟩) ?_ (fun ⟨i,hi,hn⟩=>?_)
   ·
    try dsimp only
    exact tf_ (HCl.snoc hH (clL_as _ _ as2_b)) (fun _ h=>h)
   try dsimp only
   refine sk_ fun K5 hK5=>?_
   refine rg_ [0,6,8,36] ?_
   refine cx_ (fun hb6=>?_) (fun hb6=>?_)
   rotate_left
   ·
    have hf:=hno (any_take_false hn (by omega))
    refine awp_exit (up_ ?_)
    refine hK4 _ ?_
    refine rg_ [4] ?_
    refine ret_ ?_
    refine fq_ Tryz.results241 ?_
    first | exact ⟨_,rfl,hf,rfl,rfl⟩ | exact ⟨_,rfl,ht,rfl,rfl⟩
   have hil:i<s.length:=by omega
   refine skp_ ?_
   refine hK5 _ ?_
   refine sk_ fun K6 hK6=>?_
   refine awp_block ?_
   refine rs_ [0,6,8,42] ?_
   refine sg_ ?_
   refine cl_ (hc:=c271 _ (s.getD i 0) _ _ (by simp only [push_cast])) (k:=?_)
   refine re_ ?_
   refine cy_ (fun hb7=>?_) (fun hb7=>?_)
   ·
    have ht:=hyes i (any_get_true hil hb7)
    refine rg_ [4] ?_
    refine ret_ ?_
    refine fq_ Tryz.results241 ?_
    first | exact ⟨_,rfl,hf,rfl,rfl⟩ | exact ⟨_,rfl,ht,rfl,rfl⟩
   refine skp_ ?_
   refine hK6 _ ?_
   refine rt_ [0,6,8] ?_
   refine srn_ ?_
   refine ln_ ⟨i+1,by omega,fun j hj=>by rcases Nat.lt_succ_iff_lt_or_eq.1 hj with h | h;exact hn j h;subst h;exact hb7⟩ ?_
   try dsimp only
   exact tf_ (HCl.snoc hH (clL_as _ _ as2_b)) (fun _ h=>h)
  exfalso;simp at hb5
 refine skp_ ?_
 refine hK3 _ ?_
 refine sk_ fun K7 hK7=>?_
 refine rs_ [1,45] ?_
 refine sg_ ?_
 refine dawp_w rfl rfl rfl rfl (AOp.rangeS _ _ rfl Ty.isStrT_9 (by (simp (disch:=omega) only [push_cast,↓reduceIte,Nat.reduceEqDiff,Nat.reduceAdd,Nat.reduceLeDiff,sx])<;>rfl) ?_)
 refine re_ ?_
 refine awp_block ?_
 refine lp_ (X:={i:Nat // i≤s.length∧∀j,j<i→sl0 (s.getD j 0)=false}) (fun x=>⟨Tryz.f241.ntmps,fget [(1,.str [47,0]),(45,.ptr h.length 0)],h++[.siter s x.1],live⟩) (fun x=>s.length - x.1) (⟨0,by omega,fun j hj=>by omega⟩) ?_ (fun ⟨i,hi,hn⟩=>?_)
 ·
  try dsimp only
  exact tf_ (HCl.snoc hH trivial) (fun _ h=>h)
 try dsimp only
 refine rs_ [1,45,46,47] ?_
 refine dawp_w rfl rfl rfl rfl (AOp.nextS _ rfl (by (simp (disch:=omega) only [push_cast,↓reduceIte,Nat.reduceEqDiff,Nat.reduceAdd,Nat.reduceLeDiff,sx])<;>rfl) (by (simp (disch:=omega) only [push_cast,↓reduceIte,Nat.reduceEqDiff,Nat.reduceAdd,Nat.reduceLeDiff,sx])<;>rfl) ?_)
 refine sre_ ?_
 refine sk_ fun K8 hK8=>?_
 refine cy_ (fun hb8=>?_) (fun hb8=>?_)
 rotate_left
 ·
  simp only [hb8,nextV_f,cond_false]
  simp only [decide_eq_true_eq,decide_eq_false_iff_not,Bool.not_eq_true',Bool.not_eq_false',Bool.or_eq_true,Bool.and_eq_true,Bool.or_eq_false_iff,Bool.and_eq_false_imp,Int.not_lt,Int.not_le] at hb8
  have hf:=hno (any_take_false hn (by omega))
  refine awp_exit (up_ ?_)
  refine hK7 _ ?_
  refine rg_ [4] ?_
  refine ret_ ?_
  refine fq_ Tryz.results241 ?_
  first | exact ⟨_,rfl,hf,rfl,rfl⟩ | exact ⟨_,rfl,ht,rfl,rfl⟩
 simp only [hb8,nextV_t,cond_true]
 simp only [decide_eq_true_eq,decide_eq_false_iff_not,Bool.not_eq_true',Bool.not_eq_false',Bool.or_eq_true,Bool.and_eq_true,Bool.or_eq_false_iff,Bool.and_eq_false_imp,Int.not_lt,Int.not_le] at hb8
 have hil:i<s.length:=by omega
 have hst:=ir_step hil
 have hle:=dec_le s i
 refine skp_ ?_
 refine hK8 _ ?_
 refine awp_block ?_
 refine rg_ [1,9,10,45] ?_
 refine rs_ [1,9,45,53] ?_
 refine sg_ ?_
 refine cl_ (hc:=c268 _ _ _ (by omega) (by omega)) (k:=?_)
 refine sre_ ?_
 refine cy_ (fun hb9=>?_) (fun hb9=>?_)
 ·
  rw [hst.1] at hb9
  have ht:=hyes i (any_get_true hil hb9)
  refine rg_ [4] ?_
  refine ret_ ?_
  refine fq_ Tryz.results241 ?_
  first | exact ⟨_,rfl,hf,rfl,rfl⟩ | exact ⟨_,rfl,ht,rfl,rfl⟩
 rw [hst.1] at hb9
 have hsl:=hb9
 refine skp_ ?_
 refine ⟨⟨i+(dec s i).2,(hst.2 hsl).1,fun j hj=>by by_cases hji:j<i;exact hn j hji;exact (hst.2 hsl).2.2 j (by omega) hj⟩,?_,(by first | rfl | trivial | (simp only [List.length_set];done) | simp),by have:=(hst.2 hsl).2.1;have:=(hst.2 hsl).1;dsimp only;omega⟩
 try dsimp only
 exact tf_ (HCl.snoc hH trivial) (fun _ h=>h)
theorem c194 (s:List UInt8) (h:List Blk) (live:List Nat) (hs:s.length≤9223372036854775807):AC Tryz.prog 194 [.str s,.str [47,0]] h live (.bool (s.any sl0)):=by
 refine aq_ Tryz.func194 fun hH hX=>?_
 refine rg_ [0,1] ?_
 refine rs_ [4] ?_
 refine sg_ ?_
 refine ck_ (k:=?_)
 refine (c241 s _ _ hs).mono ?_;rintro _ _ _ ⟨r,rfl,hr,rfl,rfl⟩
 refine srt_ ?_
 refine fq_ Tryz.results194 ?_
 exact rk_ (by rw [hr])
end Go.Proofs.YtmgnbgniikjhdaaGreat
namespace Go.Proofs.YtmgnbgniikjhdaaGreat
open Go.Ab
set_option maxRecDepth 8000
set_option maxHeartbeats 400000
def idB (n:Int):Bool:=decide (0≤n)&&decide (n≤65535)
def badE (l:List En) (i:Nat):Bool:=!nameF (l.getD i ([],0)).1||decide ((l.getD i ([],0)).2<1)||(decide (0<(i:Int))&&!Op.bytesLess (l.getD ((i:Int) - 1).toNat ([],0)).1 (l.getD i ([],0)).1)
def risingF (l:List En):Bool:=!((List.range l.length).any (badE l))&&decide ((l.length:Int)≤8)
def rightF (n:Nd):Bool:=
 bif (decide (n.mode<0)||decide (4095<n.mode)||!idB n.uid||!idB n.gid) then false
 else if n.kind=1 then decide ((n.ents.length:Int)=0)&&decide (n.target=[])&&decide ((n.data.length:Int)≤48)
 else if n.kind=2 then decide ((n.data.length:Int)=0)&&decide (n.target=[])&&risingF n.ents
 else if n.kind=3 then decide ((n.data.length:Int)+n.ents.length=0)&&decide (n.mode=511)&&fitsF n.target
 else false
theorem anyR_t {p:Nat→Bool} {m n:Nat} (hm:m<n) (h:p m=true):(List.range n).any p=true:=List.any_eq_true.2 ⟨m,List.mem_range.2 hm,h⟩
theorem anyR_f {p:Nat→Bool} {n:Nat} (h:∀j,j<n→p j=false):(List.range n).any p=false:=List.any_eq_false.2 fun j hj=>by simp [h j (List.mem_range.1 hj)]
theorem rightF_kind {n:Nd} (h:rightF n=true):n.kind≠0:=by
 intro h0
 unfold rightF at h
 rw [h0] at h
 cases hc:(decide (n.mode<0)||decide (4095<n.mode)||!idB n.uid||!idB n.gid)<;>rw [hc] at h<;>cases h
theorem mtk_eV (l:List En) (n:Nat):(l.map eV).take n=(l.take n).map eV:=List.map_take.symm
theorem mdr_eV (l:List En) (n:Nat):(l.map eV).drop n=(l.drop n).map eV:=List.map_drop.symm
theorem ltk_En (l:List En) (n:Nat):(l.take n).length=min n l.length:=List.length_take
theorem ldr_En (l:List En) (n:Nat):(l.drop n).length=l.length - n:=List.length_drop
def eqS (s:List UInt8) (e:En):Bool:=decide (e.1=s)
def gtS (s:List UInt8) (e:En):Bool:=!(Op.bytesLess e.1 s||decide (e.1=s))
theorem c191 (n:Int) (h:List Blk) (live:List Nat):AC Tryz.prog 191 [.int .i64 n] h live (.bool (idB n)):=by
 refine aq_ Tryz.func191 fun hH hX=>?_
 refine rg_ [0] ?_
 refine rg_ [2] ?_
 refine ret_ ?_
 refine fq_ Tryz.results191 ?_
 exact rk_ rfl
theorem c240 (s:List UInt8) (h:List Blk) (live:List Nat) (hs:s.length≤9223372036854775807):AC Tryz.prog 240 [.str s] h live (.bool (nameF s)):=by
 refine aq_ Tryz.func240 fun hH hX=>?_
 refine rg_ [0] ?_
 refine rs_ [2] ?_
 refine sg_ ?_
 refine cg_ (hc:=fun hg=>c194 s _ _ hs) (k:=?_)
 refine srt_ ?_
 refine fq_ Tryz.results240 ?_
 exact rk_ rfl
theorem c193 (s:List UInt8) (h:List Blk) (live:List Nat) (hs:s.length≤9223372036854775807):AC Tryz.prog 193 [.str s] h live (.bool (fitsF s)):=by
 refine aq_ Tryz.func193 fun hH hX=>?_
 refine rg_ [0] ?_
 refine rs_ [2] ?_
 refine sg_ ?_
 refine cg_ (hc:=fun hg=>c170 s 0 _ _) (k:=?_)
 refine srt_ ?_
 refine fq_ Tryz.results193 ?_
 exact rk_ rfl
theorem c192 (l:List En) (h:List Blk) (live:List Nat) (hl:l.length≤1000000) (hn:∀e∈l,e.1.length≤9223372036854775807):AC Tryz.prog 192 [.slice (l.map eV) .none] h live (.bool (risingF l)):=by
 refine aq_ Tryz.func192 fun hH hX=>?_
 have hnl:∀i,(l.getD i ([],0)).1.length≤9223372036854775807:=fun i=>by
  by_cases h:i<l.length
  · rw [List.getD_eq_getElem?_getD,List.getElem?_eq_getElem h];exact hn _ (List.getElem_mem h)
  · rw [List.getD_eq_getElem?_getD,List.getElem?_eq_none (by omega)];exact Nat.zero_le _
 have sx:=(And.intro @Bool.true_and sx0)
 refine rg_ [0] ?_
 refine sk_ fun K1 hK1=>?_
 refine rg_ [0,5,6,7] ?_
 refine awp_block ?_
 refine lp_ (X:={i:Nat // i≤l.length∧∀j,j<i→badE l j=false}) (fun x=>⟨Tryz.f192.ntmps,fget [(0,.slice (l.map eV) .none),(5,.slice (l.map eV) .none),(6,.int .i64 l.length),(7,.int .i64 (x.1:Nat))],h,live⟩) (fun x=>l.length - x.1) (⟨0,by omega,fun j hj=>by omega⟩) ?_ (fun ⟨i,hi,hb⟩=>?_)
 ·
  try dsimp only
  exact tf_ hH (fun _ h=>h)
 try dsimp only
 refine rg_ [0,5,6,7,8] ?_
 refine sk_ fun K2 hK2=>?_
 refine cx_ (fun hb1=>?_) (fun hb1=>?_)
 rotate_left
 ·
  have hie:i=l.length:=by omega
  subst hie
  refine awp_exit (up_ ?_)
  refine hK1 _ ?_
  refine rg_ [2] ?_
  refine ret_ ?_
  refine fq_ Tryz.results192 ?_
  exact rk_ (by unfold risingF;rw [anyR_f hb];rfl)
 have hil:i<l.length:=by omega
 have hnli:=hnl i
 refine skp_ ?_
 refine hK2 _ ?_
 refine sk_ fun K3 hK3=>?_
 refine awp_block ?_
 refine rg_ [0,3,4,5,6,7] ?_
 refine rsq_ [0,5,6,7,35] ⟨true,[],[],[],[],[],0⟩ (fun _=>⟨by kernel_rfl,by kernel_rfl⟩) ?_
 refine sg_ ?_
 refine cr_ (hc:=c240 _ _ _ (by omega)) (k:=?_)
 refine sre_ ?_
 refine cy_ (fun hb2=>?_) (fun hb2=>?_)
 ·
  have hbe:badE l i=true:=hb2
  refine rg_ [2] ?_
  refine ret_ ?_
  refine fq_ Tryz.results192 ?_
  exact rk_ (by unfold risingF;rw [anyR_t hil hbe];rfl)
 have hbe:badE l i=false:=hb2
 refine skp_ ?_
 refine hK3 _ ?_
 refine rt_ [0,5,6,7] ?_
 refine srn_ ?_
 refine ln_ ⟨i+1,by omega,fun j hj=>by rcases Nat.lt_succ_iff_lt_or_eq.1 hj with h | h;exact hb j h;subst h;exact hbe⟩ ?_
 try dsimp only
 exact tf_ hH (fun _ h=>h)
theorem c132 (n:Nd) (h:List Blk) (live:List Nat) (ho:NdOk n):AC Tryz.prog 132 [.agg (ndC n)] h live (.bool (rightF n)):=by
 refine aq_ Tryz.func132 fun hH hX=>?_
 obtain ⟨ho1,ho2,ho3⟩:=ho
 refine rg_ [1] ?_
 refine sk_ fun K1 hK1=>?_
 refine rs_ [1,22] ?_
 refine sg_ ?_
 refine cg_ (hc:=fun hg=>c191 _ _ _) (k:=?_)
 refine sg_ ?_
 refine cg_ (hc:=fun hg=>c191 _ _ _) (k:=?_)
 refine sre_ ?_
 refine cy_ (fun hb1=>?_) (fun hb1=>?_)
 ·
  refine rg_ [2] ?_
  refine ret_ ?_
  refine fq_ Tryz.results132 ?_
  exact rk_ (by unfold rightF;rw [hb1];rfl)
 refine skp_ ?_
 refine hK1 _ ?_
 refine sk_ fun K2 hK2=>?_
 refine rg_ [1,24] ?_
 refine awp_block ?_
 refine rg_ [1,24,25] ?_
 refine cx_ (fun hb2=>?_) (fun hb2=>?_)
 ·
  refine rg_ [2] ?_
  refine ret_ ?_
  refine fq_ Tryz.results132 ?_
  exact rk_ (by unfold rightF;rw [hb1,cond_false,if_pos hb2])
 refine rg_ [1,24,42] ?_
 refine cx_ (fun hb3=>?_) (fun hb3=>?_)
 ·
  refine rs_ [2] ?_
  refine sg_ ?_
  refine cg_ (hc:=fun hg=>c192 _ _ _ (by omega) (fun e he=>Nat.le_trans (ho3.2 e he) (by decide))) (k:=?_)
  refine srt_ ?_
  refine fq_ Tryz.results132 ?_
  exact rk_ (by unfold rightF;rw [hb1,cond_false,if_neg hb2,if_pos hb3])
 refine rg_ [1,58] ?_
 refine cx_ (fun hb4=>?_) (fun hb4=>?_)
 ·
  refine rs_ [2] ?_
  refine sg_ ?_
  refine cg_ (hc:=fun hg=>c193 _ _ _ (by omega)) (k:=?_)
  refine srt_ ?_
  refine fq_ Tryz.results132 ?_
  exact rk_ (by unfold rightF;rw [hb1,cond_false,if_neg hb2,if_neg hb3,if_pos hb4])
 refine skp_ ?_
 refine hK2 _ ?_
 refine rg_ [2] ?_
 refine ret_ ?_
 refine fq_ Tryz.results132 ?_
 exact rk_ (by unfold rightF;rw [hb1,cond_false,if_neg hb2,if_neg hb3,if_neg hb4])
theorem c236 (b:Nat) (s:List UInt8) (e:En) (h:List Blk) (live:List Nat) (hb:h[b]? = some (.cells [.str s])):ACalls Tryz.prog 236 (.agg [.str e.1,.int .i64 e.2]::[.ptr b 0]) h live (ret (.bool (eqS s e)) h live):=by
 refine aq_ Tryz.func236 fun hH hX=>?_
 have hbl:=lt_of_get hb
 have hb':=fun g:List Blk=>atApp (g:=g) hb
 have sx:=(And.intro @hb' (And.intro @hb sx0))
 refine rg_ [1,2] ?_
 refine rg_ [3] ?_
 refine ret_ ?_
 refine fq_ Tryz.results236 ?_
 exact rk_ rfl
theorem c196 (b:Nat) (s:List UInt8) (e:En) (h:List Blk) (live:List Nat) (hb:h[b]? = some (.cells [.str s])):ACalls Tryz.prog 196 (.agg [.str e.1,.int .i64 e.2]::[.ptr b 0]) h live (ret (.bool (gtS s e)) h live):=by
 refine aq_ Tryz.func196 fun hH hX=>?_
 have hbl:=lt_of_get hb
 have hb':=fun g:List Blk=>atApp (g:=g) hb
 have sx:=(And.intro @hb' (And.intro @hb sx0))
 refine rg_ [1,2] ?_
 refine rg_ [3] ?_
 refine ret_ ?_
 refine fq_ Tryz.results196 ?_
 exact rk_ rfl
theorem c186 (n:Nd) (s:List UInt8) (h:List Blk) (live:List Nat) (ho:NdOk n):AC Tryz.prog 186 [.agg (ndC n),.str s] h live (.int .i64 (idxP (eqS s) n.ents)):=by
 refine aq_ Tryz.func186 fun hH hX=>?_
 obtain ⟨ho1,ho2,ho3⟩:=ho
 refine rg_ [2,3] ?_
 refine rs_ [4] ?_
 refine sg_ ?_
 refine cl_ (hc:=c195 n.ents _ 236 [.ptr (h.length+1) 0] (eqS s) _ _ (by omega) (fun e=>c236 (h.length+1) s e _ _ (by simp only [push_cast])) (by simp [AV.cl,AV.clL])) (k:=?_)
 refine srt_ ?_
 refine fq_ Tryz.results186 ?_
 exact rk_ rfl
def nWith (n:Nd) (l:List En):Nd:=⟨n.kind,n.mode,n.uid,n.gid,n.data,l,n.target⟩
theorem putAt_eq {α:Type}:∀(v c:List α) (off:Nat),off+v.length≤c.length→putAt c off v=c.take off++v++c.drop (off+v.length)
 | [],c,off,h=>by
  show c=_
  simp
 | x::v,c,off,h=>by
  show putAt (c.set off x) (off+1) v=_
  simp at h
  rw [putAt_eq v _ _ (by simp;omega),List.take_succ_eq_append_getElem (by simp;omega)]
  simp [List.take_set_of_le,List.drop_set_of_lt,show off<off+1+v.length by omega,show off+1+v.length=off+(v.length+1) by omega]
theorem flat_len (l:List En):(flat (l.map eV)).length=l.length*2:=by
 rw [flat_length (sz:=2) (cells_eV l),List.length_map]
theorem flat_app (a b:List AV):flat (a++b)=flat a++flat b:=by simp [flat]
theorem put3 (A B C:List En) (c:List AV) (hc:(A.length+B.length+C.length)*2≤c.length) :
 (putAt (putAt (putAt c 0 (flat (A.map eV))) (A.length*2) (flat (B.map eV))) ((A.length+B.length)*2) (flat (C.map eV))).take ((A++B++C).length*2)=flat ((A++B++C).map eV):=by
 have hA:=flat_len A;have hB:=flat_len B;have hC:=flat_len C
 rw [putAt_eq (flat (A.map eV)) c 0 (by omega),List.take_zero,List.nil_append]
 have e1:putAt (flat (A.map eV)++c.drop (0+(flat (A.map eV)).length)) (A.length*2) (flat (B.map eV))=flat (A.map eV)++(flat (B.map eV)++(c.drop (A.length*2)).drop (B.length*2)):=by
  rw [show A.length*2=(flat (A.map eV)).length+0 by omega,putAt_right,putAt_eq _ _ _ (by rw [List.length_drop];omega)]
  simp [hA,hB]
 rw [e1]
 have e2:putAt (flat (A.map eV)++(flat (B.map eV)++(c.drop (A.length*2)).drop (B.length*2))) ((A.length+B.length)*2) (flat (C.map eV))=(flat (A.map eV)++flat (B.map eV))++(flat (C.map eV)++((c.drop (A.length*2)).drop (B.length*2)).drop (C.length*2)):=by
  rw [←List.append_assoc,show (A.length+B.length)*2=(flat (A.map eV)++flat (B.map eV)).length+0 by simp;omega,putAt_right,putAt_eq _ _ _ (by rw [List.length_drop,List.length_drop];omega)]
  simp [hC]
 rw [e2,List.map_append,List.map_append,flat_app,flat_app,←List.append_assoc]
 exact List.take_left' (by simp;omega)
theorem put3_len (A B C:List En) (c:List AV) (hc:(A.length+B.length+C.length)*2≤c.length) :
 (putAt (putAt (putAt c 0 (flat (A.map eV))) (A.length*2) (flat (B.map eV))) ((A.length+B.length)*2) (flat (C.map eV))).length=c.length:=by
 have hA:=flat_len A;have hB:=flat_len B;have hC:=flat_len C
 have h:∀(v c:List AV) (off:Nat),(putAt c off v).length=c.length:=fun v=>by
  induction v with
  | nil=>intro c off;rfl
  | cons x v ih=>intro c off;show (putAt (c.set off x) (off+1) v).length=_;rw [ih,List.length_set]
 rw [h,h,h]
theorem flat_el:∀(M:List En) (i:Nat) (h:i<M.length),AV.agg (((flat (M.map eV)).drop (i*2)).take 2)=eV M[i]
 | x::r,0, _=>rfl
 | x::r,i+1,h=>by
  have:=flat_el r i (by simpa using h)
  rw [List.map_cons,show flat (eV x::r.map eV)=[.str x.1,.int .i64 x.2]++flat (r.map eV) from rfl,show (i+1)*2=2+i*2 by omega,List.drop_append,List.drop_of_length_le (show 2≤2+i*2 by omega),List.nil_append]
  simpa using this
theorem frozen (M:List En) (cs:List AV) (h:cs.take (M.length*2)=flat (M.map eV)):((List.range M.length).map fun i=>mkEl true ((cs.drop (0+i*2)).take 2))=M.map eV:=by
 refine List.ext_getElem (by simp) fun i h1 h2=>?_
 simp only [List.length_map,List.length_range] at h1
 rw [List.getElem_map,List.getElem_map,List.getElem_range,Nat.zero_add]
 have e:(cs.drop (i*2)).take 2=((cs.take (M.length*2)).drop (i*2)).take 2:=by
  rw [List.drop_take,List.take_take,Nat.min_eq_left (by omega)]
 show AV.agg _=eV _
 rw [e,h]
 exact flat_el M i h1
theorem with_frz (n:Nd) (A B C:List En) (h:List Blk) (x y:Blk) (c:List AV) (cap:Nat) (hc:(A.length+B.length+C.length)*2≤c.length) (t:Nat) (ht:t=(A++B++C).length) (l1 l2:Nat) (h1:l1=A.length*2) (h2:l2=(A.length+B.length)*2) :
 ((AV.agg [.int .i64 n.kind,.int .i64 n.mode,.int .i64 n.uid,.int .i64 n.gid,.slice (n.data.map bV) .none,.bsl (h.length+2) 0 2 true t cap,.str n.target]).frz (h++[x,y,.cells (putAt (putAt (putAt c 0 (flat (A.map eV))) l1 (flat (B.map eV))) l2 (flat (C.map eV)))]) h.length).er=.agg (ndC (nWith n (A++B++C))):=by
 subst ht h1 h2
 have hl:=put3_len A B C c hc
 have hg:(h++[x,y,Blk.cells (putAt (putAt (putAt c 0 (flat (A.map eV))) (A.length*2) (flat (B.map eV))) ((A.length+B.length)*2) (flat (C.map eV)))])[h.length+2]? = some (.cells (putAt (putAt (putAt c 0 (flat (A.map eV))) (A.length*2) (flat (B.map eV))) ((A.length+B.length)*2) (flat (C.map eV)))):=by
  rw [List.getElem?_append_right (by omega),show h.length+2 - h.length=2 by omega];rfl
 have hab:(A++B++C).length=A.length+B.length+C.length:=by rw [List.length_append,List.length_append]
 simp only [AV.frz,AV.frzL]
 rw [if_pos (by omega),hg]
 simp only []
 rw [if_pos ⟨by rw [hl];omega,by decide,.inl trivial⟩,frozen _ _ (put3 A B C c hc)]
 simp only [AV.er,AV.erL,erL_bV,erL_eV]
 rfl
theorem putAt_len:∀(v c:List AV) (off:Nat),(putAt c off v).length=c.length
 | [], _, _=>rfl
 | x::v,c,off=>by show (putAt (c.set off x) (off+1) v).length=_;rw [putAt_len,List.length_set]
def rep2 (n:Nat):List AV:=rep n [.str [],.int .i64 0]
theorem rep2_len (n:Nat):(rep2 n).length=n*2:=rep_length _ _
theorem c197 (n:Nd) (a b:Nat) (m:List En) (c:Cap) (h:List Blk) (live:List Nat) (ho:NdOk n) (ha:a≤n.ents.length) (hb:b≤n.ents.length) (hm:m.length≤1000) (hf:a+m.length≤b+1):AC Tryz.prog 197 [.agg (ndC n),.int .i64 (a:Int),.int .i64 (b:Int),.slice (m.map eV) c] h live (.agg (ndC (nWith n (n.ents.take a++(m++n.ents.drop b))))):=by
 refine aq_ Tryz.func197 fun hH hX=>?_
 obtain ⟨ho1,ho2,ho3⟩:=ho
 have hmin:min n.ents.length a=a:=Nat.min_eq_right ha
 have sx:=(And.intro @hmin (And.intro @mtk_eV (And.intro @mdr_eV (And.intro @ltk_En (And.intro @ldr_En sx0)))))
 refine rg_ [1,2,3,4,8] ?_
 refine rs_ [2,3,4,8,9] ?_
 refine sg_ ?_
 refine dawp_w rfl rfl rfl rfl (AOp.makeSlice _ _ _ rfl Ty.makeT_74 (n:=a) (m:=n.ents.length+1) rfl rfl (by omega) (by omega) (by omega) ?_)
 refine sre_ ?_
 refine rs_ [2,3,4,8,9] ?_
 refine sg_ ?_
 refine dawp_w rfl rfl rfl rfl (AOp.copyB _ _ _ _ rfl Ty.sliceSz_74 (by (simp (disch:=omega) only [push_cast,↓reduceIte,Nat.reduceEqDiff,Nat.reduceAdd,Nat.reduceLeDiff,sx])<;>rfl) (by (simp (disch:=omega) only [push_cast,↓reduceIte,Nat.reduceEqDiff,Nat.reduceAdd,Nat.reduceLeDiff,sx])<;>rfl) (by (simp (disch:=omega) only [push_cast,↓reduceIte,Nat.reduceEqDiff,Nat.reduceAdd,Nat.reduceLeDiff,sx])<;>rfl) (cells_eV _) (by rw [rep_length];simp;omega) ?_)
 refine re_ ?_
 refine rs_ [2,4,8,9] ?_
 refine sg_ ?_
 refine dawp_w rfl rfl rfl rfl (AOp.appendB _ _ _ rfl Ty.sliceSz_74 (by (simp (disch:=omega) only [push_cast,↓reduceIte,Nat.reduceEqDiff,Nat.reduceAdd,Nat.reduceLeDiff,sx])<;>rfl) (by (simp (disch:=omega) only [push_cast,↓reduceIte,Nat.reduceEqDiff,Nat.reduceAdd,Nat.reduceLeDiff,sx])<;>rfl) (by (simp (disch:=omega) only [push_cast,↓reduceIte,Nat.reduceEqDiff,Nat.reduceAdd,Nat.reduceLeDiff,sx])<;>rfl) (cells_eV _) (by simp;omega) (by rw [putAt_len,rep_length];simp;omega) ?_)
 refine sre_ ?_
 refine rs_ [4,8] ?_
 refine sg_ ?_
 refine dawp_w rfl rfl rfl rfl (AOp.appendB _ _ _ rfl Ty.sliceSz_74 (by (simp (disch:=omega) only [push_cast,↓reduceIte,Nat.reduceEqDiff,Nat.reduceAdd,Nat.reduceLeDiff,sx])<;>rfl) (by (simp (disch:=omega) only [push_cast,↓reduceIte,Nat.reduceEqDiff,Nat.reduceAdd,Nat.reduceLeDiff,sx])<;>rfl) (by (simp (disch:=omega) only [push_cast,↓reduceIte,Nat.reduceEqDiff,Nat.reduceAdd,Nat.reduceLeDiff,sx])<;>rfl) (cells_eV _) (by simp;omega) (by rw [putAt_len,putAt_len,rep_length];simp;omega) ?_)
 refine sre_ ?_
 refine rs_ [4,8] ?_
 refine sg_ ?_
 refine cl_ (hc:=c79 _ _ _ _ (by omega)) (k:=?_)
 refine sre_ ?_
 refine rg_ [8] ?_
 refine ret_ ?_
 refine fz_ (h1:=h) Tryz.results197 (hx:=(with_frz n (n.ents.take a) m (n.ents.drop b) h _ _ (rep (n.ents.length+1) [.str [],.int .i64 0]) (n.ents.length+1) (by rw [rep_length];simp;omega) (a+m.length+(n.ents.length - b)) (by simp [Nat.min_eq_left ha];omega) (a*2) ((a+m.length)*2) (by simp [Nat.min_eq_left ha]) (by simp [Nat.min_eq_left ha]))) (hcl:=(by exact clL_ndC _ _)) (hK:=?_)
 exact rk_ (by first | rfl | rw [List.append_assoc])
def badN (s:List UInt8) (id:Int):Bool:=decide (id<1)||decide (s=[])||decide (s=[46])||decide (s=[46,46])||s.any sl0
def spot (l:List En) (s:List UInt8):Nat:=if idxP (gtS s) l<0 then l.length else (idxP (gtS s) l).toNat
def insF (l:List En) (s:List UInt8) (id:Int):List En:=l.take (spot l s)++([(s,id)]++l.drop (spot l s))
def withN (n:Nd) (s:List UInt8) (id:Int):Nd×Int:=
 if n.kind≠2 then (nd0,20) else bif badN s id then (nd0,22) else if (12:Int)<s.length then (nd0,36) else if 0≤idxP (eqS s) n.ents then (nd0,17) else if (8:Int)≤n.ents.length then (nd0,28) else (nWith n (insF n.ents s id),0)
theorem spot_le (l:List En) (s:List UInt8):spot l s≤l.length:=by
 unfold spot
 have:=idxP_range (gtS s) l
 split<;>omega
theorem spot_neg {l:List En} {s:List UInt8} (h:idxP (gtS s) l<0):spot l s=l.length:=if_pos h
theorem spot_pos {l:List En} {s:List UInt8} (h:0≤idxP (gtS s) l):idxP (gtS s) l=(spot l s:Nat):=by
 unfold spot;rw [if_neg (by omega)];omega
theorem withN_ok {n:Nd} {s:List UInt8} {id:Int} (ho:NdOk n) (hs:s.length≤9223372036854775807):NdOk (withN n s id).1:=by
 unfold withN
 split
 · exact ndOk_0
 ·
  cases badN s id with
  | true=>exact ndOk_0
  | false=>
   rw [cond_false]
   split
   · exact ndOk_0
   ·
    split
    · exact ndOk_0
    ·
     split
     · exact ndOk_0
     ·
      have:=spot_le n.ents s
      refine ⟨ho.1,?_,ho.2.2.1,fun e he=>?_⟩
      ·
       show (insF n.ents s id).length≤1000
       simp [insF];omega
      ·
       rcases List.mem_append.1 he with h | h
       · exact ho.2.2.2 e (List.mem_of_mem_take h)
       ·
        rcases List.mem_append.1 h with h | h
        · rw [List.mem_singleton.1 h];exact hs
        · exact ho.2.2.2 e (List.mem_of_mem_drop h)
theorem c134 (n:Nd) (s:List UInt8) (id:Int) (h:List Blk) (live:List Nat) (ho:NdOk n) (hs:s.length≤9223372036854775807):AC Tryz.prog 134 [.agg (ndC n),.str s,.int .i64 id] h live (.tup [.agg (ndC (withN n s id).1),.int .i64 (withN n s id).2]):=by
 refine aq_ Tryz.func134 fun hH hX=>?_
 have ho':=ho
 obtain ⟨ho1,ho2,ho3⟩:=ho'
 have hsl:=spot_le n.ents s
 refine rg_ [2,3,4,6] ?_
 refine sk_ fun K1 hK1=>?_
 refine awp_block ?_
 refine rg_ [2,3,4,6,9] ?_
 refine cx_ (fun hb1=>?_) (fun hb1=>?_)
 ·
  refine rg_ [6,7] ?_
  refine ret_ ?_
  refine fq_ Tryz.results134 ?_ (hcl:=(by simp [AV.cl,AV.clL,clL_ndC,nd0, -List.map_map]))
  exact rk_ (by unfold withN;rw [if_pos hb1];rfl)
 refine rs_ [2,3,4,6,14] ?_
 refine sg_ ?_
 refine cg_ (hc:=fun hg=>c194 s _ _ (by omega)) (k:=?_)
 refine sre_ ?_
 refine cy_ (fun hb2=>?_) (fun hb2=>?_)
 ·
  have hbd:badN s id=true:=hb2
  refine rg_ [6,7] ?_
  refine ret_ ?_
  refine fq_ Tryz.results134 ?_ (hcl:=(by simp [AV.cl,AV.clL,clL_ndC,nd0, -List.map_map]))
  exact rk_ (by unfold withN;rw [if_neg (fun h=>h hb1),hbd];rfl)
 have hbd:badN s id=false:=hb2
 refine rg_ [2,3,4,6,34] ?_
 refine cx_ (fun hb3=>?_) (fun hb3=>?_)
 ·
  refine rg_ [6,7] ?_
  refine ret_ ?_
  refine fq_ Tryz.results134 ?_ (hcl:=(by simp [AV.cl,AV.clL,clL_ndC,nd0, -List.map_map]))
  exact rk_ (by unfold withN;rw [if_neg (fun h=>h hb1),hbd,cond_false,if_pos hb3];rfl)
 refine rs_ [2,3,4,6,39] ?_
 refine sg_ ?_
 refine cl_ (hc:=c186 _ _ _ _ ho) (k:=?_)
 refine sre_ ?_
 refine cx_ (fun hb4=>?_) (fun hb4=>?_)
 ·
  refine rg_ [6,7] ?_
  refine ret_ ?_
  refine fq_ Tryz.results134 ?_ (hcl:=(by simp [AV.cl,AV.clL,clL_ndC,nd0, -List.map_map]))
  exact rk_ (by unfold withN;rw [if_neg (fun h=>h hb1),hbd,cond_false,if_neg (by omega),if_pos hb4];rfl)
 refine rg_ [2,3,4,6,45] ?_
 refine cx_ (fun hb5=>?_) (fun hb5=>?_)
 ·
  refine rg_ [6,7] ?_
  refine ret_ ?_
  refine fq_ Tryz.results134 ?_ (hcl:=(by simp [AV.cl,AV.clL,clL_ndC,nd0, -List.map_map]))
  exact rk_ (by unfold withN;rw [if_neg (fun h=>h hb1),hbd,cond_false,if_neg (by omega),if_neg (by omega),if_pos hb5];rfl)
 refine skp_ ?_
 refine hK1 _ ?_
 refine rs_ [2,3,4,6,8] ?_
 refine sg_ ?_
 refine cl_ (hc:=c195 n.ents _ 196 [.ptr (h.length+1) 0] (gtS s) _ _ (by omega) (fun e=>c196 (h.length+1) s e _ _ (by simp only [push_cast])) (by simp [AV.cl,AV.clL])) (k:=?_)
 refine sre_ ?_
 refine sk_ fun K2 hK2=>?_
 refine rg_ [2,3,4,6,8,56] ?_
 refine cx_ (fun hb6=>?_) (fun hb6=>?_)
 ·
  have hspl:(n.ents.length:Int)=(spot n.ents s:Nat):=by rw [spot_neg hb6]
  refine rt_ [2,3,4,6,8] ?_
  refine srn_ ?_
  refine hK2 _ ?_
  refine rs_ [6,7] ?_
  refine sg_ ?_
  try simp only [hspl]
  refine cl_ (hc:=c197 n (spot n.ents s) (spot n.ents s) [(s,id)] _ _ _ ho hsl hsl (by simp) (by simp)) (k:=?_)
  refine srt_ ?_
  refine fq_ Tryz.results134 ?_ (hcl:=(by simp [AV.cl,AV.clL,clL_ndC,nd0, -List.map_map]))
  exact rk_ (by unfold withN;rw [if_neg (fun h=>h hb1),hbd,cond_false,if_neg (by omega),if_neg (by omega),if_neg (by omega)];rfl)
 have hsp:=spot_pos hb6
 simp only [hsp]
 refine skp_ ?_
 refine hK2 _ ?_
 refine rs_ [6,7] ?_
 refine sg_ ?_
 try simp only [hspl]
 refine cl_ (hc:=c197 n (spot n.ents s) (spot n.ents s) [(s,id)] _ _ _ ho hsl hsl (by simp) (by simp)) (k:=?_)
 refine srt_ ?_
 refine fq_ Tryz.results134 ?_ (hcl:=(by simp [AV.cl,AV.clL,clL_ndC,nd0, -List.map_map]))
 exact rk_ (by unfold withN;rw [if_neg (fun h=>h hb1),hbd,cond_false,if_neg (by omega),if_neg (by omega),if_neg (by omega)];rfl)
end Go.Proofs.YtmgnbgniikjhdaaGreat
namespace Go.Proofs.YtmgnbgniikjhdaaGreat
open Go.Ab
set_option maxRecDepth 8000
set_option maxHeartbeats 400000
def zRest:List AV:=(List.replicate 24 [AV.int .i64 0,.int .i64 0,.int .i64 0,.int .i64 0,.slice [] .full,.slice [] .full,.str []]).flatten
theorem azero_tab:azero Tryz.prog 132=some (.agg (.int .i64 0::zRest)):=by kernel_rfl
theorem tk_tab:tk Tryz.prog 132=some (.agg 169):=by kernel_rfl
theorem zRest_er:AV.erL zRest=tabC (List.replicate 24 nd0):=by kernel_rfl
theorem zRest_len:zRest.length=168:=by kernel_rfl
theorem zRest_take:zRest.take 168=zRest:=List.take_of_length_le (by rw [zRest_len];omega)
def newT (room:Int):Tab:=⟨min (max room 1) 24,List.replicate 24 nd0⟩
theorem newT_room (room:Int):min (max room 1) 24=if 24<(if room<1 then 1 else room) then 24 else if room<1 then 1 else room:=by
 by_cases h:room<1
 · rw [if_pos h,if_neg (by omega)];omega
 ·
  rw [if_neg h]
  by_cases h2:24<room
  · rw [if_pos h2];omega
  · rw [if_neg h2];omega
theorem newT_ok (room:Int):(newT room).Ok where
 lo:=by show 1≤min (max room 1) 24;omega
 hi:=by show min (max room 1) 24≤24;omega
 len:=List.length_replicate
 nd:=fun n hn=>by rw [(List.mem_replicate.1 hn).2];exact ndOk_0
 zero:=fun n hn _=>(List.mem_replicate.1 hn).2
theorem put_ok {T:Tab} (hT:T.Ok) {n:Nd} (hn:NdOk n) (hk:n.kind≠0) (j:Nat):(T.put j n).Ok where
 lo:=hT.lo
 hi:=hT.hi
 len:=by show (T.ns.set j n).length=24;rw [List.length_set];exact hT.len
 nd:=fun m hm=>by
  rcases List.mem_or_eq_of_mem_set hm with h | h
  · exact hT.nd m h
  · rw [h];exact hn
 zero:=fun m hm h0=>by
  rcases List.mem_or_eq_of_mem_set hm with h | h
  · exact hT.zero m h h0
  · exact absurd (h▸h0) hk
def Tab.free (T:Tab):Option Nat:=(List.range T.room.toNat).find? fun i=>(T.at ((i:Int)+1)).isNone
theorem free_at {T:Tab} {i:Nat} (hi:i<T.room.toNat) (h:(T.at ((i:Int)+1)).isNone=true) (hn:∀j,j<i→(T.at ((j:Int)+1)).isNone=false):T.free=some i:=by
 unfold Tab.free
 rw [List.find?_eq_some_iff_append]
 refine ⟨h,List.range i,(List.range (T.room.toNat - i - 1)).map (i+1 + ·),?_,fun a ha=>by simp [hn a (List.mem_range.1 ha)]⟩
 refine List.ext_getElem (by simp;omega) fun a h1 h2=>?_
 simp only [List.length_range] at h1
 rw [List.getElem_range]
 by_cases ha:a<i
 · rw [List.getElem_append_left (by simpa using ha),List.getElem_range]
 ·
  rw [List.getElem_append_right (by simp;omega)]
  simp only [List.length_range]
  rcases Nat.eq_or_lt_of_le (Nat.le_of_not_lt ha) with h | h
  · subst h;simp
  ·
   rw [List.getElem_cons]
   rw [dif_neg (by omega)]
   simp;omega
theorem free_none {T:Tab} (hn:∀j,j<T.room.toNat→(T.at ((j:Int)+1)).isNone=false):T.free=none:=by
 unfold Tab.free
 rw [List.find?_eq_none]
 intro a ha
 simp [hn a (List.mem_range.1 ha)]
def addT (T:Tab) (n:Nd):(Int×Int)×Tab:=
 if rightF n=false then ((0,22),T) else match T.free with
  | some i=>(((i:Int)+1,0),T.put i n)
  | none=>((0,28),T)
def putT (T:Tab) (i:Int) (n:Nd):Int×Tab:=match T.at i with
 | none=>(2,T)
 | some j=>if rightF n=false then (22,T) else (0,T.put j n)
theorem addT_ok {T:Tab} (hT:T.Ok) {n:Nd} (hn:NdOk n):(addT T n).2.Ok:=by
 unfold addT
 split
 · exact hT
 ·
  rename_i h
  split
  · exact put_ok hT hn (rightF_kind (by simpa using h)) _
  · exact hT
theorem putT_ok {T:Tab} (hT:T.Ok) {n:Nd} (hn:NdOk n) (i:Int):(putT T i n).2.Ok:=by
 unfold putT
 split
 · exact hT
 ·
  split
  · exact hT
  ·
   rename_i h
   exact put_ok hT hn (rightF_kind (by simpa using h)) _
theorem hcl_tab {h:List Blk} (hH:HCl h) (k:Nat) (T:Tab):HCl (h.set k (tabBlk T)):=HCl.set hH k (cl_tab _ _)
theorem hcl_new {h:List Blk} (hH:HCl h) (T:Tab):HCl (h++[tabBlk T]):=HCl.snoc hH (cl_tab _ _)
theorem setApp {h g:List Blk} {k:Nat} {x y:Blk} (hk:h[k]? = some x):(h++g).set k y=h.set k y++g:=List.set_append_left _ _ (lt_of_get hk)
theorem c63 (room:Int) (h:List Blk) (live:List Nat):ACalls Tryz.prog 63 [.int .i64 room] h live (ret (.ptr h.length 0) (h++[tabBlk (newT room)]) live):=by
 refine aq_ Tryz.func63 fun hH hX=>?_
 have sx:=(And.intro @azero_tab (And.intro @tk_tab sx0))
 refine rg_ [0] ?_
 refine rg_ [2] ?_
 refine ret_ ?_
 refine fe_ (h1:=h++[tabBlk (newT room)]) Tryz.results63 (hh:=⟨h++[_],[],(List.append_nil _).symm,BW.app (BW.refl _) (BW.one (by show tabBlk (newT room)=.cells (AV.erL (_::zRest));simp only [AV.erL,AV.er,zRest_er,Bool.false_eq_true,if_false];exact congrArg (fun z:Int=>Blk.cells (.int .i64 z::tabC (List.replicate 24 nd0))) (newT_room room)))⟩) (hH:=(hcl_new hH _)) (hK:=?_)
 exact rk_ rfl
theorem c92 (T:Tab) (k:Nat) (n:Nd) (h:List Blk) (live:List Nat) (hk:h[k]? = some (tabBlk T)) (hT:T.Ok) (hn:NdOk n):ACalls Tryz.prog 92 [.ptr k 0,.agg (ndC n)] h live (ret (.tup [.int .i64 (addT T n).1.1,.int .i64 (addT T n).1.2]) (h.set k (tabBlk (addT T n).2)) live):=by
 refine aq_ Tryz.func92 fun hH hX=>?_
 have hkl:=lt_of_get hk
 have hs1:∀(y:Blk) (g:List Blk),(h++g).set k y=h.set k y++g:=fun y g=>setApp hk
 have hs2:∀g:List Blk,(h++g)[k]? = some (tabBlk T):=fun g=>atApp hk
 obtain ⟨hlo,hhi,hlen, -, -⟩:=id hT
 have hB:HCl (h++[.cells (ndC n)]):=HCl.snoc hH (clL_ndC _ _)
 have hroom:((T.room.toNat:Nat):Int)=T.room:=by omega
 have sx:=(And.intro @hs1 (And.intro @hs2 (And.intro @hk (And.intro @tab_put sx0))))
 refine rg_ [0,3] ?_
 refine sk_ fun K1 hK1=>?_
 refine rs_ [0,3,9] ?_
 refine sg_ ?_
 refine cl_ (hc:=c132 n _ _ hn) (k:=?_)
 refine sre_ ?_
 refine cy_ (fun hb1=>?_) (fun hb1=>?_)
 ·
  refine rg_ [4,5] ?_
  refine ret_ ?_
  refine gq_ (h1:=h.set k (tabBlk T)) Tryz.results92 ?_ (hh:=(by rw [set_self hk];exact ⟨_,rfl⟩)) (hH:=(hcl_tab hH _ _))
  exact ⟨by unfold addT;rw [if_pos (by simpa using hb1)],by unfold addT;rw [if_pos (by simpa using hb1)],rfl⟩
 refine skp_ ?_
 refine hK1 _ ?_
 refine sk_ fun K2 hK2=>?_
 refine rs_ [0,3,11,12] ?_
 refine sg_ ?_
 refine cl_ (hc:=c22 T k _ _ (atApp hk)) (k:=?_)
 refine sre_ ?_
 refine awp_block ?_
 refine lp_ (X:={i:Nat // i≤T.room.toNat∧∀j,j<i→(T.at ((j:Int)+1)).isNone=false}) (fun x=>⟨Tryz.f92.ntmps,fget [(0,.ptr k 0),(3,.ptr h.length 0),(11,.int .i64 T.room),(12,.int .i64 (x.1:Nat))],h++[.cells (ndC n)],live⟩) (fun x=>T.room.toNat - x.1) (⟨0,by omega,fun j hj=>by omega⟩) ?_ (fun ⟨i,hi,hno⟩=>?_)
 ·
  try dsimp only
  exact tf_ hB (fun _ h=>h)
 try dsimp only
 refine rg_ [0,3,11,12,13] ?_
 refine sk_ fun K3 hK3=>?_
 refine cx_ (fun hb2=>?_) (fun hb2=>?_)
 rotate_left
 ·
  have hfr:T.free=none:=free_none fun j hj=>hno j (by omega)
  refine awp_exit (up_ ?_)
  refine hK2 _ ?_
  refine rg_ [4,5] ?_
  refine ret_ ?_
  refine gq_ (h1:=h.set k (tabBlk T)) Tryz.results92 ?_ (hh:=(by rw [set_self hk];exact ⟨_,rfl⟩)) (hH:=(hcl_tab hH _ _))
  exact ⟨by unfold addT;rw [if_neg (by simpa using hb1),hfr],by unfold addT;rw [if_neg (by simpa using hb1),hfr],rfl⟩
 have hil:i<T.room.toNat:=by omega
 have hil24:i<24:=by omega
 refine skp_ ?_
 refine hK3 _ ?_
 refine sk_ fun K4 hK4=>?_
 refine awp_block ?_
 refine rg_ [0,3,6,11,12] ?_
 refine rs_ [0,3,6,11,12,19] ?_
 refine sg_ ?_
 refine cl_ (hc:=c46 T k _ _ _ (atApp hk) hT) (k:=?_)
 refine dawp_p rfl (np_eql k (T.at ((i:Int)+1)) _) rfl rfl ?_
 refine re_ ?_
 refine cy_ (fun hb3=>?_) (fun hb3=>?_)
 ·
  have hfr:=free_at hil hb3 hno
  refine rsq_ [6] ⟨true,[],[],[],[],[],0⟩ (fun _=>⟨by kernel_rfl,by kernel_rfl⟩) ?_
  refine sg_ ?_
  refine cr_ (hc:=c47 n _ _ hn) (k:=?_)
  refine sre_ ?_
  refine rg_ [4,5] ?_
  refine ret_ ?_
  refine gq_ (h1:=h.set k (tabBlk (T.put i n))) Tryz.results92 ?_ (hh:=(⟨_,rfl⟩)) (hH:=(hcl_tab hH _ _))
  exact ⟨by unfold addT;rw [if_neg (by simpa using hb1),hfr],by unfold addT;rw [if_neg (by simpa using hb1),hfr],rfl⟩
 refine skp_ ?_
 refine hK4 _ ?_
 refine rt_ [0,3,11,12] ?_
 refine srn_ ?_
 refine ln_ ⟨i+1,by omega,fun j hj=>by rcases Nat.lt_succ_iff_lt_or_eq.1 hj with h | h;exact hno j h;subst h;exact hb3⟩ ?_
 try dsimp only
 exact tf_ hB (fun _ h=>h)
theorem pn135 (T:Tab) (k:Nat) (i:Int) (n:Nd) (h:List Blk) (live:List Nat) (hk:h[k]? = some (tabBlk T)) (hT:T.Ok) (hn:NdOk n) (ha:T.at i=none):AC Tryz.prog 135 [.ptr k 0,.int .i64 i,.agg (ndC n)] h live (.int .i64 2):=by
 refine aq_ Tryz.func135 fun hH hX=>?_
 have sx:=(And.intro @ha sx0)
 refine rg_ [0,1,5] ?_
 refine rs_ [5,7] ?_
 refine sg_ ?_
 refine cl_ (hc:=c46 T k i _ _ (atApp hk) hT) (k:=?_)
 refine sre_ ?_
 refine sk_ fun K1 hK1=>?_
 refine rg_ [5,7,12] ?_
 refine cdy_ (ht:=fun hb1=>?_) (hf:=fun hb1=>?_)
 ·
  refine rg_ [6] ?_
  refine ret_ ?_
  refine fq_ Tryz.results135 ?_
  exact rk_ rfl
 exfalso;exact Bool.noConfusion hb1
theorem ps135 (T:Tab) (k:Nat) (i:Int) (n:Nd) (h:List Blk) (live:List Nat) (hk:h[k]? = some (tabBlk T)) (hT:T.Ok) (hn:NdOk n) (j:Nat) (ha:T.at i=some j):ACalls Tryz.prog 135 [.ptr k 0,.int .i64 i,.agg (ndC n)] h live (ret (.int .i64 (if rightF n=false then 22 else 0)) (h.set k (tabBlk (if rightF n=false then T else T.put j n))) live):=by
 refine aq_ Tryz.func135 fun hH hX=>?_
 have hkl:=lt_of_get hk
 have hs1:∀(y:Blk) (g:List Blk),(h++g).set k y=h.set k y++g:=fun y g=>setApp hk
 have hs2:∀g:List Blk,(h++g)[k]? = some (tabBlk T):=fun g=>atApp hk
 obtain ⟨hj,hij,hir,hkd⟩:=at_some hT ha
 have sx:=(And.intro @ha (And.intro @hs1 (And.intro @hs2 (And.intro @hk (And.intro @tab_put sx0)))))
 refine rg_ [0,1,5] ?_
 refine rs_ [5,7] ?_
 refine sg_ ?_
 refine cl_ (hc:=c46 T k i _ _ (atApp hk) hT) (k:=?_)
 refine sre_ ?_
 refine sk_ fun K1 hK1=>?_
 refine rg_ [5,7,12] ?_
 refine cdn_ (ht:=fun hb1=>?_) (hf:=fun hb1=>?_)
 · exfalso;exact Bool.noConfusion hb1
 refine skp_ ?_
 refine hK1 _ ?_
 refine sk_ fun K2 hK2=>?_
 refine rs_ [5,7,15] ?_
 refine sg_ ?_
 refine cl_ (hc:=c132 n _ _ hn) (k:=?_)
 refine sre_ ?_
 refine cy_ (fun hb2=>?_) (fun hb2=>?_)
 ·
  refine rg_ [6] ?_
  refine ret_ ?_
  refine gq_ (h1:=h.set k (tabBlk T)) Tryz.results135 ?_ (hh:=(by rw [set_self hk];exact ⟨_,rfl⟩)) (hH:=(hcl_tab hH _ _))
  exact ⟨by rw [if_pos (by simpa using hb2)],by rw [if_pos (by simpa using hb2)],rfl⟩
 refine skp_ ?_
 refine hK2 _ ?_
 refine rsq_ [] ⟨true,[],[],[],[],[],0⟩ (fun h=>nomatch h) ?_
 refine sg_ ?_
 refine cr_ (hc:=c47 n _ _ hn) (k:=?_)
 refine sre_ ?_
 refine rg_ [6] ?_
 refine ret_ ?_
 refine gq_ (h1:=h.set k (tabBlk (T.put j n))) Tryz.results135 ?_ (hh:=(⟨_,rfl⟩)) (hH:=(hcl_tab hH _ _))
 exact ⟨by rw [if_neg (by simpa using hb2)],by rw [if_neg (by simpa using hb2)],rfl⟩
set_option maxRecDepth 8000 in
theorem c135 (T:Tab) (k:Nat) (i:Int) (n:Nd) (h:List Blk) (live:List Nat) (hk:h[k]? = some (tabBlk T)) (hT:T.Ok) (hn:NdOk n):ACalls Tryz.prog 135 [.ptr k 0,.int .i64 i,.agg (ndC n)] h live (ret (.int .i64 (putT T i n).1) (h.set k (tabBlk (putT T i n).2)) live):=by
 unfold putT
 rcases ha:T.at i with _ | j
 ·
  have:=pn135 T k i n h live hk hT hn ha
  simp only [set_self hk];exact this
 ·
  have:=ps135 T k i n h live hk hT hn j ha
  by_cases hr:rightF n=false
  · simp only [if_pos hr] at this ⊢;exact this
  · simp only [if_neg hr] at this ⊢;exact this
structure Rw where
 kind:Int
 mode:Int
 uid:Int
 gid:Int
 parent:Int
 name:List UInt8
 data:List UInt8
 target:List UInt8
 node:Int
def rwC (r:Rw):List AV:=[.int .i64 r.kind,.int .i64 r.mode,.int .i64 r.uid,.int .i64 r.gid,.int .i64 r.parent,.str r.name,.slice (r.data.map bV) .none,.str r.target,.int .i64 r.node]
def rV (r:Rw):AV:=.agg (rwC r)
def rw0:Rw:=⟨0,0,0,0,0,[],[],[],0⟩
structure RwOk (r:Rw):Prop where
 name:r.name.length≤1000
 data:r.data.length≤1000
 target:r.target.length≤1000
def madeF (r:Rw):Nd:=⟨r.kind,r.mode,r.uid,r.gid,r.data,[],r.target⟩
theorem madeF_ok {r:Rw} (h:RwOk r):NdOk (madeF r):=⟨h.data,Nat.zero_le _,h.target,fun e he=>by cases he⟩
def toldF (T:Tab) (r:Rw):(Int×Int)×Tab:=
 if r.kind≠4 then addT T (madeF r) else if (T.get r.node).2=false then ((0,2),T) else if (T.get r.node).1.kind=2 then ((0,1),T) else ((r.node,0),T)
theorem toldF_ok {T:Tab} (hT:T.Ok) {r:Rw} (hr:RwOk r):(toldF T r).2.Ok:=by
 unfold toldF
 split
 · exact addT_ok hT (madeF_ok hr)
 ·
  split
  · exact hT
  ·
   split
   · exact hT
   · exact hT
def oneF (T:Tab) (r:Rw):Int×Tab:=
 if (T.get r.parent).2=false then (2,T)
 else if (toldF T r).1.2≠0 then ((toldF T r).1.2,(toldF T r).2)
 else if (withN ((toldF T r).2.get r.parent).1 r.name (toldF T r).1.1).2≠0 then ((withN ((toldF T r).2.get r.parent).1 r.name (toldF T r).1.1).2,(toldF T r).2)
 else putT (toldF T r).2 r.parent (withN ((toldF T r).2.get r.parent).1 r.name (toldF T r).1.1).1
theorem oneF_ok {T:Tab} (hT:T.Ok) {r:Rw} (hr:RwOk r):(oneF T r).2.Ok:=by
 have h1:=toldF_ok hT hr
 unfold oneF
 split
 · exact hT
 ·
  split
  · exact h1
  ·
   split
   · exact h1
   · exact putT_ok h1 (withN_ok (get_ok h1 _) (Nat.le_trans hr.name (by decide))) _
theorem rwC_len (r:Rw):(rwC r).length=9:=rfl
theorem rwC_0 (n:Rw):(rwC n)[0]? = some (.int .i64 n.kind):=rfl
theorem rwC_1 (n:Rw):(rwC n)[1]? = some (.int .i64 n.mode):=rfl
theorem rwC_2 (n:Rw):(rwC n)[2]? = some (.int .i64 n.uid):=rfl
theorem rwC_3 (n:Rw):(rwC n)[3]? = some (.int .i64 n.gid):=rfl
theorem rwC_4 (n:Rw):(rwC n)[4]? = some (.int .i64 n.parent):=rfl
theorem rwC_5 (n:Rw):(rwC n)[5]? = some (.str n.name):=rfl
theorem rwC_6 (n:Rw):(rwC n)[6]? = some (.slice (n.data.map bV) .none):=rfl
theorem rwC_7 (n:Rw):(rwC n)[7]? = some (.str n.target):=rfl
theorem rwC_8 (n:Rw):(rwC n)[8]? = some (.int .i64 n.node):=rfl
theorem rwTake (n:Rw):(rwC n).take 9=rwC n:=rfl
theorem rwPut (a b c d e f g h i:AV) (n:Rw):putAt [a,b,c,d,e,f,g,h,i] 0 (rwC n)=rwC n:=rfl
attribute [push_cast] rwC_len rwC_0 rwC_1 rwC_2 rwC_3 rwC_4 rwC_5 rwC_6 rwC_7 rwC_8 rwTake rwPut
theorem clL_rwC (m:Nat) (n:Rw):AV.clL m (rwC n):=by simp [rwC,AV.clL,AV.cl,clL_bV, -List.map_map]
theorem drop_map_rV (l:List Rw) (i:Nat):List.drop i (List.map rV l)=List.map rV (List.drop i l):=List.map_drop.symm
theorem er_rwC (n:Rw):AV.erL (rwC n)=rwC n:=by simp [rwC,AV.erL,AV.er,erL_bV, -List.map_map]
theorem getD_rV {l:List Rw} {i:Nat} {d:AV} (h:i<l.length):(l.map rV).getD i d=.agg (rwC (l.getD i rw0)):=by
 simp [List.getD_eq_getElem?_getD,h,rV]
theorem allSz_rV (l:List Rw):allSz (l.map rV) 9↔True:=iff_true_intro (allSz_map _ _ _ fun _=>rfl)
attribute [push_cast] getD_rV allSz_rV
theorem clL_rV (n:Nat) (l:List Rw):AV.clL n (l.map rV):=by
 rw [AV.clL_mem];intro x hx;obtain ⟨y, _,rfl⟩:=List.mem_map.1 hx;exact clL_rwC _ _
theorem madeF_cells (r:Rw):ndC (madeF r)=[.int .i64 r.kind,.int .i64 r.mode,.int .i64 r.uid,.int .i64 r.gid,.slice (r.data.map bV) .none,.slice [] .none,.str r.target]:=rfl
attribute [push_cast] clL_rwC er_rwC clL_rV
theorem c93 (r:Rw) (h:List Blk) (live:List Nat):AC Tryz.prog 93 [.agg (rwC r)] h live (.agg (ndC (madeF r))):=by
 refine aq_ Tryz.func93 fun hH hX=>?_
 refine rg_ [1,2] ?_
 refine rg_ [2] ?_
 refine ret_ ?_
 refine fq_ Tryz.results93 ?_ (hx:=by (simp only [atuple,AV.er,AV.erL,push_cast,madeF_cells])<;>rfl) (hcl:=(by simp [AV.cl,AV.clL,clL_bV, -List.map_map]))
 exact rk_ rfl
theorem c133 (T:Tab) (k:Nat) (r:Rw) (h:List Blk) (live:List Nat) (hk:h[k]? = some (tabBlk T)) (hT:T.Ok) (hr:RwOk r):ACalls Tryz.prog 133 [.agg (rwC r),.ptr k 0] h live (ret (.tup [.int .i64 (toldF T r).1.1,.int .i64 (toldF T r).1.2]) (h.set k (tabBlk (toldF T r).2)) live):=by
 refine aq_ Tryz.func133 fun hH hX=>?_
 have hkl:=lt_of_get hk
 have hs1:∀(y:Blk) (g:List Blk),(h++g).set k y=h.set k y++g:=fun y g=>setApp hk
 have hs2:∀g:List Blk,(h++g)[k]? = some (tabBlk T):=fun g=>atApp hk
 have sx:=(And.intro @hs1 sx0)
 refine rg_ [1,2] ?_
 refine sk_ fun K1 hK1=>?_
 refine rg_ [1,2,10] ?_
 refine cx_ (fun hb1=>?_) (fun hb1=>?_)
 ·
  refine rs_ [4,5] ?_
  refine sg_ ?_
  refine cl_ (hc:=c93 r _ _) (k:=?_)
  refine cl_ (hc:=c92 T k (madeF r) _ _ (atApp hk) hT (madeF_ok hr)) (k:=?_)
  refine srt_ ?_
  refine gq_ (h1:=h.set k (tabBlk (addT T (madeF r)).2)) Tryz.results133 ?_ (hh:=(⟨_,rfl⟩)) (hH:=(hcl_tab hH _ _))
  exact ⟨by unfold toldF;rw [if_pos hb1],by unfold toldF;rw [if_pos hb1],rfl⟩
 refine skp_ ?_
 refine hK1 _ ?_
 refine rs_ [2,6,7] ?_
 refine sg_ ?_
 refine cl_ (hc:=c23 T k _ _ _ (atApp hk) hT) (k:=?_)
 refine sre_ ?_
 refine sk_ fun K2 hK2=>?_
 refine awp_block ?_
 refine rg_ [2,6,24] ?_
 refine cx_ (fun hb2=>?_) (fun hb2=>?_)
 ·
  refine rg_ [4,5] ?_
  refine ret_ ?_
  refine gq_ (h1:=h.set k (tabBlk T)) Tryz.results133 ?_ (hh:=(by rw [set_self hk];exact ⟨_,rfl⟩)) (hH:=(hcl_tab hH _ _))
  exact ⟨by unfold toldF;rw [if_neg (fun h=>h hb1),if_pos hb2],by unfold toldF;rw [if_neg (fun h=>h hb1),if_pos hb2],rfl⟩
 refine rg_ [2,27] ?_
 refine cx_ (fun hb3=>?_) (fun hb3=>?_)
 ·
  refine rg_ [4,5] ?_
  refine ret_ ?_
  refine gq_ (h1:=h.set k (tabBlk T)) Tryz.results133 ?_ (hh:=(by rw [set_self hk];exact ⟨_,rfl⟩)) (hH:=(hcl_tab hH _ _))
  exact ⟨by unfold toldF;rw [if_neg (fun h=>h hb1),if_neg (by simp [hb2]),if_pos hb3],by unfold toldF;rw [if_neg (fun h=>h hb1),if_neg (by simp [hb2]),if_pos hb3],rfl⟩
 refine skp_ ?_
 refine hK2 _ ?_
 refine rg_ [4,5] ?_
 refine ret_ ?_
 refine gq_ (h1:=h.set k (tabBlk T)) Tryz.results133 ?_ (hh:=(by rw [set_self hk];exact ⟨_,rfl⟩)) (hH:=(hcl_tab hH _ _))
 exact ⟨by unfold toldF;rw [if_neg (fun h=>h hb1),if_neg (by simp [hb2]),if_neg hb3],by unfold toldF;rw [if_neg (fun h=>h hb1),if_neg (by simp [hb2]),if_neg hb3],rfl⟩
theorem c94 (T:Tab) (k:Nat) (r:Rw) (h:List Blk) (live:List Nat) (hk:h[k]? = some (tabBlk T)) (hT:T.Ok) (hr:RwOk r):ACalls Tryz.prog 94 [.agg (rwC r),.ptr k 0] h live (ret (.int .i64 (oneF T r).1) (h.set k (tabBlk (oneF T r).2)) live):=by
 refine aq_ Tryz.func94 fun hH hX=>?_
 have hkl:=lt_of_get hk
 have hs1:∀(y:Blk) (g:List Blk),(h++g).set k y=h.set k y++g:=fun y g=>setApp hk
 have hs2:∀g:List Blk,(h++g)[k]? = some (tabBlk T):=fun g=>atApp hk
 have hT1:=toldF_ok hT hr
 have hg:∀(x:Tab) (g:List Blk),(h.set k (tabBlk x)++g)[k]? = some (tabBlk x):=fun x g=>get_setapp hkl
 have hr1:=hr.name
 have sx:=(And.intro @hs1 sx0)
 refine rg_ [1,2] ?_
 refine rg_ [1,2,5] ?_
 refine sk_ fun K1 hK1=>?_
 refine rs_ [1,2,5,7] ?_
 refine sg_ ?_
 refine cl_ (hc:=c23 T k _ _ _ (atApp hk) hT) (k:=?_)
 refine sre_ ?_
 refine rg_ [1,2,5,22] ?_
 refine cx_ (fun hb1=>?_) (fun hb1=>?_)
 ·
  refine rg_ [4] ?_
  refine ret_ ?_
  refine gq_ (h1:=h.set k (tabBlk T)) Tryz.results94 ?_ (hh:=(by rw [set_self hk];exact ⟨_,rfl⟩)) (hH:=(hcl_tab hH _ _))
  exact ⟨by unfold oneF;rw [if_pos hb1],by unfold oneF;rw [if_pos hb1],rfl⟩
 refine skp_ ?_
 refine hK1 _ ?_
 refine rs_ [1,2,5,8,9] ?_
 refine sg_ ?_
 refine cl_ (hc:=c133 T k r _ _ (atApp hk) hT hr) (k:=?_)
 refine sre_ ?_
 refine sk_ fun K2 hK2=>?_
 refine rg_ [1,2,5,8,9,30] ?_
 refine cx_ (fun hb2=>?_) (fun hb2=>?_)
 ·
  refine rg_ [4] ?_
  refine ret_ ?_
  refine gq_ (h1:=h.set k (tabBlk (toldF T r).2)) Tryz.results94 ?_ (hH:=(hcl_tab hH _ _))
  exact ⟨by unfold oneF;rw [if_neg (by simp [hb1]),if_pos hb2],by unfold oneF;rw [if_neg (by simp [hb1]),if_pos hb2],rfl⟩
 refine skp_ ?_
 refine hK2 _ ?_
 refine rs_ [1,2,8,10] ?_
 refine sg_ ?_
 refine cl_ (hc:=c23 (toldF T r).2 k _ _ _ (hg _ _) hT1) (k:=?_)
 refine sre_ ?_
 refine rs_ [1,2,9,10] ?_
 refine sg_ ?_
 refine cl_ (hc:=c134 _ _ _ _ _ (get_ok hT1 _) (by omega)) (k:=?_)
 refine sre_ ?_
 refine sk_ fun K3 hK3=>?_
 refine rg_ [1,2,9,10,48] ?_
 refine cx_ (fun hb3=>?_) (fun hb3=>?_)
 ·
  refine rg_ [4] ?_
  refine ret_ ?_
  refine gq_ (h1:=h.set k (tabBlk (toldF T r).2)) Tryz.results94 ?_ (hH:=(hcl_tab hH _ _))
  exact ⟨by unfold oneF;rw [if_neg (by simp [hb1]),if_neg (fun h=>h hb2),if_pos hb3],by unfold oneF;rw [if_neg (by simp [hb1]),if_neg (fun h=>h hb2),if_pos hb3],rfl⟩
 refine skp_ ?_
 refine hK3 _ ?_
 refine rs_ [4] ?_
 refine sg_ ?_
 refine cl_ (hc:=c135 (toldF T r).2 k _ _ _ _ (hg _ _) hT1 (withN_ok (get_ok hT1 _) (Nat.le_trans hr.name (by decide)))) (k:=?_)
 refine srt_ ?_
 refine gq_ (h1:=h.set k (tabBlk (putT (toldF T r).2 r.parent (withN ((toldF T r).2.get r.parent).1 r.name (toldF T r).1.1).1).2)) Tryz.results94 ?_ (hH:=(hcl_tab hH _ _))
 exact ⟨by unfold oneF;rw [if_neg (by simp [hb1]),if_neg (fun h=>h hb2),if_neg (fun h=>h hb3)],by unfold oneF;rw [if_neg (by simp [hb1]),if_neg (fun h=>h hb2),if_neg (fun h=>h hb3)],rfl⟩
def restF (T:Tab) (i:Nat):List Rw→Int×Int⊕Tab
 | []=>.inr T
 | r::l=>if (oneF T r).1≠0 then .inl ((i:Int)+1,(oneF T r).1) else restF (oneF T r).2 (i+1) l
def buildF (room:Int) (l:List Rw):(Int×Int)⊕Tab:=
 bif (decide ((l.length:Int)=0)||!decide ((l.getD 0 rw0).kind=2)||!decide ((l.getD 0 rw0).parent=0)||!decide ((l.getD 0 rw0).name=[])) then .inl (0,22)
 else if (addT (newT room) (madeF (l.getD 0 rw0))).1.2≠0 then .inl (0,(addT (newT room) (madeF (l.getD 0 rw0))).1.2)
 else restF (addT (newT room) (madeF (l.getD 0 rw0))).2 0 (l.drop 1)
theorem restF_get (T:Tab) (i:Nat) {l:List Rw} {m:Nat} (hm:m<l.length):restF T i (l.drop m)=if (oneF T (l.getD m rw0)).1≠0 then .inl ((i:Int)+1,(oneF T (l.getD m rw0)).1) else restF (oneF T (l.getD m rw0)).2 (i+1) (l.drop (m+1)):=by
 rw [List.drop_eq_getElem_cons hm]
 simp only [restF,List.getD_eq_getElem?_getD,List.getElem?_eq_getElem hm,Option.getD_some]
def bI:(Int×Int)⊕Tab→Int
 | .inl (i, _)=>i
 | .inr _=>0
def bE:(Int×Int)⊕Tab→Int
 | .inl (_,e)=>e
 | .inr _=>0
def bP (h:List Blk) (o:(Int×Int)⊕Tab) (p:AV):Prop:=match o with
 | .inl _=>p=.raw (.pointer none)
 | .inr T=>∃k,p=.ptr k 0∧h[k]? = some (tabBlk T)
def buildK (h:List Blk) (live:List Nat) (o:(Int×Int)⊕Tab):KT:=fun x h' l'=>l'=live∧∃g p,x=.tup [p,.int .i64 (bI o),.int .i64 (bE o)]∧h'=h++g∧bP h' o p∧p.er=p∧p.cl h'.length∧HCl h'
theorem restF_err:∀(l:List Rw) (T:Tab) (i:Nat) (x:Int×Int),restF T i l=.inl x→x.2≠0
 | [],T,i,x,h=>by cases h
 | r::l,T,i,x,h=>by
  unfold restF at h
  split at h
  · cases h;assumption
  · exact restF_err l _ _ x h
theorem buildF_err {room:Int} {l:List Rw} {x:Int×Int} (h:buildF room l=.inl x):x.2≠0:=by
 unfold buildF at h
 cases hc:(decide ((l.length:Int)=0)||!decide ((l.getD 0 rw0).kind=2)||!decide ((l.getD 0 rw0).parent=0)||!decide ((l.getD 0 rw0).name=[])) with
 | true=>rw [hc,cond_true] at h;cases h;decide
 | false=>
  rw [hc,cond_false] at h
  split at h
  · cases h;assumption
  · exact restF_err _ _ _ x h
theorem restF_ok:∀(l:List Rw) (T:Tab) (i:Nat) (T':Tab),T.Ok→(∀r∈l,RwOk r)→restF T i l=.inr T'→T'.Ok
 | [],T,i,T',hT, _,h=>by cases h;exact hT
 | r::l,T,i,T',hT,hl,h=>by
  unfold restF at h
  split at h
  · cases h
  · exact restF_ok l _ _ T' (oneF_ok hT (hl r (by simp))) (fun r hr=>hl r (by simp [hr])) h
theorem buildF_ok {room:Int} {l:List Rw} {T:Tab} (hl:∀r∈l,RwOk r) (h:buildF room l=.inr T):T.Ok:=by
 unfold buildF at h
 cases hc:(decide ((l.length:Int)=0)||!decide ((l.getD 0 rw0).kind=2)||!decide ((l.getD 0 rw0).parent=0)||!decide ((l.getD 0 rw0).name=[])) with
 | true=>rw [hc,cond_true] at h;cases h
 | false=>
  rw [hc,cond_false] at h
  split at h
  · cases h
  ·
   refine restF_ok _ _ _ T (addT_ok (newT_ok _) (madeF_ok ?_)) (fun r hr=>hl r (List.mem_of_mem_drop hr)) h
   by_cases h0:0<l.length
   · rw [List.getD_eq_getElem?_getD,List.getElem?_eq_getElem h0];exact hl _ (List.getElem_mem h0)
   · rw [List.getD_eq_getElem?_getD,List.getElem?_eq_none (by omega)];exact ⟨by decide,by decide,by decide⟩
theorem getD_ok {l:List Rw} (hl:∀r∈l,RwOk r) (i:Nat):RwOk (l.getD i rw0):=by
 by_cases h:i<l.length
 · rw [List.getD_eq_getElem?_getD,List.getElem?_eq_getElem h];exact hl _ (List.getElem_mem h)
 · rw [List.getD_eq_getElem?_getD,List.getElem?_eq_none (by omega)];exact ⟨by decide,by decide,by decide⟩
theorem c62 (room:Int) (l:List Rw) (h:List Blk) (live:List Nat) (hl:∀r∈l,RwOk r) (hn:l.length≤1000000):ACalls Tryz.prog 62 [.int .i64 room,.slice (l.map rV) .none] h live (buildK h live (buildF room l)):=by
 refine aq_ Tryz.func62 fun hH hX=>?_
 have h0ok:=getD_ok hl 0
 have hT1:=addT_ok (newT_ok room) (madeF_ok h0ok)
 have hL:∀r∈l.drop 1,RwOk r:=fun r hr=>hl r (List.mem_of_mem_drop hr)
 have hLl:(l.drop 1).length=l.length - 1:=List.length_drop
 have htd:List.take (l.length - 1) (List.map rV (List.drop 1 l))=List.map rV (List.drop 1 l):=List.take_of_length_le (by rw [List.length_map,hLl];exact Nat.le_refl _)
 have sx:=(And.intro @drop_map_rV (And.intro @htd sx0))
 refine rg_ [0,1] ?_
 refine sk_ fun K1 hK1=>?_
 refine rg_ [0,1,36] ?_
 refine cy_ (fun hb1=>?_) (fun hb1=>?_)
 ·
  refine rg_ [4,5,6] ?_
  refine ret_ ?_
  refine fq_ Tryz.results62 ?_
  unfold buildF;rw [hb1,cond_true];exact ⟨rfl,[], _,rfl,(List.append_nil _).symm,rfl,rfl,trivial,hH⟩
 have hb1':=hb1
 simp only [decide_eq_true_eq,decide_eq_false_iff_not,Bool.not_eq_true',Bool.not_eq_false',Bool.or_eq_true,Bool.and_eq_true,Bool.or_eq_false_iff,Bool.and_eq_false_imp,Int.not_lt,Int.not_le] at hb1'
 refine skp_ ?_
 refine hK1 _ ?_
 refine rs_ [1,7] ?_
 refine sg_ ?_
 refine cl_ (hc:=c63 room _ _) (k:=?_)
 refine sre_ ?_
 refine sk_ fun K2 hK2=>?_
 refine rs_ [1,7,9] ?_
 refine sg_ ?_
 refine cl_ (hc:=c93 _ _ _) (k:=?_)
 refine cl_ (hc:=c92 (newT room) h.length (madeF (l.getD 0 rw0)) _ _ (by simp only [push_cast]) (newT_ok _) (madeF_ok h0ok)) (k:=?_)
 refine sre_ ?_
 refine rg_ [1,7,9,49] ?_
 refine cx_ (fun hb2=>?_) (fun hb2=>?_)
 ·
  refine rg_ [4,5,6] ?_
  refine ret_ ?_
  refine fq_ Tryz.results62 ?_
  unfold buildF;rw [hb1,cond_false,if_pos hb2];exact ⟨rfl,[], _,rfl,(List.append_nil _).symm,rfl,rfl,trivial,hH⟩
 refine skp_ ?_
 refine hK2 _ ?_
 refine sk_ fun K3 hK3=>?_
 refine rg_ [7,52,53,54] ?_
 refine awp_block ?_
 refine lp_ (X:={p:Nat×Tab // p.1≤(l.drop 1).length∧p.2.Ok∧restF (addT (newT room) (madeF (l.getD 0 rw0))).2 0 (l.drop 1)=restF p.2 p.1 ((l.drop 1).drop p.1)}) (fun x=>⟨Tryz.f62.ntmps,fget [(7,.ptr h.length 0),(52,.slice ((l.drop 1).map rV) .none),(53,.int .i64 ((l.drop 1).length:Nat)),(54,.int .i64 (x.1.1:Nat))],h++[tabBlk x.1.2],live⟩) (fun x=>(l.drop 1).length - x.1.1) (⟨⟨0,(addT (newT room) (madeF (l.getD 0 rw0))).2⟩,Nat.zero_le _,hT1,rfl⟩) ?_ (fun ⟨⟨i,T⟩,hi,hT,hrest⟩=>?_)
 ·
  try dsimp only
  refine Trunc.of (by first | exact (List.append_nil _).symm | exact rfl | (rw [List.append_assoc];rfl)) ?_ (hcl_new hH _) (fun _ h=>h)
  refine ftc_ ?_ (hc:=by first | trivial | exact clL_rV _ _ | simp [AV.cl,AV.clL])
  refine ftc_ ?_ (hc:=by first | trivial | exact clL_rV _ _ | simp [AV.cl,AV.clL])
  refine ftc_ ?_ (hc:=by first | trivial | exact clL_rV _ _ | simp [AV.cl,AV.clL])
  refine ftc_ ?_ (hc:=by first | trivial | exact clL_rV _ _ | simp [AV.cl,AV.clL])
  exact FTr.nil
 try dsimp only
 dsimp only at hi hT hrest
 have hri:=getD_ok hL i
 refine rg_ [7,52,53,54,55] ?_
 refine sk_ fun K4 hK4=>?_
 refine cx_ (fun hb3=>?_) (fun hb3=>?_)
 rotate_left
 ·
  have hie:i=(l.drop 1).length:=by omega
  subst hie
  refine awp_exit (up_ ?_)
  refine hK3 _ ?_
  refine rg_ [4,5,6] ?_
  refine ret_ ?_
  refine gq_ (h1:=h++[tabBlk T]) Tryz.results62 ?_ (hH:=(hcl_new hH _))
  unfold buildF;rw [hb1,cond_false,if_neg (fun h=>h hb2),hrest,List.drop_length];exact ⟨rfl,[tabBlk T], _,rfl,rfl,⟨h.length,rfl,by simp⟩,rfl,by simp [AV.cl],hcl_new hH _⟩
 have hil:i<(l.drop 1).length:=by omega
 refine skp_ ?_
 refine hK4 _ ?_
 refine sk_ fun K5 hK5=>?_
 refine awp_block ?_
 refine rg_ [7,10,11,52,53,54] ?_
 refine rs_ [7,10,12,52,53,54] ?_
 refine sg_ ?_
 refine cl_ (hc:=c94 T h.length ((l.drop 1).getD i rw0) _ _ (by simp only [push_cast]) hT hri) (k:=?_)
 refine sre_ ?_
 refine rg_ [7,10,12,52,53,54,63] ?_
 refine cx_ (fun hb4=>?_) (fun hb4=>?_)
 ·
  refine rg_ [4,5,6] ?_
  refine ret_ ?_
  refine fq_ Tryz.results62 ?_
  unfold buildF;rw [hb1,cond_false,if_neg (fun h=>h hb2),hrest,restF_get T i hil,if_pos hb4];exact ⟨rfl,[], _,rfl,(List.append_nil _).symm,rfl,rfl,trivial,hH⟩
 refine skp_ ?_
 refine hK5 _ ?_
 refine rt_ [7,52,53,54] ?_
 refine srn_ ?_
 refine ln_ ⟨⟨i+1,(oneF T ((l.drop 1).getD i rw0)).2⟩,by dsimp only;omega,oneF_ok hT hri,by rw [hrest,restF_get T i hil,if_neg (fun h=>h hb4)]⟩ ?_
 try dsimp only
 refine Trunc.of (by first | exact (List.append_nil _).symm | exact rfl | (rw [List.append_assoc];rfl)) ?_ (hcl_new hH _) (fun _ h=>h)
 refine ftc_ ?_ (hc:=by first | trivial | exact clL_rV _ _ | simp [AV.cl,AV.clL])
 refine ftc_ ?_ (hc:=by first | trivial | exact clL_rV _ _ | simp [AV.cl,AV.clL])
 refine ftc_ ?_ (hc:=by first | trivial | exact clL_rV _ _ | simp [AV.cl,AV.clL])
 refine ftc_ ?_ (hc:=by first | trivial | exact clL_rV _ _ | simp [AV.cl,AV.clL])
 exact FTr.nil
def bigR (r:Rw):Bool:=decide ((40:Int)<r.name.length)||decide ((100:Int)<r.data.length)||decide ((100:Int)<r.target.length)
def builtF (room:Int) (l:List Rw) (c:Cr):Option Tab:=
 bif (decide ((50:Int)<l.length)||decide ((10:Int)<c.gs.length)) then none
 else bif l.any bigR then none else match buildF room l with
  | .inl _=>none
  | .inr T=>some T
theorem builtF_ok {room:Int} {l:List Rw} {c:Cr} {T:Tab} (h:builtF room l c=some T):T.Ok∧c.gs.length≤10:=by
 unfold builtF at h
 cases h1:(decide ((50:Int)<l.length)||decide ((10:Int)<c.gs.length)) with
 | true=>rw [h1] at h;cases h
 | false=>
  rw [h1,cond_false] at h
  cases h2:l.any bigR with
  | true=>rw [h2] at h;cases h
  | false=>
   rw [h2,cond_false] at h
   split at h
   · cases h
   ·
    rename_i T' hT
    cases h
    simp only [Bool.or_eq_false_iff,decide_eq_false_iff_not,Int.not_lt] at h1
    refine ⟨buildF_ok (fun r hr=>?_) hT,by omega⟩
    have:=List.any_eq_false.1 h2 r hr
    simp only [bigR,Bool.not_eq_true,Bool.or_eq_false_iff,decide_eq_false_iff_not,Int.not_lt] at this
    exact ⟨by omega,by omega,by omega⟩
theorem any_getD_f {α:Type} {p:α→Bool} {l:List α} (d:α) (h:∀j,j<l.length→p (l.getD j d)=false):l.any p=false:=by
 rw [List.any_eq_false]
 intro x hx
 obtain ⟨j,hj,rfl⟩:=List.mem_iff_getElem.1 hx
 have:=h j hj
 simp [List.getD_eq_getElem?_getD,hj] at this
 simp [this]
theorem any_getD_t {α:Type} {p:α→Bool} {l:List α} (d:α) {j:Nat} (hj:j<l.length) (h:p (l.getD j d)=true):l.any p=true:=by
 rw [List.any_eq_true]
 exact ⟨l.getD j d,by simp [List.getD_eq_getElem?_getD,hj],h⟩
theorem small_ok {l:List Rw} (h:l.any bigR=false):∀r∈l,RwOk r:=fun r hr=>by
 have:=List.any_eq_false.1 h r hr
 simp only [bigR,Bool.not_eq_true,Bool.or_eq_false_iff,decide_eq_false_iff_not,Int.not_lt] at this
 exact ⟨by omega,by omega,by omega⟩
def builtK (h:List Blk) (live:List Nat) (o:Option Tab):KT:=fun x h' l'=>l'=live∧∃g p,x=.tup [p,.bool o.isSome]∧h'=h++g∧p.cl h'.length∧∀T,o=some T→∃k,p=.ptr k 0∧h'[k]? = some (tabBlk T)
theorem c33 (room:Int) (l:List Rw) (c:Cr) (h:List Blk) (live:List Nat) (hn:l.length≤9223372036854775807) (hgs:c.gs.length≤9223372036854775807):ACalls Tryz.prog 33 [.int .i64 room,.slice (l.map rV) .none,.agg [.int .i64 c.uid,.int .i64 c.gid,.slice (c.gs.map iV) .none]] h live (builtK h live (builtF room l c)):=by
 refine aq_ Tryz.func33 fun hH hX=>?_
 have hB:HCl (h++[.cells [.int .i64 c.uid,.int .i64 c.gid,.slice (c.gs.map iV) .none]]):=HCl.snoc hH (by simp [Blk.cl,AV.cl,AV.clL,clL_iV, -List.map_map])
 refine rg_ [0,1,5] ?_
 refine sk_ fun K1 hK1=>?_
 refine rg_ [0,1,20] ?_
 refine cy_ (fun hb1=>?_) (fun hb1=>?_)
 ·
  refine rg_ [6,7] ?_
  refine ret_ ?_
  refine fq_ Tryz.results33 ?_
  unfold builtF;rw [hb1,cond_true];exact ⟨rfl,[], _,rfl,(List.append_nil _).symm,trivial,fun T hT=>by cases hT⟩
 have hb1':=hb1
 simp only [decide_eq_true_eq,decide_eq_false_iff_not,Bool.not_eq_true',Bool.not_eq_false',Bool.or_eq_true,Bool.and_eq_true,Bool.or_eq_false_iff,Bool.and_eq_false_imp,Int.not_lt,Int.not_le] at hb1'
 refine skp_ ?_
 refine hK1 _ ?_
 refine sk_ fun K2 hK2=>?_
 refine rg_ [0,1,8] ?_
 refine awp_block ?_
 refine lp_ (X:={i:Nat // i≤l.length∧∀j,j<i→bigR (l.getD j rw0)=false}) (fun x=>⟨Tryz.f33.ntmps,fget [(0,.int .i64 room),(1,.slice (l.map rV) .none),(8,.int .i64 (x.1:Nat))],h++[.cells [.int .i64 c.uid,.int .i64 c.gid,.slice (c.gs.map iV) .none]],live⟩) (fun x=>l.length - x.1) (⟨0,by omega,fun j hj=>by omega⟩) ?_ (fun ⟨i,hi,hno⟩=>?_)
 ·
  try dsimp only
  refine Trunc.of (by first | exact (List.append_nil _).symm | exact rfl | (rw [List.append_assoc];rfl)) ?_ hB (fun _ h=>h)
  refine ftc_ ?_ (hc:=by first | trivial | exact clL_rV _ _ | simp [AV.cl,AV.clL])
  refine ftc_ ?_ (hc:=by first | trivial | exact clL_rV _ _ | simp [AV.cl,AV.clL])
  refine ftc_ ?_ (hc:=by first | trivial | exact clL_rV _ _ | simp [AV.cl,AV.clL])
  exact FTr.nil
 try dsimp only
 refine sk_ fun K3 hK3=>?_
 refine rg_ [0,1,8,24] ?_
 refine cx_ (fun hb2=>?_) (fun hb2=>?_)
 rotate_left
 ·
  have hie:i=l.length:=by omega
  subst hie
  have hal:l.any bigR=false:=any_getD_f rw0 hno
  have hok:=small_ok hal
  refine awp_exit (up_ ?_)
  refine hK2 _ ?_
  refine rs_ [9,11] ?_
  refine sg_ ?_
  refine ck_ (k:=?_)
  refine (c62 room l _ _ hok (by omega)).mono ?_;rintro _ _ _ ⟨rfl,g,p,rfl,rfl,hbp,hper,hpc,hHg⟩
  refine sre_ ?_
  refine rg_ [6,7] ?_
  refine ret_ ?_
  refine fin_gen (h1:=h++([.cells [.int .i64 c.uid,.int .i64 c.gid,.slice (c.gs.map iV) .none]]++g)) (live:=_) (by (simp (disch:=omega) only [Tryz.results33,aresults,aresult,push_cast,↓reduceIte,Nat.reduceEqDiff,Nat.reduceAdd,Nat.reduceLeDiff])<;>rfl) (.inr (by simp only [atuple,AV.er,AV.erL,hper];rfl)) (by simp only [AV.cl,AV.clL];rw [←List.append_assoc];exact ⟨hpc,trivial,trivial⟩) (⟨[],by simp⟩) (by rw [←List.append_assoc];exact hHg) (by simp) (fun _ h=>h) ?_
  refine ⟨rfl, _,p,?_,rfl,by rw [←List.append_assoc];exact hpc,fun T hT=>?_⟩
  ·
   unfold builtF
   rw [hb1,cond_false,hal,cond_false]
   show AV.tup [p,.bool (decide (bE (buildF room l)=0))]=_
   cases ho:buildF room l with
   | inl x=>have:=buildF_err ho;exact congrArg (fun b=>AV.tup [p,.bool b]) (decide_eq_false this)
   | inr T=>rfl
  ·
   unfold builtF at hT
   rw [hb1,cond_false,hal,cond_false] at hT
   cases ho:buildF room l with
   | inl x=>rw [ho] at hT;cases hT
   | inr T'=>rw [ho] at hT hbp;cases hT;rw [←List.append_assoc];exact hbp
 have hil:i<l.length:=by omega
 refine skp_ ?_
 refine hK3 _ ?_
 refine sk_ fun K4 hK4=>?_
 refine awp_block ?_
 refine rg_ [0,1,8,51] ?_
 refine cy_ (fun hb3=>?_) (fun hb3=>?_)
 ·
  have hal:l.any bigR=true:=any_getD_t rw0 hil hb3
  refine rg_ [6,7] ?_
  refine ret_ ?_
  refine fq_ Tryz.results33 ?_
  unfold builtF;rw [hb1,cond_false,hal,cond_true];exact ⟨rfl,[], _,rfl,(List.append_nil _).symm,trivial,fun T hT=>by cases hT⟩
 refine skp_ ?_
 refine hK4 _ ?_
 refine rt_ [0,1,8] ?_
 refine srn_ ?_
 refine ln_ ⟨i+1,by omega,fun j hj=>by rcases Nat.lt_succ_iff_lt_or_eq.1 hj with h | h;exact hno j h;subst h;exact hb3⟩ ?_
 try dsimp only
 refine Trunc.of (by first | exact (List.append_nil _).symm | exact rfl | (rw [List.append_assoc];rfl)) ?_ hB (fun _ h=>h)
 refine ftc_ ?_ (hc:=by first | trivial | exact clL_rV _ _ | simp [AV.cl,AV.clL])
 refine ftc_ ?_ (hc:=by first | trivial | exact clL_rV _ _ | simp [AV.cl,AV.clL])
 refine ftc_ ?_ (hc:=by first | trivial | exact clL_rV _ _ | simp [AV.cl,AV.clL])
 exact FTr.nil
end Go.Proofs.YtmgnbgniikjhdaaGreat
