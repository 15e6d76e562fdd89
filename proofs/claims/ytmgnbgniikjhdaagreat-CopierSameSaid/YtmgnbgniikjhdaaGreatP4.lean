import Derived.Test.YtmgnbgniikjhdaaGreatP3
/-
  PATHS: a path as names.
-/
set_option linter.unusedVariables false
set_option linter.unusedSimpArgs false
namespace Go.Proofs.YtmgnbgniikjhdaaGreat
open Go.Ab
set_option maxRecDepth 8000
set_option maxHeartbeats 400000
theorem sl_step {l:List UInt8} {pos:Nat} (h:pos<l.length):(((dec l pos).1:Int)=47↔l.getD pos 0=47)∧pos+(dec l pos).2≤l.length∧pos<pos+(dec l pos).2∧∀j,pos<j→j<pos+(dec l pos).2→l.getD j 0≠47:=by
 have hne:∀c:UInt8,128≤c.toNat→c≠47:=fun c hc e=>by rw [e] at hc;exact absurd hc (by decide)
 by_cases ha:(l.getD pos 0).toNat<128
 ·
  rw [dec_ascii h ha]
  refine ⟨⟨fun e=>UInt8.toNat_inj.1 (by show (l.getD pos 0).toNat=47;dsimp only at e;omega),fun e=>by rw [e];rfl⟩,by dsimp only;omega,by dsimp only;omega,fun j h1 h2=>by dsimp only at h2;omega⟩
 ·
  obtain ⟨h1,h2⟩:=dec_high h (by omega)
  have hsp:=dec_span h (by omega)
  refine ⟨⟨fun e=>by omega,fun e=>absurd e (hne _ (by omega))⟩,?_,by omega,fun j hj hj'=>?_⟩
  · have:=(hsp ((dec l pos).2 - 1) (by omega)).1;omega
  ·
   have:=(hsp (j - pos) (by omega)).2
   rw [show pos+(j - pos)=j by omega] at this
   exact hne _ this
def flSt (s:List UInt8):Nat→Int×List (Nat×Nat)
 | 0=>(-1,[])
 | i+1=>if s.getD i 0=47 then (if 0≤(flSt s i).1 then (-(flSt s i).1 - 1,(flSt s i).2++[((flSt s i).1.toNat,i)]) else flSt s i)
  else (if (flSt s i).1<0 then ((i:Int),(flSt s i).2) else flSt s i)
def spansF (s:List UInt8):List (Nat×Nat):=if 0≤(flSt s s.length).1 then (flSt s s.length).2++[((flSt s s.length).1.toNat,s.length)] else (flSt s s.length).2
def namesF (s:List UInt8):List (List UInt8):=(spansF s).map fun p=>(s.drop p.1).take (p.2 - p.1)
theorem flSt_slash {s:List UInt8} {i:Nat} (h:s.getD i 0=47):flSt s (i+1)=if 0≤(flSt s i).1 then (-(flSt s i).1 - 1,(flSt s i).2++[((flSt s i).1.toNat,i)]) else flSt s i:=by
 show (if s.getD i 0=47 then _ else _)=_
 rw [if_pos h]
theorem flSt_no {s:List UInt8} {i:Nat} (h:s.getD i 0≠47):flSt s (i+1)=if (flSt s i).1<0 then ((i:Int),(flSt s i).2) else flSt s i:=by
 show (if s.getD i 0=47 then _ else _)=_
 rw [if_neg h]
theorem flSt_skip {s:List UInt8} {i:Nat} (h0:0≤(flSt s i).1):∀k,(∀j,i≤j→j<i+k→s.getD j 0≠47)→flSt s (i+k)=flSt s i
 | 0, _=>rfl
 | k+1,h=>by
  have ih:=flSt_skip h0 k fun j h1 h2=>h j h1 (by omega)
  rw [←Nat.add_assoc,flSt_no (h (i+k) (by omega) (by omega)),ih,if_neg (by omega)]
theorem flSt_next {s:List UInt8} {i:Nat} (hi:i<s.length):flSt s (i+(dec s i).2)=flSt s (i+1):=by
 obtain ⟨h1,h2,h3,h4⟩:=sl_step hi
 by_cases hs:s.getD i 0=47
 ·
  have:(s.getD i 0).toNat<128:=by rw [hs];decide
  rw [dec_ascii hi this]
 ·
  have h0:0≤(flSt s (i+1)).1:=by
   rw [flSt_no hs]
   split
   · exact Int.natCast_nonneg i
   · omega
  have:=flSt_skip h0 ((dec s i).2 - 1) fun j ha hb=>h4 j (by omega) (by omega)
  rw [←this];congr 1;omega
theorem flSt_bd (s:List UInt8):∀i,(∀p∈(flSt s i).2,p.1<p.2∧p.2≤i)∧(flSt s i).1<i ∧ -(i:Int) - 1≤(flSt s i).1∧((flSt s i).1<0→2*(flSt s i).2.length≤i)∧(0≤(flSt s i).1→(2*(flSt s i).2.length:Int)≤(flSt s i).1)
 | 0=>⟨fun p hp=>by simp [flSt] at hp,show (-1:Int)<0 by decide,show -((0:Nat):Int) - 1 ≤ -1 by decide,fun _=>by simp [flSt],fun h=>absurd (show (0:Int) ≤ -1 from h) (by decide)⟩
 | i+1=>by
  obtain ⟨h1,h2,h3,h4,h5⟩:=flSt_bd s i
  have h1':∀p∈(flSt s i).2,p.1<p.2∧p.2≤i+1:=fun p hp=>⟨(h1 p hp).1,by have:=(h1 p hp).2;omega⟩
  by_cases hs:s.getD i 0=47
  ·
   rw [flSt_slash hs]
   by_cases h0:0≤(flSt s i).1
   ·
    rw [if_pos h0]
    have:=h5 h0
    refine ⟨fun p hp=>?_,by dsimp only;omega,by dsimp only;omega,fun _=>by dsimp only;rw [List.length_append,List.length_singleton];omega,fun h=>by dsimp only at h;omega⟩
    rcases List.mem_append.1 hp with hp | hp
    · exact h1' p hp
    · rw [List.mem_singleton.1 hp];dsimp only;omega
   ·
    rw [if_neg h0]
    have:=h4 (by omega)
    exact ⟨h1',by omega,by omega,fun _=>by omega,fun h=>absurd h h0⟩
  ·
   rw [flSt_no hs]
   by_cases h0:(flSt s i).1<0
   ·
    rw [if_pos h0]
    have:=h4 h0
    exact ⟨h1',by dsimp only;omega,by dsimp only;omega,fun h=>by dsimp only at h;omega,fun _=>by dsimp only;omega⟩
   ·
    rw [if_neg h0]
    have:=h5 (by omega)
    exact ⟨h1',by omega,by omega,fun h=>absurd h h0,fun _=>this⟩
theorem spansF_bd (s:List UInt8):(∀p∈spansF s,p.1<p.2∧p.2≤s.length)∧2*(spansF s).length≤s.length+1:=by
 obtain ⟨h1,h2,h3,h4,h5⟩:=flSt_bd s s.length
 unfold spansF
 by_cases h0:0≤(flSt s s.length).1
 ·
  rw [if_pos h0]
  have:=h5 h0
  refine ⟨fun p hp=>?_,by rw [List.length_append,List.length_singleton];omega⟩
  rcases List.mem_append.1 hp with hp | hp
  · exact h1 p hp
  · rw [List.mem_singleton.1 hp];dsimp only;omega
 ·
  rw [if_neg h0]
  have:=h4 (by omega)
  exact ⟨h1,by omega⟩
def absF (s:List UInt8):Bool:=decide ((1:Int)≤s.length)&&decide (s.take 1=[47])
def sufF (s:List UInt8):Bool:=decide ((1:Int)≤s.length)&&decide (s.drop (s.length - 1)=[47])
def spC (p:Nat×Nat):List AV:=[.int .i64 p.1,.int .i64 p.2]
theorem spC_len (p:Nat×Nat):(spC p).length=2:=rfl
theorem cat_app {α:Type} (f:α→List AV) (s:Nat) (hf:∀x,(f x).length=s) (l:List α) (x:α) (r:List AV) (hr:s≤r.length):putAt (l.flatMap f++r) (l.length*s) (f x)=(l++[x]).flatMap f++r.drop s:=by
 rw [show l.length*s=(l.flatMap f).length+0 by rw [cat_len f s hf,Nat.add_zero],putAt_right,putAt_eq _ _ _ (by rw [hf];omega),List.take_zero,List.nil_append,hf,Nat.zero_add,List.flatMap_append]
 simp [List.append_assoc]
theorem cat_get {α:Type} (f:α→List AV) (s:Nat) (hf:∀x,(f x).length=s) (d:α):∀(l:List α) (j:Nat) (r:List AV),j<l.length→(((l.flatMap f++r).drop (j*s)).take s)=f (l.getD j d):=fun l j r h=>by
 rw [cat_el f s hf l j r h,List.getD_eq_getElem?_getD,List.getElem?_eq_getElem h];rfl
theorem clL_sp (n:Nat) (l:List (Nat×Nat)) (r:List AV) (hr:AV.clL n r):AV.clL n (l.flatMap spC++r):=by
 refine clL_append' n _ _ ?_ hr
 rw [AV.clL_mem];intro x hx
 obtain ⟨p, _,hp⟩:=List.mem_flatMap.1 hx
 simp only [spC,List.mem_cons,List.not_mem_nil,or_false] at hp
 rcases hp with rfl | rfl<;>trivial
theorem clL_rep {n m:Nat} {z:List AV} (h:AV.clL n z):AV.clL n (rep m z):=by
 rw [AV.clL_mem];intro x hx
 obtain ⟨q, _,rfl⟩:=List.mem_map.1 hx
 by_cases hq:q%z.length<z.length
 · exact (AV.clL_iff n z).1 h _ hq
 · rw [List.getD_eq_getElem?_getD,List.getElem?_eq_none (by omega)];trivial
theorem clL_drop {n:Nat}:∀ {r:List AV} (k:Nat),AV.clL n r→AV.clL n (r.drop k)
 | [],k, _=>by rw [List.drop_nil];trivial
 | x::r,0,h=>h
 | x::r,k+1,h=>clL_drop (r:=r) k h.2
theorem c233 (r:Int) (h:List Blk) (live:List Nat):AC Tryz.prog 233 [.int .i32 r] h live (.bool (decide (r=47))):=by
 refine aq_ Tryz.func233 fun hH hX=>?_
 refine rg_ [0] ?_
 refine rg_ [2] ?_
 refine ret_ ?_
 refine fq_ Tryz.results233 ?_
 exact rk_ rfl
theorem c267 (s:List UInt8) (h:List Blk) (live:List Nat) (hs:s.length≤9223372036854775807):AC Tryz.prog 267 [.str s,.str [47]] h live (.bool (absF s)):=by
 refine aq_ Tryz.func267 fun hH hX=>?_
 refine rg_ [0,1] ?_
 refine rg_ [4] ?_
 refine ret_ ?_
 refine fq_ Tryz.results267 ?_
 exact rk_ rfl
theorem c235 (s:List UInt8) (h:List Blk) (live:List Nat) (hs:s.length≤9223372036854775807):AC Tryz.prog 235 [.str s,.str [47]] h live (.bool (absF s)):=by
 refine aq_ Tryz.func235 fun hH hX=>?_
 refine rg_ [0,1] ?_
 refine rs_ [4] ?_
 refine sg_ ?_
 refine cl_ (hc:=c267 s _ _ hs) (k:=?_)
 refine srt_ ?_
 refine fq_ Tryz.results235 ?_
 exact rk_ rfl
theorem i64_not (n:Int) (h:0≤n∧n≤9223372036854775807):bits .xor .i64 (-1) n = -n - 1:=by
 have hm:BitVec.ofInt 64 (-1)=BitVec.allOnes 64:=by decide
 show IntKind.i64.wrap ((BitVec.ofInt 64 (-1) ^^^ BitVec.ofInt 64 n).toNat:Nat) = -n - 1
 rw [hm,BitVec.allOnes_xor,BitVec.toNat_not,BitVec.toNat_ofInt,IntKind.wrap_i64]
 have e:((2^64:Nat):Int)=18446744073709551616:=by decide
 rw [e]
 omega
theorem spC_0 (p:Nat×Nat):(spC p)[0]? = some (.int .i64 p.1):=rfl
theorem spC_1 (p:Nat×Nat):(spC p)[1]? = some (.int .i64 p.2):=rfl
theorem spTake (p:Nat×Nat):(spC p).take 2=spC p:=rfl
theorem spPut (a b:AV) (p:Nat×Nat):putAt [a,b] 0 (spC p)=spC p:=rfl
attribute [push_cast] spC_len spC_0 spC_1 spTake spPut beq_self_eq_true
theorem names_len (s:List UInt8):(namesF s).length=(spansF s).length:=List.length_map _
theorem names_getD (s:List UInt8) {j:Nat} (h:j<(spansF s).length):(namesF s).getD j []=(s.drop ((spansF s).getD j (0,0)).1).take (((spansF s).getD j (0,0)).2 - ((spansF s).getD j (0,0)).1):=by
 simp [namesF,List.getD_eq_getElem?_getD,h]
def snC (l:List (List UInt8)) (j:Nat):List AV:=(l.take j).map .str++List.replicate (l.length - j) (.str [])
theorem snC_0 (l:List (List UInt8)):snC l 0=rep l.length [.str []]:=by
 unfold snC rep
 refine List.ext_getElem (by simp) fun i h1 h2=>?_
 simp [Nat.mod_one]
theorem snC_set {l:List (List UInt8)} {j:Nat} (h:j<l.length):(snC l j).set j (.str (l.getD j []))=snC l (j+1):=by
 unfold snC
 rw [List.set_append_right _ _ (by rw [List.length_map,List.length_take];omega),List.length_map,List.length_take,Nat.min_eq_left (by omega),Nat.sub_self,show l.length - j=(l.length - (j+1))+1 by omega,List.replicate_succ,List.set_cons_zero,
  List.take_succ_eq_append_getElem h,List.map_append,List.append_assoc]
 simp [List.getD_eq_getElem?_getD,h]
theorem snC_all (l:List (List UInt8)):snC l l.length=l.map .str:=by unfold snC;simp
theorem snC_len (l:List (List UInt8)) {j:Nat} (h:j≤l.length):(snC l j).length=l.length:=by unfold snC;simp;omega
theorem clL_snC (n:Nat) (l:List (List UInt8)) (j:Nat):AV.clL n (snC l j):=by
 refine clL_append' n _ _ (clL_str _ _) ?_
 rw [AV.clL_mem];intro x hx;rw [(List.mem_replicate.1 hx).2];trivial
attribute [push_cast] clL_snC
structure FfI (s:List UInt8) (h:List Blk) (i:Nat) (l:List (Nat×Nat)) (H:List Blk) (kb cap:Nat) (r:List AV):Prop where
 sp:H[kb]? = some (.cells (l.flatMap spC++r))
 rl:r.length=(cap - l.length)*2
 lc:l.length≤cap
 it:H[h.length+1]? = some (.siter s i)
 ne:kb≠h.length+1
 kl:h.length≤kb
 len:h.length+2≤H.length
 fr:∀j,j<h.length→H[j]? = h[j]?
 cl:HCl H
 rc:AV.clL h.length r
section
variable {s:List UInt8} {h H:List Blk} {i:Nat} {l:List (Nat×Nat)} {kb cap:Nat} {r:List AV}
theorem FfI.next (f:FfI s h i l H kb cap r) (j:Nat):FfI s h j l (H.set (h.length+1) (.siter s j)) kb cap r where
 sp:=by rw [List.getElem?_set_ne (Ne.symm f.ne)];exact f.sp
 rl:=f.rl
 lc:=f.lc
 it:=get_setk (by have:=f.len;omega)
 ne:=f.ne
 kl:=f.kl
 len:=by rw [List.length_set];exact f.len
 fr:=fun j hj=>by rw [List.getElem?_set_ne (by omega)];exact f.fr j hj
 cl:=HCl.set f.cl _ trivial
 rc:=f.rc
theorem FfI.grow (f:FfI s h i l H kb cap r) (p:Nat×Nat) {k' cap':Nat} {H':List Blk} {r':List AV} (e1:H'[k']? = some (.cells (l.flatMap spC++flat [.agg (spC p)]++r'))) (e2:r'.length=(cap' - (l.length+1))*2) (e3:l.length+1≤cap')
 (e4:∀n,AV.clL n r→AV.clL n [AV.int .i64 0,.int .i64 0]→AV.clL n r') (e5:∀i,i<H.length→i≠k'→H'[i]? = H[i]?) (e6:H.length≤H'.length) (e7:(k'=kb∧H'.length=H.length)∨(k'=H.length∧H'.length=H.length+1)) (hc:HCl H'):FfI s h i (l++[p]) H' k' cap' r' where
 sp:=by rw [e1];simp [flat,AV.cells]
 rl:=by rw [e2,List.length_append];rfl
 lc:=by rw [List.length_append];exact e3
 it:=by
  have:=f.len;have:=f.ne
  rw [e5 _ (by omega) (by rcases e7 with e | e<;>omega)];exact f.it
 ne:=by have:=f.len;have:=f.ne;rcases e7 with e | e<;>omega
 kl:=by have:=f.len;have:=f.kl;rcases e7 with e | e<;>omega
 len:=by have:=f.len;omega
 fr:=fun j hj=>by
  have:=f.len;have:=f.kl
  rw [e5 _ (by omega) (by rcases e7 with e | e<;>omega)];exact f.fr j hj
 cl:=hc
 rc:=e4 _ f.rc ⟨trivial,trivial,trivial⟩
theorem FfI.cut (f:FfI s h i l H kb cap r):∃G,H=h++G:=by
 refine ⟨H.drop h.length,?_⟩
 have hl:=f.len
 refine List.ext_getElem? fun j=>?_
 by_cases hj:j<h.length
 · rw [List.getElem?_append_left hj];exact f.fr j hj
 · rw [List.getElem?_append_right (by omega),List.getElem?_drop];congr 1;omega
end
theorem hcl_grow {H H':List Blk} (hH:HCl H) {k' kb:Nat} {b:Blk} (e1:H'[k']? = some b) (hb:b.cl H'.length) (e5:∀i,i<H.length→i≠k'→H'[i]? = H[i]?) (e6:H.length≤H'.length) (e7:(k'=kb∧H'.length=H.length)∨(k'=H.length∧H'.length=H.length+1)):HCl H':=by
 intro x hm
 obtain ⟨k,hl,hx⟩:=List.mem_iff_getElem.1 hm
 have hx:H'[k]? = some x:=by rw [List.getElem?_eq_getElem hl,hx]
 by_cases hk:k=k'
 · subst hk;rw [e1] at hx;cases hx;exact hb
 ·
  rw [e5 k (by rcases e7 with e | e<;>omega) hk] at hx
  exact Blk.cl_mono e6 (hH x (List.mem_of_getElem? hx))
theorem names_frz2 (l:List (List UInt8)) (h H:List Blk) (hl:h.length≤H.length):(AV.bsl H.length 0 1 false l.length l.length).frz (H++[.cells (l.map .str)]) h.length=.slice (l.map .str) .full:=by
 have hg:(H++[Blk.cells (l.map .str)])[H.length]? = some (.cells (l.map .str)):=by rw [get_app0];rfl
 unfold AV.frz
 rw [if_pos (by omega),hg]
 simp only []
 rw [if_pos ⟨by rw [List.length_map];omega,by decide,.inr trivial⟩,if_pos trivial]
 congr 1
 refine List.ext_getElem (by simp) fun i h1 h2=>?_
 simp only [List.length_map,List.length_range] at h1
 rw [List.getElem_map,List.getElem_range,Nat.zero_add,Nat.mul_one,List.drop_eq_getElem_cons (by rw [List.length_map];exact h1)]
 rfl
theorem c232 (s:List UInt8) (h:List Blk) (live:List Nat) (hs:s.length≤1000):AC Tryz.prog 232 [.str s,.fn (.func 233) [] []] h live (.slice ((namesF s).map .str) .full):=by
 refine aq_ Tryz.func232 fun hH hX=>?_
 have hnb:=spansF_bd s
 have hnl:=names_len s
 have hst0:rep (spansF s).length [.str []]=snC (namesF s) 0:=by rw [snC_0,hnl]
 have hc0:HCl (h++[.cells (rep 32 [.int .i64 0,.int .i64 0]),.siter s 0]):=by
  have:=HCl.snoc (HCl.snoc (b:=.cells (rep 32 [.int .i64 0,.int .i64 0])) hH (clL_rep ⟨trivial,trivial,trivial⟩)) (b:=.siter s 0) trivial
  rw [List.append_assoc] at this;exact this
 refine rg_ [0,1] ?_
 refine rs_ [0,1,5] ?_
 refine dawp_w rfl rfl rfl rfl (AOp.makeSlice _ _ _ rfl Ty.makeT_342 (n:=0) (m:=32) rfl rfl (by omega) (by omega) (by omega) ?_)
 refine sre_ ?_
 refine rg_ [0,1,5,6] ?_
 refine sk_ fun K1 hK1=>?_
 refine rs_ [0,1,5,6,14] ?_
 refine sg_ ?_
 refine dawp_w rfl rfl rfl rfl (AOp.rangeS _ _ rfl Ty.isStrT_9 (by (simp (disch:=omega) only [push_cast,↓reduceIte,Nat.reduceEqDiff,Nat.reduceAdd,Nat.reduceLeDiff,sx])<;>rfl) ?_)
 refine re_ ?_
 refine awp_block ?_
 refine awp_loopG (X:={x:Nat×List Blk×Nat×Nat×List AV // x.1≤s.length∧FfI s h x.1 (flSt s x.1).2 x.2.1 x.2.2.1 x.2.2.2.1 x.2.2.2.2}) (fun x=>⟨Tryz.f232.ntmps,fget [(0,.str s),(1,.fn (.func 233) [] []),(5,.bsl x.1.2.2.1 0 2 true (flSt s x.1.1).2.length x.1.2.2.2.1),(6,.int .i64 (flSt s x.1.1).1),(14,.ptr (h.length+1) 0)],x.1.2.1,live⟩) (fun x=>s.length - x.1.1) (⟨⟨0,h++[.cells (rep 32 [.int .i64 0,.int .i64 0]),.siter s 0],h.length,32,rep 32 [.int .i64 0,.int .i64 0]⟩,Nat.zero_le _,⟨by rw [get_app0];rfl,rfl,(by show 0≤32;decide),by rw [get_app];rfl,(Nat.ne_of_lt (Nat.lt_succ_self _)),Nat.le_refl _,by simp,fun j hj=>List.getElem?_append_left hj,hc0,clL_rep ⟨trivial,trivial,trivial⟩⟩⟩) ?_ (by first | rfl | (simp only [List.length_set];done) | simp) (fun ⟨⟨i,H,kb,cap,r⟩,hi,hF⟩=>?_)
 ·
  try dsimp only
  refine Trunc.of (by first | exact (List.append_nil _).symm | exact rfl | (rw [List.append_assoc];rfl)) ?_ (by first | exact hc0 | exact hF1.cl | exact hF2.cl) (fun _ h=>h)
  refine ftc_ ?_ (hc:=by first | exact trivial | (simp [AV.cl,AV.clL];done) | (simp only [AV.cl,AV.clL,List.length_append,List.length_cons,List.length_nil];omega))
  refine ftc_ ?_ (hc:=by first | exact trivial | (simp [AV.cl,AV.clL];done) | (simp only [AV.cl,AV.clL,List.length_append,List.length_cons,List.length_nil];omega))
  refine ftc_ ?_ (hc:=by first | exact trivial | (simp [AV.cl,AV.clL];done) | (simp only [AV.cl,AV.clL,List.length_append,List.length_cons,List.length_nil];omega))
  refine ftc_ ?_ (hc:=by first | exact trivial | (simp [AV.cl,AV.clL];done) | (simp only [AV.cl,AV.clL,List.length_append,List.length_cons,List.length_nil];omega))
  refine ftc_ ?_ (hc:=by first | exact trivial | (simp [AV.cl,AV.clL];done) | (simp only [AV.cl,AV.clL,List.length_append,List.length_cons,List.length_nil];omega))
  exact FTr.nil
 try dsimp only
 dsimp only at hi hF
 have hbd:=flSt_bd s i
 obtain ⟨hb_1,hb_2,hb_3,hb_4,hb_5⟩:=hbd
 have hit:=hF.it
 have hFl:=hF.len
 have hkb0:=lt_of_get hF.sp
 have sx:=And.intro hit sx
 refine rs_ [0,1,5,6,14,15,16] ?_
 refine dawp_w rfl rfl rfl rfl (AOp.nextS _ rfl (by (simp (disch:=omega) only [push_cast,↓reduceIte,Nat.reduceEqDiff,Nat.reduceAdd,Nat.reduceLeDiff,sx])<;>rfl) (by (simp (disch:=omega) only [push_cast,↓reduceIte,Nat.reduceEqDiff,Nat.reduceAdd,Nat.reduceLeDiff,sx])<;>rfl) ?_)
 refine sre_ ?_
 refine sk_ fun K2 hK2=>?_
 refine cy_ (fun hb1=>?_) (fun hb1=>?_)
 rotate_left
 ·
  simp only [hb1,nextV_f,cond_false,set_self hit]
  simp only [decide_eq_true_eq,decide_eq_false_iff_not,Bool.not_eq_true',Bool.not_eq_false',Bool.or_eq_true,Bool.and_eq_true,Bool.or_eq_false_iff,Bool.and_eq_false_imp,Int.not_lt,Int.not_le] at hb1
  have hie:i=s.length:=by omega
  subst hie
  refine awp_exit (up_ ?_)
  refine hK1 _ ?_
  refine awp_seqG (X:={x:List Blk×Nat×Nat×List AV // FfI s h s.length (spansF s) x.1 x.2.1 x.2.2.1 x.2.2.2}) (fun x=>⟨Tryz.f232.ntmps,fget [(0,.str s),(5,.bsl x.1.2.1 0 2 true (spansF s).length x.1.2.2.1)],x.1.1,live⟩) ?_ (fun ⟨⟨H,kb,cap,r⟩,hF⟩=>?_)
  rotate_left
  ·
   dsimp only at hF ⊢
   obtain ⟨G,hG⟩:=hF.cut
   have hFl:=hF.len
   have hkb:=lt_of_get hF.sp
   have hHc:=hF.cl
   have hB3:∀j,HCl (H++[.cells (snC (namesF s) j)]):=fun j=>HCl.snoc hHc (clL_snC _ _ _)
   have hkg:=fun g:List Blk=>atApp (g:=g) hF.sp
   have sx:=And.intro hkg sx
   refine rs_ [0,5,9] ?_
   refine sg_ ?_
   refine dawp_w rfl rfl rfl rfl (AOp.makeSlice _ _ _ rfl Ty.makeT_37 (n:=(spansF s).length) (m:=(spansF s).length) (by (simp only [push_cast,↓reduceIte,Nat.reduceEqDiff,Nat.reduceAdd,Nat.reduceLeDiff])<;>rfl) (by (simp only [push_cast,↓reduceIte,Nat.reduceEqDiff,Nat.reduceAdd,Nat.reduceLeDiff])<;>rfl) (by omega) (by omega) (by omega) ?_)
   refine sre_ ?_
   refine sk_ fun K3 hK3=>?_
   refine rg_ [0,9,47,48,49] ?_
   refine awp_block ?_
   refine lp_ (X:={j:Nat // j≤(spansF s).length}) (fun x=>⟨Tryz.f232.ntmps,fget [(0,.str s),(9,.bsl H.length 0 1 false (spansF s).length (spansF s).length),(47,.bsl kb 0 2 true (spansF s).length cap),(48,.int .i64 (spansF s).length),(49,.int .i64 (x.1:Nat))],H++[.cells (snC (namesF s) x.1)],live⟩) (fun x=>(spansF s).length - x.1) (⟨0,Nat.zero_le _⟩) ?_ (fun ⟨j,hj⟩=>?_)
   ·
    try dsimp only
    refine Trunc.of (by first | (rw [hst0];exact (List.append_nil _).symm) | (rw [←hset,List.append_assoc];simp only [Nat.zero_add,Nat.mul_one];rfl)) ?_ (hB3 _) (fun _ h=>h)
    refine ftc_ ?_ (hc:=by first | exact trivial | (simp [AV.cl,AV.clL];done) | (simp only [AV.cl,AV.clL,List.length_append,List.length_cons,List.length_nil];omega))
    refine ftc_ ?_ (hc:=by first | exact trivial | (simp [AV.cl,AV.clL];done) | (simp only [AV.cl,AV.clL,List.length_append,List.length_cons,List.length_nil];omega))
    refine ftc_ ?_ (hc:=by first | exact trivial | (simp [AV.cl,AV.clL];done) | (simp only [AV.cl,AV.clL,List.length_append,List.length_cons,List.length_nil];omega))
    refine ftc_ ?_ (hc:=by first | exact trivial | (simp [AV.cl,AV.clL];done) | (simp only [AV.cl,AV.clL,List.length_append,List.length_cons,List.length_nil];omega))
    refine ftc_ ?_ (hc:=by first | exact trivial | (simp [AV.cl,AV.clL];done) | (simp only [AV.cl,AV.clL,List.length_append,List.length_cons,List.length_nil];omega))
    exact FTr.nil
   try dsimp only
   refine rg_ [0,9,47,48,49,50] ?_
   refine sk_ fun K4 hK4=>?_
   refine cx_ (fun hb6=>?_) (fun hb6=>?_)
   rotate_left
   ·
    have hje:j=(spansF s).length:=by omega
    subst hje
    refine awp_exit (up_ ?_)
    refine hK3 _ ?_
    refine rg_ [4] ?_
    refine ret_ ?_
    refine fu_ (h1:=h) Tryz.results232 (hx:=(show AV.frz _ _ (atuple _)=AV.slice ((namesF s).map .str) .full from by rw [←hnl,snC_all];exact names_frz2 (namesF s) h H (by omega))) (hcl:=(by exact clL_str _ _)) (hh:=(by rw [hG,List.append_assoc];exact ⟨_,rfl⟩)) (hK:=?_)
    exact rk_ rfl
   have hjl:j<(spansF s).length:=by omega
   have hsp:=hnb.1 _ (List.getElem_mem hjl)
   have hgj:(spansF s)[j]=(spansF s).getD j (0,0):=by rw [List.getD_eq_getElem?_getD,List.getElem?_eq_getElem hjl];rfl
   rw [hgj] at hsp
   obtain ⟨hsp1,hsp2⟩:=hsp
   have hcg:List.take 2 (List.drop (0+j*2) (List.flatMap spC (spansF s)++r))=spC ((spansF s).getD j (0,0)):=by rw [Nat.zero_add];exact cat_get spC 2 spC_len (0,0) (spansF s) j r hjl
   have hset:=snC_set (l:=namesF s) (j:=j) (by omega)
   rw [names_getD s hjl] at hset
   have hcl3:=cat_len spC 2 spC_len (spansF s)
   have hstl:=snC_len (namesF s) (j:=j) (by omega)
   have sx:=And.intro hcg (And.intro hcl3 (And.intro hstl sx))
   refine skp_ ?_
   refine hK4 _ ?_
   refine sk_ fun K5 hK5=>?_
   refine awp_block ?_
   refine rg_ [0,9,10,11,47,48,49] ?_
   refine rt_ [0,9,47,48,49] ?_
   refine srn_ ?_
   refine hK5 _ ?_
   refine rt_ [0,9,47,48,49] ?_
   refine srn_ ?_
   refine ln_ ⟨j+1,by omega⟩ ?_
   try dsimp only
   refine Trunc.of (by first | (rw [hst0];exact (List.append_nil _).symm) | (rw [←hset,List.append_assoc];simp only [Nat.zero_add,Nat.mul_one];rfl)) ?_ (hB3 _) (fun _ h=>h)
   refine ftc_ ?_ (hc:=by first | exact trivial | (simp [AV.cl,AV.clL];done) | (simp only [AV.cl,AV.clL,List.length_append,List.length_cons,List.length_nil];omega))
   refine ftc_ ?_ (hc:=by first | exact trivial | (simp [AV.cl,AV.clL];done) | (simp only [AV.cl,AV.clL,List.length_append,List.length_cons,List.length_nil];omega))
   refine ftc_ ?_ (hc:=by first | exact trivial | (simp [AV.cl,AV.clL];done) | (simp only [AV.cl,AV.clL,List.length_append,List.length_cons,List.length_nil];omega))
   refine ftc_ ?_ (hc:=by first | exact trivial | (simp [AV.cl,AV.clL];done) | (simp only [AV.cl,AV.clL,List.length_append,List.length_cons,List.length_nil];omega))
   refine ftc_ ?_ (hc:=by first | exact trivial | (simp [AV.cl,AV.clL];done) | (simp only [AV.cl,AV.clL,List.length_append,List.length_cons,List.length_nil];omega))
   exact FTr.nil
  refine rg_ [0,5,6,36] ?_
  refine cx_ (fun hb5=>?_) (fun hb5=>?_)
  ·
   have hS:spansF s=_:=if_pos hb5
   have hSl:(spansF s).length=(flSt s s.length).2.length+1:=by rw [hS,List.length_append,List.length_singleton]
   have h5:=hb_5 hb5
   have sx:=And.intro hSl sx
   refine rt_ [0,5] ?_
   refine sg_ ?_
   refine dawp_w rfl rfl rfl rfl (AOp.appendE _ _ _ rfl Ty.makeT_342 Ty.sliceSz_342 (by (simp (disch:=omega) only [push_cast,↓reduceIte,Nat.reduceEqDiff,Nat.reduceAdd,Nat.reduceLeDiff,sx])<;>rfl) (by (simp (disch:=omega) only [push_cast,↓reduceIte,Nat.reduceEqDiff,Nat.reduceAdd,Nat.reduceLeDiff,sx])<;>rfl) (by exact Nat.succ_pos _) (fun y hy=>by rw [List.mem_singleton.1 hy];rfl) hF.sp (cat_len spC 2 spC_len _) hF.rl hF.lc rfl (by simp only [List.length_singleton];omega) (by simp only [List.length_singleton];omega) ?_)
   intro k2 cap2 H2 r2 e1 e2 e3 e4 e5 e6 e7
   have hF2:=hF.grow ((flSt s s.length).1.toNat,s.length) (by rw [e1];simp only [spC,Int.toNat_of_nonneg hb5]) e2 e3 e4 e5 e6 e7 (hcl_grow hF.cl e1 (by refine clL_append' _ _ _ (clL_append' _ _ _ (by have:=clL_sp H2.length (flSt s s.length).2 [] trivial;rw [List.append_nil] at this;exact this) ⟨trivial,trivial,trivial⟩) (AV.clL_mono (by omega) _ (e4 _ hF.rc ⟨trivial,trivial,trivial⟩))) e5 e6 e7)
   rw [←hS] at hF2
   have hkb2:=lt_of_get e1
   refine srn_ ?_
   first
    | (
     refine ⟨⟨⟨H2,k2,cap2,r2⟩,hF2⟩,?_,e6⟩
     dsimp only
     exact ts_ hF2.cl)
    | (
     refine ⟨⟨⟨H,kb,cap,r⟩,by dsimp only;rw [hS];exact hF⟩,?_,Nat.le_refl _⟩
     dsimp only
     exact ts_ hF.cl)
  have hS:spansF s=_:=if_neg (fun e=>absurd e (by omega))
  have sx:=And.intro hS sx
  refine skp_ ?_
  first
   | (
    refine ⟨⟨⟨H2,k2,cap2,r2⟩,hF2⟩,?_,e6⟩
    dsimp only
    exact ts_ hF2.cl)
   | (
    refine ⟨⟨⟨H,kb,cap,r⟩,by dsimp only;rw [hS];exact hF⟩,?_,Nat.le_refl _⟩
    dsimp only
    exact ts_ hF.cl)
 simp only [hb1,nextV_t,cond_true]
 simp only [decide_eq_true_eq,decide_eq_false_iff_not,Bool.not_eq_true',Bool.not_eq_false',Bool.or_eq_true,Bool.and_eq_true,Bool.or_eq_false_iff,Bool.and_eq_false_imp,Int.not_lt,Int.not_le] at hb1
 have hil:i<s.length:=by omega
 have hst:=sl_step hil
 have hle:=dec_le s i
 obtain ⟨H1,hH1⟩:∃H1,H.set (h.length+1) (.siter s (i+(dec s i).2))=H1:=⟨_,rfl⟩
 have hF1:=hF.next (i+(dec s i).2)
 rw [hH1] at hF1 ⊢
 have hl1:H1.length=H.length:=by rw [←hH1,List.length_set]
 have hkb:=lt_of_get hF1.sp
 refine skp_ ?_
 refine hK2 _ ?_
 refine awp_block ?_
 refine rg_ [0,1,5,6,7,8,14] ?_
 refine rs_ [0,1,5,6,7,14,21] ?_
 refine sg_ ?_
 refine cl_ (hc:=c233 _ _ _) (k:=?_)
 refine re_ ?_
 refine cx_ (fun hb2=>?_) (fun hb2=>?_)
 ·
  have hsl:=hst.1.1 hb2
  refine rg_ [0,1,5,6,7,14,23] ?_
  refine cx_ (fun hb3=>?_) (fun hb3=>?_)
  ·
   have hE:flSt s (i+(dec s i).2)=(-(flSt s i).1 - 1,(flSt s i).2++[((flSt s i).1.toNat,i)]):=by rw [flSt_next hil,flSt_slash hsl,if_pos (by omega)]
   have sx:=And.intro hE sx
   refine rs_ [0,1,5,6,14] ?_
   refine sg_ ?_
   refine dawp_w rfl rfl rfl rfl (AOp.appendE _ _ _ rfl Ty.makeT_342 Ty.sliceSz_342 (by (simp (disch:=omega) only [push_cast,↓reduceIte,Nat.reduceEqDiff,Nat.reduceAdd,Nat.reduceLeDiff,sx])<;>rfl) (by (simp (disch:=omega) only [push_cast,↓reduceIte,Nat.reduceEqDiff,Nat.reduceAdd,Nat.reduceLeDiff,sx])<;>rfl) (by exact Nat.succ_pos _) (fun y hy=>by rw [List.mem_singleton.1 hy];rfl) hF1.sp (cat_len spC 2 spC_len _) hF1.rl hF1.lc rfl (by simp only [List.length_singleton];omega) (by simp only [List.length_singleton];omega) ?_)
   intro k2 cap2 H2 r2 e1 e2 e3 e4 e5 e6 e7
   have hF2:=hF1.grow ((flSt s i).1.toNat,i) (by rw [e1];simp only [spC,Int.toNat_of_nonneg hb3]) e2 e3 e4 e5 e6 e7 (hcl_grow hF1.cl e1 (by refine clL_append' _ _ _ (clL_append' _ _ _ (by have:=clL_sp H2.length (flSt s i).2 [] trivial;rw [List.append_nil] at this;exact this) ⟨trivial,trivial,trivial⟩) (AV.clL_mono (by omega) _ (e4 _ hF1.rc ⟨trivial,trivial,trivial⟩))) e5 e6 e7)
   have hkb2:=lt_of_get e1
   refine sre_ ?_
   refine rt_ [0,1,5,6,14] ?_
   refine dp_ ?_
   refine dawp_p (x:=.int .i64 (-(flSt s i).1 - 1)) rfl (by (simp (disch:=omega) only [push_cast,↓reduceIte,Nat.reduceEqDiff,Nat.reduceAdd,Nat.reduceLeDiff,sx]);first | rfl | exact congrArg (fun z=>some (AV.int .i64 z)) (i64_not _ ⟨by omega,by omega⟩)) rfl rfl ?_
   refine srn_ ?_
   refine ⟨⟨⟨i+(dec s i).2,H2,k2,cap2,r2⟩,hst.2.1,by dsimp only;rw [hE];exact hF2⟩,?_,(by first | exact Nat.le_refl _ | (simp;done) | (simp;omega)),by have:=(sl_step hil).2.2.1;have:=(sl_step hil).2.1;dsimp only;omega⟩
   try dsimp only
   refine Trunc.of (by first | exact (List.append_nil _).symm | exact rfl | (rw [List.append_assoc];rfl)) ?_ (by first | exact hc0 | exact hF1.cl | exact hF2.cl) (fun _ h=>h)
   refine ftc_ ?_ (hc:=by first | exact trivial | (simp [AV.cl,AV.clL];done) | (simp only [AV.cl,AV.clL,List.length_append,List.length_cons,List.length_nil];omega))
   refine ftc_ ?_ (hc:=by first | exact trivial | (simp [AV.cl,AV.clL];done) | (simp only [AV.cl,AV.clL,List.length_append,List.length_cons,List.length_nil];omega))
   refine ftc_ ?_ (hc:=by first | exact trivial | (simp [AV.cl,AV.clL];done) | (simp only [AV.cl,AV.clL,List.length_append,List.length_cons,List.length_nil];omega))
   refine ftc_ ?_ (hc:=by first | exact trivial | (simp [AV.cl,AV.clL];done) | (simp only [AV.cl,AV.clL,List.length_append,List.length_cons,List.length_nil];omega))
   refine ftc_ ?_ (hc:=by first | exact trivial | (simp [AV.cl,AV.clL];done) | (simp only [AV.cl,AV.clL,List.length_append,List.length_cons,List.length_nil];omega))
   exact FTr.nil
  have hE:flSt s (i+(dec s i).2)=flSt s i:=by rw [flSt_next hil,flSt_slash hsl,if_neg (by omega)]
  have sx:=And.intro hE sx
  refine skp_ ?_
  refine ⟨⟨⟨i+(dec s i).2,H1,kb,cap,r⟩,hst.2.1,by dsimp only;rw [hE];exact hF1⟩,?_,(by first | exact Nat.le_refl _ | (simp;done) | (simp;omega)),by have:=(sl_step hil).2.2.1;have:=(sl_step hil).2.1;dsimp only;omega⟩
  try dsimp only
  refine Trunc.of (by first | exact (List.append_nil _).symm | exact rfl | (rw [List.append_assoc];rfl)) ?_ (by first | exact hc0 | exact hF1.cl | exact hF2.cl) (fun _ h=>h)
  refine ftc_ ?_ (hc:=by first | exact trivial | (simp [AV.cl,AV.clL];done) | (simp only [AV.cl,AV.clL,List.length_append,List.length_cons,List.length_nil];omega))
  refine ftc_ ?_ (hc:=by first | exact trivial | (simp [AV.cl,AV.clL];done) | (simp only [AV.cl,AV.clL,List.length_append,List.length_cons,List.length_nil];omega))
  refine ftc_ ?_ (hc:=by first | exact trivial | (simp [AV.cl,AV.clL];done) | (simp only [AV.cl,AV.clL,List.length_append,List.length_cons,List.length_nil];omega))
  refine ftc_ ?_ (hc:=by first | exact trivial | (simp [AV.cl,AV.clL];done) | (simp only [AV.cl,AV.clL,List.length_append,List.length_cons,List.length_nil];omega))
  refine ftc_ ?_ (hc:=by first | exact trivial | (simp [AV.cl,AV.clL];done) | (simp only [AV.cl,AV.clL,List.length_append,List.length_cons,List.length_nil];omega))
  exact FTr.nil
 have hne:s.getD i 0≠47:=fun e=>hb2 (hst.1.2 e)
 refine rg_ [0,1,5,6,7,14,33] ?_
 refine cx_ (fun hb4=>?_) (fun hb4=>?_)
 ·
  have hE:flSt s (i+(dec s i).2)=((i:Int),(flSt s i).2):=by rw [flSt_next hil,flSt_no hne,if_pos (by omega)]
  have sx:=And.intro hE sx
  refine rt_ [0,1,5,6,14] ?_
  refine srn_ ?_
  refine ⟨⟨⟨i+(dec s i).2,H1,kb,cap,r⟩,hst.2.1,by dsimp only;rw [hE];exact hF1⟩,?_,(by first | exact Nat.le_refl _ | (simp;done) | (simp;omega)),by have:=(sl_step hil).2.2.1;have:=(sl_step hil).2.1;dsimp only;omega⟩
  try dsimp only
  refine Trunc.of (by first | exact (List.append_nil _).symm | exact rfl | (rw [List.append_assoc];rfl)) ?_ (by first | exact hc0 | exact hF1.cl | exact hF2.cl) (fun _ h=>h)
  refine ftc_ ?_ (hc:=by first | exact trivial | (simp [AV.cl,AV.clL];done) | (simp only [AV.cl,AV.clL,List.length_append,List.length_cons,List.length_nil];omega))
  refine ftc_ ?_ (hc:=by first | exact trivial | (simp [AV.cl,AV.clL];done) | (simp only [AV.cl,AV.clL,List.length_append,List.length_cons,List.length_nil];omega))
  refine ftc_ ?_ (hc:=by first | exact trivial | (simp [AV.cl,AV.clL];done) | (simp only [AV.cl,AV.clL,List.length_append,List.length_cons,List.length_nil];omega))
  refine ftc_ ?_ (hc:=by first | exact trivial | (simp [AV.cl,AV.clL];done) | (simp only [AV.cl,AV.clL,List.length_append,List.length_cons,List.length_nil];omega))
  refine ftc_ ?_ (hc:=by first | exact trivial | (simp [AV.cl,AV.clL];done) | (simp only [AV.cl,AV.clL,List.length_append,List.length_cons,List.length_nil];omega))
  exact FTr.nil
 have hE:flSt s (i+(dec s i).2)=flSt s i:=by rw [flSt_next hil,flSt_no hne,if_neg (by omega)]
 have sx:=And.intro hE sx
 refine skp_ ?_
 refine ⟨⟨⟨i+(dec s i).2,H1,kb,cap,r⟩,hst.2.1,by dsimp only;rw [hE];exact hF1⟩,?_,(by first | exact Nat.le_refl _ | (simp;done) | (simp;omega)),by have:=(sl_step hil).2.2.1;have:=(sl_step hil).2.1;dsimp only;omega⟩
 try dsimp only
 refine Trunc.of (by first | exact (List.append_nil _).symm | exact rfl | (rw [List.append_assoc];rfl)) ?_ (by first | exact hc0 | exact hF1.cl | exact hF2.cl) (fun _ h=>h)
 refine ftc_ ?_ (hc:=by first | exact trivial | (simp [AV.cl,AV.clL];done) | (simp only [AV.cl,AV.clL,List.length_append,List.length_cons,List.length_nil];omega))
 refine ftc_ ?_ (hc:=by first | exact trivial | (simp [AV.cl,AV.clL];done) | (simp only [AV.cl,AV.clL,List.length_append,List.length_cons,List.length_nil];omega))
 refine ftc_ ?_ (hc:=by first | exact trivial | (simp [AV.cl,AV.clL];done) | (simp only [AV.cl,AV.clL,List.length_append,List.length_cons,List.length_nil];omega))
 refine ftc_ ?_ (hc:=by first | exact trivial | (simp [AV.cl,AV.clL];done) | (simp only [AV.cl,AV.clL,List.length_append,List.length_cons,List.length_nil];omega))
 refine ftc_ ?_ (hc:=by first | exact trivial | (simp [AV.cl,AV.clL];done) | (simp only [AV.cl,AV.clL,List.length_append,List.length_cons,List.length_nil];omega))
 exact FTr.nil
end Go.Proofs.YtmgnbgniikjhdaaGreat
namespace Go.Proofs.YtmgnbgniikjhdaaGreat
open Go.Ab
set_option maxRecDepth 8000
set_option maxHeartbeats 400000
def splitL (s:List UInt8):List (List UInt8):=bif decide ((0:Int)<(namesF s).length)&&sufF s then namesF s++[[46]] else namesF s
theorem namesF_bd {s:List UInt8} (h:s.length≤64):(namesF s).length≤32:=by
 have:=(spansF_bd s).2
 rw [names_len];omega
theorem splitL_bd {s:List UInt8} (h:s.length≤64):(splitL s).length≤33:=by
 have:=namesF_bd h
 unfold splitL
 cases (decide ((0:Int)<(namesF s).length)&&sufF s)
 · rw [cond_false];omega
 · rw [cond_true,List.length_append,List.length_singleton];omega
theorem map_str_snoc (l:List (List UInt8)) (x:List UInt8):l.map AV.str++[.str x]=(l++[x]).map .str:=by simp
theorem map_str_app (a b:List (List UInt8)):a.map AV.str++b.map .str=(a++b).map .str:=by simp
theorem suf_eq (s:List UInt8):AV.bool (sufF s)=AV.bool (decide ((0:Int)+1≤s.length)&&decide (List.drop ((s.length:Int) - (0+1)).toNat s=[47])):=by
 unfold sufF
 rw [show ((s.length:Int) - (0+1)).toNat=s.length - 1 by omega];rfl
theorem take_all_map {α β:Type} (f:α→β) (l:List α):List.take (l.length - 0) (l.map f)=l.map f:=List.take_of_length_le (by simp)
theorem take_all_snoc {α β:Type} (f:α→β) (l:List α) (x:α):List.take (l.length+1 - 0) ((l++[x]).map f)=(l++[x]).map f:=List.take_of_length_le (by simp)
theorem map_str_cons (x:List UInt8) (l:List (List UInt8)):AV.str x::l.map .str=(x::l).map .str:=rfl
def Tab.Rt (T:Tab):Prop:=∀n∈T.ns,n.kind≠0→rightF n=true
theorem Tab.Rt.get {T:Tab} (h:T.Rt) {i:Int} (hi:(T.get i).2=true):rightF (T.get i).1=true:=by
 cases ha:T.at i with
 | none=>rw [get_no ha] at hi;cases hi
 | some j=>
  rw [get_at ha]
  have hk:(T.ns.getD j nd0).kind≠0:=by
   unfold Tab.at at ha
   split at ha
   · rename_i hc;cases ha;exact hc.2.2
   · cases ha
  by_cases hj:j<T.ns.length
  ·
   rw [List.getD_eq_getElem?_getD,List.getElem?_eq_getElem hj] at hk ⊢
   exact h _ (List.getElem_mem hj) hk
  ·
   rw [List.getD_eq_getElem?_getD,List.getElem?_eq_none (by omega)] at hk
   exact absurd rfl hk
theorem right_link {n:Nd} (h:rightF n=true) (hk:n.kind=3):n.target.length≤64:=by
 unfold rightF at h
 cases hc:(decide (n.mode<0)||decide (4095<n.mode)||!idB n.uid||!idB n.gid) with
 | true=>rw [hc] at h;cases h
 | false=>
  rw [hc,cond_false,if_neg (by omega),if_neg (by omega),if_pos hk] at h
  simp only [Bool.and_eq_true,fitsF,decide_eq_true_eq] at h
  omega
theorem Tab.Rt.link {T:Tab} (hT:T.Ok) (h:T.Rt) {i:Int} (hk:(T.get i).1.kind=3):(T.get i).1.target.length≤64:=by
 have hi:(T.get i).2=true:=by rw [get_kind hT,hk];rfl
 exact right_link (h.get hi) hk
def fitE (T:Tab) (s:List UInt8):Int:=if s=[] then 2 else if (64:Int)<s.length then 36 else if 0≤Lib.indexByte s 0 then 22 else if (T.get 1).2=false then 2 else 0
def findF (n:Nd) (s:List UInt8):Int:=if 0≤idxP (eqS s) n.ents then (n.ents.getD (idxP (eqS s) n.ents).toNat ([],0)).2 else 0
abbrev Fo:=(Int×List UInt8×Int)×Int
def fo (e:Int):Fo:=((0,[],0),e)
def foV (r:Fo):AV:=.tup [.agg [.int .i64 r.1.1,.str r.1.2.1,.int .i64 r.1.2.2],.int .i64 r.2]
def resL (T:Tab) (c:Cr) (fl:Bool):Nat→Int→Int→List (List UInt8)→Fo
 | 0, _, _, _=>fo 0
 | _+1,i, _,[]=>((i,[],i),0)
 | n+1,i,k,s::l=>
  if (T.get i).1.kind≠2 then fo 20
  else if canT c T i 1=false then fo 13
  else if s=[46] then resL T c fl n i k l
  else if s=[46,46] then resL T c fl n (if T.parent i≠0 then T.parent i else i) k l
  else if (12:Int)<s.length then fo 36
  else if findF (T.get i).1 s=0∧(0:Int)<l.length then fo 2
  else if (T.get (findF (T.get i).1 s)).1.kind=3∧(fl=true∨(0:Int)<l.length) then
   (if k=8 then fo 40 else resL T c fl n (if absF (T.get (findF (T.get i).1 s)).1.target=true then 1 else i) (k+1) (splitL (T.get (findF (T.get i).1 s)).1.target++l))
  else if (l.length:Int)=0 then ((i,s,findF (T.get i).1 s),0)
  else resL T c fl n (findF (T.get i).1 s) k l
theorem resL_nil (T:Tab) (c:Cr) (fl:Bool) (n:Nat) (i k:Int):resL T c fl (n+1) i k []=((i,[],i),0):=rfl
theorem resL_cons (T:Tab) (c:Cr) (fl:Bool) (n:Nat) (i k:Int) (s:List UInt8) (l:List (List UInt8)):resL T c fl (n+1) i k (s::l) =
 if (T.get i).1.kind≠2 then fo 20
 else if canT c T i 1=false then fo 13
 else if s=[46] then resL T c fl n i k l
 else if s=[46,46] then resL T c fl n (if T.parent i≠0 then T.parent i else i) k l
 else if (12:Int)<s.length then fo 36
 else if findF (T.get i).1 s=0∧(0:Int)<l.length then fo 2
 else if (T.get (findF (T.get i).1 s)).1.kind=3∧(fl=true∨(0:Int)<l.length) then
  (if k=8 then fo 40 else resL T c fl n (if absF (T.get (findF (T.get i).1 s)).1.target=true then 1 else i) (k+1) (splitL (T.get (findF (T.get i).1 s)).1.target++l))
 else if (l.length:Int)=0 then ((i,s,findF (T.get i).1 s),0)
 else resL T c fl n (findF (T.get i).1 s) k l:=rfl
def resF (T:Tab) (c:Cr) (s:List UInt8) (fl:Bool):Fo:=if fitE T s≠0 then fo (fitE T s) else resL T c fl 1000 1 0 (splitL s)
theorem BW.setr {g g':List Blk} (h:BW g g') (k:Nat) (x:Blk):BW (g.set k x) (g'.set k x):=by
 refine ⟨by rw [List.length_set,List.length_set];exact h.1,fun j=>?_⟩
 rw [List.getElem?_set,List.getElem?_set]
 by_cases hj:k=j
 · rw [if_pos hj,if_pos hj,h.1];exact .inl rfl
 · rw [if_neg hj,if_neg hj];exact h.2 j
theorem fitE_len {T:Tab} {s:List UInt8} (h:fitE T s=0):s.length≤64:=by
 unfold fitE at h
 split at h
 · cases h
 ·
  split at h
  · cases h
  · omega
theorem c183 (s:List UInt8) (h:List Blk) (live:List Nat) (hs:s.length≤1000):AC Tryz.prog 183 [.str s] h live (.slice ((namesF s).map .str) .full):=by
 refine aq_ Tryz.func183 fun hH hX=>?_
 refine rg_ [0] ?_
 refine rs_ [2] ?_
 refine sg_ ?_
 refine cl_ (hc:=c232 s _ _ hs) (k:=?_)
 refine srt_ ?_
 refine gq_ (h1:=h) Tryz.results183 ?_ (hx:=(.inl rfl)) (hcl:=(by exact clL_str _ _))
 exact rk_ rfl
theorem c234 (s:List UInt8) (h:List Blk) (live:List Nat) (hs:s.length≤9223372036854775807):AC Tryz.prog 234 [.str s,.str [47]] h live (.bool (sufF s)):=by
 refine aq_ Tryz.func234 fun hH hX=>?_
 refine rg_ [0,1] ?_
 refine rg_ [4] ?_
 refine ret_ ?_
 refine fq_ Tryz.results234 ?_
 exact ⟨suf_eq s,rfl,rfl⟩
theorem c184 (s:List UInt8) (h:List Blk) (live:List Nat) (hs:s.length≤9223372036854775807):AC Tryz.prog 184 [.str s,.str [47]] h live (.bool (sufF s)):=by
 refine aq_ Tryz.func184 fun hH hX=>?_
 refine rg_ [0,1] ?_
 refine rs_ [4] ?_
 refine sg_ ?_
 refine cl_ (hc:=c234 s _ _ hs) (k:=?_)
 refine srt_ ?_
 refine fq_ Tryz.results184 ?_
 exact rk_ rfl
theorem c185 (s:List UInt8) (h:List Blk) (live:List Nat) (hs:s.length≤9223372036854775807):AC Tryz.prog 185 [.str s] h live (.bool (absF s)):=by
 refine aq_ Tryz.func185 fun hH hX=>?_
 refine rg_ [0] ?_
 refine rs_ [2] ?_
 refine sg_ ?_
 refine cl_ (hc:=c235 s _ _ hs) (k:=?_)
 refine srt_ ?_
 refine fq_ Tryz.results185 ?_
 exact rk_ rfl
theorem c125 (s:List UInt8) (h:List Blk) (live:List Nat) (hs:s.length≤64):AC Tryz.prog 125 [.str s] h live (.tup [.bool (absF s),.slice ((splitL s).map .str) .full]):=by
 refine aq_ Tryz.func125 fun hH hX=>?_
 have hnb:=namesF_bd hs
 have sx:=(And.intro @map_str_snoc (And.intro @take_all_map (And.intro @take_all_snoc sx0)))
 refine rg_ [0] ?_
 refine rs_ [0,4] ?_
 refine sg_ ?_
 refine cl_ (hc:=c183 s _ _ (by omega)) (k:=?_)
 refine sre_ ?_
 refine sk_ fun K1 hK1=>?_
 refine rs_ [0,4,13] ?_
 refine sg_ ?_
 refine cg_ (hc:=fun hg=>c184 s _ _ (by omega)) (k:=?_)
 refine sre_ ?_
 refine cy_ (fun hb1=>?_) (fun hb1=>?_)
 ·
  have hsp:splitL s=namesF s++[[46]]:=by unfold splitL;rw [hb1];rfl
  refine rt_ [0,4] ?_
  refine sg_ ?_
  refine ap_ (a:=.inl rfl) (b:=cells_strs' _) (c':=by simp [AV.cells]) (d:=by simp;omega) (e:=by simp;omega) (k:=?_)
  intro c16 live16 hk16
  refine srn_ ?_
  refine hK1 _ ?_
  refine rsq_ [2,3] ⟨true,[],[],[],[],[],0⟩ (fun _=>⟨by kernel_rfl,by kernel_rfl⟩) ?_
  refine sg_ ?_
  refine cr_ (hc:=c185 s _ _ (by omega)) (k:=?_)
  refine srt_ ?_
  refine gq_ (h1:=h) Tryz.results125 ?_ (hx:=(.inl rfl)) (hcl:=(by exact ⟨trivial,clL_str _ _,trivial⟩)) (hl:=(fun u hu=>(hk16.2 u hu (fun e=>by cases e)).1))
  exact rk_ (by rw [hsp];rfl)
 have hsp:splitL s=namesF s:=by unfold splitL;rw [hb1];rfl
 refine skp_ ?_
 refine hK1 _ ?_
 refine rsq_ [2,3] ⟨true,[],[],[],[],[],0⟩ (fun _=>⟨by kernel_rfl,by kernel_rfl⟩) ?_
 refine sg_ ?_
 refine cr_ (hc:=c185 s _ _ (by omega)) (k:=?_)
 refine srt_ ?_
 refine gq_ (h1:=h) Tryz.results125 ?_ (hx:=(.inl rfl)) (hcl:=(by exact ⟨trivial,clL_str _ _,trivial⟩))
 exact rk_ (by rw [hsp];rfl)
theorem c124 (T:Tab) (k:Nat) (s:List UInt8) (h:List Blk) (live:List Nat) (hk:h[k]? = some (tabBlk T)) (hT:T.Ok) (hs:s.length≤9223372036854775807):AC Tryz.prog 124 [.ptr k 0,.str s] h live (.int .i64 (fitE T s)):=by
 refine aq_ Tryz.func124 fun hH hX=>?_
 refine rg_ [0,1] ?_
 refine sk_ fun K1 hK1=>?_
 refine awp_block ?_
 refine rg_ [0,1,7] ?_
 refine cx_ (fun hb1=>?_) (fun hb1=>?_)
 ·
  refine rg_ [4] ?_
  refine ret_ ?_
  refine fq_ Tryz.results124 ?_
  exact rk_ (by unfold fitE;rw [if_pos hb1])
 refine rg_ [0,1,10] ?_
 refine cx_ (fun hb2=>?_) (fun hb2=>?_)
 ·
  refine rg_ [4] ?_
  refine ret_ ?_
  refine fq_ Tryz.results124 ?_
  exact rk_ (by unfold fitE;rw [if_neg hb1,if_pos hb2])
 refine rs_ [0,14] ?_
 refine sg_ ?_
 refine cl_ (hc:=c170 s 0 _ _) (k:=?_)
 refine sre_ ?_
 refine cx_ (fun hb3=>?_) (fun hb3=>?_)
 ·
  refine rg_ [4] ?_
  refine ret_ ?_
  refine fq_ Tryz.results124 ?_
  exact rk_ (by unfold fitE;rw [if_neg hb1,if_neg (by omega),if_pos hb3])
 refine skp_ ?_
 refine hK1 _ ?_
 refine sk_ fun K2 hK2=>?_
 refine rs_ [6] ?_
 refine sg_ ?_
 refine cl_ (hc:=c23 T k _ _ _ hk hT) (k:=?_)
 refine sre_ ?_
 refine rg_ [24] ?_
 refine cx_ (fun hb4=>?_) (fun hb4=>?_)
 ·
  refine rg_ [4] ?_
  refine ret_ ?_
  refine fq_ Tryz.results124 ?_
  exact rk_ (by unfold fitE;rw [if_neg hb1,if_neg (by omega),if_neg (by omega),if_pos hb4])
 refine skp_ ?_
 refine hK2 _ ?_
 refine rg_ [4] ?_
 refine ret_ ?_
 refine fq_ Tryz.results124 ?_
 exact rk_ (by unfold fitE;rw [if_neg hb1,if_neg (by omega),if_neg (by omega),if_neg (by rw [hb4];decide)])
theorem c127 (n:Nd) (s:List UInt8) (h:List Blk) (live:List Nat) (hn:NdOk n):AC Tryz.prog 127 [.agg (ndC n),.str s] h live (.int .i64 (findF n s)):=by
 refine aq_ Tryz.func127 fun hH hX=>?_
 have hrg:=idxP_range (eqS s) n.ents
 have hn2:=hn.2.1
 refine rg_ [1,2] ?_
 refine sk_ fun K1 hK1=>?_
 refine rs_ [2,5] ?_
 refine sg_ ?_
 refine cl_ (hc:=c186 n s _ _ hn) (k:=?_)
 refine sre_ ?_
 refine rg_ [2,5,10] ?_
 refine cx_ (fun hb1=>?_) (fun hb1=>?_)
 ·
  have hin:idxP (eqS s) n.ents=((idxP (eqS s) n.ents).toNat:Nat):=by omega
  have hil:(idxP (eqS s) n.ents).toNat<n.ents.length:=by omega
  refine rg_ [4] ?_
  refine ret_ ?_
  refine fq_ Tryz.results127 ?_
  exact rk_ (by unfold findF;rw [if_pos hb1])
 refine skp_ ?_
 refine hK1 _ ?_
 refine rg_ [4] ?_
 refine ret_ ?_
 refine fq_ Tryz.results127 ?_
 exact rk_ (by unfold findF;rw [if_neg (by omega)])
theorem c126 (s:List UInt8) (l:List (List UInt8)) (q:Cap) (i n:Int) (p1 p2 p3:Nat) (h:List Blk) (live:List Nat) (hs:s.length≤64) (hl:l.length≤1000) (h1:h[p1]? = some (.cells [.slice (l.map .str) q])) (h2:h[p2]? = some (.cells [.int .i64 i])) (h3:h[p3]? = some (.cells [.int .i64 n])) (hn:0≤n∧n≤1000) (h12:p1≠p2) (h13:p1≠p3) (h23:p2≠p3):ACalls Tryz.prog 126 [.str s,.ptr p1 0,.ptr p2 0,.ptr p3 0] h live (ret (.tup []) (((h.set p1 (.cells [.slice ((splitL s++l).map .str) .none])).set p2 (.cells [.int .i64 (if absF s=true then 1 else i)])).set p3 (.cells [.int .i64 (n+1)])) live):=by
 refine aq_ Tryz.func126 fun hH hX=>?_
 have hl1:=lt_of_get h1
 have hl2:=lt_of_get h2
 have hl3:=lt_of_get h3
 have hsb:=splitL_bd hs
 have hg2:∀x:Blk,(h.set p1 x)[p2]? = some (.cells [.int .i64 i]):=fun x=>getSet h2 (Ne.symm h12)
 have hg3:∀x:Blk,(h.set p1 x)[p3]? = some (.cells [.int .i64 n]):=fun x=>getSet h3 (Ne.symm h13)
 have hg4:∀x y:Blk,((h.set p1 x).set p2 y)[p3]? = some (.cells [.int .i64 n]):=fun x y=>getSet (hg3 x) (Ne.symm h23)
 have hcl:HCl (((h.set p1 (.cells [.slice ((splitL s++l).map .str) .none])).set p2 (.cells [.int .i64 (if absF s=true then 1 else i)])).set p3 (.cells [.int .i64 (n+1)])):=HCl.set (b:=.cells [.int .i64 (n+1)]) (HCl.set (b:=.cells [.int .i64 (if absF s=true then 1 else i)]) (HCl.set (b:=.cells [.slice ((splitL s++l).map .str) .none]) hH p1 ⟨clL_str _ _,trivial⟩) p2 ⟨trivial,trivial⟩) p3 ⟨trivial,trivial⟩
 have her:∀q',Blk.cells [.slice ((splitL s++l).map .str) .none]=(Blk.cells [.slice ((splitL s).map .str++l.map .str) q']).er:=fun q'=>by show _=Blk.cells (AV.erL _);simp only [AV.erL,AV.er,map_str_app,erL_str]
 have hse:∀x:Blk,(h.set p1 x).set p2 (.cells [.int .i64 i])=h.set p1 x:=fun x=>set_self (hg2 x)
 have sx:=(And.intro @h1 (And.intro @h2 (And.intro @h3 (And.intro @hg2 (And.intro @hg3 (And.intro @hg4 sx0))))))
 refine rs_ [1,2,3,5,6] ?_
 refine sg_ ?_
 refine cl_ (hc:=c125 s _ _ hs) (k:=?_)
 refine sre_ ?_
 refine rs_ [2,3,5] ?_
 refine sg_ ?_
 refine ap_ (a:=.inl rfl) (b:=cells_strs' _) (c':=cells_strs' _) (d:=by simp;omega) (e:=by simp;omega) (k:=?_)
 intro c14 live14 hk14
 refine sre_ ?_
 refine sk_ fun K1 hK1=>?_
 refine rg_ [2,3,15] ?_
 refine cy_ (fun hb1=>?_) (fun hb1=>?_)
 ·
  have hab:(if absF s=true then (1:Int) else i)=1:=if_pos hb1
  refine rt_ [3] ?_
  refine srn_ ?_
  refine hK1 _ ?_
  refine rt_ [] ?_
  refine srn_ ?_
  refine fe_ (h1:=((h.set p1 (.cells [.slice ((splitL s++l).map .str) .none])).set p2 (.cells [.int .i64 (if absF s=true then 1 else i)])).set p3 (.cells [.int .i64 (n+1)])) Tryz.results126 (hh:=⟨((h.set p1 _).set p2 _).set p3 _,[],by rw [List.append_nil],by rw [hab];exact BW.setr (BW.setr (BW.set (her _)) _ _) _ _⟩) (hl:=(fun u hu=>(hk14.2 u hu (fun e=>by cases e)).1)) (hH:=hcl) (hK:=?_)
  exact rk_ rfl
 have hab:(if absF s=true then (1:Int) else i)=i:=if_neg (by rw [hb1];decide)
 refine skp_ ?_
 refine hK1 _ ?_
 refine rt_ [] ?_
 refine srn_ ?_
 refine fe_ (h1:=((h.set p1 (.cells [.slice ((splitL s++l).map .str) .none])).set p2 (.cells [.int .i64 (if absF s=true then 1 else i)])).set p3 (.cells [.int .i64 (n+1)])) Tryz.results126 (hh:=⟨(h.set p1 _).set p3 _,[],by rw [List.append_nil],by rw [hab,hse];exact BW.setr (BW.set (her _)) _ _⟩) (hl:=(fun u hu=>(hk14.2 u hu (fun e=>by cases e)).1)) (hH:=hcl) (hK:=?_)
 exact rk_ rfl
end Go.Proofs.YtmgnbgniikjhdaaGreat
namespace Go.Proofs.YtmgnbgniikjhdaaGreat
open Go.Ab
set_option maxRecDepth 8000
set_option maxHeartbeats 400000
theorem ite_and_tt {α:Type} (p q:Bool) (a b:α):(if (p=true∧q=true) then a else b)=if (p&&q)=true then a else b:=by cases p<;>cases q<;>rfl
structure Sta where
 node:Int
 kind:Int
 mode:Int
 uid:Int
 gid:Int
 links:Int
 size:Int
 deriving DecidableEq
def staC (s:Sta):List AV:=[.int .i64 s.node,.int .i64 s.kind,.int .i64 s.mode,.int .i64 s.uid,.int .i64 s.gid,.int .i64 s.links,.int .i64 s.size]
def sta0:Sta:=⟨0,0,0,0,0,0,0⟩
def sizeF (n:Nd):Int:=if n.kind=1 then n.data.length else if n.kind=2 then n.ents.length else if n.kind=3 then n.target.length else 0
def staF (T:Tab) (i:Int):Sta:=if (T.get i).2=true then ⟨i,(T.get i).1.kind,(T.get i).1.mode,(T.get i).1.uid,(T.get i).1.gid,T.links i,sizeF (T.get i).1⟩ else sta0
def statF (T:Tab) (c:Cr) (s:List UInt8) (fl:Bool):Sta×Int:=if (resF T c s fl).2≠0 then (sta0,(resF T c s fl).2) else if (T.get (resF T c s fl).1.2.2).2=true then (staF T (resF T c s fl).1.2.2,0) else (sta0,2)
theorem clL_staC (n:Nat) (s:Sta):AV.clL n (staC s):=⟨trivial,trivial,trivial,trivial,trivial,trivial,trivial,trivial⟩
theorem er_staC (s:Sta):AV.erL (staC s)=staC s:=rfl
theorem staC_len (s:Sta):(staC s).length=7:=rfl
theorem staC_0 (s:Sta):(staC s)[0]? = some (.int .i64 s.node):=rfl
theorem staC_1 (s:Sta):(staC s)[1]? = some (.int .i64 s.kind):=rfl
theorem staC_2 (s:Sta):(staC s)[2]? = some (.int .i64 s.mode):=rfl
theorem staC_3 (s:Sta):(staC s)[3]? = some (.int .i64 s.uid):=rfl
theorem staC_4 (s:Sta):(staC s)[4]? = some (.int .i64 s.gid):=rfl
theorem staC_5 (s:Sta):(staC s)[5]? = some (.int .i64 s.links):=rfl
theorem staC_6 (s:Sta):(staC s)[6]? = some (.int .i64 s.size):=rfl
theorem staTake (s:Sta):(staC s).take 7=staC s:=rfl
theorem staPut (a b c d e f g:AV) (s:Sta):putAt [a,b,c,d,e,f,g] 0 (staC s)=staC s:=rfl
attribute [push_cast] staC_len staC_0 staC_1 staC_2 staC_3 staC_4 staC_5 staC_6 staTake staPut
theorem staF_no {T:Tab} {i:Int} (h:(T.get i).2=false):staF T i=sta0:=by unfold staF;rw [if_neg (by rw [h];decide)]
theorem staF_node {T:Tab} {i:Int} (h:(T.get i).2=true):(staF T i).node=i:=by unfold staF;rw [if_pos h]
theorem get_pos {T:Tab} {i:Int} (hT:T.Ok) (h:(T.get i).2=true):1≤i:=by
 rw [get_eq hT] at h
 split at h
 · rename_i hc;exact hc.1
 · cases h
attribute [push_cast] clL_staC er_staC
theorem c90 (T:Tab) (k:Nat) (c:Cr) (p:List UInt8) (fl:Bool) (h:List Blk) (live:List Nat) (hk:h[k]? = some (tabBlk T)) (hT:T.Ok) (hgs:c.gs.length≤17592186044416) (hR:T.Rt) (hp:p.length≤9223372036854775807):AC Tryz.prog 90 [.ptr k 0,.agg [.int .i64 c.uid,.int .i64 c.gid,.slice (c.gs.map iV) .none],.str p,.bool fl] h live (foV (resF T c p fl)):=by
 refine aq_ Tryz.func90 fun hH hX=>?_
 have hkl:=lt_of_get hk
 have hB:∀(i n:Int) (l:List (List UInt8)) (q:Cap),HCl (h++[.cells [AV.int .i64 c.uid,.int .i64 c.gid,.slice (c.gs.map iV) .none],.cells [.int .i64 0,.str [],.int .i64 0],.cells [.int .i64 i],.cells [.int .i64 n],.cells [.slice (l.map .str) q]]):=fun i n l q=>by
  have:=HCl.snoc (HCl.snoc (HCl.snoc (HCl.snoc (HCl.snoc (b:=.cells [AV.int .i64 c.uid,.int .i64 c.gid,.slice (c.gs.map iV) .none]) hH (by simp [Blk.cl,AV.cl,AV.clL,clL_iV, -List.map_map])) (b:=.cells [.int .i64 0,.str [],.int .i64 0]) ⟨trivial,trivial,trivial,trivial⟩) (b:=.cells [.int .i64 i]) ⟨trivial,trivial⟩) (b:=.cells [.int .i64 n]) ⟨trivial,trivial⟩) (b:=.cells [.slice (l.map .str) q]) ⟨clL_str _ _,trivial⟩
  rw [List.append_assoc,List.append_assoc,List.append_assoc,List.append_assoc] at this;exact this
 have sx:=(And.intro @Bool.true_and sx0)
 refine rg_ [0,2,3,5,8] ?_
 refine awp_scope ?_
 refine sk_ fun K1 hK1=>?_
 refine rs_ [0,2,3,5,8,10] ?_
 refine sg_ ?_
 refine cl_ (hc:=c124 T k p _ _ (atApp hk) hT hp) (k:=?_)
 refine sre_ ?_
 refine rg_ [0,2,3,5,8,10,27] ?_
 refine cdn_ (ht:=fun hb1=>?_) (hf:=fun hb1=>?_)
 ·
  have hfe:fitE T p≠0:=by simpa using hb1
  refine rg_ [8,9] ?_
  refine ret_ ?_
  refine fq_ Tryz.results90 ?_
  exact rk_ (by unfold resF;rw [if_pos hfe];rfl)
 have hfe:fitE T p=0:=by omega
 have hpl:=fitE_len hfe
 have hsb:=splitL_bd hpl
 have hrF:resF T c p fl=resL T c fl 1000 1 0 (splitL p):=by unfold resF;rw [if_neg (fun h=>h hfe)]
 refine skp_ ?_
 refine hK1 _ ?_
 refine rg_ [0,2,3,5,8,11,12] ?_
 refine rs_ [0,3,5,8,11,12,14] ?_
 refine sg_ ?_
 refine cl_ (hc:=c125 p _ _ hpl) (k:=?_)
 refine sre_ ?_
 refine rg_ [0,3,5,8,11,12,14,15] ?_
 refine sk_ fun K2 hK2=>?_
 refine awp_label (up_ ?_)
 refine hK2 _ ?_
 refine sk_ fun K3 hK3=>?_
 refine awp_block ?_
 refine lp_ (X:={x:Nat×Int×Nat×List (List UInt8)×Cap // resL T c fl 1000 1 0 (splitL p)=resL T c fl x.1 x.2.1 x.2.2.1 x.2.2.2.1∧x.2.2.1≤8∧(8 - x.2.2.1)*100+x.2.2.2.1.length<x.1∧x.1≤1000}) (fun x=>⟨Tryz.f90.ntmps,fget [(0,.ptr k 0),(3,.bool fl),(5,.ptr h.length 0),(8,.ptr (h.length+1) 0),(11,.ptr (h.length+2) 0),(12,.ptr (h.length+3) 0),(14,.ptr (h.length+4) 0),(15,.fn (.func 126) [] [.ptr (h.length+4) 0,.ptr (h.length+2) 0,.ptr (h.length+3) 0])],h++[.cells [AV.int .i64 c.uid,.int .i64 c.gid,.slice (c.gs.map iV) .none],.cells [.int .i64 0,.str [],.int .i64 0],.cells [.int .i64 x.1.2.1],.cells [.int .i64 (x.1.2.2.1:Nat)],.cells [.slice (x.1.2.2.2.1.map .str) x.1.2.2.2.2]],live⟩) (fun x=>x.1.1) (⟨⟨1000,1,0,splitL p,.full⟩,rfl,by dsimp only;omega,by dsimp only;omega,by dsimp only;omega⟩) ?_ (fun ⟨⟨m0,i,n,l,q⟩,hres,hn8,hmu,hm⟩=>?_)
 ·
  try dsimp only
  exact tf_ (hB _ _ _ _) (fun _ h=>h)
 try dsimp only
 dsimp only at hres hn8 hmu hm
 have hi4:∀g:List Blk,True:=fun _=>trivial
 refine sk_ fun K4 hK4=>?_
 refine rg_ [0,3,5,8,11,12,14,15,38] ?_
 refine cx_ (fun hb2=>?_) (fun hb2=>?_)
 rotate_left
 ·
  obtain ⟨m,rfl⟩:∃m,m0=m+1:=⟨m0 - 1,by omega⟩
  have hl0:l=[]:=List.eq_nil_of_length_eq_zero (by omega)
  refine awp_exit (up_ ?_)
  refine hK3 _ ?_
  refine rg_ [8,9] ?_
  refine ret_ ?_
  refine fq_ Tryz.results90 ?_
  exact rk_ (by rw [hrF,hres,hl0,resL_nil];rfl)
 obtain ⟨m,rfl⟩:∃m,m0=m+1:=⟨m0 - 1,by omega⟩
 have hlc:l=l.getD 0 []::l.drop 1:=by
  cases l with
  | nil=>simp at hb2
  | cons a l=>rfl
 have hres2:resL T c fl 1000 1 0 (splitL p)=resL T c fl (m+1) i n (l.getD 0 []::l.drop 1):=by rw [←hlc];exact hres
 rw [resL_cons] at hres2
 have hd1:(l.drop 1).length=l.length - 1:=List.length_drop
 refine skp_ ?_
 refine hK4 _ ?_
 refine awp_block ?_
 refine rg_ [0,3,5,8,11,12,14,15,16] ?_
 refine rg_ [0,3,5,8,11,12,14,15,16] ?_
 refine rs_ [0,3,5,8,11,12,14,15,16,17] ?_
 refine sg_ ?_
 refine cl_ (hc:=c23 T k _ _ _ (atApp hk) hT) (k:=?_)
 refine sre_ ?_
 refine rs_ [0,3,5,8,11,12,14,15,16,17,19] ?_
 refine sg_ ?_
 refine cl_ (hc:=c127 _ _ _ _ (get_ok hT _)) (k:=?_)
 refine sre_ ?_
 refine rs_ [0,3,5,8,11,12,14,15,16,17,19,20] ?_
 refine sg_ ?_
 refine cl_ (hc:=c23 T k _ _ _ (atApp hk) hT) (k:=?_)
 refine sre_ ?_
 refine sk_ fun K5 hK5=>?_
 refine awp_block ?_
 refine rg_ [0,3,5,8,11,12,14,15,16,19,20,59] ?_
 refine cx_ (fun hb3=>?_) (fun hb3=>?_)
 ·
  refine rg_ [8,9] ?_
  refine ret_ ?_
  refine fq_ Tryz.results90 ?_
  exact rk_ (by rw [hrF,hres2,if_pos hb3];rfl)
 refine rs_ [0,3,5,8,11,12,14,15,16,19,20,64] ?_
 refine sg_ ?_
 refine cl_ (hc:=c128 T k c _ _ _ _ _ (atApp hk) hT hgs) (k:=?_)
 refine sre_ ?_
 refine cx_ (fun hb4=>?_) (fun hb4=>?_)
 ·
  refine rg_ [8,9] ?_
  refine ret_ ?_
  refine fq_ Tryz.results90 ?_
  exact rk_ (by rw [hrF,hres2,if_neg (fun h=>h hb3),if_pos hb4];rfl)
 refine rg_ [0,3,5,8,11,12,14,15,16,19,20,71] ?_
 refine cx_ (fun hb5=>?_) (fun hb5=>?_)
 ·
  refine awp_exit (up_ ?_)
  refine ln_ ⟨⟨m,i,n,(l.drop 1),(capOf q true false false)⟩,by rw [hres2,if_neg (fun h=>h hb3),if_neg (by rw [hb4];decide),if_pos hb5],by dsimp only;omega,by dsimp only;omega,by dsimp only;omega⟩ ?_
  try dsimp only
  exact tf_ (hB _ _ _ _) (fun _ h=>h)
 refine rg_ [0,3,5,8,11,12,14,15,16,19,20,74] ?_
 refine cx_ (fun hb6=>?_) (fun hb6=>?_)
 ·
  refine sk_ fun K6 hK6=>?_
  refine rs_ [0,3,5,8,11,12,14,15,22] ?_
  refine sg_ ?_
  refine cl_ (hc:=c129 T k _ _ _ (atApp hk) hT) (k:=?_)
  refine sre_ ?_
  refine rg_ [0,3,5,8,11,12,14,15,22,81] ?_
  refine cx_ (fun hb7=>?_) (fun hb7=>?_)
  ·
   refine rt_ [0,3,5,8,11,12,14,15] ?_
   refine srn_ ?_
   refine hK6 _ ?_
   refine awp_exit (up_ ?_)
   refine ln_ ⟨⟨m,T.parent i,n,(l.drop 1),(capOf q true false false)⟩,by rw [hres2,if_neg (fun h=>h hb3),if_neg (by rw [hb4];decide),if_neg hb5,if_pos hb6,if_pos hb7],by dsimp only;omega,by dsimp only;omega,by dsimp only;omega⟩ ?_
   try dsimp only
   exact tf_ (hB _ _ _ _) (fun _ h=>h)
  refine skp_ ?_
  refine hK6 _ ?_
  refine awp_exit (up_ ?_)
  refine ln_ ⟨⟨m,i,n,(l.drop 1),(capOf q true false false)⟩,by rw [hres2,if_neg (fun h=>h hb3),if_neg (by rw [hb4];decide),if_neg hb5,if_pos hb6,if_neg (fun h=>h hb7)],by dsimp only;omega,by dsimp only;omega,by dsimp only;omega⟩ ?_
  try dsimp only
  exact tf_ (hB _ _ _ _) (fun _ h=>h)
 refine rg_ [0,3,5,8,11,12,14,15,16,19,20,83] ?_
 refine cx_ (fun hb8=>?_) (fun hb8=>?_)
 ·
  refine rg_ [8,9] ?_
  refine ret_ ?_
  refine fq_ Tryz.results90 ?_
  exact rk_ (by rw [hrF,hres2,if_neg (fun h=>h hb3),if_neg (by rw [hb4];decide),if_neg hb5,if_neg hb6,if_pos hb8];rfl)
 refine rg_ [0,3,5,8,11,12,14,15,16,19,20,88] ?_
 refine cx_ (fun hb9=>?_) (fun hb9=>?_)
 ·
  refine rg_ [8,9] ?_
  refine ret_ ?_
  refine fq_ Tryz.results90 ?_
  exact rk_ (by rw [hrF,hres2,if_neg (fun h=>h hb3),if_neg (by rw [hb4];decide),if_neg hb5,if_neg hb6,if_neg (by omega),if_pos hb9];rfl)
 refine rg_ [0,3,5,8,11,12,14,15,16,19,20,97] ?_
 refine cx_ (fun hb10=>?_) (fun hb10=>?_)
 ·
  have htl:=hR.link hT hb10.1
  have htb:=splitL_bd htl
  refine sk_ fun K7 hK7=>?_
  refine rg_ [0,3,5,8,11,12,14,15,20,110] ?_
  refine cx_ (fun hb11=>?_) (fun hb11=>?_)
  ·
   refine rg_ [8,9] ?_
   refine ret_ ?_
   refine fq_ Tryz.results90 ?_
   exact rk_ (by rw [hrF,hres2,if_neg (fun h=>h hb3),if_neg (by rw [hb4];decide),if_neg hb5,if_neg hb6,if_neg (by omega),if_neg (fun h=>by have:=hb9 h.1;omega),if_pos hb10,if_pos hb11];rfl)
  refine skp_ ?_
  refine hK7 _ ?_
  refine rs_ [0,3,5,8,11,12,14,15] ?_
  refine sg_ ?_
  refine cl_ (hc:=c126 _ (l.drop 1) (capOf q true false false) i n (h.length+4) (h.length+2) (h.length+3) _ _ htl (by omega) (by simp only [push_cast]) (by simp only [push_cast]) (by simp only [push_cast]) (by omega) (by omega) (by omega) (by omega)) (k:=?_)
  refine re_ ?_
  refine awp_exit (up_ ?_)
  refine ln_ ⟨⟨m,(if absF (T.get (findF (T.get i).1 (l.getD 0 []))).1.target=true then 1 else i),n+1,(splitL (T.get (findF (T.get i).1 (l.getD 0 []))).1.target++l.drop 1),.none⟩,by rw [hres2,if_neg (fun h=>h hb3),if_neg (by rw [hb4];decide),if_neg hb5,if_neg hb6,if_neg (by omega),if_neg (fun h=>by have:=hb9 h.1;omega),if_pos hb10,if_neg hb11];rfl,by dsimp only;omega,by dsimp only;rw [List.length_append];omega,by dsimp only;omega⟩ ?_
  try dsimp only
  exact tf_ (hB _ _ _ _) (fun _ h=>h)
 refine rg_ [0,3,5,8,11,12,14,15,16,19,116] ?_
 refine cx_ (fun hb12=>?_) (fun hb12=>?_)
 ·
  refine rg_ [8,9] ?_
  refine ret_ ?_
  refine fq_ Tryz.results90 ?_
  exact rk_ (by rw [hrF,hres2,if_neg (fun h=>h hb3),if_neg (by rw [hb4];decide),if_neg hb5,if_neg hb6,if_neg (by omega),if_neg (fun h=>by have:=hb9 h.1;omega),if_neg (fun h=>by obtain ⟨h1,h2⟩:=hb10 h.1;exact h.2.elim (fun e=>by rw [h1] at e;cases e) (fun e=>by omega)),if_pos hb12];rfl)
 refine skp_ ?_
 refine hK5 _ ?_
 refine rt_ [0,3,5,8,11,12,14,15] ?_
 refine srn_ ?_
 refine ln_ ⟨⟨m,findF (T.get i).1 (l.getD 0 []),n,(l.drop 1),(capOf q true false false)⟩,by rw [hres2,if_neg (fun h=>h hb3),if_neg (by rw [hb4];decide),if_neg hb5,if_neg hb6,if_neg (by omega),if_neg (fun h=>by have:=hb9 h.1;omega),if_neg (fun h=>by obtain ⟨h1,h2⟩:=hb10 h.1;exact h.2.elim (fun e=>by rw [h1] at e;cases e) (fun e=>by omega)),if_neg hb12],by dsimp only;omega,by dsimp only;omega,by dsimp only;omega⟩ ?_
 try dsimp only
 exact tf_ (hB _ _ _ _) (fun _ h=>h)
end Go.Proofs.YtmgnbgniikjhdaaGreat
namespace Go.Proofs.YtmgnbgniikjhdaaGreat
open Go.Ab
set_option maxRecDepth 8000
set_option maxHeartbeats 400000
theorem c131 (n:Nd) (h:List Blk) (live:List Nat):AC Tryz.prog 131 [.agg (ndC n)] h live (.int .i64 (sizeF n)):=by
 refine aq_ Tryz.func131 fun hH hX=>?_
 refine rg_ [1] ?_
 refine sk_ fun K1 hK1=>?_
 refine rg_ [1,4] ?_
 refine awp_block ?_
 refine rg_ [1,4,5] ?_
 refine cx_ (fun hb1=>?_) (fun hb1=>?_)
 ·
  refine rg_ [2] ?_
  refine ret_ ?_
  refine fq_ Tryz.results131 ?_
  exact rk_ (by unfold sizeF;rw [if_pos hb1])
 refine rg_ [1,4,10] ?_
 refine cx_ (fun hb2=>?_) (fun hb2=>?_)
 ·
  refine rg_ [2] ?_
  refine ret_ ?_
  refine fq_ Tryz.results131 ?_
  exact rk_ (by unfold sizeF;rw [if_neg hb1,if_pos hb2])
 refine rg_ [1,15] ?_
 refine cx_ (fun hb3=>?_) (fun hb3=>?_)
 ·
  refine rg_ [2] ?_
  refine ret_ ?_
  refine fq_ Tryz.results131 ?_
  exact rk_ (by unfold sizeF;rw [if_neg hb1,if_neg hb2,if_pos hb3])
 refine skp_ ?_
 refine hK1 _ ?_
 refine rg_ [2] ?_
 refine ret_ ?_
 refine fq_ Tryz.results131 ?_
 exact rk_ (by unfold sizeF;rw [if_neg hb1,if_neg hb2,if_neg hb3])
theorem c91 (T:Tab) (k:Nat) (i:Int) (h:List Blk) (live:List Nat) (hk:h[k]? = some (tabBlk T)) (hT:T.Ok):AC Tryz.prog 91 [.ptr k 0,.int .i64 i] h live (.tup [.agg (staC (staF T i)),.bool (T.get i).2]):=by
 refine aq_ Tryz.func91 fun hH hX=>?_
 refine rg_ [0,1,4] ?_
 refine rs_ [0,1,4,6,7] ?_
 refine sg_ ?_
 refine cl_ (hc:=c23 T k _ _ _ (atApp hk) hT) (k:=?_)
 refine sre_ ?_
 refine sk_ fun K1 hK1=>?_
 refine rg_ [0,1,4,6,15] ?_
 refine cx_ (fun hb1=>?_) (fun hb1=>?_)
 ·
  refine rg_ [4,5] ?_
  refine ret_ ?_
  refine fq_ Tryz.results91 ?_
  exact rk_ (by rw [hb1,staF_no hb1];rfl)
 refine skp_ ?_
 refine hK1 _ ?_
 refine rsq_ [4,5] ⟨true,[],[],[],[],[],0⟩ (fun _=>⟨by kernel_rfl,by kernel_rfl⟩) ?_
 refine sg_ ?_
 refine cr_ (hc:=c130 T k _ _ _ (atApp hk) hT) (k:=?_)
 refine sg_ ?_
 refine cr_ (hc:=c131 _ _ _) (k:=?_)
 refine srt_ ?_
 refine fq_ Tryz.results91 ?_
 exact rk_ (by rw [hb1];unfold staF;rw [if_pos hb1];rfl)
theorem c59 (T:Tab) (k:Nat) (c:Cr) (p:List UInt8) (fl:Bool) (h:List Blk) (live:List Nat) (hk:h[k]? = some (tabBlk T)) (hT:T.Ok) (hgs:c.gs.length≤17592186044416) (hR:T.Rt) (hp:p.length≤9223372036854775807):AC Tryz.prog 59 [.ptr k 0,.agg [.int .i64 c.uid,.int .i64 c.gid,.slice (c.gs.map iV) .none],.str p,.bool fl] h live (.tup [.agg (staC (statF T c p fl).1),.int .i64 (statF T c p fl).2]):=by
 refine aq_ Tryz.func59 fun hH hX=>?_
 refine rg_ [0,2,3,5,8] ?_
 refine rs_ [0,8,10,11] ?_
 refine sg_ ?_
 refine cl_ (hc:=c90 T k c p fl _ _ (atApp hk) hT hgs hR hp) (k:=?_)
 refine sre_ ?_
 refine sk_ fun K1 hK1=>?_
 refine rg_ [0,8,10,11,23] ?_
 refine cx_ (fun hb1=>?_) (fun hb1=>?_)
 ·
  refine rg_ [8,9] ?_
  refine ret_ ?_
  refine fq_ Tryz.results59 ?_
  exact rk_ (by unfold statF;rw [if_pos hb1];rfl)
 refine skp_ ?_
 refine hK1 _ ?_
 refine rs_ [8,12] ?_
 refine sg_ ?_
 refine cl_ (hc:=c91 T k _ _ _ (atApp hk) hT) (k:=?_)
 refine sre_ ?_
 refine sk_ fun K2 hK2=>?_
 refine rg_ [8,12,35] ?_
 refine cy_ (fun hb2=>?_) (fun hb2=>?_)
 ·
  have hno:(T.get (resF T c p fl).1.2.2).2=false:=by
   cases hg:(T.get (resF T c p fl).1.2.2).2 with
   | false=>rfl
   | true=>
    have h1:=get_pos hT hg
    rw [←staF_node hg] at h1
    simp only [Bool.and_eq_true,decide_eq_true_eq] at hb2
    have:=hb2.1
    omega
  refine rg_ [8,9] ?_
  refine ret_ ?_
  refine fq_ Tryz.results59 ?_
  exact rk_ (by unfold statF;rw [if_neg (fun h=>h hb1),if_neg (by rw [hno];decide),staF_no hno])
 have hye:(T.get (resF T c p fl).1.2.2).2=true:=by
  cases hg:(T.get (resF T c p fl).1.2.2).2 with
  | true=>rfl
  | false=>rw [staF_no hg] at hb2;simp [sta0] at hb2
 refine skp_ ?_
 refine hK2 _ ?_
 refine rg_ [8,9] ?_
 refine ret_ ?_
 refine fq_ Tryz.results59 ?_
 exact rk_ (by unfold statF;rw [if_neg (fun h=>h hb1),if_pos hye])
theorem c31 (T:Tab) (k:Nat) (c:Cr) (p:List UInt8) (h:List Blk) (live:List Nat) (hk:h[k]? = some (tabBlk T)) (hT:T.Ok) (hgs:c.gs.length≤17592186044416) (hR:T.Rt) (hp:p.length≤9223372036854775807):AC Tryz.prog 31 [.ptr k 0,.agg [.int .i64 c.uid,.int .i64 c.gid,.slice (c.gs.map iV) .none],.str p] h live (.tup [.agg (staC (statF T c p true).1),.int .i64 (statF T c p true).2]):=by
 refine aq_ Tryz.func31 fun hH hX=>?_
 refine rg_ [0,2,4,6] ?_
 refine rs_ [6,7] ?_
 refine sg_ ?_
 refine cl_ (hc:=c59 T k c p true _ _ (atApp hk) hT hgs hR hp) (k:=?_)
 refine srt_ ?_
 refine fq_ Tryz.results31 ?_
 exact rk_ rfl
end Go.Proofs.YtmgnbgniikjhdaaGreat
namespace Go.Proofs.YtmgnbgniikjhdaaGreat
open Go.Ab
set_option maxRecDepth 8000
set_option maxHeartbeats 400000
abbrev rE (T:Tab) (c:Cr) (p:List UInt8) (fl:Bool):Int:=(resF T c p fl).2
abbrev rD (T:Tab) (c:Cr) (p:List UInt8) (fl:Bool):Int:=(resF T c p fl).1.1
abbrev rS (T:Tab) (c:Cr) (p:List UInt8) (fl:Bool):List UInt8:=(resF T c p fl).1.2.1
abbrev rN (T:Tab) (c:Cr) (p:List UInt8) (fl:Bool):Int:=(resF T c p fl).1.2.2
def chgF (T:Tab) (c:Cr) (p:List UInt8) (fl:Bool) (g:Nd→Nd×Int):Int×Tab:=
 if rE T c p fl≠0 then (rE T c p fl,T)
 else if (T.get (rN T c p fl)).2=false then (2,T)
 else if (g (T.get (rN T c p fl)).1).2≠0 then ((g (T.get (rN T c p fl)).1).2,T)
 else putT T (rN T c p fl) (g (T.get (rN T c p fl)).1).1
def modeN (n:Nd) (m:Int):Nd:=⟨n.kind,m,n.uid,n.gid,n.data,n.ents,n.target⟩
def chmodG (c:Cr) (m:Int) (n:Nd):Nd×Int:=bif mayMode c n.uid then (modeN n (modeF c n.kind n.gid m),0) else (n,1)
def chmodF (T:Tab) (c:Cr) (p:List UInt8) (m:Int):Int×Tab:=if m<0∨4095<m then (22,T) else chgF T c p true (chmodG c m)
def chownG (c:Cr) (u g:Int) (n:Nd):Nd×Int:=
 bif mayOwn c n.uid n.gid u g then (if u<0∧g<0 then (n,0) else (⟨n.kind,writtenF c n.kind n.mode,if 0≤u then u else n.uid,if 0≤g then g else n.gid,n.data,n.ents,n.target⟩,0)) else (n,1)
def chownF (T:Tab) (c:Cr) (p:List UInt8) (u g:Int) (fl:Bool):Int×Tab:=if 65535<u∨65535<g then (22,T) else chgF T c p fl (chownG c u g)
def ownN (c:Cr) (d n:Nd):Nd:=⟨n.kind,n.mode,c.uid,if bits .and .i64 d.mode 1024=0 then c.gid else d.gid,n.data,n.ents,n.target⟩
def plantF (T:Tab) (c:Cr) (p:List UInt8) (fl:Bool) (g:Nd→Nd):(Int×Int)×Tab:=
 if rE T c p fl≠0 then ((0,rE T c p fl),T)
 else if rN T c p fl≠0 then ((0,17),T)
 else if canT c T (rD T c p fl) 3=false then ((0,13),T)
 else if (8:Int)≤(T.get (rD T c p fl)).1.ents.length∨T.used=T.room then ((0,28),T)
 else if (addT T (ownN c (T.get (rD T c p fl)).1 (g (T.get (rD T c p fl)).1))).1.2≠0 then ((0,(addT T (ownN c (T.get (rD T c p fl)).1 (g (T.get (rD T c p fl)).1))).1.2),(addT T (ownN c (T.get (rD T c p fl)).1 (g (T.get (rD T c p fl)).1))).2)
 else if (withN (T.get (rD T c p fl)).1 (rS T c p fl) (addT T (ownN c (T.get (rD T c p fl)).1 (g (T.get (rD T c p fl)).1))).1.1).2≠0 then
  ((0,(withN (T.get (rD T c p fl)).1 (rS T c p fl) (addT T (ownN c (T.get (rD T c p fl)).1 (g (T.get (rD T c p fl)).1))).1.1).2),dropT (addT T (ownN c (T.get (rD T c p fl)).1 (g (T.get (rD T c p fl)).1))).2 (addT T (ownN c (T.get (rD T c p fl)).1 (g (T.get (rD T c p fl)).1))).1.1)
 else (((addT T (ownN c (T.get (rD T c p fl)).1 (g (T.get (rD T c p fl)).1))).1.1,(putT (addT T (ownN c (T.get (rD T c p fl)).1 (g (T.get (rD T c p fl)).1))).2 (rD T c p fl) (withN (T.get (rD T c p fl)).1 (rS T c p fl) (addT T (ownN c (T.get (rD T c p fl)).1 (g (T.get (rD T c p fl)).1))).1.1).1).1),
  (putT (addT T (ownN c (T.get (rD T c p fl)).1 (g (T.get (rD T c p fl)).1))).2 (rD T c p fl) (withN (T.get (rD T c p fl)).1 (rS T c p fl) (addT T (ownN c (T.get (rD T c p fl)).1 (g (T.get (rD T c p fl)).1))).1.1).1).2)
def orL (l:List Int):Int:=l.foldl (fun a b=>bits .or .i64 a b) 0
def bitsP (m:Int) (l:List Int):Int:=bits .and .i64 m (orL l)
def mkdirG (um m:Int) (d:Nd):Nd:=⟨2,bits .or .i64 (bits .andNot .i64 (bitsP m [511,512]) (bitsP um [511])) (bitsP d.mode [1024]),0,0,[],[],[]⟩
def mkdirF (T:Tab) (c:Cr) (um:Int) (p:List UInt8) (m:Int):Int×Tab:=((plantF T c p false (mkdirG um m)).1.2,(plantF T c p false (mkdirG um m)).2)
def symG (s:List UInt8) (_:Nd):Nd:=⟨3,511,0,0,[],[],s⟩
def symlinkF (T:Tab) (c:Cr) (s p:List UInt8):Int×Tab:=
 if s=[] then (2,T) else if (64:Int)<s.length then (36,T) else if 0≤Lib.indexByte s 0 then (22,T)
 else ((plantF T c p false (symG s)).1.2,(plantF T c p false (symG s)).2)
def fileG (um m:Int) (_:Nd):Nd:=⟨1,bits .andNot .i64 (bitsP m [511]) um,0,0,[],[],[]⟩
def createF (T:Tab) (c:Cr) (um:Int) (p:List UInt8) (m:Int) (fl:Bool):(Int×Int)×Tab:=plantF T c p fl (fileG um m)
def withoutN (n:Nd) (s:List UInt8):Nd×Int:=
 if n.kind≠2 then (nd0,20) else if idxP (eqS s) n.ents<0 then (nd0,2) else (nWith n (n.ents.take (idxP (eqS s) n.ents).toNat++n.ents.drop ((idxP (eqS s) n.ents).toNat+1)),0)
def findE (T:Tab) (c:Cr) (p:List UInt8):Int:=
 if rE T c p false≠0 then rE T c p false else if rN T c p false=0 then 2 else if rS T c p false=[] then 22 else if canT c T (rD T c p false) 2=false then 13
 else if stickyF c (T.get (rD T c p false)).1.mode (T.get (rD T c p false)).1.uid (T.get (rN T c p false)).1.uid=false then 1 else 0
def cutF (T:Tab) (d:Int) (s:List UInt8):Tab:=if (withoutN (T.get d).1 s).2=0 then (putT T d (withoutN (T.get d).1 s).1).2 else T
def freeF (T:Tab) (i:Int) (o:List Int):Bool×Tab:=if (i=1∨0<T.links i)∨(o.any fun y=>decide (i=y))=true then (false,T) else ((T.at i).isSome,dropT T i)
def belowL (T:Tab) (d:Int):Nat→Int→Bool
 | 0,i=>decide (i=d)
 | n+1,i=>if i=d∨i=0 then decide (i=d) else belowL T d n (T.parent i)
def unlinkF (T:Tab) (c:Cr) (p:List UInt8) (o:List Int):Int×Tab:=
 if findE T c p≠0 then (findE T c p,T) else if (T.get (rN T c p false)).1.kind=2 then (21,T) else (0,(freeF (cutF T (rD T c p false) (rS T c p false)) (rN T c p false) o).2)
def rmdirF (T:Tab) (c:Cr) (p:List UInt8):Int×Tab:=
 if findE T c p≠0 then (findE T c p,T) else if (T.get (rN T c p false)).1.kind≠2 then (20,T) else if (0:Int)<(T.get (rN T c p false)).1.ents.length then (39,T) else (0,dropT (cutF T (rD T c p false) (rS T c p false)) (rN T c p false))
def overF (c:Cr) (n d m:Nd):Int:=
 if stickyF c d.mode d.uid m.uid=false then 1 else if n.kind=2∧m.kind≠2 then 20 else if m.kind=2∧n.kind≠2 then 21 else if (0:Int)<m.ents.length then 39 else 0
def renL (T:Tab) (c:Cr) (p q:List UInt8) (o:List Int) (U:Tab):Int×Tab:=
 if (withN ((cutF U (rD T c p false) (rS T c p false)).get (rD T c q false)).1 (rS T c q false) (rN T c p false)).2=0 then
  ((putT (cutF U (rD T c p false) (rS T c p false)) (rD T c q false) (withN ((cutF U (rD T c p false) (rS T c p false)).get (rD T c q false)).1 (rS T c q false) (rN T c p false)).1).1,
   (freeF (putT (cutF U (rD T c p false) (rS T c p false)) (rD T c q false) (withN ((cutF U (rD T c p false) (rS T c p false)).get (rD T c q false)).1 (rS T c q false) (rN T c p false)).1).2 (rN T c q false) o).2)
 else ((withN ((cutF U (rD T c p false) (rS T c p false)).get (rD T c q false)).1 (rS T c q false) (rN T c p false)).2,(freeF (cutF U (rD T c p false) (rS T c p false)) (rN T c q false) o).2)
def renameF (T:Tab) (c:Cr) (p q:List UInt8) (o:List Int):Int×Tab:=
 if findE T c p≠0 then (findE T c p,T)
 else if rE T c q false≠0 then (rE T c q false,T)
 else if rS T c q false=[] then (22,T)
 else if canT c T (rD T c q false) 3=false then (13,T)
 else if rN T c q false=rN T c p false then (0,T)
 else if (T.get (rN T c p false)).1.kind=2∧belowL T (rN T c p false) 24 (rD T c q false)=true then (22,T)
 else if rN T c q false=0∧rD T c q false≠rD T c p false∧(8:Int)≤(T.get (rD T c q false)).1.ents.length then (28,T)
 else if rN T c q false≠0 then
  (
   if overF c (T.get (rN T c p false)).1 (T.get (rD T c q false)).1 (T.get (rN T c q false)).1≠0 then (overF c (T.get (rN T c p false)).1 (T.get (rD T c q false)).1 (T.get (rN T c q false)).1,T)
   else renL T c p q o (cutF T (rD T c q false) (rS T c q false)))
 else renL T c p q o T
def hasF (f b:Int):Bool:=!decide (bits .and .i64 f b=0)
def flagsF (f:Int):Bool:=decide (0≤f)&&decide (f≤63)&&hasF f 3&&(!hasF f 16||hasF f 2)&&(!hasF f 8||hasF f 4)
def dataN (c:Cr) (n:Nd) (b:List UInt8):Nd:=⟨n.kind,writtenF c n.kind n.mode,n.uid,n.gid,b,n.ents,n.target⟩
def openF (T:Tab) (c:Cr) (um:Int) (p:List UInt8) (f m:Int):(Int×Int)×Tab:=
 if flagsF f=false then ((0,22),T)
 else if rE T c p (!hasF f 40)≠0 then ((0,rE T c p (!hasF f 40)),T)
 else if (T.get (rN T c p (!hasF f 40))).2=false then (if hasF f 4=false then ((0,2),T) else createF T c um p m (!hasF f 40))
 else if hasF f 8=true then ((0,17),T)
 else if (T.get (rN T c p (!hasF f 40))).1.kind=3 then ((0,40),T)
 else if (T.get (rN T c p (!hasF f 40))).1.kind=2 then ((0,21),T)
 else if canT c T (rN T c p (!hasF f 40)) (bits .or .i64 (if hasF f 1=true then 4 else 0) (if hasF f 2=true then 2 else 0))=false then ((0,13),T)
 else if hasF f 16=true then ((rN T c p (!hasF f 40),0),(putT T (rN T c p (!hasF f 40)) (dataN c (T.get (rN T c p (!hasF f 40))).1 [])).2)
 else ((rN T c p (!hasF f 40),0),T)
def readF (T:Tab) (i off n:Int):List UInt8×Int:=
 if (T.get i).1.kind≠1 then ([],9) else if off<0∨n<0 then ([],22) else (((T.get i).1.data.drop off.toNat).take n.toNat,0)
def overB (l:List UInt8) (off:Nat) (b:List UInt8):List UInt8:=putAt (putAt (List.replicate (max l.length (off+b.length)) 0) 0 l) off b
def writeAtF (T:Tab) (c:Cr) (i off:Int) (b:List UInt8):Int×Tab:=
 if (T.get i).1.kind≠1 then (9,T) else if off<0 then (22,T) else if b=[] then (0,T) else if 48 - (b.length:Int)<off then (27,T)
 else (0,(putT T i (dataN c (T.get i).1 (overB (T.get i).1.data off.toNat b))).2)
end Go.Proofs.YtmgnbgniikjhdaaGreat
namespace Go.Proofs.YtmgnbgniikjhdaaGreat
open Go.Ab
set_option maxRecDepth 8000
set_option maxHeartbeats 400000
abbrev Done (P:Program) (tf:FuncId) (cs:List AV) (h0:List Blk) (b:Nat) (g:Nd→Nd×Int):Prop:=
 ∀(n:Nd) (h:List Blk) (live:List Nat),NdOk n→h0.length≤b→(∀i,i<h0.length→h[i]? = h0[i]?)→h[b]? = some (.cells (ndC n))→ACalls P tf (.ptr b 0::cs) h live (ret (.int .i64 (g n).2) (h.set b (.cells (ndC (g n).1))) live)
theorem cl_ndB (m:Nat) (n:Nd):Blk.cl m (.cells (ndC n)):=clL_ndC m n
theorem hcl_nd {h:List Blk} (hH:HCl h) (b:Nat) (n:Nd):HCl (h.set b (.cells (ndC n))):=HCl.set hH b (cl_ndB _ _)
theorem ndC_s1 (n:Nd) (m:Int):(ndC n).set 1 (.int .i64 m)=ndC (modeN n m):=rfl
theorem ndC_s2 (n:Nd) (u:Int):(ndC n).set 2 (.int .i64 u)=ndC ⟨n.kind,n.mode,u,n.gid,n.data,n.ents,n.target⟩:=rfl
theorem ndC_s3 (n:Nd) (u:Int):(ndC n).set 3 (.int .i64 u)=ndC ⟨n.kind,n.mode,n.uid,u,n.data,n.ents,n.target⟩:=rfl
theorem chmodG_ok (c:Cr) (m:Int) (n:Nd) (hn:NdOk n):NdOk (chmodG c m n).1:=by
 unfold chmodG
 cases mayMode c n.uid
 · exact hn
 · exact hn
theorem chownG_ok (c:Cr) (u g:Int) (n:Nd) (hn:NdOk n):NdOk (chownG c u g n).1:=by
 unfold chownG
 cases mayOwn c n.uid n.gid u g
 · exact hn
 ·
  rw [cond_true];split
  · exact hn
  · exact hn
attribute [push_cast] ndC_s1 ndC_s2 ndC_s3
theorem c164 (c:Cr) (m:Int) (n:Nd) (b p1 p2:Nat) (h:List Blk) (live:List Nat) (hb:h[b]? = some (.cells (ndC n))) (h1:h[p1]? = some (.cells [AV.int .i64 c.uid,.int .i64 c.gid,.slice (c.gs.map iV) .none])) (h2:h[p2]? = some (.cells [.int .i64 m])) (hgs:c.gs.length≤17592186044416):ACalls Tryz.prog 164 [.ptr b 0,.ptr p1 0,.ptr p2 0] h live (ret (.int .i64 (chmodG c m n).2) (h.set b (.cells (ndC (chmodG c m n).1))) live):=by
 refine aq_ Tryz.func164 fun hH hX=>?_
 have hbl:=lt_of_get hb
 have hl1:=lt_of_get h1
 have hl2:=lt_of_get h2
 have sx:=(And.intro @hb (And.intro @h1 (And.intro @h2 sx0)))
 refine rg_ [0,1,2] ?_
 refine sk_ fun K1 hK1=>?_
 refine rsq_ [0,1,2,11] ⟨true,[],[],[],[],[],0⟩ (fun _=>⟨by kernel_rfl,by kernel_rfl⟩) ?_
 refine sg_ ?_
 refine cr_ (hc:=c165 c _ _ _) (k:=?_)
 refine sre_ ?_
 refine cx_ (fun hb1=>?_) (fun hb1=>?_)
 ·
  refine rg_ [4] ?_
  refine ret_ ?_
  refine gq_ (h1:=h.set b _) Tryz.results164 ?_ (hh:=(⟨[],by rw [List.append_nil];exact (set_self hb).symm⟩)) (hH:=(hcl_nd hH _ _))
  exact ⟨by unfold chmodG;rw [hb1];rfl,by unfold chmodG;rw [hb1];rfl,rfl⟩
 refine skp_ ?_
 refine hK1 _ ?_
 refine rsq_ [] ⟨true,[],[],[],[],[],0⟩ (fun _=>⟨by kernel_rfl,by kernel_rfl⟩) ?_
 refine sg_ ?_
 refine cr_ (hc:=c166 c _ _ _ _ _ hgs) (k:=?_)
 refine sre_ ?_
 refine rg_ [4] ?_
 refine ret_ ?_
 refine gq_ (h1:=h.set b _) Tryz.results164 ?_ (hH:=(hcl_nd hH _ _))
 exact ⟨by unfold chmodG;rw [hb1];rfl,by unfold chmodG;rw [hb1];rfl,rfl⟩
theorem c163 (T:Tab) (k:Nat) (c:Cr) (p:List UInt8) (fl:Bool) (tf:FuncId) (cs:List AV) (g:Nd→Nd×Int) (h:List Blk) (live:List Nat) (hk:h[k]? = some (tabBlk T)) (hT:T.Ok) (hgs:c.gs.length≤17592186044416) (hR:T.Rt) (hp:p.length≤9223372036854775807) (hcs:AV.clL h.length cs) (hg:∀n,NdOk n→NdOk (g n).1) (ht:∀b,Done Tryz.prog tf cs h b g):ACalls Tryz.prog 163 [.ptr k 0,.agg [.int .i64 c.uid,.int .i64 c.gid,.slice (c.gs.map iV) .none],.str p,.bool fl,.fn (.func tf) [] cs] h live (ret (.int .i64 (chgF T c p fl g).1) (h.set k (tabBlk (chgF T c p fl g).2)) live):=by
 refine aq_ Tryz.func163 fun hH hX=>?_
 have hkl:=lt_of_get hk
 have hs1:∀(y:Blk) (g:List Blk),(h++g).set k y=h.set k y++g:=fun y g=>setApp hk
 have hse:h.set k (tabBlk T)=h:=set_self hk
 have hcl:∀x,HCl (h.set k (tabBlk x)):=fun x=>hcl_tab hH _ _
 have sx:=(And.intro @hs1 (And.intro @hk sx0))
 refine rg_ [0,2,3,4,6] ?_
 refine rs_ [0,4,11,12] ?_
 refine sg_ ?_
 refine cl_ (hc:=c90 T k c p fl _ _ (atApp hk) hT hgs hR hp) (k:=?_)
 refine sre_ ?_
 refine sk_ fun K1 hK1=>?_
 refine rg_ [0,4,11,12,25] ?_
 refine cx_ (fun hb1=>?_) (fun hb1=>?_)
 ·
  refine rg_ [10] ?_
  refine ret_ ?_
  refine gq_ (h1:=h.set k (tabBlk T)) Tryz.results163 ?_ (hh:=(by rw [hse];exact ⟨_,rfl⟩)) (hH:=(hcl _))
  exact ⟨by unfold chgF;rw [if_pos hb1],by unfold chgF;rw [if_pos hb1],rfl⟩
 refine skp_ ?_
 refine hK1 _ ?_
 refine rs_ [0,4,11,13,14] ?_
 refine sg_ ?_
 refine cl_ (hc:=c23 T k _ _ _ (atApp hk) hT) (k:=?_)
 refine sre_ ?_
 refine sk_ fun K2 hK2=>?_
 refine rg_ [0,4,11,13,35] ?_
 refine cx_ (fun hb2=>?_) (fun hb2=>?_)
 ·
  refine rg_ [10] ?_
  refine ret_ ?_
  refine gq_ (h1:=h.set k (tabBlk T)) Tryz.results163 ?_ (hh:=(by rw [hse];exact ⟨_,rfl⟩)) (hH:=(hcl _))
  exact ⟨by unfold chgF;rw [if_neg (fun h=>h hb1),if_pos hb2],by unfold chgF;rw [if_neg (fun h=>h hb1),if_pos hb2],rfl⟩
 refine skp_ ?_
 refine hK2 _ ?_
 refine sk_ fun K3 hK3=>?_
 refine rs_ [0,11,13,15] ?_
 refine sg_ ?_
 refine cl_ (hc:=ht _ (T.get (resF T c p fl).1.2.2).1 _ _ (get_ok hT _) (by omega) (fun i hi=>List.getElem?_append_left hi) (by simp only [push_cast])) (k:=?_)
 refine sre_ ?_
 refine rg_ [0,11,13,15,39] ?_
 refine cx_ (fun hb3=>?_) (fun hb3=>?_)
 ·
  refine rg_ [10] ?_
  refine ret_ ?_
  refine gq_ (h1:=h.set k (tabBlk T)) Tryz.results163 ?_ (hh:=(by rw [hse];exact ⟨_,rfl⟩)) (hH:=(hcl _))
  exact ⟨by unfold chgF;rw [if_neg (fun h=>h hb1),if_neg (by rw [hb2];decide),if_pos hb3],by unfold chgF;rw [if_neg (fun h=>h hb1),if_neg (by rw [hb2];decide),if_pos hb3],rfl⟩
 refine skp_ ?_
 refine hK3 _ ?_
 refine rs_ [10] ?_
 refine sg_ ?_
 refine cl_ (hc:=c135 T k _ _ _ _ (atApp hk) hT (hg _ (get_ok hT _))) (k:=?_)
 refine srt_ ?_
 refine gq_ (h1:=h.set k _) Tryz.results163 ?_ (hh:=(⟨_,rfl⟩)) (hH:=(hcl _))
 exact ⟨by unfold chgF;rw [if_neg (fun h=>h hb1),if_neg (by rw [hb2];decide),if_neg (fun h=>h hb3)],by unfold chgF;rw [if_neg (fun h=>h hb1),if_neg (by rw [hb2];decide),if_neg (fun h=>h hb3)],rfl⟩
theorem c112 (T:Tab) (k:Nat) (c:Cr) (p:List UInt8) (m:Int) (h:List Blk) (live:List Nat) (hk:h[k]? = some (tabBlk T)) (hT:T.Ok) (hgs:c.gs.length≤17592186044416) (hR:T.Rt) (hp:p.length≤9223372036854775807):ACalls Tryz.prog 112 [.ptr k 0,.agg [.int .i64 c.uid,.int .i64 c.gid,.slice (c.gs.map iV) .none],.str p,.int .i64 m] h live (ret (.int .i64 (chmodF T c p m).1) (h.set k (tabBlk (chmodF T c p m).2)) live):=by
 refine aq_ Tryz.func112 fun hH hX=>?_
 have hkl:=lt_of_get hk
 have hse:h.set k (tabBlk T)=h:=set_self hk
 have hcl:∀x,HCl (h.set k (tabBlk x)):=fun x=>hcl_tab hH _ _
 have hs1:∀(y:Blk) (g:List Blk),(h++g).set k y=h.set k y++g:=fun y g=>setApp hk
 have sx:=(And.intro @hs1 sx0)
 refine rg_ [0,2,5,7] ?_
 refine sk_ fun K1 hK1=>?_
 refine rg_ [0,2,5,7,14] ?_
 refine cx_ (fun hb1=>?_) (fun hb1=>?_)
 ·
  refine rg_ [8] ?_
  refine ret_ ?_
  refine gq_ (h1:=h.set k (tabBlk T)) Tryz.results112 ?_ (hh:=(by rw [hse];exact ⟨_,rfl⟩)) (hH:=(hcl _))
  exact ⟨by unfold chmodF;rw [if_pos hb1],by unfold chmodF;rw [if_pos hb1],rfl⟩
 refine skp_ ?_
 refine hK1 _ ?_
 refine rs_ [8] ?_
 refine sg_ ?_
 refine cl_ (hc:=c163 T k c p true _ _ (chmodG c m) _ _ (atApp hk) hT hgs hR hp (by simp [AV.clL,AV.cl]) (chmodG_ok c m) (fun b n h' live hn hb ho hbn=>c164 c m n b _ _ h' live hbn (by rw [ho _ (by simp)];simp only [push_cast]) (by rw [ho _ (by simp)];simp only [push_cast]) hgs)) (k:=?_)
 refine srt_ ?_
 refine gq_ (h1:=h.set k _) Tryz.results112 ?_ (hh:=(⟨_,rfl⟩)) (hH:=(hcl _))
 exact ⟨by unfold chmodF;rw [if_neg (by omega)],by unfold chmodF;rw [if_neg (by omega)],rfl⟩
theorem c177 (c:Cr) (u g:Int) (n:Nd) (b p1 p2 p3:Nat) (h:List Blk) (live:List Nat) (hb:h[b]? = some (.cells (ndC n))) (h1:h[p1]? = some (.cells [AV.int .i64 c.uid,.int .i64 c.gid,.slice (c.gs.map iV) .none])) (h2:h[p2]? = some (.cells [.int .i64 u])) (h3:h[p3]? = some (.cells [.int .i64 g])) (hn1:p1≠b) (hn2:p2≠b) (hn3:p3≠b) (hgs:c.gs.length≤17592186044416):ACalls Tryz.prog 177 [.ptr b 0,.ptr p1 0,.ptr p2 0,.ptr p3 0] h live (ret (.int .i64 (chownG c u g n).2) (h.set b (.cells (ndC (chownG c u g n).1))) live):=by
 refine aq_ Tryz.func177 fun hH hX=>?_
 have hbl:=lt_of_get hb
 have hl1:=lt_of_get h1
 have hl2:=lt_of_get h2
 have hl3:=lt_of_get h3
 have hq1:∀x:Blk,(h.set b x)[p1]? = some (.cells [AV.int .i64 c.uid,.int .i64 c.gid,.slice (c.gs.map iV) .none]):=fun x=>getSet h1 hn1
 have hq2:∀x:Blk,(h.set b x)[p2]? = some (.cells [.int .i64 u]):=fun x=>getSet h2 hn2
 have hq3:∀x:Blk,(h.set b x)[p3]? = some (.cells [.int .i64 g]):=fun x=>getSet h3 hn3
 have hqb:∀x:Blk,(h.set b x)[b]? = some x:=fun x=>get_setk hbl
 have hqq:∀x y:Blk,(h.set b x).set b y=h.set b y:=fun x y=>by rw [List.set_set]
 have sx:=(And.intro @hb (And.intro @h1 (And.intro @h2 (And.intro @h3 (And.intro @hq1 (And.intro @hq2 (And.intro @hq3 (And.intro @hqb (And.intro @hqq sx0)))))))))
 refine rg_ [0,1,2,3] ?_
 refine sk_ fun K1 hK1=>?_
 refine rsq_ [0,1,2,3,18] ⟨true,[],[],[],[],[],0⟩ (fun _=>⟨by kernel_rfl,by kernel_rfl⟩) ?_
 refine sg_ ?_
 refine cr_ (hc:=c178 c _ _ _ _ _ _ hgs) (k:=?_)
 refine sre_ ?_
 refine cx_ (fun hb1=>?_) (fun hb1=>?_)
 ·
  refine rg_ [5] ?_
  refine ret_ ?_
  refine gq_ (h1:=h.set b _) Tryz.results177 ?_ (hh:=(⟨[],by rw [List.append_nil];exact (set_self hb).symm⟩)) (hH:=(hcl_nd hH _ _))
  exact ⟨by unfold chownG;rw [hb1];rfl,by unfold chownG;rw [hb1];rfl,rfl⟩
 refine skp_ ?_
 refine hK1 _ ?_
 refine sk_ fun K2 hK2=>?_
 refine rg_ [0,1,2,3,24] ?_
 refine cx_ (fun hb2=>?_) (fun hb2=>?_)
 ·
  refine rg_ [5] ?_
  refine ret_ ?_
  refine gq_ (h1:=h.set b _) Tryz.results177 ?_ (hh:=(⟨[],by rw [List.append_nil];exact (set_self hb).symm⟩)) (hH:=(hcl_nd hH _ _))
  exact ⟨by unfold chownG;rw [hb1,cond_true,if_pos hb2],by unfold chownG;rw [hb1,cond_true,if_pos hb2],rfl⟩
 refine skp_ ?_
 refine hK2 _ ?_
 refine sk_ fun K3 hK3=>?_
 refine rg_ [0,1,2,3,26] ?_
 refine cx_ (fun hb3=>?_) (fun hb3=>?_)
 ·
  refine rt_ [0,1,3] ?_
  refine srn_ ?_
  refine hK3 _ ?_
  refine sk_ fun K4 hK4=>?_
  refine rg_ [0,1,3,32] ?_
  refine cx_ (fun hb4=>?_) (fun hb4=>?_)
  ·
   refine rt_ [0,1] ?_
   refine srn_ ?_
   refine hK4 _ ?_
   refine rsq_ [] ⟨true,[],[],[],[],[],0⟩ (fun _=>⟨by kernel_rfl,by kernel_rfl⟩) ?_
   refine sg_ ?_
   refine cr_ (hc:=c179 c _ _ _ _) (k:=?_)
   refine sre_ ?_
   refine rg_ [5] ?_
   refine ret_ ?_
   refine gq_ (h1:=h.set b _) Tryz.results177 ?_ (hh:=(⟨[],by rw [List.append_nil]⟩)) (hH:=(hcl_nd hH _ _))
   exact ⟨by unfold chownG;rw [hb1,cond_true,if_neg (by omega)],by unfold chownG;rw [hb1,cond_true,if_neg (by omega),if_pos hb3,if_pos hb4]<;>rfl,rfl⟩
  refine skp_ ?_
  refine hK4 _ ?_
  refine rsq_ [] ⟨true,[],[],[],[],[],0⟩ (fun _=>⟨by kernel_rfl,by kernel_rfl⟩) ?_
  refine sg_ ?_
  refine cr_ (hc:=c179 c _ _ _ _) (k:=?_)
  refine sre_ ?_
  refine rg_ [5] ?_
  refine ret_ ?_
  refine gq_ (h1:=h.set b _) Tryz.results177 ?_ (hh:=(⟨[],by rw [List.append_nil]⟩)) (hH:=(hcl_nd hH _ _))
  exact ⟨by unfold chownG;rw [hb1,cond_true,if_neg (by omega)],by unfold chownG;rw [hb1,cond_true,if_neg (by omega),if_pos hb3,if_neg (by omega)]<;>rfl,rfl⟩
 refine skp_ ?_
 refine hK3 _ ?_
 refine sk_ fun K5 hK5=>?_
 refine rg_ [0,1,3,32] ?_
 refine cx_ (fun hb4=>?_) (fun hb4=>?_)
 ·
  refine rt_ [0,1] ?_
  refine srn_ ?_
  refine hK5 _ ?_
  refine rsq_ [] ⟨true,[],[],[],[],[],0⟩ (fun _=>⟨by kernel_rfl,by kernel_rfl⟩) ?_
  refine sg_ ?_
  refine cr_ (hc:=c179 c _ _ _ _) (k:=?_)
  refine sre_ ?_
  refine rg_ [5] ?_
  refine ret_ ?_
  refine gq_ (h1:=h.set b _) Tryz.results177 ?_ (hh:=(⟨[],by rw [List.append_nil]⟩)) (hH:=(hcl_nd hH _ _))
  exact ⟨by unfold chownG;rw [hb1,cond_true,if_neg (by omega)],by unfold chownG;rw [hb1,cond_true,if_neg (by omega),if_neg (by omega),if_pos hb4]<;>rfl,rfl⟩
 refine skp_ ?_
 refine hK5 _ ?_
 refine rsq_ [] ⟨true,[],[],[],[],[],0⟩ (fun _=>⟨by kernel_rfl,by kernel_rfl⟩) ?_
 refine sg_ ?_
 refine cr_ (hc:=c179 c _ _ _ _) (k:=?_)
 refine sre_ ?_
 refine rg_ [5] ?_
 refine ret_ ?_
 refine gq_ (h1:=h.set b _) Tryz.results177 ?_ (hh:=(⟨[],by rw [List.append_nil]⟩)) (hH:=(hcl_nd hH _ _))
 exact ⟨by unfold chownG;rw [hb1,cond_true,if_neg (by omega)],by unfold chownG;rw [hb1,cond_true,if_neg (by omega),if_neg (by omega),if_neg (by omega)]<;>rfl,rfl⟩
theorem c118 (T:Tab) (k:Nat) (c:Cr) (p:List UInt8) (u g:Int) (fl:Bool) (h:List Blk) (live:List Nat) (hk:h[k]? = some (tabBlk T)) (hT:T.Ok) (hgs:c.gs.length≤17592186044416) (hR:T.Rt) (hp:p.length≤9223372036854775807):ACalls Tryz.prog 118 [.ptr k 0,.agg [.int .i64 c.uid,.int .i64 c.gid,.slice (c.gs.map iV) .none],.str p,.int .i64 u,.int .i64 g,.bool fl] h live (ret (.int .i64 (chownF T c p u g fl).1) (h.set k (tabBlk (chownF T c p u g fl).2)) live):=by
 refine aq_ Tryz.func118 fun hH hX=>?_
 have hkl:=lt_of_get hk
 have hse:h.set k (tabBlk T)=h:=set_self hk
 have hcl:∀x,HCl (h.set k (tabBlk x)):=fun x=>hcl_tab hH _ _
 have hs1:∀(y:Blk) (g:List Blk),(h++g).set k y=h.set k y++g:=fun y g=>setApp hk
 have sx:=(And.intro @hs1 sx0)
 refine rg_ [0,2,5,7,9,10] ?_
 refine sk_ fun K1 hK1=>?_
 refine rg_ [0,2,5,7,9,10,18] ?_
 refine cx_ (fun hb1=>?_) (fun hb1=>?_)
 ·
  refine rg_ [12] ?_
  refine ret_ ?_
  refine gq_ (h1:=h.set k (tabBlk T)) Tryz.results118 ?_ (hh:=(by rw [hse];exact ⟨_,rfl⟩)) (hH:=(hcl _))
  exact ⟨by unfold chownF;rw [if_pos hb1],by unfold chownF;rw [if_pos hb1],rfl⟩
 refine skp_ ?_
 refine hK1 _ ?_
 refine rs_ [12] ?_
 refine sg_ ?_
 refine cl_ (hc:=c163 T k c p fl _ _ (chownG c u g) _ _ (atApp hk) hT hgs hR hp (by simp [AV.clL,AV.cl]) (chownG_ok c u g) (fun b n h' live hn hb ho hbn=>c177 c u g n b _ _ _ h' live hbn (by rw [ho _ (by simp)];simp only [push_cast]) (by rw [ho _ (by simp)];simp only [push_cast]) (by rw [ho _ (by simp)];simp only [push_cast]) (by simp at hb;omega) (by simp at hb;omega) (by simp at hb;omega) hgs)) (k:=?_)
 refine srt_ ?_
 refine gq_ (h1:=h.set k _) Tryz.results118 ?_ (hh:=(⟨_,rfl⟩)) (hH:=(hcl _))
 exact ⟨by unfold chownF;rw [if_neg (by omega)],by unfold chownF;rw [if_neg (by omega)],rfl⟩
end Go.Proofs.YtmgnbgniikjhdaaGreat
