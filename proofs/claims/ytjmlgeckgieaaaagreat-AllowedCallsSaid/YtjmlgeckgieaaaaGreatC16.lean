import Derived.Test.YtjmlgeckgieaaaaGreatC15
import Derived.Test.YtjmlgeckgieaaaaGreatA15
/-
  ALLOWED: what a call makes of a tree is allowed.
-/
set_option linter.unusedVariables false
set_option linter.unusedSimpArgs false
namespace Go.Proofs.YtjmlgeckgieaaaaGreat
open Go.Ab
set_option maxRecDepth 8000
set_option maxHeartbeats 400000
def bitN (n k:Nat):Bool:=decide (n / 2^k%2=1)
def withoutF (n k:Nat) (w:Int):Int:=if bitN n k=true then (n:Int) - w else n
theorem an1024_fin:∀a:Fin 4096,bits .andNot .i64 (a.val:Int) 1024=withoutF a.val 10 1024:=by decide +kernel
theorem an2048_fin:∀a:Fin 4096,bits .andNot .i64 (a.val:Int) 2048=withoutF a.val 11 2048:=by decide +kernel
theorem an1024 {a:Nat} (h:a<4096):bits .andNot .i64 (a:Int) 1024=withoutF a 10 1024:=an1024_fin ⟨a,h⟩
theorem an2048 {a:Nat} (h:a<4096):bits .andNot .i64 (a:Int) 2048=withoutF a 11 2048:=an2048_fin ⟨a,h⟩
theorem without_bd {a k:Nat} {w:Int} (h:a<4096) (hw:w=(2^k:Nat)):∃b:Nat,b<4096∧withoutF a k w=b:=by
 subst hw
 unfold withoutF bitN
 split
 ·
  rename_i hb
  have hb:=of_decide_eq_true hb
  have h2:2^k≤a:=by
   apply Classical.byContradiction
   intro hc
   rw [Nat.div_eq_of_lt (Nat.lt_of_not_le hc)] at hb
   cases hb
  exact ⟨a - 2^k,Nat.lt_of_le_of_lt (Nat.sub_le _ _) h,(Int.ofNat_sub h2).symm⟩
 · exact ⟨a,h,rfl⟩
theorem and4095 (n:Int):bits .and .i64 n 4095=n%4096:=by
 have h7:(BitVec.ofInt 64 4095).toNat=2^12 - 1:=by decide
 have key:(BitVec.ofInt 64 n &&& BitVec.ofInt 64 4095).toNat=(n%((2^64:Nat):Int)).toNat%2^12:=by
  rw [BitVec.toNat_and,BitVec.toNat_ofInt,h7,Nat.and_two_pow_sub_one_eq_mod]
 show IntKind.i64.wrap ((BitVec.ofInt 64 n &&& BitVec.ofInt 64 4095).toNat:Nat)=n%4096
 rw [key,IntKind.wrap_i64]
 omega
theorem low_nat (m:Int):∃a:Nat,a<4096∧m%4096=a:=by
 obtain ⟨a,ha⟩:=Int.eq_ofNat_of_zero_le (Int.emod_nonneg m (show (4096:Int)≠0 by decide))
 exact ⟨a,by omega,ha⟩
theorem an_idem:∀a:Fin 4096,bits .andNot .i64 (bits .andNot .i64 (a.val:Int) 1024) 1024=bits .andNot .i64 (a.val:Int) 1024:=by decide +kernel
theorem mode_idem (c:Cr) (k g m:Int):modeF c k g (modeF c k g m)=modeF c k g m:=by
 obtain ⟨a,ha4,ha⟩:=low_nat m
 unfold modeF
 cases (decide (c.uid=0)||!decide (k=1)||memF c g) with
 | true=>simp only [cond_true];rw [and4095,and4095,ha];omega
 | false=>
  simp only [cond_false]
  obtain ⟨b,hb4,hb⟩:=without_bd (k:=10) (w:=1024) ha4 rfl
  have e:=an_idem ⟨a,ha4⟩
  dsimp only at e
  rw [and4095 m,ha,an1024 ha4,hb] at *
  rw [and4095,show ((b:Int))%4096=b by omega]
  exact e
theorem has_fin:∀b:Fin 8,(hasB (b.val:Int) 2=true→hasB (b.val:Int) 1=true→hasB (b.val:Int) 3=true)∧(hasB (b.val:Int) 6=true→hasB (b.val:Int) 2=true):=by decide +kernel
theorem can_and {T:Tab} {c:Cr} {i:Int} (h2:canT c T i 2=true) (h1:canT c T i 1=true):canT c T i 3=true:=by
 unfold canT canF at *
 rw [Bool.and_eq_true] at *
 refine ⟨h1.1,?_⟩
 rw [Bool.or_eq_true] at *
 rcases h1.2 with k | k
 · exact .inl k
 rcases h2.2 with k2 | k2
 · exact .inl k2
 right
 have hb:=clsI_bd (T.get i).1.mode (classF c (T.get i).1.uid (T.get i).1.gid)
 obtain ⟨b,hb2⟩:=Int.eq_ofNat_of_zero_le hb.1
 have hk:=k2;have hk1:=k
 rw [hb2] at hk hk1 ⊢
 exact (has_fin ⟨b,by omega⟩).1 hk hk1
theorem can_six {T:Tab} {c:Cr} {i:Int} (h:canT c T i 6=true):canT c T i 2=true:=by
 unfold canT canF at *
 rw [Bool.and_eq_true] at *
 refine ⟨h.1,?_⟩
 rw [Bool.or_eq_true] at *
 rcases h.2 with k | k
 · exact .inl k
 right
 have hb:=clsI_bd (T.get i).1.mode (classF c (T.get i).1.uid (T.get i).1.gid)
 obtain ⟨b,hb2⟩:=Int.eq_ofNat_of_zero_le hb.1
 have hk:=k
 rw [hb2] at hk ⊢
 exact (has_fin ⟨b,by omega⟩).2 hk
theorem bits_and (a b:Int):bits .and .i64 a b=IntKind.i64.wrap ((BitVec.ofInt 64 a &&& BitVec.ofInt 64 b).toNat:Nat):=rfl
theorem bits_an (a b:Int):bits .andNot .i64 a b=IntKind.i64.wrap ((BitVec.ofInt 64 a &&& ~~~ BitVec.ofInt 64 b).toNat:Nat):=rfl
theorem an_le {a:Nat} (h:a<4096) (u:Int):∃r:Nat,r≤a∧bits .andNot .i64 (a:Int) u=r:=by
 refine ⟨(BitVec.ofInt 64 (a:Int) &&& ~~~ BitVec.ofInt 64 u).toNat,?_,?_⟩
 ·
  rw [BitVec.toNat_and]
  refine Nat.le_trans Nat.and_le_left ?_
  rw [BitVec.ofInt_natCast,BitVec.toNat_ofNat];exact Nat.mod_le _ _
 ·
  rw [bits_an]
  have:(BitVec.ofInt 64 (a:Int) &&& ~~~ BitVec.ofInt 64 u).toNat≤a:=by
   rw [BitVec.toNat_and]
   refine Nat.le_trans Nat.and_le_left ?_
   rw [BitVec.ofInt_natCast,BitVec.toNat_ofNat];exact Nat.mod_le _ _
  exact IntWalk.i64_in _ (by omega)
theorem and_mask {k:Nat} (hk:k≤12) (n:Int) {w:Int} (hw:w=((2^k - 1:Nat):Int)):bits .and .i64 n w=n%((2^k:Nat):Int):=by
 have hp:2^k≤4096:=by
  have:2^k≤2^12:=Nat.pow_le_pow_right (by decide) hk
  simpa using this
 have hp1:1≤2^k:=Nat.one_le_two_pow
 have h7:(BitVec.ofInt 64 w).toNat=2^k - 1:=by
  rw [hw,BitVec.ofInt_natCast,BitVec.toNat_ofNat,Nat.mod_eq_of_lt (by omega)]
 have key:(BitVec.ofInt 64 n &&& BitVec.ofInt 64 w).toNat=(n%((2^64:Nat):Int)).toNat%2^k:=by
  rw [BitVec.toNat_and,BitVec.toNat_ofInt,h7,Nat.and_two_pow_sub_one_eq_mod]
 rw [bits_and,key]
 have hlt:(n%((2^64:Nat):Int)).toNat%2^k<2^k:=Nat.mod_lt _ (by omega)
 rw [IntWalk.i64_in _ (by omega)]
 have hnn:0≤n%((2^64:Nat):Int):=Int.emod_nonneg _ (by decide)
 rw [Int.natCast_emod,Int.toNat_of_nonneg hnn]
 refine Int.emod_emod_of_dvd n ?_
 exact Int.natCast_dvd_natCast.2 (Nat.pow_dvd_pow 2 (by omega))
theorem and_1024 (m:Int):bits .and .i64 m 1024=0∨bits .and .i64 m 1024=1024:=by
 rw [bits_and,show BitVec.ofInt 64 1024=BitVec.twoPow 64 10 by decide,BitVec.and_twoPow]
 split
 · right;decide
 · left;decide
theorem low_fin:∀r:Fin 1024,bits .and .i64 (r.val:Int) 3072=0∧bits .and .i64 (bits .or .i64 (r.val:Int) 0) 3072=0∧bits .and .i64 (bits .or .i64 (r.val:Int) 1024) 3072=1024:=by decide +kernel
theorem orL_1 (x:Int) (h:0≤x∧x≤4095):∃y,orL [x]=y∧y=bits .or .i64 0 x:=⟨_,rfl,rfl⟩
theorem or_511:orL [511]=511:=by decide +kernel
theorem or_1023:orL [511,512]=1023:=by decide +kernel
theorem or_1024:orL [1024]=1024:=by decide +kernel
theorem file_bits (m um:Int):bits .and .i64 (bits .andNot .i64 (bitsP m [511]) um) 3072=0:=by
 unfold bitsP
 rw [or_511,and_mask (k:=9) (by decide) m (w:=511) rfl]
 obtain ⟨a,ha⟩:=Int.eq_ofNat_of_zero_le (Int.emod_nonneg m (show ((2^9:Nat):Int)≠0 by decide))
 have hl:=Int.emod_lt_of_pos m (show (0:Int)<((2^9:Nat):Int) by decide)
 rw [ha] at hl ⊢
 have e9:((2^9:Nat):Int)=512:=by decide
 rw [e9] at hl
 obtain ⟨r,hr,hre⟩:=an_le (show a<4096 by omega) um
 rw [hre]
 exact (low_fin ⟨r,by omega⟩).1
theorem dir_bits (m um dm:Int):bits .and .i64 (bits .or .i64 (bits .andNot .i64 (bitsP m [511,512]) (bitsP um [511])) (bitsP dm [1024])) 3072=bif !decide (bits .and .i64 dm 1024=0) then 1024 else 0:=by
 have hd:bitsP dm [1024]=bits .and .i64 dm 1024:=by unfold bitsP;rw [or_1024]
 rw [hd]
 generalize bitsP um [511]=u
 unfold bitsP
 rw [or_1023,and_mask (k:=10) (by decide) m (w:=1023) rfl]
 obtain ⟨a,ha⟩:=Int.eq_ofNat_of_zero_le (Int.emod_nonneg m (show ((2^10:Nat):Int)≠0 by decide))
 have hl:=Int.emod_lt_of_pos m (show (0:Int)<((2^10:Nat):Int) by decide)
 rw [ha] at hl ⊢
 have e9:((2^10:Nat):Int)=1024:=by decide
 rw [e9] at hl
 obtain ⟨r,hr,hre⟩:=an_le (show a<4096 by omega) u
 rw [hre]
 rcases and_1024 dm with h | h
 · rw [h];exact (low_fin ⟨r,by omega⟩).2.1
 · rw [h];exact (low_fin ⟨r,by omega⟩).2.2
section
variable {T:Tab} {c:Cr} {o:List Int}
theorem allow_0 {U:Tab} {ws:List Int} (h:chOf T U=chK 0):allowF T U c ws=true:=by
 unfold allowF;rw [if_pos (by rw [h];rfl)]
theorem allow_1 {U:Tab} {ws:List Int} {x:Ch} (h:chOf T U=x) (hk:x.kind=1) (ha:attrF T c x (T.get x.node).1 (U.get x.node).1 ws=true):allowF T U c ws=true:=by
 unfold allowF;rw [h,if_neg (by omega),if_pos hk];exact ha
theorem allow_2 {U:Tab} {ws:List Int} {x:Ch} (h:chOf T U=x) (hk:x.kind=2) (ha:writeF T c x (T.get x.node).1 (U.get x.node).1 ws=true):allowF T U c ws=true:=by
 unfold allowF;rw [h,if_neg (by omega),if_neg (by omega),if_pos hk];exact ha
theorem allow_3 {U:Tab} {ws:List Int} {x:Ch} (h:chOf T U=x) (hk:x.kind=3) (ha:mkF T c x (U.get x.node).1=true):allowF T U c ws=true:=by
 unfold allowF;rw [h,if_neg (by omega),if_neg (by omega),if_neg (by omega),if_pos hk];exact ha
theorem allow_4 {U:Tab} {ws:List Int} {x:Ch} (h:chOf T U=x) (hk:x.kind=4) (ha:takenF T c x=true):allowF T U c ws=true:=by
 unfold allowF;rw [h,if_neg (by omega),if_neg (by omega),if_neg (by omega),if_neg (by omega),if_pos hk];exact ha
theorem allow_5 {U:Tab} {ws:List Int} {x:Ch} (h:chOf T U=x) (hk:x.kind=5) (ha:mvF T c x=true):allowF T U c ws=true:=by
 unfold allowF;rw [h,if_neg (by omega),if_neg (by omega),if_neg (by omega),if_neg (by omega),if_neg (by omega),if_pos hk];exact ha
theorem allow_6 {U:Tab} {ws:List Int} {x:Ch} (h:chOf T U=x) (hk:x.kind=6) (ha:T.links x.node=0):allowF T U c ws=true:=by
 unfold allowF;rw [h,if_neg (by omega),if_neg (by omega),if_neg (by omega),if_neg (by omega),if_neg (by omega),if_neg (by omega),if_pos hk];exact decide_eq_true ha
theorem seen_rN (hT:Gd T) (hW:TreeW T o []) {p:List UInt8} {fl:Bool} (hz:rE T c p fl=0) (hi:(T.get (rN T c p fl)).2=true):seenF T c (rN T c p fl)=true:=((res_gw hT hW hz).1 hi).1
theorem chmod_al (hT:Gd T) (hW:TreeW T o []) (p:List UInt8) (m:Int) (ws:List Int):allowF T (chmodF T c p m).2 c ws=true:=by
 unfold chmodF
 split
 · exact allow_0 (chOf_same fun _=>rfl)
 rcases chg_ch hT (c:=c) (p:=p) (fl:=true) (chmodG_ok c m) (chmod_at c m) with h | ⟨hz,hi,hg,hget,h⟩
 · exact allow_0 h
 ·
  refine allow_1 h rfl ?_
  show attrF T c _ (T.get (rN T c p true)).1 ((chgF T c p true (chmodG c m)).2.get (rN T c p true)).1 ws=true
  rw [hget,if_pos rfl]
  have hm:mayMode c (T.get (rN T c p true)).1.uid=true:=by
   unfold chmodG at hg
   cases hm:mayMode c (T.get (rN T c p true)).1.uid with
   | true=>rfl
   | false=>rw [hm] at hg;cases hg
  have hb:(chmodG c m (T.get (rN T c p true)).1).1=modeN (T.get (rN T c p true)).1 (modeF c (T.get (rN T c p true)).1.kind (T.get (rN T c p true)).1.gid m):=by
   unfold chmodG;rw [hm];rfl
  rw [hb]
  unfold attrF
  show (bif decide (_=(T.get (rN T c p true)).1.uid)&&decide (_=(T.get (rN T c p true)).1.gid) then (seenF T c (rN T c p true)&&mayMode c _&&(decide (modeF c _ _ m=modeF c _ _ (modeF c _ _ m))||_))||_ else _)=true
  rw [decide_eq_true rfl,decide_eq_true rfl,seen_rN hT hW hz hi,hm,mode_idem,decide_eq_true rfl];rfl
theorem chown_al (hT:Gd T) (hW:TreeW T o []) (p:List UInt8) (u g:Int) (fl:Bool) (ws:List Int):allowF T (chownF T c p u g fl).2 c ws=true:=by
 unfold chownF
 split
 · exact allow_0 (chOf_same fun _=>rfl)
 rcases chg_ch hT (c:=c) (p:=p) (fl:=fl) (chownG_ok c u g) (chown_at c u g) with h | ⟨hz,hi,hg,hget,h⟩
 · exact allow_0 h
 ·
  refine allow_1 h rfl ?_
  show attrF T c _ (T.get (rN T c p fl)).1 ((chgF T c p fl (chownG c u g)).2.get (rN T c p fl)).1 ws=true
  rw [hget,if_pos rfl]
  have hs:=seen_rN hT hW hz hi
  have hm:mayOwn c (T.get (rN T c p fl)).1.uid (T.get (rN T c p fl)).1.gid u g=true:=by
   unfold chownG at hg
   cases hm:mayOwn c (T.get (rN T c p fl)).1.uid (T.get (rN T c p fl)).1.gid u g with
   | true=>rfl
   | false=>rw [hm] at hg;cases hg
  by_cases hn:u<0∧g<0
  ·
   exfalso
   have hb:(chownG c u g (T.get (rN T c p fl)).1).1=(T.get (rN T c p fl)).1:=by
    unfold chownG;rw [hm,cond_true,if_pos hn]
   have:chOf T (chgF T c p fl (chownG c u g)).2=chK 0:=chOf_same fun i=>by
    rw [hget];split
    · rename_i e;rw [e,hb]
    · rfl
   rw [this] at h
   exact absurd (congrArg Ch.kind h) (show ¬(0:Int)=1 by decide)
  have hb:(chownG c u g (T.get (rN T c p fl)).1).1=⟨(T.get (rN T c p fl)).1.kind,writtenF c (T.get (rN T c p fl)).1.kind (T.get (rN T c p fl)).1.mode,if 0≤u then u else (T.get (rN T c p fl)).1.uid,if 0≤g then g else (T.get (rN T c p fl)).1.gid,(T.get (rN T c p fl)).1.data,(T.get (rN T c p fl)).1.ents,(T.get (rN T c p fl)).1.target⟩:=by
   unfold chownG;rw [hm,cond_true,if_neg hn]
  rw [hb]
  generalize (T.get (rN T c p fl)).1=n at hm
  have hw:∀x y:Int,wornF c n ⟨n.kind,writtenF c n.kind n.mode,x,y,n.data,n.ents,n.target⟩=true:=fun x y=>by unfold wornF;exact decide_eq_true rfl
  unfold attrF
  show (bif decide (n.uid=(if 0≤u then u else n.uid))&&decide (n.gid=(if 0≤g then g else n.gid)) then (seenF T c (rN T c p fl)&&mayMode c n.uid&&(_||wornF c n _))||_ else seenF T c (rN T c p fl)&&mayOwn c n.uid n.gid (asF n.uid (if 0≤u then u else n.uid)) (asF n.gid (if 0≤g then g else n.gid))&&wornF c n _)=true
  rw [hs,hw]
  unfold mayOwn at hm
  simp only [Bool.or_eq_true,Bool.and_eq_true,decide_eq_true_eq] at hm
  have hmm:mayMode c n.uid=true:=by
   unfold mayMode
   rw [Bool.or_eq_true,decide_eq_true_eq,decide_eq_true_eq]
   exact hm.imp id fun k=>k.1.1
  have hmo:mayOwn c n.uid n.gid (asF n.uid (if 0≤u then u else n.uid)) (asF n.gid (if 0≤g then g else n.gid))=true:=by
   unfold mayOwn
   simp only [Bool.or_eq_true,Bool.and_eq_true,decide_eq_true_eq]
   rcases hm with k | ⟨⟨k1,k2⟩,k3⟩
   · exact .inl k
   ·
    have e1:asF n.uid (if 0≤u then u else n.uid)<0:=by
     have:(if 0≤u then u else n.uid)=n.uid:=by split<;>omega
     rw [this];unfold asF;rw [decide_eq_true rfl];exact (show (-1:Int)<0 by decide)
    refine .inr ⟨⟨k1,.inl e1⟩,?_⟩
    by_cases hg0:0≤g
    ·
     rw [if_pos hg0]
     unfold asF
     by_cases he:n.gid=g
     · rw [decide_eq_true he];exact .inl (.inl (show (-1:Int)<0 by decide))
     ·
      rw [decide_eq_false he,cond_false]
      rcases k3 with (k3 | k3) | k3
      · omega
      · exact absurd k3.symm he
      · exact .inr k3
    ·
     rw [if_neg hg0]
     unfold asF
     rw [decide_eq_true rfl];exact .inl (.inl (show (-1:Int)<0 by decide))
  rw [hmm,hmo]
  cases (decide (n.uid=(if 0≤u then u else n.uid))&&decide (n.gid=(if 0≤g then g else n.gid)))<;>simp
theorem write_al {i:Int} {b:List UInt8} (hT:Gd T) (hi:(T.get i).2=true) (hk:(T.get i).1.kind=1) (hb:b.length≤1000) {ws:List Int} (hw:i∈ws∨(seenF T c i=true∧canT c T i 2=true)):allowF T (putT T i (dataN c (T.get i).1 b)).2 c ws=true:=by
 have hwr:∀x:Ch,x.node=i→writeF T c x (T.get i).1 (dataN c (T.get i).1 b) ws=true:=fun x hx=>by
  unfold writeF
  have h1:wornF c (T.get i).1 (dataN c (T.get i).1 b)=true:=by unfold wornF;exact decide_eq_true rfl
  rw [h1,decide_eq_true hk,hx,Bool.and_true,Bool.and_true,Bool.or_eq_true]
  rcases hw with h | ⟨h,k⟩
  · exact .inl (List.any_eq_true.2 ⟨i,h,decide_eq_true rfl⟩)
  · right;rw [h,k];rfl
 rcases data_ch hT (c:=c) (b:=b) hi hk hb with h | ⟨hget,h | h⟩
 · exact allow_0 h
 ·
  refine allow_1 h rfl ?_
  show attrF T c _ (T.get i).1 ((putT T i (dataN c (T.get i).1 b)).2.get i).1 ws=true
  rw [hget,if_pos rfl]
  unfold attrF
  rw [hwr _ rfl]
  show (bif decide ((T.get i).1.uid=(T.get i).1.uid)&&decide ((T.get i).1.gid=(T.get i).1.gid) then _||true else _)=true
  rw [decide_eq_true rfl,decide_eq_true rfl,Bool.or_true];rfl
 ·
  refine allow_2 h rfl ?_
  show writeF T c _ (T.get i).1 ((putT T i (dataN c (T.get i).1 b)).2.get i).1 ws=true
  rw [hget,if_pos rfl]
  exact hwr _ rfl
theorem into_rD (hT:Gd T) (hW:TreeW T o []) {p:List UInt8} {fl:Bool} (hz:rE T c p fl=0) (hs:rS T c p fl≠[]) (h3:canT c T (rD T c p fl) 3=true):intoF T c (rD T c p fl)=true:=by
 unfold intoF
 rcases (res_gw hT hW hz).2 with h | ⟨h, _⟩
 · exact absurd h hs
 · rw [h,h3];rfl
theorem find_al (hT:Gd T) (hW:TreeW T o []) {p:List UInt8} (hz:findE T c p=0):intoF T c (rD T c p false)=true∧stickT T c (rD T c p false) (rN T c p false)=true:=by
 obtain ⟨h1,h2,h3,h4⟩:=findE_zero hz
 have hc:canT c T (rD T c p false) 1=true:=by
  rcases (res_gw hT hW h1).2 with h | ⟨_,h⟩
  · exact absurd h h3
  · exact h
 refine ⟨into_rD hT hW h1 h3 (can_and h4 hc),?_⟩
 unfold stickT
 unfold findE at hz
 rw [if_neg (fun k=>k h1),if_neg h2,if_neg h3,if_neg (by rw [h4];decide)] at hz
 split at hz
 · cases hz
 · rename_i h;simpa using h
theorem plant_al (hT:Gd T) (hW:TreeW T o []) {p:List UInt8} {fl:Bool} {g:Nd→Nd} (hg:∀n,NdOk n→NdOk (g n)) (he:∀n,(g n).ents=[]∧(g n).data=[]) (ws:List Int)
 (hb:∀d:Nd,bits .and .i64 (g d).mode 3072=bif !decide (bits .and .i64 d.mode 1024=0)&&decide ((g d).kind=2) then 1024 else 0):allowF T (plantF T c p fl g).2 c ws=true:=by
 rcases plant_ch hT (c:=c) (p:=p) (fl:=fl) hg (fun n=>(he n).1) with h | ⟨hz,h⟩
 · exact allow_0 h
 obtain ⟨r1,r2,r3,r4,r5,r6,r7, _⟩:=plant_facts hT hg (fun n=>(he n).1) hz
 have hs:rS T c p fl≠[]:=fun e=>by
  rcases resF_at hT.2 c p fl r1 with k | k
  ·
   have:=k.2
   dsimp only at this
   rw [←this,r2] at r4
   rw [get_eq hT.1,if_neg (by omega)] at r4
   cases r4
  ·
   have:=k.2.1.1
   exact this e
 refine allow_3 h rfl ?_
 show mkF T c ⟨3, _,rD T c p fl,rS T c p fl,0,[],0⟩ ((plantF T c p fl g).2.get (plantF T c p fl g).1.1).1=true
 rw [r7,if_neg (Ne.symm r6),if_pos rfl]
 unfold mkF
 dsimp only
 rw [into_rD hT hW r1 hs r3]
 generalize (T.get (rD T c p fl)).1=d
 show (true&&decide (c.uid=c.uid)&&decide ((if bits .and .i64 d.mode 1024=0 then c.gid else d.gid)=bif !decide (bits .and .i64 d.mode 1024=0) then d.gid else c.gid)&&decide (bits .and .i64 (g d).mode 3072=bif !decide (bits .and .i64 d.mode 1024=0)&&decide ((g d).kind=2) then 1024 else 0)&&decide (((g d).data.length:Int)+(g d).ents.length=0))=true
 rw [hb d,(he d).1,(he d).2]
 by_cases h0:bits .and .i64 d.mode 1024=0
 · rw [if_pos h0,decide_eq_true h0];simp
 · rw [if_neg h0,decide_eq_false h0];simp
theorem cha_al (hT:Gd T) (hW:TreeW T o []) (P:Pr) (ca:Ca) (ws:List Int):allowF T (chaF T P ca o).2 P.c ws=true:=by
 have h0:allowF T T P.c ws=true:=allow_0 (chOf_same fun _=>rfl)
 unfold chaF
 split
 · exact chmod_al hT hW _ _ _
 split
 ·
  refine plant_al hT hW (c:=P.c) (p:=ca.path) (fl:=false) (g:=mkdirG P.um ca.a) (fun n hn=>⟨Nat.zero_le _,Nat.zero_le _,Nat.zero_le _,fun e he=>nomatch he⟩) (fun n=>⟨rfl,rfl⟩) ws fun d=>?_
  show bits .and .i64 (bits .or .i64 _ _) 3072=bif !decide (bits .and .i64 d.mode 1024=0)&&decide ((2:Int)=2) then 1024 else 0
  rw [dir_bits,decide_eq_true rfl,Bool.and_true]
 split
 ·
  unfold symlinkF
  split
  · exact h0
  split
  · exact h0
  split
  · exact h0
  ·
   refine plant_al hT hW (c:=P.c) (p:=ca.path) (fl:=false) (g:=symG ca.other) (fun n hn=>⟨Nat.zero_le _,Nat.zero_le _,(by show ca.other.length≤1000;omega),fun e he=>nomatch he⟩) (fun n=>⟨rfl,rfl⟩) ws fun d=>?_
   show bits .and .i64 511 3072=bif !decide (bits .and .i64 d.mode 1024=0)&&decide ((3:Int)=2) then 1024 else 0
   rw [decide_eq_false (show ¬(3:Int)=2 by decide),Bool.and_false];decide +kernel
 split
 ·
  rcases unlink_ch hT hW (c:=P.c) (p:=ca.path) with h | ⟨hz, _,h⟩
  · exact allow_0 h
  ·
   obtain ⟨k1,k2⟩:=find_al hT hW hz
   exact allow_4 h rfl (by show (intoF T P.c _&&stickT T P.c _ _)=true;rw [k1,k2];rfl)
 split
 ·
  rcases rmdir_ch hT hW (c:=P.c) (p:=ca.path) with h | ⟨hz, _,h⟩
  · exact allow_0 h
  ·
   obtain ⟨k1,k2⟩:=find_al hT hW hz
   exact allow_4 h rfl (by show (intoF T P.c _&&stickT T P.c _ _)=true;rw [k1,k2];rfl)
 split
 ·
  rcases rename_ch hT hW (c:=P.c) (p:=ca.path) (q:=ca.other) with h | ⟨hz,q1,q2,q3,q4,h⟩
  · exact allow_0 h
  ·
   obtain ⟨k1,k2⟩:=find_al hT hW hz
   have k3:=into_rD hT hW q1 q2 q3
   refine allow_5 h rfl ?_
   show (intoF T P.c _&&stickT T P.c _ _&&intoF T P.c _&&(decide (rN T P.c ca.other false=0)||stickT T P.c (rD T P.c ca.other false) (rN T P.c ca.other false)))=true
   rw [k1,k2,k3]
   by_cases hq:rN T P.c ca.other false=0
   · rw [decide_eq_true hq];rfl
   ·
    have h4:=q4 hq
    have hst:stickT T P.c (rD T P.c ca.other false) (rN T P.c ca.other false)=true:=by
     unfold stickT
     unfold overF at h4
     split at h4
     · cases h4
     · rename_i hs;simpa using hs
    rw [hst];simp
 · exact chown_al hT hW _ _ _ _ _
theorem open_al (hT:Gd T) (hW:TreeW T o []) {um:Int} {p:List UInt8} {f m:Int} (ws:List Int):allowF T (openF T c um p f m).2 c ws=true:=by
 have h0:allowF T T c ws=true:=allow_0 (chOf_same fun _=>rfl)
 unfold openF
 split
 · exact h0
 rename_i hfl
 split
 · exact h0
 rename_i h2
 have h20:=Classical.not_not.1 h2
 split
 ·
  split
  · exact h0
  ·
   refine plant_al hT hW (c:=c) (p:=p) (fl:=!hasF f 40) (g:=fileG um m) (fun n hn=>⟨Nat.zero_le _,Nat.zero_le _,Nat.zero_le _,fun e he=>nomatch he⟩) (fun n=>⟨rfl,rfl⟩) ws fun d=>?_
   show bits .and .i64 (bits .andNot .i64 (bitsP m [511]) um) 3072=bif !decide (bits .and .i64 d.mode 1024=0)&&decide ((1:Int)=2) then 1024 else 0
   rw [file_bits,decide_eq_false (show ¬(1:Int)=2 by decide),Bool.and_false];rfl
 rename_i h3
 have hi:(T.get (rN T c p (!hasF f 40))).2=true:=by simpa using h3
 split
 · exact h0
 split
 · exact h0
 rename_i h5
 split
 · exact h0
 rename_i h6
 generalize hw:bits .or .i64 (if hasF f 1=true then 4 else 0) (if hasF f 2=true then 2 else 0)=w
 split
 · exact h0
 rename_i h7
 split
 ·
  rename_i h8
  have hk:(T.get (rN T c p (!hasF f 40))).1.kind=1:=by
   rcases right_cases (hT.2.get hi) with ⟨_,k | k | k⟩
   · exact k.1
   · exact absurd k.1 h6
   · exact absurd k.1 h5
  have hf2:hasF f 2=true:=by
   have hfl':flagsF f=true:=by simpa using hfl
   unfold flagsF at hfl'
   simp only [Bool.and_eq_true,Bool.or_eq_true,Bool.not_eq_true'] at hfl'
   rcases hfl'.1.2 with k | k
   · rw [h8] at k;cases k
   · exact k
  have hc:canT c T (rN T c p (!hasF f 40)) w=true:=by simpa using h7
  have hc2:canT c T (rN T c p (!hasF f 40)) 2=true:=by
   rw [hf2,if_pos rfl] at hw
   by_cases h1:hasF f 1=true
   ·
    rw [if_pos h1] at hw
    have:w=6:=by rw [←hw];decide +kernel
    rw [this] at hc;exact can_six hc
   ·
    rw [if_neg h1] at hw
    have:w=2:=by rw [←hw];decide +kernel
    rw [this] at hc;exact hc
  exact write_al (b:=[]) hT hi hk (Nat.zero_le _) (.inr ⟨seen_rN hT hW h20 hi,hc2⟩)
 · exact h0
end
def wrL (P:Pr) (n:Nat):List Int:=((List.range n).filter fun k=>(P.fd k).wr).map fun k=>(P.fd k).node
theorem wrL_mem {P:Pr} {k n:Nat} (hk:k<n) (hw:(P.fd k).wr=true):(P.fd k).node∈wrL P n:=
 List.mem_map.2 ⟨k,List.mem_filter.2 ⟨List.mem_range.2 hk,hw⟩,rfl⟩
theorem allow_law {T:Tab} (hT:Gd T) {ps:List Pr} (hW:TreeW T (openL ps) []) (pid:Nat) (hp:pid<ps.length) (ca:Ca) (hx:ca.kind≠18) {d:Rs×Tab×List Pr} (hd:doF T ps (pid:Nat) ca=d):allowF T d.2.1 (ps.getD pid pr0).c (wrL (ps.getD pid pr0) 3)=true:=by
 subst hd
 unfold doF
 rw [if_pos ⟨by omega,by omega⟩,Int.toNat_natCast]
 show allowF T (stepF T ps pid (ps.getD pid pr0) ca).2.1 _ _=true
 generalize ps.getD pid pr0=P
 have h0:allowF T T P.c (wrL P 3)=true:=allow_0 (chOf_same fun _=>rfl)
 unfold stepF
 split
 ·
  have ho:∀i,allowF T (opnAt T P ca i).2.1 P.c (wrL P 3)=true:=fun i=>by
   have h1:(opnAt T P ca i).2.1=(openF T P.c P.um ca.path ca.a ca.b).2:=by unfold opnAt;split<;>rfl
   rw [h1];exact open_al hT hW _
  unfold opnF
  repeat' split
  · exact ho 0
  · exact ho 1
  · exact ho 2
  · exact h0
 split
 · exact h0
 split
 ·
  unfold wriF
  split
  · exact h0
  rename_i hc
  obtain ⟨i,hi,hi3⟩:∃i:Nat,ca.a.toNat=i∧i<3:=⟨ca.a.toNat,rfl,by
   apply Classical.byContradiction
   intro hn
   exact hc (.inl (by omega))⟩
  rw [hi] at hc ⊢
  have hwr:(P.fd i).wr=true:=by
   cases hb:(P.fd i).wr with
   | true=>rfl
   | false=>exact absurd (.inr (.inr hb)) hc
  have hw:allowF T (writeAtF T P.c (P.fd i).node (P.fd i).off ca.data).2 P.c (wrL P 3)=true:=by
   have hdl:=(hT.nd (P.fd i).node).1
   unfold writeAtF
   split
   · exact h0
   rename_i h1
   split
   · exact h0
   split
   · exact h0
   split
   · exact h0
   have hk:=Classical.not_not.1 h1
   exact write_al hT (get_kind_at (by rw [hk];decide)) hk (by rw [overB_len];omega) (.inl (wrL_mem hi3 hwr))
  split
  · exact hw
  · exact hw
 split
 ·
  unfold shutF
  split
  · exact h0
  ·
   show allowF T (freeF T _ _).2 P.c _=true
   rcases free_ch hT (P.fd ca.a.toNat).node (openL (ps.set pid (P.put ca.a.toNat fd0))) with h | ⟨hl,h⟩
   · exact allow_0 h
   ·
    refine allow_6 h rfl ?_
    have:=links_cnt hT.1 (P.fd ca.a.toNat).node
    show T.links (P.fd ca.a.toNat).node=0
    omega
 split
 · exact h0
 split
 · exact h0
 split
 · exact cha_al hT hW P ca _
 · exact h0
end Go.Proofs.YtjmlgeckgieaaaaGreat
