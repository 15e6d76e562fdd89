import Derived.Test.YtegffmibifodcaaGreatFc
/-
  THE FRAMEWORK, 24: a region that draws, where what comes behind comes so by more steps.
-/
set_option linter.unusedVariables false
set_option linter.unusedSimpArgs false
namespace Go.Ab
open Go.RowKit
section
variable {P:Program} {q:RQ}
def okAllD (q:RQ) (ops:Array Oper):Bool:=
 (List.range ops.size).all fun i=>match ops[i]? with
  | none=>true
  | some o=>(o.after.all fun e=>!Region.binds .any e||decide (e.on<i))&&(List.range i).all fun j=>(match ops[j]? with
   | some oj=>okPair q ops oj o
   | none=>true)||ord ops 12 j i
theorem wpAny_of_dawpD {ops:Array Oper} {Q:FT} {Qa:Exit→Act→World→Prop} {n:Nat} (hok:okAllD q ops=true):∀(fuel:Nat) (listed:Array Bool) (S:AS) (w:World) (G:Gh) (a:Act),listed.size=ops.size→(rem ops listed).length=fuel→Closed ops listed→S.n=n→SRel w G a S →
 (∀fr h live w' G' a',Q fr h live→SRel w' G' a' ⟨n,fr,h,live⟩→Evo w G S.live w' G' live→Qa .normal a' w') →
 dawp P q (gdOf ops) n ((rem ops listed).filterMap (ops[·]?)) S.fr S.h S.live Q→wpAny P .any ops Qa fuel listed a w
 | 0,listed,S,w,G,a,hls,hl,hcl,hn,hs,hq,hd=>by
  subst hn
  have hr:rem ops listed=[]:=List.eq_nil_of_length_eq_zero hl
  rw [hr] at hd
  refine ⟨?_,hq _ _ _ w G a hd hs (Evo.refl _ _ _)⟩
  have:∀j,j∉Region.ready .any ops listed:=fun j hj=>by
   obtain ⟨h1,o,ho, _⟩:=mem_ready.1 hj
   have hjr:j∈rem ops listed:=List.mem_filter.2 ⟨List.mem_range.2 (Array.getElem?_eq_some_iff.1 ho).1,by rw [h1];rfl⟩
   rw [hr] at hjr;simp at hjr
  exact List.eq_nil_iff_forall_not_mem.2 this
 | fuel+1,listed,S,w,G,a,hls,hl,hcl,hn,hs,hq,hd=>by
  subst hn
  have hall:=List.all_eq_true.1 hok
  constructor
  ·
   intro hnil
   exfalso
   cases hr:rem ops listed with
   | nil=>rw [hr] at hl;simp at hl
   | cons i t=>
    have hi:i∈rem ops listed:=by rw [hr];simp
    obtain ⟨hi1,hi2⟩:=List.mem_filter.1 hi
    have hil:=List.mem_range.1 hi1
    have ho:ops[i]? = some ops[i]:=Array.getElem?_eq_getElem hil
    have hA:=hall i hi1
    rw [ho] at hA
    simp only [Bool.and_eq_true] at hA
    have hmin:∀j,j<i→listed.getD j true=true:=fun j hj=>by
     cases hb:listed.getD j true with
     | true=>rfl
     | false=>
      have hjm:j∈rem ops listed:=List.mem_filter.2 ⟨List.mem_range.2 (by omega),by rw [hb];rfl⟩
      have hsorted:(rem ops listed).Pairwise (· < ·):=List.pairwise_lt_range.filter _
      rw [hr] at hjm hsorted
      rcases List.mem_cons.1 hjm with rfl | hjt
      · omega
      · have:=(List.pairwise_cons.1 hsorted).1 j hjt;omega
    have:i∈Region.ready .any ops listed:=mem_ready.2 ⟨by simpa using hi2,ops[i],ho,fun e he hbe=>by
     have hlt0:=(Array.all_eq_true_iff_forall_mem.1 hA.1) e he
     rw [hbe] at hlt0
     have hlt:e.on<i:=by simpa using hlt0
     have hmt:=hmin e.on hlt
     have hsz:e.on<listed.size:=by omega
     simpa [hsz] using hmt⟩
    rw [hnil] at this;simp at this
  ·
   intro i hi
   obtain ⟨h1,o,ho,hdeps⟩:=mem_ready.1 hi
   have hil:i<ops.size:=(Array.getElem?_eq_some_iff.1 ho).1
   have him:i∈rem ops listed:=List.mem_filter.2 ⟨List.mem_range.2 hil,by rw [h1];rfl⟩
   obtain ⟨s,t,hst⟩:=List.append_of_mem him
   have hsorted:(rem ops listed).Pairwise (· < ·):=List.pairwise_lt_range.filter _
   rw [hst] at hsorted hl
   have hs1:∀j,j∈s→j<i:=fun j hj=>(List.pairwise_append.1 hsorted).2.2 j hj i (by simp)
   have ht1:∀j,j∈t→i<j:=fun j hj=>(List.pairwise_cons.1 (List.pairwise_append.1 hsorted).2.1).1 j hj
   have hsrem:∀j,j∈s→j∈rem ops listed:=fun j hj=>by rw [hst];simp [hj]
   rw [hst,filterMap_split (ops[·]?) s t i o ho] at hd
   have hA:=hall i (List.mem_range.2 hil)
   rw [ho] at hA
   simp only [Bool.and_eq_true] at hA
   have hpairs:∀x∈s.filterMap (ops[·]?),okPair q ops x o=true:=fun x hx=>by
    obtain ⟨j,hj,hjx⟩:=List.mem_filterMap.1 hx
    have hB:=(List.all_eq_true.1 hA.2) j (List.mem_range.2 (hs1 j hj))
    simp only [hjx] at hB
    simp only [Bool.or_eq_true] at hB
    rcases hB with hB | hB
    rotate_left
    ·
     have hjs:=ord_listed hcl 12 j i o ho (fun e he hb=>by
      have:=hdeps e he hb
      have hlt0:=(Array.all_eq_true_iff_forall_mem.1 hA.1) e he
      rw [hb] at hlt0
      have hlt:e.on<i:=by simpa using hlt0
      have hsz:e.on<listed.size:=by omega
      simpa [hsz] using this) hB
     have hj2:=(List.mem_filter.1 (hsrem j hj)).2
     rw [hjs] at hj2;simp at hj2
    · exact hB
   have hyd:dstOk S.n o.dst=true:=by
    clear hq
    have:∀(l1:List Oper) (fr:Nat→AV) (S:AS) (w:World) (G:Gh) (a:Act),SRel w G a S→dawp P q (gdOf ops) S.n (l1++o::t.filterMap (ops[·]?)) S.fr S.h S.live Q→dstOk S.n o.dst=true:=by
     intro l1
     induction l1 with
     | nil=>intro fr S w G a _ hd;exact hd.1
     | cons x l1 ih=>
      intro fr S w G a hs hd
      obtain ⟨u,h',live',w',G',a',k,hs'⟩:=dstep.some hs hd.1 hd.2
      exact ih fr ⟨S.n,upd S.fr x.dst u,h',live'⟩ w' G' a' hs' k
    exact this _ S.fr S w G a hs hd
   have hfr:=take_front hs _ _ hpairs hyd hd
   have hrem:rem ops (listed.setIfInBounds i true)=s++t:=by
    have e1:rem ops (listed.setIfInBounds i true)=(rem ops listed).filter fun j=>decide (j≠i):=by
     unfold rem
     rw [List.filter_filter]
     refine List.filter_congr fun j hj=>?_
     have hjl:=List.mem_range.1 hj
     by_cases hji:j=i
     ·
      subst hji
      have:j<listed.size:=by omega
      simp [this]
     · rw [getD_set_ne true (Ne.symm hji)];simp [hji]
    rw [e1,hst,List.filter_append,List.filter_cons]
    have e2:s.filter (fun j=>decide (j≠i))=s:=List.filter_eq_self.2 fun j hj=>by have:=hs1 j hj;simp;omega
    have e3:t.filter (fun j=>decide (j≠i))=t:=List.filter_eq_self.2 fun j hj=>by have:=ht1 j hj;simp;omega
    rw [e2,e3];simp
   refine dstep.wp hs ho hyd hfr.2 fun x h' live' w' G' a' hk hs' hev=>?_
   have hcl':Closed ops (listed.setIfInBounds i true):=by
    intro i2 o2 ho2 hl2 e he hb
    have hmono:∀m,listed.getD m true=true→(listed.setIfInBounds i true).getD m true=true:=fun m hm=>by
     by_cases hmi:i=m
     ·
      subst hmi
      by_cases hms:i<listed.size<;>simp [hms]
     · rw [getD_set_ne true hmi];exact hm
    by_cases h2:i2=i
    ·
     subst h2
     rw [ho] at ho2;cases ho2
     have hlt0:=(Array.all_eq_true_iff_forall_mem.1 hA.1) e he
     rw [hb] at hlt0
     have hlt:e.on<i2:=by simpa using hlt0
     have hsz:e.on<listed.size:=by omega
     exact hmono _ (by simpa [hsz] using hdeps e he hb)
    ·
     rw [getD_set_ne true (Ne.symm h2)] at hl2
     exact hmono _ (hcl i2 o2 ho2 hl2 e he hb)
   refine wpAny_of_dawpD hok fuel _ ⟨S.n, _,h',live'⟩ w' G' a' (by simpa using hls) (by rw [hrem];simp at hl ⊢;omega) hcl' rfl hs' (fun fr h live w2 G2 a2 hQ hs2 hev2=>hq fr h live w2 G2 a2 hQ hs2 (hev.trans hev2)) ?_
   rw [hrem,List.filterMap_append]
   exact hk
theorem awp_regionD {id:Nat} {l:List Oper} {draw:Bool} {S:AS} {Q:Exit→AS→Prop} (q:RQ) (hok:draw=true→okAllD q l.toArray=true∧P.follows .mixedOrders=true)
 (h:dawp P q (gdOf l.toArray) S.n l S.fr S.h S.live fun fr h live=>∃fr1,(∀t,fr1 t=.undef∨fr1 t=fr t)∧Q .normal ⟨S.n,fr1,h,live⟩):AwpC P (.region id l.toArray draw) Q S:=by
 intro w G a hs
 cases draw with
 | false=>
  refine wp_region ?_
  rw [List.range_eq_range']
  have:=wpOps_of_dawp (P:=P) (q:=q) (ops:=l.toArray) (Qa:=Lq Q w G S.live) l 0 (by simp) S w G a rfl hs (fun fr h live w' G' a' hQ hs' hev=>?_) h
  · simpa using this
  ·
   obtain ⟨fr1,hf,hq⟩:=hQ
   exact ⟨G', _,hq,hs'.weakFr hf,hev⟩
 | true=>
  obtain ⟨h1,h2⟩:=hok rfl
  refine wp_region_any h2 ?_
  obtain ⟨hs1,hev1⟩:=hs.drew
  have hlt:∀i,i<l.length→(Array.replicate l.toArray.size false).getD i true=false:=fun i hi=>by simp [hi]
  have hrem:rem l.toArray (Array.replicate l.toArray.size false)=List.range l.length:=by
   unfold rem
   rw [List.filter_eq_self.2 fun i hi=>by
    have:=List.mem_range.1 hi
    rw [hlt i (by simpa using this)];rfl]
   simp
  refine wpAny_of_dawpD (P:=P) (q:=q) (n:=S.n) h1 l.toArray.size _ S _ G a (by simp) (by rw [hrem];simp) (fun i o ho hl=>by
   have hi:i<l.length:=by simpa using (Array.getElem?_eq_some_iff.1 ho).1
   rw [hlt i hi] at hl;exact Bool.noConfusion hl) rfl hs1 (fun fr h live w' G' a' hQ hs' hev=>?_) ?_ (Q:=fun fr h live=>∃fr1,(∀t,fr1 t=.undef∨fr1 t=fr t)∧Q .normal ⟨S.n,fr1,h,live⟩)
  ·
   obtain ⟨fr1,hf,hq⟩:=hQ
   exact ⟨G', _,hq,hs'.weakFr hf,hev1.trans hev⟩
  ·
   rw [hrem]
   have:(List.range l.length).filterMap (l.toArray[·]?)=l:=by
    have:=range_get [] l
    simpa [List.range_eq_range'] using this
   rw [this]
   exact h
theorem awp_regionD_keep {id:Nat} {l:List Oper} {draw:Bool} {n:Nat} {fl:FL} {h:List Blk} {live:List Nat} {Q:Exit→AS→Prop} (V:List Tmp) (q:RQ) (hok:draw=true→okAllD q l.toArray=true∧P.follows .mixedOrders=true)
 (hd:dawp P q (gdOf l.toArray) n l (fget fl) h live fun fr h live=>Q .normal ⟨n,fget (fkeep V fr),h,live⟩):AwpC P (.region id l.toArray draw) Q ⟨n,fget fl,h,live⟩:=
 awp_regionD q hok (dawp.mono (fun fr h live hq=>⟨_,fget_keep fr V,hq⟩) l (fget fl) h live hd)
theorem rsD_ {n:Nat} {fl:FL} {h:List Blk} {live:List Nat} {id:Nat} {l:List Oper} {d:Bool} {y:Code} {Q:Exit→AS→Prop} (V:List Tmp) (q:RQ) (hok:d=true→okAllD q l.toArray=true∧P.follows .mixedOrders=true) (k:dawp P q (gdOf l.toArray) n l (fget fl) h live (endF P y Q n V)):AwpC P (.seq (.region id l.toArray d) y) Q ⟨n,fget fl,h,live⟩:=
 awp_seq (awp_regionD_keep V q hok k)
end
end Go.Ab
