import Derived.Test.YtmgnbgniikjhdaaGreatK3
/-
  What a command tells; paths put together.
-/
set_option linter.unusedVariables false
set_option linter.unusedSimpArgs false
namespace Go.Proofs.YtmgnbgniikjhdaaGreat
open Go.Ab
set_option maxRecDepth 8000
set_option maxHeartbeats 400000
def dgV (d:Dg):AV:=.agg [.str d.1,.int .i64 d.2]
theorem clL_dgV (m:Nat) (l:List Dg):AV.clL m (l.map dgV):=clL_all fun x hx=>by
 obtain ⟨c, _,rfl⟩:=List.mem_map.1 hx
 exact ⟨trivial,trivial,trivial⟩
theorem cells_dgV (l:List Dg):∀y∈l.map dgV,y.cells.length=2:=fun y hy=>by
 obtain ⟨f, _,rfl⟩:=List.mem_map.1 hy;rfl
theorem dgV_snoc (l:List Dg) (p:List UInt8) (e:Int):l.map dgV++[.agg [.str p,.int .i64 e]]=(l++[(p,e)]).map dgV:=by simp [dgV]
theorem erL_dgV (l:List Dg):AV.erL (l.map dgV)=l.map dgV:=by
 rw [AV.erL_map,List.map_map];rfl
theorem names_small {s x:List UInt8} (hx:x∈namesF s):x.length≤s.length:=by
 obtain ⟨p, _,rfl⟩:=List.mem_map.1 hx
 simp only [List.length_take,List.length_drop];omega
theorem baseF_le {s:List UInt8} {n:Nat} (h:s.length≤n):(baseF s).length≤n:=by
 unfold baseF
 cases hd:decide ((0:Int)<(namesF s).length) with
 | true=>
  have h0:=of_decide_eq_true hd
  have hm:(namesF s).getD ((namesF s).length - 1) []∈namesF s:=by
   rw [List.getD_eq_getElem?_getD,List.getElem?_eq_getElem (by omega)];exact List.getElem_mem _
  have:=names_small hm
  rw [cond_true];omega
 | false=>
  rw [cond_false]
  cases ha:absF s with
  | false=>exact Nat.zero_le _
  | true=>
   unfold absF at ha
   simp only [Bool.and_eq_true,decide_eq_true_eq] at ha
   show 1≤n;omega
theorem baseF_len {s:List UInt8} (h:s.length≤999999):(baseF s).length≤1000000:=Nat.le_trans (baseF_le h) (by decide)
def failK (kd:Nat) (dg:List Dg) (cd:Cap) (rest:List AV) (p:List UInt8) (e:Int) (h:List Blk) (live:List Nat):KT:=fun x h' live'=>
 x=.tup []∧∃cd',h'=h.set kd (.cells (.slice ((dg++[(p,e)]).map dgV) cd'::rest))∧Keeps live cd live' cd'
attribute [push_cast] clL_dgV erL_dgV
theorem c49 (kd:Nat) (dg:List Dg) (cd:Cap) (rest:List AV) (p:List UInt8) (e:Int) (h:List Blk) (live:List Nat) (hk:h[kd]? = some (.cells (.slice (dg.map dgV) cd::rest))) (hc:CapOK live cd) (hr:AV.clL h.length rest) (hl:dg.length≤1000000):ACalls Tryz.prog 49 [.ptr kd 0,.str p,.int .i64 e] h live (failK kd dg cd rest p e h live):=by
 refine aq_ Tryz.func49 fun hH hX=>?_
 have hkl:=lt_of_get hk
 have hpq:=fun g:List Blk=>atApp (g:=g) hk
 have sx:=(And.intro @hk (And.intro @dgV_snoc sx0))
 refine rg_ [0,1,2,7] ?_
 refine cdy_ (ht:=fun hb1=>?_) (hf:=fun hb1=>?_)
 rotate_left
 · exfalso;exact Bool.noConfusion hb1
 refine rt_ [] ?_
 refine sg_ ?_
 refine ap_ (a:=hc) (b:=cells_dgV _) (c':=by simp [AV.cells]) (d:=by simp;omega) (e:=by simp;omega) (k:=?_)
 intro c17 live17 hk17
 refine srn_ ?_
 refine gq_ (h1:=h.set kd _) (live:=live17) Tryz.results49 ?_ (hh:=(⟨[],(List.append_nil _).symm⟩)) (hH:=(HCl.set hH kd ⟨clL_dgV _ _,hr⟩))
 exact ⟨rfl, _,rfl,hk17⟩
theorem c57 (l:List Dg) (c:Cap) (h:List Blk) (live:List Nat) (hl:l.length≤1000000):AC Tryz.prog 57 [.slice (l.map dgV) c] h live (.slice (l.map dgV) .none):=by
 refine aq_ Tryz.func57 fun hH hX=>?_
 refine rg_ [0] ?_
 refine sk_ fun K1 hK1=>?_
 refine rs_ [0,4] ?_
 refine sg_ ?_
 refine dawp_w rfl rfl rfl rfl (AOp.eqNil _ _ _ rfl (by kernel_rfl) (by (simp (disch:=omega) only [push_cast,↓reduceIte,Nat.reduceEqDiff,Nat.reduceAdd,Nat.reduceLeDiff,sx])<;>rfl) ?_)
 intro nb4 hn4
 refine re_ ?_
 refine cy_ (fun hb1=>?_) (fun hb1=>?_)
 ·
  have hl0:=List.map_eq_nil_iff.1 (hn4 hb1)
  subst hl0
  refine rg_ [2] ?_
  refine ret_ ?_
  refine fq_ Tryz.results57 ?_ (hcl:=(by simp [AV.cl,AV.clL,clL_dgV,clL_str, -List.map_map]))
  exact rk_ rfl
 refine skp_ ?_
 refine hK1 _ ?_
 refine rs_ [2] ?_
 refine sg_ ?_
 refine ap_ (a:=.inl rfl) (b:=by simp) (c':=cells_dgV _) (d:=by simp;omega) (e:=by simp;omega) (k:=?_)
 intro c7 live7 hk7
 refine srt_ ?_
 refine fq_ Tryz.results57 ?_ (hcl:=(by simp [AV.cl,AV.clL,clL_dgV,clL_str, -List.map_map])) (hl:=(fun u hu=>(hk7.2 u hu (fun e=>by cases e)).1))
 exact rk_ rfl
theorem c58 (l:List (List UInt8)) (c:Cap) (h:List Blk) (live:List Nat) (hl:l.length≤1000000):AC Tryz.prog 58 [.slice (l.map .str) c] h live (.slice (l.map .str) .none):=by
 refine aq_ Tryz.func58 fun hH hX=>?_
 refine rg_ [0] ?_
 refine sk_ fun K1 hK1=>?_
 refine rs_ [0,4] ?_
 refine sg_ ?_
 refine dawp_w rfl rfl rfl rfl (AOp.eqNil _ _ _ rfl (by kernel_rfl) (by (simp (disch:=omega) only [push_cast,↓reduceIte,Nat.reduceEqDiff,Nat.reduceAdd,Nat.reduceLeDiff,sx])<;>rfl) ?_)
 intro nb4 hn4
 refine re_ ?_
 refine cy_ (fun hb1=>?_) (fun hb1=>?_)
 ·
  have hl0:=List.map_eq_nil_iff.1 (hn4 hb1)
  subst hl0
  refine rg_ [2] ?_
  refine ret_ ?_
  refine fq_ Tryz.results58 ?_ (hcl:=(by simp [AV.cl,AV.clL,clL_dgV,clL_str, -List.map_map]))
  exact rk_ rfl
 refine skp_ ?_
 refine hK1 _ ?_
 refine rs_ [2] ?_
 refine sg_ ?_
 refine ap_ (a:=.inl rfl) (b:=by simp) (c':=cells_strs' _) (d:=by simp;omega) (e:=by simp;omega) (k:=?_)
 intro c7 live7 hk7
 refine srt_ ?_
 refine fq_ Tryz.results58 ?_ (hcl:=(by simp [AV.cl,AV.clL,clL_dgV,clL_str, -List.map_map])) (hl:=(fun u hu=>(hk7.2 u hu (fun e=>by cases e)).1))
 exact rk_ rfl
theorem c28 (kd:Nat) (dg:List Dg) (c1:Cap) (rest:List AV) (h:List Blk) (live:List Nat) (hk:h[kd]? = some (.cells (.slice (dg.map dgV) c1::rest))) (hl:dg.length≤1000000):AC Tryz.prog 28 [.ptr kd 0] h live (.slice (dg.map dgV) .none):=by
 refine aq_ Tryz.func28 fun hH hX=>?_
 have hkl:=lt_of_get hk
 have sx:=(And.intro @hk sx0)
 refine rg_ [0] ?_
 refine sk_ fun K1 hK1=>?_
 refine rg_ [0,4] ?_
 refine cdn_ (ht:=fun hb1=>?_) (hf:=fun hb1=>?_)
 · exfalso;exact Bool.noConfusion hb1
 refine skp_ ?_
 refine hK1 _ ?_
 refine rs_ [2] ?_
 refine sg_ ?_
 refine cl_ (hc:=c57 dg _ _ _ hl) (k:=?_)
 refine srt_ ?_
 refine fq_ Tryz.results28 ?_
 exact rk_ rfl
theorem c29 (kd:Nat) (dg:List Dg) (c1:Cap) (rest:List AV) (h:List Blk) (live:List Nat) (hk:h[kd]? = some (.cells (.slice (dg.map dgV) c1::rest))) (hl:dg.length≤1000000):AC Tryz.prog 29 [.ptr kd 0] h live (.int .i64 (if dg=[] then 0 else 1)):=by
 refine aq_ Tryz.func29 fun hH hX=>?_
 refine rg_ [0] ?_
 refine rs_ [2] ?_
 refine sg_ ?_
 refine cl_ (hc:=c28 kd dg c1 rest _ _ hk hl) (k:=?_)
 refine srt_ ?_
 refine fq_ Tryz.results29 ?_
 exact ⟨by cases dg with
  | nil=>rfl
  | cons a r=>rw [if_neg (by simp)];simp;omega,rfl,rfl⟩
theorem c30 (kd:Nat) (x0:AV) (c1:Cap) (rest:List AV) (h:List Blk) (live:List Nat) (hk:h[kd]? = some (.cells (x0::.slice (([]:List (List UInt8)).map .str) c1::rest))):AC Tryz.prog 30 [.ptr kd 0] h live (.slice (([]:List (List UInt8)).map .str) .none):=by
 refine aq_ Tryz.func30 fun hH hX=>?_
 have hkl:=lt_of_get hk
 have sx:=(And.intro @hk sx0)
 refine rg_ [0] ?_
 refine sk_ fun K1 hK1=>?_
 refine rg_ [0,4] ?_
 refine cdn_ (ht:=fun hb1=>?_) (hf:=fun hb1=>?_)
 · exfalso;exact Bool.noConfusion hb1
 refine skp_ ?_
 refine hK1 _ ?_
 refine rs_ [2] ?_
 refine sg_ ?_
 refine cl_ (hc:=c58 [] _ _ _ (by simp)) (k:=?_)
 refine srt_ ?_
 refine fq_ Tryz.results30 ?_
 exact rk_ rfl
theorem c180 (d n:List UInt8) (h:List Blk) (live:List Nat) (hd:d.length≤1000000) (hn:n.length≤1000000):AC Tryz.prog 180 [.str d,.str n] h live (.str (joinF d n)):=by
 refine aq_ Tryz.func180 fun hH hX=>?_
 refine rg_ [0,1] ?_
 refine sk_ fun K1 hK1=>?_
 refine rs_ [0,1,10] ?_
 refine sg_ ?_
 refine cg_ (hc:=fun hg=>c184 d _ _ (by omega)) (k:=?_)
 refine sre_ ?_
 refine cy_ (fun hb1=>?_) (fun hb1=>?_)
 ·
  refine rg_ [4] ?_
  refine ret_ ?_
  refine fq_ Tryz.results180 ?_
  exact rk_ (by rw [joinF,hb1];rfl)
 refine skp_ ?_
 refine hK1 _ ?_
 refine rg_ [4] ?_
 refine ret_ ?_
 refine fq_ Tryz.results180 ?_
 exact rk_ (by rw [joinF,hb1];rfl)
theorem c181 (s:List UInt8) (h:List Blk) (live:List Nat) (hs:s.length≤1000):AC Tryz.prog 181 [.str s] h live (.str (baseF s)):=by
 refine aq_ Tryz.func181 fun hH hX=>?_
 have hnb:=(spansF_bd s).2
 rw [←names_len] at hnb
 refine rg_ [0] ?_
 refine rs_ [0,3] ?_
 refine sg_ ?_
 refine cl_ (hc:=c183 s _ _ hs) (k:=?_)
 refine sre_ ?_
 refine sk_ fun K1 hK1=>?_
 refine awp_block ?_
 refine rg_ [0,3,6] ?_
 refine cx_ (fun hb1=>?_) (fun hb1=>?_)
 ·
  refine rg_ [2] ?_
  refine ret_ ?_
  refine fq_ Tryz.results181 ?_
  exact rk_ (by rw [baseF,decide_eq_true hb1,show ((namesF s).length - 1:Int).toNat=(namesF s).length - 1 by omega];rfl)
 refine rs_ [16] ?_
 refine sg_ ?_
 refine cl_ (hc:=c185 s _ _ (by omega)) (k:=?_)
 refine sre_ ?_
 refine cy_ (fun hb2=>?_) (fun hb2=>?_)
 ·
  refine rg_ [2] ?_
  refine ret_ ?_
  refine fq_ Tryz.results181 ?_
  exact rk_ (by rw [baseF,decide_eq_false (by omega),hb2];rfl)
 refine skp_ ?_
 refine hK1 _ ?_
 refine rg_ [2] ?_
 refine ret_ ?_
 refine fq_ Tryz.results181 ?_
 exact rk_ (by rw [baseF,decide_eq_false (by omega),hb2];rfl)
end Go.Proofs.YtmgnbgniikjhdaaGreat
