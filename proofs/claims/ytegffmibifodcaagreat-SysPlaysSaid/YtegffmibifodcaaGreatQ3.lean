import Derived.Test.YtegffmibifodcaaGreatQ2
/-
  THE DOCUMENT: who may what, on.
-/
set_option linter.unusedVariables false
set_option linter.unusedSimpArgs false
namespace Go.Proofs.YtegffmibifodcaaGreat
open Go.Ab
set_option maxRecDepth 8000
set_option maxHeartbeats 400000
theorem c69 (n k:Nat) (h:List Blk) (live:List Nat) (hn:n<4096) (hk:k≤64):AC Tryz.prog 69 [.int .i64 (n:Nat),.int .i64 (k:Nat)] h live (.bool (bitN n k)):=by
 refine aq_ Tryz.func69 fun hH hX=>?_
 have hdl:∀i,halfN n i≤4096:=fun i=>Nat.le_trans (half_le _ _) (by omega)
 have sx:=(And.intro @bit_step sx0)
 refine rg_ [0,1] ?_
 refine sk_ fun K1 hK1=>?_
 refine rg_ [0,1,5] ?_
 refine awp_block ?_
 refine lp_ (X:={i:Nat // i≤k}) (fun x=>⟨Tryz.f69.ntmps,fget [(0,.int .i64 (halfN n x.1:Nat)),(1,.int .i64 (k:Nat)),(5,.int .i64 (x.1:Nat))],h,live⟩) (fun x=>k - x.1) (⟨0,by omega⟩) ?_ (fun ⟨i,hi⟩=>?_)
 ·
  try dsimp only
  refine Trunc.same ?_ hH
  refine FTr.cons (by show _=AV.int .i64 ((halfN n 0:Nat):Int);rw [half_0];rfl) (by exact trivial) ?_
  refine ftc_ ?_
  refine ftc_ ?_
  exact FTr.nil
 try dsimp only
 have hdli:=hdl i
 have hdl1:=hdl (i+1)
 refine sk_ fun K2 hK2=>?_
 refine rg_ [0,1,5,8] ?_
 refine cx_ (fun hb1=>?_) (fun hb1=>?_)
 rotate_left
 ·
  have hie:i=k:=by omega
  subst hie
  refine awp_exit (up_ ?_)
  refine hK1 _ ?_
  refine rg_ [4] ?_
  refine ret_ ?_
  refine fq_ Tryz.results69 ?_
  exact rk_ (by rw [←bit_i])
 refine skp_ ?_
 refine hK2 _ ?_
 refine sk_ fun K3 hK3=>?_
 refine awp_block ?_
 refine rt_ [0,1,5] ?_
 refine srn_ ?_
 refine hK3 _ ?_
 refine rt_ [0,1,5] ?_
 refine srn_ ?_
 refine ln_ ⟨i+1,by omega⟩ ?_
 try dsimp only
 refine Trunc.same ?_ hH
 refine ftc_ ?_
 refine ftc_ ?_
 refine ftc_ ?_
 exact FTr.nil
theorem c193 (n k:Nat) (w:Int) (h:List Blk) (live:List Nat) (hn:n<4096) (hk:k≤64) (hw:0≤w∧w≤4096):AC Tryz.prog 193 [.int .i64 (n:Nat),.int .i64 (k:Nat),.int .i64 w] h live (.int .i64 (withoutF n k w)):=by
 refine aq_ Tryz.func193 fun hH hX=>?_
 refine rg_ [0,1,2] ?_
 refine sk_ fun K1 hK1=>?_
 refine rs_ [0,2,9] ?_
 refine sg_ ?_
 refine cl_ (hc:=c69 n k _ _ hn hk) (k:=?_)
 refine re_ ?_
 refine cy_ (fun hb1=>?_) (fun hb1=>?_)
 ·
  refine rg_ [6] ?_
  refine ret_ ?_
  refine fq_ Tryz.results193 ?_
  exact rk_ (by unfold withoutF;rw [if_pos hb1])
 refine skp_ ?_
 refine hK1 _ ?_
 refine rg_ [6] ?_
 refine ret_ ?_
 refine fq_ Tryz.results193 ?_
 exact rk_ (by unfold withoutF;rw [if_neg (by rw [hb1];decide)])
theorem c145 (c:Cr) (k:Cap) (kn gid m:Int) (h:List Blk) (live:List Nat) (hgs:c.gs.length≤1000000000):AC Tryz.prog 145 [.agg [.int .i64 c.uid,.int .i64 c.gid,.slice (c.gs.map iV) k],.int .i64 kn,.int .i64 gid,.int .i64 m] h live (.int .i64 (modeF c kn gid m)):=by
 refine aq_ Tryz.func145 fun hH hX=>?_
 obtain ⟨a,ha4,ha⟩:=low_nat m
 have sx:=(And.intro @ha sx0)
 refine rg_ [1,2,3,4] ?_
 refine rs_ [1,2,4,9] ?_
 refine sg_ ?_
 refine cl_ (hc:=c70 m _ _) (k:=?_)
 refine sre_ ?_
 refine sk_ fun K1 hK1=>?_
 refine rs_ [9,23] ?_
 refine sg_ ?_
 refine cg_ (hc:=fun hg=>c192 c k _ _ _ hgs) (k:=?_)
 refine sre_ ?_
 refine cy_ (fun hb1=>?_) (fun hb1=>?_)
 ·
  refine rg_ [8] ?_
  refine ret_ ?_
  refine fq_ Tryz.results145 ?_
  exact rk_ (by unfold modeF;rw [hb1,and4095,ha];rfl)
 refine skp_ ?_
 refine hK1 _ ?_
 refine rs_ [8] ?_
 refine sg_ ?_
 refine cl_ (hc:=c193 a 10 1024 _ _ ha4 (by omega) (by omega)) (k:=?_)
 refine srt_ ?_
 refine fq_ Tryz.results145 ?_
 exact rk_ (by unfold modeF;rw [hb1,and4095,ha,an1024 ha4];rfl)
theorem c146 (c:Cr) (k:Cap) (u g tu tg:Int) (h:List Blk) (live:List Nat) (hgs:c.gs.length≤1000000000):AC Tryz.prog 146 [.agg [.int .i64 c.uid,.int .i64 c.gid,.slice (c.gs.map iV) k],.int .i64 u,.int .i64 g,.int .i64 tu,.int .i64 tg] h live (.bool (mayOwn c u g tu tg)):=by
 refine aq_ Tryz.func146 fun hH hX=>?_
 refine rg_ [1,2,3,4,5] ?_
 refine sk_ fun K1 hK1=>?_
 refine rg_ [1,2,3,4,5,13] ?_
 refine cx_ (fun hb1=>?_) (fun hb1=>?_)
 ·
  refine rg_ [10] ?_
  refine ret_ ?_
  refine fq_ Tryz.results146 ?_
  exact rk_ (by unfold mayOwn;rw [decide_eq_true hb1];rfl)
 refine skp_ ?_
 refine hK1 _ ?_
 refine sk_ fun K2 hK2=>?_
 refine rg_ [2,4,5,26] ?_
 refine cy_ (fun hb2=>?_) (fun hb2=>?_)
 ·
  refine rg_ [10] ?_
  refine ret_ ?_
  refine fq_ Tryz.results146 ?_
  exact rk_ (by rw [mayOwn_n hb1 hb2])
 refine skp_ ?_
 refine hK2 _ ?_
 refine rs_ [10] ?_
 refine sg_ ?_
 refine cg_ (hc:=fun hg=>c192 c k _ _ _ hgs) (k:=?_)
 refine srt_ ?_
 refine fq_ Tryz.results146 ?_
 exact rk_ (by rw [mayOwn_y hb1 hb2])
theorem c147 (c:Cr) (k:Cap) (kn m:Int) (h:List Blk) (live:List Nat):AC Tryz.prog 147 [.agg [.int .i64 c.uid,.int .i64 c.gid,.slice (c.gs.map iV) k],.int .i64 kn,.int .i64 m] h live (.int .i64 (writtenF c kn m)):=by
 refine aq_ Tryz.func147 fun hH hX=>?_
 obtain ⟨a,ha4,ha⟩:=low_nat m
 obtain ⟨b,hb4,hb⟩:=without_bd (k:=11) (w:=2048) ha4 rfl
 have hcl:=clsI_bd (b:Nat) 1
 have sx:=(And.intro @ha (And.intro @hb sx0))
 refine rg_ [1,2,3] ?_
 refine rs_ [1,3,7] ?_
 refine sg_ ?_
 refine cl_ (hc:=c70 m _ _) (k:=?_)
 refine sre_ ?_
 refine sk_ fun K1 hK1=>?_
 refine rg_ [7,16] ?_
 refine cy_ (fun hb1=>?_) (fun hb1=>?_)
 ·
  have hff:fileF c kn=false:=by unfold fileF;rw [hb1];rfl
  refine rg_ [6] ?_
  refine ret_ ?_
  refine fq_ Tryz.results147 ?_
  exact rk_ (by unfold writtenF;rw [hff,and4095,ha];rfl)
 have hff:fileF c kn=true:=by unfold fileF;rw [hb1];rfl
 refine skp_ ?_
 refine hK1 _ ?_
 refine rs_ [7] ?_
 refine sg_ ?_
 refine cl_ (hc:=c193 a 11 2048 _ _ ha4 (by omega) (by omega)) (k:=?_)
 refine sre_ ?_
 refine sk_ fun K2 hK2=>?_
 refine rs_ [7,23] ?_
 refine sg_ ?_
 refine cl_ (hc:=c194 _ _ _ _) (k:=?_)
 refine sre_ ?_
 refine cx_ (fun hb2=>?_) (fun hb2=>?_)
 ·
  rw [Int.tmod_eq_emod_of_nonneg hcl.1] at hb2
  refine rs_ [6] ?_
  refine sg_ ?_
  refine cl_ (hc:=c193 b 10 1024 _ _ hb4 (by omega) (by omega)) (k:=?_)
  refine srt_ ?_
  refine fq_ Tryz.results147 ?_
  exact rk_ (by unfold writtenF clearF;rw [hff,and4095,ha,cond_true,an2048 ha4,hb,and1,decide_eq_false (by omega),an1024 hb4];rfl)
 rw [Int.tmod_eq_emod_of_nonneg hcl.1] at hb2
 refine skp_ ?_
 refine hK2 _ ?_
 refine rg_ [6] ?_
 refine ret_ ?_
 refine fq_ Tryz.results147 ?_
 exact rk_ (by unfold writtenF clearF;rw [hff,and4095,ha,cond_true,an2048 ha4,hb,and1,decide_eq_true (by omega)];rfl)
theorem c225 (c:Cr) (k:Cap) (m du u:Int) (h:List Blk) (live:List Nat):AC Tryz.prog 225 [.agg [.int .i64 c.uid,.int .i64 c.gid,.slice (c.gs.map iV) k],.int .i64 m,.int .i64 du,.int .i64 u] h live (.bool (stickyF c m du u)):=by
 refine aq_ Tryz.func225 fun hH hX=>?_
 obtain ⟨a,ha4,ha⟩:=low_nat m
 have hap:=and_pow (k:=9) (by omega) (w:=512) rfl ha
 have sx:=(And.intro @ha sx0)
 refine rg_ [1,2,3,4] ?_
 refine rs_ [8] ?_
 refine sg_ ?_
 refine cg_ (hc:=fun hg=>c70 m _ _) (k:=?_)
 refine cg_ (hc:=fun hg=>c69 a 9 _ _ ha4 (by omega)) (k:=?_)
 refine srt_ ?_
 refine fq_ Tryz.results225 ?_
 exact rk_ (by unfold stickyF;rw [hap,show decide (du=c.uid)=decide (c.uid=du) from decide_eq_decide.2 eq_comm,show decide (u=c.uid)=decide (c.uid=u) from decide_eq_decide.2 eq_comm])
end Go.Proofs.YtegffmibifodcaaGreat

/-
  THE DOCUMENT: where a path leads.
-/
namespace Go.Proofs.YtegffmibifodcaaGreat
open Go.Ab
set_option maxRecDepth 8000
set_option maxHeartbeats 400000
structure Wk where
 l:List (List UInt8)
 i:Int
 k:Int
 d:Bool
 r:Int×List UInt8×Int
 e:Int
def wkC (w:Wk):List AV:=[.slice (w.l.map .str) .none,.int .i64 w.i,.int .i64 w.k,.bool w.d,.int .i64 w.r.1,.str w.r.2.1,.int .i64 w.r.2.2,.int .i64 w.e]
def onW (l:List (List UInt8)) (i k:Int):Wk:=⟨l,i,k,false,(0,[],0),0⟩
def failW (e:Int):Wk:=⟨[],0,0,true,(0,[],0),e⟩
def linkW (l:List (List UInt8)) (i k:Int) (t:List UInt8):Wk:=if k=8 then failW 40 else onW (splitL t++l) (if absF t=true then 1 else i) (k+1)
def takeW (T:Tab) (c:Cr) (fl:Bool) (i k:Int) (s:List UInt8) (l:List (List UInt8)):Wk:=
 if (T.get i).1.kind≠2 then failW 20
 else if canT c T i 1=false then failW 13
 else if s=[46] then onW l i k
 else if s=[46,46] then onW l (if T.parent i≠0 then T.parent i else i) k
 else if (12:Int)<s.length then failW 36
 else if findF (T.get i).1 s=0∧(0:Int)<l.length then failW 2
 else if (T.get (findF (T.get i).1 s)).1.kind=3∧(fl=true∨(0:Int)<l.length) then linkW l i k (T.get (findF (T.get i).1 s)).1.target
 else if (l.length:Int)=0 then ⟨[],0,0,true,(i,s,findF (T.get i).1 s),0⟩
 else onW l (findF (T.get i).1 s) k
theorem nilA_eq (l:List AV):[]++l=l:=rfl
theorem mapA_eq (a b:List (List UInt8)):a.map AV.str++b.map AV.str=(a++b).map AV.str:=List.map_append.symm
theorem take_res (T:Tab) (c:Cr) (fl:Bool) (n:Nat) (i k:Int) (s:List UInt8) (l:List (List UInt8)):resL T c fl (n+1) i k (s::l)=if (takeW T c fl i k s l).d=true then ((takeW T c fl i k s l).r,(takeW T c fl i k s l).e) else resL T c fl n (takeW T c fl i k s l).i (takeW T c fl i k s l).k (takeW T c fl i k s l).l:=by
 rw [resL_cons]
 unfold takeW linkW
 by_cases h1:(T.get i).1.kind≠2
 · rw [if_pos h1,if_pos h1];rfl
 rw [if_neg h1,if_neg h1]
 by_cases h2:canT c T i 1=false
 · rw [if_pos h2,if_pos h2];rfl
 rw [if_neg h2,if_neg h2]
 by_cases h3:s=[46]
 · rw [if_pos h3,if_pos h3];rfl
 rw [if_neg h3,if_neg h3]
 by_cases h4:s=[46,46]
 · rw [if_pos h4,if_pos h4];rfl
 rw [if_neg h4,if_neg h4]
 by_cases h5:(12:Int)<s.length
 · rw [if_pos h5,if_pos h5];rfl
 rw [if_neg h5,if_neg h5]
 by_cases h6:findF (T.get i).1 s=0∧(0:Int)<l.length
 · rw [if_pos h6,if_pos h6];rfl
 rw [if_neg h6,if_neg h6]
 by_cases h7:(T.get (findF (T.get i).1 s)).1.kind=3∧(fl=true∨(0:Int)<l.length)
 ·
  rw [if_pos h7,if_pos h7]
  by_cases h8:k=8
  · rw [if_pos h8,if_pos h8];rfl
  · rw [if_neg h8,if_neg h8];rfl
 rw [if_neg h7,if_neg h7]
 by_cases h8:(l.length:Int)=0
 · rw [if_pos h8,if_pos h8];rfl
 · rw [if_neg h8,if_neg h8];rfl
theorem take_on (T:Tab) (c:Cr) (fl:Bool) (i k:Int) (s:List UInt8) (l:List (List UInt8)) (h:(takeW T c fl i k s l).d=false):∃l' i' k',takeW T c fl i k s l=onW l' i' k'∧((k'=k∧l'=l)∨(k≠8∧k'=k+1∧∃t:List UInt8,((T.get (findF (T.get i).1 s)).1.kind=3∧t=(T.get (findF (T.get i).1 s)).1.target)∧l'=splitL t++l)):=by
 unfold takeW linkW at h ⊢
 split at h<;>rename_i h1
 · cases h
 rw [if_neg h1]
 split at h<;>rename_i h2
 · cases h
 rw [if_neg h2]
 split at h<;>rename_i h3
 · rw [if_pos h3];exact ⟨_, _, _,rfl,.inl ⟨rfl,rfl⟩⟩
 rw [if_neg h3]
 split at h<;>rename_i h4
 · rw [if_pos h4];exact ⟨_, _, _,rfl,.inl ⟨rfl,rfl⟩⟩
 rw [if_neg h4]
 split at h<;>rename_i h5
 · cases h
 rw [if_neg h5]
 split at h<;>rename_i h6
 · cases h
 rw [if_neg h6]
 split at h<;>rename_i h7
 ·
  rw [if_pos h7]
  split at h<;>rename_i h8
  · cases h
  · rw [if_neg h8];exact ⟨_, _, _,rfl,.inr ⟨h8,rfl, _,⟨h7.1,rfl⟩,rfl⟩⟩
 rw [if_neg h7]
 split at h<;>rename_i h8
 · cases h
 rw [if_neg h8];exact ⟨_, _, _,rfl,.inl ⟨rfl,rfl⟩⟩
theorem wkAll (a b c d e f g i:AV) (w:Wk):List.take 8 (putAt [a,b,c,d,e,f,g,i] 0 (wkC w))=wkC w:=rfl
theorem wkAll2 (a b c d e f g i:AV) (w:Wk):putAt [a,b,c,d,e,f,g,i] 0 (wkC w)=wkC w:=rfl
theorem wkAll3 (w:Wk):List.take 8 (wkC w)=wkC w:=rfl
theorem er_wkC (w:Wk):AV.erL (wkC w)=wkC w:=by simp [wkC,AV.erL,AV.er,erL_strs, -List.map_map]
theorem clL_wkC (m:Nat) (w:Wk):AV.clL m (wkC w):=by simp [wkC,AV.clL,AV.cl,clL_str, -List.map_map]
theorem wkPut (a b c d e f g i a' b' c' d' e' f' g' i':AV):putAt [a,b,c,d,e,f,g,i] 0 [a',b',c',d',e',f',g',i']=[a',b',c',d',e',f',g',i']:=rfl
theorem wkTake (a' b' c' d' e' f' g' i':AV):[a',b',c',d',e',f',g',i'].take 8=[a',b',c',d',e',f',g',i']:=rfl
attribute [push_cast] wkAll wkAll2 wkAll3 wkPut wkTake
attribute [push_cast] er_wkC clL_wkC
theorem c187 (T:Tab) (s:List UInt8) (h:List Blk) (live:List Nat) (hT:T.Ok) (hs:s.length≤9223372036854775807):AC Tryz.prog 187 [tV (refL T),.str s] h live (.int .i64 (fitE T s)):=by
 refine aq_ Tryz.func187 fun hH hX=>?_
 have hll:=refL_len hT
 have hhi:=hT.hi
 have hib:=ib_has s
 have hg1:=get_kind hT 1
 refine rg_ [1,2] ?_
 refine sk_ fun K1 hK1=>?_
 refine rg_ [1,2,7] ?_
 refine cx_ (fun hb1=>?_) (fun hb1=>?_)
 ·
  refine rg_ [4] ?_
  refine ret_ ?_
  refine fq_ Tryz.results187 ?_
  exact rk_ (by unfold fitE;rw [if_pos hb1])
 refine skp_ ?_
 refine hK1 _ ?_
 refine sk_ fun K2 hK2=>?_
 refine rg_ [1,2,10] ?_
 refine cx_ (fun hb2=>?_) (fun hb2=>?_)
 ·
  refine rg_ [4] ?_
  refine ret_ ?_
  refine fq_ Tryz.results187 ?_
  exact rk_ (by unfold fitE;rw [if_neg hb1,if_pos (by omega)])
 refine skp_ ?_
 refine hK2 _ ?_
 refine rs_ [2,5] ?_
 refine sg_ ?_
 refine cl_ (hc:=h0149 s _ _ hs) (k:=?_)
 refine sre_ ?_
 refine sk_ fun K3 hK3=>?_
 refine rg_ [2,13] ?_
 refine cy_ (fun hb3=>?_) (fun hb3=>?_)
 ·
  rw [hib,decide_eq_true_eq] at hb3
  refine rg_ [4] ?_
  refine ret_ ?_
  refine fq_ Tryz.results187 ?_
  exact rk_ (by unfold fitE;rw [if_neg hb1,if_neg (by omega),if_pos hb3])
 rw [hib,decide_eq_false_iff_not] at hb3
 refine skp_ ?_
 refine hK3 _ ?_
 refine sk_ fun K4 hK4=>?_
 refine rs_ [17] ?_
 refine sg_ ?_
 refine cl_ (hc:=(rGet_eq hT 1▸c54 (refL T) 1 _ _ (by omega))) (k:=?_)
 refine sre_ ?_
 refine cx_ (fun hb4=>?_) (fun hb4=>?_)
 ·
  have hg1:(T.get 1).2=false:=by rw [hg1,decide_eq_true hb4];rfl
  refine rg_ [4] ?_
  refine ret_ ?_
  refine fq_ Tryz.results187 ?_
  exact rk_ (by unfold fitE;rw [if_neg hb1,if_neg (by omega),if_neg hb3,if_pos hg1])
 have hg1:(T.get 1).2=true:=by rw [hg1,decide_eq_false hb4];rfl
 refine skp_ ?_
 refine hK4 _ ?_
 refine rg_ [4] ?_
 refine ret_ ?_
 refine fq_ Tryz.results187 ?_
 exact rk_ (by unfold fitE;rw [if_neg hb1,if_neg (by omega),if_neg hb3,if_neg (by rw [hg1];decide)])
theorem c219 (e:Int) (h:List Blk) (live:List Nat):AC Tryz.prog 219 [.int .i64 e] h live (.agg (wkC (failW e))):=by
 refine aq_ Tryz.func219 fun hH hX=>?_
 refine rg_ [0,2] ?_
 refine rg_ [2] ?_
 refine ret_ ?_
 refine fq_ Tryz.results219 ?_ (hcl:=(by first | exact trivial | exact clL_wkC _ _ | (simp [AV.cl,AV.clL,AV.erL,AV.er,clL_str,erL_strs, -List.map_map, -List.map_append];done)))
 exact rk_ rfl
theorem c222 (l:List (List UInt8)) (q:Cap) (i:Int) (k:Int) (t:List UInt8) (h:List Blk) (live:List Nat) (ht:t.length≤64) (hl:l.length≤100000) (hk0:0≤k∧k≤8):AC Tryz.prog 222 [.agg [.slice (l.map .str) q,.int .i64 i,.int .i64 k,.bool false,.int .i64 0,.str [],.int .i64 0,.int .i64 0],.str t] h live (.agg (wkC (linkW l i k t))):=by
 refine aq_ Tryz.func222 fun hH hX=>?_
 have hsb:=splitL_bd ht
 have sx:=(And.intro @nilA_eq (And.intro @mapA_eq sx0))
 refine rg_ [1,2,4] ?_
 refine sk_ fun K1 hK1=>?_
 refine rg_ [1,2,4,10] ?_
 refine cx_ (fun hb1=>?_) (fun hb1=>?_)
 ·
  refine rs_ [4] ?_
  refine cl_ (hc:=c219 40 _ _) (k:=?_)
  refine srt_ ?_
  refine fq_ Tryz.results222 ?_ (hcl:=(by first | exact trivial | exact clL_wkC _ _ | (simp [AV.cl,AV.clL,AV.erL,AV.er,clL_str,erL_strs, -List.map_map, -List.map_append];done)))
  exact rk_ (by unfold linkW;rw [if_pos hb1])
 refine skp_ ?_
 refine hK1 _ ?_
 refine rs_ [2,4,5,6] ?_
 refine sg_ ?_
 refine cl_ (hc:=c188 t _ _ (by omega)) (k:=?_)
 refine sre_ ?_
 refine rg_ [2,4,5,6,7] ?_
 refine rs_ [2,4,5,7] ?_
 refine sg_ ?_
 refine ap_ (a:=.inl rfl) (b:=by intro y hy;simp at hy) (c':=fun y hy=>by obtain ⟨x, _,rfl⟩:=List.mem_map.1 hy;rfl) (d:=by simp;omega) (e:=by simp;omega) (k:=?_)
 intro c19 live19 hk19
 refine sre_ ?_
 refine rs_ [2,4,5,7] ?_
 refine sg_ ?_
 refine ap_ (a:=hk19.1) (b:=fun y hy=>by obtain ⟨x, _,rfl⟩:=List.mem_map.1 hy;rfl) (c':=fun y hy=>by obtain ⟨x, _,rfl⟩:=List.mem_map.1 hy;rfl) (d:=by simp;omega) (e:=by simp;omega) (k:=?_)
 intro c23 live23 hk23
 refine sre_ ?_
 refine rg_ [2,4,5] ?_
 refine rg_ [2,4,5] ?_
 refine sk_ fun K2 hK2=>?_
 refine rg_ [2,4,30] ?_
 refine cy_ (fun hb2=>?_) (fun hb2=>?_)
 ·
  refine rt_ [2,4] ?_
  refine srn_ ?_
  refine hK2 _ ?_
  refine rg_ [4] ?_
  refine ret_ ?_
  refine fq_ Tryz.results222 ?_ (hcl:=(by first | exact trivial | exact clL_wkC _ _ | (simp [AV.cl,AV.clL,AV.erL,AV.er,clL_str,erL_strs, -List.map_map, -List.map_append];done))) (hl:=(fun u hu=>(hk23.2 u (hk19.2 u hu Cap.noConfusion).1 (hk19.2 u hu Cap.noConfusion).2).1))
  exact rk_ (by unfold linkW;rw [if_neg hb1,if_pos hb2];rfl)
 refine skp_ ?_
 refine hK2 _ ?_
 refine rg_ [4] ?_
 refine ret_ ?_
 refine fq_ Tryz.results222 ?_ (hcl:=(by first | exact trivial | exact clL_wkC _ _ | (simp [AV.cl,AV.clL,AV.erL,AV.er,clL_str,erL_strs, -List.map_map, -List.map_append];done))) (hl:=(fun u hu=>(hk23.2 u (hk19.2 u hu Cap.noConfusion).1 (hk19.2 u hu Cap.noConfusion).2).1))
 exact rk_ (by unfold linkW;rw [if_neg hb1,if_neg (by rw [hb2];decide)];rfl)
theorem clL_tl (m:Nat) (L:List (List UInt8)):AV.clL m (List.map AV.str L).tail:=by rw [←List.map_tail];exact clL_str _ _
theorem par_nn {T:Tab} (hT:T.Ok) (i:Int):0≤T.parent i:=by
 rw [←rPar_eq hT]
 unfold rPar
 have:=idxP_range (hasK i) (refL T)
 split<;>omega
attribute [push_cast] clL_tl
theorem c189 (T:Tab) (c:Cr) (fl:Bool) (L:List (List UInt8)) (q:Cap) (i k:Int) (h:List Blk) (live:List Nat) (hT:T.Ok) (hR:T.Rt) (hgs:c.gs.length≤1000000000) (hL0:0<L.length) (hL:L.length≤100000) (hk0:0≤k∧k≤8):AC Tryz.prog 189 [tV (refL T),.agg [.int .i64 c.uid,.int .i64 c.gid,.slice (c.gs.map iV) .none],.agg [.slice (L.map .str) q,.int .i64 i,.int .i64 k,.bool false,.int .i64 0,.str [],.int .i64 0,.int .i64 0],.bool fl] h live (.agg (wkC (takeW T c fl i k (L.getD 0 []) (L.drop 1)))):=by
 refine aq_ Tryz.func189 fun hH hX=>?_
 have hll:=refL_len hT
 have hhi:=hT.hi
 have hpn:=par_nn hT i
 have hnd:=refL_nd hT
 have hld:(L.drop 1).length=L.length - 1:=List.length_drop
 refine rg_ [3,4,5,6,8] ?_
 refine rg_ [3,4,5,6,8,9] ?_
 refine rg_ [3,4,5,6,8,9] ?_
 refine rs_ [3,4,5,6,8,9,10] ?_
 refine sg_ ?_
 refine cl_ (hc:=(rGet_eq hT i▸c54 (refL T) i _ _ (by omega))) (k:=?_)
 refine sre_ ?_
 refine sk_ fun K1 hK1=>?_
 refine rg_ [3,4,5,6,8,9,10,29] ?_
 refine cx_ (fun hb1=>?_) (fun hb1=>?_)
 ·
  refine rs_ [8] ?_
  refine cl_ (hc:=c219 20 _ _) (k:=?_)
  refine srt_ ?_
  refine fq_ Tryz.results189 ?_ (hcl:=(by first | exact trivial | exact clL_wkC _ _ | (simp [AV.cl,AV.clL,AV.erL,AV.er,clL_str,clL_tl,erL_strs, -List.map_map, -List.map_append];done)))
  exact rk_ (by unfold takeW;rw [if_pos hb1];try rfl)
 refine skp_ ?_
 refine hK1 _ ?_
 refine rs_ [3,4,6,8,9,10,11] ?_
 refine sg_ ?_
 refine cl_ (hc:=(rCan_eq hT c i 1▸c144 (refL T) c i 1 _ _ (by omega) hgs)) (k:=?_)
 refine sre_ ?_
 refine sk_ fun K2 hK2=>?_
 refine rg_ [3,4,6,8,9,10,37] ?_
 refine cx_ (fun hb2=>?_) (fun hb2=>?_)
 ·
  refine rs_ [8] ?_
  refine cl_ (hc:=c219 13 _ _) (k:=?_)
  refine srt_ ?_
  refine fq_ Tryz.results189 ?_ (hcl:=(by first | exact trivial | exact clL_wkC _ _ | (simp [AV.cl,AV.clL,AV.erL,AV.er,clL_str,clL_tl,erL_strs, -List.map_map, -List.map_append];done)))
  exact rk_ (by unfold takeW;rw [if_neg (fun h=>h hb1),if_pos hb2];try rfl)
 refine skp_ ?_
 refine hK2 _ ?_
 refine sk_ fun K3 hK3=>?_
 refine rg_ [3,4,6,8,9,10,40] ?_
 refine cx_ (fun hb3=>?_) (fun hb3=>?_)
 ·
  refine rg_ [8] ?_
  refine ret_ ?_
  refine fq_ Tryz.results189 ?_ (hcl:=(by first | exact trivial | exact clL_wkC _ _ | (simp [AV.cl,AV.clL,AV.erL,AV.er,clL_str,clL_tl,erL_strs, -List.map_map, -List.map_append];done)))
  exact rk_ (by unfold takeW;rw [if_neg (fun h=>h hb1),if_neg (by rw [hb2];decide),if_pos hb3];try rfl)
 refine skp_ ?_
 refine hK3 _ ?_
 refine sk_ fun K4 hK4=>?_
 refine rg_ [3,4,6,8,9,10,43] ?_
 refine cx_ (fun hb4=>?_) (fun hb4=>?_)
 ·
  refine sk_ fun K5 hK5=>?_
  refine rs_ [4,6,8,48] ?_
  refine sg_ ?_
  refine cl_ (hc:=(rPar_eq hT i▸c220 (refL T) i _ _ (by omega) hnd)) (k:=?_)
  refine sre_ ?_
  refine cx_ (fun hb5=>?_) (fun hb5=>?_)
  ·
   refine rt_ [6,8] ?_
   refine sg_ ?_
   refine cl_ (hc:=(rPar_eq hT i▸c220 (refL T) i _ _ (by omega) hnd)) (k:=?_)
   refine srn_ ?_
   refine hK5 _ ?_
   refine rg_ [8] ?_
   refine ret_ ?_
   refine fq_ Tryz.results189 ?_ (hcl:=(by first | exact trivial | exact clL_wkC _ _ | (simp [AV.cl,AV.clL,AV.erL,AV.er,clL_str,clL_tl,erL_strs, -List.map_map, -List.map_append];done)))
   exact rk_ (by unfold takeW;rw [if_neg (fun h=>h hb1),if_neg (by rw [hb2];decide),if_neg hb3,if_pos hb4,if_pos (by omega)];try rfl)
  refine skp_ ?_
  refine hK5 _ ?_
  refine rg_ [8] ?_
  refine ret_ ?_
  refine fq_ Tryz.results189 ?_ (hcl:=(by first | exact trivial | exact clL_wkC _ _ | (simp [AV.cl,AV.clL,AV.erL,AV.er,clL_str,clL_tl,erL_strs, -List.map_map, -List.map_append];done)))
  exact rk_ (by unfold takeW;rw [if_neg (fun h=>h hb1),if_neg (by rw [hb2];decide),if_neg hb3,if_pos hb4,if_neg (by omega)];try rfl)
 refine skp_ ?_
 refine hK4 _ ?_
 refine sk_ fun K6 hK6=>?_
 refine rg_ [3,4,6,8,9,10,57] ?_
 refine cx_ (fun hb6=>?_) (fun hb6=>?_)
 ·
  refine rs_ [8] ?_
  refine cl_ (hc:=c219 36 _ _) (k:=?_)
  refine srt_ ?_
  refine fq_ Tryz.results189 ?_ (hcl:=(by first | exact trivial | exact clL_wkC _ _ | (simp [AV.cl,AV.clL,AV.erL,AV.er,clL_str,clL_tl,erL_strs, -List.map_map, -List.map_append];done)))
  exact rk_ (by unfold takeW;rw [if_neg (fun h=>h hb1),if_neg (by rw [hb2];decide),if_neg hb3,if_neg hb4,if_pos (by omega)];try rfl)
 refine skp_ ?_
 refine hK6 _ ?_
 refine rs_ [3,4,6,8,9,12] ?_
 refine sg_ ?_
 refine cl_ (hc:=c221 (T.get i).1 _ _ _ (get_ok hT _)) (k:=?_)
 refine sre_ ?_
 refine rg_ [3,4,6,8,9,12,13] ?_
 refine sk_ fun K7 hK7=>?_
 refine rg_ [3,4,6,8,9,12,13,71] ?_
 refine cx_ (fun hb7=>?_) (fun hb7=>?_)
 ·
  refine rs_ [8] ?_
  refine cl_ (hc:=c219 2 _ _) (k:=?_)
  refine srt_ ?_
  refine fq_ Tryz.results189 ?_ (hcl:=(by first | exact trivial | exact clL_wkC _ _ | (simp [AV.cl,AV.clL,AV.erL,AV.er,clL_str,clL_tl,erL_strs, -List.map_map, -List.map_append];done)))
  exact rk_ (by unfold takeW;rw [if_neg (fun h=>h hb1),if_neg (by rw [hb2];decide),if_neg hb3,if_neg hb4,if_neg (by omega),if_pos ⟨hb7.1,by omega⟩];try rfl)
 refine skp_ ?_
 refine hK7 _ ?_
 refine rs_ [3,6,8,9,12,13,14] ?_
 refine sg_ ?_
 refine cl_ (hc:=(rGet_eq hT _▸c54 (refL T) _ _ _ (by omega))) (k:=?_)
 refine sre_ ?_
 refine sk_ fun K8 hK8=>?_
 refine rg_ [6,8,9,12,13,14,85] ?_
 refine cx_ (fun hb8=>?_) (fun hb8=>?_)
 ·
  have htl:=hR.link hT hb8.1
  refine rs_ [8] ?_
  refine sg_ ?_
  refine cl_ (hc:=c222 (L.drop 1) _ i k _ _ _ htl (by omega) hk0) (k:=?_)
  refine srt_ ?_
  refine fq_ Tryz.results189 ?_ (hcl:=(by first | exact trivial | exact clL_wkC _ _ | (simp [AV.cl,AV.clL,AV.erL,AV.er,clL_str,clL_tl,erL_strs, -List.map_map, -List.map_append];done)))
  exact rk_ (by unfold takeW;rw [if_neg (fun h=>h hb1),if_neg (by rw [hb2];decide),if_neg hb3,if_neg hb4,if_neg (by omega),if_neg (fun h=>by have:=hb7 h.1;omega),if_pos ⟨hb8.1,hb8.2.symm.imp id (fun _=>by omega)⟩];try rfl)
 refine skp_ ?_
 refine hK8 _ ?_
 refine sk_ fun K9 hK9=>?_
 refine rg_ [6,8,9,12,90] ?_
 refine cx_ (fun hb9=>?_) (fun hb9=>?_)
 ·
  refine rg_ [8] ?_
  refine ret_ ?_
  refine fq_ Tryz.results189 ?_ (hcl:=(by first | exact trivial | exact clL_wkC _ _ | (simp [AV.cl,AV.clL,AV.erL,AV.er,clL_str,clL_tl,erL_strs, -List.map_map, -List.map_append];done)))
  exact rk_ (by unfold takeW;rw [if_neg (fun h=>h hb1),if_neg (by rw [hb2];decide),if_neg hb3,if_neg hb4,if_neg (by omega),if_neg (fun h=>by have:=hb7 h.1;omega),if_neg (fun h=>by obtain ⟨h1,h2⟩:=hb8 h.1;exact h.2.elim (fun e=>by rw [h2] at e;cases e) (fun e=>by omega)),if_pos (by omega)];try rfl)
 refine skp_ ?_
 refine hK9 _ ?_
 refine rg_ [6,8] ?_
 refine rg_ [8] ?_
 refine ret_ ?_
 refine fq_ Tryz.results189 ?_ (hcl:=(by first | exact trivial | exact clL_wkC _ _ | (simp [AV.cl,AV.clL,AV.erL,AV.er,clL_str,clL_tl,erL_strs, -List.map_map, -List.map_append];done)))
 exact rk_ (by unfold takeW;rw [if_neg (fun h=>h hb1),if_neg (by rw [hb2];decide),if_neg hb3,if_neg hb4,if_neg (by omega),if_neg (fun h=>by have:=hb7 h.1;omega),if_neg (fun h=>by obtain ⟨h1,h2⟩:=hb8 h.1;exact h.2.elim (fun e=>by rw [h2] at e;cases e) (fun e=>by omega)),if_neg (by omega)];try rfl)
theorem wkC_len (w:Wk):(wkC w).length=8:=rfl
theorem wkC_0 (w:Wk):(wkC w)[0]? = some (.slice (w.l.map .str) .none):=rfl
theorem wkC_1 (w:Wk):(wkC w)[1]? = some (.int .i64 w.i):=rfl
theorem wkC_3 (w:Wk):(wkC w)[3]? = some (.bool w.d):=rfl
theorem wkC_7 (w:Wk):(wkC w)[7]? = some (.int .i64 w.e):=rfl
theorem wkC_4 (w:Wk):((wkC w).drop 4).take 3=[.int .i64 w.r.1,.str w.r.2.1,.int .i64 w.r.2.2]:=rfl
theorem wkC_put (w v:Wk):putAt (wkC w) 0 (wkC v)=wkC v:=rfl
attribute [push_cast] wkC_len wkC_0 wkC_1 wkC_3 wkC_7 wkC_4 wkC_put
def InvW (T:Tab) (c:Cr) (fl:Bool) (R:Fo) (m:Nat) (w:Wk):Prop:=(w.d=false→∃l i k,w=onW l i k∧R=resL T c fl m i k l∧0≤k∧k≤8∧(8 - k)*100+l.length<m∧m≤1000)∧(w.d=true→R=(w.r,w.e))
theorem InvW.next {T:Tab} (hT:T.Ok) (hR:T.Rt) {c:Cr} {fl:Bool} {R:Fo} {m:Nat} {l:List (List UInt8)} {i k:Int} (hl:0<l.length) (h:R=resL T c fl (m+1) i k l) (h0:0≤k∧k≤8) (h1:(8 - k)*100+l.length<(m+1:Nat)) (h2:m+1≤1000):InvW T c fl R m (takeW T c fl i k (l.getD 0 []) (l.drop 1)):=by
 have hlc:l=l.getD 0 []::l.drop 1:=by
  cases l with
  | nil=>cases hl
  | cons a l=>rfl
 rw [hlc,take_res] at h
 have hld:(l.drop 1).length=l.length - 1:=List.length_drop
 refine ⟨fun hd=>?_,fun hd=>?_⟩
 ·
  rw [if_neg (by rw [hd];decide)] at h
  obtain ⟨l',i',k',e,hc⟩:=take_on T c fl i k _ _ hd
  rw [e] at h
  refine ⟨l',i',k',e,h,?_⟩
  rcases hc with ⟨rfl,rfl⟩ | ⟨hk,rfl,t,⟨ht3,rfl⟩,rfl⟩
  · omega
  ·
   have:=splitL_bd (hR.link hT ht3)
   rw [List.length_append];omega
 · rw [if_pos hd] at h;exact h
theorem c142 (T:Tab) (c:Cr) (p:List UInt8) (fl:Bool) (h:List Blk) (live:List Nat) (hT:T.Ok) (hR:T.Rt) (hgs:c.gs.length≤1000000000) (hp:p.length≤9223372036854775807):AC Tryz.prog 142 [tV (refL T),.agg [.int .i64 c.uid,.int .i64 c.gid,.slice (c.gs.map iV) .none],.str p,.bool fl] h live (foV (resF T c p fl)):=by
 refine aq_ Tryz.func142 fun hH hX=>?_
 unfold tV
 have hll:=refL_len hT
 have hhi:=hT.hi
 have hB:∀w:Wk,HCl (h++[.cells [.slice ((refL T).map nV) .none],.cells [.int .i64 c.uid,.int .i64 c.gid,.slice (c.gs.map iV) .none],.cells [.int .i64 0,.str [],.int .i64 0],.cells (wkC w)]):=fun w=>by
  have:=(((HCl.snoc hH (b:=.cells [.slice ((refL T).map nV) .none]) (by simp [Blk.cl,AV.cl,AV.clL,clL_nV, -List.map_map])).snoc (b:=.cells [.int .i64 c.uid,.int .i64 c.gid,.slice (c.gs.map iV) .none]) (by simp [Blk.cl,AV.cl,AV.clL,clL_iV, -List.map_map])).snoc (b:=.cells [.int .i64 0,.str [],.int .i64 0]) ⟨trivial,trivial,trivial,trivial⟩).snoc (b:=.cells (wkC w)) (clL_wkC _ _)
  rw [List.append_assoc,List.append_assoc,List.append_assoc] at this;exact this
 have sx:=(And.intro @Bool.true_and (And.intro @Bool.and_true sx0))
 refine rg_ [2,3,4,5,8] ?_
 refine rs_ [2,3,4,5,8,10] ?_
 refine sg_ ?_
 refine cl_ (hc:=c187 T p _ _ hT hp) (k:=?_)
 refine sre_ ?_
 refine sk_ fun K1 hK1=>?_
 refine rg_ [2,3,4,5,8,10,18] ?_
 refine cdn_ (ht:=fun hb1=>?_) (hf:=fun hb1=>?_)
 ·
  have hfe:fitE T p≠0:=by simpa using hb1
  refine rg_ [8,9] ?_
  refine ret_ ?_
  refine fq_ Tryz.results142 ?_
  exact rk_ (by unfold resF;rw [if_pos hfe];rfl)
 have hfe:fitE T p=0:=by omega
 have hpl:=fitE_len hfe
 have hsb:=splitL_bd hpl
 have hrF:resF T c p fl=resL T c fl 1000 1 0 (splitL p):=by unfold resF;rw [if_neg (fun h=>h hfe)]
 refine skp_ ?_
 refine hK1 _ ?_
 refine rs_ [3,4,5,8,12] ?_
 refine sg_ ?_
 refine cl_ (hc:=c188 p _ _ (by omega)) (k:=?_)
 refine sre_ ?_
 refine rg_ [3,4,5,8,13] ?_
 refine sk_ fun K2 hK2=>?_
 refine awp_block ?_
 refine lp_ (X:={x:Nat×Wk // InvW T c fl (resL T c fl 1000 1 0 (splitL p)) x.1 x.2}) (fun x=>⟨Tryz.f142.ntmps,fget [(3,.bool fl),(4,.ptr h.length 0),(5,.ptr (h.length+1) 0),(8,.ptr (h.length+2) 0),(13,.ptr (h.length+3) 0)],h++[.cells [.slice ((refL T).map nV) .none],.cells [.int .i64 c.uid,.int .i64 c.gid,.slice (c.gs.map iV) .none],.cells [.int .i64 0,.str [],.int .i64 0],.cells (wkC x.1.2)],live⟩) (fun x=>x.1.1) (⟨⟨1000,onW (splitL p) 1 0⟩,fun _=>⟨_, _, _,rfl,rfl,by omega,by omega,by omega,by omega⟩,fun h=>Bool.noConfusion h⟩) ?_ (fun ⟨⟨m0,w⟩,hw⟩=>?_)
 ·
  try dsimp only
  exact tf_ (hB _) (fun _ h=>h)
 try dsimp only
 dsimp only at hw
 refine sk_ fun K3 hK3=>?_
 refine rg_ [3,4,5,8,13,36] ?_
 refine cy_ (fun hb2=>?_) (fun hb2=>?_)
 rotate_left
 ·
  refine awp_exit (up_ ?_)
  refine hK2 _ ?_
  refine sk_ fun K4 hK4=>?_
  refine rg_ [8,13,43] ?_
  refine cy_ (fun hb3=>?_) (fun hb3=>?_)
  ·
   have hre:=hw.2 hb3
   refine rsq_ [8,9] ⟨false,[(h.length+3,4,.agg 3),(h.length+3,7,.one)],[45,47],[8],[],[],0⟩ (fun _=>⟨by kernel_rfl,by kernel_rfl⟩) ?_
   refine sg_ ?_
   refine df_ ?_
   refine sg_ ?_
   refine df_ ?_
   refine dgs_ ?_
   refine srt_ ?_
   refine fq_ Tryz.results142 ?_
   exact rk_ (by rw [hrF,hre];rfl)
  obtain ⟨l,i,k,rfl,hres,hk0,hk8,hmu,hm1⟩:=hw.1 hb3
  have hl0:l=[]:=by
   rw [hb3,Bool.not_false,Bool.and_true,decide_eq_false_iff_not] at hb2
   have h9:¬(0:Int)<l.length:=hb2
   exact List.eq_nil_of_length_eq_zero (by omega)
  obtain ⟨m,rfl⟩:∃m,m0=m+1:=⟨m0 - 1,by omega⟩
  refine skp_ ?_
  refine hK4 _ ?_
  refine rg_ [8,9] ?_
  refine ret_ ?_
  refine fq_ Tryz.results142 ?_
  exact rk_ (by rw [hrF,hres,hl0,resL_nil];rfl)
 rw [Bool.and_eq_true,decide_eq_true_eq,Bool.not_eq_true'] at hb2
 obtain ⟨hb21,hwd⟩:=hb2
 obtain ⟨l,i,k,rfl,hres,hk0,hk8,hmu,hm1⟩:=hw.1 hwd
 obtain ⟨m,rfl⟩:∃m,m0=m+1:=⟨m0 - 1,by omega⟩
 have hl0:0<l.length:=by
  have h9:(0:Int)<l.length:=hb21
  omega
 have hl9:l.length≤100000:=by omega
 refine skp_ ?_
 refine hK3 _ ?_
 refine awp_block ?_
 refine rt_ [3,4,5,8,13] ?_
 refine sg_ ?_
 refine cl_ (hc:=c189 T c fl l .none i k _ _ hT hR hgs hl0 hl9 ⟨hk0,hk8⟩) (k:=?_)
 refine srn_ ?_
 refine ln_ ⟨⟨m,takeW T c fl i k (l.getD 0 []) (l.drop 1)⟩,InvW.next hT hR hl0 hres ⟨hk0,hk8⟩ hmu hm1⟩ ?_
 try dsimp only
 exact tf_ (hB _) (fun _ h=>h)
end Go.Proofs.YtegffmibifodcaaGreat

/-
  THE DOCUMENT: to look.
-/
namespace Go.Proofs.YtegffmibifodcaaGreat
open Go.Ab
set_option maxRecDepth 8000
set_option maxHeartbeats 400000
theorem get_0 {T:Tab} (hT:T.Ok):T.get 0=(nd0,false):=by rw [get_eq hT,if_neg (by omega)]
theorem ent_is {T:Tab} (hT:T.Ok) {d:Int} {e:En} (h:Ent T d e):(T.get d).2=true:=by
 cases hg:(T.get d).2 with
 | true=>rfl
 | false=>
  exfalso
  unfold Ent at h
  cases ha:T.at d with
  | none=>rw [get_no ha] at h;cases h
  | some j=>rw [get_at ha] at hg;cases hg
theorem par_ent {T:Tab} (hT:T.Ok) {i:Int} (h:T.parent i≠0):∃e,Ent T (T.parent i) e:=by
 rw [←rPar_eq hT] at h ⊢
 unfold rPar at h ⊢
 split at h
 · exact absurd rfl h
 ·
  rename_i hc
  rw [if_neg hc]
  have hr:=idxP_range (hasK i) (refL T)
  obtain ⟨k,hk⟩:=Int.eq_ofNat_of_zero_le (show 0≤idxP (hasK i) (refL T) by omega)
  have hh:=idxP_hit (hasK i) nd0 (refL T) (k:=k) hk
  rw [refL_len hT] at hr
  have hlo:=hT.lo
  have hg:=rGet_eq hT ((k:Int)+1)
  unfold rGet at hg
  rw [refL_len hT,decide_eq_false (by omega),decide_eq_false (by omega),show ((k:Int)+1 - 1).toNat=k by omega] at hg
  have hg':(refL T).getD k nd0=(T.get ((k:Int)+1)).1:=hg
  rw [hg',hasK_ents] at hh
  obtain ⟨e,he, _⟩:=List.any_eq_true.1 hh
  rw [hk]
  exact ⟨e,he⟩
theorem par_is {T:Tab} (hT:T.Ok) {i:Int} (h:T.parent i≠0):(T.get (T.parent i)).2=true:=(par_ent hT h).elim fun _ he=>ent_is hT he
theorem findF_is {T:Tab} (hT:T.Ok) {o X:List Int} (hW:TreeW T o X) (i:Int) (s:List UInt8):(T.get (findF (T.get i).1 s)).2=!decide (findF (T.get i).1 s=0):=by
 by_cases h:findF (T.get i).1 s=0
 · rw [h,get_0 hT];rfl
 ·
  rw [decide_eq_false h]
  unfold findF at h ⊢
  split at h
  ·
   rename_i hc
   rw [if_pos hc]
   have hr:=idxP_range (eqS s) (T.get i).1.ents
   refine hW.kid i _ (show _∈(T.get i).1.ents from ?_)
   have hl:(idxP (eqS s) (T.get i).1.ents).toNat<(T.get i).1.ents.length:=by omega
   rw [List.getD_eq_getElem?_getD,List.getElem?_eq_getElem hl]
   exact List.getElem_mem hl
  · exact absurd rfl h
theorem resL_is {T:Tab} (hT:T.Ok) {o X:List Int} (hW:TreeW T o X) (c:Cr) (fl:Bool):∀(n:Nat) (i k:Int) (l:List (List UInt8)),(T.get i).2=true→(resL T c fl n i k l).2=0→(T.get (resL T c fl n i k l).1.2.2).2=!decide ((resL T c fl n i k l).1.2.2=0)
 | 0, _, _, _, _, _=>by
  show (T.get 0).2=_
  rw [get_0 hT];rfl
 | n+1,i,k,[],hi, _=>by
  show (T.get i).2=!decide (i=0)
  have:i≠0:=fun e=>by rw [e,get_0 hT] at hi;cases hi
  rw [hi,decide_eq_false this];rfl
 | n+1,i,k,s::l,hi,hz=>by
  have hf:=findF_is hT hW i s
  rw [resL_cons] at hz ⊢
  by_cases h1:(T.get i).1.kind≠2
  · rw [if_pos h1] at hz;cases hz
  rw [if_neg h1] at hz ⊢
  by_cases h2:canT c T i 1=false
  · rw [if_pos h2] at hz;cases hz
  rw [if_neg h2] at hz ⊢
  by_cases h3:s=[46]
  · rw [if_pos h3] at hz ⊢;exact resL_is hT hW c fl n i k l hi hz
  rw [if_neg h3] at hz ⊢
  by_cases h4:s=[46,46]
  ·
   rw [if_pos h4] at hz ⊢
   refine resL_is hT hW c fl n _ k l ?_ hz
   split
   · rename_i hp;exact par_is hT hp
   · exact hi
  rw [if_neg h4] at hz ⊢
  by_cases h5:(12:Int)<s.length
  · rw [if_pos h5] at hz;cases hz
  rw [if_neg h5] at hz ⊢
  by_cases h6:findF (T.get i).1 s=0∧(0:Int)<l.length
  · rw [if_pos h6] at hz;cases hz
  rw [if_neg h6] at hz ⊢
  by_cases h7:(T.get (findF (T.get i).1 s)).1.kind=3∧(fl=true∨(0:Int)<l.length)
  ·
   rw [if_pos h7] at hz ⊢
   by_cases h8:k=8
   · rw [if_pos h8] at hz;cases hz
   rw [if_neg h8] at hz ⊢
   refine resL_is hT hW c fl n _ _ _ ?_ hz
   split
   · exact get_kind_at (by rw [hW.root];decide)
   · exact hi
  rw [if_neg h7] at hz ⊢
  by_cases h8:(l.length:Int)=0
  · rw [if_pos h8];exact hf
  rw [if_neg h8] at hz ⊢
  refine resL_is hT hW c fl n _ k l ?_ hz
  rw [hf,decide_eq_false (fun e=>h6 ⟨e,by omega⟩)];rfl
theorem res_is {T:Tab} (hT:T.Ok) {o X:List Int} (hW:TreeW T o X) (c:Cr) (p:List UInt8) (fl:Bool) (hz:rE T c p fl=0):(T.get (rN T c p fl)).2=!decide (rN T c p fl=0):=by
 unfold rE rN at *
 unfold resF at hz ⊢
 split
 · rename_i h;rw [if_pos h] at hz;exact absurd hz h
 ·
  rename_i h
  rw [if_neg h] at hz
  exact resL_is hT hW c fl _ _ _ _ (get_kind_at (by rw [hW.root];decide)) hz
theorem statF_e {T:Tab} {c:Cr} {p:List UInt8} {fl:Bool} (h:rE T c p fl≠0):statF T c p fl=(sta0,rE T c p fl):=by unfold statF;rw [if_pos h]
theorem statF_n {T:Tab} (hT:T.Ok) {o X:List Int} (hW:TreeW T o X) {c:Cr} {p:List UInt8} {fl:Bool} (h:rE T c p fl=0) (h1:rN T c p fl=0):statF T c p fl=(sta0,2):=by
 have:=res_is hT hW c p fl h
 rw [decide_eq_true h1] at this
 unfold statF;rw [if_neg (fun k=>k h),if_neg (by rw [show (T.get (resF T c p fl).1.2.2).2=false from this];decide)]
theorem statF_y {T:Tab} (hT:T.Ok) {o X:List Int} (hW:TreeW T o X) {c:Cr} {p:List UInt8} {fl:Bool} (h:rE T c p fl=0) (h1:rN T c p fl≠0):statF T c p fl=(staF T (rN T c p fl),0):=by
 have:=res_is hT hW c p fl h
 rw [decide_eq_false h1] at this
 unfold statF;rw [if_neg (fun k=>k h),if_pos (show _=true from this)]
theorem resV_eq (r:Fo):foV r=.tup [.agg [.int .i64 r.1.1,.str r.1.2.1,.int .i64 r.1.2.2],.int .i64 r.2]:=rfl
theorem c143 (T:Tab) (i:Int) (h:List Blk) (live:List Nat) (hT:T.Ok):AC Tryz.prog 143 [tV (refL T),.int .i64 i] h live (.agg (staC (staF T i))):=by
 refine aq_ Tryz.func143 fun hH hX=>?_
 have hll:=refL_len hT
 have hhi:=hT.hi
 have hgk:=get_kind hT i
 refine rg_ [1,2,4] ?_
 refine rs_ [1,2,4,5] ?_
 refine sg_ ?_
 refine cl_ (hc:=(rGet_eq hT i▸c54 (refL T) i _ _ (by omega))) (k:=?_)
 refine sre_ ?_
 refine sk_ fun K1 hK1=>?_
 refine rg_ [1,2,4,5,11] ?_
 refine cx_ (fun hb1=>?_) (fun hb1=>?_)
 ·
  rw [decide_eq_true hb1] at hgk
  have hst:=staF_no (T:=T) (i:=i) hgk
  refine rg_ [4] ?_
  refine ret_ ?_
  refine fq_ Tryz.results143 ?_
  exact rk_ (by rw [hst];rfl)
 rw [decide_eq_false hb1] at hgk
 have hst:staF T i=⟨i,(T.get i).1.kind,(T.get i).1.mode,(T.get i).1.uid,(T.get i).1.gid,T.links i,sizeF (T.get i).1⟩:=by unfold staF;rw [if_pos (show _=true from hgk)]
 refine skp_ ?_
 refine hK1 _ ?_
 refine rsq_ [4] ⟨true,[],[],[],[],[],0⟩ (fun _=>⟨by kernel_rfl,by kernel_rfl⟩) ?_
 refine sg_ ?_
 refine cr_ (hc:=c158 T i _ _ hT) (k:=?_)
 refine sg_ ?_
 refine cr_ (hc:=c190 _ _ _) (k:=?_)
 refine srt_ ?_
 refine fq_ Tryz.results143 ?_
 exact rk_ (by rw [hst];rfl)
theorem c86 (T:Tab) (c:Cr) (p:List UInt8) (fl:Bool) (o:List Int) (h:List Blk) (live:List Nat) (hT:T.Ok) (hR:T.Rt) (hW:TreeW T o []) (hgs:c.gs.length≤1000000000) (hp:p.length≤9223372036854775807):AC Tryz.prog 86 [tV (refL T),.agg [.int .i64 c.uid,.int .i64 c.gid,.slice (c.gs.map iV) .none],.str p,.bool fl] h live (.tup [.agg (staC (statF T c p fl).1),.int .i64 (statF T c p fl).2]):=by
 refine aq_ Tryz.func86 fun hH hX=>?_
 have hll:=refL_len hT
 have hhi:=hT.hi
 have sx:=(And.intro @resV_eq sx0)
 refine rg_ [2,3,4,5,8] ?_
 refine rs_ [4,8,10,11] ?_
 refine sg_ ?_
 refine cl_ (hc:=c142 T c p fl _ _ hT hR hgs hp) (k:=?_)
 refine sre_ ?_
 refine sk_ fun K1 hK1=>?_
 refine rg_ [4,8,10,11,21] ?_
 refine cx_ (fun hb1=>?_) (fun hb1=>?_)
 ·
  have hst:=statF_e hb1
  refine rg_ [8,9] ?_
  refine ret_ ?_
  refine fq_ Tryz.results86 ?_
  exact rk_ (by rw [hst];rfl)
 refine skp_ ?_
 refine hK1 _ ?_
 refine sk_ fun K2 hK2=>?_
 refine rg_ [4,8,10,26] ?_
 refine cx_ (fun hb2=>?_) (fun hb2=>?_)
 ·
  have hst:=statF_n hT hW hb1 hb2
  refine rg_ [8,9] ?_
  refine ret_ ?_
  refine fq_ Tryz.results86 ?_
  exact rk_ (by rw [hst];rfl)
 have hst:=statF_y hT hW hb1 hb2
 refine skp_ ?_
 refine hK2 _ ?_
 refine rs_ [8,9] ?_
 refine sg_ ?_
 refine cl_ (hc:=c143 T _ _ _ hT) (k:=?_)
 refine srt_ ?_
 refine fq_ Tryz.results86 ?_
 exact rk_ (by rw [hst])
theorem c87 (T:Tab) (c:Cr) (p:List UInt8) (o:List Int) (h:List Blk) (live:List Nat) (hT:T.Ok) (hR:T.Rt) (hW:TreeW T o []) (hgs:c.gs.length≤1000000000) (hp:p.length≤9223372036854775807):AC Tryz.prog 87 [tV (refL T),.agg [.int .i64 c.uid,.int .i64 c.gid,.slice (c.gs.map iV) .none],.str p] h live (.tup [.str (readlinkF T c p).1,.int .i64 (readlinkF T c p).2]):=by
 refine aq_ Tryz.func87 fun hH hX=>?_
 have hll:=refL_len hT
 have hhi:=hT.hi
 refine rg_ [2,3,4] ?_
 refine rs_ [3,8,9] ?_
 refine sg_ ?_
 refine cl_ (hc:=c86 T c p false o _ _ hT hR hW hgs hp) (k:=?_)
 refine sre_ ?_
 refine sk_ fun K1 hK1=>?_
 refine rg_ [3,8,9,18] ?_
 refine cx_ (fun hb1=>?_) (fun hb1=>?_)
 ·
  refine rg_ [6,7] ?_
  refine ret_ ?_
  refine fq_ Tryz.results87 ?_
  exact rk_ (by unfold readlinkF;rw [if_pos hb1])
 refine skp_ ?_
 refine hK1 _ ?_
 refine sk_ fun K2 hK2=>?_
 refine rg_ [3,8,22] ?_
 refine cx_ (fun hb2=>?_) (fun hb2=>?_)
 ·
  refine rg_ [6,7] ?_
  refine ret_ ?_
  refine fq_ Tryz.results87 ?_
  exact rk_ (by unfold readlinkF;rw [if_neg (fun k=>k hb1),if_pos hb2])
 refine skp_ ?_
 refine hK2 _ ?_
 refine rs_ [6,7] ?_
 refine sg_ ?_
 refine cl_ (hc:=(rGet_eq hT _▸c54 (refL T) _ _ _ (by omega))) (k:=?_)
 refine srt_ ?_
 refine fq_ Tryz.results87 ?_
 exact rk_ (by unfold readlinkF;rw [if_neg (fun k=>k hb1),if_neg (fun k=>k hb2)])
theorem c88 (T:Tab) (c:Cr) (p:List UInt8) (o:List Int) (h:List Blk) (live:List Nat) (hT:T.Ok) (hR:T.Rt) (hW:TreeW T o []) (hgs:c.gs.length≤1000000000) (hp:p.length≤9223372036854775807):AC Tryz.prog 88 [tV (refL T),.agg [.int .i64 c.uid,.int .i64 c.gid,.slice (c.gs.map iV) .none],.str p] h live (.tup [.slice ((listF T c p).1.map .str) .none,.int .i64 (listF T c p).2]):=by
 refine aq_ Tryz.func88 fun hH hX=>?_
 have hll:=refL_len hT
 have hhi:=hT.hi
 refine rg_ [2,3,4] ?_
 refine rs_ [3,4,8,9] ?_
 refine sg_ ?_
 refine cl_ (hc:=c86 T c p true o _ _ hT hR hW hgs hp) (k:=?_)
 refine sre_ ?_
 refine sk_ fun K1 hK1=>?_
 refine rg_ [3,4,8,9,19] ?_
 refine cx_ (fun hb1=>?_) (fun hb1=>?_)
 ·
  refine rg_ [6,7] ?_
  refine ret_ ?_
  refine fq_ Tryz.results88 ?_
  exact rk_ (by unfold listF;rw [if_pos hb1];rfl)
 refine skp_ ?_
 refine hK1 _ ?_
 refine sk_ fun K2 hK2=>?_
 refine rg_ [3,4,8,23] ?_
 refine cx_ (fun hb2=>?_) (fun hb2=>?_)
 ·
  refine rg_ [6,7] ?_
  refine ret_ ?_
  refine fq_ Tryz.results88 ?_
  exact rk_ (by unfold listF;rw [if_neg (fun k=>k hb1),if_pos hb2];rfl)
 refine skp_ ?_
 refine hK2 _ ?_
 refine rs_ [3,8,10] ?_
 refine sg_ ?_
 refine cl_ (hc:=(rCan_eq hT c _ 4▸c144 (refL T) c _ 4 _ _ (by omega) hgs)) (k:=?_)
 refine sre_ ?_
 refine sk_ fun K3 hK3=>?_
 refine rg_ [3,8,30] ?_
 refine cx_ (fun hb3=>?_) (fun hb3=>?_)
 ·
  refine rg_ [6,7] ?_
  refine ret_ ?_
  refine fq_ Tryz.results88 ?_
  exact rk_ (by unfold listF;rw [if_neg (fun k=>k hb1),if_neg (fun k=>k hb2),if_pos hb3];rfl)
 refine skp_ ?_
 refine hK3 _ ?_
 refine rs_ [6,7] ?_
 refine sg_ ?_
 refine cl_ (hc:=(rGet_eq hT _▸c54 (refL T) _ _ _ (by omega))) (k:=?_)
 refine srt_ ?_
 refine fq_ Tryz.results88 ?_
 exact rk_ (by unfold listF;rw [if_neg (fun k=>k hb1),if_neg (fun k=>k hb2),if_neg (by rw [hb3];decide)])
end Go.Proofs.YtegffmibifodcaaGreat

/-
  THE DOCUMENT: modes and owners changed.
-/
namespace Go.Proofs.YtegffmibifodcaaGreat
open Go.Ab
set_option maxRecDepth 8000
set_option maxHeartbeats 400000
theorem right_kind {n:Nd} (h:rightF n=true):n.kind=1∨n.kind=2∨n.kind=3:=by
 by_cases h1:n.kind=1
 · exact .inl h1
 by_cases h2:n.kind=2
 · exact .inr (.inl h2)
 rw [rightF_3 h1 h2] at h
 simp only [Bool.and_eq_true,decide_eq_true_eq] at h
 exact .inr (.inr h.1.1.1.1.2)
theorem right_v {n:Nd} (h:rightF n=true):rightV n=true:=by
 rcases right_kind h with k | k | k
 ·
  rw [rightF_1 k] at h
  simp only [Bool.and_eq_true] at h
  exact h.1.1.1
 ·
  rw [rightF_2 k] at h
  simp only [Bool.and_eq_true] at h
  exact h.1.1.1
 ·
  rw [rightF_3 (by omega) (by omega)] at h
  simp only [Bool.and_eq_true] at h
  exact h.1.1.1.1.1
theorem right_ids {n:Nd} (h:rightF n=true):(0≤n.mode∧n.mode≤4095)∧(0≤n.uid∧n.uid≤65535)∧(0≤n.gid∧n.gid≤65535):=by
 have:=right_v h
 unfold rightV inR at this
 simp only [Bool.and_eq_true,decide_eq_true_eq] at this
 exact ⟨this.1.1,this.1.2,this.2⟩
theorem right_link3 {n:Nd} (h:rightF n=true) (k:n.kind=3):n.mode=511∧n.ents=[]:=by
 rw [rightF_3 (by omega) (by omega)] at h
 simp only [Bool.and_eq_true,decide_eq_true_eq] at h
 exact ⟨h.1.2,List.eq_nil_of_length_eq_zero (by have:=h.1.1.2;omega)⟩
def chgN (n:Nd) (x u g:Int):Nd:=⟨n.kind,x,u,g,n.data,n.ents,n.target⟩
theorem right_chg {n:Nd} (h:rightF n=true) {x u g:Int} (hx:0≤x∧x≤4095) (hu:0≤u∧u≤65535) (hg:0≤g∧g≤65535) (h3:n.kind=3→x=511):rightF (chgN n x u g)=true:=by
 have hv:rightV (chgN n x u g)=true:=by
  unfold rightV inR
  simp only [Bool.and_eq_true,decide_eq_true_eq]
  exact ⟨⟨hx,hu⟩,hg⟩
 rcases right_kind h with k | k | k
 ·
  rw [rightF_1 k] at h
  rw [rightF_1 (show (chgN n x u g).kind=1 from k),hv]
  simp only [Bool.and_eq_true] at h
  obtain ⟨⟨⟨_,a⟩,b⟩,d⟩:=h
  show (true&&decide ((n.ents.length:Int)=0)&&decide (n.target=[])&&decide ((n.data.length:Int)≤48))=true
  rw [a,b,d];rfl
 ·
  rw [rightF_2 k] at h
  rw [rightF_2 (show (chgN n x u g).kind=2 from k),hv]
  simp only [Bool.and_eq_true] at h
  obtain ⟨⟨⟨_,a⟩,b⟩,d⟩:=h
  show (true&&decide (n.data=[])&&decide (n.target=[])&&risingF n.ents)=true
  rw [a,b,d];rfl
 ·
  rw [rightF_3 (by omega) (by omega)] at h
  have k':(chgN n x u g).kind=3:=k
  rw [rightF_3 (by omega) (by omega),hv]
  simp only [Bool.and_eq_true] at h
  obtain ⟨⟨⟨⟨⟨_,a⟩,b⟩,d⟩, _⟩,f⟩:=h
  show (true&&decide (n.kind=3)&&decide (n.data=[])&&decide ((n.ents.length:Int)=0)&&decide (x=511)&&fitsF n.target)=true
  rw [a,b,d,f,decide_eq_true (h3 k)];rfl
theorem modeF_bd (c:Cr) (kn gid m:Int):0≤modeF c kn gid m∧modeF c kn gid m≤4095:=by
 obtain ⟨a,ha4,ha⟩:=low_nat m
 unfold modeF
 rw [and4095,ha,an1024 ha4]
 obtain ⟨b,hb4,hb⟩:=without_bd (k:=10) (w:=1024) ha4 rfl
 rw [hb]
 cases (decide (c.uid=0)||!decide (kn=1)||memF c gid)
 ·
  show 0≤(b:Int)∧(b:Int)≤4095
  omega
 ·
  show 0≤(a:Int)∧(a:Int)≤4095
  omega
theorem writtenF_bd (c:Cr) (kn m:Int):0≤writtenF c kn m∧writtenF c kn m≤4095:=by
 obtain ⟨a,ha4,ha⟩:=low_nat m
 obtain ⟨b,hb4,hb⟩:=without_bd (k:=11) (w:=2048) ha4 rfl
 obtain ⟨d,hd4,hd⟩:=without_bd (k:=10) (w:=1024) hb4 rfl
 unfold writtenF clearF
 rw [and4095,ha,an2048 ha4,hb]
 cases fileF c kn
 ·
  show 0≤(a:Int)∧(a:Int)≤4095
  omega
 ·
  simp only [cond_true,Bool.true_and]
  rw [an1024 hb4,hd]
  cases !decide (bits .and .i64 (clsI (b:Int) 1) 1=0)
  ·
   show 0≤(b:Int)∧(b:Int)≤4095
   omega
  ·
   show 0≤(d:Int)∧(d:Int)≤4095
   omega
theorem writtenF_link (c:Cr):writtenF c 3 511=511:=by
 have hf:fileF c 3=false:=by
  unfold fileF
  rw [decide_eq_false (show ¬(3:Int)=1 by decide)];simp
 unfold writtenF clearF
 rw [hf,and4095];rfl
theorem ent_nl {T:Tab} (hT:T.Ok) (hR:T.Rt) {d:Int} {e:En} (h:Ent T d e):(T.get d).1.kind≠3:=fun k=>by
 have:=(right_link3 (hR.get (ent_is hT h)) k).2
 unfold Ent at h
 rw [this] at h;cases h
theorem resL_nl {T:Tab} (hT:T.Ok) (hR:T.Rt) {o X:List Int} (hW:TreeW T o X) (c:Cr):∀(n:Nat) (i k:Int) (l:List (List UInt8)),(T.get i).1.kind≠3→(resL T c true n i k l).2=0→(T.get (resL T c true n i k l).1.2.2).1.kind≠3
 | 0, _, _, _, _, _=>by
  show (T.get 0).1.kind≠3
  rw [get_0 hT];decide
 | n+1,i,k,[],hi, _=>hi
 | n+1,i,k,s::l,hi,hz=>by
  rw [resL_cons] at hz ⊢
  by_cases h1:(T.get i).1.kind≠2
  · rw [if_pos h1] at hz;cases hz
  rw [if_neg h1] at hz ⊢
  by_cases h2:canT c T i 1=false
  · rw [if_pos h2] at hz;cases hz
  rw [if_neg h2] at hz ⊢
  by_cases h3:s=[46]
  · rw [if_pos h3] at hz ⊢;exact resL_nl hT hR hW c n i k l hi hz
  rw [if_neg h3] at hz ⊢
  by_cases h4:s=[46,46]
  ·
   rw [if_pos h4] at hz ⊢
   refine resL_nl hT hR hW c n _ k l ?_ hz
   split
   · rename_i hp;exact (par_ent hT hp).elim fun _ he=>ent_nl hT hR he
   · exact hi
  rw [if_neg h4] at hz ⊢
  by_cases h5:(12:Int)<s.length
  · rw [if_pos h5] at hz;cases hz
  rw [if_neg h5] at hz ⊢
  by_cases h6:findF (T.get i).1 s=0∧(0:Int)<l.length
  · rw [if_pos h6] at hz;cases hz
  rw [if_neg h6] at hz ⊢
  by_cases h7:(T.get (findF (T.get i).1 s)).1.kind=3∧(true=true∨(0:Int)<l.length)
  ·
   rw [if_pos h7] at hz ⊢
   by_cases h8:k=8
   · rw [if_pos h8] at hz;cases hz
   rw [if_neg h8] at hz ⊢
   refine resL_nl hT hR hW c n _ _ _ ?_ hz
   split
   · rw [hW.root];decide
   · exact hi
  rw [if_neg h7] at hz ⊢
  have hk:(T.get (findF (T.get i).1 s)).1.kind≠3:=fun e=>h7 ⟨e,.inl rfl⟩
  by_cases h8:(l.length:Int)=0
  · rw [if_pos h8];exact hk
  rw [if_neg h8] at hz ⊢
  exact resL_nl hT hR hW c n _ k l hk hz
theorem res_nl {T:Tab} (hT:T.Ok) (hR:T.Rt) {o X:List Int} (hW:TreeW T o X) (c:Cr) (p:List UInt8) (hz:rE T c p true=0):(T.get (rN T c p true)).1.kind≠3:=by
 unfold rE rN at *
 unfold resF at hz ⊢
 split
 · rename_i h;rw [if_pos h] at hz;exact absurd hz h
 ·
  rename_i h
  rw [if_neg h] at hz
  exact resL_nl hT hR hW c _ _ _ _ (by rw [hW.root];decide) hz
theorem res_at {T:Tab} (hT:T.Ok) {o X:List Int} (hW:TreeW T o X) {c:Cr} {p:List UInt8} {fl:Bool} (hz:rE T c p fl=0) (hn:rN T c p fl≠0):∃j:Nat,T.at (rN T c p fl)=some j∧rN T c p fl=(j:Int)+1∧(j:Int)<T.room∧(T.get (rN T c p fl)).2=true:=by
 have h:=res_is hT hW c p fl hz
 rw [decide_eq_false hn] at h
 cases ha:T.at (rN T c p fl) with
 | none=>rw [get_no ha] at h;cases h
 | some j=>
  obtain ⟨_,h2,h3, _⟩:=at_some hT ha
  exact ⟨j,rfl,h2,by omega,h⟩
theorem chgF_e {T:Tab} {c:Cr} {p:List UInt8} {fl:Bool} (g:Nd→Nd×Int) (h:rE T c p fl≠0):chgF T c p fl g=(rE T c p fl,T):=by unfold chgF;rw [if_pos h]
theorem chgF_n {T:Tab} (hT:T.Ok) {o X:List Int} (hW:TreeW T o X) {c:Cr} {p:List UInt8} {fl:Bool} (g:Nd→Nd×Int) (h:rE T c p fl=0) (h1:rN T c p fl=0):chgF T c p fl g=(2,T):=by
 unfold chgF;rw [if_neg (fun k=>k h),if_pos (by rw [h1,get_0 hT])]
theorem chgF_f {T:Tab} {c:Cr} {p:List UInt8} {fl:Bool} {g:Nd→Nd×Int} (h:rE T c p fl=0) (h1:(T.get (rN T c p fl)).2=true) (h2:(g (T.get (rN T c p fl)).1).2≠0):chgF T c p fl g=((g (T.get (rN T c p fl)).1).2,T):=by
 unfold chgF;rw [if_neg (fun k=>k h),if_neg (by rw [h1];decide),if_pos h2]
theorem chgF_y {T:Tab} {c:Cr} {p:List UInt8} {fl:Bool} {g:Nd→Nd×Int} {j:Nat} (h:rE T c p fl=0) (h1:(T.get (rN T c p fl)).2=true) (h2:(g (T.get (rN T c p fl)).1).2=0) (h3:rightF (g (T.get (rN T c p fl)).1).1=true) (ha:T.at (rN T c p fl)=some j):chgF T c p fl g=(0,T.put j (g (T.get (rN T c p fl)).1).1):=by
 unfold chgF;rw [if_neg (fun k=>k h),if_neg (by rw [h1];decide),if_neg (fun k=>k h2)]
 unfold putT
 rw [ha]
 show (if rightF (g (T.get (rN T c p fl)).1).1=false then _ else _)=_
 rw [if_neg (by rw [h3];decide)]
end Go.Proofs.YtegffmibifodcaaGreat

/-
  THE DOCUMENT: modes and owners changed, the walks.
-/
namespace Go.Proofs.YtegffmibifodcaaGreat
open Go.Ab
set_option maxRecDepth 8000
set_option maxHeartbeats 400000
theorem nv_set1 (n:Nd) (x:Int):(nvC n).set 1 (.int .i64 x)=nvC (chgN n x n.uid n.gid):=rfl
theorem nv_set2 (n:Nd) (x:Int):(nvC n).set 2 (.int .i64 x)=nvC (chgN n n.mode x n.gid):=rfl
theorem nv_set3 (n:Nd) (x:Int):(nvC n).set 3 (.int .i64 x)=nvC (chgN n n.mode n.uid x):=rfl
attribute [push_cast] nv_set1 nv_set2 nv_set3
theorem chgN_chgN (n:Nd) (a b d x u g:Int):chgN (chgN n a b d) x u g=chgN n x u g:=rfl
theorem chgN_kind (n:Nd) (a b d:Int):(chgN n a b d).kind=n.kind:=rfl
theorem chgN_mode (n:Nd) (a b d:Int):(chgN n a b d).mode=a:=rfl
theorem chgN_uid (n:Nd) (a b d:Int):(chgN n a b d).uid=b:=rfl
theorem chgN_gid (n:Nd) (a b d:Int):(chgN n a b d).gid=d:=rfl
attribute [push_cast] chgN_chgN chgN_kind chgN_mode chgN_uid chgN_gid
theorem put_self1 {T:Tab} (hT:T.Ok) {j:Nat} (h:(j:Int)<T.room):T.put j (T.get ((j:Int)+1)).1=T:=by
 have h3:=hT.lo;have h4:=hT.hi;have h5:=hT.len
 rw [get_eq hT,if_pos (by omega),show ((j:Int)+1 - 1).toNat=j by omega]
 show (⟨T.room,T.ns.set j (T.ns.getD j nd0)⟩:Tab)=T
 rw [List.getD_eq_getElem?_getD,List.getElem?_eq_getElem (show j<T.ns.length by omega),Option.getD_some,List.set_getElem_self]
theorem chownF_a {T:Tab} {c:Cr} {p:List UInt8} {fl:Bool} {u g:Int} (h:(decide (65535<u)||decide (65535<g))=true):chownF T c p u g fl=(22,T):=by
 unfold chownF
 rw [Bool.or_eq_true,decide_eq_true_eq,decide_eq_true_eq] at h
 rw [if_pos h]
theorem chownF_b {T:Tab} {c:Cr} {p:List UInt8} {fl:Bool} {u g:Int} (h:(decide (65535<u)||decide (65535<g))=false):chownF T c p u g fl=chgF T c p fl (chownG c u g):=by
 unfold chownF
 rw [Bool.or_eq_false_iff,decide_eq_false_iff_not,decide_eq_false_iff_not] at h
 rw [if_neg (fun k=>k.elim h.1 h.2)]
theorem chown_n {T:Tab} {c:Cr} {p:List UInt8} {fl:Bool} {u g:Int} {j:Nat} (h:rE T c p fl=0) (h3:rN T c p fl=(j:Int)+1) (h1:(T.get (rN T c p fl)).2=true) (hm:mayOwn c (T.get ((j:Int)+1)).1.uid (T.get ((j:Int)+1)).1.gid u g=false):chgF T c p fl (chownG c u g)=(1,T):=by
 rw [←h3] at hm
 have hg:chownG c u g (T.get (rN T c p fl)).1=((T.get (rN T c p fl)).1,1):=by
  unfold chownG
  rw [hm];rfl
 rw [chgF_f h h1 (by rw [hg];exact Int.one_ne_zero),hg]
theorem chown_z {T:Tab} (hT:T.Ok) (hR:T.Rt) {c:Cr} {p:List UInt8} {fl:Bool} {u g:Int} {j:Nat} (h:rE T c p fl=0) (h3:rN T c p fl=(j:Int)+1) (hj:(j:Int)<T.room) (h1:(T.get (rN T c p fl)).2=true) (ha:T.at (rN T c p fl)=some j) (hm:mayOwn c (T.get ((j:Int)+1)).1.uid (T.get ((j:Int)+1)).1.gid u g=true) (hz:u<0∧g<0):chgF T c p fl (chownG c u g)=(0,T):=by
 rw [←h3] at hm
 have hg:chownG c u g (T.get (rN T c p fl)).1=((T.get (rN T c p fl)).1,0):=by
  unfold chownG
  rw [hm,cond_true,if_pos hz]
 rw [chgF_y h h1 (by rw [hg]) (by rw [hg];exact hR.get h1) ha,hg]
 show (0,T.put j (T.get (rN T c p fl)).1)=_
 rw [h3,put_self1 hT hj]
theorem chown_y {T:Tab} (hR:T.Rt) {c:Cr} {p:List UInt8} {fl:Bool} {u g:Int} {j:Nat} (h:rE T c p fl=0) (h3:rN T c p fl=(j:Int)+1) (h1:(T.get (rN T c p fl)).2=true) (ha:T.at (rN T c p fl)=some j) (hm:mayOwn c (T.get ((j:Int)+1)).1.uid (T.get ((j:Int)+1)).1.gid u g=true) (hz:¬(u<0∧g<0)) (hu5:u≤65535) (hg5:g≤65535) :
 chgF T c p fl (chownG c u g)=(0,T.put j (chgN (T.get ((j:Int)+1)).1 (writtenF c (T.get ((j:Int)+1)).1.kind (T.get ((j:Int)+1)).1.mode) (if 0≤u then u else (T.get ((j:Int)+1)).1.uid) (if 0≤g then g else (T.get ((j:Int)+1)).1.gid))):=by
 rw [←h3] at hm ⊢
 have hg:chownG c u g (T.get (rN T c p fl)).1=(chgN (T.get (rN T c p fl)).1 (writtenF c (T.get (rN T c p fl)).1.kind (T.get (rN T c p fl)).1.mode) (if 0≤u then u else (T.get (rN T c p fl)).1.uid) (if 0≤g then g else (T.get (rN T c p fl)).1.gid),0):=by
  unfold chownG
  rw [hm,cond_true,if_neg hz];rfl
 have hr:=hR.get h1
 obtain ⟨_,hu,hgi⟩:=right_ids hr
 rw [chgF_y h h1 (by rw [hg]) (by
  rw [hg]
  refine right_chg hr (writtenF_bd _ _ _) ?_ ?_ (fun k=>?_)
  · split<;>omega
  · split<;>omega
  · rw [k,(right_link3 hr k).1,writtenF_link]) ha,hg]
theorem stat_cases {T:Tab} (hT:T.Ok) {o X:List Int} (hW:TreeW T o X) (c:Cr) (p:List UInt8) (fl:Bool) :
 ((statF T c p fl).2≠0∧∀g:Nd→Nd×Int,chgF T c p fl g=((statF T c p fl).2,T)) ∨
 ((statF T c p fl).2=0∧rE T c p fl=0∧∃j:Nat,T.at (rN T c p fl)=some j∧rN T c p fl=(j:Int)+1∧(j:Int)<T.room∧(T.get (rN T c p fl)).2=true∧(statF T c p fl).1.node=(j:Int)+1∧(statF T c p fl).1.uid=(T.get ((j:Int)+1)).1.uid∧(statF T c p fl).1.gid=(T.get ((j:Int)+1)).1.gid):=by
 by_cases h:rE T c p fl=0
 ·
  by_cases h1:rN T c p fl=0
  ·
   left
   rw [statF_n hT hW h h1]
   exact ⟨by decide,fun g=>chgF_n hT hW g h h1⟩
  ·
   right
   obtain ⟨j,h2,h3,h4,h5⟩:=res_at hT hW h h1
   have hs:staF T (rN T c p fl)=⟨rN T c p fl,(T.get (rN T c p fl)).1.kind,(T.get (rN T c p fl)).1.mode,(T.get (rN T c p fl)).1.uid,(T.get (rN T c p fl)).1.gid,T.links (rN T c p fl),sizeF (T.get (rN T c p fl)).1⟩:=by unfold staF;rw [if_pos h5]
   rw [statF_y hT hW h h1,hs]
   refine ⟨rfl,h,j,h2,h3,h4,h5,h3,?_,?_⟩
   ·
    show (T.get (rN T c p fl)).1.uid=_
    rw [h3]
   ·
    show (T.get (rN T c p fl)).1.gid=_
    rw [h3]
 ·
  left
  rw [statF_e h]
  exact ⟨h,fun g=>chgF_e g h⟩
theorem chmodF_a {T:Tab} {c:Cr} {p:List UInt8} {m:Int} (h:(decide (m<0)||decide (4095<m))=true):chmodF T c p m=(22,T):=by
 unfold chmodF
 rw [Bool.or_eq_true,decide_eq_true_eq,decide_eq_true_eq] at h
 rw [if_pos h]
theorem chmodF_b {T:Tab} {c:Cr} {p:List UInt8} {m:Int} (h:(decide (m<0)||decide (4095<m))=false):chmodF T c p m=chgF T c p true (chmodG c m):=by
 unfold chmodF
 rw [Bool.or_eq_false_iff,decide_eq_false_iff_not,decide_eq_false_iff_not] at h
 rw [if_neg (fun k=>k.elim h.1 h.2)]
theorem mayMode_n {c:Cr} {u:Int} (h:(!decide (c.uid=0)&&!decide (c.uid=u))=true):mayMode c u=false:=by
 rw [Bool.and_eq_true,Bool.not_eq_true',Bool.not_eq_true',decide_eq_false_iff_not,decide_eq_false_iff_not] at h
 unfold mayMode
 rw [decide_eq_false h.1,decide_eq_false (fun e=>h.2 e.symm)];rfl
theorem mayMode_y {c:Cr} {u:Int} (h:(!decide (c.uid=0)&&!decide (c.uid=u))=false):mayMode c u=true:=by
 unfold mayMode
 by_cases h1:c.uid=0
 · rw [decide_eq_true h1];rfl
 ·
  rw [decide_eq_false h1,Bool.not_false,Bool.true_and,Bool.not_eq_false',decide_eq_true_eq] at h
  rw [decide_eq_true h.symm,Bool.or_true]
theorem chmod_y {T:Tab} (hT:T.Ok) (hR:T.Rt) {o:List Int} (hW:TreeW T o []) {c:Cr} {p:List UInt8} {m:Int} {j:Nat} (h:rE T c p true=0) (h3:rN T c p true=(j:Int)+1) (h1:(T.get (rN T c p true)).2=true) (ha:T.at (rN T c p true)=some j) (hm:mayMode c (T.get ((j:Int)+1)).1.uid=true) :
 chgF T c p true (chmodG c m)=(0,T.put j (chgN (T.get ((j:Int)+1)).1 (modeF c (T.get ((j:Int)+1)).1.kind (T.get ((j:Int)+1)).1.gid m) (T.get ((j:Int)+1)).1.uid (T.get ((j:Int)+1)).1.gid)):=by
 rw [←h3] at hm ⊢
 have hg:chmodG c m (T.get (rN T c p true)).1=(chgN (T.get (rN T c p true)).1 (modeF c (T.get (rN T c p true)).1.kind (T.get (rN T c p true)).1.gid m) (T.get (rN T c p true)).1.uid (T.get (rN T c p true)).1.gid,0):=by
  unfold chmodG
  rw [hm];rfl
 have hr:=hR.get h1
 obtain ⟨_,hu,hgi⟩:=right_ids hr
 rw [chgF_y h h1 (by rw [hg]) (by rw [hg];exact right_chg hr (modeF_bd _ _ _ _) hu hgi (fun k=>absurd k (res_nl hT hR hW c p h))) ha,hg]
theorem chmod_n {T:Tab} {c:Cr} {p:List UInt8} {m:Int} {j:Nat} (h:rE T c p true=0) (h3:rN T c p true=(j:Int)+1) (h1:(T.get (rN T c p true)).2=true) (hm:mayMode c (T.get ((j:Int)+1)).1.uid=false):chgF T c p true (chmodG c m)=(1,T):=by
 rw [←h3] at hm
 have hg:chmodG c m (T.get (rN T c p true)).1=((T.get (rN T c p true)).1,1):=by
  unfold chmodG
  rw [hm];rfl
 rw [chgF_f h h1 (by rw [hg];exact Int.one_ne_zero),hg]
theorem c89 (T:Tab) (c:Cr) (p:List UInt8) (m:Int) (o:List Int) (h:List Blk) (live:List Nat) (hT:T.Ok) (hR:T.Rt) (hW:TreeW T o []) (hgs:c.gs.length≤1000000000) (hp:p.length≤9223372036854775807):AC Tryz.prog 89 [tV (refL T),.agg [.int .i64 c.uid,.int .i64 c.gid,.slice (c.gs.map iV) .none],.str p,.int .i64 m] h live (.tup [tV (refL (chmodF T c p m).2),.int .i64 (chmodF T c p m).1]):=by
 refine aq_ Tryz.func89 fun hH hX=>?_
 have hll:=refL_len hT
 have hhi:=hT.hi
 have hlo:=hT.lo
 refine rg_ [2,3,4,5,8] ?_
 refine sk_ fun K1 hK1=>?_
 refine rg_ [2,3,4,5,8,18] ?_
 refine cy_ (fun hb1=>?_) (fun hb1=>?_)
 ·
  have hcm:=chmodF_a (T:=T) (c:=c) (p:=p) hb1
  refine rg_ [8,9] ?_
  refine ret_ ?_
  refine fq_ Tryz.results89 ?_ (hcl:=(by first | exact trivial | (simp [AV.cl,AV.clL,clL_nV,←List.map_set, -List.map_set, -List.map_map];done)))
  exact rk_ (by rw [hcm];rfl)
 have hcm:=chmodF_b (T:=T) (c:=c) (p:=p) hb1
 refine skp_ ?_
 refine hK1 _ ?_
 refine rs_ [3,4,5,8,10,11] ?_
 refine sg_ ?_
 refine cl_ (hc:=c86 T c p true o _ _ hT hR hW hgs hp) (k:=?_)
 refine sre_ ?_
 refine sk_ fun K2 hK2=>?_
 refine rg_ [3,4,5,8,10,11,28] ?_
 refine cx_ (fun hb2=>?_) (fun hb2=>?_)
 ·
  rw [((stat_cases hT hW c p true).resolve_right (fun k=>hb2 k.1)).2] at hcm
  refine rg_ [8,9] ?_
  refine ret_ ?_
  refine fq_ Tryz.results89 ?_ (hcl:=(by first | exact trivial | (simp [AV.cl,AV.clL,clL_nV,←List.map_set, -List.map_set, -List.map_map];done)))
  exact rk_ (by rw [hcm];rfl)
 obtain ⟨hs0,hrE,j,hat,hrN,hjr,his,hsn,hsu,hsg⟩:=(stat_cases hT hW c p true).resolve_left (fun k=>k.1 hb2)
 have hjl:j<(refL T).length:=by omega
 have sx:=And.intro hsn (And.intro hsu (And.intro hsg sx))
 refine skp_ ?_
 refine hK2 _ ?_
 refine sk_ fun K3 hK3=>?_
 refine rg_ [3,4,5,8,10,40] ?_
 refine cy_ (fun hb3=>?_) (fun hb3=>?_)
 ·
  rw [chmod_n hrE hrN his (mayMode_n hb3)] at hcm
  refine rg_ [8,9] ?_
  refine ret_ ?_
  refine fq_ Tryz.results89 ?_ (hcl:=(by first | exact trivial | (simp [AV.cl,AV.clL,clL_nV,←List.map_set, -List.map_set, -List.map_map];done)))
  exact rk_ (by rw [hcm];rfl)
 rw [chmod_y hT hR hW hrE hrN his hat (mayMode_y hb3)] at hcm
 refine skp_ ?_
 refine hK3 _ ?_
 refine rs_ [3,4,5,8,10,12] ?_
 refine sg_ ?_
 refine cl_ (hc:=(rGet_eq hT ((j:Int)+1)▸c54 (refL T) ((j:Int)+1) _ _ (by omega))) (k:=?_)
 refine sre_ ?_
 refine rs_ [4,8,10,12] ?_
 refine sg_ ?_
 refine cl_ (hc:=c145 c .none _ _ _ _ _ hgs) (k:=?_)
 refine sre_ ?_
 refine rs_ [8,9] ?_
 refine sg_ ?_
 refine cl_ (hc:=c34 (refL T) j _ _ _ hjl (by omega)) (k:=?_)
 refine srt_ ?_
 refine fq_ Tryz.results89 ?_ (hcl:=(by first | exact trivial | (simp [AV.cl,AV.clL,clL_nV,←List.map_set, -List.map_set, -List.map_map];done)))
 exact rk_ (by rw [hcm,←refL_put];rfl)
theorem c90 (T:Tab) (c:Cr) (p:List UInt8) (u g:Int) (fl:Bool) (o:List Int) (h:List Blk) (live:List Nat) (hT:T.Ok) (hR:T.Rt) (hW:TreeW T o []) (hgs:c.gs.length≤1000000000) (hp:p.length≤9223372036854775807):AC Tryz.prog 90 [tV (refL T),.agg [.int .i64 c.uid,.int .i64 c.gid,.slice (c.gs.map iV) .none],.str p,.int .i64 u,.int .i64 g,.bool fl] h live (.tup [tV (refL (chownF T c p u g fl).2),.int .i64 (chownF T c p u g fl).1]):=by
 refine aq_ Tryz.func90 fun hH hX=>?_
 have hll:=refL_len hT
 have hhi:=hT.hi
 have hlo:=hT.lo
 refine rg_ [2,3,4,5,6,7,12] ?_
 refine sk_ fun K1 hK1=>?_
 refine rg_ [2,3,4,5,6,7,12,23] ?_
 refine cy_ (fun hb1=>?_) (fun hb1=>?_)
 ·
  have hcm:=chownF_a (T:=T) (c:=c) (p:=p) (fl:=fl) hb1
  refine rg_ [12,13] ?_
  refine ret_ ?_
  refine fq_ Tryz.results90 ?_ (hcl:=(by first | exact trivial | (simp [AV.cl,AV.clL,clL_nV,←List.map_set, -List.map_set, -List.map_map];done)))
  exact rk_ (by rw [hcm];rfl)
 have hcm:=chownF_b (T:=T) (c:=c) (p:=p) (fl:=fl) hb1
 rw [Bool.or_eq_false_iff,decide_eq_false_iff_not,decide_eq_false_iff_not] at hb1
 refine skp_ ?_
 refine hK1 _ ?_
 refine rs_ [3,4,6,7,12,14,15] ?_
 refine sg_ ?_
 refine cl_ (hc:=c86 T c p fl o _ _ hT hR hW hgs hp) (k:=?_)
 refine sre_ ?_
 refine sk_ fun K2 hK2=>?_
 refine rg_ [3,4,6,7,12,14,15,34] ?_
 refine cx_ (fun hb2=>?_) (fun hb2=>?_)
 ·
  rw [((stat_cases hT hW c p fl).resolve_right (fun k=>hb2 k.1)).2] at hcm
  refine rg_ [12,13] ?_
  refine ret_ ?_
  refine fq_ Tryz.results90 ?_ (hcl:=(by first | exact trivial | (simp [AV.cl,AV.clL,clL_nV,←List.map_set, -List.map_set, -List.map_map];done)))
  exact rk_ (by rw [hcm];rfl)
 obtain ⟨hs0,hrE,j,hat,hrN,hjr,his,hsn,hsu,hsg⟩:=(stat_cases hT hW c p fl).resolve_left (fun k=>k.1 hb2)
 have hjl:j<(refL T).length:=by omega
 have sx:=And.intro hsn (And.intro hsu (And.intro hsg sx))
 refine skp_ ?_
 refine hK2 _ ?_
 refine rs_ [3,4,6,7,12,14,16] ?_
 refine sg_ ?_
 refine cl_ (hc:=c146 c .none _ _ _ _ _ _ hgs) (k:=?_)
 refine sre_ ?_
 refine sk_ fun K3 hK3=>?_
 refine rg_ [3,4,6,7,12,14,46] ?_
 refine cx_ (fun hb3=>?_) (fun hb3=>?_)
 ·
  rw [chown_n hrE hrN his hb3] at hcm
  refine rg_ [12,13] ?_
  refine ret_ ?_
  refine fq_ Tryz.results90 ?_ (hcl:=(by first | exact trivial | (simp [AV.cl,AV.clL,clL_nV,←List.map_set, -List.map_set, -List.map_map];done)))
  exact rk_ (by rw [hcm];rfl)
 refine skp_ ?_
 refine hK3 _ ?_
 refine rs_ [3,4,6,7,12,14,17] ?_
 refine sg_ ?_
 refine cl_ (hc:=(rGet_eq hT ((j:Int)+1)▸c54 (refL T) ((j:Int)+1) _ _ (by omega))) (k:=?_)
 refine sre_ ?_
 refine sk_ fun K4 hK4=>?_
 refine rg_ [3,4,6,7,12,14,17,57] ?_
 refine cdy_ (ht:=fun hb4=>?_) (hf:=fun hb4=>?_)
 ·
  rw [chown_z hT hR hrE hrN hjr his hat hb3 hb4] at hcm
  refine rg_ [12,13] ?_
  refine ret_ ?_
  refine fq_ Tryz.results90 ?_ (hcl:=(by first | exact trivial | (simp [AV.cl,AV.clL,clL_nV,←List.map_set, -List.map_set, -List.map_map];done)))
  exact rk_ (by rw [hcm];rfl)
 rw [chown_y hR hrE hrN his hat hb3 (fun k=>by rw [decide_eq_true k.1,decide_eq_true k.2] at hb4;cases hb4) (by omega) (by omega)] at hcm
 refine skp_ ?_
 refine hK4 _ ?_
 refine sk_ fun K5 hK5=>?_
 refine rg_ [3,4,6,7,12,14,17,60] ?_
 refine cx_ (fun hb5=>?_) (fun hb5=>?_)
 ·
  rw [if_pos hb5] at hcm
  refine rt_ [4,6,7,12,14,17] ?_
  refine srn_ ?_
  refine hK5 _ ?_
  refine sk_ fun K6 hK6=>?_
  refine rg_ [4,6,7,12,14,17,64] ?_
  refine cx_ (fun hb6=>?_) (fun hb6=>?_)
  ·
   rw [if_pos hb6] at hcm
   refine rt_ [6,7,12,14,17] ?_
   refine srn_ ?_
   refine hK6 _ ?_
   refine rs_ [6,12,14,17] ?_
   refine sg_ ?_
   refine cl_ (hc:=c147 c .none _ _ _ _) (k:=?_)
   refine sre_ ?_
   refine rs_ [12,13] ?_
   refine sg_ ?_
   refine cl_ (hc:=c34 (refL T) j _ _ _ hjl (by omega)) (k:=?_)
   refine srt_ ?_
   refine fq_ Tryz.results90 ?_ (hcl:=(by first | exact trivial | (simp [AV.cl,AV.clL,clL_nV,←List.map_set, -List.map_set, -List.map_map];done)))
   exact rk_ (by rw [hcm,←refL_put];rfl)
  rw [if_neg (show ¬0≤g by omega)] at hcm
  refine skp_ ?_
  refine hK6 _ ?_
  refine rs_ [6,12,14,17] ?_
  refine sg_ ?_
  refine cl_ (hc:=c147 c .none _ _ _ _) (k:=?_)
  refine sre_ ?_
  refine rs_ [12,13] ?_
  refine sg_ ?_
  refine cl_ (hc:=c34 (refL T) j _ _ _ hjl (by omega)) (k:=?_)
  refine srt_ ?_
  refine fq_ Tryz.results90 ?_ (hcl:=(by first | exact trivial | (simp [AV.cl,AV.clL,clL_nV,←List.map_set, -List.map_set, -List.map_map];done)))
  exact rk_ (by rw [hcm,←refL_put];rfl)
 rw [if_neg (show ¬0≤u by omega)] at hcm
 refine skp_ ?_
 refine hK5 _ ?_
 refine sk_ fun K7 hK7=>?_
 refine rg_ [4,6,7,12,14,17,64] ?_
 refine cx_ (fun hb6=>?_) (fun hb6=>?_)
 ·
  rw [if_pos hb6] at hcm
  refine rt_ [6,7,12,14,17] ?_
  refine srn_ ?_
  refine hK7 _ ?_
  refine rs_ [6,12,14,17] ?_
  refine sg_ ?_
  refine cl_ (hc:=c147 c .none _ _ _ _) (k:=?_)
  refine sre_ ?_
  refine rs_ [12,13] ?_
  refine sg_ ?_
  refine cl_ (hc:=c34 (refL T) j _ _ _ hjl (by omega)) (k:=?_)
  refine srt_ ?_
  refine fq_ Tryz.results90 ?_ (hcl:=(by first | exact trivial | (simp [AV.cl,AV.clL,clL_nV,←List.map_set, -List.map_set, -List.map_map];done)))
  exact rk_ (by rw [hcm,←refL_put];rfl)
 rw [if_neg (show ¬0≤g by omega)] at hcm
 refine skp_ ?_
 refine hK7 _ ?_
 refine rs_ [6,12,14,17] ?_
 refine sg_ ?_
 refine cl_ (hc:=c147 c .none _ _ _ _) (k:=?_)
 refine sre_ ?_
 refine rs_ [12,13] ?_
 refine sg_ ?_
 refine cl_ (hc:=c34 (refL T) j _ _ _ hjl (by omega)) (k:=?_)
 refine srt_ ?_
 refine fq_ Tryz.results90 ?_ (hcl:=(by first | exact trivial | (simp [AV.cl,AV.clL,clL_nV,←List.map_set, -List.map_set, -List.map_map];done)))
 exact rk_ (by rw [hcm,←refL_put];rfl)
end Go.Proofs.YtegffmibifodcaaGreat

/-
  THE DOCUMENT: a mode without the bits that are masked.
-/
namespace Go.Proofs.YtegffmibifodcaaGreat
open Go.Ab
set_option maxRecDepth 8000
set_option maxHeartbeats 400000
theorem bv_bit {m:Int} {k:Nat} (hk:k<12) {a:Nat} (ha:m%4096=a):(BitVec.ofInt 64 m).toNat.testBit k=bitN a k:=by
 have ea:(m%((2^64:Nat):Int)).toNat%4096=a:=by
  have e:((2^64:Nat):Int)=18446744073709551616:=by decide
  rw [e];omega
 rw [BitVec.toNat_ofInt]
 unfold bitN
 rw [←Nat.testBit_eq_decide_div_mod_eq,←ea,show 4096=2^12 from rfl,Nat.testBit_mod_two_pow,decide_eq_true hk,Bool.true_and]
def maskX (m um:Int):Nat:=(BitVec.ofInt 64 m &&& BitVec.ofInt 64 511 &&& ~~~(BitVec.ofInt 64 um)).toNat
theorem bv511:(BitVec.ofInt 64 511).toNat=2^9 - 1:=by decide
theorem maskX_lt (m um:Int):maskX m um<512:=by
 unfold maskX
 rw [BitVec.toNat_and,BitVec.toNat_and,bv511,Nat.and_two_pow_sub_one_eq_mod]
 exact Nat.lt_of_le_of_lt Nat.and_le_left (Nat.mod_lt _ (by decide))
theorem maskX_bit (m um:Int) {k:Nat} (hk:k<9) {a b:Nat} (ha:m%4096=a) (hb:um%4096=b):bitN (maskX m um) k=(bitN a k&&!bitN b k):=by
 rw [←bv_bit (by omega) ha,←bv_bit (by omega) hb]
 unfold bitN
 rw [←Nat.testBit_eq_decide_div_mod_eq]
 unfold maskX
 rw [BitVec.toNat_and,BitVec.toNat_and,bv511,Nat.and_two_pow_sub_one_eq_mod,Nat.testBit_and,Nat.testBit_mod_two_pow,decide_eq_true hk,Bool.true_and]
 congr 1
 show (~~~(BitVec.ofInt 64 um)).getLsbD k=!(BitVec.ofInt 64 um).getLsbD k
 rw [BitVec.getLsbD_not,decide_eq_true (show k<64 by omega),Bool.true_and]
def lowX (x k:Nat):Nat:=x%2^k
def powX (k:Nat):Nat:=2^k
theorem powX_succ (k:Nat):powX (k+1)=powX k*2:=by unfold powX;rw [Nat.pow_succ]
theorem lowX_0 (x:Nat):lowX x 0=0:=Nat.mod_one x
theorem powX_le {k:Nat} (h:k≤9):powX k≤512:=Nat.pow_le_pow_right (by decide) h
theorem lowX_lt (x k:Nat):lowX x k<powX k:=Nat.mod_lt _ (Nat.two_pow_pos k)
theorem lowX_y {x k:Nat} (h:bitN x k=true):lowX x (k+1)=lowX x k+powX k:=by
 unfold lowX powX
 unfold bitN at h
 rw [Nat.mod_pow_succ,of_decide_eq_true h,Nat.mul_one]
theorem lowX_n {x k:Nat} (h:bitN x k=false):lowX x (k+1)=lowX x k:=by
 unfold lowX
 unfold bitN at h
 have h1:=of_decide_eq_false h
 rw [Nat.mod_pow_succ,show x / 2^k%2=0 by omega,Nat.mul_zero,Nat.add_zero]
theorem lowX_9 {x:Nat} (h:x<512):lowX x 9=x:=Nat.mod_eq_of_lt h
theorem c31 (m um:Int) (h:List Blk) (live:List Nat):AC Tryz.prog 31 [.int .i64 m,.int .i64 um] h live (.int .i64 (maskX m um:Nat)):=by
 refine aq_ Tryz.func31 fun hH hX=>?_
 obtain ⟨a,ha4,ha⟩:=low_nat m
 obtain ⟨b,hb4,hb⟩:=low_nat um
 obtain ⟨w,hx⟩:∃w,maskX m um=w:=⟨_,rfl⟩
 have hx5:w<512:=hx▸maskX_lt m um
 have hbit:∀k,k<9→bitN w k=(bitN a k&&!bitN b k):=fun k hk=>hx▸maskX_bit m um hk ha hb
 have sx:=(And.intro @ha (And.intro @hb sx0))
 refine rg_ [0,1] ?_
 refine rg_ [0,1,5] ?_
 refine rg_ [0,1,5,6] ?_
 refine sk_ fun K1 hK1=>?_
 refine rg_ [0,1,5,6,7] ?_
 refine awp_block ?_
 refine lp_ (X:={i:Nat // i≤9}) (fun x=>⟨Tryz.f31.ntmps,fget [(0,.int .i64 m),(1,.int .i64 um),(5,.int .i64 (lowX w x.1:Nat)),(6,.int .i64 (powX x.1:Nat)),(7,.int .i64 (x.1:Nat))],h,live⟩) (fun x=>9 - x.1) (⟨0,by omega⟩) ?_ (fun ⟨i,hi⟩=>?_)
 ·
  try dsimp only
  refine Trunc.same ?_ hH
  refine ftc_ ?_
  refine ftc_ ?_
  refine FTr.cons (by show _=AV.int .i64 ((lowX w 0:Nat):Int);rw [lowX_0];rfl) (by exact trivial) ?_
  refine FTr.cons (by rfl) (by exact trivial) ?_
  refine ftc_ ?_
  exact FTr.nil
 try dsimp only
 have hlx:=lowX_lt w i
 have hpx:=powX_le hi
 have hpx1:=powX_succ i
 refine sk_ fun K2 hK2=>?_
 refine rg_ [0,1,5,6,7,9] ?_
 refine cx_ (fun hb1=>?_) (fun hb1=>?_)
 rotate_left
 ·
  have hie:i=9:=by omega
  subst hie
  refine awp_exit (up_ ?_)
  refine hK1 _ ?_
  refine rg_ [4] ?_
  refine ret_ ?_
  refine fq_ Tryz.results31 ?_
  exact rk_ (by rw [hx,lowX_9 hx5])
 have hil:i<9:=by omega
 have hbt:=hbit i hil
 refine skp_ ?_
 refine hK2 _ ?_
 refine sk_ fun K3 hK3=>?_
 refine awp_block ?_
 refine sk_ fun K4 hK4=>?_
 refine rs_ [0,1,5,6,7,22] ?_
 refine sg_ ?_
 refine cl_ (hc:=c70 _ _ _) (k:=?_)
 refine sg_ ?_
 refine cl_ (hc:=c69 a i _ _ ha4 (by omega)) (k:=?_)
 refine sg_ ?_
 refine cg_ (hc:=fun hg=>c70 _ _ _) (k:=?_)
 refine sg_ ?_
 refine cg_ (hc:=fun hg=>c69 b i _ _ hb4 (by omega)) (k:=?_)
 refine sre_ ?_
 refine cy_ (fun hb2=>?_) (fun hb2=>?_)
 ·
  rw [←hbt] at hb2
  have hst:=lowX_y hb2
  refine rt_ [0,1,5,6,7] ?_
  refine srn_ ?_
  refine hK4 _ ?_
  refine rt_ [0,1,5,6,7] ?_
  refine srn_ ?_
  refine hK3 _ ?_
  refine rt_ [0,1,5,6,7] ?_
  refine srn_ ?_
  refine ln_ ⟨i+1,by omega⟩ ?_
  try dsimp only
  refine Trunc.same ?_ hH
  refine ftc_ ?_
  refine ftc_ ?_
  refine FTr.cons (by show _=AV.int .i64 ((lowX w (i+1):Nat):Int);rw [hst];try rfl) (by exact trivial) ?_
  refine FTr.cons (by show _=AV.int .i64 ((powX (i+1):Nat):Int);rw [hpx1];try rfl) (by exact trivial) ?_
  refine ftc_ ?_
  exact FTr.nil
 rw [←hbt] at hb2
 have hst:=lowX_n hb2
 refine skp_ ?_
 refine hK4 _ ?_
 refine rt_ [0,1,5,6,7] ?_
 refine srn_ ?_
 refine hK3 _ ?_
 refine rt_ [0,1,5,6,7] ?_
 refine srn_ ?_
 refine ln_ ⟨i+1,by omega⟩ ?_
 try dsimp only
 refine Trunc.same ?_ hH
 refine ftc_ ?_
 refine ftc_ ?_
 refine FTr.cons (by show _=AV.int .i64 ((lowX w (i+1):Nat):Int);rw [hst];try rfl) (by exact trivial) ?_
 refine FTr.cons (by show _=AV.int .i64 ((powX (i+1):Nat):Int);rw [hpx1];try rfl) (by exact trivial) ?_
 refine ftc_ ?_
 exact FTr.nil
end Go.Proofs.YtegffmibifodcaaGreat

/-
  THE DOCUMENT: a new node is planted.
-/
namespace Go.Proofs.YtegffmibifodcaaGreat
open Go.Ab
set_option maxRecDepth 8000
set_option maxHeartbeats 400000
def bornX (c:Cr) (d n:Nd):Nd:=chgN n (if bitN d.mode.toNat 10=true∧n.kind=2 then n.mode+1024 else n.mode) c.uid (if bitN d.mode.toNat 10=true then d.gid else c.gid)
def plantX (T:Tab) (c:Cr) (d:Int) (s:List UInt8) (n:Int) (N:Nd):(Int×Int)×Tab:=
 if n≠0 then ((0,17),T)
 else if canT c T d 3=false then ((0,13),T)
 else if (8:Int)≤(T.get d).1.ents.length∨T.used=T.room then ((0,28),T)
 else if (addT T (bornX c (T.get d).1 N)).1.2≠0 then ((0,(addT T (bornX c (T.get d).1 N)).1.2),T)
 else if (withN (T.get d).1 s (addT T (bornX c (T.get d).1 N)).1.1).2≠0 then ((0,(withN (T.get d).1 s (addT T (bornX c (T.get d).1 N)).1.1).2),T)
 else (((addT T (bornX c (T.get d).1 N)).1.1,0),(addT T (bornX c (T.get d).1 N)).2.put (d - 1).toNat (withN (T.get d).1 s (addT T (bornX c (T.get d).1 N)).1.1).1)
theorem can_dir {T:Tab} (hT:T.Ok) {c:Cr} {d w:Int} (h:canT c T d w=true):(T.get d).2=true:=by
 rw [←rCan_eq hT] at h
 unfold rCan at h
 rw [Bool.and_eq_true,Bool.not_eq_true',decide_eq_false_iff_not,rGet_eq hT] at h
 exact get_kind_at h.1
theorem addT_room (T:Tab) (n:Nd):(addT T n).2.room=T.room:=by
 unfold addT
 split
 · rfl
 · split<;>rfl
theorem born_ok {c:Cr} {d n:Nd} (h:NdOk n):NdOk (bornX c d n):=h
theorem c148 (T:Tab) (c:Cr) (d:Int) (s:List UInt8) (n:Int) (N0:Nd) (h:List Blk) (live:List Nat) (hT:T.Ok) (hR:T.Rt) (hgs:c.gs.length≤1000000000) (hs:s.length≤9223372036854775807) (hN0:NdOk N0) (hm0:0≤N0.mode∧N0.mode≤4095):AC Tryz.prog 148 [tV (refL T),.agg [.int .i64 c.uid,.int .i64 c.gid,.slice (c.gs.map iV) .none],.agg [.int .i64 d,.str s,.int .i64 n],.agg (nvC N0)] h live (.tup [tV (refL (plantX T c d s n N0).2),.int .i64 (plantX T c d s n N0).1.1,.int .i64 (plantX T c d s n N0).1.2]):=by
 refine aq_ Tryz.func148 fun hH hX=>?_
 have hll:=refL_len hT
 have hhi:=hT.hi
 have hlo:=hT.lo
 refine rg_ [4,5,6,7,8] ?_
 refine sk_ fun K1 hK1=>?_
 refine rg_ [4,5,6,7,8,18] ?_
 refine cx_ (fun hb1=>?_) (fun hb1=>?_)
 ·
  refine rg_ [8,9,10] ?_
  refine ret_ ?_
  refine fq_ Tryz.results148 ?_
  exact rk_ (by unfold plantX;rw [if_pos hb1];try rfl)
 refine skp_ ?_
 refine hK1 _ ?_
 refine rs_ [4,5,6,7,8,11] ?_
 refine sg_ ?_
 refine cl_ (hc:=(rCan_eq hT c d 3▸c144 (refL T) c d 3 _ _ (by omega) hgs)) (k:=?_)
 refine sre_ ?_
 refine sk_ fun K2 hK2=>?_
 refine rg_ [4,5,6,7,8,26] ?_
 refine cx_ (fun hb2=>?_) (fun hb2=>?_)
 ·
  refine rg_ [8,9,10] ?_
  refine ret_ ?_
  refine fq_ Tryz.results148 ?_
  exact rk_ (by unfold plantX;rw [if_neg (fun k=>k hb1),if_pos hb2];try rfl)
 obtain ⟨j,hat,hj, _⟩:=get_isat (can_dir hT hb2)
 obtain rfl:d=(j:Int)+1:=by omega
 have hjr:=(at_some hT hat).2.2.1
 have hrt:=hR.get (can_dir hT hb2)
 obtain ⟨hmd, _⟩:=right_ids hrt
 have hdk:=get_ok hT ((j:Int)+1)
 have hd2:=hdk.2.1
 have hdl:=nmL_len (T.get ((j:Int)+1)).1
 obtain ⟨a,hma⟩:=Int.eq_ofNat_of_zero_le hmd.1
 have ha4:a<4096:=by omega
 have hta:(T.get ((j:Int)+1)).1.mode.toNat=a:=by omega
 obtain ⟨N,hN⟩:∃N,bornX c (T.get ((j:Int)+1)).1 N0=N:=⟨_,rfl⟩
 have hNk:NdOk N:=hN▸born_ok hN0
 have hN':=hN
 unfold bornX at hN'
 rw [hta] at hN'
 have hA:=addT_ok hT hNk
 have hAr:=addT_room T N
 have hAl:=refL_len hA
 rw [hAr] at hAl
 have sx:=And.intro hma sx
 refine skp_ ?_
 refine hK2 _ ?_
 refine rs_ [4,5,6,7,8,12] ?_
 refine sg_ ?_
 refine cl_ (hc:=(rGet_eq hT ((j:Int)+1)▸c54 (refL T) ((j:Int)+1) _ _ (by omega))) (k:=?_)
 refine sre_ ?_
 refine sk_ fun K3 hK3=>?_
 refine rsq_ [4,5,6,7,8,12,43] ⟨true,[],[],[],[],[],0⟩ (fun _=>⟨by kernel_rfl,by kernel_rfl⟩) ?_
 refine sg_ ?_
 refine cg_ (hc:=fun hg=>c195 T _ _ hT) (k:=?_)
 refine sre_ ?_
 refine cy_ (fun hb3=>?_) (fun hb3=>?_)
 ·
  have hb3':(8:Int)≤(T.get ((j:Int)+1)).1.ents.length∨T.used=T.room:=by
   rw [Bool.or_eq_true,decide_eq_true_eq,decide_eq_true_eq] at hb3
   omega
  refine rg_ [8,9,10] ?_
  refine ret_ ?_
  refine fq_ Tryz.results148 ?_
  exact rk_ (by unfold plantX;rw [if_neg (fun k=>k hb1),if_neg (by rw [hb2];decide),if_pos hb3'];try rfl)
 have hb3':¬((8:Int)≤(T.get ((j:Int)+1)).1.ents.length∨T.used=T.room):=by
  rw [Bool.or_eq_false_iff,decide_eq_false_iff_not,decide_eq_false_iff_not] at hb3
  omega
 refine skp_ ?_
 refine hK3 _ ?_
 refine rg_ [4,5,6,7,8,12] ?_
 refine rg_ [4,6,7,8,12] ?_
 refine sk_ fun K4 hK4=>?_
 refine rs_ [4,6,7,8,12,53] ?_
 refine sg_ ?_
 refine cl_ (hc:=c69 a 10 _ _ ha4 (by omega)) (k:=?_)
 refine re_ ?_
 refine cy_ (fun hb4=>?_) (fun hb4=>?_)
 ·
  rw [if_pos hb4] at hN'
  refine rg_ [4,6,7,8,12] ?_
  refine rg_ [4,6,7,8,12,59] ?_
  refine cx_ (fun hb5=>?_) (fun hb5=>?_)
  ·
   rw [if_pos ⟨hb4,hb5⟩] at hN'
   have sx:=And.intro hN' sx
   refine rt_ [4,6,7,8,12] ?_
   refine srn_ ?_
   refine hK4 _ ?_
   refine rs_ [4,6,8,12,13,14,15] ?_
   refine sg_ ?_
   refine cl_ (hc:=c196 T N _ _ hT hNk) (k:=?_)
   refine sre_ ?_
   refine sk_ fun K5 hK5=>?_
   refine rg_ [4,6,8,12,13,14,15,72] ?_
   refine cx_ (fun hb6=>?_) (fun hb6=>?_)
   ·
    refine rg_ [8,9,10] ?_
    refine ret_ ?_
    refine fq_ Tryz.results148 ?_
    exact rk_ (by unfold plantX;rw [if_neg (fun k=>k hb1),if_neg (by rw [hb2];decide),if_neg hb3',hN,if_pos hb6];try rfl)
   refine skp_ ?_
   refine hK5 _ ?_
   refine rs_ [4,6,8,12,13,14,15] ?_
   refine sg_ ?_
   refine cl_ (hc:=c154 _ s _ _ _ hdk hs) (k:=?_)
   refine sre_ ?_
   refine sk_ fun K6 hK6=>?_
   refine rg_ [4,6,8,12,13,14,15,84] ?_
   refine cx_ (fun hb7=>?_) (fun hb7=>?_)
   ·
    refine rg_ [8,9,10] ?_
    refine ret_ ?_
    refine fq_ Tryz.results148 ?_
    exact rk_ (by unfold plantX;rw [if_neg (fun k=>k hb1),if_neg (by rw [hb2];decide),if_neg hb3',hN,if_neg (fun k=>k hb6),if_pos hb7];try rfl)
   refine skp_ ?_
   refine hK6 _ ?_
   refine rs_ [8,9,10] ?_
   refine sg_ ?_
   refine cl_ (hc:=c34 (refL (addT T N).2) j _ _ _ (by omega) (by omega)) (k:=?_)
   refine srt_ ?_
   refine fq_ Tryz.results148 ?_
   exact rk_ (by unfold plantX;rw [if_neg (fun k=>k hb1),if_neg (by rw [hb2];decide),if_neg hb3',hN,if_neg (fun k=>k hb6),if_neg (fun k=>k hb7),←refL_put,show ((j:Int)+1 - 1).toNat=j by omega];try rfl)
  rw [if_neg (fun k=>hb5 k.2)] at hN'
  have sx:=And.intro hN' sx
  refine skp_ ?_
  refine hK4 _ ?_
  refine rs_ [4,6,8,12,13,14,15] ?_
  refine sg_ ?_
  refine cl_ (hc:=c196 T N _ _ hT hNk) (k:=?_)
  refine sre_ ?_
  refine sk_ fun K7 hK7=>?_
  refine rg_ [4,6,8,12,13,14,15,72] ?_
  refine cx_ (fun hb6=>?_) (fun hb6=>?_)
  ·
   refine rg_ [8,9,10] ?_
   refine ret_ ?_
   refine fq_ Tryz.results148 ?_
   exact rk_ (by unfold plantX;rw [if_neg (fun k=>k hb1),if_neg (by rw [hb2];decide),if_neg hb3',hN,if_pos hb6];try rfl)
  refine skp_ ?_
  refine hK7 _ ?_
  refine rs_ [4,6,8,12,13,14,15] ?_
  refine sg_ ?_
  refine cl_ (hc:=c154 _ s _ _ _ hdk hs) (k:=?_)
  refine sre_ ?_
  refine sk_ fun K8 hK8=>?_
  refine rg_ [4,6,8,12,13,14,15,84] ?_
  refine cx_ (fun hb7=>?_) (fun hb7=>?_)
  ·
   refine rg_ [8,9,10] ?_
   refine ret_ ?_
   refine fq_ Tryz.results148 ?_
   exact rk_ (by unfold plantX;rw [if_neg (fun k=>k hb1),if_neg (by rw [hb2];decide),if_neg hb3',hN,if_neg (fun k=>k hb6),if_pos hb7];try rfl)
  refine skp_ ?_
  refine hK8 _ ?_
  refine rs_ [8,9,10] ?_
  refine sg_ ?_
  refine cl_ (hc:=c34 (refL (addT T N).2) j _ _ _ (by omega) (by omega)) (k:=?_)
  refine srt_ ?_
  refine fq_ Tryz.results148 ?_
  exact rk_ (by unfold plantX;rw [if_neg (fun k=>k hb1),if_neg (by rw [hb2];decide),if_neg hb3',hN,if_neg (fun k=>k hb6),if_neg (fun k=>k hb7),←refL_put,show ((j:Int)+1 - 1).toNat=j by omega];try rfl)
 rw [if_neg (fun k=>by rw [k.1] at hb4;cases hb4),if_neg (by rw [hb4];decide)] at hN'
 have sx:=And.intro hN' sx
 refine skp_ ?_
 refine hK4 _ ?_
 refine rs_ [4,6,8,12,13,14,15] ?_
 refine sg_ ?_
 refine cl_ (hc:=c196 T N _ _ hT hNk) (k:=?_)
 refine sre_ ?_
 refine sk_ fun K9 hK9=>?_
 refine rg_ [4,6,8,12,13,14,15,72] ?_
 refine cx_ (fun hb6=>?_) (fun hb6=>?_)
 ·
  refine rg_ [8,9,10] ?_
  refine ret_ ?_
  refine fq_ Tryz.results148 ?_
  exact rk_ (by unfold plantX;rw [if_neg (fun k=>k hb1),if_neg (by rw [hb2];decide),if_neg hb3',hN,if_pos hb6];try rfl)
 refine skp_ ?_
 refine hK9 _ ?_
 refine rs_ [4,6,8,12,13,14,15] ?_
 refine sg_ ?_
 refine cl_ (hc:=c154 _ s _ _ _ hdk hs) (k:=?_)
 refine sre_ ?_
 refine sk_ fun K10 hK10=>?_
 refine rg_ [4,6,8,12,13,14,15,84] ?_
 refine cx_ (fun hb7=>?_) (fun hb7=>?_)
 ·
  refine rg_ [8,9,10] ?_
  refine ret_ ?_
  refine fq_ Tryz.results148 ?_
  exact rk_ (by unfold plantX;rw [if_neg (fun k=>k hb1),if_neg (by rw [hb2];decide),if_neg hb3',hN,if_neg (fun k=>k hb6),if_pos hb7];try rfl)
 refine skp_ ?_
 refine hK10 _ ?_
 refine rs_ [8,9,10] ?_
 refine sg_ ?_
 refine cl_ (hc:=c34 (refL (addT T N).2) j _ _ _ (by omega) (by omega)) (k:=?_)
 refine srt_ ?_
 refine fq_ Tryz.results148 ?_
 exact rk_ (by unfold plantX;rw [if_neg (fun k=>k hb1),if_neg (by rw [hb2];decide),if_neg hb3',hN,if_neg (fun k=>k hb6),if_neg (fun k=>k hb7),←refL_put,show ((j:Int)+1 - 1).toNat=j by omega];try rfl)
end Go.Proofs.YtegffmibifodcaaGreat

/-
  THE DOCUMENT: symlinks and files made.
-/
namespace Go.Proofs.YtegffmibifodcaaGreat
open Go.Ab
set_option maxRecDepth 8000
set_option maxHeartbeats 400000
theorem plant_eq {T:Tab} (hT:Gd T) {c:Cr} {p:List UInt8} {fl:Bool} {g:Nd→Nd} {N0:Nd} (hg:∀n,NdOk n→NdOk (g n)) (h:rE T c p fl=0) (hN:∀d,rightF d=true→bornX c d N0=ownN c d (g d)):plantF T c p fl g=plantX T c (rD T c p fl) (rS T c p fl) (rN T c p fl) N0:=by
 have hno:NdOk (ownN c (T.get (rD T c p fl)).1 (g (T.get (rD T c p fl)).1)):=ownN_ok (hg _ (hT.nd _))
 have hnm:=resF_nm T c p fl
 unfold plantF plantX
 rw [if_neg (fun k=>k h)]
 by_cases h1:rN T c p fl≠0
 · rw [if_pos h1,if_pos h1]
 rw [if_neg h1,if_neg h1]
 by_cases h2:canT c T (rD T c p fl) 3=false
 · rw [if_pos h2,if_pos h2]
 rw [if_neg h2,if_neg h2]
 have hdi:=can_dir hT.1 (by simpa using h2)
 by_cases h3:(8:Int)≤(T.get (rD T c p fl)).1.ents.length∨T.used=T.room
 · rw [if_pos h3,if_pos h3]
 rw [if_neg h3,if_neg h3,hN _ (hT.2.get hdi)]
 by_cases h5:(addT T (ownN c (T.get (rD T c p fl)).1 (g (T.get (rD T c p fl)).1))).1.2≠0
 · rw [if_pos h5,if_pos h5,addT_bad h5]
 rw [if_neg h5,if_neg h5]
 have h50:=Classical.not_not.1 h5
 by_cases h6:(withN (T.get (rD T c p fl)).1 (rS T c p fl) (addT T (ownN c (T.get (rD T c p fl)).1 (g (T.get (rD T c p fl)).1))).1.1).2≠0
 ·
  rw [if_pos h6,if_pos h6]
  obtain ⟨hr,i,hf,e⟩:=addT_good h50
  refine Prod.ext rfl ?_
  show dropT _ _=T
  rw [e]
  exact put_back hT.1 hno hr hf
 rw [if_neg h6,if_neg h6]
 have h60:=Classical.not_not.1 h6
 obtain ⟨hf,hga⟩:=add_get hT.1 hno h50
 have hi:((addT T (ownN c (T.get (rD T c p fl)).1 (g (T.get (rD T c p fl)).1))).2.get (rD T c p fl)).2=true:=by
  rw [hga]
  split
  · rfl
  · exact hdi
 obtain ⟨j,ha,hj, _⟩:=get_isat hi
 have key:putT (addT T (ownN c (T.get (rD T c p fl)).1 (g (T.get (rD T c p fl)).1))).2 (rD T c p fl) (withN (T.get (rD T c p fl)).1 (rS T c p fl) (addT T (ownN c (T.get (rD T c p fl)).1 (g (T.get (rD T c p fl)).1))).1.1).1=(0,(addT T (ownN c (T.get (rD T c p fl)).1 (g (T.get (rD T c p fl)).1))).2.put (rD T c p fl - 1).toNat (withN (T.get (rD T c p fl)).1 (rS T c p fl) (addT T (ownN c (T.get (rD T c p fl)).1 (g (T.get (rD T c p fl)).1))).1.1).1):=by
  unfold putT
  rw [ha]
  show (if rightF _=false then _ else _)=_
  rw [if_neg (by rw [withN_right (hT.2.get hdi) h60];decide),show (rD T c p fl - 1).toNat=j by omega]
 rw [key]
theorem bit10 {d:Nd} (h:rightF d=true):decide (bits .and .i64 d.mode 1024=0)=!bitN d.mode.toNat 10:=and_pow (k:=10) (by omega) rfl (by
 obtain ⟨⟨h1,h2⟩, _⟩:=right_ids h
 omega)
theorem born_own {c:Cr} {d N0 n:Nd} (h:rightF d=true) (h1:n.mode=if bitN d.mode.toNat 10=true∧N0.kind=2 then N0.mode+1024 else N0.mode) (hk:n.kind=N0.kind) (hd:n.data=N0.data) (he:n.ents=N0.ents) (ht:n.target=N0.target):bornX c d N0=ownN c d n:=by
 have hb:=bit10 h
 unfold bornX ownN chgN
 rw [←h1,hk,hd,he,ht]
 cases hx:bitN d.mode.toNat 10 with
 | true=>
  rw [hx] at hb
  rw [if_pos rfl,if_neg (of_decide_eq_false hb)]
 | false=>
  rw [hx] at hb
  rw [if_neg (by decide),if_pos (of_decide_eq_true hb)]
theorem sym_own {c:Cr} {t:List UInt8} (d:Nd) (h:rightF d=true):bornX c d ⟨3,511,0,0,[],[],t⟩=ownN c d (symG t d):=
 born_own h (by rw [if_neg (fun k=>absurd k.2 (by decide:¬(3:Int)=2))];rfl) rfl rfl rfl rfl
theorem file_mode (m um:Int):bits .andNot .i64 (bitsP m [511]) um=(maskX m um:Nat):=by
 have h1:=maskX_lt m um
 have e1:(BitVec.ofInt 64 m &&& BitVec.ofInt 64 511).toNat<512:=by
  rw [BitVec.toNat_and,bv511,Nat.and_two_pow_sub_one_eq_mod]
  exact Nat.mod_lt _ (by decide)
 have e0:bitsP m [511]=((BitVec.ofInt 64 m &&& BitVec.ofInt 64 511).toNat:Int):=by
  show IntKind.i64.wrap ((BitVec.ofInt 64 m &&& BitVec.ofInt 64 (orL [511])).toNat:Nat)=_
  rw [show orL [511]=511 by decide,IntWalk.i64_in _ (by omega)]
 rw [e0]
 show IntKind.i64.wrap ((BitVec.ofInt 64 (((BitVec.ofInt 64 m &&& BitVec.ofInt 64 511).toNat:Nat):Int) &&& ~~~(BitVec.ofInt 64 um)).toNat:Nat)=_
 rw [BitVec.ofInt_natCast,BitVec.ofNat_toNat,BitVec.setWidth_eq]
 show IntKind.i64.wrap ((maskX m um:Nat):Int)=_
 rw [IntWalk.i64_in _ (by omega)]
theorem file_own {c:Cr} {m um:Int} (d:Nd) (h:rightF d=true):bornX c d ⟨1,(maskX m um:Nat),0,0,[],[],[]⟩=ownN c d (fileG um m d):=
 born_own h (by rw [if_neg (fun k=>absurd k.2 (by decide:¬(1:Int)=2))];exact file_mode m um) rfl rfl rfl rfl
theorem e148 (T:Tab) (c:Cr) (d:Int) (s:List UInt8) (n k m:Int) (t:List UInt8) (h:List Blk) (live:List Nat) (hT:T.Ok) (hR:T.Rt) (hgs:c.gs.length≤1000000000) (hs:s.length≤9223372036854775807) (ht:t.length≤1000) (hm0:0≤m∧m≤4095):ACalls Tryz.prog 148 [tV (refL T),.agg [.int .i64 c.uid,.int .i64 c.gid,.slice (c.gs.map iV) .none],.agg [.int .i64 d,.str s,.int .i64 n],.agg [.int .i64 k,.int .i64 m,.int .i64 0,.int .i64 0,.str [],.slice [] .full,.slice [] .full,.str t]] h live (ret (.tup [tV (refL (plantX T c d s n ⟨k,m,0,0,[],[],t⟩).2),.int .i64 (plantX T c d s n ⟨k,m,0,0,[],[],t⟩).1.1,.int .i64 (plantX T c d s n ⟨k,m,0,0,[],[],t⟩).1.2]) h live):=by
 refine ACalls.er ?_
 have hc:=c148 T c d s n ⟨k,m,0,0,[],[],t⟩ h live hT hR hgs hs ⟨Nat.zero_le _,Nat.zero_le _,ht,fun e he=>nomatch he⟩ hm0
 have e:[tV (refL T),AV.agg [.int .i64 c.uid,.int .i64 c.gid,.slice (c.gs.map iV) .none],.agg [.int .i64 d,.str s,.int .i64 n],.agg [.int .i64 k,.int .i64 m,.int .i64 0,.int .i64 0,.str [],.slice [] .full,.slice [] .full,.str t]].map AV.er=[tV (refL T),AV.agg [.int .i64 c.uid,.int .i64 c.gid,.slice (c.gs.map iV) .none],.agg [.int .i64 d,.str s,.int .i64 n],.agg (nvC ⟨k,m,0,0,[],[],t⟩)]:=by
  simp only [List.map_cons,List.map_nil,tV,AV.er,AV.erL,erL_nV,erL_iV]
  rfl
 rw [e];exact hc
theorem c92 (T:Tab) (c:Cr) (s p:List UInt8) (h:List Blk) (live:List Nat) (hT:T.Ok) (hR:T.Rt) (hgs:c.gs.length≤1000000000) (hs:s.length≤9223372036854775807) (hp:p.length≤9223372036854775807):AC Tryz.prog 92 [tV (refL T),.agg [.int .i64 c.uid,.int .i64 c.gid,.slice (c.gs.map iV) .none],.str s,.str p] h live (.tup [tV (refL (symlinkF T c s p).2),.int .i64 (symlinkF T c s p).1]):=by
 refine aq_ Tryz.func92 fun hH hX=>?_
 have hll:=refL_len hT
 have hhi:=hT.hi
 have hlo:=hT.lo
 have hib:=ib_has s
 have hnm:=resF_nm T c p false
 have sx:=(And.intro @resV_eq sx0)
 refine rg_ [2,3,4,5,8] ?_
 refine sk_ fun K1 hK1=>?_
 refine rg_ [2,3,4,5,8,17] ?_
 refine cx_ (fun hb1=>?_) (fun hb1=>?_)
 ·
  refine rg_ [8,9] ?_
  refine ret_ ?_
  refine fq_ Tryz.results92 ?_
  exact rk_ (by unfold symlinkF;rw [if_pos hb1];try rfl)
 refine skp_ ?_
 refine hK1 _ ?_
 refine sk_ fun K2 hK2=>?_
 refine rg_ [2,3,4,5,8,21] ?_
 refine cx_ (fun hb2=>?_) (fun hb2=>?_)
 ·
  refine rg_ [8,9] ?_
  refine ret_ ?_
  refine fq_ Tryz.results92 ?_
  exact rk_ (by unfold symlinkF;rw [if_neg hb1,if_pos (by omega)];try rfl)
 refine skp_ ?_
 refine hK2 _ ?_
 refine rs_ [2,3,4,5,8,10] ?_
 refine sg_ ?_
 refine cl_ (hc:=h0149 s _ _ hs) (k:=?_)
 refine sre_ ?_
 refine sk_ fun K3 hK3=>?_
 refine rg_ [2,3,4,5,8,25] ?_
 refine cy_ (fun hb3=>?_) (fun hb3=>?_)
 ·
  rw [hib,decide_eq_true_eq] at hb3
  refine rg_ [8,9] ?_
  refine ret_ ?_
  refine fq_ Tryz.results92 ?_
  exact rk_ (by unfold symlinkF;rw [if_neg hb1,if_neg (by omega),if_pos hb3];try rfl)
 rw [hib,decide_eq_false_iff_not] at hb3
 refine skp_ ?_
 refine hK3 _ ?_
 refine rs_ [2,4,5,8,11,12] ?_
 refine sg_ ?_
 refine cl_ (hc:=c142 T c p false _ _ hT hR hgs hp) (k:=?_)
 refine sre_ ?_
 refine sk_ fun K4 hK4=>?_
 refine rg_ [2,4,5,8,11,12,35] ?_
 refine cx_ (fun hb4=>?_) (fun hb4=>?_)
 ·
  have hpe:plantF T c p false (symG s)=((0,rE T c p false),T):=by unfold plantF;rw [if_pos hb4]
  refine rg_ [8,9] ?_
  refine ret_ ?_
  refine fq_ Tryz.results92 ?_
  exact rk_ (by unfold symlinkF;rw [if_neg hb1,if_neg (by omega),if_neg hb3,hpe];try rfl)
 have hpe:=plant_eq ⟨hT,hR⟩ (c:=c) (p:=p) (fl:=false) (g:=symG s) (N0:=⟨3,511,0,0,[],[],s⟩) (fun n hn=>⟨Nat.zero_le _,Nat.zero_le _,by show s.length≤1000;omega,fun e he=>nomatch he⟩) hb4 (fun d hd=>sym_own d hd)
 refine skp_ ?_
 refine hK4 _ ?_
 refine rs_ [8,13,15] ?_
 refine sg_ ?_
 refine cl_ (hc:=e148 T c (rD T c p false) (rS T c p false) (rN T c p false) 3 511 s _ _ hT hR hgs (by omega) (by omega) (by omega)) (k:=?_)
 refine sre_ ?_
 refine rg_ [8,9] ?_
 refine ret_ ?_
 refine fq_ Tryz.results92 ?_
 exact rk_ (by unfold symlinkF;rw [if_neg hb1,if_neg (by omega),if_neg hb3,hpe];try rfl)
theorem c156 (T:Tab) (c:Cr) (um:Int) (p:List UInt8) (m:Int) (fl:Bool) (h:List Blk) (live:List Nat) (hT:T.Ok) (hR:T.Rt) (hgs:c.gs.length≤1000000000) (hp:p.length≤9223372036854775807):AC Tryz.prog 156 [tV (refL T),.agg [.int .i64 c.uid,.int .i64 c.gid,.slice (c.gs.map iV) .none],.int .i64 um,.str p,.int .i64 m,.bool fl] h live (.tup [tV (refL (createF T c um p m fl).2),.int .i64 (createF T c um p m fl).1.1,.int .i64 (createF T c um p m fl).1.2]):=by
 refine aq_ Tryz.func156 fun hH hX=>?_
 have hll:=refL_len hT
 have hhi:=hT.hi
 have hlo:=hT.lo
 have hnm:=resF_nm T c p fl
 have hmx:=maskX_lt m um
 have sx:=(And.intro @resV_eq sx0)
 refine rg_ [2,3,4,5,6,7,12] ?_
 refine rs_ [2,4,6,7,12,15,16] ?_
 refine sg_ ?_
 refine cl_ (hc:=c142 T c p fl _ _ hT hR hgs hp) (k:=?_)
 refine sre_ ?_
 refine sk_ fun K1 hK1=>?_
 refine rg_ [2,4,6,7,12,15,16,26] ?_
 refine cx_ (fun hb1=>?_) (fun hb1=>?_)
 ·
  have hpe:plantF T c p fl (fileG um m)=((0,rE T c p fl),T):=by unfold plantF;rw [if_pos hb1]
  refine rg_ [12,13,14] ?_
  refine ret_ ?_
  refine fq_ Tryz.results156 ?_
  exact rk_ (by unfold createF;rw [hpe];try rfl)
 have hpe:=plant_eq ⟨hT,hR⟩ (c:=c) (p:=p) (fl:=fl) (g:=fileG um m) (N0:=⟨1,(maskX m um:Nat),0,0,[],[],[]⟩) (fun n hn=>⟨Nat.zero_le _,Nat.zero_le _,Nat.zero_le _,fun e he=>nomatch he⟩) hb1 (fun d hd=>file_own d hd)
 refine skp_ ?_
 refine hK1 _ ?_
 refine rsq_ [12,13,14] ⟨true,[],[],[],[],[],0⟩ (fun _=>⟨by kernel_rfl,by kernel_rfl⟩) ?_
 refine sg_ ?_
 refine cr_ (hc:=c31 m um _ _) (k:=?_)
 refine sg_ ?_
 refine cr_ (hc:=e148 T c (rD T c p fl) (rS T c p fl) (rN T c p fl) 1 (maskX m um:Nat) [] _ _ hT hR hgs (by omega) (Nat.zero_le _) (by omega)) (k:=?_)
 refine srt_ ?_
 refine fq_ Tryz.results156 ?_
 exact rk_ (by unfold createF;rw [hpe];try rfl)
end Go.Proofs.YtegffmibifodcaaGreat

/-
  THE DOCUMENT: directories made.
-/
namespace Go.Proofs.YtegffmibifodcaaGreat
open Go.Ab
set_option maxRecDepth 8000
set_option maxHeartbeats 400000
def mkX (m um:Int):Nat:=(BitVec.ofInt 64 m &&& BitVec.ofInt 64 1023 &&& ~~~(BitVec.ofInt 64 um &&& BitVec.ofInt 64 511)).toNat
theorem bv1023:(BitVec.ofInt 64 1023).toNat=2^10 - 1:=by decide
theorem mkX_lt (m um:Int):mkX m um<1024:=by
 unfold mkX
 rw [BitVec.toNat_and,BitVec.toNat_and,bv1023,Nat.and_two_pow_sub_one_eq_mod]
 exact Nat.lt_of_le_of_lt Nat.and_le_left (Nat.mod_lt _ (by decide))
theorem mkX_bit (m um:Int) {k:Nat} (hk:k<10) {a b:Nat} (ha:m%4096=a) (hb:um%4096=b):bitN (mkX m um) k=(bitN a k&&!(bitN b k&&decide (k<9))):=by
 rw [←bv_bit (by omega) ha,←bv_bit (by omega) hb]
 unfold bitN
 rw [←Nat.testBit_eq_decide_div_mod_eq]
 unfold mkX
 rw [BitVec.toNat_and,BitVec.toNat_and,bv1023,Nat.and_two_pow_sub_one_eq_mod,Nat.testBit_and,Nat.testBit_mod_two_pow,decide_eq_true hk,Bool.true_and]
 congr 1
 show (~~~(BitVec.ofInt 64 um &&& BitVec.ofInt 64 511)).getLsbD k=_
 rw [BitVec.getLsbD_not,decide_eq_true (show k<64 by omega),Bool.true_and]
 congr 1
 show (BitVec.ofInt 64 um &&& BitVec.ofInt 64 511).toNat.testBit k=_
 rw [BitVec.toNat_and,bv511,Nat.and_two_pow_sub_one_eq_mod,Nat.testBit_mod_two_pow,Bool.and_comm]
theorem lowX_congr {x y:Nat}:∀n,(∀k,k<n→bitN x k=bitN y k)→lowX x n=lowX y n
 | 0, _=>by rw [lowX_0,lowX_0]
 | n+1,h=>by
  have ih:=lowX_congr n fun k hk=>h k (by omega)
  have hb:=h n (by omega)
  cases hx:bitN x n with
  | true=>rw [lowX_y hx,lowX_y (hb▸hx),ih]
  | false=>rw [lowX_n hx,lowX_n (hb▸hx),ih]
theorem mkX_eq (m um:Int) {a:Nat} (ha:m%4096=a):mkX m um=if bitN a 9=true then maskX m um+512 else maskX m um:=by
 obtain ⟨b, _,hb⟩:=low_nat um
 have h9:lowX (mkX m um) 9=maskX m um:=by
  rw [lowX_congr (y:=maskX m um) 9 fun k hk=>by rw [mkX_bit m um (by omega) ha hb,maskX_bit m um hk ha hb,decide_eq_true hk,Bool.and_true],lowX_9 (maskX_lt m um)]
 have h10:lowX (mkX m um) 10=mkX m um:=Nat.mod_eq_of_lt (mkX_lt m um)
 have hb9:bitN (mkX m um) 9=bitN a 9:=by
  rw [mkX_bit m um (by omega) ha hb,decide_eq_false (by omega),Bool.and_false,Bool.not_false,Bool.and_true]
 rw [←h10]
 cases hx:bitN a 9 with
 | true=>rw [lowX_y (hb9.trans hx),h9,if_pos rfl];rfl
 | false=>rw [lowX_n (hb9.trans hx),h9,if_neg (by decide)]
theorem and_bit10 {m:Int} {a:Nat} (ha:m%4096=a):bits .and .i64 m 1024=if bitN a 10=true then 1024 else 0:=by
 have hp:=and_pow (m:=m) (k:=10) (by omega) (w:=1024) rfl ha
 have key:(BitVec.ofInt 64 m &&& BitVec.ofInt 64 1024).toNat=(BitVec.ofInt 64 m).toNat &&& 2^10:=by
  rw [BitVec.toNat_and];rfl
 have hle:(BitVec.ofInt 64 m).toNat &&& 2^10≤2^10:=Nat.and_le_right
 have e:bits .and .i64 m 1024=(((BitVec.ofInt 64 m).toNat &&& 2^10:Nat):Int):=by
  show IntKind.i64.wrap ((BitVec.ofInt 64 m &&& BitVec.ofInt 64 1024).toNat:Nat)=_
  rw [key,IntWalk.i64_in _ (by omega)]
 cases hx:bitN a 10 with
 | false=>
  rw [hx] at hp
  rw [if_neg (by decide)]
  exact of_decide_eq_true hp
 | true=>
  rw [if_pos rfl,e]
  have hb:=(bv_bit (m:=m) (k:=10) (by omega) ha).trans hx
  have:(BitVec.ofInt 64 m).toNat &&& 2^10=2^10:=by
   refine Nat.eq_of_testBit_eq fun i=>?_
   rw [Nat.testBit_and,Nat.testBit_two_pow]
   by_cases hi:10=i
   · subst hi;rw [hb];rfl
   · rw [decide_eq_false hi,Bool.and_false]
  rw [this];rfl
theorem mk_an (m um:Int):bits .andNot .i64 (bitsP m [511,512]) (bitsP um [511])=(mkX m um:Nat):=by
 have h1:=mkX_lt m um
 have lt1:(BitVec.ofInt 64 m &&& BitVec.ofInt 64 1023).toNat<1024:=by
  rw [BitVec.toNat_and,bv1023,Nat.and_two_pow_sub_one_eq_mod]
  exact Nat.mod_lt _ (by decide)
 have lt2:(BitVec.ofInt 64 um &&& BitVec.ofInt 64 511).toNat<512:=by
  rw [BitVec.toNat_and,bv511,Nat.and_two_pow_sub_one_eq_mod]
  exact Nat.mod_lt _ (by decide)
 have e1:bitsP m [511,512]=((BitVec.ofInt 64 m &&& BitVec.ofInt 64 1023).toNat:Int):=by
  show IntKind.i64.wrap ((BitVec.ofInt 64 m &&& BitVec.ofInt 64 (orL [511,512])).toNat:Nat)=_
  rw [show orL [511,512]=1023 by decide,IntWalk.i64_in _ (by omega)]
 have e2:bitsP um [511]=((BitVec.ofInt 64 um &&& BitVec.ofInt 64 511).toNat:Int):=by
  show IntKind.i64.wrap ((BitVec.ofInt 64 um &&& BitVec.ofInt 64 (orL [511])).toNat:Nat)=_
  rw [show orL [511]=511 by decide,IntWalk.i64_in _ (by omega)]
 rw [e1,e2]
 show IntKind.i64.wrap ((BitVec.ofInt 64 (((BitVec.ofInt 64 m &&& BitVec.ofInt 64 1023).toNat:Nat):Int) &&& ~~~(BitVec.ofInt 64 (((BitVec.ofInt 64 um &&& BitVec.ofInt 64 511).toNat:Nat):Int))).toNat:Nat)=_
 rw [BitVec.ofInt_natCast,BitVec.ofNat_toNat,BitVec.setWidth_eq,BitVec.ofInt_natCast,BitVec.ofNat_toNat,BitVec.setWidth_eq]
 show IntKind.i64.wrap ((mkX m um:Nat):Int)=_
 rw [IntWalk.i64_in _ (by omega)]
theorem or_1024 {x:Nat} (h:x<1024) (b:Bool):bits .or .i64 (x:Int) (if b=true then 1024 else 0)=if b=true then (x:Int)+1024 else x:=by
 have hx:(BitVec.ofInt 64 (x:Int)).toNat=x:=by
  rw [BitVec.ofInt_natCast,BitVec.toNat_ofNat,Nat.mod_eq_of_lt (by omega)]
 cases b with
 | false=>
  show IntKind.i64.wrap ((BitVec.ofInt 64 (x:Int) ||| BitVec.ofInt 64 0).toNat:Nat)=x
  rw [BitVec.toNat_or,hx,show (BitVec.ofInt 64 0).toNat=0 by decide,Nat.or_zero,IntWalk.i64_in _ (by omega)]
 | true=>
  show IntKind.i64.wrap ((BitVec.ofInt 64 (x:Int) ||| BitVec.ofInt 64 1024).toNat:Nat)=(x:Int)+1024
  have h2:=Nat.two_pow_add_eq_or_of_lt (i:=10) (b:=x) h 1
  rw [BitVec.toNat_or,hx,show (BitVec.ofInt 64 1024).toNat=2^10*1 by decide,Nat.or_comm,←h2,IntWalk.i64_in _ (by omega)]
  omega
theorem dir_own {c:Cr} {m um:Int} (d:Nd) (h:rightF d=true):bornX c d ⟨2,(mkX m um:Nat),0,0,[],[],[]⟩=ownN c d (mkdirG um m d):=by
 refine born_own h ?_ rfl rfl rfl rfl
 obtain ⟨⟨h1,h2⟩, _⟩:=right_ids h
 have hd:d.mode%4096=(d.mode.toNat:Nat):=by omega
 show bits .or .i64 (bits .andNot .i64 (bitsP m [511,512]) (bitsP um [511])) (bits .and .i64 d.mode (orL [1024]))=_
 rw [mk_an,show orL [1024]=1024 by decide,and_bit10 hd,or_1024 (mkX_lt m um)]
 cases bitN d.mode.toNat 10
 · rw [if_neg (by decide),if_neg (fun k=>by cases k.1)]
 · rw [if_pos rfl,if_pos ⟨rfl,rfl⟩]
theorem c91 (T:Tab) (c:Cr) (um:Int) (p:List UInt8) (m:Int) (h:List Blk) (live:List Nat) (hT:T.Ok) (hR:T.Rt) (hgs:c.gs.length≤1000000000) (hp:p.length≤9223372036854775807):AC Tryz.prog 91 [tV (refL T),.agg [.int .i64 c.uid,.int .i64 c.gid,.slice (c.gs.map iV) .none],.int .i64 um,.str p,.int .i64 m] h live (.tup [tV (refL (mkdirF T c um p m).2),.int .i64 (mkdirF T c um p m).1]):=by
 refine aq_ Tryz.func91 fun hH hX=>?_
 have hll:=refL_len hT
 have hhi:=hT.hi
 have hlo:=hT.lo
 have hnm:=resF_nm T c p false
 have hmx:=maskX_lt m um
 obtain ⟨a,ha4,ha⟩:=low_nat m
 have hmk:=mkX_eq m um ha
 have hmkl:=mkX_lt m um
 have hmi:((mkX m um:Nat):Int)=if bitN a 9=true then ((maskX m um:Nat):Int)+512 else (maskX m um:Nat):=by rw [hmk];split<;>omega
 have sx:=(And.intro @resV_eq (And.intro @ha sx0))
 refine rg_ [2,3,4,5,6,10] ?_
 refine rs_ [2,4,5,6,10,12,13] ?_
 refine sg_ ?_
 refine cl_ (hc:=c142 T c p false _ _ hT hR hgs hp) (k:=?_)
 refine sre_ ?_
 refine sk_ fun K1 hK1=>?_
 refine rg_ [2,4,5,6,10,12,13,26] ?_
 refine cx_ (fun hb1=>?_) (fun hb1=>?_)
 ·
  have hpe:plantF T c p false (mkdirG um m)=((0,rE T c p false),T):=by unfold plantF;rw [if_pos hb1]
  refine rg_ [10,11] ?_
  refine ret_ ?_
  refine fq_ Tryz.results91 ?_
  exact rk_ (by unfold mkdirF;rw [hpe];try rfl)
 have hpe:=plant_eq ⟨hT,hR⟩ (c:=c) (p:=p) (fl:=false) (g:=mkdirG um m) (N0:=⟨2,(mkX m um:Nat),0,0,[],[],[]⟩) (fun n hn=>⟨Nat.zero_le _,Nat.zero_le _,Nat.zero_le _,fun e he=>nomatch he⟩) hb1 (fun d hd=>dir_own d hd)
 refine skp_ ?_
 refine hK1 _ ?_
 refine rs_ [4,5,6,10,12,14] ?_
 refine sg_ ?_
 refine cl_ (hc:=c31 m um _ _) (k:=?_)
 refine sre_ ?_
 refine sk_ fun K2 hK2=>?_
 refine rs_ [5,6,10,12,14,34] ?_
 refine sg_ ?_
 refine cl_ (hc:=c70 m _ _) (k:=?_)
 refine cl_ (hc:=c69 a 9 _ _ ha4 (by omega)) (k:=?_)
 refine re_ ?_
 refine cy_ (fun hb2=>?_) (fun hb2=>?_)
 ·
  rw [if_pos hb2] at hmi
  have hmi':=hmi.symm
  have sx:=And.intro hmi' sx
  refine rt_ [5,6,10,12,14] ?_
  refine srn_ ?_
  refine hK2 _ ?_
  refine rs_ [10,15,17] ?_
  refine sg_ ?_
  refine cl_ (hc:=e148 T c (rD T c p false) (rS T c p false) (rN T c p false) 2 (mkX m um:Nat) [] _ _ hT hR hgs (by omega) (Nat.zero_le _) (by omega)) (k:=?_)
  refine sre_ ?_
  refine rg_ [10,11] ?_
  refine ret_ ?_
  refine fq_ Tryz.results91 ?_
  exact rk_ (by unfold mkdirF;rw [hpe];try rfl)
 rw [if_neg (by rw [hb2];decide)] at hmi
 have hmi':=hmi.symm
 have sx:=And.intro hmi' sx
 refine skp_ ?_
 refine hK2 _ ?_
 refine rs_ [10,15,17] ?_
 refine sg_ ?_
 refine cl_ (hc:=e148 T c (rD T c p false) (rS T c p false) (rN T c p false) 2 (mkX m um:Nat) [] _ _ hT hR hgs (by omega) (Nat.zero_le _) (by omega)) (k:=?_)
 refine sre_ ?_
 refine rg_ [10,11] ?_
 refine ret_ ?_
 refine fq_ Tryz.results91 ?_
 exact rk_ (by unfold mkdirF;rw [hpe];try rfl)
end Go.Proofs.YtegffmibifodcaaGreat

/-
  THE DOCUMENT: what may be taken away.
-/
namespace Go.Proofs.YtegffmibifodcaaGreat
open Go.Ab
set_option maxRecDepth 8000
set_option maxHeartbeats 400000
theorem any_comm (o:List Int) (i:Int):(o.any fun y=>decide (y=i))=o.any fun y=>decide (i=y):=congrArg o.any (funext fun y=>decide_eq_decide.2 eq_comm)
theorem free_y {T:Tab} {i:Int} {o:List Int} (h:(decide (i=1)||decide (0<T.links i)||(o.any fun y=>decide (y=i)))=true):freeF T i o=(false,T):=by
 rw [any_comm] at h
 unfold freeF
 rw [Bool.or_eq_true,Bool.or_eq_true,decide_eq_true_eq,decide_eq_true_eq] at h
 rw [if_pos h]
theorem free_n {T:Tab} {i:Int} {o:List Int} (h:(decide (i=1)||decide (0<T.links i)||(o.any fun y=>decide (y=i)))=false):freeF T i o=((T.at i).isSome,dropT T i):=by
 rw [any_comm] at h
 unfold freeF
 rw [if_neg (fun k=>?_)]
 have k':(decide (i=1)||decide (0<T.links i)||o.any fun y=>decide (i=y))=true:=by
  rw [Bool.or_eq_true,Bool.or_eq_true,decide_eq_true_eq,decide_eq_true_eq];exact k
 rw [h] at k';cases k'
theorem below_s {T:Tab} {d:Int} {n:Nat} {i:Int} (h1:¬i=d) (h2:¬i=0):belowL T d (n+1) i=belowL T d n (T.parent i):=by
 show (if i=d∨i=0 then _ else _)=_
 rw [if_neg (fun k=>k.elim h1 h2)]
theorem below_e {T:Tab} {d:Int} {n:Nat} {i:Int} (h1:i=d∨i=0):belowL T d (n+1) i=decide (i=d):=by
 show (if i=d∨i=0 then _ else _)=_
 rw [if_pos h1]
theorem c101 (T:Tab) (i:Int) (o:List Int) (h:List Blk) (live:List Nat) (hT:T.Ok) (ho:o.length≤1000000):AC Tryz.prog 101 [tV (refL T),.int .i64 i,.slice (o.map iV) .none] h live (.tup [tV (refL (freeF T i o).2),.bool (freeF T i o).1]):=by
 refine aq_ Tryz.func101 fun hH hX=>?_
 have hll:=refL_len hT
 have hhi:=hT.hi
 have hlo:=hT.lo
 refine rg_ [1,2,3,6] ?_
 refine sk_ fun K1 hK1=>?_
 refine rs_ [1,3,6,20] ?_
 refine sg_ ?_
 refine cg_ (hc:=fun hg=>c158 T i _ _ hT) (k:=?_)
 refine sg_ ?_
 refine cg_ (hc:=fun hg=>c159 o i _ _ ho) (k:=?_)
 refine sre_ ?_
 refine cy_ (fun hb1=>?_) (fun hb1=>?_)
 ·
  have hfr:=free_y hb1
  refine rg_ [6,7] ?_
  refine ret_ ?_
  refine fq_ Tryz.results101 ?_
  exact rk_ (by rw [hfr];try rfl)
 have hfr:=free_n hb1
 refine skp_ ?_
 refine hK1 _ ?_
 refine rs_ [6,7] ?_
 refine sg_ ?_
 refine cl_ (hc:=c152 T i _ _ hT) (k:=?_)
 refine srt_ ?_
 refine fq_ Tryz.results101 ?_
 exact rk_ (by rw [hfr];try rfl)
theorem c200 (T:Tab) (i d:Int) (h:List Blk) (live:List Nat) (hT:T.Ok):AC Tryz.prog 200 [tV (refL T),.int .i64 i,.int .i64 d] h live (.bool (belowL T d 24 i)):=by
 refine aq_ Tryz.func200 fun hH hX=>?_
 unfold tV
 have hll:=refL_len hT
 have hhi:=hT.hi
 have hlo:=hT.lo
 have hnd:=refL_nd hT
 have hB:HCl (h++[.cells [.slice ((refL T).map nV) .none]]):=HCl.snoc hH (by simp [Blk.cl,AV.cl,AV.clL,clL_nV, -List.map_map])
 refine rg_ [1,2,3] ?_
 refine sk_ fun K1 hK1=>?_
 refine rg_ [1,2,3,7] ?_
 refine awp_block ?_
 refine lp_ (X:={x:Nat×Int // x.1≤24∧belowL T d 24 i=belowL T d (24 - x.1) x.2}) (fun x=>⟨Tryz.f200.ntmps,fget [(1,.int .i64 x.1.2),(2,.int .i64 d),(3,.ptr h.length 0),(7,.int .i64 (x.1.1:Nat))],h++[.cells [.slice ((refL T).map nV) .none]],live⟩) (fun x=>24 - x.1.1) (⟨⟨0,i⟩,by omega,rfl⟩) ?_ (fun ⟨⟨m,e⟩,hm,hbl⟩=>?_)
 ·
  try dsimp only
  exact tf_ hB (fun _ h=>h)
 try dsimp only
 dsimp only at hm hbl
 refine sk_ fun K2 hK2=>?_
 refine rg_ [1,2,3,7,9] ?_
 refine cx_ (fun hb1=>?_) (fun hb1=>?_)
 rotate_left
 ·
  have hme:m=24:=by omega
  subst hme
  refine awp_exit (up_ ?_)
  refine hK1 _ ?_
  refine rg_ [6] ?_
  refine ret_ ?_
  refine fq_ Tryz.results200 ?_
  exact rk_ (by rw [hbl];rfl)
 have hbl2:belowL T d 24 i=belowL T d ((24 - (m+1))+1) e:=by rw [hbl,show 24 - (m+1)+1=24 - m by omega]
 refine skp_ ?_
 refine hK2 _ ?_
 refine sk_ fun K3 hK3=>?_
 refine awp_block ?_
 refine sk_ fun K4 hK4=>?_
 refine rg_ [1,2,3,7,14] ?_
 refine cx_ (fun hb2=>?_) (fun hb2=>?_)
 ·
  refine rg_ [6] ?_
  refine ret_ ?_
  refine fq_ Tryz.results200 ?_
  exact rk_ (by rw [hbl2,below_e (.inl hb2),decide_eq_true hb2])
 refine skp_ ?_
 refine hK4 _ ?_
 refine sk_ fun K5 hK5=>?_
 refine rg_ [1,2,3,7,16] ?_
 refine cx_ (fun hb3=>?_) (fun hb3=>?_)
 ·
  refine rg_ [6] ?_
  refine ret_ ?_
  refine fq_ Tryz.results200 ?_
  exact rk_ (by rw [hbl2,below_e (.inr hb3),decide_eq_false hb2])
 refine skp_ ?_
 refine hK5 _ ?_
 refine rt_ [1,2,3,7] ?_
 refine sg_ ?_
 refine cl_ (hc:=(rPar_eq hT _▸c220 (refL T) _ _ _ (by omega) hnd)) (k:=?_)
 refine srn_ ?_
 refine hK3 _ ?_
 refine rt_ [1,2,3,7] ?_
 refine srn_ ?_
 refine ln_ ⟨⟨m+1,T.parent e⟩,by dsimp only;omega,by dsimp only;rw [hbl2,below_s hb2 hb3]⟩ ?_
 try dsimp only
 exact tf_ hB (fun _ h=>h)
theorem c197 (T:Tab) (c:Cr) (d:Int) (s:List UInt8) (n:Int) (h:List Blk) (live:List Nat) (hT:T.Ok) (hgs:c.gs.length≤1000000000):AC Tryz.prog 197 [tV (refL T),.agg [.int .i64 c.uid,.int .i64 c.gid,.slice (c.gs.map iV) .none],.agg [.int .i64 d,.str s,.int .i64 n]] h live (.bool (stickyF c (T.get d).1.mode (T.get d).1.uid (T.get n).1.uid)):=by
 refine aq_ Tryz.func197 fun hH hX=>?_
 have hll:=refL_len hT
 have hhi:=hT.hi
 have hlo:=hT.lo
 refine rg_ [3,4,5] ?_
 refine rs_ [3,4,5,7] ?_
 refine sg_ ?_
 refine cl_ (hc:=(rGet_eq hT d▸c54 (refL T) d _ _ (by omega))) (k:=?_)
 refine sre_ ?_
 refine rsq_ [6] ⟨true,[],[],[],[],[],0⟩ (fun _=>⟨by kernel_rfl,by kernel_rfl⟩) ?_
 refine sg_ ?_
 refine cr_ (hc:=(rGet_eq hT n▸c54 (refL T) n _ _ (by omega))) (k:=?_)
 refine sg_ ?_
 refine cr_ (hc:=c225 c .none _ _ _ _ _) (k:=?_)
 refine srt_ ?_
 refine fq_ Tryz.results197 ?_
 exact rk_ rfl
theorem c150 (T:Tab) (c:Cr) (p:List UInt8) (h:List Blk) (live:List Nat) (hT:T.Ok) (hR:T.Rt) (hgs:c.gs.length≤1000000000) (hp:p.length≤9223372036854775807):AC Tryz.prog 150 [tV (refL T),.agg [.int .i64 c.uid,.int .i64 c.gid,.slice (c.gs.map iV) .none],.str p] h live (.tup [.agg [.int .i64 (rD T c p false),.str (rS T c p false),.int .i64 (rN T c p false)],.int .i64 (findE T c p)]):=by
 refine aq_ Tryz.func150 fun hH hX=>?_
 have hll:=refL_len hT
 have hhi:=hT.hi
 have hlo:=hT.lo
 have sx:=(And.intro @resV_eq sx0)
 refine rg_ [2,3,4,6] ?_
 refine rs_ [3,4,6,8,9] ?_
 refine sg_ ?_
 refine cl_ (hc:=c142 T c p false _ _ hT hR hgs hp) (k:=?_)
 refine sre_ ?_
 refine sk_ fun K1 hK1=>?_
 refine rg_ [3,4,6,8,9,20] ?_
 refine cx_ (fun hb1=>?_) (fun hb1=>?_)
 ·
  refine rg_ [6,7] ?_
  refine ret_ ?_
  refine fq_ Tryz.results150 ?_
  exact rk_ (by unfold findE;rw [if_pos hb1];try rfl)
 refine skp_ ?_
 refine hK1 _ ?_
 refine sk_ fun K2 hK2=>?_
 refine rg_ [3,4,6,8,25] ?_
 refine cx_ (fun hb2=>?_) (fun hb2=>?_)
 ·
  refine rg_ [6,7] ?_
  refine ret_ ?_
  refine fq_ Tryz.results150 ?_
  exact rk_ (by unfold findE;rw [if_neg (fun k=>k hb1),if_pos hb2];try rfl)
 refine skp_ ?_
 refine hK2 _ ?_
 refine sk_ fun K3 hK3=>?_
 refine rg_ [3,4,6,8,29] ?_
 refine cx_ (fun hb3=>?_) (fun hb3=>?_)
 ·
  refine rg_ [6,7] ?_
  refine ret_ ?_
  refine fq_ Tryz.results150 ?_
  exact rk_ (by unfold findE;rw [if_neg (fun k=>k hb1),if_neg hb2,if_pos hb3];try rfl)
 refine skp_ ?_
 refine hK3 _ ?_
 refine rs_ [3,4,6,8,10] ?_
 refine sg_ ?_
 refine cl_ (hc:=(rCan_eq hT c _ 2▸c144 (refL T) c _ 2 _ _ (by omega) hgs)) (k:=?_)
 refine sre_ ?_
 refine sk_ fun K4 hK4=>?_
 refine rg_ [3,4,6,8,37] ?_
 refine cx_ (fun hb4=>?_) (fun hb4=>?_)
 ·
  refine rg_ [6,7] ?_
  refine ret_ ?_
  refine fq_ Tryz.results150 ?_
  exact rk_ (by unfold findE;rw [if_neg (fun k=>k hb1),if_neg hb2,if_neg hb3,if_pos hb4];try rfl)
 refine skp_ ?_
 refine hK4 _ ?_
 refine rs_ [6,8,11] ?_
 refine sg_ ?_
 refine cl_ (hc:=c197 T c _ _ _ _ _ hT hgs) (k:=?_)
 refine sre_ ?_
 refine sk_ fun K5 hK5=>?_
 refine rg_ [6,8,44] ?_
 refine cx_ (fun hb5=>?_) (fun hb5=>?_)
 ·
  refine rg_ [6,7] ?_
  refine ret_ ?_
  refine fq_ Tryz.results150 ?_
  exact rk_ (by unfold findE;rw [if_neg (fun k=>k hb1),if_neg hb2,if_neg hb3,if_neg (by rw [hb4];decide),if_pos hb5];try rfl)
 refine skp_ ?_
 refine hK5 _ ?_
 refine rg_ [6,7] ?_
 refine ret_ ?_
 refine fq_ Tryz.results150 ?_
 exact rk_ (by unfold findE;rw [if_neg (fun k=>k hb1),if_neg hb2,if_neg hb3,if_neg (by rw [hb4];decide),if_neg (by rw [hb5];decide)];try rfl)
end Go.Proofs.YtegffmibifodcaaGreat

