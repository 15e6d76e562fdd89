import Derived.Test.YtmgnbgniikjhdaaGreatFc
import Derived.Test.YtmgnbgniikjhdaaGreatTy
import Derived.Lib.Bytealg
import Derived.Laws.Bits128
/-
  TABLES: leaves of Go's library: where something stands in a list; copies of lists.
-/
set_option linter.unusedVariables false
set_option linter.unusedSimpArgs false
namespace Go.Proofs.YtmgnbgniikjhdaaGreat
open Go.Ab
set_option maxRecDepth 8000
set_option maxHeartbeats 400000
def idxP {α:Type} (p:α→Bool):List α→Int
 | [] => -1
 | x::r=>bif p x then 0 else bif decide (idxP p r<0) then -1 else idxP p r+1
theorem idxP_range {α:Type} (p:α→Bool) (l:List α) : -1≤idxP p l∧idxP p l<l.length:=by
 induction l with
 | nil=>exact ⟨Int.le_refl _,by show (-1:Int)<0;omega⟩
 | cons x r ih=>
  unfold idxP
  cases p x with
  | true=>exact ⟨by simp,by simp only [cond_true,List.length_cons];omega⟩
  | false=>
   simp only [cond_false,List.length_cons]
   by_cases h:idxP p r<0
   · rw [decide_eq_true h];simp;omega
   · rw [decide_eq_false h];simp;omega
theorem idxP_at {α:Type} {p:α→Bool} (d:α):∀ {l:List α} {i:Nat},i<l.length→p (l.getD i d)=true→(∀j,j<i→p (l.getD j d)=false)→idxP p l=i
 | x::r,0, _,h, _=>by
  simp at h
  simp [idxP,h]
 | x::r,i+1,hi,h,hn=>by
  have h0:p x=false:=by simpa using hn 0 (by omega)
  have ih:=idxP_at d (l:=r) (i:=i) (by simpa using hi) (by simpa using h) (fun j hj=>by simpa using hn (j+1) (by omega))
  unfold idxP
  rw [h0,ih,decide_eq_false (by omega)]
  simp
theorem idxP_none {α:Type} {p:α→Bool} (d:α):∀ {l:List α},(∀j,j<l.length→p (l.getD j d)=false)→idxP p l = -1
 | [], _=>rfl
 | x::r,hn=>by
  have h0:p x=false:=by simpa using hn 0 (by simp)
  have ih:=idxP_none d (l:=r) (fun j hj=>by simpa using hn (j+1) (by simpa using hj))
  unfold idxP
  rw [h0,ih];rfl
theorem idxP_any {α:Type} (p:α→Bool) (l:List α):decide (0≤idxP p l)=l.any p:=by
 induction l with
 | nil=>rfl
 | cons x r ih=>
  unfold idxP
  rw [List.any_cons]
  cases hp:p x with
  | true=>simp
  | false=>
   simp only [cond_false,Bool.false_or]
   rw [←ih]
   by_cases h:idxP p r<0
   · rw [decide_eq_true h];simp;omega
   · rw [decide_eq_false h];simp;omega
def iV (n:Int):AV:=.int .i64 n
theorem getD_iV {l:List Int} {i:Nat} {d:AV} (h:i<l.length):(l.map iV).getD i d=.int .i64 (l.getD i 0):=by
 simp [List.getD_eq_getElem?_getD,h,iV]
theorem clL_iV (n:Nat) (l:List Int):AV.clL n (l.map iV):=by
 rw [AV.clL_mem];intro x hx;obtain ⟨y, _,rfl⟩:=List.mem_map.1 hx;trivial
theorem cells_iV (l:List Int):∀y∈l.map iV,y.cells.length=1:=by
 intro y hy;obtain ⟨a, _,rfl⟩:=List.mem_map.1 hy;rfl
theorem erL_iV (l:List Int):AV.erL (l.map iV)=l.map iV:=by
 rw [AV.erL_map,List.map_map];rfl
def oV (b:Bool):AV:=.bool b
theorem getD_oV {l:List Bool} {i:Nat} {d:AV} (h:i<l.length):(l.map oV).getD i d=.bool (l.getD i false):=by
 simp [List.getD_eq_getElem?_getD,h,oV]
theorem clL_oV (n:Nat) (l:List Bool):AV.clL n (l.map oV):=by
 rw [AV.clL_mem];intro x hx;obtain ⟨y, _,rfl⟩:=List.mem_map.1 hx;trivial
abbrev En:=List UInt8×Int
def eV (e:En):AV:=.agg [.str e.1,.int .i64 e.2]
theorem getD_eV {l:List En} {i:Nat} {d:AV} (h:i<l.length):(l.map eV).getD i d=.agg [.str (l.getD i ([],0)).1,.int .i64 (l.getD i ([],0)).2]:=by
 simp [List.getD_eq_getElem?_getD,h,eV]
theorem clL_eV (n:Nat) (l:List En):AV.clL n (l.map eV):=by
 rw [AV.clL_mem];intro x hx;obtain ⟨y, _,rfl⟩:=List.mem_map.1 hx;exact ⟨trivial,trivial,trivial⟩
theorem cells_eV (l:List En):∀y∈l.map eV,y.cells.length=2:=by
 intro y hy;obtain ⟨a, _,rfl⟩:=List.mem_map.1 hy;rfl
theorem erL_eV (l:List En):AV.erL (l.map eV)=l.map eV:=by
 rw [AV.erL_map,List.map_map];rfl
theorem allSz_eV (l:List En):allSz (l.map eV) 2↔True:=iff_true_intro (allSz_map _ _ _ fun _=>rfl)
theorem allSz_iV (l:List Int):allSz (l.map iV) 1↔True:=iff_true_intro (allSz_map _ _ _ fun _=>rfl)
attribute [push_cast] getD_iV getD_oV getD_eV allSz_eV allSz_iV
theorem idx_range (l:List UInt8) (c:UInt8) : -1≤Lib.indexByte l c∧Lib.indexByte l c<l.length:=by
 refine ⟨Lib.indexByte_ge l c,?_⟩
 induction l with
 | nil=>exact (by decide:(-1:Int)<0)
 | cons b l ih=>
  have:=Lib.indexByte_ge l c
  unfold Lib.indexByte
  simp only [List.length_cons]
  split
  · omega
  · split<;>omega
theorem c263 (l:List UInt8) (c:UInt8) (h:List Blk) (live:List Nat):ACalls Tryz.prog 263 [.str l,.int .u8 c.toNat] h live (ret (.int .i64 (Lib.indexByte l c)) h live):=by
 intro w G vs hvl hr hh
 match vs,hvl with
 | [a,b], _=>
  have h0:=hr 0 (by simp)
  have h1:=hr 1 (by simp)
  simp at h0 h1
  cases h0;cases h1
  have hrun:=run_callFunc_extern (P:=Tryz.prog) (f:=263) (e:=Extern.BytealgIndexByte.indexByte) Tryz.func263 rfl rfl (by kernel_rfl) (by kernel_rfl) [Value.string ⟨l.toArray⟩,.int .u8 c.toNat].toArray w
  rw [Lib.run_indexByteString] at hrun
  rw [hrun]
  refine ⟨_,h,live,G,⟨rfl,rfl,rfl⟩,?_,hh,Evo.refl _ _ _⟩
  have:((c.toNat:Int).toNat.toUInt8)=c:=by simp
  rw [this]
  exact .int _ _
attribute [push_cast] clL_iV erL_iV clL_oV clL_eV erL_eV
theorem c225 (l:List UInt8) (c:UInt8) (h:List Blk) (live:List Nat):AC Tryz.prog 225 [.str l,.int .u8 c.toNat] h live (.int .i64 (Lib.indexByte l c)):=by
 refine aq_ Tryz.func225 fun hH hX=>?_
 refine rg_ [0,1] ?_
 refine rs_ [4] ?_
 refine sg_ ?_
 refine cl_ (hc:=c263 _ _ _ _) (k:=?_)
 refine srt_ ?_
 refine fq_ Tryz.results225 ?_
 exact rk_ rfl
theorem c170 (l:List UInt8) (c:UInt8) (h:List Blk) (live:List Nat):AC Tryz.prog 170 [.str l,.int .u8 c.toNat] h live (.int .i64 (Lib.indexByte l c)):=by
 refine aq_ Tryz.func170 fun hH hX=>?_
 refine rg_ [0,1] ?_
 refine rs_ [4] ?_
 refine sg_ ?_
 refine cl_ (hc:=c225 _ _ _ _) (k:=?_)
 refine srt_ ?_
 refine fq_ Tryz.results170 ?_
 exact rk_ rfl
theorem c219 (l:List Int) (c:Cap) (v0:Int) (h:List Blk) (live:List Nat) (hl:l.length≤17592186044416):AC Tryz.prog 219 [.slice (l.map iV) c,.int .i64 v0] h live (.int .i64 (idxP (fun y=>decide (v0=y)) l)):=by
 refine aq_ Tryz.func219 fun hH hX=>?_
 refine rg_ [0,1] ?_
 refine sk_ fun K1 hK1=>?_
 refine rg_ [0,1,7,8] ?_
 refine awp_block ?_
 refine lp_ (X:={i:Nat // i≤l.length∧∀j,j<i→(fun y=>decide (v0=y)) (l.getD j 0)=false}) (fun x=>⟨Tryz.f219.ntmps,fget [(0,.slice (l.map iV) c),(1,.int .i64 v0),(7,.int .i64 l.length),(8,.int .i64 (x.1:Nat))],h,live⟩) (fun x=>l.length - x.1) (⟨0,by omega,fun j hj=>by omega⟩) ?_ (fun ⟨i,hi,hn⟩=>?_)
 ·
  try dsimp only
  exact ts_ hH
 try dsimp only
 refine rg_ [0,1,7,8,9] ?_
 refine sk_ fun K2 hK2=>?_
 refine cx_ (fun hb1=>?_) (fun hb1=>?_)
 rotate_left
 ·
  have hx:=idxP_none (p:=fun y=>decide (v0=y)) 0 (l:=l) fun j hj=>hn j (by omega)
  refine awp_exit (up_ ?_)
  refine hK1 _ ?_
  refine rg_ [4] ?_
  refine ret_ ?_
  refine fq_ Tryz.results219 ?_
  refine ⟨?_,rfl,rfl⟩
  rw [hx]
 refine skp_ ?_
 refine hK2 _ ?_
 refine sk_ fun K3 hK3=>?_
 refine awp_block ?_
 refine rg_ [0,1,5,7,8] ?_
 refine rg_ [0,1,5,7,8,16] ?_
 refine cy_ (fun hb2=>?_) (fun hb2=>?_)
 ·
  have hx:=idxP_at (p:=fun y=>decide (v0=y)) 0 (l:=l) (i:=i) (by omega) (by simpa using hb2) hn
  refine rg_ [4] ?_
  refine ret_ ?_
  refine fq_ Tryz.results219 ?_
  refine ⟨?_,rfl,rfl⟩
  rw [hx]
 refine skp_ ?_
 refine hK3 _ ?_
 refine rt_ [0,1,7,8] ?_
 refine srn_ ?_
 refine ln_ ⟨i+1,by omega,fun j hj=>by rcases Nat.lt_succ_iff_lt_or_eq.1 hj with h | h;exact hn j h;subst h;simpa using hb2⟩ ?_
 try dsimp only
 exact ts_ hH
theorem c290 (l:List Bool) (c:Cap) (v0:Bool) (h:List Blk) (live:List Nat) (hl:l.length≤17592186044416):AC Tryz.prog 290 [.slice (l.map oV) c,.bool v0] h live (.int .i64 (idxP (fun y=>v0==y) l)):=by
 refine aq_ Tryz.func290 fun hH hX=>?_
 refine rg_ [0,1] ?_
 refine sk_ fun K1 hK1=>?_
 refine rg_ [0,1,7,8] ?_
 refine awp_block ?_
 refine lp_ (X:={i:Nat // i≤l.length∧∀j,j<i→(fun y=>v0==y) (l.getD j false)=false}) (fun x=>⟨Tryz.f290.ntmps,fget [(0,.slice (l.map oV) c),(1,.bool v0),(7,.int .i64 l.length),(8,.int .i64 (x.1:Nat))],h,live⟩) (fun x=>l.length - x.1) (⟨0,by omega,fun j hj=>by omega⟩) ?_ (fun ⟨i,hi,hn⟩=>?_)
 ·
  try dsimp only
  exact ts_ hH
 try dsimp only
 refine rg_ [0,1,7,8,9] ?_
 refine sk_ fun K2 hK2=>?_
 refine cx_ (fun hb1=>?_) (fun hb1=>?_)
 rotate_left
 ·
  have hx:=idxP_none (p:=fun y=>v0==y) false (l:=l) fun j hj=>hn j (by omega)
  refine awp_exit (up_ ?_)
  refine hK1 _ ?_
  refine rg_ [4] ?_
  refine ret_ ?_
  refine fq_ Tryz.results290 ?_
  refine ⟨?_,rfl,rfl⟩
  rw [hx]
 refine skp_ ?_
 refine hK2 _ ?_
 refine sk_ fun K3 hK3=>?_
 refine awp_block ?_
 refine rg_ [0,1,5,7,8] ?_
 refine rg_ [0,1,5,7,8,16] ?_
 refine cy_ (fun hb2=>?_) (fun hb2=>?_)
 ·
  have hx:=idxP_at (p:=fun y=>v0==y) false (l:=l) (i:=i) (by omega) (by simpa using hb2) hn
  refine rg_ [4] ?_
  refine ret_ ?_
  refine fq_ Tryz.results290 ?_
  refine ⟨?_,rfl,rfl⟩
  rw [hx]
 refine skp_ ?_
 refine hK3 _ ?_
 refine rt_ [0,1,7,8] ?_
 refine srn_ ?_
 refine ln_ ⟨i+1,by omega,fun j hj=>by rcases Nat.lt_succ_iff_lt_or_eq.1 hj with h | h;exact hn j h;subst h;simpa using hb2⟩ ?_
 try dsimp only
 exact ts_ hH
theorem c160 (l:List Int) (c:Cap) (x:Int) (h:List Blk) (live:List Nat) (hl:l.length≤17592186044416):AC Tryz.prog 160 [.slice (l.map iV) c,.int .i64 x] h live (.bool (l.any fun y=>decide (x=y))):=by
 refine aq_ Tryz.func160 fun hH hX=>?_
 have sx:=(And.intro @idxP_any sx0)
 refine rg_ [0,1] ?_
 refine rs_ [4] ?_
 refine sg_ ?_
 refine cl_ (hc:=c219 _ _ _ _ _ (by omega)) (k:=?_)
 refine srt_ ?_
 refine fq_ Tryz.results160 ?_
 exact rk_ rfl
theorem c261 (l:List Bool) (c:Cap) (x:Bool) (h:List Blk) (live:List Nat) (hl:l.length≤17592186044416):AC Tryz.prog 261 [.slice (l.map oV) c,.bool x] h live (.bool (l.any fun y=>x==y)):=by
 refine aq_ Tryz.func261 fun hH hX=>?_
 have sx:=(And.intro @idxP_any sx0)
 refine rg_ [0,1] ?_
 refine rs_ [4] ?_
 refine sg_ ?_
 refine cl_ (hc:=c290 _ _ _ _ _ (by omega)) (k:=?_)
 refine srt_ ?_
 refine fq_ Tryz.results261 ?_
 exact rk_ rfl
theorem c221 (l:List Bool) (c:Cap) (h:List Blk) (live:List Nat) (hl:l.length≤17592186044416):AC Tryz.prog 221 [.slice (l.map oV) c] h live (.bool (l.any fun y=>true==y)):=by
 refine aq_ Tryz.func221 fun hH hX=>?_
 refine rg_ [0] ?_
 refine rs_ [2] ?_
 refine sg_ ?_
 refine cl_ (hc:=c261 _ _ _ _ _ (by omega)) (k:=?_)
 refine srt_ ?_
 refine fq_ Tryz.results221 ?_
 exact rk_ rfl
theorem c79 (l:List UInt8) (c:Cap) (h:List Blk) (live:List Nat) (hl:l.length≤1000000):AC Tryz.prog 79 [.slice (l.map bV) c] h live (.slice (l.map bV) .none):=by
 refine aq_ Tryz.func79 fun hH hX=>?_
 refine rg_ [0] ?_
 refine sk_ fun K1 hK1=>?_
 refine rs_ [0,4] ?_
 refine sg_ ?_
 refine dawp_w rfl rfl rfl rfl (AOp.eqNil _ _ _ rfl (by kernel_rfl) (by (simp (disch:=omega) only [push_cast,↓reduceIte,Nat.reduceEqDiff,Nat.reduceAdd,Nat.reduceLeDiff,sx])<;>rfl) ?_)
 intro nb4 hn4
 refine re_ ?_
 refine cy_ (fun hb1=>?_) (fun hb1=>?_)
 ·
  have hl0:=List.map_eq_nil_iff.1 (hn4 hb1)
  subst hl0
  refine rg_ [2] ?_
  refine ret_ ?_
  refine fq_ Tryz.results79 ?_ (hcl:=(by simp [AV.cl,AV.clL,clL_bV,clL_eV, -List.map_map]))
  exact rk_ rfl
 refine skp_ ?_
 refine hK1 _ ?_
 refine rs_ [2] ?_
 refine sg_ ?_
 refine ap_ (a:=.inl rfl) (b:=by simp) (c':=cells_bV _) (d:=by simp;omega) (e:=by simp;omega) (k:=?_)
 intro c7 live7 hk7
 refine srt_ ?_
 refine fq_ Tryz.results79 ?_ (hcl:=(by simp [AV.cl,AV.clL,clL_bV,clL_eV, -List.map_map])) (hl:=(fun u hu=>(hk7.2 u hu (fun e=>by cases e)).1))
 exact rk_ rfl
theorem c80 (l:List En) (c:Cap) (h:List Blk) (live:List Nat) (hl:l.length≤1000000):AC Tryz.prog 80 [.slice (l.map eV) c] h live (.slice (l.map eV) .none):=by
 refine aq_ Tryz.func80 fun hH hX=>?_
 refine rg_ [0] ?_
 refine sk_ fun K1 hK1=>?_
 refine rs_ [0,4] ?_
 refine sg_ ?_
 refine dawp_w rfl rfl rfl rfl (AOp.eqNil _ _ _ rfl (by kernel_rfl) (by (simp (disch:=omega) only [push_cast,↓reduceIte,Nat.reduceEqDiff,Nat.reduceAdd,Nat.reduceLeDiff,sx])<;>rfl) ?_)
 intro nb4 hn4
 refine re_ ?_
 refine cy_ (fun hb1=>?_) (fun hb1=>?_)
 ·
  have hl0:=List.map_eq_nil_iff.1 (hn4 hb1)
  subst hl0
  refine rg_ [2] ?_
  refine ret_ ?_
  refine fq_ Tryz.results80 ?_ (hcl:=(by simp [AV.cl,AV.clL,clL_bV,clL_eV, -List.map_map]))
  exact rk_ rfl
 refine skp_ ?_
 refine hK1 _ ?_
 refine rs_ [2] ?_
 refine sg_ ?_
 refine ap_ (a:=.inl rfl) (b:=by simp) (c':=cells_eV _) (d:=by simp;omega) (e:=by simp;omega) (k:=?_)
 intro c7 live7 hk7
 refine srt_ ?_
 refine fq_ Tryz.results80 ?_ (hcl:=(by simp [AV.cl,AV.clL,clL_bV,clL_eV, -List.map_map])) (hl:=(fun u hu=>(hk7.2 u hu (fun e=>by cases e)).1))
 exact rk_ rfl
end Go.Proofs.YtmgnbgniikjhdaaGreat
namespace Go.Proofs.YtmgnbgniikjhdaaGreat
open Go.Ab
set_option maxRecDepth 8000
set_option maxHeartbeats 400000
def clsI (mode k:Int):Int:=if k=0 then mode / 64%8 else if k=1 then mode / 8%8 else if k=2 then mode%8 else 0
theorem clsI_bd (m k:Int):0≤clsI m k∧clsI m k<8:=by
 unfold clsI
 split
 · omega
 ·
  split
  · omega
  · split<;>omega
theorem i64_and7 (n:Int):bits .and .i64 n 7=n%8:=by
 have h7:(BitVec.ofInt 64 7).toNat=2^3 - 1:=by decide
 have key:(BitVec.ofInt 64 n &&& BitVec.ofInt 64 7).toNat=(n%((2^64:Nat):Int)).toNat%2^3:=by
  rw [BitVec.toNat_and,BitVec.toNat_ofInt,h7,Nat.and_two_pow_sub_one_eq_mod]
 show IntKind.i64.wrap ((BitVec.ofInt 64 n &&& BitVec.ofInt 64 7).toNat:Nat)=n%8
 rw [key,IntKind.wrap_i64]
 omega
structure Cr where
 uid:Int
 gid:Int
 gs:List Int
def memF (c:Cr) (gid:Int):Bool:=decide (gid=c.gid)||c.gs.any fun y=>decide (gid=y)
def classF (c:Cr) (uid gid:Int):Int:=bif decide (uid=c.uid) then 0 else bif memF c gid then 1 else 2
theorem fdiv64 (n:Int):n.fdiv 64=n / 64:=Int.fdiv_eq_ediv_of_nonneg _ (by decide)
theorem fdiv8 (n:Int):n.fdiv 8=n / 8:=Int.fdiv_eq_ediv_of_nonneg _ (by decide)
theorem fdiv1 (n:Int):n.fdiv 1=n:=by
 rw [Int.fdiv_eq_ediv_of_nonneg _ (by decide)];omega
theorem rest_lt {n b:Int} (hb:0<b) (h:n.tmod b<0):n.tmod b+b=n%b:=by
 rw [Int.tmod_eq_emod] at h ⊢
 have h1:=Int.emod_nonneg n (show b≠0 by omega)
 have h2:=Int.emod_lt_of_pos n hb
 split at h
 · omega
 ·
  rename_i hc
  rw [if_neg hc]
  have:(b.natAbs:Int)=b:=by omega
  omega
theorem rest_ge {n b:Int} (hb:0<b) (h:0≤n.tmod b):n.tmod b=n%b:=by
 rw [Int.tmod_eq_emod] at h ⊢
 have h1:=Int.emod_nonneg n (show b≠0 by omega)
 have h2:=Int.emod_lt_of_pos n hb
 have:(b.natAbs:Int)=b:=by omega
 split at h
 · rename_i hc;rw [if_pos hc];omega
 · omega
theorem c265 (k:Int) (h:List Blk) (live:List Nat) (h0:0≤k) (h1:k≤2):AC Tryz.prog 265 [.int .i64 k] h live (.int .i64 (3*(2 - k))):=by
 refine aq_ Tryz.func265 fun hH hX=>?_
 refine rg_ [0] ?_
 refine rg_ [2] ?_
 refine ret_ ?_
 refine fq_ Tryz.results265 ?_
 exact rk_ rfl
theorem c229 (m k:Int) (h:List Blk) (live:List Nat):AC Tryz.prog 229 [.int .i64 m,.int .i64 k] h live (.int .i64 (clsI m k)):=by
 refine aq_ Tryz.func229 fun hH hX=>?_
 have sx:=(And.intro @i64_and7 sx0)
 refine rg_ [0,1] ?_
 refine sk_ fun K1 hK1=>?_
 refine rg_ [0,1,10] ?_
 refine cx_ (fun hb1=>?_) (fun hb1=>?_)
 ·
  refine rg_ [4] ?_
  refine ret_ ?_
  refine fq_ Tryz.results229 ?_
  refine ⟨?_,rfl,rfl⟩
  unfold clsI
  rw [if_neg (by omega),if_neg (by omega),if_neg (by omega)]
 refine skp_ ?_
 refine hK1 _ ?_
 refine rs_ [4] ?_
 refine sg_ ?_
 refine cl_ (hc:=c265 _ _ _ (by omega) (by omega)) (k:=?_)
 refine srt_ ?_
 refine fq_ Tryz.results229 ?_
 refine ⟨?_,rfl,rfl⟩
 have hk:k=0∨k=1∨k=2:=by omega
 rcases hk with rfl | rfl | rfl
 · show AV.int .i64 (m / 64%8)=AV.int .i64 (m.fdiv 64%8);rw [fdiv64]
 · show AV.int .i64 (m / 8%8)=AV.int .i64 (m.fdiv 8%8);rw [fdiv8]
 · show AV.int .i64 (m%8)=AV.int .i64 (m.fdiv 1%8);rw [fdiv1]
theorem c101 (n b:Int) (h:List Blk) (live:List Nat) (hb0:0<b) (hb1:b≤1000000):AC Tryz.prog 101 [.int .i64 n,.int .i64 b] h live (.int .i64 (n%b)):=by
 refine aq_ Tryz.func101 fun hH hX=>?_
 have hlt:=Int.tmod_lt_of_pos n hb0
 have hge:=Int.lt_tmod_of_pos n hb0
 have hne:¬b=0:=by omega
 refine rs_ [0,1] ?_
 refine dawp_p rfl (by (simp (disch:=omega) only [push_cast,↓reduceIte,Nat.reduceEqDiff,Nat.reduceAdd,Nat.reduceLeDiff,sx,if_neg hne])<;>rfl) rfl rfl ?_
 refine re_ (hf:=by (simp (disch:=omega) only [push_cast,↓reduceIte,Nat.reduceEqDiff,Nat.reduceAdd,Nat.reduceLeDiff,sx,if_neg hne])<;>rfl) (hh:=by (try simp (disch:=omega) only [push_cast,↓reduceIte,Nat.reduceEqDiff,Nat.reduceAdd,Nat.reduceLeDiff,sx,if_neg hne])<;>rfl) ?_
 refine rs_ [1,5] ?_
 iterate 4 (refine dawp_p rfl (by (simp (disch:=omega) only [push_cast,↓reduceIte,Nat.reduceEqDiff,Nat.reduceAdd,Nat.reduceLeDiff,sx,if_neg hne])<;>rfl) rfl rfl ?_)
 refine re_ (hf:=by (simp (disch:=omega) only [push_cast,↓reduceIte,Nat.reduceEqDiff,Nat.reduceAdd,Nat.reduceLeDiff,sx,if_neg hne])<;>rfl) (hh:=by (try simp (disch:=omega) only [push_cast,↓reduceIte,Nat.reduceEqDiff,Nat.reduceAdd,Nat.reduceLeDiff,sx,if_neg hne])<;>rfl) ?_
 refine sk_ fun K1 hK1=>?_
 refine rs_ [1,5,10] ?_
 iterate 2 (refine dawp_p rfl (by (simp (disch:=omega) only [push_cast,↓reduceIte,Nat.reduceEqDiff,Nat.reduceAdd,Nat.reduceLeDiff,sx,if_neg hne])<;>rfl) rfl rfl ?_)
 refine re_ (hf:=by (simp (disch:=omega) only [push_cast,↓reduceIte,Nat.reduceEqDiff,Nat.reduceAdd,Nat.reduceLeDiff,sx,if_neg hne])<;>rfl) (hh:=by (try simp (disch:=omega) only [push_cast,↓reduceIte,Nat.reduceEqDiff,Nat.reduceAdd,Nat.reduceLeDiff,sx,if_neg hne])<;>rfl) ?_
 refine cb_ (hb:=by (simp (disch:=omega) only [push_cast,↓reduceIte,Nat.reduceEqDiff,Nat.reduceAdd,Nat.reduceLeDiff,sx,if_neg hne])<;>rfl) (ht:=fun hb1=>?_) (hf:=fun hb1=>?_)
 ·
  simp only [decide_eq_true_eq] at hb1
  have hb1':=hb1
  refine rt_ [5] ?_
  iterate 4 (refine dawp_p rfl (by (simp (disch:=omega) only [push_cast,↓reduceIte,Nat.reduceEqDiff,Nat.reduceAdd,Nat.reduceLeDiff,sx,if_neg hne])<;>rfl) rfl rfl ?_)
  refine rn_ (hf:=by (simp (disch:=omega) only [push_cast,↓reduceIte,Nat.reduceEqDiff,Nat.reduceAdd,Nat.reduceLeDiff,sx,if_neg hne])<;>rfl) (hh:=by (try simp (disch:=omega) only [push_cast,↓reduceIte,Nat.reduceEqDiff,Nat.reduceAdd,Nat.reduceLeDiff,sx,if_neg hne])<;>rfl) (up_ ?_)
  refine hK1 _ ?_
  refine rs_ [4] ?_
  iterate 2 (refine dawp_p rfl (by (simp (disch:=omega) only [push_cast,↓reduceIte,Nat.reduceEqDiff,Nat.reduceAdd,Nat.reduceLeDiff,sx,if_neg hne])<;>rfl) rfl rfl ?_)
  refine re_ (hf:=by (simp (disch:=omega) only [push_cast,↓reduceIte,Nat.reduceEqDiff,Nat.reduceAdd,Nat.reduceLeDiff,sx,if_neg hne])<;>rfl) (hh:=by (try simp (disch:=omega) only [push_cast,↓reduceIte,Nat.reduceEqDiff,Nat.reduceAdd,Nat.reduceLeDiff,sx,if_neg hne])<;>rfl) ?_
  refine ret_ ?_
  refine fq_ (hres:=by (simp (disch:=omega) only [aresults,aresult,push_cast,↓reduceIte,Nat.reduceEqDiff,Nat.reduceAdd,Nat.reduceLeDiff,sx,if_neg hne])<;>rfl) Tryz.results101 ?_
  exact rk_ (by rw [rest_lt hb0 hb1'])
 simp only [decide_eq_false_iff_not,Int.not_lt] at hb1
 have hb1':=hb1
 refine skp_ ?_
 refine hK1 _ ?_
 refine rs_ [4] ?_
 iterate 2 (refine dawp_p rfl (by (simp (disch:=omega) only [push_cast,↓reduceIte,Nat.reduceEqDiff,Nat.reduceAdd,Nat.reduceLeDiff,sx,if_neg hne])<;>rfl) rfl rfl ?_)
 refine re_ (hf:=by (simp (disch:=omega) only [push_cast,↓reduceIte,Nat.reduceEqDiff,Nat.reduceAdd,Nat.reduceLeDiff,sx,if_neg hne])<;>rfl) (hh:=by (try simp (disch:=omega) only [push_cast,↓reduceIte,Nat.reduceEqDiff,Nat.reduceAdd,Nat.reduceLeDiff,sx,if_neg hne])<;>rfl) ?_
 refine ret_ ?_
 refine fq_ (hres:=by (simp (disch:=omega) only [aresults,aresult,push_cast,↓reduceIte,Nat.reduceEqDiff,Nat.reduceAdd,Nat.reduceLeDiff,sx,if_neg hne])<;>rfl) Tryz.results101 ?_
 exact rk_ (by rw [rest_ge hb0 hb1'])
theorem c66 (m:Int) (h:List Blk) (live:List Nat):AC Tryz.prog 66 [.int .i64 m] h live (.int .i64 (m%4096)):=by
 refine aq_ Tryz.func66 fun hH hX=>?_
 refine rg_ [0] ?_
 refine rs_ [2] ?_
 refine sg_ ?_
 refine cl_ (hc:=c101 m 4096 _ _ (by omega) (by omega)) (k:=?_)
 refine srt_ ?_
 refine fq_ Tryz.results66 ?_
 exact rk_ rfl
end Go.Proofs.YtmgnbgniikjhdaaGreat
namespace Go.Proofs.YtmgnbgniikjhdaaGreat
open Go.Ab
set_option maxRecDepth 8000
set_option maxHeartbeats 400000
theorem low_cls (m:Int):m%4096 / 64%8=m / 64%8∧m%4096 / 8%8=m / 8%8∧m%4096%8=m%8:=by omega
theorem tdivN {a:Int} (h:0≤a) (b:Int):a.tdiv b=a / b:=Int.tdiv_eq_ediv_of_nonneg h
theorem tmodN {a:Int} (h:0≤a) (b:Int):a.tmod b=a%b:=Int.tmod_eq_emod_of_nonneg h
theorem oV_two (a b:Bool):[AV.bool a,AV.bool b]=[a,b].map oV:=rfl
theorem oV_three (a b c:Bool):[AV.bool a,AV.bool b,AV.bool c]=[a,b,c].map oV:=rfl
theorem oV_four (a b c d:Bool):[AV.bool a,AV.bool b,AV.bool c,AV.bool d]=[a,b,c,d].map oV:=rfl
theorem any2 (a b:Bool):([a,b].any fun y=>true==y)=(a||b):=by cases a<;>cases b<;>rfl
theorem any3 (a b c:Bool):([a,b,c].any fun y=>true==y)=(a||b||c):=by cases a<;>cases b<;>cases c<;>rfl
theorem any4 (a b c d:Bool):([a,b,c,d].any fun y=>true==y)=(a||b||c||d):=by cases a<;>cases b<;>cases c<;>cases d<;>rfl
def hasB (b w:Int):Bool:=decide (bits .and .i64 b w=w)
def canF (c:Cr) (uid gid mode want:Int):Bool:=decide (c.uid=0)||hasB (clsI mode (classF c uid gid)) (want%8)
theorem hasB_fin:∀b w:Fin 8,hasB b.val w.val=((decide ((w.val:Int)<4)||decide (4≤(b.val:Int)))&&(decide ((w.val:Int) / 2%2=0)||decide ((b.val:Int) / 2%2=1))&&(decide ((w.val:Int)%2=0)||decide ((b.val:Int)%2=1))):=by decide +kernel
theorem hasB_eq {b w:Int} (hb:0≤b∧b<8) (hw:0≤w∧w<8):hasB b w=((decide (w<4)||decide (4≤b))&&(decide (w / 2%2=0)||decide (b / 2%2=1))&&(decide (w%2=0)||decide (b%2=1))):=by
 obtain ⟨b,rfl⟩:=Int.eq_ofNat_of_zero_le hb.1
 obtain ⟨w,rfl⟩:=Int.eq_ofNat_of_zero_le hw.1
 exact hasB_fin ⟨b,by omega⟩ ⟨w,by omega⟩
def memS (l:List Int) (g:Int) (i:Nat) (a:Bool):Bool:=a||(l.take i).any fun y=>decide (y=g)
theorem memS_0 (l:List Int) (g:Int) (a:Bool):memS l g 0 a=a:=by simp [memS]
theorem memS_succ (l:List Int) (g:Int) (i:Nat) (a:Bool) (hi:i<l.length):(memS l g i a||decide (l.getD i 0=g))=memS l g (i+1) a:=by
 unfold memS
 rw [List.take_succ_eq_append_getElem hi,List.any_append,Bool.or_assoc]
 simp [List.getD_eq_getElem?_getD,hi]
theorem memS_all (c:Cr) (g:Int):memS c.gs g c.gs.length (decide (c.gid=g))=memF c g:=by
 unfold memS memF
 rw [List.take_length]
 simp only [eq_comm]
theorem clsI_two (w:Int):clsI w 2=w%8:=rfl
theorem c249 (m k:Int) (h:List Blk) (live:List Nat):AC Tryz.prog 249 [.int .i64 m,.int .i64 k] h live (.int .i64 (clsI m k)):=by
 refine aq_ Tryz.func249 fun hH hX=>?_
 have hm0:0≤m%4096:=by omega
 have hm1:m%4096<4096:=by omega
 have hm2:0≤m%4096 / 64:=by omega
 have hm3:0≤m%4096 / 8:=by omega
 obtain ⟨l1,l2,l3⟩:=low_cls m
 have sx:=(And.intro @tdivN (And.intro @tmodN sx0))
 refine rg_ [0,1] ?_
 refine rs_ [1,5] ?_
 refine sg_ ?_
 refine cl_ (hc:=c66 _ _ _) (k:=?_)
 refine sre_ ?_
 refine sk_ fun K1 hK1=>?_
 refine rg_ [1,5,9] ?_
 refine cx_ (fun hb1=>?_) (fun hb1=>?_)
 ·
  refine rg_ [4] ?_
  refine ret_ ?_
  refine fq_ Tryz.results249 ?_
  refine ⟨?_,rfl,rfl⟩
  unfold clsI
  rw [if_pos hb1,l1]
 refine skp_ ?_
 refine hK1 _ ?_
 refine sk_ fun K2 hK2=>?_
 refine rg_ [1,5,14] ?_
 refine cx_ (fun hb2=>?_) (fun hb2=>?_)
 ·
  refine rg_ [4] ?_
  refine ret_ ?_
  refine fq_ Tryz.results249 ?_
  refine ⟨?_,rfl,rfl⟩
  unfold clsI
  rw [if_neg hb1,if_pos hb2,l2]
 refine skp_ ?_
 refine hK2 _ ?_
 refine sk_ fun K3 hK3=>?_
 refine rg_ [5,19] ?_
 refine cx_ (fun hb3=>?_) (fun hb3=>?_)
 ·
  refine rg_ [4] ?_
  refine ret_ ?_
  refine fq_ Tryz.results249 ?_
  refine ⟨?_,rfl,rfl⟩
  unfold clsI
  rw [if_neg hb1,if_neg hb2,if_pos hb3,l3]
 refine skp_ ?_
 refine hK3 _ ?_
 refine rg_ [4] ?_
 refine ret_ ?_
 refine fq_ Tryz.results249 ?_
 refine ⟨?_,rfl,rfl⟩
 unfold clsI
 rw [if_neg hb1,if_neg hb2,if_neg hb3]
theorem c222 (c:Cr) (k:Cap) (h:List Blk) (live:List Nat):AC Tryz.prog 222 [.agg [.int .i64 c.uid,.int .i64 c.gid,.slice (c.gs.map iV) k]] h live (.bool (decide (c.uid=0))):=by
 refine aq_ Tryz.func222 fun hH hX=>?_
 refine rg_ [1] ?_
 refine rg_ [2] ?_
 refine ret_ ?_
 refine fq_ Tryz.results222 ?_
 exact rk_ rfl
theorem c223 (c:Cr) (k:Cap) (g:Int) (h:List Blk) (live:List Nat) (hgs:c.gs.length≤17592186044416):AC Tryz.prog 223 [.agg [.int .i64 c.uid,.int .i64 c.gid,.slice (c.gs.map iV) k],.int .i64 g] h live (.bool (memF c g)):=by
 refine aq_ Tryz.func223 fun hH hX=>?_
 have sx:=(And.intro @any2 sx0)
 refine rg_ [1,2] ?_
 refine rsq_ [4] ⟨true,[],[],[],[],[],0⟩ (fun _=>⟨by kernel_rfl,by kernel_rfl⟩) ?_
 refine sg_ ?_
 refine cr_ (hc:=c160 _ _ _ _ _ hgs) (k:=?_)
 refine sg_ ?_
 refine cr_ (hc:=c221 [decide (g=c.gid),c.gs.any fun y=>decide (g=y)] _ _ _ (by simp)) (k:=?_)
 refine srt_ ?_
 refine fq_ Tryz.results223 ?_
 exact rk_ rfl
theorem c237 (c:Cr) (k:Cap) (u g:Int) (h:List Blk) (live:List Nat) (hgs:c.gs.length≤17592186044416):AC Tryz.prog 237 [.agg [.int .i64 c.uid,.int .i64 c.gid,.slice (c.gs.map iV) k],.int .i64 u,.int .i64 g] h live (.int .i64 (classF c u g)):=by
 refine aq_ Tryz.func237 fun hH hX=>?_
 refine rg_ [1,2,3] ?_
 refine sk_ fun K1 hK1=>?_
 refine awp_block ?_
 refine rg_ [2,3,7] ?_
 refine cx_ (fun hb1=>?_) (fun hb1=>?_)
 ·
  refine rg_ [6] ?_
  refine ret_ ?_
  refine fq_ Tryz.results237 ?_
  exact rk_ (by rw [classF,decide_eq_true hb1];rfl)
 refine rs_ [12] ?_
 refine sg_ ?_
 refine cl_ (hc:=c223 c _ _ _ _ hgs) (k:=?_)
 refine sre_ ?_
 refine cy_ (fun hb2=>?_) (fun hb2=>?_)
 ·
  refine rg_ [6] ?_
  refine ret_ ?_
  refine fq_ Tryz.results237 ?_
  exact rk_ (by rw [classF,decide_eq_false hb1,hb2];rfl)
 refine skp_ ?_
 refine hK1 _ ?_
 refine rg_ [6] ?_
 refine ret_ ?_
 refine fq_ Tryz.results237 ?_
 exact rk_ (by rw [classF,decide_eq_false hb1,hb2];rfl)
theorem c187 (c:Cr) (k:Cap) (u g m w:Int) (h:List Blk) (live:List Nat) (hgs:c.gs.length≤17592186044416):AC Tryz.prog 187 [.agg [.int .i64 c.uid,.int .i64 c.gid,.slice (c.gs.map iV) k],.int .i64 u,.int .i64 g,.int .i64 m,.int .i64 w] h live (.bool (canF c u g m w)):=by
 refine aq_ Tryz.func187 fun hH hX=>?_
 have sx:=(And.intro @i64_and7 (And.intro @any2 sx0))
 refine rg_ [1,2,3,4,5] ?_
 refine rg_ [1,2,3,4,5] ?_
 refine rsq_ [10] ⟨true,[],[],[],[],[],0⟩ (fun _=>⟨by kernel_rfl,by kernel_rfl⟩) ?_
 refine sg_ ?_
 refine cr_ (hc:=c222 c _ _ _) (k:=?_)
 refine sg_ ?_
 refine cr_ (hc:=c237 c _ _ _ _ _ hgs) (k:=?_)
 refine cr_ (hc:=c229 _ _ _ _) (k:=?_)
 refine sg_ ?_
 refine cr_ (hc:=c221 [decide (c.uid=0),decide (bits .and .i64 (clsI m (classF c u g)) (w%8)=w%8)] _ _ _ (by simp)) (k:=?_)
 refine srt_ ?_
 refine fq_ Tryz.results187 ?_
 exact rk_ rfl
theorem c247 (c:Cr) (k:Cap) (g:Int) (h:List Blk) (live:List Nat) (hgs:c.gs.length≤17592186044416):AC Tryz.prog 247 [.agg [.int .i64 c.uid,.int .i64 c.gid,.slice (c.gs.map iV) k],.int .i64 g] h live (.bool (memF c g)):=by
 refine aq_ Tryz.func247 fun hH hX=>?_
 have hB:HCl (h++[.cells [.int .i64 c.uid,.int .i64 c.gid,.slice (c.gs.map iV) k]]):=HCl.snoc hH (by simp [Blk.cl,AV.cl,AV.clL,clL_iV, -List.map_map])
 have sx:=(And.intro @memS_0 (And.intro @memS_succ sx0))
 refine rg_ [1,2] ?_
 refine rg_ [1,2,5] ?_
 refine sk_ fun K1 hK1=>?_
 refine rg_ [1,2,5,6] ?_
 refine awp_block ?_
 refine lp_ (X:={i:Nat // i≤c.gs.length}) (fun x=>⟨Tryz.f247.ntmps,fget [(1,.int .i64 g),(2,.ptr h.length 0),(5,.bool (memS c.gs g x.1 (decide (c.gid=g)))),(6,.int .i64 (x.1:Nat))],h++[.cells [.int .i64 c.uid,.int .i64 c.gid,.slice (c.gs.map iV) k]],live⟩) (fun x=>c.gs.length - x.1) (⟨0,by omega⟩) ?_ (fun ⟨i,hi⟩=>?_)
 ·
  try dsimp only
  exact tf_ hB (fun _ h=>h)
 try dsimp only
 refine sk_ fun K2 hK2=>?_
 refine rg_ [1,2,5,6,15] ?_
 refine cx_ (fun hb1=>?_) (fun hb1=>?_)
 rotate_left
 ·
  have hil:i=c.gs.length:=by omega
  subst hil
  refine awp_exit (up_ ?_)
  refine hK1 _ ?_
  refine rg_ [4] ?_
  refine ret_ ?_
  refine fq_ Tryz.results247 ?_
  exact rk_ (by rw [memS_all])
 refine skp_ ?_
 refine hK2 _ ?_
 refine sk_ fun K3 hK3=>?_
 refine awp_block ?_
 refine rt_ [1,2,5,6] ?_
 refine srn_ ?_
 refine hK3 _ ?_
 refine rt_ [1,2,5,6] ?_
 refine srn_ ?_
 refine ln_ ⟨i+1,by omega⟩ ?_
 try dsimp only
 exact tf_ hB (fun _ h=>h)
theorem c276 (c:Cr) (k:Cap) (u g:Int) (h:List Blk) (live:List Nat) (hgs:c.gs.length≤17592186044416):AC Tryz.prog 276 [.agg [.int .i64 c.uid,.int .i64 c.gid,.slice (c.gs.map iV) k],.int .i64 u,.int .i64 g] h live (.int .i64 (classF c u g)):=by
 refine aq_ Tryz.func276 fun hH hX=>?_
 refine rg_ [1,2,3] ?_
 refine sk_ fun K1 hK1=>?_
 refine rg_ [2,3,10] ?_
 refine cx_ (fun hb1=>?_) (fun hb1=>?_)
 ·
  refine rg_ [6] ?_
  refine ret_ ?_
  refine fq_ Tryz.results276 ?_
  exact rk_ (by rw [classF,decide_eq_true hb1.symm];rfl)
 refine skp_ ?_
 refine hK1 _ ?_
 refine sk_ fun K2 hK2=>?_
 refine rs_ [13] ?_
 refine sg_ ?_
 refine cl_ (hc:=c247 c _ _ _ _ hgs) (k:=?_)
 refine re_ ?_
 refine cy_ (fun hb2=>?_) (fun hb2=>?_)
 ·
  refine rg_ [6] ?_
  refine ret_ ?_
  refine fq_ Tryz.results276 ?_
  exact rk_ (by rw [classF,decide_eq_false (Ne.symm hb1),hb2];rfl)
 refine skp_ ?_
 refine hK2 _ ?_
 refine rg_ [6] ?_
 refine ret_ ?_
 refine fq_ Tryz.results276 ?_
 exact rk_ (by rw [classF,decide_eq_false (Ne.symm hb1),hb2];rfl)
theorem c246 (c:Cr) (k:Cap) (u g m w:Int) (h:List Blk) (live:List Nat) (hgs:c.gs.length≤17592186044416):AC Tryz.prog 246 [.agg [.int .i64 c.uid,.int .i64 c.gid,.slice (c.gs.map iV) k],.int .i64 u,.int .i64 g,.int .i64 m,.int .i64 w] h live (.bool (canF c u g m w)):=by
 refine aq_ Tryz.func246 fun hH hX=>?_
 have hcb:=clsI_bd m (classF c u g)
 have hcw:=clsI_bd w 2
 have hb0:=hcb.1
 have hw0:=hcw.1
 have hb2':0≤clsI m (classF c u g) / 2:=by omega
 have hw2':0≤clsI w 2 / 2:=by omega
 have sx:=(And.intro @tdivN (And.intro @tmodN (And.intro @Bool.true_and (And.intro @Bool.and_true sx0))))
 refine rg_ [1,2,3,4,5] ?_
 refine sk_ fun K1 hK1=>?_
 refine rg_ [1,2,3,4,5,15] ?_
 refine cx_ (fun hb1=>?_) (fun hb1=>?_)
 ·
  refine rg_ [10] ?_
  refine ret_ ?_
  refine fq_ Tryz.results246 ?_
  exact rk_ (by rw [canF,decide_eq_true hb1];rfl)
 refine skp_ ?_
 refine hK1 _ ?_
 refine rs_ [4,11] ?_
 refine sg_ ?_
 refine cl_ (hc:=c276 c _ _ _ _ _ hgs) (k:=?_)
 refine cl_ (hc:=c249 _ _ _ _) (k:=?_)
 refine sre_ ?_
 refine rs_ [11,12] ?_
 refine sg_ ?_
 refine cl_ (hc:=c249 _ _ _ _) (k:=?_)
 refine sre_ ?_
 refine rg_ [10] ?_
 refine ret_ ?_
 refine fq_ Tryz.results246 ?_
 refine ⟨?_,rfl,rfl⟩
 rw [canF,decide_eq_false hb1,←clsI_two,hasB_eq hcb hcw]
 try simp
end Go.Proofs.YtmgnbgniikjhdaaGreat
namespace Go.Proofs.YtmgnbgniikjhdaaGreat
open Go.Ab
set_option maxRecDepth 8000
set_option maxHeartbeats 400000
structure Nd where
 kind:Int
 mode:Int
 uid:Int
 gid:Int
 data:List UInt8
 ents:List En
 target:List UInt8
 deriving DecidableEq
def nd0:Nd:=⟨0,0,0,0,[],[],[]⟩
def ndC (n:Nd):List AV:=[.int .i64 n.kind,.int .i64 n.mode,.int .i64 n.uid,.int .i64 n.gid,.slice (n.data.map bV) .none,.slice (n.ents.map eV) .none,.str n.target]
def tabC:List Nd→List AV
 | []=>[]
 | n::r=>ndC n++tabC r
structure Tab where
 room:Int
 ns:List Nd
def tabBlk (T:Tab):Blk:=.cells (.int .i64 T.room::tabC T.ns)
def NdOk (n:Nd):Prop:=n.data.length≤1000∧n.ents.length≤1000∧n.target.length≤1000∧∀e∈n.ents,e.1.length≤9223372036854775807
structure Tab.Ok (T:Tab):Prop where
 lo:1≤T.room
 hi:T.room≤24
 len:T.ns.length=24
 nd:∀n∈T.ns,NdOk n
 zero:∀n∈T.ns,n.kind=0→n=nd0
theorem ndOk_0:NdOk nd0:=⟨by decide,by decide,by decide,fun e he=>by cases he⟩
theorem cast24:((24:Nat):Int)=24:=rfl
attribute [push_cast high] cast24
theorem ndC_len (n:Nd):(ndC n).length=7:=rfl
theorem tabC_len (ns:List Nd):(tabC ns).length=ns.length*7:=by
 induction ns with
 | nil=>rfl
 | cons n r ih=>simp only [tabC,List.length_append,ih,ndC_len,List.length_cons];omega
theorem tabC_get:∀(ns:List Nd) (j q:Nat),j<ns.length→q<7→(tabC ns)[j*7+q]? = (ndC (ns.getD j nd0))[q]?
 | n::r,0,q, _,hq=>by
  simp only [tabC,Nat.zero_mul,Nat.zero_add,List.getD_cons_zero]
  rw [List.getElem?_append_left (by rw [ndC_len];exact hq)]
 | n::r,j+1,q,hj,hq=>by
  simp only [tabC,List.getD_cons_succ]
  rw [List.getElem?_append_right (by rw [ndC_len];omega),ndC_len,show (j+1)*7+q - 7=j*7+q by omega]
  exact tabC_get r j q (by simpa using hj) hq
theorem tabC_drop:∀(ns:List Nd) (j:Nat),j<ns.length→((tabC ns).drop (j*7)).take 7=ndC (ns.getD j nd0)
 | n::r,0, _=>by
  simp only [tabC,Nat.zero_mul,List.drop_zero,List.getD_cons_zero]
  exact List.take_left' (ndC_len n)
 | n::r,j+1,hj=>by
  simp only [tabC,List.getD_cons_succ]
  rw [List.drop_append,List.drop_of_length_le (by rw [ndC_len];omega),ndC_len,List.nil_append,show (j+1)*7 - 7=j*7 by omega]
  exact tabC_drop r j (by simpa using hj)
theorem tab_room (T:Tab):blkGet (some (tabBlk T)) 0 .one=some (.int .i64 T.room):=rfl
theorem tab_nd (T:Tab) {j q:Nat} (hj:j<T.ns.length) (hq:q<7):blkGet (some (tabBlk T)) (1+j*7+q) .one=(ndC (T.ns.getD j nd0))[q]? := by
 show (AV.int .i64 T.room::tabC T.ns)[1+j*7+q]? = _
 rw [show 1+j*7+q=(j*7+q)+1 by omega,List.getElem?_cons_succ,tabC_get _ _ _ hj hq]
theorem tab_kind (T:Tab) {j:Nat} (hj:j<T.ns.length):blkGet (some (tabBlk T)) (1+j*7+0) .one=some (.int .i64 (T.ns.getD j nd0).kind):=tab_nd T (q:=0) hj (by omega)
theorem tab_ents (T:Tab) {j:Nat} (hj:j<T.ns.length):blkGet (some (tabBlk T)) (1+j*7+5) .one=some (.slice ((T.ns.getD j nd0).ents.map eV) .none):=tab_nd T (q:=5) hj (by omega)
theorem tab_agg (T:Tab) {j:Nat} (hj:j<T.ns.length):blkGet (some (tabBlk T)) (1+j*7) (.agg 7)=some (.agg (ndC (T.ns.getD j nd0))):=by
 show (if 1+j*7+7≤(AV.int .i64 T.room::tabC T.ns).length then some (AV.agg (((AV.int .i64 T.room::tabC T.ns).drop (1+j*7)).take 7)) else none)=_
 rw [if_pos (by rw [List.length_cons,tabC_len];omega),show 1+j*7=(j*7)+1 by omega,List.drop_succ_cons,tabC_drop _ _ hj]
def Tab.put (T:Tab) (j:Nat) (n:Nd):Tab:=⟨T.room,T.ns.set j n⟩
theorem putAt_cons {α:Type} (x:α):∀(v c:List α) (off:Nat),putAt (x::c) (off+1) v=x::putAt c off v
 | [], _, _=>rfl
 | y::v,c,off=>by
  show putAt ((x::c).set (off+1) y) (off+1+1) v=x::putAt (c.set off y) (off+1) v
  rw [List.set_cons_succ,putAt_cons x v]
theorem putAt_right {α:Type} (a:List α):∀(v c:List α) (off:Nat),putAt (a++c) (a.length+off) v=a++putAt c off v
 | [], _, _=>rfl
 | y::v,c,off=>by
  show putAt ((a++c).set (a.length+off) y) (a.length+off+1) v=a++putAt (c.set off y) (off+1) v
  rw [List.set_append_right _ _ (Nat.le_add_right _ _),Nat.add_sub_cancel_left,Nat.add_assoc,putAt_right a v]
theorem putAt_tabC:∀(ns:List Nd) (j:Nat) (n:Nd),j<ns.length→putAt (tabC ns) (j*7) (ndC n)=tabC (ns.set j n)
 | m::r,0,n, _=>rfl
 | m::r,j+1,n,hj=>by
  simp only [tabC,List.set_cons_succ]
  rw [show (j+1)*7=(ndC m).length+j*7 by rw [ndC_len];omega,putAt_right,putAt_tabC r j n (by simpa using hj)]
theorem tab_put (T:Tab) {j:Nat} (n:Nd) (hj:j<T.ns.length):blkPut (some (tabBlk T)) (1+j*7) (.agg 7) (.agg (ndC n))=some (tabBlk (T.put j n)):=by
 show (if fits (.agg 7) (.agg (ndC n))=true∧1+j*7+(ndC n).length≤(AV.int .i64 T.room::tabC T.ns).length then some (Blk.cells (putAt (AV.int .i64 T.room::tabC T.ns) (1+j*7) (ndC n))) else none)=_
 rw [if_pos ⟨rfl,by rw [ndC_len,List.length_cons,tabC_len];omega⟩,Nat.add_comm 1,putAt_cons,putAt_tabC _ _ _ hj]
 rfl
theorem clL_ndC (m:Nat) (n:Nd):AV.clL m (ndC n):=by simp [ndC,AV.clL,AV.cl,clL_bV,clL_eV, -List.map_map]
theorem clL_append' (m:Nat):∀(a b:List AV),AV.clL m a→AV.clL m b→AV.clL m (a++b)
 | [],b, _,h=>h
 | x::a,b,h1,h2=>⟨h1.1,clL_append' m a b h1.2 h2⟩
theorem clL_tabC (m:Nat):∀(ns:List Nd),AV.clL m (tabC ns)
 | []=>trivial
 | n::r=>clL_append' m _ _ (clL_ndC m n) (clL_tabC m r)
theorem cl_tab (m:Nat) (T:Tab):(tabBlk T).cl m:=⟨trivial,clL_tabC m T.ns⟩
theorem er_ndC (n:Nd):AV.erL (ndC n)=ndC n:=by simp [ndC,AV.erL,AV.er,erL_bV,erL_eV, -List.map_map]
theorem putAt7 (a b c d e f g:AV) (n:Nd):putAt [a,b,c,d,e,f,g] 0 (ndC n)=ndC n:=rfl
theorem putAt7' (m n:Nd):putAt (ndC m) 0 (ndC n)=ndC n:=rfl
theorem take7 (n:Nd):(ndC n).take 7=ndC n:=rfl
theorem ndC_0 (n:Nd):(ndC n)[0]? = some (.int .i64 n.kind):=rfl
theorem ndC_1 (n:Nd):(ndC n)[1]? = some (.int .i64 n.mode):=rfl
theorem ndC_2 (n:Nd):(ndC n)[2]? = some (.int .i64 n.uid):=rfl
theorem ndC_3 (n:Nd):(ndC n)[3]? = some (.int .i64 n.gid):=rfl
theorem ndC_4 (n:Nd):(ndC n)[4]? = some (.slice (n.data.map bV) .none):=rfl
theorem ndC_5 (n:Nd):(ndC n)[5]? = some (.slice (n.ents.map eV) .none):=rfl
theorem ndC_6 (n:Nd):(ndC n)[6]? = some (.str n.target):=rfl
attribute [push_cast] putAt7 putAt7' take7 ndC_0 ndC_1 ndC_2 ndC_3 ndC_4 ndC_5 ndC_6 ndC_len
def Tab.at (T:Tab) (i:Int):Option Nat:=if 1≤i∧i≤T.room∧(T.ns.getD (i - 1).toNat nd0).kind≠0 then some (i - 1).toNat else none
def Tab.get (T:Tab) (i:Int):Nd×Bool:=match T.at i with
 | some j=>(T.ns.getD j nd0,true)
 | none=>(nd0,false)
def nodeP (k:Nat):Option Nat→AV
 | some j=>.ptr k (1+j*7)
 | none=>.raw (.pointer none)
theorem nodeP_nil (P:Program) (t:TypeId) (k:Nat) (o:Option Nat) (b:Bool) (h:∀k j,abinOpT P .eql t b (.ptr k (1+j*7)) (.raw (.pointer none))=some (.bool false)) (h':abinOpT P .eql t b (.raw (.pointer none)) (.raw (.pointer none))=some (.bool true)):abinOpT P .eql t b (nodeP k o) (.raw (.pointer none))=some (.bool o.isNone):=by
 cases o with
 | none=>exact h'
 | some j=>exact h k j
theorem nodeP_none (k:Nat):nodeP k none=.raw (.pointer none):=rfl
theorem nodeP_some (k j:Nat):nodeP k (some j)=.ptr k (1+j*7):=rfl
attribute [push_cast] nodeP_none nodeP_some
theorem at_some {T:Tab} {i:Int} {j:Nat} (hT:T.Ok) (h:T.at i=some j):j<T.ns.length∧i=j+1∧i≤T.room∧(T.ns.getD j nd0).kind≠0:=by
 unfold Tab.at at h
 split at h
 ·
  rename_i hc
  cases h
  have:=hT.len;have:=hT.hi
  exact ⟨by omega,by omega,hc.2.1,hc.2.2⟩
 · cases h
theorem get_at {T:Tab} {i:Int} {j:Nat} (h:T.at i=some j):T.get i=(T.ns.getD j nd0,true):=by unfold Tab.get;rw [h]
theorem get_no {T:Tab} {i:Int} (h:T.at i=none):T.get i=(nd0,false):=by unfold Tab.get;rw [h]
theorem atApp {h g:List Blk} {k:Nat} {b:Blk} (hk:h[k]? = some b):(h++g)[k]? = some b:=by
 rw [List.getElem?_append_left (List.getElem?_eq_some_iff.1 hk).1];exact hk
theorem getD_nd {T:Tab} (hT:T.Ok) (j:Nat):NdOk (T.ns.getD j nd0):=by
 by_cases h:j<T.ns.length
 · rw [List.getD_eq_getElem?_getD,List.getElem?_eq_getElem h];exact hT.nd _ (List.getElem_mem h)
 · rw [List.getD_eq_getElem?_getD,List.getElem?_eq_none (by omega)];exact ndOk_0
theorem get_ok {T:Tab} (hT:T.Ok) (i:Int):NdOk (T.get i).1:=by
 unfold Tab.get
 split
 · exact getD_nd hT _
 · exact ndOk_0
attribute [push_cast] clL_ndC clL_tabC er_ndC
theorem n46 (i:Int) (h:List Blk) (live:List Nat):AC Tryz.prog 46 [.raw (.pointer none),.int .i64 i] h live (.raw (.pointer none)):=by
 refine aq_ Tryz.func46 fun hH hX=>?_
 refine rg_ [0,1] ?_
 refine sk_ fun K1 hK1=>?_
 refine rs_ [0,1,29] ?_
 refine dp_ ?_
 refine dp_ ?_
 refine dp_ ?_
 refine dg_ ?_
 refine dg_ ?_
 refine dp_ ?_
 refine dp_ ?_
 refine dg_ ?_
 refine dg_ ?_
 iterate 2 (refine dawp_g (x:=.undef) rfl rfl (by simp only [push_cast,and_true,cond_true,cond_false,if_pos,if_neg,↓reduceIte];rfl) (fun hg=>by simp at hg) rfl rfl ?_)
 refine dawp_gh (x:=.undef) rfl rfl (by simp only [push_cast,and_true,cond_true,cond_false,if_pos,if_neg,↓reduceIte];rfl) (fun hg=>by simp at hg) rfl rfl ?_
 refine dawp_g (x:=.undef) rfl rfl (by simp only [push_cast,and_true,cond_true,cond_false,if_pos,if_neg,↓reduceIte];rfl) (fun hg=>by simp at hg) rfl rfl ?_
 refine dp_ ?_
 refine dp_ ?_
 refine dg_ ?_
 refine dg_ ?_
 refine dg_ ?_
 iterate 4 (refine dawp_g (x:=.undef) rfl rfl (by simp only [push_cast,and_true,cond_true,cond_false,if_pos,if_neg,↓reduceIte];rfl) (fun hg=>by simp at hg) rfl rfl ?_)
 refine dawp_gh (x:=.undef) rfl rfl (by simp only [push_cast,and_true,cond_true,cond_false,if_pos,if_neg,↓reduceIte];rfl) (fun hg=>by simp at hg) rfl rfl ?_
 refine dawp_g (x:=.undef) rfl rfl (by simp only [push_cast,and_true,cond_true,cond_false,if_pos,if_neg,↓reduceIte];rfl) (fun hg=>by simp at hg) rfl rfl ?_
 refine sre_ ?_
 refine cdy_ (ht:=fun hb1=>?_) (hf:=fun hb1=>?_)
 ·
  refine rg_ [4] ?_
  refine ret_ ?_
  refine fq_ Tryz.results46 ?_
  exact rk_ rfl
 exfalso;exact Bool.noConfusion hb1
theorem c46 (T:Tab) (k:Nat) (i:Int) (h:List Blk) (live:List Nat) (hk:h[k]? = some (tabBlk T)) (hT:T.Ok):AC Tryz.prog 46 [.ptr k 0,.int .i64 i] h live (nodeP k (T.at i)):=by
 refine aq_ Tryz.func46 fun hH hX=>?_
 have hkl:k<h.length:=(List.getElem?_eq_some_iff.1 hk).1
 obtain ⟨hlo,hhi,hlen, -, -⟩:=hT
 have sx:=(And.intro @hk (And.intro @tab_room (And.intro @tab_kind (And.intro @Bool.false_or sx0))))
 refine rg_ [0,1] ?_
 refine sk_ fun K1 hK1=>?_
 refine rg_ [0,1,29] ?_
 refine cx_ (fun hb1=>?_) (fun hb1=>?_)
 ·
  have ha:T.at i=none:=by
   unfold Tab.at;rw [if_neg];rintro ⟨h1,h2,h3⟩;rcases hb1 with (h | h) | h
   · omega
   · omega
   · exact h3 h
  refine rg_ [4] ?_
  refine ret_ ?_
  refine fq_ Tryz.results46 ?_ (hcl:=(by simp [AV.cl,AV.clL,hkl]))
  refine ⟨?_,rfl,rfl⟩
  rw [ha];rfl
 have ha:T.at i=some (i - 1).toNat:=by
  unfold Tab.at;rw [if_pos ⟨hb1.1.1,hb1.1.2,hb1.2⟩]
 refine skp_ ?_
 refine hK1 _ ?_
 refine rg_ [4] ?_
 refine ret_ ?_
 refine fq_ Tryz.results46 ?_ (hcl:=(by simp [AV.cl,AV.clL,hkl]))
 refine ⟨?_,rfl,rfl⟩
 rw [ha];rfl
theorem n22 (h:List Blk) (live:List Nat):AC Tryz.prog 22 [.raw (.pointer none)] h live (.int .i64 0):=by
 refine aq_ Tryz.func22 fun hH hX=>?_
 refine rg_ [0] ?_
 refine sk_ fun K1 hK1=>?_
 refine rg_ [0,4] ?_
 refine cdy_ (ht:=fun hb1=>?_) (hf:=fun hb1=>?_)
 ·
  refine rg_ [2] ?_
  refine ret_ ?_
  refine fq_ Tryz.results22 ?_
  exact rk_ rfl
 exfalso;exact Bool.noConfusion hb1
theorem c22 (T:Tab) (k:Nat) (h:List Blk) (live:List Nat) (hk:h[k]? = some (tabBlk T)):AC Tryz.prog 22 [.ptr k 0] h live (.int .i64 T.room):=by
 refine aq_ Tryz.func22 fun hH hX=>?_
 have sx:=(And.intro @hk (And.intro @tab_room sx0))
 refine rg_ [0] ?_
 refine sk_ fun K1 hK1=>?_
 refine rg_ [0,4] ?_
 refine cdn_ (ht:=fun hb1=>?_) (hf:=fun hb1=>?_)
 · exfalso;exact Bool.noConfusion hb1
 refine skp_ ?_
 refine hK1 _ ?_
 refine rg_ [2] ?_
 refine ret_ ?_
 refine fq_ Tryz.results22 ?_
 exact rk_ rfl
theorem c47 (n:Nd) (h:List Blk) (live:List Nat) (hn:NdOk n):AC Tryz.prog 47 [.agg (ndC n)] h live (.agg (ndC n)):=by
 refine aq_ Tryz.func47 fun hH hX=>?_
 obtain ⟨hn1,hn2,hn3⟩:=hn
 unfold ndC
 refine rg_ [1,2] ?_
 refine rs_ [1,2] ?_
 refine sg_ ?_
 refine cl_ (hc:=c79 _ _ _ _ (by omega)) (k:=?_)
 refine sre_ ?_
 refine rs_ [1,2] ?_
 refine sg_ ?_
 refine cl_ (hc:=c80 _ _ _ _ (by omega)) (k:=?_)
 refine sre_ ?_
 refine rg_ [2] ?_
 refine ret_ ?_
 refine fq_ Tryz.results47 ?_ (hcl:=(by simp [AV.cl,AV.clL,clL_bV,clL_eV, -List.map_map]))
 exact rk_ rfl
theorem n23 (T:Tab) (k:Nat) (i:Int) (h:List Blk) (live:List Nat)  : AC Tryz.prog 23 [.raw (.pointer none),.int .i64 i] h live (.tup [.agg (ndC nd0),.bool false]):=by
 refine aq_ Tryz.func23 fun hH hX=>?_
 refine rg_ [0,1,4] ?_
 refine rs_ [4,6] ?_
 refine sg_ ?_
 refine cl_ (hc:=n46 i _ _) (k:=?_)
 refine sre_ ?_
 refine sk_ fun K1 hK1=>?_
 refine rg_ [4,6,11] ?_
 refine cdy_ (ht:=fun hb1=>?_) (hf:=fun hb1=>?_)
 ·
  refine rg_ [4,5] ?_
  refine ret_ ?_
  refine fq_ Tryz.results23 ?_ (hcl:=(by simp [AV.cl,AV.clL,clL_ndC,nd0, -List.map_map]))
  exact rk_ rfl
 exfalso;exact Bool.noConfusion hb1
theorem gn23 (T:Tab) (k:Nat) (i:Int) (h:List Blk) (live:List Nat) (hk:h[k]? = some (tabBlk T)) (hT:T.Ok) (ha:T.at i=none):AC Tryz.prog 23 [.ptr k 0,.int .i64 i] h live (.tup [.agg (ndC nd0),.bool false]):=by
 refine aq_ Tryz.func23 fun hH hX=>?_
 have sx:=(And.intro @ha sx0)
 refine rg_ [0,1,4] ?_
 refine rs_ [4,6] ?_
 refine sg_ ?_
 refine cl_ (hc:=c46 T k i _ _ (atApp hk) hT) (k:=?_)
 refine sre_ ?_
 refine sk_ fun K1 hK1=>?_
 refine rg_ [4,6,11] ?_
 refine cdy_ (ht:=fun hb1=>?_) (hf:=fun hb1=>?_)
 ·
  refine rg_ [4,5] ?_
  refine ret_ ?_
  refine fq_ Tryz.results23 ?_ (hcl:=(by simp [AV.cl,AV.clL,clL_ndC,nd0, -List.map_map]))
  exact rk_ rfl
 exfalso;exact Bool.noConfusion hb1
theorem gs23 (T:Tab) (k:Nat) (i:Int) (h:List Blk) (live:List Nat) (hk:h[k]? = some (tabBlk T)) (hT:T.Ok) (j:Nat) (ha:T.at i=some j):AC Tryz.prog 23 [.ptr k 0,.int .i64 i] h live (.tup [.agg (ndC (T.ns.getD j nd0)),.bool true]):=by
 refine aq_ Tryz.func23 fun hH hX=>?_
 have hkl:k<h.length:=(List.getElem?_eq_some_iff.1 hk).1
 have hal:=fun g:List Blk=>List.getElem?_append_left (l₂:=g) hkl
 obtain ⟨hj,hij,hir,hkd⟩:=at_some hT ha
 have sx:=(And.intro @ha (And.intro @hal (And.intro @hk (And.intro @tab_agg sx0))))
 refine rg_ [0,1,4] ?_
 refine rs_ [4,6] ?_
 refine sg_ ?_
 refine cl_ (hc:=c46 T k i _ _ (atApp hk) hT) (k:=?_)
 refine sre_ ?_
 refine sk_ fun K1 hK1=>?_
 refine rg_ [4,6,11] ?_
 refine cdn_ (ht:=fun hb1=>?_) (hf:=fun hb1=>?_)
 · exfalso;exact Bool.noConfusion hb1
 refine skp_ ?_
 refine hK1 _ ?_
 refine rs_ [4,5] ?_
 refine sg_ ?_
 refine cl_ (hc:=c47 _ _ _ (getD_nd hT _)) (k:=?_)
 refine srt_ ?_
 refine fq_ Tryz.results23 ?_ (hcl:=(by simp [AV.cl,AV.clL,clL_ndC,nd0, -List.map_map]))
 exact rk_ rfl
set_option maxRecDepth 8000 in
theorem c23 (T:Tab) (k:Nat) (i:Int) (h:List Blk) (live:List Nat) (hk:h[k]? = some (tabBlk T)) (hT:T.Ok):ACalls Tryz.prog 23 [.ptr k 0,.int .i64 i] h live (ret (.tup [.agg (ndC (T.get i).1),.bool (T.get i).2]) h live):=by
 rcases ha:T.at i with _ | j
 · simp only [get_no ha];exact gn23 T k i h live hk hT ha
 · simp only [get_at ha];exact gs23 T k i h live hk hT j ha
end Go.Proofs.YtmgnbgniikjhdaaGreat
namespace Go.Proofs.YtmgnbgniikjhdaaGreat
open Go.Ab
set_option maxRecDepth 8000
set_option maxHeartbeats 400000
theorem np_neq (k:Nat) (o:Option Nat) (b:Bool):abinOpT Tryz.prog .neq 133 b (nodeP k o) (.raw (.pointer none))=some (.bool o.isSome):=by
 cases o<;>simp only [nodeP,abinOpT,aeqOp,Ty.eqTop_133,aeqT,aeqP]<;>rfl
theorem np_eql (k:Nat) (o:Option Nat) (b:Bool):abinOpT Tryz.prog .eql 133 b (nodeP k o) (.raw (.pointer none))=some (.bool o.isNone):=by
 cases o<;>simp only [nodeP,abinOpT,aeqOp,Ty.eqTop_133,aeqT,aeqP]<;>rfl
theorem cl_nodeP {k n:Nat} (h:k<n) (o:Option Nat):(nodeP k o).cl n:=by
 cases o
 · trivial
 · exact h
def entsF (g:Int→Int→Int) (i d:Int) (v:Int) (l:List En):Int:=l.foldl (fun v e=>if e.2=i then g v d else v) v
theorem entsF_nil (g:Int→Int→Int) (i d v:Int):entsF g i d v []=v:=rfl
theorem entsF_snoc (g:Int→Int→Int) (i d v:Int) (l:List En) (e:En):entsF g i d v (l++[e])=if e.2=i then g (entsF g i d v l) d else entsF g i d v l:=by
 unfold entsF;rw [List.foldl_append];rfl
theorem entsF_take (g:Int→Int→Int) (i d v:Int) (l:List En) (j:Nat) (hj:j<l.length):entsF g i d v (l.take (j+1))=if (l.getD j ([],0)).2=i then g (entsF g i d v (l.take j)) d else entsF g i d v (l.take j):=by
 rw [List.take_succ_eq_append_getElem hj,entsF_snoc]
 simp [List.getD_eq_getElem?_getD,hj]
def Tab.scan (T:Tab) (g:Int→Int→Int) (i:Int) (v:Int):Nat→Int
 | 0=>v
 | m+1=>match T.at ((m:Int)+1) with
  | some j=>entsF g i ((m:Int)+1) (T.scan g i v m) (T.ns.getD j nd0).ents
  | none=>T.scan g i v m
def Tab.parent (T:Tab) (i:Int):Int:=T.scan (fun v d=>if v=0 then d else v) i 0 T.room.toNat
def Tab.links (T:Tab) (i:Int):Int:=T.scan (fun v _=>IntKind.i64.wrap (v+1)) i 0 T.room.toNat
theorem none_of {α:Type} {o:Option α} (h:o.isSome=false):o=none:=by
 cases o
 · rfl
 · cases h
theorem ACalls.heap {P:Program} {f:FuncId} {xs:List AV} {h h':List Blk} {live:List Nat} {K:KT} (e:h=h') (hc:ACalls P f xs h' live K):ACalls P f xs h live K:=e▸hc
theorem getSetApp {h l:List Blk} {k b:Nat} {x y:Blk} (hk:h[k]? = some x) (hkb:k≠b):(h.set b y++l)[k]? = some x:=by
 rw [List.getElem?_append_left (by rw [List.length_set];exact (List.getElem?_eq_some_iff.1 hk).1),List.getElem?_set_ne (Ne.symm hkb)];exact hk
theorem lt_of_get {h:List Blk} {k:Nat} {x:Blk} (hk:h[k]? = some x):k<h.length:=(List.getElem?_eq_some_iff.1 hk).1
theorem ne_app {h:List Blk} {k:Nat} {x:Blk} (hk:h[k]? = some x):k≠h.length:=Nat.ne_of_lt (lt_of_get hk)
theorem getSet {h:List Blk} {k b:Nat} {x y:Blk} (hk:h[k]? = some x) (hkb:k≠b):(h.set b y)[k]? = some x:=by
 rw [List.getElem?_set_ne (Ne.symm hkb)];exact hk
theorem c238 (T:Tab) (k:Nat) (f:FuncId) (cs:List AV) (hs:Nat→List Blk) (live:List Nat) (hT:T.Ok) (hk:∀i,i≤T.room.toNat→(hs i)[k]? = some (tabBlk T)) (hcl:∀i,i≤T.room.toNat→HCl (hs i)) (hlen:∀i,i≤T.room.toNat→(hs i).length=(hs 0).length)
 (hyes:∀i,i<T.room.toNat→(T.at ((i:Int)+1)).isSome=true→ACalls Tryz.prog f (.int .i64 ((i:Int)+1)::nodeP k (T.at ((i:Int)+1))::cs) (hs i) live (ret (.tup []) (hs (i+1)) live))
 (hno:∀i,i<T.room.toNat→(T.at ((i:Int)+1)).isSome=false→hs (i+1)=hs i) (hfc:(AV.fn (.func f) [] cs).cl (hs 0).length) :
 ACalls Tryz.prog 238 [.ptr k 0,.fn (.func f) [] cs] (hs 0) live (ret (.tup []) (hs T.room.toNat) live):=by
 refine aq_ Tryz.func238 fun hH hX=>?_
 have hkl:k<(hs 0).length:=(List.getElem?_eq_some_iff.1 (hk 0 (by omega))).1
 obtain ⟨hlo,hhi,hlen', -, -⟩:=id hT
 have hfc':=hfc
 have hroom:((T.room.toNat:Nat):Int)=T.room:=by omega
 refine rs_ [0,1,7,8] ?_
 refine sg_ ?_
 refine cl_ (hc:=c22 T k _ _ (hk 0 (by omega))) (k:=?_)
 refine sre_ ?_
 refine awp_block ?_
 refine lp_ (X:={i:Nat // i≤T.room.toNat}) (fun x=>⟨Tryz.f238.ntmps,fget [(0,.ptr k 0),(1,.fn (.func f) [] cs),(7,.int .i64 T.room),(8,.int .i64 (x.1:Nat))],hs x.1,live⟩) (fun x=>T.room.toNat - x.1) (⟨0,by omega⟩) ?_ (fun ⟨i,hi⟩=>?_)
 ·
  try dsimp only
  refine Trunc.of (by first | exact (List.append_nil _).symm | (rw [hno i (by omega) (by assumption),List.append_nil])) ?_ (hcl _ (by first | omega | exact hi | (have:=x.2;omega))) (fun _ h=>h)
  refine ftc_ ?_ (hc:=by first | trivial | exact hkl | exact hfc | (rw [hlen _ (by omega)];exact hfc) | (rw [hlen _ (by omega)];exact hkl))
  refine ftc_ ?_ (hc:=by first | trivial | exact hkl | exact hfc | (rw [hlen _ (by omega)];exact hfc) | (rw [hlen _ (by omega)];exact hkl))
  refine ftc_ ?_ (hc:=by first | trivial | exact hkl | exact hfc | (rw [hlen _ (by omega)];exact hfc) | (rw [hlen _ (by omega)];exact hkl))
  refine ftc_ ?_ (hc:=by first | trivial | exact hkl | exact hfc | (rw [hlen _ (by omega)];exact hfc) | (rw [hlen _ (by omega)];exact hkl))
  exact FTr.nil
 try dsimp only
 refine rg_ [0,1,7,8,9] ?_
 refine sk_ fun K1 hK1=>?_
 refine cx_ (fun hb1=>?_) (fun hb1=>?_)
 rotate_left
 ·
  have hie:i=T.room.toNat:=by omega
  subst hie
  refine awp_exit (up_ ?_)
  refine gq_ (h1:=hs T.room.toNat) Tryz.results238 ?_ (hH:=(hcl _ (Nat.le_refl _))) (hle:=(by rw [hlen _ (Nat.le_refl _)];exact Nat.le_refl _))
  exact rk_ rfl
 have hil:i<T.room.toNat:=by omega
 refine skp_ ?_
 refine hK1 _ ?_
 refine sk_ fun K2 hK2=>?_
 refine awp_block ?_
 refine rg_ [0,1,4,7,8] ?_
 refine rs_ [0,1,4,5,7,8] ?_
 refine sg_ ?_
 refine cl_ (hc:=c46 T k _ _ _ (hk i hi) hT) (k:=?_)
 refine sre_ ?_
 refine rs_ [0,1,4,5,7,8,16] ?_
 refine dp_ ?_
 refine dawp_p rfl (np_neq k (T.at ((i:Int)+1)) _) rfl rfl ?_
 refine re_ ?_
 refine cy_ (fun hb2=>?_) (fun hb2=>?_)
 ·
  refine rt_ [0,1,7,8] ?_
  refine sg_ ?_
  refine cl_ (hc:=hyes i hil hb2) (k:=?_)
  refine rn_ (up_ ?_)
  refine hK2 _ ?_
  refine rt_ [0,1,7,8] ?_
  refine srn_ ?_
  refine ⟨⟨i+1,by omega⟩,?_,(by dsimp only;rw [hlen (i+1) hil,hlen i hi]),by dsimp only;omega⟩
  try dsimp only
  refine Trunc.of (by first | exact (List.append_nil _).symm | (rw [hno i (by omega) (by assumption),List.append_nil])) ?_ (hcl _ (by first | omega | exact hi | (have:=x.2;omega))) (fun _ h=>h)
  refine ftc_ ?_ (hc:=by first | trivial | exact hkl | exact hfc | (rw [hlen _ (by omega)];exact hfc) | (rw [hlen _ (by omega)];exact hkl))
  refine ftc_ ?_ (hc:=by first | trivial | exact hkl | exact hfc | (rw [hlen _ (by omega)];exact hfc) | (rw [hlen _ (by omega)];exact hkl))
  refine ftc_ ?_ (hc:=by first | trivial | exact hkl | exact hfc | (rw [hlen _ (by omega)];exact hfc) | (rw [hlen _ (by omega)];exact hkl))
  refine ftc_ ?_ (hc:=by first | trivial | exact hkl | exact hfc | (rw [hlen _ (by omega)];exact hfc) | (rw [hlen _ (by omega)];exact hkl))
  exact FTr.nil
 refine skp_ ?_
 refine hK2 _ ?_
 refine rt_ [0,1,7,8] ?_
 refine srn_ ?_
 refine ⟨⟨i+1,by omega⟩,?_,(by dsimp only;rw [hlen (i+1) hil,hlen i hi]),by dsimp only;omega⟩
 try dsimp only
 refine Trunc.of (by first | exact (List.append_nil _).symm | (rw [hno i (by omega) (by assumption),List.append_nil])) ?_ (hcl _ (by first | omega | exact hi | (have:=x.2;omega))) (fun _ h=>h)
 refine ftc_ ?_ (hc:=by first | trivial | exact hkl | exact hfc | (rw [hlen _ (by omega)];exact hfc) | (rw [hlen _ (by omega)];exact hkl))
 refine ftc_ ?_ (hc:=by first | trivial | exact hkl | exact hfc | (rw [hlen _ (by omega)];exact hfc) | (rw [hlen _ (by omega)];exact hkl))
 refine ftc_ ?_ (hc:=by first | trivial | exact hkl | exact hfc | (rw [hlen _ (by omega)];exact hfc) | (rw [hlen _ (by omega)];exact hkl))
 refine ftc_ ?_ (hc:=by first | trivial | exact hkl | exact hfc | (rw [hlen _ (by omega)];exact hfc) | (rw [hlen _ (by omega)];exact hkl))
 exact FTr.nil
theorem c239 (T:Tab) (k:Nat) (j:Nat) (i d v:Int) (p q b:Nat) (tf:FuncId) (cs:List AV) (h:List Blk) (live:List Nat) (g:Int→Int→Int) (ht:∀(h:List Blk) (d v:Int),h[b]? = some (.cells [.int .i64 v])→ACalls Tryz.prog tf (.int .i64 d::cs) h live (ret (.tup []) (h.set b (.cells [.int .i64 (g v d)])) live)) (hk:h[k]? = some (tabBlk T)) (hT:T.Ok) (hj:j<T.ns.length) (hp:h[p]? = some (.cells [.int .i64 i])) (hq:h[q]? = some (.cells [.fn (.func tf) [] cs])) (hb:h[b]? = some (.cells [.int .i64 v])) (hkb:k≠b) (hpb:p≠b) (hqb:q≠b) :
 ACalls Tryz.prog 239 [.int .i64 d,.ptr k (1+j*7),.ptr p 0,.ptr q 0] h live (ret (.tup []) (h.set b (.cells [.int .i64 (entsF g i d v (T.ns.getD j nd0).ents)])) live):=by
 refine aq_ Tryz.func239 fun hH hX=>?_
 have hkl:=lt_of_get hk
 have hpl:=lt_of_get hp
 have hql:=lt_of_get hq
 have hbl:=lt_of_get hb
 have hn:=(getD_nd hT j).2.1
 have hB:∀x,HCl (h.set b (.cells [.int .i64 x])):=fun x=>HCl.set hH b ⟨trivial,trivial⟩
 have rp:∀y,(h.set b y)[p]? = _:=fun y=>getSet hp hpb
 have rp':∀y l,(h.set b y++l)[p]? = _:=fun y l=>getSetApp hp hpb
 have rq':∀y l,(h.set b y++l)[q]? = _:=fun y l=>getSetApp hq hqb
 have sx:=(And.intro @hk (And.intro @tab_ents (And.intro @rp (And.intro @rp' (And.intro @rq' sx0)))))
 refine rg_ [0,2,3,11,12,13] ?_
 refine awp_block ?_
 refine lp_ (X:={m:Nat // m≤(T.ns.getD j nd0).ents.length}) (fun x=>⟨Tryz.f239.ntmps,fget [(0,.int .i64 d),(2,.ptr p 0),(3,.ptr q 0),(11,.slice ((T.ns.getD j nd0).ents.map eV) .none),(12,.int .i64 (T.ns.getD j nd0).ents.length),(13,.int .i64 (x.1:Nat))],h.set b (.cells [.int .i64 (entsF g i d v ((T.ns.getD j nd0).ents.take x.1))]),live⟩) (fun x=>(T.ns.getD j nd0).ents.length - x.1) (⟨0,by omega⟩) ?_ (fun ⟨m,hm⟩=>?_)
 ·
  try dsimp only
  exact tf_ (hB _) (fun _ h=>h) (hj:=(by first | (rw [entsF_take _ _ _ _ _ _ hml,if_pos hb2];done) | (rw [entsF_take _ _ _ _ _ _ hml,if_neg hb2];done) | (show h=h.set b (.cells [.int .i64 v])++_;rw [set_self hb];exact (List.append_nil _).symm)))
 try dsimp only
 refine rg_ [0,2,3,11,12,13,14] ?_
 refine sk_ fun K1 hK1=>?_
 refine cx_ (fun hb1=>?_) (fun hb1=>?_)
 rotate_left
 ·
  have hme:m=(T.ns.getD j nd0).ents.length:=by omega
  subst hme
  refine awp_exit (up_ ?_)
  refine gq_ (h1:=h.set b _) Tryz.results239 ?_ (hH:=(hB _))
  exact ⟨rfl,by rw [List.take_length],rfl⟩
 have hml:m<(T.ns.getD j nd0).ents.length:=by omega
 refine skp_ ?_
 refine hK1 _ ?_
 refine sk_ fun K2 hK2=>?_
 refine awp_block ?_
 refine rg_ [0,2,3,7,11,12,13] ?_
 refine rg_ [0,2,3,11,12,13,20] ?_
 refine cx_ (fun hb2=>?_) (fun hb2=>?_)
 ·
  refine rt_ [0,2,3,11,12,13] ?_
  refine sg_ ?_
  refine cl_ (hc:=ht _ d _ (get_setapp hbl)) (k:=?_)
  refine rn_ (up_ ?_)
  refine hK2 _ ?_
  refine rt_ [0,2,3,11,12,13] ?_
  refine srn_ ?_
  refine ⟨⟨m+1,by omega⟩,?_,(by simp only [List.length_set]),by dsimp only;omega⟩
  try dsimp only
  exact tf_ (hB _) (fun _ h=>h) (hj:=(by first | (rw [entsF_take _ _ _ _ _ _ hml,if_pos hb2];done) | (rw [entsF_take _ _ _ _ _ _ hml,if_neg hb2];done) | (show h=h.set b (.cells [.int .i64 v])++_;rw [set_self hb];exact (List.append_nil _).symm)))
 refine skp_ ?_
 refine hK2 _ ?_
 refine rt_ [0,2,3,11,12,13] ?_
 refine srn_ ?_
 refine ⟨⟨m+1,by omega⟩,?_,(by simp only [List.length_set]),by dsimp only;omega⟩
 try dsimp only
 exact tf_ (hB _) (fun _ h=>h) (hj:=(by first | (rw [entsF_take _ _ _ _ _ _ hml,if_pos hb2];done) | (rw [entsF_take _ _ _ _ _ _ hml,if_neg hb2];done) | (show h=h.set b (.cells [.int .i64 v])++_;rw [set_self hb];exact (List.append_nil _).symm)))
theorem c188 (T:Tab) (k:Nat) (i v:Int) (b:Nat) (tf:FuncId) (cs:List AV) (h:List Blk) (live:List Nat) (g:Int→Int→Int) (ht:∀(h:List Blk) (d v:Int),h[b]? = some (.cells [.int .i64 v])→ACalls Tryz.prog tf (.int .i64 d::cs) h live (ret (.tup []) (h.set b (.cells [.int .i64 (g v d)])) live)) (hk:h[k]? = some (tabBlk T)) (hT:T.Ok) (hb:h[b]? = some (.cells [.int .i64 v])) (hkb:k≠b) (hcs:AV.clL h.length cs) :
 ACalls Tryz.prog 188 [.ptr k 0,.int .i64 i,.fn (.func tf) [] cs] h live (ret (.tup []) (h.set b (.cells [.int .i64 (T.scan g i v T.room.toNat)])) live):=by
 refine aq_ Tryz.func188 fun hH hX=>?_
 have hkl:=lt_of_get hk
 have hbl:=lt_of_get hb
 have hB:∀x,HCl (h.set b (.cells [.int .i64 x])):=fun x=>HCl.set hH b ⟨trivial,trivial⟩
 have hcs1:AV.clL (h.length+1+1) cs:=AV.clL_mono (by omega) _ hcs
 have hB2:∀x,HCl (h.set b (.cells [.int .i64 x])++[.cells [.int .i64 i],.cells [.fn (.func tf) [] cs]]):=fun x=>by
  have:=HCl.snoc (HCl.snoc (b:=.cells [.int .i64 i]) (hB x) ⟨trivial,trivial⟩) (b:=.cells [.fn (.func tf) [] cs]) (by simp only [Blk.cl,AV.clL,AV.cl,List.length_append,List.length_set,List.length_cons,List.length_nil,and_true,true_and];exact hcs1)
  rw [List.append_assoc] at this;exact this
 have e0:h++[.cells [.int .i64 i],.cells [.fn (.func tf) [] cs]]=h.set b (.cells [.int .i64 v])++[.cells [.int .i64 i],.cells [.fn (.func tf) [] cs]]:=by rw [set_self hb]
 refine rg_ [0,4,5] ?_
 refine rt_ [] ?_
 refine sg_ ?_
 refine cl_ (hc:=ACalls.heap e0 (c238 T k 239 [.ptr h.length 0,.ptr (h.length+1) 0] (fun m=>h.set b (.cells [.int .i64 (T.scan g i v m)])++[.cells [.int .i64 i],.cells [.fn (.func tf) [] cs]]) live hT (fun m _=>getSetApp hk hkb) (fun m _=>hB2 _) (fun m _=>by simp only [List.length_append,List.length_set]) (fun m hm hat=>by
  obtain ⟨j,hj⟩:=Option.isSome_iff_exists.1 hat
  have:=c239 T k j i ((m:Int)+1) (T.scan g i v m) h.length (h.length+1) b tf cs (h.set b (.cells [.int .i64 (T.scan g i v m)])++[.cells [.int .i64 i],.cells [.fn (.func tf) [] cs]]) live g ht (getSetApp hk hkb) hT (at_some hT hj).1 (by simp only [push_cast]) (by simp only [push_cast]) (get_setapp hbl) hkb (by omega) (by omega)
  rw [set_setapp hbl] at this
  have e:T.scan g i v (m+1)=entsF g i ((m:Int)+1) (T.scan g i v m) (T.ns.getD j nd0).ents:=by
   show (match T.at ((m:Int)+1) with | some j=>_ | none=>_)=_
   rw [hj]
  rw [hj]
  rw [e];exact this) (fun m hm hat=>by
  have e:T.scan g i v (m+1)=T.scan g i v m:=by
   show (match T.at ((m:Int)+1) with | some j=>_ | none=>_)=_
   rw [show T.at ((m:Int)+1)=none from none_of hat]
  rw [e]) (by simp [AV.cl,AV.clL]))) (k:=?_)
 refine rn_ (up_ ?_)
 refine gq_ (h1:=h.set b _) Tryz.results188 ?_ (hH:=(hB _))
 exact rk_ rfl
theorem c189 (b:Nat) (h:List Blk) (live:List Nat) (d v:Int) (hb:h[b]? = some (.cells [.int .i64 v])):ACalls Tryz.prog 189 (.int .i64 d::[.ptr b 0]) h live (ret (.tup []) (h.set b (.cells [.int .i64 ((fun v d=>if v=0 then d else v) v d)])) live):=by
 refine aq_ Tryz.func189 fun hH hX=>?_
 have hbl:=lt_of_get hb
 have hB:∀x,HCl (h.set b (.cells [.int .i64 x])):=fun x=>HCl.set hH b ⟨trivial,trivial⟩
 have sx:=(And.intro @hb sx0)
 refine rg_ [0,1,4] ?_
 refine cx_ (fun hb1=>?_) (fun hb1=>?_)
 ·
  refine rt_ [] ?_
  refine srn_ ?_
  refine gq_ (h1:=h.set b _) Tryz.results189 ?_ (hH:=(hB _))
  exact ⟨rfl,by first | rfl | simp only [if_pos hb1],rfl⟩
 refine skp_ ?_
 refine gq_ (h1:=h.set b _) Tryz.results189 ?_ (hh:=(⟨[],by rw [List.append_nil];exact (set_self hb).symm⟩)) (hH:=(hB _))
 exact ⟨rfl,by first | rfl | simp only [if_neg hb1],rfl⟩
theorem c190 (b:Nat) (h:List Blk) (live:List Nat) (d v:Int) (hb:h[b]? = some (.cells [.int .i64 v])):ACalls Tryz.prog 190 (.int .i64 d::[.ptr b 0]) h live (ret (.tup []) (h.set b (.cells [.int .i64 ((fun v _=>IntKind.i64.wrap (v+1)) v d)])) live):=by
 refine aq_ Tryz.func190 fun hH hX=>?_
 have hbl:=lt_of_get hb
 have hB:∀x,HCl (h.set b (.cells [.int .i64 x])):=fun x=>HCl.set hH b ⟨trivial,trivial⟩
 have sx:=(And.intro @hb sx0)
 refine rt_ [] ?_
 refine srn_ ?_
 refine gq_ (h1:=h.set b _) Tryz.results190 ?_ (hH:=(hB _))
 exact rk_ rfl
theorem c129 (T:Tab) (k:Nat) (i:Int) (h:List Blk) (live:List Nat) (hk:h[k]? = some (tabBlk T)) (hT:T.Ok):AC Tryz.prog 129 [.ptr k 0,.int .i64 i] h live (.int .i64 (T.parent i)):=by
 refine aq_ Tryz.func129 fun hH hX=>?_
 refine rg_ [0,1] ?_
 refine rg_ [0,1,5] ?_
 refine rs_ [5] ?_
 refine sg_ ?_
 refine cl_ (hc:=c188 T k i 0 h.length 189 [.ptr h.length 0] _ _ (fun v d=>if v=0 then d else v) (fun h' d v hb=>c189 h.length h' live d v hb) (atApp hk) hT (by simp only [push_cast]) (ne_app hk) (by simp [AV.cl,AV.clL])) (k:=?_)
 refine re_ ?_
 refine rg_ [4] ?_
 refine ret_ ?_
 refine fq_ Tryz.results129 ?_
 exact rk_ rfl
theorem c130 (T:Tab) (k:Nat) (i:Int) (h:List Blk) (live:List Nat) (hk:h[k]? = some (tabBlk T)) (hT:T.Ok):AC Tryz.prog 130 [.ptr k 0,.int .i64 i] h live (.int .i64 (T.links i)):=by
 refine aq_ Tryz.func130 fun hH hX=>?_
 refine rg_ [0,1] ?_
 refine rg_ [0,1,5] ?_
 refine rs_ [5] ?_
 refine sg_ ?_
 refine cl_ (hc:=c188 T k i 0 h.length 190 [.ptr h.length 0] _ _ (fun v _=>IntKind.i64.wrap (v+1)) (fun h' d v hb=>c190 h.length h' live d v hb) (atApp hk) hT (by simp only [push_cast]) (ne_app hk) (by simp [AV.cl,AV.clL])) (k:=?_)
 refine re_ ?_
 refine rg_ [4] ?_
 refine ret_ ?_
 refine fq_ Tryz.results130 ?_
 exact rk_ rfl
end Go.Proofs.YtmgnbgniikjhdaaGreat
namespace Go.Proofs.YtmgnbgniikjhdaaGreat
open Go.Ab
set_option maxRecDepth 8000
set_option maxHeartbeats 400000
def canT (c:Cr) (T:Tab) (i want:Int):Bool:=(T.get i).2&&canF c (T.get i).1.uid (T.get i).1.gid (T.get i).1.mode want
def wayL (T:Tab) (c:Cr):Nat→Int→Bool
 | 0, _=>false
 | n+1,d=>if d=1 then true else bif canT c T (T.parent d) 1 then wayL T c n (T.parent d) else false
def wayF (T:Tab) (c:Cr) (d:Int):Bool:=bif decide ((T.get d).1.kind=2) then wayL T c 24 d else false
def seenAt (T:Tab) (c:Cr) (i:Int) (d:Nat):Bool:=((T.get d).1.ents.any fun e=>decide (e.2=i))&&wayF T c d&&canT c T d 1
def seenF (T:Tab) (c:Cr) (i:Int):Bool:=(T.get i).2&&(((List.range 25).any fun d=>seenAt T c i d)||decide (i=1))
theorem wayL_succ (T:Tab) (c:Cr) (n:Nat) (d:Int):wayL T c (n+1) d=if d=1 then true else bif canT c T (T.parent d) 1 then wayL T c n (T.parent d) else false:=rfl
theorem wayL_m (T:Tab) (c:Cr) {m:Nat} (hm:m<24) (d:Int):wayL T c (24 - m) d=if d=1 then true else bif canT c T (T.parent d) 1 then wayL T c (24 - (m+1)) (T.parent d) else false:=by
 rw [show 24 - m=(24 - (m+1))+1 by omega];rfl
theorem any25_t {p:Nat→Bool} {m:Nat} (hm:m<25) (h:p m=true):(List.range 25).any p=true:=List.any_eq_true.2 ⟨m,List.mem_range.2 hm,h⟩
theorem any25_f {p:Nat→Bool} (h:∀j,j<25→p j=false):(List.range 25).any p=false:=List.any_eq_false.2 fun j hj=>by simp [h j (List.mem_range.1 hj)]
theorem eV_eq (e:En):eV e=.agg [.str e.1,.int .i64 e.2]:=rfl
theorem c128 (T:Tab) (k:Nat) (c:Cr) (q:Cap) (i w:Int) (h:List Blk) (live:List Nat) (hk:h[k]? = some (tabBlk T)) (hT:T.Ok) (hgs:c.gs.length≤17592186044416):AC Tryz.prog 128 [.ptr k 0,.agg [.int .i64 c.uid,.int .i64 c.gid,.slice (c.gs.map iV) q],.int .i64 i,.int .i64 w] h live (.bool (canT c T i w)):=by
 refine aq_ Tryz.func128 fun hH hX=>?_
 refine rg_ [0,2,3,5] ?_
 refine rs_ [3,5,9,10] ?_
 refine sg_ ?_
 refine cl_ (hc:=c23 T k _ _ _ (atApp hk) hT) (k:=?_)
 refine sre_ ?_
 refine rs_ [8] ?_
 refine sg_ ?_
 refine cg_ (hc:=fun hg=>c187 c _ _ _ _ _ _ _ hgs) (k:=?_)
 refine srt_ ?_
 refine fq_ Tryz.results128 ?_
 exact rk_ (by unfold canT;rfl)
theorem c195 (l:List En) (c:Cap) (f:FuncId) (cs:List AV) (p:En→Bool) (h:List Blk) (live:List Nat) (hl:l.length≤17592186044416) (hp:∀e,ACalls Tryz.prog f (.agg [.str e.1,.int .i64 e.2]::cs) h live (ret (.bool (p e)) h live)) (hcs:AV.clL h.length cs):AC Tryz.prog 195 [.slice (l.map eV) c,.fn (.func f) [] cs] h live (.int .i64 (idxP p l)):=by
 refine aq_ Tryz.func195 fun hH hX=>?_
 refine rg_ [0,1] ?_
 refine sk_ fun K1 hK1=>?_
 refine rg_ [0,1,7,8] ?_
 refine awp_block ?_
 refine lp_ (X:={i:Nat // i≤l.length∧∀j,j<i→p (l.getD j ([],0))=false}) (fun x=>⟨Tryz.f195.ntmps,fget [(0,.slice (l.map eV) c),(1,.fn (.func f) [] cs),(7,.int .i64 l.length),(8,.int .i64 (x.1:Nat))],h,live⟩) (fun x=>l.length - x.1) (⟨0,by omega,fun j hj=>by omega⟩) ?_ (fun ⟨i,hi,hn⟩=>?_)
 ·
  try dsimp only
  refine Trunc.same ?_ hH
  refine ftc_ ?_ (hc:=by first | exact hcs | exact ⟨trivial,hcs⟩ | simp [AV.cl,AV.clL,clL_eV, -List.map_map])
  refine ftc_ ?_ (hc:=by first | exact hcs | exact ⟨trivial,hcs⟩ | simp [AV.cl,AV.clL,clL_eV, -List.map_map])
  refine ftc_ ?_ (hc:=by first | exact hcs | exact ⟨trivial,hcs⟩ | simp [AV.cl,AV.clL,clL_eV, -List.map_map])
  refine ftc_ ?_ (hc:=by first | exact hcs | exact ⟨trivial,hcs⟩ | simp [AV.cl,AV.clL,clL_eV, -List.map_map])
  exact FTr.nil
 try dsimp only
 refine rg_ [0,1,7,8,9] ?_
 refine sk_ fun K2 hK2=>?_
 refine cx_ (fun hb1=>?_) (fun hb1=>?_)
 rotate_left
 ·
  have hx:=idxP_none (p:=p) ([],0) (l:=l) fun j hj=>hn j (by omega)
  refine awp_exit (up_ ?_)
  refine hK1 _ ?_
  refine rg_ [4] ?_
  refine ret_ ?_
  refine fq_ Tryz.results195 ?_
  refine ⟨?_,rfl,rfl⟩
  rw [hx]
 have hil:i<l.length:=by omega
 refine skp_ ?_
 refine hK2 _ ?_
 refine sk_ fun K3 hK3=>?_
 refine awp_block ?_
 refine rg_ [0,1,5,7,8] ?_
 refine rs_ [0,1,5,7,8,16] ?_
 refine sg_ ?_
 refine cl_ (hc:=hp (l.getD i ([],0))) (k:=?_)
 refine re_ ?_
 refine cy_ (fun hb2=>?_) (fun hb2=>?_)
 ·
  have hx:=idxP_at (p:=p) ([],0) (l:=l) (i:=i) (by omega) hb2 hn
  refine rg_ [4] ?_
  refine ret_ ?_
  refine fq_ Tryz.results195 ?_
  refine ⟨?_,rfl,rfl⟩
  rw [hx]
 refine skp_ ?_
 refine hK3 _ ?_
 refine rt_ [0,1,7,8] ?_
 refine srn_ ?_
 refine ln_ ⟨i+1,by omega,fun j hj=>by rcases Nat.lt_succ_iff_lt_or_eq.1 hj with h | h;exact hn j h;subst h;exact hb2⟩ ?_
 try dsimp only
 refine Trunc.same ?_ hH
 refine ftc_ ?_ (hc:=by first | exact hcs | exact ⟨trivial,hcs⟩ | simp [AV.cl,AV.clL,clL_eV, -List.map_map])
 refine ftc_ ?_ (hc:=by first | exact hcs | exact ⟨trivial,hcs⟩ | simp [AV.cl,AV.clL,clL_eV, -List.map_map])
 refine ftc_ ?_ (hc:=by first | exact hcs | exact ⟨trivial,hcs⟩ | simp [AV.cl,AV.clL,clL_eV, -List.map_map])
 refine ftc_ ?_ (hc:=by first | exact hcs | exact ⟨trivial,hcs⟩ | simp [AV.cl,AV.clL,clL_eV, -List.map_map])
 exact FTr.nil
end Go.Proofs.YtmgnbgniikjhdaaGreat
