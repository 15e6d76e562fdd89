import Derived.Test.YtjmlgeckgieaaaaGreatFc
import Derived.Test.YtjmlgeckgieaaaaGreatTy
import Derived.Lib.Bytealg
import Derived.Laws.Bits128
/-
  TABLES: leaves of Go's library: where something stands in a list; copies of lists.
-/
set_option linter.unusedVariables false
set_option linter.unusedSimpArgs false
namespace Go.Proofs.YtjmlgeckgieaaaaGreat
open Go.Ab
set_option maxRecDepth 8000
set_option maxHeartbeats 400000
def idxP {α:Type} (p:α→Bool):List α→Int
 | [] => -1
 | x::r=>bif p x then 0 else bif decide (idxP p r<0) then -1 else idxP p r+1
theorem idxP_range {α:Type} (p:α→Bool) (l:List α) : -1≤idxP p l∧idxP p l<l.length:=by
 induction l with
 | nil=>exact ⟨Int.le_refl _,by show (-1:Int)<0;omega⟩
 | cons x r ih=>
  unfold idxP
  cases p x with
  | true=>exact ⟨by simp,by simp only [cond_true,List.length_cons];omega⟩
  | false=>
   simp only [cond_false,List.length_cons]
   by_cases h:idxP p r<0
   · rw [decide_eq_true h];simp;omega
   · rw [decide_eq_false h];simp;omega
theorem idxP_at {α:Type} {p:α→Bool} (d:α):∀ {l:List α} {i:Nat},i<l.length→p (l.getD i d)=true→(∀j,j<i→p (l.getD j d)=false)→idxP p l=i
 | x::r,0, _,h, _=>by
  simp at h
  simp [idxP,h]
 | x::r,i+1,hi,h,hn=>by
  have h0:p x=false:=by simpa using hn 0 (by omega)
  have ih:=idxP_at d (l:=r) (i:=i) (by simpa using hi) (by simpa using h) (fun j hj=>by simpa using hn (j+1) (by omega))
  unfold idxP
  rw [h0,ih,decide_eq_false (by omega)]
  simp
theorem idxP_none {α:Type} {p:α→Bool} (d:α):∀ {l:List α},(∀j,j<l.length→p (l.getD j d)=false)→idxP p l = -1
 | [], _=>rfl
 | x::r,hn=>by
  have h0:p x=false:=by simpa using hn 0 (by simp)
  have ih:=idxP_none d (l:=r) (fun j hj=>by simpa using hn (j+1) (by simpa using hj))
  unfold idxP
  rw [h0,ih];rfl
theorem idxP_any {α:Type} (p:α→Bool) (l:List α):decide (0≤idxP p l)=l.any p:=by
 induction l with
 | nil=>rfl
 | cons x r ih=>
  unfold idxP
  rw [List.any_cons]
  cases hp:p x with
  | true=>simp
  | false=>
   simp only [cond_false,Bool.false_or]
   rw [←ih]
   by_cases h:idxP p r<0
   · rw [decide_eq_true h];simp;omega
   · rw [decide_eq_false h];simp;omega
def iV (n:Int):AV:=.int .i64 n
theorem getD_iV {l:List Int} {i:Nat} {d:AV} (h:i<l.length):(l.map iV).getD i d=.int .i64 (l.getD i 0):=by
 simp [List.getD_eq_getElem?_getD,h,iV]
theorem clL_iV (n:Nat) (l:List Int):AV.clL n (l.map iV):=by
 rw [AV.clL_mem];intro x hx;obtain ⟨y, _,rfl⟩:=List.mem_map.1 hx;trivial
theorem cells_iV (l:List Int):∀y∈l.map iV,y.cells.length=1:=by
 intro y hy;obtain ⟨a, _,rfl⟩:=List.mem_map.1 hy;rfl
theorem erL_iV (l:List Int):AV.erL (l.map iV)=l.map iV:=by
 rw [AV.erL_map,List.map_map];rfl
def oV (b:Bool):AV:=.bool b
theorem getD_oV {l:List Bool} {i:Nat} {d:AV} (h:i<l.length):(l.map oV).getD i d=.bool (l.getD i false):=by
 simp [List.getD_eq_getElem?_getD,h,oV]
theorem clL_oV (n:Nat) (l:List Bool):AV.clL n (l.map oV):=by
 rw [AV.clL_mem];intro x hx;obtain ⟨y, _,rfl⟩:=List.mem_map.1 hx;trivial
abbrev En:=List UInt8×Int
def eV (e:En):AV:=.agg [.str e.1,.int .i64 e.2]
theorem getD_eV {l:List En} {i:Nat} {d:AV} (h:i<l.length):(l.map eV).getD i d=.agg [.str (l.getD i ([],0)).1,.int .i64 (l.getD i ([],0)).2]:=by
 simp [List.getD_eq_getElem?_getD,h,eV]
theorem clL_eV (n:Nat) (l:List En):AV.clL n (l.map eV):=by
 rw [AV.clL_mem];intro x hx;obtain ⟨y, _,rfl⟩:=List.mem_map.1 hx;exact ⟨trivial,trivial,trivial⟩
theorem cells_eV (l:List En):∀y∈l.map eV,y.cells.length=2:=by
 intro y hy;obtain ⟨a, _,rfl⟩:=List.mem_map.1 hy;rfl
theorem erL_eV (l:List En):AV.erL (l.map eV)=l.map eV:=by
 rw [AV.erL_map,List.map_map];rfl
theorem allSz_eV (l:List En):allSz (l.map eV) 2↔True:=iff_true_intro (allSz_map _ _ _ fun _=>rfl)
theorem allSz_iV (l:List Int):allSz (l.map iV) 1↔True:=iff_true_intro (allSz_map _ _ _ fun _=>rfl)
attribute [push_cast] getD_iV getD_oV getD_eV allSz_eV allSz_iV
theorem idx_range (l:List UInt8) (c:UInt8) : -1≤Lib.indexByte l c∧Lib.indexByte l c<l.length:=by
 refine ⟨Lib.indexByte_ge l c,?_⟩
 induction l with
 | nil=>exact (by decide:(-1:Int)<0)
 | cons b l ih=>
  have:=Lib.indexByte_ge l c
  unfold Lib.indexByte
  simp only [List.length_cons]
  split
  · omega
  · split<;>omega
theorem c184 (l:List UInt8) (c:UInt8) (h:List Blk) (live:List Nat):ACalls Tryz.prog 184 [.str l,.int .u8 c.toNat] h live (ret (.int .i64 (Lib.indexByte l c)) h live):=by
 intro w G vs hvl hr hh
 match vs,hvl with
 | [a,b], _=>
  have h0:=hr 0 (by simp)
  have h1:=hr 1 (by simp)
  simp at h0 h1
  cases h0;cases h1
  have hrun:=run_callFunc_extern (P:=Tryz.prog) (f:=184) (e:=Extern.BytealgIndexByte.indexByte) Tryz.func184 rfl rfl (by kernel_rfl) (by kernel_rfl) [Value.string ⟨l.toArray⟩,.int .u8 c.toNat].toArray w
  rw [Lib.run_indexByteString] at hrun
  rw [hrun]
  refine ⟨_,h,live,G,⟨rfl,rfl,rfl⟩,?_,hh,Evo.refl _ _ _⟩
  have:((c.toNat:Int).toNat.toUInt8)=c:=by simp
  rw [this]
  exact .int _ _
attribute [push_cast] clL_iV erL_iV clL_oV clL_eV erL_eV
theorem c169 (l:List UInt8) (c:UInt8) (h:List Blk) (live:List Nat):AC Tryz.prog 169 [.str l,.int .u8 c.toNat] h live (.int .i64 (Lib.indexByte l c)):=by
 refine aq_ Tryz.func169 fun hH hX=>?_
 refine rg_ [0,1] ?_
 refine rs_ [4] ?_
 refine sg_ ?_
 refine cl_ (hc:=c184 _ _ _ _) (k:=?_)
 refine srt_ ?_
 refine fq_ Tryz.results169 ?_
 exact rk_ rfl
theorem c137 (l:List UInt8) (c:UInt8) (h:List Blk) (live:List Nat):AC Tryz.prog 137 [.str l,.int .u8 c.toNat] h live (.int .i64 (Lib.indexByte l c)):=by
 refine aq_ Tryz.func137 fun hH hX=>?_
 refine rg_ [0,1] ?_
 refine rs_ [4] ?_
 refine sg_ ?_
 refine cl_ (hc:=c169 _ _ _ _) (k:=?_)
 refine srt_ ?_
 refine fq_ Tryz.results137 ?_
 exact rk_ rfl
theorem c153 (l:List Int) (c:Cap) (v0:Int) (h:List Blk) (live:List Nat) (hl:l.length≤17592186044416):AC Tryz.prog 153 [.slice (l.map iV) c,.int .i64 v0] h live (.int .i64 (idxP (fun y=>decide (v0=y)) l)):=by
 refine aq_ Tryz.func153 fun hH hX=>?_
 refine rg_ [0,1] ?_
 refine sk_ fun K1 hK1=>?_
 refine rg_ [0,1,7,8] ?_
 refine awp_block ?_
 refine lp_ (X:={i:Nat // i≤l.length∧∀j,j<i→(fun y=>decide (v0=y)) (l.getD j 0)=false}) (fun x=>⟨Tryz.f153.ntmps,fget [(0,.slice (l.map iV) c),(1,.int .i64 v0),(7,.int .i64 l.length),(8,.int .i64 (x.1:Nat))],h,live⟩) (fun x=>l.length - x.1) (⟨0,by omega,fun j hj=>by omega⟩) ?_ (fun ⟨i,hi,hn⟩=>?_)
 ·
  try dsimp only
  exact ts_ hH
 try dsimp only
 refine rg_ [0,1,7,8,9] ?_
 refine sk_ fun K2 hK2=>?_
 refine cx_ (fun hb1=>?_) (fun hb1=>?_)
 rotate_left
 ·
  have hx:=idxP_none (p:=fun y=>decide (v0=y)) 0 (l:=l) fun j hj=>hn j (by omega)
  refine awp_exit (up_ ?_)
  refine hK1 _ ?_
  refine rg_ [4] ?_
  refine ret_ ?_
  refine fq_ Tryz.results153 ?_
  refine ⟨?_,rfl,rfl⟩
  rw [hx]
 refine skp_ ?_
 refine hK2 _ ?_
 refine sk_ fun K3 hK3=>?_
 refine awp_block ?_
 refine rg_ [0,1,5,7,8] ?_
 refine rg_ [0,1,5,7,8,16] ?_
 refine cy_ (fun hb2=>?_) (fun hb2=>?_)
 ·
  have hx:=idxP_at (p:=fun y=>decide (v0=y)) 0 (l:=l) (i:=i) (by omega) (by simpa using hb2) hn
  refine rg_ [4] ?_
  refine ret_ ?_
  refine fq_ Tryz.results153 ?_
  refine ⟨?_,rfl,rfl⟩
  rw [hx]
 refine skp_ ?_
 refine hK3 _ ?_
 refine rt_ [0,1,7,8] ?_
 refine srn_ ?_
 refine ln_ ⟨i+1,by omega,fun j hj=>by rcases Nat.lt_succ_iff_lt_or_eq.1 hj with h | h;exact hn j h;subst h;simpa using hb2⟩ ?_
 try dsimp only
 exact ts_ hH
theorem c186 (l:List Bool) (c:Cap) (v0:Bool) (h:List Blk) (live:List Nat) (hl:l.length≤17592186044416):AC Tryz.prog 186 [.slice (l.map oV) c,.bool v0] h live (.int .i64 (idxP (fun y=>v0==y) l)):=by
 refine aq_ Tryz.func186 fun hH hX=>?_
 refine rg_ [0,1] ?_
 refine sk_ fun K1 hK1=>?_
 refine rg_ [0,1,7,8] ?_
 refine awp_block ?_
 refine lp_ (X:={i:Nat // i≤l.length∧∀j,j<i→(fun y=>v0==y) (l.getD j false)=false}) (fun x=>⟨Tryz.f186.ntmps,fget [(0,.slice (l.map oV) c),(1,.bool v0),(7,.int .i64 l.length),(8,.int .i64 (x.1:Nat))],h,live⟩) (fun x=>l.length - x.1) (⟨0,by omega,fun j hj=>by omega⟩) ?_ (fun ⟨i,hi,hn⟩=>?_)
 ·
  try dsimp only
  exact ts_ hH
 try dsimp only
 refine rg_ [0,1,7,8,9] ?_
 refine sk_ fun K2 hK2=>?_
 refine cx_ (fun hb1=>?_) (fun hb1=>?_)
 rotate_left
 ·
  have hx:=idxP_none (p:=fun y=>v0==y) false (l:=l) fun j hj=>hn j (by omega)
  refine awp_exit (up_ ?_)
  refine hK1 _ ?_
  refine rg_ [4] ?_
  refine ret_ ?_
  refine fq_ Tryz.results186 ?_
  refine ⟨?_,rfl,rfl⟩
  rw [hx]
 refine skp_ ?_
 refine hK2 _ ?_
 refine sk_ fun K3 hK3=>?_
 refine awp_block ?_
 refine rg_ [0,1,5,7,8] ?_
 refine rg_ [0,1,5,7,8,16] ?_
 refine cy_ (fun hb2=>?_) (fun hb2=>?_)
 ·
  have hx:=idxP_at (p:=fun y=>v0==y) false (l:=l) (i:=i) (by omega) (by simpa using hb2) hn
  refine rg_ [4] ?_
  refine ret_ ?_
  refine fq_ Tryz.results186 ?_
  refine ⟨?_,rfl,rfl⟩
  rw [hx]
 refine skp_ ?_
 refine hK3 _ ?_
 refine rt_ [0,1,7,8] ?_
 refine srn_ ?_
 refine ln_ ⟨i+1,by omega,fun j hj=>by rcases Nat.lt_succ_iff_lt_or_eq.1 hj with h | h;exact hn j h;subst h;simpa using hb2⟩ ?_
 try dsimp only
 exact ts_ hH
theorem c115 (l:List Int) (c:Cap) (x:Int) (h:List Blk) (live:List Nat) (hl:l.length≤17592186044416):AC Tryz.prog 115 [.slice (l.map iV) c,.int .i64 x] h live (.bool (l.any fun y=>decide (x=y))):=by
 refine aq_ Tryz.func115 fun hH hX=>?_
 have sx:=(And.intro @idxP_any sx0)
 refine rg_ [0,1] ?_
 refine rs_ [4] ?_
 refine sg_ ?_
 refine cl_ (hc:=c153 _ _ _ _ _ (by omega)) (k:=?_)
 refine srt_ ?_
 refine fq_ Tryz.results115 ?_
 exact rk_ rfl
theorem c175 (l:List Bool) (c:Cap) (x:Bool) (h:List Blk) (live:List Nat) (hl:l.length≤17592186044416):AC Tryz.prog 175 [.slice (l.map oV) c,.bool x] h live (.bool (l.any fun y=>x==y)):=by
 refine aq_ Tryz.func175 fun hH hX=>?_
 have sx:=(And.intro @idxP_any sx0)
 refine rg_ [0,1] ?_
 refine rs_ [4] ?_
 refine sg_ ?_
 refine cl_ (hc:=c186 _ _ _ _ _ (by omega)) (k:=?_)
 refine srt_ ?_
 refine fq_ Tryz.results175 ?_
 exact rk_ rfl
theorem c150 (l:List Bool) (c:Cap) (h:List Blk) (live:List Nat) (hl:l.length≤17592186044416):AC Tryz.prog 150 [.slice (l.map oV) c] h live (.bool (l.any fun y=>true==y)):=by
 refine aq_ Tryz.func150 fun hH hX=>?_
 refine rg_ [0] ?_
 refine rs_ [2] ?_
 refine sg_ ?_
 refine cl_ (hc:=c175 _ _ _ _ _ (by omega)) (k:=?_)
 refine srt_ ?_
 refine fq_ Tryz.results150 ?_
 exact rk_ rfl
theorem c76 (l:List UInt8) (c:Cap) (h:List Blk) (live:List Nat) (hl:l.length≤1000000):AC Tryz.prog 76 [.slice (l.map bV) c] h live (.slice (l.map bV) .none):=by
 refine aq_ Tryz.func76 fun hH hX=>?_
 refine rg_ [0] ?_
 refine sk_ fun K1 hK1=>?_
 refine rs_ [0,4] ?_
 refine sg_ ?_
 refine dawp_w rfl rfl rfl rfl (AOp.eqNil _ _ _ rfl (by kernel_rfl) (by (simp (disch:=omega) only [push_cast,↓reduceIte,Nat.reduceEqDiff,Nat.reduceAdd,Nat.reduceLeDiff,sx])<;>rfl) ?_)
 intro nb4 hn4
 refine re_ ?_
 refine cy_ (fun hb1=>?_) (fun hb1=>?_)
 ·
  have hl0:=List.map_eq_nil_iff.1 (hn4 hb1)
  subst hl0
  refine rg_ [2] ?_
  refine ret_ ?_
  refine fq_ Tryz.results76 ?_ (hcl:=(by simp [AV.cl,AV.clL,clL_bV,clL_eV, -List.map_map]))
  exact rk_ rfl
 refine skp_ ?_
 refine hK1 _ ?_
 refine rs_ [2] ?_
 refine sg_ ?_
 refine ap_ (a:=.inl rfl) (b:=by simp) (c':=cells_bV _) (d:=by simp;omega) (e:=by simp;omega) (k:=?_)
 intro c7 live7 hk7
 refine srt_ ?_
 refine fq_ Tryz.results76 ?_ (hcl:=(by simp [AV.cl,AV.clL,clL_bV,clL_eV, -List.map_map])) (hl:=(fun u hu=>(hk7.2 u hu (fun e=>by cases e)).1))
 exact rk_ rfl
theorem c77 (l:List En) (c:Cap) (h:List Blk) (live:List Nat) (hl:l.length≤1000000):AC Tryz.prog 77 [.slice (l.map eV) c] h live (.slice (l.map eV) .none):=by
 refine aq_ Tryz.func77 fun hH hX=>?_
 refine rg_ [0] ?_
 refine sk_ fun K1 hK1=>?_
 refine rs_ [0,4] ?_
 refine sg_ ?_
 refine dawp_w rfl rfl rfl rfl (AOp.eqNil _ _ _ rfl (by kernel_rfl) (by (simp (disch:=omega) only [push_cast,↓reduceIte,Nat.reduceEqDiff,Nat.reduceAdd,Nat.reduceLeDiff,sx])<;>rfl) ?_)
 intro nb4 hn4
 refine re_ ?_
 refine cy_ (fun hb1=>?_) (fun hb1=>?_)
 ·
  have hl0:=List.map_eq_nil_iff.1 (hn4 hb1)
  subst hl0
  refine rg_ [2] ?_
  refine ret_ ?_
  refine fq_ Tryz.results77 ?_ (hcl:=(by simp [AV.cl,AV.clL,clL_bV,clL_eV, -List.map_map]))
  exact rk_ rfl
 refine skp_ ?_
 refine hK1 _ ?_
 refine rs_ [2] ?_
 refine sg_ ?_
 refine ap_ (a:=.inl rfl) (b:=by simp) (c':=cells_eV _) (d:=by simp;omega) (e:=by simp;omega) (k:=?_)
 intro c7 live7 hk7
 refine srt_ ?_
 refine fq_ Tryz.results77 ?_ (hcl:=(by simp [AV.cl,AV.clL,clL_bV,clL_eV, -List.map_map])) (hl:=(fun u hu=>(hk7.2 u hu (fun e=>by cases e)).1))
 exact rk_ rfl
end Go.Proofs.YtjmlgeckgieaaaaGreat
namespace Go.Proofs.YtjmlgeckgieaaaaGreat
open Go.Ab
set_option maxRecDepth 8000
set_option maxHeartbeats 400000
def clsI (mode k:Int):Int:=if k=0 then mode / 64%8 else if k=1 then mode / 8%8 else if k=2 then mode%8 else 0
theorem clsI_bd (m k:Int):0≤clsI m k∧clsI m k<8:=by
 unfold clsI
 split
 · omega
 ·
  split
  · omega
  · split<;>omega
theorem i64_and7 (n:Int):bits .and .i64 n 7=n%8:=by
 have h7:(BitVec.ofInt 64 7).toNat=2^3 - 1:=by decide
 have key:(BitVec.ofInt 64 n &&& BitVec.ofInt 64 7).toNat=(n%((2^64:Nat):Int)).toNat%2^3:=by
  rw [BitVec.toNat_and,BitVec.toNat_ofInt,h7,Nat.and_two_pow_sub_one_eq_mod]
 show IntKind.i64.wrap ((BitVec.ofInt 64 n &&& BitVec.ofInt 64 7).toNat:Nat)=n%8
 rw [key,IntKind.wrap_i64]
 omega
structure Cr where
 uid:Int
 gid:Int
 gs:List Int
def memF (c:Cr) (gid:Int):Bool:=decide (gid=c.gid)||c.gs.any fun y=>decide (gid=y)
def classF (c:Cr) (uid gid:Int):Int:=bif decide (uid=c.uid) then 0 else bif memF c gid then 1 else 2
theorem fdiv64 (n:Int):n.fdiv 64=n / 64:=Int.fdiv_eq_ediv_of_nonneg _ (by decide)
theorem fdiv8 (n:Int):n.fdiv 8=n / 8:=Int.fdiv_eq_ediv_of_nonneg _ (by decide)
theorem fdiv1 (n:Int):n.fdiv 1=n:=by
 rw [Int.fdiv_eq_ediv_of_nonneg _ (by decide)];omega
theorem rest_lt {n b:Int} (hb:0<b) (h:n.tmod b<0):n.tmod b+b=n%b:=by
 rw [Int.tmod_eq_emod] at h ⊢
 have h1:=Int.emod_nonneg n (show b≠0 by omega)
 have h2:=Int.emod_lt_of_pos n hb
 split at h
 · omega
 ·
  rename_i hc
  rw [if_neg hc]
  have:(b.natAbs:Int)=b:=by omega
  omega
theorem rest_ge {n b:Int} (hb:0<b) (h:0≤n.tmod b):n.tmod b=n%b:=by
 rw [Int.tmod_eq_emod] at h ⊢
 have h1:=Int.emod_nonneg n (show b≠0 by omega)
 have h2:=Int.emod_lt_of_pos n hb
 have:(b.natAbs:Int)=b:=by omega
 split at h
 · rename_i hc;rw [if_pos hc];omega
 · omega
theorem c185 (k:Int) (h:List Blk) (live:List Nat) (h0:0≤k) (h1:k≤2):AC Tryz.prog 185 [.int .i64 k] h live (.int .i64 (3*(2 - k))):=by
 refine aq_ Tryz.func185 fun hH hX=>?_
 refine rg_ [0] ?_
 refine rg_ [2] ?_
 refine ret_ ?_
 refine fq_ Tryz.results185 ?_
 exact rk_ rfl
theorem c173 (m k:Int) (h:List Blk) (live:List Nat):AC Tryz.prog 173 [.int .i64 m,.int .i64 k] h live (.int .i64 (clsI m k)):=by
 refine aq_ Tryz.func173 fun hH hX=>?_
 have sx:=(And.intro @i64_and7 sx0)
 refine rg_ [0,1] ?_
 refine sk_ fun K1 hK1=>?_
 refine rg_ [0,1,10] ?_
 refine cx_ (fun hb1=>?_) (fun hb1=>?_)
 ·
  refine rg_ [4] ?_
  refine ret_ ?_
  refine fq_ Tryz.results173 ?_
  refine ⟨?_,rfl,rfl⟩
  unfold clsI
  rw [if_neg (by omega),if_neg (by omega),if_neg (by omega)]
 refine skp_ ?_
 refine hK1 _ ?_
 refine rs_ [4] ?_
 refine sg_ ?_
 refine cl_ (hc:=c185 _ _ _ (by omega) (by omega)) (k:=?_)
 refine srt_ ?_
 refine fq_ Tryz.results173 ?_
 refine ⟨?_,rfl,rfl⟩
 have hk:k=0∨k=1∨k=2:=by omega
 rcases hk with rfl | rfl | rfl
 · show AV.int .i64 (m / 64%8)=AV.int .i64 (m.fdiv 64%8);rw [fdiv64]
 · show AV.int .i64 (m / 8%8)=AV.int .i64 (m.fdiv 8%8);rw [fdiv8]
 · show AV.int .i64 (m%8)=AV.int .i64 (m.fdiv 1%8);rw [fdiv1]
end Go.Proofs.YtjmlgeckgieaaaaGreat
namespace Go.Proofs.YtjmlgeckgieaaaaGreat
open Go.Ab
set_option maxRecDepth 8000
set_option maxHeartbeats 400000
theorem low_cls (m:Int):m%4096 / 64%8=m / 64%8∧m%4096 / 8%8=m / 8%8∧m%4096%8=m%8:=by omega
theorem tdivN {a:Int} (h:0≤a) (b:Int):a.tdiv b=a / b:=Int.tdiv_eq_ediv_of_nonneg h
theorem tmodN {a:Int} (h:0≤a) (b:Int):a.tmod b=a%b:=Int.tmod_eq_emod_of_nonneg h
theorem oV_two (a b:Bool):[AV.bool a,AV.bool b]=[a,b].map oV:=rfl
theorem oV_three (a b c:Bool):[AV.bool a,AV.bool b,AV.bool c]=[a,b,c].map oV:=rfl
theorem oV_four (a b c d:Bool):[AV.bool a,AV.bool b,AV.bool c,AV.bool d]=[a,b,c,d].map oV:=rfl
theorem any2 (a b:Bool):([a,b].any fun y=>true==y)=(a||b):=by cases a<;>cases b<;>rfl
theorem any3 (a b c:Bool):([a,b,c].any fun y=>true==y)=(a||b||c):=by cases a<;>cases b<;>cases c<;>rfl
theorem any4 (a b c d:Bool):([a,b,c,d].any fun y=>true==y)=(a||b||c||d):=by cases a<;>cases b<;>cases c<;>cases d<;>rfl
def hasB (b w:Int):Bool:=decide (bits .and .i64 b w=w)
def canF (c:Cr) (uid gid mode want:Int):Bool:=decide (c.uid=0)||hasB (clsI mode (classF c uid gid)) (want%8)
theorem hasB_fin:∀b w:Fin 8,hasB b.val w.val=((decide ((w.val:Int)<4)||decide (4≤(b.val:Int)))&&(decide ((w.val:Int) / 2%2=0)||decide ((b.val:Int) / 2%2=1))&&(decide ((w.val:Int)%2=0)||decide ((b.val:Int)%2=1))):=by decide +kernel
theorem hasB_eq {b w:Int} (hb:0≤b∧b<8) (hw:0≤w∧w<8):hasB b w=((decide (w<4)||decide (4≤b))&&(decide (w / 2%2=0)||decide (b / 2%2=1))&&(decide (w%2=0)||decide (b%2=1))):=by
 obtain ⟨b,rfl⟩:=Int.eq_ofNat_of_zero_le hb.1
 obtain ⟨w,rfl⟩:=Int.eq_ofNat_of_zero_le hw.1
 exact hasB_fin ⟨b,by omega⟩ ⟨w,by omega⟩
def memS (l:List Int) (g:Int) (i:Nat) (a:Bool):Bool:=a||(l.take i).any fun y=>decide (y=g)
theorem memS_0 (l:List Int) (g:Int) (a:Bool):memS l g 0 a=a:=by simp [memS]
theorem memS_succ (l:List Int) (g:Int) (i:Nat) (a:Bool) (hi:i<l.length):(memS l g i a||decide (l.getD i 0=g))=memS l g (i+1) a:=by
 unfold memS
 rw [List.take_succ_eq_append_getElem hi,List.any_append,Bool.or_assoc]
 simp [List.getD_eq_getElem?_getD,hi]
theorem memS_all (c:Cr) (g:Int):memS c.gs g c.gs.length (decide (c.gid=g))=memF c g:=by
 unfold memS memF
 rw [List.take_length]
 simp only [eq_comm]
theorem clsI_two (w:Int):clsI w 2=w%8:=rfl
theorem c151 (c:Cr) (k:Cap) (h:List Blk) (live:List Nat):AC Tryz.prog 151 [.agg [.int .i64 c.uid,.int .i64 c.gid,.slice (c.gs.map iV) k]] h live (.bool (decide (c.uid=0))):=by
 refine aq_ Tryz.func151 fun hH hX=>?_
 refine rg_ [1] ?_
 refine rg_ [2] ?_
 refine ret_ ?_
 refine fq_ Tryz.results151 ?_
 exact rk_ rfl
theorem c152 (c:Cr) (k:Cap) (g:Int) (h:List Blk) (live:List Nat) (hgs:c.gs.length≤17592186044416):AC Tryz.prog 152 [.agg [.int .i64 c.uid,.int .i64 c.gid,.slice (c.gs.map iV) k],.int .i64 g] h live (.bool (memF c g)):=by
 refine aq_ Tryz.func152 fun hH hX=>?_
 have sx:=(And.intro @any2 sx0)
 refine rg_ [1,2] ?_
 refine rsq_ [4] ⟨true,[],[],[],[],[],0⟩ (fun _=>⟨by kernel_rfl,by kernel_rfl⟩) ?_
 refine sg_ ?_
 refine cr_ (hc:=c115 _ _ _ _ _ hgs) (k:=?_)
 refine sg_ ?_
 refine cr_ (hc:=c150 [decide (g=c.gid),c.gs.any fun y=>decide (g=y)] _ _ _ (by simp)) (k:=?_)
 refine srt_ ?_
 refine fq_ Tryz.results152 ?_
 exact rk_ rfl
theorem c174 (c:Cr) (k:Cap) (u g:Int) (h:List Blk) (live:List Nat) (hgs:c.gs.length≤17592186044416):AC Tryz.prog 174 [.agg [.int .i64 c.uid,.int .i64 c.gid,.slice (c.gs.map iV) k],.int .i64 u,.int .i64 g] h live (.int .i64 (classF c u g)):=by
 refine aq_ Tryz.func174 fun hH hX=>?_
 refine rg_ [1,2,3] ?_
 refine sk_ fun K1 hK1=>?_
 refine awp_block ?_
 refine rg_ [2,3,7] ?_
 refine cx_ (fun hb1=>?_) (fun hb1=>?_)
 ·
  refine rg_ [6] ?_
  refine ret_ ?_
  refine fq_ Tryz.results174 ?_
  exact rk_ (by rw [classF,decide_eq_true hb1];rfl)
 refine rs_ [12] ?_
 refine sg_ ?_
 refine cl_ (hc:=c152 c _ _ _ _ hgs) (k:=?_)
 refine sre_ ?_
 refine cy_ (fun hb2=>?_) (fun hb2=>?_)
 ·
  refine rg_ [6] ?_
  refine ret_ ?_
  refine fq_ Tryz.results174 ?_
  exact rk_ (by rw [classF,decide_eq_false hb1,hb2];rfl)
 refine skp_ ?_
 refine hK1 _ ?_
 refine rg_ [6] ?_
 refine ret_ ?_
 refine fq_ Tryz.results174 ?_
 exact rk_ (by rw [classF,decide_eq_false hb1,hb2];rfl)
theorem c148 (c:Cr) (k:Cap) (u g m w:Int) (h:List Blk) (live:List Nat) (hgs:c.gs.length≤17592186044416):AC Tryz.prog 148 [.agg [.int .i64 c.uid,.int .i64 c.gid,.slice (c.gs.map iV) k],.int .i64 u,.int .i64 g,.int .i64 m,.int .i64 w] h live (.bool (canF c u g m w)):=by
 refine aq_ Tryz.func148 fun hH hX=>?_
 have sx:=(And.intro @i64_and7 (And.intro @any2 sx0))
 refine rg_ [1,2,3,4,5] ?_
 refine rg_ [1,2,3,4,5] ?_
 refine rsq_ [10] ⟨true,[],[],[],[],[],0⟩ (fun _=>⟨by kernel_rfl,by kernel_rfl⟩) ?_
 refine sg_ ?_
 refine cr_ (hc:=c151 c _ _ _) (k:=?_)
 refine sg_ ?_
 refine cr_ (hc:=c174 c _ _ _ _ _ hgs) (k:=?_)
 refine cr_ (hc:=c173 _ _ _ _) (k:=?_)
 refine sg_ ?_
 refine cr_ (hc:=c150 [decide (c.uid=0),decide (bits .and .i64 (clsI m (classF c u g)) (w%8)=w%8)] _ _ _ (by simp)) (k:=?_)
 refine srt_ ?_
 refine fq_ Tryz.results148 ?_
 exact rk_ rfl
end Go.Proofs.YtjmlgeckgieaaaaGreat
namespace Go.Proofs.YtjmlgeckgieaaaaGreat
open Go.Ab
set_option maxRecDepth 8000
set_option maxHeartbeats 400000
structure Nd where
 kind:Int
 mode:Int
 uid:Int
 gid:Int
 data:List UInt8
 ents:List En
 target:List UInt8
 deriving DecidableEq
def nd0:Nd:=⟨0,0,0,0,[],[],[]⟩
def ndC (n:Nd):List AV:=[.int .i64 n.kind,.int .i64 n.mode,.int .i64 n.uid,.int .i64 n.gid,.slice (n.data.map bV) .none,.slice (n.ents.map eV) .none,.str n.target]
def tabC:List Nd→List AV
 | []=>[]
 | n::r=>ndC n++tabC r
structure Tab where
 room:Int
 ns:List Nd
def tabBlk (T:Tab):Blk:=.cells (.int .i64 T.room::tabC T.ns)
def NdOk (n:Nd):Prop:=n.data.length≤1000∧n.ents.length≤1000∧n.target.length≤1000∧∀e∈n.ents,e.1.length≤9223372036854775807
structure Tab.Ok (T:Tab):Prop where
 lo:1≤T.room
 hi:T.room≤24
 len:T.ns.length=24
 nd:∀n∈T.ns,NdOk n
 zero:∀n∈T.ns,n.kind=0→n=nd0
theorem ndOk_0:NdOk nd0:=⟨by decide,by decide,by decide,fun e he=>by cases he⟩
theorem cast24:((24:Nat):Int)=24:=rfl
attribute [push_cast high] cast24
theorem ndC_len (n:Nd):(ndC n).length=7:=rfl
theorem tabC_len (ns:List Nd):(tabC ns).length=ns.length*7:=by
 induction ns with
 | nil=>rfl
 | cons n r ih=>simp only [tabC,List.length_append,ih,ndC_len,List.length_cons];omega
theorem tabC_get:∀(ns:List Nd) (j q:Nat),j<ns.length→q<7→(tabC ns)[j*7+q]? = (ndC (ns.getD j nd0))[q]?
 | n::r,0,q, _,hq=>by
  simp only [tabC,Nat.zero_mul,Nat.zero_add,List.getD_cons_zero]
  rw [List.getElem?_append_left (by rw [ndC_len];exact hq)]
 | n::r,j+1,q,hj,hq=>by
  simp only [tabC,List.getD_cons_succ]
  rw [List.getElem?_append_right (by rw [ndC_len];omega),ndC_len,show (j+1)*7+q - 7=j*7+q by omega]
  exact tabC_get r j q (by simpa using hj) hq
theorem tabC_drop:∀(ns:List Nd) (j:Nat),j<ns.length→((tabC ns).drop (j*7)).take 7=ndC (ns.getD j nd0)
 | n::r,0, _=>by
  simp only [tabC,Nat.zero_mul,List.drop_zero,List.getD_cons_zero]
  exact List.take_left' (ndC_len n)
 | n::r,j+1,hj=>by
  simp only [tabC,List.getD_cons_succ]
  rw [List.drop_append,List.drop_of_length_le (by rw [ndC_len];omega),ndC_len,List.nil_append,show (j+1)*7 - 7=j*7 by omega]
  exact tabC_drop r j (by simpa using hj)
theorem tab_room (T:Tab):blkGet (some (tabBlk T)) 0 .one=some (.int .i64 T.room):=rfl
theorem tab_nd (T:Tab) {j q:Nat} (hj:j<T.ns.length) (hq:q<7):blkGet (some (tabBlk T)) (1+j*7+q) .one=(ndC (T.ns.getD j nd0))[q]? := by
 show (AV.int .i64 T.room::tabC T.ns)[1+j*7+q]? = _
 rw [show 1+j*7+q=(j*7+q)+1 by omega,List.getElem?_cons_succ,tabC_get _ _ _ hj hq]
theorem tab_kind (T:Tab) {j:Nat} (hj:j<T.ns.length):blkGet (some (tabBlk T)) (1+j*7+0) .one=some (.int .i64 (T.ns.getD j nd0).kind):=tab_nd T (q:=0) hj (by omega)
theorem tab_ents (T:Tab) {j:Nat} (hj:j<T.ns.length):blkGet (some (tabBlk T)) (1+j*7+5) .one=some (.slice ((T.ns.getD j nd0).ents.map eV) .none):=tab_nd T (q:=5) hj (by omega)
theorem tab_agg (T:Tab) {j:Nat} (hj:j<T.ns.length):blkGet (some (tabBlk T)) (1+j*7) (.agg 7)=some (.agg (ndC (T.ns.getD j nd0))):=by
 show (if 1+j*7+7≤(AV.int .i64 T.room::tabC T.ns).length then some (AV.agg (((AV.int .i64 T.room::tabC T.ns).drop (1+j*7)).take 7)) else none)=_
 rw [if_pos (by rw [List.length_cons,tabC_len];omega),show 1+j*7=(j*7)+1 by omega,List.drop_succ_cons,tabC_drop _ _ hj]
def Tab.put (T:Tab) (j:Nat) (n:Nd):Tab:=⟨T.room,T.ns.set j n⟩
theorem putAt_cons {α:Type} (x:α):∀(v c:List α) (off:Nat),putAt (x::c) (off+1) v=x::putAt c off v
 | [], _, _=>rfl
 | y::v,c,off=>by
  show putAt ((x::c).set (off+1) y) (off+1+1) v=x::putAt (c.set off y) (off+1) v
  rw [List.set_cons_succ,putAt_cons x v]
theorem putAt_right {α:Type} (a:List α):∀(v c:List α) (off:Nat),putAt (a++c) (a.length+off) v=a++putAt c off v
 | [], _, _=>rfl
 | y::v,c,off=>by
  show putAt ((a++c).set (a.length+off) y) (a.length+off+1) v=a++putAt (c.set off y) (off+1) v
  rw [List.set_append_right _ _ (Nat.le_add_right _ _),Nat.add_sub_cancel_left,Nat.add_assoc,putAt_right a v]
theorem putAt_tabC:∀(ns:List Nd) (j:Nat) (n:Nd),j<ns.length→putAt (tabC ns) (j*7) (ndC n)=tabC (ns.set j n)
 | m::r,0,n, _=>rfl
 | m::r,j+1,n,hj=>by
  simp only [tabC,List.set_cons_succ]
  rw [show (j+1)*7=(ndC m).length+j*7 by rw [ndC_len];omega,putAt_right,putAt_tabC r j n (by simpa using hj)]
theorem tab_put (T:Tab) {j:Nat} (n:Nd) (hj:j<T.ns.length):blkPut (some (tabBlk T)) (1+j*7) (.agg 7) (.agg (ndC n))=some (tabBlk (T.put j n)):=by
 show (if fits (.agg 7) (.agg (ndC n))=true∧1+j*7+(ndC n).length≤(AV.int .i64 T.room::tabC T.ns).length then some (Blk.cells (putAt (AV.int .i64 T.room::tabC T.ns) (1+j*7) (ndC n))) else none)=_
 rw [if_pos ⟨rfl,by rw [ndC_len,List.length_cons,tabC_len];omega⟩,Nat.add_comm 1,putAt_cons,putAt_tabC _ _ _ hj]
 rfl
theorem clL_ndC (m:Nat) (n:Nd):AV.clL m (ndC n):=by simp [ndC,AV.clL,AV.cl,clL_bV,clL_eV, -List.map_map]
theorem clL_append' (m:Nat):∀(a b:List AV),AV.clL m a→AV.clL m b→AV.clL m (a++b)
 | [],b, _,h=>h
 | x::a,b,h1,h2=>⟨h1.1,clL_append' m a b h1.2 h2⟩
theorem clL_tabC (m:Nat):∀(ns:List Nd),AV.clL m (tabC ns)
 | []=>trivial
 | n::r=>clL_append' m _ _ (clL_ndC m n) (clL_tabC m r)
theorem cl_tab (m:Nat) (T:Tab):(tabBlk T).cl m:=⟨trivial,clL_tabC m T.ns⟩
theorem er_ndC (n:Nd):AV.erL (ndC n)=ndC n:=by simp [ndC,AV.erL,AV.er,erL_bV,erL_eV, -List.map_map]
theorem putAt7 (a b c d e f g:AV) (n:Nd):putAt [a,b,c,d,e,f,g] 0 (ndC n)=ndC n:=rfl
theorem putAt7' (m n:Nd):putAt (ndC m) 0 (ndC n)=ndC n:=rfl
theorem take7 (n:Nd):(ndC n).take 7=ndC n:=rfl
theorem ndC_0 (n:Nd):(ndC n)[0]? = some (.int .i64 n.kind):=rfl
theorem ndC_1 (n:Nd):(ndC n)[1]? = some (.int .i64 n.mode):=rfl
theorem ndC_2 (n:Nd):(ndC n)[2]? = some (.int .i64 n.uid):=rfl
theorem ndC_3 (n:Nd):(ndC n)[3]? = some (.int .i64 n.gid):=rfl
theorem ndC_4 (n:Nd):(ndC n)[4]? = some (.slice (n.data.map bV) .none):=rfl
theorem ndC_5 (n:Nd):(ndC n)[5]? = some (.slice (n.ents.map eV) .none):=rfl
theorem ndC_6 (n:Nd):(ndC n)[6]? = some (.str n.target):=rfl
attribute [push_cast] putAt7 putAt7' take7 ndC_0 ndC_1 ndC_2 ndC_3 ndC_4 ndC_5 ndC_6 ndC_len
def Tab.at (T:Tab) (i:Int):Option Nat:=if 1≤i∧i≤T.room∧(T.ns.getD (i - 1).toNat nd0).kind≠0 then some (i - 1).toNat else none
def Tab.get (T:Tab) (i:Int):Nd×Bool:=match T.at i with
 | some j=>(T.ns.getD j nd0,true)
 | none=>(nd0,false)
def nodeP (k:Nat):Option Nat→AV
 | some j=>.ptr k (1+j*7)
 | none=>.raw (.pointer none)
theorem nodeP_nil (P:Program) (t:TypeId) (k:Nat) (o:Option Nat) (b:Bool) (h:∀k j,abinOpT P .eql t b (.ptr k (1+j*7)) (.raw (.pointer none))=some (.bool false)) (h':abinOpT P .eql t b (.raw (.pointer none)) (.raw (.pointer none))=some (.bool true)):abinOpT P .eql t b (nodeP k o) (.raw (.pointer none))=some (.bool o.isNone):=by
 cases o with
 | none=>exact h'
 | some j=>exact h k j
theorem nodeP_none (k:Nat):nodeP k none=.raw (.pointer none):=rfl
theorem nodeP_some (k j:Nat):nodeP k (some j)=.ptr k (1+j*7):=rfl
attribute [push_cast] nodeP_none nodeP_some
theorem at_some {T:Tab} {i:Int} {j:Nat} (hT:T.Ok) (h:T.at i=some j):j<T.ns.length∧i=j+1∧i≤T.room∧(T.ns.getD j nd0).kind≠0:=by
 unfold Tab.at at h
 split at h
 ·
  rename_i hc
  cases h
  have:=hT.len;have:=hT.hi
  exact ⟨by omega,by omega,hc.2.1,hc.2.2⟩
 · cases h
theorem get_at {T:Tab} {i:Int} {j:Nat} (h:T.at i=some j):T.get i=(T.ns.getD j nd0,true):=by unfold Tab.get;rw [h]
theorem get_no {T:Tab} {i:Int} (h:T.at i=none):T.get i=(nd0,false):=by unfold Tab.get;rw [h]
theorem atApp {h g:List Blk} {k:Nat} {b:Blk} (hk:h[k]? = some b):(h++g)[k]? = some b:=by
 rw [List.getElem?_append_left (List.getElem?_eq_some_iff.1 hk).1];exact hk
theorem getD_nd {T:Tab} (hT:T.Ok) (j:Nat):NdOk (T.ns.getD j nd0):=by
 by_cases h:j<T.ns.length
 · rw [List.getD_eq_getElem?_getD,List.getElem?_eq_getElem h];exact hT.nd _ (List.getElem_mem h)
 · rw [List.getD_eq_getElem?_getD,List.getElem?_eq_none (by omega)];exact ndOk_0
theorem get_ok {T:Tab} (hT:T.Ok) (i:Int):NdOk (T.get i).1:=by
 unfold Tab.get
 split
 · exact getD_nd hT _
 · exact ndOk_0
attribute [push_cast] clL_ndC clL_tabC er_ndC
theorem n58 (i:Int) (h:List Blk) (live:List Nat):AC Tryz.prog 58 [.raw (.pointer none),.int .i64 i] h live (.raw (.pointer none)):=by
 refine aq_ Tryz.func58 fun hH hX=>?_
 refine rg_ [0,1] ?_
 refine sk_ fun K1 hK1=>?_
 refine rs_ [0,1,29] ?_
 refine dp_ ?_
 refine dp_ ?_
 refine dp_ ?_
 refine dg_ ?_
 refine dg_ ?_
 refine dp_ ?_
 refine dp_ ?_
 refine dg_ ?_
 refine dg_ ?_
 iterate 2 (refine dawp_g (x:=.undef) rfl rfl (by simp only [push_cast,and_true,cond_true,cond_false,if_pos,if_neg,↓reduceIte];rfl) (fun hg=>by simp at hg) rfl rfl ?_)
 refine dawp_gh (x:=.undef) rfl rfl (by simp only [push_cast,and_true,cond_true,cond_false,if_pos,if_neg,↓reduceIte];rfl) (fun hg=>by simp at hg) rfl rfl ?_
 refine dawp_g (x:=.undef) rfl rfl (by simp only [push_cast,and_true,cond_true,cond_false,if_pos,if_neg,↓reduceIte];rfl) (fun hg=>by simp at hg) rfl rfl ?_
 refine dp_ ?_
 refine dp_ ?_
 refine dg_ ?_
 refine dg_ ?_
 refine dg_ ?_
 iterate 4 (refine dawp_g (x:=.undef) rfl rfl (by simp only [push_cast,and_true,cond_true,cond_false,if_pos,if_neg,↓reduceIte];rfl) (fun hg=>by simp at hg) rfl rfl ?_)
 refine dawp_gh (x:=.undef) rfl rfl (by simp only [push_cast,and_true,cond_true,cond_false,if_pos,if_neg,↓reduceIte];rfl) (fun hg=>by simp at hg) rfl rfl ?_
 refine dawp_g (x:=.undef) rfl rfl (by simp only [push_cast,and_true,cond_true,cond_false,if_pos,if_neg,↓reduceIte];rfl) (fun hg=>by simp at hg) rfl rfl ?_
 refine sre_ ?_
 refine cdy_ (ht:=fun hb1=>?_) (hf:=fun hb1=>?_)
 ·
  refine rg_ [4] ?_
  refine ret_ ?_
  refine fq_ Tryz.results58 ?_
  exact rk_ rfl
 exfalso;exact Bool.noConfusion hb1
theorem c58 (T:Tab) (k:Nat) (i:Int) (h:List Blk) (live:List Nat) (hk:h[k]? = some (tabBlk T)) (hT:T.Ok):AC Tryz.prog 58 [.ptr k 0,.int .i64 i] h live (nodeP k (T.at i)):=by
 refine aq_ Tryz.func58 fun hH hX=>?_
 have hkl:k<h.length:=(List.getElem?_eq_some_iff.1 hk).1
 obtain ⟨hlo,hhi,hlen, -, -⟩:=hT
 have sx:=(And.intro @hk (And.intro @tab_room (And.intro @tab_kind (And.intro @Bool.false_or sx0))))
 refine rg_ [0,1] ?_
 refine sk_ fun K1 hK1=>?_
 refine rg_ [0,1,29] ?_
 refine cx_ (fun hb1=>?_) (fun hb1=>?_)
 ·
  have ha:T.at i=none:=by
   unfold Tab.at;rw [if_neg];rintro ⟨h1,h2,h3⟩;rcases hb1 with (h | h) | h
   · omega
   · omega
   · exact h3 h
  refine rg_ [4] ?_
  refine ret_ ?_
  refine fq_ Tryz.results58 ?_ (hcl:=(by simp [AV.cl,AV.clL,hkl]))
  refine ⟨?_,rfl,rfl⟩
  rw [ha];rfl
 have ha:T.at i=some (i - 1).toNat:=by
  unfold Tab.at;rw [if_pos ⟨hb1.1.1,hb1.1.2,hb1.2⟩]
 refine skp_ ?_
 refine hK1 _ ?_
 refine rg_ [4] ?_
 refine ret_ ?_
 refine fq_ Tryz.results58 ?_ (hcl:=(by simp [AV.cl,AV.clL,hkl]))
 refine ⟨?_,rfl,rfl⟩
 rw [ha];rfl
theorem n42 (h:List Blk) (live:List Nat):AC Tryz.prog 42 [.raw (.pointer none)] h live (.int .i64 0):=by
 refine aq_ Tryz.func42 fun hH hX=>?_
 refine rg_ [0] ?_
 refine sk_ fun K1 hK1=>?_
 refine rg_ [0,4] ?_
 refine cdy_ (ht:=fun hb1=>?_) (hf:=fun hb1=>?_)
 ·
  refine rg_ [2] ?_
  refine ret_ ?_
  refine fq_ Tryz.results42 ?_
  exact rk_ rfl
 exfalso;exact Bool.noConfusion hb1
theorem c42 (T:Tab) (k:Nat) (h:List Blk) (live:List Nat) (hk:h[k]? = some (tabBlk T)):AC Tryz.prog 42 [.ptr k 0] h live (.int .i64 T.room):=by
 refine aq_ Tryz.func42 fun hH hX=>?_
 have sx:=(And.intro @hk (And.intro @tab_room sx0))
 refine rg_ [0] ?_
 refine sk_ fun K1 hK1=>?_
 refine rg_ [0,4] ?_
 refine cdn_ (ht:=fun hb1=>?_) (hf:=fun hb1=>?_)
 · exfalso;exact Bool.noConfusion hb1
 refine skp_ ?_
 refine hK1 _ ?_
 refine rg_ [2] ?_
 refine ret_ ?_
 refine fq_ Tryz.results42 ?_
 exact rk_ rfl
theorem c31 (n:Nd) (h:List Blk) (live:List Nat) (hn:NdOk n):AC Tryz.prog 31 [.agg (ndC n)] h live (.agg (ndC n)):=by
 refine aq_ Tryz.func31 fun hH hX=>?_
 obtain ⟨hn1,hn2,hn3⟩:=hn
 unfold ndC
 refine rg_ [1,2] ?_
 refine rs_ [1,2] ?_
 refine sg_ ?_
 refine cl_ (hc:=c76 _ _ _ _ (by omega)) (k:=?_)
 refine sre_ ?_
 refine rs_ [1,2] ?_
 refine sg_ ?_
 refine cl_ (hc:=c77 _ _ _ _ (by omega)) (k:=?_)
 refine sre_ ?_
 refine rg_ [2] ?_
 refine ret_ ?_
 refine fq_ Tryz.results31 ?_ (hcl:=(by simp [AV.cl,AV.clL,clL_bV,clL_eV, -List.map_map]))
 exact rk_ rfl
theorem n21 (T:Tab) (k:Nat) (i:Int) (h:List Blk) (live:List Nat)  : AC Tryz.prog 21 [.raw (.pointer none),.int .i64 i] h live (.tup [.agg (ndC nd0),.bool false]):=by
 refine aq_ Tryz.func21 fun hH hX=>?_
 refine rg_ [0,1,4] ?_
 refine rs_ [4,6] ?_
 refine sg_ ?_
 refine cl_ (hc:=n58 i _ _) (k:=?_)
 refine sre_ ?_
 refine sk_ fun K1 hK1=>?_
 refine rg_ [4,6,11] ?_
 refine cdy_ (ht:=fun hb1=>?_) (hf:=fun hb1=>?_)
 ·
  refine rg_ [4,5] ?_
  refine ret_ ?_
  refine fq_ Tryz.results21 ?_ (hcl:=(by simp [AV.cl,AV.clL,clL_ndC,nd0, -List.map_map]))
  exact rk_ rfl
 exfalso;exact Bool.noConfusion hb1
theorem gn21 (T:Tab) (k:Nat) (i:Int) (h:List Blk) (live:List Nat) (hk:h[k]? = some (tabBlk T)) (hT:T.Ok) (ha:T.at i=none):AC Tryz.prog 21 [.ptr k 0,.int .i64 i] h live (.tup [.agg (ndC nd0),.bool false]):=by
 refine aq_ Tryz.func21 fun hH hX=>?_
 have sx:=(And.intro @ha sx0)
 refine rg_ [0,1,4] ?_
 refine rs_ [4,6] ?_
 refine sg_ ?_
 refine cl_ (hc:=c58 T k i _ _ (atApp hk) hT) (k:=?_)
 refine sre_ ?_
 refine sk_ fun K1 hK1=>?_
 refine rg_ [4,6,11] ?_
 refine cdy_ (ht:=fun hb1=>?_) (hf:=fun hb1=>?_)
 ·
  refine rg_ [4,5] ?_
  refine ret_ ?_
  refine fq_ Tryz.results21 ?_ (hcl:=(by simp [AV.cl,AV.clL,clL_ndC,nd0, -List.map_map]))
  exact rk_ rfl
 exfalso;exact Bool.noConfusion hb1
theorem gs21 (T:Tab) (k:Nat) (i:Int) (h:List Blk) (live:List Nat) (hk:h[k]? = some (tabBlk T)) (hT:T.Ok) (j:Nat) (ha:T.at i=some j):AC Tryz.prog 21 [.ptr k 0,.int .i64 i] h live (.tup [.agg (ndC (T.ns.getD j nd0)),.bool true]):=by
 refine aq_ Tryz.func21 fun hH hX=>?_
 have hkl:k<h.length:=(List.getElem?_eq_some_iff.1 hk).1
 have hal:=fun g:List Blk=>List.getElem?_append_left (l₂:=g) hkl
 obtain ⟨hj,hij,hir,hkd⟩:=at_some hT ha
 have sx:=(And.intro @ha (And.intro @hal (And.intro @hk (And.intro @tab_agg sx0))))
 refine rg_ [0,1,4] ?_
 refine rs_ [4,6] ?_
 refine sg_ ?_
 refine cl_ (hc:=c58 T k i _ _ (atApp hk) hT) (k:=?_)
 refine sre_ ?_
 refine sk_ fun K1 hK1=>?_
 refine rg_ [4,6,11] ?_
 refine cdn_ (ht:=fun hb1=>?_) (hf:=fun hb1=>?_)
 · exfalso;exact Bool.noConfusion hb1
 refine skp_ ?_
 refine hK1 _ ?_
 refine rs_ [4,5] ?_
 refine sg_ ?_
 refine cl_ (hc:=c31 _ _ _ (getD_nd hT _)) (k:=?_)
 refine srt_ ?_
 refine fq_ Tryz.results21 ?_ (hcl:=(by simp [AV.cl,AV.clL,clL_ndC,nd0, -List.map_map]))
 exact rk_ rfl
set_option maxRecDepth 8000 in
theorem c21 (T:Tab) (k:Nat) (i:Int) (h:List Blk) (live:List Nat) (hk:h[k]? = some (tabBlk T)) (hT:T.Ok):ACalls Tryz.prog 21 [.ptr k 0,.int .i64 i] h live (ret (.tup [.agg (ndC (T.get i).1),.bool (T.get i).2]) h live):=by
 rcases ha:T.at i with _ | j
 · simp only [get_no ha];exact gn21 T k i h live hk hT ha
 · simp only [get_at ha];exact gs21 T k i h live hk hT j ha
end Go.Proofs.YtjmlgeckgieaaaaGreat
namespace Go.Proofs.YtjmlgeckgieaaaaGreat
open Go.Ab
set_option maxRecDepth 8000
set_option maxHeartbeats 400000
theorem np_neq (k:Nat) (o:Option Nat) (b:Bool):abinOpT Tryz.prog .neq 129 b (nodeP k o) (.raw (.pointer none))=some (.bool o.isSome):=by
 cases o<;>simp only [nodeP,abinOpT,aeqOp,Ty.eqTop_129,aeqT,aeqP]<;>rfl
theorem np_eql (k:Nat) (o:Option Nat) (b:Bool):abinOpT Tryz.prog .eql 129 b (nodeP k o) (.raw (.pointer none))=some (.bool o.isNone):=by
 cases o<;>simp only [nodeP,abinOpT,aeqOp,Ty.eqTop_129,aeqT,aeqP]<;>rfl
theorem cl_nodeP {k n:Nat} (h:k<n) (o:Option Nat):(nodeP k o).cl n:=by
 cases o
 · trivial
 · exact h
def entsF (g:Int→Int→Int) (i d:Int) (v:Int) (l:List En):Int:=l.foldl (fun v e=>if e.2=i then g v d else v) v
theorem entsF_nil (g:Int→Int→Int) (i d v:Int):entsF g i d v []=v:=rfl
theorem entsF_snoc (g:Int→Int→Int) (i d v:Int) (l:List En) (e:En):entsF g i d v (l++[e])=if e.2=i then g (entsF g i d v l) d else entsF g i d v l:=by
 unfold entsF;rw [List.foldl_append];rfl
theorem entsF_take (g:Int→Int→Int) (i d v:Int) (l:List En) (j:Nat) (hj:j<l.length):entsF g i d v (l.take (j+1))=if (l.getD j ([],0)).2=i then g (entsF g i d v (l.take j)) d else entsF g i d v (l.take j):=by
 rw [List.take_succ_eq_append_getElem hj,entsF_snoc]
 simp [List.getD_eq_getElem?_getD,hj]
def Tab.scan (T:Tab) (g:Int→Int→Int) (i:Int) (v:Int):Nat→Int
 | 0=>v
 | m+1=>match T.at ((m:Int)+1) with
  | some j=>entsF g i ((m:Int)+1) (T.scan g i v m) (T.ns.getD j nd0).ents
  | none=>T.scan g i v m
def Tab.parent (T:Tab) (i:Int):Int:=T.scan (fun v d=>if v=0 then d else v) i 0 T.room.toNat
def Tab.links (T:Tab) (i:Int):Int:=T.scan (fun v _=>IntKind.i64.wrap (v+1)) i 0 T.room.toNat
theorem none_of {α:Type} {o:Option α} (h:o.isSome=false):o=none:=by
 cases o
 · rfl
 · cases h
theorem ACalls.heap {P:Program} {f:FuncId} {xs:List AV} {h h':List Blk} {live:List Nat} {K:KT} (e:h=h') (hc:ACalls P f xs h' live K):ACalls P f xs h live K:=e▸hc
theorem getSetApp {h l:List Blk} {k b:Nat} {x y:Blk} (hk:h[k]? = some x) (hkb:k≠b):(h.set b y++l)[k]? = some x:=by
 rw [List.getElem?_append_left (by rw [List.length_set];exact (List.getElem?_eq_some_iff.1 hk).1),List.getElem?_set_ne (Ne.symm hkb)];exact hk
theorem lt_of_get {h:List Blk} {k:Nat} {x:Blk} (hk:h[k]? = some x):k<h.length:=(List.getElem?_eq_some_iff.1 hk).1
theorem ne_app {h:List Blk} {k:Nat} {x:Blk} (hk:h[k]? = some x):k≠h.length:=Nat.ne_of_lt (lt_of_get hk)
theorem getSet {h:List Blk} {k b:Nat} {x y:Blk} (hk:h[k]? = some x) (hkb:k≠b):(h.set b y)[k]? = some x:=by
 rw [List.getElem?_set_ne (Ne.symm hkb)];exact hk
theorem c56 (T:Tab) (k:Nat) (f:FuncId) (cs:List AV) (hs:Nat→List Blk) (live:List Nat) (hT:T.Ok) (hk:∀i,i≤T.room.toNat→(hs i)[k]? = some (tabBlk T)) (hcl:∀i,i≤T.room.toNat→HCl (hs i)) (hlen:∀i,i≤T.room.toNat→(hs i).length=(hs 0).length)
 (hyes:∀i,i<T.room.toNat→(T.at ((i:Int)+1)).isSome=true→ACalls Tryz.prog f (.int .i64 ((i:Int)+1)::nodeP k (T.at ((i:Int)+1))::cs) (hs i) live (ret (.tup []) (hs (i+1)) live))
 (hno:∀i,i<T.room.toNat→(T.at ((i:Int)+1)).isSome=false→hs (i+1)=hs i) (hfc:(AV.fn (.func f) [] cs).cl (hs 0).length) :
 ACalls Tryz.prog 56 [.ptr k 0,.fn (.func f) [] cs] (hs 0) live (ret (.tup []) (hs T.room.toNat) live):=by
 refine aq_ Tryz.func56 fun hH hX=>?_
 have hkl:k<(hs 0).length:=(List.getElem?_eq_some_iff.1 (hk 0 (by omega))).1
 obtain ⟨hlo,hhi,hlen', -, -⟩:=id hT
 have hfc':=hfc
 have hroom:((T.room.toNat:Nat):Int)=T.room:=by omega
 refine rs_ [0,1,7,8] ?_
 refine sg_ ?_
 refine cl_ (hc:=c42 T k _ _ (hk 0 (by omega))) (k:=?_)
 refine sre_ ?_
 refine awp_block ?_
 refine lp_ (X:={i:Nat // i≤T.room.toNat}) (fun x=>⟨Tryz.f56.ntmps,fget [(0,.ptr k 0),(1,.fn (.func f) [] cs),(7,.int .i64 T.room),(8,.int .i64 (x.1:Nat))],hs x.1,live⟩) (fun x=>T.room.toNat - x.1) (⟨0,by omega⟩) ?_ (fun ⟨i,hi⟩=>?_)
 ·
  try dsimp only
  refine Trunc.of (by first | exact (List.append_nil _).symm | (rw [hno i (by omega) (by assumption),List.append_nil])) ?_ (hcl _ (by first | omega | exact hi | (have:=x.2;omega))) (fun _ h=>h)
  refine ftc_ ?_ (hc:=by first | trivial | exact hkl | exact hfc | (rw [hlen _ (by omega)];exact hfc) | (rw [hlen _ (by omega)];exact hkl))
  refine ftc_ ?_ (hc:=by first | trivial | exact hkl | exact hfc | (rw [hlen _ (by omega)];exact hfc) | (rw [hlen _ (by omega)];exact hkl))
  refine ftc_ ?_ (hc:=by first | trivial | exact hkl | exact hfc | (rw [hlen _ (by omega)];exact hfc) | (rw [hlen _ (by omega)];exact hkl))
  refine ftc_ ?_ (hc:=by first | trivial | exact hkl | exact hfc | (rw [hlen _ (by omega)];exact hfc) | (rw [hlen _ (by omega)];exact hkl))
  exact FTr.nil
 try dsimp only
 refine rg_ [0,1,7,8,9] ?_
 refine sk_ fun K1 hK1=>?_
 refine cx_ (fun hb1=>?_) (fun hb1=>?_)
 rotate_left
 ·
  have hie:i=T.room.toNat:=by omega
  subst hie
  refine awp_exit (up_ ?_)
  refine gq_ (h1:=hs T.room.toNat) Tryz.results56 ?_ (hH:=(hcl _ (Nat.le_refl _))) (hle:=(by rw [hlen _ (Nat.le_refl _)];exact Nat.le_refl _))
  exact rk_ rfl
 have hil:i<T.room.toNat:=by omega
 refine skp_ ?_
 refine hK1 _ ?_
 refine sk_ fun K2 hK2=>?_
 refine awp_block ?_
 refine rg_ [0,1,4,7,8] ?_
 refine rs_ [0,1,4,5,7,8] ?_
 refine sg_ ?_
 refine cl_ (hc:=c58 T k _ _ _ (hk i hi) hT) (k:=?_)
 refine sre_ ?_
 refine rs_ [0,1,4,5,7,8,16] ?_
 refine dp_ ?_
 refine dawp_p rfl (np_neq k (T.at ((i:Int)+1)) _) rfl rfl ?_
 refine re_ ?_
 refine cy_ (fun hb2=>?_) (fun hb2=>?_)
 ·
  refine rt_ [0,1,7,8] ?_
  refine sg_ ?_
  refine cl_ (hc:=hyes i hil hb2) (k:=?_)
  refine rn_ (up_ ?_)
  refine hK2 _ ?_
  refine rt_ [0,1,7,8] ?_
  refine srn_ ?_
  refine ⟨⟨i+1,by omega⟩,?_,(by dsimp only;rw [hlen (i+1) hil,hlen i hi]),by dsimp only;omega⟩
  try dsimp only
  refine Trunc.of (by first | exact (List.append_nil _).symm | (rw [hno i (by omega) (by assumption),List.append_nil])) ?_ (hcl _ (by first | omega | exact hi | (have:=x.2;omega))) (fun _ h=>h)
  refine ftc_ ?_ (hc:=by first | trivial | exact hkl | exact hfc | (rw [hlen _ (by omega)];exact hfc) | (rw [hlen _ (by omega)];exact hkl))
  refine ftc_ ?_ (hc:=by first | trivial | exact hkl | exact hfc | (rw [hlen _ (by omega)];exact hfc) | (rw [hlen _ (by omega)];exact hkl))
  refine ftc_ ?_ (hc:=by first | trivial | exact hkl | exact hfc | (rw [hlen _ (by omega)];exact hfc) | (rw [hlen _ (by omega)];exact hkl))
  refine ftc_ ?_ (hc:=by first | trivial | exact hkl | exact hfc | (rw [hlen _ (by omega)];exact hfc) | (rw [hlen _ (by omega)];exact hkl))
  exact FTr.nil
 refine skp_ ?_
 refine hK2 _ ?_
 refine rt_ [0,1,7,8] ?_
 refine srn_ ?_
 refine ⟨⟨i+1,by omega⟩,?_,(by dsimp only;rw [hlen (i+1) hil,hlen i hi]),by dsimp only;omega⟩
 try dsimp only
 refine Trunc.of (by first | exact (List.append_nil _).symm | (rw [hno i (by omega) (by assumption),List.append_nil])) ?_ (hcl _ (by first | omega | exact hi | (have:=x.2;omega))) (fun _ h=>h)
 refine ftc_ ?_ (hc:=by first | trivial | exact hkl | exact hfc | (rw [hlen _ (by omega)];exact hfc) | (rw [hlen _ (by omega)];exact hkl))
 refine ftc_ ?_ (hc:=by first | trivial | exact hkl | exact hfc | (rw [hlen _ (by omega)];exact hfc) | (rw [hlen _ (by omega)];exact hkl))
 refine ftc_ ?_ (hc:=by first | trivial | exact hkl | exact hfc | (rw [hlen _ (by omega)];exact hfc) | (rw [hlen _ (by omega)];exact hkl))
 refine ftc_ ?_ (hc:=by first | trivial | exact hkl | exact hfc | (rw [hlen _ (by omega)];exact hfc) | (rw [hlen _ (by omega)];exact hkl))
 exact FTr.nil
theorem c155 (T:Tab) (k:Nat) (j:Nat) (i d v:Int) (p q b:Nat) (tf:FuncId) (cs:List AV) (h:List Blk) (live:List Nat) (g:Int→Int→Int) (ht:∀(h:List Blk) (d v:Int),h[b]? = some (.cells [.int .i64 v])→ACalls Tryz.prog tf (.int .i64 d::cs) h live (ret (.tup []) (h.set b (.cells [.int .i64 (g v d)])) live)) (hk:h[k]? = some (tabBlk T)) (hT:T.Ok) (hj:j<T.ns.length) (hp:h[p]? = some (.cells [.int .i64 i])) (hq:h[q]? = some (.cells [.fn (.func tf) [] cs])) (hb:h[b]? = some (.cells [.int .i64 v])) (hkb:k≠b) (hpb:p≠b) (hqb:q≠b) :
 ACalls Tryz.prog 155 [.int .i64 d,.ptr k (1+j*7),.ptr p 0,.ptr q 0] h live (ret (.tup []) (h.set b (.cells [.int .i64 (entsF g i d v (T.ns.getD j nd0).ents)])) live):=by
 refine aq_ Tryz.func155 fun hH hX=>?_
 have hkl:=lt_of_get hk
 have hpl:=lt_of_get hp
 have hql:=lt_of_get hq
 have hbl:=lt_of_get hb
 have hn:=(getD_nd hT j).2.1
 have hB:∀x,HCl (h.set b (.cells [.int .i64 x])):=fun x=>HCl.set hH b ⟨trivial,trivial⟩
 have rp:∀y,(h.set b y)[p]? = _:=fun y=>getSet hp hpb
 have rp':∀y l,(h.set b y++l)[p]? = _:=fun y l=>getSetApp hp hpb
 have rq':∀y l,(h.set b y++l)[q]? = _:=fun y l=>getSetApp hq hqb
 have sx:=(And.intro @hk (And.intro @tab_ents (And.intro @rp (And.intro @rp' (And.intro @rq' sx0)))))
 refine rg_ [0,2,3,11,12,13] ?_
 refine awp_block ?_
 refine lp_ (X:={m:Nat // m≤(T.ns.getD j nd0).ents.length}) (fun x=>⟨Tryz.f155.ntmps,fget [(0,.int .i64 d),(2,.ptr p 0),(3,.ptr q 0),(11,.slice ((T.ns.getD j nd0).ents.map eV) .none),(12,.int .i64 (T.ns.getD j nd0).ents.length),(13,.int .i64 (x.1:Nat))],h.set b (.cells [.int .i64 (entsF g i d v ((T.ns.getD j nd0).ents.take x.1))]),live⟩) (fun x=>(T.ns.getD j nd0).ents.length - x.1) (⟨0,by omega⟩) ?_ (fun ⟨m,hm⟩=>?_)
 ·
  try dsimp only
  exact tf_ (hB _) (fun _ h=>h) (hj:=(by first | (rw [entsF_take _ _ _ _ _ _ hml,if_pos hb2];done) | (rw [entsF_take _ _ _ _ _ _ hml,if_neg hb2];done) | (show h=h.set b (.cells [.int .i64 v])++_;rw [set_self hb];exact (List.append_nil _).symm)))
 try dsimp only
 refine rg_ [0,2,3,11,12,13,14] ?_
 refine sk_ fun K1 hK1=>?_
 refine cx_ (fun hb1=>?_) (fun hb1=>?_)
 rotate_left
 ·
  have hme:m=(T.ns.getD j nd0).ents.length:=by omega
  subst hme
  refine awp_exit (up_ ?_)
  refine gq_ (h1:=h.set b _) Tryz.results155 ?_ (hH:=(hB _))
  exact ⟨rfl,by rw [List.take_length],rfl⟩
 have hml:m<(T.ns.getD j nd0).ents.length:=by omega
 refine skp_ ?_
 refine hK1 _ ?_
 refine sk_ fun K2 hK2=>?_
 refine awp_block ?_
 refine rg_ [0,2,3,7,11,12,13] ?_
 refine rg_ [0,2,3,11,12,13,20] ?_
 refine cx_ (fun hb2=>?_) (fun hb2=>?_)
 ·
  refine rt_ [0,2,3,11,12,13] ?_
  refine sg_ ?_
  refine cl_ (hc:=ht _ d _ (get_setapp hbl)) (k:=?_)
  refine rn_ (up_ ?_)
  refine hK2 _ ?_
  refine rt_ [0,2,3,11,12,13] ?_
  refine srn_ ?_
  refine ⟨⟨m+1,by omega⟩,?_,(by simp only [List.length_set]),by dsimp only;omega⟩
  try dsimp only
  exact tf_ (hB _) (fun _ h=>h) (hj:=(by first | (rw [entsF_take _ _ _ _ _ _ hml,if_pos hb2];done) | (rw [entsF_take _ _ _ _ _ _ hml,if_neg hb2];done) | (show h=h.set b (.cells [.int .i64 v])++_;rw [set_self hb];exact (List.append_nil _).symm)))
 refine skp_ ?_
 refine hK2 _ ?_
 refine rt_ [0,2,3,11,12,13] ?_
 refine srn_ ?_
 refine ⟨⟨m+1,by omega⟩,?_,(by simp only [List.length_set]),by dsimp only;omega⟩
 try dsimp only
 exact tf_ (hB _) (fun _ h=>h) (hj:=(by first | (rw [entsF_take _ _ _ _ _ _ hml,if_pos hb2];done) | (rw [entsF_take _ _ _ _ _ _ hml,if_neg hb2];done) | (show h=h.set b (.cells [.int .i64 v])++_;rw [set_self hb];exact (List.append_nil _).symm)))
theorem c118 (T:Tab) (k:Nat) (i v:Int) (b:Nat) (tf:FuncId) (cs:List AV) (h:List Blk) (live:List Nat) (g:Int→Int→Int) (ht:∀(h:List Blk) (d v:Int),h[b]? = some (.cells [.int .i64 v])→ACalls Tryz.prog tf (.int .i64 d::cs) h live (ret (.tup []) (h.set b (.cells [.int .i64 (g v d)])) live)) (hk:h[k]? = some (tabBlk T)) (hT:T.Ok) (hb:h[b]? = some (.cells [.int .i64 v])) (hkb:k≠b) (hcs:AV.clL h.length cs) :
 ACalls Tryz.prog 118 [.ptr k 0,.int .i64 i,.fn (.func tf) [] cs] h live (ret (.tup []) (h.set b (.cells [.int .i64 (T.scan g i v T.room.toNat)])) live):=by
 refine aq_ Tryz.func118 fun hH hX=>?_
 have hkl:=lt_of_get hk
 have hbl:=lt_of_get hb
 have hB:∀x,HCl (h.set b (.cells [.int .i64 x])):=fun x=>HCl.set hH b ⟨trivial,trivial⟩
 have hcs1:AV.clL (h.length+1+1) cs:=AV.clL_mono (by omega) _ hcs
 have hB2:∀x,HCl (h.set b (.cells [.int .i64 x])++[.cells [.int .i64 i],.cells [.fn (.func tf) [] cs]]):=fun x=>by
  have:=HCl.snoc (HCl.snoc (b:=.cells [.int .i64 i]) (hB x) ⟨trivial,trivial⟩) (b:=.cells [.fn (.func tf) [] cs]) (by simp only [Blk.cl,AV.clL,AV.cl,List.length_append,List.length_set,List.length_cons,List.length_nil,and_true,true_and];exact hcs1)
  rw [List.append_assoc] at this;exact this
 have e0:h++[.cells [.int .i64 i],.cells [.fn (.func tf) [] cs]]=h.set b (.cells [.int .i64 v])++[.cells [.int .i64 i],.cells [.fn (.func tf) [] cs]]:=by rw [set_self hb]
 refine rg_ [0,4,5] ?_
 refine rt_ [] ?_
 refine sg_ ?_
 refine cl_ (hc:=ACalls.heap e0 (c56 T k 155 [.ptr h.length 0,.ptr (h.length+1) 0] (fun m=>h.set b (.cells [.int .i64 (T.scan g i v m)])++[.cells [.int .i64 i],.cells [.fn (.func tf) [] cs]]) live hT (fun m _=>getSetApp hk hkb) (fun m _=>hB2 _) (fun m _=>by simp only [List.length_append,List.length_set]) (fun m hm hat=>by
  obtain ⟨j,hj⟩:=Option.isSome_iff_exists.1 hat
  have:=c155 T k j i ((m:Int)+1) (T.scan g i v m) h.length (h.length+1) b tf cs (h.set b (.cells [.int .i64 (T.scan g i v m)])++[.cells [.int .i64 i],.cells [.fn (.func tf) [] cs]]) live g ht (getSetApp hk hkb) hT (at_some hT hj).1 (by simp only [push_cast]) (by simp only [push_cast]) (get_setapp hbl) hkb (by omega) (by omega)
  rw [set_setapp hbl] at this
  have e:T.scan g i v (m+1)=entsF g i ((m:Int)+1) (T.scan g i v m) (T.ns.getD j nd0).ents:=by
   show (match T.at ((m:Int)+1) with | some j=>_ | none=>_)=_
   rw [hj]
  rw [hj]
  rw [e];exact this) (fun m hm hat=>by
  have e:T.scan g i v (m+1)=T.scan g i v m:=by
   show (match T.at ((m:Int)+1) with | some j=>_ | none=>_)=_
   rw [show T.at ((m:Int)+1)=none from none_of hat]
  rw [e]) (by simp [AV.cl,AV.clL]))) (k:=?_)
 refine rn_ (up_ ?_)
 refine gq_ (h1:=h.set b _) Tryz.results118 ?_ (hH:=(hB _))
 exact rk_ rfl
theorem c147 (b:Nat) (h:List Blk) (live:List Nat) (d v:Int) (hb:h[b]? = some (.cells [.int .i64 v])):ACalls Tryz.prog 147 (.int .i64 d::[.ptr b 0]) h live (ret (.tup []) (h.set b (.cells [.int .i64 ((fun v d=>if v=0 then d else v) v d)])) live):=by
 refine aq_ Tryz.func147 fun hH hX=>?_
 have hbl:=lt_of_get hb
 have hB:∀x,HCl (h.set b (.cells [.int .i64 x])):=fun x=>HCl.set hH b ⟨trivial,trivial⟩
 have sx:=(And.intro @hb sx0)
 refine rg_ [0,1,4] ?_
 refine cx_ (fun hb1=>?_) (fun hb1=>?_)
 ·
  refine rt_ [] ?_
  refine srn_ ?_
  refine gq_ (h1:=h.set b _) Tryz.results147 ?_ (hH:=(hB _))
  exact ⟨rfl,by first | rfl | simp only [if_pos hb1],rfl⟩
 refine skp_ ?_
 refine gq_ (h1:=h.set b _) Tryz.results147 ?_ (hh:=(⟨[],by rw [List.append_nil];exact (set_self hb).symm⟩)) (hH:=(hB _))
 exact ⟨rfl,by first | rfl | simp only [if_neg hb1],rfl⟩
theorem c119 (b:Nat) (h:List Blk) (live:List Nat) (d v:Int) (hb:h[b]? = some (.cells [.int .i64 v])):ACalls Tryz.prog 119 (.int .i64 d::[.ptr b 0]) h live (ret (.tup []) (h.set b (.cells [.int .i64 ((fun v _=>IntKind.i64.wrap (v+1)) v d)])) live):=by
 refine aq_ Tryz.func119 fun hH hX=>?_
 have hbl:=lt_of_get hb
 have hB:∀x,HCl (h.set b (.cells [.int .i64 x])):=fun x=>HCl.set hH b ⟨trivial,trivial⟩
 have sx:=(And.intro @hb sx0)
 refine rt_ [] ?_
 refine srn_ ?_
 refine gq_ (h1:=h.set b _) Tryz.results119 ?_ (hH:=(hB _))
 exact rk_ rfl
theorem c106 (T:Tab) (k:Nat) (i:Int) (h:List Blk) (live:List Nat) (hk:h[k]? = some (tabBlk T)) (hT:T.Ok):AC Tryz.prog 106 [.ptr k 0,.int .i64 i] h live (.int .i64 (T.parent i)):=by
 refine aq_ Tryz.func106 fun hH hX=>?_
 refine rg_ [0,1] ?_
 refine rg_ [0,1,5] ?_
 refine rs_ [5] ?_
 refine sg_ ?_
 refine cl_ (hc:=c118 T k i 0 h.length 147 [.ptr h.length 0] _ _ (fun v d=>if v=0 then d else v) (fun h' d v hb=>c147 h.length h' live d v hb) (atApp hk) hT (by simp only [push_cast]) (ne_app hk) (by simp [AV.cl,AV.clL])) (k:=?_)
 refine re_ ?_
 refine rg_ [4] ?_
 refine ret_ ?_
 refine fq_ Tryz.results106 ?_
 exact rk_ rfl
theorem c73 (T:Tab) (k:Nat) (i:Int) (h:List Blk) (live:List Nat) (hk:h[k]? = some (tabBlk T)) (hT:T.Ok):AC Tryz.prog 73 [.ptr k 0,.int .i64 i] h live (.int .i64 (T.links i)):=by
 refine aq_ Tryz.func73 fun hH hX=>?_
 refine rg_ [0,1] ?_
 refine rg_ [0,1,5] ?_
 refine rs_ [5] ?_
 refine sg_ ?_
 refine cl_ (hc:=c118 T k i 0 h.length 119 [.ptr h.length 0] _ _ (fun v _=>IntKind.i64.wrap (v+1)) (fun h' d v hb=>c119 h.length h' live d v hb) (atApp hk) hT (by simp only [push_cast]) (ne_app hk) (by simp [AV.cl,AV.clL])) (k:=?_)
 refine re_ ?_
 refine rg_ [4] ?_
 refine ret_ ?_
 refine fq_ Tryz.results73 ?_
 exact rk_ rfl
end Go.Proofs.YtjmlgeckgieaaaaGreat
namespace Go.Proofs.YtjmlgeckgieaaaaGreat
open Go.Ab
set_option maxRecDepth 8000
set_option maxHeartbeats 400000
def canT (c:Cr) (T:Tab) (i want:Int):Bool:=(T.get i).2&&canF c (T.get i).1.uid (T.get i).1.gid (T.get i).1.mode want
def wayL (T:Tab) (c:Cr):Nat→Int→Bool
 | 0, _=>false
 | n+1,d=>if d=1 then true else bif canT c T (T.parent d) 1 then wayL T c n (T.parent d) else false
def wayF (T:Tab) (c:Cr) (d:Int):Bool:=bif decide ((T.get d).1.kind=2) then wayL T c 24 d else false
def seenAt (T:Tab) (c:Cr) (i:Int) (d:Nat):Bool:=((T.get d).1.ents.any fun e=>decide (e.2=i))&&wayF T c d&&canT c T d 1
def seenF (T:Tab) (c:Cr) (i:Int):Bool:=(T.get i).2&&(((List.range 25).any fun d=>seenAt T c i d)||decide (i=1))
theorem wayL_succ (T:Tab) (c:Cr) (n:Nat) (d:Int):wayL T c (n+1) d=if d=1 then true else bif canT c T (T.parent d) 1 then wayL T c n (T.parent d) else false:=rfl
theorem wayL_m (T:Tab) (c:Cr) {m:Nat} (hm:m<24) (d:Int):wayL T c (24 - m) d=if d=1 then true else bif canT c T (T.parent d) 1 then wayL T c (24 - (m+1)) (T.parent d) else false:=by
 rw [show 24 - m=(24 - (m+1))+1 by omega];rfl
theorem any25_t {p:Nat→Bool} {m:Nat} (hm:m<25) (h:p m=true):(List.range 25).any p=true:=List.any_eq_true.2 ⟨m,List.mem_range.2 hm,h⟩
theorem any25_f {p:Nat→Bool} (h:∀j,j<25→p j=false):(List.range 25).any p=false:=List.any_eq_false.2 fun j hj=>by simp [h j (List.mem_range.1 hj)]
theorem eV_eq (e:En):eV e=.agg [.str e.1,.int .i64 e.2]:=rfl
theorem c107 (T:Tab) (k:Nat) (c:Cr) (q:Cap) (i w:Int) (h:List Blk) (live:List Nat) (hk:h[k]? = some (tabBlk T)) (hT:T.Ok) (hgs:c.gs.length≤17592186044416):AC Tryz.prog 107 [.ptr k 0,.agg [.int .i64 c.uid,.int .i64 c.gid,.slice (c.gs.map iV) q],.int .i64 i,.int .i64 w] h live (.bool (canT c T i w)):=by
 refine aq_ Tryz.func107 fun hH hX=>?_
 refine rg_ [0,2,3,5] ?_
 refine rs_ [3,5,9,10] ?_
 refine sg_ ?_
 refine cl_ (hc:=c21 T k _ _ _ (atApp hk) hT) (k:=?_)
 refine sre_ ?_
 refine rs_ [8] ?_
 refine sg_ ?_
 refine cg_ (hc:=fun hg=>c148 c _ _ _ _ _ _ _ hgs) (k:=?_)
 refine srt_ ?_
 refine fq_ Tryz.results107 ?_
 exact rk_ (by unfold canT;rfl)
theorem c149 (l:List En) (c:Cap) (f:FuncId) (cs:List AV) (p:En→Bool) (h:List Blk) (live:List Nat) (hl:l.length≤17592186044416) (hp:∀e,ACalls Tryz.prog f (.agg [.str e.1,.int .i64 e.2]::cs) h live (ret (.bool (p e)) h live)) (hcs:AV.clL h.length cs):AC Tryz.prog 149 [.slice (l.map eV) c,.fn (.func f) [] cs] h live (.int .i64 (idxP p l)):=by
 refine aq_ Tryz.func149 fun hH hX=>?_
 refine rg_ [0,1] ?_
 refine sk_ fun K1 hK1=>?_
 refine rg_ [0,1,7,8] ?_
 refine awp_block ?_
 refine lp_ (X:={i:Nat // i≤l.length∧∀j,j<i→p (l.getD j ([],0))=false}) (fun x=>⟨Tryz.f149.ntmps,fget [(0,.slice (l.map eV) c),(1,.fn (.func f) [] cs),(7,.int .i64 l.length),(8,.int .i64 (x.1:Nat))],h,live⟩) (fun x=>l.length - x.1) (⟨0,by omega,fun j hj=>by omega⟩) ?_ (fun ⟨i,hi,hn⟩=>?_)
 ·
  try dsimp only
  refine Trunc.same ?_ hH
  refine ftc_ ?_ (hc:=by first | exact hcs | exact ⟨trivial,hcs⟩ | simp [AV.cl,AV.clL,clL_eV, -List.map_map])
  refine ftc_ ?_ (hc:=by first | exact hcs | exact ⟨trivial,hcs⟩ | simp [AV.cl,AV.clL,clL_eV, -List.map_map])
  refine ftc_ ?_ (hc:=by first | exact hcs | exact ⟨trivial,hcs⟩ | simp [AV.cl,AV.clL,clL_eV, -List.map_map])
  refine ftc_ ?_ (hc:=by first | exact hcs | exact ⟨trivial,hcs⟩ | simp [AV.cl,AV.clL,clL_eV, -List.map_map])
  exact FTr.nil
 try dsimp only
 refine rg_ [0,1,7,8,9] ?_
 refine sk_ fun K2 hK2=>?_
 refine cx_ (fun hb1=>?_) (fun hb1=>?_)
 rotate_left
 ·
  have hx:=idxP_none (p:=p) ([],0) (l:=l) fun j hj=>hn j (by omega)
  refine awp_exit (up_ ?_)
  refine hK1 _ ?_
  refine rg_ [4] ?_
  refine ret_ ?_
  refine fq_ Tryz.results149 ?_
  refine ⟨?_,rfl,rfl⟩
  rw [hx]
 have hil:i<l.length:=by omega
 refine skp_ ?_
 refine hK2 _ ?_
 refine sk_ fun K3 hK3=>?_
 refine awp_block ?_
 refine rg_ [0,1,5,7,8] ?_
 refine rs_ [0,1,5,7,8,16] ?_
 refine sg_ ?_
 refine cl_ (hc:=hp (l.getD i ([],0))) (k:=?_)
 refine re_ ?_
 refine cy_ (fun hb2=>?_) (fun hb2=>?_)
 ·
  have hx:=idxP_at (p:=p) ([],0) (l:=l) (i:=i) (by omega) hb2 hn
  refine rg_ [4] ?_
  refine ret_ ?_
  refine fq_ Tryz.results149 ?_
  refine ⟨?_,rfl,rfl⟩
  rw [hx]
 refine skp_ ?_
 refine hK3 _ ?_
 refine rt_ [0,1,7,8] ?_
 refine srn_ ?_
 refine ln_ ⟨i+1,by omega,fun j hj=>by rcases Nat.lt_succ_iff_lt_or_eq.1 hj with h | h;exact hn j h;subst h;exact hb2⟩ ?_
 try dsimp only
 refine Trunc.same ?_ hH
 refine ftc_ ?_ (hc:=by first | exact hcs | exact ⟨trivial,hcs⟩ | simp [AV.cl,AV.clL,clL_eV, -List.map_map])
 refine ftc_ ?_ (hc:=by first | exact hcs | exact ⟨trivial,hcs⟩ | simp [AV.cl,AV.clL,clL_eV, -List.map_map])
 refine ftc_ ?_ (hc:=by first | exact hcs | exact ⟨trivial,hcs⟩ | simp [AV.cl,AV.clL,clL_eV, -List.map_map])
 refine ftc_ ?_ (hc:=by first | exact hcs | exact ⟨trivial,hcs⟩ | simp [AV.cl,AV.clL,clL_eV, -List.map_map])
 exact FTr.nil
theorem c108 (l:List En) (c:Cap) (f:FuncId) (cs:List AV) (p:En→Bool) (h:List Blk) (live:List Nat) (hl:l.length≤17592186044416) (hp:∀e,ACalls Tryz.prog f (.agg [.str e.1,.int .i64 e.2]::cs) h live (ret (.bool (p e)) h live)) (hcs:AV.clL h.length cs):AC Tryz.prog 108 [.slice (l.map eV) c,.fn (.func f) [] cs] h live (.bool (l.any p)):=by
 refine aq_ Tryz.func108 fun hH hX=>?_
 have sx:=(And.intro @idxP_any sx0)
 refine rg_ [0,1] ?_
 refine rs_ [4] ?_
 refine sg_ ?_
 refine cl_ (hc:=c149 l _ f cs p _ _ hl hp hcs) (k:=?_)
 refine srt_ ?_
 refine fq_ Tryz.results108 ?_
 exact rk_ rfl
theorem c109 (b:Nat) (i:Int) (e:En) (h:List Blk) (live:List Nat) (hb:h[b]? = some (.cells [.int .i64 i])):ACalls Tryz.prog 109 (.agg [.str e.1,.int .i64 e.2]::[.ptr b 0]) h live (ret (.bool (decide (e.2=i))) h live):=by
 refine aq_ Tryz.func109 fun hH hX=>?_
 have hbl:=lt_of_get hb
 have hal:=fun g:List Blk=>List.getElem?_append_left (l₂:=g) hbl
 have sx:=(And.intro @hal (And.intro @hb sx0))
 refine rg_ [1,2] ?_
 refine rg_ [3] ?_
 refine ret_ ?_
 refine fq_ Tryz.results109 ?_
 exact rk_ rfl
theorem n62 (d:Int) (c:Cr) (q:Cap) (h:List Blk) (live:List Nat):AC Tryz.prog 62 [.raw (.pointer none),.agg [.int .i64 c.uid,.int .i64 c.gid,.slice (c.gs.map iV) q],.int .i64 d] h live (.bool false):=by
 refine aq_ Tryz.func62 fun hH hX=>?_
 refine rg_ [0,2,4] ?_
 refine rs_ [0,2,4,7] ?_
 refine sg_ ?_
 refine cl_ (hc:=n21 ⟨0,[]⟩ 0 _ _ _) (k:=?_)
 refine sre_ ?_
 refine sk_ fun K1 hK1=>?_
 refine rg_ [0,2,4,17] ?_
 refine cdy_ (ht:=fun hb1=>?_) (hf:=fun hb1=>?_)
 ·
  refine rg_ [6] ?_
  refine ret_ ?_
  refine fq_ Tryz.results62 ?_
  exact rk_ rfl
 exfalso;exact Bool.noConfusion hb1
theorem c62 (T:Tab) (k:Nat) (c:Cr) (q:Cap) (d:Int) (h:List Blk) (live:List Nat) (hk:h[k]? = some (tabBlk T)) (hT:T.Ok) (hgs:c.gs.length≤17592186044416):AC Tryz.prog 62 [.ptr k 0,.agg [.int .i64 c.uid,.int .i64 c.gid,.slice (c.gs.map iV) q],.int .i64 d] h live (.bool (wayF T c d)):=by
 refine aq_ Tryz.func62 fun hH hX=>?_
 have hkl:=lt_of_get hk
 have hB:HCl (h++[.cells [.int .i64 c.uid,.int .i64 c.gid,.slice (c.gs.map iV) q],.cells (ndC (T.get d).1)]):=by
  have:=HCl.snoc (HCl.snoc (b:=.cells [.int .i64 c.uid,.int .i64 c.gid,.slice (c.gs.map iV) q]) hH (by simp [Blk.cl,AV.cl,AV.clL,clL_iV, -List.map_map])) (b:=.cells (ndC (T.get d).1)) (clL_ndC _ _)
  rw [List.append_assoc] at this;exact this
 refine rg_ [0,2,4] ?_
 refine rs_ [0,2,4,7] ?_
 refine sg_ ?_
 refine cl_ (hc:=c21 T k _ _ _ (atApp hk) hT) (k:=?_)
 refine sre_ ?_
 refine sk_ fun K1 hK1=>?_
 refine rg_ [0,2,4,17] ?_
 refine cx_ (fun hb1=>?_) (fun hb1=>?_)
 ·
  refine rg_ [6] ?_
  refine ret_ ?_
  refine fq_ Tryz.results62 ?_
  exact rk_ (by unfold wayF;rw [decide_eq_false hb1];rfl)
 refine skp_ ?_
 refine hK1 _ ?_
 refine sk_ fun K2 hK2=>?_
 refine rg_ [0,2,4,18] ?_
 refine awp_block ?_
 refine lp_ (X:={x:Nat×Int // x.1≤24∧wayL T c 24 d=wayL T c (24 - x.1) x.2}) (fun x=>⟨Tryz.f62.ntmps,fget [(0,.ptr k 0),(2,.int .i64 x.1.2),(4,.ptr h.length 0),(18,.int .i64 (x.1.1:Nat))],h++[.cells [.int .i64 c.uid,.int .i64 c.gid,.slice (c.gs.map iV) q],.cells (ndC (T.get d).1)],live⟩) (fun x=>24 - x.1.1) (⟨⟨0,d⟩,by simp,rfl⟩) ?_ (fun ⟨⟨m,e⟩,hm,hw⟩=>?_)
 ·
  try dsimp only
  exact tf_ hB (fun _ h=>h)
 try dsimp only
 dsimp only at hm hw
 refine rg_ [0,2,4,18,19] ?_
 refine sk_ fun K3 hK3=>?_
 refine cx_ (fun hb2=>?_) (fun hb2=>?_)
 rotate_left
 ·
  have hme:m=24:=by omega
  subst hme
  refine awp_exit (up_ ?_)
  refine hK2 _ ?_
  refine rg_ [6] ?_
  refine ret_ ?_
  refine fq_ Tryz.results62 ?_
  exact rk_ (by unfold wayF;rw [decide_eq_true hb1,cond_true,hw];rfl)
 have hml:m<24:=by omega
 refine skp_ ?_
 refine hK3 _ ?_
 refine sk_ fun K4 hK4=>?_
 refine awp_block ?_
 refine sk_ fun K5 hK5=>?_
 refine rg_ [0,2,4,18,21] ?_
 refine cx_ (fun hb3=>?_) (fun hb3=>?_)
 ·
  refine rg_ [6] ?_
  refine ret_ ?_
  refine fq_ Tryz.results62 ?_
  exact rk_ (by unfold wayF;rw [decide_eq_true hb1,cond_true,hw,wayL_m T c hml,if_pos hb3])
 refine skp_ ?_
 refine hK5 _ ?_
 refine rs_ [0,2,4,18] ?_
 refine sg_ ?_
 refine cl_ (hc:=c106 T k _ _ _ (atApp hk) hT) (k:=?_)
 refine sre_ ?_
 refine rs_ [0,2,4,18,29] ?_
 refine sg_ ?_
 refine cl_ (hc:=c107 T k c _ _ _ _ _ (atApp hk) hT hgs) (k:=?_)
 refine sre_ ?_
 refine cx_ (fun hb4=>?_) (fun hb4=>?_)
 ·
  refine rg_ [6] ?_
  refine ret_ ?_
  refine fq_ Tryz.results62 ?_
  exact rk_ (by unfold wayF;rw [decide_eq_true hb1,cond_true,hw,wayL_m T c hml,if_neg hb3,hb4];rfl)
 refine skp_ ?_
 refine hK4 _ ?_
 refine rt_ [0,2,4,18] ?_
 refine srn_ ?_
 refine ln_ ⟨⟨m+1,T.parent e⟩,by dsimp only;omega,by rw [hw,wayL_m T c (by omega),if_neg hb3,hb4];rfl⟩ ?_
 try dsimp only
 exact tf_ hB (fun _ h=>h)
theorem n63 (i:Int) (c:Cr) (q:Cap) (h:List Blk) (live:List Nat):AC Tryz.prog 63 [.raw (.pointer none),.agg [.int .i64 c.uid,.int .i64 c.gid,.slice (c.gs.map iV) q],.int .i64 i] h live (.bool false):=by
 refine aq_ Tryz.func63 fun hH hX=>?_
 refine rg_ [0,4,5] ?_
 refine sk_ fun K1 hK1=>?_
 refine rs_ [0,4,5,8] ?_
 refine sg_ ?_
 refine cl_ (hc:=n21 ⟨0,[]⟩ 0 _ _ _) (k:=?_)
 refine sre_ ?_
 refine rg_ [0,4,5,20] ?_
 refine cdy_ (ht:=fun hb1=>?_) (hf:=fun hb1=>?_)
 ·
  refine rg_ [6] ?_
  refine ret_ ?_
  refine fq_ Tryz.results63 ?_
  exact rk_ rfl
 exfalso;exact Bool.noConfusion hb1
theorem c63 (T:Tab) (k:Nat) (c:Cr) (q:Cap) (i:Int) (h:List Blk) (live:List Nat) (hk:h[k]? = some (tabBlk T)) (hT:T.Ok) (hgs:c.gs.length≤17592186044416):AC Tryz.prog 63 [.ptr k 0,.agg [.int .i64 c.uid,.int .i64 c.gid,.slice (c.gs.map iV) q],.int .i64 i] h live (.bool (seenF T c i)):=by
 refine aq_ Tryz.func63 fun hH hX=>?_
 have hkl:=lt_of_get hk
 have hnd:=fun d=>(get_ok hT d).2.1
 have hB:HCl (h++[.cells [.int .i64 c.uid,.int .i64 c.gid,.slice (c.gs.map iV) q],.cells [.int .i64 i],.cells (ndC (T.get i).1)]):=by
  have:=HCl.snoc (HCl.snoc (HCl.snoc (b:=.cells [.int .i64 c.uid,.int .i64 c.gid,.slice (c.gs.map iV) q]) hH (by simp [Blk.cl,AV.cl,AV.clL,clL_iV, -List.map_map])) (b:=.cells [.int .i64 i]) ⟨trivial,trivial⟩) (b:=.cells (ndC (T.get i).1)) (clL_ndC _ _)
  rw [List.append_assoc,List.append_assoc] at this;exact this
 refine rg_ [0,4,5] ?_
 refine sk_ fun K1 hK1=>?_
 refine rs_ [0,4,5,8] ?_
 refine sg_ ?_
 refine cl_ (hc:=c21 T k _ _ _ (atApp hk) hT) (k:=?_)
 refine sre_ ?_
 refine rg_ [0,4,5,20] ?_
 refine cy_ (fun hb1=>?_) (fun hb1=>?_)
 ·
  refine rg_ [6] ?_
  refine ret_ ?_
  refine fq_ Tryz.results63 ?_
  exact rk_ (by unfold seenF;simp only [Bool.not_eq_true'] at hb1;rw [hb1];rfl)
 refine skp_ ?_
 refine hK1 _ ?_
 refine sk_ fun K2 hK2=>?_
 refine rg_ [0,4,5,21] ?_
 refine awp_block ?_
 refine lp_ (X:={m:Nat // m≤25∧∀j,j<m→seenAt T c i j=false}) (fun x=>⟨Tryz.f63.ntmps,fget [(0,.ptr k 0),(4,.ptr h.length 0),(5,.ptr (h.length+1) 0),(21,.int .i64 (x.1:Nat))],h++[.cells [.int .i64 c.uid,.int .i64 c.gid,.slice (c.gs.map iV) q],.cells [.int .i64 i],.cells (ndC (T.get i).1)],live⟩) (fun x=>25 - x.1) (⟨0,by omega,fun j hj=>by omega⟩) ?_ (fun ⟨m,hm,hn⟩=>?_)
 ·
  try dsimp only
  exact tf_ hB (fun _ h=>h)
 try dsimp only
 refine rg_ [0,4,5,21,22] ?_
 refine sk_ fun K3 hK3=>?_
 refine cx_ (fun hb2=>?_) (fun hb2=>?_)
 rotate_left
 ·
  have hme:m=25:=by omega
  subst hme
  refine awp_exit (up_ ?_)
  refine hK2 _ ?_
  refine rg_ [6] ?_
  refine ret_ ?_
  refine fq_ Tryz.results63 ?_
  exact rk_ (by unfold seenF;simp only [Bool.not_eq_false'] at hb1;rw [hb1,any25_f hn];rfl)
 have hml:m<25:=by omega
 refine skp_ ?_
 refine hK3 _ ?_
 refine sk_ fun K4 hK4=>?_
 refine awp_block ?_
 refine rg_ [0,4,5,9,21] ?_
 refine rs_ [0,4,5,9,10,21] ?_
 refine sg_ ?_
 refine cl_ (hc:=c21 T k _ _ _ (atApp hk) hT) (k:=?_)
 refine sre_ ?_
 refine rs_ [0,4,5,9,12,21] ?_
 refine sg_ ?_
 refine cl_ (hc:=c108 (T.get m).1.ents _ 109 [.ptr (h.length+1) 0] (fun e=>decide (e.2=i)) _ _ (by have:=hnd m;omega) (fun e=>c109 (h.length+1) i e _ _ (by simp only [push_cast])) (by simp [AV.cl,AV.clL])) (k:=?_)
 refine sre_ ?_
 refine rs_ [0,4,5,21,46] ?_
 refine sg_ ?_
 refine cg_ (hc:=fun hg=>c62 T k c _ _ _ _ (atApp hk) hT hgs) (k:=?_)
 refine sg_ ?_
 refine cg_ (hc:=fun hg=>c107 T k c _ _ _ _ _ (atApp hk) hT hgs) (k:=?_)
 refine sre_ ?_
 refine cy_ (fun hb3=>?_) (fun hb3=>?_)
 ·
  have hs:seenAt T c i m=true:=hb3
  refine rg_ [6] ?_
  refine ret_ ?_
  refine fq_ Tryz.results63 ?_
  exact rk_ (by unfold seenF;simp only [Bool.not_eq_false'] at hb1;rw [hb1,any25_t hml hs];rfl)
 have hs:seenAt T c i m=false:=hb3
 refine skp_ ?_
 refine hK4 _ ?_
 refine rt_ [0,4,5,21] ?_
 refine srn_ ?_
 refine ln_ ⟨m+1,by omega,fun j hj=>by rcases Nat.lt_succ_iff_lt_or_eq.1 hj with h | h;exact hn j h;subst h;exact hb3⟩ ?_
 try dsimp only
 exact tf_ hB (fun _ h=>h)
end Go.Proofs.YtjmlgeckgieaaaaGreat
namespace Go.Proofs.YtjmlgeckgieaaaaGreat
open Go.Ab
set_option maxRecDepth 8000
set_option maxHeartbeats 400000
theorem bq_n (a:Nat):(a==a)=true:=beq_self_eq_true a
theorem bq_b (a:Bool):(a==a)=true:=beq_self_eq_true a
theorem if_and_t {α:Type} {p:Prop} [Decidable p] (a b:α):(if True∧p then a else b)=if p then a else b:=by
 by_cases h:p
 · rw [if_pos ⟨trivial,h⟩,if_pos h]
 · rw [if_neg (fun x=>h x.2),if_neg h]
def sl0 (c:UInt8):Bool:=decide (c=47)||decide (c=0)
def irF (r:Int):Int:=if r=47 then 0 else if r=0 then 1 else -1
theorem encS_facts {r:Int} (hv:Utf8.valid r=true) (h128:128≤r):2≤(encS r).length∧(encS r).length≤4∧128≤((encS r).getD ((encS r).length - 1) 0).toNat:=by
 obtain ⟨h1,h2,h3⟩:=encode_facts r hv h128
 have e:(encS r).length=(Utf8.encode r).size:=Array.length_toList
 refine ⟨by omega,by omega,?_⟩
 have hlt:(Utf8.encode r).size - 1<(encS r).length:=by omega
 have:=h3 (by omega)
 rw [e,List.getD_eq_getElem?_getD,List.getElem?_eq_getElem hlt,Option.getD_some]
 exact this
theorem ib_fin:∀r:Fin 128,Lib.indexByte [47,0] (UInt8.ofNat r.val)=irF r.val:=by decide +kernel
theorem ib_rune {r:Int} (h0:0≤r) (h1:r<128):Lib.indexByte [47,0] (UInt8.ofNat r.toNat)=irF r:=by
 have:=ib_fin ⟨r.toNat,by omega⟩
 simp only [Int.toNat_of_nonneg h0] at this
 exact this
theorem u8_rune {r:Int} (h0:0≤r) (h1:r<128):((UInt8.ofNat r.toNat).toNat:Int)=r:=by simp;omega
theorem irF_high {r:Int} (h:128≤r):irF r = -1:=by unfold irF;rw [if_neg (by omega),if_neg (by omega)]
theorem dec470 {pos:Nat} (h:pos<2):dec [47,0] pos=(([47,0]:List UInt8).getD pos 0 |>.toNat,1):=dec_ascii h (by
 have:pos=0∨pos=1:=by omega
 rcases this with rfl | rfl<;>decide)
theorem getD470 {pos:Nat} (h:pos<2):(([47,0]:List UInt8).getD pos 0).toNat=47∨(([47,0]:List UInt8).getD pos 0).toNat=0:=by
 have:pos=0∨pos=1:=by omega
 rcases this with rfl | rfl
 · exact .inl rfl
 · exact .inr rfl
theorem decode_span (s:ByteArray) (pos:Nat) (h:pos<s.size) (ha:128≤(s.get! (pos+0)).toNat):∀k,k<(Utf8.decode s pos).2→pos+k<s.size∧128≤(s.get! (pos+k)).toNat:=by
 have hn:¬(s.get! (pos+0)).toNat<128:=by omega
 simp only [Utf8.decode,hn,if_false]
 intro k hk
 have h0:pos+0<s.size∧128≤(s.get! (pos+0)).toNat:=⟨h,ha⟩
 repeat' split at hk
 all_goals simp only [Bool.and_eq_true,decide_eq_true_eq,beq_iff_eq] at *
 all_goals (
  have hc:k=0∨k=1∨k=2∨k=3:=by omega
  rcases hc with rfl | rfl | rfl | rfl<;>first | exact h0 | (exfalso;omega) | (refine ⟨?_,?_⟩<;>omega))
theorem dec_span {l:List UInt8} {pos:Nat} (h:pos<l.length) (ha:128≤(l.getD pos 0).toNat):∀k,k<(dec l pos).2→pos+k<l.length∧128≤(l.getD (pos+k) 0).toNat:=by
 have e:∀i,i<l.length→(⟨l.toArray⟩:ByteArray).get! i=l.getD i 0:=fun i hi=>by
  simp [ByteArray.get!,List.getD_eq_getElem?_getD,hi]
 intro k hk
 have:=decode_span ⟨l.toArray⟩ pos (by simpa [ByteArray.size] using h) (by rw [e _ (by omega)];exact ha) k hk
 have hl:pos+k<l.length:=by simpa [ByteArray.size] using this.1
 exact ⟨hl,by rw [←e _ hl];exact this.2⟩
theorem any_take_false {l:List UInt8} {n:Nat} (h:∀j,j<n→sl0 (l.getD j 0)=false) (hn:l.length≤n):l.any sl0=false:=by
 rw [List.any_eq_false]
 intro c hc
 obtain ⟨j,hj,rfl⟩:=List.mem_iff_getElem.1 hc
 have:=h j (by omega)
 simp [List.getD_eq_getElem?_getD,hj] at this
 simp [this]
theorem any_get_true {l:List UInt8} {j:Nat} (hj:j<l.length) (h:sl0 (l.getD j 0)=true):l.any sl0=true:=by
 rw [List.any_eq_true]
 exact ⟨l.getD j 0,by simp [List.getD_eq_getElem?_getD,hj],h⟩
theorem sl0_high {c:UInt8} (h:128≤c.toNat):sl0 c=false:=by
 unfold sl0
 rw [decide_eq_false (by rintro rfl;exact absurd h (by decide)),decide_eq_false (by rintro rfl;exact absurd h (by decide))];rfl
theorem irF_byte (c:UInt8):decide (0≤irF c.toNat)=sl0 c:=by
 unfold irF sl0
 by_cases h1:c=47
 · subst h1;rfl
 ·
  by_cases h2:c=0
  · subst h2;rfl
  ·
   have e1:¬((c.toNat:Int)=47):=fun h=>h1 (UInt8.toNat_inj.1 (by have:c.toNat=47:=(by omega);rw [this];rfl))
   have e2:¬((c.toNat:Int)=0):=fun h=>h2 (UInt8.toNat_inj.1 (by have:c.toNat=0:=(by omega);rw [this];rfl))
   rw [if_neg e1,if_neg e2,decide_eq_false h1,decide_eq_false h2];rfl
theorem ir_step {l:List UInt8} {pos:Nat} (h:pos<l.length):decide (0≤irF (dec l pos).1)=sl0 (l.getD pos 0)∧(sl0 (l.getD pos 0)=false→(pos+(dec l pos).2≤l.length∧pos<pos+(dec l pos).2∧∀j,pos≤j→j<pos+(dec l pos).2→sl0 (l.getD j 0)=false)):=by
 by_cases ha:(l.getD pos 0).toNat<128
 ·
  rw [dec_ascii h ha]
  refine ⟨irF_byte _,fun hs=>⟨by dsimp only;omega,by dsimp only;omega,fun j h1 h2=>?_⟩⟩
  dsimp only at h2
  rw [show j=pos by omega];exact hs
 ·
  obtain ⟨h1,h2⟩:=dec_high h (by omega)
  have hsp:=dec_span h (by omega)
  refine ⟨?_,fun _=>⟨?_,by omega,fun j hj hj'=>?_⟩⟩
  · rw [irF_high (by omega),sl0_high (by omega)];rfl
  · have:=(hsp ((dec l pos).2 - 1) (by omega)).1;omega
  ·
   have:=(hsp (j - pos) (by omega)).2
   rw [show pos+(j - pos)=j by omega] at this
   exact sl0_high this
def as0:List AV:=List.replicate 256 (.bool false)
def as1:List AV:=as0.set 47 (.bool true)
def as2:List AV:=as1.set 0 (.bool true)
theorem azero_as:azero Tryz.prog 244=some (.agg as0):=by kernel_rfl
theorem tk_as:tk Tryz.prog 244=some (.agg 256):=by kernel_rfl
theorem as0_len:as0.length=256:=List.length_replicate
theorem as1_len:as1.length=256:=by rw [as1,List.length_set,as0_len]
theorem as2_len:as2.length=256:=by rw [as2,List.length_set,as1_len]
theorem as0_take:as0.take 256=as0:=List.take_of_length_le (by rw [as0_len];omega)
theorem as2_take:as2.take 256=as2:=List.take_of_length_le (by rw [as2_len];omega)
theorem putAt_all {α:Type}:∀(v c:List α) (off:Nat),off+v.length=c.length→putAt c off v=c.take off++v
 | [],c,off,h=>by
  show c=_
  rw [List.append_nil,List.take_of_length_le (by simp at h;omega)]
 | x::v,c,off,h=>by
  show putAt (c.set off x) (off+1) v=_
  simp at h
  rw [putAt_all v _ _ (by simp;omega),List.take_succ_eq_append_getElem (by simp;omega)]
  simp [List.take_set_of_le]
theorem as_put (c:List AV) (hc:c.length=256):putAt c 0 as2=as2:=by
 rw [putAt_all _ _ _ (by rw [as2_len,hc])];rfl
theorem as_put0:putAt as0 0 as2=as2:=as_put _ as0_len
theorem as_put2:putAt as2 0 as2=as2:=as_put _ as2_len
theorem as2_er:AV.erL as2=as2:=by kernel_rfl
theorem as2_get (c:UInt8):as2[0+c.toNat*1]? = some (.bool (sl0 c)):=by
 have hc:=c.toNat_lt
 rw [Nat.zero_add,Nat.mul_one]
 unfold as2 as1 as0 sl0
 rw [List.getElem?_set,List.getElem?_set,List.getElem?_replicate]
 by_cases h1:c=0
 · subst h1;rw [if_pos (by decide),if_pos (by rw [List.length_set,List.length_replicate];omega)];rfl
 ·
  have e1:¬0=c.toNat:=fun h=>h1 (UInt8.toNat_inj.1 h.symm)
  rw [if_neg e1]
  by_cases h2:c=47
  · subst h2;rw [if_pos (by decide),if_pos (by rw [List.length_replicate];omega)];rfl
  ·
   have e2:¬47=c.toNat:=fun h=>h2 (UInt8.toNat_inj.1 h.symm)
   rw [if_neg e2,if_pos (by omega),decide_eq_false h1,decide_eq_false h2];rfl
theorem clL_as (n:Nat) (l:List AV) (h:∀x∈l,∃b,x=AV.bool b):AV.clL n l:=by
 rw [AV.clL_mem];intro x hx;obtain ⟨b,rfl⟩:=h x hx;trivial
theorem as0_b:∀x∈as0,∃b,x=AV.bool b:=fun x hx=>⟨false,(List.mem_replicate.1 hx).2⟩
theorem as1_b:∀x∈as1,∃b,x=AV.bool b:=fun x hx=>by
 rcases List.mem_or_eq_of_mem_set hx with h | h
 · exact as0_b x h
 · exact ⟨_,h⟩
theorem as2_b:∀x∈as2,∃b,x=AV.bool b:=fun x hx=>by
 rcases List.mem_or_eq_of_mem_set hx with h | h
 · exact as1_b x h
 · exact ⟨_,h⟩
def asI (i:Nat):List AV:=if i=0 then as0 else if i=1 then as1 else as2
theorem asI_len (i:Nat):(asI i).length=256:=by
 unfold asI;split
 · exact as0_len
 ·
  split
  · exact as1_len
  · exact as2_len
theorem asI_cl (n i:Nat):AV.clL n (asI i):=by
 unfold asI;split
 · exact clL_as _ _ as0_b
 ·
  split
  · exact clL_as _ _ as1_b
  · exact clL_as _ _ as2_b
theorem asI_set {i:Nat} (h:i<2):(asI i).set (0+(([47,0]:List UInt8).getD i 0).toNat*1) (.bool true)=asI (i+1):=by
 have:i=0∨i=1:=by omega
 rcases this with rfl | rfl<;>rfl
theorem c188 (n:Int) (h:List Blk) (live:List Nat):AC Tryz.prog 188 [.int .i64 n] h live (.bool (decide (8<n))):=by
 refine aq_ Tryz.func188 fun hH hX=>?_
 refine rg_ [0] ?_
 refine rg_ [2] ?_
 refine ret_ ?_
 refine fq_ Tryz.results188 ?_
 exact rk_ rfl
theorem c190 (k:Nat) (c:UInt8) (h:List Blk) (live:List Nat) (hk:h[k]? = some (.cells as2)):AC Tryz.prog 190 [.ptr k 0,.int .u8 c.toNat] h live (.bool (sl0 c)):=by
 refine aq_ Tryz.func190 fun hH hX=>?_
 have hc:=c.toNat_lt
 have sx:=(And.intro @hk (And.intro @as2_get sx0))
 refine rg_ [0,1] ?_
 refine rg_ [4] ?_
 refine ret_ ?_
 refine fq_ Tryz.results190 ?_
 exact rk_ rfl
theorem c206 (r:Int) (h:List Blk) (live:List Nat):AC Tryz.prog 206 [.int .i32 r] h live (.bool (Utf8.valid r)):=by
 refine aq_ Tryz.func206 fun hH hX=>?_
 refine rg_ [0] ?_
 refine sk_ fun K1 hK1=>?_
 refine awp_block ?_
 refine rg_ [0,3] ?_
 refine cx_ (fun hb1=>?_) (fun hb1=>?_)
 ·
  refine rg_ [2] ?_
  refine ret_ ?_
  refine fq_ Tryz.results206 ?_
  exact rk_ (by rw [validRune_eq,validRune,decide_eq_true (by omega)])
 refine rg_ [10] ?_
 refine cx_ (fun hb2=>?_) (fun hb2=>?_)
 ·
  refine rg_ [2] ?_
  refine ret_ ?_
  refine fq_ Tryz.results206 ?_
  exact rk_ (by rw [validRune_eq,validRune,decide_eq_true (by omega)])
 refine skp_ ?_
 refine hK1 _ ?_
 refine rg_ [2] ?_
 refine ret_ ?_
 refine fq_ Tryz.results206 ?_
 exact rk_ (by rw [validRune_eq,validRune,decide_eq_false (by omega)])
theorem asI_get:(47:UInt8).toNat=47:=rfl
theorem bytes470 (i:Nat) (h:i<2):(([47,0]:List UInt8).getD i 0).toNat<128:=by
 have:i=0∨i=1:=by omega
 rcases this with rfl | rfl<;>decide
theorem asI_take (i:Nat):(asI i).take 256=asI i:=List.take_of_length_le (by rw [asI_len];omega)
theorem as_putI (i:Nat):putAt (asI i) 0 (asI i)=asI i:=by rw [putAt_all _ _ _ (by omega)];rfl
theorem asI_2:asI 2=as2:=rfl
def nameF (s:List UInt8):Bool:=!decide (s=[])&&decide ((s.length:Int)≤12)&&!decide (s=[46])&&!decide (s=[46,46])&&!s.any sl0
def fitsF (s:List UInt8):Bool:=!decide (s=[])&&decide ((s.length:Int)≤64)&&decide (Lib.indexByte s 0<0)
theorem c189 (h:List Blk) (live:List Nat):AC Tryz.prog 189 [.str [47,0]] h live (.tup [.agg as2,.bool true]):=by
 refine aq_ Tryz.func189 fun hH hX=>?_
 have sx:=(And.intro @azero_as (And.intro @tk_as (And.intro @asI_take (And.intro @as_putI (And.intro @asI_len (And.intro @asI_2 (And.intro @as2_take (And.intro @as_put2 (And.intro @if_and_t (And.intro @asI_set sx0))))))))))
 refine rg_ [0,2] ?_
 refine sk_ fun K1 hK1=>?_
 refine rg_ [0,2,4] ?_
 refine awp_block ?_
 refine lp_ (X:={i:Nat // i≤2}) (fun x=>⟨Tryz.f189.ntmps,fget [(0,.str [47,0]),(2,.ptr h.length 0),(4,.int .i64 (x.1:Nat))],h++[.cells (asI x.1)],live⟩) (fun x=>2 - x.1) (⟨0,by omega⟩) ?_ (fun ⟨i,hi⟩=>?_)
 ·
  try dsimp only
  exact tf_ (HCl.snoc hH (asI_cl _ _)) (fun _ h=>h)
 try dsimp only
 refine sk_ fun K2 hK2=>?_
 refine rg_ [0,2,4,9] ?_
 refine cy_ (fun hb1=>?_) (fun hb1=>?_)
 rotate_left
 ·
  simp only [decide_eq_true_eq,decide_eq_false_iff_not,Bool.not_eq_true',Bool.not_eq_false',Bool.or_eq_true,Bool.and_eq_true,Bool.or_eq_false_iff,Bool.and_eq_false_imp,Int.not_lt,Int.not_le,push_cast] at hb1
  have hie:i=2:=by omega
  subst hie
  refine awp_exit (up_ ?_)
  refine hK1 _ ?_
  refine rg_ [2,3] ?_
  refine ret_ ?_
  refine fq_ Tryz.results189 ?_ (hx:=by (simp only [atuple,AV.er,AV.erL,push_cast,as2_er,asI_2])<;>rfl) (hcl:=(by simp [AV.cl,AV.clL,clL_as _ _ as2_b]))
  exact rk_ rfl
 simp only [decide_eq_true_eq,decide_eq_false_iff_not,Bool.not_eq_true',Bool.not_eq_false',Bool.or_eq_true,Bool.and_eq_true,Bool.or_eq_false_iff,Bool.and_eq_false_imp,Int.not_lt,Int.not_le,push_cast] at hb1
 have hil:i<2:=by omega
 have h47:=bytes470 i hil
 refine skp_ ?_
 refine hK2 _ ?_
 refine sk_ fun K3 hK3=>?_
 refine awp_block ?_
 refine rg_ [0,2,4,5] ?_
 refine sk_ fun K4 hK4=>?_
 refine rg_ [0,2,4,5,16] ?_
 refine cx_ (fun hb2=>?_) (fun hb2=>?_)
 · exfalso;omega
 refine skp_ ?_
 refine hK4 _ ?_
 refine rt_ [0,2,4] ?_
 refine srn_ ?_
 refine hK3 _ ?_
 refine rt_ [0,2,4] ?_
 refine srn_ ?_
 refine ln_ ⟨i+1,by omega⟩ ?_
 try dsimp only
 exact tf_ (HCl.snoc hH (asI_cl _ _)) (fun _ h=>h)
theorem c187 (r:Int) (h:List Blk) (live:List Nat) (h0:0≤r) (h1:r≤2147483647):AC Tryz.prog 187 [.str [47,0],.int .i32 r] h live (.int .i64 (irF r)):=by
 refine aq_ Tryz.func187 fun hH hX=>?_
 have hib:0≤r→r<128→ACalls Tryz.prog 137 [.str [47,0],.int .u8 r] h live (ret (.int .i64 (irF r)) h live):=fun a b=>by
  have:=c137 [47,0] (UInt8.ofNat r.toNat) h live
  rw [ib_rune a b,u8_rune a b] at this;exact this
 refine rs_ [0,1] ?_
 refine dp_ ?_
 refine reI_ ?_
 refine awp_block ?_
 refine rs_ [0,1,160] ?_
 refine dp_ ?_
 refine dp_ ?_
 refine dp_ ?_
 refine dg_ ?_
 refine dg_ ?_
 refine dp_ ?_
 refine dp_ ?_
 refine reI_ ?_
 refine cx_ (fun hb1=>?_) (fun hb1=>?_) (hb:=by (simp (disch:=omega) only [push_cast,↓reduceIte,Nat.reduceEqDiff,Nat.reduceAdd,Nat.reduceLeDiff,sx,Int.reduceSub,Int.reduceToNat,Int.reduceAdd])<;>rfl)
 ·
  refine rs_ [4] ?_
  refine dp_ ?_
  refine dp_ ?_
  refine dp_ ?_
  refine cl_ (hc:=hib hb1.1 hb1.2) (k:=?_)
  refine dp_ ?_
  refine reI_ ?_
  refine ret_ ?_
  refine fq_ (hres:=by (simp (disch:=omega) only [aresults,aresult,push_cast,↓reduceIte,Nat.reduceEqDiff,Nat.reduceAdd,Nat.reduceLeDiff,sx,Int.reduceSub,Int.reduceToNat,Int.reduceAdd])<;>rfl) Tryz.results187 ?_
  exact rk_ rfl
 have hr:128≤r:=by omega
 refine rs_ [0,1,171] ?_
 refine dp_ ?_
 refine dp_ ?_
 refine dp_ ?_
 refine reI_ ?_
 refine cx_ (fun hb2=>?_) (fun hb2=>?_) (hb:=by (simp (disch:=omega) only [push_cast,↓reduceIte,Nat.reduceEqDiff,Nat.reduceAdd,Nat.reduceLeDiff,sx,Int.reduceSub,Int.reduceToNat,Int.reduceAdd])<;>rfl)
 ·
  refine sk_ fun K1 hK1=>?_
  refine rs_ [175] ?_
  refine dp_ ?_
  refine dawp_w rfl rfl rfl rfl (AOp.rangeS _ _ rfl Ty.isStrT_9 (by (simp (disch:=omega) only [push_cast,↓reduceIte,Nat.reduceEqDiff,Nat.reduceAdd,Nat.reduceLeDiff,sx,Int.reduceSub,Int.reduceToNat,Int.reduceAdd])<;>rfl) ?_)
  refine reI_ ?_
  refine awp_block ?_
  refine lp_ (X:={i:Nat // i≤2}) (fun x=>⟨Tryz.f187.ntmps,fget [(175,.ptr h.length 0)],h++[.siter [47,0] x.1],live⟩) (fun x=>2 - x.1) (⟨0,by omega⟩) ?_ (fun ⟨i,hi⟩=>?_)
  ·
   try dsimp only
   refine Trunc.of (by first | exact (List.append_nil _).symm | exact rfl | (rw [List.append_assoc];rfl)) ?_ (HCl.snoc hH trivial) (fun _ h=>h)
   refine FTr.cons (by first | rfl | ((simp (disch:=omega) only [push_cast,↓reduceIte,Nat.reduceEqDiff,Nat.reduceAdd,Nat.reduceLeDiff,sx,Int.reduceSub,Int.reduceToNat,Int.reduceAdd])<;>rfl)) (by simp [AV.cl,AV.clL]) ?_
   exact FTr.nil
  try dsimp only
  refine rs_ [175,176,177] ?_
  refine dawp_w rfl rfl rfl rfl (AOp.nextS _ rfl (by (simp (disch:=omega) only [push_cast,↓reduceIte,Nat.reduceEqDiff,Nat.reduceAdd,Nat.reduceLeDiff,sx,Int.reduceSub,Int.reduceToNat,Int.reduceAdd])<;>rfl) (by (simp (disch:=omega) only [push_cast,↓reduceIte,Nat.reduceEqDiff,Nat.reduceAdd,Nat.reduceLeDiff,sx,Int.reduceSub,Int.reduceToNat,Int.reduceAdd])<;>rfl) ?_)
  refine dp_ ?_
  refine reI_ ?_
  refine sk_ fun K2 hK2=>?_
  refine cy_ (fun hb3=>?_) (fun hb3=>?_) (hb:=by (simp (disch:=omega) only [push_cast,↓reduceIte,Nat.reduceEqDiff,Nat.reduceAdd,Nat.reduceLeDiff,sx,Int.reduceSub,Int.reduceToNat,Int.reduceAdd])<;>rfl)
  rotate_left
  ·
   simp only [hb3,nextV_f,cond_false]
   refine awp_exit (up_ ?_)
   refine hK1 _ ?_
   refine rs_ [4] ?_
   refine dp_ ?_
   refine reI_ ?_
   refine ret_ ?_
   refine fq_ (hres:=by (simp (disch:=omega) only [aresults,aresult,push_cast,↓reduceIte,Nat.reduceEqDiff,Nat.reduceAdd,Nat.reduceLeDiff,sx,Int.reduceSub,Int.reduceToNat,Int.reduceAdd])<;>rfl) Tryz.results187 ?_
   exact rk_ (by rw [hb2];rfl)
  simp only [hb3,nextV_t,cond_true]
  simp only [decide_eq_true_eq,decide_eq_false_iff_not,Bool.not_eq_true',Bool.not_eq_false',Bool.or_eq_true,Bool.and_eq_true,Bool.or_eq_false_iff,Bool.and_eq_false_imp,Int.not_lt,Int.not_le,push_cast] at hb3
  have hil:i<2:=by omega
  have hdec:=dec470 hil
  have hgd:=getD470 hil
  rw [hdec]
  simp only []
  refine skp_ ?_
  refine hK2 _ ?_
  refine awp_block ?_
  refine rs_ [5,6,175] ?_
  refine dp_ ?_
  refine dp_ ?_
  refine dp_ ?_
  refine dp_ ?_
  refine reI_ ?_
  refine rs_ [5,175,181] ?_
  refine dp_ ?_
  refine dp_ ?_
  refine reI_ ?_
  refine cx_ (fun hb4=>?_) (fun hb4=>?_) (hb:=by (simp (disch:=omega) only [push_cast,↓reduceIte,Nat.reduceEqDiff,Nat.reduceAdd,Nat.reduceLeDiff,sx,Int.reduceSub,Int.reduceToNat,Int.reduceAdd])<;>rfl)
  · exfalso;omega
  refine skp_ ?_
  refine ln_ ⟨i+1,by omega⟩ ?_
  try dsimp only
  refine Trunc.of (by first | exact (List.append_nil _).symm | exact rfl | (rw [List.append_assoc];rfl)) ?_ (HCl.snoc hH trivial) (fun _ h=>h)
  refine FTr.cons (by (simp (disch:=omega) only [push_cast,↓reduceIte,Nat.reduceEqDiff,Nat.reduceAdd,Nat.reduceLeDiff,sx,Int.reduceSub,Int.reduceToNat,Int.reduceAdd])<;>first | rfl | (congr 2;omega)) (by simp [AV.cl,AV.clL]) ?_
  exact FTr.nil
 refine rs_ [0,1,183] ?_
 refine dp_ ?_
 refine cl_ (hc:=c206 _ _ _) (k:=?_)
 refine dp_ ?_
 refine dp_ ?_
 refine reI_ ?_
 refine cdn_ (ht:=fun hb5=>?_) (hf:=fun hb5=>?_)
 ·
  refine rs_ [4] ?_
  refine dp_ ?_
  refine reI_ ?_
  refine ret_ ?_
  refine fq_ (hres:=by (simp (disch:=omega) only [aresults,aresult,push_cast,↓reduceIte,Nat.reduceEqDiff,Nat.reduceAdd,Nat.reduceLeDiff,sx,Int.reduceSub,Int.reduceToNat,Int.reduceAdd])<;>rfl) Tryz.results187 ?_
  exact rk_ (by rw [irF_high hr])
 obtain ⟨hl1,hl2,hl3⟩:=encS_facts hb5 hr
 refine awp_scope ?_
 refine rs_ [0,7] ?_
 refine dp_ ?_
 refine dp_ ?_
 refine dp_ ?_
 refine reI_ ?_
 refine rs_ [0,7,8] ?_
 refine dp_ ?_
 refine dp_ ?_
 refine dp_ ?_
 refine dp_ ?_
 refine reI_ ?_
 refine rs_ [0,7,8,9] ?_
 refine dp_ ?_
 refine dp_ ?_
 refine reI_ ?_
 refine rs_ [0,7,8,9] ?_
 refine dp_ ?_
 refine reI_ ?_
 refine sk_ fun K3 hK3=>?_
 refine awp_block ?_
 refine lp_ (X:=Unit) (fun x=>⟨Tryz.f187.ntmps,fget [(0,.str [47,0]),(7,.str (encS r)),(8,.int .i64 (((encS r).length:Nat) - 1)),(9,.int .i64 (((encS r).length:Nat) - 1))],h,live⟩) (fun x=>0) (()) ?_ (fun x=>?_)
 ·
  try dsimp only
  refine Trunc.same ?_ hH
  refine FTr.cons (by first | rfl | ((simp (disch:=omega) only [push_cast,↓reduceIte,Nat.reduceEqDiff,Nat.reduceAdd,Nat.reduceLeDiff,sx,Int.reduceSub,Int.reduceToNat,Int.reduceAdd])<;>rfl)) (by simp [AV.cl,AV.clL,clL_str]) ?_
  refine FTr.cons (by first | rfl | ((simp (disch:=omega) only [push_cast,↓reduceIte,Nat.reduceEqDiff,Nat.reduceAdd,Nat.reduceLeDiff,sx,Int.reduceSub,Int.reduceToNat,Int.reduceAdd])<;>rfl)) (by simp [AV.cl,AV.clL,clL_str]) ?_
  refine FTr.cons (by first | rfl | ((simp (disch:=omega) only [push_cast,↓reduceIte,Nat.reduceEqDiff,Nat.reduceAdd,Nat.reduceLeDiff,sx,Int.reduceSub,Int.reduceToNat,Int.reduceAdd])<;>rfl)) (by simp [AV.cl,AV.clL,clL_str]) ?_
  refine FTr.cons (by first | rfl | ((simp (disch:=omega) only [push_cast,↓reduceIte,Nat.reduceEqDiff,Nat.reduceAdd,Nat.reduceLeDiff,sx,Int.reduceSub,Int.reduceToNat,Int.reduceAdd])<;>rfl)) (by simp [AV.cl,AV.clL,clL_str]) ?_
  exact FTr.nil
 try dsimp only
 refine sk_ fun K4 hK4=>?_
 refine rs_ [0,7,8,9,26] ?_
 refine dp_ ?_
 refine dp_ ?_
 refine dp_ ?_
 refine dp_ ?_
 refine reI_ ?_
 refine cdn_ (ht:=fun hb6=>?_) (hf:=fun hb6=>?_)
 rotate_left
 ·
  refine awp_exit (up_ ?_)
  refine hK3 _ ?_
  refine sk_ fun K5 hK5=>?_
  refine rs_ [4] ?_
  refine dp_ ?_
  refine reI_ ?_
  refine ret_ ?_
  refine fq_ (hres:=by (simp (disch:=omega) only [aresults,aresult,push_cast,↓reduceIte,Nat.reduceEqDiff,Nat.reduceAdd,Nat.reduceLeDiff,sx,Int.reduceSub,Int.reduceToNat,Int.reduceAdd])<;>rfl) Tryz.results187 ?_
  exact rk_ (by rw [irF_high hr])
 simp only [decide_eq_true_eq,decide_eq_false_iff_not,Bool.not_eq_true',Bool.not_eq_false',Bool.or_eq_true,Bool.and_eq_true,Bool.or_eq_false_iff,Bool.and_eq_false_imp,Int.not_lt,Int.not_le,push_cast] at hb6
 have hl:(encS r).length=2:=by omega
 simp only [hl]
 refine skp_ ?_
 refine hK4 _ ?_
 refine awp_block ?_
 refine awp_scope ?_
 refine sk_ fun K6 hK6=>?_
 refine rsq_ [0,7,8,9,33] ⟨false,[],[],[],[],[],0⟩ (fun _=>⟨by kernel_rfl,by kernel_rfl⟩) ?_
 refine dp_ ?_
 refine dp_ ?_
 refine dp_ ?_
 refine dp_ ?_
 refine dp_ ?_
 refine dp_ ?_
 refine dp_ ?_
 refine reI_ ?_
 refine cx_ (fun hb7=>?_) (fun hb7=>?_) (hb:=by (simp (disch:=omega) only [push_cast,↓reduceIte,Nat.reduceEqDiff,Nat.reduceAdd,Nat.reduceLeDiff,sx,Int.reduceSub,Int.reduceToNat,Int.reduceAdd])<;>rfl)
 rotate_left
 · exfalso;rw [hl] at hl3;change 128≤((encS r).getD 1 0).toNat at hl3;have:(([47,0]:List UInt8).getD 1 0).toNat=0:=rfl;omega
 refine rsq_ [0,7,8,9,11] ⟨false,[],[],[],[],[],0⟩ (fun _=>⟨by kernel_rfl,by kernel_rfl⟩) ?_
 refine dp_ ?_
 refine dp_ ?_
 refine dp_ ?_
 refine dp_ ?_
 refine dp_ ?_
 refine dp_ ?_
 refine dp_ ?_
 refine cl_ (hc:=c137 _ _ _ _) (k:=?_)
 refine dp_ ?_
 refine reI_ ?_
 refine sk_ fun K7 hK7=>?_
 refine rs_ [0,7,8,9,11,43] ?_
 refine dp_ ?_
 refine dp_ ?_
 refine reI_ ?_
 refine cx_ (fun hb8=>?_) (fun hb8=>?_) (hb:=by (simp (disch:=omega) only [push_cast,↓reduceIte,Nat.reduceEqDiff,Nat.reduceAdd,Nat.reduceLeDiff,sx,Int.reduceSub,Int.reduceToNat,Int.reduceAdd])<;>rfl)
 ·
  refine rs_ [4] ?_
  refine dp_ ?_
  refine reI_ ?_
  refine ret_ ?_
  refine fq_ (hres:=by (simp (disch:=omega) only [aresults,aresult,push_cast,↓reduceIte,Nat.reduceEqDiff,Nat.reduceAdd,Nat.reduceLeDiff,sx,Int.reduceSub,Int.reduceToNat,Int.reduceAdd])<;>rfl) Tryz.results187 ?_
  exact rk_ (by rw [irF_high hr])
 exfalso;have:Lib.indexByte (List.take (2 - 2) ([]:List UInt8)) ((encS r).getD 1 0) = -1:=rfl;omega
theorem c176 (s:List UInt8) (h:List Blk) (live:List Nat) (hs:s.length≤9223372036854775807):ACalls Tryz.prog 176 [.str s,.str [47,0]] h live (fun x h' l'=>∃r:Int,x=.int .i64 r∧decide (0≤r)=s.any sl0∧h'=h∧l'=live):=by
 refine aq_ Tryz.func176 fun hH hX=>?_
 have hno:s.any sl0=false→decide ((0:Int) ≤ -1)=s.any sl0:=fun e=>by rw [e];rfl
 have hyes:∀i:Nat,s.any sl0=true→decide ((0:Int)≤i)=s.any sl0:=fun i e=>by rw [e];exact decide_eq_true (Int.natCast_nonneg i)
 have sx:=(And.intro @azero_as (And.intro @tk_as (And.intro @as_put0 (And.intro @as2_take sx0))))
 refine rg_ [0,1] ?_
 refine sk_ fun K1 hK1=>?_
 refine rg_ [0,1,12] ?_
 refine cdn_ (ht:=fun hb1=>?_) (hf:=fun hb1=>?_)
 · exfalso;simp at hb1
 refine skp_ ?_
 refine hK1 _ ?_
 refine sk_ fun K2 hK2=>?_
 refine rg_ [0,1,15] ?_
 refine cdn_ (ht:=fun hb2=>?_) (hf:=fun hb2=>?_)
 · exfalso;simp at hb2
 refine skp_ ?_
 refine hK2 _ ?_
 refine sk_ fun K3 hK3=>?_
 refine rs_ [0,1,26] ?_
 refine sg_ ?_
 refine cl_ (hc:=c188 _ _ _) (k:=?_)
 refine re_ ?_
 refine cy_ (fun hb4=>?_) (fun hb4=>?_)
 ·
  refine rs_ [0,1,6,7] ?_
  refine sg_ ?_
  refine cl_ (hc:=c189 _ _) (k:=?_)
  refine sre_ ?_
  refine rg_ [0,1,6,32] ?_
  refine cy_ (fun hb5=>?_) (fun hb5=>?_)
  ·
   refine sk_ fun K4 hK4=>?_
   refine rg_ [0,6,8] ?_
   refine awp_block ?_
   refine lp_ (X:={i:Nat // i≤s.length∧∀j,j<i→sl0 (s.getD j 0)=false}) (fun x=>⟨Tryz.f176.ntmps,fget [(0,.str s),(6,.ptr h.length 0),(8,.int .i64 (x.1:Nat))],h++[.cells as2],live⟩) (fun x=>s.length - x.1) (⟨0,by omega,fun j hj=>by omega⟩) ?_ (fun ⟨i,hi,hn⟩=>?_)
   ·
    try dsimp only
    exact tf_ (HCl.snoc hH (clL_as _ _ as2_b)) (fun _ h=>h)
   try dsimp only
   refine sk_ fun K5 hK5=>?_
   refine rg_ [0,6,8,36] ?_
   refine cx_ (fun hb6=>?_) (fun hb6=>?_)
   rotate_left
   ·
    have hf:=hno (any_take_false hn (by omega))
    refine awp_exit (up_ ?_)
    refine hK4 _ ?_
    refine rg_ [4] ?_
    refine ret_ ?_
    refine fq_ Tryz.results176 ?_
    first | exact ⟨_,rfl,hf,rfl,rfl⟩ | exact ⟨_,rfl,ht,rfl,rfl⟩
   have hil:i<s.length:=by omega
   refine skp_ ?_
   refine hK5 _ ?_
   refine sk_ fun K6 hK6=>?_
   refine awp_block ?_
   refine rs_ [0,6,8,42] ?_
   refine sg_ ?_
   refine cl_ (hc:=c190 _ (s.getD i 0) _ _ (by simp only [push_cast])) (k:=?_)
   refine re_ ?_
   refine cy_ (fun hb7=>?_) (fun hb7=>?_)
   ·
    have ht:=hyes i (any_get_true hil hb7)
    refine rg_ [4] ?_
    refine ret_ ?_
    refine fq_ Tryz.results176 ?_
    first | exact ⟨_,rfl,hf,rfl,rfl⟩ | exact ⟨_,rfl,ht,rfl,rfl⟩
   refine skp_ ?_
   refine hK6 _ ?_
   refine rt_ [0,6,8] ?_
   refine srn_ ?_
   refine ln_ ⟨i+1,by omega,fun j hj=>by rcases Nat.lt_succ_iff_lt_or_eq.1 hj with h | h;exact hn j h;subst h;exact hb7⟩ ?_
   try dsimp only
   exact tf_ (HCl.snoc hH (clL_as _ _ as2_b)) (fun _ h=>h)
  exfalso;simp at hb5
 refine skp_ ?_
 refine hK3 _ ?_
 refine sk_ fun K7 hK7=>?_
 refine rs_ [1,45] ?_
 refine sg_ ?_
 refine dawp_w rfl rfl rfl rfl (AOp.rangeS _ _ rfl Ty.isStrT_9 (by (simp (disch:=omega) only [push_cast,↓reduceIte,Nat.reduceEqDiff,Nat.reduceAdd,Nat.reduceLeDiff,sx])<;>rfl) ?_)
 refine re_ ?_
 refine awp_block ?_
 refine lp_ (X:={i:Nat // i≤s.length∧∀j,j<i→sl0 (s.getD j 0)=false}) (fun x=>⟨Tryz.f176.ntmps,fget [(1,.str [47,0]),(45,.ptr h.length 0)],h++[.siter s x.1],live⟩) (fun x=>s.length - x.1) (⟨0,by omega,fun j hj=>by omega⟩) ?_ (fun ⟨i,hi,hn⟩=>?_)
 ·
  try dsimp only
  exact tf_ (HCl.snoc hH trivial) (fun _ h=>h)
 try dsimp only
 refine rs_ [1,45,46,47] ?_
 refine dawp_w rfl rfl rfl rfl (AOp.nextS _ rfl (by (simp (disch:=omega) only [push_cast,↓reduceIte,Nat.reduceEqDiff,Nat.reduceAdd,Nat.reduceLeDiff,sx])<;>rfl) (by (simp (disch:=omega) only [push_cast,↓reduceIte,Nat.reduceEqDiff,Nat.reduceAdd,Nat.reduceLeDiff,sx])<;>rfl) ?_)
 refine sre_ ?_
 refine sk_ fun K8 hK8=>?_
 refine cy_ (fun hb8=>?_) (fun hb8=>?_)
 rotate_left
 ·
  simp only [hb8,nextV_f,cond_false]
  simp only [decide_eq_true_eq,decide_eq_false_iff_not,Bool.not_eq_true',Bool.not_eq_false',Bool.or_eq_true,Bool.and_eq_true,Bool.or_eq_false_iff,Bool.and_eq_false_imp,Int.not_lt,Int.not_le] at hb8
  have hf:=hno (any_take_false hn (by omega))
  refine awp_exit (up_ ?_)
  refine hK7 _ ?_
  refine rg_ [4] ?_
  refine ret_ ?_
  refine fq_ Tryz.results176 ?_
  first | exact ⟨_,rfl,hf,rfl,rfl⟩ | exact ⟨_,rfl,ht,rfl,rfl⟩
 simp only [hb8,nextV_t,cond_true]
 simp only [decide_eq_true_eq,decide_eq_false_iff_not,Bool.not_eq_true',Bool.not_eq_false',Bool.or_eq_true,Bool.and_eq_true,Bool.or_eq_false_iff,Bool.and_eq_false_imp,Int.not_lt,Int.not_le] at hb8
 have hil:i<s.length:=by omega
 have hst:=ir_step hil
 have hle:=dec_le s i
 refine skp_ ?_
 refine hK8 _ ?_
 refine awp_block ?_
 refine rg_ [1,9,10,45] ?_
 refine rs_ [1,9,45,53] ?_
 refine sg_ ?_
 refine cl_ (hc:=c187 _ _ _ (by omega) (by omega)) (k:=?_)
 refine sre_ ?_
 refine cy_ (fun hb9=>?_) (fun hb9=>?_)
 ·
  rw [hst.1] at hb9
  have ht:=hyes i (any_get_true hil hb9)
  refine rg_ [4] ?_
  refine ret_ ?_
  refine fq_ Tryz.results176 ?_
  first | exact ⟨_,rfl,hf,rfl,rfl⟩ | exact ⟨_,rfl,ht,rfl,rfl⟩
 rw [hst.1] at hb9
 have hsl:=hb9
 refine skp_ ?_
 refine ⟨⟨i+(dec s i).2,(hst.2 hsl).1,fun j hj=>by by_cases hji:j<i;exact hn j hji;exact (hst.2 hsl).2.2 j (by omega) hj⟩,?_,(by first | rfl | trivial | (simp only [List.length_set];done) | simp),by have:=(hst.2 hsl).2.1;have:=(hst.2 hsl).1;dsimp only;omega⟩
 try dsimp only
 exact tf_ (HCl.snoc hH trivial) (fun _ h=>h)
theorem c156 (s:List UInt8) (h:List Blk) (live:List Nat) (hs:s.length≤9223372036854775807):AC Tryz.prog 156 [.str s,.str [47,0]] h live (.bool (s.any sl0)):=by
 refine aq_ Tryz.func156 fun hH hX=>?_
 refine rg_ [0,1] ?_
 refine rs_ [4] ?_
 refine sg_ ?_
 refine ck_ (k:=?_)
 refine (c176 s _ _ hs).mono ?_;rintro _ _ _ ⟨r,rfl,hr,rfl,rfl⟩
 refine srt_ ?_
 refine fq_ Tryz.results156 ?_
 exact rk_ (by rw [hr])
end Go.Proofs.YtjmlgeckgieaaaaGreat
