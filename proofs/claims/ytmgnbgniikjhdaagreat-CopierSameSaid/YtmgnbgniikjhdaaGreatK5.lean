import Derived.Test.YtmgnbgniikjhdaaGreatK4
/-
  OPTIONS: how words are read (the program's).
-/
set_option linter.unusedVariables false
set_option linter.unusedSimpArgs false
namespace Go.Proofs.YtmgnbgniikjhdaaGreat
open Go.Ab
set_option maxRecDepth 8000
set_option maxHeartbeats 400000
def mayB (may:List UInt8) (c:UInt8):Bool:=!(decide (Lib.indexByte may c<0)||decide ((c.toNat:Int)=58)||decide ((c.toNat:Int)=45))
def valB (may:List UInt8) (c:UInt8):Bool:=decide (Lib.indexByte may c+1<may.length)&&decide (((may.getD (Lib.indexByte may c+1).toNat 0).toNat:Int)=58)
theorem c119 (may:List UInt8) (c:UInt8) (H:List Blk) (live:List Nat) (k:Nat) (a0 a1 a3:AV) (hk:H[k]? = some (.cells [a0,a1,.str may,a3])) (hm:may.length≤1000000) :
 ACalls Tryz.prog 119 [.ptr k 0,.int .u8 c.toNat] H live (ret (.tup [.bool (mayB may c),.bool (mayB may c&&valB may c)]) H live):=by
 refine aq_ Tryz.func119 fun hH hX=>?_
 have hi:=idx_range may c
 have sx:=(And.intro @hk sx0)
 refine rg_ [0,1] ?_
 refine rs_ [0,1,6] ?_
 refine sg_ ?_
 refine cl_ (hc:=c170 _ _ _ _) (k:=?_)
 refine sre_ ?_
 refine sk_ fun K1 hK1=>?_
 refine rg_ [0,6,22] ?_
 refine cy_ (fun hb1=>?_) (fun hb1=>?_)
 ·
  refine rg_ [4,5] ?_
  refine ret_ ?_
  refine fq_ Tryz.results119 ?_
  exact rk_ (by simp [mayB,hb1])
 refine skp_ ?_
 refine hK1 _ ?_
 refine rsq_ [4,5] ⟨false,[],[],[],[],[],0⟩ (fun _=>⟨by kernel_rfl,by kernel_rfl⟩) ?_
 refine srt_ ?_
 refine fq_ Tryz.results119 ?_
 exact rk_ (by simp [mayB,valB,hb1])
abbrev Fl:=UInt8×List UInt8
def eF (f:Fl):AV:=.agg [.int .u8 f.1.toNat,.str f.2]
theorem getD_eF {l:List Fl} {i:Nat} {d:AV} (h:i<l.length):(l.map eF).getD i d=.agg [.int .u8 (l.getD i (0,[])).1.toNat,.str (l.getD i (0,[])).2]:=by
 simp [List.getD_eq_getElem?_getD,h,eF]
attribute [push_cast] getD_eF
theorem clL_eF (n:Nat) (l:List Fl):AV.clL n (l.map eF):=by
 rw [AV.clL_mem];intro x hx;obtain ⟨y, _,rfl⟩:=List.mem_map.1 hx;exact ⟨trivial,trivial,trivial⟩
def valStep (c:UInt8) (a:List UInt8×Bool) (f:Fl):List UInt8×Bool:=bif decide ((f.1.toNat:Int)=c.toNat) then (f.2,true) else a
def valF (l:List Fl) (c:UInt8):List UInt8×Bool:=l.foldl (valStep c) ([],false)
attribute [push_cast] clL_eF
theorem c82 (l:List Fl) (c1:Cap) (r:List (List UInt8)) (c2:Cap) (c:UInt8) (h:List Blk) (live:List Nat) (hl:l.length≤1000000000):AC Tryz.prog 82 [.agg [.slice (l.map eF) c1,.slice (r.map .str) c2],.int .u8 c.toNat] h live (.tup [.str (valF l c).1,.bool (valF l c).2]):=by
 refine aq_ Tryz.func82 fun hH hX=>?_
 refine rg_ [1,2] ?_
 refine rg_ [1,2,6,7] ?_
 refine sk_ fun K1 hK1=>?_
 refine rg_ [1,6,7,11,12,13] ?_
 refine awp_block ?_
 refine lp_ (X:={i:Nat // i≤l.length}) (fun x=>⟨Tryz.f82.ntmps,fget [(1,.int .u8 c.toNat),(6,.str ((l.take x.1).foldl (valStep c) ([],false)).1),(7,.bool ((l.take x.1).foldl (valStep c) ([],false)).2),(11,.slice (l.map eF) c1),(12,.int .i64 l.length),(13,.int .i64 (x.1:Nat))],h++[.cells [.slice (l.map eF) c1,.slice (r.map .str) c2]],live⟩) (fun x=>l.length - x.1) (⟨0,by omega⟩) ?_ (fun ⟨i,hi⟩=>?_)
 ·
  try dsimp only
  refine Trunc.of (by first | exact (List.append_nil _).symm | exact rfl | (rw [List.append_assoc];rfl)) ?_ (HCl.snoc hH (by simp [Blk.cl,AV.cl,AV.clL,clL_eF,clL_str])) (fun _ h=>h)
  refine ftc_ ?_ (hc:=by simp [AV.cl,AV.clL,clL_eF,clL_str])
  refine ftc_ ?_ (hc:=by simp [AV.cl,AV.clL,clL_eF,clL_str])
  refine ftc_ ?_ (hc:=by simp [AV.cl,AV.clL,clL_eF,clL_str])
  refine ftc_ ?_ (hc:=by simp [AV.cl,AV.clL,clL_eF,clL_str])
  refine ftc_ ?_ (hc:=by simp [AV.cl,AV.clL,clL_eF,clL_str])
  refine ftc_ ?_ (hc:=by simp [AV.cl,AV.clL,clL_eF,clL_str])
  exact FTr.nil
 try dsimp only
 refine rg_ [1,6,7,11,12,13,14] ?_
 refine sk_ fun K2 hK2=>?_
 refine cx_ (fun hb1=>?_) (fun hb1=>?_)
 rotate_left
 ·
  refine awp_exit (up_ ?_)
  refine hK1 _ ?_
  refine rg_ [4,5] ?_
  refine ret_ ?_
  refine fq_ Tryz.results82 ?_
  exact rk_ (by rw [List.take_of_length_le (by omega)];rfl)
 refine skp_ ?_
 refine hK2 _ ?_
 refine sk_ fun K3 hK3=>?_
 refine awp_block ?_
 refine rg_ [1,6,7,9,11,12,13] ?_
 refine rg_ [1,6,7,9,11,12,13,20] ?_
 refine cx_ (fun hb2=>?_) (fun hb2=>?_)
 ·
  refine rt_ [1,6,7,11,12,13] ?_
  refine srn_ ?_
  refine hK3 _ ?_
  refine rt_ [1,6,7,11,12,13] ?_
  refine srn_ ?_
  have ht:(l.take (i+1)).foldl (valStep c) ([],false)=((l.getD i (0,[])).2,true):=by rw [foldl_take _ _ _ _ (0,[]) (by omega),valStep,decide_eq_true hb2];rfl
  refine ln_ ⟨i+1,by omega⟩ ?_
  try dsimp only
  refine Trunc.of (by first | exact (List.append_nil _).symm | exact rfl | (rw [List.append_assoc];rfl)) ?_ (HCl.snoc hH (by simp [Blk.cl,AV.cl,AV.clL,clL_eF,clL_str])) (fun _ h=>h)
  refine FTr.cons (by (simp (disch:=omega) only [push_cast,↓reduceIte,Nat.reduceEqDiff,Nat.reduceAdd,Nat.reduceLeDiff,sx])<;>first | rfl | (congr 2;omega) | (rw [ht])) (by simp [AV.cl,AV.clL,clL_eF,clL_str]) ?_
  refine FTr.cons (by (simp (disch:=omega) only [push_cast,↓reduceIte,Nat.reduceEqDiff,Nat.reduceAdd,Nat.reduceLeDiff,sx])<;>first | rfl | (congr 2;omega) | (rw [ht])) (by simp [AV.cl,AV.clL,clL_eF,clL_str]) ?_
  refine FTr.cons (by (simp (disch:=omega) only [push_cast,↓reduceIte,Nat.reduceEqDiff,Nat.reduceAdd,Nat.reduceLeDiff,sx])<;>first | rfl | (congr 2;omega) | (rw [ht])) (by simp [AV.cl,AV.clL,clL_eF,clL_str]) ?_
  refine FTr.cons (by (simp (disch:=omega) only [push_cast,↓reduceIte,Nat.reduceEqDiff,Nat.reduceAdd,Nat.reduceLeDiff,sx])<;>first | rfl | (congr 2;omega) | (rw [ht])) (by simp [AV.cl,AV.clL,clL_eF,clL_str]) ?_
  refine FTr.cons (by (simp (disch:=omega) only [push_cast,↓reduceIte,Nat.reduceEqDiff,Nat.reduceAdd,Nat.reduceLeDiff,sx])<;>first | rfl | (congr 2;omega) | (rw [ht])) (by simp [AV.cl,AV.clL,clL_eF,clL_str]) ?_
  refine FTr.cons (by (simp (disch:=omega) only [push_cast,↓reduceIte,Nat.reduceEqDiff,Nat.reduceAdd,Nat.reduceLeDiff,sx])<;>first | rfl | (congr 2;omega) | (rw [ht])) (by simp [AV.cl,AV.clL,clL_eF,clL_str]) ?_
  exact FTr.nil
 refine skp_ ?_
 refine hK3 _ ?_
 refine rt_ [1,6,7,11,12,13] ?_
 refine srn_ ?_
 have ht:(l.take (i+1)).foldl (valStep c) ([],false)=(l.take i).foldl (valStep c) ([],false):=by rw [foldl_take _ _ _ _ (0,[]) (by omega),valStep,decide_eq_false hb2];rfl
 refine ln_ ⟨i+1,by omega⟩ ?_
 try dsimp only
 refine Trunc.of (by first | exact (List.append_nil _).symm | exact rfl | (rw [List.append_assoc];rfl)) ?_ (HCl.snoc hH (by simp [Blk.cl,AV.cl,AV.clL,clL_eF,clL_str])) (fun _ h=>h)
 refine FTr.cons (by (simp (disch:=omega) only [push_cast,↓reduceIte,Nat.reduceEqDiff,Nat.reduceAdd,Nat.reduceLeDiff,sx])<;>first | rfl | (congr 2;omega) | (rw [ht])) (by simp [AV.cl,AV.clL,clL_eF,clL_str]) ?_
 refine FTr.cons (by (simp (disch:=omega) only [push_cast,↓reduceIte,Nat.reduceEqDiff,Nat.reduceAdd,Nat.reduceLeDiff,sx])<;>first | rfl | (congr 2;omega) | (rw [ht])) (by simp [AV.cl,AV.clL,clL_eF,clL_str]) ?_
 refine FTr.cons (by (simp (disch:=omega) only [push_cast,↓reduceIte,Nat.reduceEqDiff,Nat.reduceAdd,Nat.reduceLeDiff,sx])<;>first | rfl | (congr 2;omega) | (rw [ht])) (by simp [AV.cl,AV.clL,clL_eF,clL_str]) ?_
 refine FTr.cons (by (simp (disch:=omega) only [push_cast,↓reduceIte,Nat.reduceEqDiff,Nat.reduceAdd,Nat.reduceLeDiff,sx])<;>first | rfl | (congr 2;omega) | (rw [ht])) (by simp [AV.cl,AV.clL,clL_eF,clL_str]) ?_
 refine FTr.cons (by (simp (disch:=omega) only [push_cast,↓reduceIte,Nat.reduceEqDiff,Nat.reduceAdd,Nat.reduceLeDiff,sx])<;>first | rfl | (congr 2;omega) | (rw [ht])) (by simp [AV.cl,AV.clL,clL_eF,clL_str]) ?_
 refine FTr.cons (by (simp (disch:=omega) only [push_cast,↓reduceIte,Nat.reduceEqDiff,Nat.reduceAdd,Nat.reduceLeDiff,sx])<;>first | rfl | (congr 2;omega) | (rw [ht])) (by simp [AV.cl,AV.clL,clL_eF,clL_str]) ?_
 exact FTr.nil
theorem eFs_er (l:List Fl):AV.erL (l.map eF)=l.map eF:=by
 rw [AV.erL_map,List.map_map];rfl
theorem c50 (l:List Fl) (c1:Cap) (r:List (List UInt8)) (c2:Cap) (c:UInt8) (h:List Blk) (live:List Nat) (hl:l.length≤1000000000):AC Tryz.prog 50 [.agg [.slice (l.map eF) c1,.slice (r.map .str) c2],.int .u8 c.toNat] h live (.bool (valF l c).2):=by
 refine aq_ Tryz.func50 fun hH hX=>?_
 refine rg_ [1,2] ?_
 refine rs_ [6] ?_
 refine sg_ ?_
 refine cl_ (hc:=c82 l _ r _ c _ _ hl) (k:=?_)
 refine sre_ ?_
 refine rg_ [4] ?_
 refine ret_ ?_
 refine fq_ Tryz.results50 ?_
 exact rk_ rfl
def letters (may:List UInt8):List UInt8→List Fl→List (List UInt8)→Option (List Fl×List (List UInt8))
 | [],fl,left=>some (fl,left)
 | c::s,fl,left=>
  bif mayB may c then
   bif valB may c then
    match s with
    | []=>match left with
     | []=>none
     | a::r=>some (fl++[(c,a)],r)
    | d::s=>some (fl++[(c,d::s)],left)
   else letters may s (fl++[(c,[])]) left
  else none
theorem drop_getD {α:Type} (s:List α) (i:Nat) (d:α) (hi:i<s.length):s.drop i=s.getD i d::s.drop (i+1):=by
 rw [List.drop_eq_getElem_cons hi];simp [List.getD_eq_getElem?_getD,hi]
theorem letters_cons (may:List UInt8) (c:UInt8) (s:List UInt8) (fl:List Fl) (left:List (List UInt8)):letters may (c::s) fl left=bif mayB may c then bif valB may c then (match s with
 | []=>match left with
  | []=>none
  | a::r=>some (fl++[(c,a)],r)
 | d::s=>some (fl++[(c,d::s)],left)) else letters may s (fl++[(c,[])]) left else none:=by
 cases s<;>cases left<;>rfl
section
variable {may s:List UInt8} {i:Nat} {fl:List Fl} {left:List (List UInt8)}
theorem letters_no (hi:i<s.length) (hm:mayB may (s.getD i 0)=false):letters may (s.drop i) fl left=none:=by
 rw [drop_getD s i 0 hi,letters_cons,hm];rfl
theorem letters_plain (hi:i<s.length) (hm:mayB may (s.getD i 0)=true) (hv:valB may (s.getD i 0)=false):letters may (s.drop i) fl left=letters may (s.drop (i+1)) (fl++[(s.getD i 0,[])]) left:=by
 rw [drop_getD s i 0 hi,letters_cons,hm,hv];rfl
theorem letters_own (hi:i<s.length) (hm:mayB may (s.getD i 0)=true) (hv:valB may (s.getD i 0)=true) (he:s.drop (i+1)≠[]):letters may (s.drop i) fl left=some (fl++[(s.getD i 0,s.drop (i+1))],left):=by
 rw [drop_getD s i 0 hi,letters_cons,hm,hv]
 cases h:s.drop (i+1) with
 | nil=>exact absurd h he
 | cons d s'=>rfl
theorem letters_next (hi:i<s.length) (hm:mayB may (s.getD i 0)=true) (hv:valB may (s.getD i 0)=true) (he:s.drop (i+1)=[]) (hl:0<left.length):letters may (s.drop i) fl left=some (fl++[(s.getD i 0,left.getD 0 [])],left.drop 1):=by
 rw [drop_getD s i 0 hi,letters_cons,hm,hv,he]
 cases left with
 | nil=>simp at hl
 | cons a r=>rfl
theorem letters_none (hi:i<s.length) (hm:mayB may (s.getD i 0)=true) (hv:valB may (s.getD i 0)=true) (he:s.drop (i+1)=[]) (hl:left.length=0):letters may (s.drop i) fl left=none:=by
 rw [drop_getD s i 0 hi,letters_cons,hm,hv,he]
 cases left with
 | nil=>rfl
 | cons a r=>simp at hl
theorem letters_end (hi:s.length≤i):letters may (s.drop i) fl left=some (fl,left):=by
 rw [List.drop_of_length_le hi];rfl
end
theorem cells_eF (l:List Fl):∀y∈l.map eF,y.cells.length=2:=by
 intro y hy;obtain ⟨x, _,rfl⟩:=List.mem_map.1 hy;rfl
theorem cells_strs (l:List (List UInt8)):∀y∈l.map AV.str,y.cells.length=1:=by
 intro y hy;obtain ⟨x, _,rfl⟩:=List.mem_map.1 hy;rfl
theorem eF_snoc (l:List Fl) (a:UInt8) (v:List UInt8):l.map eF++[.agg [.int .u8 a.toNat,.str v]]=(l++[(a,v)]).map eF:=by simp [eF]
theorem len_snoc {α:Type} (l:List α) (a:α):(l++[a]).length=l.length+1:=by simp
def wordK (k:Nat) (may:List UInt8) (rst:AV) (h:List Blk) (live:List Nat) (c:Cap) (res:Option (List Fl×List (List UInt8))):KT:=fun x h' live'=>
 x=.bool res.isSome∧∃b c',h'=h.set k b∧Keeps live c live' c'∧∀fl left,res=some (fl,left)→∃cl',b=.cells [.slice (fl.map eF) c',rst,.str may,.slice (left.map .str) cl']
theorem letters_spec (may:List UInt8):∀(s:List UInt8) (fl:List Fl) (left:List (List UInt8)) (fl':List Fl) (left':List (List UInt8)),letters may s fl left=some (fl',left')→(left'=left∨left'=left.drop 1)∧fl'.length≤fl.length+s.length
 | [],fl,left,fl',left',h=>by cases h;exact ⟨.inl rfl,by simp⟩
 | c::s,fl,left,fl',left',h=>by
  rw [letters_cons] at h
  cases hm:mayB may c<;>rw [hm] at h
  · cases h
  ·
   cases hv:valB may c<;>rw [hv] at h
   ·
    have:=letters_spec may s (fl++[(c,[])]) left fl' left' h
    simp at this ⊢
    exact ⟨this.1,by omega⟩
   ·
    cases s with
    | nil=>cases left with
     | nil=>cases h
     | cons a r=>cases h;exact ⟨.inr rfl,by simp⟩
    | cons d s=>cases h;exact ⟨.inl rfl,by simp⟩
theorem c81 (may s:List UInt8) (fl:List Fl) (left:List (List UInt8)) (c cl:Cap) (rst:AV) (k:Nat) (h:List Blk) (live:List Nat) (hk:h[k]? = some (.cells [.slice (fl.map eF) c,rst,.str may,.slice (left.map .str) cl])) (hc:CapOK live c) (hrst:rst.cl h.length) (hm:may.length≤1000000) (hs:s.length≤1000000) (hfl:fl.length≤1000000) (hleft:left.length≤1000000) :
 ACalls Tryz.prog 81 [.ptr k 0,.str s] h live (wordK k may rst h live c (letters may s fl left)):=by
 refine aq_ Tryz.func81 fun hH hX=>?_
 have hkl:k<h.length:=(List.getElem?_eq_some_iff.1 hk).1
 have hB:∀(a:List Fl) b (d:List (List UInt8)) e,HCl (h.set k (.cells [.slice (a.map eF) b,rst,.str may,.slice (d.map .str) e])):=fun a b d e=>HCl.set hH k (by simp [Blk.cl,AV.cl,AV.clL,clL_eF,clL_str,hrst])
 have sx:=(And.intro @eF_snoc sx0)
 refine rg_ [0,1] ?_
 refine sk_ fun K1 hK1=>?_
 refine rg_ [0,1,10,11] ?_
 refine awp_block ?_
 refine lp_ (X:={p:Nat×List Fl×Cap×List Nat // p.1≤s.length∧p.2.1.length≤fl.length+p.1∧Keeps live c p.2.2.2 p.2.2.1∧letters may (s.drop p.1) p.2.1 left=letters may s fl left}) (fun x=>⟨Tryz.f81.ntmps,fget [(0,.ptr k 0),(1,.str s),(10,.int .i64 s.length),(11,.int .i64 (x.1.1:Nat))],h.set k (.cells [.slice (x.1.2.1.map eF) x.1.2.2.1,rst,.str may,.slice (left.map .str) cl]),x.1.2.2.2⟩) (fun x=>s.length - x.1.1) (⟨⟨0,fl,c,live⟩,by simp,by simp,Keeps.refl hc,rfl⟩) ?_ (fun ⟨⟨i,fl',c',live'⟩,hi,hfl',hkp,hlt⟩=>?_)
 ·
  try dsimp only
  exact tf_ (hB _ _ _ _) (fun _ h=>h) (hj:=(by first | exact (List.append_nil _).symm | (rw [List.append_nil,set_self hk]) | rfl))
 try dsimp only
 have hcok:=hkp.ok
 dsimp only at hi hfl'
 refine rg_ [0,1,10,11,12] ?_
 refine sk_ fun K2 hK2=>?_
 refine cx_ (fun hb1=>?_) (fun hb1=>?_)
 rotate_left
 ·
  refine awp_exit (up_ ?_)
  refine hK1 _ ?_
  refine rg_ [4] ?_
  refine ret_ ?_
  refine gq_ (h1:=h.set k _) Tryz.results81 ?_ (hH:=(hB _ _ _ _))
  rw [←hlt,letters_end (by omega)]
  exact ⟨rfl, _,c',rfl,hkp,by rintro _ _ ⟨⟩;exact ⟨_,rfl⟩⟩
 refine skp_ ?_
 refine hK2 _ ?_
 refine sk_ fun K3 hK3=>?_
 refine awp_block ?_
 refine rg_ [0,1,5,10,11] ?_
 refine rs_ [0,1,5,6,7,10,11] ?_
 refine sg_ ?_
 refine cl_ (hc:=c119 may _ _ _ k _ _ _ (by rw [get_setk hkl]) hm) (k:=?_)
 refine sre_ ?_
 refine sk_ fun K4 hK4=>?_
 refine rg_ [0,1,5,7,10,11,23] ?_
 refine cx_ (fun hb2=>?_) (fun hb2=>?_)
 ·
  refine rg_ [4] ?_
  refine ret_ ?_
  refine gq_ (h1:=h.set k _) Tryz.results81 ?_ (hH:=(hB _ _ _ _))
  rw [←hlt,letters_no (by omega) (by simpa using hb2)]
  exact ⟨rfl, _,c',rfl,hkp,by rintro _ _ ⟨⟩⟩
 refine skp_ ?_
 refine hK4 _ ?_
 refine rg_ [0,1,5,7,8,10,11] ?_
 refine sk_ fun K5 hK5=>?_
 refine rg_ [0,1,5,7,8,10,11,28] ?_
 refine cx_ (fun hb3=>?_) (fun hb3=>?_)
 ·
  refine rg_ [0,1,7,8,10,11] ?_
  refine rg_ [0,1,7,8,10,11,36] ?_
  refine cx_ (fun hb4=>?_) (fun hb4=>?_)
  ·
   refine sk_ fun K6 hK6=>?_
   refine rg_ [0,1,7,8,10,11,42] ?_
   refine cx_ (fun hb5=>?_) (fun hb5=>?_)
   ·
    refine rg_ [4] ?_
    refine ret_ ?_
    refine gq_ (h1:=h.set k _) Tryz.results81 ?_ (hH:=(hB _ _ _ _))
    rw [←hlt,letters_none (by omega) hb2 hb3.2 hb4 (by omega)]
    exact ⟨rfl, _,c',rfl,hkp,by rintro _ _ ⟨⟩⟩
   refine skp_ ?_
   refine hK6 _ ?_
   refine rtq_ [0,1,7,8,10,11] ⟨false,[(k,3,.one)],[53],[55],[],[],0⟩ (fun _=>⟨by kernel_rfl,by kernel_rfl⟩) ?_
   refine sg_ ?_
   refine df_ ?_
   refine sg_ ?_
   refine dgs_ ?_
   refine srn_ ?_
   refine hK5 _ ?_
   refine rsq_ [0,1,7,10,11] ⟨false,[],[],[],[],[],0⟩ (fun _=>⟨by kernel_rfl,by kernel_rfl⟩) ?_
   refine sg_ ?_
   refine ap_ (a:=hcok) (b:=cells_eF _) (c':=by simp [AV.cells]) (d:=by simp;omega) (e:=by simp;omega) (k:=?_)
   intro c66 live66 hk66
   refine sre_ ?_
   refine rg_ [0,1,10,11,70] ?_
   refine cdy_ (ht:=fun hb6=>?_) (hf:=fun hb6=>?_)
   ·
    refine awp_exit (up_ ?_)
    refine hK1 _ ?_
    refine rg_ [4] ?_
    refine ret_ ?_
    refine gq_ (h1:=h.set k _) Tryz.results81 ?_ (hH:=(hB _ _ _ _))
    rw [←hlt,letters_next (by omega) hb2 hb3.2 hb4 (by omega)]
    exact ⟨rfl, _,c66,rfl,hkp.trans hk66,by rintro _ _ ⟨⟩;exact ⟨_,rfl⟩⟩
   exfalso;rw [hb3.1,hb3.2] at hb6;exact Bool.noConfusion hb6
  refine skp_ ?_
  refine hK5 _ ?_
  refine rsq_ [0,1,7,10,11] ⟨false,[],[],[],[],[],0⟩ (fun _=>⟨by kernel_rfl,by kernel_rfl⟩) ?_
  refine sg_ ?_
  refine ap_ (a:=hcok) (b:=cells_eF _) (c':=by simp [AV.cells]) (d:=by simp;omega) (e:=by simp;omega) (k:=?_)
  intro c66 live66 hk66
  refine sre_ ?_
  refine rg_ [0,1,10,11,70] ?_
  refine cdy_ (ht:=fun hb6=>?_) (hf:=fun hb6=>?_)
  ·
   refine awp_exit (up_ ?_)
   refine hK1 _ ?_
   refine rg_ [4] ?_
   refine ret_ ?_
   refine gq_ (h1:=h.set k _) Tryz.results81 ?_ (hH:=(hB _ _ _ _))
   rw [←hlt,letters_own (by omega) hb2 hb3.2 hb4]
   exact ⟨rfl, _,c66,rfl,hkp.trans hk66,by rintro _ _ ⟨⟩;exact ⟨_,rfl⟩⟩
  exfalso;rw [hb3.1,hb3.2] at hb6;exact Bool.noConfusion hb6
 refine skp_ ?_
 refine hK5 _ ?_
 refine rsq_ [0,1,7,10,11] ⟨false,[],[],[],[],[],0⟩ (fun _=>⟨by kernel_rfl,by kernel_rfl⟩) ?_
 refine sg_ ?_
 refine ap_ (a:=hcok) (b:=cells_eF _) (c':=by simp [AV.cells]) (d:=by simp;omega) (e:=by simp;omega) (k:=?_)
 intro c66 live66 hk66
 refine sre_ ?_
 refine rg_ [0,1,10,11,70] ?_
 refine cdn_ (ht:=fun hb6=>?_) (hf:=fun hb6=>?_)
 · exfalso;simp only [Bool.and_eq_true] at hb6;have:=hb3 hb6.1;rw [hb6.2] at this;exact Bool.noConfusion this
 refine skp_ ?_
 refine hK3 _ ?_
 refine rt_ [0,1,10,11] ?_
 refine srn_ ?_
 refine ln_ ⟨⟨i+1,fl'++[(s.getD i 0,[])],c66,live66⟩,by dsimp only;omega,by simp;omega,hkp.trans hk66,by rw [←hlt,letters_plain (by omega) hb2 (hb3 hb2)]⟩ ?_
 try dsimp only
 exact tf_ (hB _ _ _ _) (fun _ h=>h) (hj:=(by first | exact (List.append_nil _).symm | (rw [List.append_nil,set_self hk]) | rfl))
theorem clL_str_tail (n:Nat) (l:List (List UInt8)):AV.clL n (l.map AV.str).tail:=by
 rw [←List.map_tail];exact clL_str _ _
attribute [push_cast] clL_str_tail
def isOpt (s:List UInt8):Bool:=!(decide ((s.length:Int)<2)||!decide (((s.getD 0 0).toNat:Int)=45))
def parseF (may:List UInt8):Nat→List (List UInt8)→List Fl→Option (List Fl×List (List UInt8))
 | 0,left,fl=>some (fl,left)
 | n+1,left,fl=>match left with
  | []=>some (fl,[])
  | s::r=>
   bif isOpt s then
    bif decide (s=[45,45]) then some (fl,r)
    else match letters may (s.drop 1) fl r with
     | none=>none
     | some (fl',r')=>parseF may n r' fl'
   else some (fl,s::r)
def parse (may:List UInt8) (args:List (List UInt8)):Option (List Fl×List (List UInt8)):=parseF may args.length args []
def pf (o:Option (List Fl×List (List UInt8))):List Fl:=match o with | some (fl, _)=>fl | none=>[]
def pr (o:Option (List Fl×List (List UInt8))):List (List UInt8):=match o with | some (_,r)=>r | none=>[]
def errP (b:Bool):Int:=bif b then 0 else 22
def parseV (o:Option (List Fl×List (List UInt8))):AV:=.tup [.agg [.slice ((pf o).map eF) .none,.slice ((pr o).map .str) .none],.int .i64 (errP o.isSome)]
section
variable {may:List UInt8} {n:Nat} {left:List (List UInt8)} {fl:List Fl}
theorem parseF_nil (hl:left.length=0):parseF may n left fl=some (fl,[]):=by
 cases left with
 | nil=>cases n<;>rfl
 | cons _ _=>simp at hl
theorem parseF_stop (hl:0<left.length) (ho:isOpt (left.getD 0 [])=false):parseF may n left fl=some (fl,left):=by
 cases left with
 | nil=>simp at hl
 | cons s r=>cases n with
  | zero=>rfl
  | succ n=>simp at ho;simp only [parseF,ho];rfl
theorem parseF_dash (hl:0<left.length) (hn:left.length≤n) (ho:isOpt (left.getD 0 [])=true) (hd:left.getD 0 []=[45,45]):parseF may n left fl=some (fl,left.drop 1):=by
 cases left with
 | nil=>simp at hl
 | cons s r=>cases n with
  | zero=>simp at hn
  | succ n=>simp at ho hd;subst hd;simp only [parseF,ho];rfl
theorem parseF_word (hl:0<left.length) (hn:left.length≤n) (ho:isOpt (left.getD 0 [])=true) (hd:left.getD 0 []≠[45,45]):parseF may n left fl=match letters may ((left.getD 0 []).drop 1) fl (left.drop 1) with
 | none=>none
 | some (fl',r')=>parseF may (n - 1) r' fl':=by
 cases left with
 | nil=>simp at hl
 | cons s r=>cases n with
  | zero=>simp at hn
  | succ n=>
   simp at ho hd
   simp only [parseF,ho,List.getD_cons_zero,List.drop_succ_cons,List.drop_zero,Nat.add_sub_cancel]
   rw [decide_eq_false hd];rfl
end
theorem getD0_mem {α:Type} {l:List α} (d:α) (h:0<l.length):l.getD 0 d∈l:=by
 cases l with
 | nil=>simp at h
 | cons a r=>simp
theorem c48 (may:List UInt8) (args:List (List UInt8)) (cl:Cap) (h:List Blk) (live:List Nat) (hm:may.length≤1000000) (hargs:args.length≤1000) (hw:∀s∈args,s.length≤1000) :
 AC Tryz.prog 48 [.str may,.slice (args.map .str) cl] h live (parseV (parse may args)):=by
 refine aq_ Tryz.func48 fun hH hX=>?_
 have hB:∀(a:List Fl) b (d:List (List UInt8)) e,HCl (h++[.cells [.slice [] .full,.slice [] .full],.cells [.slice (a.map eF) b,.slice [] .full,.str may,.slice (d.map .str) e]]):=fun a b d e=>by
  have:=HCl.snoc (HCl.snoc hH (b:=.cells [.slice [] .full,.slice [] .full]) (by simp [Blk.cl,AV.cl,AV.clL])) (b:=.cells [.slice (a.map eF) b,.slice [] .full,.str may,.slice (d.map .str) e]) (by simp [Blk.cl,AV.cl,AV.clL,clL_eF,clL_str])
  simpa using this
 have sx:=(And.intro @eF_snoc sx0)
 refine rg_ [0,1,4] ?_
 refine rg_ [4,6] ?_
 refine sk_ fun K1 hK1=>?_
 refine awp_block ?_
 refine lp_ (X:={p:Nat×List Fl×Cap×List Nat×List (List UInt8)×Cap // p.2.2.2.2.1.length≤p.1∧p.1≤args.length∧p.2.1.length≤1000*(args.length - p.1)∧Keeps live .full p.2.2.2.1 p.2.2.1∧(∀s∈p.2.2.2.2.1,s.length≤1000)∧parseF may p.1 p.2.2.2.2.1 p.2.1=parse may args}) (fun x=>⟨Tryz.f48.ntmps,fget [(4,.ptr h.length 0),(6,.ptr (h.length+1) 0)],h++[.cells [.slice [] .full,.slice [] .full],.cells [.slice (x.1.2.1.map eF) x.1.2.2.1,.slice [] .full,.str may,.slice (x.1.2.2.2.2.1.map .str) x.1.2.2.2.2.2]],x.1.2.2.2.1⟩) (fun x=>x.1.1) (⟨⟨args.length,[],.full,live,args,cl⟩,Nat.le_refl _,Nat.le_refl _,by simp,Keeps.refl (.inl rfl),hw,rfl⟩) ?_ (fun ⟨⟨n,fl',c',live',left,cl'⟩,hln,hna,hfl',hkp,hws,hlt⟩=>?_)
 ·
  try dsimp only
  exact tf_ (hB _ _ _ _) (fun _ h=>h)
 try dsimp only
 have hcok:=hkp.ok
 dsimp only at hln hna hfl' hws hlt hkp hcok
 refine sk_ fun K2 hK2=>?_
 refine rg_ [4,6,17] ?_
 refine cx_ (fun hb1=>?_) (fun hb1=>?_)
 rotate_left
 ·
  refine awp_exit (up_ ?_)
  refine hK1 _ ?_
  refine rsq_ [4,6] ⟨false,[],[],[],[],[],0⟩ (fun _=>⟨by kernel_rfl,by kernel_rfl⟩) ?_
  refine sg_ ?_
  refine ap_ (a:=.inl rfl) (b:=by simp) (c':=cells_strs _) (d:=by simp;omega) (e:=by simp;omega) (k:=?_)
  intro c58 live58 hk58
  refine sre_ ?_
  refine rg_ [4,5] ?_
  refine ret_ ?_
  have e:left=[]:=List.length_eq_zero_iff.1 (by omega)
  subst e
  refine fq_ Tryz.results48 ?_ (hx:=by (simp only [atuple,AV.er,AV.erL,push_cast,eFs_er])<;>rfl) (hcl:=(by simp [AV.cl,AV.clL,clL_eF,clL_str,clL_str_tail,eFs_er,erL_str])) (hl:=(fun u hu=>(hk58.2 u (hkp.2 u hu (fun e=>by cases e)).1 (fun e=>by cases e)).1))
  have hp:parse may args=_:=hlt.symm.trans (parseF_nil (by omega))
  rw [hp]
  exact ⟨rfl,rfl,rfl⟩
 refine skp_ ?_
 refine hK2 _ ?_
 refine awp_block ?_
 refine rg_ [4,6,7] ?_
 refine sk_ fun K3 hK3=>?_
 refine rg_ [4,6,7,31] ?_
 refine cy_ (fun hb2=>?_) (fun hb2=>?_)
 ·
  refine awp_exit (up_ ?_)
  refine hK1 _ ?_
  refine rsq_ [4,6] ⟨false,[],[],[],[],[],0⟩ (fun _=>⟨by kernel_rfl,by kernel_rfl⟩) ?_
  refine sg_ ?_
  refine ap_ (a:=.inl rfl) (b:=by simp) (c':=cells_strs _) (d:=by simp;omega) (e:=by simp;omega) (k:=?_)
  intro c58 live58 hk58
  refine sre_ ?_
  refine rg_ [4,5] ?_
  refine ret_ ?_
  refine fq_ Tryz.results48 ?_ (hx:=by (simp only [atuple,AV.er,AV.erL,push_cast,eFs_er])<;>rfl) (hcl:=(by simp [AV.cl,AV.clL,clL_eF,clL_str,clL_str_tail,eFs_er,erL_str])) (hl:=(fun u hu=>(hk58.2 u (hkp.2 u hu (fun e=>by cases e)).1 (fun e=>by cases e)).1))
  have hp:parse may args=_:=hlt.symm.trans (parseF_stop (by omega) (by rw [isOpt,hb2];rfl))
  rw [hp]
  exact ⟨rfl,rfl,rfl⟩
 have hb2x:=hb2;simp only [Bool.or_eq_false_iff,decide_eq_false_iff_not] at hb2x
 refine skp_ ?_
 refine hK3 _ ?_
 refine rg_ [4,6,7] ?_
 refine sk_ fun K4 hK4=>?_
 refine rg_ [4,6,7,41] ?_
 refine cx_ (fun hb3=>?_) (fun hb3=>?_)
 ·
  refine awp_exit (up_ ?_)
  refine hK1 _ ?_
  refine rsq_ [4,6] ⟨false,[],[],[],[],[],0⟩ (fun _=>⟨by kernel_rfl,by kernel_rfl⟩) ?_
  refine sg_ ?_
  refine ap_ (a:=.inl rfl) (b:=by simp) (c':=cells_strs _) (d:=by simp;omega) (e:=by simp;omega) (k:=?_)
  intro c58 live58 hk58
  refine sre_ ?_
  refine rg_ [4,5] ?_
  refine ret_ ?_
  refine fq_ Tryz.results48 ?_ (hx:=by (simp only [atuple,AV.er,AV.erL,push_cast,eFs_er])<;>rfl) (hcl:=(by simp [AV.cl,AV.clL,clL_eF,clL_str,clL_str_tail,eFs_er,erL_str])) (hl:=(fun u hu=>(hk58.2 u (hkp.2 u hu (fun e=>by cases e)).1 (fun e=>by cases e)).1))
  have hp:parse may args=_:=hlt.symm.trans (parseF_dash (by omega) hln (by rw [isOpt,hb2];rfl) hb3)
  rw [hp]
  exact ⟨rfl,rfl,rfl⟩
 refine skp_ ?_
 refine hK4 _ ?_
 refine rs_ [4,6,46] ?_
 refine sg_ ?_
 refine ck_ (k:=?_)
 refine (c81 may _ fl' (left.drop 1) c' _ _ (h.length+1) _ _ (by simp only [push_cast];rfl) hcok (by simp [AV.cl,AV.clL]) hm (by have:=hws _ (getD0_mem [] (show 0<left.length by omega));simp only [List.length_drop];omega) (by omega) (by simp only [List.length_drop];omega)).mono ?_
 rintro _ _ live2 ⟨rfl,b,c2,rfl,hk2,hb⟩
 refine sre_ ?_
 refine cy_ (fun hb4=>?_) (fun hb4=>?_)
 ·
  refine rg_ [4,5] ?_
  refine ret_ ?_
  refine fq_ Tryz.results48 ?_ (hx:=by (simp only [atuple,AV.er,AV.erL,push_cast,eFs_er])<;>rfl) (hcl:=(by simp [AV.cl,AV.clL,clL_eF,clL_str,clL_str_tail,eFs_er,erL_str])) (hl:=(fun u hu=>((hkp.trans hk2).2 u hu (fun e=>by cases e)).1))
  have hn4:letters may ((left.getD 0 []).drop 1) fl' (left.drop 1)=none:=by simpa using hb4
  have hp:parse may args=_:=hlt.symm.trans ((parseF_word (by omega) hln (by rw [isOpt,hb2];rfl) hb3).trans (by rw [hn4]))
  rw [hp]
  exact ⟨rfl,rfl,rfl⟩
 simp only [Bool.not_eq_false'] at hb4
 obtain ⟨⟨fl2,left2⟩,hres⟩:=Option.isSome_iff_exists.1 hb4
 obtain ⟨cl2,rfl⟩:=hb _ _ hres
 have hsp:=letters_spec _ _ _ _ _ _ hres
 refine skp_ ?_
 have hl0:0<left.length:=by omega
 have hl2:left2.length≤left.length - 1:=by rcases hsp.1 with e | e<;>rw [e]<;>simp<;>omega
 have hs0:(left.getD 0 []).length≤1000:=hws _ (getD0_mem _ hl0)
 have hf2:fl2.length≤1000*(args.length - (n - 1)):=by
  have:=hsp.2;simp only [List.length_drop] at this;omega
 have hw2:∀s∈left2,s.length≤1000:=by
  intro s hs
  rcases hsp.1 with e | e<;>rw [e] at hs
  · exact hws _ (List.mem_of_mem_drop hs)
  · exact hws _ (List.mem_of_mem_drop (List.mem_of_mem_drop hs))
 have hp2:parseF may (n - 1) left2 fl2=parse may args:=by
  rw [parseF_word hl0 (by omega) (by rw [isOpt,hb2];rfl) hb3,hres] at hlt;exact hlt
 refine ln_ ⟨⟨n - 1,fl2,c2,live2,left2,cl2⟩,by dsimp only;omega,by dsimp only;omega,hf2,hkp.trans hk2,hw2,hp2⟩ ?_
 try dsimp only
 exact tf_ (hB _ _ _ _) (fun _ h=>h)
end Go.Proofs.YtmgnbgniikjhdaaGreat
