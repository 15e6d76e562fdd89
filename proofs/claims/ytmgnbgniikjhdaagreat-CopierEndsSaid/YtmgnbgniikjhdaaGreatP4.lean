import Derived.Test.YtmgnbgniikjhdaaGreatP3
/-
  PATHS: where a path leads.
-/
set_option linter.unusedVariables false
set_option linter.unusedSimpArgs false
namespace Go.Proofs.YtmgnbgniikjhdaaGreat
open Go.Ab
set_option maxRecDepth 8000
set_option maxHeartbeats 400000
def splitL (s:List UInt8):List (List UInt8):=bif decide ((0:Int)<(namesF s).length)&&sufF s then namesF s++[[46]] else namesF s
theorem namesF_bd {s:List UInt8} (h:s.length≤64):(namesF s).length≤32:=by
 have:=(spansF_bd s).2
 rw [names_len];omega
theorem splitL_bd {s:List UInt8} (h:s.length≤64):(splitL s).length≤33:=by
 have:=namesF_bd h
 unfold splitL
 cases (decide ((0:Int)<(namesF s).length)&&sufF s)
 · rw [cond_false];omega
 · rw [cond_true,List.length_append,List.length_singleton];omega
theorem map_str_snoc (l:List (List UInt8)) (x:List UInt8):l.map AV.str++[.str x]=(l++[x]).map .str:=by simp
theorem map_str_app (a b:List (List UInt8)):a.map AV.str++b.map .str=(a++b).map .str:=by simp
theorem suf_eq (s:List UInt8):AV.bool (sufF s)=AV.bool (decide ((0:Int)+1≤s.length)&&decide (List.drop ((s.length:Int) - (0+1)).toNat s=[47])):=by
 unfold sufF
 rw [show ((s.length:Int) - (0+1)).toNat=s.length - 1 by omega];rfl
theorem take_all_map {α β:Type} (f:α→β) (l:List α):List.take (l.length - 0) (l.map f)=l.map f:=List.take_of_length_le (by simp)
theorem take_all_snoc {α β:Type} (f:α→β) (l:List α) (x:α):List.take (l.length+1 - 0) ((l++[x]).map f)=(l++[x]).map f:=List.take_of_length_le (by simp)
theorem map_str_cons (x:List UInt8) (l:List (List UInt8)):AV.str x::l.map .str=(x::l).map .str:=rfl
def Tab.Rt (T:Tab):Prop:=∀n∈T.ns,n.kind≠0→rightF n=true
theorem Tab.Rt.get {T:Tab} (h:T.Rt) {i:Int} (hi:(T.get i).2=true):rightF (T.get i).1=true:=by
 cases ha:T.at i with
 | none=>rw [get_no ha] at hi;cases hi
 | some j=>
  rw [get_at ha]
  have hk:(T.ns.getD j nd0).kind≠0:=by
   unfold Tab.at at ha
   split at ha
   · rename_i hc;cases ha;exact hc.2.2
   · cases ha
  by_cases hj:j<T.ns.length
  ·
   rw [List.getD_eq_getElem?_getD,List.getElem?_eq_getElem hj] at hk ⊢
   exact h _ (List.getElem_mem hj) hk
  ·
   rw [List.getD_eq_getElem?_getD,List.getElem?_eq_none (by omega)] at hk
   exact absurd rfl hk
theorem right_link {n:Nd} (h:rightF n=true) (hk:n.kind=3):n.target.length≤64:=by
 unfold rightF at h
 cases hc:(decide (n.mode<0)||decide (4095<n.mode)||!idB n.uid||!idB n.gid) with
 | true=>rw [hc] at h;cases h
 | false=>
  rw [hc,cond_false,if_neg (by omega),if_neg (by omega),if_pos hk] at h
  simp only [Bool.and_eq_true,fitsF,decide_eq_true_eq] at h
  omega
theorem Tab.Rt.link {T:Tab} (hT:T.Ok) (h:T.Rt) {i:Int} (hk:(T.get i).1.kind=3):(T.get i).1.target.length≤64:=by
 have hi:(T.get i).2=true:=by rw [get_kind hT,hk];rfl
 exact right_link (h.get hi) hk
def fitE (T:Tab) (s:List UInt8):Int:=if s=[] then 2 else if (64:Int)<s.length then 36 else if 0≤Lib.indexByte s 0 then 22 else if (T.get 1).2=false then 2 else 0
def findF (n:Nd) (s:List UInt8):Int:=if 0≤idxP (eqS s) n.ents then (n.ents.getD (idxP (eqS s) n.ents).toNat ([],0)).2 else 0
abbrev Fo:=(Int×List UInt8×Int)×Int
def fo (e:Int):Fo:=((0,[],0),e)
def foV (r:Fo):AV:=.tup [.agg [.int .i64 r.1.1,.str r.1.2.1,.int .i64 r.1.2.2],.int .i64 r.2]
def resL (T:Tab) (c:Cr) (fl:Bool):Nat→Int→Int→List (List UInt8)→Fo
 | 0, _, _, _=>fo 0
 | _+1,i, _,[]=>((i,[],i),0)
 | n+1,i,k,s::l=>
  if (T.get i).1.kind≠2 then fo 20
  else if canT c T i 1=false then fo 13
  else if s=[46] then resL T c fl n i k l
  else if s=[46,46] then resL T c fl n (if T.parent i≠0 then T.parent i else i) k l
  else if (12:Int)<s.length then fo 36
  else if findF (T.get i).1 s=0∧(0:Int)<l.length then fo 2
  else if (T.get (findF (T.get i).1 s)).1.kind=3∧(fl=true∨(0:Int)<l.length) then
   (if k=8 then fo 40 else resL T c fl n (if absF (T.get (findF (T.get i).1 s)).1.target=true then 1 else i) (k+1) (splitL (T.get (findF (T.get i).1 s)).1.target++l))
  else if (l.length:Int)=0 then ((i,s,findF (T.get i).1 s),0)
  else resL T c fl n (findF (T.get i).1 s) k l
theorem resL_nil (T:Tab) (c:Cr) (fl:Bool) (n:Nat) (i k:Int):resL T c fl (n+1) i k []=((i,[],i),0):=rfl
theorem resL_cons (T:Tab) (c:Cr) (fl:Bool) (n:Nat) (i k:Int) (s:List UInt8) (l:List (List UInt8)):resL T c fl (n+1) i k (s::l) =
 if (T.get i).1.kind≠2 then fo 20
 else if canT c T i 1=false then fo 13
 else if s=[46] then resL T c fl n i k l
 else if s=[46,46] then resL T c fl n (if T.parent i≠0 then T.parent i else i) k l
 else if (12:Int)<s.length then fo 36
 else if findF (T.get i).1 s=0∧(0:Int)<l.length then fo 2
 else if (T.get (findF (T.get i).1 s)).1.kind=3∧(fl=true∨(0:Int)<l.length) then
  (if k=8 then fo 40 else resL T c fl n (if absF (T.get (findF (T.get i).1 s)).1.target=true then 1 else i) (k+1) (splitL (T.get (findF (T.get i).1 s)).1.target++l))
 else if (l.length:Int)=0 then ((i,s,findF (T.get i).1 s),0)
 else resL T c fl n (findF (T.get i).1 s) k l:=rfl
def resF (T:Tab) (c:Cr) (s:List UInt8) (fl:Bool):Fo:=if fitE T s≠0 then fo (fitE T s) else resL T c fl 1000 1 0 (splitL s)
theorem BW.setr {g g':List Blk} (h:BW g g') (k:Nat) (x:Blk):BW (g.set k x) (g'.set k x):=by
 refine ⟨by rw [List.length_set,List.length_set];exact h.1,fun j=>?_⟩
 rw [List.getElem?_set,List.getElem?_set]
 by_cases hj:k=j
 · rw [if_pos hj,if_pos hj,h.1];exact .inl rfl
 · rw [if_neg hj,if_neg hj];exact h.2 j
theorem fitE_len {T:Tab} {s:List UInt8} (h:fitE T s=0):s.length≤64:=by
 unfold fitE at h
 split at h
 · cases h
 ·
  split at h
  · cases h
  · omega
theorem c183 (s:List UInt8) (h:List Blk) (live:List Nat) (hs:s.length≤64):AC Tryz.prog 183 [.str s] h live (.slice ((namesF s).map .str) .full):=by
 refine aq_ Tryz.func183 fun hH hX=>?_
 refine rg_ [0] ?_
 refine rs_ [2] ?_
 refine sg_ ?_
 refine cl_ (hc:=c232 s _ _ hs) (k:=?_)
 refine srt_ ?_
 refine gq_ (h1:=h) Tryz.results183 ?_ (hx:=(.inl rfl)) (hcl:=(by exact clL_str _ _))
 exact rk_ rfl
theorem c234 (s:List UInt8) (h:List Blk) (live:List Nat) (hs:s.length≤9223372036854775807):AC Tryz.prog 234 [.str s,.str [47]] h live (.bool (sufF s)):=by
 refine aq_ Tryz.func234 fun hH hX=>?_
 refine rg_ [0,1] ?_
 refine rg_ [4] ?_
 refine ret_ ?_
 refine fq_ Tryz.results234 ?_
 exact ⟨suf_eq s,rfl,rfl⟩
theorem c184 (s:List UInt8) (h:List Blk) (live:List Nat) (hs:s.length≤9223372036854775807):AC Tryz.prog 184 [.str s,.str [47]] h live (.bool (sufF s)):=by
 refine aq_ Tryz.func184 fun hH hX=>?_
 refine rg_ [0,1] ?_
 refine rs_ [4] ?_
 refine sg_ ?_
 refine cl_ (hc:=c234 s _ _ hs) (k:=?_)
 refine srt_ ?_
 refine fq_ Tryz.results184 ?_
 exact rk_ rfl
theorem c185 (s:List UInt8) (h:List Blk) (live:List Nat) (hs:s.length≤9223372036854775807):AC Tryz.prog 185 [.str s] h live (.bool (absF s)):=by
 refine aq_ Tryz.func185 fun hH hX=>?_
 refine rg_ [0] ?_
 refine rs_ [2] ?_
 refine sg_ ?_
 refine cl_ (hc:=c235 s _ _ hs) (k:=?_)
 refine srt_ ?_
 refine fq_ Tryz.results185 ?_
 exact rk_ rfl
theorem c125 (s:List UInt8) (h:List Blk) (live:List Nat) (hs:s.length≤64):AC Tryz.prog 125 [.str s] h live (.tup [.bool (absF s),.slice ((splitL s).map .str) .full]):=by
 refine aq_ Tryz.func125 fun hH hX=>?_
 have hnb:=namesF_bd hs
 have sx:=(And.intro @map_str_snoc (And.intro @take_all_map (And.intro @take_all_snoc sx0)))
 refine rg_ [0] ?_
 refine rs_ [0,4] ?_
 refine sg_ ?_
 refine cl_ (hc:=c183 s _ _ hs) (k:=?_)
 refine sre_ ?_
 refine sk_ fun K1 hK1=>?_
 refine rs_ [0,4,13] ?_
 refine sg_ ?_
 refine cg_ (hc:=fun hg=>c184 s _ _ (by omega)) (k:=?_)
 refine sre_ ?_
 refine cy_ (fun hb1=>?_) (fun hb1=>?_)
 ·
  have hsp:splitL s=namesF s++[[46]]:=by unfold splitL;rw [hb1];rfl
  refine rt_ [0,4] ?_
  refine sg_ ?_
  refine ap_ (a:=.inl rfl) (b:=cells_strs' _) (c':=by simp [AV.cells]) (d:=by simp;omega) (e:=by simp;omega) (k:=?_)
  intro c16 live16 hk16
  refine srn_ ?_
  refine hK1 _ ?_
  refine rsq_ [2,3] ⟨true,[],[],[],[],[],0⟩ (fun _=>⟨by kernel_rfl,by kernel_rfl⟩) ?_
  refine sg_ ?_
  refine cr_ (hc:=c185 s _ _ (by omega)) (k:=?_)
  refine srt_ ?_
  refine gq_ (h1:=h) Tryz.results125 ?_ (hx:=(.inl rfl)) (hcl:=(by exact ⟨trivial,clL_str _ _,trivial⟩)) (hl:=(fun u hu=>(hk16.2 u hu (fun e=>by cases e)).1))
  exact rk_ (by rw [hsp];rfl)
 have hsp:splitL s=namesF s:=by unfold splitL;rw [hb1];rfl
 refine skp_ ?_
 refine hK1 _ ?_
 refine rsq_ [2,3] ⟨true,[],[],[],[],[],0⟩ (fun _=>⟨by kernel_rfl,by kernel_rfl⟩) ?_
 refine sg_ ?_
 refine cr_ (hc:=c185 s _ _ (by omega)) (k:=?_)
 refine srt_ ?_
 refine gq_ (h1:=h) Tryz.results125 ?_ (hx:=(.inl rfl)) (hcl:=(by exact ⟨trivial,clL_str _ _,trivial⟩))
 exact rk_ (by rw [hsp];rfl)
theorem c124 (T:Tab) (k:Nat) (s:List UInt8) (h:List Blk) (live:List Nat) (hk:h[k]? = some (tabBlk T)) (hT:T.Ok) (hs:s.length≤9223372036854775807):AC Tryz.prog 124 [.ptr k 0,.str s] h live (.int .i64 (fitE T s)):=by
 refine aq_ Tryz.func124 fun hH hX=>?_
 refine rg_ [0,1] ?_
 refine sk_ fun K1 hK1=>?_
 refine awp_block ?_
 refine rg_ [0,1,7] ?_
 refine cx_ (fun hb1=>?_) (fun hb1=>?_)
 ·
  refine rg_ [4] ?_
  refine ret_ ?_
  refine fq_ Tryz.results124 ?_
  exact rk_ (by unfold fitE;rw [if_pos hb1])
 refine rg_ [0,1,10] ?_
 refine cx_ (fun hb2=>?_) (fun hb2=>?_)
 ·
  refine rg_ [4] ?_
  refine ret_ ?_
  refine fq_ Tryz.results124 ?_
  exact rk_ (by unfold fitE;rw [if_neg hb1,if_pos hb2])
 refine rs_ [0,14] ?_
 refine sg_ ?_
 refine cl_ (hc:=c170 s 0 _ _) (k:=?_)
 refine sre_ ?_
 refine cx_ (fun hb3=>?_) (fun hb3=>?_)
 ·
  refine rg_ [4] ?_
  refine ret_ ?_
  refine fq_ Tryz.results124 ?_
  exact rk_ (by unfold fitE;rw [if_neg hb1,if_neg (by omega),if_pos hb3])
 refine skp_ ?_
 refine hK1 _ ?_
 refine sk_ fun K2 hK2=>?_
 refine rs_ [6] ?_
 refine sg_ ?_
 refine cl_ (hc:=c23 T k _ _ _ hk hT) (k:=?_)
 refine sre_ ?_
 refine rg_ [24] ?_
 refine cx_ (fun hb4=>?_) (fun hb4=>?_)
 ·
  refine rg_ [4] ?_
  refine ret_ ?_
  refine fq_ Tryz.results124 ?_
  exact rk_ (by unfold fitE;rw [if_neg hb1,if_neg (by omega),if_neg (by omega),if_pos hb4])
 refine skp_ ?_
 refine hK2 _ ?_
 refine rg_ [4] ?_
 refine ret_ ?_
 refine fq_ Tryz.results124 ?_
 exact rk_ (by unfold fitE;rw [if_neg hb1,if_neg (by omega),if_neg (by omega),if_neg (by rw [hb4];decide)])
theorem c127 (n:Nd) (s:List UInt8) (h:List Blk) (live:List Nat) (hn:NdOk n):AC Tryz.prog 127 [.agg (ndC n),.str s] h live (.int .i64 (findF n s)):=by
 refine aq_ Tryz.func127 fun hH hX=>?_
 have hrg:=idxP_range (eqS s) n.ents
 have hn2:=hn.2.1
 refine rg_ [1,2] ?_
 refine sk_ fun K1 hK1=>?_
 refine rs_ [2,5] ?_
 refine sg_ ?_
 refine cl_ (hc:=c186 n s _ _ hn) (k:=?_)
 refine sre_ ?_
 refine rg_ [2,5,10] ?_
 refine cx_ (fun hb1=>?_) (fun hb1=>?_)
 ·
  have hin:idxP (eqS s) n.ents=((idxP (eqS s) n.ents).toNat:Nat):=by omega
  have hil:(idxP (eqS s) n.ents).toNat<n.ents.length:=by omega
  refine rg_ [4] ?_
  refine ret_ ?_
  refine fq_ Tryz.results127 ?_
  exact rk_ (by unfold findF;rw [if_pos hb1])
 refine skp_ ?_
 refine hK1 _ ?_
 refine rg_ [4] ?_
 refine ret_ ?_
 refine fq_ Tryz.results127 ?_
 exact rk_ (by unfold findF;rw [if_neg (by omega)])
theorem c126 (s:List UInt8) (l:List (List UInt8)) (q:Cap) (i n:Int) (p1 p2 p3:Nat) (h:List Blk) (live:List Nat) (hs:s.length≤64) (hl:l.length≤1000) (h1:h[p1]? = some (.cells [.slice (l.map .str) q])) (h2:h[p2]? = some (.cells [.int .i64 i])) (h3:h[p3]? = some (.cells [.int .i64 n])) (hn:0≤n∧n≤1000) (h12:p1≠p2) (h13:p1≠p3) (h23:p2≠p3):ACalls Tryz.prog 126 [.str s,.ptr p1 0,.ptr p2 0,.ptr p3 0] h live (ret (.tup []) (((h.set p1 (.cells [.slice ((splitL s++l).map .str) .none])).set p2 (.cells [.int .i64 (if absF s=true then 1 else i)])).set p3 (.cells [.int .i64 (n+1)])) live):=by
 refine aq_ Tryz.func126 fun hH hX=>?_
 have hl1:=lt_of_get h1
 have hl2:=lt_of_get h2
 have hl3:=lt_of_get h3
 have hsb:=splitL_bd hs
 have hg2:∀x:Blk,(h.set p1 x)[p2]? = some (.cells [.int .i64 i]):=fun x=>getSet h2 (Ne.symm h12)
 have hg3:∀x:Blk,(h.set p1 x)[p3]? = some (.cells [.int .i64 n]):=fun x=>getSet h3 (Ne.symm h13)
 have hg4:∀x y:Blk,((h.set p1 x).set p2 y)[p3]? = some (.cells [.int .i64 n]):=fun x y=>getSet (hg3 x) (Ne.symm h23)
 have hcl:HCl (((h.set p1 (.cells [.slice ((splitL s++l).map .str) .none])).set p2 (.cells [.int .i64 (if absF s=true then 1 else i)])).set p3 (.cells [.int .i64 (n+1)])):=HCl.set (b:=.cells [.int .i64 (n+1)]) (HCl.set (b:=.cells [.int .i64 (if absF s=true then 1 else i)]) (HCl.set (b:=.cells [.slice ((splitL s++l).map .str) .none]) hH p1 ⟨clL_str _ _,trivial⟩) p2 ⟨trivial,trivial⟩) p3 ⟨trivial,trivial⟩
 have her:∀q',Blk.cells [.slice ((splitL s++l).map .str) .none]=(Blk.cells [.slice ((splitL s).map .str++l.map .str) q']).er:=fun q'=>by show _=Blk.cells (AV.erL _);simp only [AV.erL,AV.er,map_str_app,erL_str]
 have hse:∀x:Blk,(h.set p1 x).set p2 (.cells [.int .i64 i])=h.set p1 x:=fun x=>set_self (hg2 x)
 have sx:=(And.intro @h1 (And.intro @h2 (And.intro @h3 (And.intro @hg2 (And.intro @hg3 (And.intro @hg4 sx0))))))
 refine rs_ [1,2,3,5,6] ?_
 refine sg_ ?_
 refine cl_ (hc:=c125 s _ _ hs) (k:=?_)
 refine sre_ ?_
 refine rs_ [2,3,5] ?_
 refine sg_ ?_
 refine ap_ (a:=.inl rfl) (b:=cells_strs' _) (c':=cells_strs' _) (d:=by simp;omega) (e:=by simp;omega) (k:=?_)
 intro c14 live14 hk14
 refine sre_ ?_
 refine sk_ fun K1 hK1=>?_
 refine rg_ [2,3,15] ?_
 refine cy_ (fun hb1=>?_) (fun hb1=>?_)
 ·
  have hab:(if absF s=true then (1:Int) else i)=1:=if_pos hb1
  refine rt_ [3] ?_
  refine srn_ ?_
  refine hK1 _ ?_
  refine rt_ [] ?_
  refine srn_ ?_
  refine fe_ (h1:=((h.set p1 (.cells [.slice ((splitL s++l).map .str) .none])).set p2 (.cells [.int .i64 (if absF s=true then 1 else i)])).set p3 (.cells [.int .i64 (n+1)])) Tryz.results126 (hh:=⟨((h.set p1 _).set p2 _).set p3 _,[],by rw [List.append_nil],by rw [hab];exact BW.setr (BW.setr (BW.set (her _)) _ _) _ _⟩) (hl:=(fun u hu=>(hk14.2 u hu (fun e=>by cases e)).1)) (hH:=hcl) (hK:=?_)
  exact rk_ rfl
 have hab:(if absF s=true then (1:Int) else i)=i:=if_neg (by rw [hb1];decide)
 refine skp_ ?_
 refine hK1 _ ?_
 refine rt_ [] ?_
 refine srn_ ?_
 refine fe_ (h1:=((h.set p1 (.cells [.slice ((splitL s++l).map .str) .none])).set p2 (.cells [.int .i64 (if absF s=true then 1 else i)])).set p3 (.cells [.int .i64 (n+1)])) Tryz.results126 (hh:=⟨(h.set p1 _).set p3 _,[],by rw [List.append_nil],by rw [hab,hse];exact BW.setr (BW.set (her _)) _ _⟩) (hl:=(fun u hu=>(hk14.2 u hu (fun e=>by cases e)).1)) (hH:=hcl) (hK:=?_)
 exact rk_ rfl
end Go.Proofs.YtmgnbgniikjhdaaGreat
namespace Go.Proofs.YtmgnbgniikjhdaaGreat
open Go.Ab
set_option maxRecDepth 8000
set_option maxHeartbeats 400000
theorem ite_and_tt {α:Type} (p q:Bool) (a b:α):(if (p=true∧q=true) then a else b)=if (p&&q)=true then a else b:=by cases p<;>cases q<;>rfl
structure Sta where
 node:Int
 kind:Int
 mode:Int
 uid:Int
 gid:Int
 links:Int
 size:Int
 deriving DecidableEq
def staC (s:Sta):List AV:=[.int .i64 s.node,.int .i64 s.kind,.int .i64 s.mode,.int .i64 s.uid,.int .i64 s.gid,.int .i64 s.links,.int .i64 s.size]
def sta0:Sta:=⟨0,0,0,0,0,0,0⟩
def sizeF (n:Nd):Int:=if n.kind=1 then n.data.length else if n.kind=2 then n.ents.length else if n.kind=3 then n.target.length else 0
def staF (T:Tab) (i:Int):Sta:=if (T.get i).2=true then ⟨i,(T.get i).1.kind,(T.get i).1.mode,(T.get i).1.uid,(T.get i).1.gid,T.links i,sizeF (T.get i).1⟩ else sta0
def statF (T:Tab) (c:Cr) (s:List UInt8) (fl:Bool):Sta×Int:=if (resF T c s fl).2≠0 then (sta0,(resF T c s fl).2) else if (T.get (resF T c s fl).1.2.2).2=true then (staF T (resF T c s fl).1.2.2,0) else (sta0,2)
theorem clL_staC (n:Nat) (s:Sta):AV.clL n (staC s):=⟨trivial,trivial,trivial,trivial,trivial,trivial,trivial,trivial⟩
theorem er_staC (s:Sta):AV.erL (staC s)=staC s:=rfl
theorem staC_len (s:Sta):(staC s).length=7:=rfl
theorem staC_0 (s:Sta):(staC s)[0]? = some (.int .i64 s.node):=rfl
theorem staC_1 (s:Sta):(staC s)[1]? = some (.int .i64 s.kind):=rfl
theorem staC_2 (s:Sta):(staC s)[2]? = some (.int .i64 s.mode):=rfl
theorem staC_3 (s:Sta):(staC s)[3]? = some (.int .i64 s.uid):=rfl
theorem staC_4 (s:Sta):(staC s)[4]? = some (.int .i64 s.gid):=rfl
theorem staC_5 (s:Sta):(staC s)[5]? = some (.int .i64 s.links):=rfl
theorem staC_6 (s:Sta):(staC s)[6]? = some (.int .i64 s.size):=rfl
theorem staTake (s:Sta):(staC s).take 7=staC s:=rfl
theorem staPut (a b c d e f g:AV) (s:Sta):putAt [a,b,c,d,e,f,g] 0 (staC s)=staC s:=rfl
attribute [push_cast] staC_len staC_0 staC_1 staC_2 staC_3 staC_4 staC_5 staC_6 staTake staPut
theorem staF_no {T:Tab} {i:Int} (h:(T.get i).2=false):staF T i=sta0:=by unfold staF;rw [if_neg (by rw [h];decide)]
theorem staF_node {T:Tab} {i:Int} (h:(T.get i).2=true):(staF T i).node=i:=by unfold staF;rw [if_pos h]
theorem get_pos {T:Tab} {i:Int} (hT:T.Ok) (h:(T.get i).2=true):1≤i:=by
 rw [get_eq hT] at h
 split at h
 · rename_i hc;exact hc.1
 · cases h
attribute [push_cast] clL_staC er_staC
theorem c90 (T:Tab) (k:Nat) (c:Cr) (p:List UInt8) (fl:Bool) (h:List Blk) (live:List Nat) (hk:h[k]? = some (tabBlk T)) (hT:T.Ok) (hgs:c.gs.length≤17592186044416) (hR:T.Rt) (hp:p.length≤9223372036854775807):AC Tryz.prog 90 [.ptr k 0,.agg [.int .i64 c.uid,.int .i64 c.gid,.slice (c.gs.map iV) .none],.str p,.bool fl] h live (foV (resF T c p fl)):=by
 refine aq_ Tryz.func90 fun hH hX=>?_
 have hkl:=lt_of_get hk
 have hB:∀(i n:Int) (l:List (List UInt8)) (q:Cap),HCl (h++[.cells [AV.int .i64 c.uid,.int .i64 c.gid,.slice (c.gs.map iV) .none],.cells [.int .i64 0,.str [],.int .i64 0],.cells [.int .i64 i],.cells [.int .i64 n],.cells [.slice (l.map .str) q]]):=fun i n l q=>by
  have:=HCl.snoc (HCl.snoc (HCl.snoc (HCl.snoc (HCl.snoc (b:=.cells [AV.int .i64 c.uid,.int .i64 c.gid,.slice (c.gs.map iV) .none]) hH (by simp [Blk.cl,AV.cl,AV.clL,clL_iV, -List.map_map])) (b:=.cells [.int .i64 0,.str [],.int .i64 0]) ⟨trivial,trivial,trivial,trivial⟩) (b:=.cells [.int .i64 i]) ⟨trivial,trivial⟩) (b:=.cells [.int .i64 n]) ⟨trivial,trivial⟩) (b:=.cells [.slice (l.map .str) q]) ⟨clL_str _ _,trivial⟩
  rw [List.append_assoc,List.append_assoc,List.append_assoc,List.append_assoc] at this;exact this
 have sx:=(And.intro @Bool.true_and sx0)
 refine rg_ [0,2,3,5,8] ?_
 refine awp_scope ?_
 refine sk_ fun K1 hK1=>?_
 refine rs_ [0,2,3,5,8,10] ?_
 refine sg_ ?_
 refine cl_ (hc:=c124 T k p _ _ (atApp hk) hT hp) (k:=?_)
 refine sre_ ?_
 refine rg_ [0,2,3,5,8,10,27] ?_
 refine cdn_ (ht:=fun hb1=>?_) (hf:=fun hb1=>?_)
 ·
  have hfe:fitE T p≠0:=by simpa using hb1
  refine rg_ [8,9] ?_
  refine ret_ ?_
  refine fq_ Tryz.results90 ?_
  exact rk_ (by unfold resF;rw [if_pos hfe];rfl)
 have hfe:fitE T p=0:=by omega
 have hpl:=fitE_len hfe
 have hsb:=splitL_bd hpl
 have hrF:resF T c p fl=resL T c fl 1000 1 0 (splitL p):=by unfold resF;rw [if_neg (fun h=>h hfe)]
 refine skp_ ?_
 refine hK1 _ ?_
 refine rg_ [0,2,3,5,8,11,12] ?_
 refine rs_ [0,3,5,8,11,12,14] ?_
 refine sg_ ?_
 refine cl_ (hc:=c125 p _ _ hpl) (k:=?_)
 refine sre_ ?_
 refine rg_ [0,3,5,8,11,12,14,15] ?_
 refine sk_ fun K2 hK2=>?_
 refine awp_label (up_ ?_)
 refine hK2 _ ?_
 refine sk_ fun K3 hK3=>?_
 refine awp_block ?_
 refine lp_ (X:={x:Nat×Int×Nat×List (List UInt8)×Cap // resL T c fl 1000 1 0 (splitL p)=resL T c fl x.1 x.2.1 x.2.2.1 x.2.2.2.1∧x.2.2.1≤8∧(8 - x.2.2.1)*100+x.2.2.2.1.length<x.1∧x.1≤1000}) (fun x=>⟨Tryz.f90.ntmps,fget [(0,.ptr k 0),(3,.bool fl),(5,.ptr h.length 0),(8,.ptr (h.length+1) 0),(11,.ptr (h.length+2) 0),(12,.ptr (h.length+3) 0),(14,.ptr (h.length+4) 0),(15,.fn (.func 126) [] [.ptr (h.length+4) 0,.ptr (h.length+2) 0,.ptr (h.length+3) 0])],h++[.cells [AV.int .i64 c.uid,.int .i64 c.gid,.slice (c.gs.map iV) .none],.cells [.int .i64 0,.str [],.int .i64 0],.cells [.int .i64 x.1.2.1],.cells [.int .i64 (x.1.2.2.1:Nat)],.cells [.slice (x.1.2.2.2.1.map .str) x.1.2.2.2.2]],live⟩) (fun x=>x.1.1) (⟨⟨1000,1,0,splitL p,.full⟩,rfl,by dsimp only;omega,by dsimp only;omega,by dsimp only;omega⟩) ?_ (fun ⟨⟨m0,i,n,l,q⟩,hres,hn8,hmu,hm⟩=>?_)
 ·
  try dsimp only
  exact tf_ (hB _ _ _ _) (fun _ h=>h)
 try dsimp only
 dsimp only at hres hn8 hmu hm
 have hi4:∀g:List Blk,True:=fun _=>trivial
 refine sk_ fun K4 hK4=>?_
 refine rg_ [0,3,5,8,11,12,14,15,38] ?_
 refine cx_ (fun hb2=>?_) (fun hb2=>?_)
 rotate_left
 ·
  obtain ⟨m,rfl⟩:∃m,m0=m+1:=⟨m0 - 1,by omega⟩
  have hl0:l=[]:=List.eq_nil_of_length_eq_zero (by omega)
  refine awp_exit (up_ ?_)
  refine hK3 _ ?_
  refine rg_ [8,9] ?_
  refine ret_ ?_
  refine fq_ Tryz.results90 ?_
  exact rk_ (by rw [hrF,hres,hl0,resL_nil];rfl)
 obtain ⟨m,rfl⟩:∃m,m0=m+1:=⟨m0 - 1,by omega⟩
 have hlc:l=l.getD 0 []::l.drop 1:=by
  cases l with
  | nil=>simp at hb2
  | cons a l=>rfl
 have hres2:resL T c fl 1000 1 0 (splitL p)=resL T c fl (m+1) i n (l.getD 0 []::l.drop 1):=by rw [←hlc];exact hres
 rw [resL_cons] at hres2
 have hd1:(l.drop 1).length=l.length - 1:=List.length_drop
 refine skp_ ?_
 refine hK4 _ ?_
 refine awp_block ?_
 refine rg_ [0,3,5,8,11,12,14,15,16] ?_
 refine rg_ [0,3,5,8,11,12,14,15,16] ?_
 refine rs_ [0,3,5,8,11,12,14,15,16,17] ?_
 refine sg_ ?_
 refine cl_ (hc:=c23 T k _ _ _ (atApp hk) hT) (k:=?_)
 refine sre_ ?_
 refine rs_ [0,3,5,8,11,12,14,15,16,17,19] ?_
 refine sg_ ?_
 refine cl_ (hc:=c127 _ _ _ _ (get_ok hT _)) (k:=?_)
 refine sre_ ?_
 refine rs_ [0,3,5,8,11,12,14,15,16,17,19,20] ?_
 refine sg_ ?_
 refine cl_ (hc:=c23 T k _ _ _ (atApp hk) hT) (k:=?_)
 refine sre_ ?_
 refine sk_ fun K5 hK5=>?_
 refine awp_block ?_
 refine rg_ [0,3,5,8,11,12,14,15,16,19,20,59] ?_
 refine cx_ (fun hb3=>?_) (fun hb3=>?_)
 ·
  refine rg_ [8,9] ?_
  refine ret_ ?_
  refine fq_ Tryz.results90 ?_
  exact rk_ (by rw [hrF,hres2,if_pos hb3];rfl)
 refine rs_ [0,3,5,8,11,12,14,15,16,19,20,64] ?_
 refine sg_ ?_
 refine cl_ (hc:=c128 T k c _ _ _ _ _ (atApp hk) hT hgs) (k:=?_)
 refine sre_ ?_
 refine cx_ (fun hb4=>?_) (fun hb4=>?_)
 ·
  refine rg_ [8,9] ?_
  refine ret_ ?_
  refine fq_ Tryz.results90 ?_
  exact rk_ (by rw [hrF,hres2,if_neg (fun h=>h hb3),if_pos hb4];rfl)
 refine rg_ [0,3,5,8,11,12,14,15,16,19,20,71] ?_
 refine cx_ (fun hb5=>?_) (fun hb5=>?_)
 ·
  refine awp_exit (up_ ?_)
  refine ln_ ⟨⟨m,i,n,(l.drop 1),(capOf q true false false)⟩,by rw [hres2,if_neg (fun h=>h hb3),if_neg (by rw [hb4];decide),if_pos hb5],by dsimp only;omega,by dsimp only;omega,by dsimp only;omega⟩ ?_
  try dsimp only
  exact tf_ (hB _ _ _ _) (fun _ h=>h)
 refine rg_ [0,3,5,8,11,12,14,15,16,19,20,74] ?_
 refine cx_ (fun hb6=>?_) (fun hb6=>?_)
 ·
  refine sk_ fun K6 hK6=>?_
  refine rs_ [0,3,5,8,11,12,14,15,22] ?_
  refine sg_ ?_
  refine cl_ (hc:=c129 T k _ _ _ (atApp hk) hT) (k:=?_)
  refine sre_ ?_
  refine rg_ [0,3,5,8,11,12,14,15,22,81] ?_
  refine cx_ (fun hb7=>?_) (fun hb7=>?_)
  ·
   refine rt_ [0,3,5,8,11,12,14,15] ?_
   refine srn_ ?_
   refine hK6 _ ?_
   refine awp_exit (up_ ?_)
   refine ln_ ⟨⟨m,T.parent i,n,(l.drop 1),(capOf q true false false)⟩,by rw [hres2,if_neg (fun h=>h hb3),if_neg (by rw [hb4];decide),if_neg hb5,if_pos hb6,if_pos hb7],by dsimp only;omega,by dsimp only;omega,by dsimp only;omega⟩ ?_
   try dsimp only
   exact tf_ (hB _ _ _ _) (fun _ h=>h)
  refine skp_ ?_
  refine hK6 _ ?_
  refine awp_exit (up_ ?_)
  refine ln_ ⟨⟨m,i,n,(l.drop 1),(capOf q true false false)⟩,by rw [hres2,if_neg (fun h=>h hb3),if_neg (by rw [hb4];decide),if_neg hb5,if_pos hb6,if_neg (fun h=>h hb7)],by dsimp only;omega,by dsimp only;omega,by dsimp only;omega⟩ ?_
  try dsimp only
  exact tf_ (hB _ _ _ _) (fun _ h=>h)
 refine rg_ [0,3,5,8,11,12,14,15,16,19,20,83] ?_
 refine cx_ (fun hb8=>?_) (fun hb8=>?_)
 ·
  refine rg_ [8,9] ?_
  refine ret_ ?_
  refine fq_ Tryz.results90 ?_
  exact rk_ (by rw [hrF,hres2,if_neg (fun h=>h hb3),if_neg (by rw [hb4];decide),if_neg hb5,if_neg hb6,if_pos hb8];rfl)
 refine rg_ [0,3,5,8,11,12,14,15,16,19,20,88] ?_
 refine cx_ (fun hb9=>?_) (fun hb9=>?_)
 ·
  refine rg_ [8,9] ?_
  refine ret_ ?_
  refine fq_ Tryz.results90 ?_
  exact rk_ (by rw [hrF,hres2,if_neg (fun h=>h hb3),if_neg (by rw [hb4];decide),if_neg hb5,if_neg hb6,if_neg (by omega),if_pos hb9];rfl)
 refine rg_ [0,3,5,8,11,12,14,15,16,19,20,97] ?_
 refine cx_ (fun hb10=>?_) (fun hb10=>?_)
 ·
  have htl:=hR.link hT hb10.1
  have htb:=splitL_bd htl
  refine sk_ fun K7 hK7=>?_
  refine rg_ [0,3,5,8,11,12,14,15,20,110] ?_
  refine cx_ (fun hb11=>?_) (fun hb11=>?_)
  ·
   refine rg_ [8,9] ?_
   refine ret_ ?_
   refine fq_ Tryz.results90 ?_
   exact rk_ (by rw [hrF,hres2,if_neg (fun h=>h hb3),if_neg (by rw [hb4];decide),if_neg hb5,if_neg hb6,if_neg (by omega),if_neg (fun h=>by have:=hb9 h.1;omega),if_pos hb10,if_pos hb11];rfl)
  refine skp_ ?_
  refine hK7 _ ?_
  refine rs_ [0,3,5,8,11,12,14,15] ?_
  refine sg_ ?_
  refine cl_ (hc:=c126 _ (l.drop 1) (capOf q true false false) i n (h.length+4) (h.length+2) (h.length+3) _ _ htl (by omega) (by simp only [push_cast]) (by simp only [push_cast]) (by simp only [push_cast]) (by omega) (by omega) (by omega) (by omega)) (k:=?_)
  refine re_ ?_
  refine awp_exit (up_ ?_)
  refine ln_ ⟨⟨m,(if absF (T.get (findF (T.get i).1 (l.getD 0 []))).1.target=true then 1 else i),n+1,(splitL (T.get (findF (T.get i).1 (l.getD 0 []))).1.target++l.drop 1),.none⟩,by rw [hres2,if_neg (fun h=>h hb3),if_neg (by rw [hb4];decide),if_neg hb5,if_neg hb6,if_neg (by omega),if_neg (fun h=>by have:=hb9 h.1;omega),if_pos hb10,if_neg hb11];rfl,by dsimp only;omega,by dsimp only;rw [List.length_append];omega,by dsimp only;omega⟩ ?_
  try dsimp only
  exact tf_ (hB _ _ _ _) (fun _ h=>h)
 refine rg_ [0,3,5,8,11,12,14,15,16,19,116] ?_
 refine cx_ (fun hb12=>?_) (fun hb12=>?_)
 ·
  refine rg_ [8,9] ?_
  refine ret_ ?_
  refine fq_ Tryz.results90 ?_
  exact rk_ (by rw [hrF,hres2,if_neg (fun h=>h hb3),if_neg (by rw [hb4];decide),if_neg hb5,if_neg hb6,if_neg (by omega),if_neg (fun h=>by have:=hb9 h.1;omega),if_neg (fun h=>by obtain ⟨h1,h2⟩:=hb10 h.1;exact h.2.elim (fun e=>by rw [h1] at e;cases e) (fun e=>by omega)),if_pos hb12];rfl)
 refine skp_ ?_
 refine hK5 _ ?_
 refine rt_ [0,3,5,8,11,12,14,15] ?_
 refine srn_ ?_
 refine ln_ ⟨⟨m,findF (T.get i).1 (l.getD 0 []),n,(l.drop 1),(capOf q true false false)⟩,by rw [hres2,if_neg (fun h=>h hb3),if_neg (by rw [hb4];decide),if_neg hb5,if_neg hb6,if_neg (by omega),if_neg (fun h=>by have:=hb9 h.1;omega),if_neg (fun h=>by obtain ⟨h1,h2⟩:=hb10 h.1;exact h.2.elim (fun e=>by rw [h1] at e;cases e) (fun e=>by omega)),if_neg hb12],by dsimp only;omega,by dsimp only;omega,by dsimp only;omega⟩ ?_
 try dsimp only
 exact tf_ (hB _ _ _ _) (fun _ h=>h)
end Go.Proofs.YtmgnbgniikjhdaaGreat
namespace Go.Proofs.YtmgnbgniikjhdaaGreat
open Go.Ab
set_option maxRecDepth 8000
set_option maxHeartbeats 400000
theorem c131 (n:Nd) (h:List Blk) (live:List Nat):AC Tryz.prog 131 [.agg (ndC n)] h live (.int .i64 (sizeF n)):=by
 refine aq_ Tryz.func131 fun hH hX=>?_
 refine rg_ [1] ?_
 refine sk_ fun K1 hK1=>?_
 refine rg_ [1,4] ?_
 refine awp_block ?_
 refine rg_ [1,4,5] ?_
 refine cx_ (fun hb1=>?_) (fun hb1=>?_)
 ·
  refine rg_ [2] ?_
  refine ret_ ?_
  refine fq_ Tryz.results131 ?_
  exact rk_ (by unfold sizeF;rw [if_pos hb1])
 refine rg_ [1,4,10] ?_
 refine cx_ (fun hb2=>?_) (fun hb2=>?_)
 ·
  refine rg_ [2] ?_
  refine ret_ ?_
  refine fq_ Tryz.results131 ?_
  exact rk_ (by unfold sizeF;rw [if_neg hb1,if_pos hb2])
 refine rg_ [1,15] ?_
 refine cx_ (fun hb3=>?_) (fun hb3=>?_)
 ·
  refine rg_ [2] ?_
  refine ret_ ?_
  refine fq_ Tryz.results131 ?_
  exact rk_ (by unfold sizeF;rw [if_neg hb1,if_neg hb2,if_pos hb3])
 refine skp_ ?_
 refine hK1 _ ?_
 refine rg_ [2] ?_
 refine ret_ ?_
 refine fq_ Tryz.results131 ?_
 exact rk_ (by unfold sizeF;rw [if_neg hb1,if_neg hb2,if_neg hb3])
theorem c91 (T:Tab) (k:Nat) (i:Int) (h:List Blk) (live:List Nat) (hk:h[k]? = some (tabBlk T)) (hT:T.Ok):AC Tryz.prog 91 [.ptr k 0,.int .i64 i] h live (.tup [.agg (staC (staF T i)),.bool (T.get i).2]):=by
 refine aq_ Tryz.func91 fun hH hX=>?_
 refine rg_ [0,1,4] ?_
 refine rs_ [0,1,4,6,7] ?_
 refine sg_ ?_
 refine cl_ (hc:=c23 T k _ _ _ (atApp hk) hT) (k:=?_)
 refine sre_ ?_
 refine sk_ fun K1 hK1=>?_
 refine rg_ [0,1,4,6,15] ?_
 refine cx_ (fun hb1=>?_) (fun hb1=>?_)
 ·
  refine rg_ [4,5] ?_
  refine ret_ ?_
  refine fq_ Tryz.results91 ?_
  exact rk_ (by rw [hb1,staF_no hb1];rfl)
 refine skp_ ?_
 refine hK1 _ ?_
 refine rsq_ [4,5] ⟨true,[],[],[],[],[],0⟩ (fun _=>⟨by kernel_rfl,by kernel_rfl⟩) ?_
 refine sg_ ?_
 refine cr_ (hc:=c130 T k _ _ _ (atApp hk) hT) (k:=?_)
 refine sg_ ?_
 refine cr_ (hc:=c131 _ _ _) (k:=?_)
 refine srt_ ?_
 refine fq_ Tryz.results91 ?_
 exact rk_ (by rw [hb1];unfold staF;rw [if_pos hb1];rfl)
theorem c59 (T:Tab) (k:Nat) (c:Cr) (p:List UInt8) (fl:Bool) (h:List Blk) (live:List Nat) (hk:h[k]? = some (tabBlk T)) (hT:T.Ok) (hgs:c.gs.length≤17592186044416) (hR:T.Rt) (hp:p.length≤9223372036854775807):AC Tryz.prog 59 [.ptr k 0,.agg [.int .i64 c.uid,.int .i64 c.gid,.slice (c.gs.map iV) .none],.str p,.bool fl] h live (.tup [.agg (staC (statF T c p fl).1),.int .i64 (statF T c p fl).2]):=by
 refine aq_ Tryz.func59 fun hH hX=>?_
 refine rg_ [0,2,3,5,8] ?_
 refine rs_ [0,8,10,11] ?_
 refine sg_ ?_
 refine cl_ (hc:=c90 T k c p fl _ _ (atApp hk) hT hgs hR hp) (k:=?_)
 refine sre_ ?_
 refine sk_ fun K1 hK1=>?_
 refine rg_ [0,8,10,11,23] ?_
 refine cx_ (fun hb1=>?_) (fun hb1=>?_)
 ·
  refine rg_ [8,9] ?_
  refine ret_ ?_
  refine fq_ Tryz.results59 ?_
  exact rk_ (by unfold statF;rw [if_pos hb1];rfl)
 refine skp_ ?_
 refine hK1 _ ?_
 refine rs_ [8,12] ?_
 refine sg_ ?_
 refine cl_ (hc:=c91 T k _ _ _ (atApp hk) hT) (k:=?_)
 refine sre_ ?_
 refine sk_ fun K2 hK2=>?_
 refine rg_ [8,12,35] ?_
 refine cy_ (fun hb2=>?_) (fun hb2=>?_)
 ·
  have hno:(T.get (resF T c p fl).1.2.2).2=false:=by
   cases hg:(T.get (resF T c p fl).1.2.2).2 with
   | false=>rfl
   | true=>
    have h1:=get_pos hT hg
    rw [←staF_node hg] at h1
    simp only [Bool.and_eq_true,decide_eq_true_eq] at hb2
    have:=hb2.1
    omega
  refine rg_ [8,9] ?_
  refine ret_ ?_
  refine fq_ Tryz.results59 ?_
  exact rk_ (by unfold statF;rw [if_neg (fun h=>h hb1),if_neg (by rw [hno];decide),staF_no hno])
 have hye:(T.get (resF T c p fl).1.2.2).2=true:=by
  cases hg:(T.get (resF T c p fl).1.2.2).2 with
  | true=>rfl
  | false=>rw [staF_no hg] at hb2;simp [sta0] at hb2
 refine skp_ ?_
 refine hK2 _ ?_
 refine rg_ [8,9] ?_
 refine ret_ ?_
 refine fq_ Tryz.results59 ?_
 exact rk_ (by unfold statF;rw [if_neg (fun h=>h hb1),if_pos hye])
theorem c31 (T:Tab) (k:Nat) (c:Cr) (p:List UInt8) (h:List Blk) (live:List Nat) (hk:h[k]? = some (tabBlk T)) (hT:T.Ok) (hgs:c.gs.length≤17592186044416) (hR:T.Rt) (hp:p.length≤9223372036854775807):AC Tryz.prog 31 [.ptr k 0,.agg [.int .i64 c.uid,.int .i64 c.gid,.slice (c.gs.map iV) .none],.str p] h live (.tup [.agg (staC (statF T c p true).1),.int .i64 (statF T c p true).2]):=by
 refine aq_ Tryz.func31 fun hH hX=>?_
 refine rg_ [0,2,4,6] ?_
 refine rs_ [6,7] ?_
 refine sg_ ?_
 refine cl_ (hc:=c59 T k c p true _ _ (atApp hk) hT hgs hR hp) (k:=?_)
 refine srt_ ?_
 refine fq_ Tryz.results31 ?_
 exact rk_ rfl
end Go.Proofs.YtmgnbgniikjhdaaGreat
namespace Go.Proofs.YtmgnbgniikjhdaaGreat
open Go.Ab
set_option maxRecDepth 8000
set_option maxHeartbeats 400000
abbrev rE (T:Tab) (c:Cr) (p:List UInt8) (fl:Bool):Int:=(resF T c p fl).2
abbrev rD (T:Tab) (c:Cr) (p:List UInt8) (fl:Bool):Int:=(resF T c p fl).1.1
abbrev rS (T:Tab) (c:Cr) (p:List UInt8) (fl:Bool):List UInt8:=(resF T c p fl).1.2.1
abbrev rN (T:Tab) (c:Cr) (p:List UInt8) (fl:Bool):Int:=(resF T c p fl).1.2.2
def chgF (T:Tab) (c:Cr) (p:List UInt8) (fl:Bool) (g:Nd→Nd×Int):Int×Tab:=
 if rE T c p fl≠0 then (rE T c p fl,T)
 else if (T.get (rN T c p fl)).2=false then (2,T)
 else if (g (T.get (rN T c p fl)).1).2≠0 then ((g (T.get (rN T c p fl)).1).2,T)
 else putT T (rN T c p fl) (g (T.get (rN T c p fl)).1).1
def modeN (n:Nd) (m:Int):Nd:=⟨n.kind,m,n.uid,n.gid,n.data,n.ents,n.target⟩
def chmodG (c:Cr) (m:Int) (n:Nd):Nd×Int:=bif mayMode c n.uid then (modeN n (modeF c n.kind n.gid m),0) else (n,1)
def chmodF (T:Tab) (c:Cr) (p:List UInt8) (m:Int):Int×Tab:=if m<0∨4095<m then (22,T) else chgF T c p true (chmodG c m)
def chownG (c:Cr) (u g:Int) (n:Nd):Nd×Int:=
 bif mayOwn c n.uid n.gid u g then (if u<0∧g<0 then (n,0) else (⟨n.kind,writtenF c n.kind n.mode,if 0≤u then u else n.uid,if 0≤g then g else n.gid,n.data,n.ents,n.target⟩,0)) else (n,1)
def chownF (T:Tab) (c:Cr) (p:List UInt8) (u g:Int) (fl:Bool):Int×Tab:=if 65535<u∨65535<g then (22,T) else chgF T c p fl (chownG c u g)
def ownN (c:Cr) (d n:Nd):Nd:=⟨n.kind,n.mode,c.uid,if bits .and .i64 d.mode 1024=0 then c.gid else d.gid,n.data,n.ents,n.target⟩
def plantF (T:Tab) (c:Cr) (p:List UInt8) (fl:Bool) (g:Nd→Nd):(Int×Int)×Tab:=
 if rE T c p fl≠0 then ((0,rE T c p fl),T)
 else if rN T c p fl≠0 then ((0,17),T)
 else if canT c T (rD T c p fl) 3=false then ((0,13),T)
 else if (8:Int)≤(T.get (rD T c p fl)).1.ents.length∨T.used=T.room then ((0,28),T)
 else if (addT T (ownN c (T.get (rD T c p fl)).1 (g (T.get (rD T c p fl)).1))).1.2≠0 then ((0,(addT T (ownN c (T.get (rD T c p fl)).1 (g (T.get (rD T c p fl)).1))).1.2),(addT T (ownN c (T.get (rD T c p fl)).1 (g (T.get (rD T c p fl)).1))).2)
 else if (withN (T.get (rD T c p fl)).1 (rS T c p fl) (addT T (ownN c (T.get (rD T c p fl)).1 (g (T.get (rD T c p fl)).1))).1.1).2≠0 then
  ((0,(withN (T.get (rD T c p fl)).1 (rS T c p fl) (addT T (ownN c (T.get (rD T c p fl)).1 (g (T.get (rD T c p fl)).1))).1.1).2),dropT (addT T (ownN c (T.get (rD T c p fl)).1 (g (T.get (rD T c p fl)).1))).2 (addT T (ownN c (T.get (rD T c p fl)).1 (g (T.get (rD T c p fl)).1))).1.1)
 else (((addT T (ownN c (T.get (rD T c p fl)).1 (g (T.get (rD T c p fl)).1))).1.1,(putT (addT T (ownN c (T.get (rD T c p fl)).1 (g (T.get (rD T c p fl)).1))).2 (rD T c p fl) (withN (T.get (rD T c p fl)).1 (rS T c p fl) (addT T (ownN c (T.get (rD T c p fl)).1 (g (T.get (rD T c p fl)).1))).1.1).1).1),
  (putT (addT T (ownN c (T.get (rD T c p fl)).1 (g (T.get (rD T c p fl)).1))).2 (rD T c p fl) (withN (T.get (rD T c p fl)).1 (rS T c p fl) (addT T (ownN c (T.get (rD T c p fl)).1 (g (T.get (rD T c p fl)).1))).1.1).1).2)
def orL (l:List Int):Int:=l.foldl (fun a b=>bits .or .i64 a b) 0
def bitsP (m:Int) (l:List Int):Int:=bits .and .i64 m (orL l)
def mkdirG (um m:Int) (d:Nd):Nd:=⟨2,bits .or .i64 (bits .andNot .i64 (bitsP m [511,512]) (bitsP um [511])) (bitsP d.mode [1024]),0,0,[],[],[]⟩
def mkdirF (T:Tab) (c:Cr) (um:Int) (p:List UInt8) (m:Int):Int×Tab:=((plantF T c p false (mkdirG um m)).1.2,(plantF T c p false (mkdirG um m)).2)
def symG (s:List UInt8) (_:Nd):Nd:=⟨3,511,0,0,[],[],s⟩
def symlinkF (T:Tab) (c:Cr) (s p:List UInt8):Int×Tab:=
 if s=[] then (2,T) else if (64:Int)<s.length then (36,T) else if 0≤Lib.indexByte s 0 then (22,T)
 else ((plantF T c p false (symG s)).1.2,(plantF T c p false (symG s)).2)
def fileG (um m:Int) (_:Nd):Nd:=⟨1,bits .andNot .i64 (bitsP m [511]) um,0,0,[],[],[]⟩
def createF (T:Tab) (c:Cr) (um:Int) (p:List UInt8) (m:Int) (fl:Bool):(Int×Int)×Tab:=plantF T c p fl (fileG um m)
def withoutN (n:Nd) (s:List UInt8):Nd×Int:=
 if n.kind≠2 then (nd0,20) else if idxP (eqS s) n.ents<0 then (nd0,2) else (nWith n (n.ents.take (idxP (eqS s) n.ents).toNat++n.ents.drop ((idxP (eqS s) n.ents).toNat+1)),0)
def findE (T:Tab) (c:Cr) (p:List UInt8):Int:=
 if rE T c p false≠0 then rE T c p false else if rN T c p false=0 then 2 else if rS T c p false=[] then 22 else if canT c T (rD T c p false) 2=false then 13
 else if stickyF c (T.get (rD T c p false)).1.mode (T.get (rD T c p false)).1.uid (T.get (rN T c p false)).1.uid=false then 1 else 0
def cutF (T:Tab) (d:Int) (s:List UInt8):Tab:=if (withoutN (T.get d).1 s).2=0 then (putT T d (withoutN (T.get d).1 s).1).2 else T
def freeF (T:Tab) (i:Int) (o:List Int):Bool×Tab:=if (i=1∨0<T.links i)∨(o.any fun y=>decide (i=y))=true then (false,T) else ((T.at i).isSome,dropT T i)
def belowL (T:Tab) (d:Int):Nat→Int→Bool
 | 0,i=>decide (i=d)
 | n+1,i=>if i=d∨i=0 then decide (i=d) else belowL T d n (T.parent i)
def unlinkF (T:Tab) (c:Cr) (p:List UInt8) (o:List Int):Int×Tab:=
 if findE T c p≠0 then (findE T c p,T) else if (T.get (rN T c p false)).1.kind=2 then (21,T) else (0,(freeF (cutF T (rD T c p false) (rS T c p false)) (rN T c p false) o).2)
def rmdirF (T:Tab) (c:Cr) (p:List UInt8):Int×Tab:=
 if findE T c p≠0 then (findE T c p,T) else if (T.get (rN T c p false)).1.kind≠2 then (20,T) else if (0:Int)<(T.get (rN T c p false)).1.ents.length then (39,T) else (0,dropT (cutF T (rD T c p false) (rS T c p false)) (rN T c p false))
def overF (c:Cr) (n d m:Nd):Int:=
 if stickyF c d.mode d.uid m.uid=false then 1 else if n.kind=2∧m.kind≠2 then 20 else if m.kind=2∧n.kind≠2 then 21 else if (0:Int)<m.ents.length then 39 else 0
def renL (T:Tab) (c:Cr) (p q:List UInt8) (o:List Int) (U:Tab):Int×Tab:=
 if (withN ((cutF U (rD T c p false) (rS T c p false)).get (rD T c q false)).1 (rS T c q false) (rN T c p false)).2=0 then
  ((putT (cutF U (rD T c p false) (rS T c p false)) (rD T c q false) (withN ((cutF U (rD T c p false) (rS T c p false)).get (rD T c q false)).1 (rS T c q false) (rN T c p false)).1).1,
   (freeF (putT (cutF U (rD T c p false) (rS T c p false)) (rD T c q false) (withN ((cutF U (rD T c p false) (rS T c p false)).get (rD T c q false)).1 (rS T c q false) (rN T c p false)).1).2 (rN T c q false) o).2)
 else ((withN ((cutF U (rD T c p false) (rS T c p false)).get (rD T c q false)).1 (rS T c q false) (rN T c p false)).2,(freeF (cutF U (rD T c p false) (rS T c p false)) (rN T c q false) o).2)
def renameF (T:Tab) (c:Cr) (p q:List UInt8) (o:List Int):Int×Tab:=
 if findE T c p≠0 then (findE T c p,T)
 else if rE T c q false≠0 then (rE T c q false,T)
 else if rS T c q false=[] then (22,T)
 else if canT c T (rD T c q false) 3=false then (13,T)
 else if rN T c q false=rN T c p false then (0,T)
 else if (T.get (rN T c p false)).1.kind=2∧belowL T (rN T c p false) 24 (rD T c q false)=true then (22,T)
 else if rN T c q false=0∧rD T c q false≠rD T c p false∧(8:Int)≤(T.get (rD T c q false)).1.ents.length then (28,T)
 else if rN T c q false≠0 then
  (
   if overF c (T.get (rN T c p false)).1 (T.get (rD T c q false)).1 (T.get (rN T c q false)).1≠0 then (overF c (T.get (rN T c p false)).1 (T.get (rD T c q false)).1 (T.get (rN T c q false)).1,T)
   else renL T c p q o (cutF T (rD T c q false) (rS T c q false)))
 else renL T c p q o T
def hasF (f b:Int):Bool:=!decide (bits .and .i64 f b=0)
def flagsF (f:Int):Bool:=decide (0≤f)&&decide (f≤63)&&hasF f 3&&(!hasF f 16||hasF f 2)&&(!hasF f 8||hasF f 4)
def dataN (c:Cr) (n:Nd) (b:List UInt8):Nd:=⟨n.kind,writtenF c n.kind n.mode,n.uid,n.gid,b,n.ents,n.target⟩
def openF (T:Tab) (c:Cr) (um:Int) (p:List UInt8) (f m:Int):(Int×Int)×Tab:=
 if flagsF f=false then ((0,22),T)
 else if rE T c p (!hasF f 40)≠0 then ((0,rE T c p (!hasF f 40)),T)
 else if (T.get (rN T c p (!hasF f 40))).2=false then (if hasF f 4=false then ((0,2),T) else createF T c um p m (!hasF f 40))
 else if hasF f 8=true then ((0,17),T)
 else if (T.get (rN T c p (!hasF f 40))).1.kind=3 then ((0,40),T)
 else if (T.get (rN T c p (!hasF f 40))).1.kind=2 then ((0,21),T)
 else if canT c T (rN T c p (!hasF f 40)) (bits .or .i64 (if hasF f 1=true then 4 else 0) (if hasF f 2=true then 2 else 0))=false then ((0,13),T)
 else if hasF f 16=true then ((rN T c p (!hasF f 40),0),(putT T (rN T c p (!hasF f 40)) (dataN c (T.get (rN T c p (!hasF f 40))).1 [])).2)
 else ((rN T c p (!hasF f 40),0),T)
def readF (T:Tab) (i off n:Int):List UInt8×Int:=
 if (T.get i).1.kind≠1 then ([],9) else if off<0∨n<0 then ([],22) else (((T.get i).1.data.drop off.toNat).take n.toNat,0)
def overB (l:List UInt8) (off:Nat) (b:List UInt8):List UInt8:=putAt (putAt (List.replicate (max l.length (off+b.length)) 0) 0 l) off b
def writeAtF (T:Tab) (c:Cr) (i off:Int) (b:List UInt8):Int×Tab:=
 if (T.get i).1.kind≠1 then (9,T) else if off<0 then (22,T) else if b=[] then (0,T) else if 48 - (b.length:Int)<off then (27,T)
 else (0,(putT T i (dataN c (T.get i).1 (overB (T.get i).1.data off.toNat b))).2)
end Go.Proofs.YtmgnbgniikjhdaaGreat
namespace Go.Proofs.YtmgnbgniikjhdaaGreat
open Go.Ab
set_option maxRecDepth 8000
set_option maxHeartbeats 400000
abbrev Done (P:Program) (tf:FuncId) (cs:List AV) (h0:List Blk) (b:Nat) (g:Nd→Nd×Int):Prop:=
 ∀(n:Nd) (h:List Blk) (live:List Nat),NdOk n→h0.length≤b→(∀i,i<h0.length→h[i]? = h0[i]?)→h[b]? = some (.cells (ndC n))→ACalls P tf (.ptr b 0::cs) h live (ret (.int .i64 (g n).2) (h.set b (.cells (ndC (g n).1))) live)
theorem cl_ndB (m:Nat) (n:Nd):Blk.cl m (.cells (ndC n)):=clL_ndC m n
theorem hcl_nd {h:List Blk} (hH:HCl h) (b:Nat) (n:Nd):HCl (h.set b (.cells (ndC n))):=HCl.set hH b (cl_ndB _ _)
theorem ndC_s1 (n:Nd) (m:Int):(ndC n).set 1 (.int .i64 m)=ndC (modeN n m):=rfl
theorem ndC_s2 (n:Nd) (u:Int):(ndC n).set 2 (.int .i64 u)=ndC ⟨n.kind,n.mode,u,n.gid,n.data,n.ents,n.target⟩:=rfl
theorem ndC_s3 (n:Nd) (u:Int):(ndC n).set 3 (.int .i64 u)=ndC ⟨n.kind,n.mode,n.uid,u,n.data,n.ents,n.target⟩:=rfl
theorem chmodG_ok (c:Cr) (m:Int) (n:Nd) (hn:NdOk n):NdOk (chmodG c m n).1:=by
 unfold chmodG
 cases mayMode c n.uid
 · exact hn
 · exact hn
theorem chownG_ok (c:Cr) (u g:Int) (n:Nd) (hn:NdOk n):NdOk (chownG c u g n).1:=by
 unfold chownG
 cases mayOwn c n.uid n.gid u g
 · exact hn
 ·
  rw [cond_true];split
  · exact hn
  · exact hn
attribute [push_cast] ndC_s1 ndC_s2 ndC_s3
theorem c164 (c:Cr) (m:Int) (n:Nd) (b p1 p2:Nat) (h:List Blk) (live:List Nat) (hb:h[b]? = some (.cells (ndC n))) (h1:h[p1]? = some (.cells [AV.int .i64 c.uid,.int .i64 c.gid,.slice (c.gs.map iV) .none])) (h2:h[p2]? = some (.cells [.int .i64 m])) (hgs:c.gs.length≤17592186044416):ACalls Tryz.prog 164 [.ptr b 0,.ptr p1 0,.ptr p2 0] h live (ret (.int .i64 (chmodG c m n).2) (h.set b (.cells (ndC (chmodG c m n).1))) live):=by
 refine aq_ Tryz.func164 fun hH hX=>?_
 have hbl:=lt_of_get hb
 have hl1:=lt_of_get h1
 have hl2:=lt_of_get h2
 have sx:=(And.intro @hb (And.intro @h1 (And.intro @h2 sx0)))
 refine rg_ [0,1,2] ?_
 refine sk_ fun K1 hK1=>?_
 refine rsq_ [0,1,2,11] ⟨true,[],[],[],[],[],0⟩ (fun _=>⟨by kernel_rfl,by kernel_rfl⟩) ?_
 refine sg_ ?_
 refine cr_ (hc:=c165 c _ _ _) (k:=?_)
 refine sre_ ?_
 refine cx_ (fun hb1=>?_) (fun hb1=>?_)
 ·
  refine rg_ [4] ?_
  refine ret_ ?_
  refine gq_ (h1:=h.set b _) Tryz.results164 ?_ (hh:=(⟨[],by rw [List.append_nil];exact (set_self hb).symm⟩)) (hH:=(hcl_nd hH _ _))
  exact ⟨by unfold chmodG;rw [hb1];rfl,by unfold chmodG;rw [hb1];rfl,rfl⟩
 refine skp_ ?_
 refine hK1 _ ?_
 refine rsq_ [] ⟨true,[],[],[],[],[],0⟩ (fun _=>⟨by kernel_rfl,by kernel_rfl⟩) ?_
 refine sg_ ?_
 refine cr_ (hc:=c166 c _ _ _ _ _ hgs) (k:=?_)
 refine sre_ ?_
 refine rg_ [4] ?_
 refine ret_ ?_
 refine gq_ (h1:=h.set b _) Tryz.results164 ?_ (hH:=(hcl_nd hH _ _))
 exact ⟨by unfold chmodG;rw [hb1];rfl,by unfold chmodG;rw [hb1];rfl,rfl⟩
theorem c163 (T:Tab) (k:Nat) (c:Cr) (p:List UInt8) (fl:Bool) (tf:FuncId) (cs:List AV) (g:Nd→Nd×Int) (h:List Blk) (live:List Nat) (hk:h[k]? = some (tabBlk T)) (hT:T.Ok) (hgs:c.gs.length≤17592186044416) (hR:T.Rt) (hp:p.length≤9223372036854775807) (hcs:AV.clL h.length cs) (hg:∀n,NdOk n→NdOk (g n).1) (ht:∀b,Done Tryz.prog tf cs h b g):ACalls Tryz.prog 163 [.ptr k 0,.agg [.int .i64 c.uid,.int .i64 c.gid,.slice (c.gs.map iV) .none],.str p,.bool fl,.fn (.func tf) [] cs] h live (ret (.int .i64 (chgF T c p fl g).1) (h.set k (tabBlk (chgF T c p fl g).2)) live):=by
 refine aq_ Tryz.func163 fun hH hX=>?_
 have hkl:=lt_of_get hk
 have hs1:∀(y:Blk) (g:List Blk),(h++g).set k y=h.set k y++g:=fun y g=>setApp hk
 have hse:h.set k (tabBlk T)=h:=set_self hk
 have hcl:∀x,HCl (h.set k (tabBlk x)):=fun x=>hcl_tab hH _ _
 have sx:=(And.intro @hs1 (And.intro @hk sx0))
 refine rg_ [0,2,3,4,6] ?_
 refine rs_ [0,4,11,12] ?_
 refine sg_ ?_
 refine cl_ (hc:=c90 T k c p fl _ _ (atApp hk) hT hgs hR hp) (k:=?_)
 refine sre_ ?_
 refine sk_ fun K1 hK1=>?_
 refine rg_ [0,4,11,12,25] ?_
 refine cx_ (fun hb1=>?_) (fun hb1=>?_)
 ·
  refine rg_ [10] ?_
  refine ret_ ?_
  refine gq_ (h1:=h.set k (tabBlk T)) Tryz.results163 ?_ (hh:=(by rw [hse];exact ⟨_,rfl⟩)) (hH:=(hcl _))
  exact ⟨by unfold chgF;rw [if_pos hb1],by unfold chgF;rw [if_pos hb1],rfl⟩
 refine skp_ ?_
 refine hK1 _ ?_
 refine rs_ [0,4,11,13,14] ?_
 refine sg_ ?_
 refine cl_ (hc:=c23 T k _ _ _ (atApp hk) hT) (k:=?_)
 refine sre_ ?_
 refine sk_ fun K2 hK2=>?_
 refine rg_ [0,4,11,13,35] ?_
 refine cx_ (fun hb2=>?_) (fun hb2=>?_)
 ·
  refine rg_ [10] ?_
  refine ret_ ?_
  refine gq_ (h1:=h.set k (tabBlk T)) Tryz.results163 ?_ (hh:=(by rw [hse];exact ⟨_,rfl⟩)) (hH:=(hcl _))
  exact ⟨by unfold chgF;rw [if_neg (fun h=>h hb1),if_pos hb2],by unfold chgF;rw [if_neg (fun h=>h hb1),if_pos hb2],rfl⟩
 refine skp_ ?_
 refine hK2 _ ?_
 refine sk_ fun K3 hK3=>?_
 refine rs_ [0,11,13,15] ?_
 refine sg_ ?_
 refine cl_ (hc:=ht _ (T.get (resF T c p fl).1.2.2).1 _ _ (get_ok hT _) (by omega) (fun i hi=>List.getElem?_append_left hi) (by simp only [push_cast])) (k:=?_)
 refine sre_ ?_
 refine rg_ [0,11,13,15,39] ?_
 refine cx_ (fun hb3=>?_) (fun hb3=>?_)
 ·
  refine rg_ [10] ?_
  refine ret_ ?_
  refine gq_ (h1:=h.set k (tabBlk T)) Tryz.results163 ?_ (hh:=(by rw [hse];exact ⟨_,rfl⟩)) (hH:=(hcl _))
  exact ⟨by unfold chgF;rw [if_neg (fun h=>h hb1),if_neg (by rw [hb2];decide),if_pos hb3],by unfold chgF;rw [if_neg (fun h=>h hb1),if_neg (by rw [hb2];decide),if_pos hb3],rfl⟩
 refine skp_ ?_
 refine hK3 _ ?_
 refine rs_ [10] ?_
 refine sg_ ?_
 refine cl_ (hc:=c135 T k _ _ _ _ (atApp hk) hT (hg _ (get_ok hT _))) (k:=?_)
 refine srt_ ?_
 refine gq_ (h1:=h.set k _) Tryz.results163 ?_ (hh:=(⟨_,rfl⟩)) (hH:=(hcl _))
 exact ⟨by unfold chgF;rw [if_neg (fun h=>h hb1),if_neg (by rw [hb2];decide),if_neg (fun h=>h hb3)],by unfold chgF;rw [if_neg (fun h=>h hb1),if_neg (by rw [hb2];decide),if_neg (fun h=>h hb3)],rfl⟩
theorem c112 (T:Tab) (k:Nat) (c:Cr) (p:List UInt8) (m:Int) (h:List Blk) (live:List Nat) (hk:h[k]? = some (tabBlk T)) (hT:T.Ok) (hgs:c.gs.length≤17592186044416) (hR:T.Rt) (hp:p.length≤9223372036854775807):ACalls Tryz.prog 112 [.ptr k 0,.agg [.int .i64 c.uid,.int .i64 c.gid,.slice (c.gs.map iV) .none],.str p,.int .i64 m] h live (ret (.int .i64 (chmodF T c p m).1) (h.set k (tabBlk (chmodF T c p m).2)) live):=by
 refine aq_ Tryz.func112 fun hH hX=>?_
 have hkl:=lt_of_get hk
 have hse:h.set k (tabBlk T)=h:=set_self hk
 have hcl:∀x,HCl (h.set k (tabBlk x)):=fun x=>hcl_tab hH _ _
 have hs1:∀(y:Blk) (g:List Blk),(h++g).set k y=h.set k y++g:=fun y g=>setApp hk
 have sx:=(And.intro @hs1 sx0)
 refine rg_ [0,2,5,7] ?_
 refine sk_ fun K1 hK1=>?_
 refine rg_ [0,2,5,7,14] ?_
 refine cx_ (fun hb1=>?_) (fun hb1=>?_)
 ·
  refine rg_ [8] ?_
  refine ret_ ?_
  refine gq_ (h1:=h.set k (tabBlk T)) Tryz.results112 ?_ (hh:=(by rw [hse];exact ⟨_,rfl⟩)) (hH:=(hcl _))
  exact ⟨by unfold chmodF;rw [if_pos hb1],by unfold chmodF;rw [if_pos hb1],rfl⟩
 refine skp_ ?_
 refine hK1 _ ?_
 refine rs_ [8] ?_
 refine sg_ ?_
 refine cl_ (hc:=c163 T k c p true _ _ (chmodG c m) _ _ (atApp hk) hT hgs hR hp (by simp [AV.clL,AV.cl]) (chmodG_ok c m) (fun b n h' live hn hb ho hbn=>c164 c m n b _ _ h' live hbn (by rw [ho _ (by simp)];simp only [push_cast]) (by rw [ho _ (by simp)];simp only [push_cast]) hgs)) (k:=?_)
 refine srt_ ?_
 refine gq_ (h1:=h.set k _) Tryz.results112 ?_ (hh:=(⟨_,rfl⟩)) (hH:=(hcl _))
 exact ⟨by unfold chmodF;rw [if_neg (by omega)],by unfold chmodF;rw [if_neg (by omega)],rfl⟩
theorem c177 (c:Cr) (u g:Int) (n:Nd) (b p1 p2 p3:Nat) (h:List Blk) (live:List Nat) (hb:h[b]? = some (.cells (ndC n))) (h1:h[p1]? = some (.cells [AV.int .i64 c.uid,.int .i64 c.gid,.slice (c.gs.map iV) .none])) (h2:h[p2]? = some (.cells [.int .i64 u])) (h3:h[p3]? = some (.cells [.int .i64 g])) (hn1:p1≠b) (hn2:p2≠b) (hn3:p3≠b) (hgs:c.gs.length≤17592186044416):ACalls Tryz.prog 177 [.ptr b 0,.ptr p1 0,.ptr p2 0,.ptr p3 0] h live (ret (.int .i64 (chownG c u g n).2) (h.set b (.cells (ndC (chownG c u g n).1))) live):=by
 refine aq_ Tryz.func177 fun hH hX=>?_
 have hbl:=lt_of_get hb
 have hl1:=lt_of_get h1
 have hl2:=lt_of_get h2
 have hl3:=lt_of_get h3
 have hq1:∀x:Blk,(h.set b x)[p1]? = some (.cells [AV.int .i64 c.uid,.int .i64 c.gid,.slice (c.gs.map iV) .none]):=fun x=>getSet h1 hn1
 have hq2:∀x:Blk,(h.set b x)[p2]? = some (.cells [.int .i64 u]):=fun x=>getSet h2 hn2
 have hq3:∀x:Blk,(h.set b x)[p3]? = some (.cells [.int .i64 g]):=fun x=>getSet h3 hn3
 have hqb:∀x:Blk,(h.set b x)[b]? = some x:=fun x=>get_setk hbl
 have hqq:∀x y:Blk,(h.set b x).set b y=h.set b y:=fun x y=>by rw [List.set_set]
 have sx:=(And.intro @hb (And.intro @h1 (And.intro @h2 (And.intro @h3 (And.intro @hq1 (And.intro @hq2 (And.intro @hq3 (And.intro @hqb (And.intro @hqq sx0)))))))))
 refine rg_ [0,1,2,3] ?_
 refine sk_ fun K1 hK1=>?_
 refine rsq_ [0,1,2,3,18] ⟨true,[],[],[],[],[],0⟩ (fun _=>⟨by kernel_rfl,by kernel_rfl⟩) ?_
 refine sg_ ?_
 refine cr_ (hc:=c178 c _ _ _ _ _ _ hgs) (k:=?_)
 refine sre_ ?_
 refine cx_ (fun hb1=>?_) (fun hb1=>?_)
 ·
  refine rg_ [5] ?_
  refine ret_ ?_
  refine gq_ (h1:=h.set b _) Tryz.results177 ?_ (hh:=(⟨[],by rw [List.append_nil];exact (set_self hb).symm⟩)) (hH:=(hcl_nd hH _ _))
  exact ⟨by unfold chownG;rw [hb1];rfl,by unfold chownG;rw [hb1];rfl,rfl⟩
 refine skp_ ?_
 refine hK1 _ ?_
 refine sk_ fun K2 hK2=>?_
 refine rg_ [0,1,2,3,24] ?_
 refine cx_ (fun hb2=>?_) (fun hb2=>?_)
 ·
  refine rg_ [5] ?_
  refine ret_ ?_
  refine gq_ (h1:=h.set b _) Tryz.results177 ?_ (hh:=(⟨[],by rw [List.append_nil];exact (set_self hb).symm⟩)) (hH:=(hcl_nd hH _ _))
  exact ⟨by unfold chownG;rw [hb1,cond_true,if_pos hb2],by unfold chownG;rw [hb1,cond_true,if_pos hb2],rfl⟩
 refine skp_ ?_
 refine hK2 _ ?_
 refine sk_ fun K3 hK3=>?_
 refine rg_ [0,1,2,3,26] ?_
 refine cx_ (fun hb3=>?_) (fun hb3=>?_)
 ·
  refine rt_ [0,1,3] ?_
  refine srn_ ?_
  refine hK3 _ ?_
  refine sk_ fun K4 hK4=>?_
  refine rg_ [0,1,3,32] ?_
  refine cx_ (fun hb4=>?_) (fun hb4=>?_)
  ·
   refine rt_ [0,1] ?_
   refine srn_ ?_
   refine hK4 _ ?_
   refine rsq_ [] ⟨true,[],[],[],[],[],0⟩ (fun _=>⟨by kernel_rfl,by kernel_rfl⟩) ?_
   refine sg_ ?_
   refine cr_ (hc:=c179 c _ _ _ _) (k:=?_)
   refine sre_ ?_
   refine rg_ [5] ?_
   refine ret_ ?_
   refine gq_ (h1:=h.set b _) Tryz.results177 ?_ (hh:=(⟨[],by rw [List.append_nil]⟩)) (hH:=(hcl_nd hH _ _))
   exact ⟨by unfold chownG;rw [hb1,cond_true,if_neg (by omega)],by unfold chownG;rw [hb1,cond_true,if_neg (by omega),if_pos hb3,if_pos hb4]<;>rfl,rfl⟩
  refine skp_ ?_
  refine hK4 _ ?_
  refine rsq_ [] ⟨true,[],[],[],[],[],0⟩ (fun _=>⟨by kernel_rfl,by kernel_rfl⟩) ?_
  refine sg_ ?_
  refine cr_ (hc:=c179 c _ _ _ _) (k:=?_)
  refine sre_ ?_
  refine rg_ [5] ?_
  refine ret_ ?_
  refine gq_ (h1:=h.set b _) Tryz.results177 ?_ (hh:=(⟨[],by rw [List.append_nil]⟩)) (hH:=(hcl_nd hH _ _))
  exact ⟨by unfold chownG;rw [hb1,cond_true,if_neg (by omega)],by unfold chownG;rw [hb1,cond_true,if_neg (by omega),if_pos hb3,if_neg (by omega)]<;>rfl,rfl⟩
 refine skp_ ?_
 refine hK3 _ ?_
 refine sk_ fun K5 hK5=>?_
 refine rg_ [0,1,3,32] ?_
 refine cx_ (fun hb4=>?_) (fun hb4=>?_)
 ·
  refine rt_ [0,1] ?_
  refine srn_ ?_
  refine hK5 _ ?_
  refine rsq_ [] ⟨true,[],[],[],[],[],0⟩ (fun _=>⟨by kernel_rfl,by kernel_rfl⟩) ?_
  refine sg_ ?_
  refine cr_ (hc:=c179 c _ _ _ _) (k:=?_)
  refine sre_ ?_
  refine rg_ [5] ?_
  refine ret_ ?_
  refine gq_ (h1:=h.set b _) Tryz.results177 ?_ (hh:=(⟨[],by rw [List.append_nil]⟩)) (hH:=(hcl_nd hH _ _))
  exact ⟨by unfold chownG;rw [hb1,cond_true,if_neg (by omega)],by unfold chownG;rw [hb1,cond_true,if_neg (by omega),if_neg (by omega),if_pos hb4]<;>rfl,rfl⟩
 refine skp_ ?_
 refine hK5 _ ?_
 refine rsq_ [] ⟨true,[],[],[],[],[],0⟩ (fun _=>⟨by kernel_rfl,by kernel_rfl⟩) ?_
 refine sg_ ?_
 refine cr_ (hc:=c179 c _ _ _ _) (k:=?_)
 refine sre_ ?_
 refine rg_ [5] ?_
 refine ret_ ?_
 refine gq_ (h1:=h.set b _) Tryz.results177 ?_ (hh:=(⟨[],by rw [List.append_nil]⟩)) (hH:=(hcl_nd hH _ _))
 exact ⟨by unfold chownG;rw [hb1,cond_true,if_neg (by omega)],by unfold chownG;rw [hb1,cond_true,if_neg (by omega),if_neg (by omega),if_neg (by omega)]<;>rfl,rfl⟩
theorem c118 (T:Tab) (k:Nat) (c:Cr) (p:List UInt8) (u g:Int) (fl:Bool) (h:List Blk) (live:List Nat) (hk:h[k]? = some (tabBlk T)) (hT:T.Ok) (hgs:c.gs.length≤17592186044416) (hR:T.Rt) (hp:p.length≤9223372036854775807):ACalls Tryz.prog 118 [.ptr k 0,.agg [.int .i64 c.uid,.int .i64 c.gid,.slice (c.gs.map iV) .none],.str p,.int .i64 u,.int .i64 g,.bool fl] h live (ret (.int .i64 (chownF T c p u g fl).1) (h.set k (tabBlk (chownF T c p u g fl).2)) live):=by
 refine aq_ Tryz.func118 fun hH hX=>?_
 have hkl:=lt_of_get hk
 have hse:h.set k (tabBlk T)=h:=set_self hk
 have hcl:∀x,HCl (h.set k (tabBlk x)):=fun x=>hcl_tab hH _ _
 have hs1:∀(y:Blk) (g:List Blk),(h++g).set k y=h.set k y++g:=fun y g=>setApp hk
 have sx:=(And.intro @hs1 sx0)
 refine rg_ [0,2,5,7,9,10] ?_
 refine sk_ fun K1 hK1=>?_
 refine rg_ [0,2,5,7,9,10,18] ?_
 refine cx_ (fun hb1=>?_) (fun hb1=>?_)
 ·
  refine rg_ [12] ?_
  refine ret_ ?_
  refine gq_ (h1:=h.set k (tabBlk T)) Tryz.results118 ?_ (hh:=(by rw [hse];exact ⟨_,rfl⟩)) (hH:=(hcl _))
  exact ⟨by unfold chownF;rw [if_pos hb1],by unfold chownF;rw [if_pos hb1],rfl⟩
 refine skp_ ?_
 refine hK1 _ ?_
 refine rs_ [12] ?_
 refine sg_ ?_
 refine cl_ (hc:=c163 T k c p fl _ _ (chownG c u g) _ _ (atApp hk) hT hgs hR hp (by simp [AV.clL,AV.cl]) (chownG_ok c u g) (fun b n h' live hn hb ho hbn=>c177 c u g n b _ _ _ h' live hbn (by rw [ho _ (by simp)];simp only [push_cast]) (by rw [ho _ (by simp)];simp only [push_cast]) (by rw [ho _ (by simp)];simp only [push_cast]) (by simp at hb;omega) (by simp at hb;omega) (by simp at hb;omega) hgs)) (k:=?_)
 refine srt_ ?_
 refine gq_ (h1:=h.set k _) Tryz.results118 ?_ (hh:=(⟨_,rfl⟩)) (hH:=(hcl _))
 exact ⟨by unfold chownF;rw [if_neg (by omega)],by unfold chownF;rw [if_neg (by omega)],rfl⟩
end Go.Proofs.YtmgnbgniikjhdaaGreat
namespace Go.Proofs.YtmgnbgniikjhdaaGreat
open Go.Ab
set_option maxRecDepth 8000
set_option maxHeartbeats 400000
abbrev Made (P:Program) (tf:FuncId) (cs:List AV) (h0:List Blk) (g:Nd→Nd):Prop:=
 ∀(n:Nd) (h:List Blk) (live:List Nat),NdOk n→(∀i,i<h0.length→h[i]? = h0[i]?)→ACalls P tf (.agg (ndC n)::cs) h live (ret (.agg (ndC (g n))) h live)
theorem resL_nm (T:Tab) (c:Cr) (fl:Bool):∀(n:Nat) (i k:Int) (l:List (List UInt8)),(resL T c fl n i k l).1.2.1.length≤12
 | 0, _, _, _=>Nat.zero_le _
 | _+1, _, _,[]=>Nat.zero_le _
 | n+1,i,k,s::l=>by
  rw [resL_cons]
  split
  · exact Nat.zero_le _
  ·
   split
   · exact Nat.zero_le _
   ·
    split
    · exact resL_nm T c fl n _ _ _
    ·
     split
     · exact resL_nm T c fl n _ _ _
     ·
      split
      · exact Nat.zero_le _
      ·
       split
       · exact Nat.zero_le _
       ·
        split
        ·
         split
         · exact Nat.zero_le _
         · exact resL_nm T c fl n _ _ _
        ·
         split
         · show s.length≤12;omega
         · exact resL_nm T c fl n _ _ _
theorem resF_nm (T:Tab) (c:Cr) (p:List UInt8) (fl:Bool):(rS T c p fl).length≤12:=by
 show (resF T c p fl).1.2.1.length≤12
 unfold resF
 split
 · exact Nat.zero_le _
 · exact resL_nm T c fl _ _ _ _
theorem ownN_ok {c:Cr} {d n:Nd} (hn:NdOk n):NdOk (ownN c d n):=hn
theorem c167 (T:Tab) (k:Nat) (c:Cr) (p:List UInt8) (fl:Bool) (tf:FuncId) (cs:List AV) (g:Nd→Nd) (h:List Blk) (live:List Nat) (hk:h[k]? = some (tabBlk T)) (hT:T.Ok) (hgs:c.gs.length≤17592186044416) (hR:T.Rt) (hp:p.length≤9223372036854775807) (hcs:AV.clL h.length cs) (hg:∀n,NdOk n→NdOk (g n)) (ht:Made Tryz.prog tf cs h g):ACalls Tryz.prog 167 [.ptr k 0,.agg [.int .i64 c.uid,.int .i64 c.gid,.slice (c.gs.map iV) .none],.str p,.bool fl,.fn (.func tf) [] cs] h live (ret (.tup [.int .i64 (plantF T c p fl g).1.1,.int .i64 (plantF T c p fl g).1.2]) (h.set k (tabBlk (plantF T c p fl g).2)) live):=by
 refine aq_ Tryz.func167 fun hH hX=>?_
 have hkl:=lt_of_get hk
 have hs1:∀(y:Blk) (g:List Blk),(h++g).set k y=h.set k y++g:=fun y g=>setApp hk
 have hse:h.set k (tabBlk T)=h:=set_self hk
 have hcl:∀x,HCl (h.set k (tabBlk x)):=fun x=>hcl_tab hH _ _
 have hk2:∀x:Blk,(h.set k x)[k]? = some x:=fun x=>get_setk hkl
 have hsl:∀x:Blk,(h.set k x).length=h.length:=fun x=>List.length_set ..
 have hss:∀x y:Blk,(h.set k x).set k y=h.set k y:=fun x y=>by rw [List.set_set]
 have hs3:∀(x y:Blk) (g:List Blk),(h.set k x++g).set k y=h.set k y++g:=fun x y g=>by rw [setApp (hk2 x),hss]
 have hdn:=get_ok hT (rD T c p fl)
 have hnm:=resF_nm T c p fl
 have hwn:=withN_ok (s:=rS T c p fl) (id:=(addT T (ownN c (T.get (rD T c p fl)).1 (g (T.get (rD T c p fl)).1))).1.1) hdn (by omega)
 have hTA:(addT T (ownN c (T.get (rD T c p fl)).1 (g (T.get (rD T c p fl)).1))).2.Ok:=addT_ok hT (ownN_ok (hg _ hdn))
 have hB:HCl (h++[.cells [AV.int .i64 c.uid,.int .i64 c.gid,.slice (c.gs.map iV) .none],.cells [.int .i64 (rD T c p fl),.str (rS T c p fl),.int .i64 (rN T c p fl)],.cells (ndC (T.get (rD T c p fl)).1),.cells (ndC (ownN c (T.get (rD T c p fl)).1 (g (T.get (rD T c p fl)).1)))]):=by
  have:=HCl.snoc (HCl.snoc (HCl.snoc (HCl.snoc (b:=.cells [AV.int .i64 c.uid,.int .i64 c.gid,.slice (c.gs.map iV) .none]) hH (by simp [Blk.cl,AV.cl,AV.clL,clL_iV, -List.map_map])) (b:=.cells [.int .i64 (rD T c p fl),.str (rS T c p fl),.int .i64 (rN T c p fl)]) ⟨trivial,trivial,trivial,trivial⟩) (b:=.cells (ndC (T.get (rD T c p fl)).1)) (cl_ndB _ _)) (b:=.cells (ndC (ownN c (T.get (rD T c p fl)).1 (g (T.get (rD T c p fl)).1)))) (cl_ndB _ _)
  rw [List.append_assoc,List.append_assoc,List.append_assoc] at this;exact this
 have sx:=(And.intro @hs1 (And.intro @hs3 (And.intro @hk (And.intro @hsl sx0))))
 refine rg_ [0,2,3,4,6] ?_
 refine rs_ [0,4,6,12,13] ?_
 refine sg_ ?_
 refine cl_ (hc:=c90 T k c p fl _ _ (atApp hk) hT hgs hR hp) (k:=?_)
 refine sre_ ?_
 refine sk_ fun K1 hK1=>?_
 refine awp_block ?_
 refine rg_ [0,4,6,12,13,26] ?_
 refine cx_ (fun hb1=>?_) (fun hb1=>?_)
 ·
  refine rg_ [10,11] ?_
  refine ret_ ?_
  refine gq_ (h1:=h.set k (tabBlk T)) Tryz.results167 ?_ (hh:=(by rw [hse];exact ⟨_,rfl⟩)) (hH:=(hcl _))
  exact ⟨by unfold plantF;rw [if_pos hb1]<;>rfl,by unfold plantF;rw [if_pos hb1]<;>rfl,rfl⟩
 refine rg_ [0,4,6,12,30] ?_
 refine cx_ (fun hb2=>?_) (fun hb2=>?_)
 ·
  refine rg_ [10,11] ?_
  refine ret_ ?_
  refine gq_ (h1:=h.set k (tabBlk T)) Tryz.results167 ?_ (hh:=(by rw [hse];exact ⟨_,rfl⟩)) (hH:=(hcl _))
  exact ⟨by unfold plantF;rw [if_neg (fun h=>h hb1),if_pos hb2]<;>rfl,by unfold plantF;rw [if_neg (fun h=>h hb1),if_pos hb2]<;>rfl,rfl⟩
 refine rs_ [0,4,6,12,34] ?_
 refine sg_ ?_
 refine cl_ (hc:=c128 T k c _ _ _ _ _ (atApp hk) hT hgs) (k:=?_)
 refine sre_ ?_
 refine cx_ (fun hb3=>?_) (fun hb3=>?_)
 ·
  refine rg_ [10,11] ?_
  refine ret_ ?_
  refine gq_ (h1:=h.set k (tabBlk T)) Tryz.results167 ?_ (hh:=(by rw [hse];exact ⟨_,rfl⟩)) (hH:=(hcl _))
  exact ⟨by unfold plantF;rw [if_neg (fun h=>h hb1),if_neg (fun h=>h hb2),if_pos hb3]<;>rfl,by unfold plantF;rw [if_neg (fun h=>h hb1),if_neg (fun h=>h hb2),if_pos hb3]<;>rfl,rfl⟩
 refine skp_ ?_
 refine hK1 _ ?_
 refine rs_ [0,4,6,12,14] ?_
 refine sg_ ?_
 refine cl_ (hc:=c23 T k _ _ _ (atApp hk) hT) (k:=?_)
 refine sre_ ?_
 refine rs_ [0,6,12,14,16] ?_
 refine sg_ ?_
 refine cl_ (hc:=ht (T.get (rD T c p fl)).1 _ _ hdn (fun i hi=>List.getElem?_append_left hi)) (k:=?_)
 refine sre_ ?_
 refine rsq_ [0,12,14,16] ⟨false,[(h.length,0,.one),(h.length,1,.one)],[52,54],[55,56],[],[],0⟩ (fun _=>⟨by kernel_rfl,by kernel_rfl⟩) ?_
 refine sg_ ?_
 refine df_ ?_
 refine sg_ ?_
 refine df_ ?_
 refine sg_ ?_
 refine dgs_ ?_
 refine sg_ ?_
 refine dgs_ ?_
 refine re_ ?_
 refine awp_seq_m (X:=Unit) (fun _=>⟨Tryz.f167.ntmps,fget [(0,.ptr k 0),(12,.ptr (h.length+1) 0),(14,.ptr (h.length+2) 0),(16,.ptr (h.length+3) 0)],h++[.cells [AV.int .i64 c.uid,.int .i64 c.gid,.slice (c.gs.map iV) .none],.cells [.int .i64 (rD T c p fl),.str (rS T c p fl),.int .i64 (rN T c p fl)],.cells (ndC (T.get (rD T c p fl)).1),.cells (ndC (ownN c (T.get (rD T c p fl)).1 (g (T.get (rD T c p fl)).1)))],live⟩) ?_ (fun _=>?_)
 rotate_left
 ·
  try dsimp only
  refine sk_ fun K2 hK2=>?_
  refine rs_ [0,12,14,16,74] ?_
  refine sg_ ?_
  refine cg_ (hc:=fun hg=>c224 T k _ _ (atApp hk) hT) (k:=?_)
  refine sg_ ?_
  refine cg_ (hc:=fun hg=>c22 T k _ _ (atApp hk)) (k:=?_)
  refine sre_ ?_
  refine cx_ (fun hb5=>?_) (fun hb5=>?_)
  ·
   refine rg_ [10,11] ?_
   refine ret_ ?_
   refine gq_ (h1:=h.set k (tabBlk T)) Tryz.results167 ?_ (hh:=(by rw [hse];exact ⟨_,rfl⟩)) (hH:=(hcl _))
   exact ⟨by unfold plantF;rw [if_neg (fun h=>h hb1),if_neg (fun h=>h hb2),if_neg (by rw [hb3];decide),if_pos hb5]<;>rfl,by unfold plantF;rw [if_neg (fun h=>h hb1),if_neg (fun h=>h hb2),if_neg (by rw [hb3];decide),if_pos hb5]<;>rfl,rfl⟩
  refine skp_ ?_
  refine hK2 _ ?_
  refine rs_ [0,12,13,14,17] ?_
  refine sg_ ?_
  refine cl_ (hc:=c92 T k (ownN c (T.get (rD T c p fl)).1 (g (T.get (rD T c p fl)).1)) _ _ (atApp hk) hT (ownN_ok (hg _ hdn))) (k:=?_)
  refine sre_ ?_
  refine sk_ fun K3 hK3=>?_
  refine rg_ [0,12,13,14,17,82] ?_
  refine cx_ (fun hb6=>?_) (fun hb6=>?_)
  ·
   refine rg_ [10,11] ?_
   refine ret_ ?_
   refine gq_ (h1:=h.set k _) Tryz.results167 ?_ (hh:=(⟨_,rfl⟩)) (hH:=(hcl _))
   exact ⟨by unfold plantF;rw [if_neg (fun h=>h hb1),if_neg (fun h=>h hb2),if_neg (by rw [hb3];decide),if_neg (by omega),if_pos hb6]<;>rfl,by unfold plantF;rw [if_neg (fun h=>h hb1),if_neg (fun h=>h hb2),if_neg (by rw [hb3];decide),if_neg (by omega),if_pos hb6]<;>rfl,rfl⟩
  refine skp_ ?_
  refine hK3 _ ?_
  refine rs_ [0,12,13,14,17] ?_
  refine sg_ ?_
  refine cl_ (hc:=c134 _ _ _ _ _ hdn (by omega)) (k:=?_)
  refine sre_ ?_
  refine sk_ fun K4 hK4=>?_
  refine rg_ [0,12,13,14,17,93] ?_
  refine cx_ (fun hb7=>?_) (fun hb7=>?_)
  ·
   refine rs_ [13] ?_
   refine sg_ ?_
   refine cl_ (hc:=c161 _ k _ _ _ (atApp (hk2 _)) hTA) (k:=?_)
   refine re_ ?_
   refine rg_ [10,11] ?_
   refine ret_ ?_
   refine gq_ (h1:=h.set k _) Tryz.results167 ?_ (hh:=(⟨_,rfl⟩)) (hH:=(hcl _))
   exact ⟨by unfold plantF;rw [if_neg (fun h=>h hb1),if_neg (fun h=>h hb2),if_neg (by rw [hb3];decide),if_neg (by omega),if_neg (fun h=>h hb6),if_pos hb7]<;>rfl,by unfold plantF;rw [if_neg (fun h=>h hb1),if_neg (fun h=>h hb2),if_neg (by rw [hb3];decide),if_neg (by omega),if_neg (fun h=>h hb6),if_pos hb7]<;>rfl,rfl⟩
  refine skp_ ?_
  refine hK4 _ ?_
  refine rs_ [10,11] ?_
  refine sg_ ?_
  refine cl_ (hc:=c135 _ k _ _ _ _ (atApp (hk2 _)) hTA hwn) (k:=?_)
  refine srt_ ?_
  refine gq_ (h1:=h.set k _) Tryz.results167 ?_ (hh:=(⟨_,rfl⟩)) (hH:=(hcl _))
  exact ⟨by unfold plantF;rw [if_neg (fun h=>h hb1),if_neg (fun h=>h hb2),if_neg (by rw [hb3];decide),if_neg (by omega),if_neg (fun h=>h hb6),if_neg (fun h=>h hb7)]<;>rfl,by unfold plantF;rw [if_neg (fun h=>h hb1),if_neg (fun h=>h hb2),if_neg (by rw [hb3];decide),if_neg (by omega),if_neg (fun h=>h hb6),if_neg (fun h=>h hb7)]<;>rfl,rfl⟩
 refine rg_ [0,12,14,16,60] ?_
 refine cx_ (fun hb4=>?_) (fun hb4=>?_)
 ·
  refine rt_ [0,12,14,16] ?_
  refine srn_ ?_
  first
   | exact ⟨(),tf_ hB (fun _ h=>h) (hj:=by rw [List.append_nil];unfold ownN;rw [if_neg hb4]),by simp⟩
   | exact ⟨(),tf_ hB (fun _ h=>h) (hj:=by rw [List.append_nil];unfold ownN;rw [if_pos hb4]),by simp⟩
 refine skp_ ?_
 first
  | exact ⟨(),tf_ hB (fun _ h=>h) (hj:=by rw [List.append_nil];unfold ownN;rw [if_neg hb4]),by simp⟩
  | exact ⟨(),tf_ hB (fun _ h=>h) (hj:=by rw [List.append_nil];unfold ownN;rw [if_pos hb4]),by simp⟩
end Go.Proofs.YtmgnbgniikjhdaaGreat
namespace Go.Proofs.YtmgnbgniikjhdaaGreat
open Go.Ab
set_option maxRecDepth 8000
set_option maxHeartbeats 400000
theorem orL_succ (l:List Int) (i:Nat):i<l.length→bits .or .i64 (orL (l.take i)) (l.getD i 0)=orL (l.take (i+1)):=fun hi=>by
 unfold orL
 rw [List.take_add_one,List.foldl_append,List.getD_eq_getElem?_getD,List.getElem?_eq_getElem hi];rfl
theorem c169 (m:Int) (l:List Int) (q:Cap) (h:List Blk) (live:List Nat) (hl:l.length≤1000000):AC Tryz.prog 169 [.int .i64 m,.slice (l.map iV) q] h live (.int .i64 (bitsP m l)):=by
 refine aq_ Tryz.func169 fun hH hX=>?_
 refine rg_ [0,1] ?_
 refine rg_ [0,1,5] ?_
 refine sk_ fun K1 hK1=>?_
 refine rg_ [0,5,8,9,10] ?_
 refine awp_block ?_
 refine lp_ (X:={x:Nat×Int // x.1≤l.length∧x.2=orL (l.take x.1)}) (fun x=>⟨Tryz.f169.ntmps,fget [(0,.int .i64 m),(5,.int .i64 x.1.2),(8,.slice (l.map iV) q),(9,.int .i64 l.length),(10,.int .i64 (x.1.1:Nat))],h,live⟩) (fun x=>l.length - x.1.1) (⟨(0,0),by dsimp only;omega,rfl⟩) ?_ (fun ⟨⟨i,v⟩,hi,hv⟩=>?_)
 ·
  try dsimp only
  exact ts_ hH
 try dsimp only
 dsimp only at hi hv
 refine rg_ [0,5,8,9,10,11] ?_
 refine sk_ fun K2 hK2=>?_
 refine cx_ (fun hb1=>?_) (fun hb1=>?_)
 rotate_left
 ·
  have hie:i=l.length:=by omega
  refine awp_exit (up_ ?_)
  refine hK1 _ ?_
  refine rg_ [4] ?_
  refine ret_ ?_
  refine fq_ Tryz.results169 ?_
  exact rk_ (by rw [hv,hie,List.take_length];rfl)
 refine skp_ ?_
 refine hK2 _ ?_
 refine sk_ fun K3 hK3=>?_
 refine awp_block ?_
 refine rg_ [0,5,7,8,9,10] ?_
 refine rt_ [0,5,8,9,10] ?_
 refine srn_ ?_
 refine hK3 _ ?_
 refine rt_ [0,5,8,9,10] ?_
 refine srn_ ?_
 refine ln_ ⟨(i+1,bits .or .i64 v (l.getD i 0)),by dsimp only;omega,by rw [hv];exact orL_succ l i (by omega)⟩ ?_
 try dsimp only
 exact ts_ hH
theorem c168 (p1 p2:Nat) (m um:Int) (n:Nd) (h:List Blk) (live:List Nat) (hn:NdOk n) (h1:h[p1]? = some (.cells [.int .i64 m])) (h2:h[p2]? = some (.cells [.int .i64 um])):AC Tryz.prog 168 [.agg (ndC n),.ptr p1 0,.ptr p2 0] h live (.agg (ndC (mkdirG um m n))):=by
 refine aq_ Tryz.func168 fun hH hX=>?_
 have hl1:=lt_of_get h1
 have hl2:=lt_of_get h2
 have hg1:=fun g:List Blk=>atApp (g:=g) h1
 have hg2:=fun g:List Blk=>atApp (g:=g) h2
 have sx:=(And.intro @hg1 (And.intro @hg2 sx0))
 refine rg_ [1,2,3,4] ?_
 refine rsq_ [4,5] ⟨true,[],[],[],[],[],0⟩ (fun _=>⟨by kernel_rfl,by kernel_rfl⟩) ?_
 refine sg_ ?_
 refine cr_ (hc:=c169 _ [511,512] _ _ _ (by simp)) (k:=?_)
 refine sg_ ?_
 refine cr_ (hc:=c169 _ [511] _ _ _ (by simp)) (k:=?_)
 refine sg_ ?_
 refine cr_ (hc:=c169 _ [1024] _ _ _ (by simp)) (k:=?_)
 refine sre_ ?_
 refine rg_ [4] ?_
 refine ret_ ?_
 refine fq_ Tryz.results168 ?_
 exact rk_ rfl
theorem c113 (T:Tab) (k:Nat) (c:Cr) (um:Int) (p:List UInt8) (m:Int) (h:List Blk) (live:List Nat) (hk:h[k]? = some (tabBlk T)) (hT:T.Ok) (hgs:c.gs.length≤17592186044416) (hR:T.Rt) (hp:p.length≤9223372036854775807):ACalls Tryz.prog 113 [.ptr k 0,.agg [.int .i64 c.uid,.int .i64 c.gid,.slice (c.gs.map iV) .none],.int .i64 um,.str p,.int .i64 m] h live (ret (.int .i64 (mkdirF T c um p m).1) (h.set k (tabBlk (mkdirF T c um p m).2)) live):=by
 refine aq_ Tryz.func113 fun hH hX=>?_
 have hkl:=lt_of_get hk
 have hs1:∀(y:Blk) (g:List Blk),(h++g).set k y=h.set k y++g:=fun y g=>setApp hk
 have hse:h.set k (tabBlk T)=h:=set_self hk
 have hcl:∀x,HCl (h.set k (tabBlk x)):=fun x=>hcl_tab hH _ _
 have sx:=(And.intro @hs1 sx0)
 refine rg_ [0,3,6,7,9] ?_
 refine rs_ [12] ?_
 refine sg_ ?_
 refine cl_ (hc:=c167 T k c p false _ _ (mkdirG um m) _ _ (atApp hk) hT hgs hR hp (by simp [AV.clL,AV.cl]) (fun n hn=>⟨Nat.zero_le _,Nat.zero_le _,Nat.zero_le _,fun e he=>nomatch he⟩) (fun n h' live hn ho=>c168 _ _ m um n h' live hn (by rw [ho _ (by simp)];simp only [push_cast]) (by rw [ho _ (by simp)];simp only [push_cast]))) (k:=?_)
 refine sre_ ?_
 refine rg_ [10] ?_
 refine ret_ ?_
 refine gq_ (h1:=h.set k _) Tryz.results113 ?_ (hh:=(⟨_,rfl⟩)) (hH:=(hcl _))
 exact rk_ rfl
theorem c171 (p1:Nat) (s:List UInt8) (n:Nd) (h:List Blk) (live:List Nat) (hn:NdOk n) (h1:h[p1]? = some (.cells [.str s])):AC Tryz.prog 171 [.agg (ndC n),.ptr p1 0] h live (.agg (ndC (symG s n))):=by
 refine aq_ Tryz.func171 fun hH hX=>?_
 have hl1:=lt_of_get h1
 have hg1:=fun g:List Blk=>atApp (g:=g) h1
 have sx:=(And.intro @hg1 sx0)
 refine rg_ [1,3] ?_
 refine rg_ [3] ?_
 refine ret_ ?_
 refine fq_ Tryz.results171 ?_
 exact rk_ rfl
theorem c114 (T:Tab) (k:Nat) (c:Cr) (s p:List UInt8) (h:List Blk) (live:List Nat) (hk:h[k]? = some (tabBlk T)) (hT:T.Ok) (hgs:c.gs.length≤17592186044416) (hR:T.Rt) (hp:p.length≤9223372036854775807) (hs:s.length≤9223372036854775807):ACalls Tryz.prog 114 [.ptr k 0,.agg [.int .i64 c.uid,.int .i64 c.gid,.slice (c.gs.map iV) .none],.str s,.str p] h live (ret (.int .i64 (symlinkF T c s p).1) (h.set k (tabBlk (symlinkF T c s p).2)) live):=by
 refine aq_ Tryz.func114 fun hH hX=>?_
 have hkl:=lt_of_get hk
 have hs1:∀(y:Blk) (g:List Blk),(h++g).set k y=h.set k y++g:=fun y g=>setApp hk
 have hse:h.set k (tabBlk T)=h:=set_self hk
 have hcl:∀x,HCl (h.set k (tabBlk x)):=fun x=>hcl_tab hH _ _
 have sx:=(And.intro @hs1 sx0)
 refine rg_ [0,3,5,6] ?_
 refine sk_ fun K1 hK1=>?_
 refine awp_block ?_
 refine rg_ [0,3,5,6,11] ?_
 refine cx_ (fun hb1=>?_) (fun hb1=>?_)
 ·
  refine rg_ [8] ?_
  refine ret_ ?_
  refine gq_ (h1:=h.set k (tabBlk T)) Tryz.results114 ?_ (hh:=(by rw [hse];exact ⟨_,rfl⟩)) (hH:=(hcl _))
  exact ⟨by unfold symlinkF;rw [if_pos hb1],by unfold symlinkF;rw [if_pos hb1],rfl⟩
 refine rg_ [0,3,5,6,14] ?_
 refine cx_ (fun hb2=>?_) (fun hb2=>?_)
 ·
  refine rg_ [8] ?_
  refine ret_ ?_
  refine gq_ (h1:=h.set k (tabBlk T)) Tryz.results114 ?_ (hh:=(by rw [hse];exact ⟨_,rfl⟩)) (hH:=(hcl _))
  exact ⟨by unfold symlinkF;rw [if_neg hb1,if_pos hb2],by unfold symlinkF;rw [if_neg hb1,if_pos hb2],rfl⟩
 refine rs_ [0,3,5,6,18] ?_
 refine sg_ ?_
 refine cl_ (hc:=c170 s 0 _ _) (k:=?_)
 refine sre_ ?_
 refine cx_ (fun hb3=>?_) (fun hb3=>?_)
 ·
  refine rg_ [8] ?_
  refine ret_ ?_
  refine gq_ (h1:=h.set k (tabBlk T)) Tryz.results114 ?_ (hh:=(by rw [hse];exact ⟨_,rfl⟩)) (hH:=(hcl _))
  exact ⟨by unfold symlinkF;rw [if_neg hb1,if_neg (by omega),if_pos hb3],by unfold symlinkF;rw [if_neg hb1,if_neg (by omega),if_pos hb3],rfl⟩
 refine skp_ ?_
 refine hK1 _ ?_
 refine rs_ [10] ?_
 refine sg_ ?_
 refine cl_ (hc:=c167 T k c p false _ _ (symG s) _ _ (atApp hk) hT hgs hR hp (by simp [AV.clL,AV.cl]) (fun n hn=>⟨Nat.zero_le _,Nat.zero_le _,(by show s.length≤1000;omega),fun e he=>nomatch he⟩) (fun n h' live hn ho=>c171 _ s n h' live hn (by rw [ho _ (by simp)];simp only [push_cast]))) (k:=?_)
 refine sre_ ?_
 refine rg_ [8] ?_
 refine ret_ ?_
 refine gq_ (h1:=h.set k _) Tryz.results114 ?_ (hh:=(⟨_,rfl⟩)) (hH:=(hcl _))
 exact ⟨by unfold symlinkF;rw [if_neg hb1,if_neg (by omega),if_neg (by omega)],by unfold symlinkF;rw [if_neg hb1,if_neg (by omega),if_neg (by omega)],rfl⟩
theorem c218 (p1 p2:Nat) (m um:Int) (n:Nd) (h:List Blk) (live:List Nat) (hn:NdOk n) (h1:h[p1]? = some (.cells [.int .i64 m])) (h2:h[p2]? = some (.cells [.int .i64 um])):AC Tryz.prog 218 [.agg (ndC n),.ptr p1 0,.ptr p2 0] h live (.agg (ndC (fileG um m n))):=by
 refine aq_ Tryz.func218 fun hH hX=>?_
 have hl1:=lt_of_get h1
 have hl2:=lt_of_get h2
 have hg1:=fun g:List Blk=>atApp (g:=g) h1
 have hg2:=fun g:List Blk=>atApp (g:=g) h2
 have sx:=(And.intro @hg1 (And.intro @hg2 sx0))
 refine rg_ [1,2,4] ?_
 refine rsq_ [4] ⟨true,[],[],[],[],[],0⟩ (fun _=>⟨by kernel_rfl,by kernel_rfl⟩) ?_
 refine sg_ ?_
 refine cr_ (hc:=c169 _ [511] _ _ _ (by simp)) (k:=?_)
 refine srt_ ?_
 refine fq_ Tryz.results218 ?_
 exact rk_ rfl
theorem c157 (T:Tab) (k:Nat) (c:Cr) (um:Int) (p:List UInt8) (m:Int) (fl:Bool) (h:List Blk) (live:List Nat) (hk:h[k]? = some (tabBlk T)) (hT:T.Ok) (hgs:c.gs.length≤17592186044416) (hR:T.Rt) (hp:p.length≤9223372036854775807):ACalls Tryz.prog 157 [.ptr k 0,.agg [.int .i64 c.uid,.int .i64 c.gid,.slice (c.gs.map iV) .none],.int .i64 um,.str p,.int .i64 m,.bool fl] h live (ret (.tup [.int .i64 (createF T c um p m fl).1.1,.int .i64 (createF T c um p m fl).1.2]) (h.set k (tabBlk (createF T c um p m fl).2)) live):=by
 refine aq_ Tryz.func157 fun hH hX=>?_
 have hkl:=lt_of_get hk
 have hs1:∀(y:Blk) (g:List Blk),(h++g).set k y=h.set k y++g:=fun y g=>setApp hk
 have hse:h.set k (tabBlk T)=h:=set_self hk
 have hcl:∀x,HCl (h.set k (tabBlk x)):=fun x=>hcl_tab hH _ _
 have sx:=(And.intro @hs1 sx0)
 refine rg_ [0,3,5,7,8,10] ?_
 refine rs_ [12,13] ?_
 refine sg_ ?_
 refine cl_ (hc:=c167 T k c p fl _ _ (fileG um m) _ _ (atApp hk) hT hgs hR hp (by simp [AV.clL,AV.cl]) (fun n hn=>⟨Nat.zero_le _,Nat.zero_le _,Nat.zero_le _,fun e he=>nomatch he⟩) (fun n h' live hn ho=>c218 _ _ m um n h' live hn (by rw [ho _ (by simp)];simp only [push_cast]) (by rw [ho _ (by simp)];simp only [push_cast]))) (k:=?_)
 refine srt_ ?_
 refine gq_ (h1:=h.set k _) Tryz.results157 ?_ (hh:=(⟨_,rfl⟩)) (hH:=(hcl _))
 exact rk_ rfl
end Go.Proofs.YtmgnbgniikjhdaaGreat
namespace Go.Proofs.YtmgnbgniikjhdaaGreat
open Go.Ab
set_option maxRecDepth 8000
set_option maxHeartbeats 400000
def plC (a:Int) (s:List UInt8) (b:Int) (d n:Nd):List AV:=.int .i64 a::.str s::.int .i64 b::(ndC d++ndC n)
theorem clL_plC (m:Nat) (a:Int) (s:List UInt8) (b:Int) (d n:Nd):AV.clL m (plC a s b d n):=⟨trivial,trivial,trivial,clL_append' m _ _ (clL_ndC m d) (clL_ndC m n)⟩
theorem er_plC (a:Int) (s:List UInt8) (b:Int) (d n:Nd):AV.erL (plC a s b d n)=plC a s b d n:=by
 show AV.int .i64 a::.str s::.int .i64 b::AV.erL (ndC d++ndC n)=_
 rw [AV.erL_map,List.map_append,←AV.erL_map,←AV.erL_map,er_ndC,er_ndC];rfl
variable (a b:Int) (s:List UInt8) (d n m:Nd)
theorem plC_len:(plC a s b d n).length=17:=rfl
theorem plC_0:(plC a s b d n)[0]? = some (.int .i64 a):=rfl
theorem plC_1:(plC a s b d n)[1]? = some (.str s):=rfl
theorem plC_2:(plC a s b d n)[2]? = some (.int .i64 b):=rfl
theorem plC_4:(plC a s b d n)[4]? = some (.int .i64 d.mode):=rfl
theorem plC_5:(plC a s b d n)[5]? = some (.int .i64 d.uid):=rfl
theorem plC_8:(plC a s b d n)[8]? = some (.slice (d.ents.map eV) .none):=rfl
theorem plC_10:(plC a s b d n)[10]? = some (.int .i64 n.kind):=rfl
theorem plC_12:(plC a s b d n)[12]? = some (.int .i64 n.uid):=rfl
theorem plC_15:(plC a s b d n)[15]? = some (.slice (n.ents.map eV) .none):=rfl
theorem plC_t:(plC a s b d n).take 17=plC a s b d n:=rfl
theorem plC_p0 (x0 x1 x2 x3 x4 x5 x6 x7 x8 x9 y0 y1 y2 y3 y4 y5 y6:AV):putAt [x0,x1,x2,x3,x4,x5,x6,x7,x8,x9,y0,y1,y2,y3,y4,y5,y6] 0 (plC a s b d n)=plC a s b d n:=rfl
theorem plC_p1 (x3 x4 x5 x6 x7 x8 x9 y0 y1 y2 y3 y4 y5 y6:AV):putAt [.int .i64 a,.str s,.int .i64 b,x3,x4,x5,x6,x7,x8,x9,y0,y1,y2,y3,y4,y5,y6] 3 (ndC d)=.int .i64 a::.str s::.int .i64 b::(ndC d++[y0,y1,y2,y3,y4,y5,y6]):=rfl
theorem plC_p2 (y0 y1 y2 y3 y4 y5 y6:AV):putAt (.int .i64 a::.str s::.int .i64 b::(ndC d++[y0,y1,y2,y3,y4,y5,y6])) 10 (ndC n)=plC a s b d n:=rfl
theorem plC_l (y0 y1 y2 y3 y4 y5 y6:AV):(.int .i64 a::.str s::.int .i64 b::(ndC d++[y0,y1,y2,y3,y4,y5,y6]):List AV).length=17:=rfl
attribute [push_cast] plC_len plC_0 plC_1 plC_2 plC_4 plC_5 plC_8 plC_10 plC_12 plC_15 plC_t plC_p0 plC_p1 plC_p2 plC_l
theorem withoutN_ok {n:Nd} {s:List UInt8} (hn:NdOk n):NdOk (withoutN n s).1:=by
 unfold withoutN
 split
 · exact ndOk_0
 ·
  split
  · exact ndOk_0
  ·
   refine ⟨hn.1,?_,hn.2.2.1,fun e he=>?_⟩
   ·
    have:=hn.2.1
    show (n.ents.take (idxP (eqS s) n.ents).toNat++n.ents.drop ((idxP (eqS s) n.ents).toNat+1)).length≤1000
    rw [List.length_append,List.length_take,List.length_drop];omega
   ·
    rcases List.mem_append.1 he with h | h
    · exact hn.2.2.2 e (List.mem_of_mem_take h)
    · exact hn.2.2.2 e (List.mem_of_mem_drop h)
theorem cutF_ok {T:Tab} (hT:T.Ok) (d:Int) (s:List UInt8):(cutF T d s).Ok:=by
 unfold cutF
 split
 · exact putT_ok hT (withoutN_ok (get_ok hT _)) _
 · exact hT
attribute [push_cast] clL_plC er_plC
theorem c174 (T:Tab) (k:Nat) (c:Cr) (p:List UInt8) (h:List Blk) (live:List Nat) (hk:h[k]? = some (tabBlk T)) (hT:T.Ok) (hgs:c.gs.length≤17592186044416) (hR:T.Rt) (hp:p.length≤9223372036854775807):AC Tryz.prog 174 [.ptr k 0,.agg [.int .i64 c.uid,.int .i64 c.gid,.slice (c.gs.map iV) .none],.str p] h live (.tup [.agg (plC (rD T c p false) (rS T c p false) (rN T c p false) (T.get (rD T c p false)).1 (T.get (rN T c p false)).1),.int .i64 (rE T c p false)]):=by
 refine aq_ Tryz.func174 fun hH hX=>?_
 refine rg_ [0,2,4,6] ?_
 refine rs_ [0,6,8,9] ?_
 refine sg_ ?_
 refine cl_ (hc:=c90 T k c p false _ _ (atApp hk) hT hgs hR hp) (k:=?_)
 refine sre_ ?_
 refine rg_ [0,6,8,9,10] ?_
 refine rs_ [0,6,8,9,10] ?_
 refine sg_ ?_
 refine cl_ (hc:=c23 T k _ _ _ (atApp hk) hT) (k:=?_)
 refine sre_ ?_
 refine rs_ [6,9,10] ?_
 refine sg_ ?_
 refine cl_ (hc:=c23 T k _ _ _ (atApp hk) hT) (k:=?_)
 refine sre_ ?_
 refine rg_ [6,7] ?_
 refine ret_ ?_
 refine fq_ Tryz.results174 ?_
 exact rk_ rfl
theorem c226 (c:Cr) (a b:Int) (s:List UInt8) (d n:Nd) (h:List Blk) (live:List Nat):AC Tryz.prog 226 [.agg (plC a s b d n),.agg [.int .i64 c.uid,.int .i64 c.gid,.slice (c.gs.map iV) .none]] h live (.bool (stickyF c d.mode d.uid n.uid)):=by
 refine aq_ Tryz.func226 fun hH hX=>?_
 refine rg_ [2,3] ?_
 refine rs_ [4] ?_
 refine sg_ ?_
 refine cl_ (hc:=c264 c _ _ _ _ _) (k:=?_)
 refine srt_ ?_
 refine fq_ Tryz.results226 ?_
 exact rk_ rfl
theorem c172 (T:Tab) (k:Nat) (c:Cr) (p:List UInt8) (h:List Blk) (live:List Nat) (hk:h[k]? = some (tabBlk T)) (hT:T.Ok) (hgs:c.gs.length≤17592186044416) (hR:T.Rt) (hp:p.length≤9223372036854775807):AC Tryz.prog 172 [.ptr k 0,.agg [.int .i64 c.uid,.int .i64 c.gid,.slice (c.gs.map iV) .none],.str p] h live (.tup [.agg (plC (rD T c p false) (rS T c p false) (rN T c p false) (T.get (rD T c p false)).1 (T.get (rN T c p false)).1),.int .i64 (findE T c p)]):=by
 refine aq_ Tryz.func172 fun hH hX=>?_
 refine rg_ [0,2,4,6] ?_
 refine rs_ [0,4,6,8,9] ?_
 refine sg_ ?_
 refine cl_ (hc:=c174 T k c p _ _ (atApp hk) hT hgs hR hp) (k:=?_)
 refine sre_ ?_
 refine sk_ fun K1 hK1=>?_
 refine awp_block ?_
 refine rg_ [0,4,6,8,9,17] ?_
 refine cx_ (fun hb1=>?_) (fun hb1=>?_)
 ·
  refine rg_ [6,7] ?_
  refine ret_ ?_
  refine fq_ Tryz.results172 ?_
  exact rk_ (by unfold findE;rw [if_pos hb1])
 refine rg_ [0,4,6,8,22] ?_
 refine cx_ (fun hb2=>?_) (fun hb2=>?_)
 ·
  refine rg_ [6,7] ?_
  refine ret_ ?_
  refine fq_ Tryz.results172 ?_
  exact rk_ (by unfold findE;rw [if_neg (fun h=>h hb1),if_pos hb2])
 refine rg_ [0,4,6,8,28] ?_
 refine cx_ (fun hb3=>?_) (fun hb3=>?_)
 ·
  refine rg_ [6,7] ?_
  refine ret_ ?_
  refine fq_ Tryz.results172 ?_
  exact rk_ (by unfold findE;rw [if_neg (fun h=>h hb1),if_neg hb2,if_pos hb3])
 refine rs_ [4,6,8,34] ?_
 refine sg_ ?_
 refine cl_ (hc:=c128 T k c _ _ _ _ _ (atApp hk) hT hgs) (k:=?_)
 refine sre_ ?_
 refine cx_ (fun hb4=>?_) (fun hb4=>?_)
 ·
  refine rg_ [6,7] ?_
  refine ret_ ?_
  refine fq_ Tryz.results172 ?_
  exact rk_ (by unfold findE;rw [if_neg (fun h=>h hb1),if_neg hb2,if_neg hb3,if_pos hb4])
 refine rs_ [6,8,43] ?_
 refine sg_ ?_
 refine cl_ (hc:=c226 c (rD T c p false) (rN T c p false) (rS T c p false) (T.get (rD T c p false)).1 (T.get (rN T c p false)).1 _ _) (k:=?_)
 refine sre_ ?_
 refine cx_ (fun hb5=>?_) (fun hb5=>?_)
 ·
  refine rg_ [6,7] ?_
  refine ret_ ?_
  refine fq_ Tryz.results172 ?_
  exact rk_ (by unfold findE;rw [if_neg (fun h=>h hb1),if_neg hb2,if_neg hb3,if_neg (by rw [hb4];decide),if_pos hb5])
 refine skp_ ?_
 refine hK1 _ ?_
 refine rg_ [6,7] ?_
 refine ret_ ?_
 refine fq_ Tryz.results172 ?_
 exact rk_ (by unfold findE;rw [if_neg (fun h=>h hb1),if_neg hb2,if_neg hb3,if_neg (by rw [hb4];decide),if_neg (by rw [hb5];decide)])
theorem c227 (n:Nd) (s:List UInt8) (h:List Blk) (live:List Nat) (hn:NdOk n):AC Tryz.prog 227 [.agg (ndC n),.str s] h live (.tup [.agg (ndC (withoutN n s).1),.int .i64 (withoutN n s).2]):=by
 refine aq_ Tryz.func227 fun hH hX=>?_
 have hidx:=idxP_range (eqS s) n.ents
 have hn2:=hn.2.1
 refine rg_ [1,2,4] ?_
 refine sk_ fun K1 hK1=>?_
 refine rg_ [1,2,4,9] ?_
 refine cx_ (fun hb1=>?_) (fun hb1=>?_)
 ·
  refine rg_ [4,5] ?_
  refine ret_ ?_
  refine fq_ Tryz.results227 ?_ (hcl:=(by simp [AV.cl,AV.clL,clL_ndC,nd0, -List.map_map]))
  exact rk_ (by unfold withoutN;rw [if_pos hb1];rfl)
 refine skp_ ?_
 refine hK1 _ ?_
 refine rs_ [2,4,6] ?_
 refine sg_ ?_
 refine cl_ (hc:=c186 _ _ _ _ hn) (k:=?_)
 refine sre_ ?_
 refine sk_ fun K2 hK2=>?_
 refine rg_ [2,4,6,15] ?_
 refine cx_ (fun hb2=>?_) (fun hb2=>?_)
 ·
  refine rg_ [4,5] ?_
  refine ret_ ?_
  refine fq_ Tryz.results227 ?_ (hcl:=(by simp [AV.cl,AV.clL,clL_ndC,nd0, -List.map_map]))
  exact rk_ (by unfold withoutN;rw [if_neg (fun h=>h hb1),if_pos hb2];rfl)
 obtain ⟨j,hj⟩:∃j:Nat,idxP (eqS s) n.ents=(j:Int):=⟨(idxP (eqS s) n.ents).toNat,by omega⟩
 have sx:=And.intro hj sx
 refine skp_ ?_
 refine hK2 _ ?_
 refine rs_ [4,5] ?_
 refine sg_ ?_
 refine cl_ (hc:=c197 n j (j+1) [] _ _ _ hn (by omega) (by omega) (by simp) (by simp only [List.length_nil];omega)) (k:=?_)
 refine srt_ ?_
 refine fq_ Tryz.results227 ?_ (hcl:=(by simp [AV.cl,AV.clL,clL_ndC,nd0, -List.map_map]))
 exact rk_ (by unfold withoutN;rw [if_neg (fun h=>h hb1),if_neg (by omega),hj];rfl)
theorem c173 (T:Tab) (k:Nat) (a b:Int) (s:List UInt8) (d n:Nd) (h:List Blk) (live:List Nat) (hk:h[k]? = some (tabBlk T)) (hT:T.Ok):ACalls Tryz.prog 173 [.agg (plC a s b d n),.ptr k 0] h live (ret (.tup []) (h.set k (tabBlk (cutF T a s))) live):=by
 refine aq_ Tryz.func173 fun hH hX=>?_
 have hkl:=lt_of_get hk
 have hs1:∀(y:Blk) (g:List Blk),(h++g).set k y=h.set k y++g:=fun y g=>setApp hk
 have hse:h.set k (tabBlk T)=h:=set_self hk
 have hcl:∀x,HCl (h.set k (tabBlk x)):=fun x=>hcl_tab hH _ _
 have sx:=(And.intro @hs1 sx0)
 refine rg_ [1,2] ?_
 refine rs_ [1,2,4] ?_
 refine sg_ ?_
 refine cl_ (hc:=c23 T k _ _ _ (atApp hk) hT) (k:=?_)
 refine sre_ ?_
 refine rs_ [1,2,6,7] ?_
 refine sg_ ?_
 refine cl_ (hc:=c227 _ _ _ _ (get_ok hT _)) (k:=?_)
 refine sre_ ?_
 refine rg_ [1,2,6,25] ?_
 refine cx_ (fun hb1=>?_) (fun hb1=>?_)
 ·
  refine rt_ [] ?_
  refine sg_ ?_
  refine cl_ (hc:=c135 T k _ _ _ _ (atApp hk) hT (withoutN_ok (get_ok hT _))) (k:=?_)
  refine rn_ (up_ ?_)
  refine gq_ (h1:=h.set k _) Tryz.results173 ?_ (hh:=(⟨_,rfl⟩)) (hH:=(hcl _))
  exact ⟨rfl,by unfold cutF;rw [if_pos hb1],rfl⟩
 refine skp_ ?_
 refine gq_ (h1:=h.set k (tabBlk T)) Tryz.results173 ?_ (hh:=(by rw [hse];exact ⟨_,rfl⟩)) (hH:=(hcl _))
 exact ⟨rfl,by unfold cutF;rw [if_neg hb1],rfl⟩
theorem c108 (T:Tab) (k:Nat) (i:Int) (o:List Int) (q:Cap) (h:List Blk) (live:List Nat) (hk:h[k]? = some (tabBlk T)) (hT:T.Ok) (ho:o.length≤1000000):ACalls Tryz.prog 108 [.ptr k 0,.int .i64 i,.slice (o.map iV) q] h live (ret (.bool (freeF T i o).1) (h.set k (tabBlk (freeF T i o).2)) live):=by
 refine aq_ Tryz.func108 fun hH hX=>?_
 have hkl:=lt_of_get hk
 have hs1:∀(y:Blk) (g:List Blk),(h++g).set k y=h.set k y++g:=fun y g=>setApp hk
 have hse:h.set k (tabBlk T)=h:=set_self hk
 have hcl:∀x,HCl (h.set k (tabBlk x)):=fun x=>hcl_tab hH _ _
 have sx:=(And.intro @hs1 sx0)
 refine rg_ [0,1,2] ?_
 refine sk_ fun K1 hK1=>?_
 refine rs_ [0,1,19] ?_
 refine sg_ ?_
 refine cg_ (hc:=fun hg=>c130 T k _ _ _ hk hT) (k:=?_)
 refine sg_ ?_
 refine cg_ (hc:=fun hg=>c160 o _ _ _ _ (by omega)) (k:=?_)
 refine sre_ ?_
 refine cx_ (fun hb1=>?_) (fun hb1=>?_)
 ·
  refine rg_ [6] ?_
  refine ret_ ?_
  refine gq_ (h1:=h.set k (tabBlk T)) Tryz.results108 ?_ (hh:=(⟨[],by rw [List.append_nil,hse]⟩)) (hH:=(hcl _))
  exact ⟨by unfold freeF;rw [if_pos hb1],by unfold freeF;rw [if_pos hb1],rfl⟩
 have hf:¬((i=1∨0<T.links i)∨(o.any fun y=>decide (i=y))=true):=by
  rintro ((h | h) | h)
  · exact hb1.1.1 h
  · omega
  · rw [hb1.2] at h;cases h
 refine skp_ ?_
 refine hK1 _ ?_
 refine rs_ [6] ?_
 refine sg_ ?_
 refine cl_ (hc:=c161 T k _ _ _ hk hT) (k:=?_)
 refine srt_ ?_
 refine gq_ (h1:=h.set k _) Tryz.results108 ?_ (hh:=(⟨[],by rw [List.append_nil]⟩)) (hH:=(hcl _))
 exact ⟨by unfold freeF;rw [if_neg hf],by unfold freeF;rw [if_neg hf],rfl⟩
end Go.Proofs.YtmgnbgniikjhdaaGreat
