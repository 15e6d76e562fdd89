import Derived.Test.YtegffmibifodcaaGreatQ3
/-
  THE DOCUMENT: entries taken away.
-/
set_option linter.unusedVariables false
set_option linter.unusedSimpArgs false
namespace Go.Proofs.YtegffmibifodcaaGreat
open Go.Ab
set_option maxRecDepth 8000
set_option maxHeartbeats 400000
theorem cut_y {T:Tab} (hT:Gd T) {d:Int} {s:List UInt8} (hk:(T.get d).1.kind=2) (hi:0≤idxP (eqS s) (T.get d).1.ents):∃j:Nat,T.at d=some j∧d=(j:Int)+1∧(j:Int)<T.room∧cutF T d s=T.put j (withoutN (T.get d).1 s).1:=by
 have hdi:=get_kind_at (T:=T) (i:=d) (by omega)
 obtain ⟨j,ha,hj,hr⟩:=get_isat hdi
 have e:withoutN (T.get d).1 s=(nWith (T.get d).1 (remL (T.get d).1.ents s),0):=by unfold withoutN remL;rw [if_neg (fun h=>h hk),if_neg (by omega),if_neg (by omega)]
 refine ⟨j,ha,by omega,by omega,?_⟩
 unfold cutF
 rw [e,if_pos rfl]
 unfold putT
 rw [ha]
 show (if rightF _=false then _ else _:Int×Tab).2=_
 rw [if_neg (by rw [rem_right (hT.2.kind (by omega)) hk s];decide)]
theorem ent_idx {T:Tab} {d n:Int} {s:List UInt8} (h:Ent T d (s,n)):0≤idxP (eqS s) (T.get d).1.ents:=by
 have:=idxP_any (eqS s) (T.get d).1.ents
 rw [List.any_eq_true.2 ⟨(s,n),h,by simp [eqS]⟩] at this
 exact of_decide_eq_true this
theorem c151 (T:Tab) (d:Int) (s:List UInt8) (h:List Blk) (live:List Nat) (hT:T.Ok) (hR:T.Rt) (hk:(T.get d).1.kind=2) (hi:0≤idxP (eqS s) (T.get d).1.ents):AC Tryz.prog 151 [tV (refL T),.int .i64 d,.str s] h live (tV (refL (cutF T d s))):=by
 refine aq_ Tryz.func151 fun hH hX=>?_
 have hll:=refL_len hT
 have hhi:=hT.hi
 have hlo:=hT.lo
 obtain ⟨j,hat,hj,hjr,hcut⟩:=cut_y ⟨hT,hR⟩ hk hi
 subst hj
 refine rg_ [1,2,3,6] ?_
 refine rs_ [1,3,6,7] ?_
 refine sg_ ?_
 refine cl_ (hc:=(rGet_eq hT ((j:Int)+1)▸c54 (refL T) ((j:Int)+1) _ _ (by omega))) (k:=?_)
 refine sg_ ?_
 refine cl_ (hc:=c198 _ s _ _ (get_ok hT _)) (k:=?_)
 refine sre_ ?_
 refine rs_ [6] ?_
 refine sg_ ?_
 refine cl_ (hc:=c34 (refL T) j _ _ _ (by omega) (by omega)) (k:=?_)
 refine srt_ ?_
 refine fq_ Tryz.results151 ?_
 exact rk_ (by rw [hcut,←refL_put];try rfl)
theorem c93 (T:Tab) (c:Cr) (p:List UInt8) (o:List Int) (h:List Blk) (live:List Nat) (hT:T.Ok) (hR:T.Rt) (hgs:c.gs.length≤1000000000) (hp:p.length≤9223372036854775807) (ho:o.length≤1000000):AC Tryz.prog 93 [tV (refL T),.agg [.int .i64 c.uid,.int .i64 c.gid,.slice (c.gs.map iV) .none],.str p,.slice (o.map iV) .none] h live (.tup [tV (refL (unlinkF T c p o).2),.int .i64 (unlinkF T c p o).1]):=by
 refine aq_ Tryz.func93 fun hH hX=>?_
 have hll:=refL_len hT
 have hhi:=hT.hi
 have hlo:=hT.lo
 refine rg_ [2,3,4,5,8] ?_
 refine rs_ [3,4,8,10,11] ?_
 refine sg_ ?_
 refine cl_ (hc:=c150 T c p _ _ hT hR hgs hp) (k:=?_)
 refine sre_ ?_
 refine sk_ fun K1 hK1=>?_
 refine rg_ [3,4,8,10,11,22] ?_
 refine cx_ (fun hb1=>?_) (fun hb1=>?_)
 ·
  refine rg_ [8,9] ?_
  refine ret_ ?_
  refine fq_ Tryz.results93 ?_
  exact rk_ (by unfold unlinkF;rw [if_pos hb1];try rfl)
 obtain ⟨hen,hkd,hn1⟩:=find_ent ⟨hT,hR⟩ hb1
 have hix:=ent_idx hen
 have hC:=cutF_ok hT (rD T c p false) (rS T c p false)
 refine skp_ ?_
 refine hK1 _ ?_
 refine sk_ fun K2 hK2=>?_
 refine rs_ [3,4,8,10,30] ?_
 refine sg_ ?_
 refine cl_ (hc:=(rGet_eq hT _▸c54 (refL T) _ _ _ (by omega))) (k:=?_)
 refine sre_ ?_
 refine cx_ (fun hb2=>?_) (fun hb2=>?_)
 ·
  refine rg_ [8,9] ?_
  refine ret_ ?_
  refine fq_ Tryz.results93 ?_
  exact rk_ (by unfold unlinkF;rw [if_neg (fun k=>k hb1),if_pos hb2];try rfl)
 refine skp_ ?_
 refine hK2 _ ?_
 refine rsq_ [8,12] ⟨false,[(h.length,0,.agg 1),(h.length+3,0,.one),(h.length+3,1,.one),(h.length+3,2,.one)],[33,35,37,40],[],[12],[38,42],h.length⟩ (fun _=>⟨by kernel_rfl,by kernel_rfl⟩) ?_
 refine df_ ?_
 refine sg_ ?_
 refine df_ ?_
 refine sg_ ?_
 refine df_ ?_
 refine ds_ (hc:=fun h' l' hs=>c151 T _ _ _ _ hT hR hkd hix) (k:=?_)
 refine sg_ ?_
 refine df_ ?_
 refine sg_ ?_
 refine ds_ (hc:=fun h' l' hs=>c101 _ _ o _ _ hC ho) (k:=?_)
 refine sg_ ?_
 refine dga_ ?_
 refine sre_ ?_
 refine rg_ [8,9] ?_
 refine ret_ ?_
 refine fq_ Tryz.results93 ?_
 exact rk_ (by unfold unlinkF;rw [if_neg (fun k=>k hb1),if_neg hb2];try rfl)
theorem c94 (T:Tab) (c:Cr) (p:List UInt8) (h:List Blk) (live:List Nat) (hT:T.Ok) (hR:T.Rt) (hgs:c.gs.length≤1000000000) (hp:p.length≤9223372036854775807):AC Tryz.prog 94 [tV (refL T),.agg [.int .i64 c.uid,.int .i64 c.gid,.slice (c.gs.map iV) .none],.str p] h live (.tup [tV (refL (rmdirF T c p).2),.int .i64 (rmdirF T c p).1]):=by
 refine aq_ Tryz.func94 fun hH hX=>?_
 have hll:=refL_len hT
 have hhi:=hT.hi
 have hlo:=hT.lo
 have sx:=(And.intro @nmL_len sx0)
 refine rg_ [2,3,4,6] ?_
 refine rs_ [3,6,8,9] ?_
 refine sg_ ?_
 refine cl_ (hc:=c150 T c p _ _ hT hR hgs hp) (k:=?_)
 refine sre_ ?_
 refine sk_ fun K1 hK1=>?_
 refine rg_ [3,6,8,9,21] ?_
 refine cx_ (fun hb1=>?_) (fun hb1=>?_)
 ·
  refine rg_ [6,7] ?_
  refine ret_ ?_
  refine fq_ Tryz.results94 ?_
  exact rk_ (by unfold rmdirF;rw [if_pos hb1];try rfl)
 obtain ⟨hen,hkd,hn1⟩:=find_ent ⟨hT,hR⟩ hb1
 have hix:=ent_idx hen
 have hC:=cutF_ok hT (rD T c p false) (rS T c p false)
 refine skp_ ?_
 refine hK1 _ ?_
 refine rs_ [3,6,8,10] ?_
 refine sg_ ?_
 refine cl_ (hc:=(rGet_eq hT _▸c54 (refL T) _ _ _ (by omega))) (k:=?_)
 refine sre_ ?_
 refine sk_ fun K2 hK2=>?_
 refine rg_ [3,6,8,10,30] ?_
 refine cx_ (fun hb2=>?_) (fun hb2=>?_)
 ·
  refine rg_ [6,7] ?_
  refine ret_ ?_
  refine fq_ Tryz.results94 ?_
  exact rk_ (by unfold rmdirF;rw [if_neg (fun k=>k hb1),if_pos hb2];try rfl)
 have hd2:=(get_ok hT (rN T c p false)).2.1
 refine skp_ ?_
 refine hK2 _ ?_
 refine sk_ fun K3 hK3=>?_
 refine rg_ [3,6,8,35] ?_
 refine cx_ (fun hb3=>?_) (fun hb3=>?_)
 ·
  refine rg_ [6,7] ?_
  refine ret_ ?_
  refine fq_ Tryz.results94 ?_
  exact rk_ (by unfold rmdirF;rw [if_neg (fun k=>k hb1),if_neg (fun k=>k hb2),if_pos hb3];try rfl)
 refine skp_ ?_
 refine hK3 _ ?_
 refine rsq_ [6,11] ⟨false,[(h.length,0,.agg 1),(h.length+3,0,.one),(h.length+3,1,.one),(h.length+3,2,.one)],[38,40,42,45],[],[11],[43,46],h.length⟩ (fun _=>⟨by kernel_rfl,by kernel_rfl⟩) ?_
 refine df_ ?_
 refine sg_ ?_
 refine df_ ?_
 refine sg_ ?_
 refine df_ ?_
 refine ds_ (hc:=fun h' l' hs=>c151 T _ _ _ _ hT hR hkd hix) (k:=?_)
 refine sg_ ?_
 refine df_ ?_
 refine ds_ (hc:=fun h' l' hs=>c152 _ _ _ _ hC) (k:=?_)
 refine sg_ ?_
 refine dga_ ?_
 refine sre_ ?_
 refine rg_ [6,7] ?_
 refine ret_ ?_
 refine fq_ Tryz.results94 ?_
 exact rk_ (by unfold rmdirF;rw [if_neg (fun k=>k hb1),if_neg (fun k=>k hb2),if_neg (by omega)];try rfl)
end Go.Proofs.YtegffmibifodcaaGreat

/-
  THE DOCUMENT: whether a name may be moved.
-/
namespace Go.Proofs.YtegffmibifodcaaGreat
open Go.Ab
set_option maxRecDepth 8000
set_option maxHeartbeats 400000
def mayX (T:Tab) (c:Cr) (n f d:Int) (s:List UInt8) (m:Int):Int:=
 if s=[] then 22
 else if canT c T d 3=false then 13
 else if m=n then 0
 else if (decide ((T.get n).1.kind=2)&&belowL T n 24 d)=true then 22
 else if m=0 then (if (!decide (d=f)&&decide ((8:Int)≤(T.get d).1.ents.length))=true then 28 else 0)
 else if stickyF c (T.get d).1.mode (T.get d).1.uid (T.get m).1.uid=false then 1
 else if (decide ((T.get n).1.kind=2)&&!decide ((T.get m).1.kind=2))=true then 20
 else if (!decide ((T.get n).1.kind=2)&&decide ((T.get m).1.kind=2))=true then 21
 else if (0:Int)<(T.get m).1.ents.length then 39 else 0
theorem c153 (T:Tab) (c:Cr) (n f d:Int) (s:List UInt8) (m:Int) (h:List Blk) (live:List Nat) (hT:T.Ok) (hR:T.Rt) (hgs:c.gs.length≤1000000000):AC Tryz.prog 153 [tV (refL T),.agg [.int .i64 c.uid,.int .i64 c.gid,.slice (c.gs.map iV) .none],.int .i64 n,.int .i64 f,.agg [.int .i64 d,.str s,.int .i64 m]] h live (.int .i64 (mayX T c n f d s m)):=by
 refine aq_ Tryz.func153 fun hH hX=>?_
 have hll:=refL_len hT
 have hhi:=hT.hi
 have hlo:=hT.lo
 have hd2:=(get_ok hT d).2.1
 have hm2:=(get_ok hT m).2.1
 have sx:=(And.intro @nmL_len sx0)
 refine rg_ [2,3,5,6,9] ?_
 refine sk_ fun K1 hK1=>?_
 refine rg_ [2,3,5,6,9,17] ?_
 refine cx_ (fun hb1=>?_) (fun hb1=>?_)
 ·
  refine rg_ [10] ?_
  refine ret_ ?_
  refine fq_ Tryz.results153 ?_
  exact rk_ (by unfold mayX;rw [if_pos hb1];try rfl)
 refine skp_ ?_
 refine hK1 _ ?_
 refine rs_ [2,3,5,6,9,11] ?_
 refine sg_ ?_
 refine cl_ (hc:=(rCan_eq hT c d 3▸c144 (refL T) c d 3 _ _ (by omega) hgs)) (k:=?_)
 refine sre_ ?_
 refine sk_ fun K2 hK2=>?_
 refine rg_ [2,3,5,6,9,24] ?_
 refine cx_ (fun hb2=>?_) (fun hb2=>?_)
 ·
  refine rg_ [10] ?_
  refine ret_ ?_
  refine fq_ Tryz.results153 ?_
  exact rk_ (by unfold mayX;rw [if_neg hb1,if_pos hb2];try rfl)
 refine skp_ ?_
 refine hK2 _ ?_
 refine sk_ fun K3 hK3=>?_
 refine rg_ [2,3,5,6,9,28] ?_
 refine cx_ (fun hb3=>?_) (fun hb3=>?_)
 ·
  refine rg_ [10] ?_
  refine ret_ ?_
  refine fq_ Tryz.results153 ?_
  exact rk_ (by unfold mayX;rw [if_neg hb1,if_neg (by rw [hb2];decide),if_pos hb3];try rfl)
 refine skp_ ?_
 refine hK3 _ ?_
 refine rs_ [2,3,5,6,9,12] ?_
 refine sg_ ?_
 refine cl_ (hc:=(rGet_eq hT n▸c54 (refL T) n _ _ (by omega))) (k:=?_)
 refine sre_ ?_
 refine sk_ fun K4 hK4=>?_
 refine rs_ [3,5,6,9,12,41] ?_
 refine sg_ ?_
 refine cg_ (hc:=fun hg=>c200 T d n _ _ hT) (k:=?_)
 refine sre_ ?_
 refine cy_ (fun hb4=>?_) (fun hb4=>?_)
 ·
  refine rg_ [10] ?_
  refine ret_ ?_
  refine fq_ Tryz.results153 ?_
  exact rk_ (by unfold mayX;rw [if_neg hb1,if_neg (by rw [hb2];decide),if_neg hb3,if_pos hb4];try rfl)
 refine skp_ ?_
 refine hK4 _ ?_
 refine sk_ fun K5 hK5=>?_
 refine rg_ [3,5,6,9,12,44] ?_
 refine cx_ (fun hb5=>?_) (fun hb5=>?_)
 ·
  refine sk_ fun K6 hK6=>?_
  refine rs_ [57] ?_
  refine sg_ ?_
  refine cg_ (hc:=fun hg=>(rGet_eq hT d▸c54 (refL T) d _ _ (by omega))) (k:=?_)
  refine sre_ ?_
  refine cy_ (fun hb6=>?_) (fun hb6=>?_)
  ·
   refine rg_ [10] ?_
   refine ret_ ?_
   refine fq_ Tryz.results153 ?_
   exact rk_ (by unfold mayX;rw [if_neg hb1,if_neg (by rw [hb2];decide),if_neg hb3,if_neg (by rw [hb4];decide),if_pos hb5,if_pos hb6];try rfl)
  refine skp_ ?_
  refine hK6 _ ?_
  refine rg_ [10] ?_
  refine ret_ ?_
  refine fq_ Tryz.results153 ?_
  exact rk_ (by unfold mayX;rw [if_neg hb1,if_neg (by rw [hb2];decide),if_neg hb3,if_neg (by rw [hb4];decide),if_pos hb5,if_neg (by rw [hb6];decide)];try rfl)
 refine skp_ ?_
 refine hK5 _ ?_
 refine rs_ [5,9,12,13] ?_
 refine sg_ ?_
 refine cl_ (hc:=c197 T c d s m _ _ hT hgs) (k:=?_)
 refine sre_ ?_
 refine rs_ [12,13,14] ?_
 refine sg_ ?_
 refine cl_ (hc:=(rGet_eq hT m▸c54 (refL T) m _ _ (by omega))) (k:=?_)
 refine sre_ ?_
 refine sk_ fun K7 hK7=>?_
 refine rg_ [12,14,67] ?_
 refine cx_ (fun hb7=>?_) (fun hb7=>?_)
 ·
  refine rg_ [10] ?_
  refine ret_ ?_
  refine fq_ Tryz.results153 ?_
  exact rk_ (by unfold mayX;rw [if_neg hb1,if_neg (by rw [hb2];decide),if_neg hb3,if_neg (by rw [hb4];decide),if_neg hb5,if_pos hb7];try rfl)
 refine skp_ ?_
 refine hK7 _ ?_
 refine sk_ fun K8 hK8=>?_
 refine rg_ [12,14,75] ?_
 refine cy_ (fun hb8=>?_) (fun hb8=>?_)
 ·
  refine rg_ [10] ?_
  refine ret_ ?_
  refine fq_ Tryz.results153 ?_
  exact rk_ (by unfold mayX;rw [if_neg hb1,if_neg (by rw [hb2];decide),if_neg hb3,if_neg (by rw [hb4];decide),if_neg hb5,if_neg (by rw [hb7];decide),if_pos hb8];try rfl)
 refine skp_ ?_
 refine hK8 _ ?_
 refine sk_ fun K9 hK9=>?_
 refine rg_ [14,83] ?_
 refine cy_ (fun hb9=>?_) (fun hb9=>?_)
 ·
  refine rg_ [10] ?_
  refine ret_ ?_
  refine fq_ Tryz.results153 ?_
  exact rk_ (by unfold mayX;rw [if_neg hb1,if_neg (by rw [hb2];decide),if_neg hb3,if_neg (by rw [hb4];decide),if_neg hb5,if_neg (by rw [hb7];decide),if_neg (by rw [hb8];decide),if_pos hb9];try rfl)
 refine skp_ ?_
 refine hK9 _ ?_
 refine sk_ fun K10 hK10=>?_
 refine rg_ [87] ?_
 refine cx_ (fun hb10=>?_) (fun hb10=>?_)
 ·
  refine rg_ [10] ?_
  refine ret_ ?_
  refine fq_ Tryz.results153 ?_
  exact rk_ (by unfold mayX;rw [if_neg hb1,if_neg (by rw [hb2];decide),if_neg hb3,if_neg (by rw [hb4];decide),if_neg hb5,if_neg (by rw [hb7];decide),if_neg (by rw [hb8];decide),if_neg (by rw [hb9];decide),if_pos (by omega)];try rfl)
 refine skp_ ?_
 refine hK10 _ ?_
 refine rg_ [10] ?_
 refine ret_ ?_
 refine fq_ Tryz.results153 ?_
 exact rk_ (by unfold mayX;rw [if_neg hb1,if_neg (by rw [hb2];decide),if_neg hb3,if_neg (by rw [hb4];decide),if_neg hb5,if_neg (by rw [hb7];decide),if_neg (by rw [hb8];decide),if_neg (by rw [hb9];decide),if_neg (by omega)];try rfl)
end Go.Proofs.YtegffmibifodcaaGreat

/-
  THE DOCUMENT: files, how they are opened.
-/
namespace Go.Proofs.YtegffmibifodcaaGreat
open Go.Ab
set_option maxRecDepth 8000
set_option maxHeartbeats 400000
theorem flags_fin:∀a:Fin 64,flagsF (a.val:Int)=((bitN a.val 0||bitN a.val 1)&&(!bitN a.val 4||bitN a.val 1)&&(!bitN a.val 3||bitN a.val 2)):=by decide +kernel
theorem flags_n {f:Int} (h:(decide (f<0)||decide (63<f))=true):flagsF f=false:=by
 rw [Bool.or_eq_true,decide_eq_true_eq,decide_eq_true_eq] at h
 unfold flagsF
 rcases h with h | h
 · rw [decide_eq_false (show ¬0≤f by omega)];rfl
 · rw [decide_eq_false (show ¬f≤63 by omega),Bool.and_false];rfl
def datN (n:Nd) (b:List UInt8):Nd:=⟨n.kind,n.mode,n.uid,n.gid,b,n.ents,n.target⟩
theorem nv_set4 (n:Nd) (b:List UInt8):(nvC n).set 4 (.str b)=nvC (datN n b):=rfl
theorem datN_kind (n:Nd) (b:List UInt8):(datN n b).kind=n.kind:=rfl
theorem datN_mode (n:Nd) (b:List UInt8):(datN n b).mode=n.mode:=rfl
theorem datN_uid (n:Nd) (b:List UInt8):(datN n b).uid=n.uid:=rfl
theorem datN_gid (n:Nd) (b:List UInt8):(datN n b).gid=n.gid:=rfl
attribute [push_cast] nv_set4 datN_kind datN_mode datN_uid datN_gid
theorem dat_chg (c:Cr) (n:Nd) (b:List UInt8):chgN (datN n b) (writtenF c n.kind n.mode) n.uid n.gid=dataN c n b:=rfl
theorem c98 (f k:Nat) (h:List Blk) (live:List Nat) (hf:f<4096) (hk:k≤64):AC Tryz.prog 98 [.int .i64 (f:Nat),.int .i64 (k:Nat)] h live (.bool (bitN f k)):=by
 refine aq_ Tryz.func98 fun hH hX=>?_
 refine rg_ [0,1] ?_
 refine rs_ [4] ?_
 refine sg_ ?_
 refine cl_ (hc:=c69 f k _ _ hf hk) (k:=?_)
 refine srt_ ?_
 refine fq_ Tryz.results98 ?_
 exact rk_ rfl
theorem c155 (f:Int) (h:List Blk) (live:List Nat):AC Tryz.prog 155 [.int .i64 f] h live (.bool (flagsF f)):=by
 refine aq_ Tryz.func155 fun hH hX=>?_
 refine rg_ [0] ?_
 refine sk_ fun K1 hK1=>?_
 refine rg_ [0,8] ?_
 refine cy_ (fun hb1=>?_) (fun hb1=>?_)
 ·
  have hff:=flags_n hb1
  refine rg_ [2] ?_
  refine ret_ ?_
  refine fq_ Tryz.results155 ?_
  exact rk_ (by rw [hff])
 rw [Bool.or_eq_false_iff,decide_eq_false_iff_not,decide_eq_false_iff_not] at hb1
 obtain ⟨a,ha⟩:=Int.eq_ofNat_of_zero_le (show 0≤f by omega)
 subst ha
 have hff:=flags_fin ⟨a,by omega⟩
 have ha4:a<4096:=by omega
 refine skp_ ?_
 refine hK1 _ ?_
 refine rs_ [2] ?_
 refine sg_ ?_
 refine cl_ (hc:=c98 a 0 _ _ ha4 (by omega)) (k:=?_)
 refine sg_ ?_
 refine cg_ (hc:=fun hg=>c98 a 1 _ _ ha4 (by omega)) (k:=?_)
 refine sg_ ?_
 refine cg_ (hc:=fun hg=>c98 a 4 _ _ ha4 (by omega)) (k:=?_)
 refine sg_ ?_
 refine cg_ (hc:=fun hg=>c98 a 1 _ _ ha4 (by omega)) (k:=?_)
 refine sg_ ?_
 refine cg_ (hc:=fun hg=>c98 a 3 _ _ ha4 (by omega)) (k:=?_)
 refine sg_ ?_
 refine cg_ (hc:=fun hg=>c98 a 2 _ _ ha4 (by omega)) (k:=?_)
 refine srt_ ?_
 refine fq_ Tryz.results155 ?_
 exact rk_ (by rw [show flagsF (a:Int)=_ from hff])
theorem c157 (c:Cr) (n:Nd) (b:List UInt8) (h:List Blk) (live:List Nat):AC Tryz.prog 157 [.agg [.int .i64 c.uid,.int .i64 c.gid,.slice (c.gs.map iV) .none],.agg (nvC n),.str b] h live (.agg (nvC (dataN c n b))):=by
 refine aq_ Tryz.func157 fun hH hX=>?_
 refine rg_ [2,3,4,6] ?_
 refine rg_ [3,4,6] ?_
 refine rs_ [4,6] ?_
 refine sg_ ?_
 refine cl_ (hc:=c147 c .none _ _ _ _) (k:=?_)
 refine sre_ ?_
 refine rg_ [6] ?_
 refine ret_ ?_
 refine fq_ Tryz.results157 ?_ (hcl:=(by exact clL_nvC _ _))
 exact rk_ (by rw [←dat_chg])
end Go.Proofs.YtegffmibifodcaaGreat

/-
  THE DOCUMENT: files read.
-/
namespace Go.Proofs.YtegffmibifodcaaGreat
open Go.Ab
set_option maxRecDepth 8000
set_option maxHeartbeats 400000
theorem read_step {l:List UInt8} {f k:Nat} (h:f+k<l.length):(l.drop f).take k++(l.drop (f+k)).take (f+k+1 - (f+k))=(l.drop f).take (k+1):=by
 rw [show f+k+1 - (f+k)=1 by omega,List.take_add,List.drop_drop]
theorem c99 (T:Tab) (i off n:Int) (h:List Blk) (live:List Nat) (hT:T.Ok) (hof:off≤9223372036854775807):AC Tryz.prog 99 [tV (refL T),.int .i64 i,.int .i64 off,.int .i64 n] h live (.tup [.str (readF T i off n).1,.int .i64 (readF T i off n).2]):=by
 refine aq_ Tryz.func99 fun hH hX=>?_
 unfold tV
 have hll:=refL_len hT
 have hhi:=hT.hi
 have hlo:=hT.lo
 obtain ⟨n0,hn0⟩:∃n0,(T.get i).1=n0:=⟨_,rfl⟩
 have hno:NdOk n0:=hn0▸get_ok hT i
 have hdl:=hno.1
 have hB:HCl (h++[.cells [.slice ((refL T).map nV) .none],.cells (nvC n0)]):=by
  have:=(HCl.snoc hH (b:=.cells [.slice ((refL T).map nV) .none]) (by simp [Blk.cl,AV.cl,AV.clL,clL_nV, -List.map_map])).snoc (b:=.cells (nvC n0)) (clL_nvC _ _)
  rw [List.append_assoc] at this;exact this
 have hrf:readF T i off n=if n0.kind≠1 then ([],9) else if off<0∨n<0 then ([],22) else ((n0.data.drop off.toNat).take n.toNat,0):=by unfold readF;rw [hn0]
 have sx:=(And.intro @hn0 sx0)
 refine rg_ [1,2,3,4] ?_
 refine rs_ [2,3,10] ?_
 refine sg_ ?_
 refine cl_ (hc:=(rGet_eq hT i▸c54 (refL T) i _ _ (by omega))) (k:=?_)
 refine sre_ ?_
 refine sk_ fun K1 hK1=>?_
 refine rg_ [2,3,10,18] ?_
 refine cx_ (fun hb1=>?_) (fun hb1=>?_)
 ·
  refine rg_ [8,9] ?_
  refine ret_ ?_
  refine fq_ Tryz.results99 ?_
  exact rk_ (by rw [hrf,if_pos hb1])
 refine skp_ ?_
 refine hK1 _ ?_
 refine sk_ fun K2 hK2=>?_
 refine rg_ [2,3,10,24] ?_
 refine cy_ (fun hb2=>?_) (fun hb2=>?_)
 ·
  rw [Bool.or_eq_true,decide_eq_true_eq,decide_eq_true_eq] at hb2
  refine rg_ [8,9] ?_
  refine ret_ ?_
  refine fq_ Tryz.results99 ?_
  exact rk_ (by rw [hrf,if_neg (fun k=>k hb1),if_pos hb2])
 rw [Bool.or_eq_false_iff,decide_eq_false_iff_not,decide_eq_false_iff_not] at hb2
 obtain ⟨f,hf⟩:=Int.eq_ofNat_of_zero_le (show 0≤off by omega)
 obtain ⟨m,hm⟩:=Int.eq_ofNat_of_zero_le (show 0≤n by omega)
 subst hf hm
 refine skp_ ?_
 refine hK2 _ ?_
 refine rg_ [2,3,10,11] ?_
 refine sk_ fun K3 hK3=>?_
 refine rg_ [2,3,10,11,12] ?_
 refine awp_block ?_
 refine lp_ (X:={k:Nat // (k=0∨f+k≤n0.data.length)∧k≤m}) (fun x=>⟨Tryz.f99.ntmps,fget [(2,.int .i64 (f:Nat)),(3,.int .i64 (m:Nat)),(10,.ptr (h.length+1) 0),(11,.str ((n0.data.drop f).take x.1)),(12,.int .i64 ((f+x.1:Nat):Int))],h++[.cells [.slice ((refL T).map nV) .none],.cells (nvC n0)],live⟩) (fun x=>m - x.1) (⟨0,.inl rfl,Nat.zero_le _⟩) ?_ (fun ⟨k,hk1,hk2⟩=>?_)
 ·
  try dsimp only
  refine Trunc.of (by first | exact (List.append_nil _).symm | exact rfl | (rw [List.append_assoc];rfl)) ?_ hB (fun _ h=>h)
  refine ftc_ ?_
  refine ftc_ ?_
  refine ftc_ ?_
  refine ftc_ ?_
  refine ftc_ ?_
  exact FTr.nil
 try dsimp only
 refine sk_ fun K4 hK4=>?_
 refine rg_ [2,3,10,11,12,37] ?_
 refine cy_ (fun hb3=>?_) (fun hb3=>?_)
 rotate_left
 ·
  have hend:(n0.data.drop f).take k=(n0.data.drop f).take m:=by
   rw [Bool.and_eq_false_iff,decide_eq_false_iff_not,decide_eq_false_iff_not] at hb3
   by_cases hkm:k=m
   · rw [hkm]
   · rw [List.take_of_length_le (by rw [List.length_drop];omega),List.take_of_length_le (by rw [List.length_drop];omega)]
  refine awp_exit (up_ ?_)
  refine hK3 _ ?_
  refine rg_ [8,9] ?_
  refine ret_ ?_
  refine fq_ Tryz.results99 ?_
  exact rk_ (by rw [hrf,if_neg (fun k=>k hb1),if_neg (by omega),hend];rfl)
 rw [Bool.and_eq_true,decide_eq_true_eq,decide_eq_true_eq] at hb3
 have hkl:f+k<n0.data.length:=by omega
 have hkm:k<m:=by omega
 have hrs:=read_step hkl
 have hq1:(List.take k (List.drop f n0.data)).length≤1000:=by rw [List.length_take,List.length_drop];omega
 have hq2:(List.take (f+k+1 - (f+k)) (List.drop (f+k) n0.data)).length≤1000:=by rw [List.length_take,List.length_drop];omega
 have hsx1:((f:Int)+k).toNat=f+k:=by omega
 have hsx2:((f:Int)+k+1).toNat=f+k+1:=by omega
 have sx:=And.intro hsx1 (And.intro hsx2 sx)
 refine skp_ ?_
 refine hK4 _ ?_
 refine sk_ fun K5 hK5=>?_
 refine awp_block ?_
 refine rt_ [2,3,10,11,12] ?_
 refine srn_ ?_
 refine hK5 _ ?_
 refine rt_ [2,3,10,11,12] ?_
 refine srn_ ?_
 refine ln_ ⟨k+1,.inr (by omega),by omega⟩ ?_
 try dsimp only
 refine Trunc.of (by first | exact (List.append_nil _).symm | exact rfl | (rw [List.append_assoc];rfl)) ?_ hB (fun _ h=>h)
 refine ftc_ ?_
 refine ftc_ ?_
 refine ftc_ ?_
 refine FTr.cons (by show _=AV.str ((n0.data.drop f).take (k+1));rw [←hrs];rfl) (by exact trivial) ?_
 refine ftc_ ?_
 exact FTr.nil
end Go.Proofs.YtegffmibifodcaaGreat

/-
  THE DOCUMENT: a name that is moved. It takes the old name away first, the program the new one: that is the same.
-/
namespace Go.Proofs.YtegffmibifodcaaGreat
open Go.Ab
set_option maxRecDepth 8000
set_option maxHeartbeats 400000
theorem remL_filter {l:List En} (hr:RisP l) (s:List UInt8):remL l s=l.filter fun e=>!decide (e.1=s):=by
 have hne:=remL_ne (s:=s) hr
 have keep:∀m:List En,(∀e∈m,e.1≠s)→m.filter (fun e=>!decide (e.1=s))=m:=fun m h=>List.filter_eq_self.2 fun e he=>by rw [decide_eq_false (h e he)];rfl
 unfold remL at hne ⊢
 split
 · rename_i h;rw [if_pos h] at hne;exact (keep _ hne).symm
 ·
  rename_i h
  rw [if_neg h] at hne
  rcases idxP_spec (eqS s) ([],0) l with ⟨h1, _⟩ | ⟨k,h1,h2,h3⟩
  · omega
  ·
   rw [h1,Int.toNat_natCast] at hne ⊢
   conv=>rhs;rw [←List.take_append_drop k l,List.drop_eq_getElem_cons h2]
   rw [List.getD_eq_getElem?_getD,List.getElem?_eq_getElem h2] at h3
   have h3':l[k].1=s:=by simpa [eqS] using h3
   rw [List.filter_append,List.filter_cons_of_neg (by rw [decide_eq_true h3'];decide),keep _ fun e he=>hne e (List.mem_append_left _ he),keep _ fun e he=>hne e (List.mem_append_right _ he)]
theorem remL_comm {l:List En} (hr:RisP l) (s t:List UInt8) (hs:RisP (remL l s)) (ht:RisP (remL l t)):remL (remL l s) t=remL (remL l t) s:=by
 rw [remL_filter hs,remL_filter ht,remL_filter hr,remL_filter hr,List.filter_filter,List.filter_filter]
 congr 1
 funext e
 exact Bool.and_comm _ _
theorem cut_ent_y {T:Tab} (hT:Gd T) {d n:Int} {s:List UInt8} (hk:(T.get d).1.kind=2) (he:Ent T d (s,n)):∃j:Nat,d=(j:Int)+1∧(j:Int)<T.room∧cutF T d s=T.put j (nWith (T.get d).1 (remL (T.get d).1.ents s)):=by
 have hi:=ent_idx he
 obtain ⟨j,ha,hj,hr,hc⟩:=cut_y hT hk hi
 refine ⟨j,hj,hr,?_⟩
 rw [hc]
 have e:withoutN (T.get d).1 s=(nWith (T.get d).1 (remL (T.get d).1.ents s),0):=by unfold withoutN remL;rw [if_neg (fun h=>h hk),if_neg (by omega),if_neg (by omega)]
 rw [e]
theorem cut_comm {T:Tab} (hT:Gd T) {d e n m:Int} {s t:List UInt8} (hd:(T.get d).1.kind=2) (he:(T.get e).1.kind=2) (h1:Ent T d (s,n)) (h2:Ent T e (t,m)) (hne:d=e→s≠t):cutF (cutF T d s) e t=cutF (cutF T e t) d s:=by
 have hU:=hT.cut d s
 have hV:=hT.cut e t
 have hdU:((cutF T d s).get e).1.kind=2:=by rw [(cut_kind hT d s e).1];exact he
 have heV:((cutF T e t).get d).1.kind=2:=by rw [(cut_kind hT e t d).1];exact hd
 have g1:Ent (cutF T d s) e (t,m):=(cut_ent hT d s e (t,m)).2 ⟨h2,fun q=>(hne q.symm).symm⟩
 have g2:Ent (cutF T e t) d (s,n):=(cut_ent hT e t d (s,n)).2 ⟨h1,fun q=>hne q⟩
 obtain ⟨j,hj, _,c1⟩:=cut_ent_y hT hd h1
 obtain ⟨k,hk, _,c2⟩:=cut_ent_y hT he h2
 obtain ⟨k',hk', _,c3⟩:=cut_ent_y hU hdU g1
 obtain ⟨j',hj', _,c4⟩:=cut_ent_y hV heV g2
 obtain rfl:k'=k:=by omega
 obtain rfl:j'=j:=by omega
 rw [c3,c4]
 by_cases q:d=e
 ·
  subst q
  obtain rfl:k'=j':=by omega
  have r0:=(risP_of (hT.2.kind (i:=d) (by omega))).1
  have r1:RisP (remL (T.get d).1.ents s):=r0.sublist (remL_sub _ _)
  have r2:RisP (remL (T.get d).1.ents t):=r0.sublist (remL_sub _ _)
  rw [cut_get hT d s d,cut_get hT d t d,if_pos ⟨rfl,hd⟩,if_pos ⟨rfl,hd⟩,c1,c2]
  show Tab.mk _ ((T.ns.set k' _).set k' _)=Tab.mk _ ((T.ns.set k' _).set k' _)
  rw [List.set_set,List.set_set]
  show Tab.mk _ (T.ns.set k' (nWith (T.get d).1 (remL (remL (T.get d).1.ents s) t)))=Tab.mk _ (T.ns.set k' (nWith (T.get d).1 (remL (remL (T.get d).1.ents t) s)))
  rw [remL_comm r0 s t r1 r2];rfl
 ·
  rw [cut_get hT d s e,cut_get hT e t d,if_neg (fun h=>q h.1.symm),if_neg (fun h=>q h.1),c1,c2]
  show Tab.mk _ ((T.ns.set j' _).set k' _)=Tab.mk _ ((T.ns.set k' _).set j' _)
  rw [List.set_comm _ _ (show j'≠k' by omega)];rfl
theorem cut_room (T:Tab) (d:Int) (s:List UInt8):(cutF T d s).room=T.room:=by
 unfold cutF
 split
 ·
  unfold putT
  split
  · rfl
  · split<;>rfl
 · rfl
def renU (T:Tab) (c:Cr) (p q:List UInt8):Tab:=
 if 0<rN T c q false then cutF (cutF T (rD T c p false) (rS T c p false)) (rD T c q false) (rS T c q false) else cutF T (rD T c p false) (rS T c p false)
theorem ren_err {T:Tab} {c:Cr} {p q:List UInt8} (o:List Int) (h1:findE T c p=0) (h2:rE T c q false=0) (h:mayX T c (rN T c p false) (rD T c p false) (rD T c q false) (rS T c q false) (rN T c q false)≠0∨rN T c q false=rN T c p false) :
 renameF T c p q o=(mayX T c (rN T c p false) (rD T c p false) (rD T c q false) (rS T c q false) (rN T c q false),T):=by
 unfold renameF
 rw [if_neg (fun k=>k h1),if_neg (fun k=>k h2)]
 unfold mayX at h ⊢
 by_cases a1:rS T c q false=[]
 · rw [if_pos a1,if_pos a1]
 rw [if_neg a1] at h;rw [if_neg a1,if_neg a1]
 by_cases a2:canT c T (rD T c q false) 3=false
 · rw [if_pos a2,if_pos a2]
 rw [if_neg a2] at h;rw [if_neg a2,if_neg a2]
 by_cases a3:rN T c q false=rN T c p false
 · rw [if_pos a3,if_pos a3]
 rw [if_neg a3] at h;rw [if_neg a3,if_neg a3]
 replace h:=h.resolve_right a3
 by_cases a4:(T.get (rN T c p false)).1.kind=2∧belowL T (rN T c p false) 24 (rD T c q false)=true
 · rw [if_pos a4,if_pos (by rw [decide_eq_true a4.1,a4.2];rfl)]
 have a4':¬(decide ((T.get (rN T c p false)).1.kind=2)&&belowL T (rN T c p false) 24 (rD T c q false))=true:=fun k=>a4 (by rw [Bool.and_eq_true,decide_eq_true_eq] at k;exact k)
 rw [if_neg a4'] at h;rw [if_neg a4,if_neg a4']
 by_cases a5:rN T c q false=0
 ·
  rw [if_pos a5] at h;rw [if_pos a5]
  by_cases a6:(!decide (rD T c q false=rD T c p false)&&decide ((8:Int)≤(T.get (rD T c q false)).1.ents.length))=true
  ·
   rw [if_pos a6,if_pos]
   rw [Bool.and_eq_true,Bool.not_eq_true',decide_eq_false_iff_not,decide_eq_true_eq] at a6
   exact ⟨a5,a6.1,a6.2⟩
  · rw [if_neg a6] at h;exact absurd rfl h
 rw [if_neg a5] at h;rw [if_neg a5,if_neg (fun k=>a5 k.1),if_pos a5]
 unfold overF
 by_cases b1:stickyF c (T.get (rD T c q false)).1.mode (T.get (rD T c q false)).1.uid (T.get (rN T c q false)).1.uid=false
 · rw [if_pos b1,if_pos b1,if_pos (by decide)]
 rw [if_neg b1] at h;rw [if_neg b1,if_neg b1]
 by_cases b2:(T.get (rN T c p false)).1.kind=2∧(T.get (rN T c q false)).1.kind≠2
 · rw [if_pos b2,if_pos (by decide),if_pos (by rw [decide_eq_true b2.1,decide_eq_false b2.2];rfl)]
 have b2':¬(decide ((T.get (rN T c p false)).1.kind=2)&&!decide ((T.get (rN T c q false)).1.kind=2))=true:=fun k=>b2 (by rw [Bool.and_eq_true,Bool.not_eq_true',decide_eq_false_iff_not,decide_eq_true_eq] at k;exact k)
 rw [if_neg b2'] at h;rw [if_neg b2,if_neg b2']
 by_cases b3:(T.get (rN T c q false)).1.kind=2∧(T.get (rN T c p false)).1.kind≠2
 · rw [if_pos b3,if_pos (by decide),if_pos (by rw [decide_eq_true b3.1,decide_eq_false b3.2];rfl)]
 have b3':¬(!decide ((T.get (rN T c p false)).1.kind=2)&&decide ((T.get (rN T c q false)).1.kind=2))=true:=fun k=>b3 (by rw [Bool.and_eq_true,Bool.not_eq_true',decide_eq_false_iff_not,decide_eq_true_eq] at k;exact ⟨k.2,k.1⟩)
 rw [if_neg b3'] at h;rw [if_neg b3,if_neg b3']
 by_cases b4:(0:Int)<(T.get (rN T c q false)).1.ents.length
 · rw [if_pos b4,if_pos (by decide)]
 · rw [if_neg b4] at h;exact absurd rfl h
theorem ren_go {T:Tab} (hT:Gd T) {c:Cr} {p q:List UInt8} (o:List Int) (h1:findE T c p=0) (h2:rE T c q false=0) (h3:mayX T c (rN T c p false) (rD T c p false) (rD T c q false) (rS T c q false) (rN T c q false)=0) (h4:rN T c q false≠rN T c p false) :
 ∃j:Nat,rD T c q false=(j:Int)+1∧(j:Int)<T.room∧(rS T c q false).length≤12∧(withN ((renU T c p q).get (rD T c q false)).1 (rS T c q false) (rN T c p false)).2=0∧(rN T c q false=0∨1≤rN T c q false)∧(1≤rN T c q false→((cutF T (rD T c p false) (rS T c p false)).get (rD T c q false)).1.kind=2∧0≤idxP (eqS (rS T c q false)) ((cutF T (rD T c p false) (rS T c p false)).get (rD T c q false)).1.ents) ∧
  renameF T c p q o=(0,(freeF ((renU T c p q).put j (withN ((renU T c p q).get (rD T c q false)).1 (rS T c q false) (rN T c p false)).1) (rN T c q false) o).2):=by
 have key:rS T c q false≠[]∧(rN T c q false=0→rD T c q false=rD T c p false∨(T.get (rD T c q false)).1.ents.length<8)∧renameF T c p q o=(if rN T c q false≠0 then renL T c p q o (cutF T (rD T c q false) (rS T c q false)) else renL T c p q o T):=by
  unfold renameF
  rw [if_neg (fun k=>k h1),if_neg (fun k=>k h2)]
  unfold mayX at h3
  by_cases a1:rS T c q false=[]
  · rw [if_pos a1] at h3;cases h3
  rw [if_neg a1] at h3;rw [if_neg a1]
  by_cases a2:canT c T (rD T c q false) 3=false
  · rw [if_pos a2] at h3;cases h3
  rw [if_neg a2,if_neg h4] at h3;rw [if_neg a2,if_neg h4]
  by_cases a4:(decide ((T.get (rN T c p false)).1.kind=2)&&belowL T (rN T c p false) 24 (rD T c q false))=true
  · rw [if_pos a4] at h3;cases h3
  rw [if_neg a4] at h3;rw [if_neg (fun k=>a4 (by rw [decide_eq_true k.1,k.2];rfl))]
  by_cases a5:rN T c q false=0
  ·
   rw [if_pos a5] at h3
   by_cases a6:(!decide (rD T c q false=rD T c p false)&&decide ((8:Int)≤(T.get (rD T c q false)).1.ents.length))=true
   · rw [if_pos a6] at h3;cases h3
   have a6':¬(rN T c q false=0∧rD T c q false≠rD T c p false∧(8:Int)≤(T.get (rD T c q false)).1.ents.length):=fun k=>a6 (by rw [decide_eq_false k.2.1,decide_eq_true k.2.2];rfl)
   rw [if_neg a6',if_neg (fun k=>k a5)]
   refine ⟨a1,fun _=>?_,by rw [if_neg (fun k=>k a5)]⟩
   by_cases z:rD T c q false=rD T c p false
   · exact .inl z
   ·
    exact .inr (by
     have:¬(8:Int)≤(T.get (rD T c q false)).1.ents.length:=fun k=>a6' ⟨a5,z,k⟩
     omega)
  rw [if_neg a5] at h3;rw [if_neg (fun k=>a5 k.1),if_pos a5]
  refine ⟨a1,fun k=>absurd k a5,?_⟩
  have hov:¬overF c (T.get (rN T c p false)).1 (T.get (rD T c q false)).1 (T.get (rN T c q false)).1≠0:=?_
  · rw [if_neg hov,if_pos a5]
  intro k;apply k
  unfold overF
  by_cases b1:stickyF c (T.get (rD T c q false)).1.mode (T.get (rD T c q false)).1.uid (T.get (rN T c q false)).1.uid=false
  · rw [if_pos b1] at h3;cases h3
  rw [if_neg b1] at h3;rw [if_neg b1]
  by_cases b2:(decide ((T.get (rN T c p false)).1.kind=2)&&!decide ((T.get (rN T c q false)).1.kind=2))=true
  · rw [if_pos b2] at h3;cases h3
  rw [if_neg b2] at h3;rw [if_neg (fun k=>b2 (by rw [decide_eq_true k.1,decide_eq_false k.2];rfl))]
  by_cases b3:(!decide ((T.get (rN T c p false)).1.kind=2)&&decide ((T.get (rN T c q false)).1.kind=2))=true
  · rw [if_pos b3] at h3;cases h3
  rw [if_neg b3] at h3;rw [if_neg (fun k=>b3 (by rw [decide_eq_true k.1,decide_eq_false k.2];rfl))]
  by_cases b4:(0:Int)<(T.get (rN T c q false)).1.ents.length
  · rw [if_pos b4] at h3;cases h3
  · rw [if_neg b4]
 obtain ⟨k1,k2,k3⟩:=key
 have hpe:=(find_ent hT h1)
 rcases resF_at hT.2 c q false h2 with hqa | ⟨qk,qn,q1,q2,q3,qf⟩
 · exact absurd hqa.1 k1
 dsimp only at qk qn q1 q2 q3 qf
 have hnq:rN T c q false=0∨1≤rN T c q false:=by
  rcases findF_pos (hT.2.kind (i:=rD T c q false) (by omega)) (s:=rS T c q false) with ⟨f1, _⟩ | ⟨f1, _, _⟩<;>omega
 have hqe:1≤rN T c q false→Ent T (rD T c q false) (rS T c q false,rN T c q false):=fun h=>by
  rcases findF_pos (hT.2.kind (i:=rD T c q false) (by omega)) (s:=rS T c q false) with ⟨f1, _⟩ | ⟨_, _,f3⟩
  · omega
  · rw [←qf] at f3;exact f3
 obtain ⟨j,ja,hj,jr⟩:=get_isat (get_kind_at (T:=T) (i:=rD T c q false) (by omega))
 have hne:1≤rN T c q false→rD T c p false=rD T c q false→rS T c p false≠rS T c q false:=fun h e1 e2=>by
  have e3:=hpe.1
  rw [e1,e2] at e3
  have e4:=ent_name hT (hqe h) e3 rfl
  exact h4 (Prod.mk.inj e4).2
 have hU:renU T c p q=cutF (if rN T c q false≠0 then cutF T (rD T c q false) (rS T c q false) else T) (rD T c p false) (rS T c p false):=by
  unfold renU
  rcases hnq with h | h
  · rw [if_neg (by omega),if_neg (fun k=>k h)]
  ·
   rw [if_pos (by omega),if_pos (by omega)]
   exact cut_comm hT hpe.2.1 qk hpe.1 (hqe h) (hne h)
 have hg:=renL_good hT (q:=q) (U:=if rN T c q false≠0 then cutF T (rD T c q false) (rS T c q false) else T) o h1 h2 k1 (by
  rcases hnq with h | h
  · exact .inr ⟨h,if_neg (fun k=>k h),k2 h⟩
  · exact .inl ⟨by omega,if_pos (by omega)⟩)
 rw [←hU] at hg
 have hUg:Gd (renU T c p q):=by
  rw [hU]
  refine Gd.cut ?_ _ _
  split
  · exact hT.cut _ _
  · exact hT
 have hkq:((renU T c p q).get (rD T c q false)).1.kind=2:=by
  unfold renU
  split
  · rw [(cut_kind (hT.cut _ _) _ _ _).1,(cut_kind hT _ _ _).1];exact qk
  · rw [(cut_kind hT _ _ _).1];exact qk
 obtain ⟨j',ja',hj',jr'⟩:=get_isat (get_kind_at (T:=renU T c p q) (i:=rD T c q false) (by omega))
 obtain rfl:j'=j:=by omega
 refine ⟨j',by omega,by omega,q3,hg.1,hnq,fun h=>⟨?_,?_⟩,?_⟩
 · rw [(cut_kind hT _ _ _).1];exact qk
 · exact ent_idx ((cut_ent hT _ _ _ _).2 ⟨hqe h,fun e=>(hne h e.symm).symm⟩)
 ·
  rw [k3]
  have e:(if rN T c q false≠0 then renL T c p q o (cutF T (rD T c q false) (rS T c q false)) else renL T c p q o T)=renL T c p q o (if rN T c q false≠0 then cutF T (rD T c q false) (rS T c q false) else T):=by split<;>rfl
  rw [e]
  unfold renL
  rw [←hU,if_pos hg.1,hg.2]
  have hp:(putT (renU T c p q) (rD T c q false) (withN ((renU T c p q).get (rD T c q false)).1 (rS T c q false) (rN T c p false)).1).2=(renU T c p q).put j' (withN ((renU T c p q).get (rD T c q false)).1 (rS T c q false) (rN T c p false)).1:=by
   have h0:=hg.2
   unfold putT at h0 ⊢
   rw [ja'] at h0 ⊢
   dsimp only at h0 ⊢
   split
   · rename_i z;rw [if_pos z] at h0;cases h0
   · rfl
  rw [hp]
theorem w34 (T:Tab) (i:Int) (j:Nat) (n:Nd) (h:List Blk) (live:List Nat) (hT:T.Ok) (hi:i=(j:Int)+1) (hj:(j:Int)<T.room):ACalls Tryz.prog 34 [tV (refL T),.int .i64 i,.agg (nvC n)] h live (ret (tV (refL (T.put j n))) h live):=by
 subst hi
 have hll:=refL_len hT
 have hhi:=hT.hi
 rw [←refL_put]
 exact c34 (refL T) j n _ _ (by omega) (by omega)
theorem c95 (T:Tab) (c:Cr) (p q:List UInt8) (o:List Int) (h:List Blk) (live:List Nat) (hT:T.Ok) (hR:T.Rt) (hgs:c.gs.length≤1000000000) (hp:p.length≤9223372036854775807) (hq:q.length≤9223372036854775807) (ho:o.length≤1000000):AC Tryz.prog 95 [tV (refL T),.agg [.int .i64 c.uid,.int .i64 c.gid,.slice (c.gs.map iV) .none],.str p,.str q,.slice (o.map iV) .none] h live (.tup [tV (refL (renameF T c p q o).2),.int .i64 (renameF T c p q o).1]):=by
 refine aq_ Tryz.func95 fun hH hX=>?_
 have hll:=refL_len hT
 have hhi:=hT.hi
 have hlo:=hT.lo
 refine rg_ [2,3,4,5,6,10] ?_
 refine rs_ [3,4,5,6,10,12,13] ?_
 refine sg_ ?_
 refine cl_ (hc:=c150 T c p _ _ hT hR hgs hp) (k:=?_)
 refine sre_ ?_
 refine sk_ fun K1 hK1=>?_
 refine rg_ [3,4,5,6,10,12,13,28] ?_
 refine cx_ (fun hb1=>?_) (fun hb1=>?_)
 ·
  refine rg_ [10,11] ?_
  refine ret_ ?_
  refine fq_ Tryz.results95 ?_
  exact rk_ (by unfold renameF;rw [if_pos hb1];try rfl)
 refine skp_ ?_
 refine hK1 _ ?_
 refine rs_ [4,5,6,10,12,13,14] ?_
 refine sg_ ?_
 refine cl_ (hc:=c142 T c q false _ _ hT hR hgs hq) (k:=?_)
 refine sre_ ?_
 refine sk_ fun K2 hK2=>?_
 refine rg_ [4,5,6,10,12,13,14,39] ?_
 refine cx_ (fun hb2=>?_) (fun hb2=>?_)
 ·
  refine rg_ [10,11] ?_
  refine ret_ ?_
  refine fq_ Tryz.results95 ?_
  exact rk_ (by unfold renameF;rw [if_neg (fun k=>k hb1),if_pos hb2];try rfl)
 refine skp_ ?_
 refine hK2 _ ?_
 refine rs_ [4,5,10,12,13,14] ?_
 refine sg_ ?_
 refine cl_ (hc:=c153 T c _ _ _ _ _ _ _ hT hR hgs) (k:=?_)
 refine sre_ ?_
 refine sk_ fun K3 hK3=>?_
 refine rg_ [4,5,10,12,13,14,58] ?_
 refine cy_ (fun hb3=>?_) (fun hb3=>?_)
 ·
  have hb3':mayX T c (rN T c p false) (rD T c p false) (rD T c q false) (rS T c q false) (rN T c q false)≠0∨rN T c q false=rN T c p false:=by simpa using hb3
  refine rg_ [10,11] ?_
  refine ret_ ?_
  refine fq_ Tryz.results95 ?_
  exact rk_ (by rw [ren_err o hb1 hb2 hb3'];try rfl)
 have hb3':mayX T c (rN T c p false) (rD T c p false) (rD T c q false) (rS T c q false) (rN T c q false)=0∧rN T c q false≠rN T c p false:=by simpa using hb3
 obtain ⟨hen,hkd,hn1⟩:=find_ent ⟨hT,hR⟩ hb1
 have hix:=ent_idx hen
 have hC:=cutF_ok hT (rD T c p false) (rS T c p false)
 have hCR:=(Gd.cut ⟨hT,hR⟩ (rD T c p false) (rS T c p false)).2
 obtain ⟨j,hj,hjr,hsl,hwz,hnq,hcq,hren⟩:=ren_go ⟨hT,hR⟩ o hb1 hb2 hb3'.1 hb3'.2
 refine skp_ ?_
 refine hK3 _ ?_
 refine rs_ [4,10,12,14,15] ?_
 refine sg_ ?_
 refine cl_ (hc:=c151 T _ _ _ _ hT hR hkd hix) (k:=?_)
 refine sre_ ?_
 refine sk_ fun K4 hK4=>?_
 refine rg_ [4,10,12,14,15,69] ?_
 refine cx_ (fun hb4=>?_) (fun hb4=>?_)
 ·
  have hb4':0<rN T c q false:=hb4
  obtain ⟨hk2,hi2⟩:=hcq (by omega)
  have hC2:=cutF_ok hC (rD T c q false) (rS T c q false)
  have hru:renU T c p q=cutF (cutF T (rD T c p false) (rS T c p false)) (rD T c q false) (rS T c q false):=by unfold renU;rw [if_pos (by omega)]
  rw [hru] at hren hwz
  have hUr:(cutF (cutF T (rD T c p false) (rS T c p false)) (rD T c q false) (rS T c q false)).room=T.room:=by rw [cut_room,cut_room]
  have hUO:=hC2
  have hWO:=withN_ok (s:=rS T c q false) (id:=rN T c p false) (get_ok hUO (rD T c q false)) (Nat.le_trans hsl (by decide))
  have hWk:=withN_kind hwz
  refine rt_ [4,10,12,14,15] ?_
  refine sg_ ?_
  refine cl_ (hc:=c151 _ _ _ _ _ hC hCR hk2 hi2) (k:=?_)
  refine srn_ ?_
  refine hK4 _ ?_
  refine rsq_ [4,10,14,15,16] ⟨false,[(h.length+5,0,.agg 1),(h.length+4,0,.one),(h.length+4,1,.one),(h.length+3,2,.one)],[77,79,82,84],[],[16],[80,85],h.length⟩ (fun _=>⟨by kernel_rfl,by kernel_rfl⟩) ?_
  refine df_ ?_
  refine sg_ ?_
  refine df_ ?_
  refine ds_ (hc:=fun h' l' hs=>(rGet_eq hUO _▸c54 (refL _) _ _ _ (by rw [refL_len hUO];omega))) (k:=?_)
  refine sg_ ?_
  refine df_ ?_
  refine sg_ ?_
  refine df_ ?_
  refine ds_ (hc:=fun h' l' hs=>c154 _ _ _ _ _ (get_ok hUO _) (Nat.le_trans hsl (by decide))) (k:=?_)
  refine sg_ ?_
  refine dga_ ?_
  refine sre_ ?_
  refine rs_ [4,10,14,15] ?_
  refine sg_ ?_
  refine cl_ (hc:=w34 _ _ j _ _ _ hUO hj (by omega)) (k:=?_)
  refine sre_ ?_
  refine rs_ [10,18] ?_
  refine sg_ ?_
  refine cl_ (hc:=c101 _ _ o _ _ (put_ok hUO hWO (by omega) j) ho) (k:=?_)
  refine sre_ ?_
  refine rg_ [10,11] ?_
  refine ret_ ?_
  refine fq_ Tryz.results95 ?_
  exact rk_ (by rw [hren];try rfl)
 have hb4':rN T c q false≤0:=hb4
 have hru:renU T c p q=cutF T (rD T c p false) (rS T c p false):=by unfold renU;rw [if_neg (by omega)]
 rw [hru] at hren hwz
 have hUr:(cutF T (rD T c p false) (rS T c p false)).room=T.room:=by rw [cut_room]
 have hUO:=hC
 have hWO:=withN_ok (s:=rS T c q false) (id:=rN T c p false) (get_ok hUO (rD T c q false)) (Nat.le_trans hsl (by decide))
 have hWk:=withN_kind hwz
 refine skp_ ?_
 refine hK4 _ ?_
 refine rsq_ [4,10,14,15,16] ⟨false,[(h.length+5,0,.agg 1),(h.length+4,0,.one),(h.length+4,1,.one),(h.length+3,2,.one)],[77,79,82,84],[],[16],[80,85],h.length⟩ (fun _=>⟨by kernel_rfl,by kernel_rfl⟩) ?_
 refine df_ ?_
 refine sg_ ?_
 refine df_ ?_
 refine ds_ (hc:=fun h' l' hs=>(rGet_eq hUO _▸c54 (refL _) _ _ _ (by rw [refL_len hUO];omega))) (k:=?_)
 refine sg_ ?_
 refine df_ ?_
 refine sg_ ?_
 refine df_ ?_
 refine ds_ (hc:=fun h' l' hs=>c154 _ _ _ _ _ (get_ok hUO _) (Nat.le_trans hsl (by decide))) (k:=?_)
 refine sg_ ?_
 refine dga_ ?_
 refine sre_ ?_
 refine rs_ [4,10,14,15] ?_
 refine sg_ ?_
 refine cl_ (hc:=w34 _ _ j _ _ _ hUO hj (by omega)) (k:=?_)
 refine sre_ ?_
 refine rs_ [10,18] ?_
 refine sg_ ?_
 refine cl_ (hc:=c101 _ _ o _ _ (put_ok hUO hWO (by omega) j) ho) (k:=?_)
 refine sre_ ?_
 refine rg_ [10,11] ?_
 refine ret_ ?_
 refine fq_ Tryz.results95 ?_
 exact rk_ (by rw [hren];try rfl)
end Go.Proofs.YtegffmibifodcaaGreat

/-
  THE DOCUMENT: files written.
-/
namespace Go.Proofs.YtegffmibifodcaaGreat
open Go.Ab
set_option maxRecDepth 8000
set_option maxHeartbeats 400000
theorem right_dat {n:Nd} {b:List UInt8} (h:rightF n=true) (k:n.kind=1) (hb:b.length≤48):rightF (datN n b)=true:=by
 rw [rightF_1 k] at h
 rw [rightF_1 (show (datN n b).kind=1 from k)]
 simp only [Bool.and_eq_true] at h
 obtain ⟨⟨⟨a0,a⟩,d⟩, _⟩:=h
 show (rightV n&&decide ((n.ents.length:Int)=0)&&decide (n.target=[])&&decide ((b.length:Int)≤48))=true
 rw [a0,a,d,decide_eq_true (by omega)];rfl
theorem right_data {n:Nd} {b:List UInt8} (c:Cr) (h:rightF n=true) (k:n.kind=1) (hb:b.length≤48):rightF (dataN c n b)=true:=by
 rw [←dat_chg]
 obtain ⟨_,h2,h3⟩:=right_ids h
 exact right_chg (right_dat h k hb) (writtenF_bd c _ _) h2 h3 (fun q=>absurd (k.symm.trans q) (by decide))
theorem right_d48 {n:Nd} (h:rightF n=true) (k:n.kind=1):n.data.length≤48:=by
 rw [rightF_1 k] at h
 simp only [Bool.and_eq_true,decide_eq_true_eq] at h
 have:=h.2;omega
theorem putT_y {T:Tab} {i:Int} {j:Nat} {n:Nd} (ha:T.at i=some j) (hr:rightF n=true):putT T i n=(0,T.put j n):=by
 unfold putT;rw [ha];dsimp only;rw [if_neg (by rw [hr];decide)]
theorem over_ref (l b:List UInt8) {f k:Nat} (h1:f≤l.length+k) (h2:k=0∨l.length+k≤f):overB l f b=(l++List.replicate k 0).take f++b++(l++List.replicate k 0).drop (f+b.length):=by
 unfold overB
 rw [putAt_eq l _ 0 (by rw [List.length_replicate];omega),List.take_zero,List.nil_append,Nat.zero_add,List.drop_replicate,putAt_eq b _ f (by rw [List.length_append,List.length_replicate];omega)]
 congr 1
 ·
  congr 1
  rw [List.take_append,List.take_append,List.take_replicate,List.take_replicate]
  congr 2;omega
 ·
  rw [List.drop_append,List.drop_append,List.drop_replicate,List.drop_replicate]
  congr 2;omega
theorem c100 (T:Tab) (c:Cr) (i off:Int) (b:List UInt8) (h:List Blk) (live:List Nat) (hT:T.Ok) (hR:T.Rt) (hbl:b.length≤1000):AC Tryz.prog 100 [tV (refL T),.agg [.int .i64 c.uid,.int .i64 c.gid,.slice (c.gs.map iV) .none],.int .i64 i,.int .i64 off,.str b] h live (.tup [tV (refL (writeAtF T c i off b).2),.int .i64 (writeAtF T c i off b).1]):=by
 refine aq_ Tryz.func100 fun hH hX=>?_
 unfold tV
 have hll:=refL_len hT
 have hhi:=hT.hi
 have hlo:=hT.lo
 obtain ⟨n0,hn0⟩:∃n0,(T.get i).1=n0:=⟨_,rfl⟩
 have hno:NdOk n0:=hn0▸get_ok hT i
 have hdl:=hno.1
 have hB:HCl (h++[.cells [.slice ((refL T).map nV) .none],.cells [.int .i64 c.uid,.int .i64 c.gid,.slice (c.gs.map iV) .none],.cells [.slice [] .full],.cells (nvC n0)]):=by
  have:=(((HCl.snoc hH (b:=.cells [.slice ((refL T).map nV) .none]) (by simp [Blk.cl,AV.cl,AV.clL,clL_nV, -List.map_map])).snoc (b:=.cells [.int .i64 c.uid,.int .i64 c.gid,.slice (c.gs.map iV) .none]) (by simp [Blk.cl,AV.cl,AV.clL,clL_iV, -List.map_map])).snoc (b:=.cells [.slice [] .full]) (by simp [Blk.cl,AV.cl,AV.clL])).snoc (b:=.cells (nvC n0)) (clL_nvC _ _)
  simp only [List.append_assoc] at this;exact this
 have hwf:writeAtF T c i off b=if n0.kind≠1 then (9,T) else if off<0 then (22,T) else if b=[] then (0,T) else if 48 - (b.length:Int)<off then (27,T) else (0,(putT T i (dataN c n0 (overB n0.data off.toNat b))).2):=by unfold writeAtF;rw [hn0]
 have sx:=(And.intro @hn0 (And.intro @Nat.sub_zero sx0))
 refine rg_ [2,3,4,5,6,10] ?_
 refine rs_ [2,3,4,5,6,10,12] ?_
 refine sg_ ?_
 refine cl_ (hc:=(rGet_eq hT i▸c54 (refL T) i _ _ (by omega))) (k:=?_)
 refine sre_ ?_
 refine sk_ fun K1 hK1=>?_
 refine rg_ [2,3,4,5,6,10,12,20] ?_
 refine cx_ (fun hb1=>?_) (fun hb1=>?_)
 ·
  refine rg_ [10,11] ?_
  refine ret_ ?_
  refine fq_ Tryz.results100 ?_
  exact rk_ (by rw [hwf,if_pos hb1];try rfl)
 have hk1:n0.kind=1:=hb1
 have hrt:rightF n0=true:=hn0▸hR.kind (i:=i) (by rw [hn0,hk1];decide)
 obtain ⟨j,hat,hj,hjr⟩:=get_isat (get_kind_at (T:=T) (i:=i) (by rw [hn0,hk1];decide))
 refine skp_ ?_
 refine hK1 _ ?_
 refine sk_ fun K2 hK2=>?_
 refine rg_ [2,3,4,5,6,10,12,23] ?_
 refine cx_ (fun hb2=>?_) (fun hb2=>?_)
 ·
  refine rg_ [10,11] ?_
  refine ret_ ?_
  refine fq_ Tryz.results100 ?_
  exact rk_ (by rw [hwf,if_neg (fun k=>k hb1),if_pos hb2];try rfl)
 refine skp_ ?_
 refine hK2 _ ?_
 refine sk_ fun K3 hK3=>?_
 refine rg_ [2,3,4,5,6,10,12,26] ?_
 refine cx_ (fun hb3=>?_) (fun hb3=>?_)
 ·
  refine rg_ [10,11] ?_
  refine ret_ ?_
  refine fq_ Tryz.results100 ?_
  exact rk_ (by rw [hwf,if_neg (fun k=>k hb1),if_neg (by omega),if_pos hb3];try rfl)
 refine skp_ ?_
 refine hK3 _ ?_
 refine sk_ fun K4 hK4=>?_
 refine rg_ [2,3,4,5,6,10,12,36] ?_
 refine cy_ (fun hb4=>?_) (fun hb4=>?_)
 ·
  have hb4':48 - (b.length:Int)<off:=by
   have:=hb4
   simp only [Bool.or_eq_true,Bool.or_eq_false_iff,decide_eq_true_eq,decide_eq_false_iff_not] at this
   have hwr:off≤48→IntKind.i64.wrap (off+b.length)=off+b.length:=fun h=>wrapS (by omega) (by omega)
   by_cases ho:off≤48
   ·
    have:=hwr ho
    omega
   · omega
  refine rg_ [10,11] ?_
  refine ret_ ?_
  refine fq_ Tryz.results100 ?_
  exact rk_ (by rw [hwf,if_neg (fun k=>k hb1),if_neg (by omega),if_neg hb3,if_pos hb4'];try rfl)
 have hb4':¬48 - (b.length:Int)<off:=by
  have:=hb4
  simp only [Bool.or_eq_true,Bool.or_eq_false_iff,decide_eq_true_eq,decide_eq_false_iff_not] at this
  have hwr:off≤48→IntKind.i64.wrap (off+b.length)=off+b.length:=fun h=>wrapS (by omega) (by omega)
  by_cases ho:off≤48
  ·
   have:=hwr ho
   omega
  · omega
 obtain ⟨f,hf⟩:=Int.eq_ofNat_of_zero_le (show 0≤off by omega)
 subst hf
 refine skp_ ?_
 refine hK4 _ ?_
 refine rg_ [2,3,4,5,6,10,12,13] ?_
 refine sk_ fun K5 hK5=>?_
 refine awp_block ?_
 refine lp_ (X:={s:List UInt8 // ∃k,s=n0.data++List.replicate k 0∧(k=0∨n0.data.length+k≤f)}) (fun x=>⟨Tryz.f100.ntmps,fget [(2,.int .i64 i),(3,.int .i64 (f:Nat)),(4,.str b),(5,.ptr h.length 0),(6,.ptr (h.length+1) 0),(10,.ptr (h.length+2) 0),(12,.ptr (h.length+3) 0),(13,.str x.1)],h++[.cells [.slice ((refL T).map nV) .none],.cells [.int .i64 c.uid,.int .i64 c.gid,.slice (c.gs.map iV) .none],.cells [.slice [] .full],.cells (nvC n0)],live⟩) (fun x=>f - x.1.length) (⟨n0.data,0,by simp,.inl rfl⟩) ?_ (fun ⟨s,k,hs,hk⟩=>?_)
 ·
  try dsimp only
  exact tf_ hB (fun _ h=>h)
 try dsimp only
 have hsl:s.length=n0.data.length+k:=by rw [hs,List.length_append,List.length_replicate]
 refine sk_ fun K6 hK6=>?_
 refine rg_ [2,3,4,5,6,10,12,13,43] ?_
 refine cx_ (fun hb5=>?_) (fun hb5=>?_)
 rotate_left
 ·
  have hov:=over_ref n0.data b (f:=f) (k:=k) (by omega) hk
  rw [←hs] at hov
  have htl:(s.take f).length=f:=by rw [List.length_take];omega
  have hdn:(((s.take f).length:Int)+b.length).toNat=f+b.length:=by omega
  have hd2:=List.length_drop (i:=f+b.length) (l:=s)
  have hd8:=right_d48 hrt hk1
  have hol:(overB n0.data f b).length≤48:=by rw [overB_len];omega
  have hfn:(f:Int).toNat=f:=Int.toNat_natCast f
  have sx:=And.intro hdn sx
  refine awp_exit (up_ ?_)
  refine hK5 _ ?_
  refine rg_ [2,5,6,10,12,13,14] ?_
  refine sk_ fun K7 hK7=>?_
  refine rg_ [2,5,6,10,12,13,14,55] ?_
  refine cx_ (fun hb6=>?_) (fun hb6=>?_)
  ·
   rw [List.append_assoc] at hov
   refine rt_ [2,5,6,10,12,14] ?_
   refine srn_ ?_
   refine hK7 _ ?_
   refine rsq_ [10,11] ⟨true,[],[],[],[],[],0⟩ (fun _=>⟨by kernel_rfl,by kernel_rfl⟩) ?_
   refine sg_ ?_
   refine cr_ (hc:=c157 c n0 _ _ _) (k:=?_)
   refine cr_ (hc:=w34 T i j _ _ _ hT hj.symm (by omega)) (k:=?_)
   refine srt_ ?_
   refine fq_ Tryz.results100 ?_
   exact rk_ (by rw [hwf,if_neg (fun k=>k hb1),if_neg (by omega),if_neg hb3,if_neg hb4',hfn,putT_y hat (right_data c hrt hk1 hol),hov];try rfl)
  rw [List.drop_eq_nil_of_le (by omega),List.append_nil] at hov
  refine skp_ ?_
  refine hK7 _ ?_
  refine rsq_ [10,11] ⟨true,[],[],[],[],[],0⟩ (fun _=>⟨by kernel_rfl,by kernel_rfl⟩) ?_
  refine sg_ ?_
  refine cr_ (hc:=c157 c n0 _ _ _) (k:=?_)
  refine cr_ (hc:=w34 T i j _ _ _ hT hj.symm (by omega)) (k:=?_)
  refine srt_ ?_
  refine fq_ Tryz.results100 ?_
  exact rk_ (by rw [hwf,if_neg (fun k=>k hb1),if_neg (by omega),if_neg hb3,if_neg hb4',hfn,putT_y hat (right_data c hrt hk1 hol),hov];try rfl)
 have hs1:(s++[0]).length=s.length+1:=by simp
 refine skp_ ?_
 refine hK6 _ ?_
 refine awp_block ?_
 refine rt_ [2,3,4,5,6,10,12,13] ?_
 refine srn_ ?_
 refine ln_ ⟨s++[0],k+1,by rw [hs,List.append_assoc,List.replicate_succ'],.inr (by omega)⟩ ?_
 try dsimp only
 exact tf_ hB (fun _ h=>h)
end Go.Proofs.YtegffmibifodcaaGreat

/-
  THE DOCUMENT: files opened.
-/
namespace Go.Proofs.YtegffmibifodcaaGreat
open Go.Ab
set_option maxRecDepth 8000
set_option maxHeartbeats 400000
theorem has_fin:∀a:Fin 64,hasF (a.val:Int) 1=bitN a.val 0∧hasF (a.val:Int) 2=bitN a.val 1∧hasF (a.val:Int) 4=bitN a.val 2∧hasF (a.val:Int) 8=bitN a.val 3∧hasF (a.val:Int) 16=bitN a.val 4∧(!hasF (a.val:Int) 40)=(!bitN a.val 5&&!bitN a.val 3):=by decide +kernel
theorem flags_y {f:Int} (h:flagsF f=true):∃a:Nat,f=(a:Int)∧a<64∧(bitN a 0||bitN a 1)=true:=by
 unfold flagsF at h
 simp only [Bool.and_eq_true,decide_eq_true_eq] at h
 obtain ⟨⟨⟨⟨h1,h2⟩,h3⟩,h4⟩,h5⟩:=h
 obtain ⟨a,rfl⟩:=Int.eq_ofNat_of_zero_le h1
 refine ⟨a,rfl,by omega,?_⟩
 have hh:=flags_fin ⟨a,by omega⟩
 have hf:flagsF (a:Int)=true:=by unfold flagsF;simp only [Bool.and_eq_true,decide_eq_true_eq];exact ⟨⟨⟨⟨h1,h2⟩,h3⟩,h4⟩,h5⟩
 rw [show flagsF (a:Int)=_ from hh] at hf
 simp only [Bool.and_eq_true] at hf
 exact hf.1.1
theorem cls_bd (m:Int) (k:Int):0≤clsI m k∧clsI m k<8:=by unfold clsI;omega
theorem canF_both (c:Cr) (u g m:Int):canF c u g m 6=(canF c u g m 4&&canF c u g m 2):=by
 unfold canF
 obtain ⟨h1,h2⟩:=cls_bd m (classF c u g)
 cases decide (c.uid=0)
 ·
  rw [Bool.false_or,Bool.false_or,Bool.false_or,hasB_eq ⟨h1,h2⟩ (by decide),hasB_eq ⟨h1,h2⟩ (by decide),hasB_eq ⟨h1,h2⟩ (by decide)]
  simp
 · rfl
theorem canT_both (c:Cr) (T:Tab) (i:Int):canT c T i 6=(canT c T i 4&&canT c T i 2):=by
 unfold canT
 rw [canF_both]
 cases (T.get i).2<;>cases canF c (T.get i).1.uid (T.get i).1.gid (T.get i).1.mode 4<;>rfl
theorem acc_eq (c:Cr) (T:Tab) (i:Int) {x y:Bool} (h:(x||y)=true):canT c T i (bits .or .i64 (if x=true then 4 else 0) (if y=true then 2 else 0))=!((x&&!canT c T i 4)||(y&&!canT c T i 2)):=by
 cases x<;>cases y
 · cases h
 · show canT c T i 2=_;cases canT c T i 2<;>rfl
 · show canT c T i 4=_;cases canT c T i 4<;>rfl
 · show canT c T i 6=_;rw [canT_both];cases canT c T i 4<;>cases canT c T i 2<;>rfl
theorem c96 (T:Tab) (c:Cr) (um:Int) (p:List UInt8) (f m:Int) (o:List Int) (h:List Blk) (live:List Nat) (hT:T.Ok) (hR:T.Rt) (hW:TreeW T o []) (hgs:c.gs.length≤1000000000) (hp:p.length≤9223372036854775807):AC Tryz.prog 96 [tV (refL T),.agg [.int .i64 c.uid,.int .i64 c.gid,.slice (c.gs.map iV) .none],.int .i64 um,.str p,.int .i64 f,.int .i64 m] h live (.tup [tV (refL (openF T c um p f m).2),.int .i64 (openF T c um p f m).1.1,.int .i64 (openF T c um p f m).1.2]):=by
 refine aq_ Tryz.func96 fun hH hX=>?_
 have hll:=refL_len hT
 have hhi:=hT.hi
 have hlo:=hT.lo
 refine rg_ [2,3,4,5,6,7,12] ?_
 refine rs_ [2,3,4,5,6,7,12,15] ?_
 refine sg_ ?_
 refine cl_ (hc:=c155 f _ _) (k:=?_)
 refine sre_ ?_
 refine sk_ fun K1 hK1=>?_
 refine rg_ [2,3,4,5,6,7,12,23] ?_
 refine cy_ (fun hb1=>?_) (fun hb1=>?_)
 ·
  have hb1':flagsF f=false:=by simpa using hb1
  refine rg_ [12,13,14] ?_
  refine ret_ ?_
  refine fq_ Tryz.results96 ?_
  exact rk_ (by unfold openF;rw [if_pos hb1'];try rfl)
 have hb1':flagsF f=true:=by simpa using hb1
 obtain ⟨a,hfa,ha6,hab⟩:=flags_y hb1'
 subst hfa
 have ha4:a<4096:=by omega
 obtain ⟨e1,e2,e4,e8,e16,e40⟩:hasF (a:Int) 1=bitN a 0∧hasF (a:Int) 2=bitN a 1∧hasF (a:Int) 4=bitN a 2∧hasF (a:Int) 8=bitN a 3∧hasF (a:Int) 16=bitN a 4∧(!hasF (a:Int) 40)=(!bitN a 5&&!bitN a 3):=has_fin ⟨a,ha6⟩
 have hop:openF T c um p (a:Int) m=openF T c um p (a:Int) m:=rfl
 conv at hop=>rhs;unfold openF
 rw [if_neg (show ¬flagsF (a:Int)=false by rw [hb1'];decide),e40,e1,e2,e4,e8,e16,acc_eq c T _ hab] at hop
 refine skp_ ?_
 refine hK1 _ ?_
 refine rs_ [2,3,4,5,6,7,12,16] ?_
 refine sg_ ?_
 refine cl_ (hc:=c98 a 5 _ _ ha4 (by omega)) (k:=?_)
 refine sg_ ?_
 refine cg_ (hc:=fun hg=>c98 a 3 _ _ ha4 (by omega)) (k:=?_)
 refine sre_ ?_
 refine rs_ [2,3,4,5,6,7,12,16,17,18] ?_
 refine sg_ ?_
 refine cl_ (hc:=c142 T c p _ _ _ hT hR hgs hp) (k:=?_)
 refine sre_ ?_
 refine sk_ fun K2 hK2=>?_
 refine rg_ [2,3,4,5,6,7,12,16,17,18,42] ?_
 refine cx_ (fun hb2=>?_) (fun hb2=>?_)
 ·
  refine rg_ [12,13,14] ?_
  refine ret_ ?_
  refine fq_ Tryz.results96 ?_
  exact rk_ (by rw [hop,if_pos hb2];try rfl)
 refine skp_ ?_
 refine hK2 _ ?_
 refine sk_ fun K3 hK3=>?_
 refine rg_ [2,3,4,5,6,7,12,16,17,47] ?_
 refine cx_ (fun hb3=>?_) (fun hb3=>?_)
 ·
  have his:(T.get (rN T c p (!bitN a 5&&!bitN a 3))).2=false:=by rw [res_is hT hW c p _ hb2,show rN T c p (!bitN a 5&&!bitN a 3)=0 from hb3];rfl
  refine sk_ fun K4 hK4=>?_
  refine rs_ [2,3,5,6,7,12,16,50] ?_
  refine sg_ ?_
  refine cl_ (hc:=c98 a 2 _ _ ha4 (by omega)) (k:=?_)
  refine sre_ ?_
  refine cy_ (fun hb4=>?_) (fun hb4=>?_)
  ·
   have hb4':bitN a 2=false:=by simpa using hb4
   refine rg_ [12,13,14] ?_
   refine ret_ ?_
   refine fq_ Tryz.results96 ?_
   exact rk_ (by rw [hop,if_neg (fun k=>k hb2),if_pos his,if_pos hb4'];try rfl)
  have hb4':bitN a 2=true:=by simpa using hb4
  refine skp_ ?_
  refine hK4 _ ?_
  refine rs_ [12,13,14] ?_
  refine sg_ ?_
  refine cl_ (hc:=c156 T c um p m _ _ _ hT hR hgs hp) (k:=?_)
  refine srt_ ?_
  refine fq_ Tryz.results96 ?_
  exact rk_ (by rw [hop,if_neg (fun k=>k hb2),if_pos his,if_neg (by rw [hb4'];decide)];try rfl)
 obtain ⟨j,hat,hj,hjr,his⟩:=res_at hT hW hb2 hb3
 refine skp_ ?_
 refine hK3 _ ?_
 refine rs_ [4,6,7,12,17,19] ?_
 refine sg_ ?_
 refine cl_ (hc:=(rGet_eq hT _▸c54 (refL T) _ _ _ (by omega))) (k:=?_)
 refine sre_ ?_
 refine sk_ fun K5 hK5=>?_
 refine rs_ [4,6,7,12,17,19,67] ?_
 refine sg_ ?_
 refine cl_ (hc:=c98 a 3 _ _ ha4 (by omega)) (k:=?_)
 refine re_ ?_
 refine cy_ (fun hb5=>?_) (fun hb5=>?_)
 ·
  refine rg_ [12,13,14] ?_
  refine ret_ ?_
  refine fq_ Tryz.results96 ?_
  exact rk_ (by rw [hop,if_neg (fun k=>k hb2),if_neg (show ¬(T.get (rN T c p (!bitN a 5&&!bitN a 3))).2=false by rw [his];decide),if_pos hb5];try rfl)
 refine skp_ ?_
 refine hK5 _ ?_
 refine sk_ fun K6 hK6=>?_
 refine rg_ [4,6,7,12,17,19,71] ?_
 refine cx_ (fun hb6=>?_) (fun hb6=>?_)
 ·
  refine rg_ [12,13,14] ?_
  refine ret_ ?_
  refine fq_ Tryz.results96 ?_
  exact rk_ (by rw [hop,if_neg (fun k=>k hb2),if_neg (show ¬(T.get (rN T c p (!bitN a 5&&!bitN a 3))).2=false by rw [his];decide),if_neg (show ¬bitN a 3=true by rw [hb5];decide),if_pos hb6];try rfl)
 refine skp_ ?_
 refine hK6 _ ?_
 refine sk_ fun K7 hK7=>?_
 refine rg_ [4,6,7,12,17,19,75] ?_
 refine cx_ (fun hb7=>?_) (fun hb7=>?_)
 ·
  refine rg_ [12,13,14] ?_
  refine ret_ ?_
  refine fq_ Tryz.results96 ?_
  exact rk_ (by rw [hop,if_neg (fun k=>k hb2),if_neg (show ¬(T.get (rN T c p (!bitN a 5&&!bitN a 3))).2=false by rw [his];decide),if_neg (show ¬bitN a 3=true by rw [hb5];decide),if_neg hb6,if_pos hb7];try rfl)
 have hrt:=hR.get his
 have hk1:(T.get (rN T c p (!bitN a 5&&!bitN a 3))).1.kind=1:=by
  rcases right_kind hrt with h | h | h
  · exact h
  · exact absurd h hb7
  · exact absurd h hb6
 refine skp_ ?_
 refine hK7 _ ?_
 refine sk_ fun K8 hK8=>?_
 refine rs_ [4,6,7,12,17,19,98] ?_
 refine sg_ ?_
 refine cl_ (hc:=c98 a 0 _ _ ha4 (by omega)) (k:=?_)
 refine sg_ ?_
 refine cg_ (hc:=fun hg=>(rCan_eq hT c _ 4▸c144 (refL T) c _ 4 _ _ (by omega) hgs)) (k:=?_)
 refine sg_ ?_
 refine cg_ (hc:=fun hg=>c98 a 1 _ _ ha4 (by omega)) (k:=?_)
 refine sg_ ?_
 refine cg_ (hc:=fun hg=>(rCan_eq hT c _ 2▸c144 (refL T) c _ 2 _ _ (by omega) hgs)) (k:=?_)
 refine sre_ ?_
 refine cy_ (fun hb8=>?_) (fun hb8=>?_)
 ·
  refine rg_ [12,13,14] ?_
  refine ret_ ?_
  refine fq_ Tryz.results96 ?_
  exact rk_ (by rw [hop,if_neg (fun k=>k hb2),if_neg (show ¬(T.get (rN T c p (!bitN a 5&&!bitN a 3))).2=false by rw [his];decide),if_neg (show ¬bitN a 3=true by rw [hb5];decide),if_neg hb6,if_neg hb7,if_pos (by rw [hb8];rfl)];try rfl)
 refine skp_ ?_
 refine hK8 _ ?_
 refine sk_ fun K9 hK9=>?_
 refine rs_ [6,7,12,17,19,101] ?_
 refine sg_ ?_
 refine cl_ (hc:=c98 a 4 _ _ ha4 (by omega)) (k:=?_)
 refine re_ ?_
 refine cy_ (fun hb9=>?_) (fun hb9=>?_)
 ·
  refine rsq_ [12,13,14] ⟨false,[(h.length,0,.agg 1),(h.length+3,2,.one),(h.length+1,0,.agg 3),(h.length+4,0,.agg 8)],[102,104,105,106,110],[12],[],[107,108],h.length⟩ (fun _=>⟨by kernel_rfl,by kernel_rfl⟩) ?_
  refine df_ ?_
  refine sg_ ?_
  refine df_ ?_
  refine df_ ?_
  refine df_ ?_
  refine ds_ (hc:=fun h' l' hs=>c157 c _ [] _ _) (k:=?_)
  refine ds_ (hc:=fun h' l' hs=>w34 T _ j _ _ _ hT hj hjr) (k:=?_)
  refine sg_ ?_
  refine df_ ?_
  refine dgs_ ?_
  refine srt_ ?_
  refine fq_ Tryz.results96 ?_
  exact rk_ (by rw [hop,if_neg (fun k=>k hb2),if_neg (show ¬(T.get (rN T c p (!bitN a 5&&!bitN a 3))).2=false by rw [his];decide),if_neg (show ¬bitN a 3=true by rw [hb5];decide),if_neg hb6,if_neg hb7,if_neg (by rw [hb8];decide),if_pos hb9,putT_y hat (right_data c hrt hk1 (by decide))];try rfl)
 refine skp_ ?_
 refine hK9 _ ?_
 refine rsq_ [12,13,14] ⟨false,[(h.length,0,.agg 1),(h.length+3,2,.one)],[111,113],[12],[],[],0⟩ (fun _=>⟨by kernel_rfl,by kernel_rfl⟩) ?_
 refine df_ ?_
 refine sg_ ?_
 refine df_ ?_
 refine dgs_ ?_
 refine srt_ ?_
 refine fq_ Tryz.results96 ?_
 exact rk_ (by rw [hop,if_neg (fun k=>k hb2),if_neg (show ¬(T.get (rN T c p (!bitN a 5&&!bitN a 3))).2=false by rw [his];decide),if_neg (show ¬bitN a 3=true by rw [hb5];decide),if_neg hb6,if_neg hb7,if_neg (by rw [hb8];decide),if_neg (by rw [hb9];decide)];try rfl)
end Go.Proofs.YtegffmibifodcaaGreat

/-
  THE DOCUMENT: systems, with another process, or another open file.
-/
namespace Go.Proofs.YtegffmibifodcaaGreat
open Go.Ab
set_option maxRecDepth 8000
set_option maxHeartbeats 400000
def fdsL (P:Pr):List Fde:=[P.f0,P.f1,P.f2]
def pvC (P:Pr):List AV:=[.int .i64 P.c.uid,.int .i64 P.c.gid,.slice (P.c.gs.map iV) .none,.int .i64 P.um,.slice ((fdsL P).map fdV) .none]
def pV (P:Pr):AV:=.agg (pvC P)
def sV (T:Tab) (ps:List Pr):AV:=.agg [.slice ((refL T).map nV) .none,.slice (ps.map pV) .none]
theorem pvC_len (P:Pr):(pvC P).length=5:=rfl
theorem pvC_t (P:Pr):(pvC P).take 5=pvC P:=rfl
theorem pvC_4 (P:Pr):(pvC P)[4]? = some (.slice ((fdsL P).map fdV) .none):=rfl
theorem pvC_3 (P:Pr):(pvC P)[3]? = some (.int .i64 P.um):=rfl
theorem pvC_cr (P:Pr):(pvC P).take 3=[.int .i64 P.c.uid,.int .i64 P.c.gid,.slice (P.c.gs.map iV) .none]:=rfl
theorem pV_eq (P:Pr):AV.agg (pvC P)=pV P:=rfl
theorem fdsL_len (P:Pr):(fdsL P).length=3:=rfl
theorem fdsL_get (P:Pr) {i:Nat} (hi:i<3):(fdsL P).getD i fd0=P.fd i:=by
 rcases (show i=0∨i=1∨i=2 by omega) with rfl | rfl | rfl<;>rfl
theorem fdsL_set (P:Pr) {i:Nat} (hi:i<3) (f:Fde):(fdsL P).set i f=fdsL (P.put i f):=by
 rcases (show i=0∨i=1∨i=2 by omega) with rfl | rfl | rfl<;>rfl
theorem getD_fdV (l:List Fde) {i:Nat} (hi:i<l.length):(l.map fdV).getD i .undef=.agg (fdC (l.getD i fd0)):=by
 rw [List.getD_eq_getElem?_getD,List.getElem?_map,List.getElem?_eq_getElem hi,List.getD_eq_getElem?_getD,List.getElem?_eq_getElem hi];rfl
theorem getD_pV (l:List Pr) {i:Nat} (hi:i<l.length):(l.map pV).getD i .undef=.agg (pvC (l.getD i pr0)):=by
 rw [List.getD_eq_getElem?_getD,List.getElem?_map,List.getElem?_eq_getElem hi,List.getD_eq_getElem?_getD,List.getElem?_eq_getElem hi];rfl
theorem cells_pV (l:List Pr):∀y∈l.map pV,y.cells.length=5:=fun y hy=>by
 obtain ⟨f, _,rfl⟩:=List.mem_map.1 hy;rfl
attribute [push_cast] pvC_len pvC_t pvC_4 pvC_3 pvC_cr fdsL_len getD_fdV getD_pV
theorem clL_pvC (m:Nat) (P:Pr):AV.clL m (pvC P):=⟨trivial,trivial,clL_iV _ _,trivial,clL_fdV _ _,trivial⟩
theorem clL_pV (m:Nat) (l:List Pr):AV.clL m (l.map pV):=clL_all fun x hx=>by
 obtain ⟨c, _,rfl⟩:=List.mem_map.1 hx
 exact clL_pvC _ _
theorem erL_fdV (l:List Fde):AV.erL (l.map fdV)=l.map fdV:=by
 rw [AV.erL_map,List.map_map];rfl
theorem er_pvC (P:Pr):AV.erL (pvC P)=pvC P:=by
 show [AV.int .i64 P.c.uid,.int .i64 P.c.gid,(AV.slice (P.c.gs.map iV) .none).er,.int .i64 P.um,(AV.slice ((fdsL P).map fdV) .none).er]=_
 simp only [AV.er,erL_iV,erL_fdV];rfl
theorem erL_pV (l:List Pr):AV.erL (l.map pV)=l.map pV:=by
 rw [AV.erL_map,List.map_map]
 congr 1
 funext P
 exact congrArg AV.agg (er_pvC P)
theorem flat_fdV (l:List Fde):flat (l.map fdV)=l.flatMap fdC:=by unfold flat;rw [List.flatMap_map];rfl
theorem flat_pV (l:List Pr):flat (l.map pV)=l.flatMap pvC:=by unfold flat;rw [List.flatMap_map];rfl
theorem bsl_frz {α:Type} (f:α→List AV) (s:Nat) (hs:0<s) (hf:∀x,(f x).length=s) (L:List α) (j:Nat) (hj:j<L.length) (n:α) (h:List Blk) (x y z:Blk) (cap:Nat) (r:List AV) :
 ((AV.bsl (h.length+3) 0 s true L.length cap).frz (h++[x,y,z,.cells (putAt (L.flatMap f++r) (j*s) (f n))]) h.length).er=.slice (((L.set j n).map fun x=>AV.agg (f x)).map AV.er) .none:=by
 have hg:(h++[x,y,z,Blk.cells (putAt (L.flatMap f++r) (j*s) (f n))])[h.length+3]? = some (.cells ((L.set j n).flatMap f++r)):=by
  rw [List.getElem?_append_right (by omega),show h.length+3 - h.length=3 by omega,cat_put f s hf L j n r hj];rfl
 have hc:=cat_frozen f s hf (L.set j n) r
 rw [List.length_set] at hc
 simp only [AV.frz]
 rw [if_pos (by omega),hg]
 simp only []
 rw [if_pos ⟨by rw [List.length_append,cat_len f s hf,List.length_set];omega,hs,.inl trivial⟩,hc]
 simp only [AV.er,AV.erL_map]
theorem fd_frz (P:Pr) {j:Nat} (hj:j<3) (n:Fde) (h:List Blk) (x y z:Blk) (cap:Nat) (r:List AV) :
 ((AV.agg [.int .i64 P.c.uid,.int .i64 P.c.gid,.slice (P.c.gs.map iV) .none,.int .i64 P.um,.bsl (h.length+3) 0 4 true 3 cap]).frz (h++[x,y,z,.cells (putAt ((fdsL P).flatMap fdC++r) (j*4) (fdC n))]) h.length).er=pV (P.put j n):=by
 have:=bsl_frz fdC 4 (by decide) fdC_len (fdsL P) j hj n h x y z cap r
 rw [fdsL_set P hj,fdsL_len] at this
 simp only [AV.frz] at this
 simp only [AV.frz,AV.frzL,AV.er,AV.erL]
 rw [this,erL_iV]
 rcases (show j=0∨j=1∨j=2 by omega) with rfl | rfl | rfl<;>rfl
theorem with_frz3 (T:Tab) (ps:List Pr) {j:Nat} (hj:j<ps.length) (n:Pr) (h:List Blk) (x y z:Blk) (cap:Nat) (r:List AV) :
 ((AV.agg [.slice ((refL T).map nV) .none,.bsl (h.length+3) 0 5 true ps.length cap]).frz (h++[x,y,z,.cells (putAt (ps.flatMap pvC++r) (j*5) (pvC n))]) h.length).er=sV T (ps.set j n):=by
 have:=bsl_frz pvC 5 (by decide) pvC_len ps j hj n h x y z cap r
 simp only [AV.frz] at this
 simp only [AV.frz,AV.frzL,AV.er,AV.erL]
 rw [this,List.map_map,erL_nV]
 have e:(AV.er∘fun P=>AV.agg (pvC P))=pV:=funext fun P=>congrArg AV.agg (er_pvC P)
 rw [e];rfl
attribute [push_cast] clL_pvC clL_pV erL_fdV er_pvC erL_pV
theorem c97 (P:Pr) (i:Nat) (f:Fde) (h:List Blk) (live:List Nat) (hi:i<3):AC Tryz.prog 97 [pV P,.int .i64 (i:Nat),.agg (fdC f)] h live (pV (P.put i f)):=by
 refine aq_ Tryz.func97 fun hH hX=>?_
 unfold pV pvC
 have hcl:((fdsL P).flatMap fdC).length=12:=rfl
 have hfl:=fdC_len f
 have hpc:=put_c P i f
 have sx:=(And.intro @flat_fdV (And.intro @hcl (And.intro @hfl (And.intro @hpc (And.intro @fdC_len (And.intro @Nat.zero_add sx0))))))
 refine rg_ [1,3,5,6] ?_
 refine rg_ [1,3,5,6,7] ?_
 refine rs_ [1,3,5,6,7] ?_
 refine sg_ ?_
 refine dawp_w rfl rfl rfl rfl (AOp.appendM _ _ _ rfl Ty.makeT_71 (by (simp (disch:=omega) only [push_cast])<;>rfl) (by (simp (disch:=omega) only [push_cast])<;>rfl) (by simp [fdsL_len];try omega) (cells_fdV _) (by simp [fdsL_len];try omega) (by simp [fdsL_len];try omega) ?_)
 intro cap rn
 refine sre_ ?_
 refine rg_ [3,6,7] ?_
 refine rg_ [3,6] ?_
 refine rg_ [6] ?_
 refine ret_ ?_
 refine fz_ (h1:=h) Tryz.results97 (hx:=(fd_frz P hi f h _ _ _ _ _)) (hcl:=(by exact clL_pvC _ _)) (hK:=?_)
 exact rk_ rfl
theorem Ty.makeT_39:makeT Tryz.prog 39=some (5,72,[.int .i64 0,.int .i64 0,.slice [] .full,.int .i64 0,.slice [] .full],true):=by kernel_rfl
theorem c51 (T:Tab) (ps:List Pr) (pid:Nat) (P:Pr) (h:List Blk) (live:List Nat) (hi:pid<ps.length) (hl:ps.length≤1000):AC Tryz.prog 51 [sV T ps,.int .i64 (pid:Nat),pV P] h live (sV T (ps.set pid P)):=by
 refine aq_ Tryz.func51 fun hH hX=>?_
 unfold sV pV
 have hcl:(ps.flatMap pvC).length=ps.length*5:=cat_len pvC 5 pvC_len ps
 have sx:=(And.intro @flat_pV (And.intro @hcl (And.intro @Nat.zero_add sx0)))
 refine rg_ [1,3,5,6] ?_
 refine rg_ [1,3,5,6,7] ?_
 refine rs_ [1,3,5,6,7] ?_
 refine sg_ ?_
 refine dawp_w rfl rfl rfl rfl (AOp.appendM _ _ _ rfl Ty.makeT_39 (by (simp (disch:=omega) only [push_cast])<;>rfl) (by (simp (disch:=omega) only [push_cast])<;>rfl) (by simp [fdsL_len];try omega) (cells_pV _) (by simp [fdsL_len];try omega) (by simp [fdsL_len];try omega) ?_)
 intro cap rn
 refine sre_ ?_
 refine rg_ [3,6,7] ?_
 refine rg_ [6] ?_
 refine ret_ ?_
 refine fz_ (h1:=h) Tryz.results51 (hx:=(with_frz3 T ps hi P h _ _ _ _ _)) (hcl:=(by exact ⟨clL_nV _ _,clL_pV _ _,trivial⟩)) (hK:=?_)
 exact rk_ rfl
theorem c21 (T:Tab) (ps:List Pr) (h:List Blk) (live:List Nat) (hl:ps.length≤1000) (h0:∀P∈ps,∀i,i<3→0≤(P.fd i).node):AC Tryz.prog 21 [sV T ps] h live (.slice ((openL ps).map iV) .none):=by
 refine aq_ Tryz.func21 fun hH hX=>?_
 unfold sV
 have hB:HCl (h++[.cells [.slice ((refL T).map nV) .none,.slice (ps.map pV) .none]]):=HCl.snoc hH (by exact ⟨clL_nV _ _,clL_pV _ _,trivial⟩)
 have hol:=openL_len ps
 have hol2:=fun i=>openL_len (ps.take i)
 have hpo:=fun (P:Pr) j=>prO_len P j
 refine rg_ [1] ?_
 refine rg_ [1,3] ?_
 refine sk_ fun K1 hK1=>?_
 refine rg_ [1,3,4] ?_
 refine awp_block ?_
 refine lp_ (X:={p:Nat×Cap×List Nat // p.1≤ps.length∧CapOK p.2.2 p.2.1∧∀u∈live,u∈p.2.2∧p.2.1≠.own u}) (fun x=>⟨Tryz.f21.ntmps,fget [(1,.ptr h.length 0),(3,.slice ((openL (ps.take x.1.1)).map iV) x.1.2.1),(4,.int .i64 (x.1.1:Nat))],h++[.cells [.slice ((refL T).map nV) .none,.slice (ps.map pV) .none]],x.1.2.2⟩) (fun x=>ps.length - x.1.1) (⟨⟨0,.full,live⟩,Nat.zero_le _,.inl rfl,fun u hu=>⟨hu,Cap.noConfusion⟩⟩) ?_ (fun ⟨⟨i,c,live'⟩,hi,hc,hlv⟩=>?_)
 ·
  try dsimp only
  exact tf_ hB (fun _ h=>h)
 try dsimp only
 dsimp only at hi hc hlv
 refine sk_ fun K2 hK2=>?_
 refine rg_ [1,3,4,10] ?_
 refine cy_ (fun hb1=>?_) (fun hb1=>?_)
 rotate_left
 ·
  simp only [decide_eq_true_eq,decide_eq_false_iff_not,Bool.not_eq_true',Bool.not_eq_false',Bool.or_eq_true,Bool.and_eq_true,Bool.or_eq_false_iff,Bool.and_eq_false_imp,Int.not_lt,Int.not_le,push_cast] at hb1
  have hie:i=ps.length:=by omega
  subst hie
  have htk:ps.take ps.length=ps:=List.take_length
  have sx:=And.intro htk sx
  refine awp_exit (up_ ?_)
  refine hK1 _ ?_
  refine rg_ [2] ?_
  refine ret_ ?_
  refine fq_ Tryz.results21 ?_ (hcl:=(by simp [AV.cl,AV.clL,clL_iV, -List.map_map])) (hl:=(fun u hu=>(hlv u hu).1))
  exact rk_ rfl
 simp only [decide_eq_true_eq,decide_eq_false_iff_not,Bool.not_eq_true',Bool.not_eq_false',Bool.or_eq_true,Bool.and_eq_true,Bool.or_eq_false_iff,Bool.and_eq_false_imp,Int.not_lt,Int.not_le,push_cast] at hb1
 have hil:i<ps.length:=by omega
 obtain ⟨P,hP⟩:∃P,ps[i]=P:=⟨_,rfl⟩
 have hPg:ps.getD i pr0=P:=by rw [List.getD_eq_getElem?_getD,List.getElem?_eq_getElem hil];exact hP
 have hn0:=h0 P (hP▸List.getElem_mem hil)
 have sx:=And.intro hPg sx
 refine skp_ ?_
 refine hK2 _ ?_
 refine sk_ fun K3 hK3=>?_
 refine awp_block ?_
 refine rg_ [1,3,4,5] ?_
 refine awp_block ?_
 refine lp_ (X:={p:Nat×Cap×List Nat // p.1≤3∧CapOK p.2.2 p.2.1∧∀u∈live,u∈p.2.2∧p.2.1≠.own u}) (fun x=>⟨Tryz.f21.ntmps,fget [(1,.ptr h.length 0),(3,.slice ((openL (ps.take i)++prO P x.1.1).map iV) x.1.2.1),(4,.int .i64 (i:Nat)),(5,.int .i64 (x.1.1:Nat))],h++[.cells [.slice ((refL T).map nV) .none,.slice (ps.map pV) .none]],x.1.2.2⟩) (fun x=>3 - x.1.1) (⟨⟨0,c,live'⟩,Nat.zero_le _,hc,hlv⟩) ?_ (fun ⟨⟨j,c2,live2⟩,hj,hc2,hlv2⟩=>?_)
 ·
  try dsimp only
  refine Trunc.of (by first | exact (List.append_nil _).symm | exact rfl | (rw [List.append_assoc];rfl)) ?_ hB (fun _ h=>h)
  refine ftc_ ?_
  refine FTr.cons (by show AV.slice (List.map iV (openL (List.take i ps))) c=_;rw [show prO P 0=[] from rfl,List.append_nil]) (by exact clL_iV _ _) ?_
  refine ftc_ ?_
  refine ftc_ ?_
  exact FTr.nil
 try dsimp only
 dsimp only at hj hc2 hlv2
 refine sk_ fun K4 hK4=>?_
 refine rg_ [1,3,4,5,21] ?_
 refine cy_ (fun hb2=>?_) (fun hb2=>?_)
 rotate_left
 ·
  simp only [decide_eq_true_eq,decide_eq_false_iff_not,Bool.not_eq_true',Bool.not_eq_false',Bool.or_eq_true,Bool.and_eq_true,Bool.or_eq_false_iff,Bool.and_eq_false_imp,Int.not_lt,Int.not_le,push_cast] at hb2
  have hje:j=3:=by omega
  subst hje
  have hos:=openL_succ hil hP
  have sx:=And.intro hos sx
  refine awp_exit (up_ ?_)
  refine hK3 _ ?_
  refine rt_ [1,3,4] ?_
  refine srn_ ?_
  refine ln_ ⟨⟨i+1,c2,live2⟩,by dsimp only;omega,hc2,hlv2⟩ ?_
  try dsimp only
  exact tf_ hB (fun _ h=>h)
 simp only [decide_eq_true_eq,decide_eq_false_iff_not,Bool.not_eq_true',Bool.not_eq_false',Bool.or_eq_true,Bool.and_eq_true,Bool.or_eq_false_iff,Bool.and_eq_false_imp,Int.not_lt,Int.not_le,push_cast] at hb2
 have hj3:j<3:=by omega
 have ha1:=hol2 i
 have ha2:=hpo P j
 rw [List.length_take] at ha1
 have hfd:=fdsL_get P hj3
 have hnk:=hn0 j hj3
 have hfl3:=fdsL_len P
 have sx:=And.intro hfd sx
 refine skp_ ?_
 refine hK4 _ ?_
 refine sk_ fun K5 hK5=>?_
 refine awp_block ?_
 refine rg_ [1,3,4,5,34] ?_
 refine cx_ (fun hb3=>?_) (fun hb3=>?_)
 ·
  have hpr:=prO_y (P:=P) (j:=j) (by omega)
  have sx:=And.intro hpr sx
  refine rt_ [1,3,4,5] ?_
  refine sg_ ?_
  refine ap_ (a:=hc2) (b:=cells_iV _) (c':=by simp [AV.cells]) (d:=by simp;omega) (e:=by simp;omega) (k:=?_)
  intro c47 live47 hk47
  refine srn_ ?_
  refine hK5 _ ?_
  refine rt_ [1,3,4,5] ?_
  refine srn_ ?_
  refine ln_ ⟨⟨j+1,c47,live47⟩,by dsimp only;omega,hk47.1,fun u hu=>hk47.2 u (hlv2 u hu).1 (hlv2 u hu).2⟩ ?_
  try dsimp only
  refine Trunc.of (by first | exact (List.append_nil _).symm | exact rfl | (rw [List.append_assoc];rfl)) ?_ hB (fun _ h=>h)
  refine ftc_ ?_
  refine FTr.cons (by show _=AV.slice (List.map iV (openL (List.take i ps)++prO P (j+1))) _;rw [hpr];first | rfl | (rw [←List.append_assoc,←iV_snoc];rfl)) (by exact clL_iV _ _) ?_
  refine ftc_ ?_
  refine ftc_ ?_
  exact FTr.nil
 have hpr:=prO_n (P:=P) (j:=j) (by omega)
 have sx:=And.intro hpr sx
 refine skp_ ?_
 refine hK5 _ ?_
 refine rt_ [1,3,4,5] ?_
 refine srn_ ?_
 refine ln_ ⟨⟨j+1,c2,live2⟩,by dsimp only;omega,hc2,hlv2⟩ ?_
 try dsimp only
 refine Trunc.of (by first | exact (List.append_nil _).symm | exact rfl | (rw [List.append_assoc];rfl)) ?_ hB (fun _ h=>h)
 refine ftc_ ?_
 refine FTr.cons (by show _=AV.slice (List.map iV (openL (List.take i ps)++prO P (j+1))) _;rw [hpr];first | rfl | (rw [←List.append_assoc,←iV_snoc];rfl)) (by exact clL_iV _ _) ?_
 refine ftc_ ?_
 refine ftc_ ?_
 exact FTr.nil
end Go.Proofs.YtegffmibifodcaaGreat

/-
  THE DOCUMENT: what processes ask, and change.
-/
namespace Go.Proofs.YtegffmibifodcaaGreat
open Go.Ab
set_option maxRecDepth 8000
set_option maxHeartbeats 400000
def cvC (c:Ca):List AV:=[.int .i64 c.kind,.str c.path,.str c.other,.int .i64 c.a,.int .i64 c.b,.str c.data]
def rvC (r:Rs):List AV:=.int .i64 r.err::.int .i64 r.n::(staC r.st++[.str r.text,.slice (r.names.map .str) .none,.str r.data])
theorem clL_rvC (m:Nat) (r:Rs):AV.clL m (rvC r):=⟨trivial,trivial,trivial,trivial,trivial,trivial,trivial,trivial,trivial,trivial,clL_str _ _,trivial,trivial⟩
theorem er_rvC (r:Rs):AV.erL (rvC r)=rvC r:=by
 show AV.int .i64 r.err::.int .i64 r.n::(staC r.st++[.str r.text,(AV.slice (r.names.map .str) .none).er,.str r.data])=_
 simp only [AV.er,erL_strs];rfl
theorem rvC_len (r:Rs):(rvC r).length=12:=rfl
theorem rvC_t (r:Rs):(rvC r).take 12=rvC r:=rfl
theorem rvC_p (a b c0 c1 c2 c3 c4 c5 c6 t n d:AV) (r:Rs):putAt [a,b,c0,c1,c2,c3,c4,c5,c6,t,n,d] 0 (rvC r)=rvC r:=rfl
theorem cvC_len (c:Ca):(cvC c).length=6:=rfl
theorem cvC_0 (c:Ca):(cvC c)[0]? = some (.int .i64 c.kind):=rfl
theorem cvC_1 (c:Ca):(cvC c)[1]? = some (.str c.path):=rfl
theorem cvC_2 (c:Ca):(cvC c)[2]? = some (.str c.other):=rfl
theorem cvC_3 (c:Ca):(cvC c)[3]? = some (.int .i64 c.a):=rfl
theorem cvC_4 (c:Ca):(cvC c)[4]? = some (.int .i64 c.b):=rfl
theorem cvC_5 (c:Ca):(cvC c)[5]? = some (.str c.data):=rfl
theorem cvC_t (c:Ca):(cvC c).take 6=cvC c:=rfl
attribute [push_cast] rvC_len rvC_t rvC_p cvC_len cvC_0 cvC_1 cvC_2 cvC_3 cvC_4 cvC_5 cvC_t
structure DocI (T:Tab) (ps:List Pr):Prop where
 gd:Gd T
 tree:TreeW T (openL ps) []
 len:ps.length≤1000
 gs:∀P∈ps,P.c.gs.length≤1000000
 off:∀P∈ps,∀i,i<3→(P.fd i).off≤9223372036854775807
theorem DocI.node {T:Tab} {ps:List Pr} (hd:DocI T ps):∀P∈ps,∀i,i<3→(P.fd i).node≠0→1≤(P.fd i).node∧(T.get (P.fd i).node).1.kind=1:=fun P hP i hi hn=>by
 obtain ⟨k,hk,e⟩:=List.getElem_of_mem hP
 have hm:(P.fd i).node∈openL ps:=openL_iff.2 ⟨k,hk,i,hi,by rw [e],hn⟩
 have hkd:=hd.tree.fil _ hm
 obtain ⟨j, _,hj, _⟩:=get_isat (get_kind_at (T:=T) (i:=(P.fd i).node) (by omega))
 exact ⟨by omega,hkd⟩
theorem DocI.nn {T:Tab} {ps:List Pr} (hd:DocI T ps):∀P∈ps,∀i,i<3→0≤(P.fd i).node:=fun P hP i hi=>by
 by_cases hn:(P.fd i).node=0
 · omega
 · have:=(hd.node P hP i hi hn).1;omega
theorem DocI.oL {T:Tab} {ps:List Pr} (hd:DocI T ps):(openL ps).length≤1000000:=by
 have:=openL_len ps;have:=hd.len;omega
attribute [push_cast] clL_rvC er_rvC
theorem c47 (T:Tab) (ps:List Pr) (P:Pr) (ca:Ca) (h:List Blk) (live:List Nat) (hd:DocI T ps) (hgs:P.c.gs.length≤1000000) (hpath:ca.path.length≤1000) (hoth:ca.other.length≤1000):AC Tryz.prog 47 [sV T ps,.agg [.int .i64 P.c.uid,.int .i64 P.c.gid,.slice (P.c.gs.map iV) .none],.agg (cvC ca)] h live (.agg (rvC (askF T P ca))):=by
 refine aq_ Tryz.func47 fun hH hX=>?_
 unfold sV
 have hol:=hd.oL
 have sx:=(And.intro @sta_eq sx0)
 refine rg_ [3,4,5,6] ?_
 refine rg_ [3,4,5,6,7] ?_
 refine sk_ fun K1 hK1=>?_
 refine rg_ [3,4,5,6,7,10] ?_
 refine awp_block ?_
 refine rg_ [3,4,5,6,7,10,22] ?_
 refine cx_ (fun hb1=>?_) (fun hb1=>?_)
 ·
  refine rt_ [6,7] ?_
  refine sg_ ?_
  refine cl_ (hc:=c86 T P.c ca.path true (openL ps) _ _ hd.gd.1 hd.gd.2 hd.tree (by omega) (by omega)) (k:=?_)
  refine srn_ ?_
  refine hK1 _ ?_
  refine rg_ [6] ?_
  refine ret_ ?_
  refine fq_ Tryz.results47 ?_
  exact rk_ (by unfold askF;rw [if_pos hb1];rfl)
 refine rg_ [3,4,5,6,7,10,35] ?_
 refine cx_ (fun hb2=>?_) (fun hb2=>?_)
 ·
  refine rt_ [6,7] ?_
  refine sg_ ?_
  refine cl_ (hc:=c86 T P.c ca.path false (openL ps) _ _ hd.gd.1 hd.gd.2 hd.tree (by omega) (by omega)) (k:=?_)
  refine srn_ ?_
  refine hK1 _ ?_
  refine rg_ [6] ?_
  refine ret_ ?_
  refine fq_ Tryz.results47 ?_
  exact rk_ (by unfold askF;rw [if_neg hb1,if_pos hb2];rfl)
 refine rg_ [3,4,5,6,7,48] ?_
 refine cx_ (fun hb3=>?_) (fun hb3=>?_)
 ·
  refine rt_ [6,7] ?_
  refine sg_ ?_
  refine cl_ (hc:=c87 T P.c ca.path (openL ps) _ _ hd.gd.1 hd.gd.2 hd.tree (by omega) (by omega)) (k:=?_)
  refine srn_ ?_
  refine hK1 _ ?_
  refine rg_ [6] ?_
  refine ret_ ?_
  refine fq_ Tryz.results47 ?_
  exact rk_ (by unfold askF;rw [if_neg hb1,if_neg hb2,if_pos hb3];rfl)
 refine rt_ [6,7] ?_
 refine sg_ ?_
 refine cl_ (hc:=c88 T P.c ca.path (openL ps) _ _ hd.gd.1 hd.gd.2 hd.tree (by omega) (by omega)) (k:=?_)
 refine srn_ ?_
 refine hK1 _ ?_
 refine rg_ [6] ?_
 refine ret_ ?_
 refine fq_ Tryz.results47 ?_
 exact rk_ (by unfold askF;rw [if_neg hb1,if_neg hb2,if_neg hb3];rfl)
theorem c48 (T:Tab) (ps:List Pr) (P:Pr) (ca:Ca) (h:List Blk) (live:List Nat) (hd:DocI T ps) (hgs:P.c.gs.length≤1000000) (hpath:ca.path.length≤1000) (hoth:ca.other.length≤1000) (hk:5≤ca.kind∧ca.kind≤12):AC Tryz.prog 48 [sV T ps,pV P,.agg (cvC ca)] h live (.tup [sV (chaF T P ca (openL ps)).2 ps,.agg (rvC (tol (chaF T P ca (openL ps)).1))]):=by
 refine aq_ Tryz.func48 fun hH hX=>?_
 unfold sV
 have hol:=hd.oL
 rw [←pV_eq P]
 have sx:=(And.intro @tV_cells sx0)
 refine rg_ [3,4,5,6,7] ?_
 refine rg_ [3,4,5,6,7,8] ?_
 refine rg_ [3,4,5,6,7,8] ?_
 refine sk_ fun K1 hK1=>?_
 refine rg_ [3,4,5,6,7,8,13] ?_
 refine awp_block ?_
 refine rg_ [3,4,5,6,7,8,13,27] ?_
 refine cx_ (fun hb1=>?_) (fun hb1=>?_)
 ·
  refine rt_ [3,6,7,8,9] ?_
  refine sg_ ?_
  refine cl_ (hc:=c89 T P.c ca.path ca.a (openL ps) _ _ hd.gd.1 hd.gd.2 hd.tree (by omega) (by omega)) (k:=?_)
  refine srn_ ?_
  refine hK1 _ ?_
  refine rg_ [3,6,7,9] ?_
  refine rg_ [6,7] ?_
  refine ret_ ?_
  refine fq_ Tryz.results48 ?_
  exact rk_ (by unfold chaF;rw [if_pos hb1];rfl)
 refine rg_ [3,4,5,6,7,8,13,40] ?_
 refine cx_ (fun hb2=>?_) (fun hb2=>?_)
 ·
  refine rt_ [3,6,7,8,9] ?_
  refine sg_ ?_
  refine cl_ (hc:=c90 T P.c ca.path ca.a ca.b true (openL ps) _ _ hd.gd.1 hd.gd.2 hd.tree (by omega) (by omega)) (k:=?_)
  refine srn_ ?_
  refine hK1 _ ?_
  refine rg_ [3,6,7,9] ?_
  refine rg_ [6,7] ?_
  refine ret_ ?_
  refine fq_ Tryz.results48 ?_
  exact rk_ (by unfold chaF;rw [if_neg (by omega),if_neg (by omega),if_neg (by omega),if_neg (by omega),if_neg (by omega),if_neg (by omega),decide_eq_true hb2];rfl)
 refine rg_ [3,4,5,6,7,8,13,55] ?_
 refine cx_ (fun hb3=>?_) (fun hb3=>?_)
 ·
  refine rt_ [3,6,7,8,9] ?_
  refine sg_ ?_
  refine cl_ (hc:=c90 T P.c ca.path ca.a ca.b false (openL ps) _ _ hd.gd.1 hd.gd.2 hd.tree (by omega) (by omega)) (k:=?_)
  refine srn_ ?_
  refine hK1 _ ?_
  refine rg_ [3,6,7,9] ?_
  refine rg_ [6,7] ?_
  refine ret_ ?_
  refine fq_ Tryz.results48 ?_
  exact rk_ (by unfold chaF;rw [if_neg (by omega),if_neg (by omega),if_neg (by omega),if_neg (by omega),if_neg (by omega),if_neg (by omega),decide_eq_false hb2];rfl)
 refine rg_ [3,4,5,6,7,8,13,70] ?_
 refine cx_ (fun hb4=>?_) (fun hb4=>?_)
 ·
  refine rt_ [3,6,7,8,9] ?_
  refine sg_ ?_
  refine cl_ (hc:=c91 T P.c P.um ca.path ca.a _ _ hd.gd.1 hd.gd.2 (by omega) (by omega)) (k:=?_)
  refine srn_ ?_
  refine hK1 _ ?_
  refine rg_ [3,6,7,9] ?_
  refine rg_ [6,7] ?_
  refine ret_ ?_
  refine fq_ Tryz.results48 ?_
  exact rk_ (by unfold chaF;rw [if_neg (by omega),if_pos hb4];rfl)
 refine rg_ [3,4,5,6,7,8,13,85] ?_
 refine cx_ (fun hb5=>?_) (fun hb5=>?_)
 ·
  refine rt_ [3,6,7,8,9] ?_
  refine sg_ ?_
  refine cl_ (hc:=c92 T P.c ca.other ca.path _ _ hd.gd.1 hd.gd.2 (by omega) (by omega) (by omega)) (k:=?_)
  refine srn_ ?_
  refine hK1 _ ?_
  refine rg_ [3,6,7,9] ?_
  refine rg_ [6,7] ?_
  refine ret_ ?_
  refine fq_ Tryz.results48 ?_
  exact rk_ (by unfold chaF;rw [if_neg (by omega),if_neg (by omega),if_pos hb5];rfl)
 refine rg_ [3,4,5,6,7,8,13,98] ?_
 refine cx_ (fun hb6=>?_) (fun hb6=>?_)
 ·
  refine rtq_ [3,6,7,8,9] ⟨true,[],[],[],[],[],0⟩ (fun _=>⟨by kernel_rfl,by kernel_rfl⟩) ?_
  refine sg_ ?_
  refine cr_ (hc:=c21 T ps _ _ hd.len hd.nn) (k:=?_)
  refine cr_ (hc:=c93 T P.c ca.path (openL ps) _ _ hd.gd.1 hd.gd.2 (by omega) (by omega) hol) (k:=?_)
  refine srn_ ?_
  refine hK1 _ ?_
  refine rg_ [3,6,7,9] ?_
  refine rg_ [6,7] ?_
  refine ret_ ?_
  refine fq_ Tryz.results48 ?_
  exact rk_ (by unfold chaF;rw [if_neg (by omega),if_neg (by omega),if_neg (by omega),if_pos hb6];rfl)
 refine rg_ [3,4,5,6,7,8,111] ?_
 refine cx_ (fun hb7=>?_) (fun hb7=>?_)
 ·
  refine rt_ [3,6,7,8,9] ?_
  refine sg_ ?_
  refine cl_ (hc:=c94 T P.c ca.path _ _ hd.gd.1 hd.gd.2 (by omega) (by omega)) (k:=?_)
  refine srn_ ?_
  refine hK1 _ ?_
  refine rg_ [3,6,7,9] ?_
  refine rg_ [6,7] ?_
  refine ret_ ?_
  refine fq_ Tryz.results48 ?_
  exact rk_ (by unfold chaF;rw [if_neg (by omega),if_neg (by omega),if_neg (by omega),if_neg (by omega),if_pos hb7];rfl)
 refine rtq_ [3,6,7,8,9] ⟨true,[],[],[],[],[],0⟩ (fun _=>⟨by kernel_rfl,by kernel_rfl⟩) ?_
 refine sg_ ?_
 refine cr_ (hc:=c21 T ps _ _ hd.len hd.nn) (k:=?_)
 refine cr_ (hc:=c95 T P.c ca.path ca.other (openL ps) _ _ hd.gd.1 hd.gd.2 (by omega) (by omega) (by omega) hol) (k:=?_)
 refine srn_ ?_
 refine hK1 _ ?_
 refine rg_ [3,6,7,9] ?_
 refine rg_ [6,7] ?_
 refine ret_ ?_
 refine fq_ Tryz.results48 ?_
 exact rk_ (by unfold chaF;rw [if_neg (by omega),if_neg (by omega),if_neg (by omega),if_neg (by omega),if_neg (by omega),if_pos (show ca.kind=12 by omega)];rfl)
end Go.Proofs.YtegffmibifodcaaGreat

/-
  THE DOCUMENT: files opened, and closed, by processes.
-/
namespace Go.Proofs.YtegffmibifodcaaGreat
open Go.Ab
set_option maxRecDepth 8000
set_option maxHeartbeats 400000
def NN (ps:List Pr):Prop:=∀P∈ps,∀i,i<3→0≤(P.fd i).node
theorem NN.put {ps:List Pr} (h:NN ps) {pid:Nat} {P:Pr} (hP:∀i,i<3→0≤(P.fd i).node) (i:Nat) (hi:i<3) (f:Fde) (hf:0≤f.node):NN (ps.set pid (P.put i f)):=fun Q hQ k hk=>by
 rcases List.mem_or_eq_of_mem_set hQ with h1 | rfl
 · exact h Q h1 k hk
 ·
  by_cases e:k=i
  · subst e;rw [fd_put_same P f hi];exact hf
  · rw [fd_put_ne P f hi hk e];exact hP k hk
theorem pr_getD {ps:List Pr} {pid:Nat} {P:Pr} (hp:pid<ps.length) (hP:ps[pid]=P):ps.getD pid pr0=P:=by
 rw [List.getD_eq_getElem?_getD,List.getElem?_eq_getElem hp];exact hP
theorem pr_self {ps:List Pr} {pid:Nat} {P:Pr} (hp:pid<ps.length) (hP:ps[pid]=P):ps.set pid P=ps:=by
 subst hP;exact List.set_getElem_self hp
theorem fdC_s1 (f:Fde) (b:Int):(fdC f).set 1 (.int .i64 b)=fdC ⟨f.node,b,f.rd,f.wr⟩:=rfl
theorem sV_cells (T:Tab) (ps:List Pr):(sV T ps).cells=[.slice ((refL T).map nV) .none,.slice (ps.map pV) .none]:=rfl
theorem fdC_0 (f:Fde):(fdC f)[0]? = some (.int .i64 f.node):=rfl
theorem fdC_1 (f:Fde):(fdC f)[1]? = some (.int .i64 f.off):=rfl
theorem fdC_2 (f:Fde):(fdC f)[2]? = some (.bool f.rd):=rfl
theorem fdC_3 (f:Fde):(fdC f)[3]? = some (.bool f.wr):=rfl
theorem pvC_p (a b c d e:AV) (P:Pr):putAt [a,b,c,d,e] 0 (pvC P)=pvC P:=rfl
theorem pvC_s3 (P:Pr) (m:Int):(pvC P).set 3 (.int .i64 m)=pvC ⟨P.c,m,P.f0,P.f1,P.f2⟩:=rfl
attribute [push_cast] fdC_s1 sV_cells fdC_0 fdC_1 fdC_2 fdC_3 pvC_p pvC_s3
theorem c52 (T:Tab) (ps:List Pr) (pid:Nat) (P:Pr) (hpid:pid<ps.length) (hP:ps[pid]=P) (h:List Blk) (live:List Nat) (hT:T.Ok) (hl:ps.length≤1000) (hn:NN ps) (i:Nat) (hi:i<3):AC Tryz.prog 52 [sV T ps,.int .i64 (pid:Nat),.int .i64 (i:Nat)] h live (sV (freeF T (P.fd i).node (openL (ps.set pid (P.put i fd0)))).2 (ps.set pid (P.put i fd0))):=by
 refine aq_ Tryz.func52 fun hH hX=>?_
 unfold sV
 have hPg:=pr_getD hpid hP
 have hfl3:=fdsL_len P
 have hfg:=fdsL_get P hi
 have hnn:=NN.put hn (hn P (hP▸List.getElem_mem hpid)) i hi fd0 (Int.le_refl 0) (pid:=pid)
 have hol:=openL_len (ps.set pid (P.put i fd0))
 have hsl:(ps.set pid (P.put i fd0)).length=ps.length:=List.length_set ..
 obtain ⟨ps',hps'⟩:∃ps',ps.set pid (P.put i fd0)=ps':=⟨_,rfl⟩
 rw [hps'] at hnn hol hsl ⊢
 have sx:=(And.intro @hPg (And.intro @hfg sx0))
 refine rg_ [1,2,3,6] ?_
 refine rg_ [1,2,3,6,7] ?_
 refine rsq_ [3,6,7] ⟨true,[],[],[],[],[],0⟩ (fun _=>⟨by kernel_rfl,by kernel_rfl⟩) ?_
 refine sg_ ?_
 refine cr_ (hc:=c97 P i fd0 _ _ hi) (k:=?_)
 refine cr_ (hc:=(hps'▸c51 T ps pid (P.put i fd0) _ _ hpid hl)) (k:=?_)
 refine sre_ ?_
 refine rsq_ [3,6,8] ⟨false,[(h.length,0,.agg 1),(h.length,0,.agg 2)],[33,35],[],[8],[36,37],h.length⟩ (fun _=>⟨by kernel_rfl,by kernel_rfl⟩) ?_
 refine sg_ ?_
 refine df_ ?_
 refine sg_ ?_
 refine df_ ?_
 refine ds_ (hc:=fun h' l' hs=>c21 T ps' _ _ (by omega) hnn) (k:=?_)
 refine ds_ (hc:=fun h' l' hs=>c101 T _ _ _ _ hT (by omega)) (k:=?_)
 refine sg_ ?_
 refine dga_ ?_
 refine sre_ ?_
 refine rg_ [3,6] ?_
 refine rg_ [6] ?_
 refine ret_ ?_
 refine fq_ Tryz.results52 ?_ (hcl:=(by exact ⟨clL_nV _ _,clL_pV _ _,trivial⟩))
 exact rk_ rfl
end Go.Proofs.YtegffmibifodcaaGreat

/-
  THE DOCUMENT: files opened by processes.
-/
namespace Go.Proofs.YtegffmibifodcaaGreat
open Go.Ab
set_option maxRecDepth 8000
set_option maxHeartbeats 400000
theorem openF_flags {T:Tab} {c:Cr} {um:Int} {p:List UInt8} {f m:Int} (h:(openF T c um p f m).1.2=0):flagsF f=true:=by
 cases hf:flagsF f with
 | true=>rfl
 | false=>unfold openF at h;rw [if_pos hf] at h;cases h
theorem opn_bad {T:Tab} (hT:Gd T) {P:Pr} {ca:Ca} {i:Nat} (h:(openF T P.c P.um ca.path ca.a ca.b).1.2≠0):opnAt T P ca i=(tol (openF T P.c P.um ca.path ca.a ca.b).1.2,T,P):=by
 unfold opnAt;rw [if_pos h,openF_bad hT h]
theorem opn_good {T:Tab} {P:Pr} {ca:Ca} {i:Nat} (h:(openF T P.c P.um ca.path ca.a ca.b).1.2=0):opnAt T P ca i=(⟨0,i,sta0,[],[],[]⟩,(openF T P.c P.um ca.path ca.a ca.b).2,P.put i ⟨(openF T P.c P.um ca.path ca.a ca.b).1.1,0,hasF ca.a 1,hasF ca.a 2⟩):=by
 unfold opnAt;rw [if_neg (fun k=>k h)]
theorem c49 (T:Tab) (ps:List Pr) (pid:Nat) (P:Pr) (hpid:pid<ps.length) (hP:ps[pid]=P) (ca:Ca) (h:List Blk) (live:List Nat) (hd:DocI T ps) (hpath:ca.path.length≤1000):AC Tryz.prog 49 [sV T ps,.int .i64 (pid:Nat),.agg (cvC ca)] h live (.tup [sV (opnF T P ca).2.1 (ps.set pid (opnF T P ca).2.2),.agg (rvC (opnF T P ca).1)]):=by
 refine aq_ Tryz.func49 fun hH hX=>?_
 unfold sV
 have hPg:=pr_getD hpid hP
 have hPs:=pr_self hpid hP
 have hfl3:=fdsL_len P
 have hPm:P∈ps:=hP▸List.getElem_mem hpid
 have hnP:=hd.nn P hPm
 have hgs:=hd.gs P hPm
 have hB:HCl (h++[.cells [.slice ((refL T).map nV) .none,.slice (ps.map pV) .none],.cells (cvC ca),.cells [.slice [] .full,.slice [] .full],.cells [.int .i64 0,.int .i64 0,.int .i64 0,.int .i64 0,.int .i64 0,.int .i64 0,.int .i64 0,.int .i64 0,.int .i64 0,.str [],.slice [] .full,.str []],.cells (pvC P)]):=by
  have:=(((((HCl.snoc hH (b:=.cells [.slice ((refL T).map nV) .none,.slice (ps.map pV) .none]) (by exact ⟨clL_nV _ _,clL_pV _ _,trivial⟩)).snoc (b:=.cells (cvC ca)) (by simp [cvC,Blk.cl,AV.cl,AV.clL])).snoc (b:=.cells [.slice [] .full,.slice [] .full]) (by simp [Blk.cl,AV.cl,AV.clL])).snoc (b:=.cells [.int .i64 0,.int .i64 0,.int .i64 0,.int .i64 0,.int .i64 0,.int .i64 0,.int .i64 0,.int .i64 0,.int .i64 0,.str [],.slice [] .full,.str []]) (by simp [Blk.cl,AV.cl,AV.clL])).snoc (b:=.cells (pvC P)) (clL_pvC _ _))
  simp only [List.append_assoc] at this;exact this
 have sx:=(And.intro @hPg sx0)
 refine rg_ [1,3,5,6,7] ?_
 refine rg_ [1,3,5,6,7,8] ?_
 refine sk_ fun K1 hK1=>?_
 refine rg_ [1,3,5,6,7,8,9] ?_
 refine awp_block ?_
 refine lp_ (X:={i:Nat // i≤3∧∀j,j<i→(P.fd j).node≠0}) (fun x=>⟨Tryz.f49.ntmps,fget [(1,.int .i64 (pid:Nat)),(3,.ptr h.length 0),(5,.ptr (h.length+1) 0),(6,.ptr (h.length+2) 0),(7,.ptr (h.length+3) 0),(8,.ptr (h.length+4) 0),(9,.int .i64 (x.1:Nat))],h++[.cells [.slice ((refL T).map nV) .none,.slice (ps.map pV) .none],.cells (cvC ca),.cells [.slice [] .full,.slice [] .full],.cells [.int .i64 0,.int .i64 0,.int .i64 0,.int .i64 0,.int .i64 0,.int .i64 0,.int .i64 0,.int .i64 0,.int .i64 0,.str [],.slice [] .full,.str []],.cells (pvC P)],live⟩) (fun x=>3 - x.1) (⟨0,by omega,fun j hj=>by omega⟩) ?_ (fun ⟨i,hi,hb⟩=>?_)
 ·
  try dsimp only
  exact tf_ hB (fun _ h=>h)
 try dsimp only
 refine sk_ fun K2 hK2=>?_
 refine rg_ [1,3,5,6,7,8,9,19] ?_
 refine cx_ (fun hb1=>?_) (fun hb1=>?_)
 rotate_left
 ·
  have hie:i=3:=by omega
  subst hie
  have hno:=opnF_no (T:=T) (ca:=ca) hb
  refine awp_exit (up_ ?_)
  refine hK1 _ ?_
  refine rg_ [6,7] ?_
  refine ret_ ?_
  refine fq_ Tryz.results49 ?_
  exact rk_ (by rw [hno,hPs];rfl)
 have hi3:i<3:=by omega
 have hfg:=fdsL_get P hi3
 have hnn:=hnP i hi3
 have sx:=And.intro hfg sx
 refine skp_ ?_
 refine hK2 _ ?_
 refine sk_ fun K3 hK3=>?_
 refine awp_block ?_
 refine sk_ fun K4 hK4=>?_
 refine rg_ [1,3,5,6,7,8,9,28] ?_
 refine cx_ (fun hb2=>?_) (fun hb2=>?_)
 ·
  refine awp_exit (up_ ?_)
  refine hK3 _ ?_
  refine rt_ [1,3,5,6,7,8,9] ?_
  refine srn_ ?_
  refine ln_ ⟨i+1,by omega,fun j hj=>by rcases Nat.lt_succ_iff_lt_or_eq.1 hj with h | h;exact hb j h;subst h;omega⟩ ?_
  try dsimp only
  exact tf_ hB (fun _ h=>h)
 have hz:(P.fd i).node=0:=by omega
 have hat:=opnF_at (T:=T) (ca:=ca) hi3 hb hz
 refine skp_ ?_
 refine hK4 _ ?_
 refine rs_ [1,3,5,6,7,8,9,10,11,12] ?_
 refine sg_ ?_
 refine cl_ (hc:=c96 T P.c P.um ca.path ca.a ca.b (openL ps) _ _ hd.gd.1 hd.gd.2 hd.tree (by omega) (by omega)) (k:=?_)
 refine sre_ ?_
 refine sk_ fun K5 hK5=>?_
 refine rg_ [1,3,5,6,7,8,9,10,11,12,47] ?_
 refine cx_ (fun hb3=>?_) (fun hb3=>?_)
 ·
  rw [opn_bad hd.gd hb3] at hat
  refine rg_ [6,7] ?_
  refine ret_ ?_
  refine fq_ Tryz.results49 ?_
  exact rk_ (by rw [hat,hPs];rfl)
 rw [opn_good hb3] at hat
 obtain ⟨a,hfa,ha6,hab⟩:=flags_y (openF_flags hb3)
 have ha4:a<4096:=by omega
 obtain ⟨e1,e2, _⟩:=has_fin ⟨a,ha6⟩
 have e1':hasF ca.a 1=bitN a 0:=by rw [hfa];exact e1
 have e2':hasF ca.a 2=bitN a 1:=by rw [hfa];exact e2
 rw [e1',e2'] at hat
 have sx:=And.intro hfa sx
 obtain ⟨ps',hps'⟩:∃ps',ps.set pid (P.put i ⟨(openF T P.c P.um ca.path ca.a ca.b).1.1,0,bitN a 0,bitN a 1⟩)=ps':=⟨_,rfl⟩
 refine skp_ ?_
 refine hK5 _ ?_
 refine rsq_ [3,6,7,9,10] ⟨true,[],[],[],[],[],0⟩ (fun _=>⟨by kernel_rfl,by kernel_rfl⟩) ?_
 refine sg_ ?_
 refine cr_ (hc:=c98 a 0 _ _ ha4 (by omega)) (k:=?_)
 refine sg_ ?_
 refine cr_ (hc:=c98 a 1 _ _ ha4 (by omega)) (k:=?_)
 refine sg_ ?_
 refine cr_ (hc:=c97 P i ⟨(openF T P.c P.um ca.path ca.a ca.b).1.1,0,bitN a 0,bitN a 1⟩ _ _ hi3) (k:=?_)
 refine cr_ (hc:=(hps'▸c51 T ps pid _ _ _ hpid hd.len)) (k:=?_)
 refine sre_ ?_
 refine rg_ [3,6,7,9] ?_
 refine rg_ [6,7] ?_
 refine ret_ ?_
 refine fq_ Tryz.results49 ?_
 exact rk_ (by rw [hat,hps',hfa];rfl)
end Go.Proofs.YtegffmibifodcaaGreat

/-
  THE DOCUMENT: what processes read, write, and close.
-/
namespace Go.Proofs.YtegffmibifodcaaGreat
open Go.Ab
set_option maxRecDepth 8000
set_option maxHeartbeats 400000
def datF (T:Tab) (ps:List Pr) (pid:Nat) (P:Pr) (ca:Ca):Rs×Tab×Pr:=
 if ca.kind=14 then ((redF T P ca).1,T,(redF T P ca).2) else if ca.kind=15 then wriF T P ca else shutF T ps pid P ca.a
theorem datF_out {T:Tab} {ps:List Pr} {pid:Nat} {P:Pr} {ca:Ca} (h:ca.a<0∨3≤ca.a):datF T ps pid P ca=(tol 9,T,P):=by
 have h1:redF T P ca=(tol 9,P):=if_pos (.inl h)
 have h2:wriF T P ca=(tol 9,T,P):=if_pos (.inl h)
 have h3:shutF T ps pid P ca.a=(tol 9,T,P):=if_pos (.inl h)
 unfold datF
 rw [h1,h2,h3]
 split
 · rfl
 · split<;>rfl
theorem datF_bad {T:Tab} {ps:List Pr} {pid:Nat} {P:Pr} {ca:Ca} {i:Nat} (ha:ca.a=(i:Int)) (hi:i<3) (hk:ca.kind=14∨ca.kind=15∨ca.kind=16) (h:(P.fd i).node=0∨(ca.kind=14∧(P.fd i).rd=false)∨(ca.kind=15∧(P.fd i).wr=false)):datF T ps pid P ca=(tol 9,T,P):=by
 unfold datF
 rw [redF_y ha hi,wriF_y ha hi,shutF_y ha hi]
 rcases hk with k | k | k
 · rw [if_pos k,if_pos (by rcases h with h | h | h;exact .inl h;exact .inr h.2;omega)]
 · rw [if_neg (by omega),if_pos k,if_pos (by rcases h with h | h | h;exact .inl h;omega;exact .inr h.2)]
 · rw [if_neg (by omega),if_neg (by omega),if_pos (by rcases h with h | h | h;exact h;omega;omega)]
theorem datF_shut {T:Tab} {ps:List Pr} {pid:Nat} {P:Pr} {ca:Ca} {i:Nat} (ha:ca.a=(i:Int)) (hi:i<3) (hk:ca.kind=16) (h:(P.fd i).node≠0):datF T ps pid P ca=(tol 0,(freeF T (P.fd i).node (openL (ps.set pid (P.put i fd0)))).2,P.put i fd0):=by
 unfold datF
 rw [if_neg (by omega),if_neg (by omega),shutF_y ha hi,if_neg h]
theorem datF_read {T:Tab} {ps:List Pr} {pid:Nat} {P:Pr} {ca:Ca} {i:Nat} (ha:ca.a=(i:Int)) (hi:i<3) (hk:ca.kind=14) (h:¬((P.fd i).node=0∨(P.fd i).rd=false)):datF T ps pid P ca=(⟨(readF T (P.fd i).node (P.fd i).off ca.b).2,0,sta0,[],[],(readF T (P.fd i).node (P.fd i).off ca.b).1⟩,T,
 P.put i ⟨(P.fd i).node,IntKind.i64.wrap ((P.fd i).off+(readF T (P.fd i).node (P.fd i).off ca.b).1.length),(P.fd i).rd,(P.fd i).wr⟩):=by
 unfold datF
 rw [if_pos hk,redF_y ha hi,if_neg h]
theorem datF_we {T:Tab} {ps:List Pr} {pid:Nat} {P:Pr} {ca:Ca} {i:Nat} (ha:ca.a=(i:Int)) (hi:i<3) (hk:ca.kind=15) (h:¬((P.fd i).node=0∨(P.fd i).wr=false)) (he:(writeAtF T P.c (P.fd i).node (P.fd i).off ca.data).1≠0):datF T ps pid P ca=(tol (writeAtF T P.c (P.fd i).node (P.fd i).off ca.data).1,T,P):=by
 unfold datF
 rw [if_neg (by omega),if_pos hk,wriF_y ha hi,if_neg h,if_pos he,writeAtF_bad he]
theorem datF_wy {T:Tab} {ps:List Pr} {pid:Nat} {P:Pr} {ca:Ca} {i:Nat} (ha:ca.a=(i:Int)) (hi:i<3) (hk:ca.kind=15) (h:¬((P.fd i).node=0∨(P.fd i).wr=false)) (he:(writeAtF T P.c (P.fd i).node (P.fd i).off ca.data).1=0):datF T ps pid P ca=(⟨0,ca.data.length,sta0,[],[],[]⟩,(writeAtF T P.c (P.fd i).node (P.fd i).off ca.data).2,
 P.put i ⟨(P.fd i).node,IntKind.i64.wrap ((P.fd i).off+ca.data.length),(P.fd i).rd,(P.fd i).wr⟩):=by
 unfold datF
 rw [if_neg (by omega),if_pos hk,wriF_y ha hi,if_neg h,if_neg (fun k=>k he)]
theorem n50 (T:Tab) (ps:List Pr) (pid:Nat) (P:Pr) (hpid:pid<ps.length) (hP:ps[pid]=P) (ca:Ca) (h:List Blk) (live:List Nat) (hi:ca.a<0∨3≤ca.a):AC Tryz.prog 50 [sV T ps,.int .i64 (pid:Nat),.agg (cvC ca)] h live (.tup [sV (datF T ps pid P ca).2.1 (ps.set pid (datF T ps pid P ca).2.2),.agg (rvC (datF T ps pid P ca).1)]):=by
 refine aq_ Tryz.func50 fun hH hX=>?_
 unfold sV
 have hPg:=pr_getD hpid hP
 have hPs:=pr_self hpid hP
 have hda:=datF_out (T:=T) (ps:=ps) (pid:=pid) (P:=P) (ca:=ca) hi
 have sx:=(And.intro @hPg sx0)
 refine rg_ [1,3,5,6,7] ?_
 refine rg_ [1,3,5,6,7,8] ?_
 refine sk_ fun K1 hK1=>?_
 refine rs_ [1,3,5,6,7,8,66] ?_
 refine dp_ ?_
 refine dh_ ?_
 refine dp_ ?_
 refine dp_ ?_
 refine dg_ ?_
 refine dgh_ ?_
 refine dg_ ?_
 refine dp_ ?_
 refine dp_ ?_
 refine dg_ ?_
 refine dgh_ ?_
 refine dg_ ?_
 refine dgh_ ?_
 iterate 2 (refine dawp_g rfl rfl (by simp only [push_cast,↓reduceIte,Nat.reduceEqDiff,Nat.reduceAdd,Nat.reduceLeDiff,sx];rfl) (fun hg=>by first | (refine (show _=some (AV.tup []) from ?_);exfalso;have hg2:=hg;simp only [Bool.not_eq_true',Bool.and_eq_true,Bool.or_eq_false_iff,decide_eq_false_iff_not,decide_eq_true_eq,decide_eq_false_iff_not,Bool.not_eq_true',Bool.not_eq_false',Bool.or_eq_true,Bool.and_eq_true,Bool.or_eq_false_iff,Bool.and_eq_false_imp,Int.not_lt,Int.not_le] at hg2;omega) | (refine (show _=some (AV.tup [], _) from ?_);exfalso;have hg2:=hg;simp only [Bool.not_eq_true',Bool.and_eq_true,Bool.or_eq_false_iff,decide_eq_false_iff_not,decide_eq_true_eq,decide_eq_false_iff_not,Bool.not_eq_true',Bool.not_eq_false',Bool.or_eq_true,Bool.and_eq_true,Bool.or_eq_false_iff,Bool.and_eq_false_imp,Int.not_lt,Int.not_le] at hg2;omega) | simp (disch:=omega) only [hg,push_cast,↓reduceIte,Nat.reduceEqDiff,Nat.reduceAdd,Nat.reduceLeDiff,sx];rfl) rfl rfl ?_)
 refine dawp_gh rfl rfl (by simp only [push_cast,↓reduceIte,Nat.reduceEqDiff,Nat.reduceAdd,Nat.reduceLeDiff,sx];rfl) (fun hg=>by first | (refine (show _=some (AV.int .i64 0) from ?_);exfalso;have hg2:=hg;simp only [Bool.not_eq_true',Bool.and_eq_true,Bool.or_eq_false_iff,decide_eq_false_iff_not,decide_eq_true_eq,decide_eq_false_iff_not,Bool.not_eq_true',Bool.not_eq_false',Bool.or_eq_true,Bool.and_eq_true,Bool.or_eq_false_iff,Bool.and_eq_false_imp,Int.not_lt,Int.not_le] at hg2;omega) | (refine (show _=some (AV.int .i64 0, _) from ?_);exfalso;have hg2:=hg;simp only [Bool.not_eq_true',Bool.and_eq_true,Bool.or_eq_false_iff,decide_eq_false_iff_not,decide_eq_true_eq,decide_eq_false_iff_not,Bool.not_eq_true',Bool.not_eq_false',Bool.or_eq_true,Bool.and_eq_true,Bool.or_eq_false_iff,Bool.and_eq_false_imp,Int.not_lt,Int.not_le] at hg2;omega) | simp (disch:=omega) only [hg,push_cast,↓reduceIte,Nat.reduceEqDiff,Nat.reduceAdd,Nat.reduceLeDiff,sx];rfl) rfl rfl ?_
 refine dg_ ?_
 refine dp_ ?_
 refine dp_ ?_
 refine dg_ ?_
 refine dgh_ ?_
 refine dg_ ?_
 refine dg_ ?_
 refine dg_ ?_
 refine dgh_ ?_
 refine dg_ ?_
 refine dgh_ ?_
 iterate 2 (refine dawp_g rfl rfl (by simp only [push_cast,↓reduceIte,Nat.reduceEqDiff,Nat.reduceAdd,Nat.reduceLeDiff,sx];rfl) (fun hg=>by first | (refine (show _=some (AV.tup []) from ?_);exfalso;have hg2:=hg;simp only [Bool.not_eq_true',Bool.and_eq_true,Bool.or_eq_false_iff,decide_eq_false_iff_not,decide_eq_true_eq,decide_eq_false_iff_not,Bool.not_eq_true',Bool.not_eq_false',Bool.or_eq_true,Bool.and_eq_true,Bool.or_eq_false_iff,Bool.and_eq_false_imp,Int.not_lt,Int.not_le] at hg2;omega) | (refine (show _=some (AV.tup [], _) from ?_);exfalso;have hg2:=hg;simp only [Bool.not_eq_true',Bool.and_eq_true,Bool.or_eq_false_iff,decide_eq_false_iff_not,decide_eq_true_eq,decide_eq_false_iff_not,Bool.not_eq_true',Bool.not_eq_false',Bool.or_eq_true,Bool.and_eq_true,Bool.or_eq_false_iff,Bool.and_eq_false_imp,Int.not_lt,Int.not_le] at hg2;omega) | simp (disch:=omega) only [hg,push_cast,↓reduceIte,Nat.reduceEqDiff,Nat.reduceAdd,Nat.reduceLeDiff,sx];rfl) rfl rfl ?_)
 refine dawp_gh rfl rfl (by simp only [push_cast,↓reduceIte,Nat.reduceEqDiff,Nat.reduceAdd,Nat.reduceLeDiff,sx];rfl) (fun hg=>by first | (refine (show _=some (AV.bool false) from ?_);exfalso;have hg2:=hg;simp only [Bool.not_eq_true',Bool.and_eq_true,Bool.or_eq_false_iff,decide_eq_false_iff_not,decide_eq_true_eq,decide_eq_false_iff_not,Bool.not_eq_true',Bool.not_eq_false',Bool.or_eq_true,Bool.and_eq_true,Bool.or_eq_false_iff,Bool.and_eq_false_imp,Int.not_lt,Int.not_le] at hg2;omega) | (refine (show _=some (AV.bool false, _) from ?_);exfalso;have hg2:=hg;simp only [Bool.not_eq_true',Bool.and_eq_true,Bool.or_eq_false_iff,decide_eq_false_iff_not,decide_eq_true_eq,decide_eq_false_iff_not,Bool.not_eq_true',Bool.not_eq_false',Bool.or_eq_true,Bool.and_eq_true,Bool.or_eq_false_iff,Bool.and_eq_false_imp,Int.not_lt,Int.not_le] at hg2;omega) | simp (disch:=omega) only [hg,push_cast,↓reduceIte,Nat.reduceEqDiff,Nat.reduceAdd,Nat.reduceLeDiff,sx];rfl) rfl rfl ?_
 refine dg_ ?_
 refine dg_ ?_
 refine dp_ ?_
 refine dp_ ?_
 refine dg_ ?_
 refine dgh_ ?_
 refine dg_ ?_
 refine dg_ ?_
 refine dg_ ?_
 refine dgh_ ?_
 refine dg_ ?_
 refine dgh_ ?_
 iterate 2 (refine dawp_g rfl rfl (by simp only [push_cast,↓reduceIte,Nat.reduceEqDiff,Nat.reduceAdd,Nat.reduceLeDiff,sx];rfl) (fun hg=>by first | (refine (show _=some (AV.tup []) from ?_);exfalso;have hg2:=hg;simp only [Bool.not_eq_true',Bool.and_eq_true,Bool.or_eq_false_iff,decide_eq_false_iff_not,decide_eq_true_eq,decide_eq_false_iff_not,Bool.not_eq_true',Bool.not_eq_false',Bool.or_eq_true,Bool.and_eq_true,Bool.or_eq_false_iff,Bool.and_eq_false_imp,Int.not_lt,Int.not_le] at hg2;omega) | (refine (show _=some (AV.tup [], _) from ?_);exfalso;have hg2:=hg;simp only [Bool.not_eq_true',Bool.and_eq_true,Bool.or_eq_false_iff,decide_eq_false_iff_not,decide_eq_true_eq,decide_eq_false_iff_not,Bool.not_eq_true',Bool.not_eq_false',Bool.or_eq_true,Bool.and_eq_true,Bool.or_eq_false_iff,Bool.and_eq_false_imp,Int.not_lt,Int.not_le] at hg2;omega) | simp (disch:=omega) only [hg,push_cast,↓reduceIte,Nat.reduceEqDiff,Nat.reduceAdd,Nat.reduceLeDiff,sx];rfl) rfl rfl ?_)
 refine dawp_gh rfl rfl (by simp only [push_cast,↓reduceIte,Nat.reduceEqDiff,Nat.reduceAdd,Nat.reduceLeDiff,sx];rfl) (fun hg=>by first | (refine (show _=some (AV.bool false) from ?_);exfalso;have hg2:=hg;simp only [Bool.not_eq_true',Bool.and_eq_true,Bool.or_eq_false_iff,decide_eq_false_iff_not,decide_eq_true_eq,decide_eq_false_iff_not,Bool.not_eq_true',Bool.not_eq_false',Bool.or_eq_true,Bool.and_eq_true,Bool.or_eq_false_iff,Bool.and_eq_false_imp,Int.not_lt,Int.not_le] at hg2;omega) | (refine (show _=some (AV.bool false, _) from ?_);exfalso;have hg2:=hg;simp only [Bool.not_eq_true',Bool.and_eq_true,Bool.or_eq_false_iff,decide_eq_false_iff_not,decide_eq_true_eq,decide_eq_false_iff_not,Bool.not_eq_true',Bool.not_eq_false',Bool.or_eq_true,Bool.and_eq_true,Bool.or_eq_false_iff,Bool.and_eq_false_imp,Int.not_lt,Int.not_le] at hg2;omega) | simp (disch:=omega) only [hg,push_cast,↓reduceIte,Nat.reduceEqDiff,Nat.reduceAdd,Nat.reduceLeDiff,sx];rfl) rfl rfl ?_
 refine sre_ ?_
 refine cy_ (fun hb1=>?_) (fun hb1=>?_)
 ·
  refine rg_ [6,7] ?_
  refine ret_ ?_
  refine fq_ Tryz.results50 ?_
  exact rk_ (by rw [hda,hPs];rfl)
 exfalso
 simp only [Bool.or_eq_false_iff,decide_eq_false_iff_not] at hb1
 omega
theorem y50 (T:Tab) (ps:List Pr) (pid:Nat) (P:Pr) (hpid:pid<ps.length) (hP:ps[pid]=P) (ca:Ca) (i:Nat) (h:List Blk) (live:List Nat) (hca:ca.a=(i:Int)) (hi:i<3) (hd:DocI T ps) (hk:ca.kind=14∨ca.kind=15∨ca.kind=16) (hdl:ca.data.length≤1000):AC Tryz.prog 50 [sV T ps,.int .i64 (pid:Nat),.agg (cvC ca)] h live (.tup [sV (datF T ps pid P ca).2.1 (ps.set pid (datF T ps pid P ca).2.2),.agg (rvC (datF T ps pid P ca).1)]):=by
 refine aq_ Tryz.func50 fun hH hX=>?_
 unfold sV
 have hPg:=pr_getD hpid hP
 have hPs:=pr_self hpid hP
 have hfl3:=fdsL_len P
 have hfg:=fdsL_get P hi
 have hPm:P∈ps:=hP▸List.getElem_mem hpid
 have hnP:=hd.nn P hPm i hi
 have hof:=hd.off P hPm i hi
 have hgs:=hd.gs P hPm
 have hca0:(cvC ca)[3]? = some (.int .i64 (i:Nat)):=by rw [←hca];rfl
 have hia:((i:Int)).toNat=i:=Int.toNat_natCast i
 have sx:=(And.intro @hPg (And.intro @hfg (And.intro @hca (And.intro @hia sx0))))
 refine rg_ [1,3,5,6,7] ?_
 refine rg_ [1,3,5,6,7,8] ?_
 refine sk_ fun K1 hK1=>?_
 refine rg_ [1,3,5,6,7,8,66] ?_
 refine cy_ (fun hb1=>?_) (fun hb1=>?_)
 ·
  have hbi:(P.fd i).node=0∨(ca.kind=14∧(P.fd i).rd=false)∨(ca.kind=15∧(P.fd i).wr=false):=by
   simp only [Bool.or_eq_true,Bool.and_eq_true,Bool.not_eq_true',decide_eq_true_eq] at hb1
   rcases hb1 with ((h1 | h1) | h1) | h1
   · rw [decide_eq_false (show ¬((i:Int)<0) by omega),cond_false,decide_eq_true_eq] at h1;omega
   · exact .inl h1
   · exact .inr (.inl h1)
   · exact .inr (.inr h1)
  have hda:=datF_bad (T:=T) (ps:=ps) (pid:=pid) hca hi hk hbi
  refine rg_ [6,7] ?_
  refine ret_ ?_
  refine fq_ Tryz.results50 ?_
  exact rk_ (by rw [hda,hPs];rfl)
 have hbi:(P.fd i).node≠0∧(ca.kind=14→(P.fd i).rd=true)∧(ca.kind=15→(P.fd i).wr=true):=by
  simp only [Bool.or_eq_false_iff,Bool.and_eq_false_imp,Bool.not_eq_false',decide_eq_true_eq,decide_eq_false_iff_not] at hb1
  exact ⟨hb1.1.1.2,hb1.1.2,hb1.2⟩
 refine skp_ ?_
 refine hK1 _ ?_
 refine rg_ [1,3,5,6,7,8,9] ?_
 refine sk_ fun K2 hK2=>?_
 refine rg_ [1,3,5,6,7,8,9,77] ?_
 refine cx_ (fun hb2=>?_) (fun hb2=>?_)
 ·
  have hda:=datF_shut (T:=T) (ps:=ps) (pid:=pid) hca hi hb2 hbi.1
  refine rs_ [6,7] ?_
  refine sg_ ?_
  refine cl_ (hc:=c52 T ps pid P hpid hP _ _ hd.gd.1 hd.len hd.nn i hi) (k:=?_)
  refine srt_ ?_
  refine fq_ Tryz.results50 ?_
  exact rk_ (by rw [hda];rfl)
 refine skp_ ?_
 refine hK2 _ ?_
 refine sk_ fun K3 hK3=>?_
 refine rg_ [1,3,5,6,7,8,9,86] ?_
 refine cx_ (fun hb3=>?_) (fun hb3=>?_)
 ·
  have hda:=datF_read (T:=T) (ps:=ps) (pid:=pid) hca hi hb3 (by rintro (h | h);exact hbi.1 h;rw [hbi.2.1 hb3] at h;cases h)
  obtain ⟨ps',hps'⟩:∃ps',ps.set pid (P.put i ⟨(P.fd i).node,IntKind.i64.wrap ((P.fd i).off+(readF T (P.fd i).node (P.fd i).off ca.b).1.length),(P.fd i).rd,(P.fd i).wr⟩)=ps':=⟨_,rfl⟩
  refine rs_ [1,3,5,6,7,8,9,10,11] ?_
  refine sg_ ?_
  refine cl_ (hc:=c99 T _ _ _ _ _ hd.gd.1 hof) (k:=?_)
  refine sre_ ?_
  refine rg_ [1,3,5,6,7,8,9,10,11] ?_
  refine rsq_ [6,7] ⟨false,[(h.length,0,.agg 2),(h.length+4,0,.agg 5),(h.length+1,3,.one),(h.length+5,0,.agg 4)],[105,107,109,110],[6,7],[],[111,112],h.length⟩ (fun _=>⟨by kernel_rfl,by kernel_rfl⟩) ?_
  refine df_ ?_
  refine sg_ ?_
  refine df_ ?_
  refine sg_ ?_
  refine df_ ?_
  refine df_ ?_
  refine ds_ (hc:=fun h' l' hs=>c97 P i ⟨(P.fd i).node,IntKind.i64.wrap ((P.fd i).off+(readF T (P.fd i).node (P.fd i).off ca.b).1.length),(P.fd i).rd,(P.fd i).wr⟩ _ _ hi) (k:=?_)
  refine ds_ (hc:=fun h' l' hs=>(hps'▸c51 T ps pid _ _ _ hpid hd.len)) (k:=?_)
  refine sg_ ?_
  refine dgs_ ?_
  refine dgs_ ?_
  refine re_ ?_
  refine ret_ ?_
  refine fq_ Tryz.results50 ?_
  exact rk_ (by rw [hda,hps'];rfl)
 have hk5:ca.kind=15:=by omega
 have hnb:¬((P.fd i).node=0∨(P.fd i).wr=false):=by rintro (h | h);exact hbi.1 h;rw [hbi.2.2 hk5] at h;cases h
 refine skp_ ?_
 refine hK3 _ ?_
 refine rs_ [1,3,5,6,7,8,9,12,13] ?_
 refine sg_ ?_
 refine cl_ (hc:=c100 T P.c _ _ ca.data _ _ hd.gd.1 hd.gd.2 hdl) (k:=?_)
 refine sre_ ?_
 refine sk_ fun K4 hK4=>?_
 refine rg_ [1,3,5,6,7,8,9,12,13,131] ?_
 refine cx_ (fun hb4=>?_) (fun hb4=>?_)
 ·
  have hda:=datF_we (T:=T) (ps:=ps) (pid:=pid) hca hi hk5 hnb hb4
  refine rg_ [6,7] ?_
  refine ret_ ?_
  refine fq_ Tryz.results50 ?_
  exact rk_ (by rw [hda,hPs];rfl)
 have hda:=datF_wy (T:=T) (ps:=ps) (pid:=pid) hca hi hk5 hnb hb4
 obtain ⟨ps',hps'⟩:∃ps',ps.set pid (P.put i ⟨(P.fd i).node,IntKind.i64.wrap ((P.fd i).off+ca.data.length),(P.fd i).rd,(P.fd i).wr⟩)=ps':=⟨_,rfl⟩
 refine skp_ ?_
 refine hK4 _ ?_
 refine rg_ [1,3,5,6,7,8,9,12] ?_
 refine rsq_ [3,5,6,7,12] ⟨true,[],[],[],[],[],0⟩ (fun _=>⟨by kernel_rfl,by kernel_rfl⟩) ?_
 refine sg_ ?_
 refine cr_ (hc:=c97 P i ⟨(P.fd i).node,IntKind.i64.wrap ((P.fd i).off+ca.data.length),(P.fd i).rd,(P.fd i).wr⟩ _ _ hi) (k:=?_)
 refine cr_ (hc:=(hps'▸c51 T ps pid _ _ _ hpid hd.len)) (k:=?_)
 refine sre_ ?_
 refine rg_ [3,5,6,7] ?_
 refine rsq_ [6,7] ⟨false,[(h.length,0,.agg 2),(h.length+1,5,.one)],[152,154],[6,7],[],[],0⟩ (fun _=>⟨by kernel_rfl,by kernel_rfl⟩) ?_
 refine df_ ?_
 refine sg_ ?_
 refine df_ ?_
 refine sg_ ?_
 refine dgs_ ?_
 refine dgs_ ?_
 refine re_ ?_
 refine ret_ ?_
 refine fq_ Tryz.results50 ?_
 exact rk_ (by rw [hda,hps'];rfl)
end Go.Proofs.YtegffmibifodcaaGreat

