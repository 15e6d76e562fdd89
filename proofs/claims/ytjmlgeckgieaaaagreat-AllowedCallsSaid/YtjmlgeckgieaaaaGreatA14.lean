import Derived.Test.YtjmlgeckgieaaaaGreatC15
/-
  TABLES: what is allowed.
-/
set_option linter.unusedVariables false
set_option linter.unusedSimpArgs false
namespace Go.Proofs.YtjmlgeckgieaaaaGreat
open Go.Ab
set_option maxRecDepth 8000
set_option maxHeartbeats 400000
def stC (c:Cr) (k:Nat) (x:Ch) (a b:Nd) (ws:List Int):List AV:=[.int .i64 c.uid,.int .i64 c.gid,.slice (c.gs.map iV) .none,.ptr k 0,.int .i64 x.kind,.int .i64 x.node,.int .i64 x.dir,.str x.name,.int .i64 x.to,.str x.other,.int .i64 x.over,
 .int .i64 a.kind,.int .i64 a.mode,.int .i64 a.uid,.int .i64 a.gid,.slice (a.data.map bV) .none,.slice (a.ents.map eV) .none,.str a.target,.int .i64 b.kind,.int .i64 b.mode,.int .i64 b.uid,.int .i64 b.gid,.slice (b.data.map bV) .none,.slice (b.ents.map eV) .none,.str b.target,.slice (ws.map iV) .none]
def intoF (T:Tab) (c:Cr) (d:Int):Bool:=wayF T c d&&canT c T d 3
def stickT (T:Tab) (c:Cr) (d i:Int):Bool:=stickyF c (T.get d).1.mode (T.get d).1.uid (T.get i).1.uid
def wornF (c:Cr) (a b:Nd):Bool:=decide (b.mode=writtenF c a.kind a.mode)
def writeF (T:Tab) (c:Cr) (x:Ch) (a b:Nd) (ws:List Int):Bool:=((ws.any fun y=>decide (x.node=y))||(seenF T c x.node&&canT c T x.node 2))&&decide (a.kind=1)&&wornF c a b
def asF (was is:Int):Int:=bif decide (was=is) then -1 else is
def attrF (T:Tab) (c:Cr) (x:Ch) (a b:Nd) (ws:List Int):Bool:=
 bif decide (a.uid=b.uid)&&decide (a.gid=b.gid) then (seenF T c x.node&&mayMode c a.uid&&(decide (b.mode=modeF c a.kind a.gid b.mode)||wornF c a b))||writeF T c x a b ws
 else seenF T c x.node&&mayOwn c a.uid a.gid (asF a.uid b.uid) (asF a.gid b.gid)&&wornF c a b
def takenF (T:Tab) (c:Cr) (x:Ch):Bool:=intoF T c x.dir&&stickT T c x.dir x.node
def mvF (T:Tab) (c:Cr) (x:Ch):Bool:=takenF T c x&&intoF T c x.to&&(decide (x.over=0)||stickT T c x.to x.over)
def mkF (T:Tab) (c:Cr) (x:Ch) (b:Nd):Bool:=
 intoF T c x.dir&&decide (b.uid=c.uid)&&decide (b.gid=bif !decide (bits .and .i64 (T.get x.dir).1.mode 1024=0) then (T.get x.dir).1.gid else c.gid)
  && decide (bits .and .i64 b.mode 3072=bif !decide (bits .and .i64 (T.get x.dir).1.mode 1024=0)&&decide (b.kind=2) then 1024 else 0)&&decide ((b.data.length:Int)+b.ents.length=0)
theorem c65 (T:Tab) (c:Cr) (k:Nat) (x:Ch) (a b:Nd) (ws:List Int) (i:Int) (h:List Blk) (live:List Nat) (hk:h[k]? = some (tabBlk T)) (hT:T.Ok) (hgs:c.gs.length≤17592186044416)  : AC Tryz.prog 65 [.agg (stC c k x a b ws),.int .i64 i] h live (.agg (ndC (T.get i).1)):=by
 refine aq_ Tryz.func65 fun hH hX=>?_
 unfold stC
 have sx:=(And.intro @Bool.true_and sx0)
 refine rg_ [1,2,4] ?_
 refine rs_ [4,5] ?_
 refine sg_ ?_
 refine cl_ (hc:=c21 T k _ _ _ (atApp hk) hT) (k:=?_)
 refine sre_ ?_
 refine rg_ [4] ?_
 refine ret_ ?_
 refine fq_ Tryz.results65 ?_ (hcl:=(by exact clL_ndC _ _))
 exact rk_ rfl
theorem c116 (T:Tab) (c:Cr) (k:Nat) (x:Ch) (a b:Nd) (ws:List Int) (d:Int) (h:List Blk) (live:List Nat) (hk:h[k]? = some (tabBlk T)) (hT:T.Ok) (hgs:c.gs.length≤17592186044416)  : AC Tryz.prog 116 [.agg (stC c k x a b ws),.int .i64 d] h live (.bool (intoF T c d)):=by
 refine aq_ Tryz.func116 fun hH hX=>?_
 unfold stC
 have sx:=(And.intro @Bool.true_and sx0)
 refine rg_ [1,2] ?_
 refine rs_ [4] ?_
 refine sg_ ?_
 refine cl_ (hc:=c62 T k c _ _ _ _ (atApp hk) hT hgs) (k:=?_)
 refine sg_ ?_
 refine cg_ (hc:=fun hg=>c107 T k c _ _ _ _ _ (atApp hk) hT hgs) (k:=?_)
 refine srt_ ?_
 refine fq_ Tryz.results116 ?_
 exact rk_ rfl
theorem c117 (T:Tab) (c:Cr) (k:Nat) (x:Ch) (a b:Nd) (ws:List Int) (d i:Int) (h:List Blk) (live:List Nat) (hk:h[k]? = some (tabBlk T)) (hT:T.Ok) (hgs:c.gs.length≤17592186044416)  : AC Tryz.prog 117 [.agg (stC c k x a b ws),.int .i64 d,.int .i64 i] h live (.bool (stickT T c d i)):=by
 refine aq_ Tryz.func117 fun hH hX=>?_
 unfold stC
 have sx:=(And.intro @Bool.true_and sx0)
 refine rg_ [1,2,3] ?_
 refine rs_ [2,3,7] ?_
 refine sg_ ?_
 refine cl_ (hc:=c65 T c k x a b ws _ _ _ (atApp hk) hT hgs) (k:=?_)
 refine sre_ ?_
 refine rsq_ [6] ⟨true,[],[],[],[],[],0⟩ (fun _=>⟨by kernel_rfl,by kernel_rfl⟩) ?_
 refine sg_ ?_
 refine cr_ (hc:=c65 T c k x a b ws _ _ _ (atApp hk) hT hgs) (k:=?_)
 refine sg_ ?_
 refine cr_ (hc:=c154 c _ _ _ _ _) (k:=?_)
 refine srt_ ?_
 refine fq_ Tryz.results117 ?_
 exact rk_ rfl
theorem c112 (T:Tab) (c:Cr) (k:Nat) (x:Ch) (a b:Nd) (ws:List Int)  (h:List Blk) (live:List Nat) (hk:h[k]? = some (tabBlk T)) (hT:T.Ok) (hgs:c.gs.length≤17592186044416)  : AC Tryz.prog 112 [.agg (stC c k x a b ws)] h live (.bool (wornF c a b)):=by
 refine aq_ Tryz.func112 fun hH hX=>?_
 unfold stC
 have sx:=(And.intro @Bool.true_and sx0)
 refine rg_ [1] ?_
 refine rsq_ [2] ⟨true,[],[],[],[],[],0⟩ (fun _=>⟨by kernel_rfl,by kernel_rfl⟩) ?_
 refine sg_ ?_
 refine cr_ (hc:=c145 c _ _ _ _) (k:=?_)
 refine srt_ ?_
 refine fq_ Tryz.results112 ?_
 exact rk_ rfl
theorem c68 (T:Tab) (c:Cr) (k:Nat) (x:Ch) (a b:Nd) (ws:List Int)  (h:List Blk) (live:List Nat) (hk:h[k]? = some (tabBlk T)) (hT:T.Ok) (hgs:c.gs.length≤17592186044416) (hws:ws.length≤17592186044416):AC Tryz.prog 68 [.agg (stC c k x a b ws)] h live (.bool (writeF T c x a b ws)):=by
 refine aq_ Tryz.func68 fun hH hX=>?_
 unfold stC
 have sx:=(And.intro @Bool.true_and sx0)
 refine rg_ [1] ?_
 refine rs_ [1,3] ?_
 refine sg_ ?_
 refine cl_ (hc:=c115 ws _ _ _ _ hws) (k:=?_)
 refine sg_ ?_
 refine cg_ (hc:=fun hg=>c63 T k c _ _ _ _ (atApp hk) hT hgs) (k:=?_)
 refine sg_ ?_
 refine cg_ (hc:=fun hg=>c107 T k c _ _ _ _ _ (atApp hk) hT hgs) (k:=?_)
 refine sre_ ?_
 refine rs_ [2] ?_
 refine sg_ ?_
 refine cg_ (hc:=fun hg=>c112 T c k x a b ws _ _ (atApp hk) hT hgs) (k:=?_)
 refine srt_ ?_
 refine fq_ Tryz.results68 ?_
 exact rk_ rfl
theorem c113 (was is:Int) (h:List Blk) (live:List Nat):AC Tryz.prog 113 [.int .i64 was,.int .i64 is] h live (.int .i64 (asF was is)):=by
 refine aq_ Tryz.func113 fun hH hX=>?_
 refine rg_ [0,1] ?_
 refine sk_ fun K1 hK1=>?_
 refine rg_ [1,7] ?_
 refine cy_ (fun hb1=>?_) (fun hb1=>?_)
 ·
  refine rg_ [4] ?_
  refine ret_ ?_
  refine fq_ Tryz.results113 ?_
  exact rk_ (by unfold asF;rw [hb1];rfl)
 refine skp_ ?_
 refine hK1 _ ?_
 refine rg_ [4] ?_
 refine ret_ ?_
 refine fq_ Tryz.results113 ?_
 exact rk_ (by unfold asF;rw [hb1];rfl)
theorem c70 (T:Tab) (c:Cr) (k:Nat) (x:Ch) (a b:Nd) (ws:List Int)  (h:List Blk) (live:List Nat) (hk:h[k]? = some (tabBlk T)) (hT:T.Ok) (hgs:c.gs.length≤17592186044416)  : AC Tryz.prog 70 [.agg (stC c k x a b ws)] h live (.bool (takenF T c x)):=by
 refine aq_ Tryz.func70 fun hH hX=>?_
 unfold stC
 have sx:=(And.intro @Bool.true_and sx0)
 refine rg_ [1] ?_
 refine rs_ [2] ?_
 refine sg_ ?_
 refine cl_ (hc:=c116 T c k x a b ws _ _ _ (atApp hk) hT hgs) (k:=?_)
 refine sg_ ?_
 refine cg_ (hc:=fun hg=>c117 T c k x a b ws _ _ _ _ (atApp hk) hT hgs) (k:=?_)
 refine srt_ ?_
 refine fq_ Tryz.results70 ?_
 exact rk_ rfl
theorem c71 (T:Tab) (c:Cr) (k:Nat) (x:Ch) (a b:Nd) (ws:List Int)  (h:List Blk) (live:List Nat) (hk:h[k]? = some (tabBlk T)) (hT:T.Ok) (hgs:c.gs.length≤17592186044416)  : AC Tryz.prog 71 [.agg (stC c k x a b ws)] h live (.bool (mvF T c x)):=by
 refine aq_ Tryz.func71 fun hH hX=>?_
 unfold stC
 have sx:=(And.intro @Bool.true_and sx0)
 refine rg_ [1] ?_
 refine rs_ [2] ?_
 refine sg_ ?_
 refine cl_ (hc:=c70 T c k x a b ws _ _ (atApp hk) hT hgs) (k:=?_)
 refine sg_ ?_
 refine cg_ (hc:=fun hg=>c116 T c k x a b ws _ _ _ (atApp hk) hT hgs) (k:=?_)
 refine sg_ ?_
 refine cg_ (hc:=fun hg=>c117 T c k x a b ws _ _ _ _ (atApp hk) hT hgs) (k:=?_)
 refine srt_ ?_
 refine fq_ Tryz.results71 ?_
 exact rk_ rfl
end Go.Proofs.YtjmlgeckgieaaaaGreat
