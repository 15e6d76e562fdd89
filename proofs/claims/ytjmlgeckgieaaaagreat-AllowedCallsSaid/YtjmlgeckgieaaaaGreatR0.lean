import Derived.Test.YtjmlgeckgieaaaaGreatP7
set_option linter.unusedVariables false
set_option linter.unusedSimpArgs false
namespace Go.Proofs.YtjmlgeckgieaaaaGreat
open Go.Ab Go.RowKit
theorem TVl_n4 {P:Program} {d:Nat} {t0 t1 t2 t3:TypeId} {ys:List AV} (h:TVl P d [t0,t1,t2,t3] ys):∃a0 a1 a2 a3,ys=[a0,a1,a2,a3]∧TV P d t0 a0∧TV P d t1 a1∧TV P d t2 a2∧TV P d t3 a3:=by
 match ys,h with
 | [a0,a1,a2,a3],h=>exact ⟨a0,a1,a2,a3,rfl,h.1,h.2.1,h.2.2.1,h.2.2.2.1⟩
theorem TVl_n5 {P:Program} {d:Nat} {t0 t1 t2 t3 t4:TypeId} {ys:List AV} (h:TVl P d [t0,t1,t2,t3,t4] ys):∃a0 a1 a2 a3 a4,ys=[a0,a1,a2,a3,a4]∧TV P d t0 a0∧TV P d t1 a1∧TV P d t2 a2∧TV P d t3 a3∧TV P d t4 a4:=by
 match ys,h with
 | [a0,a1,a2,a3,a4],h=>exact ⟨a0,a1,a2,a3,a4,rfl,h.1,h.2.1,h.2.2.1,h.2.2.2.1,h.2.2.2.2.1⟩
theorem TVl_n6 {P:Program} {d:Nat} {t0 t1 t2 t3 t4 t5:TypeId} {ys:List AV} (h:TVl P d [t0,t1,t2,t3,t4,t5] ys):∃a0 a1 a2 a3 a4 a5,ys=[a0,a1,a2,a3,a4,a5]∧TV P d t0 a0∧TV P d t1 a1∧TV P d t2 a2∧TV P d t3 a3∧TV P d t4 a4∧TV P d t5 a5:=by
 match ys,h with
 | [a0,a1,a2,a3,a4,a5],h=>exact ⟨a0,a1,a2,a3,a4,a5,rfl,h.1,h.2.1,h.2.2.1,h.2.2.2.1,h.2.2.2.2.1,h.2.2.2.2.2.1⟩
theorem TVl_n7 {P:Program} {d:Nat} {t0 t1 t2 t3 t4 t5 t6:TypeId} {ys:List AV} (h:TVl P d [t0,t1,t2,t3,t4,t5,t6] ys):∃a0 a1 a2 a3 a4 a5 a6,ys=[a0,a1,a2,a3,a4,a5,a6]∧TV P d t0 a0∧TV P d t1 a1∧TV P d t2 a2∧TV P d t3 a3∧TV P d t4 a4∧TV P d t5 a5∧TV P d t6 a6:=by
 match ys,h with
 | [a0,a1,a2,a3,a4,a5,a6],h=>exact ⟨a0,a1,a2,a3,a4,a5,a6,rfl,h.1,h.2.1,h.2.2.1,h.2.2.2.1,h.2.2.2.2.1,h.2.2.2.2.2.1,h.2.2.2.2.2.2.1⟩
theorem TVl_n9 {P:Program} {d:Nat} {t0 t1 t2 t3 t4 t5 t6 t7 t8:TypeId} {ys:List AV} (h:TVl P d [t0,t1,t2,t3,t4,t5,t6,t7,t8] ys):∃a0 a1 a2 a3 a4 a5 a6 a7 a8,ys=[a0,a1,a2,a3,a4,a5,a6,a7,a8]∧TV P d t0 a0∧TV P d t1 a1∧TV P d t2 a2∧TV P d t3 a3∧TV P d t4 a4∧TV P d t5 a5∧TV P d t6 a6∧TV P d t7 a7∧TV P d t8 a8:=by
 match ys,h with
 | [a0,a1,a2,a3,a4,a5,a6,a7,a8],h=>exact ⟨a0,a1,a2,a3,a4,a5,a6,a7,a8,rfl,h.1,h.2.1,h.2.2.1,h.2.2.2.1,h.2.2.2.2.1,h.2.2.2.2.2.1,h.2.2.2.2.2.2.1,h.2.2.2.2.2.2.2.1,h.2.2.2.2.2.2.2.2.1⟩
theorem own:ownKnob Tryz.prog.godebug=none:=by kernel_rfl
theorem laidOut:laidOutB Tryz.prog=true:=by kernel_rfl
theorem uInt:Tryz.prog.underlying 3=some (.int .i64):=by kernel_rfl
theorem uU8:Tryz.prog.underlying 5=some (.int .u8):=by kernel_rfl
theorem uBool:Tryz.prog.underlying 4=some .bool:=by kernel_rfl
theorem uStr:Tryz.prog.underlying 9=some .string:=by kernel_rfl
theorem uInts:Tryz.prog.underlying 28=some (.slice 3):=by kernel_rfl
theorem uBytes:Tryz.prog.underlying 46=some (.slice 5):=by kernel_rfl
set_option maxRecDepth 100000 in
theorem TV_i {d:Nat} {x:AV} (h:TV Tryz.prog (d+1) 3 x):∃n,x=.int .i64 n:=by
 obtain ⟨n,rfl, _⟩:=TV_int uInt h;exact ⟨n,rfl⟩
set_option maxRecDepth 100000 in
theorem TV_ints {d:Nat} {x:AV} (h:TV Tryz.prog (d+1+1) 28 x):∃l:List Int,x=.slice (l.map iV) .none∧l.length≤maxLen:=
 TV_slice (enc:=iV) uInts (fun y hy=>TV_i hy) h
set_option maxRecDepth 100000 in
theorem TV_bytes {d:Nat} {x:AV} (h:TV Tryz.prog (d+1+1) 46 x):∃l:List UInt8,x=.slice (l.map bV) .none∧l.length≤maxLen:=
 TV_slice (enc:=bV) uBytes (fun y hy=>by obtain ⟨c,e⟩:=TV_u8 uU8 hy;exact ⟨c,e⟩) h
theorem bInt:Tryz.prog.bytesOf 3=8:=by kernel_rfl
theorem bCred:Tryz.prog.bytesOf 30=40:=by kernel_rfl
theorem reach_eq:reachBytes=140737488351232:=rfl
set_option maxRecDepth 100000 in
theorem TV_cred {d:Nat} {x:AV} (h:TV Tryz.prog (d+1+1+1) 30 x):∃c:Cr,x=crV c∧c.gs.length≤17592186044416:=by
 obtain ⟨ys,rfl,h2⟩:=TV_struct (ts:=[3,3,28]) (by kernel_rfl) (by kernel_rfl) h
 obtain ⟨a,b,c,rfl,ha,hb,hc⟩:=TVl_three h2
 obtain ⟨a,rfl⟩:=TV_i ha
 obtain ⟨b,rfl⟩:=TV_i hb
 obtain ⟨c,rfl, _,hl, _⟩:=TV_sliceP (enc:=iV) (p:=fun _=>True) uInts (fun y hy=>by obtain ⟨n,e⟩:=TV_i hy;exact ⟨n,e,trivial⟩) hc
 rw [bInt,reach_eq] at hl
 exact ⟨⟨a,b,c⟩,rfl,by show c.length≤_;omega⟩
theorem uCreds:Tryz.prog.underlying 45=some (.slice 30):=by kernel_rfl
set_option maxRecDepth 100000 in
theorem TV_creds {d:Nat} {x:AV} (h:TV Tryz.prog (d+1+1+1+1) 45 x):∃l:List Cr,x=.slice (l.map crV) .none∧(∀c∈l,c.gs.length≤17592186044416)∧l.length≤17592186044416:=by
 obtain ⟨l,rfl, _,hb,hg⟩:=TV_sliceP (enc:=crV) uCreds (fun y hy=>TV_cred hy) h
 rw [bCred,reach_eq] at hb
 exact ⟨l,rfl,hg,by omega⟩
set_option maxRecDepth 100000 in
theorem TV_raw {d:Nat} {x:AV} (h:TV Tryz.prog (d+1+1+1) 80 x):∃r:Rw,x=rV r:=by
 obtain ⟨ys,rfl,h2⟩:=TV_struct (ts:=[3,3,3,3,3,9,46,9,3]) (by kernel_rfl) (by kernel_rfl) h
 obtain ⟨a,b,c,e,f,g,i,j,k,rfl,ha,hb,hc,he,hf,hg,hi,hj,hk⟩:=TVl_n9 h2
 obtain ⟨a,rfl⟩:=TV_i ha
 obtain ⟨b,rfl⟩:=TV_i hb
 obtain ⟨c,rfl⟩:=TV_i hc
 obtain ⟨e,rfl⟩:=TV_i he
 obtain ⟨f,rfl⟩:=TV_i hf
 obtain ⟨g,rfl, _⟩:=TV_str uStr hg
 obtain ⟨i,rfl, _⟩:=TV_bytes hi
 obtain ⟨j,rfl, _⟩:=TV_str uStr hj
 obtain ⟨k,rfl⟩:=TV_i hk
 exact ⟨⟨a,b,c,e,f,g,i,j,k⟩,rfl⟩
theorem uRaws:Tryz.prog.underlying 22=some (.slice 80):=by kernel_rfl
set_option maxRecDepth 100000 in
theorem TV_raws {d:Nat} {x:AV} (h:TV Tryz.prog (d+1+1+1+1) 22 x):∃l:List Rw,x=.slice (l.map rV) .none∧l.length≤maxLen:=
 TV_slice (enc:=rV) uRaws (fun y hy=>TV_raw hy) h
set_option maxRecDepth 100000 in
theorem TV_call {d:Nat} {x:AV} (h:TV Tryz.prog (d+1+1+1) 51 x):∃c:Ca,x=.agg (caC c):=by
 obtain ⟨ys,rfl,h2⟩:=TV_struct (ts:=[3,9,9,3,3,46]) (by kernel_rfl) (by kernel_rfl) h
 obtain ⟨a,b,c,e,f,g,rfl,ha,hb,hc,he,hf,hg⟩:=TVl_n6 h2
 obtain ⟨a,rfl⟩:=TV_i ha
 obtain ⟨b,rfl, _⟩:=TV_str uStr hb
 obtain ⟨c,rfl, _⟩:=TV_str uStr hc
 obtain ⟨e,rfl⟩:=TV_i he
 obtain ⟨f,rfl⟩:=TV_i hf
 obtain ⟨g,rfl, _⟩:=TV_bytes hg
 exact ⟨⟨a,b,c,e,f,g⟩,rfl⟩
theorem uCalls:Tryz.prog.underlying 47=some (.slice 51):=by kernel_rfl
theorem uU16:Tryz.prog.underlying 60=some (.int .u16):=by kernel_rfl
set_option maxRecDepth 100000 in
theorem TV_8 {d:Nat} {x:AV} (h:TV Tryz.prog (d+1) 5 x):∃n,x=.int .u8 n∧0≤n∧n≤255:=by
 obtain ⟨n,rfl,h1,h2⟩:=TV_int uU8 h;exact ⟨n,rfl,h1,h2⟩
set_option maxRecDepth 100000 in
theorem TV_16 {d:Nat} {x:AV} (h:TV Tryz.prog (d+1) 60 x):∃n,x=.int .u16 n∧0≤n∧n≤65535:=by
 obtain ⟨n,rfl,h1,h2⟩:=TV_int uU16 h;exact ⟨n,rfl,h1,h2⟩
set_option maxRecDepth 100000 in
theorem TV_ent {d:Nat} {x:AV} (h:TV Tryz.prog (d+1+1) 96 x):∃e:En,x=eV e∧e.1.length≤9223372036854775807:=by
 obtain ⟨ys,rfl,h2⟩:=TV_struct (ts:=[9,3]) (by kernel_rfl) (by kernel_rfl) h
 obtain ⟨a,b,rfl,ha,hb⟩:=TVl_two h2
 obtain ⟨a,rfl,hl⟩:=TV_str uStr ha
 obtain ⟨b,rfl⟩:=TV_i hb
 exact ⟨(a,b),rfl,hl⟩
theorem uEnts:Tryz.prog.underlying 62=some (.slice 96):=by kernel_rfl
set_option maxRecDepth 100000 in
theorem TV_node {d:Nat} {x:AV} (h:TV Tryz.prog (d+1+1+1+1) 64 x):∃n:Nd,x=.agg (ndC n)∧∀e∈n.ents,e.1.length≤9223372036854775807:=by
 obtain ⟨ys,rfl,h2⟩:=TV_struct (ts:=[3,3,3,3,46,62,9]) (by kernel_rfl) (by kernel_rfl) h
 obtain ⟨a,b,c,e,f,g,i,rfl,ha,hb,hc,he,hf,hg,hi⟩:=TVl_n7 h2
 obtain ⟨a,rfl⟩:=TV_i ha
 obtain ⟨b,rfl⟩:=TV_i hb
 obtain ⟨c,rfl⟩:=TV_i hc
 obtain ⟨e,rfl⟩:=TV_i he
 obtain ⟨f,rfl, _⟩:=TV_bytes hf
 obtain ⟨g,rfl, _, _,hge⟩:=TV_sliceP (enc:=eV) uEnts (fun y hy=>TV_ent hy) hg
 obtain ⟨i,rfl, _⟩:=TV_str uStr hi
 exact ⟨⟨a,b,c,e,f,g,i⟩,rfl,hge⟩
set_option maxRecDepth 100000 in
theorem TV_act {d:Nat} {x:AV} (h:TV Tryz.prog (d+1+1+1+1+1) 82 x):∃a:Ac,x=aV a∧∀e∈a.n.ents,e.1.length≤9223372036854775807:=by
 obtain ⟨ys,rfl,h2⟩:=TV_struct (ts:=[5,3,64]) (by kernel_rfl) (by kernel_rfl) h
 obtain ⟨a,b,c,rfl,ha,hb,hc⟩:=TVl_three h2
 obtain ⟨a,rfl⟩:=TV_u8 uU8 ha
 obtain ⟨b,rfl⟩:=TV_i hb
 obtain ⟨c,rfl,hcn⟩:=TV_node hc
 exact ⟨⟨a,b,c⟩,rfl,hcn⟩
theorem uActs:Tryz.prog.underlying 23=some (.slice 82):=by kernel_rfl
set_option maxRecDepth 100000 in
theorem TV_acts {d:Nat} {x:AV} (h:TV Tryz.prog (d+1+1+1+1+1+1) 23 x):∃l:List Ac,x=.slice (l.map aV) .none∧l.length≤maxLen∧∀a∈l,∀e∈a.n.ents,e.1.length≤9223372036854775807:=
 by
 obtain ⟨l,e,hl, _,hp⟩:=TV_sliceP (enc:=aV) uActs (fun y hy=>TV_act hy) h
 exact ⟨l,e,hl,hp⟩
end Go.Proofs.YtjmlgeckgieaaaaGreat
