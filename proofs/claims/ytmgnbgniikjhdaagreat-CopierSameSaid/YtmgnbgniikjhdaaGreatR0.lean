import Derived.Test.YtmgnbgniikjhdaaGreatP8
set_option linter.unusedVariables false
set_option linter.unusedSimpArgs false
namespace Go.Proofs.YtmgnbgniikjhdaaGreat
open Go.Ab Go.RowKit
theorem TVl_n4 {P:Program} {d:Nat} {t0 t1 t2 t3:TypeId} {ys:List AV} (h:TVl P d [t0,t1,t2,t3] ys):∃a0 a1 a2 a3,ys=[a0,a1,a2,a3]∧TV P d t0 a0∧TV P d t1 a1∧TV P d t2 a2∧TV P d t3 a3:=by
 match ys,h with
 | [a0,a1,a2,a3],h=>exact ⟨a0,a1,a2,a3,rfl,h.1,h.2.1,h.2.2.1,h.2.2.2.1⟩
theorem TVl_n5 {P:Program} {d:Nat} {t0 t1 t2 t3 t4:TypeId} {ys:List AV} (h:TVl P d [t0,t1,t2,t3,t4] ys):∃a0 a1 a2 a3 a4,ys=[a0,a1,a2,a3,a4]∧TV P d t0 a0∧TV P d t1 a1∧TV P d t2 a2∧TV P d t3 a3∧TV P d t4 a4:=by
 match ys,h with
 | [a0,a1,a2,a3,a4],h=>exact ⟨a0,a1,a2,a3,a4,rfl,h.1,h.2.1,h.2.2.1,h.2.2.2.1,h.2.2.2.2.1⟩
theorem TVl_n6 {P:Program} {d:Nat} {t0 t1 t2 t3 t4 t5:TypeId} {ys:List AV} (h:TVl P d [t0,t1,t2,t3,t4,t5] ys):∃a0 a1 a2 a3 a4 a5,ys=[a0,a1,a2,a3,a4,a5]∧TV P d t0 a0∧TV P d t1 a1∧TV P d t2 a2∧TV P d t3 a3∧TV P d t4 a4∧TV P d t5 a5:=by
 match ys,h with
 | [a0,a1,a2,a3,a4,a5],h=>exact ⟨a0,a1,a2,a3,a4,a5,rfl,h.1,h.2.1,h.2.2.1,h.2.2.2.1,h.2.2.2.2.1,h.2.2.2.2.2.1⟩
theorem TVl_n7 {P:Program} {d:Nat} {t0 t1 t2 t3 t4 t5 t6:TypeId} {ys:List AV} (h:TVl P d [t0,t1,t2,t3,t4,t5,t6] ys):∃a0 a1 a2 a3 a4 a5 a6,ys=[a0,a1,a2,a3,a4,a5,a6]∧TV P d t0 a0∧TV P d t1 a1∧TV P d t2 a2∧TV P d t3 a3∧TV P d t4 a4∧TV P d t5 a5∧TV P d t6 a6:=by
 match ys,h with
 | [a0,a1,a2,a3,a4,a5,a6],h=>exact ⟨a0,a1,a2,a3,a4,a5,a6,rfl,h.1,h.2.1,h.2.2.1,h.2.2.2.1,h.2.2.2.2.1,h.2.2.2.2.2.1,h.2.2.2.2.2.2.1⟩
theorem TVl_n9 {P:Program} {d:Nat} {t0 t1 t2 t3 t4 t5 t6 t7 t8:TypeId} {ys:List AV} (h:TVl P d [t0,t1,t2,t3,t4,t5,t6,t7,t8] ys):∃a0 a1 a2 a3 a4 a5 a6 a7 a8,ys=[a0,a1,a2,a3,a4,a5,a6,a7,a8]∧TV P d t0 a0∧TV P d t1 a1∧TV P d t2 a2∧TV P d t3 a3∧TV P d t4 a4∧TV P d t5 a5∧TV P d t6 a6∧TV P d t7 a7∧TV P d t8 a8:=by
 match ys,h with
 | [a0,a1,a2,a3,a4,a5,a6,a7,a8],h=>exact ⟨a0,a1,a2,a3,a4,a5,a6,a7,a8,rfl,h.1,h.2.1,h.2.2.1,h.2.2.2.1,h.2.2.2.2.1,h.2.2.2.2.2.1,h.2.2.2.2.2.2.1,h.2.2.2.2.2.2.2.1,h.2.2.2.2.2.2.2.2.1⟩
theorem own:ownKnob Tryz.prog.godebug=none:=by kernel_rfl
theorem laidOut:laidOutB Tryz.prog=true:=by kernel_rfl
theorem uInt:Tryz.prog.underlying 3=some (.int .i64):=by kernel_rfl
theorem uU8:Tryz.prog.underlying 5=some (.int .u8):=by kernel_rfl
theorem uBool:Tryz.prog.underlying 4=some .bool:=by kernel_rfl
theorem uStr:Tryz.prog.underlying 9=some .string:=by kernel_rfl
theorem uInts:Tryz.prog.underlying 23=some (.slice 3):=by kernel_rfl
theorem uBytes:Tryz.prog.underlying 59=some (.slice 5):=by kernel_rfl
set_option maxRecDepth 100000 in
theorem TV_i {d:Nat} {x:AV} (h:TV Tryz.prog (d+1) 3 x):∃n,x=.int .i64 n:=by
 obtain ⟨n,rfl, _⟩:=TV_int uInt h;exact ⟨n,rfl⟩
set_option maxRecDepth 100000 in
theorem TV_ints {d:Nat} {x:AV} (h:TV Tryz.prog (d+1+1) 23 x):∃l:List Int,x=.slice (l.map iV) .none∧l.length≤maxLen:=
 TV_slice (enc:=iV) uInts (fun y hy=>TV_i hy) h
set_option maxRecDepth 100000 in
theorem TV_bytes {d:Nat} {x:AV} (h:TV Tryz.prog (d+1+1) 59 x):∃l:List UInt8,x=.slice (l.map bV) .none∧l.length≤maxLen:=
 TV_slice (enc:=bV) uBytes (fun y hy=>by obtain ⟨c,e⟩:=TV_u8 uU8 hy;exact ⟨c,e⟩) h
theorem bInt:Tryz.prog.bytesOf 3=8:=by kernel_rfl
theorem bCred:Tryz.prog.bytesOf 25=40:=by kernel_rfl
theorem reach_eq:reachBytes=140737488351232:=rfl
set_option maxRecDepth 100000 in
theorem TV_cred {d:Nat} {x:AV} (h:TV Tryz.prog (d+1+1+1) 25 x):∃c:Cr,x=crV c∧c.gs.length≤17592186044416:=by
 obtain ⟨ys,rfl,h2⟩:=TV_struct (ts:=[3,3,23]) (by kernel_rfl) (by kernel_rfl) h
 obtain ⟨a,b,c,rfl,ha,hb,hc⟩:=TVl_three h2
 obtain ⟨a,rfl⟩:=TV_i ha
 obtain ⟨b,rfl⟩:=TV_i hb
 obtain ⟨c,rfl, _,hl, _⟩:=TV_sliceP (enc:=iV) (p:=fun _=>True) uInts (fun y hy=>by obtain ⟨n,e⟩:=TV_i hy;exact ⟨n,e,trivial⟩) hc
 rw [bInt,reach_eq] at hl
 exact ⟨⟨a,b,c⟩,rfl,by show c.length≤_;omega⟩
set_option maxRecDepth 100000 in
theorem TV_raw {d:Nat} {x:AV} (h:TV Tryz.prog (d+1+1+1) 97 x):∃r:Rw,x=rV r:=by
 obtain ⟨ys,rfl,h2⟩:=TV_struct (ts:=[3,3,3,3,3,9,59,9,3]) (by kernel_rfl) (by kernel_rfl) h
 obtain ⟨a,b,c,e,f,g,i,j,k,rfl,ha,hb,hc,he,hf,hg,hi,hj,hk⟩:=TVl_n9 h2
 obtain ⟨a,rfl⟩:=TV_i ha
 obtain ⟨b,rfl⟩:=TV_i hb
 obtain ⟨c,rfl⟩:=TV_i hc
 obtain ⟨e,rfl⟩:=TV_i he
 obtain ⟨f,rfl⟩:=TV_i hf
 obtain ⟨g,rfl, _⟩:=TV_str uStr hg
 obtain ⟨i,rfl, _⟩:=TV_bytes hi
 obtain ⟨j,rfl, _⟩:=TV_str uStr hj
 obtain ⟨k,rfl⟩:=TV_i hk
 exact ⟨⟨a,b,c,e,f,g,i,j,k⟩,rfl⟩
theorem uRaws:Tryz.prog.underlying 22=some (.slice 97):=by kernel_rfl
set_option maxRecDepth 100000 in
theorem TV_raws {d:Nat} {x:AV} (h:TV Tryz.prog (d+1+1+1+1) 22 x):∃l:List Rw,x=.slice (l.map rV) .none∧l.length≤maxLen:=
 TV_slice (enc:=rV) uRaws (fun y hy=>TV_raw hy) h
theorem uErr:Tryz.prog.underlying 40=some (.int .i64):=by kernel_rfl
theorem uStrs:Tryz.prog.underlying 37=some (.slice 9):=by kernel_rfl
set_option maxRecDepth 100000 in
theorem TV_strs2 {d:Nat} {x:AV} (h:TV Tryz.prog (d+1+1) 37 x):∃l:List (List UInt8),x=.slice (l.map .str) .none∧l.length≤maxLen:=
 TV_slice (enc:=.str) uStrs (fun y hy=>by obtain ⟨c,e, _⟩:=TV_str uStr hy;exact ⟨c,e⟩) h
end Go.Proofs.YtmgnbgniikjhdaaGreat
