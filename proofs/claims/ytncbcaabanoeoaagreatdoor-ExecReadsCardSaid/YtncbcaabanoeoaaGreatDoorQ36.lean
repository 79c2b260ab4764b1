/-
fields: a job, and what one field has (job.one, HGET, HLEN, HEXISTS).
-/
import Derived.Deep.CutBlock
import Derived.Deep.DeepCutAuto
import Derived.Deep.RegionHeld3
import Derived.Test.YtncbcaabanoeoaaGreatDoorQ26
import Derived.Test.YtncbcaabanoeoaaGreatDoorQ35
set_option linter.unusedVariables false
set_option linter.unusedSimpArgs false
set_option maxRecDepth 100000
set_option maxHeartbeats 8000000
namespace Go.Proofs.YtncbcaabanoeoaaGreatDoor
open Go Go.RowKit
variable {w0 w:World}{r sl l:Hp}{v:Value}{fs:Fs}{kind:Int}{sb g off:Nat}{S:St}{c:ByteArray}
abbrev Jk (sb:Nat) (kind:Int) (text:ByteArray) (v:Value) (now:Int) (key:ByteArray) (ar:Value):Obj:=.cells #[ptr sb,.int .i64 kind,.string text,v,.int .i64 now,.string key,ar] 120 (0,0)
def Kz (sb:Nat) (kind:Int) (text:ByteArray) (v:Value) (now:Int) (key:ByteArray) (ar:Value):Value:=.agg #[ptr sb,.int .i64 kind,.string text,v,.int .i64 now,.string key,ar]
def J2o (fs:Fs) (name:ByteArray):Lf:=if has fs name then J11 (Jb5 fs name) else J34
theorem Ji0 {text:ByteArray} (hk:(kind==1)=false) (hS:J3 w0 [] w (sl++r)) (hat:Jj v fs sl) (hr:J1z fs) (hB:fs.length<=1048576) (name:ByteArray)
 (sb:Nat) (now:Int) (key:ByteArray) (ga:Option Addr) (n cap:Nat):
  Calls Tryz.prog 105 #[Kz sb kind text v now key (.slice ga n cap),.string name] w (Kr w0 (sl++r) (Ja (J2o fs name))):=by
  obtain⟨a,c,rfl⟩:=hat.shape
  have S1:=(hS.alloc (Jk sb kind text (.slice a fs.length c) now key (.slice ga n cap))).alloc J4;rw[World.size_alloc] at S1
  have S2:=S1.permR (l2:=sl++((w.heap.size+1,J4)::(w.heap.size,Jk sb kind text (.slice a fs.length c) now key (.slice ga n cap))::r)) (J5 fun f=>by
   simp only[SC];omega)
  have hget:=Jol (kind:=kind) (text:=text) hk S2 hat hr hB name;unfold J6 at hget;have hj:=S2.own.right.tail.head;have j1:=J2 hj 1;have j2:=J2 hj 2;have j3:=J2 hj 3;simp only[List.getElem?_toArray,List.getElem?_cons_zero,List.getElem?_cons_succ] at j1 j2 j3;obtain⟨nf,hnf⟩:∃nf,nf=fs.length:=⟨_,rfl⟩
  rw[<-hnf] at hget j3⊢
  have hend:Hid (∀(w':World) (b:Lf),J3 w0 [] w' (sl++((w.heap.size+1,J4)::(w.heap.size,Jk sb kind text (.slice a nf c) now key (.slice ga n cap))::r))->J3 w0 [] _ (sl++r)):=hid fun w' b h=>((h.permR (l2:=(w.heap.size+1,J4)::(w.heap.size,Jk sb kind text (.slice a nf c) now key (.slice ga n cap))::(sl++r)) (J5 fun f=>by
   simp only[SC];omega)).setLf b).less (List.sublist_cons_self _ _)
  have hT:Hid (∀h:Bool,h=has fs name->J2o fs name=if h then J11 (Jb5 fs name) else J34):=hid fun h e=>by rw[e,J2o]
  obtain⟨h,heq⟩:∃h,h=has fs name:=⟨_,rfl⟩
  rw[<-heq] at hget;replace heq:=hid heq;generalize Jb5 fs name=tx at hget hT;replace hget:=hid hget;clear S1 S2 hS hj hnf;go_enter Tryz.func105,Tryz.ntmps105;unfold Kz;go_wp2_with fail;refine hget.out.mono ?_;rintro e w1 ⟨rfl,S3⟩;clear hget j1 j2 j3;cases h with
  |false=>
   have hv:=hid (Jf7 S3);have e:Hid (J2o fs name=J34):=hid (hT.out false heq.out);clear hT S3;go_wp2_with fail;refine hv.out.mono ?_;rintro e1 w2 ⟨rfl,S4⟩;have S9:=hid (hend.out w2 (J34) S4);obtain⟨⟨c0,hc0⟩,⟨c1,hc1⟩,⟨c2,hc2⟩,⟨c3,hc3⟩,⟨c4,hc4⟩,⟨c5,hc5⟩,fz,hlt⟩:=Jl S4.own.right.head
   clear hv S4 hend;unfold J7;go_wp2_with fail;refine bodyPost_ret (v:=Ja (J34)) (by simp[results,Tryz.results105,go_sem,J7,Ja,J11,J34, *]<;>rfl) rfl ?_
   rw[e.out];exact⟨rfl,S9.out⟩
  |true=>
   have hv:=hid (J97 S3 tx);have e:Hid (J2o fs name=J11 tx):=hid (hT.out true heq.out);clear hT S3;go_wp2_with fail;refine hv.out.mono ?_;rintro e1 w2 ⟨rfl,S4⟩;have S9:=hid (hend.out w2 (J11 tx) S4);obtain⟨⟨c0,hc0⟩,⟨c1,hc1⟩,⟨c2,hc2⟩,⟨c3,hc3⟩,⟨c4,hc4⟩,⟨c5,hc5⟩,fz,hlt⟩:=Jl S4.own.right.head
   clear hv S4 hend;unfold J7;go_wp2_with fail;refine bodyPost_ret (v:=Ja (J11 tx)) (by simp[results,Tryz.results105,go_sem,J7,Ja,J11,J34, *]<;>rfl) rfl ?_
   rw[e.out];exact⟨rfl,S9.out⟩
structure Jlv (w:World) (b sb:Nat) (kind:Int) (text:ByteArray) (v:Value) (now:Int) (key:ByteArray) (ar:Value):Prop where
 c0:w.cell? ⟨b,0,none⟩=some (ptr sb)
 c1:w.cell? ⟨b,1,none⟩=some (.int .i64 kind)
 c2:w.cell? ⟨b,2,none⟩=some (.string text)
 c3:w.cell? ⟨b,3,none⟩=some v
 c4:w.cell? ⟨b,4,none⟩=some (.int .i64 now)
 c5:w.cell? ⟨b,5,none⟩=some (.string key)
 c6:w.cell? ⟨b,6,none⟩=some ar
theorem J1n {b:Nat} {text:ByteArray} {now:Int} {key:ByteArray} {ar:Value} (h:w.heap[b]? =some (Jk sb kind text v now key ar)):Jlv w b sb kind text v now key ar:=
 ⟨J2 h 0,J2 h 1,J2 h 2,J2 h 3,J2 h 4,J2 h 5,J2 h 6⟩
theorem Jta {text:ByteArray} (hk:(kind==1)=false) (hS:J3 w0 [] w (sl++r)) (hat:Jj v fs sl) (hr:J1z fs) (hB:fs.length<=1048576) {name:ByteArray} {ws:List ByteArray}
 (sb:Nat) (now:Int) (key:ByteArray) (ha:J2h w0 r g off (name::ws)) (cap:Nat):
  Calls Tryz.prog 104 #[Kz sb kind text v now key (.slice (some ⟨g,off,none⟩) (name::ws).length cap)] w (Kr w0 (sl++r) (Ja (J2o fs name))):=by
  obtain⟨a,c,rfl⟩:=hat.shape
  obtain⟨n,hn⟩:∃n,n=(name::ws).length:=⟨_,rfl⟩
  have hn0:0<n:=by rw[hn];simp
  have hn1:(0:Int)<(n:Int):=by omega
  rw[<-hn];have S1:=(hS.alloc (Jk sb kind text (.slice a fs.length c) now key (.slice (some ⟨g,off,none⟩) n cap))).alloc J4;rw[World.size_alloc] at S1;obtain⟨b,hb⟩:∃b,b=w.heap.size:=⟨_,rfl⟩
  rw[<-hb] at S1
  have S2:=S1.permR (l2:=sl++((b+1,J4)::(b,Jk sb kind text (.slice a fs.length c) now key (.slice (some ⟨g,off,none⟩) n cap))::r)) (J5 fun f=>by
   simp only[SC];omega)
  have hone:∀(w':World) (R:Hp),Hid (J3 w0 [] w' (sl++R)->_):=fun w' R=>hid fun h=>Ji0 (text:=text) hk h hat hr hB name sb now key (some ⟨g,off,none⟩) n cap
  obtain⟨nf,hnf⟩:∃nf,nf=fs.length:=⟨_,rfl⟩
  rw[<-hnf] at hone S2⊢;have hj:∀p:InW w0 [] (sl++((b+1,J4)::(b,Jk sb kind text (.slice a nf c) now key (.slice (some ⟨g,off,none⟩) n cap))::r)),Jlv p.w b sb kind text (.slice a nf c) now key (.slice (some ⟨g,off,none⟩) n cap):=fun p=>J1n p.h.own.right.tail.head
  have j0:∀p:InW w0 [] (sl++((b+1,J4)::(b,Jk sb kind text (.slice a nf c) now key (.slice (some ⟨g,off,none⟩) n cap))::r)),p.w.cell? ⟨b,0,none⟩=some (ptr sb):=fun p=>(hj p).c0
  have j1:∀p:InW w0 [] (sl++((b+1,J4)::(b,Jk sb kind text (.slice a nf c) now key (.slice (some ⟨g,off,none⟩) n cap))::r)),p.w.cell? ⟨b,1,none⟩=some (.int .i64 kind):=fun p=>(hj p).c1
  have j2:∀p:InW w0 [] (sl++((b+1,J4)::(b,Jk sb kind text (.slice a nf c) now key (.slice (some ⟨g,off,none⟩) n cap))::r)),p.w.cell? ⟨b,2,none⟩=some (.string text):=fun p=>(hj p).c2
  have j3:∀p:InW w0 [] (sl++((b+1,J4)::(b,Jk sb kind text (.slice a nf c) now key (.slice (some ⟨g,off,none⟩) n cap))::r)),p.w.cell? ⟨b,3,none⟩=some (.slice a nf c):=fun p=>(hj p).c3
  have j4:∀p:InW w0 [] (sl++((b+1,J4)::(b,Jk sb kind text (.slice a nf c) now key (.slice (some ⟨g,off,none⟩) n cap))::r)),p.w.cell? ⟨b,4,none⟩=some (.int .i64 now):=fun p=>(hj p).c4
  have j5:∀p:InW w0 [] (sl++((b+1,J4)::(b,Jk sb kind text (.slice a nf c) now key (.slice (some ⟨g,off,none⟩) n cap))::r)),p.w.cell? ⟨b,5,none⟩=some (.string key):=fun p=>(hj p).c5
  have j6:∀p:InW w0 [] (sl++((b+1,J4)::(b,Jk sb kind text (.slice a nf c) now key (.slice (some ⟨g,off,none⟩) n cap))::r)),p.w.cell? ⟨b,6,none⟩=some (.slice (some ⟨g,off,none⟩) n cap):=fun p=>(hj p).c6
  have ja:∀p:InW w0 [] (sl++((b+1,J4)::(b,Jk sb kind text (.slice a nf c) now key (.slice (some ⟨g,off,none⟩) n cap))::r)),p.w.cell? ⟨g,off,none⟩=some (.string name):=fun p=>ha.at_ p.w (sl++[(b+1,J4),(b,Jk sb kind text (.slice a nf c) now key (.slice (some ⟨g,off,none⟩) n cap))]) (by have:=p.h;rw[List.append_assoc];exact this) 0 name rfl
  have hend:Hid (∀(w':World) (b':Lf),J3 w0 [] w' (sl++((b+1,J4)::(b,Jk sb kind text (.slice a nf c) now key (.slice (some ⟨g,off,none⟩) n cap))::r))->J3 w0 [] _ (sl++r)):=hid fun w' b' h=>((h.permR (l2:=(b+1,J4)::(b,Jk sb kind text (.slice a nf c) now key (.slice (some ⟨g,off,none⟩) n cap))::(sl++r)) (J5 fun f=>by
   simp only[SC];omega)).setLf b').less (List.sublist_cons_self _ _)
  obtain⟨an,han⟩:∃an,an=J2o fs name:=⟨_,rfl⟩
  rw[<-han] at hone⊢;unfold Kz Ja J7 at hone;replace S2:=hid S2;replace han:=hid han;replace hnf:=hid hnf;replace hn:=hid hn;clear S1 hS hj hat;go_enter Tryz.func104,Tryz.ntmps104;unfold Kz;go_wp2_with fail;rw[<-hb];clear hb;refine Jq 5 S2.out (by kernel_rfl) (by kernel_rfl) (fun hne=>?_)
  simp only[List.take_succ_cons,List.take_zero,List.drop_succ_cons,List.drop_zero];repeat (go_big_quiet_step (fail))
  refine J04 fun w5 S7=>?_
  clear j0 j1 j2 j3 j4 j5 j6 ja hne S2;have hc:=hid ((hone w5 _).out S7);clear S7 hone;go_wp2_with fail;refine hc.out.mono ?_;rintro e w6 ⟨rfl,S8⟩;have S9:=hid (hend.out w6 an S8);obtain⟨⟨c0,hc0⟩,⟨c1,hc1⟩,⟨c2,hc2⟩,⟨c3,hc3⟩,⟨c4,hc4⟩,⟨c5,hc5⟩,fz,hlt⟩:=Jl S8.own.right.head
  clear hc S8 hend;go_wp2_with fail;refine bodyPost_ret (v:=Ja an) (by simp[results,Tryz.results104,go_sem,J7,Ja, *]<;>rfl) rfl ?_
  exact⟨rfl,S9.out⟩
theorem Jjq {text:ByteArray} (hk:(kind==1)=false) (hS:J3 w0 [] w (sl++r)) (hat:Jj v fs sl) (hr:J1z fs) (hB:fs.length<=1048576) {name:ByteArray} {ws:List ByteArray}
 (sb:Nat) (now:Int) (key:ByteArray) (ha:J2h w0 r g off (name::ws)) (cap:Nat):
  Calls Tryz.prog 107 #[Kz sb kind text v now key (.slice (some ⟨g,off,none⟩) (name::ws).length cap)] w (Kr w0 (sl++r) (Ja (Jm (if has fs name then 1 else 0)))):=by
  obtain⟨a,c,rfl⟩:=hat.shape
  obtain⟨n,hn⟩:∃n,n=(name::ws).length:=⟨_,rfl⟩
  have hn0:0<n:=by rw[hn];simp
  have hn1:(0:Int)<(n:Int):=by omega
  rw[<-hn];have S1:=(hS.alloc (Jk sb kind text (.slice a fs.length c) now key (.slice (some ⟨g,off,none⟩) n cap))).alloc J4;rw[World.size_alloc] at S1;obtain⟨b,hb⟩:∃b,b=w.heap.size:=⟨_,rfl⟩
  rw[<-hb] at S1
  have S2:=S1.permR (l2:=sl++((b+1,J4)::(b,Jk sb kind text (.slice a fs.length c) now key (.slice (some ⟨g,off,none⟩) n cap))::r)) (J5 fun f=>by
   simp only[SC];omega)
  have hone:∀(w':World) (R:Hp),Hid (J3 w0 [] w' (sl++R)->_):=fun w' R=>hid fun h=>Ji0 (text:=text) hk h hat hr hB name sb now key (some ⟨g,off,none⟩) n cap
  obtain⟨nf,hnf⟩:∃nf,nf=fs.length:=⟨_,rfl⟩
  rw[<-hnf] at hone S2⊢;have hj:∀p:InW w0 [] (sl++((b+1,J4)::(b,Jk sb kind text (.slice a nf c) now key (.slice (some ⟨g,off,none⟩) n cap))::r)),Jlv p.w b sb kind text (.slice a nf c) now key (.slice (some ⟨g,off,none⟩) n cap):=fun p=>J1n p.h.own.right.tail.head
  have j0:∀p:InW w0 [] (sl++((b+1,J4)::(b,Jk sb kind text (.slice a nf c) now key (.slice (some ⟨g,off,none⟩) n cap))::r)),p.w.cell? ⟨b,0,none⟩=some (ptr sb):=fun p=>(hj p).c0
  have j1:∀p:InW w0 [] (sl++((b+1,J4)::(b,Jk sb kind text (.slice a nf c) now key (.slice (some ⟨g,off,none⟩) n cap))::r)),p.w.cell? ⟨b,1,none⟩=some (.int .i64 kind):=fun p=>(hj p).c1
  have j2:∀p:InW w0 [] (sl++((b+1,J4)::(b,Jk sb kind text (.slice a nf c) now key (.slice (some ⟨g,off,none⟩) n cap))::r)),p.w.cell? ⟨b,2,none⟩=some (.string text):=fun p=>(hj p).c2
  have j3:∀p:InW w0 [] (sl++((b+1,J4)::(b,Jk sb kind text (.slice a nf c) now key (.slice (some ⟨g,off,none⟩) n cap))::r)),p.w.cell? ⟨b,3,none⟩=some (.slice a nf c):=fun p=>(hj p).c3
  have j4:∀p:InW w0 [] (sl++((b+1,J4)::(b,Jk sb kind text (.slice a nf c) now key (.slice (some ⟨g,off,none⟩) n cap))::r)),p.w.cell? ⟨b,4,none⟩=some (.int .i64 now):=fun p=>(hj p).c4
  have j5:∀p:InW w0 [] (sl++((b+1,J4)::(b,Jk sb kind text (.slice a nf c) now key (.slice (some ⟨g,off,none⟩) n cap))::r)),p.w.cell? ⟨b,5,none⟩=some (.string key):=fun p=>(hj p).c5
  have j6:∀p:InW w0 [] (sl++((b+1,J4)::(b,Jk sb kind text (.slice a nf c) now key (.slice (some ⟨g,off,none⟩) n cap))::r)),p.w.cell? ⟨b,6,none⟩=some (.slice (some ⟨g,off,none⟩) n cap):=fun p=>(hj p).c6
  have ja:∀p:InW w0 [] (sl++((b+1,J4)::(b,Jk sb kind text (.slice a nf c) now key (.slice (some ⟨g,off,none⟩) n cap))::r)),p.w.cell? ⟨g,off,none⟩=some (.string name):=fun p=>ha.at_ p.w (sl++[(b+1,J4),(b,Jk sb kind text (.slice a nf c) now key (.slice (some ⟨g,off,none⟩) n cap))]) (by have:=p.h;rw[List.append_assoc];exact this) 0 name rfl
  have hend:Hid (∀(w':World) (b':Lf),J3 w0 [] w' (sl++((b+1,J4)::(b,Jk sb kind text (.slice a nf c) now key (.slice (some ⟨g,off,none⟩) n cap))::r))->J3 w0 [] _ (sl++r)):=hid fun w' b' h=>((h.permR (l2:=(b+1,J4)::(b,Jk sb kind text (.slice a nf c) now key (.slice (some ⟨g,off,none⟩) n cap))::(sl++r)) (J5 fun f=>by
   simp only[SC];omega)).setLf b').less (List.sublist_cons_self _ _)
  cases hh:has fs name with
  |false=>
   have han:J2o fs name=J34:=by rw[J2o,hh];rfl
   rw[han] at hone;replace han:=hid han;replace hh:=hid hh;unfold Kz Ja J7 at hone;simp only[J11,J34] at hone;replace S2:=hid S2;replace hnf:=hid hnf;replace hn:=hid hn;clear S1 hS hj hat;go_enter Tryz.func107,Tryz.ntmps107;unfold Kz;go_wp2_with fail;rw[<-hb];clear hb;refine Jq 5 S2.out (by kernel_rfl) (by kernel_rfl) (fun hne=>?_)
   simp only[List.take_succ_cons,List.take_zero,List.drop_succ_cons,List.drop_zero];repeat (go_big_quiet_step (fail))
   refine J04 fun w5 S7=>?_
   clear j0 j1 j2 j3 j4 j5 j6 ja hne S2;have hc:=hid ((hone w5 _).out S7);clear S7 hone;go_wp2_with fail;refine hc.out.mono ?_;rintro e w6 ⟨rfl,S8⟩;have hv:=hid (J15 S8 0);have hfd:(Instr.field 34 (.agg #[.int .i64 6,.string ByteArray.empty,.int .i64 0,.float .f64 0,.bool false,.slice none 0 0]) 0).run Tryz.prog w6= .ok (.int .i64 6) w6:=by kernel_rfl
   clear hc S8;go_wp2_with fail;refine hv.out.mono ?_;rintro e w7 ⟨rfl,S8⟩;have S9:=hid (hend.out w7 (Jm 0) S8);obtain⟨⟨c0,hc0⟩,⟨c1,hc1⟩,⟨c2,hc2⟩,⟨c3,hc3⟩,⟨c4,hc4⟩,⟨c5,hc5⟩,fz,hlt⟩:=Jl S8.own.right.head
   clear hv S8 hend;unfold J7;go_wp2_with fail;refine bodyPost_ret (v:=Ja (Jm 0)) (by simp[results,Tryz.results107,go_sem,J7,Ja,Jm, *]<;>rfl) rfl ?_
   exact⟨rfl,S9.out⟩
  |true=>
   have han:J2o fs name=J11 (Jb5 fs name):=by rw[J2o,hh];rfl
   rw[han] at hone;replace han:=hid han;replace hh:=hid hh;unfold Kz Ja J7 at hone;simp only[J11,J34] at hone;replace S2:=hid S2;replace hnf:=hid hnf;replace hn:=hid hn;clear S1 hS hj hat;go_enter Tryz.func107,Tryz.ntmps107;unfold Kz;go_wp2_with fail;rw[<-hb];clear hb;refine Jq 5 S2.out (by kernel_rfl) (by kernel_rfl) (fun hne=>?_)
   simp only[List.take_succ_cons,List.take_zero,List.drop_succ_cons,List.drop_zero];repeat (go_big_quiet_step (fail))
   refine J04 fun w5 S7=>?_
   clear j0 j1 j2 j3 j4 j5 j6 ja hne S2;have hc:=hid ((hone w5 _).out S7);clear S7 hone;go_wp2_with fail;refine hc.out.mono ?_;rintro e w6 ⟨rfl,S8⟩;have hv:=hid (J15 S8 1);have hfd:(Instr.field 34 (.agg #[.int .i64 4,.string (Jb5 fs name),.int .i64 0,.float .f64 0,.bool false,.slice none 0 0]) 0).run Tryz.prog w6= .ok (.int .i64 4) w6:=by kernel_rfl
   clear hc S8;go_wp2_with fail;refine hv.out.mono ?_;rintro e w7 ⟨rfl,S8⟩;have S9:=hid (hend.out w7 (Jm 1) S8);obtain⟨⟨c0,hc0⟩,⟨c1,hc1⟩,⟨c2,hc2⟩,⟨c3,hc3⟩,⟨c4,hc4⟩,⟨c5,hc5⟩,fz,hlt⟩:=Jl S8.own.right.head
   clear hv S8 hend;unfold J7;go_wp2_with fail;refine bodyPost_ret (v:=Ja (Jm 1)) (by simp[results,Tryz.results107,go_sem,J7,Ja,Jm, *]<;>rfl) rfl ?_
   exact⟨rfl,S9.out⟩
theorem Jtb (hS:J3 w0 [] w r) (kind:Int) (text:ByteArray) (a:Option Addr) (nf c:Nat) (sb:Nat) (now:Int) (key:ByteArray) (ga:Option Addr) (n cap:Nat):
 Calls Tryz.prog 106 #[Kz sb kind text (.slice a nf c) now key (.slice ga n cap)] w (Kr w0 r (Ja (Jm nf))):=by
 have S1:=(hS.alloc (Jk sb kind text (.slice a nf c) now key (.slice ga n cap))).alloc J4;rw[World.size_alloc] at S1;have hv:=J15 S1 (nf:Int);have j3:=(J1n S1.own.tail.head).c3;replace hv:=hid hv;clear hS S1;go_enter Tryz.func106,Tryz.ntmps106;unfold Kz;go_wp2_with fail;refine hv.out.mono ?_;rintro e w1 ⟨rfl,S2⟩;obtain⟨⟨c0,hc0⟩,⟨c1,hc1⟩,⟨c2,hc2⟩,⟨c3,hc3⟩,⟨c4,hc4⟩,⟨c5,hc5⟩,fz,hlt⟩:=Jl S2.own.head
 have S9:=hid ((S2.setLf (Jm nf)).less (List.sublist_cons_self _ _));clear hv S2 j3;unfold J7;go_wp2_with fail;refine bodyPost_ret (v:=Ja (Jm nf)) (by simp[results,Tryz.results106,go_sem,J7,Ja,Jm, *]<;>rfl) rfl ?_
 exact⟨rfl,S9.out⟩
def J3c (fs:Fs):Itm:=⟨2,ByteArray.empty,fs⟩
def J7f (S:St) (now:Int) (key:ByteArray) (it:Itm) (n:Int):St×Lf:=
 (S.putG key it true now,if S.putE key it=0 then Jm n else Kt (S.putE key it))
theorem Jb7 {il:Hp} {v':Value} {it:Itm} {kind':Int} {text':ByteArray} (hS:J3 w0 [] w (l++(il++r))) (hG:J17 w0) (hX:Jh l sb S) (hT:Kx S) (hl:S.load<=1000000000000) (key:ByteArray) (hk:key.size<=1099511627776)
 (hp:J5n it v il) (hv:∃a m c,v= .slice a m c) (now n:Int) (ar:Value):
  Calls Tryz.prog 162 #[Kz sb kind' text' v' now key ar,J6 it.kind it.text v,.int .i64 n] w (Jp w0 (il++r) sb (J7f S now key it n).1 (Ja (J7f S now key it n).2)):=by
  obtain⟨va,vm,vc,rfl⟩:=hv
  have S1:=((hS.alloc (Jk sb kind' text' v' now key ar)).alloc (Jb it.kind it.text (.slice va vm vc))).alloc J4;simp only[World.size_alloc] at S1;obtain⟨b,hb⟩:∃b,b=w.heap.size:=⟨_,rfl⟩
  rw[<-hb] at S1;obtain⟨R,hR⟩:∃R:Hp,R=(b+1+1,J4)::(b+1,Jb it.kind it.text (.slice va vm vc))::(b,Jk sb kind' text' v' now key ar)::r:=⟨_,rfl⟩
  have S2:J3 w0 [] _ (l++(il++R)):=S1.permR (J5 fun f=>by
   rw[hR];simp only[SC];omega)
  have hput:=J8e S2 hG hX hT (by have:=hl;unfold St.load at this;omega) key hk hp true now
  have hknown:=J5f S key it;have hTT:Hid (J7f S now key it n=(S.putG key it true now,if S.putE key it=0 then Jm n else Kt (S.putE key it))):=hid rfl
  have hjm:(b,Jk sb kind' text' v' now key ar)∈R:=by rw[hR];simp
  have him:(b+1,Jb it.kind it.text (.slice va vm vc))∈R:=by rw[hR];simp
  have hzm:(b+1+1,J4)∈R:=by rw[hR];simp
  obtain⟨j0,j1,j2,j3,j4,j5,j6⟩:=J1n (S2.own.right.right.at_ _ hjm)
  have hio:=S2.own.right.right.at_ _ him;have i0:=J2 hio 0;have i1:=J2 hio 1;have i2:=J2 hio 2;simp only[List.getElem?_toArray,List.getElem?_cons_zero,List.getElem?_cons_succ] at i0 i1 i2
  have hend:Hid (∀(w':World) (l3:Hp) (a:Lf),J3 w0 [] w' (l3++(il++R))->J3 w0 [] _ (l3++(il++r))):=hid fun w' l3 a h=>((h.permR (l2:=(b+1+1,J4)::(l3++(il++r)++[(b+1,Jb it.kind it.text (.slice va vm vc)),(b,Jk sb kind' text' v' now key ar)])) (J5 fun f=>by
   rw[hR];simp only[SC];omega)).setLf a).less (List.sublist_append_left _ _)
  generalize J7f S now key it n=T at hTT⊢;generalize S.putG key it true now=S2' at hput hTT;generalize S.putE key it=pe at hput hTT hknown;unfold J6 at hput;replace hput:=hid hput;clear S1 S2 hS hR hio hX hT hl hp;subst hb;go_enter Tryz.func162,Tryz.ntmps162;unfold Kz J6;go_wp2_with fail;refine hput.out.mono ?_;rintro e w2 ⟨rfl,l3,hX3,S3⟩;clear j0 j1 j2 j3 j4 j5 j6 i0 i1 i2 hjm him;rcases hknown with rfl|⟨hne,hkn⟩
  ·have hv:=hid (J15 S3 n)
   have S9':∀w',Hid _:=fun w'=>hid (hend.out w' l3 (Jm n))
   clear hput hend S3;go_wp2_with fail;refine hv.out.mono ?_;rintro e w3 ⟨rfl,S4⟩;obtain⟨⟨c0,hc0⟩,⟨c1,hc1⟩,⟨c2,hc2⟩,⟨c3,hc3⟩,⟨c4,hc4⟩,⟨c5,hc5⟩,fz,hlt⟩:=Jl (S4.own.right.right.at_ _ hzm)
   have S9:=hid ((S9' w3).out S4);clear hv S4 S9' hzm;unfold J7;go_wp2_with fail;refine bodyPost_ret (v:=Ja (Jm n)) (by simp[results,Tryz.results162,go_sem,J7,Ja,Jm, *]<;>rfl) rfl ?_
   rw[hTT.out,if_pos trivial];exact⟨rfl,l3,hX3,S9.out⟩
  ·have hne2:(pe==0)=false:=by simpa using hne
   generalize hte:Jx pe=te;have herr:Kr w0 (l3++(il++R)) (J7 2 (Jx pe) 0 (.slice none 0 0))=Kr w0 (l3++(il++R)) (J7 2 te 0 (.slice none 0 0)):=by rw[hte]
   have hce:=J4v S3 pe hkn;rw[herr] at hce;have heq:Hid (Kt pe=⟨2,te,0⟩):=hid (by rw[Kt,hte])
   replace hTT:Hid (T=(S2',⟨2,te,0⟩)):=hid (by rw[hTT.out,if_neg hne,heq.out])
   clear hte herr heq;have hv:=hid (hce);have S9':∀w',Hid _:=fun w'=>hid (hend.out w' l3 (⟨2,te,0⟩))
   clear hput hend S3;go_wp2_with fail;refine hv.out.mono ?_;rintro e w3 ⟨rfl,S4⟩;obtain⟨⟨c0,hc0⟩,⟨c1,hc1⟩,⟨c2,hc2⟩,⟨c3,hc3⟩,⟨c4,hc4⟩,⟨c5,hc5⟩,fz,hlt⟩:=Jl (S4.own.right.right.at_ _ hzm)
   have S9:=hid ((S9' w3).out S4);clear hv S4 S9' hzm;unfold J7;go_wp2_with fail;refine bodyPost_ret (v:=Ja (⟨2,te,0⟩)) (by simp[results,Tryz.results162,go_sem,J7,Ja,Jm, *]<;>rfl) rfl ?_
   rw[hTT.out];exact⟨rfl,l3,hX3,S9.out⟩
def Jsn:List FuncId:=[99,100,101,102,103,104,106,107]
theorem Jwb {P:Res->Prop} {k:ByteArray} {ws:List ByteArray} (h:Ctx w0 w l r sb S g off (c::k::ws)) (sp:Sp) (hc:Ku (c::k::ws)=(sp,ByteArray.empty)) (now:Int) (cap:Nat) (hcap:(c::k::ws).length<=cap) (hcap2:cap<=9223372036854775807) (fn:FuncId) (hm:Je J2l sp.name=some (fv fn)) (hfn:fn∈Jsn)
 (htext:(((S.look k now).getD Jc).kind==1)=true->P ⟨S.get k now,2,Jx 91,0,[]⟩)
 (hjob:(((S.look k now).getD Jc).kind==1)=false->∀(w':World) (l2 vl R:Hp) (v:Value) (ga:Option Addr),J3 w0 [] w' (l2++(vl++R))->Jh l2 sb (S.get k now)->Jj v ((S.look k now).getD Jc).fs vl->J2h w0 R g (off+2) ws->(ws≠[]->ga=some ⟨g,off+2,none⟩)->
  Calls Tryz.prog fn #[Kz sb ((S.look k now).getD Jc).kind ((S.look k now).getD Jc).text v now k (.slice ga ws.length (cap - 2))] w' (J2w w0 R sb P)):
  Calls Tryz.prog 25 #[ptr sb,.int .i64 now,.slice (some ⟨g,off,none⟩) (c::k::ws).length cap] w (Jgw w0 r sb P):=by
  have H:=h.alloc J4;have hchk:=J3g H.st (H.args.more (x:=l)) cap;rw[hc] at hchk;clear hc;unfold J1c Sp.val K8 at hchk;simp only at hchk
  obtain⟨n,hlen⟩:∃n,(c::k::ws).length=n:=⟨_,rfl⟩
  have hlen2:ws.length=n - 2:=by rw[<-hlen];simp only[List.length_cons];omega
  rw[hlen] at hchk hcap⊢;rw[hlen2] at hjob;have hn1:1<n:=by rw[<-hlen];simp only[List.length_cons];omega
  have hn2:(1:Int)<(n:Int):=by omega
  have hn3:2<=n:=by omega
  have hn4:(2:Int)<=(n:Int):=by omega
  have hn5:0<n:=by omega
  replace hlen:=hid hlen;replace hlen2:=hid hlen2;replace hchk:=hid hchk;replace hjob:=hid hjob;replace htext:=hid htext;replace hm:=hid hm;replace h:=hid h;replace hfn:=hid hfn;clear H;go_enter Tryz.func25,Tryz.ntmps25;go_wp2_with fail;refine hchk.out.mono ?_;rintro e w2 ⟨rfl,S2⟩;clear hchk;go_upto_region 2 with fail;have S3:J3 w0 [] _ ((_,J14 sp)::_):=S2.alloc (.cells #[.string sp.name,.int .i64 sp.kind,.int .i64 sp.least,.int .i64 sp.most,.int .i64 sp.first,.int .i64 sp.last,.int .i64 sp.step] 45);generalize hw3:w2.alloc _=w3;replace S3:J3 w0 [] w3 _:=hw3▸S3;clear hw3 S2;generalize w2.heap.size=b1 at S3⊢;generalize w.heap.size=b at S3⊢;obtain⟨R,hR⟩:∃R:Hp,R=(b1,J14 sp)::(b,J4)::(l++r):=⟨_,rfl⟩
  have S4:J3 w0 [] w3 R:=S3.permR (J5 fun f=>by
   rw[hR];simp only[SC];omega)
  have hsm:(b1,J14 sp)∈R:=by rw[hR];simp
  have hdoes:∀w',Hid (J3 w0 [] w' R->_):=fun w'=>hid fun hw=>Jj7 hw
  have hs1:Hid (J3 w0 [] w3.drew R):=hid S4.drew;have hx1:Hid (InX w0 R w3.drew):=hid ⟨[],S4.drew⟩;have hkeep:Hid (∀w',Hid (InX w0 R w')->w'.cell? ⟨b1,0,none⟩=some (.string sp.name)/\Hid (InX w0 R w')):=hid fun w' hx=>⟨J2 (InX.get hx hsm) 0,hx⟩
  have hzero:∀w',(zeroValue 113).run Tryz.prog w'= .ok .nilFunc w':=fun w'=>by kernel_rfl
  clear S3 S4 hsm;go_cut [10,11] (fun s10 s11 wc=>s10=fv fn/\s11= .bool true/\Hid (J3 w0 [] wc R))
  case first=>
   go_region_held3 (fun w'=>w'.cell? ⟨b1,0,none⟩=some (.string sp.name)/\Hid (InX w0 R w'))
    (first|(with_reducible exact hkeep.out _ hx1)|(with_reducible exact hkeep.out _ (by assumption))|(fail "keep"))
    (first|(go_at_call 50;refine((hdoes _).out hs1.out).mono ?_;rintro e w4 ⟨mb,o,rfl,hso,S5⟩;have hlk:=J5g (P:=Tryz.prog) (t:=115) Tryz.underlying115 Tryz.underlying9 hzero S5.own.head hso sp.name;rw[hm.out] at hlk;have hx2:Hid (InX w0 R w4):=hid ⟨[(mb,o)],S5⟩;have S6:=hid (S5.less (List.sublist_cons_self _ _));clear S5 hso))
   all_goals (
    go_wp2_with fail;go_meet
    exact⟨rfl,rfl,S6⟩)
  case rest=>
   obtain⟨rfl,rfl,S5⟩:=hcut
   clear hdoes hs1 hx1 hkeep hzero;obtain⟨X,hX⟩:∃X:Hp,X=[(b1,J14 sp),(b,J4)]:=⟨_,rfl⟩
   have S6:J3 w0 [] wc (l++(X++r)):=S5.out.permR (J5 fun f=>by
    rw[hR,hX];simp only[SC];omega)
   have C:=h.out.at (x:=X) rfl S6;obtain⟨o,ho⟩:∃o,o=(S.look k now).getD Jc:=⟨_,rfl⟩
   have hget:=C.get k (by simp) now [] S6
   have ca:wc.cell? ⟨g,off+1,none⟩=some (.string k):=C.args.at_ wc l S6 1 k rfl;have hjob:=hjob.out;have htext:=htext.out;rw[<-ho] at hget hjob htext;obtain⟨kq,tq,fq⟩:=o
   simp only at hget hjob htext
   have harg:=hid C.args;have hag:Hid (J2h w0 (X++r) g (off+2) ws):=hid (C.args.drop 2);replace hget:=hid hget;replace ho:=hid ho;replace hX:=hid hX;replace hjob:=hid hjob;replace htext:=hid htext;clear S5 S6 C hR h;unfold fv;go_wp2_with fail;refine hget.out.mono ?_;rintro e w5 ⟨va,vn,vc,vl,l2,rfl,hat,hX2,S7,_⟩;clear hget ca;go_upto_region 6 with fail;have S8:=S7.out.alloc (Jb kq tq (.slice va vn vc));generalize hw6:w5.alloc _=w6;replace S8:J3 w0 [] w6 _:=hw6▸S8;clear hw6 S7;generalize w5.heap.size=ib at S8⊢;obtain⟨L,hL⟩:∃L:Hp,L=l2++(vl++((ib,Jb kq tq (.slice va vn vc))::(X++r))):=⟨_,rfl⟩
   have S9:J3 w0 [] w6 L:=S8.permR (J5 fun f=>by
    rw[hL];simp only[SC];omega)
   have him:(ib,Jb kq tq (.slice va vn vc))∈L:=by rw[hL];simp
   clear S8;cases hkind:(kq==1) with
   |true=>
    have hP:=htext.out hkind;have hfl:=hid (J4v S9 91 (by unfold K2;omega))
    have i0':=J2 (S9.own.at_ (ib,Jb kq tq (.slice va vn vc)) him) 0;simp only[List.getElem?_toArray,List.getElem?_cons_zero] at i0';replace hL:=hid hL;generalize Jx 91=te at hfl hP;unfold J7 at hfl;replace hP:=hid hP;clear S9 him harg;go_wp2_with fail;refine hfl.out.mono ?_;rintro e w8 ⟨rfl,S11⟩;rw[hL.out] at S11
    have S12:=S11.permR (l2:=(b,J4)::(l2++r++(vl++[(ib,Jb kq tq (.slice va vn vc)),(b1,J14 sp)]))) (J5 fun f=>by
     rw[hX.out];simp only[SC];omega)
    obtain⟨⟨z0,hz0⟩,⟨z1,hz1⟩,⟨z2,hz2⟩,⟨z3,hz3⟩,⟨z4,hz4⟩,⟨z5,hz5⟩,fz,hlt⟩:=Jl S12.own.head
    have S13:=hid ((S12.setLf ⟨2,te,0⟩).less (List.sublist_append_left _ _));clear hfl S11 S12;go_wp2_with fail;refine bodyPost_ret (v:=.tuple #[J7 2 te 0 (.slice none 0 0),.bool true]) (by simp[results,Tryz.results25,go_sem,J7, *]<;>rfl) rfl ?_
    exact⟨_,hP.out,none,0,[],l2,rfl,.nil,hX2.out,S13.out⟩
   |false=>
    have hjob:=hid (hjob.out hkind);by_cases hc2:cap - 2=0
    all_goals
     have i0:∀p:InW w0 [] L,p.w.cell? ⟨ib,0,none⟩=some (.int .i64 kq):=fun p=>J2 (p.h.own.at_ (ib,Jb kq tq (.slice va vn vc)) him) 0
     have i1:∀p:InW w0 [] L,p.w.cell? ⟨ib,1,none⟩=some (.string tq):=fun p=>J2 (p.h.own.at_ (ib,Jb kq tq (.slice va vn vc)) him) 1
     have i2:∀p:InW w0 [] L,p.w.cell? ⟨ib,2,none⟩=some (.slice va vn vc):=fun p=>J2 (p.h.own.at_ (ib,Jb kq tq (.slice va vn vc)) him) 2
     have i0':=i0 ⟨w6,S9⟩;simp only at i0'
     have hsplit:∀w',J3 w0 [] w' L->J3 w0 [] w' ((l2++(vl++[(ib,Jb kq tq (.slice va vn vc))]))++(X++r)):=fun w' h=>by
      rw[hL] at h;simpa using h
     have ja:∀p:InW w0 [] L,p.w.cell? ⟨g,off+1,none⟩=some (.string k):=fun p=>harg.out.at_ p.w _ (hsplit p.w p.h) 1 k rfl
     replace S9:=hid S9;replace hL:=hid hL;clear him hsplit harg;go_wp2_with fail;refine Jq 10 S9.out (by kernel_rfl) (by kernel_rfl) (fun hne=>?_)
     simp only[List.take_succ_cons,List.take_zero,List.drop_succ_cons,List.drop_zero];repeat (go_big_quiet_step (fail))
     refine J04 fun w7 S10=>?_
     clear i0 i1 i2 i0' ja hne S9;rw[hL.out] at S10;have hcall:=fun ga hga=>hjob.out w7 l2 vl ((ib,Jb kq tq (.slice va vn vc))::(X++r)) (.slice va vn vc) ga S10 hX2.out hat.out (hag.out.more (x:=[(ib,Jb kq tq (.slice va vn vc))])) hga
     unfold Kz at hcall;try rw[hc2] at hcall
     replace hcall:=hid hcall;have hfn:=hfn.out;clear S10 hjob;simp only[Jsn,List.mem_cons,List.not_mem_nil,or_false] at hfn;rcases hfn with rfl|rfl|rfl|rfl|rfl|rfl|rfl|rfl
     all_goals
      go_wp2_with fail;refine(hcall.out _ (by first|exact fun _=>rfl|exact fun hne=>absurd (List.length_pos_iff.2 hne) (by have:=hlen2.out;omega))).mono ?_
      rintro e w8 ⟨⟨T,kd,tx,nn,xs⟩,hP,a,c2,xl,l3,rfl,hxl,hX3,S11⟩;simp only at hxl hX3 S11
      have S12:=S11.permR (l2:=(b,J4)::(l3++(xl++r)++[(ib,Jb kq tq (.slice va vn vc)),(b1,J14 sp)])) (J5 fun f=>by
       rw[hX.out];simp only[SC];omega)
      obtain⟨⟨z0,hz0⟩,⟨z1,hz1⟩,⟨z2,hz2⟩,⟨z3,hz3⟩,⟨z4,hz4⟩,⟨z5,hz5⟩,fz,hlt⟩:=Jl S12.own.head
      obtain⟨na,hna⟩:∃na,na=xs.length:=⟨_,rfl⟩
      rw[<-hna] at hxl⊢;have S13:=hid (((S12.setVal kd tx nn (.slice a na c2)).less (List.sublist_cons_self _ _)).less (List.sublist_append_left _ _));replace hna:=hid hna;replace hxl:=hid hxl;replace hP:=hid hP;replace hX3:=hid hX3;clear hcall S11 S12;unfold J7;go_wp2_with fail;refine bodyPost_ret (v:=.tuple #[J7 kd tx nn (.slice a na c2),.bool true]) (by simp[results,Tryz.results25,go_sem,J7, *]<;>rfl) rfl ?_
      refine⟨⟨T,kd,tx,nn,xs⟩,hP.out,a,c2,xl,l3,?_,?_,hX3.out,S13.out⟩
      ·simp only;rw[hna.out]
      ·simp only;rw[<-hna.out];exact hxl.out
def Jh0 (w0:World) (r:Hp) (e:Ending) (w':World):Prop:=e= .returned (.tuple #[J7 0 ByteArray.empty 0 (.slice none 0 0),.bool false])/\J3 w0 [] w' r
def Jgl:List (List UInt8):=[[71,69,84],[83,69,84],[83,69,84,78,88],[71,69,84,83,69,84],[71,69,84,68,69,76],[77,71,69,84],[77,83,69,84],[73,78,67,82],[68,69,67,82],[73,78,67,82,66,89],[68,69,67,82,66,89],[73,78,67,82,66,89,70,76,79,65,84],[65,80,80,69,78,68],[83,84,82,76,69,78]]
def Jd7 (sp:Sp):Bool:=Jgl.all fun x=>!(sp.name.toList==x)
theorem Jpb {ws:List ByteArray} (h:Ctx w0 w l r sb S g off (c::ws)) (sp:Sp) (hc:Ku (c::ws)=(sp,ByteArray.empty)) (hm:Jd7 sp=true) (now:Int) (cap:Nat) (hcap:(c::ws).length<=cap) (hcap2:cap<=9223372036854775807):
 Calls Tryz.prog 24 #[ptr sb,.int .i64 now,.slice (some ⟨g,off,none⟩) (c::ws).length cap] w (Jh0 w0 (l++r)):=by
 have H:=h.alloc J4;have hchk:=J3g H.st (H.args.more (x:=l)) cap;rw[hc] at hchk;clear hc;unfold J1c Sp.val K8 at hchk;simp only at hchk
 obtain⟨n,hlen⟩:∃n,(c::ws).length=n:=⟨_,rfl⟩
 have hn:0<n:=by rw[<-hlen];simp only[List.length_cons];omega
 rw[hlen] at hchk hcap⊢;have hn1:(1:Int)<=(n:Int):=by omega
 have hn2:(0:Int)<(n:Int):=by omega
 have hnc:1<=cap:=by omega
 have hnc2:(1:Int)<=(cap:Int):=by omega
 simp only[Jd7,Jgl,List.all_cons,List.all_nil,Bool.and_true,Bool.and_eq_true,Bool.not_eq_true'] at hm;obtain⟨m1,m2,m3,m4,m5,m6,m7,m8,m9,m10,m11,m12,m13,m14⟩:=hm
 replace hlen:=hid hlen;replace hchk:=hid hchk;clear h H;by_cases hc1:cap - 1=0
 all_goals
  go_enter Tryz.func24,Tryz.ntmps24;go_wp2_with fail;refine hchk.out.mono ?_;rintro e w2 ⟨rfl,S2⟩;clear hchk;go_upto_region 2 with fail;have S3:=S2.alloc (.cells #[.string sp.name,.int .i64 sp.kind,.int .i64 sp.least,.int .i64 sp.most,.int .i64 sp.first,.int .i64 sp.last,.int .i64 sp.step] 45);generalize hw3:w2.alloc _=w3;replace S3:J3 w0 [] w3 _:=hw3▸S3;clear hw3 S2;generalize w2.heap.size=b1 at S3⊢;generalize w.heap.size=b at S3⊢;have nm:=J2 S3.own.head 0;simp only[List.getElem?_toArray,List.getElem?_cons_zero] at nm;replace S3:=hid S3;go_upto_region 5 with fail;have S4:=fun o=>S3.out.alloc o
  generalize hw4:w3.alloc _=w4;obtain⟨jo,S4⟩:∃jo,J3 w0 [] w4 ((w3.heap.size,jo)::_):=⟨_,hw4▸S4 _⟩
  clear hw4 S3 nm;generalize w3.heap.size=b2 at S4⊢;have nm:=J2 S4.own.tail.head 0;simp only[List.getElem?_toArray,List.getElem?_cons_zero] at nm
  have S5:J3 w0 [] w4 ((b,J4)::(l++r++[(b2,jo),(b1,.cells #[.string sp.name,.int .i64 sp.kind,.int .i64 sp.least,.int .i64 sp.most,.int .i64 sp.first,.int .i64 sp.last,.int .i64 sp.step] 45 (0,0))])):=S4.permR (J5 fun f=>by
   simp only[SC];omega)
  obtain⟨⟨c0,hc0⟩,⟨c1,hc1⟩,⟨c2,hc2⟩,⟨c3,hc3⟩,⟨c4,hc4⟩,⟨c5,hc5⟩,fz,hlt⟩:=Jl S5.own.head
  have S9:=hid ((((((((S5.set 0 (.int .i64 0)).set 1 (.string ByteArray.empty)).set 2 (.int .i64 0)).set 3 (.float .f64 0)).set 4 (.bool false)).set 5 (.slice none 0 0)).less (List.sublist_cons_self _ _)).less (List.sublist_append_left _ _));clear S4 S5;go_wp2_with fail;refine bodyPost_ret (v:=.tuple #[J7 0 ByteArray.empty 0 (.slice none 0 0),.bool false]) (by simp[results,Tryz.results24,go_sem,J7, *]<;>rfl) rfl ?_
  exact⟨rfl,S9.out⟩
theorem Jwf {ws:List ByteArray} (h:Ctx w0 w l r sb S g off (c::ws)) (sp:Sp) (hc:Ku (c::ws)=(sp,ByteArray.empty)) (hm:Je J2l sp.name=none) (now:Int) (cap:Nat):
 Calls Tryz.prog 25 #[ptr sb,.int .i64 now,.slice (some ⟨g,off,none⟩) (c::ws).length cap] w (Jh0 w0 (l++r)):=by
 have H:=h.alloc J4;have hchk:=J3g H.st (H.args.more (x:=l)) cap;rw[hc] at hchk;clear hc;unfold J1c Sp.val K8 at hchk;simp only at hchk
 obtain⟨n,hlen⟩:∃n,(c::ws).length=n:=⟨_,rfl⟩
 rw[hlen] at hchk⊢;replace hlen:=hid hlen;replace hchk:=hid hchk;replace hm:=hid hm;clear H h;go_enter Tryz.func25,Tryz.ntmps25;go_wp2_with fail;refine hchk.out.mono ?_;rintro e w2 ⟨rfl,S2⟩;clear hchk;go_upto_region 2 with fail;have S3:=S2.alloc (.cells #[.string sp.name,.int .i64 sp.kind,.int .i64 sp.least,.int .i64 sp.most,.int .i64 sp.first,.int .i64 sp.last,.int .i64 sp.step] 45);generalize hw3:w2.alloc _=w3;replace S3:J3 w0 [] w3 _:=hw3▸S3;clear hw3 S2;generalize w2.heap.size=b1 at S3⊢;generalize w.heap.size=b at S3⊢;obtain⟨R,hR⟩:∃R:Hp,R=(b1,.cells #[.string sp.name,.int .i64 sp.kind,.int .i64 sp.least,.int .i64 sp.most,.int .i64 sp.first,.int .i64 sp.last,.int .i64 sp.step] 45 (0,0))::(b,J4)::(l++r):=⟨_,rfl⟩
 have S4:J3 w0 [] w3 R:=S3.permR (J5 fun f=>by
  rw[hR];simp only[SC];omega)
 have hsm:(b1,.cells #[.string sp.name,.int .i64 sp.kind,.int .i64 sp.least,.int .i64 sp.most,.int .i64 sp.first,.int .i64 sp.last,.int .i64 sp.step] 45 (0,0))∈R:=by rw[hR];simp
 have hdoes:∀w',Hid (J3 w0 [] w' R->_):=fun w'=>hid fun hw=>Jj7 hw
 have hs1:Hid (J3 w0 [] w3.drew R):=hid S4.drew;have hx1:Hid (InX w0 R w3.drew):=hid ⟨[],S4.drew⟩;have hkeep:Hid (∀w',Hid (InX w0 R w')->w'.cell? ⟨b1,0,none⟩=some (.string sp.name)/\Hid (InX w0 R w')):=hid fun w' hx=>⟨J2 (InX.get hx hsm) 0,hx⟩
 have hzero:∀w',(zeroValue 113).run Tryz.prog w'= .ok .nilFunc w':=fun w'=>by kernel_rfl
 clear S3 S4 hsm;go_cut [10,11] (fun s10 s11 wc=>s11= .bool false/\Hid (J3 w0 [] wc R))
 case first=>
  go_region_held3 (fun w'=>w'.cell? ⟨b1,0,none⟩=some (.string sp.name)/\Hid (InX w0 R w'))
   (first|(with_reducible exact hkeep.out _ hx1)|(with_reducible exact hkeep.out _ (by assumption))|(fail "keep"))
   (first|(go_at_call 50;refine((hdoes _).out hs1.out).mono ?_;rintro e w4 ⟨mb,o,rfl,hso,S5⟩;have hlk:=J5g (P:=Tryz.prog) (t:=115) Tryz.underlying115 Tryz.underlying9 hzero S5.own.head hso sp.name;rw[hm.out] at hlk;have hx2:Hid (InX w0 R w4):=hid ⟨[(mb,o)],S5⟩;have S6:=hid (S5.less (List.sublist_cons_self _ _));clear S5 hso))
  all_goals (
   go_wp2_with fail;go_meet
   exact⟨rfl,S6⟩)
 case rest=>
  obtain⟨rfl,S5⟩:=hcut
  clear hdoes hs1 hx1 hkeep hzero
  have S6:J3 w0 [] wc ((b,J4)::(l++r++[(b1,.cells #[.string sp.name,.int .i64 sp.kind,.int .i64 sp.least,.int .i64 sp.most,.int .i64 sp.first,.int .i64 sp.last,.int .i64 sp.step] 45 (0,0))])):=S5.out.permR (J5 fun f=>by
   rw[hR];simp only[SC];omega)
  obtain⟨⟨z0,hz0⟩,⟨z1,hz1⟩,⟨z2,hz2⟩,⟨z3,hz3⟩,⟨z4,hz4⟩,⟨z5,hz5⟩,fz,hlt⟩:=Jl S6.own.head
  have S9:=hid ((((((((S6.set 0 (.int .i64 0)).set 1 (.string ByteArray.empty)).set 2 (.int .i64 0)).set 3 (.float .f64 0)).set 4 (.bool false)).set 5 (.slice none 0 0)).less (List.sublist_cons_self _ _)).less (List.sublist_append_left _ _));replace hR:=hid hR;clear S5 S6;go_wp2_with fail;refine bodyPost_ret (v:=.tuple #[J7 0 ByteArray.empty 0 (.slice none 0 0),.bool false]) (by simp[results,Tryz.results25,go_sem,J7, *]<;>rfl) rfl ?_
  exact⟨rfl,S9.out⟩
end Go.Proofs.YtncbcaabanoeoaaGreatDoor
