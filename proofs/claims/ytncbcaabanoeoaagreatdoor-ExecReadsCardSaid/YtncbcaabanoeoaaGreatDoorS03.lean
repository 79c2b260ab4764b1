/-
nearhandref03.Same of two answers that are the same.
-/
import Derived.Test.YtncbcaabanoeoaaGreatDoorR05
set_option linter.unusedVariables false
set_option linter.unusedSimpArgs false
set_option maxRecDepth 100000
set_option maxHeartbeats 8000000
namespace Go.Proofs.YtncbcaabanoeoaaGreatDoor
open Go Go.RowKit
variable {w0 w:World}{r:Hp}
theorem K0w {l L:Hp} (hS:J3 w0 l w L):Calls Tryz.prog 32 #[.float .f64 0] w fun e w'=>e= .returned (.int .u64 0)/\J3 w0 l w' L:=by
 have hb:=Jkw 0 w;replace hS:=hid hS;go_enter Tryz.func32,Tryz.ntmps32;go_wp2_with fail;go_ret;exact⟨rfl,hS.out⟩
structure K1t (w:World) (b:Nat) (kd:Int) (tx:ByteArray) (nn:Int) (lv:Value):Prop where
 c0:w.cell? ⟨b,0,none⟩=some (.int .i64 kd)
 c1:w.cell? ⟨b,1,none⟩=some (.string tx)
 c2:w.cell? ⟨b,2,none⟩=some (.int .i64 nn)
 c3:w.cell? ⟨b,3,none⟩=some (.float .f64 0)
 c4:w.cell? ⟨b,4,none⟩=some (.bool false)
 c5:w.cell? ⟨b,5,none⟩=some lv
theorem K1x {b:Nat} {kd:Int} {tx:ByteArray} {nn:Int} {lv:Value} (h:w.heap[b]? =some (J1e kd tx nn lv)):K1t w b kd tx nn lv:=⟨J2 h 0,J2 h 1,J2 h 2,J2 h 3,J2 h 4,J2 h 5⟩
theorem K0x {L:Hp} {b:Nat} {kd:Int} {tx:ByteArray} {nn:Int} {lv:Value} (h:(b,J1e kd tx nn lv)∈L) (p:InW w0 [] L):K1t p.w b kd tx nn lv:=K1x (p.h.own.at_ _ h)
theorem K14 (hS:J3 w0 [] w r) (a:Lf):
 Calls Tryz.prog 15 #[Ja a,Ja a] w (Kr w0 r (.bool true)):=by
 have S2:=(hS.alloc (J0h a)).alloc (J0h a);rw[World.size_alloc] at S2;clear hS;go_enter Tryz.func15,Tryz.ntmps15;unfold Ja J7;go_upto_region 1 with fail;generalize hw:(w.alloc _).alloc _=w1 at S2⊢;clear hw;generalize w.heap.size=b at S2⊢;obtain⟨L,hL⟩:∃L:Hp,L=(b+1,J0h a)::(b,J0h a)::r:=⟨_,rfl⟩
 rw[<-hL] at S2;have hx:=K0x (w0:=w0) (show(b,J1e a.kind a.text a.n (.slice none 0 0))∈L by rw[hL];simp)
 have hy:=K0x (w0:=w0) (show(b+1,J1e a.kind a.text a.n (.slice none 0 0))∈L by rw[hL];simp)
 have x0:=fun p=>(hx p).c0
 have y0:=fun p=>(hy p).c0
 have x1:=fun p=>(hx p).c1
 have y1:=fun p=>(hy p).c1
 have x2:=fun p=>(hx p).c2
 have y2:=fun p=>(hy p).c2
 have x3:=fun p=>(hx p).c3
 have y3:=fun p=>(hy p).c3
 have x4:=fun p=>(hx p).c4
 have y4:=fun p=>(hy p).c4
 have x5:=fun p=>(hx p).c5
 have y5:=fun p=>(hy p).c5
 clear hx hy;have y0:∀p:InW w0 [] L,p.w.cell? ⟨b+1,0,none⟩=some (.int .i64 a.kind):=fun p=>J2 (p.h.own.at_ (b+1,J0h a) (by rw[hL];simp)) 0
 have y1:∀p:InW w0 [] L,p.w.cell? ⟨b+1,1,none⟩=some (.string a.text):=fun p=>J2 (p.h.own.at_ (b+1,J0h a) (by rw[hL];simp)) 1
 have y2:∀p:InW w0 [] L,p.w.cell? ⟨b+1,2,none⟩=some (.int .i64 a.n):=fun p=>J2 (p.h.own.at_ (b+1,J0h a) (by rw[hL];simp)) 2
 have y3:∀p:InW w0 [] L,p.w.cell? ⟨b+1,3,none⟩=some (.float .f64 0):=fun p=>J2 (p.h.own.at_ (b+1,J0h a) (by rw[hL];simp)) 3
 have y4:∀p:InW w0 [] L,p.w.cell? ⟨b+1,4,none⟩=some (.bool false):=fun p=>J2 (p.h.own.at_ (b+1,J0h a) (by rw[hL];simp)) 4
 have y5:∀p:InW w0 [] L,p.w.cell? ⟨b+1,5,none⟩=some (.slice none 0 0):=fun p=>J2 (p.h.own.at_ (b+1,J0h a) (by rw[hL];simp)) 5
 replace hL:=hid hL;refine J1x S2 (by kernel_rfl) (by kernel_rfl) (fun hne=>?_)
 repeat (go_big_quiet_step ((go_at_call 32;refine Calls.inw (K0w (InW.h _)))))
 refine J73 fun wq hq=>?_
 have z5:wq.cell? ⟨b,5,none⟩=some (.slice none 0 0):=x5 ⟨wq,hq⟩;have hq2:=hq;rw[hL.out] at hq2;have hend:=hid (hq2.less ((List.sublist_cons_self _ _).trans (List.sublist_cons_self _ _)));clear x0 x1 x2 x3 x4 x5 y0 y1 y2 y3 y4 y5 hne hq hq2 S2;go_wp2_with fail;refine wp_loop_rounds 1 ?_;rw[rounds_succ];go_wp2_with fail;go_ret;exact⟨rfl,hend.out⟩
theorem K1e {s1 s2:Hp} {a1 a2:Option Addr} {n c1 c2:Nat} {xs:List Lf} (hS:J3 w0 [] w (s1++(s2++r))) (h1:J3s (.slice a1 n c1) xs s1) (h2:J3s (.slice a2 n c2) xs s2) (hn:n=xs.length) (hB:n<=9223372036854775807) (kd:Int) (tx:ByteArray) (nn:Int):
 Calls Tryz.prog 15 #[J7 kd tx nn (.slice a1 n c1),J7 kd tx nn (.slice a2 n c2)] w (Kr w0 (s1++(s2++r)) (.bool true)):=by
 have S2:=(hS.alloc (J1e kd tx nn (.slice a1 n c1))).alloc (J1e kd tx nn (.slice a2 n c2));rw[World.size_alloc] at S2
 have hview:Hid (0<n->(∃g rest,a1=some ⟨g,0,none⟩/\s1=[(g,.cells (J2x xs++rest).toArray 34 (0,0))])/\∃g rest,a2=some ⟨g,0,none⟩/\s2=[(g,.cells (J2x xs++rest).toArray 34 (0,0))]):=hid fun h0=>by
  obtain⟨g,cap,rest,e1,_,_,e2,_⟩:=h1.view (by omega)
  obtain⟨g',cap',rest',e1',_,_,e2',_⟩:=h2.view (by omega)
  simp only[Value.slice.injEq] at e1 e1';exact⟨⟨g,rest,e1.1,e2⟩,g',rest',e1'.1,e2'⟩
 replace hn:=hid hn;clear hS h1 h2;go_enter Tryz.func15,Tryz.ntmps15;unfold J7;go_upto_region 1 with fail;generalize hw:(w.alloc _).alloc _=w1 at S2⊢;clear hw;generalize w.heap.size=b at S2⊢;obtain⟨L,hL⟩:∃L:Hp,L=(b+1,J1e kd tx nn (.slice a2 n c2))::(b,J1e kd tx nn (.slice a1 n c1))::(s1++(s2++r)):=⟨_,rfl⟩
 rw[<-hL] at S2;have hx:=K0x (w0:=w0) (show(b,J1e kd tx nn (.slice a1 n c1))∈L by rw[hL];simp)
 have hy:=K0x (w0:=w0) (show(b+1,J1e kd tx nn (.slice a2 n c2))∈L by rw[hL];simp)
 have x0:=fun p=>(hx p).c0
 have y0:=fun p=>(hy p).c0
 have x1:=fun p=>(hx p).c1
 have y1:=fun p=>(hy p).c1
 have x2:=fun p=>(hx p).c2
 have y2:=fun p=>(hy p).c2
 have x3:=fun p=>(hx p).c3
 have y3:=fun p=>(hy p).c3
 have x4:=fun p=>(hx p).c4
 have y4:=fun p=>(hy p).c4
 have x5:=fun p=>(hx p).c5
 have y5:=fun p=>(hy p).c5
 clear hx hy;have y0:∀p:InW w0 [] L,p.w.cell? ⟨b+1,0,none⟩=some (.int .i64 kd):=fun p=>J2 (p.h.own.at_ (b+1,J1e kd tx nn (.slice a2 n c2)) (by rw[hL];simp)) 0
 have y1:∀p:InW w0 [] L,p.w.cell? ⟨b+1,1,none⟩=some (.string tx):=fun p=>J2 (p.h.own.at_ (b+1,J1e kd tx nn (.slice a2 n c2)) (by rw[hL];simp)) 1
 have y2:∀p:InW w0 [] L,p.w.cell? ⟨b+1,2,none⟩=some (.int .i64 nn):=fun p=>J2 (p.h.own.at_ (b+1,J1e kd tx nn (.slice a2 n c2)) (by rw[hL];simp)) 2
 have y3:∀p:InW w0 [] L,p.w.cell? ⟨b+1,3,none⟩=some (.float .f64 0):=fun p=>J2 (p.h.own.at_ (b+1,J1e kd tx nn (.slice a2 n c2)) (by rw[hL];simp)) 3
 have y4:∀p:InW w0 [] L,p.w.cell? ⟨b+1,4,none⟩=some (.bool false):=fun p=>J2 (p.h.own.at_ (b+1,J1e kd tx nn (.slice a2 n c2)) (by rw[hL];simp)) 4
 have y5:∀p:InW w0 [] L,p.w.cell? ⟨b+1,5,none⟩=some (.slice a2 n c2):=fun p=>J2 (p.h.own.at_ (b+1,J1e kd tx nn (.slice a2 n c2)) (by rw[hL];simp)) 5
 have hend:Hid (∀wq,J3 w0 [] wq L->J3 w0 [] wq (s1++(s2++r))):=hid fun wq h=>by
  rw[hL] at h;exact h.less ((List.sublist_cons_self _ _).trans (List.sublist_cons_self _ _))
 replace hL:=hid hL;refine J1x S2 (by kernel_rfl) (by kernel_rfl) (fun hne=>?_)
 repeat (go_big_quiet_step ((go_at_call 32;refine Calls.inw (K0w (InW.h _)))))
 refine J73 fun wq hq=>?_
 have z5:wq.cell? ⟨b,5,none⟩=some (.slice a1 n c1):=x5 ⟨wq,hq⟩;replace hq:=hid hq;clear x0 x1 x2 x3 x4 y0 y1 y2 y3 y4 hne S2;have hx5:Hid (∀p:InW w0 [] L,p.w.cell? ⟨b,5,none⟩=some (.slice a1 n c1)):=hid x5;have hy5:Hid (∀p:InW w0 [] L,p.w.cell? ⟨b+1,5,none⟩=some (.slice a2 n c2)):=hid y5;clear x5 y5;go_wp2_with fail;clear z5;go_loopw [5,53] (fun s5 s53 wr=>∃k:Nat,s53= .int .i64 k/\k<=n/\Hid (J3 w0 [] wr L)) (fun s5 s53 wr=>(n - intOf s53).toNat)
 case atStart=>exact⟨0,rfl,Nat.zero_le _,hq⟩
 case round=>
  obtain⟨k,rfl,hk,S3⟩:=hrel
  clear hq;by_cases hlt:k<n
  ·have hlt2:(k:Int)<n:=by omega
   obtain⟨a,ha⟩:∃a,xs[k]? =some a:=⟨xs[k]'(by rw[<-hn.out];exact hlt),List.getElem?_eq_getElem _⟩
   obtain⟨⟨g1,rest1,rfl,e1⟩,g2,rest2,rfl,e2⟩:=hview.out (by omega)
   have x5:=hx5.out;have y5:=hy5.out;have m1:∀p:InW w0 [] L,Jzb p.w g1 k a:=fun p=>K08 (p.h.own.at_ (g1,.cells (J2x xs++rest1).toArray 34 (0,0)) (by rw[hL.out,e1];simp)) ha
   have m2:∀p:InW w0 [] L,Jzb p.w g2 k a:=fun p=>K08 (p.h.own.at_ (g2,.cells (J2x xs++rest2).toArray 34 (0,0)) (by rw[hL.out,e2];simp)) ha
   have u0:=fun p=>(m1 p).c0
   have v0:=fun p=>(m2 p).c0
   have u1:=fun p=>(m1 p).c1
   have v1:=fun p=>(m2 p).c1
   have u2:=fun p=>(m1 p).c2
   have v2:=fun p=>(m2 p).c2
   have u3:=fun p=>(m1 p).c3
   have v3:=fun p=>(m2 p).c3
   have u4:=fun p=>(m1 p).c4
   have v4:=fun p=>(m2 p).c4
   have u5:=fun p=>(m1 p).c5
   have v5:=fun p=>(m2 p).c5
   clear m1 m2 ha e1 e2;go_wp2_with fail;refine J1x S3.out (by kernel_rfl) (by kernel_rfl) (fun hne=>?_)
   repeat (go_big_quiet_step ((go_at_call 15;refine Calls.inw (K14 (InW.h _) a))))
   refine J73 fun wq hq=>?_
   replace hq:=hid hq;clear x5 y5 u0 u1 u2 u3 u4 u5 v0 v1 v2 v3 v4 v5 hne S3;go_wp2_with fail;go_roundw
   case rel=>exact⟨k+1,by go_num,hlt,hq⟩
   case measure=>simp[intOf];omega
  ·obtain rfl:k=n:=by omega
   have hge:¬(k:Int)<k:=by omega
   have hfin:=hid (hend.out wr S3.out);go_wp2_with fail;go_ret;exact⟨rfl,hfin.out⟩
theorem K0r {x sl:Hp} {a:Option Addr} {c:Nat} {fs:Fs} (h:Jj (.slice a fs.length c) fs sl) (hS:J3 w0 [] w (x++(sl++r))) {k:Nat} {p:ByteArray×ByteArray} (hp:fs[k]? =some p):∃g,a=some ⟨g,0,none⟩/\w.cell? ⟨g,k*2,none⟩=some (.string p.1)/\w.cell? ⟨g,k*2+1,none⟩=some (.string p.2):=by
 have hc:=J1q fs k p hp;rw[Nat.mul_comm] at hc;obtain⟨g,h1,h2⟩:=Ja0 h.sl hS hc.1
 obtain⟨g2,h3,h4⟩:=Ja0 h.sl hS hc.2
 obtain rfl:g=g2:=by rw[h1] at h3;simpa using h3
 exact⟨g,h1,h2,h4⟩
theorem K1f {s1 s2:Hp} {v1 v2:Value} {fs:Fs} (hS:J3 w0 [] w (s1++(s2++r))) (h1:Jj v1 fs s1) (h2:Jj v2 fs s2) (hB:fs.length<=1048576) (kind:Int) (text:ByteArray):
 Calls Tryz.prog 17 #[J6 kind text v1,J6 kind text v2] w (Kr w0 (s1++(s2++r)) (.bool true)):=by
 obtain⟨a1,c1,rfl⟩:=h1.shape
 obtain⟨a2,c2,rfl⟩:=h2.shape
 have S2:=(hS.alloc (Jb kind text (.slice a1 fs.length c1))).alloc (Jb kind text (.slice a2 fs.length c2));rw[World.size_alloc] at S2
 have hf:Hid (∀(w':World) (x:Hp),J3 w0 [] w' (x++(s1++(s2++r)))->∀k p,fs[k]? =some p->(∃g,a1=some ⟨g,0,none⟩/\w'.cell? ⟨g,k*2,none⟩=some (.string p.1)/\w'.cell? ⟨g,k*2+1,none⟩=some (.string p.2))/\∃g,a2=some ⟨g,0,none⟩/\w'.cell? ⟨g,k*2,none⟩=some (.string p.1)/\w'.cell? ⟨g,k*2+1,none⟩=some (.string p.2)):=hid fun w' x h k p hp=>
  ⟨K0r h1 h hp,K0r (x:=x++s1) h2 (by rw[List.append_assoc];exact h) hp⟩
 obtain⟨n,hn⟩:∃n,n=fs.length:=⟨_,rfl⟩
 rw[<-hn] at S2 hB⊢;replace hn:=hid hn;clear hS h1 h2;go_enter Tryz.func17,Tryz.ntmps17;unfold J6;go_upto_region 1 with fail;generalize hw:(w.alloc _).alloc _=w1 at S2⊢;clear hw;generalize w.heap.size=b at S2⊢;have x0:w1.cell? ⟨b,0,none⟩=some (.int .i64 kind):=J2 S2.own.tail.head 0;have x1:w1.cell? ⟨b,1,none⟩=some (.string text):=J2 S2.own.tail.head 1;have x2:w1.cell? ⟨b,2,none⟩=some (.slice a1 n c1):=J2 S2.own.tail.head 2;have y0:w1.cell? ⟨b+1,0,none⟩=some (.int .i64 kind):=J2 S2.own.head 0;have y1:w1.cell? ⟨b+1,1,none⟩=some (.string text):=J2 S2.own.head 1;have y2:w1.cell? ⟨b+1,2,none⟩=some (.slice a2 n c2):=J2 S2.own.head 2;replace S2:=hid S2;go_wp2_with fail;clear x0 x1 x2 y0 y1 y2;go_loopw [5,30] (fun s5 s30 wr=>∃k:Nat,s30= .int .i64 k/\k<=n/\Hid (J3 w0 [] wr ((b+1,Jb kind text (.slice a2 n c2))::(b,Jb kind text (.slice a1 n c1))::(s1++(s2++r))))) (fun s5 s30 wr=>(n - intOf s30).toNat)
 case atStart=>exact⟨0,rfl,Nat.zero_le _,S2⟩
 case round=>
  obtain⟨k,rfl,hk,S3⟩:=hrel
  clear S2;by_cases hlt:k<n
  ·have hlt2:(k:Int)<n:=by omega
   obtain⟨p,hp⟩:∃p,fs[k]? =some p:=⟨fs[k]'(by rw[<-hn.out];exact hlt),List.getElem?_eq_getElem _⟩
   obtain⟨⟨g1,rfl,p0,p1⟩,g2,rfl,q0,q1⟩:=hf.out wr [_,_] S3.out k p hp
   have x2:wr.cell? ⟨b,2,none⟩=some (.slice (some ⟨g1,0,none⟩) n c1):=J2 S3.out.own.tail.head 2;have y2:wr.cell? ⟨b+1,2,none⟩=some (.slice (some ⟨g2,0,none⟩) n c2):=J2 S3.out.own.head 2;clear hp;go_wp2_with fail;go_big_quiet (fail)
   go_wp2_with fail;go_roundw
   case rel=>exact⟨k+1,by go_num,hlt,hid (S3.out.drewN _)⟩
   case measure=>simp[intOf];omega
  ·obtain rfl:k=n:=by omega
   have hge:¬(k:Int)<k:=by omega
   have hend:=hid (S3.out.less ((List.sublist_cons_self _ _).trans (List.sublist_cons_self _ _)));go_wp2_with fail;go_ret;exact⟨rfl,hend.out⟩
end Go.Proofs.YtncbcaabanoeoaaGreatDoor
