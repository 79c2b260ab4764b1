/-
nearhandref17.Check: the command of words, or what is wrong.
-/
import Derived.Deep.CutBlock
import Derived.Deep.DeepCutAuto
import Derived.Test.YtncbcaabanoeoaaGreatDoorQ21
import Derived.Test.YtncbcaabanoeoaaGreatDoorR01
set_option linter.unusedVariables false
set_option linter.unusedSimpArgs false
set_option maxRecDepth 100000
set_option maxHeartbeats 8000000
namespace Go.Proofs.YtncbcaabanoeoaaGreatDoor
open Go Go.RowKit
variable {w w0:World}{r:Hp}
theorem K0c (s:ByteArray):(Jeq s).size=s.size:=by
 show(s.data.toList.map J83).toArray.size=s.data.size
 rw[List.size_toArray,List.length_map,Array.length_toList]
theorem J1 (name:ByteArray) (n:Nat):(Jah name n=true/\((name.toList=[77,83,69,84]/\(n:Int)%2=0)\/(¬name.toList=[77,83,69,84]/\name.toList=[72,83,69,84]/\(n:Int)%2=1)))\/
 (Jah name n=false/\((name.toList=[77,83,69,84]/\(n:Int)%2=1)\/(¬name.toList=[77,83,69,84]/\name.toList=[72,83,69,84]/\(n:Int)%2=0)\/(¬name.toList=[77,83,69,84]/\¬name.toList=[72,83,69,84]))):=by
 have ht:(n:Int).tmod 2=(n:Int)%2:=Int.tmod_eq_emod_of_nonneg (by omega)
 unfold Jah;rw[ht];by_cases h1:name.toList=[77,83,69,84]
 ·by_cases h2:(n:Int)%2=0
  ·exact .inl ⟨by simp[h1,h2],.inl ⟨h1,h2⟩⟩
  ·exact .inr ⟨by simp[h1,h2],.inl ⟨h1,by omega⟩⟩
 ·by_cases h3:name.toList=[72,83,69,84]
  ·by_cases h2:(n:Int)%2=0
   ·exact .inr ⟨by simp[h3,h2],.inr (.inl ⟨h1,h3,h2⟩)⟩
   ·have h4:(n:Int)%2=1:=by omega
    exact .inl ⟨by simp[h3,h4],.inr ⟨h1,h3,h4⟩⟩
  ·exact .inr ⟨by simp[h1,h3],.inr (.inr ⟨h1,h3⟩)⟩
theorem J0 {b:Nat} (h:w.heap[b]? =some Ky):K0e w b ⟨ByteArray.empty,0,0,0,0,0,0⟩:=K0f h
theorem Jam (hS:J3 w0 [] w r):J3 w0 [] ((w.alloc (.cells #[.string ⟨#[]⟩,.int .i64 0,.int .i64 0,.int .i64 0,.int .i64 0,.int .i64 0,.int .i64 0] 45)).alloc (.cells #[.string ⟨#[]⟩,.int .i64 0,.int .i64 0,.int .i64 0,.int .i64 0,.int .i64 0,.int .i64 0] 45)) ((w.heap.size,Ky)::(w.heap.size+1,Ky)::r):=by
 have S1:=(hS.alloc Ky).alloc Ky;simp only[World.size_alloc] at S1;exact S1.permR (List.Perm.swap _ _ _)
theorem Jn5 (hS:J3 w0 [] w r) (a:Option Addr) (c:Nat):
 Calls Tryz.prog 11 #[.slice a 0 c] w (J1c w0 r (Ku [])):=by
 have S1:=Jam hS;clear hS;go_enter Tryz.func11,Tryz.ntmps11;go_upto_region 2 with fail;generalize hw1:(w.alloc _).alloc _=w1 at S1⊢;clear hw1;generalize w.heap.size=b at S1⊢;obtain⟨⟨x0,hx0⟩,⟨x1,hx1⟩,⟨x2,hx2⟩,⟨x3,hx3⟩,⟨x4,hx4⟩,⟨x5,hx5⟩,⟨x6,hx6⟩,fz,hb⟩:=J3v S1.own.head
 obtain⟨z0,z1,z2,z3,z4,z5,z6⟩:=J0 S1.own.tail.head
 simp only at z0 z1 z2 z3 z4 z5 z6
 have S2:=hid ((S1.setSp Jw).less ((List.sublist_cons_self _ _).trans (List.sublist_cons_self _ _)));have hbl:=Jf S1.own.tail.head;unfold Jw at S2;clear S1;go_wp2_with fail;refine bodyPost_ret (v:=.tuple #[Jw.val,.string J22]) (by simp[results,Tryz.results11,go_sem,Sp.val,K8,Jw,J22, *]<;>rfl) rfl ?_
 exact⟨rfl,S2.out⟩
theorem Jkm (hS:J3 w0 [] w r) {g off:Nat} {c:ByteArray} {ws:List ByteArray} (hA:J2h w0 r g off (c::ws)) (hc:c.size<=100000) (cap:Nat):
 Calls Tryz.prog 11 #[.slice (some ⟨g,off,none⟩) (c::ws).length cap] w (J1c w0 r (Ku (c::ws))):=by
 have S1:=Jam hS;have hn:(0:Int)<(((c::ws).length:Nat):Int):=by simp only[List.length_cons];omega
 have hfew:=hA.few
 have hchk:Hid (Ku (c::ws)=_):=hid (show Ku (c::ws)=(match J5l c with
  |none=>(Jw,J00)
  |some s=>if(((c::ws).length:Nat):Int)<s.least\/s.most<(((c::ws).length:Nat):Int)\/Jah s.name ((c::ws).length:Nat)=true then(Jw,J1a++⟨(Lib.toLowerA s.name.data.toList).toArray⟩) else(s,ByteArray.empty)) from rfl)
 generalize hn2:(c::ws).length=n at hn hfew hchk⊢;generalize Ku (c::ws)=res at hchk⊢;have hnz:(((n:Nat):Int)==0)=false:=by simp;omega
 have hargs:=hid hA;clear hn2 hS hA;go_enter Tryz.func11,Tryz.ntmps11;go_upto_region 2 with fail;generalize hw1:(w.alloc _).alloc _=w1 at S1⊢;clear hw1;generalize w.heap.size=b at S1⊢;have hcell:w1.cell? ⟨g,off,none⟩=some (.string c):=hargs.out.at_ w1 [_,_] S1 0 c rfl
 have hlt:g<w1.heap.size:=by
  have:=hcell
  unfold World.cell? at this;cases hh:w1.heap[g]? with
  |none=>rw[hh] at this;cases this
  |some o=>exact Jf hh
 have hfind:=hid (Jrl S1 c hc);clear S1;cases hf:J5l c with
 |none=>
  rw[hf] at hfind hchk;have hres:=hid hchk.out;simp only at hres
  clear hf hchk;unfold Jax at hfind;simp only[Option.getD_none,Option.isSome_none] at hfind;unfold Sp.val K8 Jw at hfind;go_wp2_with fail;refine hfind.out.mono ?_;rintro e w2 ⟨rfl,S2⟩;clear hfind hcell;go_upto_region 5 with fail;have S3:=(S2.alloc Ky).permR (l2:=(b,Ky)::(b+1,Ky)::(w2.heap.size,Ky)::r) (J5 fun f=>by simp only[List.map_cons,List.sum_cons];omega)
  generalize hw3:w2.alloc _=w3 at S3⊢;clear hw3;generalize w2.heap.size=b3 at S2 S3⊢;obtain⟨⟨x0,hx0⟩,⟨x1,hx1⟩,⟨x2,hx2⟩,⟨x3,hx3⟩,⟨x4,hx4⟩,⟨x5,hx5⟩,⟨x6,hx6⟩,fz,hb⟩:=J3v S3.own.head
  obtain⟨z0,z1,z2,z3,z4,z5,z6⟩:=J0 S3.own.tail.head
  simp only at z0 z1 z2 z3 z4 z5 z6
  have hbl:=Jf S3.own.tail.head;have S4:=hid ((S3.setSp Jw).less ((List.sublist_cons_self _ _).trans ((List.sublist_cons_self _ _).trans (List.sublist_cons_self _ _))));unfold Jw at S4;clear S2 S3;go_wp2_with fail;refine bodyPost_ret (v:=.tuple #[Jw.val,.string J00]) (by simp[results,Tryz.results11,go_sem,Sp.val,K8,Jw,J00, *]<;>rfl) rfl ?_
  rw[hres.out];exact⟨rfl,S4.out⟩
 |some s=>
  rw[hf] at hfind hchk;obtain⟨hmem,hnm⟩:=J98 hf
  obtain⟨hsz,hasc⟩:=J68 s hmem
  have hlw:=Jnc hmem;simp only at hchk
  clear hf hasc hmem hnm;unfold Jax at hfind;simp only[Option.getD_some,Option.isSome_some] at hfind;rw[<-hlw] at hchk;clear hlw;unfold Sp.val K8 at hfind;obtain⟨name,kind,least,most,first,last,step⟩:=s
  simp only at hfind hchk hsz
  have hnsz:name.size<=100000:=by omega
  have hls:(Jeq name).size<=20:=by rw[K0c];exact hsz
  go_wp2_with fail;refine hfind.out.mono ?_;rintro e w2 ⟨rfl,S2⟩;clear hfind hcell;go_upto_region 5 with fail;have S3:=(S2.alloc (J2k ⟨name,kind,least,most,first,last,step⟩)).permR (l2:=(b,Ky)::(b+1,Ky)::(w2.heap.size,J2k ⟨name,kind,least,most,first,last,step⟩)::r) (J5 fun f=>by simp only[List.map_cons,List.sum_cons];omega)
  generalize hw3:w2.alloc _=w3 at S3⊢;clear hw3;generalize w2.heap.size=b3 at S2 S3⊢;clear S2;obtain⟨L,hL⟩:∃L:Hp,L=(b,Ky)::(b+1,Ky)::(b3,J2k ⟨name,kind,least,most,first,last,step⟩)::r:=⟨_,rfl⟩
  have hfacts:Hid (∀wq,J3 w0 [] wq L->Jgv wq b/\K0e wq (b+1) ⟨ByteArray.empty,0,0,0,0,0,0⟩/\wq.cell? ⟨b3,0,none⟩=some (.string name)):=hid fun wq h=>by
   rw[hL] at h;exact⟨J3v h.own.head,J0 h.own.tail.head,J2 h.own.tail.tail.head 0⟩
  have hlow:Hid (∀wq,J3 w0 [] wq L->Calls Tryz.prog 28 #[.string name] wq (Kr w0 L (.string (Jeq name)))):=hid fun wq h=>Jer h name hnsz
  have S4:=S3;rw[<-hL] at S3;have hwrong:=hid (fun (wq:World) (h:J3 w0 [] wq ((b,Ky)::(b+1,Ky)::(b3,J2k ⟨name,kind,least,most,first,last,step⟩)::r))=>(h.setSp Jw).less ((List.sublist_cons_self _ _).trans ((List.sublist_cons_self _ _).trans (List.sublist_cons_self _ _))))
  have hright:=hid ((S4.setSp ⟨name,kind,least,most,first,last,step⟩).less ((List.sublist_cons_self _ _).trans ((List.sublist_cons_self _ _).trans (List.sublist_cons_self _ _))));unfold Jw at hwrong;obtain⟨⟨x0,hx0⟩,⟨x1,hx1⟩,⟨x2,hx2⟩,⟨x3,hx3⟩,⟨x4,hx4⟩,⟨x5,hx5⟩,⟨x6,hx6⟩,fz,hb⟩:=J3v S4.own.head
  obtain⟨y0,y1,y2,y3,y4,y5,y6⟩:=K0f S4.own.tail.tail.head
  simp only at y0 y1 y2 y3 y4 y5 y6
  have hb3:=Jf S4.own.tail.tail.head
  have hne3:b≠b3:=by
   have:=S4.own.nd
   simp only[J0y,List.nodup_cons,List.mem_cons,not_or] at this;exact this.1.2.1
  replace hL:=hid hL;replace S3:=hid S3;clear S4;have hw3:Hid (∃w9,w9=w3):=hid ⟨_,rfl⟩;obtain⟨odd,hodd⟩:∃x,x=Jah name n:=⟨_,rfl⟩
  rw[<-hodd] at hchk;have hcase:=J1 name n;rw[<-hodd] at hcase;replace hodd:=hid hodd;replace hcase:=hid hcase;go_upto_region 7 with fail;go_cut [7] from 23 to 42 (fun s7 wx=>s7= .bool odd/\w3=wx)
  case first=>
   rcases hcase.out with⟨rfl,h⟩|⟨rfl,h⟩
   ·rcases h with⟨m1,m2⟩|⟨m1,m3,m2⟩
    all_goals
     go_wp2_with fail;go_meet
     exact⟨rfl,rfl⟩
   ·rcases h with⟨m1,m2⟩|⟨m1,m3,m2⟩|⟨m1,m3⟩
    all_goals
     go_wp2_with fail;go_meet
     exact⟨rfl,rfl⟩
  case rest=>
   obtain⟨hcs,hcw⟩:=hcut
   subst hcs;subst hcw;clear hcase;obtain⟨bad,hbad⟩:∃x,x=decide ((n:Int)<least\/most<(n:Int)\/odd=true):=⟨_,rfl⟩
   replace hbad:=hid hbad;go_upto_region 8 with fail;go_cut [57] from 43 to 57 (fun s57 wx=>s57= .bool bad/\w3=wx)
   case first=>
    by_cases h1:(n:Int)<least
    ·have hb:=hbad.out
     rw[decide_eq_true (.inl h1)] at hb;subst hb;cases odd
     all_goals
      go_wp2_with fail;go_meet
      exact⟨rfl,rfl⟩
    ·by_cases h2:most<(n:Int)
     ·have hb:=hbad.out
      rw[decide_eq_true (.inr (.inl h2))] at hb;subst hb;cases odd
      all_goals
       go_wp2_with fail;go_meet
       exact⟨rfl,rfl⟩
     ·have hb:=hbad.out
      rw[show decide ((n:Int)<least\/most<(n:Int)\/odd=true)=odd by simp[h1,h2]] at hb
      subst hb;cases bad
      all_goals
       go_wp2_with fail;go_meet
       exact⟨rfl,rfl⟩
   case rest=>
    obtain⟨hcs,hcw⟩:=hcut
    subst hcs;subst hcw;cases bad with
    |true=>
     have hres:=hid hchk.out;rw[if_pos (of_decide_eq_true hbad.out.symm)] at hres;obtain⟨_,⟨n0,n1,n2,n3,n4,n5,n6⟩,_⟩:=hfacts.out _ S3.out
     simp only at n0 n1 n2 n3 n4 n5 n6
     have hs1:=hid S3.out.drew;clear hright S3 hchk;go_upto_region 9 with fail;go_region_with (go_at_call 28;refine(hlow.out _ hs1.out).mono ?_;rintro e w4 ⟨rfl,S5⟩;obtain⟨⟨⟨u0,hu0⟩,⟨u1,hu1⟩,⟨u2,hu2⟩,⟨u3,hu3⟩,⟨u4,hu4⟩,⟨u5,hu5⟩,⟨u6,hu6⟩,fz4,hb4⟩,⟨m0,m1,m2,m3,m4,m5,m6⟩,m7⟩:=hfacts.out _ S5;simp only at m0 m1 m2 m3 m4 m5 m6;rw[hL.out] at S5;have S6:=hid (hwrong.out _ S5);clear S5)
     all_goals
      go_wp2_with fail;refine bodyPost_ret (v:=.tuple #[Jw.val,.string (J1a++Jeq name)]) (by simp[results,Tryz.results11,go_sem,Sp.val,K8,Jw,J1a, *]<;>rfl) rfl ?_
      rw[hres.out];exact⟨rfl,S6.out⟩
    |false=>
     have hres:=hid hchk.out;rw[if_neg (of_decide_eq_false hbad.out.symm)] at hres;clear hchk;go_wp2_with fail;refine bodyPost_ret (v:=.tuple #[Sp.val ⟨name,kind,least,most,first,last,step⟩,.string ByteArray.empty]) (by simp[results,Tryz.results11,go_sem,Sp.val,K8, *]<;>rfl) rfl ?_
     rw[hres.out];exact⟨rfl,hright.out⟩
end Go.Proofs.YtncbcaabanoeoaaGreatDoor
