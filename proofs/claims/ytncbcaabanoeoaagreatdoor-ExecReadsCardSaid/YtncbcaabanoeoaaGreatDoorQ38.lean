/-
exec.own, a command at a time (printed by gen_own.py; for a seat of exec).
-/
import Derived.Test.YtncbcaabanoeoaaGreatDoorQ36
import Derived.Test.YtncbcaabanoeoaaGreatDoorQ37
set_option linter.unusedVariables false
set_option linter.unusedSimpArgs false
set_option maxRecDepth 100000
set_option maxHeartbeats 8000000
namespace Go.Proofs.YtncbcaabanoeoaaGreatDoor
open Go Go.RowKit
variable {w0 w:World}{B sb g off:Nat}{now:Int}{r l:Hp}{S:St}{k:ByteArray}
abbrev J0b (B sb:Nat) (now:Int):Hp:=[(B+1+1,J4),(B+1,.cells #[.int .i64 now] 2 (0,0)),(B,.cells #[ptr sb] 29 (0,0))]
structure Jzd (w:World) (B sb:Nat) (now:Int):Prop where
 a0:w.cell? ⟨B,0,none⟩=some (ptr sb)
 a1:w.cell? ⟨B+1,0,none⟩=some (.int .i64 now)
theorem J5t {x:Hp} (h:J3 w0 [] w (x++(J0b B sb now++r))):Jzd w B sb now:=
 ⟨J2 (h.own.right.left.at_ (B,.cells #[ptr sb] 29 (0,0)) (by simp)) 0,J2 (h.own.right.left.at_ (B+1,.cells #[.int .i64 now] 2 (0,0)) (by simp)) 0⟩
theorem J5d (h:J3 w0 [] w (l++r)):J3 w0 [] (((w.alloc (.cells #[ptr sb] 29)).alloc (.cells #[.int .i64 now] 2)).alloc J4) (l++(J0b w.heap.size sb now++r)):=by
 have h3:=((h.alloc (.cells #[ptr sb] 29)).alloc (.cells #[.int .i64 now] 2)).alloc J4;simp only[World.size_alloc] at h3;exact h3.permR (J5 fun f=>by simp only[SC];omega)
theorem J5e (h:J3 w0 [] w (l++(J0b B sb now++r))):J3 w0 [] w ((B+1+1,J4)::(l++r++[(B+1,.cells #[.int .i64 now] 2 (0,0)),(B,.cells #[ptr sb] 29 (0,0))])):=
 h.permR (J5 fun f=>by simp only[SC];omega)
theorem J4i {o:Obj} (h:J3 w0 [] w (l++r++[(B+1,.cells #[.int .i64 now] 2 (0,0)),(B,.cells #[ptr sb] 29 (0,0))])):J3 w0 [] w (l++r):=h.less (List.sublist_append_left _ _)
theorem Jej {m:ByteArray} {ws:List ByteArray} (h:Ctx w0 w l r sb S g off (k::m::ws)) (now:Int) (hnow:0<=now/\now<=4611686018427387904) (cap:Nat):
 Calls Tryz.prog 26 #[ptr sb,.int .i64 now,.string ⟨#[69,88,80,73,82,69]⟩,.slice (some ⟨g,off,none⟩) (k::m::ws).length cap] w (Jp w0 r sb (J0f S now k m 1000).1 (Ja (J0f S now k m 1000).2)):=by
 obtain⟨L,hL⟩:∃L:Hp,L=l++(J0b w.heap.size sb now++r):=⟨_,rfl⟩
 have hS:=J5d (sb:=sb) (now:=now) h.st;rw[<-hL] at hS;have hin:∀w',J3 w0 [] w' L->J3 w0 [] w' (l++(J0b w.heap.size sb now++r)):=fun w' q=>by rw[hL] at q;exact q
 have hG:=hid h.gl;have hX:=hid h.is;have hev:=hid h.ev;have hks:=hid (h.args.small k (by simp))
 have hms:=hid (h.args.small m (by simp))
 have harg:∀p:InW w0 [] L,p.w.cell? ⟨g,off,none⟩=some (.string k):=fun p=>h.args.at_ p.w (l++J0b w.heap.size sb now) (by rw[List.append_assoc];exact hin _ p.h) 0 k rfl
 have harg2:∀p:InW w0 [] L,p.w.cell? ⟨g,off+1,none⟩=some (.string m):=fun p=>h.args.at_ p.w (l++J0b w.heap.size sb now) (by rw[List.append_assoc];exact hin _ p.h) 1 m rfl
 have ha0:∀p:InW w0 [] L,p.w.cell? ⟨w.heap.size,0,none⟩=some (ptr sb):=fun p=>(J5t (hin _ p.h)).a0
 have ha1:∀p:InW w0 [] L,p.w.cell? ⟨w.heap.size+1,0,none⟩=some (.int .i64 now):=fun p=>(J5t (hin _ p.h)).a1
 have hn:1<(k::m::ws).length:=by simp only[List.length_cons];omega
 generalize (k::m::ws).length=n at hn⊢;have hn0:0<n:=by omega
 have hn1:(0:Int)<(n:Int):=by omega
 have hn2:(1:Int)<(n:Int):=by omega
 generalize hb:w.heap.size=B at hS hL ha0 ha1;replace hb:=hid hb;replace hS:=hid hS;replace hL:=hid hL;clear h hin;obtain⟨T,hT⟩:∃T,T=(J0f S now k m 1000):=⟨_,rfl⟩
 rw[<-hT];replace hT:=hid hT;replace hnow:=hid hnow;go_enter Tryz.func26,Tryz.ntmps26;go_wp2_with fail;rw[hb.out];generalize hw1:((w.alloc _).alloc _).alloc _=w1;replace hS:J3 w0 [] w1 _:=hw1▸hS.out;clear hw1;refine Jq 8 hS (by kernel_rfl) (by kernel_rfl) (fun hne=>?_)
 simp only[List.take_succ_cons,List.take_zero,List.drop_succ_cons,List.drop_zero];replace hS:=hid hS;repeat (go_big_quiet_step (fail))
 refine J04 fun w7 S10=>?_
 clear harg harg2 ha0 ha1 hne hS;rw[hL.out] at S10;have hcall:=hid (Jc3 (r:=J0b B sb now++r) S10 hG.out hX.out (by have:=hev.out;omega) k m hks.out hms.out now 1000 hnow.out (by decide))
 clear S10;go_wp2_with fail;refine hcall.out.mono ?_;rintro e w8 ⟨rfl,l3,hX3,S11⟩;clear hcall;replace hX3:=hid hX3;replace S11:=J5e S11;have S12:=S11;clear S11;obtain⟨a,ha⟩:∃a,a=(J0f S now k m 1000).2:=⟨_,rfl⟩
 rw[<-ha];replace ha:=hid ha;obtain⟨⟨c0,hc0⟩,⟨c1,hc1⟩,⟨c2,hc2⟩,⟨c3,hc3⟩,⟨c4,hc4⟩,⟨c5,hc5⟩,fz,hlt⟩:=J0d S12.own
 have S13:=hid (J4i (o:=J4) (S12.setLf a));clear S12 hX;unfold Ja J7;go_wp2_with fail;refine bodyPost_ret (v:=Ja a) (by simp[results,Tryz.results26,go_sem,J7,Ja,lfYes,Jm,J44, *]<;>rfl) rfl ?_
 rw[hT.out,<-ha.out];exact⟨rfl,l3,hX3.out,S13.out⟩
theorem Jkb {m:ByteArray} {ws:List ByteArray} (h:Ctx w0 w l r sb S g off (k::m::ws)) (now:Int) (hnow:0<=now/\now<=4611686018427387904) (cap:Nat):
 Calls Tryz.prog 26 #[ptr sb,.int .i64 now,.string ⟨#[80,69,88,80,73,82,69]⟩,.slice (some ⟨g,off,none⟩) (k::m::ws).length cap] w (Jp w0 r sb (J0f S now k m 1).1 (Ja (J0f S now k m 1).2)):=by
 obtain⟨L,hL⟩:∃L:Hp,L=l++(J0b w.heap.size sb now++r):=⟨_,rfl⟩
 have hS:=J5d (sb:=sb) (now:=now) h.st;rw[<-hL] at hS;have hin:∀w',J3 w0 [] w' L->J3 w0 [] w' (l++(J0b w.heap.size sb now++r)):=fun w' q=>by rw[hL] at q;exact q
 have hG:=hid h.gl;have hX:=hid h.is;have hev:=hid h.ev;have hks:=hid (h.args.small k (by simp))
 have hms:=hid (h.args.small m (by simp))
 have harg:∀p:InW w0 [] L,p.w.cell? ⟨g,off,none⟩=some (.string k):=fun p=>h.args.at_ p.w (l++J0b w.heap.size sb now) (by rw[List.append_assoc];exact hin _ p.h) 0 k rfl
 have harg2:∀p:InW w0 [] L,p.w.cell? ⟨g,off+1,none⟩=some (.string m):=fun p=>h.args.at_ p.w (l++J0b w.heap.size sb now) (by rw[List.append_assoc];exact hin _ p.h) 1 m rfl
 have ha0:∀p:InW w0 [] L,p.w.cell? ⟨w.heap.size,0,none⟩=some (ptr sb):=fun p=>(J5t (hin _ p.h)).a0
 have ha1:∀p:InW w0 [] L,p.w.cell? ⟨w.heap.size+1,0,none⟩=some (.int .i64 now):=fun p=>(J5t (hin _ p.h)).a1
 have hn:1<(k::m::ws).length:=by simp only[List.length_cons];omega
 generalize (k::m::ws).length=n at hn⊢;have hn0:0<n:=by omega
 have hn1:(0:Int)<(n:Int):=by omega
 have hn2:(1:Int)<(n:Int):=by omega
 generalize hb:w.heap.size=B at hS hL ha0 ha1;replace hb:=hid hb;replace hS:=hid hS;replace hL:=hid hL;clear h hin;obtain⟨T,hT⟩:∃T,T=(J0f S now k m 1):=⟨_,rfl⟩
 rw[<-hT];replace hT:=hid hT;replace hnow:=hid hnow;go_enter Tryz.func26,Tryz.ntmps26;go_wp2_with fail;rw[hb.out];generalize hw1:((w.alloc _).alloc _).alloc _=w1;replace hS:J3 w0 [] w1 _:=hw1▸hS.out;clear hw1;refine Jq 8 hS (by kernel_rfl) (by kernel_rfl) (fun hne=>?_)
 simp only[List.take_succ_cons,List.take_zero,List.drop_succ_cons,List.drop_zero];replace hS:=hid hS;repeat (go_big_quiet_step (fail))
 refine J04 fun w7 S10=>?_
 clear harg harg2 ha0 ha1 hne hS;rw[hL.out] at S10;have hcall:=hid (Jc3 (r:=J0b B sb now++r) S10 hG.out hX.out (by have:=hev.out;omega) k m hks.out hms.out now 1 hnow.out (by decide))
 clear S10;go_wp2_with fail;refine hcall.out.mono ?_;rintro e w8 ⟨rfl,l3,hX3,S11⟩;clear hcall;replace hX3:=hid hX3;replace S11:=J5e S11;have S12:=S11;clear S11;obtain⟨a,ha⟩:∃a,a=(J0f S now k m 1).2:=⟨_,rfl⟩
 rw[<-ha];replace ha:=hid ha;obtain⟨⟨c0,hc0⟩,⟨c1,hc1⟩,⟨c2,hc2⟩,⟨c3,hc3⟩,⟨c4,hc4⟩,⟨c5,hc5⟩,fz,hlt⟩:=J0d S12.own
 have S13:=hid (J4i (o:=J4) (S12.setLf a));clear S12 hX;unfold Ja J7;go_wp2_with fail;refine bodyPost_ret (v:=Ja a) (by simp[results,Tryz.results26,go_sem,J7,Ja,lfYes,Jm,J44, *]<;>rfl) rfl ?_
 rw[hT.out,<-ha.out];exact⟨rfl,l3,hX3.out,S13.out⟩
theorem Jka {ws:List ByteArray} (h:Ctx w0 w l r sb S g off (k::ws)) (now:Int) (hnow:0<=now/\now<=4611686018427387904) (cap:Nat):
 Calls Tryz.prog 26 #[ptr sb,.int .i64 now,.string ⟨#[80,69,82,83,73,83,84]⟩,.slice (some ⟨g,off,none⟩) (k::ws).length cap] w (Jp w0 r sb (Jac S now k).1 (Ja (Jac S now k).2)):=by
 obtain⟨L,hL⟩:∃L:Hp,L=l++(J0b w.heap.size sb now++r):=⟨_,rfl⟩
 have hS:=J5d (sb:=sb) (now:=now) h.st;rw[<-hL] at hS;have hin:∀w',J3 w0 [] w' L->J3 w0 [] w' (l++(J0b w.heap.size sb now++r)):=fun w' q=>by rw[hL] at q;exact q
 have hG:=hid h.gl;have hX:=hid h.is;have hev:=hid h.ev;have hks:=hid (h.args.small k (by simp))
 have harg:∀p:InW w0 [] L,p.w.cell? ⟨g,off,none⟩=some (.string k):=fun p=>h.args.at_ p.w (l++J0b w.heap.size sb now) (by rw[List.append_assoc];exact hin _ p.h) 0 k rfl
 have ha0:∀p:InW w0 [] L,p.w.cell? ⟨w.heap.size,0,none⟩=some (ptr sb):=fun p=>(J5t (hin _ p.h)).a0
 have ha1:∀p:InW w0 [] L,p.w.cell? ⟨w.heap.size+1,0,none⟩=some (.int .i64 now):=fun p=>(J5t (hin _ p.h)).a1
 have hn:0<(k::ws).length:=by simp only[List.length_cons];omega
 generalize (k::ws).length=n at hn⊢;have hn1:(0:Int)<(n:Int):=by omega
 generalize hb:w.heap.size=B at hS hL ha0 ha1;replace hb:=hid hb;replace hS:=hid hS;replace hL:=hid hL;clear h hin;replace hnow:=hid hnow;go_enter Tryz.func26,Tryz.ntmps26;go_wp2_with fail;rw[hb.out];generalize hw1:((w.alloc _).alloc _).alloc _=w1;replace hS:J3 w0 [] w1 _:=hw1▸hS.out;clear hw1;refine Jq 5 hS (by kernel_rfl) (by kernel_rfl) (fun hne=>?_)
 simp only[List.take_succ_cons,List.take_zero,List.drop_succ_cons,List.drop_zero];replace hS:=hid hS;repeat (go_big_quiet_step (fail))
 refine J04 fun w7 S10=>?_
 clear harg ha0 ha1 hne hS;rw[hL.out] at S10;have hcall:=hid (Jkg (r:=J0b B sb now++r) S10 hG.out hX.out (by have:=hev.out;omega) k hks.out now)
 clear S10;go_wp2_with fail;refine hcall.out.mono ?_;rintro e w8 ⟨rfl,l3,hX3,S11⟩;clear hcall;replace hX3:=hid hX3;obtain⟨bb,hbb⟩:∃bb,bb=(Je (S.due k now).D k).isSome:=⟨_,rfl⟩
 rw[<-hbb];replace hbb:=hid hbb;have hthen:=hid (Jpg (J5e S11) bb);clear S11;go_wp2_with fail;refine hthen.out.mono ?_;rintro e w9 ⟨rfl,S12⟩;obtain⟨⟨c0,hc0⟩,⟨c1,hc1⟩,⟨c2,hc2⟩,⟨c3,hc3⟩,⟨c4,hc4⟩,⟨c5,hc5⟩,fz,hlt⟩:=J0d S12.own
 have S13:=hid (J4i (o:=J4) (S12.setLf (lfYes bb)));clear S12 hthen;unfold Ja J7;go_wp2_with fail;refine bodyPost_ret (v:=Ja (lfYes bb)) (by simp[results,Tryz.results26,go_sem,J7,Ja,lfYes,Jm,J44, *]<;>rfl) rfl ?_
 unfold Jac;rw[<-hbb.out];exact⟨rfl,l3,hX3.out,S13.out⟩
theorem Ju9 {ws:List ByteArray} (h:Ctx w0 w l r sb S g off (k::ws)) (now:Int) (hnow:0<=now/\now<=4611686018427387904) (cap:Nat) (hr:∀t,Je (S.due k now).D k=some t-> -9223372036854775808<=t - now/\t - now<=9223372036854775807):
 Calls Tryz.prog 26 #[ptr sb,.int .i64 now,.string ⟨#[80,84,84,76]⟩,.slice (some ⟨g,off,none⟩) (k::ws).length cap] w (Jp w0 r sb (Jof S now k).1 (Ja (Jof S now k).2)):=by
 obtain⟨L,hL⟩:∃L:Hp,L=l++(J0b w.heap.size sb now++r):=⟨_,rfl⟩
 have hS:=J5d (sb:=sb) (now:=now) h.st;rw[<-hL] at hS;have hin:∀w',J3 w0 [] w' L->J3 w0 [] w' (l++(J0b w.heap.size sb now++r)):=fun w' q=>by rw[hL] at q;exact q
 have hG:=hid h.gl;have hX:=hid h.is;have hev:=hid h.ev;have hks:=hid (h.args.small k (by simp))
 have harg:∀p:InW w0 [] L,p.w.cell? ⟨g,off,none⟩=some (.string k):=fun p=>h.args.at_ p.w (l++J0b w.heap.size sb now) (by rw[List.append_assoc];exact hin _ p.h) 0 k rfl
 have ha0:∀p:InW w0 [] L,p.w.cell? ⟨w.heap.size,0,none⟩=some (ptr sb):=fun p=>(J5t (hin _ p.h)).a0
 have ha1:∀p:InW w0 [] L,p.w.cell? ⟨w.heap.size+1,0,none⟩=some (.int .i64 now):=fun p=>(J5t (hin _ p.h)).a1
 have hn:0<(k::ws).length:=by simp only[List.length_cons];omega
 generalize (k::ws).length=n at hn⊢;have hn1:(0:Int)<(n:Int):=by omega
 generalize hb:w.heap.size=B at hS hL ha0 ha1;replace hb:=hid hb;replace hS:=hid hS;replace hL:=hid hL;clear h hin;replace hnow:=hid hnow;replace hr:=hid hr;go_enter Tryz.func26,Tryz.ntmps26;go_wp2_with fail;rw[hb.out];generalize hw1:((w.alloc _).alloc _).alloc _=w1;replace hS:J3 w0 [] w1 _:=hw1▸hS.out;clear hw1;refine Jq 5 hS (by kernel_rfl) (by kernel_rfl) (fun hne=>?_)
 simp only[List.take_succ_cons,List.take_zero,List.drop_succ_cons,List.drop_zero];replace hS:=hid hS;repeat (go_big_quiet_step (fail))
 refine J04 fun w7 S10=>?_
 clear harg ha0 ha1 hne hS;rw[hL.out] at S10;have hcall:=hid (Jpc (r:=J0b B sb now++r) S10 hG.out hX.out (by have:=hev.out;omega) k hks.out now hr.out)
 clear S10;go_wp2_with fail;refine hcall.out.mono ?_;rintro e w8 ⟨rfl,l3,hX3,S11⟩;clear hcall;replace hX3:=hid hX3;obtain⟨n2,hn2⟩:∃n2,n2=(S.due k now).ttl k now:=⟨_,rfl⟩
 rw[<-hn2];replace hn2:=hid hn2;have hthen:=hid (J15 (J5e S11) n2);clear S11;go_wp2_with fail;refine hthen.out.mono ?_;rintro e w9 ⟨rfl,S12⟩;obtain⟨⟨c0,hc0⟩,⟨c1,hc1⟩,⟨c2,hc2⟩,⟨c3,hc3⟩,⟨c4,hc4⟩,⟨c5,hc5⟩,fz,hlt⟩:=J0d S12.own
 have S13:=hid (J4i (o:=J4) (S12.setLf (Jm n2)));clear S12 hthen;unfold Ja J7;go_wp2_with fail;refine bodyPost_ret (v:=Ja (Jm n2)) (by simp[results,Tryz.results26,go_sem,J7,Ja,lfYes,Jm,J44, *]<;>rfl) rfl ?_
 unfold Jof;rw[<-hn2.out];exact⟨rfl,l3,hX3.out,S13.out⟩
theorem Jwy {ws:List ByteArray} (h:Ctx w0 w l r sb S g off (k::ws)) (now:Int) (hnow:0<=now/\now<=4611686018427387904) (cap:Nat) (hr:∀t,Je (S.due k now).D k=some t-> -9223372036854775808<=t - now/\t - now<=9223372036854775807):
 Calls Tryz.prog 26 #[ptr sb,.int .i64 now,.string ⟨#[84,84,76]⟩,.slice (some ⟨g,off,none⟩) (k::ws).length cap] w (Jp w0 r sb (Jw8 S now k).1 (Ja (Jw8 S now k).2)):=by
 have hbd: -9223372036854775808<=(S.due k now).ttl k now/\(S.due k now).ttl k now<=9223372036854775807:=by
  unfold St.ttl;split
  ·omega
  ·split
   ·omega
   ·rename_i t ht;exact hr t ht
 obtain⟨L,hL⟩:∃L:Hp,L=l++(J0b w.heap.size sb now++r):=⟨_,rfl⟩
 have hS:=J5d (sb:=sb) (now:=now) h.st;rw[<-hL] at hS;have hin:∀w',J3 w0 [] w' L->J3 w0 [] w' (l++(J0b w.heap.size sb now++r)):=fun w' q=>by rw[hL] at q;exact q
 have hG:=hid h.gl;have hX:=hid h.is;have hev:=hid h.ev;have hks:=hid (h.args.small k (by simp))
 have harg:∀p:InW w0 [] L,p.w.cell? ⟨g,off,none⟩=some (.string k):=fun p=>h.args.at_ p.w (l++J0b w.heap.size sb now) (by rw[List.append_assoc];exact hin _ p.h) 0 k rfl
 have ha0:∀p:InW w0 [] L,p.w.cell? ⟨w.heap.size,0,none⟩=some (ptr sb):=fun p=>(J5t (hin _ p.h)).a0
 have ha1:∀p:InW w0 [] L,p.w.cell? ⟨w.heap.size+1,0,none⟩=some (.int .i64 now):=fun p=>(J5t (hin _ p.h)).a1
 have hn:0<(k::ws).length:=by simp only[List.length_cons];omega
 generalize (k::ws).length=n at hn⊢;have hn1:(0:Int)<(n:Int):=by omega
 generalize hb:w.heap.size=B at hS hL ha0 ha1;replace hb:=hid hb;replace hS:=hid hS;replace hL:=hid hL;clear h hin;replace hnow:=hid hnow;replace hr:=hid hr;obtain⟨n2,hn2⟩:∃n2,n2=(S.due k now).ttl k now:=⟨_,rfl⟩
 rw[<-hn2] at hbd;obtain⟨hb1,hb2⟩:=hbd
 have hres:Hid (Jw8 S now k=(S.due k now,Jm (Jrt n2))):=hid (by rw[hn2];rfl)
 replace hn2:=hid hn2;go_enter Tryz.func26,Tryz.ntmps26;go_wp2_with fail;rw[hb.out];generalize hw1:((w.alloc _).alloc _).alloc _=w1;replace hS:J3 w0 [] w1 _:=hw1▸hS.out;clear hw1;refine Jq 5 hS (by kernel_rfl) (by kernel_rfl) (fun hne=>?_)
 simp only[List.take_succ_cons,List.take_zero,List.drop_succ_cons,List.drop_zero];replace hS:=hid hS;repeat (go_big_quiet_step (fail))
 refine J04 fun w7 S10=>?_
 clear harg ha0 ha1 hne hS;rw[hL.out] at S10;have hcall:=hid (Jpc (r:=J0b B sb now++r) S10 hG.out hX.out (by have:=hev.out;omega) k hks.out now hr.out)
 clear S10;go_wp2_with fail;refine hcall.out.mono ?_;rintro e w8 ⟨rfl,l3,hX3,S11⟩;clear hcall;replace hX3:=hid hX3;rw[<-hn2.out];by_cases hz:0<n2
 ·have hsec:Hid (Jrt n2=(n2 - 1)/1000+1):=hid (by unfold Jrt;rw[if_pos hz])
  have hd:(n2 - 1).tdiv 1000=(n2 - 1)/1000:=Int.tdiv_eq_ediv_of_nonneg (by omega)
  have hd0:0<=(n2 - 1)/1000:=by omega
  have hd1:(n2 - 1)/1000<=9223372036854775:=by omega
  have hthen:=hid (J15 (J5e S11) ((n2 - 1)/1000+1));clear S11;go_wp2_with fail;refine hthen.out.mono ?_;rintro e w9 ⟨rfl,S12⟩;obtain⟨⟨c0,hc0⟩,⟨c1,hc1⟩,⟨c2,hc2⟩,⟨c3,hc3⟩,⟨c4,hc4⟩,⟨c5,hc5⟩,fz,hlt⟩:=J0d S12.own
  have S13:=hid (J4i (o:=J4) (S12.setLf (Jm ((n2 - 1)/1000+1))));clear S12 hthen;unfold Ja J7;go_wp2_with fail;refine bodyPost_ret (v:=Ja (Jm ((n2 - 1)/1000+1))) (by simp[results,Tryz.results26,go_sem,J7,Ja,lfYes,Jm,J44, *]<;>rfl) rfl ?_
  rw[hres.out,hsec.out];exact⟨rfl,l3,hX3.out,S13.out⟩
 ·have hsec:Hid (Jrt n2=n2):=hid (by unfold Jrt;rw[if_neg hz])
  have hthen:=hid (J15 (J5e S11) n2);clear S11;go_wp2_with fail;refine hthen.out.mono ?_;rintro e w9 ⟨rfl,S12⟩;obtain⟨⟨c0,hc0⟩,⟨c1,hc1⟩,⟨c2,hc2⟩,⟨c3,hc3⟩,⟨c4,hc4⟩,⟨c5,hc5⟩,fz,hlt⟩:=J0d S12.own
  have S13:=hid (J4i (o:=J4) (S12.setLf (Jm n2)));clear S12 hthen;unfold Ja J7;go_wp2_with fail;refine bodyPost_ret (v:=Ja (Jm n2)) (by simp[results,Tryz.results26,go_sem,J7,Ja,lfYes,Jm,J44, *]<;>rfl) rfl ?_
  rw[hres.out,hsec.out];exact⟨rfl,l3,hX3.out,S13.out⟩
theorem Ji2 {ws:List ByteArray} (h:Ctx w0 w l r sb S g off ws) (now:Int) (hnow:0<=now/\now<=4611686018427387904) (cap:Nat):
 Calls Tryz.prog 26 #[ptr sb,.int .i64 now,.string ⟨#[70,76,85,83,72,65,76,76]⟩,.slice (some ⟨g,off,none⟩) ws.length cap] w (Jp w0 r sb (Jm9 S).1 (Ja (Jm9 S).2)):=by
 have hS:=J5d (sb:=sb) (now:=now) h.st;have hX:=hid h.is;have hev:=hid h.ev;generalize ws.length=n;generalize hb:w.heap.size=B at hS;replace hb:=hid hb;replace hS:=hid hS;replace hnow:=hid hnow;clear h;go_enter Tryz.func26,Tryz.ntmps26;go_upto_region 2 with fail;rw[hb.out];generalize hw1:((w.alloc _).alloc _).alloc _=w1;replace hS:J3 w0 [] w1 _:=hw1▸hS.out;clear hw1;obtain⟨a0,a1⟩:=J5t hS
 have hcall:=hid (Jq9 (r:=J0b B sb now++r) hS hX.out (by have:=hev.out;omega))
 clear hS a1;go_wp2_with fail;refine hcall.out.mono ?_;rintro e w8 ⟨rfl,l3,hX3,S11⟩;clear hcall a0;replace hX3:=hid hX3;have hthen:=hid (Jih (J5e S11));clear S11;go_wp2_with fail;refine hthen.out.mono ?_;rintro e w9 ⟨rfl,S12⟩;obtain⟨⟨c0,hc0⟩,⟨c1,hc1⟩,⟨c2,hc2⟩,⟨c3,hc3⟩,⟨c4,hc4⟩,⟨c5,hc5⟩,fz,hlt⟩:=J0d S12.own
 have S13:=hid (J4i (o:=J4) (S12.setLf J44));clear S12 hthen;unfold Ja J7;go_wp2_with fail;refine bodyPost_ret (v:=Ja J44) (by simp[results,Tryz.results26,go_sem,J7,Ja,lfYes,Jm,J44, *]<;>rfl) rfl ?_
 exact⟨rfl,l3,hX3.out,S13.out⟩
def J5z (w0:World) (r:Hp) (sb:Nat) (S:St) (kd:Int) (tx:ByteArray) (nn:Int) (xs:List Lf) (e:Ending) (w':World):Prop:=
 ∃a c ev xl el l',e= .returned (.tuple #[J7 kd tx nn (.slice a xs.length c),ev])/\J3s (.slice a xs.length c) xs xl/\SliceHp 2 41 ev S.ev.length (J1g S.ev) el/\Jh l' sb {S with ev:=[]}/\J3 w0 [] w' (l'++(xl++(el++r)))
def J6v (w0:World) (r:Hp) (sb:Nat) (P:Res->Prop) (e:Ending) (w':World):Prop:=∃o:Res,P o/\J5z w0 r sb o.st o.kd o.tx o.nn o.xs e w'
theorem Jkv {c:ByteArray} {ws:List ByteArray} (h:Ctx w0 w l r sb S g off (c::ws)) (sp:Sp) {wrong tx:ByteArray} (hc:Ku (c::ws)=(sp,wrong)) (hw:¬wrong=ByteArray.empty/\tx=wrong\/wrong=ByteArray.empty/\J3h (sp,ByteArray.empty)=false/\tx=J00) (now:Int) (cap:Nat):
 Calls Tryz.prog 8 #[ptr sb,.int .i64 now,.slice (some ⟨g,off,none⟩) (c::ws).length cap] w (J5z w0 r sb S 2 tx 0 []):=by
 have H:=h.alloc J4;have hchk:=J3g H.st (H.args.more (x:=l)) cap;have hX:=h.is;rw[hc] at hchk;unfold J1c Sp.val K8 at hchk;simp only at hchk
 have his:∀(w':World) (L:Hp),Hid (J3 w0 [] w' (L++r))->Hid (Calls _ _ _ w' _):=fun w' L hS=>hid (Jop hS.out (h.args.more (x:=L)) cap)
 rw[hc] at his;clear hc;generalize (c::ws).length=n at hchk his⊢;replace hchk:=hid hchk;clear h H;go_enter Tryz.func8,Tryz.ntmps8;go_wp2_with fail;refine hchk.out.mono ?_;rintro e w2 ⟨rfl,S2⟩;clear hchk;generalize w.heap.size=b at S2⊢;go_upto_region 2 with fail;have S3:=S2.alloc (.cells #[.string sp.name,.int .i64 sp.kind,.int .i64 sp.least,.int .i64 sp.most,.int .i64 sp.first,.int .i64 sp.last,.int .i64 sp.step] 45);generalize hw3:w2.alloc _=w3;replace S3:J3 w0 [] w3 ((w2.heap.size,J14 sp)::_):=hw3▸S3;clear hw3 S2;generalize w2.heap.size=b1 at S3⊢;replace S3:J3 w0 [] w3 ([(b1,J14 sp),(b,J4)]++l++r):=S3.permR (J5 fun f=>by simp only[SC];omega)
 have hL:∀w',J3 w0 [] w' ([(b1,J14 sp),(b,J4)]++l++r)->J3 w0 [] w' (l++((b,J4)::(b1,J14 sp)::r)):=fun w' h=>h.permR (J5 fun f=>by simp only[SC];omega)
 replace hL:=hid hL;rcases hw with⟨hw,htx⟩|⟨rfl,hk,htx⟩
 case' inl=>
  have hw1:¬wrong.toList=[]:=fun h=>hw (Jaz.1 h)
  have hw2:wrong.toList.isEmpty=false:=by simpa using hw1
  have hf:=hid (J4z S3 wrong);clear hw S3 his;go_wp2_with fail;refine hf.out.mono ?_
 case' inr=>
  have hi:=his w3 ([(b1,J14 sp),(b,J4)]++l) (hid S3);rw[hk] at hi;clear his S3;go_wp2_with fail;refine hi.out.mono ?_;rintro e w4 ⟨rfl,S4⟩;have hf:=hid (J4z S4 J00);unfold J00 at hf;clear hi S4;go_wp2_with fail;refine hf.out.mono ?_
 all_goals
  rintro e w5 ⟨rfl,S5⟩;have hev:=hid (J9n (hL.out w5 S5) hX);clear hf S5 hX hL;try replace htx:tx=⟨#[69,82,82,32,117,110,107,110,111,119,110,32,99,111,109,109,97,110,100]⟩:=htx
  rw[<-htx];replace htx:=hid htx;unfold J7;go_wp2_with fail;refine hev.out.mono ?_;rintro e w6 ⟨ev,vl,l3,rfl,hsv,hX3,S6⟩;replace S6:J3 w0 [] w6 ((b,J4)::(l3++(vl++((b1,J14 sp)::r)))):=S6.permR (J5 fun f=>by simp only[SC];omega)
  obtain⟨⟨c0,hc0⟩,⟨c1,hc1⟩,⟨c2,hc2⟩,⟨c3,hc3⟩,⟨c4,hc4⟩,⟨c5,hc5⟩,fz,hlt⟩:=Jl S6.own.head
  have S7:J3 w0 [] _ ((b,J1e 2 tx 0 (.slice none 0 0))::_):=S6.setVal 2 tx 0 (.slice none 0 0);have S9:=hid (S7.pick (l2:=l3++(vl++r)) (m:=[(b,J1e 2 tx 0 (.slice none 0 0)),(b1,J14 sp)]) (J5 fun f=>by simp only[SC];omega))
  replace hsv:=hid hsv;replace hX3:=hid hX3;clear hev S6 S7;go_wp2_with fail;refine bodyPost_ret (v:=.tuple #[J7 2 tx 0 (.slice none 0 0),ev]) (by simp[results,Tryz.results8,go_sem,J7, *]<;>rfl) rfl ?_
  exact⟨none,0,ev,[],vl,l3,rfl,.nil,hsv.out,hX3.out,S9.out⟩
theorem Ji7 {P:Res->Prop} {c:ByteArray} {ws:List ByteArray} (h:Ctx w0 w l r sb S g off (c::ws)) (sp:Sp) (hc:Ku (c::ws)=(sp,ByteArray.empty)) (hk:J3h (sp,ByteArray.empty)=true) (now:Int) (cap:Nat) (hcap:(c::ws).length<=cap)
 (hdo:(∀(w':World) (x:Hp),J3 w0 [] w' (l++(x++r))->Calls Tryz.prog 24 #[ptr sb,.int .i64 now,.slice (some ⟨g,off,none⟩) (c::ws).length cap] w' (Jgw w0 (x++r) sb P))\/
 (∀(w':World) (x:Hp),J3 w0 [] w' (l++(x++r))->Calls Tryz.prog 24 #[ptr sb,.int .i64 now,.slice (some ⟨g,off,none⟩) (c::ws).length cap] w' (Jh0 w0 (l++(x++r))))/\
 ((∀(w':World) (x:Hp),J3 w0 [] w' (l++(x++r))->Calls Tryz.prog 25 #[ptr sb,.int .i64 now,.slice (some ⟨g,off,none⟩) (c::ws).length cap] w' (Jgw w0 (x++r) sb P))\/
 (∀(w':World) (x:Hp),J3 w0 [] w' (l++(x++r))->Calls Tryz.prog 25 #[ptr sb,.int .i64 now,.slice (some ⟨g,off,none⟩) (c::ws).length cap] w' (Jh0 w0 (l++(x++r))))/\
  ∀(w':World) (x:Hp) (q:Nat),(ws≠[]->q=off+1)->J3 w0 [] w' (l++(x++r))->Calls Tryz.prog 26 #[ptr sb,.int .i64 now,.string sp.name,.slice (some ⟨g,q,none⟩) ws.length (cap - 1)] w' (J2w w0 (x++r) sb P))):
  Calls Tryz.prog 8 #[ptr sb,.int .i64 now,.slice (some ⟨g,off,none⟩) (c::ws).length cap] w (J6v w0 r sb P):=by
  have H:=h.alloc J4;have hchk:=J3g H.st (H.args.more (x:=l)) cap;rw[hc] at hchk;unfold J1c Sp.val K8 at hchk;simp only at hchk
  have his:∀(w':World) (L:Hp),Hid (J3 w0 [] w' (L++r))->Hid (Calls _ _ _ w' _):=fun w' L hS=>hid (Jop hS.out (h.args.more (x:=L)) cap)
  rw[hc,hk] at his;clear hc hk;obtain⟨n,hlen⟩:∃n,(c::ws).length=n:=⟨_,rfl⟩
  have hws:ws.length=n - 1:=by rw[<-hlen];simp only[List.length_cons];omega
  rw[hlen] at hchk his hdo hcap⊢;rw[hws] at hdo;have hn:0<n:=by rw[<-hlen];simp only[List.length_cons];omega
  have hn1:(1:Int)<=(n:Int):=by omega
  replace hlen:=hid hlen;replace hws:=hid hws;replace hchk:=hid hchk;replace hdo:=hid hdo;clear h H;go_enter Tryz.func8,Tryz.ntmps8;go_wp2_with fail;refine hchk.out.mono ?_;rintro e w2 ⟨rfl,S2⟩;clear hchk;generalize w.heap.size=b at S2⊢;go_upto_region 2 with fail;have S3:=S2.alloc (.cells #[.string sp.name,.int .i64 sp.kind,.int .i64 sp.least,.int .i64 sp.most,.int .i64 sp.first,.int .i64 sp.last,.int .i64 sp.step] 45);generalize hw3:w2.alloc _=w3;replace S3:J3 w0 [] w3 ((w2.heap.size,J14 sp)::_):=hw3▸S3;clear hw3 S2;generalize w2.heap.size=b1 at S3⊢;have hi:=his w3 ([(b1,J14 sp),(b,J4)]++l) (hid (S3.permR (J5 fun f=>by simp only[SC];omega)))
  clear his;replace S3:=hid S3;go_wp2_with fail;refine hi.out.mono ?_;rintro e w4 ⟨rfl,S4⟩;clear hi S3;replace S4:J3 w0 [] w4 (l++([(b1,J14 sp),(b,J4)]++r)):=S4.permR (J5 fun f=>by simp only[SC];omega)
  rcases hdo.out with htx|⟨htx,hfd⟩
  case' inl=>
   have hd:=hid (htx w4 _ S4);clear htx S4 hdo;go_wp2_with fail;refine hd.out.mono ?_;rintro e w5 ⟨⟨T,kd,tx,nn,xs⟩,hP,la,lc,xl,l5,rfl,hxl,hX5,S5⟩;simp only at hxl hX5 S5
   clear hd;obtain⟨m,hm⟩:∃m,m=xs.length:=⟨_,rfl⟩
   rw[<-hm] at hxl⊢;replace hm:=hid hm;replace hP:=hid hP;replace hX5:=hid hX5;replace hxl:=hid hxl;unfold J7;go_upto_region 7 with fail;have S7:=S5.alloc (J1e kd tx nn (.slice la m lc));generalize hw6:w5.alloc _=w6;replace S7:J3 w0 [] w6 _:=hw6▸S7;clear hw6 S5;generalize w5.heap.size=b2 at S7⊢;replace S7:=hid S7
  case' inr=>
   have hd:=hid (htx w4 _ S4);replace hfd:=hid hfd;clear htx S4 hdo;go_wp2_with fail;refine hd.out.mono ?_;rintro e w5 ⟨rfl,S5⟩;clear hd;unfold J7;go_upto_region 8 with fail;have S6:=S5.alloc (J1e 0 ByteArray.empty 0 (.slice none 0 0));generalize hw6:w5.alloc _=w6;replace S6:J3 w0 [] w6 _:=hw6▸S6;clear hw6 S5;generalize w5.heap.size=b2 at S6⊢;replace S6:J3 w0 [] w6 (l++((b2,J1e 0 ByteArray.empty 0 (.slice none 0 0))::([(b1,J14 sp),(b,J4)]++r))):=S6.permR (J5 fun f=>by simp only[SC];omega)
   rcases hfd.out with hfd|⟨hfd,how⟩
   case' inl=>
    have hd:=hid (hfd w6 ((b2,J1e 0 ByteArray.empty 0 (.slice none 0 0))::[(b1,J14 sp),(b,J4)]) S6);clear hfd S6;go_wp2_with fail
   case' inr=>
    have hd:=hid (hfd w6 ((b2,J1e 0 ByteArray.empty 0 (.slice none 0 0))::[(b1,J14 sp),(b,J4)]) S6);replace how:=hid how;clear hfd S6;go_wp2_with fail;refine hd.out.mono ?_;rintro e w7 ⟨rfl,S7⟩;clear hd;replace S7:J3 w0 [] w7 ((b2,J1e 0 ByteArray.empty 0 (.slice none 0 0))::(l++([(b1,J14 sp),(b,J4)]++r))):=S7.permR (J5 fun f=>by simp only[SC];omega)
    obtain⟨⟨c0,hc0⟩,⟨c1,hc1⟩,⟨c2,hc2⟩,⟨c3,hc3⟩,⟨c4,hc4⟩,⟨c5,hc5⟩,fz,hlt⟩:=Jl S7.own.head
    replace S7:J3 w0 [] _ ((b2,J1e 0 ByteArray.empty 0 (.slice none 0 0))::_):=S7.setVal 0 ByteArray.empty 0 (.slice none 0 0);unfold J7;go_upto_region 9 with fail;clear c0 hc0 c1 hc1 c2 hc2 c3 hc3 c4 hc4 c5 hc5 fz hlt;generalize hw8:(((((w7.setCell _ _).setCell _ _).setCell _ _).setCell _ _).setCell _ _).setCell _ _=w8 at S7⊢;clear hw8;go_upto_region 10 with fail;obtain⟨L,hL⟩:∃L:Hp,L=(b2,J1e 0 ByteArray.empty 0 (.slice none 0 0))::(l++([(b1,J14 sp),(b,J4)]++r)):=⟨_,rfl⟩
    rw[<-hL] at S7;have hm1:(b1,J14 sp)∈L:=by rw[hL];simp
    have nm:∀p:InW w0 [] L,p.w.cell? ⟨b1,0,none⟩=some (.string sp.name):=fun p=>J2 (p.h.own.at_ _ hm1) 0
    replace hL:=hid hL;clear hm1;obtain⟨q,hq,hq2⟩:∃q,(ws≠[]->q=off+1)/\q=if cap - 1=0 then off else off+1:=⟨_,fun hne=>if_neg (by have:=List.length_pos_iff.2 hne;have:=hws.out;omega),rfl⟩
    replace hq:=hid hq;by_cases hc1:cap - 1=0
    all_goals
     first|rw[if_pos hc1] at hq2|rw[if_neg hc1] at hq2
     subst hq2;refine Jq 6 S7 (by kernel_rfl) (by kernel_rfl) (fun hne=>?_)
     simp only[List.take_succ_cons,List.take_zero,List.drop_succ_cons,List.drop_zero];replace S7:=hid S7;repeat (go_big_quiet_step (fail))
     refine J04 fun w9 S10=>?_
     clear nm hne S7;rw[hL.out] at S10;have hd:=how.out w9 ((b2,J1e 0 ByteArray.empty 0 (.slice none 0 0))::[(b1,J14 sp),(b,J4)]) _ hq.out (S10.permR (J5 fun f=>by simp only[SC];omega))
     try rw[hc1] at hd
     replace hd:=hid hd;clear how S10 hL hq;go_wp2_with fail
   all_goals
    refine hd.out.mono ?_;rintro e w10 ⟨⟨T,kd,tx,nn,xs⟩,hP,la,lc,xl,l5,rfl,hxl,hX5,S7⟩;simp only at hxl hX5 S7
    clear hd;obtain⟨m,hm⟩:∃m,m=xs.length:=⟨_,rfl⟩
    rw[<-hm] at hxl⊢;replace S7:J3 w0 [] w10 ((b2,J1e 0 ByteArray.empty 0 (.slice none 0 0))::(l5++(xl++([(b1,J14 sp),(b,J4)]++r)))):=S7.permR (J5 fun f=>by simp only[SC];omega)
    obtain⟨⟨c0,hc0⟩,⟨c1,hc1⟩,⟨c2,hc2⟩,⟨c3,hc3⟩,⟨c4,hc4⟩,⟨c5,hc5⟩,fz,hlt⟩:=Jl S7.own.head
    replace S7:J3 w0 [] _ ((b2,J1e kd tx nn (.slice la m lc))::_):=S7.setVal kd tx nn (.slice la m lc);replace hP:=hid hP;replace hX5:=hid hX5;replace hxl:=hid hxl;replace hm:=hid hm;unfold J7;go_upto_region 11 with fail;clear c0 hc0 c1 hc1 c2 hc2 c3 hc3 c4 hc4 c5 hc5 fz hlt;generalize hw8:(((((w10.setCell _ _).setCell _ _).setCell _ _).setCell _ _).setCell _ _).setCell _ _=w6 at S7⊢;clear hw8;replace S7:=hid S7
  all_goals
   obtain⟨R,hR⟩:∃R:Hp,R=xl++((b2,J1e kd tx nn (.slice la m lc))::(b1,J14 sp)::r):=⟨_,rfl⟩
   have S8:J3 w0 [] w6 (l5++((b,J4)::R)):=S7.out.permR (J5 fun f=>by
    rw[hR];simp only[SC];omega)
   have hevs:∀(w':World),Hid (J3 w0 [] w' (l5++((b,J4)::R)))->Hid (Calls _ _ _ w' _):=fun w' hS=>hid (J9n (r:=(b,J4)::R) hS.out hX5.out)
   have hs1:Hid (J3 w0 [] w6.drew (l5++((b,J4)::R))):=hid S8.drew;have hx1:Hid (InX w0 R w6.drew):=hid ⟨l5++[(b,J4)],by rw[List.append_assoc];exact S8.drew⟩
   have hm2:(b2,J1e kd tx nn (.slice la m lc))∈R:=by rw[hR];simp
   have hkeep:Hid (∀w':World,Hid (InX w0 R w')->w'.cell? ⟨b2,0,none⟩=some (.int .i64 kd)/\w'.cell? ⟨b2,1,none⟩=some (.string tx)/\w'.cell? ⟨b2,2,none⟩=some (.int .i64 nn)/\w'.cell? ⟨b2,3,none⟩=some (.float .f64 0)/\w'.cell? ⟨b2,4,none⟩=some (.bool false)/\w'.cell? ⟨b2,5,none⟩=some (.slice la m lc)/\Hid (InX w0 R w')):=hid fun w' hw=>by
    have hh:=InX.get hw hm2;exact⟨J2 hh 0,J2 hh 1,J2 hh 2,J2 hh 3,J2 hh 4,J2 hh 5,hw⟩
   replace hR:=hid hR;clear hm2 S7 S8;go_upto_region 11 with fail
   go_region_held3 (fun w'=>w'.cell? ⟨b2,0,none⟩=some (.int .i64 kd)/\w'.cell? ⟨b2,1,none⟩=some (.string tx)/\w'.cell? ⟨b2,2,none⟩=some (.int .i64 nn)/\w'.cell? ⟨b2,3,none⟩=some (.float .f64 0)/\w'.cell? ⟨b2,4,none⟩=some (.bool false)/\w'.cell? ⟨b2,5,none⟩=some (.slice la m lc)/\Hid (InX w0 R w'))
    (first|(with_reducible exact hkeep.out _ hx1)|(with_reducible exact hkeep.out _ (hset.out _ _ _ _ _ _))|(with_reducible exact hkeep.out _ (by assumption))|(fail "keep"))
    (first|(go_at_call 14;refine((hevs _) hs1).out.mono ?_;rintro e w11 ⟨ev,vl,l3,rfl,hsv,hX3,S2⟩;have S3:=S2.permR (l2:=(b,J4)::((l3++vl)++R)) (J5 fun f=>by simp only[SC];omega);obtain⟨⟨c0,hc0⟩,⟨c1,hc1⟩,⟨c2,hc2⟩,⟨c3,hc3⟩,⟨c4,hc4⟩,⟨c5,hc5⟩,fz,hlt⟩:=Jl S3.own.head;have hset:Hid (∀v0 v1 v2 v3 v4 v5,_):=hid fun v0 v1 v2 v3 v4 v5=>InX.set6 (A:=l3++vl) (R:=R) S3 v0 v1 v2 v3 v4 v5;have hx3:Hid (InX w0 R w11):=hid (S3.inX ([(b,J4)]++(l3++vl)) (by simp));replace S3:=hid S3;replace hsv:=hid hsv;replace hX3:=hid hX3;clear S2))
   all_goals (
    have S9:J3 w0 [] _ ((b,J1e kd tx nn (.slice la m lc))::_):=S3.out.setVal kd tx nn (.slice la m lc);rw[hR.out] at S9;replace S9:=hid (S9.pick (l2:=l3++(xl++(vl++r))) (m:=[(b,J1e kd tx nn (.slice la m lc)),(b2,J1e kd tx nn (.slice la m lc)),(b1,J14 sp)]) (J5 fun f=>by simp only[SC];omega))
    clear hevs hs1 hx1 hkeep hset hx3 S3 hR;go_wp2_with fail;refine bodyPost_ret (v:=.tuple #[J7 kd tx nn (.slice la m lc),ev]) (by simp[results,Tryz.results8,go_sem,J7, *]<;>rfl) rfl ?_
    refine⟨⟨T,kd,tx,nn,xs⟩,hP.out,la,lc,ev,xl,vl,l3,?_,?_,hsv.out,hX3.out,S9.out⟩
    ·simp only;rw[hm.out]
    ·simp only;rw[<-hm.out];exact hxl.out)
structure KC (w0 w:World) (l r:Hp) (sb:Nat) (S:St) (g off:Nat) (c:ByteArray) (ws:List ByteArray) (sp:Sp) (now:Int) (cap:Nat):Prop where
 ctx:Ctx w0 w l r sb S g off (c::ws)
 chk:Ku (c::ws)=(sp,ByteArray.empty)
 keys:J3h (sp,ByteArray.empty)=true
 now_:0<=now/\now<=4611686018427387904
 cap_:(c::ws).length<=cap
 cap2:cap<=9223372036854775807
 few:(c::ws).length<=64
section
variable {w0 w:World} {l r:Hp} {sb:Nat} {S:St} {g off:Nat} {c k:ByteArray} {ws:List ByteArray} {sp:Sp} {now:Int} {cap:Nat} {P:Res->Prop}
abbrev KG (w0 w:World) (r:Hp) (sb g off:Nat) (c:ByteArray) (ws:List ByteArray) (now:Int) (cap:Nat) (P:Res->Prop):Prop:=
 Calls Tryz.prog 8 #[ptr sb,.int .i64 now,.slice (some ⟨g,off,none⟩) (c::ws).length cap] w (J6v w0 r sb P)
theorem KC.text (H:KC w0 w l r sb S g off c (k::ws) sp now cap) (hjob:(∃f av,(sp.name.toList,f,av)∈Jid/\∀(w':World) (R:Hp),Ctx w0 w' l R sb S g (off+1) (k::ws)->Calls Tryz.prog f (av (Kv sb now g (off+1) (k::ws).length (cap - 1))) w' (J2w w0 R sb P))\/sp.name.toList=[71,69,84]/\P (J10 (Jz2 S now k))):KG w0 w r sb g off c (k::ws) now cap P:=
 Ji7 H.ctx sp H.chk H.keys now cap H.cap_ (.inl fun _ x hS=>Jy9 (H.ctx.at (x:=x) rfl hS) sp H.chk now cap H.cap_ H.cap2 (hjob.imp_left fun⟨f,av,hm,hj⟩=>⟨f,av,hm,fun w' _ C=>hj w' _ C⟩))
theorem KC.field (H:KC w0 w l r sb S g off c (k::ws) sp now cap) (ht:Jd7 sp=true) (fn:FuncId) (hm:Je J2l sp.name=some (fv fn)) (hfn:fn∈Jsn)
 (htext:(((S.look k now).getD Jc).kind==1)=true->P ⟨S.get k now,2,Jx 91,0,[]⟩)
 (hjob:(((S.look k now).getD Jc).kind==1)=false->∀(w':World) (l2 vl R:Hp) (v:Value) (ga:Option Addr),J3 w0 [] w' (l2++(vl++R))->Jh l2 sb (S.get k now)->Jj v ((S.look k now).getD Jc).fs vl->J2h w0 R g (off+2) ws->(ws≠[]->ga=some ⟨g,off+2,none⟩)->
  Calls Tryz.prog fn #[Kz sb ((S.look k now).getD Jc).kind ((S.look k now).getD Jc).text v now k (.slice ga ws.length (cap - 2))] w' (J2w w0 R sb P)):KG w0 w r sb g off c (k::ws) now cap P:=
 Ji7 H.ctx sp H.chk H.keys now cap H.cap_ (.inr ⟨fun _ x hS=>Jpb (H.ctx.at (x:=x) rfl hS) sp H.chk ht now cap H.cap_ H.cap2,.inl fun _ x hS=>Jwb (H.ctx.at (x:=x) rfl hS) sp H.chk now cap H.cap_ H.cap2 fn hm hfn htext hjob⟩)
theorem KC.own (H:KC w0 w l r sb S g off c ws sp now cap) (ht:Jd7 sp=true) (hm:Je J2l sp.name=none)
 (how:∀(w':World) (R:Hp) (q:Nat),Ctx w0 w' l R sb S g q ws->Calls Tryz.prog 26 #[ptr sb,.int .i64 now,.string sp.name,.slice (some ⟨g,q,none⟩) ws.length (cap - 1)] w' (J2w w0 R sb P)):KG w0 w r sb g off c ws now cap P:=
 Ji7 H.ctx sp H.chk H.keys now cap H.cap_ (.inr ⟨fun _ x hS=>Jpb (H.ctx.at (x:=x) rfl hS) sp H.chk ht now cap H.cap_ H.cap2,.inr ⟨fun _ x hS=>Jwf (H.ctx.at (x:=x) rfl hS) sp H.chk hm now cap,fun w' x q hq hS=>how w' (x++r) q (by
  have C:=(H.ctx.at (x:=x) rfl hS).tail;cases ws with
  |nil=>exact⟨C.st,C.gl,C.is,C.tight,C.load,⟨fun _ _ _ i s hs=>by simp at hs,by simp,by simp⟩⟩
  |cons a t=>rw[hq (by simp)];exact C)⟩⟩)
end
end Go.Proofs.YtncbcaabanoeoaaGreatDoor
