/-
nearhandlaw20: ExecKeys, the walk.
-/
import Derived.Test.YtncbcaabanoeoaaGreatDoorR04
import Derived.Test.YtncbcaabanoeoaaGreatDoorR06
set_option linter.unusedVariables false
set_option linter.unusedSimpArgs false
set_option maxRecDepth 100000
set_option maxHeartbeats 8000000
namespace Go.Proofs.YtncbcaabanoeoaaGreatDoor
open Go Go.RowKit
theorem Jwn {w0 w:World} {r:Hp} (hS:J3 w0 [] w r) (hF:Jau w0) {v vw:Value} {acts:List Jlt} {ws:List ByteArray} (h:Jgu w0 v acts) (hws:J5o w0 vw ws):
 Calls Tryz.prog 3 #[v,vw] w (fun e w'=>e= .returned (.bool true)/\J3 w0 [] w' r):=by
 have halive:=hid (Jma hS hF.gl);have hgreat:Hid (∀w',J3 w0 [] w' r->Calls Tryz.prog 6 #[v,.int .i64 30] w' (Jfk w0 r 30 acts)):=hid fun w' hS'=>Jg1 hS' h 30 (by decide)
 have hgreat1:Hid (∀w',J3 w0 [] w' r->Calls Tryz.prog 6 #[.slice (some ⟨w'.heap.size,0,none⟩) 1 1,.int .i64 1] (w'.alloc (.cells #[vw,.int .u16 0] 28)) (Jil w0 r ws)):=hid fun w' hS'=>Jqf hS' hws
 have hnew:Hid (∀w',J3 w0 [] w' r->Calls Tryz.prog 7 #[.int .i64 2000] w' (Jdm w0 r 2000)):=hid fun w' hS'=>Jkz hS' 2000
 obtain⟨a,cap,rfl,hc1,hc2,hel⟩:=h
 obtain⟨n,hn⟩:∃n,n=acts.length:=⟨_,rfl⟩
 rw[<-hn] at hc1 hgreat⊢;replace hn:=hid hn;replace hel:=hid hel;replace hF:=hid hF;have hmm:=@run_makeMap Tryz.prog;have hwv:=hws;obtain⟨va,wc,rfl,_,_,_⟩:=hwv
 obtain⟨wn,hwn⟩:∃m,m=ws.length:=⟨_,rfl⟩
 rw[<-hwn] at hws hgreat1⊢;replace hws:=hid hws;replace hwn:=hid hwn;clear hS;go_enter Tryz.func3,Tryz.ntmps3;go_wp2_with fail;refine halive.out.mono ?_;rintro e wa ⟨rfl,S0⟩;clear halive;have hg:=hid (hgreat.out _ S0);clear hgreat S0;go_wp2_with fail;refine hg.out.mono ?_;rintro e wb ⟨big,rfl,hfew,S0⟩;clear hg;replace hfew:=hid hfew;cases big with
 |true=>
  replace S0:=hid S0;go_wp2_with fail;go_ret;exact⟨rfl,S0.out⟩
 |false=>
 replace hfew:=hid (hfew.out rfl);have hg:=hid (hgreat1.out _ S0);clear hgreat1 S0;go_wp2_with fail;refine hg.out.mono ?_;rintro e wb2 ⟨big,rfl,hfew1,S0⟩;clear hg;replace hfew1:=hid hfew1;cases big with
 |true=>
  replace S0:=hid S0;go_wp2_with fail;go_ret;exact⟨rfl,S0.out⟩
 |false=>
 replace hfew1:=hid (hfew1.out rfl);have hnew0:=hid (hnew.out _ S0);clear hnew S0;go_wp2_with fail;refine hnew0.out.mono ?_;rintro e w1 ⟨sb,l1,rfl,hX1,S1⟩;clear hnew0;have R1:Hid (Jaw w0 w1 l1 r sb (J6k 2000) 2000):=hid ⟨S1,hX1,Jcf _,fun p hp=>by simp[J6k] at hp,rfl,by decide⟩
 clear hX1 S1;go_wp2_with fail;go_loopw [6,8,29] (fun s6 s8 s29 wr=>∃(k nw:Nat) (S:St) (l:Hp),s29= .int .i64 k/\s6= .int .i64 nw/\k<=n/\nw<=65535*k/\Hid (Jaw w0 wr l r sb S 2000)) (fun s6 s8 s29 wr=>(n - intOf s29).toNat)
 case atStart=>exact⟨0,0,_,l1,rfl,rfl,Nat.zero_le _,Nat.zero_le _,R1⟩
 case round=>
  obtain⟨k,nw,S,l,rfl,rfl,hk,hnw,R2⟩:=hrel
  clear R1;have hn30:n<=30:=by have:=hfew.out.1;rw[<-hn.out] at this;exact this
  by_cases hlt:k<n
  ·obtain⟨x,hx⟩:∃x,acts[k]? =some x:=⟨acts[k]'(by rw[<-hn.out];exact hlt),List.getElem?_eq_getElem _⟩
   obtain⟨hw,hwait,g,off,rfl,hg,c0,c1⟩:=hel.out k x hx
   replace c0:=R2.out.st.in_ hg c0;replace c1:=R2.out.st.in_ hg c1;have hx2:=hfew.out.2 x (List.mem_of_getElem? hx);obtain⟨xv,ws2,wait⟩:=x
   simp only at hw c0 c1 hwait hx2
   have hwv:=hw;obtain⟨wa2,wc2,hxv,hw1,hw2,hwel⟩:=hw
   obtain⟨m,hm⟩:∃m,m=ws2.length:=⟨_,rfl⟩
   rw[<-hm] at hxv;subst hxv;have hrun:Hid (∀w',Jaw w0 w' l r sb S 2000->Calls Tryz.prog 8 #[ptr sb,.int .i64 ((nw:Int)+(wait:Int)),.slice wa2 m wc2] w' (J6v w0 r sb (Out S ((nw:Int)+(wait:Int)) ws2))):=hid fun w' hR=>Jp3 hF.out hR hwv hx2 _ (by omega)
   have hlt3:(k:Int)<(n:Int):=by omega
   have hnw2:nw+wait<=65535*(k+1):=by omega
   clear hw1 hw2 hwel hwv hm hx2 hx;go_upto_region 10 with fail;have R3:Jaw w0 (wr.alloc (.cells #[.slice wa2 m wc2,.int .u16 wait] 28)) l r sb S 2000:=⟨((R2.out.st.alloc _).less (List.sublist_cons_self _ _)),R2.out.is,R2.out.ok⟩;have q0:(wr.alloc (.cells #[.slice wa2 m wc2,.int .u16 wait] 28)).cell? ⟨wr.heap.size,0,none⟩=some (.slice wa2 m wc2):=J2 (R2.out.st.alloc (.cells #[.slice wa2 m wc2,.int .u16 wait] 28)).own.head 0;have q1:(wr.alloc (.cells #[.slice wa2 m wc2,.int .u16 wait] 28)).cell? ⟨wr.heap.size,1,none⟩=some (.int .u16 wait):=J2 (R2.out.st.alloc (.cells #[.slice wa2 m wc2,.int .u16 wait] 28)).own.head 1;generalize hww:wr.alloc _=w3 at R3 q0 q1⊢;clear hww c0 c1 R2;generalize wr.heap.size=ab at q0 q1⊢;have hcall:=hid (hrun.out w3 R3);have hR3:=hid R3;clear hrun R3;go_wp2_with fail;refine hcall.out.mono ?_;rintro e w4 hp;obtain⟨o,a9,c9,ev,l4,xl,el,rfl,_,_,_,_,R4⟩:=hp.next hR3.out.is.fit hR3.out.ok.1 hR3.out.ok.2.1 (by omega)
   have R5:=hid (R4.gone);rw[hR3.out.ok.2.2.2] at R5;clear hcall hp R4 hR3 q0 q1;unfold J7;go_wp2_with fail;go_roundw
   case rel=>exact⟨k+1,nw+wait,_,l4,by go_num,by go_num,hlt,hnw2,R5⟩
   case measure=>simp[intOf];omega
  ·have hge:¬(k:Int)<(n:Int):=by omega
   have hnw3:nw<=1966050:=by omega
   have R3:=R2.out.beside (.map #[] 0);have hkeys:=hid (Jrp R3.st hws.out hfew1.out);have R3i:=hid R3.is;have R3o:=hid R3.ok;clear R2 R3 hlt hel;go_wp2_with fail;refine hkeys.out.mono ?_;rintro e w5 ⟨vk,ks,sl,rfl,hsl,hkl,hkin,S5⟩;clear hkeys;obtain⟨ka,kc,rfl⟩:=Jck hsl
   obtain⟨nk,hnk⟩:∃nk,nk=ks.length:=⟨_,rfl⟩
   have hnk70:nk<=70:=by have:=hfew1.out.1;omega
   unfold J3r at hsl;rw[<-hnk] at hsl⊢;replace hsl:=hid hsl;replace hnk:=hid hnk;replace hkin:=hid hkin;clear hkl;generalize wr.heap.size=mb at S5⊢;have S6:Hid (∃o,J51 o (ks.take 0)/\J3 w0 [] w5 ((mb,o)::(l++(sl++r)))):=hid ⟨_,J51.empty,S5.permR (J5 fun f=>by simp only[SC];omega)⟩
   clear S5;go_wp2_with fail;go_loopw [11,48] (fun s11 s48 wr=>∃j:Nat,s48= .int .i64 j/\j<=nk/\Hid (∃o,J51 o (ks.take j)/\J3 w0 [] wr ((mb,o)::(l++(sl++r))))) (fun s11 s48 wr=>(nk - intOf s48).toNat)
   case atStart=>exact⟨0,rfl,Nat.zero_le _,S6⟩
   case round=>
    obtain⟨j,rfl,hj,hS7⟩:=hrel
    clear S6;by_cases hjt:j<nk
    ·have hjt3:(j:Int)<(nk:Int):=by omega
     obtain⟨k2,hk2⟩:∃k2,ks[j]? =some k2:=⟨ks[j]'(by rw[<-hnk.out];exact hjt),List.getElem?_eq_getElem _⟩
     obtain⟨o,hom,S7⟩:=hS7.out
     obtain⟨kg,rfl,kcell⟩:=Ja0 hsl.out (x:=(mb,o)::l) (r:=r) (by rw[List.cons_append];exact S7) (j:=j) (v:=.string k2) (by rw[List.getElem?_map,hk2];rfl)
     obtain⟨o',hup,hom2⟩:=hom.put S7.own.head k2
     obtain⟨w7,hw7⟩:∃w7:World,w7={wr with heap:=wr.heap.setIfInBounds mb o'}:=⟨_,rfl⟩
     rw[<-hw7] at hup;have S8:Hid (∃o,J51 o (ks.take (j+1))/\J3 w0 [] w7 ((mb,o)::(l++(sl++r)))):=hid ⟨o',by rw[List.take_add_one,hk2];exact hom2,S7.obj hw7⟩
     clear hS7 S7 hom hom2 hw7 hk2;go_wp2_with fail;go_roundw
     case rel=>exact⟨j+1,by go_num,hjt,S8⟩
     case measure=>simp[intOf];omega
    ·obtain rfl:j=nk:=by omega
     have hge2:¬(j:Int)<(j:Int):=by omega
     obtain⟨o,hom,S7⟩:=hS7.out
     rw[List.take_of_length_le (by rw[<-hnk.out];exact Nat.le_refl _)] at hom
     have R8:Jaw w0 wr l ((mb,o)::r) sb S 2000:=⟨S7.pick (m:=sl) (J5 fun f=>by simp only[SC];omega),R3i.out,R3o.out⟩
     have hcall:=hid (Jp3 hF.out R8 hws.out hfew1.out (nw:Int) (by omega))
     have hR8:=hid R8;replace hom:=hid hom;clear hS7 S7 R8;go_wp2_with fail;refine hcall.out.mono ?_;rintro e w8 hp;obtain⟨o8,a8,c8,ev,l8,xl,el,rfl,_,hevok,hev,_,R9⟩:=hp.next hR8.out.is.fit hR8.out.ok.1 hR8.out.ok.2.1 (by omega)
     rw[hR8.out.ok.2.2.2] at R9;obtain⟨ea,ec,rfl⟩:=Jck hev
     obtain⟨es,hes1,hes2⟩:=hevok
     rw[hR8.out.ok.2.2.1,List.nil_append] at hes1;rw[hes1] at hev;clear hcall hp hR8;have hw9:({o8.st with ev:=[]}:St).bud=2000:=R9.ok.2.2.2
     have htight:Jd ({o8.st with ev:=[]}:St).L<=2000:=by have h1:=R9.ok.1;unfold Kx at h1;omega
     generalize ({o8.st with ev:=[]}:St)=T at R9 hw9 htight
     obtain⟨ne,hne⟩:∃ne,ne=es.length:=⟨_,rfl⟩
     rw[<-hne] at hev;rw[hes1,<-hne]
     have hnel:ne<=9223372036854775807:=by
      obtain⟨a,c,h1,h2,h3⟩:=hev.form
      unfold maxLen at h3;omega
     replace hev:=hid hev;replace hne:=hid hne;replace hes2:=hid hes2;unfold J7;go_upto_region 20 with fail;have S9:J3 w0 [] (w8.alloc (J1e o8.kd o8.tx o8.nn (.slice a8 o8.xs.length c8))) _:=R9.st.alloc _;generalize hww:w8.alloc _=w9 at S9⊢;clear hww;have S10:Hid (J3 w0 [] w9 (((mb,o)::l8)++(el++r))):=hid (S9.pick (m:=(w8.heap.size,J1e o8.kd o8.tx o8.nn (.slice a8 o8.xs.length c8))::xl) (J5 fun f=>by simp only[SC];omega))
     have hR9:=hid R9.is;clear S9 R9 hes1 hw9;go_wp2_with fail;go_loopw [15,64] (fun s15 s64 wr=>∃j:Nat,s64= .int .i64 j/\j<=ne/\Hid (J3 w0 [] wr (((mb,o)::l8)++(el++r)))) (fun s15 s64 wr=>(ne - intOf s64).toNat)
     case atStart=>exact⟨0,rfl,Nat.zero_le _,S10⟩
     case round=>
      obtain⟨q,rfl,hq,S11⟩:=hrel
      clear S10;by_cases hqt:q<ne
      ·have hqt3:(q:Int)<(ne:Int):=by omega
       obtain⟨ee,hee⟩:∃ee,es[q]? =some ee:=⟨es[q]'(by rw[<-hne.out];exact hqt),List.getElem?_eq_getElem _⟩
       have hcs:=Jxo es q ee hee;obtain⟨eg,rfl,e0⟩:=Ja0 hev.out S11.out hcs.1
       obtain⟨eg2,he2,e1⟩:=Ja0 hev.out S11.out hcs.2
       obtain rfl:eg=eg2:=by simpa using he2
       have hwhat:=hes2.out ee (List.mem_of_getElem? hee);obtain⟨kd,key⟩:=ee
       simp only at e0 e1 hwhat
       go_upto_region 23 with fail;have S12:=S11.out.alloc (.cells #[.int .i64 kd,.string key] 41);generalize hww:wr.alloc _=w12 at S12⊢;clear hww e0 e1 S11;generalize wr.heap.size=eb at S12⊢;have y0:w12.cell? ⟨eb,0,none⟩=some (.int .i64 kd):=J2 S12.own.head 0;have y1:w12.cell? ⟨eb,1,none⟩=some (.string key):=J2 S12.own.head 1;have hmo:w12.heap[mb]? =some o:=S12.own.at_ (mb,o) (by simp)
       obtain⟨z,hlk,hz,hzin⟩:=hom.out.look hmo key
       have S13:=hid (S12.less (List.sublist_cons_self _ _))
       have hcase:z=1\/(z=0/\(kd=3\/kd=4\/kd=5)):=by
        rcases hwhat with hin|hk3
        ·exact .inl (hzin (hkin.out key hin))
        ·rcases hz with h0|h1
         ·exact .inr ⟨h0,hk3⟩
         ·exact .inl h1
       clear S12 hmo hwhat hz hzin hcs he2 hee;rcases hcase with rfl|⟨rfl,rfl|rfl|rfl⟩
       all_goals
        go_wp2_with fail;go_roundw
        case rel=>exact⟨q+1,by go_num,hqt,S13⟩
        case measure=>simp[intOf];omega
      ·have hge3:¬(q:Int)<(ne:Int):=by omega
       have hend:Hid (J3 w0 [] wr r):=hid (S11.out.pick (m:=(mb,o)::(l8++el)) (J5 fun f=>by simp only[SC];omega))
       obtain⟨mm,hl8,hok,hf⟩:=hR9.out
       have hby:=Jpm (r:=(mb,o)::(el++r)) ((S11.out.permR (l2:=l8++((mb,o)::(el++r))) (J5 fun f=>by simp only[SC];omega)).own.perm (by rw[hl8]))
       have hbi:((Jd T.L:Nat):Int)<=2000:=by omega
       replace hby:=hid hby;clear S11 hok hf hl8;go_wp2_with fail;refine hby.out.mono ?_;rintro e w10 ⟨rfl,rfl⟩;clear hby;go_wp2_with fail;go_ret;exact⟨rfl,hend.out⟩
end Go.Proofs.YtncbcaabanoeoaaGreatDoor
