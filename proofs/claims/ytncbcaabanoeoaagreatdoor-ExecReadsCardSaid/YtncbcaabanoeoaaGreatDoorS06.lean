/-
nearhandlaw20: ExecReads, the walk.
-/
import Derived.Test.YtncbcaabanoeoaaGreatDoorS02
import Derived.Test.YtncbcaabanoeoaaGreatDoorS03
import Derived.Test.YtncbcaabanoeoaaGreatDoorS05
set_option linter.unusedVariables false
set_option linter.unusedSimpArgs false
set_option maxRecDepth 100000
set_option maxHeartbeats 8000000
namespace Go.Proofs.YtncbcaabanoeoaaGreatDoor
open Go Go.RowKit Go.ChangeMaps
theorem K1j {E:List Was} {x:Was} (h:x∈E):∃R,(K0h E).Perm (x.sl++R):=by
 obtain⟨E1,E2,rfl⟩:=List.append_of_mem h
 refine⟨K0h E1++K0h E2,?_⟩
 have:K0h (E1++x::E2)=K0h E1++(x.sl++K0h E2):=by simp[K0h]
 rw[this];exact List.perm_append_comm_assoc ..
theorem K1o {w0 w:World} {sb:Nat} {S:St} {m:SM} {r:Hp} (hS:J3 w0 [] w (m.hp sb (Jd S.L) S.bud++r)) (hok:m.Ok S):
 Calls Tryz.prog 16 #[ptr m.tb] w (fun e w'=>e= .returned (.int .i64 S.L.length)/\J3 w0 [] w' (m.hp sb (Jd S.L) S.bud++r)):=by
 have hM:(m.M.map Prod.fst).Perm (S.L.map Prod.fst):=by
  rw[hok.cells,List.map_map];have:=hok.num.map Prod.fst
  rwa[List.map_map] at this
 have hl:=hM.length_eq;rw[List.length_map,List.length_map] at hl;rw[<-hl];refine(Jlj m.tl m.tb m.M _ w hok.tab (SM.ownT hS.own)).mono ?_
 rintro e w' ⟨rfl,k,rfl⟩;exact⟨rfl,hS.drewN k⟩
theorem K0y {k:Nat} {T:TypeId} {v:Value} {xs:List Value} {l:Hp} (h:SliceHp k T v 0 xs l):∃a c,v= .slice a 0 c:=Jck h
theorem K1m {w0 w:World} {r:Hp} (hS:J3 w0 [] w r) (hF:Jau w0) {v vw:Value} {acts:List Jlt} {ws:List ByteArray} (h:Jgu w0 v acts) (hws:J5o w0 vw ws):
 Calls Tryz.prog 4 #[v,vw] w (fun e w'=>e= .returned (.bool true)/\J3 w0 [] w' r):=by
 have halive:=hid (Jma hS hF.gl);have hgreat:Hid (∀w',J3 w0 [] w' r->Calls Tryz.prog 6 #[v,.int .i64 30] w' (Jfk w0 r 30 acts)):=hid fun w' hS'=>Jg1 hS' h 30 (by decide)
 have hgreat1:Hid (∀w',J3 w0 [] w' r->Calls Tryz.prog 6 #[.slice (some ⟨w'.heap.size,0,none⟩) 1 1,.int .i64 1] (w'.alloc (.cells #[vw,.int .u16 0] 28)) (Jil w0 r ws)):=hid fun w' hS'=>Jqf hS' hws
 have hnew:Hid (∀w',J3 w0 [] w' r->Calls Tryz.prog 7 #[.int .i64 5000] w' (Jdm w0 r 5000)):=hid fun w' hS'=>Jkz hS' 5000
 obtain⟨a,cap,rfl,hc1,hc2,hel⟩:=h
 obtain⟨n,hn⟩:∃n,n=acts.length:=⟨_,rfl⟩
 rw[<-hn] at hc1 hgreat⊢;replace hn:=hid hn;replace hel:=hid hel;replace hF:=hid hF;have hmm:=@run_makeMap Tryz.prog;have hwv:=hws;obtain⟨va,wc,rfl,_,_,_⟩:=hwv
 obtain⟨wn,hwn⟩:∃m,m=ws.length:=⟨_,rfl⟩
 rw[<-hwn] at hws hgreat1⊢;replace hws:=hid hws;replace hwn:=hid hwn;clear hS;go_enter Tryz.func4,Tryz.ntmps4;go_wp2_with fail;refine halive.out.mono ?_;rintro e wa ⟨rfl,S0⟩;clear halive;have hg:=hid (hgreat.out _ S0);clear hgreat S0;go_wp2_with fail;refine hg.out.mono ?_;rintro e wb ⟨big,rfl,hfew,S0⟩;clear hg;replace hfew:=hid hfew;cases big with
 |true=>
  replace S0:=hid S0;go_wp2_with fail;go_ret;exact⟨rfl,S0.out⟩
 |false=>
 replace hfew:=hid (hfew.out rfl);have hg:=hid (hgreat1.out _ S0);clear hgreat1 S0;go_wp2_with fail;refine hg.out.mono ?_;rintro e wb2 ⟨big,rfl,hfew1,S0⟩;clear hg;replace hfew1:=hid hfew1;cases big with
 |true=>
  replace S0:=hid S0;go_wp2_with fail;go_ret;exact⟨rfl,S0.out⟩
 |false=>
 replace hfew1:=hid (hfew1.out rfl);have hnew0:=hid (hnew.out _ S0);clear hnew S0;go_wp2_with fail;refine hnew0.out.mono ?_;rintro e w1 ⟨sb,l1,rfl,hX1,S1⟩;clear hnew0;have R1:Hid (Jaw w0 w1 l1 r sb (J6k 5000) 5000):=hid ⟨S1,hX1,Jcf _,fun p hp=>by simp[J6k] at hp,rfl,by decide⟩
 clear hX1 S1;go_wp2_with fail;go_loopw [6,8,37] (fun s6 s8 s37 wr=>∃(k nw:Nat) (S:St) (l:Hp),s37= .int .i64 k/\s6= .int .i64 nw/\k<=n/\nw<=65535*k/\Hid (Jaw w0 wr l r sb S 5000)) (fun s6 s8 s37 wr=>(n - intOf s37).toNat)
 case atStart=>exact⟨0,0,_,l1,rfl,rfl,Nat.zero_le _,Nat.zero_le _,R1⟩
 case round=>
  obtain⟨k,nw,S,l,rfl,rfl,hk,hnw,R2⟩:=hrel
  clear R1;have hn30:n<=30:=by have:=hfew.out.1;rw[<-hn.out] at this;exact this
  by_cases hlt:k<n
  ·obtain⟨x,hx⟩:∃x,acts[k]? =some x:=⟨acts[k]'(by rw[<-hn.out];exact hlt),List.getElem?_eq_getElem _⟩
   obtain⟨hw,hwait,g,off,rfl,hg,c0,c1⟩:=hel.out k x hx
   replace c0:=R2.out.st.in_ hg c0;replace c1:=R2.out.st.in_ hg c1;have hx2:=hfew.out.2 x (List.mem_of_getElem? hx);obtain⟨xv,ws2,wait⟩:=x
   simp only at hw c0 c1 hwait hx2
   have hwv:=hw;obtain⟨wa2,wc2,hxv,hw1,hw2,hwel⟩:=hw
   obtain⟨m,hm⟩:∃m,m=ws2.length:=⟨_,rfl⟩
   rw[<-hm] at hxv;subst hxv;have hrun:Hid (∀w',Jaw w0 w' l r sb S 5000->Calls Tryz.prog 8 #[ptr sb,.int .i64 ((nw:Int)+(wait:Int)),.slice wa2 m wc2] w' (J6v w0 r sb (Out S ((nw:Int)+(wait:Int)) ws2))):=hid fun w' hR=>Jp3 hF.out hR hwv hx2 _ (by omega)
   have hlt3:(k:Int)<(n:Int):=by omega
   have hnw2:nw+wait<=65535*(k+1):=by omega
   clear hw1 hw2 hwel hwv hm hx2 hx;go_upto_region 10 with fail;have R3:Jaw w0 (wr.alloc (.cells #[.slice wa2 m wc2,.int .u16 wait] 28)) l r sb S 5000:=⟨((R2.out.st.alloc _).less (List.sublist_cons_self _ _)),R2.out.is,R2.out.ok⟩;have q0:(wr.alloc (.cells #[.slice wa2 m wc2,.int .u16 wait] 28)).cell? ⟨wr.heap.size,0,none⟩=some (.slice wa2 m wc2):=J2 (R2.out.st.alloc (.cells #[.slice wa2 m wc2,.int .u16 wait] 28)).own.head 0;have q1:(wr.alloc (.cells #[.slice wa2 m wc2,.int .u16 wait] 28)).cell? ⟨wr.heap.size,1,none⟩=some (.int .u16 wait):=J2 (R2.out.st.alloc (.cells #[.slice wa2 m wc2,.int .u16 wait] 28)).own.head 1;generalize hww:wr.alloc _=w3 at R3 q0 q1⊢;clear hww c0 c1 R2;generalize wr.heap.size=ab at q0 q1⊢;have hcall:=hid (hrun.out w3 R3);have hR3:=hid R3;clear hrun R3;go_wp2_with fail;refine hcall.out.mono ?_;rintro e w4 hp;obtain⟨o,a9,c9,ev,l4,xl,el,rfl,_,_,_,_,R4⟩:=hp.next hR3.out.is.fit hR3.out.ok.1 hR3.out.ok.2.1 (by omega)
   have R5:=hid (R4.gone);rw[hR3.out.ok.2.2.2] at R5;clear hcall hp R4 hR3 q0 q1;unfold J7;go_wp2_with fail;go_roundw
   case rel=>exact⟨k+1,nw+wait,_,l4,by go_num,by go_num,hlt,hnw2,R5⟩
   case measure=>simp[intOf];omega
  ·have hge:¬(k:Int)<(n:Int):=by omega
   have hnw3:nw<=1966050:=by omega
   obtain⟨now,hnow⟩:∃now:Int,now=(nw:Int):=⟨_,rfl⟩
   have hnow2:0<=now/\now<=1966050:=by omega
   rw[<-hnow];have hchk:=K12 R2.out.st hws.out hfew1.out;rcases hq:Ku ws with⟨sp,tx⟩
   rw[hq] at hchk;unfold J1c Sp.val K8 at hchk;simp only at hchk
   replace hchk:=hid hchk;replace hq:=hid hq;clear hlt hel hnow hnw;go_wp2_with fail;refine hchk.out.mono ?_;rintro e w5 ⟨rfl,S5⟩;clear hchk;go_upto_region 14 with fail;have S6:=S5.alloc (J2k sp);generalize hww:w5.alloc _=w6 at S6⊢;clear hww S5;generalize w5.heap.size=cb at S6⊢;have y1:w6.cell? ⟨cb,1,none⟩=some (.int .i64 sp.kind):=J2 S6.own.head 1;have R6:Hid (Jaw w0 w6 l r sb S 5000):=hid ⟨S6.less (List.sublist_cons_self _ _),R2.out.is,R2.out.ok⟩;clear S6 R2;by_cases ht:tx=ByteArray.empty
   case neg=>
    have e1:(tx.toList==[])=false:=beq_eq_false_iff_ne.2 fun e=>ht (Jaz.1 e)
    have hend:=hid (R6.out.st.pick (l2:=r) (m:=l) List.perm_append_comm);replace ht:=hid ht;clear R6;go_wp2_with fail;go_ret;exact⟨rfl,hend.out⟩
   subst ht;by_cases hkind:sp.kind=1
   case neg=>
    have e1:(sp.kind==1)=false:=by simpa using hkind
    have hend:=hid (R6.out.st.pick (l2:=r) (m:=l) List.perm_append_comm);replace hkind:=hid hkind;clear R6;go_wp2_with fail;go_ret;exact⟨rfl,hend.out⟩
   rw[hkind] at y1;have R7:=R6.out.beside (.map #[] 0)
   have hL:S.L.length<=1000000000:=by
    have h1:=Jiy S.L;have h2:=R7.ok.1;have h3:=R7.ok.2.2.2;unfold Kx at h2;omega
   obtain⟨tb,s0,hkeys⟩:=K1g R7.st R7.is hL
   replace hkeys:=hid hkeys;have R7i:=hid R7.is;have R7o:=hid R7.ok;replace hkind:=hid hkind;clear R6 R7 hL;go_wp2_with fail;refine hkeys.out.mono ?_;rintro e w7 ⟨vk,ks,sl,rfl,hperm,hsl,S7⟩;clear hkeys s0 y1;generalize w6.heap.size=mb at S7⊢;obtain⟨ka,kc,rfl⟩:=Jck hsl
   obtain⟨nk,hnk⟩:∃nk,nk=ks.length:=⟨_,rfl⟩
   have hndk:ks.Nodup:=hperm.nodup_iff.2 R7i.out.fit.nd
   have hszk:∀k∈ks,k.size<=512:=fun k hk=>by
    obtain⟨p,hp,rfl⟩:=List.mem_map.1 (hperm.mem_iff.1 hk)
    exact(R7i.out.fit.key p hp).1
   have hnk2:nk<=1000000000:=by
    have h1:=Jiy S.L;have h2:=R7o.out.1;have h3:=R7o.out.2.2.2;have h4:=hperm.length_eq;rw[List.length_map] at h4;unfold Kx at h2;omega
   have hseen0:Hid (K0l S S (ks.take 0) [] now):=hid (K0l.start R7i.out.fit R7o.out.1 R7o.out.2.1 R7o.out.2.2.1 now);rw[<-hnk] at hsl⊢;replace hnk:=hid hnk;replace hsl:=hid hsl;replace hndk:=hid hndk;replace hszk:=hid hszk;replace hperm:=hid hperm;have S8:Hid (J3 w0 [] w7 (l++((mb,.map #[] 0)::(K0h []++(sl++r))))):=hid (S7.permR (J5 fun f=>by simp only[List.map_append,List.sum_append,List.map_cons,List.sum_cons,K0h,List.flatMap_nil,List.map_nil,List.sum_nil];omega))
   have hbud:S.bud=5000:=R7o.out.2.2.2;replace hbud:=hid hbud;clear S7 R7o;go_wp2_with fail;go_loopw [13,14,15,71] (fun s13 s14 s15 s71 wr=>∃(j:Nat) (T:St) (l:Hp) (E:List Was) (o:Obj),s71= .int .i64 j/\j<=nk/\Hid (K0l S T (ks.take j) E now)/\Hid (K0m o E)/\Hid (∀e∈E,Jj e.v e.it.fs e.sl)/\Hid (Jh l sb T)/\Hid (J3 w0 [] wr (l++((mb,o)::(K0h E++(sl++r)))))) (fun s13 s14 s15 s71 wr=>(nk - intOf s71).toNat)
   case atStart=>exact⟨0,S,l,[],_,rfl,Nat.zero_le _,hseen0,hid K0m.empty,hid (fun e he=>(nomatch he)),R7i,S8⟩
   case round=>
    obtain⟨j,T,l7,E,om,rfl,hj,hseen,hwas,hflds,hX7,S9⟩:=hrel
    clear S8 hseen0 R7i;by_cases hjt:j<nk
    ·have hjt3:(j:Int)<(nk:Int):=by omega
     obtain⟨k2,hk2⟩:∃k2,ks[j]? =some k2:=⟨ks[j]'(by rw[<-hnk.out];exact hjt),List.getElem?_eq_getElem _⟩
     obtain⟨kg,rfl,kcell⟩:=Ja0 hsl.out (x:=l7++((mb,om)::K0h E)) (r:=r) (by simpa using S9.out) (j:=j) (v:=.string k2) (by rw[List.getElem?_map,hk2];rfl)
     have hks:=hszk.out k2 (List.mem_of_getElem? hk2);have htake:ks.take (j+1)=ks.take j++[k2]:=by rw[List.take_add_one,hk2];rfl
     have hnotin:k2∉ks.take j:=fun hm=>by
      have h1:(ks.take (j+1)).Nodup:=(List.take_sublist _ _).nodup hndk.out;rw[htake,List.nodup_append] at h1;exact h1.2.2 k2 hm k2 (by simp) rfl
     have hevl:T.ev.length<=4398046511104:=by
      have h1:=hseen.out.evs;rw[List.length_take] at h1;omega
     have hpeek:=Jak S9.out hF.out.gl hX7.out hevl k2 (by omega) now
     obtain⟨T',hT'⟩:∃T',T'=T.due k2 now:=⟨_,rfl⟩
     rw[<-hT'] at hpeek;replace htake:=hid htake;replace hnotin:=hid hnotin;replace hT':=hid hT';clear hk2 hevl hks;cases hl:Je T'.L k2 with
     |none=>
      rw[hl] at hpeek;unfold J52 at hpeek;simp only[Option.getD_none,Option.isSome_none] at hpeek;have hseen2:Hid (K0l S T' (ks.take (j+1)) E now):=hid (by rw[htake.out,hT'.out];exact hseen.out.no hnotin.out (by rw[<-hT'.out];exact hl))
      replace hpeek:=hid hpeek;replace hl:=hid hl;clear S9 hX7 hseen;go_wp2_with fail;refine hpeek.out.mono ?_;rintro e w8 ⟨v8,vl,l8,rfl,hif,hX8,S10⟩;clear hpeek;obtain⟨a8,c8,rfl⟩:=hif.shape
      generalize Jc.fs.length=n8;have S11:Hid (J3 w0 [] (w8.alloc (Jb Jc.kind Jc.text (.slice a8 n8 c8))) (l8++((mb,om)::(K0h E++(sl++r))))):=hid ((S10.alloc _).pick (m:=(w8.heap.size,Jb Jc.kind Jc.text (.slice a8 n8 c8))::vl) (J5 fun f=>by simp only[SC];omega))
      replace hX8:=hid hX8;clear S10 hif;unfold J6;go_wp2_with fail;go_roundw
      case rel=>exact⟨j+1,T',l8,E,om,by go_num,hjt,hseen2,hwas,hflds,hX8,S11⟩
      case measure=>simp[intOf];omega
     |some it=>
      rw[hl] at hpeek;unfold J52 at hpeek;simp only[Option.getD_some,Option.isSome_some] at hpeek;have hseen2:Hid (∀v sl,K0l S T' (ks.take (j+1)) (E++[⟨k2,it,v,sl⟩]) now):=hid fun v sl=>by rw[htake.out,hT'.out];exact hseen.out.yes hnotin.out (by rw[<-hT'.out];exact hl) v sl
      have hkE:k2∉E.map Was.key:=fun hm=>by
       obtain⟨e,he,hek⟩:=List.mem_map.1 hm
       exact hnotin.out (hek▸hseen.out.inK e he)
      replace hpeek:=hid hpeek;replace hl:=hid hl;replace hkE:=hid hkE;clear S9 hX7 hseen;go_wp2_with fail;refine hpeek.out.mono ?_;rintro e w8 ⟨v8,vl,l8,rfl,hif,hX8,S10⟩;clear hpeek;obtain⟨a8,c8,rfl⟩:=hif.shape
      unfold J6;go_upto_region 21 with fail;have S11:=S10.alloc (Jb it.kind it.text (.slice a8 it.fs.length c8));generalize hww:w8.alloc _=w9 at S11⊢;clear hww S10;generalize w8.heap.size=ib at S11⊢;have z0:w9.cell? ⟨ib,0,none⟩=some (.int .i64 it.kind):=J2 S11.own.head 0;have z1:w9.cell? ⟨ib,1,none⟩=some (.string it.text):=J2 S11.own.head 1;have z2:w9.cell? ⟨ib,2,none⟩=some (.slice a8 it.fs.length c8):=J2 S11.own.head 2;obtain⟨om2,hup,hwas2⟩:=hwas.out.put (w:=w9) (r:=mb) (S11.own.at_ (mb,om) (by simp)) ⟨k2,it,.slice a8 it.fs.length c8,vl⟩ hkE.out
      obtain⟨w10,hw10⟩:∃w10:World,w10={w9 with heap:=w9.heap.setIfInBounds mb om2}:=⟨_,rfl⟩
      rw[<-hw10] at hup;replace hup:(Instr.mapUpdate 48 (.map (some mb)) (.string k2) (.agg #[.int .i64 it.kind,.string it.text,.slice a8 it.fs.length c8])).run Tryz.prog w9= .ok () w10:=hup;have S12:=(S11.permR (l2:=(mb,om)::((ib,Jb it.kind it.text (.slice a8 it.fs.length c8))::(l8++(vl++(K0h E++(sl++r)))))) (J5 fun f=>by simp only[SC];omega)).obj hw10
      have S13:Hid (J3 w0 [] w10 (l8++((mb,om2)::(K0h (E++[⟨k2,it,.slice a8 it.fs.length c8,vl⟩])++(sl++r))))):=hid (S12.pick (m:=[(ib,Jb it.kind it.text (.slice a8 it.fs.length c8))]) (J5 fun f=>by rw[K15];simp only[SC];omega))
      have hflds2:Hid (∀e∈E++[(⟨k2,it,.slice a8 it.fs.length c8,vl⟩:Was)],Jj e.v e.it.fs e.sl):=hid fun e he=>by
       rcases List.mem_append.1 he with he|he
       ·exact hflds.out e he
       ·simp only[List.mem_cons,List.not_mem_nil,or_false] at he
        subst he;exact hif
      have hseen3:=hid (hseen2.out (.slice a8 it.fs.length c8) vl);replace hwas2:=hid hwas2;replace hX8:=hid hX8;clear S11 S12 hif hw10 hflds hwas hseen2;go_wp2_with fail;go_roundw
      case rel=>exact⟨j+1,T',l8,_,om2,by go_num,hjt,hseen3,hwas2,hflds2,hX8,S13⟩
      case measure=>simp[intOf];omega
    ·obtain rfl:j=nk:=by omega
     have hge2:¬(j:Int)<(j:Int):=by omega
     have hks:ks.take j=ks:=List.take_of_length_le (by rw[<-hnk.out];exact Nat.le_refl _)
     rw[hks] at hseen;obtain⟨hquiet,hTlen⟩:=hseen.out.end_ (fun k hk=>hperm.out.mem_iff.2 hk)
     have hev:=J9n S9.out hX7.out;replace hev:=hid hev;replace hquiet:=hid hquiet;replace hTlen:=hid hTlen;clear hks S9 hX7;go_wp2_with fail;refine hev.out.mono ?_;rintro e w8 ⟨ve,vl,l8,rfl,_,hX8,S10⟩;clear hev;have R8:Jaw w0 w8 l8 ((mb,om)::(K0h E++r)) sb {T with ev:=[]} 5000:=⟨S10.pick (m:=vl++sl) (J5 fun f=>by simp only[SC];omega),hX8,hseen.out.tight,hseen.out.up,rfl,hseen.out.bud.trans hbud.out⟩
     obtain⟨T0,hT0⟩:∃T0:St,T0={T with ev:=[]}:=⟨_,rfl⟩
     rw[<-hT0] at R8;have hq0:K0i T0 now:=by rw[hT0];exact hquiet.out
     have hlen0:T0.L.length=E.length:=by rw[hT0];exact hTlen.out
     have hit0:Hid (∀e∈E,Je T0.L e.key=some e.it):=hid (by rw[hT0];exact hseen.out.it)
     have hcall:=hid (Jp3 hF.out R8 hws.out hfew1.out now (by omega))
     have hR8:=hid R8;replace hq0:=hid hq0;replace hlen0:=hid hlen0;clear S10 R8 hT0 hseen hquiet hTlen hX8;go_wp2_with fail;refine hcall.out.mono ?_;rintro e w9 hp;obtain⟨o1,a1,c1,ev1,l9,xl1,el1,rfl,hout1,_,hev1,hlf1,R9⟩:=hp.next hR8.out.is.fit hR8.out.ok.1 hR8.out.ok.2.1 (by omega)
     rw[hR8.out.ok.2.2.2] at R9;obtain⟨hkin1,_⟩:=K0p hout1 (by rw[hq.out]) (by rw[hq.out];exact hkind.out) hR8.out.is.fit.nd hq0.out
     have hno1:o1.st.ev=[]:=hkin1.ev.trans hR8.out.ok.2.2.1;rw[hno1] at hev1;obtain⟨ea1,ec1,rfl⟩:=K0y hev1
     have hT1:({o1.st with ev:=[]}:St)=o1.st:=by rw[<-hno1]
     rw[hT1] at R9;have hnd0:=hid hR8.out.is.fit.nd;replace hout1:=hid hout1;clear hcall hp hR8 hev1 hT1 hno1;obtain⟨kd2,hkd⟩:∃x,x=o1.kd:=⟨_,rfl⟩
     obtain⟨tx2,htx⟩:∃x,x=o1.tx:=⟨_,rfl⟩
     obtain⟨nn2,hnn⟩:∃x,x=o1.nn:=⟨_,rfl⟩
     obtain⟨xs,hxs⟩:∃x,x=o1.xs:=⟨_,rfl⟩
     obtain⟨nx,hnx⟩:∃nx,nx=xs.length:=⟨_,rfl⟩
     rw[<-hxs,<-hnx] at hlf1;rw[<-hkd,<-htx,<-hnn,<-hxs,<-hnx];have heq:Hid (K0t o1=(kd2,tx2,nn2,xs)):=hid (by rw[hkd,htx,hnn,hxs];rfl)
     clear hkd htx hnn hxs;replace hnx:=hid hnx;unfold J7;go_upto_region 26 with fail;have R10:=(R9.beside (J1e kd2 tx2 nn2 (.slice a1 nx c1)));generalize hww:w9.alloc _=w10 at R10⊢;clear hww R9;generalize w9.heap.size=b1 at R10⊢;have R11:Jaw w0 w10 l9 ((b1,J1e kd2 tx2 nn2 (.slice a1 nx c1))::(xl1++((mb,om)::(K0h E++r)))) sb o1.st 5000:=⟨R10.st.pick (m:=el1) (J5 fun f=>by simp only[SC];omega),R10.is,R10.ok⟩
     have hcall:=hid (Jp3 hF.out R11 hws.out hfew1.out now (by omega))
     have hR11:=hid R11;replace hkin1:=hid hkin1;replace hlf1:=hid hlf1;clear R10 R11;go_wp2_with fail;refine hcall.out.mono ?_;rintro e w11 hp;obtain⟨o2,a2,c2,ev2,l11,xl2,el2,rfl,hout2,_,hev2,hlf2,R12⟩:=hp.next hR11.out.is.fit hR11.out.ok.1 hR11.out.ok.2.1 (by omega)
     obtain⟨hkin2,hans⟩:=K1b (by rw[hq.out]) (by rw[hq.out];exact hkind.out) hnd0.out hq0.out hout1.out hkin1.out hout2
     have hno2:o2.st.ev=[]:=hkin2.ev.trans hR11.out.ok.2.2.1;rw[hno2] at hev2;obtain⟨ea2,ec2,rfl⟩:=K0y hev2
     have hT2:({o2.st with ev:=[]}:St)=o2.st:=by rw[<-hno2]
     rw[hT2,hR11.out.ok.2.2.2] at R12;rw[heq.out] at hans;simp only[K0t,Prod.mk.injEq] at hans;obtain⟨hkd,htx,hnn,hxs⟩:=hans
     rw[hxs] at hlf2;rw[hkd,htx,hnn,hxs];obtain⟨st2,hst2⟩:∃x,x=o2.st:=⟨_,rfl⟩
     rw[<-hst2] at R12 hkin2;have hkin:=hkin1.out.trans hkin2;rw[<-hnx.out] at hlf2⊢;have hlen2:st2.L.length=E.length:=hkin.L.length_eq.trans hlen0.out;have hq2:K0i st2 now:=hkin.quiet hq0.out;have hit2:Hid (∀e∈E,Je st2.L e.key=some e.it):=hid fun e he=>by rw[hkin.look hnd0.out];exact hit0.out e he
     clear hcall hp hR11 hev2 hno2 hT2 hout1 hout2 hkin1 hkin2 hkin hit0 hq0 hlen0 hnd0 hkd htx hnn hxs hst2 heq;unfold J7;go_upto_region 27 with fail;have R13:=(R12.beside (J1e kd2 tx2 nn2 (.slice a2 nx c2)));generalize hww:w11.alloc _=w12 at R13⊢;clear hww R12;generalize w11.heap.size=b2 at R13⊢;obtain⟨es,clock,rfl,hes,hborn,hnd⟩:=hwas.out
     have hml:es.size=E.length:=by
      have h1:=congrArg List.length hes;simpa using h1
     have hbnd:Hid (∀e∈E,e.key.size<=512/\e.it.fs.length<=1048576):=hid fun e he=>by
      have h1:=R13.is.fit.key _ (J0v (hit2.out e he));refine⟨h1.1,?_⟩
      rcases h1.2 with h2|h2
      ·have h3:=h2.2.2
       simp only at h3
       simp[h3]
      ·have h3:=h2.2.2.2.2.1
       simp only at h3
       omega
     have hev0:Hid (st2.ev.length<=4398046511104):=hid (by rw[R13.ok.2.2.1];decide)
     obtain⟨ms,hl11,hok,hfit⟩:=R13.is
     obtain⟨L,hLe⟩:∃L:Hp,L=l11++((b2,J1e kd2 tx2 nn2 (.slice a2 nx c2))::(b1,J1e kd2 tx2 nn2 (.slice a1 nx c1))::(xl1++(xl2++((mb,.map es clock)::(K0h E++r))))):=⟨_,rfl⟩
     have S14:J3 w0 [] w12 L:=by
      rw[hLe];exact R13.st.pick (m:=el2) (J5 fun f=>by simp only[SC];omega)
     have R13i:=hid R13.is;have hx:=K0x (w0:=w0) (show(b1,J1e kd2 tx2 nn2 (.slice a1 nx c1))∈L by rw[hLe];simp)
     have hy:=K0x (w0:=w0) (show(b2,J1e kd2 tx2 nn2 (.slice a2 nx c2))∈L by rw[hLe];simp)
     have x0:=fun p=>(hx p).c0
     have y0:=fun p=>(hy p).c0
     have x1:=fun p=>(hx p).c1
     have y1:=fun p=>(hy p).c1
     have x2:=fun p=>(hx p).c2
     have y2:=fun p=>(hy p).c2
     have x3:=fun p=>(hx p).c3
     have y3:=fun p=>(hy p).c3
     have x4:=fun p=>(hx p).c4
     have y4:=fun p=>(hy p).c4
     have x5:=fun p=>(hx p).c5
     have y5:=fun p=>(hy p).c5
     clear hx hy
     have ht1:∀wq,J3 w0 [] wq L->wq.cell? ⟨sb,0,none⟩=some (ptr ms.tb):=fun wq h=>by
      rw[hLe,hl11] at h;exact(K1 h.own).c0
     have ht0:∀p:InW w0 [] L,p.w.cell? ⟨sb,0,none⟩=some (ptr ms.tb):=fun p=>ht1 p.w p.h
     clear ht1
     have hsame:Hid (∀p:InW w0 [] L,Calls Tryz.prog 15 #[J7 kd2 tx2 nn2 (.slice a1 nx c1),J7 kd2 tx2 nn2 (.slice a2 nx c2)] p.w (fun e w'=>e= .returned (.bool true)/\J3 w0 [] w' L)):=hid fun p=>by
      have hp1:L.Perm (xl1++(xl2++(l11++((b2,J1e kd2 tx2 nn2 (.slice a2 nx c2))::(b1,J1e kd2 tx2 nn2 (.slice a1 nx c1))::((mb,.map es clock)::(K0h E++r)))))):=by
       rw[hLe];exact J5 fun f=>by simp only[SC];omega
      exact(K1e (p.h.permR hp1) hlf1.out hlf2 hnx.out (by obtain⟨_,_,_,h2,h3⟩:=hlf2.form;have h4:=hnx.out;unfold maxLen at h3;omega) kd2 tx2 nn2).mono fun e w' ⟨he,hs⟩=>⟨he,hs.permR hp1.symm⟩
     have hlen1:∀wq,J3 w0 [] wq L->Calls Tryz.prog 16 #[ptr ms.tb] wq (fun e w'=>e= .returned (.int .i64 (E.length:Nat))/\J3 w0 [] w' L):=fun wq h=>by
      rw[hLe,hl11] at h⊢;have h2:=K1o h hok;rwa[hlen2] at h2
     have hlen:Hid (∀p:InW w0 [] L,Calls Tryz.prog 16 #[ptr ms.tb] p.w (fun e w'=>e= .returned (.int .i64 (E.length:Nat))/\J3 w0 [] w' L)):=hid fun p=>hlen1 p.w p.h
     clear hlen1
     have hlm:∀(p:InW w0 [] L) (ty:TypeId),(Builtin.len_ #[48] ty #[.map (some mb)]).run Tryz.prog p.w= .ok (.int .i64 (E.length:Nat)) p.w:=fun p ty=>by
      have h1:=run_len_map (P:=Tryz.prog) (w:=p.w) (t:=48) (ty:=ty) (r:=mb) (es:=es) (clock:=clock) (h:=by kernel_rfl) (hb:=p.h.own.at_ (mb,.map es clock) (by rw[hLe];simp))
      rw[hml] at h1;exact h1
     have hmore:Hid (∀wq,J3 w0 [] wq L->J3 w0 [] wq (l11++((mb,.map es clock)::(K0h E++r)))):=hid fun wq h=>by
      rw[hLe] at h;exact h.pick (m:=(b2,J1e kd2 tx2 nn2 (.slice a2 nx c2))::(b1,J1e kd2 tx2 nn2 (.slice a1 nx c1))::(xl1++xl2)) (J5 fun f=>by simp only[SC];omega)
     generalize E.length=el at hlen hlm;replace hml:=hid hml;replace hes:=hid hes;replace hborn:=hid hborn;replace hnd:=hid hnd;replace hLe:=hid hLe;replace hq2:=hid hq2;replace hlf2:=hid hlf2;clear R13 hok hfit hl11 hlen2 hwas;refine J1x S14 (by kernel_rfl) (by kernel_rfl) (fun hne=>?_)
     repeat (go_big_quiet_step ((first
      |(go_at_call 15;refine Calls.inw (hsame.out _))
      |(go_at_call 16;refine Calls.inw (hlen.out _)))))
     refine J73 fun wq hq9=>?_
     have S15:=hmore.out wq hq9;have hrg:=run_range_map (P:=Tryz.prog) wq 48 _ _ mb es clock Tryz.underlying48 (S15.own.at_ (mb,.map es clock) (by simp))
     have S16:=S15.alloc (.mapIter (some mb) clock #[] clock);generalize hw13:wq.alloc (.mapIter (some mb) clock #[] clock)=w13 at hrg S16;generalize hib:wq.heap.size=ib at hrg S16;replace S16:Hid (J3 w0 [] w13 ((ib,.mapIter (some mb) clock #[] clock)::(l11++((mb,.map es clock)::(K0h E++r))))):=hid S16;replace hw13:=hid hw13;replace hib:=hid hib;clear x0 x1 x2 x3 x4 x5 y0 y1 y2 y3 y4 y5 ht0 hsame hlen hlm hmore hne S14 S15 hq9 hLe;go_wp2_with fail;go_loopw [20,21,22,23] (fun s20 s21 s22 s23 wr=>∃(seen:Array Nat) (l:Hp),Hid (Jh l sb st2)/\Hid (J3 w0 [] wr ((ib,.mapIter (some mb) clock seen clock)::(l++((mb,.map es clock)::(K0h E++r)))))) (fun s20 s21 s22 s23 wr=>(leftOf es (wr.iterSeen ib)).size)
     case atStart=>exact⟨#[],l11,R13i,S16⟩
     case round=>
      obtain⟨seen,l13,hX13,S17⟩:=hrel
      clear S16 R13i hrg;have hb13:wr.heap[mb]? =some (.map es clock):=S17.out.own.at_ (mb,.map es clock) (by simp)
      have hms:wr.iterSeen ib=seen:=by unfold World.iterSeen;rw[S17.out.own.head]
      rcases run_next_at (P:=Tryz.prog) wr 0 ib mb clock clock seen es clock S17.out.own.head hb13 hborn.out (Nat.le_refl _) with⟨h0,hrun⟩|⟨ee,he,wn1,hal,hrun⟩
      ·have hnxt:∀ty,(Instr.next (.pointer (some ⟨ib,0,none⟩)) false ty).run Tryz.prog wr=_:=fun _=>hrun
       have hend:=hid (S17.out.pick (l2:=r) (m:=(ib,.mapIter (some mb) clock seen clock)::(l13++((mb,.map es clock)::K0h E))) (J5 fun f=>by simp only[SC];omega))
       clear hrun h0 hb13 hms S17;go_wp2_with fail;go_ret;exact⟨rfl,hend.out⟩
      ·obtain⟨em,hem,hkey,hval⟩:=K1i hes.out (mem_left he).1
       have hless:=left_shrinks es seen ee he
       have S18:J3 w0 [] wn1 ((ib,.mapIter (some mb) clock seen clock)::(l13++((mb,.map es clock)::(K0h E++r)))):=by
        rcases hal with rfl|rfl
        ·exact S17.out
        ·exact S17.out.drew
       have S19:=S18.obj (o':=.mapIter (some mb) clock (seen.push ee.born) clock) (w2:=setBlock wn1 ib (.mapIter (some mb) clock (seen.push ee.born) clock)) rfl;have hen:=run_entry_at (P:=Tryz.prog) _ ib mb clock seen es clock ee S19.own.head (S19.own.at_ (mb,.map es clock) (by simp)) (mem_left he).1 hnd.out
       obtain⟨ekey,eit,ev9,esl⟩:=em
       have hife:=hflds.out _ hem;simp only at hife hkey
       obtain⟨a9,c9,rfl⟩:=hife.shape
       rw[hkey,hval] at hrun hen;simp only[Was.val,J6] at hrun hen;generalize setBlock wn1 ib (.mapIter (some mb) clock (seen.push ee.born) clock)=w14 at hrun hen S19;have hnxt:∀ty,(Instr.next (.pointer (some ⟨ib,0,none⟩)) false ty).run Tryz.prog wr=_:=fun _=>hrun
       have hitk:=hit2.out _ hem;simp only at hitk
       obtain⟨WR,hWR⟩:=K1j hem
       simp only at hWR
       have hms2:Hid ((leftOf es (seen.push ee.born)).size<(leftOf es seen).size):=hid hless;have hfl:eit.fs.length<=1048576:=(hbnd.out _ hem).2;have hks9:Hid (ekey.size<=1099511627776):=hid (by have h1:=(hbnd.out _ hem).1;simp only at h1;omega)
       obtain⟨fl9,hfl9⟩:∃k,k=eit.fs.length:=⟨_,rfl⟩
       rw[<-hfl9] at hife hnxt hen;replace hms:=hid hms;replace hWR:=hid hWR;replace hife:=hid hife;replace hfl:=hid hfl;replace hfl9:=hid hfl9;replace hitk:=hid hitk;clear hrun he hal S18 hb13 S17 hkey hval hless hem;go_upto_region 32 with fail;have S20:=S19.alloc (Jb eit.kind eit.text (.slice a9 fl9 c9));generalize hww:w14.alloc _=w15 at S20⊢;clear hww S19 hen hnxt;generalize w14.heap.size=jb at S20⊢;have hpeek:=Jak (l:=l13) (r:=(jb,Jb eit.kind eit.text (.slice a9 fl9 c9))::(ib,.mapIter (some mb) clock (seen.push ee.born) clock)::((mb,.map es clock)::(K0h E++r))) (S20.permR (J5 fun f=>by simp only[SC];omega)) hF.out.gl hX13.out hev0.out ekey hks9.out now
       rw[hq2.out.due,hitk.out] at hpeek;unfold J52 at hpeek;simp only[Option.getD_some,Option.isSome_some] at hpeek;replace hpeek:=hid hpeek;clear hX13 S20;go_wp2_with fail;refine hpeek.out.mono ?_;rintro e w16 ⟨v16,vl,l16,rfl,hif,hX16,S21⟩;clear hpeek;obtain⟨a16,c16,rfl⟩:=hif.shape
       rw[<-hfl9.out] at hif⊢;unfold J6;go_upto_region 33 with fail;have S22:=S21.alloc (Jb eit.kind eit.text (.slice a16 fl9 c16));generalize hww:w16.alloc _=w17 at S22⊢;clear hww S21;generalize w16.heap.size=kb at S22⊢;have i0:w17.cell? ⟨kb,0,none⟩=some (.int .i64 eit.kind):=J2 S22.own.head 0;have i1:w17.cell? ⟨kb,1,none⟩=some (.string eit.text):=J2 S22.own.head 1;have i2:w17.cell? ⟨kb,2,none⟩=some (.slice a16 fl9 c16):=J2 S22.own.head 2;have hj:w17.heap[jb]? =some (Jb eit.kind eit.text (.slice a9 fl9 c9)):=S22.own.at_ (jb,Jb eit.kind eit.text (.slice a9 fl9 c9)) (by simp)
       have j0:w17.cell? ⟨jb,0,none⟩=some (.int .i64 eit.kind):=J2 hj 0;have j1:w17.cell? ⟨jb,1,none⟩=some (.string eit.text):=J2 hj 1;have j2:w17.cell? ⟨jb,2,none⟩=some (.slice a9 fl9 c9):=J2 hj 2;obtain⟨Q,hQ⟩:∃Q:Hp,Q=(kb,Jb eit.kind eit.text (.slice a16 fl9 c16))::(l16++((jb,Jb eit.kind eit.text (.slice a9 fl9 c9))::(ib,.mapIter (some mb) clock (seen.push ee.born) clock)::((mb,.map es clock)::(WR++r)))):=⟨_,rfl⟩
       have hsame:=K1f (r:=Q) (S22.permR (l2:=esl++(vl++Q)) (J5 fun f=>by
        rw[hQ];have h1:=(hWR.out.map f).sum_nat;simp only[SC] at h1⊢;omega)) hife.out hif hfl.out eit.kind eit.text
       unfold J6 at hsame;replace hsame:=hid hsame;replace hX16:=hid hX16;replace hQ:=hid hQ;clear S22 hj hif;go_wp2_with fail;refine hsame.out.mono ?_;rintro e w18 ⟨rfl,S23⟩;clear hsame i0 i1 i2 j0 j1 j2;rw[hQ.out] at S23
       have S24:Hid (J3 w0 [] w18 ((ib,.mapIter (some mb) clock (seen.push ee.born) clock)::(l16++((mb,.map es clock)::(K0h E++r))))):=hid (S23.pick (m:=(kb,Jb eit.kind eit.text (.slice a16 fl9 c16))::(jb,Jb eit.kind eit.text (.slice a9 fl9 c9))::vl) (J5 fun f=>by
        have h1:=(hWR.out.map f).sum_nat;simp only[SC] at h1⊢;omega))
       clear S23 hQ;go_wp2_with fail;go_roundw
       case rel=>exact⟨seen.push ee.born,l16,hX16,S24⟩
       case measure=>
        have h1:w18.iterSeen ib=seen.push ee.born:=by unfold World.iterSeen;rw[S24.out.own.head]
        rw[h1,hms.out];exact hms2.out
end Go.Proofs.YtncbcaabanoeoaaGreatDoor
