/-
(*Store).Drop, evict.
-/
import Derived.Deep.LoopGhost
import Derived.Deep.RegionHeld3
import Derived.Test.YtncbcaabanoeoaaGreatDoorQ17
set_option linter.unusedVariables false
set_option linter.unusedSimpArgs false
set_option maxRecDepth 100000
set_option maxHeartbeats 8000000
namespace Go.Proofs.YtncbcaabanoeoaaGreatDoor
open Go Go.RowKit
variable {w0 w:World}{l r il:Hp}{sb:Nat}{S:St}{it:Itm}{m:SM}{v:Value}
theorem Jbn (hS:J3 w0 [] w (l++r)) (hG:J17 w0) (hX:Jh l sb S) (hev:S.ev.length<=2199023255552) (key:ByteArray) (hk:key.size<=1099511627776) (now:Int):
 Calls Tryz.prog 54 #[ptr sb,.string key,.int .i64 now] w (Jp w0 r sb ((S.due key now).gone key 2) (.bool (Je (S.due key now).L key).isSome)):=by
 have hdue:=hid (J6y hS hG hX (by omega) key hk now)
 have hev2:=Jhi S key now;generalize S.due key now=S' at hdue hev2⊢;have hev3:S'.ev.length<=4398046511104:=by omega
 clear hS hX hev hev2;go_enter Tryz.func54,Tryz.ntmps54;go_wp2_with fail;refine hdue.out.mono ?_;rintro e w1 ⟨rfl,l1,hX1,S1⟩;have hgone:=hid (Jag S1 hG hX1 hev3 key hk 2);clear hX1 S1 hdue hev3;go_wp2_with fail;refine hgone.out.mono ?_;intro e w2 hP
 obtain⟨rfl,h2⟩:=hP
 replace h2:=hid h2;clear hgone;go_wp2_with fail;go_ret;exact⟨rfl,h2.out⟩
theorem Jt6 {key:ByteArray} {kind:Int} (hf:Fit S) (h:Je S.L key=some it):(S.gone key kind).L.length+1=S.L.length:=by
 rw[J7y h];have:=(J3i hf.nd h).length_eq
 simpa using this.symm
structure Evs (w0:World) (r:Hp) (sb:Nat) (S0:St) (but:ByteArray) (n:Nat) (wr:World) (l:Hp) (S:St):Prop where
 st:Jh l sb S
 hS:J3 w0 [] wr (l++r)
 le:S.L.length=n
 ev:S.ev.length+n<=S0.ev.length+S0.L.length
 eq:St.evict n S but=St.evict S0.L.length S0 but
theorem Jfu (hS:J3 w0 [] w (l++r)) (hG:J17 w0) (hX:Jh l sb S) (hev:S.ev.length<=2199023255552) (but:ByteArray):
 Calls Tryz.prog 147 #[ptr sb,.string but] w (Jp w0 r sb (S.evict S.L.length but) (.tuple #[])):=by
 have hlen:S.L.length<=41666666667:=by obtain⟨m,_,_,hf⟩:=hX;exact hf.few
 have h0:Hid (Evs w0 r sb S but S.L.length w l S):=hid ⟨hX,hS,rfl,Nat.le_refl _,rfl⟩;clear hX hS;go_enter Tryz.func147,Tryz.ntmps147;go_wp2_with fail;go_loopg [] S.L.length (fun k wr=>∃l S',Hid (Evs w0 r sb S but k wr l S'))
 case atStart=>exact⟨l,S,h0⟩
 case round=>
  obtain⟨l',S',hE⟩:=hrel
  obtain⟨⟨m,rfl,hok,hf⟩,hS',hle,hev',heq⟩:=hE.out
  have c3:=(K1 hS'.own).c3;have c5:=(K1 hS'.own).c5;have c6:=(K1 hS'.own).c6;have hb1:Jd S'.L<=2000000000000:=hf.le;have hb2:S'.bud<=1000000000000:=hf.bud;by_cases hlt:S'.bud<Jd S'.L
  ·have hne:S'.L≠[]:=by rintro e;rw[e] at hlt;simp[Jd] at hlt
   have hlti:(S'.bud:Int)<(Jd S'.L:Nat):=by omega
   have hks:=hok.keys;have hold:∀q,Hid (Calls Tryz.prog 186 #[ptr m.rb,.string but] (wr.drewN q) fun e w'=>e= .returned (.tuple #[.string (J0q (S'.L.map Prod.fst) but).1,.bool (J0q (S'.L.map Prod.fst) but).2])/\∃n,w'=(wr.drewN q).drewN n):=fun q=>by
    rw[hks];exact Jmx m.rl m.rb _ but _ hok.rcn (SM.ownR (hS'.drewN q).own)
   obtain⟨n,rfl⟩:∃n,gk=n+1:=by
    cases gk with
    |zero=>exact absurd (List.length_eq_zero_iff.1 hle) hne
    |succ n=>exact⟨n,rfl⟩
   cases ho:(J0q (S'.L.map Prod.fst) but).2 with
   |false=>
    have hfin:Hid (∀q,Jp w0 r sb (S.evict S.L.length but) (.tuple #[]) (.returned (.tuple #[])) (wr.drewN q)):=hid fun q=>by
     rw[<-heq];have e:St.evict (n+1) S' but=S':=by unfold St.evict;rw[if_pos hlt,if_neg (by rw[ho];simp)]
     rw[e];exact⟨rfl,_,⟨m,rfl,hok,hf⟩,hS'.drewN q⟩
    rw[ho] at hold;replace ho:=hid ho;clear hS' hok hf heq hks hne hE;go_wp2_with fail;go_quiet (fail);go_wp2_with fail;refine(hold nq).out.mono ?_
    rintro e w2 ⟨rfl,q2,rfl⟩;clear hold;go_wp2_with fail;go_end0
    exact hfin.out _
   |true=>
    have hm:=Jcg ho hf.nd;obtain⟨jt,hj⟩:=Option.isSome_iff_exists.1 (Jbd.2 hm.1)
    have hksz:(J0q (S'.L.map Prod.fst) but).1.size<=1099511627776:=Nat.le_trans (hf.key _ (J0v hj)).1 (by omega)
    have hlen2:=Jt6 (kind:=4) hf hj;have hev2:=Jhp S' (J0q (S'.L.map Prod.fst) but).1 4;have hgone:∀q,Hid (Calls Tryz.prog 109 #[ptr sb,.string (J0q (S'.L.map Prod.fst) but).1,.int .i64 4] (wr.drewN q) (Jp w0 r sb (S'.gone (J0q (S'.L.map Prod.fst) but).1 4) (.bool (Je S'.L (J0q (S'.L.map Prod.fst) but).1).isSome))):=fun q=>
     hid (Jag (hS'.drewN q) hG ⟨m,rfl,hok,hf⟩ (by omega) _ hksz 4)
    have heq2:Hid (St.evict n (S'.gone (J0q (S'.L.map Prod.fst) but).1 4) but=St.evict S.L.length S but):=hid (by
     rw[<-heq];conv=>rhs;unfold St.evict
     rw[if_pos hlt,if_pos (by rw[ho])])
    generalize hkey:(J0q (S'.L.map Prod.fst) but).1=key at hold hgone heq2 hlen2 hev2;rw[ho] at hold;replace ho:=hid ho;replace hkey:=hid hkey;generalize S'.gone key 4=S2 at hgone heq2 hlen2 hev2;generalize (Je S'.L key).isSome=is at hgone;have hnum:S2.L.length=n/\S2.ev.length+n<=S.ev.length+S.L.length:=by omega
    clear hS' hok hf heq hks hne hE hj hm hlen2 hev2;go_wp2_with fail;go_quiet (fail);go_wp2_with fail;refine(hold nq).out.mono ?_
    rintro e w2 ⟨rfl,q2,rfl⟩;clear hold;rw[World.drewN_drewN];go_wp2_with fail;refine(hgone _).out.mono ?_
    rintro e w3 ⟨rfl,l3,hX3,hS3⟩;have hE3:=hid (show ∃l S',Hid (Evs w0 r sb S but n w3 l S') from⟨l3,S2,hid ⟨hX3,hS3,hnum.1,hnum.2,heq2.out⟩⟩);clear hgone hX3 hS3 hnum heq2;go_wp2_with fail;go_roundg n
    case measure=>omega
    case rel=>exact hE3.out
  ·have hfin:Hid (∀q,Jp w0 r sb (S.evict S.L.length but) (.tuple #[]) (.returned (.tuple #[])) (wr.drewN q)):=hid fun q=>by
    rw[<-heq];have e:St.evict gk S' but=S':=by
     cases gk with
     |zero=>rfl
     |succ n=>unfold St.evict;rw[if_neg hlt]
    rw[e];exact⟨rfl,_,⟨m,rfl,hok,hf⟩,hS'.drewN q⟩
   have hlti:¬(S'.bud:Int)<(Jd S'.L:Nat):=by omega
   clear hS' hok hf heq hE;go_wp2_with fail;go_quiet (fail);go_wp2_with fail;go_end0
   exact hfin.out _
structure Jbz (m:SM) (S:St) (key:ByteArray) (i:Nat):Prop where
 tab:K5 m.tl m.tb m.M 0
 rcn:Ko m.rl m.rb (m.cs.map J1l.key)
 exp:Kq m.xl m.xb S.D
 slots:SliceHp 3 59 m.sv m.ss.length (Jr m.ss) m.shp
 free:SliceHp 1 3 m.fv m.fr.length (J1p m.fr) m.fhp
 evs:SliceHp 2 41 m.vv S.ev.length (J1g S.ev) m.vhp
 cells:S.L=m.cs.map fun c=>(c.key,c.it)
 num:m.M.Perm (m.cs.map fun c=>(c.key,(c.at_:Int)))
 holds:∀c∈J3u m.cs key,∃s,m.ss[c.at_]? =some s/\s.it=c.it
 all:(m.fr++((J3u m.cs key).map J1l.at_++[i])).Perm (List.range m.ss.length)
 each:∀s∈m.ss,Jj s.v s.it.fs s.hp
 few:m.ss.length<=68719476736
def Jav (w0:World) (r:Hp) (sb:Nat) (S:St) (key:ByteArray) (e:Ending) (w':World):Prop:=
 ∃i m,e= .returned (.int .i64 (i:Nat))/\Jbz m S key i/\J3 w0 [] w' (m.hp sb (Jd (K3 S.L key)) S.bud++r)
theorem Jpn {cs:List J1l} {key:ByteArray} (h:key∉cs.map J1l.key):J3u cs key=cs:=by
 rw[J3u,List.filter_eq_self];intro c hc
 have:c.key≠key:=fun e=>h (List.mem_map.2 ⟨c,hc,e⟩)
 simpa using this
theorem Jbz.old (h:m.Ok S) (hf:Fit S) {c:J1l} (hc:c∈m.cs) {tl':Hp} (hT:K5 tl' m.tb m.M 0):Jbz {m with tl:=tl'} S c.key c.at_ where
 tab:=hT
 rcn:=h.rcn
 exp:=h.exp
 slots:=h.slots
 free:=h.free
 evs:=h.evs
 cells:=h.cells
 num:=h.num
 holds:=fun d hd=>h.holds d (List.mem_filter.1 hd).1
 all:=(List.Perm.append_left _ ((List.perm_append_comm (l₁:=(J3u m.cs c.key).map J1l.at_) (l₂:=[c.at_])).trans ((Ja8 (Jdt h hf) hc).map J1l.at_).symm)).trans h.all
 each:=h.each
 few:=h.few
theorem Jjk (fr:List Nat):(J1p fr).length=fr.length:=by simp[J1p]
theorem SM.setFree {n bud:Nat} (hS:J3 w0 l w (m.hp sb n bud++r)) (v:Value):J3 w0 l (w.setCell ⟨sb,2,none⟩ v) ({m with fv:=v}.hp sb n bud++r):=by
 have h:J3 w0 l w ((sb,J1i m n bud)::(m.rest++r)):=hS;exact h.set 2 v
theorem Jtk:(Tryz.prog.info? 59).map (fun i=>(i.zero,i.size,i.bytes))=some (some (.agg #[.int .i64 0,.string ByteArray.empty,.slice none 0 0]),3,48):=by kernel_rfl
theorem SM.pushSlot {n bud:Nat} (hS:J3 w0 l w (m.hp sb n bud++r)) (hsl:SliceHp 3 59 m.sv m.ss.length (Jr m.ss) m.shp) (hB:m.ss.length<=68719476736):
 ∃a c w2 shp',(Builtin.append_ #[51,51] 51 #[m.sv,.slice (some ⟨w.heap.size,0,none⟩) 1 1]).run Tryz.prog (w.alloc (.cells #[.int .i64 0,.string ByteArray.empty,.slice none 0 0] 59))= .ok (.slice a (m.ss.length+1) c) w2/\
  SliceHp 3 59 (.slice a (m.ss.length+1) c) (m.ss.length+1) (Jr (m.ss++[J0c])) shp'/\
  Jh3 w2 sb m n bud/\sb<w2.heap.size/\
  J3 w0 l (w2.setCell ⟨sb,1,none⟩ (.slice a (m.ss.length+1) c)) ({m with sv:=.slice a (m.ss.length+1) c,shp:=shp',ss:=m.ss++[J0c]}.hp sb n bud++r):=by
 have S1:=hS.alloc (.cells #[.int .i64 0,.string ByteArray.empty,.slice none 0 0] 59);have hvb:=S1.own.head;have S2:=S1.permR (l2:=m.shp++((w.heap.size,.cells #[.int .i64 0,.string ByteArray.empty,.slice none 0 0] 59 (0,0))::(sb,J1i m n bud)::(m.tl++(m.rl++(m.xl++(m.fhp++(m.vhp++(J06 m.ss++r)))))))) (J5 fun f=>by
  simp only[SM.hp,SM.rest,List.map_append,List.sum_append,List.map_cons,List.sum_cons,List.cons_append];omega)
 obtain⟨v',w2,sl',hrun,hsl',S3,_⟩:=J1f (P:=Tryz.prog) (ty:=51) Tryz.underlying51 Tryz.underlying51 Jtk rfl (by decide) S2 hsl
  ⟨w.heap.size,0,none⟩ 1 1 [.int .i64 0,.string ByteArray.empty,.slice none 0 0] rfl (by
   intro j u hu
   rw[J0i,J2 hvb];simpa using hu) (by simp[Value.oneCell']) (by omega) (by omega) (by unfold maxLen;omega)
 obtain⟨a',c',rfl,_,_⟩:=hsl'.form
 have hb3:=S3.own.right.tail.head;have S4:=(S3.pick (l2:=(sb,J1i m n bud)::(sl'++(m.tl++(m.rl++(m.xl++(m.fhp++(m.vhp++(J06 m.ss++r)))))))) (m:=[(w.heap.size,.cells #[.int .i64 0,.string ByteArray.empty,.slice none 0 0] 59 (0,0))]) (J5 fun f=>by
  simp only[List.map_append,List.sum_append,List.map_cons,List.sum_cons,List.cons_append,List.map_nil,List.sum_nil];omega)).set 1 (.slice a' (m.ss.length+1) c')
 refine⟨a',c',w2,sl',hrun,by rw[Jcx];exact hsl',⟨J2 hb3 0,J2 hb3 1,J2 hb3 2,J2 hb3 3,J2 hb3 4,J2 hb3 5,J2 hb3 6,J2 hb3 7,fun j=>Jg hb3 j⟩,Jf hb3,S4.permR (J5 fun f=>?_)⟩
 rw[J1d];have e:J06 (m.ss++[J0c])=J06 m.ss:=by simp[J06,J0c]
 simp only[List.map_append,List.sum_append,List.map_cons,List.sum_cons,List.cons_append,List.map_nil,List.sum_nil,e];show f (sb,J1i {m with sv:=.slice a' (m.ss.length+1) c',shp:=sl',ss:=m.ss++[J0c]} n bud)+_=_
 omega
theorem Jrg (hS:J3 w0 [] w (l++r)) (hG:J17 w0) (hX:Jh l sb S) (key:ByteArray) (hk:key.size<=1099511627776):
 Calls Tryz.prog 145 #[ptr sb,.string key] w (Jav w0 r sb S key):=by
 obtain⟨m,rfl,hok,hf⟩:=hX
 have hget:=hid (Jli m.tl m.tb m.M key w hok.tab (Je2 hok hf) (by unfold maxLen;omega) (SM.ownT hS.own))
 have c0:=(K1 hS.own).c0;have hfew:=hok.few;cases hl:look m.M key with
 |some i=>
  obtain⟨c,s,hc,rfl,rfl,hs,hsi,hml⟩:=hok.found hf hl
  have hi:=(List.getElem?_eq_some_iff.1 hs).1;have hbs:=Jdq hf.nd hml;have hrt:J0e s.it:=by rw[hsi];exact(hf.key _ (J0v hml)).2
  have hat:=hok.each s (List.mem_of_getElem? hs);replace hl:=hid hl;go_enter Tryz.func145,Tryz.ntmps145;go_wp2_with fail;refine hget.out.mono ?_;rintro e w1 ⟨rfl,tl',hT',ST⟩;simp only[hl.out,Option.getD_some,Option.isSome_some];have S1:=SM.stepT (M':=m.M) hS ST;have hready:=Jbz.old hok hf hc (hT'.weak (Nat.zero_le _));obtain⟨m1,hm1⟩:∃m1:SM,m1={m with tl:=tl',M:=m.M}:=⟨_,rfl⟩
  have hm1':({m with tl:=tl'}:SM)=m1:=hm1.symm
  rw[<-hm1] at S1;rw[hm1'] at hready;have hs1:m1.ss[c.at_]? =some s:=by rw[hm1];exact hs
  have hi1:c.at_<m1.ss.length:=by rw[hm1];exact hi
  have hfew1:=hready.few;obtain⟨g,cap,rest,hsv,hc1,hc2,hshp,hrest,hgb,_,_,_⟩:=J7a S1.own hready.slots hs1
  have hcost:∀w':World,J3 w0 [] w' (m1.hp sb (Jd S.L) S.bud++r)->_:=fun _ h=>Jfp (S:=S) (key:=c.key) h hG hs1 hat hrt hk
  unfold J6 at hcost;have hnew:Hid ((Jd S.L:Int) - (J24 c.key s.it:Nat)=(Jd (K3 S.L c.key):Nat)):=hid (by rw[hsi,hbs];omega)
  have hlt1:Jd S.L<=2000000000000:=hf.le;have hlt2:J24 c.key s.it<=2000000000000:=by rw[hsi];omega
  have c5:∀p:InW w0 [] (m1.hp sb (Jd S.L) S.bud++r),p.w.cell? ⟨sb,5,none⟩=some (.int .i64 (Jd S.L:Nat)):=fun p=>(J0w p.h hsv hshp hs1).1
  have c1:∀p:InW w0 [] (m1.hp sb (Jd S.L) S.bud++r),p.w.cell? ⟨sb,1,none⟩=some (.slice (some ⟨g,0,none⟩) m1.ss.length cap):=fun p=>(J0w p.h hsv hshp hs1).2.1
  have x0:∀p:InW w0 [] (m1.hp sb (Jd S.L) S.bud++r),p.w.cell? ⟨g,c.at_*3,none⟩=some (.int .i64 s.it.kind):=fun p=>(J0w p.h hsv hshp hs1).2.2.1
  have x1:∀p:InW w0 [] (m1.hp sb (Jd S.L) S.bud++r),p.w.cell? ⟨g,c.at_*3+1,none⟩=some (.string s.it.text):=fun p=>(J0w p.h hsv hshp hs1).2.2.2.1
  have x2:∀p:InW w0 [] (m1.hp sb (Jd S.L) S.bud++r),p.w.cell? ⟨g,c.at_*3+2,none⟩=some s.v:=fun p=>(J0w p.h hsv hshp hs1).2.2.2.2.1
  have S1':=hid S1;have hcost':=hid hcost;have hready':=hid hready;clear hS hok hf hready S1 hT' ST hbs hrt hat hs hs1 hsv hshp hgb hrest hsi hml hm1 hm1' hget hG hcost;unfold maxLen at hc2;go_wp2_with fail;refine Jq 16 S1'.out (by kernel_rfl) (by kernel_rfl) (fun hne=>?_)
  simp only[List.take_succ_cons,List.take_zero,List.drop_succ_cons,List.drop_zero];repeat (go_big_quiet_step ((go_at_call 144;refine Calls.inw (hcost'.out _ (InW.h _)))))
  refine J04 fun w2 S2=>?_
  clear c5 c1 x0 x1 x2 hne;have c5:=(K1 S2.own).c5;have fz:=(K1 S2.own).fz;have S3:=hid (SM.setBytes S2 (Jd (K3 S.L c.key)));rw[hnew.out];clear S2;go_wp2_with fail;go_ret;exact⟨c.at_,m1,rfl,hready'.out,S3.out⟩
 |none=>
  have hn:=hok.lost hl;have hnk:key∉m.cs.map J1l.key:=by rw[<-hok.keys];exact Jef hn
  have hcd:=Jpn hnk;have hmd:K3 S.L key=S.L:=Jbc hn;replace hl:=hid hl;go_enter Tryz.func145,Tryz.ntmps145;go_wp2_with fail;refine hget.out.mono ?_;rintro e w1 ⟨rfl,tl',hT',ST⟩;simp only[hl.out,Option.getD_none,Option.isSome_none];have S1:=SM.stepT (M':=m.M) hS ST;have hall:=hok.all;rcases List.eq_nil_or_concat m.fr with hz|⟨init,last,hz⟩
  ·obtain⟨af,cf,hfv⟩:∃a c,m.fv= .slice a 0 c:=by obtain⟨a,c,h,_⟩:=hok.free.form;rw[hz] at h;exact⟨a,c,h⟩
   obtain⟨asl,csl,hsv⟩:∃a c,m.sv= .slice a m.ss.length c:=by obtain⟨a,c,h,_⟩:=hok.slots.form;exact⟨a,c,h⟩
   have c2:w1.cell? ⟨sb,2,none⟩=some (.slice af 0 cf):=by rw[<-hfv];exact(K1 S1.own).c2
   have c1:w1.cell? ⟨sb,1,none⟩=some (.slice asl m.ss.length csl):=by rw[<-hsv];exact(K1 S1.own).c1
   have hlen:m.ss.length<=41666666667:=by
    have:=hall.length_eq
    rw[hz,List.nil_append,List.length_map,List.length_range] at this;have h2:=hok.keys;have h3:=congrArg List.length h2;simp only[List.length_map] at h3;have:=hf.few
    omega
   obtain⟨a,cs,w2,shp',hrun,hsl2,hc2,hsb2,S2⟩:=SM.pushSlot S1 hok.slots (by omega)
   simp only[hsv] at hrun;have d1:=hc2.c1;have fz:=hc2.fz;have hready:Jbz {m with tl:=tl',sv:=.slice a (m.ss.length+1) cs,shp:=shp',ss:=m.ss++[J0c]} S key m.ss.length:=by
    refine⟨hT'.weak (Nat.zero_le _),hok.rcn,hok.exp,by rw[List.length_append];exact hsl2,hok.free,hok.evs,hok.cells,hok.num,?_,?_,?_,by rw[List.length_append];simp only[List.length_cons,List.length_nil];omega⟩
    ·intro c hc
     obtain⟨s,hs,hi⟩:=hok.holds c (List.mem_filter.1 hc).1
     exact⟨s,by rw[List.getElem?_append_left (List.getElem?_eq_some_iff.1 hs).1];exact hs,hi⟩
    ·rw[hcd,List.length_append,<-List.append_assoc]
     show((m.fr++m.cs.map J1l.at_)++[m.ss.length]).Perm (List.range (m.ss.length+1))
     rw[List.range_succ];exact hall.append_right _
    ·intro s hs
     rcases List.mem_append.1 hs with hs|hs
     ·exact hok.each s hs
     ·simp only[List.mem_cons,List.not_mem_nil,or_false] at hs
      subst hs;exact⟨.nil,fun _=>rfl⟩
   have hfin:Hid (∀W,J3 w0 [] W ({m with tl:=tl',sv:=.slice a (m.ss.length+1) cs,shp:=shp',ss:=m.ss++[J0c]}.hp sb (Jd S.L) S.bud++r)->Jav w0 r sb S key (.returned (.int .i64 (m.ss.length:Nat))) W):=fun W hW=>⟨m.ss.length,_,rfl,hready,by rw[hmd];exact hW⟩
   replace hrun:=hid hrun;replace S2:=hid S2;have d1':(w2.setCell ⟨sb,1,none⟩ (.slice a (m.ss.length+1) cs)).cell? ⟨sb,1,none⟩=some (.slice a (m.ss.length+1) cs):=(K1 S2.out.own).c1;replace hz:=hid hz;clear hS hok hf S1 ST hT' hget hc2 hsl2 hready hall hfv hsv hcd hmd hnk hn c0;go_wp2_with (at_builtin;refine J8 rfl _ _ _ _ rfl _ _ rfl rfl hrun.out ?_);go_ret;exact hfin.out _ S2.out
  ·rw[List.concat_eq_append] at hz
   obtain⟨g,cap,rest,hfv,hc1,hc2,hfh,hrest⟩:=hok.free.view (by rw[hz];simp)
   have hlen:m.fr.length=init.length+1:=by rw[hz];simp
   rw[hlen] at hfv hc1 hrest;have c2:w1.cell? ⟨sb,2,none⟩=some (.slice (some ⟨g,0,none⟩) (init.length+1) cap):=by rw[<-hfv];exact(K1 S1.own).c2
   have fz:=(K1 S1.own).fz;have hgb:w1.heap[g]? =some (.cells (J1p m.fr++rest).toArray 3 (0,0)):=S1.own.at_ (g,_) (by simp[SM.hp,SM.rest,hfh])
   have y0:w1.cell? ⟨g,init.length,none⟩=some (.int .i64 last):=by
    rw[J2 hgb,List.getElem?_toArray,hz];simp[J1p]
   have hbd:init.length<=68719476736:=by
    have:=hall.length_eq
    rw[List.length_append,List.length_range,hlen] at this;omega
   have S2:=hid (SM.setFree S1 (.slice (some ⟨g,0,none⟩) init.length cap));have hready:Jbz {m with tl:=tl',fv:=.slice (some ⟨g,0,none⟩) init.length cap,fr:=init} S key last:=by
    refine⟨hT'.weak (Nat.zero_le _),hok.rcn,hok.exp,hok.slots,?_,hok.evs,hok.cells,hok.num,fun c hc=>hok.holds c (List.mem_filter.1 hc).1,?_,hok.each,hok.few⟩
    ·show SliceHp 1 3 (.slice (some ⟨g,0,none⟩) init.length cap) init.length (J1p init) m.fhp
     rw[hfh,hz];have e:(J1p (init++[last])++rest)=J1p init++(.int .i64 (last:Int)::rest):=by simp[J1p]
     rw[e];exact .laid g _ cap _ _ (by rw[Jjk];omega) (by simp only[List.length_cons];omega) (by omega) hc2
    ·rw[hcd]
     refine List.Perm.trans ?_ hall;rw[hz];refine J5 fun f=>?_
     simp only[List.map_append,List.sum_append,List.map_cons,List.sum_cons,List.map_nil,List.sum_nil];omega
   have hfin:Hid (Jav w0 r sb S key (.returned (.int .i64 (last:Nat))) (w1.setCell ⟨sb,2,none⟩ (.slice (some ⟨g,0,none⟩) init.length cap))):=⟨last,_,rfl,hready,by rw[hmd];exact S2.out⟩
   replace hz:=hid hz;unfold maxLen at hc2;clear hS hok hf S1 ST hT' hget hready hall hfv hcd hmd hnk hn hgb hfh hrest hlen c0;go_wp2_with fail;go_ret;exact hfin.out
def St.put (S:St) (key:ByteArray) (it:Itm) (keep:Bool) (now:Int):St:=
 ((S.due key now).lay key it keep).evict ((S.due key now).lay key it keep).L.length key
theorem Jbz.laid {key:ByteArray} {i:Nat} (h:Jbz m S key i) {s':J4a} (hsi:s'.it=it) (hat:Jj s'.v it.fs s'.hp) {D':AL Int} {ev':List (Int×ByteArray)} {m':SM}
 (tab:K5 m'.tl m'.tb ((key,(i:Int))::J07 m.M key) 0) (rcn:Ko m'.rl m'.rb (J62 (m.cs.map J1l.key) key++[key])) (exp:Kq m'.xl m'.xb D')
 (slots:SliceHp 3 59 m'.sv m.ss.length (Jr (m.ss.set i s')) m'.shp) (free:SliceHp 1 3 m'.fv m.fr.length (J1p m.fr) m'.fhp) (evs:SliceHp 2 41 m'.vv ev'.length (J1g ev') m'.vhp)
 (eM:m'.M=(key,(i:Int))::J07 m.M key) (ecs:m'.cs=J3u m.cs key++[⟨key,i,it⟩]) (ess:m'.ss=m.ss.set i s') (efr:m'.fr=m.fr):
  m'.Ok {S with L:=K3 S.L key++[(key,it)],D:=D',ev:=ev'}:=by
  have hil:i<m.ss.length:=by
   have h1:i∈m.fr++((J3u m.cs key).map J1l.at_++[i]):=by simp
   exact List.mem_range.1 (h.all.mem_iff.1 h1)
  have hnd:=(List.nodup_append.1 (h.all.nodup_iff.2 List.nodup_range)).2.1;have hne:∀c∈J3u m.cs key,c.at_≠i:=fun c hc e=>(List.nodup_append.1 hnd).2.2 c.at_ (List.mem_map_of_mem hc) i (by simp) e
  refine⟨by rw[eM];exact tab,?_,exp,by rw[ess,List.length_set];exact slots,by rw[efr];exact free,evs,?_,?_,?_,?_,?_,by rw[ess,List.length_set];exact h.few⟩
  ·rw[ecs,List.map_append,<-Je6];exact rcn
  ·show K3 S.L key++[(key,it)]=_
   rw[ecs,h.cells,Jed];simp
  ·rw[eM,ecs,List.map_append]
   refine List.Perm.trans ?_ List.perm_append_comm;refine List.Perm.cons _ ?_;rw[<-Jco];exact h.num.filter _
  ·intro c hc
   rw[ecs] at hc;rw[ess];rcases List.mem_append.1 hc with hc|hc
   ·obtain⟨s,hs,hi⟩:=h.holds c hc
    exact⟨s,by rw[List.getElem?_set_ne (Ne.symm (hne c hc))];exact hs,hi⟩
   ·simp only[List.mem_cons,List.not_mem_nil,or_false] at hc
    subst hc;exact⟨s',by simp[hil],hsi⟩
  ·rw[efr,ecs,ess,List.length_set,List.map_append]
   exact h.all
  ·intro s hs
   rw[ess] at hs;rcases List.mem_or_eq_of_mem_set hs with hs|rfl
   ·exact h.each s hs
   ·rw[hsi];exact hat
theorem Jkq (hS:J3 w0 [] w (l++(il++r))) (hat:Jj v it.fs il) (hr:J0e it):
 Calls Tryz.prog 143 #[J6 it.kind it.text v] w fun e w'=>e= .returned (.bool true)/\J3 w0 [] w' (l++(il++r)):=by
 have hp:(l++(il++r)).Perm (il++(l++r)):=List.perm_append_comm_assoc l il r;refine(Jrm (hS.permR hp) hat hr).mono ?_
 rintro e w' ⟨he,h⟩;exact⟨he,h.permR hp.symm⟩
theorem Jhb {key:ByteArray} (hS:J3 w0 [] w (l++(il++r))) (hG:J17 w0) (hat:Jj v it.fs il) (hr:J0e it) (hk:key.size<=1099511627776):
 Calls Tryz.prog 144 #[.string key,J6 it.kind it.text v] w fun e w'=>e= .returned (.int .i64 (J24 key it:Nat))/\J3 w0 [] w' (l++(il++r)):=by
 have hp:(l++(il++r)).Perm (il++(l++r)):=List.perm_append_comm_assoc l il r;refine(Jj3 (hS.permR hp) hG hat hr hk).mono ?_
 rintro e w' ⟨he,h⟩;exact⟨he,h.permR hp.symm⟩
theorem Jw4 (hS:J3 w0 [] w (l++(il++r))) (hat:Jj v it.fs il) (hB:it.fs.length<=1048576):
 Calls Tryz.prog 31 #[J6 it.kind it.text v] w fun e w'=>∃v' sl',e= .returned (J6 it.kind it.text v')/\Jj v' it.fs sl'/\J3 w0 [] w' (l++(sl'++(il++r))):=by
 have hp:(l++(il++r)).Perm (il++(l++r)):=List.perm_append_comm_assoc l il r;refine(J39 (hS.permR hp) hat hB).mono ?_
 rintro e w' ⟨v',sl',he,h1,h2⟩;exact⟨v',sl',he,h1,h2.permR (J5 fun f=>by simp only[SC];omega)⟩
theorem Jv8 (hS:J3 w0 [] w (l++(il++r))) (hG:J17 w0) (hX:Jh l sb S) (hT:Kx S) (hev:S.ev.length<=1099511627776) (key:ByteArray) (hk:key.size<=512)
 (hat:Jj v it.fs il) (hr:J0e it) (hc:J24 key it<=S.bud) (keep:Bool) (now:Int):
  Calls Tryz.prog 87 #[ptr sb,.string key,J6 it.kind it.text v,.bool keep,.int .i64 now] w (Jp w0 (il++r) sb (S.put key it keep now) (.int .i64 0)):=by
  obtain⟨a,cc,rfl⟩:=hat.shape
  have S1:=(hS.alloc (.cells #[.int .i64 it.kind,.string it.text,.slice a it.fs.length cc] 59)).permR (l2:=l++(il++((w.heap.size,.cells #[.int .i64 it.kind,.string it.text,.slice a it.fs.length cc] 59 (0,0))::r))) (J5 fun f=>by
   simp only[SC];omega)
  have hdue:=hid (J6y S1 hG hX (by omega) key (by omega) now)
  have hT':=hT.due key now;have hev':=Jhi S key now;have hbud':=Jaa S key now;have hput:Hid (S.put key it keep now=((S.due key now).lay key it keep).evict ((S.due key now).lay key it keep).L.length key):=hid rfl;rw[<-hbud'] at hc;generalize S.due key now=S' at hdue hT' hev' hput hc;have hev2:S'.ev.length<=1099511627777:=by omega
  have hks:¬(512:Int)<(key.size:Int):=by omega
  have hB:=(J77 hr).2.1;replace hput:=hid hput.out;replace hT':=hid hT';clear hS hX S1 hT hev hbud' hev';go_enter Tryz.func87,Tryz.ntmps87;unfold J6;go_wp2_with fail;refine hdue.out.mono ?_;rintro e w1 ⟨rfl,l1,hX1,S1⟩;generalize w.heap.size=ib at S1⊢;clear hdue;have hown:=S1.own.right.right;obtain⟨x0,x1,x2,_⟩:=Jn hown.head
  have hright:=Jkq S1 hat hr;unfold J6 at hright;replace hright:=hid hright;replace S1:=hid S1;clear hown;go_wp2_with fail;refine hright.out.mono ?_;rintro e w2 ⟨rfl,S2⟩;clear hright x0 x1 x2 S1;obtain⟨m,rfl,hok,hf⟩:=hX1
  have hcost:∀w':World,J3 w0 [] w' (m.hp sb (Jd S'.L) S'.bud++(il++((ib,.cells #[.int .i64 it.kind,.string it.text,.slice a it.fs.length cc] 59 (0,0))::r)))->_:=fun _ h=>Jhb (key:=key) h hG hat hr (by omega)
  unfold J6 at hcost;have c6:∀p:InW w0 [] (m.hp sb (Jd S'.L) S'.bud++(il++((ib,.cells #[.int .i64 it.kind,.string it.text,.slice a it.fs.length cc] 59 (0,0))::r))),p.w.cell? ⟨sb,6,none⟩=some (.int .i64 (S'.bud:Nat)):=fun p=>(K1 p.h.own).c6
  have x0:∀p:InW w0 [] (m.hp sb (Jd S'.L) S'.bud++(il++((ib,.cells #[.int .i64 it.kind,.string it.text,.slice a it.fs.length cc] 59 (0,0))::r))),p.w.cell? ⟨ib,0,none⟩=some (.int .i64 it.kind):=fun p=>(Jn p.h.own.right.right.head).c0
  have x1:∀p:InW w0 [] (m.hp sb (Jd S'.L) S'.bud++(il++((ib,.cells #[.int .i64 it.kind,.string it.text,.slice a it.fs.length cc] 59 (0,0))::r))),p.w.cell? ⟨ib,1,none⟩=some (.string it.text):=fun p=>(Jn p.h.own.right.right.head).c1
  have x2:∀p:InW w0 [] (m.hp sb (Jd S'.L) S'.bud++(il++((ib,.cells #[.int .i64 it.kind,.string it.text,.slice a it.fs.length cc] 59 (0,0))::r))),p.w.cell? ⟨ib,2,none⟩=some (.slice a it.fs.length cc):=fun p=>(Jn p.h.own.right.right.head).c2
  have hcb:¬(S'.bud:Int)<(J24 key it:Nat):=by omega
  replace hcost:=hid hcost;replace S2:=hid S2;replace hok:=hid hok;replace hf:=hid hf;replace hat:=hid hat;replace hr:=hid hr;replace hG:=hid hG;go_wp2_with fail;refine J1x S2.out (by kernel_rfl) (by kernel_rfl) (fun hne=>?_)
  repeat (go_big_quiet_step ((go_at_call 144;refine Calls.inw (hcost.out _ (InW.h _)))))
  refine J73 fun w3 S3=>?_
  clear c6 x0 x1 x2 hne S2;have hplace:=hid (Jrg S3 hG.out ⟨m,rfl,hok.out,hf.out⟩ key (by omega))
  clear S3 hok hcost;go_wp2_with fail;refine hplace.out.mono ?_;rintro e w4 ⟨i,m4,rfl,hrd,S4⟩;clear hplace;have hil:i<m4.ss.length:=by
   have h1:i∈m4.fr++((J3u m4.cs key).map J1l.at_++[i]):=by simp
   exact List.mem_range.1 (hrd.all.mem_iff.1 h1)
  obtain⟨s,hs⟩:∃s,m4.ss[i]? =some s:=⟨m4.ss[i],List.getElem?_eq_getElem hil⟩
  have hfew:=hrd.few;obtain⟨g,cap,rest,hsv,hc1,hc2,hshp,hrest,hgb,_,_,_⟩:=J7a S4.own hrd.slots hs
  have c1:w4.cell? ⟨sb,1,none⟩=some (.slice (some ⟨g,0,none⟩) m4.ss.length cap):=(J0w S4 hsv hshp hs).2.1;have hap:=Ja1 S4 hshp;have hg1:=hap.2.1;have hg2:=hap.2.2.1;have hib:¬ib=g/\¬g=ib:=by
   have hnd:=S4.own.nd;have hgm:g∈keys (m4.hp sb (Jd (K3 S'.L key)) S'.bud):=by simp[SM.hp,SM.rest,hshp]
   have hne:g≠ib:=fun e=>S4.own.disj hgm (by simp[e])
   exact⟨Ne.symm hne,hne⟩
  obtain⟨hib1,hib2⟩:=hib
  have x0:=(Jn S4.own.right.right.head).c0;have x1:=(Jn S4.own.right.right.head).c1;have x2:=(Jn S4.own.right.right.head).c2;have hcopy:∀w':World,J3 w0 [] w' (m4.hp sb (Jd (K3 S'.L key)) S'.bud++(il++((ib,.cells #[.int .i64 it.kind,.string it.text,.slice a it.fs.length cc] 59 (0,0))::r)))->_:=fun _ h=>Jw4 h hat.out (by omega)
  unfold J6 at hcopy;replace hcopy:=hid hcopy;replace hsv:=hid hsv;replace hshp:=hid hshp;replace hs:=hid hs;replace hrd:=hid hrd;replace S4:=hid S4;replace hrest:=hid hrest;unfold maxLen at hc2;clear hgb hap;go_wp2_with fail;go_region_held3 (fun w'=>w'.cell? ⟨sb,1,none⟩=some (.slice (some ⟨g,0,none⟩) m4.ss.length cap)/\w'.cell? ⟨ib,0,none⟩=some (.int .i64 it.kind)/\w'.cell? ⟨ib,1,none⟩=some (.string it.text)/\w'.cell? ⟨ib,2,none⟩=some (.slice a it.fs.length cc))
   (first|(exact⟨c1,x0,x1,x2⟩)|go_keep|(exact⟨(J0w (by assumption) hsv.out hshp.out hs.out).2.1,(Jn (by assumption:J3 _ _ _ _).own.right.right.right.head).c0,(Jn (by assumption:J3 _ _ _ _).own.right.right.right.head).c1,(Jn (by assumption:J3 _ _ _ _).own.right.right.right.head).c2⟩))
   (first|(go_at_call 31;refine(hcopy.out _ S4.out.drew).mono ?_;rintro e w5 ⟨v5,sl5,rfl,hat5,S5⟩;obtain⟨a5,k5,rfl⟩:=hat5.shape;obtain⟨_,d1,y0,y1,y2,_⟩:=J0w S5 hsv.out hshp.out hs.out;have fg:=(Ja1 S5 hshp.out).1;obtain⟨z0,z1,z2,_⟩:=Jn S5.own.right.right.right.head))
  have S6:=SM.setSlot ⟨it,.slice a5 it.fs.length k5,sl5⟩ S5 hsv.out hshp.out hs.out;obtain⟨m6,hm6⟩:∃m6:SM,m6={m4 with shp:=[(g,.cells (Jr (m4.ss.set i ⟨it,.slice a5 it.fs.length k5,sl5⟩)++rest).toArray 59 (0,0))],ss:=m4.ss.set i ⟨it,.slice a5 it.fs.length k5,sl5⟩}:=⟨_,rfl⟩
  rw[<-hm6] at S6;simp only at S6
  have d0:w5.cell? ⟨sb,0,none⟩=some (ptr m6.tb):=by rw[hm6];exact(K1 S5.own).c0
  have hM4:∀k∈m4.M.map Prod.fst,k.size<=maxLen:=fun k hk=>by
   have h1:k∈S'.L.map Prod.fst:=by
    rw[hrd.out.cells];have:=(hrd.out.num.map Prod.fst).mem_iff.1 hk
    simpa[Function.comp_def] using this
   obtain⟨p,hp,rfl⟩:=List.mem_map.1 h1
   have:=(hf.out.key p hp).1
   unfold maxLen;omega
  have hMl:m4.M.length<=68719476736:=by
   have h1:=hrd.out.num.length_eq;have h2:=congrArg List.length hrd.out.cells;have h3:=hf.out.few;simp only[List.length_map] at h1 h2;omega
  have hput2:=hid (Jvk m6.tl m6.tb m4.M key i _ (by rw[hm6];exact hrd.out.tab) hM4 hMl (by unfold maxLen;omega) (SM.ownT S6.own))
  replace hm6:=hid hm6;replace S6:=hid S6;replace hat5:=hid hat5;clear S5 d1 y0 y1 y2 z0 z1 z2 c1 x0 x1 x2 hM4;go_wp2_with fail;refine hput2.out.mono ?_;rintro e w7 ⟨rfl,tl7,hT7,ST7⟩;have S7:=SM.stepT (M':=(key,(i:Int))::J07 m4.M key) S6.out ST7;obtain⟨m7,hm7⟩:∃m7:SM,m7={m6 with tl:=tl7,M:=(key,(i:Int))::J07 m4.M key}:=⟨_,rfl⟩
  rw[<-hm7] at S7;have hcost7:∀w':World,J3 w0 [] w' (m7.hp sb (Jd (K3 S'.L key)) S'.bud++(il++((ib,.cells #[.int .i64 it.kind,.string it.text,.slice a it.fs.length cc] 59 (0,0))::r)))->_:=fun _ h=>Jhb (key:=key) h hG.out hat.out hr.out (by omega)
  unfold J6 at hcost7;replace hcost7:=hid hcost7;replace hm7:=hid hm7;replace hT7:=hid hT7;have hb7:Jd (K3 S'.L key)+J24 key it<=3000000000000:=by
   have h1:=J47 S'.L key;have h2:Jd S'.L<=S'.bud:=hT'.out;have h3:=hf.out.bud;omega
  have c5:∀p:InW w0 [] (m7.hp sb (Jd (K3 S'.L key)) S'.bud++(il++((ib,.cells #[.int .i64 it.kind,.string it.text,.slice a it.fs.length cc] 59 (0,0))::r))),p.w.cell? ⟨sb,5,none⟩=some (.int .i64 (Jd (K3 S'.L key):Nat)):=fun p=>(K1 p.h.own).c5
  have x0:∀p:InW w0 [] (m7.hp sb (Jd (K3 S'.L key)) S'.bud++(il++((ib,.cells #[.int .i64 it.kind,.string it.text,.slice a it.fs.length cc] 59 (0,0))::r))),p.w.cell? ⟨ib,0,none⟩=some (.int .i64 it.kind):=fun p=>(Jn p.h.own.right.right.head).c0
  have x1:∀p:InW w0 [] (m7.hp sb (Jd (K3 S'.L key)) S'.bud++(il++((ib,.cells #[.int .i64 it.kind,.string it.text,.slice a it.fs.length cc] 59 (0,0))::r))),p.w.cell? ⟨ib,1,none⟩=some (.string it.text):=fun p=>(Jn p.h.own.right.right.head).c1
  have x2:∀p:InW w0 [] (m7.hp sb (Jd (K3 S'.L key)) S'.bud++(il++((ib,.cells #[.int .i64 it.kind,.string it.text,.slice a it.fs.length cc] 59 (0,0))::r))),p.w.cell? ⟨ib,2,none⟩=some (.slice a it.fs.length cc):=fun p=>(Jn p.h.own.right.right.head).c2
  replace S7:=hid S7;clear hput2 ST7 d0;go_wp2_with fail;refine Jq 10 S7.out (by kernel_rfl) (by kernel_rfl) (fun hne=>?_)
  simp only[List.take_succ_cons,List.take_zero,List.drop_succ_cons,List.drop_zero];repeat (go_big_quiet_step ((go_at_call 144;refine Calls.inw (hcost7.out _ (InW.h _)))))
  refine J04 fun w8 S8=>?_
  clear c5 x0 x1 x2 hne S7 hcost7;have c5:=(K1 S8.own).c5;have fz:=(K1 S8.own).fz;obtain⟨nb,hnb⟩:∃nb:Nat,nb=Jd (K3 S'.L key)+J24 key it:=⟨_,rfl⟩
  have S9:=SM.setBytes S8 nb;have d3:=(K1 S8.own).c3;have hsl:=Jf S8.own.left.head;have hnew:((Jd (K3 S'.L key):Nat):Int)+(J24 key it:Nat)=(nb:Int):=by omega
  replace hnew:=hid hnew;have hrt:=hid (Jgn m7.rl m7.rb (m4.cs.map J1l.key) key _ (by rw[hm7.out];show Ko m6.rl m6.rb _;rw[hm6.out];exact hrd.out.rcn) (SM.ownR S9.own))
  replace S9:=hid S9;clear S8;go_wp2_with fail;rw[hnew.out];clear hnew;refine hrt.out.mono ?_;rintro e w9 ⟨rfl,rl9,hR9,ST9⟩;have S10:=SM.stepR (m:=m7) S9.out ST9;obtain⟨m9,hm9⟩:∃m9:SM,m9={m7 with rl:=rl9,cs:=J3u m4.cs key++[⟨key,i,it⟩]}:=⟨_,rfl⟩
  replace S10:J3 w0 [] w9 (m9.hp sb nb S'.bud++(il++((ib,.cells #[.int .i64 it.kind,.string it.text,.slice a it.fs.length cc] 59 (0,0))::r))):=by rw[hm9];exact S10
  have hlay:∀xl' D',Kq xl' m9.xb D'->SM.Ok {m9 with xl:=xl'} {S' with L:=K3 S'.L key++[(key,it)],D:=D'}:=fun xl' D' hE=>by
   have e7:=hm7.out;have e6:=hm6.out;refine hrd.out.laid (s':=⟨it,.slice a5 it.fs.length k5,sl5⟩) rfl hat5.out ?_ ?_ hE ?_ ?_ ?_ ?_ ?_ ?_ ?_
   ·show K5 m9.tl m9.tb _ 0
    rw[hm9,e7];exact hT7.out
   ·show Ko m9.rl m9.rb _
    rw[hm9];exact hR9
   ·show SliceHp 3 59 m9.sv _ _ m9.shp
    rw[hm9,e7,e6];show SliceHp 3 59 m4.sv _ _ _
    rw[hsv.out];exact .laid g _ cap _ rest (by rw[J2s,List.length_set]) hrest.out hc1 (by unfold maxLen;exact hc2)
   ·show SliceHp 1 3 m9.fv _ _ m9.fhp
    rw[hm9,e7,e6];exact hrd.out.free
   ·show SliceHp 2 41 m9.vv _ _ m9.vhp
    rw[hm9,e7,e6];exact hrd.out.evs
   ·show m9.M=_
    rw[hm9,e7]
   ·show m9.cs=_
    rw[hm9]
   ·show m9.ss=_
    rw[hm9,e7,e6]
   ·show m9.fr=_
    rw[hm9,e7,e6]
  have hE9:Kq m9.xl m9.xb S'.D:=by rw[hm9,hm7.out,hm6.out];exact hrd.out.exp
  have hfit:=hf.out.lay hT'.out (by omega) hr.out hc keep
  have hnb':nb=Jd (K3 S'.L key++[(key,it)]):=by rw[hnb,Ja6];simp[Jd]
  have hD:S'.D.length<=1099511627776:=by have:=hf.out.fewD;have:=hf.out.few;omega
  have d4:=(K1 S10.own).c4;have hed:=hid (Jb3 m9.xl m9.xb S'.D key w9 hE9 hD (SM.ownX S10.own));have hlen:(S'.lay key it keep).ev.length<=2199023255552:=by show(S'.ev++[(1,key)]).length<=_;rw[List.length_append];simp only[List.length_cons,List.length_nil];omega
  have hstore:Hid (∀w' xl',Kq xl' m9.xb (if keep then S'.D else K3 S'.D key)->J3 w0 [] w' ({m9 with xl:=xl'}.hp sb nb S'.bud++(il++((ib,.cells #[.int .i64 it.kind,.string it.text,.slice a it.fs.length cc] 59 (0,0))::r)))->
   Calls Tryz.prog 112 #[ptr sb,.int .i64 1,.string key] w' (Jp w0 (il++((ib,.cells #[.int .i64 it.kind,.string it.text,.slice a it.fs.length cc] 59 (0,0))::r)) sb (S'.lay key it keep) (.tuple #[]))):=hid (fun w' xl' hE hS'=>by
    refine Jdc (S:={S' with L:=K3 S'.L key++[(key,it)],D:=if keep then S'.D else K3 S'.D key}) hS' ⟨{m9 with xl:=xl'},by rw[hnb'],hlay xl' _ hE,⟨hfit.nd,hfit.ends,hfit.dnd,hfit.key,hfit.bud,hfit.le⟩⟩ (by show S'.ev.length<=_;omega) 1 key)
  have hdone:Hid (∀w' l',Jh l' sb (St.evict (S'.lay key it keep).L.length (S'.lay key it keep) key)->J3 w0 [] w' (l'++(il++((ib,.cells #[.int .i64 it.kind,.string it.text,.slice a it.fs.length cc] 59 (0,0))::r)))->Jp w0 (il++r) sb (S.put key it keep now) (.int .i64 0) (.returned (.int .i64 0)) w'):=hid (fun w' l' h1 h2=>⟨rfl,l',by rw[hput.out];exact h1,h2.pick (l2:=l'++(il++r)) (m:=[(ib,.cells #[.int .i64 it.kind,.string it.text,.slice a it.fs.length cc] 59 (0,0))]) (J5 fun f=>by
   simp only[SC];omega)⟩)
  generalize S'.lay key it keep=S2 at hstore hdone hlen;replace S10:=hid S10;replace hE9:=hid hE9;clear hrt hR9 ST9 S9 hm9 hlay hfit c5 fz hsl d3 hm7 hm6 hT7 hrd hat5 hat hr hput hsv hshp hs hcopy S4 hrest hf hT';cases keep with
  |true=>
   go_wp2_with fail;refine(hstore.out _ _ hE9.out S10.out).mono ?_
   rintro e w10 ⟨rfl,l10,hX10,S10⟩;have hev:=hid (Jfu S10 hG.out hX10 hlen key);clear hX10 hed hstore;go_wp2_with fail;refine hev.out.mono ?_;rintro e w11 ⟨rfl,l11,hX11,S11⟩;have hlast:=hid (hdone.out w11 l11 hX11 S11);clear hdone hX11 S11 hev;go_wp2_with fail;go_ret;exact hlast.out
  |false=>
   go_wp2_with fail;refine hed.out.mono ?_;rintro e w9' ⟨rfl,xl',hE',STX⟩;have htell:=hid (hstore.out _ _ hE' (SM.stepX S10.out STX));clear hed hstore hE' STX d4;go_wp2_with fail;refine htell.out.mono ?_;rintro e w10 ⟨rfl,l10,hX10,S10⟩;have hev:=hid (Jfu S10 hG.out hX10 hlen key);clear hX10 htell;go_wp2_with fail;refine hev.out.mono ?_;rintro e w11 ⟨rfl,l11,hX11,S11⟩;have hlast:=hid (hdone.out w11 l11 hX11 S11);clear hdone hX11 S11 hev;go_wp2_with fail;go_ret;exact hlast.out
end Go.Proofs.YtncbcaabanoeoaaGreatDoor
