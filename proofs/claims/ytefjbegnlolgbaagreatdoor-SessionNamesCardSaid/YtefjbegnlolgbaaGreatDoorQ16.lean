/-
(*Store).Put.
-/
import Derived.Test.YtefjbegnlolgbaaGreatDoorQ15
set_option linter.unusedVariables false
set_option linter.unusedSimpArgs false
set_option maxRecDepth 100000
set_option maxHeartbeats 8000000
namespace Go.Proofs.YtefjbegnlolgbaaGreatDoor
open Go Go.RowKit
variable {S:St}{it:Itm}{w0 w:World}{l r il:Hp}{v:Value}{sb:Nat}
def St.put (S:St) (key:ByteArray) (it:Itm) (keep:Bool) (now:Int):St:=
 ((S.due key now).lay key it keep).evict ((S.due key now).lay key it keep).L.length key
theorem J7i.laid {m:SM} {key:ByteArray} {i:Nat} (h:J7i m S key i) {s':J2m} (hsi:s'.it=it) (hat:Jq s'.v it.fs s'.hp) {D':AL Int} {ev':List (Int×ByteArray)} {m':SM}
 (tab:Jv m'.tl m'.tb ((key,(i:Int))::Jz m.M key) 0) (rcn:Jj m'.rl m'.rb (J35 (m.cs.map J0t.key) key++[key])) (exp:K1 m'.xl m'.xb D')
 (slots:SliceHp 3 183 m'.sv m.ss.length (Jb (m.ss.set i s')) m'.shp) (free:SliceHp 1 3 m'.fv m.fr.length (J0s m.fr) m'.fhp) (evs:SliceHp 2 146 m'.vv ev'.length (J1w ev') m'.vhp)
 (eM:m'.M=(key,(i:Int))::Jz m.M key) (ecs:m'.cs=J28 m.cs key++[⟨key,i,it⟩]) (ess:m'.ss=m.ss.set i s') (efr:m'.fr=m.fr):
  m'.Ok {S with L:=Jk S.L key++[(key,it)],D:=D',ev:=ev'}:=by
  have hil:i<m.ss.length:=by
   have h1:i∈m.fr++((J28 m.cs key).map J0t.at_++[i]):=by simp
   exact List.mem_range.1 (h.all.mem_iff.1 h1)
  have hnd:=(List.nodup_append.1 (h.all.nodup_iff.2 List.nodup_range)).2.1;have hne:∀c∈J28 m.cs key,c.at_≠i:=fun c hc e=>(List.nodup_append.1 hnd).2.2 c.at_ (List.mem_map_of_mem hc) i (by simp) e
  refine⟨by rw[eM];exact tab,?_,exp,by rw[ess,List.length_set];exact slots,by rw[efr];exact free,evs,?_,?_,?_,?_,?_,by rw[ess,List.length_set];exact h.few⟩
  ·rw[ecs,List.map_append,<-J9a];exact rcn
  ·show Jk S.L key++[(key,it)]=_
   rw[ecs,h.cells,J9f];simp
  ·rw[eM,ecs,List.map_append]
   refine List.Perm.trans ?_ List.perm_append_comm;refine List.Perm.cons _ ?_;rw[<-J81];exact h.num.filter _
  ·intro c hc
   rw[ecs] at hc;rw[ess];rcases List.mem_append.1 hc with hc|hc
   ·obtain⟨s,hs,hi⟩:=h.holds c hc
    exact⟨s,by rw[List.getElem?_set_ne (Ne.symm (hne c hc))];exact hs,hi⟩
   ·simp only[List.mem_cons,List.not_mem_nil,or_false] at hc
    subst hc;exact⟨s',by simp[hil],hsi⟩
  ·rw[efr,ecs,ess,List.length_set,List.map_append]
   exact h.all
  ·intro s hs
   rw[ess] at hs;rcases List.mem_or_eq_of_mem_set hs with hs|rfl
   ·exact h.each s hs
   ·rw[hsi];exact hat
theorem Jdq (hS:J1 w0 [] w (l++(il++r))) (hat:Jq v it.fs il) (hr:J1c it):
 Calls Tryz.prog 218 #[J8 it.kind it.text v] w fun e w'=>e= .returned (.bool true)/\J1 w0 [] w' (l++(il++r)):=by
 have hp:(l++(il++r)).Perm (il++(l++r)):=List.perm_append_comm_assoc l il r;refine(Jgz (hS.permR hp) hat hr).mono ?_
 rintro e w' ⟨he,h⟩;exact⟨he,h.permR hp.symm⟩
theorem Jbi {key:ByteArray} (hS:J1 w0 [] w (l++(il++r))) (hG:J1q w0) (hat:Jq v it.fs il) (hr:J1c it) (hk:key.size<=1099511627776):
 Calls Tryz.prog 219 #[.string key,J8 it.kind it.text v] w fun e w'=>e= .returned (.int .i64 (J0r key it:Nat))/\J1 w0 [] w' (l++(il++r)):=by
 have hp:(l++(il++r)).Perm (il++(l++r)):=List.perm_append_comm_assoc l il r;refine(Jcx (hS.permR hp) hG hat hr hk).mono ?_
 rintro e w' ⟨he,h⟩;exact⟨he,h.permR hp.symm⟩
theorem Jkj (hS:J1 w0 [] w (l++(il++r))) (hat:Jq v it.fs il) (hB:it.fs.length<=1048576):
 Calls Tryz.prog 168 #[J8 it.kind it.text v] w fun e w'=>∃v' sl',e= .returned (J8 it.kind it.text v')/\Jq v' it.fs sl'/\J1 w0 [] w' (l++(sl'++(il++r))):=by
 have hp:(l++(il++r)).Perm (il++(l++r)):=List.perm_append_comm_assoc l il r;refine(Jcw (hS.permR hp) hat hB).mono ?_
 rintro e w' ⟨v',sl',he,h1,h2⟩;exact⟨v',sl',he,h1,h2.permR (J2 fun f=>by simp only[SC];omega)⟩
theorem Jjh (hS:J1 w0 [] w (l++(il++r))) (hG:J1q w0) (hX:Je l sb S) (hT:J00 S) (hev:S.ev.length<=1099511627776) (key:ByteArray) (hk:key.size<=512)
 (hat:Jq v it.fs il) (hr:J1c it) (hc:J0r key it<=S.bud) (keep:Bool) (now:Int):
  Calls Tryz.prog 145 #[ptr sb,.string key,J8 it.kind it.text v,.bool keep,.int .i64 now] w (Jw w0 (il++r) sb (S.put key it keep now) (.int .i64 0)):=by
  obtain⟨a,cc,rfl⟩:=hat.shape
  have S1:=(hS.alloc (.cells #[.int .i64 it.kind,.string it.text,.slice a it.fs.length cc] 183)).permR (l2:=l++(il++((w.heap.size,.cells #[.int .i64 it.kind,.string it.text,.slice a it.fs.length cc] 183 (0,0))::r))) (J2 fun f=>by
   simp only[SC];omega)
  have hdue:=hid (J6b S1 hG hX (by omega) key (by omega) now)
  have hT':=hT.due key now;have hev':=Ji3 S key now;have hbud':=Jbj S key now;have hput:Hid (S.put key it keep now=((S.due key now).lay key it keep).evict ((S.due key now).lay key it keep).L.length key):=hid rfl;rw[<-hbud'] at hc;generalize S.due key now=S' at hdue hT' hev' hput hc;have hev2:S'.ev.length<=1099511627777:=by omega
  have hks:¬(512:Int)<(key.size:Int):=by omega
  have hB:=(J4a hr).2.1;replace hput:=hid hput.out;replace hT':=hid hT';clear hS hX S1 hT hev hbud' hev';go_enter Tryz.func145,Tryz.ntmps145;unfold J8;go_wp2_with fail;refine hdue.out.mono ?_;rintro e w1 ⟨rfl,l1,hX1,S1⟩;generalize w.heap.size=ib at S1⊢;clear hdue;have hown:=S1.own.right.right;obtain⟨x0,x1,x2,_⟩:=J04 hown.head
  have hright:=Jdq S1 hat hr;unfold J8 at hright;replace hright:=hid hright;replace S1:=hid S1;clear hown;go_wp2_with fail;refine hright.out.mono ?_;rintro e w2 ⟨rfl,S2⟩;clear hright x0 x1 x2 S1;obtain⟨m,rfl,hok,hf⟩:=hX1
  have hcost:∀w':World,J1 w0 [] w' (m.hp sb (J4 S'.L) S'.bud++(il++((ib,.cells #[.int .i64 it.kind,.string it.text,.slice a it.fs.length cc] 183 (0,0))::r)))->_:=fun _ h=>Jbi (key:=key) h hG hat hr (by omega)
  unfold J8 at hcost;have c6:∀p:InW w0 [] (m.hp sb (J4 S'.L) S'.bud++(il++((ib,.cells #[.int .i64 it.kind,.string it.text,.slice a it.fs.length cc] 183 (0,0))::r))),p.w.cell? ⟨sb,6,none⟩=some (.int .i64 (S'.bud:Nat)):=fun p=>(Ju p.h.own).c6
  have x0:∀p:InW w0 [] (m.hp sb (J4 S'.L) S'.bud++(il++((ib,.cells #[.int .i64 it.kind,.string it.text,.slice a it.fs.length cc] 183 (0,0))::r))),p.w.cell? ⟨ib,0,none⟩=some (.int .i64 it.kind):=fun p=>(J04 p.h.own.right.right.head).c0
  have x1:∀p:InW w0 [] (m.hp sb (J4 S'.L) S'.bud++(il++((ib,.cells #[.int .i64 it.kind,.string it.text,.slice a it.fs.length cc] 183 (0,0))::r))),p.w.cell? ⟨ib,1,none⟩=some (.string it.text):=fun p=>(J04 p.h.own.right.right.head).c1
  have x2:∀p:InW w0 [] (m.hp sb (J4 S'.L) S'.bud++(il++((ib,.cells #[.int .i64 it.kind,.string it.text,.slice a it.fs.length cc] 183 (0,0))::r))),p.w.cell? ⟨ib,2,none⟩=some (.slice a it.fs.length cc):=fun p=>(J04 p.h.own.right.right.head).c2
  have hcb:¬(S'.bud:Int)<(J0r key it:Nat):=by omega
  replace hcost:=hid hcost;replace S2:=hid S2;replace hok:=hid hok;replace hf:=hid hf;replace hat:=hid hat;replace hr:=hid hr;replace hG:=hid hG;go_wp2_with fail;refine J0q S2.out (by kernel_rfl) (by kernel_rfl) (fun hne=>?_)
  repeat (go_big_quiet_step ((go_at_call 219;refine Calls.inw (hcost.out _ (InW.h _)))))
  refine J45 fun w3 S3=>?_
  clear c6 x0 x1 x2 hne S2;have hplace:=hid (Jgt S3 hG.out ⟨m,rfl,hok.out,hf.out⟩ key (by omega))
  clear S3 hok hcost;go_wp2_with fail;refine hplace.out.mono ?_;rintro e w4 ⟨i,m4,rfl,hrd,S4⟩;clear hplace
  have hil:i<m4.ss.length:=by
   have h1:i∈m4.fr++((J28 m4.cs key).map J0t.at_++[i]):=by simp
   exact List.mem_range.1 (hrd.all.mem_iff.1 h1)
  obtain⟨s,hs⟩:∃s,m4.ss[i]? =some s:=⟨m4.ss[i],List.getElem?_eq_getElem hil⟩
  have hfew:=hrd.few;obtain⟨g,cap,rest,hsv,hc1,hc2,hshp,hrest,hgb,_,_,_⟩:=J4b S4.own hrd.slots hs
  have c1:w4.cell? ⟨sb,1,none⟩=some (.slice (some ⟨g,0,none⟩) m4.ss.length cap):=(J02 S4 hsv hshp hs).2.1;have hap:=J61 S4 hshp;have hg1:=hap.2.1;have hg2:=hap.2.2.1
  have hib:¬ib=g/\¬g=ib:=by
   have hnd:=S4.own.nd;have hgm:g∈keys (m4.hp sb (J4 (Jk S'.L key)) S'.bud):=by simp[SM.hp,SM.rest,hshp]
   have hne:g≠ib:=fun e=>S4.own.disj hgm (by simp[e])
   exact⟨Ne.symm hne,hne⟩
  obtain⟨hib1,hib2⟩:=hib
  have x0:=(J04 S4.own.right.right.head).c0;have x1:=(J04 S4.own.right.right.head).c1;have x2:=(J04 S4.own.right.right.head).c2;have hcopy:∀w':World,J1 w0 [] w' (m4.hp sb (J4 (Jk S'.L key)) S'.bud++(il++((ib,.cells #[.int .i64 it.kind,.string it.text,.slice a it.fs.length cc] 183 (0,0))::r)))->_:=fun _ h=>Jkj h hat.out (by omega)
  unfold J8 at hcopy;replace hcopy:=hid hcopy;replace hsv:=hid hsv;replace hshp:=hid hshp;replace hs:=hid hs;replace hrd:=hid hrd;replace S4:=hid S4;replace hrest:=hid hrest;unfold maxLen at hc2;clear hgb hap;go_wp2_with fail
  go_region_held3 (fun w'=>w'.cell? ⟨sb,1,none⟩=some (.slice (some ⟨g,0,none⟩) m4.ss.length cap)/\w'.cell? ⟨ib,0,none⟩=some (.int .i64 it.kind)/\w'.cell? ⟨ib,1,none⟩=some (.string it.text)/\w'.cell? ⟨ib,2,none⟩=some (.slice a it.fs.length cc))
   (first|(exact⟨c1,x0,x1,x2⟩)|go_keep|(exact⟨(J02 (by assumption) hsv.out hshp.out hs.out).2.1,(J04 (by assumption:J1 _ _ _ _).own.right.right.right.head).c0,(J04 (by assumption:J1 _ _ _ _).own.right.right.right.head).c1,(J04 (by assumption:J1 _ _ _ _).own.right.right.right.head).c2⟩))
   (first|(go_at_call 168;refine(hcopy.out _ S4.out.drew).mono ?_;rintro e w5 ⟨v5,sl5,rfl,hat5,S5⟩;obtain⟨a5,k5,rfl⟩:=hat5.shape;obtain⟨_,d1,y0,y1,y2,_⟩:=J02 S5 hsv.out hshp.out hs.out;have fg:=(J61 S5 hshp.out).1;obtain⟨z0,z1,z2,_⟩:=J04 S5.own.right.right.right.head))
  have S6:=SM.setSlot ⟨it,.slice a5 it.fs.length k5,sl5⟩ S5 hsv.out hshp.out hs.out;obtain⟨m6,hm6⟩:∃m6:SM,m6={m4 with shp:=[(g,.cells (Jb (m4.ss.set i ⟨it,.slice a5 it.fs.length k5,sl5⟩)++rest).toArray 183 (0,0))],ss:=m4.ss.set i ⟨it,.slice a5 it.fs.length k5,sl5⟩}:=⟨_,rfl⟩
  rw[<-hm6] at S6;simp only at S6
  have d0:w5.cell? ⟨sb,0,none⟩=some (ptr m6.tb):=by rw[hm6];exact(Ju S5.own).c0
  have hM4:∀k∈m4.M.map Prod.fst,k.size<=maxLen:=fun k hk=>by
   have h1:k∈S'.L.map Prod.fst:=by
    rw[hrd.out.cells];have:=(hrd.out.num.map Prod.fst).mem_iff.1 hk
    simpa[Function.comp_def] using this
   obtain⟨p,hp,rfl⟩:=List.mem_map.1 h1
   have:=(hf.out.key p hp).1
   unfold maxLen;omega
  have hMl:m4.M.length<=68719476736:=by
   have h1:=hrd.out.num.length_eq;have h2:=congrArg List.length hrd.out.cells;have h3:=hf.out.few;simp only[List.length_map] at h1 h2;omega
  have hput2:=hid (Jjv m6.tl m6.tb m4.M key i _ (by rw[hm6];exact hrd.out.tab) hM4 hMl (by unfold maxLen;omega) (SM.ownT S6.own))
  replace hm6:=hid hm6;replace S6:=hid S6;replace hat5:=hid hat5;clear S5 d1 y0 y1 y2 z0 z1 z2 c1 x0 x1 x2 hM4;go_wp2_with fail;refine hput2.out.mono ?_;rintro e w7 ⟨rfl,tl7,hT7,ST7⟩;have S7:=SM.stepT (M':=(key,(i:Int))::Jz m4.M key) S6.out ST7;obtain⟨m7,hm7⟩:∃m7:SM,m7={m6 with tl:=tl7,M:=(key,(i:Int))::Jz m4.M key}:=⟨_,rfl⟩
  rw[<-hm7] at S7;have hcost7:∀w':World,J1 w0 [] w' (m7.hp sb (J4 (Jk S'.L key)) S'.bud++(il++((ib,.cells #[.int .i64 it.kind,.string it.text,.slice a it.fs.length cc] 183 (0,0))::r)))->_:=fun _ h=>Jbi (key:=key) h hG.out hat.out hr.out (by omega)
  unfold J8 at hcost7;replace hcost7:=hid hcost7;replace hm7:=hid hm7;replace hT7:=hid hT7
  have hb7:J4 (Jk S'.L key)+J0r key it<=3000000000000:=by
   have h1:=J2g S'.L key;have h2:J4 S'.L<=S'.bud:=hT'.out;have h3:=hf.out.bud;omega
  have c5:∀p:InW w0 [] (m7.hp sb (J4 (Jk S'.L key)) S'.bud++(il++((ib,.cells #[.int .i64 it.kind,.string it.text,.slice a it.fs.length cc] 183 (0,0))::r))),p.w.cell? ⟨sb,5,none⟩=some (.int .i64 (J4 (Jk S'.L key):Nat)):=fun p=>(Ju p.h.own).c5
  have x0:∀p:InW w0 [] (m7.hp sb (J4 (Jk S'.L key)) S'.bud++(il++((ib,.cells #[.int .i64 it.kind,.string it.text,.slice a it.fs.length cc] 183 (0,0))::r))),p.w.cell? ⟨ib,0,none⟩=some (.int .i64 it.kind):=fun p=>(J04 p.h.own.right.right.head).c0
  have x1:∀p:InW w0 [] (m7.hp sb (J4 (Jk S'.L key)) S'.bud++(il++((ib,.cells #[.int .i64 it.kind,.string it.text,.slice a it.fs.length cc] 183 (0,0))::r))),p.w.cell? ⟨ib,1,none⟩=some (.string it.text):=fun p=>(J04 p.h.own.right.right.head).c1
  have x2:∀p:InW w0 [] (m7.hp sb (J4 (Jk S'.L key)) S'.bud++(il++((ib,.cells #[.int .i64 it.kind,.string it.text,.slice a it.fs.length cc] 183 (0,0))::r))),p.w.cell? ⟨ib,2,none⟩=some (.slice a it.fs.length cc):=fun p=>(J04 p.h.own.right.right.head).c2
  replace S7:=hid S7;clear hput2 ST7 d0;go_wp2_with fail;refine Jx 10 S7.out (by kernel_rfl) (by kernel_rfl) (fun hne=>?_)
  simp only[List.take_succ_cons,List.take_zero,List.drop_succ_cons,List.drop_zero];repeat (go_big_quiet_step ((go_at_call 219;refine Calls.inw (hcost7.out _ (InW.h _)))))
  refine J17 fun w8 S8=>?_
  clear c5 x0 x1 x2 hne S7 hcost7;have c5:=(Ju S8.own).c5;have fz:=(Ju S8.own).fz;obtain⟨nb,hnb⟩:∃nb:Nat,nb=J4 (Jk S'.L key)+J0r key it:=⟨_,rfl⟩
  have S9:=SM.setBytes S8 nb;have d3:=(Ju S8.own).c3;have hsl:=Jc S8.own.left.head;have hnew:((J4 (Jk S'.L key):Nat):Int)+(J0r key it:Nat)=(nb:Int):=by omega
  replace hnew:=hid hnew;have hrt:=hid (J7e m7.rl m7.rb (m4.cs.map J0t.key) key _ (by rw[hm7.out];show Jj m6.rl m6.rb _;rw[hm6.out];exact hrd.out.rcn) (SM.ownR S9.own))
  replace S9:=hid S9;clear S8;go_wp2_with fail;rw[hnew.out];clear hnew;refine hrt.out.mono ?_;rintro e w9 ⟨rfl,rl9,hR9,ST9⟩;have S10:=SM.stepR (m:=m7) S9.out ST9;obtain⟨m9,hm9⟩:∃m9:SM,m9={m7 with rl:=rl9,cs:=J28 m4.cs key++[⟨key,i,it⟩]}:=⟨_,rfl⟩
  replace S10:J1 w0 [] w9 (m9.hp sb nb S'.bud++(il++((ib,.cells #[.int .i64 it.kind,.string it.text,.slice a it.fs.length cc] 183 (0,0))::r))):=by rw[hm9];exact S10
  have hlay:∀xl' D',K1 xl' m9.xb D'->SM.Ok {m9 with xl:=xl'} {S' with L:=Jk S'.L key++[(key,it)],D:=D'}:=fun xl' D' hE=>by
   have e7:=hm7.out;have e6:=hm6.out;refine hrd.out.laid (s':=⟨it,.slice a5 it.fs.length k5,sl5⟩) rfl hat5.out ?_ ?_ hE ?_ ?_ ?_ ?_ ?_ ?_ ?_
   ·show Jv m9.tl m9.tb _ 0
    rw[hm9,e7];exact hT7.out
   ·show Jj m9.rl m9.rb _
    rw[hm9];exact hR9
   ·show SliceHp 3 183 m9.sv _ _ m9.shp
    rw[hm9,e7,e6];show SliceHp 3 183 m4.sv _ _ _
    rw[hsv.out];exact .laid g _ cap _ rest (by rw[J1g,List.length_set]) hrest.out hc1 (by unfold maxLen;exact hc2)
   ·show SliceHp 1 3 m9.fv _ _ m9.fhp
    rw[hm9,e7,e6];exact hrd.out.free
   ·show SliceHp 2 146 m9.vv _ _ m9.vhp
    rw[hm9,e7,e6];exact hrd.out.evs
   ·show m9.M=_
    rw[hm9,e7]
   ·show m9.cs=_
    rw[hm9]
   ·show m9.ss=_
    rw[hm9,e7,e6]
   ·show m9.fr=_
    rw[hm9,e7,e6]
  have hE9:K1 m9.xl m9.xb S'.D:=by rw[hm9,hm7.out,hm6.out];exact hrd.out.exp
  have hfit:=hf.out.lay hT'.out (by omega) hr.out hc keep
  have hnb':nb=J4 (Jk S'.L key++[(key,it)]):=by rw[hnb,J68];simp[J4]
  have hD:S'.D.length<=1099511627776:=by have:=hf.out.fewD;have:=hf.out.few;omega
  have d4:=(Ju S10.own).c4;have hed:=hid (Jaf m9.xl m9.xb S'.D key w9 hE9 hD (SM.ownX S10.own));have hlen:(S'.lay key it keep).ev.length<=2199023255552:=by show(S'.ev++[(1,key)]).length<=_;rw[List.length_append];simp only[List.length_cons,List.length_nil];omega
  have hstore:Hid (∀w' xl',K1 xl' m9.xb (if keep then S'.D else Jk S'.D key)->J1 w0 [] w' ({m9 with xl:=xl'}.hp sb nb S'.bud++(il++((ib,.cells #[.int .i64 it.kind,.string it.text,.slice a it.fs.length cc] 183 (0,0))::r)))->
   Calls Tryz.prog 171 #[ptr sb,.int .i64 1,.string key] w' (Jw w0 (il++((ib,.cells #[.int .i64 it.kind,.string it.text,.slice a it.fs.length cc] 183 (0,0))::r)) sb (S'.lay key it keep) (.tuple #[]))):=hid (fun w' xl' hE hS'=>by
    refine Jc6 (S:={S' with L:=Jk S'.L key++[(key,it)],D:=if keep then S'.D else Jk S'.D key}) hS' ⟨{m9 with xl:=xl'},by rw[hnb'],hlay xl' _ hE,⟨hfit.nd,hfit.ends,hfit.dnd,hfit.key,hfit.bud,hfit.le⟩⟩ (by show S'.ev.length<=_;omega) 1 key)
  have hdone:Hid (∀w' l',Je l' sb (St.evict (S'.lay key it keep).L.length (S'.lay key it keep) key)->J1 w0 [] w' (l'++(il++((ib,.cells #[.int .i64 it.kind,.string it.text,.slice a it.fs.length cc] 183 (0,0))::r)))->Jw w0 (il++r) sb (S.put key it keep now) (.int .i64 0) (.returned (.int .i64 0)) w'):=hid (fun w' l' h1 h2=>⟨rfl,l',by rw[hput.out];exact h1,h2.pick (l2:=l'++(il++r)) (m:=[(ib,.cells #[.int .i64 it.kind,.string it.text,.slice a it.fs.length cc] 183 (0,0))]) (J2 fun f=>by
   simp only[SC];omega)⟩)
  generalize S'.lay key it keep=S2 at hstore hdone hlen;replace S10:=hid S10;replace hE9:=hid hE9;clear hrt hR9 ST9 S9 hm9 hlay hfit c5 fz hsl d3 hm7 hm6 hT7 hrd hat5 hat hr hput hsv hshp hs hcopy S4 hrest hf hT';cases keep with
  |true=>
   go_wp2_with fail;refine(hstore.out _ _ hE9.out S10.out).mono ?_
   rintro e w10 ⟨rfl,l10,hX10,S10⟩;have hev:=hid (Jah S10 hG.out hX10 hlen key);clear hX10 hed hstore;go_wp2_with fail;refine hev.out.mono ?_;rintro e w11 ⟨rfl,l11,hX11,S11⟩;have hlast:=hid (hdone.out w11 l11 hX11 S11);clear hdone hX11 S11 hev;go_wp2_with fail;go_ret;exact hlast.out
  |false=>
   go_wp2_with fail;refine hed.out.mono ?_;rintro e w9' ⟨rfl,xl',hE',STX⟩;have htell:=hid (hstore.out _ _ hE' (SM.stepX S10.out STX));clear hed hstore hE' STX d4;go_wp2_with fail;refine htell.out.mono ?_;rintro e w10 ⟨rfl,l10,hX10,S10⟩;have hev:=hid (Jah S10 hG.out hX10 hlen key);clear hX10 htell;go_wp2_with fail;refine hev.out.mono ?_;rintro e w11 ⟨rfl,l11,hX11,S11⟩;have hlast:=hid (hdone.out w11 l11 hX11 S11);clear hdone hX11 S11 hev;go_wp2_with fail;go_ret;exact hlast.out
def St.ttl (S:St) (key:ByteArray) (now:Int):Int:=match J7 S.L key with
 |none=> -2
 |some _=>match J7 S.D key with
  |none=> -1
  |some t=>t - now
theorem Jfw (hS:J1 w0 [] w (l++r)) (hG:J1q w0) (hX:Je l sb S) (hev:S.ev.length<=2199023255552) (key:ByteArray) (hk:key.size<=1099511627776) (now:Int)
 (hr:∀t,J7 (S.due key now).D key=some t-> -9223372036854775808<=t - now/\t - now<=9223372036854775807):
  Calls Tryz.prog 111 #[ptr sb,.string key,.int .i64 now] w (Jw w0 r sb (S.due key now) (.int .i64 ((S.due key now).ttl key now))):=by
  have hslot:=hid (J9q hS hG hX (by omega) key hk now)
  generalize S.due key now=S' at hslot hr⊢;clear hS hX hev;go_enter Tryz.func111,Tryz.ntmps111;go_wp2_with fail;refine hslot.out.mono ?_;rintro e w1 hP;cases hP with
  |no l' hn he hX1 S1=>
   subst he
   have hdone:Hid (Jw w0 r sb S' (.int .i64 (S'.ttl key now)) (.returned (.int .i64 (-2))) w1):=by
    have e:S'.ttl key now= -2:=by simp[St.ttl,hn]
    rw[e];exact⟨rfl,l',hX1,S1⟩
   clear hslot hn hX1 S1 hr;go_wp2_with fail;go_ret;exact hdone.out
  |yes m c s hok hf hc hck hs hi hl he S1=>
   subst he;have c4:=(Ju S1.own).c4;have hget:=hid (Jd2 m.xl m.xb S'.D key w1 hok.exp (SM.ownX S1.own));have hst:Hid (∃l',Je l' sb S'/\J1 w0 [] w1 (l'++r)):=⟨_,⟨m,rfl,hok,hf⟩,S1⟩;clear S1 hok hf hc hck hs hi hslot;cases hd:J7 S'.D key with
   |none=>
    have hdone:Hid (Jw w0 r sb S' (.int .i64 (S'.ttl key now)) (.returned (.int .i64 (-1))) w1):=by
     have e:S'.ttl key now= -1:=by simp[St.ttl,hl,hd]
     rw[e];exact⟨rfl,hst⟩
    replace hd:=hid hd;replace hl:=hid hl;clear hr;go_wp2_with fail;refine hget.out.mono ?_;rintro e w2 ⟨rfl,rfl⟩;simp only[hd.out,Option.getD_none,Option.isSome_none];clear hget hst;go_wp2_with fail;go_ret;exact hdone.out
   |some t=>
    have hdone:Hid (Jw w0 r sb S' (.int .i64 (S'.ttl key now)) (.returned (.int .i64 (t - now))) w1):=by
     have e:S'.ttl key now=t - now:=by simp[St.ttl,hl,hd]
     rw[e];exact⟨rfl,hst⟩
    obtain⟨hr1,hr2⟩:=hr t hd
    replace hd:=hid hd;replace hl:=hid hl;clear hr;go_wp2_with fail;refine hget.out.mono ?_;rintro e w2 ⟨rfl,rfl⟩;simp only[hd.out,Option.getD_some,Option.isSome_some];clear hget hst;go_wp2_with fail;go_ret;exact hdone.out
def J8p (w0:World) (r:Hp) (sb:Nat) (S:St) (e:Ending) (w':World):Prop:=
 ∃v vl l',e= .returned v/\SliceHp 2 146 v S.ev.length (J1w S.ev) vl/\Je l' sb {S with ev:=[]}/\J1 w0 [] w' (l'++(vl++r))
theorem SM.setEvs {n bud:Nat} {m:SM} (hS:J1 w0 l w (m.hp sb n bud++r)):J1 w0 l (w.setCell ⟨sb,7,none⟩ (.slice none 0 0)) ({m with vv:=.slice none 0 0,vhp:=[]}.hp sb n bud++(m.vhp++r)):=by
 have h:J1 w0 l w ((sb,J0m m n bud)::(m.rest++r)):=hS;refine(h.set 7 (.slice none 0 0)).permR (J2 fun f=>?_)
 rw[J0f];simp only[SM.rest,List.map_append,List.sum_append,List.map_cons,List.sum_cons,List.map_nil,List.sum_nil];show f (sb,J0m {m with vv:=.slice none 0 0,vhp:=[]} n bud)+_=_
 omega
theorem J91 (hS:J1 w0 [] w (l++r)) (hX:Je l sb S):
 Calls Tryz.prog 57 #[ptr sb] w (J8p w0 r sb S):=by
 obtain⟨m,rfl,hok,hf⟩:=hX
 have c7:=(Ju hS.own).c7;have fz:=(Ju hS.own).fz;have hlt:=Jc hS.own.left.head;have hevs:=hok.evs;obtain⟨a,c,hv⟩:∃a c,m.vv= .slice a S.ev.length c:=by obtain⟨a,c,h,_⟩:=hevs.form;exact⟨a,c,h⟩
 have hdone:Hid (J8p w0 r sb S (.returned (.slice a S.ev.length c)) (w.setCell ⟨sb,7,none⟩ (.slice none 0 0))):=by
  refine⟨_,m.vhp,_,rfl,by rw[<-hv];exact hevs,⟨{m with vv:=.slice none 0 0,vhp:=[]},rfl,⟨hok.tab,hok.rcn,hok.exp,hok.slots,hok.free,.nil,hok.cells,hok.num,hok.holds,hok.all,hok.each,hok.few⟩,⟨hf.nd,hf.ends,hf.dnd,hf.key,hf.bud,hf.le⟩⟩,SM.setEvs hS⟩
 rw[hv] at c7;clear hS hok hf hevs hv;go_enter Tryz.func57,Tryz.ntmps57;go_wp2_with fail;go_ret;exact hdone.out
abbrev J41 (t:Int):Int:=min t 4611686018427387904
def St.expire (S:St) (key:ByteArray) (when_ now:Int):St:=
 if(J7 S.L key).isSome then(if when_<=now then S.gone key 2 else {S with D:=J22 S.D key (J41 when_),ev:=S.ev++[(1,key)]}) else S
theorem Jis {α:Type} {m:AL α} {k x:ByteArray} {v:α} (h:x∈(J22 m k v).map Prod.fst):x∈m.map Prod.fst\/x=k:=by
 unfold J22 at h;split at h
 ·left
  have e:(Jbs m k v).map Prod.fst=m.map Prod.fst:=by
   unfold Jbs;rw[List.map_map];refine List.map_congr_left fun p _=>?_
   simp only[Function.comp];split<;>simp_all
  rwa[e] at h
 ·simpa using h
theorem Fit.ending (h:Fit S) {key:ByteArray} (hl:J7 S.L key=some it) (t:Int) (ev:List (Int×ByteArray)):Fit {S with D:=J22 S.D key t,ev:=ev}:=
 ⟨h.nd,fun k hk=>by
  rcases Jis hk with hk|rfl
  ·exact h.ends k hk
  ·exact List.mem_map.2 ⟨_,J0p hl,rfl⟩,J5h h.dnd,h.key,h.bud,h.le⟩
theorem J92 (hS:J1 w0 [] w (l++r)) (hG:J1q w0) (hX:Je l sb S) (hev:S.ev.length<=2199023255552) (key:ByteArray) (hk:key.size<=1099511627776) (when_ now:Int) (hn0:0<=now) (hw:when_<=9223372036854775807):
 Calls Tryz.prog 147 #[ptr sb,.string key,.int .i64 when_,.int .i64 now] w (Jw w0 r sb ((S.due key now).expire key when_ now) (.bool (J7 (S.due key now).L key).isSome)):=by
 have hslot:=hid (J9q hS hG hX (by omega) key hk now)
 have hev2:=Ji3 S key now;generalize S.due key now=S' at hslot hev2⊢;have hev3:S'.ev.length<=4398046511104:=by omega
 clear hS hX hev hev2;go_enter Tryz.func147,Tryz.ntmps147;go_wp2_with fail;refine hslot.out.mono ?_;rintro e w1 hP;cases hP with
 |no l' hn he hX1 S1=>
  subst he
  have hdone:Hid (Jw w0 r sb (S'.expire key when_ now) (.bool (J7 S'.L key).isSome) (.returned (.bool false)) w1):=by
   have e:S'.expire key when_ now=S':=by simp[St.expire,hn]
   rw[e,hn];exact⟨rfl,l',hX1,S1⟩
  clear hslot hn hX1 S1 hev3;go_wp2_with fail;go_ret;exact hdone.out
 |yes m c s hok hf hc hck hs hi hl he S1=>
  subst he;by_cases hle:when_<=now
  ·have e:S'.expire key when_ now=S'.gone key 2:=by simp[St.expire,hl,hle]
   have hgone:=hid (J97 S1 hG ⟨m,rfl,hok,hf⟩ hev3 key hk 2);replace e:=hid e;clear S1 hok hf hc hck hs hi hslot hl hev3;go_wp2_with fail;refine hgone.out.mono ?_;intro e1 w2 hP
   obtain⟨rfl,h2⟩:=hP
   replace h2:=hid h2;clear hgone;go_wp2_with fail;go_ret;rw[e.out];exact⟨rfl,h2.out⟩
  ·have e:S'.expire key when_ now={S' with D:=J22 S'.D key (J41 when_),ev:=S'.ev++[(1,key)]}:=by simp[St.expire,hl,hle]
   have c4:=(Ju S1.own).c4;have hD:S'.D.length<1099511627776:=by have:=hf.fewD;have:=hf.few;omega
   have hput:=hid (Ji5 m.xl m.xb S'.D key (J41 when_) w1 hok.exp hD (by unfold J41;omega) (SM.ownX S1.own))
   have hst:Hid (∀w' xl',K1 xl' m.xb (J22 S'.D key (J41 when_))->J1 w1 m.xl w' xl'->∃l',Je l' sb {S' with D:=J22 S'.D key (J41 when_)}/\J1 w0 [] w' (l'++r)):=fun w' xl' h1 h2=>
    ⟨_,⟨{m with xl:=xl'},rfl,⟨hok.tab,hok.rcn,h1,hok.slots,hok.free,hok.evs,hok.cells,hok.num,hok.holds,hok.all,hok.each,hok.few⟩,hf.ending hl _ S'.ev⟩,SM.stepX S1 h2⟩
   have hlast:Hid (∀w' l',Je l' sb {S' with D:=J22 S'.D key (J41 when_),ev:=S'.ev++[(1,key)]}->J1 w0 [] w' (l'++r)->Jw w0 r sb (S'.expire key when_ now) (.bool (J7 S'.L key).isSome) (.returned (.bool true)) w'):=fun w' l' h1 h2=>by rw[e,hl];exact⟨rfl,l',h1,h2⟩
   clear S1 hok hf hc hck hs hi hslot hl hD;replace e:=hid e;go_wp2_with fail;refine hput.out.mono ?_;rintro e1 w2 ⟨rfl,xl',hE,ST⟩;obtain⟨l2,hX2,S2⟩:=hst.out w2 xl' hE ST
   have htell:=hid (Jc6 S2 hX2 hev3 1 key);clear hput hst hE ST hX2 S2 hev3;go_wp2_with fail;refine htell.out.mono ?_;rintro e2 w3 ⟨rfl,l3,hX3,S3⟩;have hdone:=hid (hlast.out w3 l3 hX3 S3);clear htell hX3 S3 hlast;go_wp2_with fail;go_ret;exact hdone.out
def J4w (budget:Int):St:=⟨[],[],[],(max 0 (min budget 1000000000000)).toNat⟩
theorem J1.born {w':World} {l':Hp} (h:J1 w0 l w r) (k:J1 w [] w' l'):J1 w0 l w' (l'++r):=
 h.part (a:=[]) (r:=r) (List.Perm.refl _) k
theorem Jgp (budget:Int):Fit (J4w budget):=
 ⟨List.nodup_nil,fun k hk=>by simp[J4w] at hk,List.nodup_nil,fun p hp=>by simp[J4w] at hp,by show(max 0 (min budget 1000000000000)).toNat<=_;omega,by show(0:Nat)<=_;omega⟩
theorem Ka (budget:Int):J00 (J4w budget):=Nat.zero_le _
def Jcn (w0:World) (r:Hp) (budget:Int) (e:Ending) (w':World):Prop:=
 ∃sb l',e= .returned (ptr sb)/\Je l' sb (J4w budget)/\J1 w0 [] w' (l'++r)
theorem Jn8 {tl rl xl:Hp} {tb rb xb:Nat} {budget:Int} (hT:Jv tl tb [] 0) (hR:Jj rl rb []) (hE:K1 xl xb []) (hS:J1 w0 [] w (xl++(rl++(tl++r)))):
 Jcn w0 r budget (.returned (ptr w.heap.size)) (w.alloc (.cells #[ptr tb,.slice none 0 0,.slice none 0 0,ptr rb,ptr xb,.int .i64 0,.int .i64 (max 0 (min budget 1000000000000)),.slice none 0 0] 76)):=by
 have S1:=hS.alloc (.cells #[ptr tb,.slice none 0 0,.slice none 0 0,ptr rb,ptr xb,.int .i64 0,.int .i64 (max 0 (min budget 1000000000000)),.slice none 0 0] 76);let m:SM:=⟨tb,rb,xb,.slice none 0 0,.slice none 0 0,.slice none 0 0,tl,rl,xl,[],[],[],[],[],[],[]⟩
 have e:((max 0 (min budget 1000000000000)).toNat:Int)=max 0 (min budget 1000000000000):=by omega
 refine⟨w.heap.size,m.hp w.heap.size 0 (J4w budget).bud,rfl,⟨m,rfl,⟨hT,hR,hE,.nil,.nil,.nil,rfl,List.Perm.refl _,fun c hc=>by simp[m] at hc,List.Perm.refl _,fun s hs=>by simp[m] at hs,by show(0:Nat)<=_;omega⟩,Jgp budget⟩,S1.permR (J2 fun f=>?_)⟩
 rw[J0f];show _=f (w.heap.size,.cells #[ptr tb,.slice none 0 0,.slice none 0 0,ptr rb,ptr xb,.int .i64 (0:Nat),.int .i64 ((max 0 (min budget 1000000000000)).toNat:Nat),.slice none 0 0] 76 (0,0))+(tl.map f).sum+(rl.map f).sum+(xl.map f).sum+0+0+0+0+(r.map f).sum
 rw[e];simp only[SC];show f (w.heap.size,.cells #[ptr tb,.slice none 0 0,.slice none 0 0,ptr rb,ptr xb,.int .i64 (0:Nat),.int .i64 (max 0 (min budget 1000000000000)),.slice none 0 0] 76 (0,0))+_=_
 omega
theorem J9r (hS:J1 w0 [] w r) (budget:Int):
 Calls Tryz.prog 13 #[.int .i64 budget] w (Jcn w0 r budget):=by
 have hnew:=hid (Jjt w);replace hS:=hid hS;go_enter Tryz.func13,Tryz.ntmps13;go_wp2_with fail;refine hnew.out.mono ?_;rintro e w1 ⟨tb,tl,rfl,hT,ST⟩;have S1:=hid (hS.out.born ST);replace hT:=hid hT;have hrn:=hid (Jds w1);clear hnew ST hS;go_wp2_with fail;refine hrn.out.mono ?_;rintro e w2 ⟨rb,rl,rfl,hR,SR⟩;have S2:=hid (S1.out.born SR);replace hR:=hid hR;have hen:=hid (Ji4 w2);clear hrn SR S1;go_wp2_with fail;refine hen.out.mono ?_;rintro e w3 ⟨xb,xl,rfl,hE,SE⟩;have hdone:=hid (Jn8 (budget:=budget) hT.out hR.out hE (S2.out.born SE));clear hen SE S2 hT hR hE;go_wp2_with fail;go_ret;exact hdone.out
@[go_sem] theorem Jh2 (P:Program) (w:World) (a:Addr) (m:Mode) (k:FloatKind) (n):(store a (.float k n) m).run P w=stored P w a (.float k n) m:=run_store P w a _ m rfl
def J3 (kind:Int) (text:ByteArray) (n:Int) (list:Value):Value:=.agg #[.int .i64 kind,.string text,.int .i64 n,.float .f64 0,.bool false,list]
def Ji (w0:World) (r:Hp) (v:Value) (e:Ending) (w':World):Prop:=e= .returned v/\J1 w0 [] w' r
theorem Jb7 (hS:J1 w0 [] w r) (s:ByteArray):
 Calls Tryz.prog 42 #[.string s] w (Ji w0 r (J3 4 s 0 (.slice none 0 0))):=by
 have hS':=hid hS;clear hS;go_enter Tryz.func42,Tryz.ntmps42;go_wp2_with fail;refine bodyPost_ret (v:=J3 4 s 0 (.slice none 0 0)) (by simp[results,Tryz.results42,go_sem,J3, *]<;>rfl) rfl ?_
 exact⟨rfl,(hS'.out.alloc _).less (List.sublist_cons_self _ _)⟩
theorem J2f (hS:J1 w0 [] w r) (s:ByteArray):
 Calls Tryz.prog 19 #[.string s] w (Ji w0 r (J3 2 s 0 (.slice none 0 0))):=by
 have hS':=hid hS;clear hS;go_enter Tryz.func19,Tryz.ntmps19;go_wp2_with fail;refine bodyPost_ret (v:=J3 2 s 0 (.slice none 0 0)) (by simp[results,Tryz.results19,go_sem,J3, *]<;>rfl) rfl ?_
 exact⟨rfl,(hS'.out.alloc _).less (List.sublist_cons_self _ _)⟩
theorem J9y (hS:J1 w0 [] w r) (n:Int):
 Calls Tryz.prog 76 #[.int .i64 n] w (Ji w0 r (J3 3 ByteArray.empty n (.slice none 0 0))):=by
 have hS':=hid hS;clear hS;go_enter Tryz.func76,Tryz.ntmps76;go_wp2_with fail;refine bodyPost_ret (v:=J3 3 ByteArray.empty n (.slice none 0 0)) (by simp[results,Tryz.results76,go_sem,J3, *]<;>rfl) rfl ?_
 exact⟨rfl,(hS'.out.alloc _).less (List.sublist_cons_self _ _)⟩
theorem Jea (hS:J1 w0 [] w r):
 Calls Tryz.prog 24 #[] w (Ji w0 r (J3 6 ByteArray.empty 0 (.slice none 0 0))):=by
 have hS':=hid hS;clear hS;go_enter Tryz.func24,Tryz.ntmps24;go_wp2_with fail;refine bodyPost_ret (v:=J3 6 ByteArray.empty 0 (.slice none 0 0)) (by simp[results,Tryz.results24,go_sem,J3, *]<;>rfl) rfl ?_
 exact⟨rfl,(hS'.out.alloc _).less (List.sublist_cons_self _ _)⟩
theorem Jcc (hS:J1 w0 [] w r):
 Calls Tryz.prog 38 #[] w (Ji w0 r (J3 1 ⟨#[79,75]⟩ 0 (.slice none 0 0))):=by
 have hS':=hid hS;clear hS;go_enter Tryz.func38,Tryz.ntmps38;go_wp2_with fail;refine bodyPost_ret (v:=J3 1 ⟨#[79,75]⟩ 0 (.slice none 0 0)) (by simp[results,Tryz.results38,go_sem,J3, *]<;>rfl) rfl ?_
 exact⟨rfl,(hS'.out.alloc _).less (List.sublist_cons_self _ _)⟩
def Jnx (n:Int):Int:=if n= -9223372036854775808 then 0 else -n
def Jfz (n:Int):Int:=if n= -9223372036854775808 then 12 else 0
theorem Jhi (hS:J1 w0 [] w r) (s:ByteArray):
 Calls Tryz.prog 146 #[.string s] w (Ji w0 r (J8 1 s (.slice none 0 0))):=by
 have hS':=hid hS;clear hS;go_enter Tryz.func146,Tryz.ntmps146;go_wp2_with fail;refine bodyPost_ret (v:=J8 1 s (.slice none 0 0)) (by simp[results,Tryz.results146,go_sem,J8, *]<;>rfl) rfl ?_
 exact⟨rfl,(hS'.out.alloc _).less (List.sublist_cons_self _ _)⟩
def Jo (e:Int):ByteArray:=
 if e=11 then⟨#[69,82,82,32,118,97,108,117,101,32,105,115,32,110,111,116,32,97,110,32,105,110,116,101,103,101,114,32,111,114,32,111,117,116,32,111,102,32,114,97,110,103,101]⟩ else
 if e=92 then⟨#[69,82,82,32,118,97,108,117,101,32,105,115,32,110,111,116,32,97,110,32,105,110,116,101,103,101,114,32,111,114,32,111,117,116,32,111,102,32,114,97,110,103,101]⟩ else
 if e=111 then⟨#[69,82,82,32,118,97,108,117,101,32,105,115,32,110,111,116,32,97,110,32,105,110,116,101,103,101,114,32,111,114,32,111,117,116,32,111,102,32,114,97,110,103,101]⟩ else
 if e=12 then⟨#[69,82,82,32,105,110,99,114,101,109,101,110,116,32,111,114,32,100,101,99,114,101,109,101,110,116,32,119,111,117,108,100,32,111,118,101,114,102,108,111,119]⟩ else
 if e=93 then⟨#[69,82,82,32,118,97,108,117,101,32,105,115,32,110,111,116,32,97,32,118,97,108,105,100,32,102,108,111,97,116]⟩ else
 if e=21 then⟨#[69,82,82,32,105,110,99,114,101,109,101,110,116,32,119,111,117,108,100,32,112,114,111,100,117,99,101,32,78,97,78,32,111,114,32,73,110,102,105,110,105,116,121]⟩ else
 if e=91 then⟨#[87,82,79,78,71,84,89,80,69,32,79,112,101,114,97,116,105,111,110,32,97,103,97,105,110,115,116,32,97,32,107,101,121,32,104,111,108,100,105,110,103,32,116,104,101,32,119,114,111,110,103,32,107,105,110,100,32,111,102,32,118,97,108,117,101]⟩ else
 if e=94 then⟨#[69,82,82,32,118,97,108,117,101,32,105,115,32,116,111,111,32,108,111,110,103]⟩ else
 if e=31 then⟨#[69,82,82,32,118,97,108,117,101,32,105,115,32,116,111,111,32,108,111,110,103]⟩ else
 if e=121 then⟨#[79,79,77,32,99,111,109,109,97,110,100,32,110,111,116,32,97,108,108,111,119,101,100,32,119,104,101,110,32,117,115,101,100,32,109,101,109,111,114,121,32,105,115,32,102,117,108,108]⟩ else
 if e=131 then⟨#[69,82,82,32,115,121,110,116,97,120,32,101,114,114,111,114]⟩ else
 if e=132 then⟨#[69,82,82,32,111,112,116,105,111,110,115,32,100,111,32,110,111,116,32,103,111,32,116,111,103,101,116,104,101,114]⟩ else
 ByteArray.empty
def J0u (e:Int):Prop:=e=11\/e=92\/e=111\/e=12\/e=93\/e=21\/e=91\/e=94\/e=31\/e=121\/e=131\/e=132
theorem Jlb (w:World):Calls Tryz.prog 133 #[.int .i64 11] w fun x w'=>x= .returned (.string (Jo 11))/\w=w':=by
 go_enter Tryz.func133,Tryz.ntmps133;go_wp2_with fail;go_ret;exact⟨rfl,rfl⟩
theorem Jlg (w:World):Calls Tryz.prog 133 #[.int .i64 92] w fun x w'=>x= .returned (.string (Jo 92))/\w=w':=by
 go_enter Tryz.func133,Tryz.ntmps133;go_wp2_with fail;go_ret;exact⟨rfl,rfl⟩
theorem Jk1 (w:World):Calls Tryz.prog 133 #[.int .i64 111] w fun x w'=>x= .returned (.string (Jo 111))/\w=w':=by
 go_enter Tryz.func133,Tryz.ntmps133;go_wp2_with fail;go_ret;exact⟨rfl,rfl⟩
theorem Jlc (w:World):Calls Tryz.prog 133 #[.int .i64 12] w fun x w'=>x= .returned (.string (Jo 12))/\w=w':=by
 go_enter Tryz.func133,Tryz.ntmps133;go_wp2_with fail;go_ret;exact⟨rfl,rfl⟩
theorem Jlh (w:World):Calls Tryz.prog 133 #[.int .i64 93] w fun x w'=>x= .returned (.string (Jo 93))/\w=w':=by
 go_enter Tryz.func133,Tryz.ntmps133;go_wp2_with fail;go_ret;exact⟨rfl,rfl⟩
theorem Jld (w:World):Calls Tryz.prog 133 #[.int .i64 21] w fun x w'=>x= .returned (.string (Jo 21))/\w=w':=by
 go_enter Tryz.func133,Tryz.ntmps133;go_wp2_with fail;go_ret;exact⟨rfl,rfl⟩
theorem Jlf (w:World):Calls Tryz.prog 133 #[.int .i64 91] w fun x w'=>x= .returned (.string (Jo 91))/\w=w':=by
 go_enter Tryz.func133,Tryz.ntmps133;go_wp2_with fail;go_ret;exact⟨rfl,rfl⟩
theorem Jli (w:World):Calls Tryz.prog 133 #[.int .i64 94] w fun x w'=>x= .returned (.string (Jo 94))/\w=w':=by
 go_enter Tryz.func133,Tryz.ntmps133;go_wp2_with fail;go_ret;exact⟨rfl,rfl⟩
theorem Jle (w:World):Calls Tryz.prog 133 #[.int .i64 31] w fun x w'=>x= .returned (.string (Jo 31))/\w=w':=by
 go_enter Tryz.func133,Tryz.ntmps133;go_wp2_with fail;go_ret;exact⟨rfl,rfl⟩
theorem Jk2 (w:World):Calls Tryz.prog 133 #[.int .i64 121] w fun x w'=>x= .returned (.string (Jo 121))/\w=w':=by
 go_enter Tryz.func133,Tryz.ntmps133;go_wp2_with fail;go_ret;exact⟨rfl,rfl⟩
theorem Jk3 (w:World):Calls Tryz.prog 133 #[.int .i64 131] w fun x w'=>x= .returned (.string (Jo 131))/\w=w':=by
 go_enter Tryz.func133,Tryz.ntmps133;go_wp2_with fail;go_ret;exact⟨rfl,rfl⟩
theorem Jk4 (w:World):Calls Tryz.prog 133 #[.int .i64 132] w fun x w'=>x= .returned (.string (Jo 132))/\w=w':=by
 go_enter Tryz.func133,Tryz.ntmps133;go_wp2_with fail;go_ret;exact⟨rfl,rfl⟩
theorem J6s (w:World) (e:Int) (h:J0u e):Calls Tryz.prog 133 #[.int .i64 e] w fun x w'=>x= .returned (.string (Jo e))/\w=w':=by
 rcases h with rfl|rfl|rfl|rfl|rfl|rfl|rfl|rfl|rfl|rfl|rfl|rfl
 ·exact Jlb w
 ·exact Jlg w
 ·exact Jk1 w
 ·exact Jlc w
 ·exact Jlh w
 ·exact Jld w
 ·exact Jlf w
 ·exact Jli w
 ·exact Jle w
 ·exact Jk2 w
 ·exact Jk3 w
 ·exact Jk4 w
theorem J7d (hS:J1 w0 [] w r) (c:Int) (h:J0u c):
 Calls Tryz.prog 143 #[.int .i64 c] w (Ji w0 r (J3 2 (Jo c) 0 (.slice none 0 0))):=by
 have S1:=(hS.alloc (.cells #[.int .i64 0,.string ByteArray.empty,.int .i64 0,.float .f64 0,.bool false,.slice none 0 0] 29));have herr:=hid (J6s (w.alloc (.cells #[.int .i64 0,.string ByteArray.empty,.int .i64 0,.float .f64 0,.bool false,.slice none 0 0] 29)) c h);have hfail:=hid (J2f S1 (Jo c));clear hS S1 h;generalize Jo c=t at herr hfail⊢;go_enter Tryz.func143,Tryz.ntmps143;go_wp2_with fail;refine herr.out.mono ?_;rintro e w1 ⟨rfl,rfl⟩;clear herr;go_wp2_with fail;refine hfail.out.mono ?_;rintro e w1 ⟨rfl,S2⟩;generalize w.heap.size=b at S2⊢;have hb:=S2.own.head;obtain⟨c0,hc0⟩:∃x,w1.cell? ⟨b,0,none⟩=some x:=⟨_,J0 hb 0⟩
 obtain⟨c1,hc1⟩:∃x,w1.cell? ⟨b,1,none⟩=some x:=⟨_,J0 hb 1⟩
 obtain⟨c2,hc2⟩:∃x,w1.cell? ⟨b,2,none⟩=some x:=⟨_,J0 hb 2⟩
 obtain⟨c3,hc3⟩:∃x,w1.cell? ⟨b,3,none⟩=some x:=⟨_,J0 hb 3⟩
 obtain⟨c4,hc4⟩:∃x,w1.cell? ⟨b,4,none⟩=some x:=⟨_,J0 hb 4⟩
 obtain⟨c5,hc5⟩:∃x,w1.cell? ⟨b,5,none⟩=some x:=⟨_,J0 hb 5⟩
 have fz:∀j,w1.frozen? ⟨b,j,none⟩=false:=fun j=>J6 hb j
 have hlt:=Jc hb;have hlast:=hid (((((((S2.set 0 (.int .i64 2)).set 1 (.string t)).set 2 (.int .i64 0)).set 3 (.float .f64 0)).set 4 (.bool false)).set 5 (.slice none 0 0)).less (List.sublist_cons_self _ _));clear hb S2 hfail;unfold J3;go_wp2_with fail;refine bodyPost_ret (v:=J3 2 t 0 (.slice none 0 0)) (by simp[results,Tryz.results143,go_sem,J3, *]<;>rfl) rfl ?_
 exact⟨rfl,hlast.out⟩
end Go.Proofs.YtefjbegnlolgbaaGreatDoor
