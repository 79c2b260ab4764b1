/-
(*Store).slot, Peek, Get, Drop.
-/
import Derived.Test.YtefjbegnlolgbaaGreatDoorQ14
set_option linter.unusedVariables false
set_option linter.unusedSimpArgs false
set_option maxRecDepth 100000
set_option maxHeartbeats 8000000
namespace Go.Proofs.YtefjbegnlolgbaaGreatDoor
open Go Go.RowKit
variable {w0 w:World}{l r:Hp}{sb:Nat}{S:St}{m:SM}
inductive J8t (w0:World) (r:Hp) (sb:Nat) (S:St) (key:ByteArray) (e:Ending) (w':World):Prop where
 |no (l':Hp) (hn:J7 S.L key=none) (he:e= .returned (.tuple #[.int .i64 0,.bool false])) (hX:Je l' sb S) (hS:J1 w0 [] w' (l'++r))
 |yes (m:SM) (c:J0t) (s:J2m) (hok:m.Ok S) (hf:Fit S) (hc:c∈m.cs) (hk:c.key=key) (hs:m.ss[c.at_]? =some s) (hi:s.it=c.it) (hl:J7 S.L key=some c.it) (he:e= .returned (.tuple #[.int .i64 c.at_,.bool true])) (hS:J1 w0 [] w' (m.hp sb (J4 S.L) S.bud++r))
theorem J9q (hS:J1 w0 [] w (l++r)) (hG:J1q w0) (hX:Je l sb S) (hev:S.ev.length<=4398046511104) (key:ByteArray) (hk:key.size<=1099511627776) (now:Int):
 Calls Tryz.prog 167 #[ptr sb,.string key,.int .i64 now] w (J8t w0 r sb (S.due key now) key):=by
 have hdue:=hid (J6b hS hG hX hev key hk now);generalize S.due key now=S' at hdue⊢;clear hS hX hev;go_enter Tryz.func167,Tryz.ntmps167;go_wp2_with fail;refine hdue.out.mono ?_;rintro e w1 ⟨rfl,l1,⟨m,rfl,hok,hf⟩,S1⟩;have c0:=(Ju S1.own).c0;have hget:=hid (Je4 m.tl m.tb m.M key w1 hok.tab (J95 hok hf) (by unfold maxLen;omega) (SM.ownT S1.own))
 cases hl:look m.M key with
 |none=>
  have hn:=hok.lost hl;replace hl:=hid hl
  have hfin:Hid (∀w' tl',Jv tl' m.tb m.M 4->J1 w1 m.tl w' tl'->J8t w0 r sb S' key (.returned (.tuple #[.int .i64 0,.bool false])) w'):=fun w' tl' hT k=>
   .no ({m with tl:=tl'}.hp sb (J4 S'.L) S'.bud) hn rfl ⟨{m with tl:=tl'},rfl,⟨hT.weak (Nat.zero_le _),hok.rcn,hok.exp,hok.slots,hok.free,hok.evs,hok.cells,hok.num,hok.holds,hok.all,hok.each,hok.few⟩,hf⟩ (SM.stepT (M':=m.M) S1 k)
  clear S1 hok hf hn hdue;go_wp2_with fail;refine hget.out.mono ?_;rintro e w2 ⟨rfl,tl',hT,ST⟩;have hdone:=hid (hfin.out w2 tl' hT ST);simp only[hl.out,Option.getD_none,Option.isSome_none];clear hget hT ST hfin;go_wp2_with fail;go_ret2;exact hdone.out
 |some i=>
  obtain⟨c,s,hc,hck,rfl,hs,hsi,hml⟩:=hok.found hf hl
  replace hl:=hid hl
  have hfin:Hid (∀w' tl',Jv tl' m.tb m.M 4->J1 w1 m.tl w' tl'->J8t w0 r sb S' key (.returned (.tuple #[.int .i64 c.at_,.bool true])) w'):=fun w' tl' hT k=>
   .yes {m with tl:=tl'} c s ⟨hT.weak (Nat.zero_le _),hok.rcn,hok.exp,hok.slots,hok.free,hok.evs,hok.cells,hok.num,hok.holds,hok.all,hok.each,hok.few⟩ hf hc hck hs hsi hml rfl (SM.stepT (M':=m.M) S1 k)
  have hfw:=hok.few;have hil:=(List.getElem?_eq_some_iff.1 hs).1;clear S1 hok hf hml hdue hs hsi hck;go_wp2_with fail;refine hget.out.mono ?_;rintro e w2 ⟨rfl,tl',hT,ST⟩;have hdone:=hid (hfin.out w2 tl' hT ST);simp only[hl.out,Option.getD_some,Option.isSome_some];clear hget hT ST hfin;go_wp2_with fail;go_ret2;exact hdone.out
def J30 (w0:World) (r:Hp) (sb:Nat) (S:St) (o:Option Itm) (e:Ending) (w':World):Prop:=
 ∃v vl l',e= .returned (.tuple #[J8 (o.getD Jt).kind (o.getD Jt).text v,.bool o.isSome])/\Jq v (o.getD Jt).fs vl/\Je l' sb S/\J1 w0 [] w' (l'++(vl++r))
theorem Jdp (hS:J1 w0 [] w (l++r)) (hG:J1q w0) (hX:Je l sb S) (hev:S.ev.length<=4398046511104) (key:ByteArray) (hk:key.size<=1099511627776) (now:Int):
 Calls Tryz.prog 107 #[ptr sb,.string key,.int .i64 now] w (J30 w0 r sb (S.due key now) (J7 (S.due key now).L key)):=by
 have S1:=(hS.alloc (.cells #[.int .i64 0,.string ByteArray.empty,.slice none 0 0] 183)).permR (l2:=l++((w.heap.size,.cells #[.int .i64 0,.string ByteArray.empty,.slice none 0 0] 183 (0,0))::r)) List.perm_middle.symm;have hslot:=hid (J9q S1 hG hX hev key hk now);generalize S.due key now=S' at hslot⊢;generalize ho:J7 S'.L key=o;replace ho:=hid ho;clear hS hX hev S1;go_enter Tryz.func107,Tryz.ntmps107;go_wp2_with fail;refine hslot.out.mono ?_;intro e w1 hP
 generalize w.heap.size=b at hP⊢;clear hslot;cases hP with
 |no l' hn he hX hS=>
  subst he;obtain rfl:o=none:=ho.out.symm.trans hn;have hd:=J04 hS.own.right.head;obtain⟨d0,d1,d2,f1⟩:=hd
  have S2:=hS.pick (l2:=(b,.cells #[.int .i64 0,.string ByteArray.empty,.slice none 0 0] 183 (0,0))::(l'++r)) (m:=[]) (J2 fun f=>by
   simp only[SC];omega)
  have S3:=(((S2.set 0 (.int .i64 0)).set 1 (.string ByteArray.empty)).set 2 (.slice none 0 0)).less (List.sublist_cons_self _ _);have hfin:Hid (J30 w0 r sb S' none (.returned (.tuple #[J8 0 ByteArray.empty (.slice none 0 0),.bool false])) _):=⟨.slice none 0 0,[],l',rfl,⟨.nil,fun _=>rfl⟩,hX,S3⟩
  clear hS S2 S3 hX hn;go_wp2_with fail;refine bodyPost_ret (v:=.tuple #[J8 0 ByteArray.empty (.slice none 0 0),.bool false]) (by simp[results,Tryz.results107,go_sem,J8, *];rfl) rfl ?_
  exact hfin.out
 |yes m c s hok hf hc hck hs hi hl he hS=>
  subst he;obtain rfl:o=some c.it:=ho.out.symm.trans hl;have hat:=hok.each s (List.mem_of_getElem? hs);have hrt:J1c s.it:=by rw[hi];exact(hf.key _ (J0p hl)).2
  have hB:=(J4a hrt).2.1;have hil:=(List.getElem?_eq_some_iff.1 hs).1;have hfw:=hok.few;obtain⟨a,cc,hv⟩:=hat.shape
  obtain⟨g,cap,rest,hsv,hc1,hc2,hshp,hrest,hgb,x0,x1,x2⟩:=J4b hS.own hok.slots hs
  rw[hv] at x2;have c1:w1.cell? ⟨sb,1,none⟩=some (.slice (some ⟨g,0,none⟩) m.ss.length cap):=by rw[<-hsv];exact(Ju hS.own).c1
  have hp:(m.hp sb (J4 S'.L) S'.bud++((b,.cells #[.int .i64 0,.string ByteArray.empty,.slice none 0 0] 183 (0,0))::r)).Perm (s.hp++((sb,J0m m (J4 S'.L) S'.bud)::(m.tl++(m.rl++(m.xl++(m.shp++(m.fhp++(m.vhp++(Ko (m.ss.set c.at_ K5)++((b,.cells #[.int .i64 0,.string ByteArray.empty,.slice none 0 0] 183 (0,0))::r)))))))))):=J2 fun f=>by
   rw[J0f,J2k m.ss c.at_ s hs f];simp only[List.map_append,List.sum_append,List.map_cons,List.sum_cons,List.cons_append];omega
  have hcp:=Jcw (kind:=s.it.kind) (text:=s.it.text) (hS.permR hp) hat (by omega)
  rw[hv] at hcp;unfold J8 at hcp;replace hcp:=hid hcp;replace hS:=hid hS;replace hsv:=hid hsv;replace hv:=hid hv;replace hs:=hid hs;replace hok:=hid hok;replace hf:=hid hf;replace hat:=hid hat;replace hi:=hid hi;replace hck:=hid hck;clear hrt hgb hl hrest hshp hG hc;unfold maxLen at hc2;go_wp2_with fail;refine hcp.out.mono ?_;rintro e w2 ⟨v',sl',rfl,hat2,S2⟩;obtain⟨a',c',rfl⟩:=hat2.shape
  clear hcp x0 x1 x2 c1
  have S3:=S2.pick (l2:=(b,.cells #[.int .i64 0,.string ByteArray.empty,.slice none 0 0] 183 (0,0))::(m.hp sb (J4 S'.L) S'.bud++(sl'++r))) (m:=[]) (J2 fun f=>by
   simp only[SC];have h1:=J0f (m:=m) (sb:=sb) (n:=J4 S'.L) (bud:=S'.bud) (r:=[]) f;rw[J2k m.ss c.at_ s hs.out f,List.append_nil,List.map_nil,List.sum_nil] at h1;rw[h1];omega)
  obtain⟨d0,d1,d2,f1⟩:=J04 S3.own.head
  have S4:=(((S3.set 0 (.int .i64 s.it.kind)).set 1 (.string s.it.text)).set 2 (.slice a' s.it.fs.length c')).less (List.sublist_cons_self _ _)
  have hfin:Hid (∀W,J1 w0 [] W (m.hp sb (J4 S'.L) S'.bud++(sl'++r))->J30 w0 r sb S' (some c.it) (.returned (.tuple #[J8 s.it.kind s.it.text (.slice a' s.it.fs.length c'),.bool true])) W):=fun W hW=>by
   have e:=hi.out;rw[e] at hat2⊢;exact⟨.slice a' c.it.fs.length c',sl',_,rfl,hat2,⟨m,rfl,hok.out,hf.out⟩,hW⟩
  replace S4:=hid S4;clear S2 S3 hat2;go_wp2_with fail;refine bodyPost_ret (v:=.tuple #[J8 s.it.kind s.it.text (.slice a' s.it.fs.length c'),.bool true]) (by simp[results,Tryz.results107,go_sem,J8, *]) rfl ?_
  exact hfin.out _ S4.out
theorem SM.Ok.touch (h:m.Ok S) (hf:Fit S) {key:ByteArray} {it:Itm} (hl:J7 S.L key=some it) {rl':Hp} (hR:Jj rl' m.rb (J35 (m.cs.map J0t.key) key++[key])):
 ∃cs',SM.Ok {m with rl:=rl',cs:=cs'} (S.touch key):=by
 have hm:=J0p hl;rw[h.cells] at hm;obtain⟨c,hc,he⟩:=List.mem_map.1 hm
 simp only[Prod.mk.injEq] at he;obtain⟨rfl,rfl⟩:=he
 have hp:(J28 m.cs c.key++[c]).Perm m.cs:=List.perm_append_comm.trans (J6a (J8y h hf) hc).symm;have e:S.touch c.key={S with L:=Jk S.L c.key++[(c.key,c.it)]}:=by simp[St.touch,hl]
 rw[e];refine⟨J28 m.cs c.key++[c],h.tab,?_,h.exp,h.slots,h.free,h.evs,?_,h.num.trans (hp.symm.map _),fun d hd=>h.holds d (hp.mem_iff.1 hd),?_,h.each,h.few⟩
 ·show Jj rl' m.rb ((J28 m.cs c.key++[c]).map J0t.key)
  rw[List.map_append,<-J9a];exact hR
 ·show Jk S.L c.key++[(c.key,c.it)]=_
  rw[h.cells,J9f];simp
 ·exact(List.Perm.append_left _ (hp.map _)).trans h.all
theorem Ji6 (hS:J1 w0 [] w (l++r)) (hG:J1q w0) (hX:Je l sb S) (hev:S.ev.length<=4398046511104) (key:ByteArray) (hk:key.size<=1099511627776) (now:Int):
 Calls Tryz.prog 90 #[ptr sb,.string key,.int .i64 now] w (J30 w0 r sb ((S.due key now).touch key) (J7 (S.due key now).L key)):=by
 have S1:=(hS.alloc (.cells #[.int .i64 0,.string ByteArray.empty,.slice none 0 0] 183)).permR (l2:=l++((w.heap.size,.cells #[.int .i64 0,.string ByteArray.empty,.slice none 0 0] 183 (0,0))::r)) List.perm_middle.symm;have hpeek:=hid (Jdp S1 hG hX hev key hk now);generalize S.due key now=S' at hpeek⊢;generalize ho:J7 S'.L key=o at hpeek⊢;clear hS hX hev S1;go_enter Tryz.func90,Tryz.ntmps90;cases o with
 |none=>
  have ht:Hid (S'.touch key=S'):=hid (by simp[St.touch,ho])
  rw[ht.out];replace ho:=hid ho;go_wp2_with fail;refine hpeek.out.mono ?_;rintro e w1 ⟨v,vl,l',rfl,hat,hX1,S2⟩;generalize w.heap.size=b at S2⊢;obtain⟨a,c,rfl⟩:=hat.shape
  simp only[Option.getD_none,Jt,Option.isSome_none,List.length_nil] at hat⊢;have hown:=S2.own.right.right;obtain⟨d0,d1,d2,f1⟩:=J04 hown.head
  have hlt:=Jc hown.head;have hne:¬b=w1.heap.size:=by omega
  have S3:=S2.pick (l2:=(b,.cells #[.int .i64 0,.string ByteArray.empty,.slice none 0 0] 183 (0,0))::(l'++(vl++r))) (m:=[]) (J2 fun f=>by
   simp only[SC];omega)
  have S4:=hid (((((S3.set 0 (.int .i64 0)).set 1 (.string ByteArray.empty)).set 2 (.slice a 0 c)).alloc (.cells #[.int .i64 0,.string ByteArray.empty,.slice a 0 c] 183)).less ((List.sublist_cons_self _ _).trans (List.sublist_cons_self _ _)));have hfin:Hid (∀W,J1 w0 [] W (l'++(vl++r))->J30 w0 r sb S' none (.returned (.tuple #[J8 0 ByteArray.empty (.slice a 0 c),.bool false])) W):=fun W hW=>⟨.slice a 0 c,vl,l',rfl,hat,hX1,hW⟩
  unfold J8;clear S2 S3 hat hX1 hpeek hown;go_wp2_with fail;refine bodyPost_ret (v:=.tuple #[J8 0 ByteArray.empty (.slice a 0 c),.bool false]) (by simp[results,Tryz.results90,go_sem,J8, *]) rfl ?_
  exact hfin.out _ S4.out
 |some it=>
  replace ho:=hid ho;go_wp2_with fail;refine hpeek.out.mono ?_;rintro e w1 ⟨v,vl,l',rfl,hat,⟨m,rfl,hok,hf⟩,S2⟩;generalize w.heap.size=b at S2⊢;obtain⟨a,c,rfl⟩:=hat.shape
  simp only[Option.getD_some,Option.isSome_some] at hat⊢;unfold J8
  have S3:=(S2.alloc (.cells #[.int .i64 it.kind,.string it.text,.slice a it.fs.length c] 183)).permR (l2:=m.hp sb (J4 S'.L) S'.bud++(vl++((w1.heap.size,.cells #[.int .i64 it.kind,.string it.text,.slice a it.fs.length c] 183 (0,0))::(b,.cells #[.int .i64 0,.string ByteArray.empty,.slice none 0 0] 183 (0,0))::r))) (J2 fun f=>by
   simp only[SC];omega)
  have c3:w1.cell? ⟨sb,3,none⟩=some (ptr m.rb):=(Ju S2.own).c3;have hsb:=Jc S2.own.left.head;have htouch:=hid (J7e m.rl m.rb _ key _ hok.rcn (SM.ownR S3.own));replace S3:=hid S3;replace hok:=hid hok;replace hf:=hid hf;replace hat:=hid hat;clear S2 hpeek;go_wp2_with fail;refine htouch.out.mono ?_;rintro e w2 ⟨rfl,rl',hR,ST⟩;have S4:=SM.stepR S3.out ST;obtain⟨cs',hok'⟩:=hok.out.touch hf.out ho.out hR
  have hX2:Je ({m with rl:=rl',cs:=cs'}.hp sb (J4 (S'.touch key).L) (S'.touch key).bud) sb (S'.touch key):=⟨_,rfl,hok',hf.out.touch key⟩
  have e1:J4 (S'.touch key).L=J4 S'.L:=by
   simp only[St.touch,ho.out];exact J40 (List.perm_append_comm.trans (J21 hf.out.nd ho.out).symm)
  rw[e1,Jb1] at hX2
  have S5:=S4.pick (l2:=(w1.heap.size,.cells #[.int .i64 it.kind,.string it.text,.slice a it.fs.length c] 183 (0,0))::(b,.cells #[.int .i64 0,.string ByteArray.empty,.slice none 0 0] 183 (0,0))::({m with rl:=rl',cs:=cs'}.hp sb (J4 S'.L) S'.bud++(vl++r))) (m:=[]) (J2 fun f=>by
   simp only[SC];show(({m with rl:=rl'}.hp sb (J4 S'.L) S'.bud).map f).sum+_=_+(_+((({m with rl:=rl'}.hp sb (J4 S'.L) S'.bud).map f).sum+_))+0
   omega)
  obtain⟨x0,x1,x2,_⟩:=J04 S5.own.head
  obtain⟨d0,d1,d2,f1⟩:=J04 S5.own.tail.head
  have S6:=hid (((((S5.less (List.sublist_cons_self _ _)).set 0 (.int .i64 it.kind)).set 1 (.string it.text)).set 2 (.slice a it.fs.length c)).less (List.sublist_cons_self _ _));have hfin:Hid (∀W,J1 w0 [] W ({m with rl:=rl',cs:=cs'}.hp sb (J4 S'.L) S'.bud++(vl++r))->J30 w0 r sb (S'.touch key) (some it) (.returned (.tuple #[J8 it.kind it.text (.slice a it.fs.length c),.bool true])) W):=fun W hW=>⟨_,vl,_,rfl,hat.out,hX2,hW⟩
  clear S3 S4 S5 htouch hX2 hok' ST hR c3 e1;go_wp2_with fail;refine bodyPost_ret (v:=.tuple #[J8 it.kind it.text (.slice a it.fs.length c),.bool true]) (by simp[results,Tryz.results90,go_sem,J8, *]) rfl ?_
  exact hfin.out _ S6.out
theorem Ji8 {key:ByteArray} {kind:Int} {it:Itm} (hf:Fit S) (h:J7 S.L key=some it):(S.gone key kind).L.length+1=S.L.length:=by
 rw[J4q h];have:=(J21 hf.nd h).length_eq
 simpa using this.symm
structure Evs (w0:World) (r:Hp) (sb:Nat) (S0:St) (but:ByteArray) (n:Nat) (wr:World) (l:Hp) (S:St):Prop where
 st:Je l sb S
 hS:J1 w0 [] wr (l++r)
 le:S.L.length=n
 ev:S.ev.length+n<=S0.ev.length+S0.L.length
 eq:St.evict n S but=St.evict S0.L.length S0 but
theorem Jah (hS:J1 w0 [] w (l++r)) (hG:J1q w0) (hX:Je l sb S) (hev:S.ev.length<=2199023255552) (but:ByteArray):
 Calls Tryz.prog 222 #[ptr sb,.string but] w (Jw w0 r sb (S.evict S.L.length but) (.tuple #[])):=by
 have hlen:S.L.length<=41666666667:=by obtain⟨m,_,_,hf⟩:=hX;exact hf.few
 have h0:Hid (Evs w0 r sb S but S.L.length w l S):=hid ⟨hX,hS,rfl,Nat.le_refl _,rfl⟩;clear hX hS;go_enter Tryz.func222,Tryz.ntmps222;go_wp2_with fail;go_loopg [] S.L.length (fun k wr=>∃l S',Hid (Evs w0 r sb S but k wr l S'))
 case atStart=>exact⟨l,S,h0⟩
 case round=>
  obtain⟨l',S',hE⟩:=hrel
  obtain⟨⟨m,rfl,hok,hf⟩,hS',hle,hev',heq⟩:=hE.out
  have c3:=(Ju hS'.own).c3;have c5:=(Ju hS'.own).c5;have c6:=(Ju hS'.own).c6;have hb1:J4 S'.L<=2000000000000:=hf.le;have hb2:S'.bud<=1000000000000:=hf.bud;by_cases hlt:S'.bud<J4 S'.L
  ·have hne:S'.L≠[]:=by rintro e;rw[e] at hlt;simp[J4] at hlt
   have hlti:(S'.bud:Int)<(J4 S'.L:Nat):=by omega
   have hks:=hok.keys
   have hold:∀q,Hid (Calls Tryz.prog 124 #[ptr m.rb,.string but] (wr.drewN q) fun e w'=>e= .returned (.tuple #[.string (Kx (S'.L.map Prod.fst) but).1,.bool (Kx (S'.L.map Prod.fst) but).2])/\∃n,w'=(wr.drewN q).drewN n):=fun q=>by
    rw[hks];exact Jew m.rl m.rb _ but _ hok.rcn (SM.ownR (hS'.drewN q).own)
   obtain⟨n,rfl⟩:∃n,gk=n+1:=by
    cases gk with
    |zero=>exact absurd (List.length_eq_zero_iff.1 hle) hne
    |succ n=>exact⟨n,rfl⟩
   cases ho:(Kx (S'.L.map Prod.fst) but).2 with
   |false=>
    have hfin:Hid (∀q,Jw w0 r sb (S.evict S.L.length but) (.tuple #[]) (.returned (.tuple #[])) (wr.drewN q)):=hid fun q=>by
     rw[<-heq];have e:St.evict (n+1) S' but=S':=by unfold St.evict;rw[if_pos hlt,if_neg (by rw[ho];simp)]
     rw[e];exact⟨rfl,_,⟨m,rfl,hok,hf⟩,hS'.drewN q⟩
    rw[ho] at hold;replace ho:=hid ho;clear hS' hok hf heq hks hne hE;go_wp2_with fail;go_quiet (fail);go_wp2_with fail;refine(hold nq).out.mono ?_
    rintro e w2 ⟨rfl,q2,rfl⟩;clear hold;go_wp2_with fail;go_end0
    exact hfin.out _
   |true=>
    have hm:=J7u ho hf.nd;obtain⟨jt,hj⟩:=Option.isSome_iff_exists.1 (J75.2 hm.1)
    have hksz:(Kx (S'.L.map Prod.fst) but).1.size<=1099511627776:=Nat.le_trans (hf.key _ (J0p hj)).1 (by omega)
    have hlen2:=Ji8 (kind:=4) hf hj;have hev2:=Jbn S' (Kx (S'.L.map Prod.fst) but).1 4
    have hgone:∀q,Hid (Calls Tryz.prog 166 #[ptr sb,.string (Kx (S'.L.map Prod.fst) but).1,.int .i64 4] (wr.drewN q) (Jw w0 r sb (S'.gone (Kx (S'.L.map Prod.fst) but).1 4) (.bool (J7 S'.L (Kx (S'.L.map Prod.fst) but).1).isSome))):=fun q=>
     hid (J97 (hS'.drewN q) hG ⟨m,rfl,hok,hf⟩ (by omega) _ hksz 4)
    have heq2:Hid (St.evict n (S'.gone (Kx (S'.L.map Prod.fst) but).1 4) but=St.evict S.L.length S but):=hid (by
     rw[<-heq];conv=>rhs;unfold St.evict
     rw[if_pos hlt,if_pos (by rw[ho])])
    generalize hkey:(Kx (S'.L.map Prod.fst) but).1=key at hold hgone heq2 hlen2 hev2;rw[ho] at hold;replace ho:=hid ho;replace hkey:=hid hkey;generalize S'.gone key 4=S2 at hgone heq2 hlen2 hev2;generalize (J7 S'.L key).isSome=is at hgone;have hnum:S2.L.length=n/\S2.ev.length+n<=S.ev.length+S.L.length:=by omega
    clear hS' hok hf heq hks hne hE hj hm hlen2 hev2;go_wp2_with fail;go_quiet (fail);go_wp2_with fail;refine(hold nq).out.mono ?_
    rintro e w2 ⟨rfl,q2,rfl⟩;clear hold;rw[World.drewN_drewN];go_wp2_with fail;refine(hgone _).out.mono ?_
    rintro e w3 ⟨rfl,l3,hX3,hS3⟩;have hE3:=hid (show ∃l S',Hid (Evs w0 r sb S but n w3 l S') from⟨l3,S2,hid ⟨hX3,hS3,hnum.1,hnum.2,heq2.out⟩⟩);clear hgone hX3 hS3 hnum heq2;go_wp2_with fail;go_roundg n
    case measure=>omega
    case rel=>exact hE3.out
  ·have hfin:Hid (∀q,Jw w0 r sb (S.evict S.L.length but) (.tuple #[]) (.returned (.tuple #[])) (wr.drewN q)):=hid fun q=>by
    rw[<-heq]
    have e:St.evict gk S' but=S':=by
     cases gk with
     |zero=>rfl
     |succ n=>unfold St.evict;rw[if_neg hlt]
    rw[e];exact⟨rfl,_,⟨m,rfl,hok,hf⟩,hS'.drewN q⟩
   have hlti:¬(S'.bud:Int)<(J4 S'.L:Nat):=by omega
   clear hS' hok hf heq hE;go_wp2_with fail;go_quiet (fail);go_wp2_with fail;go_end0
   exact hfin.out _
structure J7i (m:SM) (S:St) (key:ByteArray) (i:Nat):Prop where
 tab:Jv m.tl m.tb m.M 0
 rcn:Jj m.rl m.rb (m.cs.map J0t.key)
 exp:K1 m.xl m.xb S.D
 slots:SliceHp 3 183 m.sv m.ss.length (Jb m.ss) m.shp
 free:SliceHp 1 3 m.fv m.fr.length (J0s m.fr) m.fhp
 evs:SliceHp 2 146 m.vv S.ev.length (J1w S.ev) m.vhp
 cells:S.L=m.cs.map fun c=>(c.key,c.it)
 num:m.M.Perm (m.cs.map fun c=>(c.key,(c.at_:Int)))
 holds:∀c∈J28 m.cs key,∃s,m.ss[c.at_]? =some s/\s.it=c.it
 all:(m.fr++((J28 m.cs key).map J0t.at_++[i])).Perm (List.range m.ss.length)
 each:∀s∈m.ss,Jq s.v s.it.fs s.hp
 few:m.ss.length<=68719476736
def J6x (w0:World) (r:Hp) (sb:Nat) (S:St) (key:ByteArray) (e:Ending) (w':World):Prop:=
 ∃i m,e= .returned (.int .i64 (i:Nat))/\J7i m S key i/\J1 w0 [] w' (m.hp sb (J4 (Jk S.L key)) S.bud++r)
theorem Jg4 {cs:List J0t} {key:ByteArray} (h:key∉cs.map J0t.key):J28 cs key=cs:=by
 rw[J28,List.filter_eq_self];intro c hc
 have:c.key≠key:=fun e=>h (List.mem_map.2 ⟨c,hc,e⟩)
 simpa using this
theorem J7i.old (h:m.Ok S) (hf:Fit S) {c:J0t} (hc:c∈m.cs) {tl':Hp} (hT:Jv tl' m.tb m.M 0):J7i {m with tl:=tl'} S c.key c.at_ where
 tab:=hT
 rcn:=h.rcn
 exp:=h.exp
 slots:=h.slots
 free:=h.free
 evs:=h.evs
 cells:=h.cells
 num:=h.num
 holds:=fun d hd=>h.holds d (List.mem_filter.1 hd).1
 all:=(List.Perm.append_left _ ((List.perm_append_comm (l₁:=(J28 m.cs c.key).map J0t.at_) (l₂:=[c.at_])).trans ((J6a (J8y h hf) hc).map J0t.at_).symm)).trans h.all
 each:=h.each
 few:=h.few
theorem Jd5 (fr:List Nat):(J0s fr).length=fr.length:=by simp[J0s]
theorem SM.setFree {n bud:Nat} (hS:J1 w0 l w (m.hp sb n bud++r)) (v:Value):J1 w0 l (w.setCell ⟨sb,2,none⟩ v) ({m with fv:=v}.hp sb n bud++r):=by
 have h:J1 w0 l w ((sb,J0m m n bud)::(m.rest++r)):=hS;exact h.set 2 v
theorem Jii:(Tryz.prog.info? 183).map (fun i=>(i.zero,i.size,i.bytes))=some (some (.agg #[.int .i64 0,.string ByteArray.empty,.slice none 0 0]),3,48):=by kernel_rfl
theorem SM.pushSlot {n bud:Nat} (hS:J1 w0 l w (m.hp sb n bud++r)) (hsl:SliceHp 3 183 m.sv m.ss.length (Jb m.ss) m.shp) (hB:m.ss.length<=68719476736):
 ∃a c w2 shp',(Builtin.append_ #[72,72] 72 #[m.sv,.slice (some ⟨w.heap.size,0,none⟩) 1 1]).run Tryz.prog (w.alloc (.cells #[.int .i64 0,.string ByteArray.empty,.slice none 0 0] 183))= .ok (.slice a (m.ss.length+1) c) w2/\
  SliceHp 3 183 (.slice a (m.ss.length+1) c) (m.ss.length+1) (Jb (m.ss++[K5])) shp'/\
  Jbe w2 sb m n bud/\sb<w2.heap.size/\
  J1 w0 l (w2.setCell ⟨sb,1,none⟩ (.slice a (m.ss.length+1) c)) ({m with sv:=.slice a (m.ss.length+1) c,shp:=shp',ss:=m.ss++[K5]}.hp sb n bud++r):=by
 have S1:=hS.alloc (.cells #[.int .i64 0,.string ByteArray.empty,.slice none 0 0] 183);have hvb:=S1.own.head
 have S2:=S1.permR (l2:=m.shp++((w.heap.size,.cells #[.int .i64 0,.string ByteArray.empty,.slice none 0 0] 183 (0,0))::(sb,J0m m n bud)::(m.tl++(m.rl++(m.xl++(m.fhp++(m.vhp++(Ko m.ss++r)))))))) (J2 fun f=>by
  simp only[SM.hp,SM.rest,List.map_append,List.sum_append,List.map_cons,List.sum_cons,List.cons_append];omega)
 obtain⟨v',w2,sl',hrun,hsl',S3,_⟩:=J0c (P:=Tryz.prog) (ty:=72) Tryz.underlying72 Tryz.underlying72 Jii rfl (by decide) S2 hsl
  ⟨w.heap.size,0,none⟩ 1 1 [.int .i64 0,.string ByteArray.empty,.slice none 0 0] rfl (by
   intro j u hu
   rw[J33,J0 hvb];simpa using hu) (by simp[Value.oneCell']) (by omega) (by omega) (by unfold maxLen;omega)
 obtain⟨a',c',rfl,_,_⟩:=hsl'.form
 have hb3:=S3.own.right.tail.head
 have S4:=(S3.pick (l2:=(sb,J0m m n bud)::(sl'++(m.tl++(m.rl++(m.xl++(m.fhp++(m.vhp++(Ko m.ss++r)))))))) (m:=[(w.heap.size,.cells #[.int .i64 0,.string ByteArray.empty,.slice none 0 0] 183 (0,0))]) (J2 fun f=>by
  simp only[List.map_append,List.sum_append,List.map_cons,List.sum_cons,List.cons_append,List.map_nil,List.sum_nil];omega)).set 1 (.slice a' (m.ss.length+1) c')
 refine⟨a',c',w2,sl',hrun,by rw[J8a];exact hsl',⟨J0 hb3 0,J0 hb3 1,J0 hb3 2,J0 hb3 3,J0 hb3 4,J0 hb3 5,J0 hb3 6,J0 hb3 7,fun j=>J6 hb3 j⟩,Jc hb3,S4.permR (J2 fun f=>?_)⟩
 rw[J0f];have e:Ko (m.ss++[K5])=Ko m.ss:=by simp[Ko,K5]
 simp only[List.map_append,List.sum_append,List.map_cons,List.sum_cons,List.cons_append,List.map_nil,List.sum_nil,e];show f (sb,J0m {m with sv:=.slice a' (m.ss.length+1) c',shp:=sl',ss:=m.ss++[K5]} n bud)+_=_
 omega
theorem Jgt (hS:J1 w0 [] w (l++r)) (hG:J1q w0) (hX:Je l sb S) (key:ByteArray) (hk:key.size<=1099511627776):
 Calls Tryz.prog 220 #[ptr sb,.string key] w (J6x w0 r sb S key):=by
 obtain⟨m,rfl,hok,hf⟩:=hX
 have hget:=hid (Je4 m.tl m.tb m.M key w hok.tab (J95 hok hf) (by unfold maxLen;omega) (SM.ownT hS.own))
 have c0:=(Ju hS.own).c0;have hfew:=hok.few;cases hl:look m.M key with
 |some i=>
  obtain⟨c,s,hc,rfl,rfl,hs,hsi,hml⟩:=hok.found hf hl
  have hi:=(List.getElem?_eq_some_iff.1 hs).1;have hbs:=J8v hf.nd hml;have hrt:J1c s.it:=by rw[hsi];exact(hf.key _ (J0p hml)).2
  have hat:=hok.each s (List.mem_of_getElem? hs);replace hl:=hid hl;go_enter Tryz.func220,Tryz.ntmps220;go_wp2_with fail;refine hget.out.mono ?_;rintro e w1 ⟨rfl,tl',hT',ST⟩;simp only[hl.out,Option.getD_some,Option.isSome_some];have S1:=SM.stepT (M':=m.M) hS ST;have hready:=J7i.old hok hf hc (hT'.weak (Nat.zero_le _));obtain⟨m1,hm1⟩:∃m1:SM,m1={m with tl:=tl',M:=m.M}:=⟨_,rfl⟩
  have hm1':({m with tl:=tl'}:SM)=m1:=hm1.symm
  rw[<-hm1] at S1;rw[hm1'] at hready;have hs1:m1.ss[c.at_]? =some s:=by rw[hm1];exact hs
  have hi1:c.at_<m1.ss.length:=by rw[hm1];exact hi
  have hfew1:=hready.few;obtain⟨g,cap,rest,hsv,hc1,hc2,hshp,hrest,hgb,_,_,_⟩:=J4b S1.own hready.slots hs1
  have hcost:∀w':World,J1 w0 [] w' (m1.hp sb (J4 S.L) S.bud++r)->_:=fun _ h=>Jae (S:=S) (key:=c.key) h hG hs1 hat hrt hk
  unfold J8 at hcost;have hnew:Hid ((J4 S.L:Int) - (J0r c.key s.it:Nat)=(J4 (Jk S.L c.key):Nat)):=hid (by rw[hsi,hbs];omega)
  have hlt1:J4 S.L<=2000000000000:=hf.le;have hlt2:J0r c.key s.it<=2000000000000:=by rw[hsi];omega
  have c5:∀p:InW w0 [] (m1.hp sb (J4 S.L) S.bud++r),p.w.cell? ⟨sb,5,none⟩=some (.int .i64 (J4 S.L:Nat)):=fun p=>(J02 p.h hsv hshp hs1).1
  have c1:∀p:InW w0 [] (m1.hp sb (J4 S.L) S.bud++r),p.w.cell? ⟨sb,1,none⟩=some (.slice (some ⟨g,0,none⟩) m1.ss.length cap):=fun p=>(J02 p.h hsv hshp hs1).2.1
  have x0:∀p:InW w0 [] (m1.hp sb (J4 S.L) S.bud++r),p.w.cell? ⟨g,c.at_*3,none⟩=some (.int .i64 s.it.kind):=fun p=>(J02 p.h hsv hshp hs1).2.2.1
  have x1:∀p:InW w0 [] (m1.hp sb (J4 S.L) S.bud++r),p.w.cell? ⟨g,c.at_*3+1,none⟩=some (.string s.it.text):=fun p=>(J02 p.h hsv hshp hs1).2.2.2.1
  have x2:∀p:InW w0 [] (m1.hp sb (J4 S.L) S.bud++r),p.w.cell? ⟨g,c.at_*3+2,none⟩=some s.v:=fun p=>(J02 p.h hsv hshp hs1).2.2.2.2.1
  have S1':=hid S1;have hcost':=hid hcost;have hready':=hid hready;clear hS hok hf hready S1 hT' ST hbs hrt hat hs hs1 hsv hshp hgb hrest hsi hml hm1 hm1' hget hG hcost;unfold maxLen at hc2;go_wp2_with fail;refine Jx 16 S1'.out (by kernel_rfl) (by kernel_rfl) (fun hne=>?_)
  simp only[List.take_succ_cons,List.take_zero,List.drop_succ_cons,List.drop_zero];repeat (go_big_quiet_step ((go_at_call 219;refine Calls.inw (hcost'.out _ (InW.h _)))))
  refine J17 fun w2 S2=>?_
  clear c5 c1 x0 x1 x2 hne;have c5:=(Ju S2.own).c5;have fz:=(Ju S2.own).fz;have S3:=hid (SM.setBytes S2 (J4 (Jk S.L c.key)));rw[hnew.out];clear S2;go_wp2_with fail;go_ret;exact⟨c.at_,m1,rfl,hready'.out,S3.out⟩
 |none=>
  have hn:=hok.lost hl;have hnk:key∉m.cs.map J0t.key:=by rw[<-hok.keys];exact J9g hn
  have hcd:=Jg4 hnk;have hmd:Jk S.L key=S.L:=J74 hn;replace hl:=hid hl;go_enter Tryz.func220,Tryz.ntmps220;go_wp2_with fail;refine hget.out.mono ?_;rintro e w1 ⟨rfl,tl',hT',ST⟩;simp only[hl.out,Option.getD_none,Option.isSome_none];have S1:=SM.stepT (M':=m.M) hS ST;have hall:=hok.all;rcases List.eq_nil_or_concat m.fr with hz|⟨init,last,hz⟩
  ·obtain⟨af,cf,hfv⟩:∃a c,m.fv= .slice a 0 c:=by obtain⟨a,c,h,_⟩:=hok.free.form;rw[hz] at h;exact⟨a,c,h⟩
   obtain⟨asl,csl,hsv⟩:∃a c,m.sv= .slice a m.ss.length c:=by obtain⟨a,c,h,_⟩:=hok.slots.form;exact⟨a,c,h⟩
   have c2:w1.cell? ⟨sb,2,none⟩=some (.slice af 0 cf):=by rw[<-hfv];exact(Ju S1.own).c2
   have c1:w1.cell? ⟨sb,1,none⟩=some (.slice asl m.ss.length csl):=by rw[<-hsv];exact(Ju S1.own).c1
   have hlen:m.ss.length<=41666666667:=by
    have:=hall.length_eq
    rw[hz,List.nil_append,List.length_map,List.length_range] at this;have h2:=hok.keys;have h3:=congrArg List.length h2;simp only[List.length_map] at h3;have:=hf.few
    omega
   obtain⟨a,cs,w2,shp',hrun,hsl2,hc2,hsb2,S2⟩:=SM.pushSlot S1 hok.slots (by omega)
   simp only[hsv] at hrun;have d1:=hc2.c1;have fz:=hc2.fz
   have hready:J7i {m with tl:=tl',sv:=.slice a (m.ss.length+1) cs,shp:=shp',ss:=m.ss++[K5]} S key m.ss.length:=by
    refine⟨hT'.weak (Nat.zero_le _),hok.rcn,hok.exp,by rw[List.length_append];exact hsl2,hok.free,hok.evs,hok.cells,hok.num,?_,?_,?_,by rw[List.length_append];simp only[List.length_cons,List.length_nil];omega⟩
    ·intro c hc
     obtain⟨s,hs,hi⟩:=hok.holds c (List.mem_filter.1 hc).1
     exact⟨s,by rw[List.getElem?_append_left (List.getElem?_eq_some_iff.1 hs).1];exact hs,hi⟩
    ·rw[hcd,List.length_append,<-List.append_assoc]
     show((m.fr++m.cs.map J0t.at_)++[m.ss.length]).Perm (List.range (m.ss.length+1))
     rw[List.range_succ];exact hall.append_right _
    ·intro s hs
     rcases List.mem_append.1 hs with hs|hs
     ·exact hok.each s hs
     ·simp only[List.mem_cons,List.not_mem_nil,or_false] at hs
      subst hs;exact⟨.nil,fun _=>rfl⟩
   have hfin:Hid (∀W,J1 w0 [] W ({m with tl:=tl',sv:=.slice a (m.ss.length+1) cs,shp:=shp',ss:=m.ss++[K5]}.hp sb (J4 S.L) S.bud++r)->J6x w0 r sb S key (.returned (.int .i64 (m.ss.length:Nat))) W):=fun W hW=>⟨m.ss.length,_,rfl,hready,by rw[hmd];exact hW⟩
   replace hrun:=hid hrun;replace S2:=hid S2;have d1':(w2.setCell ⟨sb,1,none⟩ (.slice a (m.ss.length+1) cs)).cell? ⟨sb,1,none⟩=some (.slice a (m.ss.length+1) cs):=(Ju S2.out.own).c1;replace hz:=hid hz;clear hS hok hf S1 ST hT' hget hc2 hsl2 hready hall hfv hsv hcd hmd hnk hn c0;go_wp2_with (at_builtin;refine Jh rfl _ _ _ _ rfl _ _ rfl rfl hrun.out ?_);go_ret;exact hfin.out _ S2.out
  ·rw[List.concat_eq_append] at hz
   obtain⟨g,cap,rest,hfv,hc1,hc2,hfh,hrest⟩:=hok.free.view (by rw[hz];simp)
   have hlen:m.fr.length=init.length+1:=by rw[hz];simp
   rw[hlen] at hfv hc1 hrest;have c2:w1.cell? ⟨sb,2,none⟩=some (.slice (some ⟨g,0,none⟩) (init.length+1) cap):=by rw[<-hfv];exact(Ju S1.own).c2
   have fz:=(Ju S1.own).fz;have hgb:w1.heap[g]? =some (.cells (J0s m.fr++rest).toArray 3 (0,0)):=S1.own.at_ (g,_) (by simp[SM.hp,SM.rest,hfh])
   have y0:w1.cell? ⟨g,init.length,none⟩=some (.int .i64 last):=by
    rw[J0 hgb,List.getElem?_toArray,hz];simp[J0s]
   have hbd:init.length<=68719476736:=by
    have:=hall.length_eq
    rw[List.length_append,List.length_range,hlen] at this;omega
   have S2:=hid (SM.setFree S1 (.slice (some ⟨g,0,none⟩) init.length cap))
   have hready:J7i {m with tl:=tl',fv:=.slice (some ⟨g,0,none⟩) init.length cap,fr:=init} S key last:=by
    refine⟨hT'.weak (Nat.zero_le _),hok.rcn,hok.exp,hok.slots,?_,hok.evs,hok.cells,hok.num,fun c hc=>hok.holds c (List.mem_filter.1 hc).1,?_,hok.each,hok.few⟩
    ·show SliceHp 1 3 (.slice (some ⟨g,0,none⟩) init.length cap) init.length (J0s init) m.fhp
     rw[hfh,hz];have e:(J0s (init++[last])++rest)=J0s init++(.int .i64 (last:Int)::rest):=by simp[J0s]
     rw[e];exact .laid g _ cap _ _ (by rw[Jd5];omega) (by simp only[List.length_cons];omega) (by omega) hc2
    ·rw[hcd]
     refine List.Perm.trans ?_ hall;rw[hz];refine J2 fun f=>?_
     simp only[List.map_append,List.sum_append,List.map_cons,List.sum_cons,List.map_nil,List.sum_nil];omega
   have hfin:Hid (J6x w0 r sb S key (.returned (.int .i64 (last:Nat))) (w1.setCell ⟨sb,2,none⟩ (.slice (some ⟨g,0,none⟩) init.length cap))):=⟨last,_,rfl,hready,by rw[hmd];exact S2.out⟩
   replace hz:=hid hz;unfold maxLen at hc2;clear hS hok hf S1 ST hT' hget hready hall hfv hcd hmd hnk hn hgb hfh hrest hlen c0;go_wp2_with fail;go_ret;exact hfin.out
end Go.Proofs.YtefjbegnlolgbaaGreatDoor
