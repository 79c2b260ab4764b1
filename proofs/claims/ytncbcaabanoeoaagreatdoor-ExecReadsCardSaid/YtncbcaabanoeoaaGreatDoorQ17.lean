/-
(*Store).take, gone.
-/
import Derived.WalkSpells
import Derived.Test.YtncbcaabanoeoaaGreatDoorQ11
import Derived.Test.YtncbcaabanoeoaaGreatDoorQ16
set_option linter.unusedVariables false
set_option linter.unusedSimpArgs false
set_option maxRecDepth 100000
set_option maxHeartbeats 8000000
namespace Go.Proofs.YtncbcaabanoeoaaGreatDoor
open Go Go.RowKit
variable {it:Itm}{w0 w w':World}{r l:Hp}{sb i g:Nat}{m:SM}{S:St}{s:J4a}
theorem J77 (h:J0e it):it.text.size<=4096/\it.fs.length<=256/\K6 it.fs<=1183744:=by
 rcases h with⟨_,ht,hf⟩|⟨_,ht,_,_,hl,hf⟩
 ·rw[hf];exact⟨ht,by simp,by simp[K6]⟩
 ·refine⟨by rw[ht];decide,hl,?_⟩
  have:∀fs:Fs,(∀f∈fs,f.1.size<=512/\f.2.size<=4096)->K6 fs<=fs.length*4624:=by
   intro fs
   induction fs with
   |nil=>intro _;simp[K6]
   |cons f fs ih=>
    intro h
    have h1:=h f (List.mem_cons_self ..);have h2:=ih fun g hg=>h g (List.mem_cons_of_mem _ hg)
    simp only[K6,List.map_cons,List.sum_cons,List.length_cons] at h2⊢;omega
  have:=this it.fs hf
  omega
theorem Jj3 {sl:Hp} {v:Value} {key:ByteArray} (hS:J3 w0 [] w (sl++r)) (hG:J17 w0) (hat:Jj v it.fs sl) (hr:J0e it) (hk:key.size<=1099511627776):
 Calls Tryz.prog 144 #[.string key,J6 it.kind it.text v] w fun e w'=>e= .returned (.int .i64 (J24 key it:Nat))/\J3 w0 [] w' (sl++r):=by
 obtain⟨h1,h2,h3⟩:=J77 hr
 obtain⟨kind,text,fs⟩:=it
 rcases hr with⟨hkd,ht,hf⟩|⟨hkd,ht,hrise,h4,h5,hf⟩
 ·simp only at hkd ht hf hat h1⊢
  subst hkd hf;exact Jpu hS hG hk (by omega)
 ·simp only at hkd ht hrise h4 h5 hf hat h3⊢
  subst hkd ht;have e:J24 key ⟨2,ByteArray.empty,fs⟩=48+key.size+K6 fs:=by simp[J24]
  rw[e];exact Jpt (by decide) hS hat hk (by omega) (by omega)
theorem Jfp {n bud:Nat} {S:St} {key:ByteArray} (hS:J3 w0 [] w (m.hp sb n bud++r)) (hG:J17 w0) (hs:m.ss[i]? =some s) (hat:Jj s.v s.it.fs s.hp) (hr:J0e s.it) (hk:key.size<=1099511627776):
 Calls Tryz.prog 144 #[.string key,J6 s.it.kind s.it.text s.v] w fun e w'=>e= .returned (.int .i64 (J24 key s.it:Nat))/\J3 w0 [] w' (m.hp sb n bud++r):=by
 have hp:(m.hp sb n bud++r).Perm (s.hp++((sb,J1i m n bud)::(m.tl++(m.rl++(m.xl++(m.shp++(m.fhp++(m.vhp++(J06 (m.ss.set i J0c)++r))))))))):=J5 fun f=>by
  rw[J1d,J4d m.ss i s hs f];simp only[List.map_append,List.sum_append,List.map_cons,List.sum_cons,List.cons_append];omega
 refine(Jj3 (hS.permR hp) hG hat hr hk).mono ?_
 rintro e w' ⟨he,hS'⟩;exact⟨he,hS'.permR hp.symm⟩
theorem J7a {n bud:Nat} (ho:Own w (m.hp sb n bud++r)) (hsl:SliceHp 3 59 m.sv m.ss.length (Jr m.ss) m.shp) (hs:m.ss[i]? =some s):
 ∃g c rest,m.sv= .slice (some ⟨g,0,none⟩) m.ss.length c/\m.ss.length<=c/\c<=maxLen/\m.shp=[(g,.cells (Jr m.ss++rest).toArray 59 (0,0))]/\rest.length=(c - m.ss.length)*3/\w.heap[g]? =some (.cells (Jr m.ss++rest).toArray 59 (0,0))/\
  w.cell? ⟨g,i*3,none⟩=some (.int .i64 s.it.kind)/\w.cell? ⟨g,i*3+1,none⟩=some (.string s.it.text)/\w.cell? ⟨g,i*3+2,none⟩=some s.v:=by
 have hi:=(List.getElem?_eq_some_iff.1 hs).1;obtain⟨g,cap,rest,hv,hc,hc2,hl,hrest⟩:=hsl.view (by omega)
 have hb:w.heap[g]? =some (.cells (Jr m.ss++rest).toArray 59 (0,0)):=by
  refine ho.at_ (g,_) ?_;simp[SM.hp,SM.rest,hl]
 have hcs:=J67 m.ss i s hs;have hlen:=J2s m.ss;refine⟨g,cap,rest,hv,hc,hc2,hl,hrest,hb,?_,?_,?_⟩
 ·rw[J2 hb,List.getElem?_toArray,List.getElem?_append_left (by omega),hcs.1]
 ·rw[J2 hb,List.getElem?_toArray,List.getElem?_append_left (by omega),hcs.2.1]
 ·rw[J2 hb,List.getElem?_toArray,List.getElem?_append_left (by omega),hcs.2.2]
theorem J0w {n bud c:Nat} {rest:List Value} (hS:J3 w0 l w (m.hp sb n bud++r)) (hsv:m.sv= .slice (some ⟨g,0,none⟩) m.ss.length c)
 (hshp:m.shp=[(g,.cells (Jr m.ss++rest).toArray 59 (0,0))]) (hs:m.ss[i]? =some s):
  w.cell? ⟨sb,5,none⟩=some (.int .i64 n)/\w.cell? ⟨sb,1,none⟩=some (.slice (some ⟨g,0,none⟩) m.ss.length c)/\
   w.cell? ⟨g,i*3,none⟩=some (.int .i64 s.it.kind)/\w.cell? ⟨g,i*3+1,none⟩=some (.string s.it.text)/\w.cell? ⟨g,i*3+2,none⟩=some s.v/\w.frozen? ⟨sb,5,none⟩=false/\Hid (J3 w0 l w (m.hp sb n bud++r)):=by
  obtain⟨_,c1,_,_,_,c5,_,_,fz⟩:=K1 hS.own
  have hb:w.heap[g]? =some (.cells (Jr m.ss++rest).toArray 59 (0,0)):=by
   refine hS.own.at_ (g,_) ?_;simp[SM.hp,SM.rest,hshp]
  have hi:=(List.getElem?_eq_some_iff.1 hs).1;have hcs:=J67 m.ss i s hs;have hlen:=J2s m.ss;refine⟨c5,by rw[c1,hsv],?_,?_,?_,fz 5,hid hS⟩
  ·rw[J2 hb,List.getElem?_toArray,List.getElem?_append_left (by omega),hcs.1]
  ·rw[J2 hb,List.getElem?_toArray,List.getElem?_append_left (by omega),hcs.2.1]
  ·rw[J2 hb,List.getElem?_toArray,List.getElem?_append_left (by omega),hcs.2.2]
theorem Ja1 {n bud:Nat} {rest:List Value} (hS:J3 w0 l w (m.hp sb n bud++r)) (hshp:m.shp=[(g,.cells (Jr m.ss++rest).toArray 59 (0,0))]):
 (∀j,w.frozen? ⟨g,j,none⟩=false)/\¬g=sb/\¬sb=g/\g<w.heap.size/\sb<w.heap.size:=by
 have hb:w.heap[g]? =some (.cells (Jr m.ss++rest).toArray 59 (0,0)):=by
  refine hS.own.at_ (g,_) ?_;simp[SM.hp,SM.rest,hshp]
 have hnd:=hS.own.nd;simp only[SM.hp,SM.rest,hshp,List.cons_append,List.append_assoc,J0y,J1h,List.nodup_cons,List.mem_append,List.mem_cons,not_or] at hnd;exact⟨fun j=>Jg hb j,fun e=>hnd.1.2.2.2.1 e.symm,hnd.1.2.2.2.1,Jf hb,Jf hS.own.left.head⟩
theorem SM.setBytes {n bud:Nat} (hS:J3 w0 l w (m.hp sb n bud++r)) (n':Nat):J3 w0 l (w.setCell ⟨sb,5,none⟩ (.int .i64 n')) (m.hp sb n' bud++r):=by
 have h:J3 w0 l w ((sb,J1i m n bud)::(m.rest++r)):=hS;exact h.set 5 (.int .i64 n')
theorem Jni (ss:List J4a) (rest:List Value) (i:Nat) (s:J4a) (hi:i<ss.length):
 (((Jr ss++rest).toArray.setIfInBounds (i*3) (.int .i64 s.it.kind)).setIfInBounds (i*3+1) (.string s.it.text)).setIfInBounds (i*3+2) s.v=(Jr (ss.set i s)++rest).toArray:=by
 have hlen:=J2s ss;rw[J8d];simp only[List.setIfInBounds_toArray];rw[List.set_append_left _ _ (by omega),List.set_append_left _ _ (by rw[List.length_set];omega),List.set_append_left _ _ (by rw[List.length_set,List.length_set];omega)]
theorem SM.setSlot {n bud c:Nat} {rest:List Value} (s':J4a) (hS:J3 w0 l w (m.hp sb n bud++(s'.hp++r))) (hsv:m.sv= .slice (some ⟨g,0,none⟩) m.ss.length c)
 (hshp:m.shp=[(g,.cells (Jr m.ss++rest).toArray 59 (0,0))]) (hs:m.ss[i]? =some s):
  J3 w0 l (((w.setCell ⟨g,i*3,none⟩ (.int .i64 s'.it.kind)).setCell ⟨g,i*3+1,none⟩ (.string s'.it.text)).setCell ⟨g,i*3+2,none⟩ s'.v)
   ({m with shp:=[(g,.cells (Jr (m.ss.set i s')++rest).toArray 59 (0,0))],ss:=m.ss.set i s'}.hp sb n bud++r):=by
  have hi:=(List.getElem?_eq_some_iff.1 hs).1;have h1:=hS.pick (l2:=(g,.cells (Jr m.ss++rest).toArray 59 (0,0))::((sb,J1i m n bud)::(m.tl++(m.rl++(m.xl++(m.fhp++(m.vhp++(s'.hp++(J06 (m.ss.set i J0c)++r))))))))) (m:=s.hp) (J5 fun f=>by
   rw[J1d,J4d m.ss i s hs f,hshp];simp only[List.map_append,List.sum_append,List.map_cons,List.sum_cons,List.cons_append,List.map_nil,List.sum_nil];omega)
  have h2:=((h1.set (i*3) (.int .i64 s'.it.kind)).set (i*3+1) (.string s'.it.text)).set (i*3+2) s'.v;rw[Jni _ _ _ _ hi] at h2;refine h2.permR (J5 fun f=>?_)
  rw[J1d,Jky m.ss i s' hi f];simp only[List.map_append,List.sum_append,List.map_cons,List.sum_cons,List.cons_append,List.map_nil,List.sum_nil];show _=f (sb,J1i m n bud)+_+_+_+_+_+_+_+_
  omega
theorem Joo:(Tryz.prog.info? 3).map (fun i=>(i.zero,i.size,i.bytes))=some (some (.int .i64 0),1,8):=by kernel_rfl
theorem SM.pushFree {n bud:Nat} (hS:J3 w0 l w (m.hp sb n bud++r)) (hfr:SliceHp 1 3 m.fv m.fr.length (J1p m.fr) m.fhp) (hB:m.fr.length<=68719476736):
 ∃a c w2 fhp',(Builtin.append_ #[52,52] 52 #[m.fv,.slice (some ⟨w.heap.size,0,none⟩) 1 1]).run Tryz.prog (w.alloc (.cells #[.int .i64 i] 3))= .ok (.slice a (m.fr.length+1) c) w2/\
  SliceHp 1 3 (.slice a (m.fr.length+1) c) (m.fr.length+1) (J1p (m.fr++[i])) fhp'/\
  Jh3 w2 sb m n bud/\sb<w2.heap.size/\
  J3 w0 l (w2.setCell ⟨sb,2,none⟩ (.slice a (m.fr.length+1) c)) ({m with fv:=.slice a (m.fr.length+1) c,fhp:=fhp',fr:=m.fr++[i]}.hp sb n bud++r):=by
 have S1:=hS.alloc (.cells #[.int .i64 i] 3);have hvb:=S1.own.head;have S2:=S1.permR (l2:=m.fhp++((w.heap.size,.cells #[.int .i64 i] 3 (0,0))::(sb,J1i m n bud)::(m.tl++(m.rl++(m.xl++(m.shp++(m.vhp++(J06 m.ss++r)))))))) (J5 fun f=>by
  simp only[SM.hp,SM.rest,List.map_append,List.sum_append,List.map_cons,List.sum_cons,List.cons_append];omega)
 obtain⟨v',w2,sl',hrun,hsl',S3,_⟩:=J1f (P:=Tryz.prog) (ty:=52) Tryz.underlying52 Tryz.underlying52 Joo rfl (by decide) S2 hfr
  ⟨w.heap.size,0,none⟩ 1 1 [.int .i64 i] rfl (by
   intro j u hu
   rw[J0i,J2 hvb];simpa using hu) (by simp[Value.oneCell']) (by omega) (by omega) (by unfold maxLen;omega)
 obtain⟨a',c',rfl,_,_⟩:=hsl'.form
 have hb3:=S3.own.right.tail.head;have S4:=(S3.pick (l2:=(sb,J1i m n bud)::(sl'++(m.tl++(m.rl++(m.xl++(m.shp++(m.vhp++(J06 m.ss++r)))))))) (m:=[(w.heap.size,.cells #[.int .i64 i] 3 (0,0))]) (J5 fun f=>by
  simp only[List.map_append,List.sum_append,List.map_cons,List.sum_cons,List.cons_append,List.map_nil,List.sum_nil];omega)).set 2 (.slice a' (m.fr.length+1) c')
 refine⟨a',c',w2,sl',hrun,by simpa[J1p] using hsl',⟨J2 hb3 0,J2 hb3 1,J2 hb3 2,J2 hb3 3,J2 hb3 4,J2 hb3 5,J2 hb3 6,J2 hb3 7,fun j=>Jg hb3 j⟩,Jf hb3,S4.permR (J5 fun f=>?_)⟩
 rw[J1d];simp only[List.map_append,List.sum_append,List.map_cons,List.sum_cons,List.cons_append,List.map_nil,List.sum_nil];show f (sb,J1i {m with fv:=.slice a' (m.fr.length+1) c',fhp:=sl',fr:=m.fr++[i]} n bud)+_=_
 omega
def Jdo (w0:World) (r:Hp) (sb:Nat) (S:St) (key:ByteArray) (e:Ending) (w':World):Prop:=
 e= .returned (.bool (Je S.L key).isSome)/\∃l',Jh l' sb (if(Je S.L key).isSome then {S with L:=K3 S.L key,D:=K3 S.D key} else S)/\J3 w0 [] w' (l'++r)
theorem SM.stepT {tl':Hp} {n bud:Nat} {M':KV} (hS:J3 w0 l w (m.hp sb n bud++r)) (k:J3 w m.tl w' tl'):J3 w0 l w' ({m with tl:=tl',M:=M'}.hp sb n bud++r):=
 hS.turn (B:=(sb,J1i m n bud)::(m.rl++(m.xl++(m.shp++(m.fhp++(m.vhp++(J06 m.ss++r))))))) (fun f=>by
  rw[J1d];simp only[SC];omega) k (fun f=>by
  rw[J1d];simp only[SC];show f (sb,J1i m n bud)+_+_+_+_+_+_+_+_=_
  omega)
theorem SM.stepR {rl':Hp} {n bud:Nat} (hS:J3 w0 l w (m.hp sb n bud++r)) (k:J3 w m.rl w' rl'):J3 w0 l w' ({m with rl:=rl'}.hp sb n bud++r):=
 hS.turn (B:=(sb,J1i m n bud)::(m.tl++(m.xl++(m.shp++(m.fhp++(m.vhp++(J06 m.ss++r))))))) (fun f=>by
  rw[J1d];simp only[SC];omega) k (fun f=>by
  rw[J1d];simp only[SC];show f (sb,J1i m n bud)+_+_+_+_+_+_+_+_=_
  omega)
theorem SM.stepX {xl':Hp} {n bud:Nat} (hS:J3 w0 l w (m.hp sb n bud++r)) (k:J3 w m.xl w' xl'):J3 w0 l w' ({m with xl:=xl'}.hp sb n bud++r):=
 hS.turn (B:=(sb,J1i m n bud)::(m.tl++(m.rl++(m.shp++(m.fhp++(m.vhp++(J06 m.ss++r))))))) (fun f=>by
  rw[J1d];simp only[SC];omega) k (fun f=>by
  rw[J1d];simp only[SC];show f (sb,J1i m n bud)+_+_+_+_+_+_+_+_=_
  omega)
theorem SM.ownT {n bud:Nat} (h:Own w (m.hp sb n bud++r)):Own w m.tl:=by
 refine(h.perm (l':=m.tl++((sb,J1i m n bud)::(m.rl++(m.xl++(m.shp++(m.fhp++(m.vhp++(J06 m.ss++r)))))))) (J5 fun f=>?_)).left
 rw[J1d];simp only[SC];omega
theorem SM.ownR {n bud:Nat} (h:Own w (m.hp sb n bud++r)):Own w m.rl:=by
 refine(h.perm (l':=m.rl++((sb,J1i m n bud)::(m.tl++(m.xl++(m.shp++(m.fhp++(m.vhp++(J06 m.ss++r)))))))) (J5 fun f=>?_)).left
 rw[J1d];simp only[SC];omega
theorem SM.ownX {n bud:Nat} (h:Own w (m.hp sb n bud++r)):Own w m.xl:=by
 refine(h.perm (l':=m.xl++((sb,J1i m n bud)::(m.tl++(m.rl++(m.shp++(m.fhp++(m.vhp++(J06 m.ss++r)))))))) (J5 fun f=>?_)).left
 rw[J1d];simp only[SC];omega
theorem Je2 (h:m.Ok S) (hf:Fit S):∀k∈m.M.map Prod.fst,k.size<=maxLen:=fun k hk=>by
 obtain⟨p,hp,rfl⟩:=List.mem_map.1 ((h.mkeys k).1 hk)
 have:=(hf.key p hp).1
 unfold maxLen;omega
theorem Jve (hS:J3 w0 [] w (l++r)) (hG:J17 w0) (hX:Jh l sb S) (key:ByteArray) (hk:key.size<=1099511627776):
 Calls Tryz.prog 165 #[ptr sb,.string key] w (Jdo w0 r sb S key):=by
 obtain⟨m,rfl,hok,hf⟩:=hX
 have hdrop:=hid (Js0 m.tl m.tb m.M key w hok.tab (Je2 hok hf) (by unfold maxLen;omega) (SM.ownT hS.own))
 have c0:=(K1 hS.own).c0;cases hl:look m.M key with
 |none=>
  have hn:=hok.lost hl;have hfin:Hid (∀w' tl',K5 tl' m.tb (J07 m.M key) 0->J3 w m.tl w' tl'->Jdo w0 r sb S key (.returned (.bool false)) w'):=by
   intro w' tl' hT' k
   refine⟨by rw[hn];rfl,{m with tl:=tl'}.hp sb (Jd S.L) S.bud,?_,SM.stepT (M':=m.M) hS k⟩
   rw[hn];rw[J7d hl] at hT';exact⟨{m with tl:=tl'},rfl,⟨hT',hok.rcn,hok.exp,hok.slots,hok.free,hok.evs,hok.cells,hok.num,hok.holds,hok.all,hok.each,hok.few⟩,hf⟩
  replace hl:=hid hl;clear hS hok hf hn;go_enter Tryz.func165,Tryz.ntmps165;go_wp2_with fail;refine hdrop.out.mono ?_;rintro e w1 ⟨rfl,tl',hT',ST⟩;have hdone:=hid (hfin.out w1 tl' hT' ST);clear hdrop hT' ST hfin;simp only[hl.out,Option.getD_none,Option.isSome_none];go_wp2_with fail;go_ret;exact hdone.out
 |some i=>
  obtain⟨c,s,hc,rfl,rfl,hs,hsi,hml⟩:=hok.found hf hl
  have hi:=(List.getElem?_eq_some_iff.1 hs).1;have hbs:=Jdq hf.nd hml;have hsm:=(List.getElem?_eq_some_iff.1 hs).2;have hrt:J0e s.it:=by rw[hsi];exact(hf.key _ (J0v hml)).2
  have hat:=hok.each s (List.mem_of_getElem? hs);replace hl:=hid hl;go_enter Tryz.func165,Tryz.ntmps165;go_wp2_with fail;refine hdrop.out.mono ?_;rintro e w1 ⟨rfl,tl',hT',ST⟩;simp only[hl.out,Option.getD_some,Option.isSome_some];have S1:=SM.stepT (M':=J07 m.M c.key) hS ST;obtain⟨m1,hm1⟩:∃m1:SM,m1={m with tl:=tl',M:=J07 m.M c.key}:=⟨_,rfl⟩
  rw[<-hm1] at S1;have hs1:m1.ss[c.at_]? =some s:=by rw[hm1];exact hs
  have hi1:c.at_<m1.ss.length:=by rw[hm1];exact hi
  have hsl1:SliceHp 3 59 m1.sv m1.ss.length (Jr m1.ss) m1.shp:=by rw[hm1];exact hok.slots
  have hfew:m1.ss.length<=68719476736:=by rw[hm1];exact hok.few
  obtain⟨g,cap,rest,hsv,hc1,hc2,hshp,hrest,hgb,_,_,_⟩:=J7a S1.own hsl1 hs1
  have hcost:∀w':World,J3 w0 [] w' (m1.hp sb (Jd S.L) S.bud++r)->_:=fun _ h=>Jfp (S:=S) (key:=c.key) h hG hs1 hat hrt hk
  replace hcost:=hid hcost;replace hm1:=hid hm1;replace hs:=hid hs;replace hs1:=hid hs1;replace hsv:=hid hsv;replace hshp:=hid hshp;replace hgb:=hid hgb;replace hml:=hid hml;replace hsi:=hid hsi;replace hbs:=hid hbs;replace S1:=hid S1;replace hS:=hid hS;replace hat:=hid hat;have hrest':=hid hrest;replace hT':=hid hT';clear hdrop ST hsm hrest hsl1 hi c0;unfold J6 at hcost;have hnew:Hid ((Jd S.L:Int) - (J24 c.key s.it:Nat)=(Jd (K3 S.L c.key):Nat)):=hid (by rw[hsi.out,hbs.out];omega)
  have hlt1:Jd S.L<=2000000000000:=hf.le;have hlt2:J24 c.key s.it<=2000000000000:=by rw[hsi.out];have:=hbs.out;omega
  go_wp2_with fail;have c5:∀p:InW w0 [] (m1.hp sb (Jd S.L) S.bud++r),p.w.cell? ⟨sb,5,none⟩=some (.int .i64 (Jd S.L:Nat)):=fun p=>(J0w p.h hsv.out hshp.out hs1.out).1
  have c1:∀p:InW w0 [] (m1.hp sb (Jd S.L) S.bud++r),p.w.cell? ⟨sb,1,none⟩=some (.slice (some ⟨g,0,none⟩) m1.ss.length cap):=fun p=>(J0w p.h hsv.out hshp.out hs1.out).2.1
  have x0:∀p:InW w0 [] (m1.hp sb (Jd S.L) S.bud++r),p.w.cell? ⟨g,c.at_*3,none⟩=some (.int .i64 s.it.kind):=fun p=>(J0w p.h hsv.out hshp.out hs1.out).2.2.1
  have x1:∀p:InW w0 [] (m1.hp sb (Jd S.L) S.bud++r),p.w.cell? ⟨g,c.at_*3+1,none⟩=some (.string s.it.text):=fun p=>(J0w p.h hsv.out hshp.out hs1.out).2.2.2.1
  have x2:∀p:InW w0 [] (m1.hp sb (Jd S.L) S.bud++r),p.w.cell? ⟨g,c.at_*3+2,none⟩=some s.v:=fun p=>(J0w p.h hsv.out hshp.out hs1.out).2.2.2.2.1
  refine Jq 16 S1.out (by kernel_rfl) (by kernel_rfl) (fun hne=>?_)
  simp only[List.take_succ_cons,List.take_zero,List.drop_succ_cons,List.drop_zero];repeat (go_big_quiet_step ((go_at_call 144;refine Calls.inw (hcost.out _ (InW.h _)))))
  refine J04 fun w2 S2=>?_
  clear c5 c1 x0 x1 x2 hne;obtain⟨c5,c1,x0,x1,x2,_⟩:=J0w S2 hsv.out hshp.out hs1.out
  have fz:=(K1 S2.own).fz;have S3:=SM.setBytes S2 (Jd (K3 S.L c.key));obtain⟨fg,hg1,hg2,hgl,hsl⟩:=Ja1 S2 hshp.out
  have S4:=SM.setSlot J0c (S3.permR (List.Perm.refl _)) hsv.out hshp.out hs1.out;have hfr1:SliceHp 1 3 m1.fv m1.fr.length (J1p m1.fr) m1.fhp:=by rw[hm1.out];exact hok.free
  have hfl:m1.fr.length<=68719476736:=by
   have h1:=hok.all.length_eq;have h2:=hok.few;rw[List.length_append,List.length_range] at h1;rw[hm1.out];show m.fr.length<=_;omega
  obtain⟨a,cf,w5,fhp',hrun,hfr2,hc5,hsl5,S5⟩:=SM.pushFree (i:=c.at_) S4 hfr1 hfl
  have d2:=hc5.c2;have d3:=hc5.c3;have d4:=hc5.c4;have fz5:=hc5.fz;obtain⟨af,nf,hfv⟩:∃a c,m1.fv= .slice a m1.fr.length c:=by obtain⟨a,c,h,_⟩:=hfr1.form;exact⟨a,c,h⟩
  have c2:w2.cell? ⟨sb,2,none⟩=some (.slice af m1.fr.length nf):=by have:=(K1 S2.own).c2;rwa[hfv] at this
  simp only[hfv,J0c,Jc,World.size_setCell] at hrun d2 S5;rw[hnew.out];replace hrun:=hid hrun;replace S5:=hid S5;replace hfr2:=hid hfr2;replace hfv:=hid hfv;replace hfr1:=hid hfr1;replace hok:=hid hok;replace hf:=hid hf;replace hG:=hid hG;replace hrt:=hid hrt;replace hfl:=hid hfl;replace hc2:=hid hc2;clear S2 S3 S4 hlt1 hlt2;go_wp2_with (at_builtin;go_must (refine J8 rfl _ _ 52 52 rfl (.slice af m1.fr.length nf) (.slice (some ⟨w2.heap.size,0,none⟩) 1 1) rfl rfl hrun.out ?_));have hR:Ko m1.rl m1.rb (m.cs.map J1l.key):=by rw[hm1.out];exact hok.out.rcn
  have hE:Kq m1.xl m1.xb S.D:=by rw[hm1.out];exact hok.out.exp
  have hD:S.D.length<=1099511627776:=by have:=hf.out.fewD;have:=hf.out.few;omega
  obtain⟨m5,hm5,S5'⟩:∃m5:SM,m5={m1 with shp:=[(g,.cells (Jr (m1.ss.set c.at_ J0c)++rest).toArray 59 (0,0))],ss:=m1.ss.set c.at_ J0c,fv:=.slice a (m1.fr.length+1) cf,fhp:=fhp',fr:=m1.fr++[c.at_]}/\J3 w0 [] (w5.setCell ⟨sb,2,none⟩ (.slice a (m1.fr.length+1) cf)) (m5.hp sb (Jd (K3 S.L c.key)) S.bud++r):=⟨_,rfl,S5.out⟩
  have e5r:m5.rl=m1.rl:=by rw[hm5]
  have e5b:m5.rb=m1.rb:=by rw[hm5]
  have e5x:m5.xl=m1.xl:=by rw[hm5]
  have e5y:m5.xb=m1.xb:=by rw[hm5]
  have hrd:=Jrk m5.rl m5.rb (m.cs.map J1l.key) c.key _ (by rw[e5r,e5b];exact hR) (SM.ownR S5'.own)
  rw[e5b] at hrd;refine hrd.mono ?_;rintro e w6 ⟨rfl,rl',hR6,ST6⟩;have S6:=SM.stepR S5' ST6;have hed:=hid (Jb3 m5.xl m5.xb S.D c.key w6 (by rw[e5x,e5y];exact hE) hD (SM.ownX (m:={m5 with rl:=rl'}) S6.own))
  have d4':=(K1 S6.own).c4;simp only[e5y] at d4' hed;replace S6:=hid S6;replace hR6:=hid hR6;replace hm5:=hid hm5;clear hrd ST6 S5' e5r e5b e5x e5y hE hR c5 c1 x0 x1 x2 c2 d2 d3 d4 fz5 hc5 fg fz;go_wp2_with fail;refine hed.out.mono ?_;rintro e w7 ⟨rfl,xl',hE7,ST7⟩;have S7:=SM.stepX (m:={m5 with rl:=rl'}) S6.out ST7
  have hokf:SM.Ok {m5 with rl:=rl',xl:=xl',cs:=J3u m.cs c.key} {S with L:=K3 S.L c.key,D:=K3 S.D c.key}:=by
   have h5:=hm5.out;have h1:=hm1.out;have e1:m1.ss=m.ss:=by rw[h1]
   have e2:m1.fr=m.fr:=by rw[h1]
   refine hok.out.gone hf.out hc hs.out ?_ ?_ ?_ ?_ ?_ ?_ ?_ rfl ?_ ?_
   ·show K5 m5.tl m5.tb _ 0
    rw[h5,h1];exact hT'.out
   ·show Ko rl' m5.rb _
    rw[h5];exact hR6.out
   ·show Kq xl' m5.xb _
    rw[h5];exact hE7
   ·show SliceHp 3 59 m5.sv m.ss.length _ m5.shp
    rw[h5,<-e1];show SliceHp 3 59 m1.sv m1.ss.length _ _
    rw[hsv.out];exact .laid g _ cap _ rest (by rw[J2s,List.length_set]) hrest'.out hc1 hc2.out
   ·show SliceHp 1 3 m5.fv _ _ m5.fhp
    rw[h5,<-e2];exact hfr2.out
   ·show SliceHp 2 41 m5.vv _ _ m5.vhp
    rw[h5,h1];exact hok.out.evs
   ·show m5.M=_
    rw[h5,h1]
   ·show m5.ss=_
    rw[h5,<-e1]
   ·show m5.fr=_
    rw[h5,<-e2]
  have hdone:Hid (Jdo w0 r sb S c.key (.returned (.bool true)) w7):=by
   refine⟨by rw[hml.out];rfl,_,?_,S7⟩
   rw[hml.out];exact⟨{m5 with rl:=rl',xl:=xl',cs:=J3u m.cs c.key},rfl,hokf,by have h:=hf.out.gone c.key 0;rw[J7y hml.out] at h;exact⟨h.nd,h.ends,h.dnd,h.key,h.bud,h.le⟩⟩
  clear S7 hokf hE7 ST7 hed d4';go_wp2_with fail;go_ret;exact hdone.out
def Jp (w0:World) (r:Hp) (sb:Nat) (S:St) (v:Value) (e:Ending) (w':World):Prop:=
 e= .returned v/\∃l',Jh l' sb S/\J3 w0 [] w' (l'++r)
theorem Jdc (hS:J3 w0 [] w (l++r)) (hX:Jh l sb S) (hev:S.ev.length<=4398046511104) (kind:Int) (key:ByteArray):
 Calls Tryz.prog 112 #[ptr sb,.int .i64 kind,.string key] w (Jp w0 r sb {S with ev:=S.ev++[(kind,key)]} (.tuple #[])):=by
 obtain⟨m,rfl,hok,hf⟩:=hX
 refine(Jlh hS hok.evs hev kind key).mono ?_
 rintro e w' ⟨rfl,vv',vhp',h1,h2⟩;refine⟨rfl,_,⟨{m with vv:=vv',vhp:=vhp'},rfl,⟨hok.tab,hok.rcn,hok.exp,hok.slots,hok.free,h1,hok.cells,hok.num,hok.holds,hok.all,hok.each,hok.few⟩,⟨hf.nd,hf.ends,hf.dnd,hf.key,hf.bud,hf.le⟩⟩,h2⟩
theorem Jag (hS:J3 w0 [] w (l++r)) (hG:J17 w0) (hX:Jh l sb S) (hev:S.ev.length<=4398046511104) (key:ByteArray) (hk:key.size<=1099511627776) (kind:Int):
 Calls Tryz.prog 109 #[ptr sb,.string key,.int .i64 kind] w (Jp w0 r sb (S.gone key kind) (.bool (Je S.L key).isSome)):=by
 have htake:=hid (Jve hS hG hX key hk);cases hl:Je S.L key with
 |none=>
  have hg:=hid (Jom (kind:=kind) hl);have hpost:Hid (∀w' l',Jh l' sb S->J3 w0 [] w' (l'++r)->Jp w0 r sb (S.gone key kind) (.bool false) (.returned (.bool false)) w'):=fun w' l' h1 h2=>by rw[hg.out];exact⟨rfl,l',h1,h2⟩
  replace hl:=hid hl;clear hS hX;go_enter Tryz.func109,Tryz.ntmps109;go_wp2_with fail;refine htake.out.mono ?_;rintro e w1 ⟨rfl,l',hX1,S1⟩;rw[hl.out] at hX1;have hdone:=hid (hpost.out w1 l' hX1 S1);simp only[hl.out,Option.isSome_none];clear htake hX1 S1 hpost;go_wp2_with fail;go_ret;exact hdone.out
 |some it=>
  have hg:=hid (J7y (kind:=kind) hl);have hpost:Hid (∀w' l',Jh l' sb {S with L:=K3 S.L key,D:=K3 S.D key,ev:=S.ev++[(kind,key)]}->J3 w0 [] w' (l'++r)->Jp w0 r sb (S.gone key kind) (.bool true) (.returned (.bool true)) w'):=fun w' l' h1 h2=>by rw[hg.out];exact⟨rfl,l',h1,h2⟩
  replace hl:=hid hl;clear hS hX;go_enter Tryz.func109,Tryz.ntmps109;go_wp2_with fail;refine htake.out.mono ?_;rintro e w1 ⟨rfl,l',hX1,S1⟩;rw[hl.out] at hX1;have htell:=hid (Jdc S1 hX1 hev kind key);simp only[hl.out,Option.isSome_some];clear htake hX1 S1;go_wp2_with fail;refine htell.out.mono ?_;rintro e w2 ⟨rfl,l2,hX2,S2⟩;have hdone:=hid (hpost.out w2 l2 hX2 S2);clear htell hX2 S2 hpost;go_wp2_with fail;go_ret;exact hdone.out
theorem Jh.expiry (ho:Own w (l++r)) (hX:Jh l sb S):∃m:SM,l=m.hp sb (Jd S.L) S.bud/\Kq m.xl m.xb S.D/\Own w m.xl/\w.cell? ⟨sb,4,none⟩=some (ptr m.xb):=by
 obtain⟨m,rfl,hok,hf⟩:=hX
 exact⟨m,rfl,hok.exp,SM.ownX ho,(K1 ho).c4⟩
theorem J6y (hS:J3 w0 [] w (l++r)) (hG:J17 w0) (hX:Jh l sb S) (hev:S.ev.length<=4398046511104) (key:ByteArray) (hk:key.size<=1099511627776) (now:Int):
 Calls Tryz.prog 68 #[ptr sb,.string key,.int .i64 now] w (Jp w0 r sb (S.due key now) (.tuple #[])):=by
 obtain⟨m,hm,hE,hoE,c4⟩:=hX.expiry hS.own
 have hget:=hid (Jjc m.xl m.xb S.D key w hE hoE);have hgone:=hid (Jag hS hG hX hev key hk 3);cases hl:Je S.D key with
 |none=>
  have hd:Hid (Jp w0 r sb (S.due key now) (.tuple #[]) (.returned (.tuple #[])) w):=by
   have e:S.due key now=S:=by simp[St.due,hl]
   rw[e];exact⟨rfl,l,hX,hS⟩
  replace hl:=hid hl;clear hS hX hm hE hoE hgone;go_enter Tryz.func68,Tryz.ntmps68;go_wp2_with fail;refine hget.out.mono ?_;rintro e w1 ⟨rfl,rfl⟩;simp only[hl.out,Option.getD_none,Option.isSome_none];go_wp2_with fail;go_end0
  exact hd.out
 |some t=>
  by_cases ht:t<=now
  ·have hd:Hid (S.due key now=S.gone key 3):=hid (by simp[St.due,hl,ht])
   replace hl:=hid hl;clear hS hX hm hE hoE;go_enter Tryz.func68,Tryz.ntmps68;go_wp2_with fail;refine hget.out.mono ?_;rintro e w1 ⟨rfl,rfl⟩;simp only[hl.out,Option.getD_some,Option.isSome_some];clear hget;go_wp2_with fail;refine hgone.out.mono ?_;rintro e w2 ⟨rfl,l2,hX2,S2⟩;replace hX2:=hid hX2;replace S2:=hid S2;clear hgone;go_wp2_with fail;go_end0
   rw[hd.out];exact⟨rfl,l2,hX2.out,S2.out⟩
  ·have hd:Hid (Jp w0 r sb (S.due key now) (.tuple #[]) (.returned (.tuple #[])) w):=by
    have e:S.due key now=S:=by simp[St.due,hl,ht]
    rw[e];exact⟨rfl,l,hX,hS⟩
   replace hl:=hid hl;clear hS hX hm hE hoE hgone;go_enter Tryz.func68,Tryz.ntmps68;go_wp2_with fail;refine hget.out.mono ?_;rintro e w1 ⟨rfl,rfl⟩;simp only[hl.out,Option.getD_some,Option.isSome_some];go_wp2_with fail;go_end0
   exact hd.out
inductive Jdn (w0:World) (r:Hp) (sb:Nat) (S:St) (key:ByteArray) (e:Ending) (w':World):Prop where
 |no (l':Hp) (hn:Je S.L key=none) (he:e= .returned (.tuple #[.int .i64 0,.bool false])) (hX:Jh l' sb S) (hS:J3 w0 [] w' (l'++r))
 |yes (m:SM) (c:J1l) (s:J4a) (hok:m.Ok S) (hf:Fit S) (hc:c∈m.cs) (hk:c.key=key) (hs:m.ss[c.at_]? =some s) (hi:s.it=c.it) (hl:Je S.L key=some c.it) (he:e= .returned (.tuple #[.int .i64 c.at_,.bool true])) (hS:J3 w0 [] w' (m.hp sb (Jd S.L) S.bud++r))
theorem Jex (hS:J3 w0 [] w (l++r)) (hG:J17 w0) (hX:Jh l sb S) (hev:S.ev.length<=4398046511104) (key:ByteArray) (hk:key.size<=1099511627776) (now:Int):
 Calls Tryz.prog 30 #[ptr sb,.string key,.int .i64 now] w (Jdn w0 r sb (S.due key now) key):=by
 have hdue:=hid (J6y hS hG hX hev key hk now);generalize S.due key now=S' at hdue⊢;clear hS hX hev;go_enter Tryz.func30,Tryz.ntmps30;go_wp2_with fail;refine hdue.out.mono ?_;rintro e w1 ⟨rfl,l1,⟨m,rfl,hok,hf⟩,S1⟩;have c0:=(K1 S1.own).c0;have hget:=hid (Jli m.tl m.tb m.M key w1 hok.tab (Je2 hok hf) (by unfold maxLen;omega) (SM.ownT S1.own))
 cases hl:look m.M key with
 |none=>
  have hn:=hok.lost hl;replace hl:=hid hl;have hfin:Hid (∀w' tl',K5 tl' m.tb m.M 4->J3 w1 m.tl w' tl'->Jdn w0 r sb S' key (.returned (.tuple #[.int .i64 0,.bool false])) w'):=fun w' tl' hT k=>
   .no ({m with tl:=tl'}.hp sb (Jd S'.L) S'.bud) hn rfl ⟨{m with tl:=tl'},rfl,⟨hT.weak (Nat.zero_le _),hok.rcn,hok.exp,hok.slots,hok.free,hok.evs,hok.cells,hok.num,hok.holds,hok.all,hok.each,hok.few⟩,hf⟩ (SM.stepT (M':=m.M) S1 k)
  clear S1 hok hf hn hdue;go_wp2_with fail;refine hget.out.mono ?_;rintro e w2 ⟨rfl,tl',hT,ST⟩;have hdone:=hid (hfin.out w2 tl' hT ST);simp only[hl.out,Option.getD_none,Option.isSome_none];clear hget hT ST hfin;go_wp2_with fail;go_ret2;exact hdone.out
 |some i=>
  obtain⟨c,s,hc,hck,rfl,hs,hsi,hml⟩:=hok.found hf hl
  replace hl:=hid hl;have hfin:Hid (∀w' tl',K5 tl' m.tb m.M 4->J3 w1 m.tl w' tl'->Jdn w0 r sb S' key (.returned (.tuple #[.int .i64 c.at_,.bool true])) w'):=fun w' tl' hT k=>
   .yes {m with tl:=tl'} c s ⟨hT.weak (Nat.zero_le _),hok.rcn,hok.exp,hok.slots,hok.free,hok.evs,hok.cells,hok.num,hok.holds,hok.all,hok.each,hok.few⟩ hf hc hck hs hsi hml rfl (SM.stepT (M':=m.M) S1 k)
  have hfw:=hok.few;have hil:=(List.getElem?_eq_some_iff.1 hs).1;clear S1 hok hf hml hdue hs hsi hck;go_wp2_with fail;refine hget.out.mono ?_;rintro e w2 ⟨rfl,tl',hT,ST⟩;have hdone:=hid (hfin.out w2 tl' hT ST);simp only[hl.out,Option.getD_some,Option.isSome_some];clear hget hT ST hfin;go_wp2_with fail;go_ret2;exact hdone.out
def J52 (w0:World) (r:Hp) (sb:Nat) (S:St) (o:Option Itm) (e:Ending) (w':World):Prop:=
 ∃v vl l',e= .returned (.tuple #[J6 (o.getD Jc).kind (o.getD Jc).text v,.bool o.isSome])/\Jj v (o.getD Jc).fs vl/\Jh l' sb S/\J3 w0 [] w' (l'++(vl++r))
theorem Jak (hS:J3 w0 [] w (l++r)) (hG:J17 w0) (hX:Jh l sb S) (hev:S.ev.length<=4398046511104) (key:ByteArray) (hk:key.size<=1099511627776) (now:Int):
 Calls Tryz.prog 13 #[ptr sb,.string key,.int .i64 now] w (J52 w0 r sb (S.due key now) (Je (S.due key now).L key)):=by
 have S1:=(hS.alloc (.cells #[.int .i64 0,.string ByteArray.empty,.slice none 0 0] 59)).permR (l2:=l++((w.heap.size,.cells #[.int .i64 0,.string ByteArray.empty,.slice none 0 0] 59 (0,0))::r)) List.perm_middle.symm;have hslot:=hid (Jex S1 hG hX hev key hk now);generalize S.due key now=S' at hslot⊢;generalize ho:Je S'.L key=o;replace ho:=hid ho;clear hS hX hev S1;go_enter Tryz.func13,Tryz.ntmps13;go_wp2_with fail;refine hslot.out.mono ?_;intro e w1 hP
 generalize w.heap.size=b at hP⊢;clear hslot;cases hP with
 |no l' hn he hX hS=>
  subst he;obtain rfl:o=none:=ho.out.symm.trans hn;have hd:=Jn hS.own.right.head;obtain⟨d0,d1,d2,f1⟩:=hd
  have S2:=hS.pick (l2:=(b,.cells #[.int .i64 0,.string ByteArray.empty,.slice none 0 0] 59 (0,0))::(l'++r)) (m:=[]) (J5 fun f=>by
   simp only[SC];omega)
  have S3:=(((S2.set 0 (.int .i64 0)).set 1 (.string ByteArray.empty)).set 2 (.slice none 0 0)).less (List.sublist_cons_self _ _);have hfin:Hid (J52 w0 r sb S' none (.returned (.tuple #[J6 0 ByteArray.empty (.slice none 0 0),.bool false])) _):=⟨.slice none 0 0,[],l',rfl,⟨.nil,fun _=>rfl⟩,hX,S3⟩
  clear hS S2 S3 hX hn;go_wp2_with fail;refine bodyPost_ret (v:=.tuple #[J6 0 ByteArray.empty (.slice none 0 0),.bool false]) (by simp[results,Tryz.results13,go_sem,J6, *];rfl) rfl ?_
  exact hfin.out
 |yes m c s hok hf hc hck hs hi hl he hS=>
  subst he;obtain rfl:o=some c.it:=ho.out.symm.trans hl;have hat:=hok.each s (List.mem_of_getElem? hs);have hrt:J0e s.it:=by rw[hi];exact(hf.key _ (J0v hl)).2
  have hB:=(J77 hrt).2.1;have hil:=(List.getElem?_eq_some_iff.1 hs).1;have hfw:=hok.few;obtain⟨a,cc,hv⟩:=hat.shape
  obtain⟨g,cap,rest,hsv,hc1,hc2,hshp,hrest,hgb,x0,x1,x2⟩:=J7a hS.own hok.slots hs
  rw[hv] at x2;have c1:w1.cell? ⟨sb,1,none⟩=some (.slice (some ⟨g,0,none⟩) m.ss.length cap):=by rw[<-hsv];exact(K1 hS.own).c1
  have hp:(m.hp sb (Jd S'.L) S'.bud++((b,.cells #[.int .i64 0,.string ByteArray.empty,.slice none 0 0] 59 (0,0))::r)).Perm (s.hp++((sb,J1i m (Jd S'.L) S'.bud)::(m.tl++(m.rl++(m.xl++(m.shp++(m.fhp++(m.vhp++(J06 (m.ss.set c.at_ J0c)++((b,.cells #[.int .i64 0,.string ByteArray.empty,.slice none 0 0] 59 (0,0))::r)))))))))):=J5 fun f=>by
   rw[J1d,J4d m.ss c.at_ s hs f];simp only[List.map_append,List.sum_append,List.map_cons,List.sum_cons,List.cons_append];omega
  have hcp:=J39 (kind:=s.it.kind) (text:=s.it.text) (hS.permR hp) hat (by omega)
  rw[hv] at hcp;unfold J6 at hcp;replace hcp:=hid hcp;replace hS:=hid hS;replace hsv:=hid hsv;replace hv:=hid hv;replace hs:=hid hs;replace hok:=hid hok;replace hf:=hid hf;replace hat:=hid hat;replace hi:=hid hi;replace hck:=hid hck;clear hrt hgb hl hrest hshp hG hc;unfold maxLen at hc2;go_wp2_with fail;refine hcp.out.mono ?_;rintro e w2 ⟨v',sl',rfl,hat2,S2⟩;obtain⟨a',c',rfl⟩:=hat2.shape
  clear hcp x0 x1 x2 c1;have S3:=S2.pick (l2:=(b,.cells #[.int .i64 0,.string ByteArray.empty,.slice none 0 0] 59 (0,0))::(m.hp sb (Jd S'.L) S'.bud++(sl'++r))) (m:=[]) (J5 fun f=>by
   simp only[SC];have h1:=J1d (m:=m) (sb:=sb) (n:=Jd S'.L) (bud:=S'.bud) (r:=[]) f;rw[J4d m.ss c.at_ s hs.out f,List.append_nil,List.map_nil,List.sum_nil] at h1;rw[h1];omega)
  obtain⟨d0,d1,d2,f1⟩:=Jn S3.own.head
  have S4:=(((S3.set 0 (.int .i64 s.it.kind)).set 1 (.string s.it.text)).set 2 (.slice a' s.it.fs.length c')).less (List.sublist_cons_self _ _);have hfin:Hid (∀W,J3 w0 [] W (m.hp sb (Jd S'.L) S'.bud++(sl'++r))->J52 w0 r sb S' (some c.it) (.returned (.tuple #[J6 s.it.kind s.it.text (.slice a' s.it.fs.length c'),.bool true])) W):=fun W hW=>by
   have e:=hi.out;rw[e] at hat2⊢;exact⟨.slice a' c.it.fs.length c',sl',_,rfl,hat2,⟨m,rfl,hok.out,hf.out⟩,hW⟩
  replace S4:=hid S4;clear S2 S3 hat2;go_wp2_with fail;refine bodyPost_ret (v:=.tuple #[J6 s.it.kind s.it.text (.slice a' s.it.fs.length c'),.bool true]) (by simp[results,Tryz.results13,go_sem,J6, *]) rfl ?_
  exact hfin.out _ S4.out
theorem SM.Ok.touch (h:m.Ok S) (hf:Fit S) {key:ByteArray} (hl:Je S.L key=some it) {rl':Hp} (hR:Ko rl' m.rb (J62 (m.cs.map J1l.key) key++[key])):
 ∃cs',SM.Ok {m with rl:=rl',cs:=cs'} (S.touch key):=by
 have hm:=J0v hl;rw[h.cells] at hm;obtain⟨c,hc,he⟩:=List.mem_map.1 hm
 simp only[Prod.mk.injEq] at he;obtain⟨rfl,rfl⟩:=he
 have hp:(J3u m.cs c.key++[c]).Perm m.cs:=List.perm_append_comm.trans (Ja8 (Jdt h hf) hc).symm;have e:S.touch c.key={S with L:=K3 S.L c.key++[(c.key,c.it)]}:=by simp[St.touch,hl]
 rw[e];refine⟨J3u m.cs c.key++[c],h.tab,?_,h.exp,h.slots,h.free,h.evs,?_,h.num.trans (hp.symm.map _),fun d hd=>h.holds d (hp.mem_iff.1 hd),?_,h.each,h.few⟩
 ·show Ko rl' m.rb ((J3u m.cs c.key++[c]).map J1l.key)
  rw[List.map_append,<-Je6];exact hR
 ·show K3 S.L c.key++[(c.key,c.it)]=_
  rw[h.cells,Jed];simp
 ·exact(List.Perm.append_left _ (hp.map _)).trans h.all
theorem Jjm (hS:J3 w0 [] w (l++r)) (hG:J17 w0) (hX:Jh l sb S) (hev:S.ev.length<=4398046511104) (key:ByteArray) (hk:key.size<=1099511627776) (now:Int):
 Calls Tryz.prog 39 #[ptr sb,.string key,.int .i64 now] w (J52 w0 r sb ((S.due key now).touch key) (Je (S.due key now).L key)):=by
 have S1:=(hS.alloc (.cells #[.int .i64 0,.string ByteArray.empty,.slice none 0 0] 59)).permR (l2:=l++((w.heap.size,.cells #[.int .i64 0,.string ByteArray.empty,.slice none 0 0] 59 (0,0))::r)) List.perm_middle.symm;have hpeek:=hid (Jak S1 hG hX hev key hk now);generalize S.due key now=S' at hpeek⊢;generalize ho:Je S'.L key=o at hpeek⊢;clear hS hX hev S1;go_enter Tryz.func39,Tryz.ntmps39;cases o with
 |none=>
  have ht:Hid (S'.touch key=S'):=hid (by simp[St.touch,ho])
  rw[ht.out];replace ho:=hid ho;go_wp2_with fail;refine hpeek.out.mono ?_;rintro e w1 ⟨v,vl,l',rfl,hat,hX1,S2⟩;generalize w.heap.size=b at S2⊢;obtain⟨a,c,rfl⟩:=hat.shape
  simp only[Option.getD_none,Jc,Option.isSome_none,List.length_nil] at hat⊢;have hown:=S2.own.right.right;obtain⟨d0,d1,d2,f1⟩:=Jn hown.head
  have hlt:=Jf hown.head;have hne:¬b=w1.heap.size:=by omega
  have S3:=S2.pick (l2:=(b,.cells #[.int .i64 0,.string ByteArray.empty,.slice none 0 0] 59 (0,0))::(l'++(vl++r))) (m:=[]) (J5 fun f=>by
   simp only[SC];omega)
  have S4:=hid (((((S3.set 0 (.int .i64 0)).set 1 (.string ByteArray.empty)).set 2 (.slice a 0 c)).alloc (.cells #[.int .i64 0,.string ByteArray.empty,.slice a 0 c] 59)).less ((List.sublist_cons_self _ _).trans (List.sublist_cons_self _ _)));have hfin:Hid (∀W,J3 w0 [] W (l'++(vl++r))->J52 w0 r sb S' none (.returned (.tuple #[J6 0 ByteArray.empty (.slice a 0 c),.bool false])) W):=fun W hW=>⟨.slice a 0 c,vl,l',rfl,hat,hX1,hW⟩
  unfold J6;clear S2 S3 hat hX1 hpeek hown;go_wp2_with fail;refine bodyPost_ret (v:=.tuple #[J6 0 ByteArray.empty (.slice a 0 c),.bool false]) (by simp[results,Tryz.results39,go_sem,J6, *]) rfl ?_
  exact hfin.out _ S4.out
 |some it=>
  replace ho:=hid ho;go_wp2_with fail;refine hpeek.out.mono ?_;rintro e w1 ⟨v,vl,l',rfl,hat,⟨m,rfl,hok,hf⟩,S2⟩;generalize w.heap.size=b at S2⊢;obtain⟨a,c,rfl⟩:=hat.shape
  simp only[Option.getD_some,Option.isSome_some] at hat⊢;unfold J6;have S3:=(S2.alloc (.cells #[.int .i64 it.kind,.string it.text,.slice a it.fs.length c] 59)).permR (l2:=m.hp sb (Jd S'.L) S'.bud++(vl++((w1.heap.size,.cells #[.int .i64 it.kind,.string it.text,.slice a it.fs.length c] 59 (0,0))::(b,.cells #[.int .i64 0,.string ByteArray.empty,.slice none 0 0] 59 (0,0))::r))) (J5 fun f=>by
   simp only[SC];omega)
  have c3:w1.cell? ⟨sb,3,none⟩=some (ptr m.rb):=(K1 S2.own).c3;have hsb:=Jf S2.own.left.head;have htouch:=hid (Jgn m.rl m.rb _ key _ hok.rcn (SM.ownR S3.own));replace S3:=hid S3;replace hok:=hid hok;replace hf:=hid hf;replace hat:=hid hat;clear S2 hpeek;go_wp2_with fail;refine htouch.out.mono ?_;rintro e w2 ⟨rfl,rl',hR,ST⟩;have S4:=SM.stepR S3.out ST;obtain⟨cs',hok'⟩:=hok.out.touch hf.out ho.out hR
  have hX2:Jh ({m with rl:=rl',cs:=cs'}.hp sb (Jd (S'.touch key).L) (S'.touch key).bud) sb (S'.touch key):=⟨_,rfl,hok',hf.out.touch key⟩
  have e1:Jd (S'.touch key).L=Jd S'.L:=by
   simp only[St.touch,ho.out];exact J6x (List.perm_append_comm.trans (J3i hf.out.nd ho.out).symm)
  rw[e1,Jbs] at hX2;have S5:=S4.pick (l2:=(w1.heap.size,.cells #[.int .i64 it.kind,.string it.text,.slice a it.fs.length c] 59 (0,0))::(b,.cells #[.int .i64 0,.string ByteArray.empty,.slice none 0 0] 59 (0,0))::({m with rl:=rl',cs:=cs'}.hp sb (Jd S'.L) S'.bud++(vl++r))) (m:=[]) (J5 fun f=>by
   simp only[SC];show(({m with rl:=rl'}.hp sb (Jd S'.L) S'.bud).map f).sum+_=_+(_+((({m with rl:=rl'}.hp sb (Jd S'.L) S'.bud).map f).sum+_))+0
   omega)
  obtain⟨x0,x1,x2,_⟩:=Jn S5.own.head
  obtain⟨d0,d1,d2,f1⟩:=Jn S5.own.tail.head
  have S6:=hid (((((S5.less (List.sublist_cons_self _ _)).set 0 (.int .i64 it.kind)).set 1 (.string it.text)).set 2 (.slice a it.fs.length c)).less (List.sublist_cons_self _ _));have hfin:Hid (∀W,J3 w0 [] W ({m with rl:=rl',cs:=cs'}.hp sb (Jd S'.L) S'.bud++(vl++r))->J52 w0 r sb (S'.touch key) (some it) (.returned (.tuple #[J6 it.kind it.text (.slice a it.fs.length c),.bool true])) W):=fun W hW=>⟨_,vl,_,rfl,hat.out,hX2,hW⟩
  clear S3 S4 S5 htouch hX2 hok' ST hR c3 e1;go_wp2_with fail;refine bodyPost_ret (v:=.tuple #[J6 it.kind it.text (.slice a it.fs.length c),.bool true]) (by simp[results,Tryz.results39,go_sem,J6, *]) rfl ?_
  exact hfin.out _ S6.out
end Go.Proofs.YtncbcaabanoeoaaGreatDoor
