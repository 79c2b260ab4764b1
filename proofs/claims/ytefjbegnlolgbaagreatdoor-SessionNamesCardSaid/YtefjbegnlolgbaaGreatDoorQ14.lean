/-
store: what a Store's parts are behind a key that goes.
-/
import Derived.WalkSpells
import Derived.Test.YtefjbegnlolgbaaGreatDoorQ13
set_option linter.unusedVariables false
set_option linter.unusedSimpArgs false
set_option maxRecDepth 100000
set_option maxHeartbeats 8000000
namespace Go.Proofs.YtefjbegnlolgbaaGreatDoor
open Go Go.RowKit
variable {k:ByteArray}{m:SM}{S:St}{i sb bud g:Nat}{c:J0t}{s:J2m}{w0 w w':World}{r l:Hp}
def J28 (cs:List J0t) (key:ByteArray):List J0t:=cs.filter fun c=>decide (c.key≠key)
theorem Jiq {M:KV} {n:Int} (h:look M k=some n):(k,n)∈M:=by
 simp only[look,Option.map_eq_some_iff] at h;obtain⟨p,hp,rfl⟩:=h
 have h1:=List.mem_of_find?_eq_some hp;have h2:=List.find?_some hp;simp only[decide_eq_true_eq] at h2;subst h2;exact h1
theorem SM.Ok.keys (h:m.Ok S):S.L.map Prod.fst=m.cs.map J0t.key:=by rw[h.cells];simp[Function.comp_def]
theorem SM.Ok.mkeys (h:m.Ok S) (k:ByteArray):k∈m.M.map Prod.fst ↔ k∈S.L.map Prod.fst:=by
 rw[h.keys,((h.num.map Prod.fst).mem_iff)];simp[Function.comp_def]
theorem SM.Ok.len (h:m.Ok S):m.M.length=S.L.length:=by rw[h.num.length_eq,h.cells];simp
theorem SM.Ok.lost (h:m.Ok S) (hk:look m.M k=none):J7 S.L k=none:=by
 cases hl:J7 S.L k with
 |none=>rfl
 |some it=>exact absurd ((h.mkeys k).2 (J75.1 (by rw[hl];rfl))) (J5g.1 hk)
theorem SM.Ok.found (h:m.Ok S) (hf:Fit S) {i:Int} (hk:look m.M k=some i):
 ∃c s,c∈m.cs/\c.key=k/\i=c.at_/\m.ss[c.at_]? =some s/\s.it=c.it/\J7 S.L k=some c.it:=by
 have hm:=(h.num.mem_iff).1 (Jiq hk);obtain⟨c,hc,he⟩:=List.mem_map.1 hm
 simp only[Prod.mk.injEq] at he;obtain⟨s,hs,hi⟩:=h.holds c hc
 refine⟨c,s,hc,he.1,he.2.symm,hs,hi,Jgm hf.nd ?_⟩
 rw[h.cells];exact List.mem_map.2 ⟨c,hc,by rw[he.1]⟩
theorem J8y (h:m.Ok S) (hf:Fit S):(m.cs.map J0t.key).Nodup:=by rw[<-h.keys];exact hf.nd
theorem Jcy (h:m.Ok S):(m.cs.map J0t.at_).Nodup:=
 (List.nodup_append.1 (h.all.nodup_iff.2 List.nodup_range)).2.1
theorem J6a {cs:List J0t} (hn:(cs.map J0t.key).Nodup) (hc:c∈cs):cs.Perm (c::J28 cs c.key):=by
 induction cs with
 |nil=>cases hc
 |cons d cs ih=>
  simp only[List.map_cons,List.nodup_cons] at hn;rcases List.mem_cons.1 hc with rfl|hc
  ·have:J28 (c::cs) c.key=cs:=by
    simp only[J28,List.filter_cons,ne_eq,not_true,decide_false,Bool.false_eq_true,if_false];rw[List.filter_eq_self];intro d hd
    have:d.key≠c.key:=fun e=>hn.1 (List.mem_map.2 ⟨d,hd,e⟩)
    simpa using this
   rw[this]
  ·have hne:d.key≠c.key:=fun e=>hn.1 (List.mem_map.2 ⟨c,hc,e.symm⟩)
   have:J28 (d::cs) c.key=d::J28 cs c.key:=by simp[J28,hne]
   rw[this];exact((ih hn.2 hc).cons d).trans (List.Perm.swap _ _ _)
theorem Jn0 {cs:List J0t} {d:J0t} (hn:(cs.map J0t.key).Nodup) (ha:(cs.map J0t.at_).Nodup) (hc:c∈cs) (hd:d∈J28 cs c.key):d.at_≠c.at_:=by
 have hp:=(J6a hn hc).map J0t.at_;have:=hp.nodup_iff.1 ha
 simp only[List.map_cons,List.nodup_cons] at this;exact fun e=>this.1 (e▸List.mem_map_of_mem hd)
theorem J9a (cs:List J0t) (k:ByteArray):J35 (cs.map J0t.key) k=(J28 cs k).map J0t.key:=by
 simp only[J35,J28,List.filter_map];rfl
theorem J9f (cs:List J0t) (k:ByteArray):Jk (cs.map fun c=>(c.key,c.it)) k=(J28 cs k).map fun c=>(c.key,c.it):=by
 simp only[Jk,J28,List.filter_map];rfl
theorem J81 (cs:List J0t) (k:ByteArray):Jz (cs.map fun c=>(c.key,(c.at_:Int))) k=(J28 cs k).map fun c=>(c.key,(c.at_:Int)):=by
 simp only[Jz,J28,List.filter_map];rfl
theorem J1g (ss:List J2m):(Jb ss).length=ss.length*3:=by
 induction ss with
 |nil=>rfl
 |cons s ss ih=>simp only[Jb,List.flatMap_cons,List.length_append,J7b,List.length_cons,List.length_nil] at ih⊢;omega
theorem J4j (s:J2m) (ss:List J2m):Jb (s::ss)= .int .i64 s.it.kind:: .string s.it.text::s.v::Jb ss:=rfl
theorem J3l:∀(ss:List J2m) (i:Nat) (s:J2m),ss[i]? =some s->(Jb ss)[i*3]? =some (.int .i64 s.it.kind)/\(Jb ss)[i*3+1]? =some (.string s.it.text)/\(Jb ss)[i*3+2]? =some s.v
 |[],i,s,h=>by simp at h
 |t::ss,0,s,h=>by simp at h;subst h;exact⟨rfl,rfl,rfl⟩
 |t::ss,i+1,s,h=>by
  have:=J3l ss i s (by simpa using h)
  rw[J4j];simpa only[show(i+1)*3=i*3+1+1+1 by omega,List.getElem?_cons_succ,show i*3+1+1+1+1=(i*3+1)+1+1+1 by omega,show i*3+1+1+1+2=(i*3+2)+1+1+1 by omega] using this
theorem J51:∀(ss:List J2m) (i:Nat) (s:J2m),Jb (ss.set i s)=(((Jb ss).set (i*3) (.int .i64 s.it.kind)).set (i*3+1) (.string s.it.text)).set (i*3+2) s.v
 |[],i,s=>rfl
 |t::ss,0,s=>rfl
 |t::ss,i+1,s=>by
  simp only[List.set_cons_succ,J4j,J51 ss i s,show(i+1)*3=i*3+1+1+1 by omega,show i*3+1+1+1+1=(i*3+1)+1+1+1 by omega,show i*3+1+1+1+2=(i*3+2)+1+1+1 by omega]
theorem J8a (ss:List J2m) (s:J2m):Jb (ss++[s])=Jb ss++J7b s:=by simp[Jb]
theorem J2k (ss:List J2m) (i:Nat) (s:J2m) (h:ss[i]? =some s) (f:Nat×Obj->Nat):((Ko ss).map f).sum=(s.hp.map f).sum+((Ko (ss.set i K5)).map f).sum:=by
 induction ss generalizing i with
 |nil=>simp at h
 |cons t ss ih=>
  cases i with
  |zero=>
   simp at h;subst h
   simp[Ko,K5]
  |succ i=>
   have:=ih i (by simpa using h)
   simp only[Ko,List.flatMap_cons,List.set_cons_succ,List.map_append,List.sum_append] at this⊢;omega
theorem Jdv (ss:List J2m) (i:Nat) (s:J2m) (hi:i<ss.length) (f:Nat×Obj->Nat):((Ko (ss.set i s)).map f).sum=(s.hp.map f).sum+((Ko (ss.set i K5)).map f).sum:=by
 have:=J2k (ss.set i s) i s (by simp[hi]) f
 rwa[List.set_set] at this
theorem SM.Ok.gone (h:m.Ok S) (hf:Fit S) (hc:c∈m.cs) (hs:m.ss[c.at_]? =some s) {m':SM}
 (htab:Jv m'.tl m'.tb (Jz m.M c.key) 0) (hrcn:Jj m'.rl m'.rb (J35 (m.cs.map J0t.key) c.key)) (hexp:K1 m'.xl m'.xb (Jk S.D c.key))
 (hslots:SliceHp 3 183 m'.sv m.ss.length (Jb (m.ss.set c.at_ K5)) m'.shp) (hfree:SliceHp 1 3 m'.fv (m.fr.length+1) (J0s (m.fr++[c.at_])) m'.fhp) (hevs:SliceHp 2 146 m'.vv S.ev.length (J1w S.ev) m'.vhp)
 (eM:m'.M=Jz m.M c.key) (ecs:m'.cs=J28 m.cs c.key) (ess:m'.ss=m.ss.set c.at_ K5) (efr:m'.fr=m.fr++[c.at_]):
  m'.Ok {S with L:=Jk S.L c.key,D:=Jk S.D c.key}:=by
  have hkn:=J8y h hf;have han:=Jcy h;have hi:=(List.getElem?_eq_some_iff.1 hs).1;refine⟨by rw[eM];exact htab,by rw[ecs,<-J9a];exact hrcn,hexp,by rw[ess,List.length_set];exact hslots,by rw[efr,List.length_append];exact hfree,hevs,?_,?_,?_,?_,?_,by rw[ess,List.length_set];exact h.few⟩
  ·rw[ecs,<-J9f,<-h.cells]
  ·rw[eM,ecs,<-J81]
   exact h.num.filter _
  ·intro d hd
   rw[ecs] at hd;obtain⟨t,ht,hte⟩:=h.holds d (List.mem_filter.1 hd).1
   refine⟨t,?_,hte⟩
   rw[ess,List.getElem?_set_ne (Ne.symm (Jn0 hkn han hc hd))];exact ht
  ·rw[efr,ecs,ess,List.length_set]
   refine List.Perm.trans ?_ h.all;rw[List.append_assoc];exact List.Perm.append_left _ (((J6a hkn hc).map J0t.at_).symm)
  ·intro t ht
   rw[ess] at ht;rcases List.mem_or_eq_of_mem_set ht with ht|rfl
   ·exact h.each t ht
   ·exact⟨.nil,fun _=>rfl⟩
theorem J4a {it:Itm} (h:J1c it):it.text.size<=4096/\it.fs.length<=256/\Jm it.fs<=1183744:=by
 rcases h with⟨_,ht,hf⟩|⟨_,ht,_,_,hl,hf⟩
 ·rw[hf];exact⟨ht,by simp,by simp[Jm]⟩
 ·refine⟨by rw[ht];decide,hl,?_⟩
  have:∀fs:Fs,(∀f∈fs,f.1.size<=512/\f.2.size<=4096)->Jm fs<=fs.length*4624:=by
   intro fs
   induction fs with
   |nil=>intro _;simp[Jm]
   |cons f fs ih=>
    intro h
    have h1:=h f (List.mem_cons_self ..);have h2:=ih fun g hg=>h g (List.mem_cons_of_mem _ hg)
    simp only[Jm,List.map_cons,List.sum_cons,List.length_cons] at h2⊢;omega
  have:=this it.fs hf
  omega
theorem Jcx {sl:Hp} {v:Value} {it:Itm} {key:ByteArray} (hS:J1 w0 [] w (sl++r)) (hG:J1q w0) (hat:Jq v it.fs sl) (hr:J1c it) (hk:key.size<=1099511627776):
 Calls Tryz.prog 219 #[.string key,J8 it.kind it.text v] w fun e w'=>e= .returned (.int .i64 (J0r key it:Nat))/\J1 w0 [] w' (sl++r):=by
 obtain⟨h1,h2,h3⟩:=J4a hr
 obtain⟨kind,text,fs⟩:=it
 rcases hr with⟨hkd,ht,hf⟩|⟨hkd,ht,hrise,h4,h5,hf⟩
 ·simp only at hkd ht hf hat h1⊢
  subst hkd hf;exact Jg8 hS hG hk (by omega)
 ·simp only at hkd ht hrise h4 h5 hf hat h3⊢
  subst hkd ht;have e:J0r key ⟨2,ByteArray.empty,fs⟩=48+key.size+Jm fs:=by simp[J0r]
  rw[e];exact Jg7 (by decide) hS hat hk (by omega) (by omega)
theorem Jae {n:Nat} {S:St} {key:ByteArray} (hS:J1 w0 [] w (m.hp sb n bud++r)) (hG:J1q w0) (hs:m.ss[i]? =some s) (hat:Jq s.v s.it.fs s.hp) (hr:J1c s.it) (hk:key.size<=1099511627776):
 Calls Tryz.prog 219 #[.string key,J8 s.it.kind s.it.text s.v] w fun e w'=>e= .returned (.int .i64 (J0r key s.it:Nat))/\J1 w0 [] w' (m.hp sb n bud++r):=by
 have hp:(m.hp sb n bud++r).Perm (s.hp++((sb,J0m m n bud)::(m.tl++(m.rl++(m.xl++(m.shp++(m.fhp++(m.vhp++(Ko (m.ss.set i K5)++r))))))))):=J2 fun f=>by
  rw[J0f,J2k m.ss i s hs f];simp only[List.map_append,List.sum_append,List.map_cons,List.sum_cons,List.cons_append];omega
 refine(Jcx (hS.permR hp) hG hat hr hk).mono ?_
 rintro e w' ⟨he,hS'⟩;exact⟨he,hS'.permR hp.symm⟩
theorem J4b {n:Nat} (ho:Own w (m.hp sb n bud++r)) (hsl:SliceHp 3 183 m.sv m.ss.length (Jb m.ss) m.shp) (hs:m.ss[i]? =some s):
 ∃g c rest,m.sv= .slice (some ⟨g,0,none⟩) m.ss.length c/\m.ss.length<=c/\c<=maxLen/\m.shp=[(g,.cells (Jb m.ss++rest).toArray 183 (0,0))]/\rest.length=(c - m.ss.length)*3/\w.heap[g]? =some (.cells (Jb m.ss++rest).toArray 183 (0,0))/\
  w.cell? ⟨g,i*3,none⟩=some (.int .i64 s.it.kind)/\w.cell? ⟨g,i*3+1,none⟩=some (.string s.it.text)/\w.cell? ⟨g,i*3+2,none⟩=some s.v:=by
 have hi:=(List.getElem?_eq_some_iff.1 hs).1;obtain⟨g,cap,rest,hv,hc,hc2,hl,hrest⟩:=hsl.view (by omega)
 have hb:w.heap[g]? =some (.cells (Jb m.ss++rest).toArray 183 (0,0)):=by
  refine ho.at_ (g,_) ?_;simp[SM.hp,SM.rest,hl]
 have hcs:=J3l m.ss i s hs;have hlen:=J1g m.ss;refine⟨g,cap,rest,hv,hc,hc2,hl,hrest,hb,?_,?_,?_⟩
 ·rw[J0 hb,List.getElem?_toArray,List.getElem?_append_left (by omega),hcs.1]
 ·rw[J0 hb,List.getElem?_toArray,List.getElem?_append_left (by omega),hcs.2.1]
 ·rw[J0 hb,List.getElem?_toArray,List.getElem?_append_left (by omega),hcs.2.2]
theorem J02 {n c:Nat} {rest:List Value} (hS:J1 w0 l w (m.hp sb n bud++r)) (hsv:m.sv= .slice (some ⟨g,0,none⟩) m.ss.length c)
 (hshp:m.shp=[(g,.cells (Jb m.ss++rest).toArray 183 (0,0))]) (hs:m.ss[i]? =some s):
  w.cell? ⟨sb,5,none⟩=some (.int .i64 n)/\w.cell? ⟨sb,1,none⟩=some (.slice (some ⟨g,0,none⟩) m.ss.length c)/\
   w.cell? ⟨g,i*3,none⟩=some (.int .i64 s.it.kind)/\w.cell? ⟨g,i*3+1,none⟩=some (.string s.it.text)/\w.cell? ⟨g,i*3+2,none⟩=some s.v/\w.frozen? ⟨sb,5,none⟩=false/\Hid (J1 w0 l w (m.hp sb n bud++r)):=by
  obtain⟨_,c1,_,_,_,c5,_,_,fz⟩:=Ju hS.own
  have hb:w.heap[g]? =some (.cells (Jb m.ss++rest).toArray 183 (0,0)):=by
   refine hS.own.at_ (g,_) ?_;simp[SM.hp,SM.rest,hshp]
  have hi:=(List.getElem?_eq_some_iff.1 hs).1;have hcs:=J3l m.ss i s hs;have hlen:=J1g m.ss;refine⟨c5,by rw[c1,hsv],?_,?_,?_,fz 5,hid hS⟩
  ·rw[J0 hb,List.getElem?_toArray,List.getElem?_append_left (by omega),hcs.1]
  ·rw[J0 hb,List.getElem?_toArray,List.getElem?_append_left (by omega),hcs.2.1]
  ·rw[J0 hb,List.getElem?_toArray,List.getElem?_append_left (by omega),hcs.2.2]
theorem J61 {n:Nat} {rest:List Value} (hS:J1 w0 l w (m.hp sb n bud++r)) (hshp:m.shp=[(g,.cells (Jb m.ss++rest).toArray 183 (0,0))]):
 (∀j,w.frozen? ⟨g,j,none⟩=false)/\¬g=sb/\¬sb=g/\g<w.heap.size/\sb<w.heap.size:=by
 have hb:w.heap[g]? =some (.cells (Jb m.ss++rest).toArray 183 (0,0)):=by
  refine hS.own.at_ (g,_) ?_;simp[SM.hp,SM.rest,hshp]
 have hnd:=hS.own.nd;simp only[SM.hp,SM.rest,hshp,List.cons_append,List.append_assoc,J0v,J0z,List.nodup_cons,List.mem_append,List.mem_cons,not_or] at hnd;exact⟨fun j=>J6 hb j,fun e=>hnd.1.2.2.2.1 e.symm,hnd.1.2.2.2.1,Jc hb,Jc hS.own.left.head⟩
theorem SM.setBytes {n:Nat} (hS:J1 w0 l w (m.hp sb n bud++r)) (n':Nat):J1 w0 l (w.setCell ⟨sb,5,none⟩ (.int .i64 n')) (m.hp sb n' bud++r):=by
 have h:J1 w0 l w ((sb,J0m m n bud)::(m.rest++r)):=hS;exact h.set 5 (.int .i64 n')
theorem Jf4 (ss:List J2m) (rest:List Value) (i:Nat) (s:J2m) (hi:i<ss.length):
 (((Jb ss++rest).toArray.setIfInBounds (i*3) (.int .i64 s.it.kind)).setIfInBounds (i*3+1) (.string s.it.text)).setIfInBounds (i*3+2) s.v=(Jb (ss.set i s)++rest).toArray:=by
 have hlen:=J1g ss;rw[J51];simp only[List.setIfInBounds_toArray];rw[List.set_append_left _ _ (by omega),List.set_append_left _ _ (by rw[List.length_set];omega),List.set_append_left _ _ (by rw[List.length_set,List.length_set];omega)]
theorem SM.setSlot {n c:Nat} {rest:List Value} (s':J2m) (hS:J1 w0 l w (m.hp sb n bud++(s'.hp++r))) (hsv:m.sv= .slice (some ⟨g,0,none⟩) m.ss.length c)
 (hshp:m.shp=[(g,.cells (Jb m.ss++rest).toArray 183 (0,0))]) (hs:m.ss[i]? =some s):
  J1 w0 l (((w.setCell ⟨g,i*3,none⟩ (.int .i64 s'.it.kind)).setCell ⟨g,i*3+1,none⟩ (.string s'.it.text)).setCell ⟨g,i*3+2,none⟩ s'.v)
   ({m with shp:=[(g,.cells (Jb (m.ss.set i s')++rest).toArray 183 (0,0))],ss:=m.ss.set i s'}.hp sb n bud++r):=by
  have hi:=(List.getElem?_eq_some_iff.1 hs).1
  have h1:=hS.pick (l2:=(g,.cells (Jb m.ss++rest).toArray 183 (0,0))::((sb,J0m m n bud)::(m.tl++(m.rl++(m.xl++(m.fhp++(m.vhp++(s'.hp++(Ko (m.ss.set i K5)++r))))))))) (m:=s.hp) (J2 fun f=>by
   rw[J0f,J2k m.ss i s hs f,hshp];simp only[List.map_append,List.sum_append,List.map_cons,List.sum_cons,List.cons_append,List.map_nil,List.sum_nil];omega)
  have h2:=((h1.set (i*3) (.int .i64 s'.it.kind)).set (i*3+1) (.string s'.it.text)).set (i*3+2) s'.v;rw[Jf4 _ _ _ _ hi] at h2;refine h2.permR (J2 fun f=>?_)
  rw[J0f,Jdv m.ss i s' hi f];simp only[List.map_append,List.sum_append,List.map_cons,List.sum_cons,List.cons_append,List.map_nil,List.sum_nil];show _=f (sb,J0m m n bud)+_+_+_+_+_+_+_+_
  omega
theorem Jkt:(Tryz.prog.info? 3).map (fun i=>(i.zero,i.size,i.bytes))=some (some (.int .i64 0),1,8):=by kernel_rfl
theorem SM.pushFree {n:Nat} (hS:J1 w0 l w (m.hp sb n bud++r)) (hfr:SliceHp 1 3 m.fv m.fr.length (J0s m.fr) m.fhp) (hB:m.fr.length<=68719476736):
 ∃a c w2 fhp',(Builtin.append_ #[73,73] 73 #[m.fv,.slice (some ⟨w.heap.size,0,none⟩) 1 1]).run Tryz.prog (w.alloc (.cells #[.int .i64 i] 3))= .ok (.slice a (m.fr.length+1) c) w2/\
  SliceHp 1 3 (.slice a (m.fr.length+1) c) (m.fr.length+1) (J0s (m.fr++[i])) fhp'/\
  Jbe w2 sb m n bud/\sb<w2.heap.size/\
  J1 w0 l (w2.setCell ⟨sb,2,none⟩ (.slice a (m.fr.length+1) c)) ({m with fv:=.slice a (m.fr.length+1) c,fhp:=fhp',fr:=m.fr++[i]}.hp sb n bud++r):=by
 have S1:=hS.alloc (.cells #[.int .i64 i] 3);have hvb:=S1.own.head
 have S2:=S1.permR (l2:=m.fhp++((w.heap.size,.cells #[.int .i64 i] 3 (0,0))::(sb,J0m m n bud)::(m.tl++(m.rl++(m.xl++(m.shp++(m.vhp++(Ko m.ss++r)))))))) (J2 fun f=>by
  simp only[SM.hp,SM.rest,List.map_append,List.sum_append,List.map_cons,List.sum_cons,List.cons_append];omega)
 obtain⟨v',w2,sl',hrun,hsl',S3,_⟩:=J0c (P:=Tryz.prog) (ty:=73) Tryz.underlying73 Tryz.underlying73 Jkt rfl (by decide) S2 hfr
  ⟨w.heap.size,0,none⟩ 1 1 [.int .i64 i] rfl (by
   intro j u hu
   rw[J33,J0 hvb];simpa using hu) (by simp[Value.oneCell']) (by omega) (by omega) (by unfold maxLen;omega)
 obtain⟨a',c',rfl,_,_⟩:=hsl'.form
 have hb3:=S3.own.right.tail.head
 have S4:=(S3.pick (l2:=(sb,J0m m n bud)::(sl'++(m.tl++(m.rl++(m.xl++(m.shp++(m.vhp++(Ko m.ss++r)))))))) (m:=[(w.heap.size,.cells #[.int .i64 i] 3 (0,0))]) (J2 fun f=>by
  simp only[List.map_append,List.sum_append,List.map_cons,List.sum_cons,List.cons_append,List.map_nil,List.sum_nil];omega)).set 2 (.slice a' (m.fr.length+1) c')
 refine⟨a',c',w2,sl',hrun,by simpa[J0s] using hsl',⟨J0 hb3 0,J0 hb3 1,J0 hb3 2,J0 hb3 3,J0 hb3 4,J0 hb3 5,J0 hb3 6,J0 hb3 7,fun j=>J6 hb3 j⟩,Jc hb3,S4.permR (J2 fun f=>?_)⟩
 rw[J0f];simp only[List.map_append,List.sum_append,List.map_cons,List.sum_cons,List.cons_append,List.map_nil,List.sum_nil];show f (sb,J0m {m with fv:=.slice a' (m.fr.length+1) c',fhp:=sl',fr:=m.fr++[i]} n bud)+_=_
 omega
def J8u (w0:World) (r:Hp) (sb:Nat) (S:St) (key:ByteArray) (e:Ending) (w':World):Prop:=
 e= .returned (.bool (J7 S.L key).isSome)/\∃l',Je l' sb (if(J7 S.L key).isSome then {S with L:=Jk S.L key,D:=Jk S.D key} else S)/\J1 w0 [] w' (l'++r)
theorem SM.stepT {tl':Hp} {n:Nat} {M':KV} (hS:J1 w0 l w (m.hp sb n bud++r)) (k:J1 w m.tl w' tl'):J1 w0 l w' ({m with tl:=tl',M:=M'}.hp sb n bud++r):=
 hS.turn (B:=(sb,J0m m n bud)::(m.rl++(m.xl++(m.shp++(m.fhp++(m.vhp++(Ko m.ss++r))))))) (fun f=>by
  rw[J0f];simp only[SC];omega) k (fun f=>by
  rw[J0f];simp only[SC];show f (sb,J0m m n bud)+_+_+_+_+_+_+_+_=_
  omega)
theorem SM.stepR {rl':Hp} {n:Nat} (hS:J1 w0 l w (m.hp sb n bud++r)) (k:J1 w m.rl w' rl'):J1 w0 l w' ({m with rl:=rl'}.hp sb n bud++r):=
 hS.turn (B:=(sb,J0m m n bud)::(m.tl++(m.xl++(m.shp++(m.fhp++(m.vhp++(Ko m.ss++r))))))) (fun f=>by
  rw[J0f];simp only[SC];omega) k (fun f=>by
  rw[J0f];simp only[SC];show f (sb,J0m m n bud)+_+_+_+_+_+_+_+_=_
  omega)
theorem SM.stepX {xl':Hp} {n:Nat} (hS:J1 w0 l w (m.hp sb n bud++r)) (k:J1 w m.xl w' xl'):J1 w0 l w' ({m with xl:=xl'}.hp sb n bud++r):=
 hS.turn (B:=(sb,J0m m n bud)::(m.tl++(m.rl++(m.shp++(m.fhp++(m.vhp++(Ko m.ss++r))))))) (fun f=>by
  rw[J0f];simp only[SC];omega) k (fun f=>by
  rw[J0f];simp only[SC];show f (sb,J0m m n bud)+_+_+_+_+_+_+_+_=_
  omega)
theorem SM.ownT {n:Nat} (h:Own w (m.hp sb n bud++r)):Own w m.tl:=by
 refine(h.perm (l':=m.tl++((sb,J0m m n bud)::(m.rl++(m.xl++(m.shp++(m.fhp++(m.vhp++(Ko m.ss++r)))))))) (J2 fun f=>?_)).left
 rw[J0f];simp only[SC];omega
theorem SM.ownR {n:Nat} (h:Own w (m.hp sb n bud++r)):Own w m.rl:=by
 refine(h.perm (l':=m.rl++((sb,J0m m n bud)::(m.tl++(m.xl++(m.shp++(m.fhp++(m.vhp++(Ko m.ss++r)))))))) (J2 fun f=>?_)).left
 rw[J0f];simp only[SC];omega
theorem SM.ownX {n:Nat} (h:Own w (m.hp sb n bud++r)):Own w m.xl:=by
 refine(h.perm (l':=m.xl++((sb,J0m m n bud)::(m.tl++(m.rl++(m.shp++(m.fhp++(m.vhp++(Ko m.ss++r)))))))) (J2 fun f=>?_)).left
 rw[J0f];simp only[SC];omega
theorem J95 (h:m.Ok S) (hf:Fit S):∀k∈m.M.map Prod.fst,k.size<=maxLen:=fun k hk=>by
 obtain⟨p,hp,rfl⟩:=List.mem_map.1 ((h.mkeys k).1 hk)
 have:=(hf.key p hp).1
 unfold maxLen;omega
theorem Jjo (hS:J1 w0 [] w (l++r)) (hG:J1q w0) (hX:Je l sb S) (key:ByteArray) (hk:key.size<=1099511627776):
 Calls Tryz.prog 238 #[ptr sb,.string key] w (J8u w0 r sb S key):=by
 obtain⟨m,rfl,hok,hf⟩:=hX
 have hdrop:=hid (Jhc m.tl m.tb m.M key w hok.tab (J95 hok hf) (by unfold maxLen;omega) (SM.ownT hS.own))
 have c0:=(Ju hS.own).c0;cases hl:look m.M key with
 |none=>
  have hn:=hok.lost hl
  have hfin:Hid (∀w' tl',Jv tl' m.tb (Jz m.M key) 0->J1 w m.tl w' tl'->J8u w0 r sb S key (.returned (.bool false)) w'):=by
   intro w' tl' hT' k
   refine⟨by rw[hn];rfl,{m with tl:=tl'}.hp sb (J4 S.L) S.bud,?_,SM.stepT (M':=m.M) hS k⟩
   rw[hn];rw[J4d hl] at hT';exact⟨{m with tl:=tl'},rfl,⟨hT',hok.rcn,hok.exp,hok.slots,hok.free,hok.evs,hok.cells,hok.num,hok.holds,hok.all,hok.each,hok.few⟩,hf⟩
  replace hl:=hid hl;clear hS hok hf hn;go_enter Tryz.func238,Tryz.ntmps238;go_wp2_with fail;refine hdrop.out.mono ?_;rintro e w1 ⟨rfl,tl',hT',ST⟩;have hdone:=hid (hfin.out w1 tl' hT' ST);clear hdrop hT' ST hfin;simp only[hl.out,Option.getD_none,Option.isSome_none];go_wp2_with fail;go_ret;exact hdone.out
 |some i=>
  obtain⟨c,s,hc,rfl,rfl,hs,hsi,hml⟩:=hok.found hf hl
  have hi:=(List.getElem?_eq_some_iff.1 hs).1;have hbs:=J8v hf.nd hml;have hsm:=(List.getElem?_eq_some_iff.1 hs).2;have hrt:J1c s.it:=by rw[hsi];exact(hf.key _ (J0p hml)).2
  have hat:=hok.each s (List.mem_of_getElem? hs);replace hl:=hid hl;go_enter Tryz.func238,Tryz.ntmps238;go_wp2_with fail;refine hdrop.out.mono ?_;rintro e w1 ⟨rfl,tl',hT',ST⟩;simp only[hl.out,Option.getD_some,Option.isSome_some];have S1:=SM.stepT (M':=Jz m.M c.key) hS ST;obtain⟨m1,hm1⟩:∃m1:SM,m1={m with tl:=tl',M:=Jz m.M c.key}:=⟨_,rfl⟩
  rw[<-hm1] at S1;have hs1:m1.ss[c.at_]? =some s:=by rw[hm1];exact hs
  have hi1:c.at_<m1.ss.length:=by rw[hm1];exact hi
  have hsl1:SliceHp 3 183 m1.sv m1.ss.length (Jb m1.ss) m1.shp:=by rw[hm1];exact hok.slots
  have hfew:m1.ss.length<=68719476736:=by rw[hm1];exact hok.few
  obtain⟨g,cap,rest,hsv,hc1,hc2,hshp,hrest,hgb,_,_,_⟩:=J4b S1.own hsl1 hs1
  have hcost:∀w':World,J1 w0 [] w' (m1.hp sb (J4 S.L) S.bud++r)->_:=fun _ h=>Jae (S:=S) (key:=c.key) h hG hs1 hat hrt hk
  replace hcost:=hid hcost;replace hm1:=hid hm1;replace hs:=hid hs;replace hs1:=hid hs1;replace hsv:=hid hsv;replace hshp:=hid hshp;replace hgb:=hid hgb;replace hml:=hid hml;replace hsi:=hid hsi;replace hbs:=hid hbs;replace S1:=hid S1;replace hS:=hid hS;replace hat:=hid hat;have hrest':=hid hrest;replace hT':=hid hT';clear hdrop ST hsm hrest hsl1 hi c0;unfold J8 at hcost;have hnew:Hid ((J4 S.L:Int) - (J0r c.key s.it:Nat)=(J4 (Jk S.L c.key):Nat)):=hid (by rw[hsi.out,hbs.out];omega)
  have hlt1:J4 S.L<=2000000000000:=hf.le;have hlt2:J0r c.key s.it<=2000000000000:=by rw[hsi.out];have:=hbs.out;omega
  go_wp2_with fail;have c5:∀p:InW w0 [] (m1.hp sb (J4 S.L) S.bud++r),p.w.cell? ⟨sb,5,none⟩=some (.int .i64 (J4 S.L:Nat)):=fun p=>(J02 p.h hsv.out hshp.out hs1.out).1
  have c1:∀p:InW w0 [] (m1.hp sb (J4 S.L) S.bud++r),p.w.cell? ⟨sb,1,none⟩=some (.slice (some ⟨g,0,none⟩) m1.ss.length cap):=fun p=>(J02 p.h hsv.out hshp.out hs1.out).2.1
  have x0:∀p:InW w0 [] (m1.hp sb (J4 S.L) S.bud++r),p.w.cell? ⟨g,c.at_*3,none⟩=some (.int .i64 s.it.kind):=fun p=>(J02 p.h hsv.out hshp.out hs1.out).2.2.1
  have x1:∀p:InW w0 [] (m1.hp sb (J4 S.L) S.bud++r),p.w.cell? ⟨g,c.at_*3+1,none⟩=some (.string s.it.text):=fun p=>(J02 p.h hsv.out hshp.out hs1.out).2.2.2.1
  have x2:∀p:InW w0 [] (m1.hp sb (J4 S.L) S.bud++r),p.w.cell? ⟨g,c.at_*3+2,none⟩=some s.v:=fun p=>(J02 p.h hsv.out hshp.out hs1.out).2.2.2.2.1
  refine Jx 16 S1.out (by kernel_rfl) (by kernel_rfl) (fun hne=>?_)
  simp only[List.take_succ_cons,List.take_zero,List.drop_succ_cons,List.drop_zero];repeat (go_big_quiet_step ((go_at_call 219;refine Calls.inw (hcost.out _ (InW.h _)))))
  refine J17 fun w2 S2=>?_
  clear c5 c1 x0 x1 x2 hne;obtain⟨c5,c1,x0,x1,x2,_⟩:=J02 S2 hsv.out hshp.out hs1.out
  have fz:=(Ju S2.own).fz;have S3:=SM.setBytes S2 (J4 (Jk S.L c.key));obtain⟨fg,hg1,hg2,hgl,hsl⟩:=J61 S2 hshp.out
  have S4:=SM.setSlot K5 (S3.permR (List.Perm.refl _)) hsv.out hshp.out hs1.out;have hfr1:SliceHp 1 3 m1.fv m1.fr.length (J0s m1.fr) m1.fhp:=by rw[hm1.out];exact hok.free
  have hfl:m1.fr.length<=68719476736:=by
   have h1:=hok.all.length_eq;have h2:=hok.few;rw[List.length_append,List.length_range] at h1;rw[hm1.out];show m.fr.length<=_;omega
  obtain⟨a,cf,w5,fhp',hrun,hfr2,hc5,hsl5,S5⟩:=SM.pushFree (i:=c.at_) S4 hfr1 hfl
  have d2:=hc5.c2;have d3:=hc5.c3;have d4:=hc5.c4;have fz5:=hc5.fz;obtain⟨af,nf,hfv⟩:∃a c,m1.fv= .slice a m1.fr.length c:=by obtain⟨a,c,h,_⟩:=hfr1.form;exact⟨a,c,h⟩
  have c2:w2.cell? ⟨sb,2,none⟩=some (.slice af m1.fr.length nf):=by have:=(Ju S2.own).c2;rwa[hfv] at this
  simp only[hfv,K5,Jt,World.size_setCell] at hrun d2 S5;rw[hnew.out];replace hrun:=hid hrun;replace S5:=hid S5;replace hfr2:=hid hfr2;replace hfv:=hid hfv;replace hfr1:=hid hfr1;replace hok:=hid hok;replace hf:=hid hf;replace hG:=hid hG;replace hrt:=hid hrt;replace hfl:=hid hfl;replace hc2:=hid hc2;clear S2 S3 S4 hlt1 hlt2;go_wp2_with (at_builtin;go_must (refine Jh rfl _ _ 73 73 rfl (.slice af m1.fr.length nf) (.slice (some ⟨w2.heap.size,0,none⟩) 1 1) rfl rfl hrun.out ?_));have hR:Jj m1.rl m1.rb (m.cs.map J0t.key):=by rw[hm1.out];exact hok.out.rcn
  have hE:K1 m1.xl m1.xb S.D:=by rw[hm1.out];exact hok.out.exp
  have hD:S.D.length<=1099511627776:=by have:=hf.out.fewD;have:=hf.out.few;omega
  obtain⟨m5,hm5,S5'⟩:∃m5:SM,m5={m1 with shp:=[(g,.cells (Jb (m1.ss.set c.at_ K5)++rest).toArray 183 (0,0))],ss:=m1.ss.set c.at_ K5,fv:=.slice a (m1.fr.length+1) cf,fhp:=fhp',fr:=m1.fr++[c.at_]}/\J1 w0 [] (w5.setCell ⟨sb,2,none⟩ (.slice a (m1.fr.length+1) cf)) (m5.hp sb (J4 (Jk S.L c.key)) S.bud++r):=⟨_,rfl,S5.out⟩
  have e5r:m5.rl=m1.rl:=by rw[hm5]
  have e5b:m5.rb=m1.rb:=by rw[hm5]
  have e5x:m5.xl=m1.xl:=by rw[hm5]
  have e5y:m5.xb=m1.xb:=by rw[hm5]
  have hrd:=Jas m5.rl m5.rb (m.cs.map J0t.key) c.key _ (by rw[e5r,e5b];exact hR) (SM.ownR S5'.own)
  rw[e5b] at hrd;refine hrd.mono ?_;rintro e w6 ⟨rfl,rl',hR6,ST6⟩;have S6:=SM.stepR S5' ST6;have hed:=hid (Jaf m5.xl m5.xb S.D c.key w6 (by rw[e5x,e5y];exact hE) hD (SM.ownX (m:={m5 with rl:=rl'}) S6.own))
  have d4':=(Ju S6.own).c4;simp only[e5y] at d4' hed;replace S6:=hid S6;replace hR6:=hid hR6;replace hm5:=hid hm5;clear hrd ST6 S5' e5r e5b e5x e5y hE hR c5 c1 x0 x1 x2 c2 d2 d3 d4 fz5 hc5 fg fz;go_wp2_with fail;refine hed.out.mono ?_;rintro e w7 ⟨rfl,xl',hE7,ST7⟩;have S7:=SM.stepX (m:={m5 with rl:=rl'}) S6.out ST7
  have hokf:SM.Ok {m5 with rl:=rl',xl:=xl',cs:=J28 m.cs c.key} {S with L:=Jk S.L c.key,D:=Jk S.D c.key}:=by
   have h5:=hm5.out;have h1:=hm1.out;have e1:m1.ss=m.ss:=by rw[h1]
   have e2:m1.fr=m.fr:=by rw[h1]
   refine hok.out.gone hf.out hc hs.out ?_ ?_ ?_ ?_ ?_ ?_ ?_ rfl ?_ ?_
   ·show Jv m5.tl m5.tb _ 0
    rw[h5,h1];exact hT'.out
   ·show Jj rl' m5.rb _
    rw[h5];exact hR6.out
   ·show K1 xl' m5.xb _
    rw[h5];exact hE7
   ·show SliceHp 3 183 m5.sv m.ss.length _ m5.shp
    rw[h5,<-e1];show SliceHp 3 183 m1.sv m1.ss.length _ _
    rw[hsv.out];exact .laid g _ cap _ rest (by rw[J1g,List.length_set]) hrest'.out hc1 hc2.out
   ·show SliceHp 1 3 m5.fv _ _ m5.fhp
    rw[h5,<-e2];exact hfr2.out
   ·show SliceHp 2 146 m5.vv _ _ m5.vhp
    rw[h5,h1];exact hok.out.evs
   ·show m5.M=_
    rw[h5,h1]
   ·show m5.ss=_
    rw[h5,<-e1]
   ·show m5.fr=_
    rw[h5,<-e2]
  have hdone:Hid (J8u w0 r sb S c.key (.returned (.bool true)) w7):=by
   refine⟨by rw[hml.out];rfl,_,?_,S7⟩
   rw[hml.out];exact⟨{m5 with rl:=rl',xl:=xl',cs:=J28 m.cs c.key},rfl,hokf,by have h:=hf.out.gone c.key 0;rw[J4q hml.out] at h;exact⟨h.nd,h.ends,h.dnd,h.key,h.bud,h.le⟩⟩
  clear S7 hokf hE7 ST7 hed d4';go_wp2_with fail;go_ret;exact hdone.out
def Jw (w0:World) (r:Hp) (sb:Nat) (S:St) (v:Value) (e:Ending) (w':World):Prop:=
 e= .returned v/\∃l',Je l' sb S/\J1 w0 [] w' (l'++r)
theorem Jc6 (hS:J1 w0 [] w (l++r)) (hX:Je l sb S) (hev:S.ev.length<=4398046511104) (kind:Int) (key:ByteArray):
 Calls Tryz.prog 171 #[ptr sb,.int .i64 kind,.string key] w (Jw w0 r sb {S with ev:=S.ev++[(kind,key)]} (.tuple #[])):=by
 obtain⟨m,rfl,hok,hf⟩:=hX
 refine(Jjr hS hok.evs hev kind key).mono ?_
 rintro e w' ⟨rfl,vv',vhp',h1,h2⟩;refine⟨rfl,_,⟨{m with vv:=vv',vhp:=vhp'},rfl,⟨hok.tab,hok.rcn,hok.exp,hok.slots,hok.free,h1,hok.cells,hok.num,hok.holds,hok.all,hok.each,hok.few⟩,⟨hf.nd,hf.ends,hf.dnd,hf.key,hf.bud,hf.le⟩⟩,h2⟩
theorem J97 (hS:J1 w0 [] w (l++r)) (hG:J1q w0) (hX:Je l sb S) (hev:S.ev.length<=4398046511104) (key:ByteArray) (hk:key.size<=1099511627776) (kind:Int):
 Calls Tryz.prog 166 #[ptr sb,.string key,.int .i64 kind] w (Jw w0 r sb (S.gone key kind) (.bool (J7 S.L key).isSome)):=by
 have htake:=hid (Jjo hS hG hX key hk);cases hl:J7 S.L key with
 |none=>
  have hg:=hid (Jfh (kind:=kind) hl);have hpost:Hid (∀w' l',Je l' sb S->J1 w0 [] w' (l'++r)->Jw w0 r sb (S.gone key kind) (.bool false) (.returned (.bool false)) w'):=fun w' l' h1 h2=>by rw[hg.out];exact⟨rfl,l',h1,h2⟩
  replace hl:=hid hl;clear hS hX;go_enter Tryz.func166,Tryz.ntmps166;go_wp2_with fail;refine htake.out.mono ?_;rintro e w1 ⟨rfl,l',hX1,S1⟩;rw[hl.out] at hX1;have hdone:=hid (hpost.out w1 l' hX1 S1);simp only[hl.out,Option.isSome_none];clear htake hX1 S1 hpost;go_wp2_with fail;go_ret;exact hdone.out
 |some it=>
  have hg:=hid (J4q (kind:=kind) hl);have hpost:Hid (∀w' l',Je l' sb {S with L:=Jk S.L key,D:=Jk S.D key,ev:=S.ev++[(kind,key)]}->J1 w0 [] w' (l'++r)->Jw w0 r sb (S.gone key kind) (.bool true) (.returned (.bool true)) w'):=fun w' l' h1 h2=>by rw[hg.out];exact⟨rfl,l',h1,h2⟩
  replace hl:=hid hl;clear hS hX;go_enter Tryz.func166,Tryz.ntmps166;go_wp2_with fail;refine htake.out.mono ?_;rintro e w1 ⟨rfl,l',hX1,S1⟩;rw[hl.out] at hX1;have htell:=hid (Jc6 S1 hX1 hev kind key);simp only[hl.out,Option.isSome_some];clear htake hX1 S1;go_wp2_with fail;refine htell.out.mono ?_;rintro e w2 ⟨rfl,l2,hX2,S2⟩;have hdone:=hid (hpost.out w2 l2 hX2 S2);clear htell hX2 S2 hpost;go_wp2_with fail;go_ret;exact hdone.out
theorem Je.expiry (ho:Own w (l++r)) (hX:Je l sb S):∃m:SM,l=m.hp sb (J4 S.L) S.bud/\K1 m.xl m.xb S.D/\Own w m.xl/\w.cell? ⟨sb,4,none⟩=some (ptr m.xb):=by
 obtain⟨m,rfl,hok,hf⟩:=hX
 exact⟨m,rfl,hok.exp,SM.ownX ho,(Ju ho).c4⟩
theorem J6b (hS:J1 w0 [] w (l++r)) (hG:J1q w0) (hX:Je l sb S) (hev:S.ev.length<=4398046511104) (key:ByteArray) (hk:key.size<=1099511627776) (now:Int):
 Calls Tryz.prog 165 #[ptr sb,.string key,.int .i64 now] w (Jw w0 r sb (S.due key now) (.tuple #[])):=by
 obtain⟨m,hm,hE,hoE,c4⟩:=hX.expiry hS.own
 have hget:=hid (Jd2 m.xl m.xb S.D key w hE hoE);have hgone:=hid (J97 hS hG hX hev key hk 3);cases hl:J7 S.D key with
 |none=>
  have hd:Hid (Jw w0 r sb (S.due key now) (.tuple #[]) (.returned (.tuple #[])) w):=by
   have e:S.due key now=S:=by simp[St.due,hl]
   rw[e];exact⟨rfl,l,hX,hS⟩
  replace hl:=hid hl;clear hS hX hm hE hoE hgone;go_enter Tryz.func165,Tryz.ntmps165;go_wp2_with fail;refine hget.out.mono ?_;rintro e w1 ⟨rfl,rfl⟩;simp only[hl.out,Option.getD_none,Option.isSome_none];go_wp2_with fail;go_end0
  exact hd.out
 |some t=>
  by_cases ht:t<=now
  ·have hd:Hid (S.due key now=S.gone key 3):=hid (by simp[St.due,hl,ht])
   replace hl:=hid hl;clear hS hX hm hE hoE;go_enter Tryz.func165,Tryz.ntmps165;go_wp2_with fail;refine hget.out.mono ?_;rintro e w1 ⟨rfl,rfl⟩;simp only[hl.out,Option.getD_some,Option.isSome_some];clear hget;go_wp2_with fail;refine hgone.out.mono ?_;rintro e w2 ⟨rfl,l2,hX2,S2⟩;replace hX2:=hid hX2;replace S2:=hid S2;clear hgone;go_wp2_with fail;go_end0
   rw[hd.out];exact⟨rfl,l2,hX2.out,S2.out⟩
  ·have hd:Hid (Jw w0 r sb (S.due key now) (.tuple #[]) (.returned (.tuple #[])) w):=by
    have e:S.due key now=S:=by simp[St.due,hl,ht]
    rw[e];exact⟨rfl,l,hX,hS⟩
   replace hl:=hid hl;clear hS hX hm hE hoE hgone;go_enter Tryz.func165,Tryz.ntmps165;go_wp2_with fail;refine hget.out.mono ?_;rintro e w1 ⟨rfl,rfl⟩;simp only[hl.out,Option.getD_some,Option.isSome_some];go_wp2_with fail;go_end0
   exact hd.out
end Go.Proofs.YtefjbegnlolgbaaGreatDoor
