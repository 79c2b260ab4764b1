/-
(*row).put and (*row).bury: what they make of a row in memory.
-/
import Derived.Deep.LoopGhost
import Derived.Test.YtefjbegnlolgbaaGreatDoorQ08
set_option linter.unusedVariables false
set_option linter.unusedSimpArgs false
set_option maxRecDepth 100000
set_option maxHeartbeats 8000000
namespace Go.Proofs.YtefjbegnlolgbaaGreatDoor
open Go Go.RowKit
variable {l r m:Hp}{b c:Nat}{M:KV}{w w0:World}{T:Tb}{hs:ByteArray → Nat}
theorem J4y (ps:List Pl) (i:Nat) (q:Pl) (hi:i<ps.length):
 (((J0n ps).toArray.setIfInBounds (i*3) (.int .i64 q.st)).setIfInBounds (i*3+1) (.string q.key)).setIfInBounds (i*3+2) (.int .i64 q.n)=(J0n (ps.set i q)).toArray:=by
 simp only[List.setIfInBounds_toArray];congr 1
 apply List.ext_getElem?
 intro m
 obtain⟨a,j,hj,rfl⟩:∃a j,j<3/\m=a*3+j:=⟨m/3,m%3,Nat.mod_lt _ (by omega),by omega⟩
 have hl:=J7w ps;rw[J11 _ _ _ hj,List.length_set,J29 hi];simp only[List.getElem?_set,List.length_set,hl];by_cases ha:a=i
 ·subst ha
  rw[if_pos hi,if_pos rfl];obtain rfl|rfl|rfl:j=0\/j=1\/j=2:=by omega
  ·simp[J2a];omega
  ·simp[J2a];omega
  ·simp[J2a];omega
 ·rw[if_neg ha,if_neg (by omega),if_neg (by omega),if_neg (by omega),J11 _ _ _ hj]
abbrev J1p (ps:List Pl):Obj:=.cells (J0n ps).toArray 372 (0,0)
def J2b (cs:Array Value) (o:Nat) (r:Row) (i:Nat):Array Value:=
 if(Ja r.ps i).st=2 then(cs.setIfInBounds (o+1) (.int .i64 (r.fl+1))).setIfInBounds (o+2) (.int .i64 (r.gr - 1)) else cs.setIfInBounds (o+1) (.int .i64 (r.fl+1))
theorem Jfq (b o pb i:Nat) (cs:Array Value) (r:Row) (key:ByteArray) (n:Int) (w:World) (hk:key.size<=maxLen) (hL:0<r.ps.length) (hB:r.ps.length<=1099511627776)
 (hfl:0<=r.fl/\r.fl<=1099511627776) (hgr:0<=r.gr/\r.gr<=1099511627776)
 (ho:Own w [(b,.cells cs 104 (0,0)),(pb,J1p r.ps)])
 (h0:cs[o]? =some (.slice (some ⟨pb,0,none⟩) r.ps.length r.ps.length)) (h1:cs[o+1]? =some (.int .i64 r.fl)) (h2:cs[o+2]? =some (.int .i64 r.gr))
 (hf:J08 Jd r.ps key=(some i,false)) (hi:i<r.ps.length) (hst:(Ja r.ps i).st≠1):
  Calls Tryz.prog 278 #[.pointer (some ⟨b,o,none⟩),.string key,.int .i64 n] w fun e w'=>
   e= .returned (.tuple #[])/\J1 w [(b,.cells cs 104 (0,0)),(pb,J1p r.ps)] w' [(b,.cells (J2b cs o r i) 104 (0,0)),(pb,J1p (r.putAt i key n).ps)]:=by
  have hb:w.heap[b]? =some (.cells cs 104 (0,0)):=ho.head;have hp:Kv w pb r.ps:=ho.tail.head;have hne:b≠pb:=by have:=ho.nd;simp at this;exact this
  have hstep:=hid (J1.refl ho);have c0:w.cell? ⟨b,o,none⟩=_:=(J0 hb o).trans h0;have c1:w.cell? ⟨b,o+1,none⟩=_:=(J0 hb (o+1)).trans h1;have c2:w.cell? ⟨b,o+2,none⟩=_:=(J0 hb (o+2)).trans h2;have f1:w.frozen? ⟨b,o+1,none⟩=false:=J6 hb _;have f2:w.frozen? ⟨b,o+2,none⟩=false:=J6 hb _;have p0:=hp.st hi;have p1:=hp.key hi;have p2:=hp.n hi;have g0:w.frozen? ⟨pb,i*3,none⟩=false:=J6 hp _;have g1:w.frozen? ⟨pb,i*3+1,none⟩=false:=J6 hp _;have g2:w.frozen? ⟨pb,i*3+2,none⟩=false:=J6 hp _;have hfd:=J94 b o pb r.ps key w hk hL hB c0 hp;rw[hf] at hfd;simp only[J1d] at hfd;replace hfd:=hid hfd;have hps:=hid hp;have hset:=hid (J4y r.ps i ⟨1,key,n⟩ hi);have hpa:(r.putAt i key n).ps=r.ps.set i ⟨1,key,n⟩:=by unfold Row.putAt;rw[if_neg hst]
  rw[hpa];clear hpa hb hp ho hf h0 h1 h2;by_cases h2:(Ja r.ps i).st=2
  ·have ht:((Ja r.ps i).st==2)=true:=by simpa using h2
   have hpc:J2b cs o r i=(cs.setIfInBounds (o+1) (.int .i64 (r.fl+1))).setIfInBounds (o+2) (.int .i64 (r.gr - 1)):=by unfold J2b;rw[if_pos h2]
   rw[hpc];clear hpc h2;go_enter Tryz.func278,Tryz.ntmps278;go_wp2_with fail;refine hfd.out.mono ?_;rintro e w' ⟨rfl,nd,rfl⟩;go_wp2_with fail;go_end0
   refine⟨rfl,?_⟩
   have fin:=(((((hstep.out.drewN nd).set (o+1) (.int .i64 (r.fl+1))).set (o+2) (.int .i64 (r.gr - 1))).set2 (i*3) (.int .i64 1)).set2 (i*3+1) (.string key)).set2 (i*3+2) (.int .i64 n);rw[hset.out] at fin;exact fin
  ·have ht:((Ja r.ps i).st==2)=false:=by simpa using h2
   have hpc:J2b cs o r i=cs.setIfInBounds (o+1) (.int .i64 (r.fl+1)):=by unfold J2b;rw[if_neg h2]
   rw[hpc];clear hpc h2;go_enter Tryz.func278,Tryz.ntmps278;go_wp2_with fail;refine hfd.out.mono ?_;rintro e w' ⟨rfl,nd,rfl⟩;go_wp2_with fail;go_end0
   refine⟨rfl,?_⟩
   have fin:=((((hstep.out.drewN nd).set (o+1) (.int .i64 (r.fl+1))).set2 (i*3) (.int .i64 1)).set2 (i*3+1) (.string key)).set2 (i*3+2) (.int .i64 n);rw[hset.out] at fin;exact fin
def J3o (cs:Array Value) (o:Nat) (r:Row):Array Value:=(cs.setIfInBounds (o+1) (.int .i64 (r.fl - 1))).setIfInBounds (o+2) (.int .i64 (r.gr+1))
theorem Jcr (b o pb i:Nat) (cs:Array Value) (r:Row) (w:World) (hB:r.ps.length<=1099511627776)
 (hfl:0<=r.fl/\r.fl<=1099511627776) (hgr:0<=r.gr/\r.gr<=1099511627776)
 (ho:Own w [(b,.cells cs 104 (0,0)),(pb,J1p r.ps)])
 (h0:cs[o]? =some (.slice (some ⟨pb,0,none⟩) r.ps.length r.ps.length)) (h1:cs[o+1]? =some (.int .i64 r.fl)) (h2:cs[o+2]? =some (.int .i64 r.gr)) (hi:i<r.ps.length):
  Calls Tryz.prog 317 #[.pointer (some ⟨b,o,none⟩),.int .i64 i] w fun e w'=>
   e= .returned (.tuple #[])/\J1 w [(b,.cells cs 104 (0,0)),(pb,J1p r.ps)] w' [(b,.cells (J3o cs o r) 104 (0,0)),(pb,J1p (r.bury i).ps)]:=by
  have hb:w.heap[b]? =some (.cells cs 104 (0,0)):=ho.head;have hp:Kv w pb r.ps:=ho.tail.head;have hne:b≠pb:=by have:=ho.nd;simp at this;exact this
  have hstep:=hid (J1.refl ho);have c0:w.cell? ⟨b,o,none⟩=_:=(J0 hb o).trans h0;have c1:w.cell? ⟨b,o+1,none⟩=_:=(J0 hb (o+1)).trans h1;have c2:w.cell? ⟨b,o+2,none⟩=_:=(J0 hb (o+2)).trans h2;have f1:w.frozen? ⟨b,o+1,none⟩=false:=J6 hb _;have f2:w.frozen? ⟨b,o+2,none⟩=false:=J6 hb _;have p0:=hp.st hi;have p1:=hp.key hi;have p2:=hp.n hi;have g0:w.frozen? ⟨pb,i*3,none⟩=false:=J6 hp _;have g1:w.frozen? ⟨pb,i*3+1,none⟩=false:=J6 hp _;have g2:w.frozen? ⟨pb,i*3+2,none⟩=false:=J6 hp _;have hset:=hid (J4y r.ps i J16 hi);have hpa:(r.bury i).ps=r.ps.set i J16:=rfl;rw[hpa];clear hpa hb hp ho h0 h1 h2;go_enter Tryz.func317,Tryz.ntmps317;go_wp2_with fail;go_end0
  refine⟨rfl,?_⟩
  have fin:=((((hstep.out.set2 (i*3) (.int .i64 2)).set2 (i*3+1) (.string ByteArray.empty)).set2 (i*3+2) (.int .i64 0)).set (o+1) (.int .i64 (r.fl - 1))).set (o+2) (.int .i64 (r.gr+1));have hset':=hset.out;simp only[J16] at hset';rw[hset'] at fin;exact fin
def J9p (o:Option Nat) (n:Nat):Value:=match o with
 |none=>.slice none 0 0
 |some b=>.slice (some ⟨b,0,none⟩) n n
def J05 (po:Nat) (pf:Option Nat) (T:Tb):Array Value:=
 #[.slice (some ⟨po,0,none⟩) T.old.ps.length T.old.ps.length,.int .i64 T.old.fl,.int .i64 T.old.gr,J9p pf T.fresh.ps.length,.int .i64 T.fresh.fl,.int .i64 T.fresh.gr,.bool T.moving,.int .i64 T.next]
abbrev J27 (po:Nat) (pf:Option Nat) (T:Tb):Obj:=.cells (J05 po pf T) 104 (0,0)
def J6f (pf:Option Nat) (T:Tb):Hp:=match pf with
 |none=>[]
 |some f=>[(f,J1p T.fresh.ps)]
def Ks (b po:Nat) (pf:Option Nat) (T:Tb):Hp:=(b,J27 po pf T)::(po,J1p T.old.ps)::J6f pf T
def Jv (l:Hp) (b:Nat) (M:KV) (c:Nat):Prop:=∃T po pf,Jn Jd T M c/\T.moving=pf.isSome/\l=Ks b po pf T
theorem Jv.weak {c':Nat} (h:Jv l b M c) (hc:c'<=c):Jv l b M c':=by
 obtain⟨T,po,pf,h1,h2,h3⟩:=h
 exact⟨T,po,pf,h1.weak hc,h2,h3⟩
structure Jhu (w:World) (b po:Nat) (pf:Option Nat) (T:Tb):Prop where
 c0:w.cell? ⟨b,0,none⟩=some (.slice (some ⟨po,0,none⟩) T.old.ps.length T.old.ps.length)
 c1:w.cell? ⟨b,1,none⟩=some (.int .i64 T.old.fl)
 c2:w.cell? ⟨b,2,none⟩=some (.int .i64 T.old.gr)
 c3:w.cell? ⟨b,3,none⟩=some (J9p pf T.fresh.ps.length)
 c4:w.cell? ⟨b,4,none⟩=some (.int .i64 T.fresh.fl)
 c5:w.cell? ⟨b,5,none⟩=some (.int .i64 T.fresh.gr)
 c6:w.cell? ⟨b,6,none⟩=some (.bool T.moving)
 c7:w.cell? ⟨b,7,none⟩=some (.int .i64 T.next)
 fz:∀j,w.frozen? ⟨b,j,none⟩=false
 lt:b<w.heap.size
theorem J03 {po:Nat} {pf:Option Nat} (h:w.heap[b]? =some (J27 po pf T)):Jhu w b po pf T:=
 ⟨J0 h 0,J0 h 1,J0 h 2,J0 h 3,J0 h 4,J0 h 5,J0 h 6,J0 h 7,fun j=>J6 h j,Jc h⟩
theorem J14.bd {r:Row} (h:J14 hs r) (hB:r.ps.length<=1099511627776):(0<=r.fl/\r.fl<=1099511627776)/\(0<=r.gr/\r.gr<=1099511627776):=by
 have h1:=h.fl;have h2:=h.gr;have:=Ji0 r.ps 1
 have:=Ji0 r.ps 2
 omega
theorem Je1 (po:Nat) (pf:Option Nat) (T:Tb) (i:Nat):J3o (J05 po pf T) 0 T.old=J05 po pf {T with old:=T.old.bury i}:=by
 simp[J3o,J05,Row.bury]
theorem Ja5 (po:Nat) (pf:Option Nat) (T:Tb) (i:Nat):J3o (J05 po pf T) 3 T.fresh=J05 po pf {T with fresh:=T.fresh.bury i}:=by
 simp[J3o,J05,Row.bury]
theorem Jf7 (po:Nat) (pf:Option Nat) (T:Tb) (i:Nat) (k:ByteArray) (n:Int) (h:(Ja T.old.ps i).st≠1):J2b (J05 po pf T) 0 T.old i=J05 po pf {T with old:=T.old.putAt i k n}:=by
 by_cases h2:(Ja T.old.ps i).st=2<;>simp[J2b,J05,Row.putAt,h,h2]
theorem Jc3 (po:Nat) (pf:Option Nat) (T:Tb) (i:Nat) (k:ByteArray) (n:Int) (h:(Ja T.fresh.ps i).st≠1):J2b (J05 po pf T) 3 T.fresh i=J05 po pf {T with fresh:=T.fresh.putAt i k n}:=by
 by_cases h2:(Ja T.fresh.ps i).st=2<;>simp[J2b,J05,Row.putAt,h,h2]
theorem Je3 (po:Nat) (pf:Option Nat) (T:Tb) (n:Nat):(J05 po pf T).setIfInBounds 7 (.int .i64 n)=J05 po pf {T with next:=n}:=by
 simp[J05]
theorem Jn.keyOld {i:Nat} (h:Jn hs T M c) (hi:i<T.old.ps.length) (h1:(Ja T.old.ps i).st=1):(Ja T.old.ps i).key∈M.map Prod.fst:=
 List.mem_map.2 ⟨_,J7r (h.memOld hi h1),rfl⟩
theorem Jcs (b po i:Nat) (pf:Option Nat) (T:Tb) (w:World) (hS:J1 w0 l w m) (hp:m.Perm (Ks b po pf T++r)) (hB:T.old.ps.length<=1099511627776) (hf:J14 Jd T.old) (hi:i<T.old.ps.length):
 Calls Tryz.prog 317 #[.pointer (some ⟨b,0,none⟩),.int .i64 i] w fun e w'=>e= .returned (.tuple #[])/\J1 w0 l w' (Ks b po pf {T with old:=T.old.bury i}++r):=by
 have hown:=hS.own.perm hp;have hsplit:Ks b po pf T++r=[(b,J27 po pf T),(po,J1p T.old.ps)]++(J6f pf T++r):=by simp[Ks]
 rw[hsplit] at hown hp;refine(Jcr b 0 po i (J05 po pf T) T.old w hB (hf.bd hB).1 (hf.bd hB).2 hown.left rfl rfl rfl hi).mono ?_
 rintro e w' ⟨he,hs⟩;refine⟨he,?_⟩
 rw[Je1 po pf T i] at hs;have:=hS.part hp hs
 simpa[Ks,J6f] using this
theorem Jei (b po f i:Nat) (T:Tb) (w:World) (hS:J1 w0 l w m) (hp:m.Perm (Ks b po (some f) T++r)) (hB:T.fresh.ps.length<=1099511627776) (hf:J14 Jd T.fresh) (hi:i<T.fresh.ps.length):
 Calls Tryz.prog 317 #[.pointer (some ⟨b,3,none⟩),.int .i64 i] w fun e w'=>e= .returned (.tuple #[])/\J1 w0 l w' (Ks b po (some f) {T with fresh:=T.fresh.bury i}++r):=by
 have hsplit:(Ks b po (some f) T++r).Perm ([(b,J27 po (some f) T),(f,J1p T.fresh.ps)]++((po,J1p T.old.ps)::r)):=List.Perm.cons _ (List.Perm.swap _ _ _);have hp2:=hp.trans hsplit;have hown:=hS.own.perm hp2;refine(Jcr b 3 f i (J05 po (some f) T) T.fresh w hB (hf.bd hB).1 (hf.bd hB).2 hown.left rfl rfl rfl hi).mono ?_
 rintro e w' ⟨he,hs⟩;refine⟨he,?_⟩
 rw[Ja5 po (some f) T i] at hs;exact(hS.part hp2 hs).permR (List.Perm.cons _ (List.Perm.swap _ _ _))
theorem Jl2 (b po i:Nat) (pf:Option Nat) (T:Tb) (key:ByteArray) (n:Int) (w:World) (hS:J1 w0 l w m) (hp:m.Perm (Ks b po pf T++r)) (hk:key.size<=maxLen) (hB:T.old.ps.length<=1099511627776) (hf:J14 Jd T.old)
 (hfd:J08 Jd T.old.ps key=(some i,false)) (hpp:J31 Jd T.old.ps key i):
  Calls Tryz.prog 278 #[.pointer (some ⟨b,0,none⟩),.string key,.int .i64 n] w fun e w'=>e= .returned (.tuple #[])/\J1 w0 l w' (Ks b po pf {T with old:=T.old.putAt i key n}++r):=by
  have hown:=hS.own.perm hp;have hsplit:Ks b po pf T++r=[(b,J27 po pf T),(po,J1p T.old.ps)]++(J6f pf T++r):=by simp[Ks]
  rw[hsplit] at hown hp;refine(Jfq b 0 po i (J05 po pf T) T.old key n w hk (by have:=hpp.lt;omega) hB (hf.bd hB).1 (hf.bd hB).2 hown.left rfl rfl rfl hfd hpp.lt hpp.free).mono ?_
  rintro e w' ⟨he,hs⟩;refine⟨he,?_⟩
  rw[Jf7 po pf T i key n hpp.free] at hs;have:=hS.part hp hs
  simpa[Ks,J6f] using this
theorem Jar (b po f i:Nat) (T:Tb) (key:ByteArray) (n:Int) (w:World) (hS:J1 w0 l w m) (hp:m.Perm (Ks b po (some f) T++r)) (hk:key.size<=maxLen) (hB:T.fresh.ps.length<=1099511627776) (hf:J14 Jd T.fresh)
 (hfd:J08 Jd T.fresh.ps key=(some i,false)) (hpp:J31 Jd T.fresh.ps key i):
  Calls Tryz.prog 278 #[.pointer (some ⟨b,3,none⟩),.string key,.int .i64 n] w fun e w'=>e= .returned (.tuple #[])/\J1 w0 l w' (Ks b po (some f) {T with fresh:=T.fresh.putAt i key n}++r):=by
  have hsplit:(Ks b po (some f) T++r).Perm ([(b,J27 po (some f) T),(f,J1p T.fresh.ps)]++((po,J1p T.old.ps)::r)):=List.Perm.cons _ (List.Perm.swap _ _ _);have hp2:=hp.trans hsplit;have hown:=hS.own.perm hp2;refine(Jfq b 3 f i (J05 po (some f) T) T.fresh key n w hk (by have:=hpp.lt;omega) hB (hf.bd hB).1 (hf.bd hB).2 hown.left rfl rfl rfl hfd hpp.lt hpp.free).mono ?_
  rintro e w' ⟨he,hs⟩;refine⟨he,?_⟩
  rw[Jc3 po (some f) T i key n hpp.free] at hs;exact(hS.part hp2 hs).permR (List.Perm.cons _ (List.Perm.swap _ _ _))
theorem Je2 {po f:Nat} (hS:J1 w0 l w (Ks b po (some f) T)):
 J1 w0 l ((((((((w.setCell ⟨b,0,none⟩ (.slice (some ⟨f,0,none⟩) T.fresh.ps.length T.fresh.ps.length)).setCell ⟨b,1,none⟩ (.int .i64 T.fresh.fl)).setCell ⟨b,2,none⟩ (.int .i64 T.fresh.gr)).setCell ⟨b,3,none⟩ (.slice none 0 0)).setCell ⟨b,4,none⟩ (.int .i64 0)).setCell ⟨b,5,none⟩ (.int .i64 0)).setCell ⟨b,6,none⟩ (.bool false)).setCell ⟨b,7,none⟩ (.int .i64 0))
  (Ks b f none ⟨T.fresh,J3f,false,0⟩):=by
 have fin:=(((((((hS.set 0 (.slice (some ⟨f,0,none⟩) T.fresh.ps.length T.fresh.ps.length)).set 1 (.int .i64 T.fresh.fl)).set 2 (.int .i64 T.fresh.gr)).set 3 (.slice none 0 0)).set 4 (.int .i64 0)).set 5 (.int .i64 0)).set 6 (.bool false)).set 7 (.int .i64 0)
 have e:(((((((((J05 po (some f) T).setIfInBounds 0 (.slice (some ⟨f,0,none⟩) T.fresh.ps.length T.fresh.ps.length)).setIfInBounds 1 (.int .i64 T.fresh.fl)).setIfInBounds 2 (.int .i64 T.fresh.gr)).setIfInBounds 3 (.slice none 0 0)).setIfInBounds 4 (.int .i64 0)).setIfInBounds 5 (.int .i64 0)).setIfInBounds 6 (.bool false)).setIfInBounds 7 (.int .i64 0))=J05 f none ⟨T.fresh,J3f,false,0⟩:=by
  simp[J05,J3f,J9p]
 rw[e] at fin;exact fin.less (List.Sublist.cons_cons _ (List.Sublist.cons _ (List.Sublist.refl _)))
theorem Jh7 (b po f:Nat) (T:Tb) (M:KV) (w:World) (hok:Jn Jd T M 0) (hm:T.moving=true) (hM:∀k∈M.map Prod.fst,k.size<=maxLen) (ho:Own w (Ks b po (some f) T)):
 Calls Tryz.prog 275 #[.pointer (some ⟨b,0,none⟩)] w fun e w'=>e= .returned (.tuple #[])/\∃l',Jv l' b M 4/\J1 w (Ks b po (some f) T) w' l':=by
 have hc:=J03 ho.head;have c6:=hc.c6;rw[hm] at c6;have hst:=hid (J1.refl ho);have hok':=hid hok;have hm':=hid hm;clear hok hm ho hc;go_enter Tryz.func275,Tryz.ntmps275;go_wp2_with fail;clear c6;go_loopw [8] (fun c wr=>∃(k po' f':Nat) (T':Tb),k<=4/\c= .int .i64 k/\Hid (Jn Jd T' M k)/\Hid (T'.moving=true)/\Hid (J1 w (Ks b po (some f) T) wr (Ks b po' (some f') T'))) (fun c _=>4 - (intOf c).toNat)
 case atStart=>exact⟨0,po,f,T,by omega,rfl,hok',hm',hst⟩
 case round=>
  obtain⟨k,po',f',T',hk,rfl,hT,hmv,hS⟩:=hrel
  by_cases hlt:k<4
  ·have hown:=hS.out.own
   obtain⟨hc0,hc1,hc2,hc3,hc4,hc5,hc6,hc7,hfz,hblt⟩:=J03 hown.head
   obtain⟨a1,a2,a3,a4,a5,a6⟩:=hT.out.busy hmv.out
   have hlB:=hT.out.lenB;have hpo:Kv wr po' T'.old.ps:=hown.tail.head;have hpolt:=Jc hpo;have p0:=hpo.st a1;have p1:=hpo.key a1;have p2:=hpo.n a1;replace hown:=hid hown;replace hpo:=hid hpo;clear hok' hm' hst;by_cases hst1:(Ja T'.old.ps T'.next).st=1
   ·have ht:((Ja T'.old.ps T'.next).st==1)=true:=by simpa using hst1
    have hk1:=hM _ (hT.out.keyOld a1 hst1);have hfd:=J34 Jd T'.fresh.ps (Ja T'.old.ps T'.next).key hT.out.fresh.ok (by omega)
    obtain⟨i,hi⟩:∃i,(J08 Jd T'.fresh.ps (Ja T'.old.ps T'.next).key)=(some i,false):=by
     have hnd:=hT.out;cases hr:J08 Jd T'.fresh.ps (Ja T'.old.ps T'.next).key with
     |mk r1 r2=>
      rw[hr] at hfd;cases r1 with
      |some i=>
       have:=(hnd.move hmv.out hst1 hfd rfl).1
       simp only at this
       exact⟨i,by rw[this]⟩
      |none=>
       cases r2 with
       |true=>obtain⟨i,hi,_⟩:=hfd.yes rfl;cases hi
       |false=>obtain⟨i,hi,_⟩:=hfd.place rfl (hnd.room hmv.out);cases hi
    rw[hi] at hfd;obtain⟨_,hpp,hT2⟩:=hT.out.move hmv.out hst1 hfd rfl
    have S1:=(hS.out.alloc (.cells #[.int .i64 (Ja T'.old.ps T'.next).st,.string (Ja T'.old.ps T'.next).key,.int .i64 (Ja T'.old.ps T'.next).n] 372)).drew;replace S1:=hid S1;replace hst1:=hid hst1;replace hi:=hid hi;replace a6:=hid a6;replace hpp:=hid hpp;replace hT2:=hid hT2;clear hfd;go_wp2_with fail;go_region
    go_wp2_with fail;have hpb:=(S1.out.own).lt (b:=wr.heap.size) (by simp)
    generalize hw1:(wr.alloc (.cells #[.int .i64 (Ja T'.old.ps T'.next).st,.string (Ja T'.old.ps T'.next).key,.int .i64 (Ja T'.old.ps T'.next).n] 372)).drew=w1 at S1 hpb⊢;clear hc0 hc1 hc2 hc3 hc4 hc5 hc6 hc7 hfz hblt p0 p1 p2 hw1 hpolt;have hb1:=S1.out.own.tail.head;have hpp1:=S1.out.own.head;have d7:=(J03 hb1).c7;have q1:=J0 hpp1 1;have q2:=J0 hpp1 2;simp only[List.getElem?_toArray,List.getElem?_cons_succ,List.getElem?_cons_zero] at q1 q2;clear hb1 hpp1;go_still_tail 7,(by kernel_rfl)
    go_wp2_with fail;refine(Jcs b po' T'.next (some f') T' _ S1.out.drew (m:=(wr.heap.size,_)::Ks b po' (some f') T') (r:=[(wr.heap.size,_)]) ((List.perm_append_singleton _ _).symm) hlB hT.out.old a1).mono ?_
    rintro e w2 ⟨rfl,S2⟩;replace S2:=hid S2;clear d7 q1 q2;go_wp2_with fail;have hpp2:=S2.out.own.right.head;have q1:=J0 hpp2 1;have q2:=J0 hpp2 2;simp only[List.getElem?_toArray,List.getElem?_cons_succ,List.getElem?_cons_zero] at q1 q2;clear hpp2;go_still_tail 7,(by kernel_rfl)
    go_wp2_with fail;refine(Jar b po' f' i {T' with old:=T'.old.bury T'.next} _ _ _ S2.out.drew (List.Perm.refl _) hk1 a3 hT.out.fresh hi.out hpp.out).mono ?_
    rintro e w3 ⟨rfl,S3⟩
    obtain⟨T3,hT3,hm3,hn3,S3⟩:∃T3:Tb,Jn Jd T3 M k/\T3.moving=true/\(Ja T3.old.ps T3.next).st≠1/\J1 w (Ks b po (some f) T) w3 (Ks b po' (some f') T3):=by
     refine⟨_,hT2.out,hmv.out,?_,S3.less (List.sublist_append_left _ _)⟩
     show(Ja (T'.old.ps.set T'.next J16) T'.next).st≠1
     rw[J29 a1,if_pos rfl];decide
    replace hT3:=hid hT3;replace hm3:=hid hm3;replace hn3:=hid hn3;replace S3:=hid S3;clear S1 S2 q1 q2 hpp hpb hi hT2 hS hpo hown a6;have hb3:=S3.out.own.head;obtain⟨d0,d1,d2,d3,d4,d5,d6,d7,dz,dlt⟩:=J03 hb3
    obtain⟨b1,b2,b3,b4,b5,b6⟩:=hT3.out.busy hm3.out
    replace b6:=hid b6;have hB3:=hT3.out.lenB;have S4:=S3.out.set 7 (.int .i64 ((T3.next+1:Nat):Int));rw[Je3] at S4;replace S4:=hid S4;have ecast:((T3.next+1:Nat):Int)=(T3.next:Int)+1:=by omega
    rw[ecast] at S4;clear hb3 S3 d0 d1 d2 d3 d4 d5 d6;go_wp2_with fail;clear dz d7 dlt;generalize w3.setCell ⟨b,7,none⟩ (.int .i64 ((T3.next:Int)+1))=w4 at S4⊢;obtain⟨d0,d1,d2,d3,d4,d5,d6,d7,dz,dlt⟩:=J03 S4.out.own.head
    simp only[J9p] at d3;by_cases hend:T3.next+1=T3.old.ps.length
    ·have ht:((T3.next:Int)+1==(T3.old.ps.length:Int))=true:=by rw[beq_iff_eq];omega
     have hfin:=hid (hT3.out.done (c':=4) hm3.out hn3.out hend);replace hend:=hid hend;go_quiet (fail);go_wp2_with fail;refine bodyPost_ret (results_none rfl _ _ _) rfl ?_;refine⟨rfl,_,⟨⟨T3.fresh,J3f,false,0⟩,f',none,hfin.out,rfl,rfl⟩,?_⟩
     exact Je2 (T:={T3 with next:=T3.next+1}) (S4.out.drewN nq)
    ·have ht:((T3.next:Int)+1==(T3.old.ps.length:Int))=false:=by rw[beq_eq_false_iff_ne];omega
     have hpass:=hid (hT3.out.pass hm3.out hn3.out (by omega))
     replace hend:=hid hend;go_quiet (fail);go_wp2_with fail;go_roundw
     case rel=>exact⟨k+1,po',f',_,by omega,by go_num,hpass,hm3,hid (S4.out.drewN nq)⟩
     case measure=>simp[intOf];omega
   ·have ht:((Ja T'.old.ps T'.next).st==1)=false:=by simpa using hst1
    have S1:=(hS.out.alloc (.cells #[.int .i64 (Ja T'.old.ps T'.next).st,.string (Ja T'.old.ps T'.next).key,.int .i64 (Ja T'.old.ps T'.next).n] 372)).drew;replace hst1:=hid hst1;replace a6:=hid a6;go_wp2_with fail;go_region
    generalize hw1:(wr.alloc (.cells #[.int .i64 (Ja T'.old.ps T'.next).st,.string (Ja T'.old.ps T'.next).key,.int .i64 (Ja T'.old.ps T'.next).n] 372)).drew=w3 at S1⊢;have hpq:=J0 S1.own.head 0;simp only[List.getElem?_toArray,List.getElem?_cons_zero] at hpq;have S3:=hid (S1.less (List.sublist_cons_self _ _));clear hc0 hc1 hc2 hc3 hc4 hc5 hc6 hc7 hfz hblt p0 p1 p2 hw1 hpolt S1;obtain⟨T3,hT3,hm3,hn3,hTT⟩:∃T3:Tb,Hid (Jn Jd T3 M k)/\Hid (T3.moving=true)/\Hid ((Ja T3.old.ps T3.next).st≠1)/\T3=T':=⟨T',hT,hmv,hst1,rfl⟩
    subst hTT;have hb3:=S3.out.own.head;obtain⟨d0,d1,d2,d3,d4,d5,d6,d7,dz,dlt⟩:=J03 hb3
    obtain⟨b1,b2,b3,b4,b5,b6⟩:=hT3.out.busy hm3.out
    replace b6:=hid b6;have hB3:=hT3.out.lenB;have S4:=S3.out.set 7 (.int .i64 ((T3.next+1:Nat):Int));rw[Je3] at S4;replace S4:=hid S4;have ecast:((T3.next+1:Nat):Int)=(T3.next:Int)+1:=by omega
    rw[ecast] at S4;clear hb3 S3 d0 d1 d2 d3 d4 d5 d6;go_wp2_with fail;clear dz d7 dlt;generalize w3.setCell ⟨b,7,none⟩ (.int .i64 ((T3.next:Int)+1))=w4 at S4⊢;obtain⟨d0,d1,d2,d3,d4,d5,d6,d7,dz,dlt⟩:=J03 S4.out.own.head
    simp only[J9p] at d3;by_cases hend:T3.next+1=T3.old.ps.length
    ·have ht:((T3.next:Int)+1==(T3.old.ps.length:Int))=true:=by rw[beq_iff_eq];omega
     have hfin:=hid (hT3.out.done (c':=4) hm3.out hn3.out hend);replace hend:=hid hend;go_quiet (fail);go_wp2_with fail;refine bodyPost_ret (results_none rfl _ _ _) rfl ?_;refine⟨rfl,_,⟨⟨T3.fresh,J3f,false,0⟩,f',none,hfin.out,rfl,rfl⟩,?_⟩
     exact Je2 (T:={T3 with next:=T3.next+1}) (S4.out.drewN nq)
    ·have ht:((T3.next:Int)+1==(T3.old.ps.length:Int))=false:=by rw[beq_eq_false_iff_ne];omega
     have hpass:=hid (hT3.out.pass hm3.out hn3.out (by omega))
     replace hend:=hid hend;go_quiet (fail);go_wp2_with fail;go_roundw
     case rel=>exact⟨k+1,po',f',_,by omega,by go_num,hpass,hm3,hid (S4.out.drewN nq)⟩
     case measure=>simp[intOf];omega
  ·obtain rfl:k=4:=by omega
   go_wp2_with fail;go_end0
   exact⟨rfl,_,⟨T',po',some f',hT.out,hmv.out,rfl⟩,hS.out⟩
theorem Jn.idleAny {c':Nat} (h:Jn hs T M c) (hm:T.moving=false):Jn hs T M c':=
 ⟨h.old,h.fresh,h.len,h.lenB,h.perm,h.nodup,h.idle,fun e=>by rw[hm] at e;cases e⟩
theorem J7f (l:Hp) (b:Nat) (M:KV) (w:World) (hT:Jv l b M 0) (hM:∀k∈M.map Prod.fst,k.size<=maxLen) (ho:Own w l):
 Calls Tryz.prog 275 #[.pointer (some ⟨b,0,none⟩)] w fun e w'=>e= .returned (.tuple #[])/\∃l',Jv l' b M 4/\J1 w l w' l':=by
 obtain⟨T,po,pf,hok,hmv,rfl⟩:=hT
 cases pf with
 |some f=>exact Jh7 b po f T M w hok hmv hM ho
 |none=>
  have c6:=(J03 ho.head).c6;have hm:T.moving=false:=hmv;rw[hm] at c6;have hfin:=hid (hok.idleAny (c':=4) hm);have hst:=hid (J1.refl ho);replace hmv:=hid hmv;clear ho hok hm;go_enter Tryz.func275,Tryz.ntmps275;go_wp2_with fail;refine bodyPost_ret (results_none rfl _ _ _) rfl ?_;exact⟨rfl,_,⟨T,po,none,hfin.out,hmv.out,rfl⟩,hst.out⟩
inductive Jhn (b:Nat) (T:Tb) (key:ByteArray):Value->Int->Prop where
 |fresh (i:Nat) (hm:T.moving=true) (hi:i<T.fresh.ps.length) (h1:(Ja T.fresh.ps i).st=1) (hk:(Ja T.fresh.ps i).key=key):Jhn b T key (.pointer (some ⟨b,3,none⟩)) i
 |old (i:Nat) (hi:i<T.old.ps.length) (h1:(Ja T.old.ps i).st=1) (hk:(Ja T.old.ps i).key=key):Jhn b T key (.pointer (some ⟨b,0,none⟩)) i
 |none (ho:∀(i:Nat) (p:Pl),T.old.ps[i]? =some p->p.st=1->p.key≠key) (hf:∀(i:Nat) (p:Pl),T.fresh.ps[i]? =some p->p.st=1->p.key≠key):Jhn b T key (.pointer .none) (-1)
def Jho (b:Nat) (T:Tb) (key:ByteArray) (w:World) (e:Ending) (w':World):Prop:=
 (∃n,w'=w.drewN n)/\∃v i,e= .returned (.tuple #[v,.int .i64 i])/\Jhn b T key v i
def J8n (ps:List Pl) (key:ByteArray):Prop:=∀(i:Nat) (p:Pl),ps[i]? =some p->p.st=1->p.key≠key
theorem Jeh (b po:Nat) (pf:Option Nat) (T:Tb) (M:KV) (c:Nat) (key:ByteArray) (w:World) (hok:Jn Jd T M c) (hmv:T.moving=pf.isSome) (hk:key.size<=maxLen) (ho:Own w (Ks b po pf T)):
 Calls Tryz.prog 276 #[.pointer (some ⟨b,0,none⟩),.string key] w (Jho b T key w):=by
 have hc:=J03 ho.head;have hpo:Kv w po T.old.ps:=ho.tail.head;have hL:=hok.len;have hLB:=hok.lenB;have hfo:=J34 Jd T.old.ps key hok.old.ok (by omega)
 have i0:∀w,(Instr.index 402 (.agg #[.pointer (some ⟨b,3,none⟩),.pointer (some ⟨b,0,none⟩)]) (.int .i64 0)).run Tryz.prog w= .ok (.pointer (some ⟨b,3,none⟩)) w:=fun _=>by kernel_rfl
 have i1:∀w,(Instr.index 402 (.agg #[.pointer (some ⟨b,3,none⟩),.pointer (some ⟨b,0,none⟩)]) (.int .i64 1)).run Tryz.prog w= .ok (.pointer (some ⟨b,0,none⟩)) w:=fun _=>by kernel_rfl
 have hr:∀n,(J08 Jd T.old.ps key).2=n->True:=fun _ _=>trivial
 clear hr;have c0:=hc.c0;have c3:=hc.c3
 have hfind:∀n,Calls Tryz.prog 318 #[.pointer (some ⟨b,0,none⟩),.string key] (w.drewN n) fun e w'=>
  e= .returned (.tuple #[.int .i64 (J1d (J08 Jd T.old.ps key).1),.bool (J08 Jd T.old.ps key).2])/\∃m,w'=(w.drewN n).drewN m:=
  fun n=>J94 b 0 po T.old.ps key (w.drewN n) hk (by omega) hLB (by simpa using c0) (by simpa[Kv] using hpo)
 replace hfind:=hid hfind;replace hpo:=hid hpo;have hpost:Hid (∀w' v i,(∃n,w'=w.drewN n)->Jhn b T key v i->Jho b T key w (.returned (.tuple #[v,.int .i64 i])) w'):=fun w' v i h1 h2=>⟨h1,v,i,rfl,h2⟩
 cases pf with
 |none=>
  have hm:T.moving=false:=hmv;have hnf:=(hok.idle hm).1;have habs:J8n T.fresh.ps key:=by rw[hnf];intro i p hp;simp[J3f] at hp
  have hz:T.fresh.ps.length=0:=by rw[hnf];rfl
  simp only[J9p] at c3;replace habs:=hid habs;clear hz hnf hm hmv hok ho hc;cases hro:J08 Jd T.old.ps key with
  |mk r1 r2=>
  rw[hro] at hfo;rw[hro] at hfind;simp only at hfind
  clear hro;cases r2 with
  |true=>
   obtain⟨i,hi,hlt,hs1,hke⟩:=hfo.yes rfl
   simp only at hi
   subst hi;simp only[J1d] at hfind;replace hlt:=hid hlt;replace hs1:=hid hs1;replace hke:=hid hke;clear hfo;go_enter Tryz.func276,Tryz.ntmps276;go_wp2_with fail;go_quiet (fail);go_wp2_with fail;refine wp_loop_rounds 2 ?_;rw[rounds_succ];go_wp2_with fail;rw[rounds_succ];go_wp2_with fail;refine(hfind.out _).mono ?_
   rintro e w' ⟨rfl,m,rfl⟩;go_wp2_with fail;go_ret2;exact hpost.out _ _ _ ⟨_,rfl⟩ (.old i hlt.out hs1.out hke.out)
  |false=>
   have habo:=hid (hfo.no rfl).1;clear hfo;go_enter Tryz.func276,Tryz.ntmps276;go_wp2_with fail;go_quiet (fail);go_wp2_with fail;refine wp_loop_rounds 3 ?_;rw[rounds_succ];go_wp2_with fail;rw[rounds_succ];go_wp2_with fail;refine(hfind.out _).mono ?_
   rintro e w' ⟨rfl,m,rfl⟩;go_wp2_with fail;rw[rounds_succ];go_wp2_with fail;go_ret2;exact hpost.out _ _ _ ⟨_,rfl⟩ (.none habo.out habs.out)
 |some f=>
  have hm:T.moving=true:=hmv;obtain⟨a1,a2,a3,a4,a5,a6⟩:=hok.busy hm
  have hff:=J34 Jd T.fresh.ps key hok.fresh.ok (by omega)
  have hpf:Kv w f T.fresh.ps:=ho.tail.tail.head;simp only[J9p] at c3
  have hfindF:∀n,Calls Tryz.prog 318 #[.pointer (some ⟨b,3,none⟩),.string key] (w.drewN n) fun e w'=>
   e= .returned (.tuple #[.int .i64 (J1d (J08 Jd T.fresh.ps key).1),.bool (J08 Jd T.fresh.ps key).2])/\∃m,w'=(w.drewN n).drewN m:=
   fun n=>J94 b 3 f T.fresh.ps key (w.drewN n) hk (by omega) a3 (by simpa using c3) (by simpa[Kv] using hpf)
  replace hfindF:=hid hfindF;have hz:((T.fresh.ps.length:Int)==0)=false:=by rw[beq_eq_false_iff_ne];omega
  replace hm:=hid hm;clear hmv hok ho hc a1 a4 a5 a6 hpf;cases hro:J08 Jd T.old.ps key with
  |mk r1 r2=>
  rw[hro] at hfo;rw[hro] at hfind;simp only at hfind
  clear hro;cases hrf:J08 Jd T.fresh.ps key with
  |mk s1 s2=>
  rw[hrf] at hff;rw[hrf] at hfindF;simp only at hfindF
  clear hrf;cases s2 with
  |true=>
   obtain⟨i,hi,hlt,hs1,hke⟩:=hff.yes rfl
   simp only at hi
   subst hi;simp only[J1d] at hfindF;replace hlt:=hid hlt;replace hs1:=hid hs1;replace hke:=hid hke;clear hff hfo;go_enter Tryz.func276,Tryz.ntmps276;go_wp2_with fail;go_quiet (fail);go_wp2_with fail;refine wp_loop_rounds 1 ?_;rw[rounds_succ];go_wp2_with fail;refine(hfindF.out _).mono ?_
   rintro e w' ⟨rfl,m,rfl⟩;go_wp2_with fail;go_ret2;exact hpost.out _ _ _ ⟨_,rfl⟩ (.fresh i hm.out hlt.out hs1.out hke.out)
  |false=>
   have habf:=hid (hff.no rfl).1;clear hff;cases r2 with
   |true=>
    obtain⟨i,hi,hlt,hs1,hke⟩:=hfo.yes rfl
    simp only at hi
    subst hi;simp only[J1d] at hfind;replace hlt:=hid hlt;replace hs1:=hid hs1;replace hke:=hid hke;clear hfo;go_enter Tryz.func276,Tryz.ntmps276;go_wp2_with fail;go_quiet (fail);go_wp2_with fail;refine wp_loop_rounds 2 ?_;rw[rounds_succ];go_wp2_with fail;refine(hfindF.out _).mono ?_
    rintro e w' ⟨rfl,m,rfl⟩;go_wp2_with fail;rw[rounds_succ];go_wp2_with fail;refine(hfind.out _).mono ?_
    rintro e w' ⟨rfl,m2,rfl⟩;go_wp2_with fail;go_ret2;exact hpost.out _ _ _ ⟨_,rfl⟩ (.old i hlt.out hs1.out hke.out)
   |false=>
    have habo:=hid (hfo.no rfl).1;clear hfo;go_enter Tryz.func276,Tryz.ntmps276;go_wp2_with fail;go_quiet (fail);go_wp2_with fail;refine wp_loop_rounds 3 ?_;rw[rounds_succ];go_wp2_with fail;refine(hfindF.out _).mono ?_
    rintro e w' ⟨rfl,m,rfl⟩;go_wp2_with fail;rw[rounds_succ];go_wp2_with fail;refine(hfind.out _).mono ?_
    rintro e w' ⟨rfl,m2,rfl⟩;go_wp2_with fail;rw[rounds_succ];go_wp2_with fail;go_ret2;exact hpost.out _ _ _ ⟨_,rfl⟩ (.none habo.out habf.out)
theorem Jn.noneAt {key:ByteArray} (h:Jn hs T M c) (ho:J8n T.old.ps key) (hf:J8n T.fresh.ps key):look M key=none:=
 J5g.2 (J88 h ho hf)
theorem J4d {k:ByteArray} (h:look M k=none):Jz M k=M:=by
 rw[Jz,List.filter_eq_self];intro p hp
 have:=J5g.1 h
 have:p.1≠k:=fun e=>this (List.mem_map.2 ⟨p,hp,e⟩)
 simpa using this
theorem Jv.nodup (h:Jv l b M c):(M.map Prod.fst).Nodup:=by
 obtain⟨T,po,pf,h1,_,_⟩:=h;exact h1.nodup
def Jbc (l:Hp) (b:Nat) (M:KV) (key:ByteArray) (w:World) (e:Ending) (w':World):Prop:=
 e= .returned (.tuple #[.int .i64 ((look M key).getD 0),.bool (look M key).isSome])/\∃l',Jv l' b M 4/\J1 w l w' l'
theorem Jbc.mk {l':Hp} {key:ByteArray} {w':World} {n:Int} {is:Bool} (hl:(look M key).getD 0=n) (hi:(look M key).isSome=is) (h:Jv l' b M 4) (hs:J1 w l w' l'):
 Jbc l b M key w (.returned (.tuple #[.int .i64 n,.bool is])) w':=by subst hl hi;exact⟨rfl,l',h,hs⟩
theorem Je4 (l:Hp) (b:Nat) (M:KV) (key:ByteArray) (w:World) (hT:Jv l b M 0) (hM:∀k∈M.map Prod.fst,k.size<=maxLen) (hk:key.size<=maxLen) (ho:Own w l):
 Calls Tryz.prog 239 #[.pointer (some ⟨b,0,none⟩),.string key] w (Jbc l b M key w):=by
 have hstep:=hid (J7f l b M w hT hM ho);clear hT hM ho;go_enter Tryz.func239,Tryz.ntmps239;go_wp2_with fail;refine hstep.out.mono ?_;rintro e w1 ⟨rfl,l1,hT1,S1⟩;obtain⟨T,po,pf,hok,hmv,rfl⟩:=hT1
 have hat:=hid (Jeh b po pf T M 4 key w1 hok hmv hk S1.own);replace S1:=hid S1;replace hmv:=hid hmv;go_wp2_with fail;refine hat.out.mono ?_;rintro e w2 ⟨⟨n,rfl⟩,v,i,rfl,hv⟩;have hfin:=hid (show Jv (Ks b po pf T) b M 4 from⟨T,po,pf,hok,hmv.out,rfl⟩);cases hv with
 |fresh i hm hi h1 hke=>
  have hl:=hok.memFresh hi h1;rw[hke] at hl;have hpf:∃f,pf=some f:=by have:=hmv.out;rw[hm] at this;exact Option.isSome_iff_exists.1 this.symm
  obtain⟨f,rfl⟩:=hpf
  have c3:=(J03 S1.out.own.head).c3;have hpl:Kv w1 f T.fresh.ps:=S1.out.own.tail.tail.head;have p2:=hpl.n hi;have hB:=(hok.busy hm).2.2.1;simp only[J9p] at c3;replace hl:=hid hl;clear hat hm h1 hke hpl hok hmv;go_wp2_with fail;go_ret2;exact .mk (by rw[hl.out];rfl) (by rw[hl.out];rfl) hfin.out (S1.out.drewN n)
 |old i hi h1 hke=>
  have hl:=hok.memOld hi h1;rw[hke] at hl;have c0:=(J03 S1.out.own.head).c0;have hpl:Kv w1 po T.old.ps:=S1.out.own.tail.head;have p2:=hpl.n hi;have hB:=hok.lenB;replace hl:=hid hl;clear hat h1 hke hpl hok hmv;go_wp2_with fail;go_ret2;exact .mk (by rw[hl.out];rfl) (by rw[hl.out];rfl) hfin.out (S1.out.drewN n)
 |none hno hnf=>
  have hl:=hid (hok.noneAt hno hnf);clear hat hno hnf hok hmv;go_wp2_with fail;go_ret2;exact .mk (by rw[hl.out];rfl) (by rw[hl.out];rfl) hfin.out (S1.out.drewN n)
def J8o (l:Hp) (b:Nat) (M:KV) (key:ByteArray) (w:World) (e:Ending) (w':World):Prop:=
 e= .returned (.tuple #[.int .i64 ((look M key).getD 0),.bool (look M key).isSome])/\∃l',Jv l' b (Jz M key) 0/\J1 w l w' l'
theorem J8o.mk {l':Hp} {key:ByteArray} {w':World} {n:Int} {is:Bool} (hl:(look M key).getD 0=n) (hi:(look M key).isSome=is) (h:Jv l' b (Jz M key) 0) (hs:J1 w l w' l'):
 J8o l b M key w (.returned (.tuple #[.int .i64 n,.bool is])) w':=by subst hl hi;exact⟨rfl,l',h,hs⟩
theorem Jhc (l:Hp) (b:Nat) (M:KV) (key:ByteArray) (w:World) (hT:Jv l b M 0) (hM:∀k∈M.map Prod.fst,k.size<=maxLen) (hk:key.size<=maxLen) (ho:Own w l):
 Calls Tryz.prog 295 #[.pointer (some ⟨b,0,none⟩),.string key] w (J8o l b M key w):=by
 have hstep:=hid (J7f l b M w hT hM ho);clear hT hM ho;go_enter Tryz.func295,Tryz.ntmps295;go_wp2_with fail;refine hstep.out.mono ?_;rintro e w1 ⟨rfl,l1,hT1,S1⟩;obtain⟨T,po,pf,hok,hmv,rfl⟩:=hT1
 have hat:=hid (Jeh b po pf T M 4 key w1 hok hmv hk S1.own);replace S1:=hid S1;replace hmv:=hid hmv;go_wp2_with fail;refine hat.out.mono ?_;rintro e w2 ⟨⟨n,rfl⟩,v,i,rfl,hv⟩;cases hv with
 |fresh i hm hi h1 hke=>
  have hl:=hok.memFresh hi h1;have hfin:=hok.buryFresh hm hi h1;rw[hke] at hl hfin;have hpf:∃f,pf=some f:=by have:=hmv.out;rw[hm] at this;exact Option.isSome_iff_exists.1 this.symm
  obtain⟨f,rfl⟩:=hpf
  have c3:=(J03 S1.out.own.head).c3;have hpl:Kv w1 f T.fresh.ps:=S1.out.own.tail.tail.head;have p2:=hpl.n hi;have hB:=(hok.busy hm).2.2.1;simp only[J9p] at c3;have hbury:=hid (Jei b po f i T (w1.drewN n) (S1.out.drewN n) (r:=[]) (by simp) hB hok.fresh hi)
  replace hl:=hid hl;replace hfin:=hid hfin;clear hat hm h1 hke hpl hok;go_wp2_with fail;refine hbury.out.mono ?_;rintro e w3 ⟨rfl,S3⟩;replace S3:=hid S3;go_wp2_with fail;go_ret2;exact .mk (by rw[hl.out];rfl) (by rw[hl.out];rfl) ⟨_,po,some f,hfin.out.weak (Nat.zero_le _),hmv.out,rfl⟩ (by simpa using S3.out)
 |old i hi h1 hke=>
  have hl:=hok.memOld hi h1;have hfin:=hok.buryOld hi h1;rw[hke] at hl hfin;have c0:=(J03 S1.out.own.head).c0;have hpl:Kv w1 po T.old.ps:=S1.out.own.tail.head;have p2:=hpl.n hi;have hB:=hok.lenB;have hbury:=hid (Jcs b po i pf T (w1.drewN n) (S1.out.drewN n) (r:=[]) (by simp) hB hok.old hi)
  replace hl:=hid hl;replace hfin:=hid hfin;clear hat h1 hke hpl hok;go_wp2_with fail;refine hbury.out.mono ?_;rintro e w3 ⟨rfl,S3⟩;replace S3:=hid S3;go_wp2_with fail;go_ret2;exact .mk (by rw[hl.out];rfl) (by rw[hl.out];rfl) ⟨_,po,pf,hfin.out.weak (Nat.zero_le _),hmv.out,rfl⟩ (by simpa using S3.out)
 |none hno hnf=>
  have hl:=hid (hok.noneAt hno hnf);have hfin:=hid (show Jv (Ks b po pf T) b (Jz M key) 0 by rw[J4d hl.out];exact⟨T,po,pf,hok.weak (Nat.zero_le _),hmv.out,rfl⟩)
  clear hat hno hnf hok hmv;go_wp2_with fail;go_ret2;exact .mk (by rw[hl.out];rfl) (by rw[hl.out];rfl) hfin.out (S1.out.drewN n)
end Go.Proofs.YtefjbegnlolgbaaGreatDoor
