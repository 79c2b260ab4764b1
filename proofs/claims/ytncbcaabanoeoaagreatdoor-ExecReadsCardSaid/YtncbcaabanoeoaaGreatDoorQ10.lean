/-
(*row).put and (*row).bury: what they make of a row in memory.
-/
import Derived.Deep.LoopGhost
import Derived.Deep.RegionWith
import Derived.StillTailTactics
import Derived.Test.YtncbcaabanoeoaaGreatDoorQ09
set_option linter.unusedVariables false
set_option linter.unusedSimpArgs false
set_option maxRecDepth 100000
set_option maxHeartbeats 8000000
namespace Go.Proofs.YtncbcaabanoeoaaGreatDoor
open Go Go.RowKit
variable {l r m:Hp}{b c:Nat}{M:KV}{w w0:World}{T:Tb}{hs:ByteArray → Nat}
theorem J89 (ps:List Pl) (i:Nat) (q:Pl) (hi:i<ps.length):
 (((J1t ps).toArray.setIfInBounds (i*3) (.int .i64 q.st)).setIfInBounds (i*3+1) (.string q.key)).setIfInBounds (i*3+2) (.int .i64 q.n)=(J1t (ps.set i q)).toArray:=by
 simp only[List.setIfInBounds_toArray];congr 1
 apply List.ext_getElem?
 intro m
 obtain⟨a,j,hj,rfl⟩:∃a j,j<3/\m=a*3+j:=⟨m/3,m%3,Nat.mod_lt _ (by omega),by omega⟩
 have hl:=Jch ps;rw[J26 _ _ _ hj,List.length_set,J3y hi];simp only[List.getElem?_set,List.length_set,hl];by_cases ha:a=i
 ·subst ha
  rw[if_pos hi,if_pos rfl];obtain rfl|rfl|rfl:j=0\/j=1\/j=2:=by omega
  ·simp[J3z];omega
  ·simp[J3z];omega
  ·simp[J3z];omega
 ·rw[if_neg ha,if_neg (by omega),if_neg (by omega),if_neg (by omega),J26 _ _ _ hj]
abbrev J2e (ps:List Pl):Obj:=.cells (J1t ps).toArray 85 (0,0)
def putCells (cs:Array Value) (o:Nat) (r:Row) (i:Nat):Array Value:=
 if(Jo r.ps i).st=2 then(cs.setIfInBounds (o+1) (.int .i64 (r.fl+1))).setIfInBounds (o+2) (.int .i64 (r.gr - 1)) else cs.setIfInBounds (o+1) (.int .i64 (r.fl+1))
theorem Jp0 (b o pb i:Nat) (cs:Array Value) (r:Row) (key:ByteArray) (n:Int) (w:World) (hk:key.size<=maxLen) (hL:0<r.ps.length) (hB:r.ps.length<=1099511627776)
 (hfl:0<=r.fl/\r.fl<=1099511627776) (hgr:0<=r.gr/\r.gr<=1099511627776)
 (ho:Own w [(b,.cells cs 82 (0,0)),(pb,J2e r.ps)])
 (h0:cs[o]? =some (.slice (some ⟨pb,0,none⟩) r.ps.length r.ps.length)) (h1:cs[o+1]? =some (.int .i64 r.fl)) (h2:cs[o+2]? =some (.int .i64 r.gr))
 (hf:J18 Js r.ps key=(some i,false)) (hi:i<r.ps.length) (hst:(Jo r.ps i).st≠1):
  Calls Tryz.prog 176 #[.pointer (some ⟨b,o,none⟩),.string key,.int .i64 n] w fun e w'=>
   e= .returned (.tuple #[])/\J3 w [(b,.cells cs 82 (0,0)),(pb,J2e r.ps)] w' [(b,.cells (putCells cs o r i) 82 (0,0)),(pb,J2e (r.putAt i key n).ps)]:=by
  have hb:w.heap[b]? =some (.cells cs 82 (0,0)):=ho.head;have hp:J0o w pb r.ps:=ho.tail.head;have hne:b≠pb:=by have:=ho.nd;simp at this;exact this
  have hstep:=hid (J3.refl ho);have c0:w.cell? ⟨b,o,none⟩=_:=(J2 hb o).trans h0;have c1:w.cell? ⟨b,o+1,none⟩=_:=(J2 hb (o+1)).trans h1;have c2:w.cell? ⟨b,o+2,none⟩=_:=(J2 hb (o+2)).trans h2;have f1:w.frozen? ⟨b,o+1,none⟩=false:=Jg hb _;have f2:w.frozen? ⟨b,o+2,none⟩=false:=Jg hb _;have p0:=hp.st hi;have p1:=hp.key hi;have p2:=hp.n hi;have g0:w.frozen? ⟨pb,i*3,none⟩=false:=Jg hp _;have g1:w.frozen? ⟨pb,i*3+1,none⟩=false:=Jg hp _;have g2:w.frozen? ⟨pb,i*3+2,none⟩=false:=Jg hp _;have hfd:=Je1 b o pb r.ps key w hk hL hB c0 hp;rw[hf] at hfd;simp only[J2n] at hfd;replace hfd:=hid hfd;have hps:=hid hp;have hset:=hid (J89 r.ps i ⟨1,key,n⟩ hi);have hpa:(r.putAt i key n).ps=r.ps.set i ⟨1,key,n⟩:=by unfold Row.putAt;rw[if_neg hst]
  rw[hpa];clear hpa hb hp ho hf h0 h1 h2;by_cases h2:(Jo r.ps i).st=2
  ·have ht:((Jo r.ps i).st==2)=true:=by simpa using h2
   have hpc:putCells cs o r i=(cs.setIfInBounds (o+1) (.int .i64 (r.fl+1))).setIfInBounds (o+2) (.int .i64 (r.gr - 1)):=by unfold putCells;rw[if_pos h2]
   rw[hpc];clear hpc h2;go_enter Tryz.func176,Tryz.ntmps176;go_wp2_with fail;refine hfd.out.mono ?_;rintro e w' ⟨rfl,nd,rfl⟩;go_wp2_with fail;go_end0
   refine⟨rfl,?_⟩
   have fin:=(((((hstep.out.drewN nd).set (o+1) (.int .i64 (r.fl+1))).set (o+2) (.int .i64 (r.gr - 1))).set2 (i*3) (.int .i64 1)).set2 (i*3+1) (.string key)).set2 (i*3+2) (.int .i64 n);rw[hset.out] at fin;exact fin
  ·have ht:((Jo r.ps i).st==2)=false:=by simpa using h2
   have hpc:putCells cs o r i=cs.setIfInBounds (o+1) (.int .i64 (r.fl+1)):=by unfold putCells;rw[if_neg h2]
   rw[hpc];clear hpc h2;go_enter Tryz.func176,Tryz.ntmps176;go_wp2_with fail;refine hfd.out.mono ?_;rintro e w' ⟨rfl,nd,rfl⟩;go_wp2_with fail;go_end0
   refine⟨rfl,?_⟩
   have fin:=((((hstep.out.drewN nd).set (o+1) (.int .i64 (r.fl+1))).set2 (i*3) (.int .i64 1)).set2 (i*3+1) (.string key)).set2 (i*3+2) (.int .i64 n);rw[hset.out] at fin;exact fin
def J6b (cs:Array Value) (o:Nat) (r:Row):Array Value:=(cs.setIfInBounds (o+1) (.int .i64 (r.fl - 1))).setIfInBounds (o+2) (.int .i64 (r.gr+1))
theorem Jiv (b o pb i:Nat) (cs:Array Value) (r:Row) (w:World) (hB:r.ps.length<=1099511627776)
 (hfl:0<=r.fl/\r.fl<=1099511627776) (hgr:0<=r.gr/\r.gr<=1099511627776)
 (ho:Own w [(b,.cells cs 82 (0,0)),(pb,J2e r.ps)])
 (h0:cs[o]? =some (.slice (some ⟨pb,0,none⟩) r.ps.length r.ps.length)) (h1:cs[o+1]? =some (.int .i64 r.fl)) (h2:cs[o+2]? =some (.int .i64 r.gr)) (hi:i<r.ps.length):
  Calls Tryz.prog 175 #[.pointer (some ⟨b,o,none⟩),.int .i64 i] w fun e w'=>
   e= .returned (.tuple #[])/\J3 w [(b,.cells cs 82 (0,0)),(pb,J2e r.ps)] w' [(b,.cells (J6b cs o r) 82 (0,0)),(pb,J2e (r.bury i).ps)]:=by
  have hb:w.heap[b]? =some (.cells cs 82 (0,0)):=ho.head;have hp:J0o w pb r.ps:=ho.tail.head;have hne:b≠pb:=by have:=ho.nd;simp at this;exact this
  have hstep:=hid (J3.refl ho);have c0:w.cell? ⟨b,o,none⟩=_:=(J2 hb o).trans h0;have c1:w.cell? ⟨b,o+1,none⟩=_:=(J2 hb (o+1)).trans h1;have c2:w.cell? ⟨b,o+2,none⟩=_:=(J2 hb (o+2)).trans h2;have f1:w.frozen? ⟨b,o+1,none⟩=false:=Jg hb _;have f2:w.frozen? ⟨b,o+2,none⟩=false:=Jg hb _;have p0:=hp.st hi;have p1:=hp.key hi;have p2:=hp.n hi;have g0:w.frozen? ⟨pb,i*3,none⟩=false:=Jg hp _;have g1:w.frozen? ⟨pb,i*3+1,none⟩=false:=Jg hp _;have g2:w.frozen? ⟨pb,i*3+2,none⟩=false:=Jg hp _;have hset:=hid (J89 r.ps i J2c hi);have hpa:(r.bury i).ps=r.ps.set i J2c:=rfl;rw[hpa];clear hpa hb hp ho h0 h1 h2;go_enter Tryz.func175,Tryz.ntmps175;go_wp2_with fail;go_end0
  refine⟨rfl,?_⟩
  have fin:=((((hstep.out.set2 (i*3) (.int .i64 2)).set2 (i*3+1) (.string ByteArray.empty)).set2 (i*3+2) (.int .i64 0)).set (o+1) (.int .i64 (r.fl - 1))).set (o+2) (.int .i64 (r.gr+1));have hset':=hset.out;simp only[J2c] at hset';rw[hset'] at fin;exact fin
def Jcw (o:Option Nat) (n:Nat):Value:=match o with
 |none=>.slice none 0 0
 |some b=>.slice (some ⟨b,0,none⟩) n n
def J0x (po:Nat) (pf:Option Nat) (T:Tb):Array Value:=
 #[.slice (some ⟨po,0,none⟩) T.old.ps.length T.old.ps.length,.int .i64 T.old.fl,.int .i64 T.old.gr,Jcw pf T.fresh.ps.length,.int .i64 T.fresh.fl,.int .i64 T.fresh.gr,.bool T.moving,.int .i64 T.next]
abbrev J2i (po:Nat) (pf:Option Nat) (T:Tb):Obj:=.cells (J0x po pf T) 82 (0,0)
def J5s (pf:Option Nat) (T:Tb):Hp:=match pf with
 |none=>[]
 |some f=>[(f,J2e T.fresh.ps)]
def J08 (b po:Nat) (pf:Option Nat) (T:Tb):Hp:=(b,J2i po pf T)::(po,J2e T.old.ps)::J5s pf T
def K5 (l:Hp) (b:Nat) (M:KV) (c:Nat):Prop:=∃T po pf,Kp Js T M c/\T.moving=pf.isSome/\l=J08 b po pf T
theorem K5.weak {c':Nat} (h:K5 l b M c) (hc:c'<=c):K5 l b M c':=by
 obtain⟨T,po,pf,h1,h2,h3⟩:=h
 exact⟨T,po,pf,h1.weak hc,h2,h3⟩
structure Jsd (w:World) (b po:Nat) (pf:Option Nat) (T:Tb):Prop where
 c0:w.cell? ⟨b,0,none⟩=some (.slice (some ⟨po,0,none⟩) T.old.ps.length T.old.ps.length)
 c1:w.cell? ⟨b,1,none⟩=some (.int .i64 T.old.fl)
 c2:w.cell? ⟨b,2,none⟩=some (.int .i64 T.old.gr)
 c3:w.cell? ⟨b,3,none⟩=some (Jcw pf T.fresh.ps.length)
 c4:w.cell? ⟨b,4,none⟩=some (.int .i64 T.fresh.fl)
 c5:w.cell? ⟨b,5,none⟩=some (.int .i64 T.fresh.gr)
 c6:w.cell? ⟨b,6,none⟩=some (.bool T.moving)
 c7:w.cell? ⟨b,7,none⟩=some (.int .i64 T.next)
 fz:∀j,w.frozen? ⟨b,j,none⟩=false
 lt:b<w.heap.size
theorem J0a {po:Nat} {pf:Option Nat} (h:w.heap[b]? =some (J2i po pf T)):Jsd w b po pf T:=
 ⟨J2 h 0,J2 h 1,J2 h 2,J2 h 3,J2 h 4,J2 h 5,J2 h 6,J2 h 7,fun j=>Jg h j,Jf h⟩
theorem J29.bd {r:Row} (h:J29 hs r) (hB:r.ps.length<=1099511627776):(0<=r.fl/\r.fl<=1099511627776)/\(0<=r.gr/\r.gr<=1099511627776):=by
 have h1:=h.fl;have h2:=h.gr;have:=Jha r.ps 1
 have:=Jha r.ps 2
 omega
theorem Jld (po:Nat) (pf:Option Nat) (T:Tb) (i:Nat):J6b (J0x po pf T) 0 T.old=J0x po pf {T with old:=T.old.bury i}:=by
 simp[J6b,J0x,Row.bury]
theorem Jfg (po:Nat) (pf:Option Nat) (T:Tb) (i:Nat):J6b (J0x po pf T) 3 T.fresh=J0x po pf {T with fresh:=T.fresh.bury i}:=by
 simp[J6b,J0x,Row.bury]
theorem Jnt (po:Nat) (pf:Option Nat) (T:Tb) (i:Nat) (k:ByteArray) (n:Int) (h:(Jo T.old.ps i).st≠1):putCells (J0x po pf T) 0 T.old i=J0x po pf {T with old:=T.old.putAt i k n}:=by
 by_cases h2:(Jo T.old.ps i).st=2<;>simp[putCells,J0x,Row.putAt,h,h2]
theorem Jib (po:Nat) (pf:Option Nat) (T:Tb) (i:Nat) (k:ByteArray) (n:Int) (h:(Jo T.fresh.ps i).st≠1):putCells (J0x po pf T) 3 T.fresh i=J0x po pf {T with fresh:=T.fresh.putAt i k n}:=by
 by_cases h2:(Jo T.fresh.ps i).st=2<;>simp[putCells,J0x,Row.putAt,h,h2]
theorem Jlf (po:Nat) (pf:Option Nat) (T:Tb) (n:Nat):(J0x po pf T).setIfInBounds 7 (.int .i64 n)=J0x po pf {T with next:=n}:=by
 simp[J0x]
theorem Kp.keyOld {i:Nat} (h:Kp hs T M c) (hi:i<T.old.ps.length) (h1:(Jo T.old.ps i).st=1):(Jo T.old.ps i).key∈M.map Prod.fst:=
 List.mem_map.2 ⟨_,Jcc (h.memOld hi h1),rfl⟩
theorem Jiw (b po i:Nat) (pf:Option Nat) (T:Tb) (w:World) (hS:J3 w0 l w m) (hp:m.Perm (J08 b po pf T++r)) (hB:T.old.ps.length<=1099511627776) (hf:J29 Js T.old) (hi:i<T.old.ps.length):
 Calls Tryz.prog 175 #[.pointer (some ⟨b,0,none⟩),.int .i64 i] w fun e w'=>e= .returned (.tuple #[])/\J3 w0 l w' (J08 b po pf {T with old:=T.old.bury i}++r):=by
 have hown:=hS.own.perm hp;have hsplit:J08 b po pf T++r=[(b,J2i po pf T),(po,J2e T.old.ps)]++(J5s pf T++r):=by simp[J08]
 rw[hsplit] at hown hp;refine(Jiv b 0 po i (J0x po pf T) T.old w hB (hf.bd hB).1 (hf.bd hB).2 hown.left rfl rfl rfl hi).mono ?_
 rintro e w' ⟨he,hs⟩;refine⟨he,?_⟩
 rw[Jld po pf T i] at hs;have:=hS.part hp hs
 simpa[J08,J5s] using this
theorem Jm1 (b po f i:Nat) (T:Tb) (w:World) (hS:J3 w0 l w m) (hp:m.Perm (J08 b po (some f) T++r)) (hB:T.fresh.ps.length<=1099511627776) (hf:J29 Js T.fresh) (hi:i<T.fresh.ps.length):
 Calls Tryz.prog 175 #[.pointer (some ⟨b,3,none⟩),.int .i64 i] w fun e w'=>e= .returned (.tuple #[])/\J3 w0 l w' (J08 b po (some f) {T with fresh:=T.fresh.bury i}++r):=by
 have hsplit:(J08 b po (some f) T++r).Perm ([(b,J2i po (some f) T),(f,J2e T.fresh.ps)]++((po,J2e T.old.ps)::r)):=List.Perm.cons _ (List.Perm.swap _ _ _);have hp2:=hp.trans hsplit;have hown:=hS.own.perm hp2;refine(Jiv b 3 f i (J0x po (some f) T) T.fresh w hB (hf.bd hB).1 (hf.bd hB).2 hown.left rfl rfl rfl hi).mono ?_
 rintro e w' ⟨he,hs⟩;refine⟨he,?_⟩
 rw[Jfg po (some f) T i] at hs;exact(hS.part hp2 hs).permR (List.Perm.cons _ (List.Perm.swap _ _ _))
theorem Jx2 (b po i:Nat) (pf:Option Nat) (T:Tb) (key:ByteArray) (n:Int) (w:World) (hS:J3 w0 l w m) (hp:m.Perm (J08 b po pf T++r)) (hk:key.size<=maxLen) (hB:T.old.ps.length<=1099511627776) (hf:J29 Js T.old)
 (hfd:J18 Js T.old.ps key=(some i,false)) (hpp:J53 Js T.old.ps key i):
  Calls Tryz.prog 176 #[.pointer (some ⟨b,0,none⟩),.string key,.int .i64 n] w fun e w'=>e= .returned (.tuple #[])/\J3 w0 l w' (J08 b po pf {T with old:=T.old.putAt i key n}++r):=by
  have hown:=hS.own.perm hp;have hsplit:J08 b po pf T++r=[(b,J2i po pf T),(po,J2e T.old.ps)]++(J5s pf T++r):=by simp[J08]
  rw[hsplit] at hown hp;refine(Jp0 b 0 po i (J0x po pf T) T.old key n w hk (by have:=hpp.lt;omega) hB (hf.bd hB).1 (hf.bd hB).2 hown.left rfl rfl rfl hfd hpp.lt hpp.free).mono ?_
  rintro e w' ⟨he,hs⟩;refine⟨he,?_⟩
  rw[Jnt po pf T i key n hpp.free] at hs;have:=hS.part hp hs
  simpa[J08,J5s] using this
theorem Jge (b po f i:Nat) (T:Tb) (key:ByteArray) (n:Int) (w:World) (hS:J3 w0 l w m) (hp:m.Perm (J08 b po (some f) T++r)) (hk:key.size<=maxLen) (hB:T.fresh.ps.length<=1099511627776) (hf:J29 Js T.fresh)
 (hfd:J18 Js T.fresh.ps key=(some i,false)) (hpp:J53 Js T.fresh.ps key i):
  Calls Tryz.prog 176 #[.pointer (some ⟨b,3,none⟩),.string key,.int .i64 n] w fun e w'=>e= .returned (.tuple #[])/\J3 w0 l w' (J08 b po (some f) {T with fresh:=T.fresh.putAt i key n}++r):=by
  have hsplit:(J08 b po (some f) T++r).Perm ([(b,J2i po (some f) T),(f,J2e T.fresh.ps)]++((po,J2e T.old.ps)::r)):=List.Perm.cons _ (List.Perm.swap _ _ _);have hp2:=hp.trans hsplit;have hown:=hS.own.perm hp2;refine(Jp0 b 3 f i (J0x po (some f) T) T.fresh key n w hk (by have:=hpp.lt;omega) hB (hf.bd hB).1 (hf.bd hB).2 hown.left rfl rfl rfl hfd hpp.lt hpp.free).mono ?_
  rintro e w' ⟨he,hs⟩;refine⟨he,?_⟩
  rw[Jib po (some f) T i key n hpp.free] at hs;exact(hS.part hp2 hs).permR (List.Perm.cons _ (List.Perm.swap _ _ _))
theorem Jle {po f:Nat} (hS:J3 w0 l w (J08 b po (some f) T)):
 J3 w0 l ((((((((w.setCell ⟨b,0,none⟩ (.slice (some ⟨f,0,none⟩) T.fresh.ps.length T.fresh.ps.length)).setCell ⟨b,1,none⟩ (.int .i64 T.fresh.fl)).setCell ⟨b,2,none⟩ (.int .i64 T.fresh.gr)).setCell ⟨b,3,none⟩ (.slice none 0 0)).setCell ⟨b,4,none⟩ (.int .i64 0)).setCell ⟨b,5,none⟩ (.int .i64 0)).setCell ⟨b,6,none⟩ (.bool false)).setCell ⟨b,7,none⟩ (.int .i64 0))
  (J08 b f none ⟨T.fresh,J5a,false,0⟩):=by
 have fin:=(((((((hS.set 0 (.slice (some ⟨f,0,none⟩) T.fresh.ps.length T.fresh.ps.length)).set 1 (.int .i64 T.fresh.fl)).set 2 (.int .i64 T.fresh.gr)).set 3 (.slice none 0 0)).set 4 (.int .i64 0)).set 5 (.int .i64 0)).set 6 (.bool false)).set 7 (.int .i64 0);have e:(((((((((J0x po (some f) T).setIfInBounds 0 (.slice (some ⟨f,0,none⟩) T.fresh.ps.length T.fresh.ps.length)).setIfInBounds 1 (.int .i64 T.fresh.fl)).setIfInBounds 2 (.int .i64 T.fresh.gr)).setIfInBounds 3 (.slice none 0 0)).setIfInBounds 4 (.int .i64 0)).setIfInBounds 5 (.int .i64 0)).setIfInBounds 6 (.bool false)).setIfInBounds 7 (.int .i64 0))=J0x f none ⟨T.fresh,J5a,false,0⟩:=by
  simp[J0x,J5a,Jcw]
 rw[e] at fin;exact fin.less (List.Sublist.cons_cons _ (List.Sublist.cons _ (List.Sublist.refl _)))
theorem Jry (b po f:Nat) (T:Tb) (M:KV) (w:World) (hok:Kp Js T M 0) (hm:T.moving=true) (hM:∀k∈M.map Prod.fst,k.size<=maxLen) (ho:Own w (J08 b po (some f) T)):
 Calls Tryz.prog 130 #[.pointer (some ⟨b,0,none⟩)] w fun e w'=>e= .returned (.tuple #[])/\∃l',K5 l' b M 4/\J3 w (J08 b po (some f) T) w' l':=by
 have hc:=J0a ho.head;have c6:=hc.c6;rw[hm] at c6;have hst:=hid (J3.refl ho);have hok':=hid hok;have hm':=hid hm;clear hok hm ho hc;go_enter Tryz.func130,Tryz.ntmps130;go_wp2_with fail;clear c6;go_loopw [8] (fun c wr=>∃(k po' f':Nat) (T':Tb),k<=4/\c= .int .i64 k/\Hid (Kp Js T' M k)/\Hid (T'.moving=true)/\Hid (J3 w (J08 b po (some f) T) wr (J08 b po' (some f') T'))) (fun c _=>4 - (intOf c).toNat)
 case atStart=>exact⟨0,po,f,T,by omega,rfl,hok',hm',hst⟩
 case round=>
  obtain⟨k,po',f',T',hk,rfl,hT,hmv,hS⟩:=hrel
  by_cases hlt:k<4
  ·have hown:=hS.out.own
   obtain⟨hc0,hc1,hc2,hc3,hc4,hc5,hc6,hc7,hfz,hblt⟩:=J0a hown.head
   obtain⟨a1,a2,a3,a4,a5,a6⟩:=hT.out.busy hmv.out
   have hlB:=hT.out.lenB;have hpo:J0o wr po' T'.old.ps:=hown.tail.head;have hpolt:=Jf hpo;have p0:=hpo.st a1;have p1:=hpo.key a1;have p2:=hpo.n a1;replace hown:=hid hown;replace hpo:=hid hpo;clear hok' hm' hst;by_cases hst1:(Jo T'.old.ps T'.next).st=1
   ·have ht:((Jo T'.old.ps T'.next).st==1)=true:=by simpa using hst1
    have hk1:=hM _ (hT.out.keyOld a1 hst1);have hfd:=J57 Js T'.fresh.ps (Jo T'.old.ps T'.next).key hT.out.fresh.ok (by omega)
    obtain⟨i,hi⟩:∃i,(J18 Js T'.fresh.ps (Jo T'.old.ps T'.next).key)=(some i,false):=by
     have hnd:=hT.out;cases hr:J18 Js T'.fresh.ps (Jo T'.old.ps T'.next).key with
     |mk r1 r2=>
      rw[hr] at hfd;cases r1 with
      |some i=>
       have:=(hnd.move hmv.out hst1 hfd rfl).1
       simp only at this
       exact⟨i,by rw[this]⟩
      |none=>
       cases r2 with
       |true=>obtain⟨i,hi,_⟩:=hfd.yes rfl;cases hi
       |false=>obtain⟨i,hi,_⟩:=hfd.place rfl (hnd.room hmv.out);cases hi
    rw[hi] at hfd;obtain⟨_,hpp,hT2⟩:=hT.out.move hmv.out hst1 hfd rfl
    have S1:=(hS.out.alloc (.cells #[.int .i64 (Jo T'.old.ps T'.next).st,.string (Jo T'.old.ps T'.next).key,.int .i64 (Jo T'.old.ps T'.next).n] 85)).drew;replace S1:=hid S1;replace hst1:=hid hst1;replace hi:=hid hi;replace a6:=hid a6;replace hpp:=hid hpp;replace hT2:=hid hT2;clear hfd;go_wp2_with fail;go_region
    go_wp2_with fail;have hpb:=(S1.out.own).lt (b:=wr.heap.size) (by simp)
    generalize hw1:(wr.alloc (.cells #[.int .i64 (Jo T'.old.ps T'.next).st,.string (Jo T'.old.ps T'.next).key,.int .i64 (Jo T'.old.ps T'.next).n] 85)).drew=w1 at S1 hpb⊢;clear hc0 hc1 hc2 hc3 hc4 hc5 hc6 hc7 hfz hblt p0 p1 p2 hw1 hpolt;have hb1:=S1.out.own.tail.head;have hpp1:=S1.out.own.head;have d7:=(J0a hb1).c7;have q1:=J2 hpp1 1;have q2:=J2 hpp1 2;simp only[List.getElem?_toArray,List.getElem?_cons_succ,List.getElem?_cons_zero] at q1 q2;clear hb1 hpp1;go_still_tail 7,(by kernel_rfl)
    go_wp2_with fail;refine(Jiw b po' T'.next (some f') T' _ S1.out.drew (m:=(wr.heap.size,_)::J08 b po' (some f') T') (r:=[(wr.heap.size,_)]) ((List.perm_append_singleton _ _).symm) hlB hT.out.old a1).mono ?_
    rintro e w2 ⟨rfl,S2⟩;replace S2:=hid S2;clear d7 q1 q2;go_wp2_with fail;have hpp2:=S2.out.own.right.head;have q1:=J2 hpp2 1;have q2:=J2 hpp2 2;simp only[List.getElem?_toArray,List.getElem?_cons_succ,List.getElem?_cons_zero] at q1 q2;clear hpp2;go_still_tail 7,(by kernel_rfl)
    go_wp2_with fail;refine(Jge b po' f' i {T' with old:=T'.old.bury T'.next} _ _ _ S2.out.drew (List.Perm.refl _) hk1 a3 hT.out.fresh hi.out hpp.out).mono ?_
    rintro e w3 ⟨rfl,S3⟩;obtain⟨T3,hT3,hm3,hn3,S3⟩:∃T3:Tb,Kp Js T3 M k/\T3.moving=true/\(Jo T3.old.ps T3.next).st≠1/\J3 w (J08 b po (some f) T) w3 (J08 b po' (some f') T3):=by
     refine⟨_,hT2.out,hmv.out,?_,S3.less (List.sublist_append_left _ _)⟩
     show(Jo (T'.old.ps.set T'.next J2c) T'.next).st≠1
     rw[J3y a1,if_pos rfl];decide
    replace hT3:=hid hT3;replace hm3:=hid hm3;replace hn3:=hid hn3;replace S3:=hid S3;clear S1 S2 q1 q2 hpp hpb hi hT2 hS hpo hown a6;have hb3:=S3.out.own.head;obtain⟨d0,d1,d2,d3,d4,d5,d6,d7,dz,dlt⟩:=J0a hb3
    obtain⟨b1,b2,b3,b4,b5,b6⟩:=hT3.out.busy hm3.out
    replace b6:=hid b6;have hB3:=hT3.out.lenB;have S4:=S3.out.set 7 (.int .i64 ((T3.next+1:Nat):Int));rw[Jlf] at S4;replace S4:=hid S4;have ecast:((T3.next+1:Nat):Int)=(T3.next:Int)+1:=by omega
    rw[ecast] at S4;clear hb3 S3 d0 d1 d2 d3 d4 d5 d6;go_wp2_with fail;clear dz d7 dlt;generalize w3.setCell ⟨b,7,none⟩ (.int .i64 ((T3.next:Int)+1))=w4 at S4⊢;obtain⟨d0,d1,d2,d3,d4,d5,d6,d7,dz,dlt⟩:=J0a S4.out.own.head
    simp only[Jcw] at d3;by_cases hend:T3.next+1=T3.old.ps.length
    ·have ht:((T3.next:Int)+1==(T3.old.ps.length:Int))=true:=by rw[beq_iff_eq];omega
     have hfin:=hid (hT3.out.done (c':=4) hm3.out hn3.out hend);replace hend:=hid hend;go_quiet (fail);go_wp2_with fail;refine bodyPost_ret (results_none rfl _ _ _) rfl ?_;refine⟨rfl,_,⟨⟨T3.fresh,J5a,false,0⟩,f',none,hfin.out,rfl,rfl⟩,?_⟩
     exact Jle (T:={T3 with next:=T3.next+1}) (S4.out.drewN nq)
    ·have ht:((T3.next:Int)+1==(T3.old.ps.length:Int))=false:=by rw[beq_eq_false_iff_ne];omega
     have hpass:=hid (hT3.out.pass hm3.out hn3.out (by omega))
     replace hend:=hid hend;go_quiet (fail);go_wp2_with fail;go_roundw
     case rel=>exact⟨k+1,po',f',_,by omega,by go_num,hpass,hm3,hid (S4.out.drewN nq)⟩
     case measure=>simp[intOf];omega
   ·have ht:((Jo T'.old.ps T'.next).st==1)=false:=by simpa using hst1
    have S1:=(hS.out.alloc (.cells #[.int .i64 (Jo T'.old.ps T'.next).st,.string (Jo T'.old.ps T'.next).key,.int .i64 (Jo T'.old.ps T'.next).n] 85)).drew;replace hst1:=hid hst1;replace a6:=hid a6;go_wp2_with fail;go_region
    generalize hw1:(wr.alloc (.cells #[.int .i64 (Jo T'.old.ps T'.next).st,.string (Jo T'.old.ps T'.next).key,.int .i64 (Jo T'.old.ps T'.next).n] 85)).drew=w3 at S1⊢;have hpq:=J2 S1.own.head 0;simp only[List.getElem?_toArray,List.getElem?_cons_zero] at hpq;have S3:=hid (S1.less (List.sublist_cons_self _ _));clear hc0 hc1 hc2 hc3 hc4 hc5 hc6 hc7 hfz hblt p0 p1 p2 hw1 hpolt S1;obtain⟨T3,hT3,hm3,hn3,hTT⟩:∃T3:Tb,Hid (Kp Js T3 M k)/\Hid (T3.moving=true)/\Hid ((Jo T3.old.ps T3.next).st≠1)/\T3=T':=⟨T',hT,hmv,hst1,rfl⟩
    subst hTT;have hb3:=S3.out.own.head;obtain⟨d0,d1,d2,d3,d4,d5,d6,d7,dz,dlt⟩:=J0a hb3
    obtain⟨b1,b2,b3,b4,b5,b6⟩:=hT3.out.busy hm3.out
    replace b6:=hid b6;have hB3:=hT3.out.lenB;have S4:=S3.out.set 7 (.int .i64 ((T3.next+1:Nat):Int));rw[Jlf] at S4;replace S4:=hid S4;have ecast:((T3.next+1:Nat):Int)=(T3.next:Int)+1:=by omega
    rw[ecast] at S4;clear hb3 S3 d0 d1 d2 d3 d4 d5 d6;go_wp2_with fail;clear dz d7 dlt;generalize w3.setCell ⟨b,7,none⟩ (.int .i64 ((T3.next:Int)+1))=w4 at S4⊢;obtain⟨d0,d1,d2,d3,d4,d5,d6,d7,dz,dlt⟩:=J0a S4.out.own.head
    simp only[Jcw] at d3;by_cases hend:T3.next+1=T3.old.ps.length
    ·have ht:((T3.next:Int)+1==(T3.old.ps.length:Int))=true:=by rw[beq_iff_eq];omega
     have hfin:=hid (hT3.out.done (c':=4) hm3.out hn3.out hend);replace hend:=hid hend;go_quiet (fail);go_wp2_with fail;refine bodyPost_ret (results_none rfl _ _ _) rfl ?_;refine⟨rfl,_,⟨⟨T3.fresh,J5a,false,0⟩,f',none,hfin.out,rfl,rfl⟩,?_⟩
     exact Jle (T:={T3 with next:=T3.next+1}) (S4.out.drewN nq)
    ·have ht:((T3.next:Int)+1==(T3.old.ps.length:Int))=false:=by rw[beq_eq_false_iff_ne];omega
     have hpass:=hid (hT3.out.pass hm3.out hn3.out (by omega))
     replace hend:=hid hend;go_quiet (fail);go_wp2_with fail;go_roundw
     case rel=>exact⟨k+1,po',f',_,by omega,by go_num,hpass,hm3,hid (S4.out.drewN nq)⟩
     case measure=>simp[intOf];omega
  ·obtain rfl:k=4:=by omega
   go_wp2_with fail;go_end0
   exact⟨rfl,_,⟨T',po',some f',hT.out,hmv.out,rfl⟩,hS.out⟩
theorem Kp.idleAny {c':Nat} (h:Kp hs T M c) (hm:T.moving=false):Kp hs T M c':=
 ⟨h.old,h.fresh,h.len,h.lenB,h.perm,h.nodup,h.idle,fun e=>by rw[hm] at e;cases e⟩
theorem Jbu (l:Hp) (b:Nat) (M:KV) (w:World) (hT:K5 l b M 0) (hM:∀k∈M.map Prod.fst,k.size<=maxLen) (ho:Own w l):
 Calls Tryz.prog 130 #[.pointer (some ⟨b,0,none⟩)] w fun e w'=>e= .returned (.tuple #[])/\∃l',K5 l' b M 4/\J3 w l w' l':=by
 obtain⟨T,po,pf,hok,hmv,rfl⟩:=hT
 cases pf with
 |some f=>exact Jry b po f T M w hok hmv hM ho
 |none=>
  have c6:=(J0a ho.head).c6;have hm:T.moving=false:=hmv;rw[hm] at c6;have hfin:=hid (hok.idleAny (c':=4) hm);have hst:=hid (J3.refl ho);replace hmv:=hid hmv;clear ho hok hm;go_enter Tryz.func130,Tryz.ntmps130;go_wp2_with fail;refine bodyPost_ret (results_none rfl _ _ _) rfl ?_;exact⟨rfl,_,⟨T,po,none,hfin.out,hmv.out,rfl⟩,hst.out⟩
inductive Js5 (b:Nat) (T:Tb) (key:ByteArray):Value->Int->Prop where
 |fresh (i:Nat) (hm:T.moving=true) (hi:i<T.fresh.ps.length) (h1:(Jo T.fresh.ps i).st=1) (hk:(Jo T.fresh.ps i).key=key):Js5 b T key (.pointer (some ⟨b,3,none⟩)) i
 |old (i:Nat) (hi:i<T.old.ps.length) (h1:(Jo T.old.ps i).st=1) (hk:(Jo T.old.ps i).key=key):Js5 b T key (.pointer (some ⟨b,0,none⟩)) i
 |none (ho:∀(i:Nat) (p:Pl),T.old.ps[i]? =some p->p.st=1->p.key≠key) (hf:∀(i:Nat) (p:Pl),T.fresh.ps[i]? =some p->p.st=1->p.key≠key):Js5 b T key (.pointer .none) (-1)
def Js6 (b:Nat) (T:Tb) (key:ByteArray) (w:World) (e:Ending) (w':World):Prop:=
 (∃n,w'=w.drewN n)/\∃v i,e= .returned (.tuple #[v,.int .i64 i])/\Js5 b T key v i
def Jdd (ps:List Pl) (key:ByteArray):Prop:=∀(i:Nat) (p:Pl),ps[i]? =some p->p.st=1->p.key≠key
theorem Jly (b po:Nat) (pf:Option Nat) (T:Tb) (M:KV) (c:Nat) (key:ByteArray) (w:World) (hok:Kp Js T M c) (hmv:T.moving=pf.isSome) (hk:key.size<=maxLen) (ho:Own w (J08 b po pf T)):
 Calls Tryz.prog 131 #[.pointer (some ⟨b,0,none⟩),.string key] w (Js6 b T key w):=by
 have hc:=J0a ho.head;have hpo:J0o w po T.old.ps:=ho.tail.head;have hL:=hok.len;have hLB:=hok.lenB;have hfo:=J57 Js T.old.ps key hok.old.ok (by omega)
 have i0:∀w,(Instr.index 245 (.agg #[.pointer (some ⟨b,3,none⟩),.pointer (some ⟨b,0,none⟩)]) (.int .i64 0)).run Tryz.prog w= .ok (.pointer (some ⟨b,3,none⟩)) w:=fun _=>by kernel_rfl
 have i1:∀w,(Instr.index 245 (.agg #[.pointer (some ⟨b,3,none⟩),.pointer (some ⟨b,0,none⟩)]) (.int .i64 1)).run Tryz.prog w= .ok (.pointer (some ⟨b,0,none⟩)) w:=fun _=>by kernel_rfl
 have hr:∀n,(J18 Js T.old.ps key).2=n->True:=fun _ _=>trivial
 clear hr;have c0:=hc.c0;have c3:=hc.c3;have hfind:∀n,Calls Tryz.prog 177 #[.pointer (some ⟨b,0,none⟩),.string key] (w.drewN n) fun e w'=>
  e= .returned (.tuple #[.int .i64 (J2n (J18 Js T.old.ps key).1),.bool (J18 Js T.old.ps key).2])/\∃m,w'=(w.drewN n).drewN m:=
  fun n=>Je1 b 0 po T.old.ps key (w.drewN n) hk (by omega) hLB (by simpa using c0) (by simpa[J0o] using hpo)
 replace hfind:=hid hfind;replace hpo:=hid hpo;have hpost:Hid (∀w' v i,(∃n,w'=w.drewN n)->Js5 b T key v i->Js6 b T key w (.returned (.tuple #[v,.int .i64 i])) w'):=fun w' v i h1 h2=>⟨h1,v,i,rfl,h2⟩
 cases pf with
 |none=>
  have hm:T.moving=false:=hmv;have hnf:=(hok.idle hm).1;have habs:Jdd T.fresh.ps key:=by rw[hnf];intro i p hp;simp[J5a] at hp
  have hz:T.fresh.ps.length=0:=by rw[hnf];rfl
  simp only[Jcw] at c3;replace habs:=hid habs;clear hz hnf hm hmv hok ho hc;cases hro:J18 Js T.old.ps key with
  |mk r1 r2=>
  rw[hro] at hfo;rw[hro] at hfind;simp only at hfind
  clear hro;cases r2 with
  |true=>
   obtain⟨i,hi,hlt,hs1,hke⟩:=hfo.yes rfl
   simp only at hi
   subst hi;simp only[J2n] at hfind;replace hlt:=hid hlt;replace hs1:=hid hs1;replace hke:=hid hke;clear hfo;go_enter Tryz.func131,Tryz.ntmps131;go_wp2_with fail;go_quiet (fail);go_wp2_with fail;refine wp_loop_rounds 2 ?_;rw[rounds_succ];go_wp2_with fail;rw[rounds_succ];go_wp2_with fail;refine(hfind.out _).mono ?_
   rintro e w' ⟨rfl,m,rfl⟩;go_wp2_with fail;go_ret2;exact hpost.out _ _ _ ⟨_,rfl⟩ (.old i hlt.out hs1.out hke.out)
  |false=>
   have habo:=hid (hfo.no rfl).1;clear hfo;go_enter Tryz.func131,Tryz.ntmps131;go_wp2_with fail;go_quiet (fail);go_wp2_with fail;refine wp_loop_rounds 3 ?_;rw[rounds_succ];go_wp2_with fail;rw[rounds_succ];go_wp2_with fail;refine(hfind.out _).mono ?_
   rintro e w' ⟨rfl,m,rfl⟩;go_wp2_with fail;rw[rounds_succ];go_wp2_with fail;go_ret2;exact hpost.out _ _ _ ⟨_,rfl⟩ (.none habo.out habs.out)
 |some f=>
  have hm:T.moving=true:=hmv;obtain⟨a1,a2,a3,a4,a5,a6⟩:=hok.busy hm
  have hff:=J57 Js T.fresh.ps key hok.fresh.ok (by omega)
  have hpf:J0o w f T.fresh.ps:=ho.tail.tail.head;simp only[Jcw] at c3;have hfindF:∀n,Calls Tryz.prog 177 #[.pointer (some ⟨b,3,none⟩),.string key] (w.drewN n) fun e w'=>
   e= .returned (.tuple #[.int .i64 (J2n (J18 Js T.fresh.ps key).1),.bool (J18 Js T.fresh.ps key).2])/\∃m,w'=(w.drewN n).drewN m:=
   fun n=>Je1 b 3 f T.fresh.ps key (w.drewN n) hk (by omega) a3 (by simpa using c3) (by simpa[J0o] using hpf)
  replace hfindF:=hid hfindF;have hz:((T.fresh.ps.length:Int)==0)=false:=by rw[beq_eq_false_iff_ne];omega
  replace hm:=hid hm;clear hmv hok ho hc a1 a4 a5 a6 hpf;cases hro:J18 Js T.old.ps key with
  |mk r1 r2=>
  rw[hro] at hfo;rw[hro] at hfind;simp only at hfind
  clear hro;cases hrf:J18 Js T.fresh.ps key with
  |mk s1 s2=>
  rw[hrf] at hff;rw[hrf] at hfindF;simp only at hfindF
  clear hrf;cases s2 with
  |true=>
   obtain⟨i,hi,hlt,hs1,hke⟩:=hff.yes rfl
   simp only at hi
   subst hi;simp only[J2n] at hfindF;replace hlt:=hid hlt;replace hs1:=hid hs1;replace hke:=hid hke;clear hff hfo;go_enter Tryz.func131,Tryz.ntmps131;go_wp2_with fail;go_quiet (fail);go_wp2_with fail;refine wp_loop_rounds 1 ?_;rw[rounds_succ];go_wp2_with fail;refine(hfindF.out _).mono ?_
   rintro e w' ⟨rfl,m,rfl⟩;go_wp2_with fail;go_ret2;exact hpost.out _ _ _ ⟨_,rfl⟩ (.fresh i hm.out hlt.out hs1.out hke.out)
  |false=>
   have habf:=hid (hff.no rfl).1;clear hff;cases r2 with
   |true=>
    obtain⟨i,hi,hlt,hs1,hke⟩:=hfo.yes rfl
    simp only at hi
    subst hi;simp only[J2n] at hfind;replace hlt:=hid hlt;replace hs1:=hid hs1;replace hke:=hid hke;clear hfo;go_enter Tryz.func131,Tryz.ntmps131;go_wp2_with fail;go_quiet (fail);go_wp2_with fail;refine wp_loop_rounds 2 ?_;rw[rounds_succ];go_wp2_with fail;refine(hfindF.out _).mono ?_
    rintro e w' ⟨rfl,m,rfl⟩;go_wp2_with fail;rw[rounds_succ];go_wp2_with fail;refine(hfind.out _).mono ?_
    rintro e w' ⟨rfl,m2,rfl⟩;go_wp2_with fail;go_ret2;exact hpost.out _ _ _ ⟨_,rfl⟩ (.old i hlt.out hs1.out hke.out)
   |false=>
    have habo:=hid (hfo.no rfl).1;clear hfo;go_enter Tryz.func131,Tryz.ntmps131;go_wp2_with fail;go_quiet (fail);go_wp2_with fail;refine wp_loop_rounds 3 ?_;rw[rounds_succ];go_wp2_with fail;refine(hfindF.out _).mono ?_
    rintro e w' ⟨rfl,m,rfl⟩;go_wp2_with fail;rw[rounds_succ];go_wp2_with fail;refine(hfind.out _).mono ?_
    rintro e w' ⟨rfl,m2,rfl⟩;go_wp2_with fail;rw[rounds_succ];go_wp2_with fail;go_ret2;exact hpost.out _ _ _ ⟨_,rfl⟩ (.none habo.out habf.out)
theorem Kp.noneAt {key:ByteArray} (h:Kp hs T M c) (ho:Jdd T.old.ps key) (hf:Jdd T.fresh.ps key):look M key=none:=
 J90.2 (Jcv h ho hf)
theorem J7d {k:ByteArray} (h:look M k=none):J07 M k=M:=by
 rw[J07,List.filter_eq_self];intro p hp
 have:=J90.1 h
 have:p.1≠k:=fun e=>this (List.mem_map.2 ⟨p,hp,e⟩)
 simpa using this
theorem K5.nodup (h:K5 l b M c):(M.map Prod.fst).Nodup:=by
 obtain⟨T,po,pf,h1,_,_⟩:=h;exact h1.nodup
def Jgx (l:Hp) (b:Nat) (M:KV) (key:ByteArray) (w:World) (e:Ending) (w':World):Prop:=
 e= .returned (.tuple #[.int .i64 ((look M key).getD 0),.bool (look M key).isSome])/\∃l',K5 l' b M 4/\J3 w l w' l'
theorem Jgx.mk {l':Hp} {key:ByteArray} {w':World} {n:Int} {is:Bool} (hl:(look M key).getD 0=n) (hi:(look M key).isSome=is) (h:K5 l' b M 4) (hs:J3 w l w' l'):
 Jgx l b M key w (.returned (.tuple #[.int .i64 n,.bool is])) w':=by subst hl hi;exact⟨rfl,l',h,hs⟩
theorem Jli (l:Hp) (b:Nat) (M:KV) (key:ByteArray) (w:World) (hT:K5 l b M 0) (hM:∀k∈M.map Prod.fst,k.size<=maxLen) (hk:key.size<=maxLen) (ho:Own w l):
 Calls Tryz.prog 69 #[.pointer (some ⟨b,0,none⟩),.string key] w (Jgx l b M key w):=by
 have hstep:=hid (Jbu l b M w hT hM ho);clear hT hM ho;go_enter Tryz.func69,Tryz.ntmps69;go_wp2_with fail;refine hstep.out.mono ?_;rintro e w1 ⟨rfl,l1,hT1,S1⟩;obtain⟨T,po,pf,hok,hmv,rfl⟩:=hT1
 have hat:=hid (Jly b po pf T M 4 key w1 hok hmv hk S1.own);replace S1:=hid S1;replace hmv:=hid hmv;go_wp2_with fail;refine hat.out.mono ?_;rintro e w2 ⟨⟨n,rfl⟩,v,i,rfl,hv⟩;have hfin:=hid (show K5 (J08 b po pf T) b M 4 from⟨T,po,pf,hok,hmv.out,rfl⟩);cases hv with
 |fresh i hm hi h1 hke=>
  have hl:=hok.memFresh hi h1;rw[hke] at hl;have hpf:∃f,pf=some f:=by have:=hmv.out;rw[hm] at this;exact Option.isSome_iff_exists.1 this.symm
  obtain⟨f,rfl⟩:=hpf
  have c3:=(J0a S1.out.own.head).c3;have hpl:J0o w1 f T.fresh.ps:=S1.out.own.tail.tail.head;have p2:=hpl.n hi;have hB:=(hok.busy hm).2.2.1;simp only[Jcw] at c3;replace hl:=hid hl;clear hat hm h1 hke hpl hok hmv;go_wp2_with fail;go_ret2;exact .mk (by rw[hl.out];rfl) (by rw[hl.out];rfl) hfin.out (S1.out.drewN n)
 |old i hi h1 hke=>
  have hl:=hok.memOld hi h1;rw[hke] at hl;have c0:=(J0a S1.out.own.head).c0;have hpl:J0o w1 po T.old.ps:=S1.out.own.tail.head;have p2:=hpl.n hi;have hB:=hok.lenB;replace hl:=hid hl;clear hat h1 hke hpl hok hmv;go_wp2_with fail;go_ret2;exact .mk (by rw[hl.out];rfl) (by rw[hl.out];rfl) hfin.out (S1.out.drewN n)
 |none hno hnf=>
  have hl:=hid (hok.noneAt hno hnf);clear hat hno hnf hok hmv;go_wp2_with fail;go_ret2;exact .mk (by rw[hl.out];rfl) (by rw[hl.out];rfl) hfin.out (S1.out.drewN n)
def Jdf (l:Hp) (b:Nat) (M:KV) (key:ByteArray) (w:World) (e:Ending) (w':World):Prop:=
 e= .returned (.tuple #[.int .i64 ((look M key).getD 0),.bool (look M key).isSome])/\∃l',K5 l' b (J07 M key) 0/\J3 w l w' l'
theorem Jdf.mk {l':Hp} {key:ByteArray} {w':World} {n:Int} {is:Bool} (hl:(look M key).getD 0=n) (hi:(look M key).isSome=is) (h:K5 l' b (J07 M key) 0) (hs:J3 w l w' l'):
 Jdf l b M key w (.returned (.tuple #[.int .i64 n,.bool is])) w':=by subst hl hi;exact⟨rfl,l',h,hs⟩
theorem Js0 (l:Hp) (b:Nat) (M:KV) (key:ByteArray) (w:World) (hT:K5 l b M 0) (hM:∀k∈M.map Prod.fst,k.size<=maxLen) (hk:key.size<=maxLen) (ho:Own w l):
 Calls Tryz.prog 204 #[.pointer (some ⟨b,0,none⟩),.string key] w (Jdf l b M key w):=by
 have hstep:=hid (Jbu l b M w hT hM ho);clear hT hM ho;go_enter Tryz.func204,Tryz.ntmps204;go_wp2_with fail;refine hstep.out.mono ?_;rintro e w1 ⟨rfl,l1,hT1,S1⟩;obtain⟨T,po,pf,hok,hmv,rfl⟩:=hT1
 have hat:=hid (Jly b po pf T M 4 key w1 hok hmv hk S1.own);replace S1:=hid S1;replace hmv:=hid hmv;go_wp2_with fail;refine hat.out.mono ?_;rintro e w2 ⟨⟨n,rfl⟩,v,i,rfl,hv⟩;cases hv with
 |fresh i hm hi h1 hke=>
  have hl:=hok.memFresh hi h1;have hfin:=hok.buryFresh hm hi h1;rw[hke] at hl hfin;have hpf:∃f,pf=some f:=by have:=hmv.out;rw[hm] at this;exact Option.isSome_iff_exists.1 this.symm
  obtain⟨f,rfl⟩:=hpf
  have c3:=(J0a S1.out.own.head).c3;have hpl:J0o w1 f T.fresh.ps:=S1.out.own.tail.tail.head;have p2:=hpl.n hi;have hB:=(hok.busy hm).2.2.1;simp only[Jcw] at c3;have hbury:=hid (Jm1 b po f i T (w1.drewN n) (S1.out.drewN n) (r:=[]) (by simp) hB hok.fresh hi)
  replace hl:=hid hl;replace hfin:=hid hfin;clear hat hm h1 hke hpl hok;go_wp2_with fail;refine hbury.out.mono ?_;rintro e w3 ⟨rfl,S3⟩;replace S3:=hid S3;go_wp2_with fail;go_ret2;exact .mk (by rw[hl.out];rfl) (by rw[hl.out];rfl) ⟨_,po,some f,hfin.out.weak (Nat.zero_le _),hmv.out,rfl⟩ (by simpa using S3.out)
 |old i hi h1 hke=>
  have hl:=hok.memOld hi h1;have hfin:=hok.buryOld hi h1;rw[hke] at hl hfin;have c0:=(J0a S1.out.own.head).c0;have hpl:J0o w1 po T.old.ps:=S1.out.own.tail.head;have p2:=hpl.n hi;have hB:=hok.lenB;have hbury:=hid (Jiw b po i pf T (w1.drewN n) (S1.out.drewN n) (r:=[]) (by simp) hB hok.old hi)
  replace hl:=hid hl;replace hfin:=hid hfin;clear hat h1 hke hpl hok;go_wp2_with fail;refine hbury.out.mono ?_;rintro e w3 ⟨rfl,S3⟩;replace S3:=hid S3;go_wp2_with fail;go_ret2;exact .mk (by rw[hl.out];rfl) (by rw[hl.out];rfl) ⟨_,po,pf,hfin.out.weak (Nat.zero_le _),hmv.out,rfl⟩ (by simpa using S3.out)
 |none hno hnf=>
  have hl:=hid (hok.noneAt hno hnf);have hfin:=hid (show K5 (J08 b po pf T) b (J07 M key) 0 by rw[J7d hl.out];exact⟨T,po,pf,hok.weak (Nat.zero_le _),hmv.out,rfl⟩)
  clear hat hno hnf hok hmv;go_wp2_with fail;go_ret2;exact .mk (by rw[hl.out];rfl) (by rw[hl.out];rfl) hfin.out (S1.out.drewN n)
end Go.Proofs.YtncbcaabanoeoaaGreatDoor
