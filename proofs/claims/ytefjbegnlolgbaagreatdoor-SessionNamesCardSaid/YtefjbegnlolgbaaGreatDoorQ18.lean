/-
words.Check (printed by gen_check.py); a slice of words, as it is read.
-/
import Derived.Deep.Cut
import Derived.Deep.DeepCutAuto
import Derived.Outline
import Derived.Test.YtefjbegnlolgbaaGreatDoorQ17
set_option linter.unusedVariables false
set_option linter.unusedSimpArgs false
set_option maxRecDepth 100000
set_option maxHeartbeats 8000000
namespace Go.Proofs.YtefjbegnlolgbaaGreatDoor
open Go Go.RowKit
variable {w0:World}{r:Hp}{g off:Nat}{ws:List ByteArray}
def J76:ByteArray:=⟨#[69,82,82,32,110,111,32,99,111,109,109,97,110,100]⟩
def J0h:ByteArray:=⟨#[69,82,82,32,117,110,107,110,111,119,110,32,99,111,109,109,97,110,100]⟩
def J12:ByteArray:=⟨#[69,82,82,32,119,114,111,110,103,32,110,117,109,98,101,114,32,111,102,32,97,114,103,117,109,101,110,116,115,32,102,111,114,32]⟩
def J0k (ws:List ByteArray):Sp×ByteArray:=
 match ws with
 |[]=>(J0d,J76)
 |c::_=>match J7z c with
  |none=>(J0d,J0h)
  |some s=>if(ws.length:Int)<s.least\/s.most<(ws.length:Int)\/Jam s.name ws.length=true then(J0d,J12++⟨(Lib.toLowerA s.name.data.toList).toArray⟩) else(s,ByteArray.empty)
structure J4l (w0:World) (r:Hp) (g off:Nat) (ws:List ByteArray):Prop where
 at_:∀(w':World) (x:Hp),J1 w0 [] w' (x++r)->∀(i:Nat) (s:ByteArray),ws[i]? =some s->w'.cell? ⟨g,off+i,none⟩=some (.string s)
 small:∀s∈ws,s.size<=1099511627776
 few:ws.length<=1099511627776
theorem J4l.get {w':World} {l:Hp} (h:J4l w0 r g off ws) (hS:J1 w0 [] w' l) (x:Hp) (p:l.Perm (x++r)) {i:Nat} {s:ByteArray} (hs:ws[i]? =some s):w'.cell? ⟨g,off+i,none⟩=some (.string s):=
 h.at_ w' x (hS.permR p) i s hs
theorem J4l.own {t:TypeId} (hm:(g,.cells (ws.map Value.string).toArray t (0,0))∈r) (hs:∀s∈ws,s.size<=1099511627776) (hf:ws.length<=1099511627776):J4l w0 r g 0 ws where
 at_:=fun w' x hS i s hi=>by
  have hh:w'.heap[g]? =some (.cells (ws.map Value.string).toArray t (0,0)):=hS.own.at_ (g,.cells (ws.map Value.string).toArray t (0,0)) (List.mem_append_right _ hm);rw[Nat.zero_add,J0 hh,List.getElem?_toArray,List.getElem?_map,hi];rfl
 small:=hs
 few:=hf
theorem J4l.drop (h:J4l w0 r g off ws) (n:Nat):J4l w0 r g (off+n) (ws.drop n) where
 at_:=fun w' x hS i s hi=>by
  rw[List.getElem?_drop] at hi;rw[Nat.add_assoc];exact h.at_ w' x hS (n+i) s hi
 small:=fun s hs=>h.small s (List.mem_of_mem_drop hs)
 few:=by have:=h.few;simp;omega
theorem J4l.more {x:Hp} (h:J4l w0 r g off ws):J4l w0 (x++r) g off ws where
 at_:=fun w' y hS i s hi=>h.at_ w' (y++x) (by rw[List.append_assoc];exact hS) i s hi
 small:=h.small
 few:=h.few
def J18 (w0:World) (r:Hp) (p:Sp×ByteArray) (e:Ending) (w':World):Prop:=e= .returned (.tuple #[p.1.val,.string p.2])/\J1 w0 [] w' r
theorem Ja4:∀s∈J1l,s.name.size<=20/\∀b∈s.name.data.toList,b.toNat<128:=by decide
theorem Jhm {word:ByteArray} {s:Sp} (h:J7z word=some s):s∈J1l/\s.name=J0x word:=by
 unfold J7z at h;exact⟨List.mem_of_find?_eq_some h,by simpa using List.find?_some h⟩
theorem Jmr {w:World} (hS:J1 w0 [] w r) (a:Option Addr) (c:Nat):
 Calls Tryz.prog 18 #[.slice a 0 c] w (J18 w0 r (J0k [])):=by
 have S1:=hid ((hS.alloc (.cells #[.string ByteArray.empty,.int .i64 0,.int .i64 0,.int .i64 0,.int .i64 0,.int .i64 0,.int .i64 0] 53)).less (List.sublist_cons_self _ _));clear hS;go_enter Tryz.func18,Tryz.ntmps18;go_wp2_with fail;refine bodyPost_ret (v:=.tuple #[J0d.val,.string J76]) (by simp[results,Tryz.results18,go_sem,Sp.val,Jy,J0d,J76, *]<;>rfl) rfl ?_
 exact⟨rfl,S1.out⟩
theorem J1f {w:World} (hS:J1 w0 [] w r) {c:ByteArray} (hA:J4l w0 r g off (c::ws)) (cap:Nat):
 Calls Tryz.prog 18 #[.slice (some ⟨g,off,none⟩) (c::ws).length cap] w (J18 w0 r (J0k (c::ws))):=by
 have S1:=hS.alloc (.cells #[.string ByteArray.empty,.int .i64 0,.int .i64 0,.int .i64 0,.int .i64 0,.int .i64 0,.int .i64 0] 53);have hn:(0:Int)<(((c::ws).length:Nat):Int):=by simp only[List.length_cons];omega
 have hcell:w.cell? ⟨g,off,none⟩=some (.string c):=hA.at_ w [] hS 0 c rfl
 have hlt:g<w.heap.size:=by
  have:=hcell
  unfold World.cell? at this;cases hh:w.heap[g]? with
  |none=>rw[hh] at this;cases this
  |some o=>exact Jc hh
 have hfew:=hA.few;have hfind:=hid (Jhl S1 c (hA.small c (by simp)))
 have hchk:Hid (J0k (c::ws)=_):=hid (show J0k (c::ws)=(match J7z c with
  |none=>(J0d,J0h)
  |some s=>if(((c::ws).length:Nat):Int)<s.least\/s.most<(((c::ws).length:Nat):Int)\/Jam s.name ((c::ws).length:Nat)=true then(J0d,J12++⟨(Lib.toLowerA s.name.data.toList).toArray⟩) else(s,ByteArray.empty)) from rfl)
 have hc0:=hS;generalize hn2:(c::ws).length=n at hn hfew hchk⊢;generalize J0k (c::ws)=res at hchk⊢;have hnz:(((n:Nat):Int)==0)=false:=by simp;omega
 clear hn2 hS hc0 hA;cases hf:J7z c with
 |none=>
  rw[hf] at hfind hchk;have hres:=hid hchk.out;simp only at hres
  clear S1 hf hchk;unfold Jeg at hfind;simp only[Option.getD_none,Option.isSome_none] at hfind;unfold Sp.val Jy J0d at hfind;go_enter Tryz.func18,Tryz.ntmps18;go_wp2_with fail;refine hfind.out.mono ?_;rintro e w1 ⟨rfl,S2⟩;clear hfind hcell;go_upto_region 4 with fail;have S3:=(S2.alloc (.cells #[.string ByteArray.empty,.int .i64 0,.int .i64 0,.int .i64 0,.int .i64 0,.int .i64 0,.int .i64 0] 53)).permR (List.Perm.swap _ _ _);generalize w1.alloc (.cells #[.string ByteArray.empty,.int .i64 0,.int .i64 0,.int .i64 0,.int .i64 0,.int .i64 0,.int .i64 0] 53)=w2 at S3⊢;generalize w1.heap.size=b1 at S3⊢;generalize w.heap.size=b at S2 S3⊢;obtain⟨⟨x0,hx0⟩,⟨x1,hx1⟩,⟨x2,hx2⟩,⟨x3,hx3⟩,⟨x4,hx4⟩,⟨x5,hx5⟩,⟨x6,hx6⟩,fz,hb⟩:=J6z S3.own.head
  replace S3:=hid ((S3.setSp J0d).less ((List.sublist_cons_self _ _).trans (List.sublist_cons_self _ _)));unfold J0d at S3;clear S2;go_wp2_with fail;refine bodyPost_ret (v:=.tuple #[J0d.val,.string J0h]) (by simp[results,Tryz.results18,go_sem,Sp.val,Jy,J0d,J0h, *]<;>rfl) rfl ?_
  rw[hres.out];exact⟨rfl,S3.out⟩
 |some s=>
  rw[hf] at hfind hchk;obtain⟨hmem,hnm⟩:=Jhm hf
  obtain⟨hsz,hasc⟩:=Ja4 s hmem
  have hlow:=fun w'=>hid (Tryz.strings_ToLower_ascii s.name w' (by omega) (fun j b hb=>hasc b (List.mem_of_getElem? hb)))
  simp only at hchk
  clear S1 hf hasc hmem hnm;unfold Jeg at hfind;simp only[Option.getD_some,Option.isSome_some] at hfind;unfold Sp.val Jy at hfind;obtain⟨name,kind,least,most,first,last,step⟩:=s
  simp only at hfind hchk hlow hsz
  have hls:(⟨(Lib.toLowerA name.data.toList).toArray⟩:ByteArray).size<=20:=by
   show(Lib.toLowerA name.data.toList).toArray.size<=20
   rw[List.size_toArray,Lib.toLowerA,List.length_map,Array.length_toList];exact hsz
  generalize (⟨(Lib.toLowerA name.data.toList).toArray⟩:ByteArray)=lw at hlow hchk hls;go_enter Tryz.func18,Tryz.ntmps18;go_wp2_with fail;refine hfind.out.mono ?_;rintro e w1 ⟨rfl,S2⟩;clear hfind;go_upto_region 4 with fail;have S3:=(S2.alloc (.cells #[.string name,.int .i64 kind,.int .i64 least,.int .i64 most,.int .i64 first,.int .i64 last,.int .i64 step] 53)).permR (List.Perm.swap _ _ _);generalize w1.alloc (.cells #[.string name,.int .i64 kind,.int .i64 least,.int .i64 most,.int .i64 first,.int .i64 last,.int .i64 step] 53)=w2 at S3⊢;generalize w1.heap.size=b1 at S3⊢;generalize w.heap.size=b at S2 S3⊢;clear S2 hcell hlt;have S4:=S3
  have hbb:b≠b1:=by
   have:=S3.own.nd
   simp only[J0v,List.nodup_cons,List.mem_cons,not_or] at this;exact this.1.1
  have hodd:=hid (Jkx S3 name kind least most first last step ((n:Nat):Int));have hwrong:∀wx,Hid _:=fun wx=>hid (fun (S:J1 w0 [] wx ((b,.cells #[.string ByteArray.empty,.int .i64 0,.int .i64 0,.int .i64 0,.int .i64 0,.int .i64 0,.int .i64 0] 53 (0,0))::(b1,.cells #[.string name,.int .i64 kind,.int .i64 least,.int .i64 most,.int .i64 first,.int .i64 last,.int .i64 step] 53 (0,0))::r))=>(S.setSp J0d).less ((List.sublist_cons_self _ _).trans (List.sublist_cons_self _ _)))
  have hright:∀wx,Hid _:=fun wx=>hid (fun (S:J1 w0 [] wx ((b,.cells #[.string ByteArray.empty,.int .i64 0,.int .i64 0,.int .i64 0,.int .i64 0,.int .i64 0,.int .i64 0] 53 (0,0))::(b1,.cells #[.string name,.int .i64 kind,.int .i64 least,.int .i64 most,.int .i64 first,.int .i64 last,.int .i64 step] 53 (0,0))::r))=>(S.setSp ⟨name,kind,least,most,first,last,step⟩).less ((List.sublist_cons_self _ _).trans (List.sublist_cons_self _ _)))
  obtain⟨hb,hb1,_,_⟩:b<w2.heap.size/\b1<w2.heap.size/\True/\True:=⟨Jc S3.own.head,Jc S3.own.tail.head,trivial,trivial⟩
  unfold J0d at hwrong;unfold Jy at hodd;replace S3:=hid S3;have y0:=J0 S4.own.tail.head 0;have y1:=J0 S4.own.tail.head 1;have y2:=J0 S4.own.tail.head 2;have y3:=J0 S4.own.tail.head 3;have y4:=J0 S4.own.tail.head 4;have y5:=J0 S4.own.tail.head 5;have y6:=J0 S4.own.tail.head 6;simp only[List.getElem?_toArray,List.getElem?_cons_zero,List.getElem?_cons_succ] at y0 y1 y2 y3 y4 y5 y6;clear S4;by_cases h1:((n:Nat):Int)<least
  ·have hres:=hid hchk.out
   rw[if_pos (.inl h1)] at hres;clear hchk;have hl:=hid ((hlow w2).out);clear hlow hodd;go_wp2_with fail;refine hl.out.mono ?_;rintro e w4 ⟨rfl,hbl⟩;have S5:=S3.out.below hbl;obtain⟨⟨x0,hx0⟩,⟨x1,hx1⟩,⟨x2,hx2⟩,⟨x3,hx3⟩,⟨x4,hx4⟩,⟨x5,hx5⟩,⟨x6,hx6⟩,fz,hb⟩:=J6z S5.own.head
   have S6:=hid ((hwrong w4).out S5);clear S3 hbl S5 hl hwrong hright;go_wp2_with fail;refine bodyPost_ret (v:=.tuple #[J0d.val,.string (J12++lw)]) (by simp[results,Tryz.results18,go_sem,Sp.val,Jy,J0d,J12, *]<;>rfl) rfl ?_
   rw[hres.out];exact⟨rfl,S6.out⟩
  ·by_cases h2:most<((n:Nat):Int)
   ·have hres:=hid hchk.out
    rw[if_pos (.inr (.inl h2))] at hres;clear hchk;have hl:=hid ((hlow w2).out);clear hlow hodd;go_wp2_with fail;refine hl.out.mono ?_;rintro e w4 ⟨rfl,hbl⟩;have S5:=S3.out.below hbl;obtain⟨⟨x0,hx0⟩,⟨x1,hx1⟩,⟨x2,hx2⟩,⟨x3,hx3⟩,⟨x4,hx4⟩,⟨x5,hx5⟩,⟨x6,hx6⟩,fz,hb⟩:=J6z S5.own.head
    have S6:=hid ((hwrong w4).out S5);clear S3 hbl S5 hl hwrong hright;go_wp2_with fail;refine bodyPost_ret (v:=.tuple #[J0d.val,.string (J12++lw)]) (by simp[results,Tryz.results18,go_sem,Sp.val,Jy,J0d,J12, *]<;>rfl) rfl ?_
    rw[hres.out];exact⟨rfl,S6.out⟩
   ·cases ho:Jam name ((n:Nat):Int) with
    |true=>
     have hres:=hid hchk.out;rw[if_pos (.inr (.inr ho))] at hres;rw[ho] at hodd;replace ho:=hid ho;clear hchk;go_wp2_with fail;refine hodd.out.mono ?_;rintro e w3 ⟨rfl,S3'⟩;clear S3 hodd y0 y1 y2 y3 y4 y5 y6;have y0:=J0 S3'.own.tail.head 0;simp only[List.getElem?_toArray,List.getElem?_cons_zero,List.getElem?_cons_succ] at y0;have S3:=hid S3';have hl:=hid ((hlow w3).out);clear hlow S3';go_wp2_with fail;refine hl.out.mono ?_;rintro e w4 ⟨rfl,hbl⟩;have S5:=S3.out.below hbl;obtain⟨⟨x0,hx0⟩,⟨x1,hx1⟩,⟨x2,hx2⟩,⟨x3,hx3⟩,⟨x4,hx4⟩,⟨x5,hx5⟩,⟨x6,hx6⟩,fz,hb⟩:=J6z S5.own.head
     have S6:=hid ((hwrong w4).out S5);clear S3 hbl S5 hl hwrong hright;go_wp2_with fail;refine bodyPost_ret (v:=.tuple #[J0d.val,.string (J12++lw)]) (by simp[results,Tryz.results18,go_sem,Sp.val,Jy,J0d,J12, *]<;>rfl) rfl ?_
     rw[hres.out];exact⟨rfl,S6.out⟩
    |false=>
     have hres:=hid hchk.out;rw[if_neg (by rw[ho];simp only[Bool.false_eq_true,or_false];exact fun h=>h.elim h1 h2)] at hres
     rw[ho] at hodd;replace ho:=hid ho;clear hchk;go_wp2_with fail;refine hodd.out.mono ?_;rintro e w3 ⟨rfl,S3'⟩;clear S3 hodd y0 y1 y2 y3 y4 y5 y6;have y0:=J0 S3'.own.tail.head 0;have y1:=J0 S3'.own.tail.head 1;have y2:=J0 S3'.own.tail.head 2;have y3:=J0 S3'.own.tail.head 3;have y4:=J0 S3'.own.tail.head 4;have y5:=J0 S3'.own.tail.head 5;have y6:=J0 S3'.own.tail.head 6;simp only[List.getElem?_toArray,List.getElem?_cons_zero,List.getElem?_cons_succ] at y0 y1 y2 y3 y4 y5 y6;obtain⟨⟨x0,hx0⟩,⟨x1,hx1⟩,⟨x2,hx2⟩,⟨x3,hx3⟩,⟨x4,hx4⟩,⟨x5,hx5⟩,⟨x6,hx6⟩,fz,hb⟩:=J6z S3'.own.head
     have S6:=hid ((hright w3).out S3');clear S3' hlow hwrong hright;go_wp2_with fail;refine bodyPost_ret (v:=.tuple #[Jy name kind least most first last step,.string ByteArray.empty]) (by simp[results,Tryz.results18,go_sem,Jy, *]<;>rfl) rfl ?_
     rw[hres.out];exact⟨rfl,S6.out⟩
end Go.Proofs.YtefjbegnlolgbaaGreatDoor
namespace Go.Proofs.YtefjbegnlolgbaaGreatDoor
open Go
variable {S:St}
structure Lf where
 kind:Int
 text:ByteArray
 n:Int
def K4 (a:Lf):Value:=J3 a.kind a.text a.n (.slice none 0 0)
def J4g:Lf:=⟨6,ByteArray.empty,0⟩
def J9d (s:ByteArray):Lf:=⟨4,s,0⟩
def J2d (n:Int):Lf:=⟨3,ByteArray.empty,n⟩
def J10 (c:Int):Lf:=⟨2,Jo c,0⟩
def J9c:Lf:=⟨1,⟨#[79,75]⟩,0⟩
def J2c:Option Itm->Lf
 |none=>J4g
 |some it=>if it.kind=2 then J10 91 else J9d it.text
def J9 (s:ByteArray):Itm:=⟨1,s,[]⟩
def St.putE (S:St) (key:ByteArray) (it:Itm):Int:=
 if 512<key.size\/(it.kind=1/\4096<it.text.size) then 31 else if S.bud<J0r key it then 121 else 0
def St.putG (S:St) (key:ByteArray) (it:Itm) (keep:Bool) (now:Int):St:=if S.putE key it=0 then S.put key it keep now else S.due key now
def St.get (S:St) (key:ByteArray) (now:Int):St:=(S.due key now).touch key
def St.look (S:St) (key:ByteArray) (now:Int):Option Itm:=J7 (S.due key now).L key
def Jha (S:St) (now:Int) (key:ByteArray):St×Lf:=(S.get key now,J2c (S.look key now))
def Jfu (S:St) (now:Int) (key:ByteArray):St×Lf:=
 (S.get key now,match S.look key now with
  |none=>J2d 0
  |some it=>if it.kind=2 then J10 91 else J2d it.text.size)
def Jay (S:St) (now:Int) (key:ByteArray) (it:Itm) (e:Int) (a:Lf):St×Lf:=
 if e=0 then(S.putG key it true now,if S.putE key it=0 then a else J10 (S.putE key it)) else(S,J10 e)
def Jhv (o:Option Itm) (n:Int):Itm×Int×Int:=
 match o with
 |none=>(J9 (J5u n),n,0)
 |some it=>if it.kind=2 then(it,0,91) else match J2n it.text with
  |none=>(it,0,92)
  |some m=>match J4k m n with
   |none=>(it,0,12)
   |some k=>(J9 (J5u k),k,0)
def Jnh (S:St) (now:Int) (key:ByteArray) (n:Int):St×Lf:=
 Jay (S.get key now) now key (Jhv (S.look key now) n).1 (Jhv (S.look key now) n).2.2 (J2d (Jhv (S.look key now) n).2.1)
def Jdz (S:St) (now:Int) (key s:ByteArray) (less:Bool):St×Lf:=
 match J2n s with
 |none=>(S,J10 11)
 |some n=>if less then(if Jfz n=0 then Jnh S now key (Jnx n) else(S,J10 (Jfz n))) else Jnh S now key n
def J5v (o:Option Itm) (s:ByteArray):Itm×Int:=
 match o with
 |none=>if 4096<s.size then(Jt,94) else(J9 s,0)
 |some it=>if it.kind=2 then(it,91) else if 4096<it.text.size+s.size then(it,94) else(J9 (it.text++s),0)
def Jft (S:St) (now:Int) (key s:ByteArray):St×Lf:=
 Jay (S.get key now) now key (J5v (S.look key now) s).1 (J5v (S.look key now) s).2 (J2d (J5v (S.look key now) s).1.text.size)
def St.load (S:St):Nat:=S.ev.length+S.L.length
theorem St.load_gone (hf:Fit S) (key:ByteArray) (kind:Int):(S.gone key kind).load=S.load:=by
 cases h:J7 S.L key with
 |none=>rw[Jfh h]
 |some it=>
  have h1:=Ji8 (kind:=kind) hf h;have h2:=J4q (kind:=kind) h;unfold St.load;rw[h2] at h1⊢;simp only[List.length_append,List.length_cons,List.length_nil] at h1⊢;omega
theorem St.load_due (hf:Fit S) (key:ByteArray) (now:Int):(S.due key now).load=S.load:=by
 unfold St.due;split
 ·split
  ·exact St.load_gone hf _ _
  ·rfl
 ·rfl
theorem Fit.get (hf:Fit S) (key:ByteArray) (now:Int):Fit (S.get key now):=(hf.due key now).touch key
theorem J00.get (hf:Fit S) (hT:J00 S) (key:ByteArray) (now:Int):J00 (S.get key now):=J00.touch (hf.due key now) (hT.due key now) key
theorem St.load_evict:∀(n:Nat) {S:St} (_:Fit S) (but:ByteArray),(S.evict n but).load=S.load
 |0,_,_,_=>rfl
 |n+1,S,hf,but=>by
  unfold St.evict;split
  ·split
   ·rw[St.load_evict n (hf.gone _ _),St.load_gone hf]
   ·rfl
  ·rfl
end Go.Proofs.YtefjbegnlolgbaaGreatDoor
namespace Go.Proofs.YtefjbegnlolgbaaGreatDoor
open Go Go.RowKit
variable {w0 w w':World}{l r il R A x:Hp}{sb b g off cap:Nat}{S:St}{v o0 o1 o2 o3 o4 o5:Value}{now:Int}{t:TypeId}{ws:List ByteArray}{e:Ending}
def J8h (it:Itm) (v:Value) (il:Hp):Prop:=(J1c it/\Jq v it.fs il)\/(it.kind=1/\it.fs=[]/\v= .slice none 0 0/\il=[])
theorem J8h.text (s:ByteArray):J8h (J9 s) (.slice none 0 0) []:=.inr ⟨rfl,rfl,rfl,rfl⟩
theorem Jjj (hS:J1 w0 [] w (l++r)) (hG:J1q w0) (hX:Je l sb S) (hev:S.ev.length<=1099511627776) (key:ByteArray) (hk:512<key.size) (hk2:key.size<=1099511627776)
 (kind:Int) (text:ByteArray) (v:Value) (keep:Bool) (now:Int):
  Calls Tryz.prog 145 #[ptr sb,.string key,J8 kind text v,.bool keep,.int .i64 now] w (Jw w0 r sb (S.due key now) (.int .i64 31)):=by
  have S1:=(hS.alloc (.cells #[.int .i64 kind,.string text,v] 183)).permR (l2:=l++((w.heap.size,.cells #[.int .i64 kind,.string text,v] 183 (0,0))::r)) List.perm_middle.symm;have hdue:=hid (J6b S1 hG hX (by omega) key hk2 now)
  have hks:(512:Int)<(key.size:Int):=by omega
  clear hS hX S1 hev;go_enter Tryz.func145,Tryz.ntmps145;unfold J8;go_wp2_with fail;refine hdue.out.mono ?_;rintro e w1 ⟨rfl,l1,hX1,S1⟩
  have hdone:=hid (show Jw w0 r sb (S.due key now) (.int .i64 31) (.returned (.int .i64 31)) w1 from⟨rfl,l1,hX1,S1.pick (l2:=l1++r) (m:=[(w.heap.size,.cells #[.int .i64 kind,.string text,v] 183 (0,0))]) (J2 fun f=>by
   simp only[SC];omega)⟩)
  clear hdue hX1 S1;go_wp2_with fail;go_ret;exact hdone.out
theorem Jh6 (hS:J1 w0 [] w (l++r)) (hG:J1q w0) (hX:Je l sb S) (hev:S.ev.length<=1099511627776) (key:ByteArray) (hk:key.size<=512)
 (text:ByteArray) (ht:4096<text.size) (keep:Bool) (now:Int):
  Calls Tryz.prog 145 #[ptr sb,.string key,J8 1 text (.slice none 0 0),.bool keep,.int .i64 now] w (Jw w0 r sb (S.due key now) (.int .i64 31)):=by
  have S1:=(hS.alloc (.cells #[.int .i64 1,.string text,.slice none 0 0] 183)).permR (l2:=l++((w.heap.size,.cells #[.int .i64 1,.string text,.slice none 0 0] 183 (0,0))::r)) List.perm_middle.symm;have hdue:=hid (J6b S1 hG hX (by omega) key (by omega) now)
  have hks:¬(512:Int)<(key.size:Int):=by omega
  clear hS hX S1 hev;go_enter Tryz.func145,Tryz.ntmps145;unfold J8;go_wp2_with fail;refine hdue.out.mono ?_;rintro e w1 ⟨rfl,l1,hX1,S1⟩;generalize w.heap.size=ib at S1⊢;obtain⟨x0,x1,x2,_⟩:=J04 S1.own.right.head
  have hright:=Jez S1 ht;unfold J8 at hright;replace hright:=hid hright;clear hdue S1;go_wp2_with fail;refine hright.out.mono ?_;rintro e w2 ⟨rfl,S1⟩
  have hdone:=hid (show Jw w0 r sb (S.due key now) (.int .i64 31) (.returned (.int .i64 31)) w2 from⟨rfl,l1,hX1,S1.pick (l2:=l1++r) (m:=[(ib,.cells #[.int .i64 1,.string text,.slice none 0 0] 183 (0,0))]) (J2 fun f=>by
   simp only[SC];omega)⟩)
  clear hright hX1 S1 x0 x1 x2;go_wp2_with fail;go_ret;exact hdone.out
theorem Jh5 {it:Itm} (hS:J1 w0 [] w (l++(il++r))) (hG:J1q w0) (hX:Je l sb S) (hev:S.ev.length<=1099511627776) (key:ByteArray) (hk:key.size<=512)
 (hat:Jq v it.fs il) (hr:J1c it) (hc:S.bud<J0r key it) (keep:Bool) (now:Int):
  Calls Tryz.prog 145 #[ptr sb,.string key,J8 it.kind it.text v,.bool keep,.int .i64 now] w (Jw w0 (il++r) sb (S.due key now) (.int .i64 121)):=by
  obtain⟨a,cc,rfl⟩:=hat.shape
  have S1:=(hS.alloc (.cells #[.int .i64 it.kind,.string it.text,.slice a it.fs.length cc] 183)).permR (l2:=l++(il++((w.heap.size,.cells #[.int .i64 it.kind,.string it.text,.slice a it.fs.length cc] 183 (0,0))::r))) (J2 fun f=>by
   simp only[SC];omega)
  have hdue:=hid (J6b S1 hG hX (by omega) key (by omega) now)
  have hbud':=Jbj S key now;rw[<-hbud'] at hc;generalize S.due key now=S' at hdue hc⊢;have hks:¬(512:Int)<(key.size:Int):=by omega
  clear hS hX S1 hev hbud';go_enter Tryz.func145,Tryz.ntmps145;unfold J8;go_wp2_with fail;refine hdue.out.mono ?_;rintro e w1 ⟨rfl,l1,hX1,S1⟩;generalize w.heap.size=ib at S1⊢;clear hdue;have hown:=S1.own.right.right;obtain⟨x0,x1,x2,_⟩:=J04 hown.head
  have hright:=Jdq S1 hat hr;unfold J8 at hright;replace hright:=hid hright;replace S1:=hid S1;clear hown;go_wp2_with fail;refine hright.out.mono ?_;rintro e w2 ⟨rfl,S2⟩;clear hright x0 x1 x2 S1;obtain⟨m,rfl,hok,hf⟩:=hX1
  have hcost:∀w':World,J1 w0 [] w' (m.hp sb (J4 S'.L) S'.bud++(il++((ib,.cells #[.int .i64 it.kind,.string it.text,.slice a it.fs.length cc] 183 (0,0))::r)))->_:=fun _ h=>Jbi (key:=key) h hG hat hr (by omega)
  unfold J8 at hcost;have c6:∀p:InW w0 [] (m.hp sb (J4 S'.L) S'.bud++(il++((ib,.cells #[.int .i64 it.kind,.string it.text,.slice a it.fs.length cc] 183 (0,0))::r))),p.w.cell? ⟨sb,6,none⟩=some (.int .i64 (S'.bud:Nat)):=fun p=>(Ju p.h.own).c6
  have x0:∀p:InW w0 [] (m.hp sb (J4 S'.L) S'.bud++(il++((ib,.cells #[.int .i64 it.kind,.string it.text,.slice a it.fs.length cc] 183 (0,0))::r))),p.w.cell? ⟨ib,0,none⟩=some (.int .i64 it.kind):=fun p=>(J04 p.h.own.right.right.head).c0
  have x1:∀p:InW w0 [] (m.hp sb (J4 S'.L) S'.bud++(il++((ib,.cells #[.int .i64 it.kind,.string it.text,.slice a it.fs.length cc] 183 (0,0))::r))),p.w.cell? ⟨ib,1,none⟩=some (.string it.text):=fun p=>(J04 p.h.own.right.right.head).c1
  have x2:∀p:InW w0 [] (m.hp sb (J4 S'.L) S'.bud++(il++((ib,.cells #[.int .i64 it.kind,.string it.text,.slice a it.fs.length cc] 183 (0,0))::r))),p.w.cell? ⟨ib,2,none⟩=some (.slice a it.fs.length cc):=fun p=>(J04 p.h.own.right.right.head).c2
  have hcb:(S'.bud:Int)<(J0r key it:Nat):=by omega
  replace hcost:=hid hcost;replace S2:=hid S2
  have hdone:Hid (∀W,J1 w0 [] W (m.hp sb (J4 S'.L) S'.bud++(il++((ib,.cells #[.int .i64 it.kind,.string it.text,.slice a it.fs.length cc] 183 (0,0))::r)))->Jw w0 (il++r) sb S' (.int .i64 121) (.returned (.int .i64 121)) W):=hid (fun W h=>⟨rfl,_,⟨m,rfl,hok,hf⟩,h.pick (l2:=_++(il++r)) (m:=[(ib,.cells #[.int .i64 it.kind,.string it.text,.slice a it.fs.length cc] 183 (0,0))]) (J2 fun f=>by
   simp only[SC];omega)⟩)
  clear hok hf hat hr;go_wp2_with fail;refine J0q S2.out (by kernel_rfl) (by kernel_rfl) (fun hne=>?_)
  repeat (go_big_quiet_step ((go_at_call 219;refine Calls.inw (hcost.out _ (InW.h _)))))
  refine J45 fun w3 S3=>?_
  have hlast:=hid (hdone.out w3 S3);clear c6 x0 x1 x2 hne S2 S3 hdone hcost;go_wp2_with fail;go_ret;exact hlast.out
theorem Jji {it:Itm} (hS:J1 w0 [] w (l++(il++r))) (hG:J1q w0) (hX:Je l sb S) (hT:J00 S) (hev:S.ev.length<=1099511627776) (key:ByteArray) (hk:key.size<=1099511627776)
 (hp:J8h it v il) (keep:Bool) (now:Int):
  Calls Tryz.prog 145 #[ptr sb,.string key,J8 it.kind it.text v,.bool keep,.int .i64 now] w (Jw w0 (il++r) sb (S.putG key it keep now) (.int .i64 (S.putE key it))):=by
  by_cases h1:512<key.size
  ·have e:S.putE key it=31:=by simp[St.putE,h1]
   rw[St.putG,e,if_neg (by decide)]
   exact Jjj (r:=il++r) hS hG hX hev key h1 hk it.kind it.text v keep now
  ·by_cases h2:it.kind=1/\4096<it.text.size
   ·have e:S.putE key it=31:=by simp[St.putE,h2]
    rw[St.putG,e,if_neg (by decide)]
    rcases hp with⟨hr,_⟩|⟨h3,h4,rfl,rfl⟩
    ·rcases hr with hr|hr
     ·omega
     ·omega
    ·rw[h3]
     exact Jh6 hS hG hX hev key (by omega) it.text h2.2 keep now
   ·have hp':J1c it/\Jq v it.fs il:=by
     rcases hp with h|⟨h3,h4,rfl,rfl⟩
     ·exact h
     ·refine⟨.inl ⟨h3,by have:=fun h=>h2 ⟨h3,h⟩;omega,h4⟩,?_⟩
      rw[h4];exact⟨.nil,fun _=>rfl⟩
    by_cases h3:S.bud<J0r key it
    ·have e:S.putE key it=121:=by simp only[St.putE];rw[if_neg (by simp only[h1,false_or];exact h2),if_pos h3]
     rw[St.putG,e,if_neg (by decide)]
     exact Jh5 hS hG hX hev key (by omega) hp'.2 hp'.1 h3 keep now
    ·have e:S.putE key it=0:=by simp only[St.putE];rw[if_neg (by simp only[h1,false_or];exact h2),if_neg h3]
     rw[St.putG,e,if_pos rfl];exact Jjh hS hG hX hT hev key (by omega) hp'.2 hp'.1 (by omega) keep now
abbrev J1e (sb:Nat) (now:Int) (g off n cap:Nat):Obj:=.cells #[ptr sb,.int .i64 now,.slice (some ⟨g,off,none⟩) n cap] 179 (0,0)
def J46 (sb:Nat) (now:Int) (g off n cap:Nat):Value:=.agg #[ptr sb,.int .i64 now,.slice (some ⟨g,off,none⟩) n cap]
abbrev J5:Obj:=.cells #[.int .i64 0,.string ByteArray.empty,.int .i64 0,.float .f64 0,.bool false,.slice none 0 0] 29 (0,0)
structure Ctx (w0 w:World) (l r:Hp) (sb:Nat) (S:St) (g off:Nat) (ws:List ByteArray):Prop where
 st:J1 w0 [] w (l++r)
 gl:J1q w0
 is:Je l sb S
 tight:J00 S
 load:S.load<=1000000000000
 args:J4l w0 r g off ws
structure Jfb (w:World) (b sb:Nat) (now:Int) (g off n cap:Nat):Prop where
 c0:w.cell? ⟨b,0,none⟩=some (ptr sb)
 c1:w.cell? ⟨b,1,none⟩=some (.int .i64 now)
 c2:w.cell? ⟨b,2,none⟩=some (.slice (some ⟨g,off,none⟩) n cap)
theorem Jij {n:Nat} (h:w.heap[b]? =some (J1e sb now g off n cap)):Jfb w b sb now g off n cap:=⟨J0 h 0,J0 h 1,J0 h 2⟩
def InX (w0:World) (R:Hp) (w:World):Prop:=∃x,J1 w0 [] w (x++R)
theorem J1.inX (h:J1 w0 [] w A) (x:Hp) (p:A.Perm (x++R)):InX w0 R w:=⟨x,h.permR p⟩
theorem InX.alloc (h:Hid (InX w0 R w)) (o:Obj):Hid (InX w0 R (w.alloc o)):=by
 obtain⟨x,hx⟩:=h.out
 exact hid ⟨(w.heap.size,o)::x,hx.alloc o⟩
theorem InX.drew (h:Hid (InX w0 R w)):Hid (InX w0 R w.drew):=by
 obtain⟨x,hx⟩:=h.out
 exact hid ⟨x,hx.drew⟩
theorem InX.set3 {nb:Nat} (h:J1 w0 [] w ((nb,.cells #[o0,o1,o2] t (0,0))::(A++R))) (v0 v1 v2:Value):
 Hid (InX w0 R (((w.setCell ⟨nb,0,none⟩ v0).setCell ⟨nb,1,none⟩ v1).setCell ⟨nb,2,none⟩ v2)):=
 hid ⟨(nb,.cells #[v0,v1,v2] t (0,0))::A,by have k:=((h.set 0 v0).set 1 v1).set 2 v2;exact k⟩
theorem set6 (o0 o1 o2 o3 o4 o5 v0 v1 v2 v3 v4 v5:Value):((((((#[o0,o1,o2,o3,o4,o5]:Array Value).setIfInBounds 0 v0).setIfInBounds 1 v1).setIfInBounds 2 v2).setIfInBounds 3 v3).setIfInBounds 4 v4).setIfInBounds 5 v5= #[v0,v1,v2,v3,v4,v5]:=by kernel_rfl
theorem J1.setLf (h:J1 w0 l w ((b,.cells #[o0,o1,o2,o3,o4,o5] t (0,0))::r)) (a:Lf):
 J1 w0 l ((((((w.setCell ⟨b,0,none⟩ (.int .i64 a.kind)).setCell ⟨b,1,none⟩ (.string a.text)).setCell ⟨b,2,none⟩ (.int .i64 a.n)).setCell ⟨b,3,none⟩ (.float .f64 0)).setCell ⟨b,4,none⟩ (.bool false)).setCell ⟨b,5,none⟩ (.slice none 0 0)) r:=
 ((((((h.set 0 (.int .i64 a.kind)).set 1 (.string a.text)).set 2 (.int .i64 a.n)).set 3 (.float .f64 0)).set 4 (.bool false)).set 5 (.slice none 0 0)).less (List.sublist_cons_self _ _)
structure Job (w0:World) (R:Hp) (b sb:Nat) (now:Int) (g off n cap:Nat) (ws:List ByteArray):Prop where
 at_:∀w':World,InX w0 R w'->Jfb w' b sb now g off n cap
 arg:∀w':World,InX w0 R w'->∀(i:Nat) (s:ByteArray),ws[i]? =some s->w'.cell? ⟨g,off+i,none⟩=some (.string s)
theorem Ctx.job {n:Nat} (h:Ctx w0 w l (A++(b,J1e sb now g off n cap)::r) sb S g off ws):Job w0 (A++(b,J1e sb now g off n cap)::r) b sb now g off n cap ws where
 at_:=fun w' ⟨x,hx⟩=>Jij hx.own.right.right.head
 arg:=fun w' ⟨x,hx⟩ i s hs=>h.args.at_ w' x hx i s hs
abbrev Jns (w0:World) (R:Hp) (b sb:Nat) (now:Int) (g off n cap:Nat) (k:ByteArray) (w':World):Prop:=
 w'.cell? ⟨b,0,none⟩=some (ptr sb)/\w'.cell? ⟨b,1,none⟩=some (.int .i64 now)/\w'.cell? ⟨b,2,none⟩=some (.slice (some ⟨g,off,none⟩) n cap)/\w'.cell? ⟨g,off,none⟩=some (.string k)/\Hid (InX w0 R w')
theorem Job.one {n:Nat} {k:ByteArray} (h:Job w0 R b sb now g off n cap (k::ws)) (hx:Hid (InX w0 R w')):Jns w0 R b sb now g off n cap k w':=
 ⟨(h.at_ w' hx.out).c0,(h.at_ w' hx.out).c1,(h.at_ w' hx.out).c2,h.arg w' hx.out 0 k rfl,hx⟩
def J8f (w0:World) (R x:Hp) (sb:Nat) (S:St) (kd:Int) (tx:ByteArray) (is:Bool) (fs:Fs) (e:Ending) (w2:World):Prop:=
 ∃va vn vc vl l2,e= .returned (.tuple #[.agg #[.int .i64 kd,.string tx,.slice va vn vc],.bool is])/\Hid (Jq (.slice va vn vc) fs vl)/\Hid (Je l2 sb S)/\Hid (J1 w0 [] w2 (x++(l2++(vl++R))))/\Hid (InX w0 R w2)
theorem J8f.of {o:Option Itm} {w2:World} (h:J30 w0 (x++R) sb S o e w2):J8f w0 R x sb S (o.getD Jt).kind (o.getD Jt).text o.isSome (o.getD Jt).fs e w2:=by
 obtain⟨v,vl,l2,rfl,h1,h2,h3⟩:=h
 obtain⟨va,vc,rfl⟩:=h1.shape
 have h4:=h3.permR (l2:=x++(l2++(vl++R))) (J2 fun f=>by simp only[SC];omega)
 exact⟨va,_,vc,vl,l2,rfl,hid h1,hid h2,hid h4,hid (h4.inX (x++(l2++vl)) (by rw[List.append_assoc,List.append_assoc]))⟩
theorem Ctx.get (h:Ctx w0 w l R sb S g off ws) (k:ByteArray) (hk:k∈ws) (now:Int) (x:Hp) (hw:J1 w0 [] w' (x++(l++R))):
 Calls Tryz.prog 90 #[ptr sb,.string k,.int .i64 now] w' (J8f w0 R x sb (S.get k now) ((S.look k now).getD Jt).kind ((S.look k now).getD Jt).text (S.look k now).isSome ((S.look k now).getD Jt).fs):=
 (Ji6 (hw.permR (l2:=l++(x++R)) (J2 fun f=>by simp only[SC];omega)) h.gl h.is (by have:=h.load;unfold St.load at this;omega) k (h.args.small k hk) now).mono fun _ _ hp=>.of hp
abbrev J06 (kd:Int) (tx:ByteArray) (v:Value):Obj:=.cells #[.int .i64 kd,.string tx,v] 183 (0,0)
def Jhs (w0:World) (r il:Hp) (nx:Itm) (rest:List Value) (code:Int) (e:Ending) (w':World):Prop:=
 ∃va vn vc il',e= .returned (.tuple (.agg #[.int .i64 nx.kind,.string nx.text,.slice va vn vc]::rest).toArray)/\(code=0->il'=[]/\Value.slice va vn vc= .slice none 0 0)/\J1 w0 [] w' (il'++(il++r))
theorem Ctx.alloc (h:Ctx w0 w l r sb S g off ws) (o:Obj):Ctx w0 (w.alloc o) l ((w.heap.size,o)::r) sb S g off ws where
 st:=(h.st.alloc o).permR (J2 fun f=>by simp only[SC];omega)
 gl:=h.gl
 is:=h.is
 tight:=h.tight
 load:=h.load
 args:=h.args.more (x:=[(w.heap.size,o)])
theorem Ctx.drew (h:Ctx w0 w l r sb S g off ws):Ctx w0 w.drew l r sb S g off ws:=⟨h.st.drew,h.gl,h.is,h.tight,h.load,h.args⟩
theorem Ctx.fit (h:Ctx w0 w l r sb S g off ws):Fit S:=by obtain⟨m,_,_,hf⟩:=h.is;exact hf
theorem Ctx.ev (h:Ctx w0 w l r sb S g off ws):S.ev.length<=1000000000000:=by have:=h.load;unfold St.load at this;omega
abbrev J24 (a:Lf):Obj:=.cells #[.int .i64 a.kind,.string a.text,.int .i64 a.n,.float .f64 0,.bool false,.slice none 0 0] 29 (0,0)
structure Jmy (w:World) (b:Nat) (a:Lf):Prop where
 c0:w.cell? ⟨b,0,none⟩=some (.int .i64 a.kind)
 c1:w.cell? ⟨b,1,none⟩=some (.string a.text)
 c2:w.cell? ⟨b,2,none⟩=some (.int .i64 a.n)
 c3:w.cell? ⟨b,3,none⟩=some (.float .f64 0)
 c4:w.cell? ⟨b,4,none⟩=some (.bool false)
 c5:w.cell? ⟨b,5,none⟩=some (.slice none 0 0)
theorem Jku {a:Lf} (h:w.heap[b]? =some (J24 a)):Jmy w b a:=⟨J0 h 0,J0 h 1,J0 h 2,J0 h 3,J0 h 4,J0 h 5⟩
theorem Jex (S:St) (k:ByteArray) (it:Itm):S.putE k it=0\/(¬S.putE k it=0/\J0u (S.putE k it)):=by
 unfold St.putE;split
 ·exact .inr ⟨by decide,by unfold J0u;omega⟩
 ·split
  ·exact .inr ⟨by decide,by unfold J0u;omega⟩
  ·exact .inl rfl
theorem Jw.of {r2 m:Hp} (h:Jw w0 r sb S v e w') (p:∀f:Nat×Obj->Nat,(r.map f).sum=(r2.map f).sum+(m.map f).sum):Jw w0 r2 sb S v e w':=by
 obtain⟨rfl,l',h1,h2⟩:=h
 exact⟨rfl,l',h1,h2.pick (l2:=l'++r2) (m:=m) (J2 fun f=>by rw[List.map_append,List.sum_append,List.map_append,List.sum_append,List.map_append,List.sum_append,p f];omega)⟩
theorem Ctx.right (h:Ctx w0 w l R sb S g off ws) {k:ByteArray} (it:Itm) (hl:S.look k now=some it):J1c it:=
 ((h.fit.due k now).key _ (J0p hl)).2
def Jfc (w0:World) (L x:Hp) (nx:Itm) (rest:List Value) (code:Int) (e:Ending) (w2:World):Prop:=
 ∃va vn vc il,e= .returned (.tuple (.agg #[.int .i64 nx.kind,.string nx.text,.slice va vn vc]::rest).toArray)/\Hid (code=0->il=[]/\Value.slice va vn vc= .slice none 0 0)/\Hid (J1 w0 [] w2 (x++(il++L)))/\Hid (InX w0 L w2)
theorem Jfc.of {L:Hp} {nx:Itm} {rest:List Value} {code:Int} {w2:World} (h:Jhs w0 (x++r) il nx rest code e w2) (hL:L=il++r):Jfc w0 L x nx rest code e w2:=by
 obtain⟨va,vn,vc,il',rfl,h1,h2⟩:=h
 subst hL;have h3:=h2.permR (l2:=x++(il'++(il++r))) (J2 fun f=>by simp only[SC];omega)
 exact⟨va,vn,vc,il',rfl,hid h1,hid h3,hid (h3.inX (x++il') (by rw[List.append_assoc]))⟩
theorem Ctx.peek (h:Ctx w0 w l R sb S g off ws) (k:ByteArray) (hk:k∈ws) (now:Int) (x:Hp) (hw:J1 w0 [] w' (x++(l++R))):
 Calls Tryz.prog 107 #[ptr sb,.string k,.int .i64 now] w' (J8f w0 R x sb (S.due k now) ((S.look k now).getD Jt).kind ((S.look k now).getD Jt).text (S.look k now).isSome ((S.look k now).getD Jt).fs):=
 (Jdp (hw.permR (l2:=l++(x++R)) (J2 fun f=>by simp only[SC];omega)) h.gl h.is (by have:=h.ev;omega) k (h.args.small k hk) now).mono fun _ _ hp=>.of hp
theorem Ctx.peeked (h:Ctx w0 w l R sb S g off ws) (k:ByteArray) (now:Int) {l2:Hp} (hX:Je l2 sb (S.due k now)) (hS:J1 w0 [] w' (l2++(x++R))):Ctx w0 w' l2 (x++R) sb (S.due k now) g off ws where
 st:=hS
 gl:=h.gl
 is:=hX
 tight:=h.tight.due k now
 load:=by rw[St.load_due h.fit];exact h.load
 args:=h.args.more
theorem Jl (h:w.heap[b]? =some (.cells #[o0,o1,o2,o3,o4,o5] t (0,0))):Jhp w b:=
 ⟨⟨_,J0 h 0⟩,⟨_,J0 h 1⟩,⟨_,J0 h 2⟩,⟨_,J0 h 3⟩,⟨_,J0 h 4⟩,⟨_,J0 h 5⟩,fun j=>J6 h j,Jc h⟩
theorem Je5 (hS:J1 w0 [] w r) (o:Option Itm) (v:Value):
 Calls Tryz.prog 89 #[.agg #[.int .i64 (o.getD Jt).kind,.string (o.getD Jt).text,v],.bool o.isSome] w (Ji w0 r (K4 (J2c o))):=by
 cases o with
 |none=>exact Jju hS _ _ v
 |some it=>
  simp only[Option.getD_some,Option.isSome_some,J2c];by_cases hk:it.kind=2
  ·rw[if_pos hk,hk];exact Jhf hS _ v
  ·rw[if_neg hk];exact Jhg hS _ _ v hk
theorem InX.set6 {nb:Nat} (h:J1 w0 [] w ((nb,.cells #[o0,o1,o2,o3,o4,o5] t (0,0))::(A++R))) (v0 v1 v2 v3 v4 v5:Value):
 Hid (InX w0 R ((((((w.setCell ⟨nb,0,none⟩ v0).setCell ⟨nb,1,none⟩ v1).setCell ⟨nb,2,none⟩ v2).setCell ⟨nb,3,none⟩ v3).setCell ⟨nb,4,none⟩ v4).setCell ⟨nb,5,none⟩ v5)):=
 hid ⟨A,((((((h.set 0 v0).set 1 v1).set 2 v2).set 3 v3).set 4 v4).set 5 v5).less (List.sublist_cons_self _ _)⟩
theorem J1.setLf' (h:J1 w0 l w ((b,.cells #[o0,o1,o2,o3,o4,o5] t (0,0))::r)) (a:Lf):
 J1 w0 l ((((((w.setCell ⟨b,0,none⟩ (.int .i64 a.kind)).setCell ⟨b,1,none⟩ (.string a.text)).setCell ⟨b,2,none⟩ (.int .i64 a.n)).setCell ⟨b,3,none⟩ (.float .f64 0)).setCell ⟨b,4,none⟩ (.bool false)).setCell ⟨b,5,none⟩ (.slice none 0 0)) ((b,.cells #[.int .i64 a.kind,.string a.text,.int .i64 a.n,.float .f64 0,.bool false,.slice none 0 0] t (0,0))::r):=by
 have k:=(((((h.set 0 (.int .i64 a.kind)).set 1 (.string a.text)).set 2 (.int .i64 a.n)).set 3 (.float .f64 0)).set 4 (.bool false)).set 5 (.slice none 0 0);rw[set6] at k;exact k
theorem Ctx.at {r':Hp} (h:Ctx w0 w l r sb S g off ws) (hr:r'=x++r) (hS:J1 w0 [] w' (l++r')):Ctx w0 w' l r' sb S g off ws:=
 ⟨hS,h.gl,h.is,h.tight,h.load,by rw[hr];exact h.args.more⟩
end Go.Proofs.YtefjbegnlolgbaaGreatDoor
