/-
words.Check (printed by gen_check.py); a slice of words, as it is read.
-/
import Derived.Deep.Cut
import Derived.Deep.DeepCutAuto
import Derived.Deep.RegionHeld3
import Derived.Outline
import Derived.StillTailTactics
import Derived.Test.YtncbcaabanoeoaaGreatDoorQ20
set_option linter.unusedVariables false
set_option linter.unusedSimpArgs false
set_option maxRecDepth 100000
set_option maxHeartbeats 8000000
namespace Go.Proofs.YtncbcaabanoeoaaGreatDoor
open Go Go.RowKit
variable {w0:World}{r:Hp}{g off:Nat}
def J22:ByteArray:=⟨#[69,82,82,32,110,111,32,99,111,109,109,97,110,100]⟩
def J00:ByteArray:=⟨#[69,82,82,32,117,110,107,110,111,119,110,32,99,111,109,109,97,110,100]⟩
def J1a:ByteArray:=⟨#[69,82,82,32,119,114,111,110,103,32,110,117,109,98,101,114,32,111,102,32,97,114,103,117,109,101,110,116,115,32,102,111,114,32]⟩
def Ku (ws:List ByteArray):Sp×ByteArray:=
 match ws with
 |[]=>(Jw,J22)
 |c::_=>match J5l c with
  |none=>(Jw,J00)
  |some s=>if(ws.length:Int)<s.least\/s.most<(ws.length:Int)\/Jah s.name ws.length=true then(Jw,J1a++⟨(Lib.toLowerA s.name.data.toList).toArray⟩) else(s,ByteArray.empty)
structure J2h (w0:World) (r:Hp) (g off:Nat) (ws:List ByteArray):Prop where
 at_:∀(w':World) (x:Hp),J3 w0 [] w' (x++r)->∀(i:Nat) (s:ByteArray),ws[i]? =some s->w'.cell? ⟨g,off+i,none⟩=some (.string s)
 small:∀s∈ws,s.size<=1099511627776
 few:ws.length<=1099511627776
theorem J2h.get {w':World} {l:Hp} {ws:List ByteArray} (h:J2h w0 r g off ws) (hS:J3 w0 [] w' l) (x:Hp) (p:l.Perm (x++r)) {i:Nat} {s:ByteArray} (hs:ws[i]? =some s):w'.cell? ⟨g,off+i,none⟩=some (.string s):=
 h.at_ w' x (hS.permR p) i s hs
theorem J2h.own {ws:List ByteArray} {t:TypeId} (hm:(g,.cells (ws.map Value.string).toArray t (0,0))∈r) (hs:∀s∈ws,s.size<=1099511627776) (hf:ws.length<=1099511627776):J2h w0 r g 0 ws where
 at_:=fun w' x hS i s hi=>by
  have hh:w'.heap[g]? =some (.cells (ws.map Value.string).toArray t (0,0)):=hS.own.at_ (g,.cells (ws.map Value.string).toArray t (0,0)) (List.mem_append_right _ hm);rw[Nat.zero_add,J2 hh,List.getElem?_toArray,List.getElem?_map,hi];rfl
 small:=hs
 few:=hf
theorem J2h.drop {ws:List ByteArray} (h:J2h w0 r g off ws) (n:Nat):J2h w0 r g (off+n) (ws.drop n) where
 at_:=fun w' x hS i s hi=>by
  rw[List.getElem?_drop] at hi;rw[Nat.add_assoc];exact h.at_ w' x hS (n+i) s hi
 small:=fun s hs=>h.small s (List.mem_of_mem_drop hs)
 few:=by have:=h.few;simp;omega
theorem J2h.more {x:Hp} {ws:List ByteArray} (h:J2h w0 r g off ws):J2h w0 (x++r) g off ws where
 at_:=fun w' y hS i s hi=>h.at_ w' (y++x) (by rw[List.append_assoc];exact hS) i s hi
 small:=h.small
 few:=h.few
def J1c (w0:World) (r:Hp) (p:Sp×ByteArray) (e:Ending) (w':World):Prop:=e= .returned (.tuple #[p.1.val,.string p.2])/\J3 w0 [] w' r
theorem J68:∀s∈Ju,s.name.size<=20/\∀b∈s.name.data.toList,b.toNat<128:=by decide
theorem J98 {word:ByteArray} {s:Sp} (h:J5l word=some s):s∈Ju/\s.name=J16 word:=by
 unfold J5l at h;exact⟨List.mem_of_find?_eq_some h,by simpa using List.find?_some h⟩
theorem Jpr {w:World} (hS:J3 w0 [] w r) (a:Option Addr) (c:Nat):
 Calls Tryz.prog 21 #[.slice a 0 c] w (J1c w0 r (Ku [])):=by
 have S1:=hid ((hS.alloc (.cells #[.string ByteArray.empty,.int .i64 0,.int .i64 0,.int .i64 0,.int .i64 0,.int .i64 0,.int .i64 0] 45)).less (List.sublist_cons_self _ _));clear hS;go_enter Tryz.func21,Tryz.ntmps21;go_wp2_with fail;refine bodyPost_ret (v:=.tuple #[Jw.val,.string J22]) (by simp[results,Tryz.results21,go_sem,Sp.val,K8,Jw,J22, *]<;>rfl) rfl ?_
 exact⟨rfl,S1.out⟩
theorem J3g {w:World} (hS:J3 w0 [] w r) {c:ByteArray} {ws:List ByteArray} (hA:J2h w0 r g off (c::ws)) (cap:Nat):
 Calls Tryz.prog 21 #[.slice (some ⟨g,off,none⟩) (c::ws).length cap] w (J1c w0 r (Ku (c::ws))):=by
 have S1:=hS.alloc (.cells #[.string ByteArray.empty,.int .i64 0,.int .i64 0,.int .i64 0,.int .i64 0,.int .i64 0,.int .i64 0] 45);have hn:(0:Int)<(((c::ws).length:Nat):Int):=by simp only[List.length_cons];omega
 have hcell:w.cell? ⟨g,off,none⟩=some (.string c):=hA.at_ w [] hS 0 c rfl
 have hlt:g<w.heap.size:=by
  have:=hcell
  unfold World.cell? at this;cases hh:w.heap[g]? with
  |none=>rw[hh] at this;cases this
  |some o=>exact Jf hh
 have hfew:=hA.few;have hfind:=hid (Js4 S1 c (hA.small c (by simp)))
 have hchk:Hid (Ku (c::ws)=_):=hid (show Ku (c::ws)=(match J5l c with
  |none=>(Jw,J00)
  |some s=>if(((c::ws).length:Nat):Int)<s.least\/s.most<(((c::ws).length:Nat):Int)\/Jah s.name ((c::ws).length:Nat)=true then(Jw,J1a++⟨(Lib.toLowerA s.name.data.toList).toArray⟩) else(s,ByteArray.empty)) from rfl)
 have hc0:=hS;generalize hn2:(c::ws).length=n at hn hfew hchk⊢;generalize Ku (c::ws)=res at hchk⊢;have hnz:(((n:Nat):Int)==0)=false:=by simp;omega
 clear hn2 hS hc0 hA;cases hf:J5l c with
 |none=>
  rw[hf] at hfind hchk;have hres:=hid hchk.out;simp only at hres
  clear S1 hf hchk;unfold Jax at hfind;simp only[Option.getD_none,Option.isSome_none] at hfind;unfold Sp.val K8 Jw at hfind;go_enter Tryz.func21,Tryz.ntmps21;go_wp2_with fail;refine hfind.out.mono ?_;rintro e w1 ⟨rfl,S2⟩;clear hfind hcell;go_upto_region 4 with fail;have S3:=(S2.alloc (.cells #[.string ByteArray.empty,.int .i64 0,.int .i64 0,.int .i64 0,.int .i64 0,.int .i64 0,.int .i64 0] 45)).permR (List.Perm.swap _ _ _);generalize w1.alloc (.cells #[.string ByteArray.empty,.int .i64 0,.int .i64 0,.int .i64 0,.int .i64 0,.int .i64 0,.int .i64 0] 45)=w2 at S3⊢;generalize w1.heap.size=b1 at S3⊢;generalize w.heap.size=b at S2 S3⊢;obtain⟨⟨x0,hx0⟩,⟨x1,hx1⟩,⟨x2,hx2⟩,⟨x3,hx3⟩,⟨x4,hx4⟩,⟨x5,hx5⟩,⟨x6,hx6⟩,fz,hb⟩:=J3v S3.own.head
  replace S3:=hid ((S3.setSp Jw).less ((List.sublist_cons_self _ _).trans (List.sublist_cons_self _ _)));unfold Jw at S3;clear S2;go_wp2_with fail;refine bodyPost_ret (v:=.tuple #[Jw.val,.string J00]) (by simp[results,Tryz.results21,go_sem,Sp.val,K8,Jw,J00, *]<;>rfl) rfl ?_
  rw[hres.out];exact⟨rfl,S3.out⟩
 |some s=>
  rw[hf] at hfind hchk;obtain⟨hmem,hnm⟩:=J98 hf
  obtain⟨hsz,hasc⟩:=J68 s hmem
  have hlow:=fun w'=>hid (Tryz.strings_ToLower_ascii s.name w' (by omega) (fun j b hb=>hasc b (List.mem_of_getElem? hb)))
  simp only at hchk
  clear S1 hf hasc hmem hnm;unfold Jax at hfind;simp only[Option.getD_some,Option.isSome_some] at hfind;unfold Sp.val K8 at hfind;obtain⟨name,kind,least,most,first,last,step⟩:=s
  simp only at hfind hchk hlow hsz
  have hls:(⟨(Lib.toLowerA name.data.toList).toArray⟩:ByteArray).size<=20:=by
   show(Lib.toLowerA name.data.toList).toArray.size<=20
   rw[List.size_toArray,Lib.toLowerA,List.length_map,Array.length_toList];exact hsz
  generalize (⟨(Lib.toLowerA name.data.toList).toArray⟩:ByteArray)=lw at hlow hchk hls;go_enter Tryz.func21,Tryz.ntmps21;go_wp2_with fail;refine hfind.out.mono ?_;rintro e w1 ⟨rfl,S2⟩;clear hfind;go_upto_region 4 with fail;have S3:=(S2.alloc (.cells #[.string name,.int .i64 kind,.int .i64 least,.int .i64 most,.int .i64 first,.int .i64 last,.int .i64 step] 45)).permR (List.Perm.swap _ _ _);generalize w1.alloc (.cells #[.string name,.int .i64 kind,.int .i64 least,.int .i64 most,.int .i64 first,.int .i64 last,.int .i64 step] 45)=w2 at S3⊢;generalize w1.heap.size=b1 at S3⊢;generalize w.heap.size=b at S2 S3⊢;clear S2 hcell hlt;have S4:=S3
  have hbb:b≠b1:=by
   have:=S3.own.nd
   simp only[J0y,List.nodup_cons,List.mem_cons,not_or] at this;exact this.1.1
  have hodd:=hid (Jwu S3 name kind least most first last step ((n:Nat):Int));have hwrong:∀wx,Hid _:=fun wx=>hid (fun (S:J3 w0 [] wx ((b,.cells #[.string ByteArray.empty,.int .i64 0,.int .i64 0,.int .i64 0,.int .i64 0,.int .i64 0,.int .i64 0] 45 (0,0))::(b1,.cells #[.string name,.int .i64 kind,.int .i64 least,.int .i64 most,.int .i64 first,.int .i64 last,.int .i64 step] 45 (0,0))::r))=>(S.setSp Jw).less ((List.sublist_cons_self _ _).trans (List.sublist_cons_self _ _)))
  have hright:∀wx,Hid _:=fun wx=>hid (fun (S:J3 w0 [] wx ((b,.cells #[.string ByteArray.empty,.int .i64 0,.int .i64 0,.int .i64 0,.int .i64 0,.int .i64 0,.int .i64 0] 45 (0,0))::(b1,.cells #[.string name,.int .i64 kind,.int .i64 least,.int .i64 most,.int .i64 first,.int .i64 last,.int .i64 step] 45 (0,0))::r))=>(S.setSp ⟨name,kind,least,most,first,last,step⟩).less ((List.sublist_cons_self _ _).trans (List.sublist_cons_self _ _)))
  obtain⟨hb,hb1,_,_⟩:b<w2.heap.size/\b1<w2.heap.size/\True/\True:=⟨Jf S3.own.head,Jf S3.own.tail.head,trivial,trivial⟩
  unfold Jw at hwrong;unfold K8 at hodd;replace S3:=hid S3;have y0:=J2 S4.own.tail.head 0;have y1:=J2 S4.own.tail.head 1;have y2:=J2 S4.own.tail.head 2;have y3:=J2 S4.own.tail.head 3;have y4:=J2 S4.own.tail.head 4;have y5:=J2 S4.own.tail.head 5;have y6:=J2 S4.own.tail.head 6;simp only[List.getElem?_toArray,List.getElem?_cons_zero,List.getElem?_cons_succ] at y0 y1 y2 y3 y4 y5 y6;clear S4;by_cases h1:((n:Nat):Int)<least
  ·have hres:=hid hchk.out
   rw[if_pos (.inl h1)] at hres;clear hchk;have hl:=hid ((hlow w2).out);clear hlow hodd;go_wp2_with fail;refine hl.out.mono ?_;rintro e w4 ⟨rfl,hbl⟩;have S5:=S3.out.below hbl;obtain⟨⟨x0,hx0⟩,⟨x1,hx1⟩,⟨x2,hx2⟩,⟨x3,hx3⟩,⟨x4,hx4⟩,⟨x5,hx5⟩,⟨x6,hx6⟩,fz,hb⟩:=J3v S5.own.head
   have S6:=hid ((hwrong w4).out S5);clear S3 hbl S5 hl hwrong hright;go_wp2_with fail;refine bodyPost_ret (v:=.tuple #[Jw.val,.string (J1a++lw)]) (by simp[results,Tryz.results21,go_sem,Sp.val,K8,Jw,J1a, *]<;>rfl) rfl ?_
   rw[hres.out];exact⟨rfl,S6.out⟩
  ·by_cases h2:most<((n:Nat):Int)
   ·have hres:=hid hchk.out
    rw[if_pos (.inr (.inl h2))] at hres;clear hchk;have hl:=hid ((hlow w2).out);clear hlow hodd;go_wp2_with fail;refine hl.out.mono ?_;rintro e w4 ⟨rfl,hbl⟩;have S5:=S3.out.below hbl;obtain⟨⟨x0,hx0⟩,⟨x1,hx1⟩,⟨x2,hx2⟩,⟨x3,hx3⟩,⟨x4,hx4⟩,⟨x5,hx5⟩,⟨x6,hx6⟩,fz,hb⟩:=J3v S5.own.head
    have S6:=hid ((hwrong w4).out S5);clear S3 hbl S5 hl hwrong hright;go_wp2_with fail;refine bodyPost_ret (v:=.tuple #[Jw.val,.string (J1a++lw)]) (by simp[results,Tryz.results21,go_sem,Sp.val,K8,Jw,J1a, *]<;>rfl) rfl ?_
    rw[hres.out];exact⟨rfl,S6.out⟩
   ·cases ho:Jah name ((n:Nat):Int) with
    |true=>
     have hres:=hid hchk.out;rw[if_pos (.inr (.inr ho))] at hres;rw[ho] at hodd;replace ho:=hid ho;clear hchk;go_wp2_with fail;refine hodd.out.mono ?_;rintro e w3 ⟨rfl,S3'⟩;clear S3 hodd y0 y1 y2 y3 y4 y5 y6;have y0:=J2 S3'.own.tail.head 0;simp only[List.getElem?_toArray,List.getElem?_cons_zero,List.getElem?_cons_succ] at y0;have S3:=hid S3';have hl:=hid ((hlow w3).out);clear hlow S3';go_wp2_with fail;refine hl.out.mono ?_;rintro e w4 ⟨rfl,hbl⟩;have S5:=S3.out.below hbl;obtain⟨⟨x0,hx0⟩,⟨x1,hx1⟩,⟨x2,hx2⟩,⟨x3,hx3⟩,⟨x4,hx4⟩,⟨x5,hx5⟩,⟨x6,hx6⟩,fz,hb⟩:=J3v S5.own.head
     have S6:=hid ((hwrong w4).out S5);clear S3 hbl S5 hl hwrong hright;go_wp2_with fail;refine bodyPost_ret (v:=.tuple #[Jw.val,.string (J1a++lw)]) (by simp[results,Tryz.results21,go_sem,Sp.val,K8,Jw,J1a, *]<;>rfl) rfl ?_
     rw[hres.out];exact⟨rfl,S6.out⟩
    |false=>
     have hres:=hid hchk.out;rw[if_neg (by rw[ho];simp only[Bool.false_eq_true,or_false];exact fun h=>h.elim h1 h2)] at hres
     rw[ho] at hodd;replace ho:=hid ho;clear hchk;go_wp2_with fail;refine hodd.out.mono ?_;rintro e w3 ⟨rfl,S3'⟩;clear S3 hodd y0 y1 y2 y3 y4 y5 y6;have y0:=J2 S3'.own.tail.head 0;have y1:=J2 S3'.own.tail.head 1;have y2:=J2 S3'.own.tail.head 2;have y3:=J2 S3'.own.tail.head 3;have y4:=J2 S3'.own.tail.head 4;have y5:=J2 S3'.own.tail.head 5;have y6:=J2 S3'.own.tail.head 6;simp only[List.getElem?_toArray,List.getElem?_cons_zero,List.getElem?_cons_succ] at y0 y1 y2 y3 y4 y5 y6;obtain⟨⟨x0,hx0⟩,⟨x1,hx1⟩,⟨x2,hx2⟩,⟨x3,hx3⟩,⟨x4,hx4⟩,⟨x5,hx5⟩,⟨x6,hx6⟩,fz,hb⟩:=J3v S3'.own.head
     have S6:=hid ((hright w3).out S3');clear S3' hlow hwrong hright;go_wp2_with fail;refine bodyPost_ret (v:=.tuple #[K8 name kind least most first last step,.string ByteArray.empty]) (by simp[results,Tryz.results21,go_sem,K8, *]<;>rfl) rfl ?_
     rw[hres.out];exact⟨rfl,S6.out⟩
end Go.Proofs.YtncbcaabanoeoaaGreatDoor
namespace Go.Proofs.YtncbcaabanoeoaaGreatDoor
open Go
variable {S:St}
structure Lf where
 kind:Int
 text:ByteArray
 n:Int
def Ja (a:Lf):Value:=J7 a.kind a.text a.n (.slice none 0 0)
def J34:Lf:=⟨6,ByteArray.empty,0⟩
def J11 (s:ByteArray):Lf:=⟨4,s,0⟩
def Jm (n:Int):Lf:=⟨3,ByteArray.empty,n⟩
def Kt (c:Int):Lf:=⟨2,Jx c,0⟩
def J44:Lf:=⟨1,⟨#[79,75]⟩,0⟩
def J3j:Option Itm->Lf
 |none=>J34
 |some it=>if it.kind=2 then Kt 91 else J11 it.text
def Ji (s:ByteArray):Itm:=⟨1,s,[]⟩
def St.putE (S:St) (key:ByteArray) (it:Itm):Int:=
 if 512<key.size\/(it.kind=1/\4096<it.text.size) then 31 else if S.bud<J24 key it then 121 else 0
def St.putG (S:St) (key:ByteArray) (it:Itm) (keep:Bool) (now:Int):St:=if S.putE key it=0 then S.put key it keep now else S.due key now
def St.get (S:St) (key:ByteArray) (now:Int):St:=(S.due key now).touch key
def St.look (S:St) (key:ByteArray) (now:Int):Option Itm:=Je (S.due key now).L key
def Jz2 (S:St) (now:Int) (key:ByteArray):St×Lf:=(S.get key now,J3j (S.look key now))
def J9i (S:St) (now:Int) (key:ByteArray):St×Lf:=
 (S.get key now,match S.look key now with
  |none=>Jm 0
  |some it=>if it.kind=2 then Kt 91 else Jm it.text.size)
def J6q (S:St) (now:Int) (key:ByteArray) (it:Itm) (e:Int) (a:Lf):St×Lf:=
 if e=0 then(S.putG key it true now,if S.putE key it=0 then a else Kt (S.putE key it)) else(S,Kt e)
def J7c (S:St) (now:Int) (key s:ByteArray) (a:Lf):St×Lf:=
 (S.putG key (Ji s) false now,if S.putE key (Ji s)=0 then a else Kt (S.putE key (Ji s)))
def tNx (S:St) (now:Int) (key s:ByteArray):St×Lf:=
 if(S.look key now).isSome then(S.due key now,Jm 0) else J7c (S.due key now) now key s (Jm 1)
def Jcm (S:St) (now:Int) (key s:ByteArray) (drop:Bool):St×Lf:=
 if(J3j (S.look key now)).kind=2 then(S.get key now,J3j (S.look key now)) else
 if drop then(((S.get key now).due key now).gone key 2,J3j (S.look key now)) else J7c (S.get key now) now key s (J3j (S.look key now))
def J2p (o:Option Itm) (n:Int):Itm×Int×Int:=
 match o with
 |none=>(Ji (J6s n),n,0)
 |some it=>if it.kind=2 then(it,0,91) else match J2f it.text with
  |none=>(it,0,92)
  |some m=>match J3d m n with
   |none=>(it,0,12)
   |some k=>(Ji (J6s k),k,0)
def Jcy (S:St) (now:Int) (key:ByteArray) (n:Int):St×Lf:=
 J6q (S.get key now) now key (J2p (S.look key now) n).1 (J2p (S.look key now) n).2.2 (Jm (J2p (S.look key now) n).2.1)
def J2t (S:St) (now:Int) (key s:ByteArray) (less:Bool):St×Lf:=
 match J2f s with
 |none=>(S,Kt 11)
 |some n=>if less then(if J5x n=0 then Jcy S now key (Jii n) else(S,Kt (J5x n))) else Jcy S now key n
def J1v (o:Option Itm) (s:ByteArray):Itm×Int:=
 match o with
 |none=>if 4096<s.size then(Jc,94) else(Ji s,0)
 |some it=>if it.kind=2 then(it,91) else if 4096<it.text.size+s.size then(it,94) else(Ji (it.text++s),0)
def Jp9 (S:St) (now:Int) (key s:ByteArray):St×Lf:=
 J6q (S.get key now) now key (J1v (S.look key now) s).1 (J1v (S.look key now) s).2 (Jm (J1v (S.look key now) s).1.text.size)
def J4e:St->Int->List ByteArray->St×List Lf
 |S,_,[]=>(S,[])
 |S,now,k::ks=>((J4e (S.get k now) now ks).1,(match S.look k now with
  |some it=>if it.kind=1 then J11 it.text else J34
  |none=>J34)::(J4e (S.get k now) now ks).2)
def J5k:St->Int->List ByteArray->St×Lf
 |S,now,k::s::l=>if S.putE k (Ji s)=0 then J5k (S.putG k (Ji s) false now) now l else(S.putG k (Ji s) false now,Kt (S.putE k (Ji s)))
 |S,_,_=>(S,J44)
def St.load (S:St):Nat:=S.ev.length+S.L.length
theorem St.load_gone (hf:Fit S) (key:ByteArray) (kind:Int):(S.gone key kind).load=S.load:=by
 cases h:Je S.L key with
 |none=>rw[Jom h]
 |some it=>
  have h1:=Jt6 (kind:=kind) hf h;have h2:=J7y (kind:=kind) h;unfold St.load;rw[h2] at h1⊢;simp only[List.length_append,List.length_cons,List.length_nil] at h1⊢;omega
theorem St.load_due (hf:Fit S) (key:ByteArray) (now:Int):(S.due key now).load=S.load:=by
 unfold St.due;split
 ·split
  ·exact St.load_gone hf _ _
  ·rfl
 ·rfl
theorem St.load_touch (hf:Fit S) (key:ByteArray):(S.touch key).load=S.load:=by
 unfold St.touch;split
 ·rename_i it h
  have:=(J3i hf.nd h).length_eq
  simp only[St.load,List.length_append,List.length_cons,List.length_nil] at this⊢;omega
 ·rfl
theorem St.load_get (hf:Fit S) (key:ByteArray) (now:Int):(S.get key now).load=S.load:=by
 unfold St.get;rw[St.load_touch (hf.due key now),St.load_due hf]
theorem Fit.get (hf:Fit S) (key:ByteArray) (now:Int):Fit (S.get key now):=(hf.due key now).touch key
theorem Kx.get (hf:Fit S) (hT:Kx S) (key:ByteArray) (now:Int):Kx (S.get key now):=Kx.touch (hf.due key now) (hT.due key now) key
theorem St.load_evict:∀(n:Nat) {S:St} (_:Fit S) (but:ByteArray),(S.evict n but).load=S.load
 |0,_,_,_=>rfl
 |n+1,S,hf,but=>by
  unfold St.evict;split
  ·split
   ·rw[St.load_evict n (hf.gone _ _),St.load_gone hf]
   ·rfl
  ·rfl
end Go.Proofs.YtncbcaabanoeoaaGreatDoor
namespace Go.Proofs.YtncbcaabanoeoaaGreatDoor
open Go Go.RowKit
variable {w0 w:World}{l r R A:Hp}{sb g off b cap:Nat}{S:St}{now:Int}
def J5n (it:Itm) (v:Value) (il:Hp):Prop:=(J0e it/\Jj v it.fs il)\/(it.kind=1/\it.fs=[]/\v= .slice none 0 0/\il=[])
theorem J5n.text (s:ByteArray):J5n (Ji s) (.slice none 0 0) []:=.inr ⟨rfl,rfl,rfl,rfl⟩
theorem Jv9 (hS:J3 w0 [] w (l++r)) (hG:J17 w0) (hX:Jh l sb S) (hev:S.ev.length<=1099511627776) (key:ByteArray) (hk:512<key.size) (hk2:key.size<=1099511627776)
 (kind:Int) (text:ByteArray) (v:Value) (keep:Bool) (now:Int):
  Calls Tryz.prog 87 #[ptr sb,.string key,J6 kind text v,.bool keep,.int .i64 now] w (Jp w0 r sb (S.due key now) (.int .i64 31)):=by
  have S1:=(hS.alloc (.cells #[.int .i64 kind,.string text,v] 59)).permR (l2:=l++((w.heap.size,.cells #[.int .i64 kind,.string text,v] 59 (0,0))::r)) List.perm_middle.symm;have hdue:=hid (J6y S1 hG hX (by omega) key hk2 now)
  have hks:(512:Int)<(key.size:Int):=by omega
  clear hS hX S1 hev;go_enter Tryz.func87,Tryz.ntmps87;unfold J6;go_wp2_with fail;refine hdue.out.mono ?_;rintro e w1 ⟨rfl,l1,hX1,S1⟩
  have hdone:=hid (show Jp w0 r sb (S.due key now) (.int .i64 31) (.returned (.int .i64 31)) w1 from⟨rfl,l1,hX1,S1.pick (l2:=l1++r) (m:=[(w.heap.size,.cells #[.int .i64 kind,.string text,v] 59 (0,0))]) (J5 fun f=>by
   simp only[SC];omega)⟩)
  clear hdue hX1 S1;go_wp2_with fail;go_ret;exact hdone.out
theorem Jrx (hS:J3 w0 [] w (l++r)) (hG:J17 w0) (hX:Jh l sb S) (hev:S.ev.length<=1099511627776) (key:ByteArray) (hk:key.size<=512)
 (text:ByteArray) (ht:4096<text.size) (keep:Bool) (now:Int):
  Calls Tryz.prog 87 #[ptr sb,.string key,J6 1 text (.slice none 0 0),.bool keep,.int .i64 now] w (Jp w0 r sb (S.due key now) (.int .i64 31)):=by
  have S1:=(hS.alloc (.cells #[.int .i64 1,.string text,.slice none 0 0] 59)).permR (l2:=l++((w.heap.size,.cells #[.int .i64 1,.string text,.slice none 0 0] 59 (0,0))::r)) List.perm_middle.symm;have hdue:=hid (J6y S1 hG hX (by omega) key (by omega) now)
  have hks:¬(512:Int)<(key.size:Int):=by omega
  clear hS hX S1 hev;go_enter Tryz.func87,Tryz.ntmps87;unfold J6;go_wp2_with fail;refine hdue.out.mono ?_;rintro e w1 ⟨rfl,l1,hX1,S1⟩;generalize w.heap.size=ib at S1⊢;obtain⟨x0,x1,x2,_⟩:=Jn S1.own.right.head
  have hright:=Jn7 S1 ht;unfold J6 at hright;replace hright:=hid hright;clear hdue S1;go_wp2_with fail;refine hright.out.mono ?_;rintro e w2 ⟨rfl,S1⟩
  have hdone:=hid (show Jp w0 r sb (S.due key now) (.int .i64 31) (.returned (.int .i64 31)) w2 from⟨rfl,l1,hX1,S1.pick (l2:=l1++r) (m:=[(ib,.cells #[.int .i64 1,.string text,.slice none 0 0] 59 (0,0))]) (J5 fun f=>by
   simp only[SC];omega)⟩)
  clear hright hX1 S1 x0 x1 x2;go_wp2_with fail;go_ret;exact hdone.out
theorem Jrw {il:Hp} {v:Value} {it:Itm} (hS:J3 w0 [] w (l++(il++r))) (hG:J17 w0) (hX:Jh l sb S) (hev:S.ev.length<=1099511627776) (key:ByteArray) (hk:key.size<=512)
 (hat:Jj v it.fs il) (hr:J0e it) (hc:S.bud<J24 key it) (keep:Bool) (now:Int):
  Calls Tryz.prog 87 #[ptr sb,.string key,J6 it.kind it.text v,.bool keep,.int .i64 now] w (Jp w0 (il++r) sb (S.due key now) (.int .i64 121)):=by
  obtain⟨a,cc,rfl⟩:=hat.shape
  have S1:=(hS.alloc (.cells #[.int .i64 it.kind,.string it.text,.slice a it.fs.length cc] 59)).permR (l2:=l++(il++((w.heap.size,.cells #[.int .i64 it.kind,.string it.text,.slice a it.fs.length cc] 59 (0,0))::r))) (J5 fun f=>by
   simp only[SC];omega)
  have hdue:=hid (J6y S1 hG hX (by omega) key (by omega) now)
  have hbud':=Jaa S key now;rw[<-hbud'] at hc;generalize S.due key now=S' at hdue hc⊢;have hks:¬(512:Int)<(key.size:Int):=by omega
  clear hS hX S1 hev hbud';go_enter Tryz.func87,Tryz.ntmps87;unfold J6;go_wp2_with fail;refine hdue.out.mono ?_;rintro e w1 ⟨rfl,l1,hX1,S1⟩;generalize w.heap.size=ib at S1⊢;clear hdue;have hown:=S1.own.right.right;obtain⟨x0,x1,x2,_⟩:=Jn hown.head
  have hright:=Jkq S1 hat hr;unfold J6 at hright;replace hright:=hid hright;replace S1:=hid S1;clear hown;go_wp2_with fail;refine hright.out.mono ?_;rintro e w2 ⟨rfl,S2⟩;clear hright x0 x1 x2 S1;obtain⟨m,rfl,hok,hf⟩:=hX1
  have hcost:∀w':World,J3 w0 [] w' (m.hp sb (Jd S'.L) S'.bud++(il++((ib,.cells #[.int .i64 it.kind,.string it.text,.slice a it.fs.length cc] 59 (0,0))::r)))->_:=fun _ h=>Jhb (key:=key) h hG hat hr (by omega)
  unfold J6 at hcost;have c6:∀p:InW w0 [] (m.hp sb (Jd S'.L) S'.bud++(il++((ib,.cells #[.int .i64 it.kind,.string it.text,.slice a it.fs.length cc] 59 (0,0))::r))),p.w.cell? ⟨sb,6,none⟩=some (.int .i64 (S'.bud:Nat)):=fun p=>(K1 p.h.own).c6
  have x0:∀p:InW w0 [] (m.hp sb (Jd S'.L) S'.bud++(il++((ib,.cells #[.int .i64 it.kind,.string it.text,.slice a it.fs.length cc] 59 (0,0))::r))),p.w.cell? ⟨ib,0,none⟩=some (.int .i64 it.kind):=fun p=>(Jn p.h.own.right.right.head).c0
  have x1:∀p:InW w0 [] (m.hp sb (Jd S'.L) S'.bud++(il++((ib,.cells #[.int .i64 it.kind,.string it.text,.slice a it.fs.length cc] 59 (0,0))::r))),p.w.cell? ⟨ib,1,none⟩=some (.string it.text):=fun p=>(Jn p.h.own.right.right.head).c1
  have x2:∀p:InW w0 [] (m.hp sb (Jd S'.L) S'.bud++(il++((ib,.cells #[.int .i64 it.kind,.string it.text,.slice a it.fs.length cc] 59 (0,0))::r))),p.w.cell? ⟨ib,2,none⟩=some (.slice a it.fs.length cc):=fun p=>(Jn p.h.own.right.right.head).c2
  have hcb:(S'.bud:Int)<(J24 key it:Nat):=by omega
  replace hcost:=hid hcost;replace S2:=hid S2
  have hdone:Hid (∀W,J3 w0 [] W (m.hp sb (Jd S'.L) S'.bud++(il++((ib,.cells #[.int .i64 it.kind,.string it.text,.slice a it.fs.length cc] 59 (0,0))::r)))->Jp w0 (il++r) sb S' (.int .i64 121) (.returned (.int .i64 121)) W):=hid (fun W h=>⟨rfl,_,⟨m,rfl,hok,hf⟩,h.pick (l2:=_++(il++r)) (m:=[(ib,.cells #[.int .i64 it.kind,.string it.text,.slice a it.fs.length cc] 59 (0,0))]) (J5 fun f=>by
   simp only[SC];omega)⟩)
  clear hok hf hat hr;go_wp2_with fail;refine J1x S2.out (by kernel_rfl) (by kernel_rfl) (fun hne=>?_)
  repeat (go_big_quiet_step ((go_at_call 144;refine Calls.inw (hcost.out _ (InW.h _)))))
  refine J73 fun w3 S3=>?_
  have hlast:=hid (hdone.out w3 S3);clear c6 x0 x1 x2 hne S2 S3 hdone hcost;go_wp2_with fail;go_ret;exact hlast.out
theorem J8e {il:Hp} {v:Value} {it:Itm} (hS:J3 w0 [] w (l++(il++r))) (hG:J17 w0) (hX:Jh l sb S) (hT:Kx S) (hev:S.ev.length<=1099511627776) (key:ByteArray) (hk:key.size<=1099511627776)
 (hp:J5n it v il) (keep:Bool) (now:Int):
  Calls Tryz.prog 87 #[ptr sb,.string key,J6 it.kind it.text v,.bool keep,.int .i64 now] w (Jp w0 (il++r) sb (S.putG key it keep now) (.int .i64 (S.putE key it))):=by
  by_cases h1:512<key.size
  ·have e:S.putE key it=31:=by simp[St.putE,h1]
   rw[St.putG,e,if_neg (by decide)]
   exact Jv9 (r:=il++r) hS hG hX hev key h1 hk it.kind it.text v keep now
  ·by_cases h2:it.kind=1/\4096<it.text.size
   ·have e:S.putE key it=31:=by simp[St.putE,h2]
    rw[St.putG,e,if_neg (by decide)]
    rcases hp with⟨hr,_⟩|⟨h3,h4,rfl,rfl⟩
    ·rcases hr with hr|hr
     ·omega
     ·omega
    ·rw[h3]
     exact Jrx hS hG hX hev key (by omega) it.text h2.2 keep now
   ·have hp':J0e it/\Jj v it.fs il:=by
     rcases hp with h|⟨h3,h4,rfl,rfl⟩
     ·exact h
     ·refine⟨.inl ⟨h3,by have:=fun h=>h2 ⟨h3,h⟩;omega,h4⟩,?_⟩
      rw[h4];exact⟨.nil,fun _=>rfl⟩
    by_cases h3:S.bud<J24 key it
    ·have e:S.putE key it=121:=by simp only[St.putE];rw[if_neg (by simp only[h1,false_or];exact h2),if_pos h3]
     rw[St.putG,e,if_neg (by decide)]
     exact Jrw hS hG hX hev key (by omega) hp'.2 hp'.1 h3 keep now
    ·have e:S.putE key it=0:=by simp only[St.putE];rw[if_neg (by simp only[h1,false_or];exact h2),if_neg h3]
     rw[St.putG,e,if_pos rfl];exact Jv8 hS hG hX hT hev key (by omega) hp'.2 hp'.1 (by omega) keep now
abbrev Jy (sb:Nat) (now:Int) (g off n cap:Nat):Obj:=.cells #[ptr sb,.int .i64 now,.slice (some ⟨g,off,none⟩) n cap] 108 (0,0)
def Kv (sb:Nat) (now:Int) (g off n cap:Nat):Value:=.agg #[ptr sb,.int .i64 now,.slice (some ⟨g,off,none⟩) n cap]
abbrev J4:Obj:=.cells #[.int .i64 0,.string ByteArray.empty,.int .i64 0,.float .f64 0,.bool false,.slice none 0 0] 34 (0,0)
structure Ctx (w0 w:World) (l r:Hp) (sb:Nat) (S:St) (g off:Nat) (ws:List ByteArray):Prop where
 st:J3 w0 [] w (l++r)
 gl:J17 w0
 is:Jh l sb S
 tight:Kx S
 load:S.load<=1000000000000
 args:J2h w0 r g off ws
theorem Ctx.box {ws:List ByteArray} (h:Ctx w0 w l r sb S g off ws) (o1 o2:Obj):Ctx w0 ((w.alloc o1).alloc o2) l (((w.heap.size+1,o2)::(w.heap.size,o1)::r)) sb S g off ws where
 st:=by
  have:=(h.st.alloc o1).alloc o2
  rw[World.size_alloc] at this;exact this.permR (J5 fun f=>by simp only[SC];omega)
 gl:=h.gl
 is:=h.is
 tight:=h.tight
 load:=h.load
 args:=h.args.more (x:=[(w.heap.size+1,o2),(w.heap.size,o1)])
structure Jo6 (w:World) (b sb:Nat) (now:Int) (g off n cap:Nat):Prop where
 c0:w.cell? ⟨b,0,none⟩=some (ptr sb)
 c1:w.cell? ⟨b,1,none⟩=some (.int .i64 now)
 c2:w.cell? ⟨b,2,none⟩=some (.slice (some ⟨g,off,none⟩) n cap)
theorem Jtl {n:Nat} (h:w.heap[b]? =some (Jy sb now g off n cap)):Jo6 w b sb now g off n cap:=⟨J2 h 0,J2 h 1,J2 h 2⟩
def InX (w0:World) (R:Hp) (w:World):Prop:=∃x,J3 w0 [] w (x++R)
theorem J3.inX (h:J3 w0 [] w A) (x:Hp) (p:A.Perm (x++R)):InX w0 R w:=⟨x,h.permR p⟩
theorem InX.alloc (h:Hid (InX w0 R w)) (o:Obj):Hid (InX w0 R (w.alloc o)):=by
 obtain⟨x,hx⟩:=h.out
 exact hid ⟨(w.heap.size,o)::x,hx.alloc o⟩
theorem InX.drew (h:Hid (InX w0 R w)):Hid (InX w0 R w.drew):=by
 obtain⟨x,hx⟩:=h.out
 exact hid ⟨x,hx.drew⟩
theorem InX.set3 {nb:Nat} {o0 o1 o2:Value} {t:TypeId} (h:J3 w0 [] w ((nb,.cells #[o0,o1,o2] t (0,0))::(A++R))) (v0 v1 v2:Value):
 Hid (InX w0 R (((w.setCell ⟨nb,0,none⟩ v0).setCell ⟨nb,1,none⟩ v1).setCell ⟨nb,2,none⟩ v2)):=
 hid ⟨(nb,.cells #[v0,v1,v2] t (0,0))::A,by have k:=((h.set 0 v0).set 1 v1).set 2 v2;exact k⟩
theorem set6 (o0 o1 o2 o3 o4 o5 v0 v1 v2 v3 v4 v5:Value):((((((#[o0,o1,o2,o3,o4,o5]:Array Value).setIfInBounds 0 v0).setIfInBounds 1 v1).setIfInBounds 2 v2).setIfInBounds 3 v3).setIfInBounds 4 v4).setIfInBounds 5 v5= #[v0,v1,v2,v3,v4,v5]:=by kernel_rfl
theorem J3.setLf {o0 o1 o2 o3 o4 o5:Value} {t:TypeId} (h:J3 w0 l w ((b,.cells #[o0,o1,o2,o3,o4,o5] t (0,0))::r)) (a:Lf):
 J3 w0 l ((((((w.setCell ⟨b,0,none⟩ (.int .i64 a.kind)).setCell ⟨b,1,none⟩ (.string a.text)).setCell ⟨b,2,none⟩ (.int .i64 a.n)).setCell ⟨b,3,none⟩ (.float .f64 0)).setCell ⟨b,4,none⟩ (.bool false)).setCell ⟨b,5,none⟩ (.slice none 0 0)) r:=
 ((((((h.set 0 (.int .i64 a.kind)).set 1 (.string a.text)).set 2 (.int .i64 a.n)).set 3 (.float .f64 0)).set 4 (.bool false)).set 5 (.slice none 0 0)).less (List.sublist_cons_self _ _)
structure Job (w0:World) (R:Hp) (b sb:Nat) (now:Int) (g off n cap:Nat) (ws:List ByteArray):Prop where
 at_:∀w':World,InX w0 R w'->Jo6 w' b sb now g off n cap
 arg:∀w':World,InX w0 R w'->∀(i:Nat) (s:ByteArray),ws[i]? =some s->w'.cell? ⟨g,off+i,none⟩=some (.string s)
theorem Ctx.job {n:Nat} {ws:List ByteArray} (h:Ctx w0 w l (A++(b,Jy sb now g off n cap)::r) sb S g off ws):Job w0 (A++(b,Jy sb now g off n cap)::r) b sb now g off n cap ws where
 at_:=fun w' ⟨x,hx⟩=>Jtl hx.own.right.right.head
 arg:=fun w' ⟨x,hx⟩ i s hs=>h.args.at_ w' x hx i s hs
abbrev K00 (w0:World) (R:Hp) (b sb:Nat) (now:Int) (g off n cap:Nat) (k:ByteArray) (w':World):Prop:=
 w'.cell? ⟨b,0,none⟩=some (ptr sb)/\w'.cell? ⟨b,1,none⟩=some (.int .i64 now)/\w'.cell? ⟨b,2,none⟩=some (.slice (some ⟨g,off,none⟩) n cap)/\w'.cell? ⟨g,off,none⟩=some (.string k)/\Hid (InX w0 R w')
theorem Job.one {n:Nat} {k:ByteArray} {ws:List ByteArray} (h:Job w0 R b sb now g off n cap (k::ws)) {w':World} (hx:Hid (InX w0 R w')):K00 w0 R b sb now g off n cap k w':=
 ⟨(h.at_ w' hx.out).c0,(h.at_ w' hx.out).c1,(h.at_ w' hx.out).c2,h.arg w' hx.out 0 k rfl,hx⟩
def J5m (w0:World) (R x:Hp) (sb:Nat) (S:St) (kd:Int) (tx:ByteArray) (is:Bool) (fs:Fs) (e:Ending) (w2:World):Prop:=
 ∃va vn vc vl l2,e= .returned (.tuple #[.agg #[.int .i64 kd,.string tx,.slice va vn vc],.bool is])/\Hid (Jj (.slice va vn vc) fs vl)/\Hid (Jh l2 sb S)/\Hid (J3 w0 [] w2 (x++(l2++(vl++R))))/\Hid (InX w0 R w2)
theorem J5m.of {x:Hp} {o:Option Itm} {e:Ending} {w2:World} (h:J52 w0 (x++R) sb S o e w2):J5m w0 R x sb S (o.getD Jc).kind (o.getD Jc).text o.isSome (o.getD Jc).fs e w2:=by
 obtain⟨v,vl,l2,rfl,h1,h2,h3⟩:=h
 obtain⟨va,vc,rfl⟩:=h1.shape
 have h4:=h3.permR (l2:=x++(l2++(vl++R))) (J5 fun f=>by simp only[SC];omega)
 exact⟨va,_,vc,vl,l2,rfl,hid h1,hid h2,hid h4,hid (h4.inX (x++(l2++vl)) (by rw[List.append_assoc,List.append_assoc]))⟩
theorem Ctx.get {ws:List ByteArray} (h:Ctx w0 w l R sb S g off ws) (k:ByteArray) (hk:k∈ws) (now:Int) {w':World} (x:Hp) (hw:J3 w0 [] w' (x++(l++R))):
 Calls Tryz.prog 39 #[ptr sb,.string k,.int .i64 now] w' (J5m w0 R x sb (S.get k now) ((S.look k now).getD Jc).kind ((S.look k now).getD Jc).text (S.look k now).isSome ((S.look k now).getD Jc).fs):=
 (Jjm (hw.permR (l2:=l++(x++R)) (J5 fun f=>by simp only[SC];omega)) h.gl h.is (by have:=h.load;unfold St.load at this;omega) k (h.args.small k hk) now).mono fun _ _ hp=>.of hp
abbrev Jb (kd:Int) (tx:ByteArray) (v:Value):Obj:=.cells #[.int .i64 kd,.string tx,v] 59 (0,0)
theorem Jv0 {k:ByteArray} {ws:List ByteArray} (h:Ctx w0 w l r sb S g off (k::ws)) (now:Int) (cap:Nat):
 Calls Tryz.prog 49 #[Kv sb now g off (k::ws).length cap] w (Jp w0 r sb (J9i S now k).1 (Ja (J9i S now k).2)):=by
 have H:=h.box (Jy sb now g off (k::ws).length cap) J4;have hn:(0:Int)<(((k::ws).length:Nat):Int):=by simp only[List.length_cons];omega
 generalize (k::ws).length=n at H hn⊢;have hn2:0<n:=by omega
 generalize hT:J9i S now k=T;replace hT:=hid hT;clear h;replace H:=hid H;go_enter Tryz.func49,Tryz.ntmps49;unfold Kv;go_wp2_with fail;generalize hw1:(w.alloc _).alloc _=w1;replace H:Ctx w0 w1 _ _ _ _ _ _ _:=hw1▸H.out;clear hw1;generalize w.heap.size=b at H⊢;have hjob:=hid (Ctx.job (A:=[(b+1,J4)]) H);obtain⟨R,hR⟩:∃R,R=[(b+1,J4)]++(b,Jy sb now g off n cap)::r:=⟨_,rfl⟩
 rw[<-hR] at hjob;replace H:Ctx w0 w1 l R sb S g off (k::ws):=hR▸H;have hget:∀(w':World) (x:Hp),Hid (J3 w0 [] w' (x++(l++R))->_):=fun w' x=>hid fun hw=>H.get k (by simp) now x hw
 have hs1:Hid (J3 w0 [] w1.drew ([]++(l++R))):=hid H.st.drew;have hs2:Hid (∀o:Obj,J3 w0 [] (w1.alloc o).drew ([(w1.heap.size,o)]++(l++R))):=hid fun o=>(H.st.alloc o).drew
 have hx1:Hid (InX w0 R w1.drew):=hid ⟨l,H.st.drew⟩;have hx0:Hid (InX w0 R w1):=hid ⟨l,H.st⟩;replace hR:=hid hR;clear H;obtain⟨kd,hkd⟩:∃kd,kd=((S.look k now).getD Jc).kind:=⟨_,rfl⟩
 obtain⟨tx,htx⟩:∃tx,tx=((S.look k now).getD Jc).text:=⟨_,rfl⟩
 obtain⟨is,his⟩:∃is,is=(S.look k now).isSome:=⟨_,rfl⟩
 rw[<-hkd,<-htx,<-his] at hget;replace hkd:=hid hkd;replace htx:=hid htx;replace his:=hid his;go_cut [3,4] (fun s3 s4 wc=>∃nb va vn vc vl l2,s3= .pointer (some ⟨nb,0,none⟩)/\s4= .bool is/\Hid (Jj (.slice va vn vc) ((S.look k now).getD Jc).fs vl)/\Hid (Jh l2 sb (S.get k now))/\Hid (J3 w0 [] wc ((nb,Jb kd tx (.slice va vn vc))::(l2++(vl++R)))))
 case first=>
  go_region_held3 (fun w'=>w'.cell? ⟨b,0,none⟩=some (ptr sb)/\w'.cell? ⟨b,1,none⟩=some (.int .i64 now)/\w'.cell? ⟨b,2,none⟩=some (.slice (some ⟨g,off,none⟩) n cap)/\w'.cell? ⟨g,off,none⟩=some (.string k)/\Hid (InX w0 R w'))
   (first|(exact hjob.out.one hx1)|(exact hjob.out.one (by assumption))|(exact hjob.out.one (InX.alloc (by assumption) _))|(exact hjob.out.one (InX.drew (InX.alloc (by assumption) _)))|(exact hjob.out.one (hset.out _ _ _))|(fail "keep"))
   (first|(go_at_call 39;refine((hget _ _).out hs1.out).mono ?_;rintro e w2 ⟨va,vn,vc,vl,l2,rfl,hat,hX,S2,hx2⟩)|(go_at_call 39;refine((hget _ _).out (hs2.out _)).mono ?_;rintro e w2 ⟨va,vn,vc,vl,l2,rfl,hat,hX,S2,hx2⟩;obtain⟨z0,z1,z2,zf⟩:=Jn S2.out.own.head;have zl:=Jf S2.out.own.head;have hset:Hid (∀v0 v1 v2,_):=hid fun v0 v1 v2=>InX.set3 (A:=l2++vl) (by rw[List.append_assoc];exact S2.out) v0 v1 v2))
  ·go_wp2_with fail
   go_meet
   exact⟨_,va,vn,vc,vl,l2,rfl,rfl,hat,hX,hid (S2.out.alloc _)⟩
  ·go_wp2_with fail
   go_meet
   exact⟨_,va,vn,vc,vl,l2,rfl,rfl,hat,hX,hid (((S2.out.set 0 _).set 1 _).set 2 _)⟩
 case rest=>
  obtain⟨nb,va,vn,vc,vl,l2,rfl,rfl,hat,hX,S3⟩:=hcut
  clear hget hs1 hs2 hx1 hx0;rw[hR.out] at S3;obtain⟨z0,z1,z2,zf⟩:=Jn S3.out.own.head
  have S4:=S3.out.permR (l2:=(b+1,J4)::(l2++r++(vl++[(nb,Jb kd tx (.slice va vn vc)),(b,Jy sb now g off n cap)]))) (J5 fun f=>by
   simp only[SC];omega)
  have hend:∀(w3:World) (a:Lf),Hid _:=fun w3 a=>hid (fun (h:J3 w0 [] w3 ((b+1,J4)::(l2++r++(vl++[(nb,Jb kd tx (.slice va vn vc)),(b,Jy sb now g off n cap)]))))=>(h.setLf a).less (List.sublist_append_left _ _))
  have hint:=hid (J15 S4 (tx.size:Int));have herr:=hid (J23 S4 91 (by unfold K2;omega))
  clear S3 S4 hjob hR;cases is with
  |false=>
   have hno:S.look k now=none:=by
    have:=his.out
    cases hl:S.look k now with
    |none=>rfl
    |some it=>rw[hl] at this;cases this
   have e:J9i S now k=(S.get k now,Jm tx.size):=by
    have:tx=ByteArray.empty:=by rw[htx.out,hno];rfl
    rw[this];simp only[J9i,hno];rfl
   rw[hT.out] at e;replace e:=hid e;clear herr hno his hkd htx hT;go_wp2_with fail;refine hint.out.mono ?_;rintro e1 w3 ⟨rfl,S5⟩;have S6:=hid ((hend w3 (Jm tx.size)).out S5);obtain⟨⟨c0,hc0⟩,⟨c1,hc1⟩,⟨c2,hc2⟩,⟨c3,hc3⟩,⟨c4,hc4⟩,⟨c5,hc5⟩,fz,hlt⟩:=J0d S5.own
   clear hint S5 hend;unfold J7;go_wp2_with fail;refine bodyPost_ret (v:=Ja (Jm tx.size)) (by simp[results,Tryz.results49,go_sem,J7,Ja,Jm, *]<;>rfl) rfl ?_
   rw[e.out];exact⟨rfl,l2,hX.out,S6.out⟩
  |true=>
   obtain⟨it,hit⟩:∃it,S.look k now=some it:=Option.isSome_iff_exists.1 his.out.symm
   have ek:kd=it.kind:=by rw[hkd.out,hit];rfl
   have et:tx=it.text:=by rw[htx.out,hit];rfl
   by_cases h2:kd=2
   ·have e:J9i S now k=(S.get k now,Kt 91):=by simp only[J9i,hit];rw[if_pos (by rw[<-ek];exact h2)]
    rw[hT.out] at e;replace e:=hid e;clear hint his hkd htx hT hit ek et;subst h2;go_wp2_with fail;refine herr.out.mono ?_;rintro e1 w3 ⟨rfl,S5⟩;have S6:=hid ((hend w3 (Kt 91)).out S5);obtain⟨⟨c0,hc0⟩,⟨c1,hc1⟩,⟨c2,hc2⟩,⟨c3,hc3⟩,⟨c4,hc4⟩,⟨c5,hc5⟩,fz,hlt⟩:=J0d S5.own
    clear herr S5 hend;unfold Kt at S6 e;generalize Jx 91=te at S6 e⊢;unfold J7;go_wp2_with fail;refine bodyPost_ret (v:=Ja ⟨2,te,0⟩) (by simp[results,Tryz.results49,go_sem,J7,Ja, *]<;>rfl) rfl ?_
    rw[e.out];exact⟨rfl,l2,hX.out,S6.out⟩
   ·have e:J9i S now k=(S.get k now,Jm tx.size):=by simp only[J9i,hit];rw[if_neg (by rw[<-ek];exact h2),et]
    rw[hT.out] at e;replace e:=hid e;have h2':(kd==2)=false:=by simpa using h2
    clear herr his hkd htx hT hit ek et h2;go_wp2_with fail;refine hint.out.mono ?_;rintro e1 w3 ⟨rfl,S5⟩;have S6:=hid ((hend w3 (Jm tx.size)).out S5);obtain⟨⟨c0,hc0⟩,⟨c1,hc1⟩,⟨c2,hc2⟩,⟨c3,hc3⟩,⟨c4,hc4⟩,⟨c5,hc5⟩,fz,hlt⟩:=J0d S5.own
    clear hint S5 hend;unfold J7;go_wp2_with fail;refine bodyPost_ret (v:=Ja (Jm tx.size)) (by simp[results,Tryz.results49,go_sem,J7,Ja,Jm, *]<;>rfl) rfl ?_
    rw[e.out];exact⟨rfl,l2,hX.out,S6.out⟩
end Go.Proofs.YtncbcaabanoeoaaGreatDoor
