/-
fields.Do, commands that are none of hashes (printed by gen_edo.py; for a seat of exec).
-/
import Derived.Test.YtefjbegnlolgbaaGreatDoorQ21
set_option linter.unusedVariables false
set_option linter.unusedSimpArgs false
set_option maxRecDepth 100000
set_option maxHeartbeats 8000000
namespace Go.Proofs.YtefjbegnlolgbaaGreatDoor
open Go Go.RowKit
theorem Jkm {w0 w:World} {l r:Hp} {sb:Nat} {S:St} {g off:Nat} {c:ByteArray} {ws:List ByteArray} (h:Ctx w0 w l r sb S g off (c::ws)) (sp:Sp) (hc:J0k (c::ws)=(sp,ByteArray.empty)) (hm:J7 J5d sp.name=none) (now:Int) (cap:Nat):
 Calls Tryz.prog 60 #[ptr sb,.int .i64 now,.slice (some ⟨g,off,none⟩) (c::ws).length cap] w (Jbd w0 (l++r)):=by
 have H:=h.alloc J5;have hchk:=J1f H.st (H.args.more (x:=l)) cap;rw[hc] at hchk;clear hc;unfold J18 Sp.val Jy at hchk;simp only at hchk
 obtain⟨n,hlen⟩:∃n,(c::ws).length=n:=⟨_,rfl⟩
 rw[hlen] at hchk⊢;replace hlen:=hid hlen;replace hchk:=hid hchk;replace hm:=hid hm;clear H h;go_enter Tryz.func60,Tryz.ntmps60;go_wp2_with fail;refine hchk.out.mono ?_;rintro e w2 ⟨rfl,S2⟩;clear hchk;go_upto_region 2 with fail;have S3:=S2.alloc (.cells #[.string sp.name,.int .i64 sp.kind,.int .i64 sp.least,.int .i64 sp.most,.int .i64 sp.first,.int .i64 sp.last,.int .i64 sp.step] 53);generalize hw3:w2.alloc _=w3;replace S3:J1 w0 [] w3 _:=hw3▸S3;clear hw3 S2;generalize w2.heap.size=b1 at S3⊢;generalize w.heap.size=b at S3⊢;obtain⟨R,hR⟩:∃R:Hp,R=(b1,.cells #[.string sp.name,.int .i64 sp.kind,.int .i64 sp.least,.int .i64 sp.most,.int .i64 sp.first,.int .i64 sp.last,.int .i64 sp.step] 53 (0,0))::(b,J5)::(l++r):=⟨_,rfl⟩
 have S4:J1 w0 [] w3 R:=S3.permR (J2 fun f=>by
  rw[hR];simp only[SC];omega)
 have hsm:(b1,.cells #[.string sp.name,.int .i64 sp.kind,.int .i64 sp.least,.int .i64 sp.most,.int .i64 sp.first,.int .i64 sp.last,.int .i64 sp.step] 53 (0,0))∈R:=by rw[hR];simp
 have hdoes:∀w',Hid (J1 w0 [] w' R->_):=fun w'=>hid fun hw=>Jcz hw
 have hs1:Hid (J1 w0 [] w3.drew R):=hid S4.drew;have hx1:Hid (InX w0 R w3.drew):=hid ⟨[],S4.drew⟩;have hkeep:Hid (∀w',Hid (InX w0 R w')->w'.cell? ⟨b1,0,none⟩=some (.string sp.name)/\Hid (InX w0 R w')):=hid fun w' hx=>⟨J0 (InX.get hx hsm) 0,hx⟩
 have hzero:∀w',(zeroValue 187).run Tryz.prog w'= .ok .nilFunc w':=fun w'=>by kernel_rfl
 clear S3 S4 hsm;go_cut [10,11] (fun s10 s11 wc=>s11= .bool false/\Hid (J1 w0 [] wc R))
 case first=>
  go_region_held3 (fun w'=>w'.cell? ⟨b1,0,none⟩=some (.string sp.name)/\Hid (InX w0 R w'))
   (first|(with_reducible exact hkeep.out _ hx1)|(with_reducible exact hkeep.out _ (by assumption))|(fail "keep"))
   (first|(go_at_call 101;refine((hdoes _).out hs1.out).mono ?_;rintro e w4 ⟨mb,o,rfl,hso,S5⟩;have hlk:=J39 (P:=Tryz.prog) (t:=189) Tryz.underlying189 Tryz.underlying9 hzero S5.own.head hso sp.name;rw[hm.out] at hlk;have hx2:Hid (InX w0 R w4):=hid ⟨[(mb,o)],S5⟩;have S6:=hid (S5.less (List.sublist_cons_self _ _));clear S5 hso))
  all_goals (
   go_wp2_with fail;go_meet
   exact⟨rfl,S6⟩)
 case rest=>
  obtain⟨rfl,S5⟩:=hcut
  clear hdoes hs1 hx1 hkeep hzero
  have S6:J1 w0 [] wc ((b,J5)::(l++r++[(b1,.cells #[.string sp.name,.int .i64 sp.kind,.int .i64 sp.least,.int .i64 sp.most,.int .i64 sp.first,.int .i64 sp.last,.int .i64 sp.step] 53 (0,0))])):=S5.out.permR (J2 fun f=>by
   rw[hR];simp only[SC];omega)
  obtain⟨⟨z0,hz0⟩,⟨z1,hz1⟩,⟨z2,hz2⟩,⟨z3,hz3⟩,⟨z4,hz4⟩,⟨z5,hz5⟩,fz,hlt⟩:=Jl S6.own.head
  have S9:=hid ((((((((S6.set 0 (.int .i64 0)).set 1 (.string ByteArray.empty)).set 2 (.int .i64 0)).set 3 (.float .f64 0)).set 4 (.bool false)).set 5 (.slice none 0 0)).less (List.sublist_cons_self _ _)).less (List.sublist_append_left _ _));replace hR:=hid hR;clear S5 S6;go_wp2_with fail;refine bodyPost_ret (v:=.tuple #[J3 0 ByteArray.empty 0 (.slice none 0 0),.bool false]) (by simp[results,Tryz.results60,go_sem,J3, *]<;>rfl) rfl ?_
  exact⟨rfl,S9.out⟩
theorem Jgx {l:Hp} {b:Nat} {ks:List ByteArray} {w:World} (hX:Jj l b ks) (ho:Own w l):
 Calls Tryz.prog 45 #[ptr b] w fun e w'=>e= .returned (.tuple #[])/\∃l',Jj l' b []/\J1 w l w' l':=by
 obtain⟨mb,o,ns,m,rfl,_,_,_,_⟩:=hX
 exact J9l b _ _ _ _ w w ((J1.refl ho).less (List.Sublist.cons_cons _ (List.nil_sublist _)))
theorem Fit.none {S:St} (hf:Fit S) (ev:List (Int×ByteArray)):Fit ⟨[],[],ev,S.bud⟩:=
 ⟨List.nodup_nil,fun k hk=>by simp at hk,List.nodup_nil,fun p hp=>by simp at hp,hf.bud,Nat.zero_le _⟩
end Go.Proofs.YtefjbegnlolgbaaGreatDoor
namespace Go.Proofs.YtefjbegnlolgbaaGreatDoor
open Go
variable {k t s:ByteArray}{it:Itm}{D:AL Int}{bud:Nat}{now:Int}{S:St}
theorem J83 (n:Int) (h0: -9223372036854775808<=n) (h1:n<=9223372036854775807):(J5u n).size<=21:=by
 have:=Lib.itoa_length_le n h0 h1
 have e:(J5u n).size=(Lib.itoa n).length:=by simp[J5u,ByteArray.size]
 omega
def one (k:ByteArray) (it:Itm) (D:AL Int) (ev:List (Int×ByteArray)) (bud:Nat):St:=⟨[(k,it)],D,ev,bud⟩
theorem J5i:J7 [(k,it)] k=some it:=by simp[J7]
theorem J6j:Jk [(k,it)] k=[]:=by simp[Jk]
theorem J78 {ev:List (Int×ByteArray)}:(one k it D ev bud).touch k=one k it D ev bud:=by
 simp only[St.touch,one,J5i,J6j,List.nil_append]
theorem J3g {ev:List (Int×ByteArray)} (now:Int):(one k it [] ev bud).due k now=one k it [] ev bud:=by
 simp[St.due,one,J7]
theorem J7v {ev:List (Int×ByteArray)} {t:Int} (h:now<t):(one k it [(k,t)] ev bud).due k now=one k it [(k,t)] ev bud:=by
 have:¬t<=now:=by omega
 simp[St.due,one,J7,this]
theorem J9k {ev:List (Int×ByteArray)} (h:(one k it D ev bud).due k now=one k it D ev bud):(one k it D ev bud).look k now=some it:=by
 rw[St.look,h];exact J5i
theorem Jbt {ev:List (Int×ByteArray)} (h:(one k it D ev bud).due k now=one k it D ev bud):(one k it D ev bud).get k now=one k it D ev bud:=by
 rw[St.get,h,J78]
theorem J3t {ev:List (Int×ByteArray)} (h:J0r k it<=bud):J00 (one k it D ev bud):=by
 simp only[J00,one,J4,List.map_cons,List.map_nil,List.sum_cons,List.sum_nil];omega
theorem Jdl {ev:List (Int×ByteArray)}:(one k it D ev bud).load=ev.length+1:=rfl
theorem J5e {n:Nat} (h:J00 S):S.evict n k=S:=by
 cases n with
 |zero=>rfl
 |succ n=>
  unfold J00 at h;unfold St.evict;rw[if_neg (by omega)]
theorem J6k {it':Itm} {ev:List (Int×ByteArray)} (h:(one k it D ev bud).due k now=one k it D ev bud) (hc:J0r k it'<=bud) (keep:Bool):
 (one k it D ev bud).put k it' keep now=one k it' (if keep then D else Jk D k) (ev++[(1,k)]) bud:=by
 have e:(one k it D ev bud).lay k it' keep=one k it' (if keep then D else Jk D k) (ev++[(1,k)]) bud:=by
  simp only[St.lay,one,J6j,List.nil_append]
 rw[St.put,h,e,J5e (J3t hc)]
theorem Jev {ev:List (Int×ByteArray)} (hc:J0r k it<=bud) (keep:Bool):
 (⟨[],[],ev,bud⟩:St).put k it keep now=one k it [] (ev++[(1,k)]) bud:=by
 have e0:(⟨[],[],ev,bud⟩:St).due k now=⟨[],[],ev,bud⟩:=rfl
 have e:(⟨[],[],ev,bud⟩:St).lay k it keep=one k it [] (ev++[(1,k)]) bud:=by
  cases keep<;>rfl
 rw[St.put,e0,e,J5e (J3t hc)]
theorem J5k (hk:k.size<=512) (hs:s.size<=4096) (hc:J0r k (J9 s)<=S.bud):S.putE k (J9 s)=0:=by
 have h1:¬(512<k.size\/((J9 s).kind=1/\4096<(J9 s).text.size)):=by
  rintro (h|⟨_,h⟩)
  ·omega
  ·have:(J9 s).text=s:=rfl
   rw[this] at h;omega
 rw[St.putE,if_neg h1,if_neg (by omega)]
theorem J8x {k s:ByteArray}:J0r k (J9 s)<=48+k.size+max 8 s.size:=by
 have e:J0r k (J9 s)=48+k.size+(if(J2n s).isSome then 8 else s.size):=rfl
 rw[e];split<;>omega
theorem J53:J8b S now k s []=if(S.due k now).putE k (J9 s)=0 then((S.due k now).putG k (J9 s) false now,J9c) else((S.due k now).putG k (J9 s) false now,J10 ((S.due k now).putE k (J9 s))):=rfl
abbrev kk:ByteArray:=⟨#[107]⟩
theorem J6h:kk.size=1:=rfl
theorem J43 (h:s.size<=4096):J0r kk (J9 s)<=4145:=by
 have:=@J8x kk s
 rw[J6h] at this;omega
def txt (s:ByteArray) (ev:List (Int×ByteArray)) (bud:Nat):St:=one kk (J9 s) [] ev bud
theorem J8m {ev:List (Int×ByteArray)} (now:Int):(txt s ev bud).due kk now=txt s ev bud:=J3g now
theorem J55 {ev:List (Int×ByteArray)} (now:Int):(txt s ev bud).look kk now=some (J9 s):=J9k (J8m now)
theorem J6q {ev:List (Int×ByteArray)} (now:Int):(txt s ev bud).get kk now=txt s ev bud:=Jbt (J8m now)
theorem Jb4 {ev:List (Int×ByteArray)} (h:s.size<=4096) (hb:4145<=bud):J00 (txt s ev bud):=J3t (Nat.le_trans (J43 h) hb)
theorem Je6 {ev:List (Int×ByteArray)}:(txt s ev bud).load=ev.length+1:=rfl
theorem Jc9 {ev:List (Int×ByteArray)}:(txt s ev bud).bud=bud:=rfl
theorem J6r {ev:List (Int×ByteArray)} (h:t.size<=4096) (hb:4145<=bud):(txt s ev bud).putE kk (J9 t)=0:=
 J5k (by rw[J6h];omega) h (by rw[Jc9];exact Nat.le_trans (J43 h) hb)
theorem J9v {ev:List (Int×ByteArray)} (h:t.size<=4096) (hb:4145<=bud) (keep:Bool) (now:Int):(txt s ev bud).putG kk (J9 t) keep now=txt t (ev++[(1,kk)]) bud:=by
 rw[St.putG,if_pos (J6r h hb)];have:=J6k (k:=kk) (it:=J9 s) (it':=J9 t) (D:=[]) (ev:=ev) (bud:=bud) (now:=now) (J3g now) (Nat.le_trans (J43 h) hb) keep
 rw[txt,this];cases keep<;>rfl
theorem J7c {ev:List (Int×ByteArray)} (h:t.size<=4096) (hb:4145<=bud) (now:Int) (a:Lf):Jay (txt s ev bud) now kk (J9 t) 0 a=(txt t (ev++[(1,kk)]) bud,a):=by
 rw[Jay,if_pos rfl,J9v h hb,J6r h hb,if_pos rfl]
theorem Jfp {b:Int} (hb:J4w b=⟨[],[],[],bud⟩) (hb2:4145<=bud) (h:s.size<=4096) (now:Int):J8b (J4w b) now kk s []=(txt s [(1,kk)] bud,J9c):=by
 have e0:(⟨[],[],[],bud⟩:St).due kk now=⟨[],[],[],bud⟩:=rfl;have e1:(⟨[],[],[],bud⟩:St).putE kk (J9 s)=0:=J5k (by rw[J6h];omega) h (Nat.le_trans (J43 h) hb2)
 rw[hb,J53,e0,if_pos e1,St.putG,if_pos e1,Jev (Nat.le_trans (J43 h) hb2)];rfl
theorem Je7 {ev:List (Int×ByteArray)} (now:Int):Jha (txt s ev bud) now kk=(txt s ev bud,J9d s):=by
 rw[Jha,J6q,J55];rfl
theorem Jb3 {ev:List (Int×ByteArray)} (now:Int):Jfu (txt s ev bud) now kk=(txt s ev bud,J2d s.size):=by
 rw[Jfu,J6q,J55];rfl
theorem Jb2 {ev:List (Int×ByteArray)} (h:s.size+t.size<=4096) (hb:4145<=bud) (now:Int):Jft (txt s ev bud) now kk t=(txt (s++t) (ev++[(1,kk)]) bud,J2d ((s.size:Int)+(t.size:Int))):=by
 have e:J5v (some (J9 s)) t=(J9 (s++t),0):=by
  have h1:¬(4096<(J9 s).text.size+t.size):=by
   have:(J9 s).text=s:=rfl
   rw[this];omega
  have h2:¬(J9 s).kind=2:=by show ¬(1:Int)=2;decide
  rw[J5v];simp only[h1,h2,if_false];rfl
 have hs:(s++t).size=s.size+t.size:=ByteArray.size_append;rw[Jft,J6q,J55,e];rw[J7c (by rw[hs];exact h) hb]
 have:(J9 (s++t)).text=s++t:=rfl
 rw[this,hs,Int.natCast_add]
end Go.Proofs.YtefjbegnlolgbaaGreatDoor
namespace Go.Proofs.YtefjbegnlolgbaaGreatDoor
open Go Go.RowKit
variable {w0 w:World}{r l:Hp}{sb B:Nat}{now:Int}
def J2q (b:Bool):Lf:=J2d (if b then 1 else 0)
theorem Jlj (hS:J1 w0 [] w r) (b:Bool):
 Calls Tryz.prog 109 #[.bool b] w (Ji w0 r (K4 (J2q b))):=by
 have S1:=hS.alloc J5;have hint:=fun n=>hid (J9y S1 n)
 clear hS S1;cases b
 all_goals
  go_enter Tryz.func109,Tryz.ntmps109;go_wp2_with fail;refine(hint _).out.mono ?_
  rintro e w1 ⟨rfl,S2⟩;generalize w.heap.size=b at S2⊢;obtain⟨⟨c0,hc0⟩,⟨c1,hc1⟩,⟨c2,hc2⟩,⟨c3,hc3⟩,⟨c4,hc4⟩,⟨c5,hc5⟩,fz,hlt⟩:=J42 S2.own
  clear hint;unfold J3
 ·have S3:=hid (S2.setLf (J2d 0))
  clear S2;go_wp2_with fail;refine bodyPost_ret (v:=K4 (J2q false)) (by simp[results,Tryz.results109,go_sem,J3,K4,J2q,J2d, *]<;>rfl) rfl ?_
  exact⟨rfl,S3.out⟩
 ·have S3:=hid (S2.setLf (J2d 1))
  clear S2;go_wp2_with fail;refine bodyPost_ret (v:=K4 (J2q true)) (by simp[results,Tryz.results109,go_sem,J3,K4,J2q,J2d, *]<;>rfl) rfl ?_
  exact⟨rfl,S3.out⟩
def J1z (p:Sp×ByteArray):Bool:=decide (p.2=ByteArray.empty)&&(decide (p.1.kind=1)||decide (p.1.kind=2))
theorem Jad {b:ByteArray}:b.toList=[] ↔ b=ByteArray.empty:=by
 rw[ByteArray.toList_eq];constructor
 ·intro h;cases b;simp only[Array.toList_eq_nil_iff] at h;subst h;rfl
 ·rintro rfl;rfl
theorem Jfl (hS:J1 w0 [] w r) {g off:Nat} {c:ByteArray} {ws:List ByteArray} (hA:J4l w0 r g off (c::ws)) (cap:Nat):
 Calls Tryz.prog 58 #[.slice (some ⟨g,off,none⟩) (c::ws).length cap] w (fun e w'=>e= .returned (.bool (J1z (J0k (c::ws))))/\J1 w0 [] w' r):=by
 have hchk:=J1f hS hA cap;generalize J0k (c::ws)=T at hchk⊢;obtain⟨sp,wrong⟩:=T
 unfold J18 Sp.val Jy at hchk;simp only at hchk
 generalize (c::ws).length=n at hchk⊢;replace hchk:=hid hchk;clear hS hA;by_cases hw:wrong=ByteArray.empty
 ·subst hw
  by_cases h1:sp.kind=1
  ·have hres:Hid (J1z (sp,ByteArray.empty)=true):=hid (by simp[J1z,h1])
   have hb1:(sp.kind==1)=true:=by simpa using h1
   clear h1;go_enter Tryz.func58,Tryz.ntmps58;go_wp2_with fail;refine hchk.out.mono ?_;rintro e w1 ⟨rfl,S1⟩;clear hchk;have S2:=hid (S1.alloc (.cells #[.string sp.name,.int .i64 sp.kind,.int .i64 sp.least,.int .i64 sp.most,.int .i64 sp.first,.int .i64 sp.last,.int .i64 sp.step] 53));clear S1;go_wp2_with fail;go_ret;rw[hres.out];exact⟨rfl,S2.out.less (List.sublist_cons_self _ _)⟩
  ·have hb1:(sp.kind==1)=false:=by simpa using h1
   by_cases h2:sp.kind=2
   ·have hres:Hid (J1z (sp,ByteArray.empty)=true):=hid (by simp[J1z,h2])
    have hb2:(sp.kind==2)=true:=by simpa using h2
    clear h1 h2;go_enter Tryz.func58,Tryz.ntmps58;go_wp2_with fail;refine hchk.out.mono ?_;rintro e w1 ⟨rfl,S1⟩;clear hchk;have S2:=hid (S1.alloc (.cells #[.string sp.name,.int .i64 sp.kind,.int .i64 sp.least,.int .i64 sp.most,.int .i64 sp.first,.int .i64 sp.last,.int .i64 sp.step] 53));clear S1;go_wp2_with fail;go_ret;rw[hres.out];exact⟨rfl,S2.out.less (List.sublist_cons_self _ _)⟩
   ·have hres:Hid (J1z (sp,ByteArray.empty)=false):=hid (by simp[J1z,h1,h2])
    have hb2:(sp.kind==2)=false:=by simpa using h2
    clear h1 h2;go_enter Tryz.func58,Tryz.ntmps58;go_wp2_with fail;refine hchk.out.mono ?_;rintro e w1 ⟨rfl,S1⟩;clear hchk;have S2:=hid (S1.alloc (.cells #[.string sp.name,.int .i64 sp.kind,.int .i64 sp.least,.int .i64 sp.most,.int .i64 sp.first,.int .i64 sp.last,.int .i64 sp.step] 53));clear S1;go_wp2_with fail;go_ret;rw[hres.out];exact⟨rfl,S2.out.less (List.sublist_cons_self _ _)⟩
 ·have hres:Hid (J1z (sp,wrong)=false):=hid (by simp[J1z,hw])
  have hw1:¬wrong.toList=[]:=fun h=>hw (Jad.1 h)
  have hw2:wrong.toList.isEmpty=false:=by simpa using hw1
  clear hw;go_enter Tryz.func58,Tryz.ntmps58;go_wp2_with fail;refine hchk.out.mono ?_;rintro e w1 ⟨rfl,S1⟩;clear hchk;have S2:=hid (S1.alloc (.cells #[.string sp.name,.int .i64 sp.kind,.int .i64 sp.least,.int .i64 sp.most,.int .i64 sp.first,.int .i64 sp.last,.int .i64 sp.step] 53));clear S1;go_wp2_with fail;go_ret;rw[hres.out];exact⟨rfl,S2.out.less (List.sublist_cons_self _ _)⟩
def J0e (S:St) (now:Int) (key text:ByteArray) (unit:Int):St×Lf:=
 match J2n text with
 |none=>(S,J10 11)
 |some n=>if 0<=n then(if(K0 now n unit).2=0 then((S.due key now).expire key (K0 now n unit).1 now,J2q (J7 (S.due key now).L key).isSome) else(S,J10 (K0 now n unit).2))
  else((S.due key now).expire key now now,J2q (J7 (S.due key now).L key).isSome)
theorem Jd1 {S:St} (hS:J1 w0 [] w (l++r)) (hG:J1q w0) (hX:Je l sb S) (hev:S.ev.length<=1099511627776) (key text:ByteArray) (hk:key.size<=1099511627776) (ht:text.size<=1099511627776) (now unit:Int) (hnow:0<=now/\now<=4611686018427387904) (hu:unit=1\/unit=1000):
 Calls Tryz.prog 108 #[ptr sb,.int .i64 now,.string key,.string text,.int .i64 unit] w (Jw w0 r sb (J0e S now key text unit).1 (K4 (J0e S now key text unit).2)):=by
 have S0:=hS.alloc J5;have hparse:=hid (J64 S0 hG text ht);obtain⟨B,hB⟩:∃B,B=w.heap.size:=⟨_,rfl⟩
 have herr:∀(w':World) (c:Int),Hid (J0u c)->Hid (Calls _ _ _ w' _):=fun w' c h=>hid (J6s w' c h.out)
 have hfl:∀(w':World) (c:Int),Hid (J1 w0 [] w' ((B,J5)::(l++r)))->Hid (Calls _ _ _ w' _):=fun w' c hS'=>hid (J2f hS'.out (Jo c))
 have hexp:∀(w':World) (t:Int),t<=9223372036854775807->Hid (J1 w0 [] w' ((B,J5)::(l++r)))->Hid (Calls _ _ _ w' _):=fun w' t ht hS'=>
  hid (J92 (r:=(B,J5)::r) (hS'.out.permR (J2 fun f=>by simp only[SC];omega)) hG hX (by omega) key hk t now hnow.1 ht)
 have hyes:∀(w':World) (b:Bool) (l':Hp),Hid (J1 w0 [] w' (l'++((B,J5)::r)))->Hid (Calls _ _ _ w' _):=fun w' b l' hS'=>hid (Jlj (hS'.out.permR (l2:=(B,J5)::(l'++r)) (J2 fun f=>by simp only[SC];omega)) b)
 have hX0:=hid hX;have hw0:Hid (w.heap.size=B):=hid hB.symm;rw[<-hB] at hparse;clear S0 hS hX hB hG hev hk;cases hp:J2n text with
 |none=>
  have hres:Hid (J0e S now key text unit=(S,J10 11)):=hid (by simp[J0e,hp])
  rw[hp] at hparse;simp only[J9z,Option.isSome_none,Option.getD_none,Bool.false_eq_true,if_false] at hparse;replace hnow:=hid hnow;replace hu:=hid hu;have h3:=fun w'=>herr w' 11 (hid (.inl rfl))
  have h2:=fun w'=>hfl w' 11
  unfold J10 at hres;generalize Jo 11=te at h2 h3 hres;clear hp hexp hyes hfl herr;go_enter Tryz.func108,Tryz.ntmps108;go_wp2_with fail;rw[hw0.out];refine hparse.out.mono ?_;rintro e w1 ⟨rfl,S1⟩;replace h2:=h2 w1 (hid S1);replace h3:=h3 w1;clear hparse S1;go_wp2_with fail;refine h3.out.mono ?_;rintro e w2 ⟨rfl,rfl⟩;go_wp2_with fail;refine h2.out.mono ?_;rintro e w2 ⟨rfl,S2⟩;obtain⟨⟨c0,hc0⟩,⟨c1,hc1⟩,⟨c2,hc2⟩,⟨c3,hc3⟩,⟨c4,hc4⟩,⟨c5,hc5⟩,fz,hlt⟩:=J42 S2.own
  have S3:=hid (S2.setLf ⟨2,te,0⟩);clear S2 h2 h3;unfold J3;go_wp2_with fail;refine bodyPost_ret (v:=K4 ⟨2,te,0⟩) (by simp[results,Tryz.results108,go_sem,J3,K4, *]<;>rfl) rfl ?_
  rw[hres.out];exact⟨rfl,l,hX0.out,S3.out⟩
 |some n=>
  obtain⟨hn1,hn2⟩:=J82 hp
  rw[hp] at hparse;simp only[J9z,Option.isSome_some,Option.getD_some,if_true] at hparse;obtain⟨hnow1,hnow2⟩:=hnow
  by_cases hn:0<=n
  ·have hwhen:∀w':World,Hid (Calls Tryz.prog 169 #[.int .i64 now,.int .i64 n,.int .i64 unit] w' fun e w''=>e= .returned (.tuple #[.int .i64 (K0 now n unit).1,.int .i64 (K0 now n unit).2])/\w'=w''):=fun w'=>hid (by
    rcases hu with rfl|rfl
    ·exact Jk5 now n w' ⟨by omega,by omega⟩ ⟨hn1,hn2⟩
    ·exact Jb9 now n w' ⟨by omega,by omega⟩ ⟨hn1,hn2⟩)
   have hkn:=J6t now n unit;have hle:=Jb8 now n unit;have hres:J0e S now key text unit=if(K0 now n unit).2=0 then((S.due key now).expire key (K0 now n unit).1 now,J2q (J7 (S.due key now).L key).isSome) else(S,J10 (K0 now n unit).2):=by simp[J0e,hp,hn]
   generalize K0 now n unit=T at hwhen hkn hle hres;obtain⟨t,c⟩:=T
   simp only at hwhen hkn hle hres
   replace hu:=hid hu;clear hp;rcases hkn with rfl|rfl
   ·rw[if_pos rfl] at hres
    replace hres:=hid hres;go_enter Tryz.func108,Tryz.ntmps108;go_wp2_with fail;rw[hw0.out];refine hparse.out.mono ?_;rintro e w1 ⟨rfl,S1⟩;go_wp2_with fail;refine(hwhen _).out.mono ?_
    rintro e w2 ⟨rfl,rfl⟩;clear hwhen;have h2:=hexp w1 t (by omega) (hid S1)
    clear hparse S1 hfl herr hexp;go_wp2_with fail;refine h2.out.mono ?_;rintro e w2 ⟨rfl,l2,hX2,S2⟩;have h3:=hyes w2 (J7 (S.due key now).L key).isSome l2 (hid S2);clear h2 hyes;obtain⟨bb,hbb⟩:∃bb,bb=(J7 (S.due key now).L key).isSome:=⟨_,rfl⟩
    rw[<-hbb] at hres h3⊢;clear hbb S2;replace hX2:=hid hX2;go_wp2_with fail;refine h3.out.mono ?_;rintro e w3 ⟨rfl,S3⟩;obtain⟨⟨c0,hc0⟩,⟨c1,hc1⟩,⟨c2,hc2⟩,⟨c3,hc3⟩,⟨c4,hc4⟩,⟨c5,hc5⟩,fz,hlt⟩:=J42 S3.own
    have S4:=hid (S3.setLf (J2q bb));clear S3 h3;unfold K4 J3;go_wp2_with fail;refine bodyPost_ret (v:=K4 (J2q bb)) (by simp[results,Tryz.results108,go_sem,J3,K4,J2q,J2d, *]<;>rfl) rfl ?_
    rw[hres.out];exact⟨rfl,l2,hX2.out,S4.out⟩
   ·rw[if_neg (by decide)] at hres
    replace hres:=hid hres;have h3:=fun w'=>herr w' 111 (hid (.inr (.inr (.inl rfl))))
    have h2:=fun w'=>hfl w' 111
    unfold J10 at hres;generalize Jo 111=te at h2 h3 hres;clear hexp hyes hfl herr;go_enter Tryz.func108,Tryz.ntmps108;go_wp2_with fail;rw[hw0.out];refine hparse.out.mono ?_;rintro e w1 ⟨rfl,S1⟩;go_wp2_with fail;refine(hwhen _).out.mono ?_
    rintro e w2 ⟨rfl,rfl⟩;clear hwhen;replace h2:=h2 w1 (hid S1);replace h3:=h3 w1;clear hparse S1;go_wp2_with fail;refine h3.out.mono ?_;rintro e w2 ⟨rfl,rfl⟩;go_wp2_with fail;refine h2.out.mono ?_;rintro e w2 ⟨rfl,S2⟩;obtain⟨⟨c0,hc0⟩,⟨c1,hc1⟩,⟨c2,hc2⟩,⟨c3,hc3⟩,⟨c4,hc4⟩,⟨c5,hc5⟩,fz,hlt⟩:=J42 S2.own
    have S3:=hid (S2.setLf ⟨2,te,0⟩);clear S2 h2 h3;unfold J3;go_wp2_with fail;refine bodyPost_ret (v:=K4 ⟨2,te,0⟩) (by simp[results,Tryz.results108,go_sem,J3,K4, *]<;>rfl) rfl ?_
    rw[hres.out];exact⟨rfl,l,hX0.out,S3.out⟩
  ·have hres:Hid (J0e S now key text unit=((S.due key now).expire key now now,J2q (J7 (S.due key now).L key).isSome)):=hid (by simp[J0e,hp,hn])
   replace hu:=hid hu;clear hp;go_enter Tryz.func108,Tryz.ntmps108;go_wp2_with fail;rw[hw0.out];refine hparse.out.mono ?_;rintro e w1 ⟨rfl,S1⟩;have h2:=hexp w1 now (by omega) (hid S1)
   clear hparse S1 hfl herr hexp;go_wp2_with fail;refine h2.out.mono ?_;rintro e w2 ⟨rfl,l2,hX2,S2⟩;have h3:=hyes w2 (J7 (S.due key now).L key).isSome l2 (hid S2);clear h2 hyes;obtain⟨bb,hbb⟩:∃bb,bb=(J7 (S.due key now).L key).isSome:=⟨_,rfl⟩
   rw[<-hbb] at hres h3⊢;clear hbb S2;replace hX2:=hid hX2;go_wp2_with fail;refine h3.out.mono ?_;rintro e w3 ⟨rfl,S3⟩;obtain⟨⟨c0,hc0⟩,⟨c1,hc1⟩,⟨c2,hc2⟩,⟨c3,hc3⟩,⟨c4,hc4⟩,⟨c5,hc5⟩,fz,hlt⟩:=J42 S3.own
   have S4:=hid (S3.setLf (J2q bb));clear S3 h3;unfold K4 J3;go_wp2_with fail;refine bodyPost_ret (v:=K4 (J2q bb)) (by simp[results,Tryz.results108,go_sem,J3,K4,J2q,J2d, *]<;>rfl) rfl ?_
   rw[hres.out];exact⟨rfl,l2,hX2.out,S4.out⟩
abbrev J4m (B sb:Nat) (now:Int):Hp:=[(B+1+1,J5),(B+1,.cells #[.int .i64 now] 2 (0,0)),(B,.cells #[ptr sb] 38 (0,0))]
structure Jmz (w:World) (B sb:Nat) (now:Int):Prop where
 a0:w.cell? ⟨B,0,none⟩=some (ptr sb)
 a1:w.cell? ⟨B+1,0,none⟩=some (.int .i64 now)
theorem Jlp {x:Hp} (h:J1 w0 [] w (x++(J4m B sb now++r))):Jmz w B sb now:=
 ⟨J0 (h.own.right.left.at_ (B,.cells #[ptr sb] 38 (0,0)) (by simp)) 0,J0 (h.own.right.left.at_ (B+1,.cells #[.int .i64 now] 2 (0,0)) (by simp)) 0⟩
theorem Jmg (h:J1 w0 [] w (l++r)):J1 w0 [] (((w.alloc (.cells #[ptr sb] 38)).alloc (.cells #[.int .i64 now] 2)).alloc J5) (l++(J4m w.heap.size sb now++r)):=by
 have h3:=((h.alloc (.cells #[ptr sb] 38)).alloc (.cells #[.int .i64 now] 2)).alloc J5;simp only[World.size_alloc] at h3;exact h3.permR (J2 fun f=>by simp only[SC];omega)
theorem Jmi (h:J1 w0 [] w (l++(J4m B sb now++r))):J1 w0 [] w ((B+1+1,J5)::(l++r++[(B+1,.cells #[.int .i64 now] 2 (0,0)),(B,.cells #[ptr sb] 38 (0,0))])):=
 h.permR (J2 fun f=>by simp only[SC];omega)
theorem Jmh {o:Obj} (h:J1 w0 [] w (l++r++[(B+1,.cells #[.int .i64 now] 2 (0,0)),(B,.cells #[ptr sb] 38 (0,0))])):J1 w0 [] w (l++r):=h.less (List.sublist_append_left _ _)
theorem J5x {S:St} {g off:Nat} {k m:ByteArray} {ws:List ByteArray} (h:Ctx w0 w l r sb S g off (k::m::ws)) (now:Int) (hnow:0<=now/\now<=4611686018427387904) (cap:Nat):
 Calls Tryz.prog 61 #[ptr sb,.int .i64 now,.string ⟨#[69,88,80,73,82,69]⟩,.slice (some ⟨g,off,none⟩) (k::m::ws).length cap] w (Jw w0 r sb (J0e S now k m 1000).1 (K4 (J0e S now k m 1000).2)):=by
 obtain⟨L,hL⟩:∃L:Hp,L=l++(J4m w.heap.size sb now++r):=⟨_,rfl⟩
 have hS:=Jmg (sb:=sb) (now:=now) h.st;rw[<-hL] at hS;have hin:∀w',J1 w0 [] w' L->J1 w0 [] w' (l++(J4m w.heap.size sb now++r)):=fun w' q=>by rw[hL] at q;exact q
 have hG:=hid h.gl;have hX:=hid h.is;have hev:=hid h.ev;have hks:=hid (h.args.small k (by simp))
 have hms:=hid (h.args.small m (by simp))
 have harg:∀p:InW w0 [] L,p.w.cell? ⟨g,off,none⟩=some (.string k):=fun p=>h.args.at_ p.w (l++J4m w.heap.size sb now) (by rw[List.append_assoc];exact hin _ p.h) 0 k rfl
 have harg2:∀p:InW w0 [] L,p.w.cell? ⟨g,off+1,none⟩=some (.string m):=fun p=>h.args.at_ p.w (l++J4m w.heap.size sb now) (by rw[List.append_assoc];exact hin _ p.h) 1 m rfl
 have ha0:∀p:InW w0 [] L,p.w.cell? ⟨w.heap.size,0,none⟩=some (ptr sb):=fun p=>(Jlp (hin _ p.h)).a0
 have ha1:∀p:InW w0 [] L,p.w.cell? ⟨w.heap.size+1,0,none⟩=some (.int .i64 now):=fun p=>(Jlp (hin _ p.h)).a1
 have hn:1<(k::m::ws).length:=by simp only[List.length_cons];omega
 generalize (k::m::ws).length=n at hn⊢;have hn0:0<n:=by omega
 have hn1:(0:Int)<(n:Int):=by omega
 have hn2:(1:Int)<(n:Int):=by omega
 generalize hb:w.heap.size=B at hS hL ha0 ha1;replace hb:=hid hb;replace hS:=hid hS;replace hL:=hid hL;clear h hin;obtain⟨T,hT⟩:∃T,T=(J0e S now k m 1000):=⟨_,rfl⟩
 rw[<-hT];replace hT:=hid hT;replace hnow:=hid hnow;go_enter Tryz.func61,Tryz.ntmps61;go_wp2_with fail;rw[hb.out];generalize hw1:((w.alloc _).alloc _).alloc _=w1;replace hS:J1 w0 [] w1 _:=hw1▸hS.out;clear hw1;refine Jx 8 hS (by kernel_rfl) (by kernel_rfl) (fun hne=>?_)
 simp only[List.take_succ_cons,List.take_zero,List.drop_succ_cons,List.drop_zero];replace hS:=hid hS;repeat (go_big_quiet_step (fail))
 refine J17 fun w7 S10=>?_
 clear harg harg2 ha0 ha1 hne hS;rw[hL.out] at S10;have hcall:=hid (Jd1 (r:=J4m B sb now++r) S10 hG.out hX.out (by have:=hev.out;omega) k m hks.out hms.out now 1000 hnow.out (by decide))
 clear S10;go_wp2_with fail;refine hcall.out.mono ?_;rintro e w8 ⟨rfl,l3,hX3,S11⟩;clear hcall;replace hX3:=hid hX3;replace S11:=Jmi S11;have S12:=S11;clear S11;obtain⟨a,ha⟩:∃a,a=(J0e S now k m 1000).2:=⟨_,rfl⟩
 rw[<-ha];replace ha:=hid ha;obtain⟨⟨c0,hc0⟩,⟨c1,hc1⟩,⟨c2,hc2⟩,⟨c3,hc3⟩,⟨c4,hc4⟩,⟨c5,hc5⟩,fz,hlt⟩:=J42 S12.own
 have S13:=hid (Jmh (o:=J5) (S12.setLf a));clear S12 hX;unfold K4 J3;go_wp2_with fail;refine bodyPost_ret (v:=K4 a) (by simp[results,Tryz.results61,go_sem,J3,K4,J2q,J2d,J9c, *]<;>rfl) rfl ?_
 rw[hT.out,<-ha.out];exact⟨rfl,l3,hX3.out,S13.out⟩
end Go.Proofs.YtefjbegnlolgbaaGreatDoor
