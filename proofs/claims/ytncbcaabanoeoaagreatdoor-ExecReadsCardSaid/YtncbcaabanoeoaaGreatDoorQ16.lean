/-
whole: Text, Parse, Add, Neg.
-/
import Derived.Lib.ConvBytes
import Derived.Test.YtncbcaabanoeoaaGreatDoorQ05
import Derived.Test.YtncbcaabanoeoaaGreatDoorQ08
import Derived.Test.YtncbcaabanoeoaaGreatDoorQ11
import Derived.Test.YtncbcaabanoeoaaGreatDoorQ15
set_option linter.unusedVariables false
set_option linter.unusedSimpArgs false
set_option maxRecDepth 100000
set_option maxHeartbeats 8000000
namespace Go.Proofs.YtncbcaabanoeoaaGreatDoor
open Go Go.RowKit Go.Sort
variable {w0 w:World}{r:Hp}
structure J17 (w:World):Prop where
 syn:∃tp p,w.var? Tryz.prog "strconv.ErrSyntax"=some #[.iface tp p]
 rng:∃tp p,w.var? Tryz.prog "strconv.ErrRange"=some #[.iface tp p]
 tab:Lib.TabIs Tryz.prog w "internal/strconv.uint64pow10" .u64 Lib.pow10Tab
theorem Jf6 (hS:J3 w0 [] w r) {n:String} {cs:Array Value} (h:w0.var? Tryz.prog n=some cs):w.var? Tryz.prog n=some cs:=by
 unfold World.var? at h⊢;cases hg:Tryz.prog.globalNamed n with
 |none=>rw[hg] at h;cases h
 |some g=>
  rw[hg] at h;simp only[Option.bind_some] at h⊢;cases hh:w0.heap[g]? with
  |none=>rw[hh] at h;cases h
  |some o=>rw[hS.same g (Jf hh) (by simp)];exact h
theorem J17.keep (h:J17 w0) (hS:J3 w0 [] w r):J17 w:=
 ⟨let ⟨tp,p,hv⟩:=h.syn;⟨tp,p,Jf6 hS hv⟩,let ⟨tp,p,hv⟩:=h.rng;⟨tp,p,Jf6 hS hv⟩,Jf6 hS h.tab⟩
theorem J3.below {w':World} {l:Hp} (hS:J3 w0 l w r) (hb:Below w.heap.size w w'):J3 w0 l w' r:=by
 have k:J3 w r w' r:=⟨hb.os,hb.output,hb.size,⟨fun p hp=>by rw[hb.block p.1 (hS.own.lt (List.mem_map_of_mem hp))];exact hS.own.at_ p hp,hS.own.nd⟩,fun b hb' _=>hb.block b hb',fun b hb'=>.inl hb'⟩
 exact hS.trans k
theorem J3.growN {l:Hp} (hS:J3 w0 l w r) (k:Nat) (os:Array Obj):J3 w0 l (grow (w.drewN k) os) r:=by
 refine hS.below ⟨rfl,rfl,rfl,?_,fun i hi=>?_⟩
 ·show w.heap.size<=(w.heap++os).size
  simp
 ·show(w.heap++os)[i]? =_
  rw[Array.getElem?_append_left hi]
theorem J99 (hS:J3 w0 [] w r) (hG:J17 w0) (n:Int) (h0: -9223372036854775808<=n) (h1:n<=9223372036854775807):
 Calls Tryz.prog 152 #[.int .i64 n] w fun e w'=>e= .returned (.string (J6s n))/\J3 w0 [] w' r:=by
 have hc:=hid (Tryz.strconv_FormatInt_10 n h0 h1 w (hG.keep hS).tab);go_enter Tryz.func152,Tryz.ntmps152;go_wp2_with fail;refine hc.out.mono ?_;rintro e w1 ⟨rfl,k,os,rfl⟩;go_wp2_with fail;go_ret;exact⟨rfl,hS.growN k os⟩
def J5w (o:Option Int):Int:=if o.isSome then 0 else 11
theorem J2u (hS:J3 w0 [] w r) (hG:J17 w0) (s:ByteArray) (hs:s.size<=1099511627776):
 Calls Tryz.prog 94 #[.string s] w fun e w'=>e= .returned (.tuple #[.int .i64 ((J2f s).getD 0),.int .i64 (J5w (J2f s))])/\J3 w0 [] w' r:=by
 cases hp:Lib.parseIntB 64 s.data.toList with
 |ok v=>
  have hb:=Lib.parseIntB_bounds hp;have hc:=hid (Tryz.strconv_ParseInt_10_at64_ok s (by omega) v hp w)
  have hv: -9223372036854775808<=v/\v<=9223372036854775807:=by
   have e:((2 ^(64 - 1):Nat):Int)=9223372036854775808:=by decide
   rw[e] at hb;omega
  clear hb;by_cases he:J6s v=s
  ·have hw:=hid (show J2f s=some v by unfold J2f;rw[hp];simp only;rw[if_pos he])
   have ht:=Jbr he;clear hp he;go_enter Tryz.func94,Tryz.ntmps94;go_wp2_with fail;refine hc.out.mono ?_;rintro e w1 ⟨rfl,hw1⟩;have S1:J3 w0 [] w1 r:=by
    rcases hw1 with rfl|⟨t,rfl⟩
    ·exact hS
    ·exact hS.below (Lib.bytesWorld_below _ _ _)
   clear hw1;have hcall:=hid (J99 S1 hG v hv.1 hv.2);clear S1;go_wp2_with fail;refine hcall.out.mono ?_;rintro e w2 ⟨rfl,S2⟩;replace S2:=hid S2;go_wp2_with fail;go_ret2;rw[hw.out];exact⟨rfl,S2.out⟩
  ·have hw:=hid (show J2f s=none by unfold J2f;rw[hp];simp only;rw[if_neg he])
   have ht:=J6o he;clear hp he;go_enter Tryz.func94,Tryz.ntmps94;go_wp2_with fail;refine hc.out.mono ?_;rintro e w1 ⟨rfl,hw1⟩;have S1:J3 w0 [] w1 r:=by
    rcases hw1 with rfl|⟨t,rfl⟩
    ·exact hS
    ·exact hS.below (Lib.bytesWorld_below _ _ _)
   clear hw1;have hcall:=hid (J99 S1 hG v hv.1 hv.2);clear S1;go_wp2_with fail;refine hcall.out.mono ?_;rintro e w2 ⟨rfl,S2⟩;replace S2:=hid S2;go_wp2_with fail;go_ret2;rw[hw.out];exact⟨rfl,S2.out⟩
 |range=>
  have hw:=hid (show J2f s=none by unfold J2f;rw[hp])
  obtain⟨tp,p,hv⟩:=(hG.keep hS).rng
  have hc:=hid (Tryz.strconv_ParseInt_10_at64_range_var s (by omega) hp tp p w hv)
  clear hp hv;generalize Lib.intSat 64 s.data.toList=sat at hc;go_enter Tryz.func94,Tryz.ntmps94;go_wp2_with fail;refine hc.out.mono ?_;rintro e w1 ⟨N,rfl,_,_,hb⟩;have S1:=hid (hS.below hb);clear hb;go_wp2_with fail;go_ret2;rw[hw.out];exact⟨rfl,S1.out⟩
 |_=>
  have hw:=hid (show J2f s=none by unfold J2f;rw[hp])
  obtain⟨tp,p,hv⟩:=(hG.keep hS).syn
  have hc:=hid (Tryz.strconv_ParseInt_10_at64_syntax_var s (by omega) hp tp p w hv)
  clear hp hv;go_enter Tryz.func94,Tryz.ntmps94;go_wp2_with fail;refine hc.out.mono ?_;rintro e w1 ⟨N,rfl,_,_,hb⟩;have S1:=hid (hS.below hb);clear hb;go_wp2_with fail;go_ret2;rw[hw.out];exact⟨rfl,S1.out⟩
def J3d (a b:Int):Option Int:=if -9223372036854775808<=a+b/\a+b<=9223372036854775807 then some (a+b) else none
def Jcp (o:Option Int):Int:=if o.isSome then 0 else 12
theorem J8h (a b:Int) (w:World) (ha: -9223372036854775808<=a/\a<=9223372036854775807) (hb: -9223372036854775808<=b/\b<=9223372036854775807):
 Calls Tryz.prog 150 #[.int .i64 a,.int .i64 b] w fun e w'=>e= .returned (.tuple #[.int .i64 ((J3d a b).getD 0),.int .i64 (Jcp (J3d a b))])/\w'=w:=by
 obtain⟨a0,a1⟩:=ha
 obtain⟨b0,b1⟩:=hb
 rcases Int.lt_trichotomy b 0 with h|h|h
 ·by_cases h2:a< -9223372036854775808 - b
  ·have hw:=hid (show J3d a b=none by unfold J3d;rw[if_neg (by omega)])
   go_enter Tryz.func150,Tryz.ntmps150;go_wp2_with fail;go_ret2;rw[hw.out];exact⟨rfl,rfl⟩
  ·have hw:=hid (show J3d a b=some (a+b) by unfold J3d;rw[if_pos (by omega)])
   have hs0: -9223372036854775808<=a+b:=by omega
   have hs1:a+b<=9223372036854775807:=by omega
   go_enter Tryz.func150,Tryz.ntmps150;go_wp2_with fail;go_ret2;rw[hw.out];exact⟨rfl,rfl⟩
 ·subst h
  have hw:=hid (show J3d a 0=some a by unfold J3d;rw[if_pos (by omega)];simp)
  go_enter Tryz.func150,Tryz.ntmps150;go_wp2_with fail;go_ret2;rw[hw.out];exact⟨rfl,rfl⟩
 ·by_cases h2:9223372036854775807 - b<a
  ·have hw:=hid (show J3d a b=none by unfold J3d;rw[if_neg (by omega)])
   go_enter Tryz.func150,Tryz.ntmps150;go_wp2_with fail;go_ret2;rw[hw.out];exact⟨rfl,rfl⟩
  ·have hw:=hid (show J3d a b=some (a+b) by unfold J3d;rw[if_pos (by omega)])
   have hs0: -9223372036854775808<=a+b:=by omega
   have hs1:a+b<=9223372036854775807:=by omega
   go_enter Tryz.func150,Tryz.ntmps150;go_wp2_with fail;go_ret2;rw[hw.out];exact⟨rfl,rfl⟩
end Go.Proofs.YtncbcaabanoeoaaGreatDoor
namespace Go.Proofs.YtncbcaabanoeoaaGreatDoor
open Go Go.RowKit
variable {w0 w:World}{l r:Hp}{v:Value}{sb:Nat}{k:ByteArray}{S:St}
theorem Jrm {sl:Hp} {it:Itm} (hS:J3 w0 l w (sl++r)) (hat:Jj v it.fs sl) (hr:J0e it):
 Calls Tryz.prog 143 #[J6 it.kind it.text v] w fun e w'=>e= .returned (.bool true)/\J3 w0 l w' (sl++r):=by
 obtain⟨kind,text,fs⟩:=it
 rcases hr with⟨hk,ht,hf⟩|⟨hk,ht,hrise,h1,h2,hf⟩
 ·simp only at hk ht hf hat⊢
  subst hk hf;obtain rfl:=hat.nil rfl;exact Jn8 hS ht
 ·simp only at hk ht hrise h1 h2 hf hat⊢
  subst hk ht;obtain⟨g,cap,rest,rfl,hc,hc2,rfl,hrest⟩:=hat.sl.view (by omega)
  exact Jn6 hS hrise h1 h2 hf
theorem Jcr (fs:Fs) (k:Nat) (f:ByteArray×ByteArray) (h:fs[k]? =some f):K6 (fs.take (k+1))=K6 (fs.take k)+(16+f.1.size+f.2.size):=by
 obtain⟨hk,rfl⟩:=List.getElem?_eq_some_iff.1 h
 rw[List.take_succ_eq_append_getElem hk];simp only[K6,List.map_append,List.sum_append,List.map_cons,List.map_nil,List.sum_cons,List.sum_nil,Nat.add_zero]
theorem J9e (fs:Fs) (k:Nat):K6 (fs.take k)<=K6 fs:=by
 have:K6 fs=K6 (fs.take k)+K6 (fs.drop k):=by
  conv=>lhs;rw[<-List.take_append_drop k fs]
  simp only[K6,List.map_append,List.sum_append]
 omega
theorem Jpu {key text:ByteArray} (hS:J3 w0 [] w r) (hG:J17 w0) (hk:key.size<=1099511627776) (ht:text.size<=1099511627776):
 Calls Tryz.prog 144 #[.string key,J6 1 text v] w fun e w'=>e= .returned (.int .i64 (J24 key ⟨1,text,[]⟩:Nat))/\J3 w0 [] w' r:=by
 have S1:=hS.alloc (.cells #[.int .i64 1,.string text,v] 59);have hcall:=hid (J2u S1 hG text ht);clear hS S1;cases hn:J2f text with
 |some n=>
  have hc:=hid (show(J24 key ⟨1,text,[]⟩:Int)=48+(key.size:Int)+8 by simp[J24,hn])
  rw[hn] at hcall;go_enter Tryz.func144,Tryz.ntmps144;unfold J6;go_wp2_with fail;refine hcall.out.mono ?_;rintro e w2 ⟨rfl,S2⟩;have c1:=(Jn S2.own.head).c1;have S3:=hid (S2.less (List.sublist_cons_self _ _));simp only[J5w,Option.isSome_some,if_true];clear S2 hcall;replace hn:=hid hn;go_wp2_with fail;go_ret;rw[hc.out];exact⟨rfl,S3.out⟩
 |none=>
  have hc:=hid (show(J24 key ⟨1,text,[]⟩:Int)=48+(key.size:Int)+text.size by simp[J24,hn])
  rw[hn] at hcall;go_enter Tryz.func144,Tryz.ntmps144;unfold J6;go_wp2_with fail;refine hcall.out.mono ?_;rintro e w2 ⟨rfl,S2⟩;have c1:=(Jn S2.own.head).c1;have S3:=hid (S2.less (List.sublist_cons_self _ _));simp only[J5w,Option.isSome_none,Bool.false_eq_true,if_false];clear S2 hcall;replace hn:=hid hn;go_wp2_with fail;go_ret;rw[hc.out];exact⟨rfl,S3.out⟩
theorem Jpt {sl:Hp} {key text:ByteArray} {kind:Int} {fs:Fs} (hkd:(kind==1)=false) (hS:J3 w0 l w (sl++r)) (hat:Jj v fs sl) (hk:key.size<=1099511627776) (hB:fs.length<=1048576) (hf:K6 fs<=1099511627776):
 Calls Tryz.prog 144 #[.string key,J6 kind text v] w fun e w'=>e= .returned (.int .i64 (48+key.size+K6 fs:Nat))/\J3 w0 l w' (sl++r):=by
 obtain⟨a,c,rfl⟩:=hat.shape
 have S1:=hid (hS.alloc (.cells #[.int .i64 kind,.string text,.slice a fs.length c] 59));have hat':=hid hat;clear hS hat;go_enter Tryz.func144,Tryz.ntmps144;unfold J6;go_wp2_with fail;generalize hw1:w.alloc (.cells #[.int .i64 kind,.string text,.slice a fs.length c] 59)=w1 at S1⊢;replace S1:=hid (S1.out.less (List.sublist_cons_self _ _));clear hw1;go_loopw [5,34] (fun n i wr=>∃k:Nat,k<=fs.length/\n= .int .i64 (48+key.size+K6 (fs.take k):Nat)/\i= .int .i64 k/\Hid (J3 w0 l wr (sl++r))) (fun _ i wr=>fs.length - (intOf i).toNat)
 case atStart=>exact⟨0,Nat.zero_le _,by simp[K6],rfl,S1⟩
 case round=>
  obtain⟨k,hk',rfl,rfl,hS2⟩:=hrel
  have hle:=J9e fs k;by_cases hlt:k<fs.length
  ·obtain⟨f,hfk⟩:∃f:ByteArray×ByteArray,fs[k]? =some f:=⟨fs[k],List.getElem?_eq_getElem _⟩
   obtain⟨g,cap,rest,hsl,hc,hc2,rfl,hrest⟩:=hat'.out.sl.view (by omega)
   injection hsl with h1 h2 h3
   subst h1 h3;have hb:=hS2.out.own.head;have hgl:=Jf hb;have hcm:=J1q fs k f hfk;have hlen:=K7 fs;have b0:wr.cell? ⟨g,k*2,none⟩=some (.string f.1):=by
    rw[J2 hb,List.getElem?_toArray,List.getElem?_append_left (by omega),Nat.mul_comm,hcm.1]
   have b1:wr.cell? ⟨g,k*2+1,none⟩=some (.string f.2):=by
    rw[J2 hb,List.getElem?_toArray,List.getElem?_append_left (by omega),Nat.mul_comm,hcm.2]
   have hsn:=Jcr fs k f hfk;have hle2:=J9e fs (k+1);have S3:=hid ((hS2.out.alloc (.cells #[.string f.1,.string f.2] 93)).less (List.sublist_cons_self _ _));have hrel:Hid (48+key.size+K6 (fs.take (k+1))=48+key.size+K6 (fs.take k)+(16+f.1.size+f.2.size)):=hid (by omega)
   have hbd:48+key.size+K6 (fs.take k)+(16+f.1.size+f.2.size)<=4611686018427387904:=by omega
   clear hb hcm hlen hsn hle2 hle hfk;generalize 48+key.size+K6 (fs.take k)=m at hrel hbd⊢;go_wp2_with fail;go_roundw
   case rel=>exact⟨k+1,by omega,by rw[hrel.out];go_num,by go_num,S3⟩
   case measure=>simp[intOf];omega
  ·obtain rfl:k=fs.length:=by omega
   rw[List.take_length];go_wp2_with fail;go_ret;exact⟨rfl,hS2.out⟩
structure J1l where
 key:ByteArray
 at_:Nat
 it:Itm
variable {c:J1l}
structure J4a where
 it:Itm
 v:Value
 hp:Hp
def Jbo (s:J4a):List Value:=[.int .i64 s.it.kind,.string s.it.text,s.v]
def Jr (ss:List J4a):List Value:=ss.flatMap Jbo
def J06 (ss:List J4a):Hp:=ss.flatMap J4a.hp
def J1g (es:List (Int×ByteArray)):List Value:=es.flatMap fun e=>[.int .i64 e.1,.string e.2]
def J1p (fr:List Nat):List Value:=fr.map fun n:Nat=>.int .i64 (n:Int)
def J0c:J4a:=⟨Jc,.slice none 0 0,[]⟩
structure SM where
 tb:Nat
 rb:Nat
 xb:Nat
 sv:Value
 fv:Value
 vv:Value
 tl:Hp
 rl:Hp
 xl:Hp
 shp:Hp
 fhp:Hp
 vhp:Hp
 M:KV
 cs:List J1l
 ss:List J4a
 fr:List Nat
variable {m:SM}
abbrev J1i (m:SM) (n bud:Nat):Obj:=.cells #[ptr m.tb,m.sv,m.fv,ptr m.rb,ptr m.xb,.int .i64 n,.int .i64 bud,m.vv] 56 (0,0)
def SM.rest (m:SM):Hp:=m.tl++(m.rl++(m.xl++(m.shp++(m.fhp++(m.vhp++J06 m.ss)))))
def SM.hp (m:SM) (sb n bud:Nat):Hp:=(sb,J1i m n bud)::m.rest
structure SM.Ok (m:SM) (S:St):Prop where
 tab:K5 m.tl m.tb m.M 0
 rcn:Ko m.rl m.rb (m.cs.map J1l.key)
 exp:Kq m.xl m.xb S.D
 slots:SliceHp 3 59 m.sv m.ss.length (Jr m.ss) m.shp
 free:SliceHp 1 3 m.fv m.fr.length (J1p m.fr) m.fhp
 evs:SliceHp 2 41 m.vv S.ev.length (J1g S.ev) m.vhp
 cells:S.L=m.cs.map fun c=>(c.key,c.it)
 num:m.M.Perm (m.cs.map fun c=>(c.key,(c.at_:Int)))
 holds:∀c∈m.cs,∃s,m.ss[c.at_]? =some s/\s.it=c.it
 all:(m.fr++m.cs.map J1l.at_).Perm (List.range m.ss.length)
 each:∀s∈m.ss,Jj s.v s.it.fs s.hp
 few:m.ss.length<=68719476736
def Jh (l:Hp) (sb:Nat) (S:St):Prop:=∃m:SM,l=m.hp sb (Jd S.L) S.bud/\m.Ok S/\Fit S
structure Jh3 (w:World) (sb:Nat) (m:SM) (n bud:Nat):Prop where
 c0:w.cell? ⟨sb,0,none⟩=some (ptr m.tb)
 c1:w.cell? ⟨sb,1,none⟩=some m.sv
 c2:w.cell? ⟨sb,2,none⟩=some m.fv
 c3:w.cell? ⟨sb,3,none⟩=some (ptr m.rb)
 c4:w.cell? ⟨sb,4,none⟩=some (ptr m.xb)
 c5:w.cell? ⟨sb,5,none⟩=some (.int .i64 n)
 c6:w.cell? ⟨sb,6,none⟩=some (.int .i64 bud)
 c7:w.cell? ⟨sb,7,none⟩=some m.vv
 fz:∀j,w.frozen? ⟨sb,j,none⟩=false
theorem K1 {n bud:Nat} (h:Own w (m.hp sb n bud++r)):Jh3 w sb m n bud:=by
 have hh:w.heap[sb]? =some (J1i m n bud):=h.left.head;exact⟨J2 hh 0,J2 hh 1,J2 hh 2,J2 hh 3,J2 hh 4,J2 hh 5,J2 hh 6,J2 hh 7,fun j=>Jg hh j⟩
theorem J1d {n bud:Nat} (f:Nat×Obj->Nat):((m.hp sb n bud++r).map f).sum=f (sb,J1i m n bud)+(m.tl.map f).sum+(m.rl.map f).sum+(m.xl.map f).sum+(m.shp.map f).sum+(m.fhp.map f).sum+(m.vhp.map f).sum+((J06 m.ss).map f).sum+(r.map f).sum:=by
 simp only[SM.hp,SM.rest,List.map_append,List.sum_append,List.map_cons,List.sum_cons,List.cons_append];omega
theorem J3.turn {w':World} {A A' B a a':Hp} (h:J3 w0 l w A) (p:∀f:Nat×Obj->Nat,(A.map f).sum=(a.map f).sum+(B.map f).sum) (k:J3 w a w' a') (q:∀f:Nat×Obj->Nat,(A'.map f).sum=(a'.map f).sum+(B.map f).sum):J3 w0 l w' A':=
 (h.part (a:=a) (r:=B) (J5 fun f=>by rw[p f,List.map_append,List.sum_append]) k).permR (J5 fun f=>by rw[q f,List.map_append,List.sum_append])
theorem Jyb:(Tryz.prog.info? 41).map (fun i=>(i.zero,i.size,i.bytes))=some (some (.agg #[.int .i64 0,.string ByteArray.empty]),2,24):=by kernel_rfl
theorem Jhl (es:List (Int×ByteArray)) (e:Int×ByteArray):J1g (es++[e])=J1g es++[.int .i64 e.1,.string e.2]:=by simp[J1g]
theorem Jlh {n bud:Nat} {ev:List (Int×ByteArray)} (hS:J3 w0 l w (m.hp sb n bud++r)) (hev:SliceHp 2 41 m.vv ev.length (J1g ev) m.vhp) (hB:ev.length<=4398046511104) (kind:Int) (key:ByteArray):
 Calls Tryz.prog 112 #[ptr sb,.int .i64 kind,.string key] w fun e w'=>e= .returned (.tuple #[])/\
  ∃vv' vhp',SliceHp 2 41 vv' (ev++[(kind,key)]).length (J1g (ev++[(kind,key)])) vhp'/\J3 w0 l w' ({m with vv:=vv',vhp:=vhp'}.hp sb n bud++r):=by
 obtain⟨_,_,_,_,_,_,_,c7,fz⟩:=K1 hS.own
 have hsb:=Jf hS.own.left.head;have S1:=hS.alloc (.cells #[.int .i64 kind,.string key] 41);have hvb:=S1.own.head;generalize hw1:w.alloc (.cells #[.int .i64 kind,.string key] 41)=w1 at S1 hvb;have S2:=S1.permR (l2:=m.vhp++((w.heap.size,.cells #[.int .i64 kind,.string key] 41 (0,0))::(sb,J1i m n bud)::(m.tl++(m.rl++(m.xl++(m.shp++(m.fhp++(J06 m.ss++r)))))))) (J5 fun f=>by
  simp only[SM.hp,SM.rest,List.map_append,List.sum_append,List.map_cons,List.sum_cons,List.cons_append];omega)
 obtain⟨v',w2,sl',hrun,hsl',S3,_⟩:=J1f (P:=Tryz.prog) (ty:=35) Tryz.underlying35 Tryz.underlying35 Jyb rfl (by decide) S2 hev
  ⟨w.heap.size,0,none⟩ 1 1 [.int .i64 kind,.string key] rfl (by
   intro j u hu
   rw[J0i,J2 hvb];simpa using hu) (by simp[Value.oneCell']) (by omega) (by omega) (by unfold maxLen;omega)
 subst hw1;obtain⟨a',c',rfl,_,_⟩:=hsl'.form
 have hb3:=S3.own.right.tail.head;obtain⟨x7,hx7⟩:∃x,w2.cell? ⟨sb,7,none⟩=some x:=⟨_,J2 hb3 7⟩
 have fz2:∀j,w2.frozen? ⟨sb,j,none⟩=false:=fun j=>Jg hb3 j
 have S4:=(S3.pick (l2:=(sb,J1i m n bud)::(sl'++(m.tl++(m.rl++(m.xl++(m.shp++(m.fhp++(J06 m.ss++r)))))))) (m:=[(w.heap.size,.cells #[.int .i64 kind,.string key] 41 (0,0))]) (J5 fun f=>by
  simp only[List.map_append,List.sum_append,List.map_cons,List.sum_cons,List.cons_append,List.map_nil,List.sum_nil];omega)).set 7 (.slice a' (ev.length+1) c')
 have S5:=S4.permR (l2:={m with vv:=.slice a' (ev.length+1) c',vhp:=sl'}.hp sb n bud++r) (J5 fun f=>by
  rw[J1d];simp only[List.map_append,List.sum_append,List.map_cons,List.sum_cons,List.cons_append,List.map_nil,List.sum_nil];show f (sb,J1i {m with vv:=.slice a' (ev.length+1) c',vhp:=sl'} n bud)+_=_
  omega)
 have hfin:=hid (show ∃vv' vhp',SliceHp 2 41 vv' (ev++[(kind,key)]).length (J1g (ev++[(kind,key)])) vhp'/\J3 w0 l (w2.setCell ⟨sb,7,none⟩ (.slice a' (ev.length+1) c')) ({m with vv:=vv',vhp:=vhp'}.hp sb n bud++r) from⟨.slice a' (ev.length+1) c',sl',by rw[Jhl,List.length_append];exact hsl',S5⟩)
 obtain⟨a7,n7,h7⟩:∃a c,m.vv= .slice a ev.length c:=by obtain⟨a,c,h,_⟩:=hev.form;exact⟨a,c,h⟩
 rw[h7] at c7 hrun;replace hrun:=hid hrun;clear hev hS S1 S2 S3 S4 S5 hvb hb3 hsl' h7;go_enter Tryz.func112,Tryz.ntmps112;go_wp2_with (at_builtin;refine J8 rfl _ _ _ _ rfl _ _ rfl rfl hrun.out ?_);go_end0
 exact⟨rfl,hfin.out⟩
theorem Jpm {n bud:Nat} (ho:Own w (m.hp sb n bud++r)):
 Calls Tryz.prog 10 #[ptr sb] w fun e w'=>e= .returned (.int .i64 n)/\w'=w:=by
 obtain⟨_,_,_,_,_,c5,_,_,_⟩:=K1 ho
 clear ho;go_enter Tryz.func10,Tryz.ntmps10;go_wp2_with fail;go_ret;exact⟨rfl,rfl⟩
def J3u (cs:List J1l) (key:ByteArray):List J1l:=cs.filter fun c=>decide (c.key≠key)
theorem Jty {M:KV} {n:Int} (h:look M k=some n):(k,n)∈M:=by
 simp only[look,Option.map_eq_some_iff] at h;obtain⟨p,hp,rfl⟩:=h
 have h1:=List.mem_of_find?_eq_some hp;have h2:=List.find?_some hp;simp only[decide_eq_true_eq] at h2;subst h2;exact h1
theorem SM.Ok.keys (h:m.Ok S):S.L.map Prod.fst=m.cs.map J1l.key:=by rw[h.cells];simp[Function.comp_def]
theorem SM.Ok.mkeys (h:m.Ok S) (k:ByteArray):k∈m.M.map Prod.fst ↔ k∈S.L.map Prod.fst:=by
 rw[h.keys,((h.num.map Prod.fst).mem_iff)];simp[Function.comp_def]
theorem SM.Ok.len (h:m.Ok S):m.M.length=S.L.length:=by rw[h.num.length_eq,h.cells];simp
theorem SM.Ok.lost (h:m.Ok S) (hk:look m.M k=none):Je S.L k=none:=by
 cases hl:Je S.L k with
 |none=>rfl
 |some it=>exact absurd ((h.mkeys k).2 (Jbd.1 (by rw[hl];rfl))) (J90.1 hk)
theorem SM.Ok.found (h:m.Ok S) (hf:Fit S) {i:Int} (hk:look m.M k=some i):
 ∃c s,c∈m.cs/\c.key=k/\i=c.at_/\m.ss[c.at_]? =some s/\s.it=c.it/\Je S.L k=some c.it:=by
 have hm:=(h.num.mem_iff).1 (Jty hk);obtain⟨c,hc,he⟩:=List.mem_map.1 hm
 simp only[Prod.mk.injEq] at he;obtain⟨s,hs,hi⟩:=h.holds c hc
 refine⟨c,s,hc,he.1,he.2.symm,hs,hi,Jr5 hf.nd ?_⟩
 rw[h.cells];exact List.mem_map.2 ⟨c,hc,by rw[he.1]⟩
theorem Jdt (h:m.Ok S) (hf:Fit S):(m.cs.map J1l.key).Nodup:=by rw[<-h.keys];exact hf.nd
theorem Jj5 (h:m.Ok S):(m.cs.map J1l.at_).Nodup:=
 (List.nodup_append.1 (h.all.nodup_iff.2 List.nodup_range)).2.1
theorem Ja8 {cs:List J1l} (hn:(cs.map J1l.key).Nodup) (hc:c∈cs):cs.Perm (c::J3u cs c.key):=by
 induction cs with
 |nil=>cases hc
 |cons d cs ih=>
  simp only[List.map_cons,List.nodup_cons] at hn;rcases List.mem_cons.1 hc with rfl|hc
  ·have:J3u (c::cs) c.key=cs:=by
    simp only[J3u,List.filter_cons,ne_eq,not_true,decide_false,Bool.false_eq_true,if_false];rw[List.filter_eq_self];intro d hd
    have:d.key≠c.key:=fun e=>hn.1 (List.mem_map.2 ⟨d,hd,e⟩)
    simpa using this
   rw[this]
  ·have hne:d.key≠c.key:=fun e=>hn.1 (List.mem_map.2 ⟨c,hc,e.symm⟩)
   have:J3u (d::cs) c.key=d::J3u cs c.key:=by simp[J3u,hne]
   rw[this];exact((ih hn.2 hc).cons d).trans (List.Perm.swap _ _ _)
theorem Jzk {cs:List J1l} {d:J1l} (hn:(cs.map J1l.key).Nodup) (ha:(cs.map J1l.at_).Nodup) (hc:c∈cs) (hd:d∈J3u cs c.key):d.at_≠c.at_:=by
 have hp:=(Ja8 hn hc).map J1l.at_;have:=hp.nodup_iff.1 ha
 simp only[List.map_cons,List.nodup_cons] at this;exact fun e=>this.1 (e▸List.mem_map_of_mem hd)
theorem Je6 (cs:List J1l) (k:ByteArray):J62 (cs.map J1l.key) k=(J3u cs k).map J1l.key:=by
 simp only[J62,J3u,List.filter_map];rfl
theorem Jed (cs:List J1l) (k:ByteArray):K3 (cs.map fun c=>(c.key,c.it)) k=(J3u cs k).map fun c=>(c.key,c.it):=by
 simp only[K3,J3u,List.filter_map];rfl
theorem Jco (cs:List J1l) (k:ByteArray):J07 (cs.map fun c=>(c.key,(c.at_:Int))) k=(J3u cs k).map fun c=>(c.key,(c.at_:Int)):=by
 simp only[J07,J3u,List.filter_map];rfl
theorem J2s (ss:List J4a):(Jr ss).length=ss.length*3:=by
 induction ss with
 |nil=>rfl
 |cons s ss ih=>simp only[Jr,List.flatMap_cons,List.length_append,Jbo,List.length_cons,List.length_nil] at ih⊢;omega
theorem J7j (s:J4a) (ss:List J4a):Jr (s::ss)= .int .i64 s.it.kind:: .string s.it.text::s.v::Jr ss:=rfl
theorem J67:∀(ss:List J4a) (i:Nat) (s:J4a),ss[i]? =some s->(Jr ss)[i*3]? =some (.int .i64 s.it.kind)/\(Jr ss)[i*3+1]? =some (.string s.it.text)/\(Jr ss)[i*3+2]? =some s.v
 |[],i,s,h=>by simp at h
 |t::ss,0,s,h=>by simp at h;subst h;exact⟨rfl,rfl,rfl⟩
 |t::ss,i+1,s,h=>by
  have:=J67 ss i s (by simpa using h)
  rw[J7j];simpa only[show(i+1)*3=i*3+1+1+1 by omega,List.getElem?_cons_succ,show i*3+1+1+1+1=(i*3+1)+1+1+1 by omega,show i*3+1+1+1+2=(i*3+2)+1+1+1 by omega] using this
theorem J8d:∀(ss:List J4a) (i:Nat) (s:J4a),Jr (ss.set i s)=(((Jr ss).set (i*3) (.int .i64 s.it.kind)).set (i*3+1) (.string s.it.text)).set (i*3+2) s.v
 |[],i,s=>rfl
 |t::ss,0,s=>rfl
 |t::ss,i+1,s=>by
  simp only[List.set_cons_succ,J7j,J8d ss i s,show(i+1)*3=i*3+1+1+1 by omega,show i*3+1+1+1+1=(i*3+1)+1+1+1 by omega,show i*3+1+1+1+2=(i*3+2)+1+1+1 by omega]
theorem Jcx (ss:List J4a) (s:J4a):Jr (ss++[s])=Jr ss++Jbo s:=by simp[Jr]
theorem J4d (ss:List J4a) (i:Nat) (s:J4a) (h:ss[i]? =some s) (f:Nat×Obj->Nat):((J06 ss).map f).sum=(s.hp.map f).sum+((J06 (ss.set i J0c)).map f).sum:=by
 induction ss generalizing i with
 |nil=>simp at h
 |cons t ss ih=>
  cases i with
  |zero=>
   simp at h;subst h
   simp[J06,J0c]
  |succ i=>
   have:=ih i (by simpa using h)
   simp only[J06,List.flatMap_cons,List.set_cons_succ,List.map_append,List.sum_append] at this⊢;omega
theorem Jky (ss:List J4a) (i:Nat) (s:J4a) (hi:i<ss.length) (f:Nat×Obj->Nat):((J06 (ss.set i s)).map f).sum=(s.hp.map f).sum+((J06 (ss.set i J0c)).map f).sum:=by
 have:=J4d (ss.set i s) i s (by simp[hi]) f
 rwa[List.set_set] at this
theorem SM.Ok.gone (h:m.Ok S) (hf:Fit S) (hc:c∈m.cs) {s:J4a} (hs:m.ss[c.at_]? =some s) {m':SM}
 (htab:K5 m'.tl m'.tb (J07 m.M c.key) 0) (hrcn:Ko m'.rl m'.rb (J62 (m.cs.map J1l.key) c.key)) (hexp:Kq m'.xl m'.xb (K3 S.D c.key))
 (hslots:SliceHp 3 59 m'.sv m.ss.length (Jr (m.ss.set c.at_ J0c)) m'.shp) (hfree:SliceHp 1 3 m'.fv (m.fr.length+1) (J1p (m.fr++[c.at_])) m'.fhp) (hevs:SliceHp 2 41 m'.vv S.ev.length (J1g S.ev) m'.vhp)
 (eM:m'.M=J07 m.M c.key) (ecs:m'.cs=J3u m.cs c.key) (ess:m'.ss=m.ss.set c.at_ J0c) (efr:m'.fr=m.fr++[c.at_]):
  m'.Ok {S with L:=K3 S.L c.key,D:=K3 S.D c.key}:=by
  have hkn:=Jdt h hf;have han:=Jj5 h;have hi:=(List.getElem?_eq_some_iff.1 hs).1;refine⟨by rw[eM];exact htab,by rw[ecs,<-Je6];exact hrcn,hexp,by rw[ess,List.length_set];exact hslots,by rw[efr,List.length_append];exact hfree,hevs,?_,?_,?_,?_,?_,by rw[ess,List.length_set];exact h.few⟩
  ·rw[ecs,<-Jed,<-h.cells]
  ·rw[eM,ecs,<-Jco]
   exact h.num.filter _
  ·intro d hd
   rw[ecs] at hd;obtain⟨t,ht,hte⟩:=h.holds d (List.mem_filter.1 hd).1
   refine⟨t,?_,hte⟩
   rw[ess,List.getElem?_set_ne (Ne.symm (Jzk hkn han hc hd))];exact ht
  ·rw[efr,ecs,ess,List.length_set]
   refine List.Perm.trans ?_ h.all;rw[List.append_assoc];exact List.Perm.append_left _ (((Ja8 hkn hc).map J1l.at_).symm)
  ·intro t ht
   rw[ess] at ht;rcases List.mem_or_eq_of_mem_set ht with ht|rfl
   ·exact h.each t ht
   ·exact⟨.nil,fun _=>rfl⟩
end Go.Proofs.YtncbcaabanoeoaaGreatDoor
