/-
whole: Text, Parse, Add, Neg.
-/
import Derived.Lib.ConvBytes
import Derived.Test.YtlbjfafbahphgaaGreatDoorQ05
import Derived.Test.YtlbjfafbahphgaaGreatDoorQ08
import Derived.Test.YtlbjfafbahphgaaGreatDoorQ11
import Derived.Test.YtlbjfafbahphgaaGreatDoorQ15
set_option linter.unusedVariables false
set_option linter.unusedSimpArgs false
set_option maxRecDepth 100000
set_option maxHeartbeats 8000000
namespace Go.Proofs.YtlbjfafbahphgaaGreatDoor
open Go Go.RowKit Go.Sort
variable {w0 w:World}{r:Hp}
structure Glob (w:World):Prop where
 syn:∃tp p,w.var? Tryz.prog "strconv.ErrSyntax"=some #[.iface tp p]
 rng:∃tp p,w.var? Tryz.prog "strconv.ErrRange"=some #[.iface tp p]
 tab:Lib.TabIs Tryz.prog w "internal/strconv.uint64pow10" .u64 Lib.pow10Tab
theorem var_keep (hS:Step w0 [] w r) {n:String} {cs:Array Value} (h:w0.var? Tryz.prog n=some cs):w.var? Tryz.prog n=some cs:=by
 unfold World.var? at h⊢
 cases hg:Tryz.prog.globalNamed n with
 |none=>rw[hg] at h;cases h
 |some g=>
  rw[hg] at h
  simp only[Option.bind_some] at h⊢
  cases hh:w0.heap[g]? with
  |none=>rw[hh] at h;cases h
  |some o=>rw[hS.same g (block_lt hh) (by simp)];exact h
theorem Glob.keep (h:Glob w0) (hS:Step w0 [] w r):Glob w:=
 ⟨let ⟨tp,p,hv⟩:=h.syn;⟨tp,p,var_keep hS hv⟩,let ⟨tp,p,hv⟩:=h.rng;⟨tp,p,var_keep hS hv⟩,var_keep hS h.tab⟩
theorem Step.below {w':World} {l:Hp} (hS:Step w0 l w r) (hb:Below w.heap.size w w'):Step w0 l w' r:=by
 have k:Step w r w' r:=⟨hb.os,hb.output,hb.size,⟨fun p hp=>by rw[hb.block p.1 (hS.own.lt (List.mem_map_of_mem hp))];exact hS.own.at_ p hp,hS.own.nd⟩,fun b hb' _=>hb.block b hb',fun b hb'=>.inl hb'⟩
 exact hS.trans k
theorem Step.growN {l:Hp} (hS:Step w0 l w r) (k:Nat) (os:Array Obj):Step w0 l (grow (w.drewN k) os) r:=by
 refine hS.below ⟨rfl,rfl,rfl,?_,fun i hi=>?_⟩
 ·show w.heap.size<=(w.heap++os).size
  simp
 ·show(w.heap++os)[i]? =_
  rw[Array.getElem?_append_left hi]
theorem wtext_any (hS:Step w0 [] w r) (hG:Glob w0) (n:Int) (h0: -9223372036854775808<=n) (h1:n<=9223372036854775807):
 Calls Tryz.prog 153 #[.int .i64 n] w fun e w'=>e= .returned (.string (wtext n))/\Step w0 [] w' r:=by
 have hc:=hid (Tryz.strconv_FormatInt_10 n h0 h1 w (hG.keep hS).tab)
 go_enter Tryz.func153,Tryz.ntmps153
 go_wp2_with fail
 refine hc.out.mono ?_
 rintro e w1 ⟨rfl,k,os,rfl⟩
 go_wp2_with fail
 go_ret
 exact⟨rfl,hS.growN k os⟩
def wcode (o:Option Int):Int:=if o.isSome then 0 else 11
theorem wparse_any (hS:Step w0 [] w r) (hG:Glob w0) (s:ByteArray) (hs:s.size<=1099511627776):
 Calls Tryz.prog 95 #[.string s] w fun e w'=>e= .returned (.tuple #[.int .i64 ((wnum s).getD 0),.int .i64 (wcode (wnum s))])/\Step w0 [] w' r:=by
 cases hp:Lib.parseIntB 64 s.data.toList with
 |ok v=>
  have hb:=Lib.parseIntB_bounds hp
  have hc:=hid (Tryz.strconv_ParseInt_10_at64_ok s (by omega) v hp w)
  have hv: -9223372036854775808<=v/\v<=9223372036854775807:=by
   have e:((2 ^(64 - 1):Nat):Int)=9223372036854775808:=by decide
   rw[e] at hb;omega
  clear hb
  by_cases he:wtext v=s
  ·have hw:=hid (show wnum s=some v by unfold wnum;rw[hp];simp only;rw[if_pos he])
   have ht:=str_is he
   clear hp he
   go_enter Tryz.func95,Tryz.ntmps95
   go_wp2_with fail
   refine hc.out.mono ?_
   rintro e w1 ⟨rfl,hw1⟩
   have S1:Step w0 [] w1 r:=by
    rcases hw1 with rfl|⟨t,rfl⟩
    ·exact hS
    ·exact hS.below (Lib.bytesWorld_below _ _ _)
   clear hw1
   have hcall:=hid (wtext_any S1 hG v hv.1 hv.2)
   clear S1
   go_wp2_with fail
   refine hcall.out.mono ?_
   rintro e w2 ⟨rfl,S2⟩
   replace S2:=hid S2
   go_wp2_with fail
   go_ret2
   rw[hw.out]
   exact⟨rfl,S2.out⟩
  ·have hw:=hid (show wnum s=none by unfold wnum;rw[hp];simp only;rw[if_neg he])
   have ht:=str_isnt he
   clear hp he
   go_enter Tryz.func95,Tryz.ntmps95
   go_wp2_with fail
   refine hc.out.mono ?_
   rintro e w1 ⟨rfl,hw1⟩
   have S1:Step w0 [] w1 r:=by
    rcases hw1 with rfl|⟨t,rfl⟩
    ·exact hS
    ·exact hS.below (Lib.bytesWorld_below _ _ _)
   clear hw1
   have hcall:=hid (wtext_any S1 hG v hv.1 hv.2)
   clear S1
   go_wp2_with fail
   refine hcall.out.mono ?_
   rintro e w2 ⟨rfl,S2⟩
   replace S2:=hid S2
   go_wp2_with fail
   go_ret2
   rw[hw.out]
   exact⟨rfl,S2.out⟩
 |range=>
  have hw:=hid (show wnum s=none by unfold wnum;rw[hp])
  obtain⟨tp,p,hv⟩:=(hG.keep hS).rng
  have hc:=hid (Tryz.strconv_ParseInt_10_at64_range_var s (by omega) hp tp p w hv)
  clear hp hv
  generalize Lib.intSat 64 s.data.toList=sat at hc
  go_enter Tryz.func95,Tryz.ntmps95
  go_wp2_with fail
  refine hc.out.mono ?_
  rintro e w1 ⟨N,rfl,_,_,hb⟩
  have S1:=hid (hS.below hb)
  clear hb
  go_wp2_with fail
  go_ret2
  rw[hw.out]
  exact⟨rfl,S1.out⟩
 |_=>
  have hw:=hid (show wnum s=none by unfold wnum;rw[hp])
  obtain⟨tp,p,hv⟩:=(hG.keep hS).syn
  have hc:=hid (Tryz.strconv_ParseInt_10_at64_syntax_var s (by omega) hp tp p w hv)
  clear hp hv
  go_enter Tryz.func95,Tryz.ntmps95
  go_wp2_with fail
  refine hc.out.mono ?_
  rintro e w1 ⟨N,rfl,_,_,hb⟩
  have S1:=hid (hS.below hb)
  clear hb
  go_wp2_with fail
  go_ret2
  rw[hw.out]
  exact⟨rfl,S1.out⟩
def wadd (a b:Int):Option Int:=if -9223372036854775808<=a+b/\a+b<=9223372036854775807 then some (a+b) else none
def wover (o:Option Int):Int:=if o.isSome then 0 else 12
theorem wadd_any (a b:Int) (w:World) (ha: -9223372036854775808<=a/\a<=9223372036854775807) (hb: -9223372036854775808<=b/\b<=9223372036854775807):
 Calls Tryz.prog 151 #[.int .i64 a,.int .i64 b] w fun e w'=>e= .returned (.tuple #[.int .i64 ((wadd a b).getD 0),.int .i64 (wover (wadd a b))])/\w'=w:=by
 obtain⟨a0,a1⟩:=ha
 obtain⟨b0,b1⟩:=hb
 rcases Int.lt_trichotomy b 0 with h|h|h
 ·by_cases h2:a< -9223372036854775808 - b
  ·have hw:=hid (show wadd a b=none by unfold wadd;rw[if_neg (by omega)])
   go_enter Tryz.func151,Tryz.ntmps151
   go_wp2_with fail
   go_ret2
   rw[hw.out]
   exact⟨rfl,rfl⟩
  ·have hw:=hid (show wadd a b=some (a+b) by unfold wadd;rw[if_pos (by omega)])
   have hs0: -9223372036854775808<=a+b:=by omega
   have hs1:a+b<=9223372036854775807:=by omega
   go_enter Tryz.func151,Tryz.ntmps151
   go_wp2_with fail
   go_ret2
   rw[hw.out]
   exact⟨rfl,rfl⟩
 ·subst h
  have hw:=hid (show wadd a 0=some a by unfold wadd;rw[if_pos (by omega)];simp)
  go_enter Tryz.func151,Tryz.ntmps151
  go_wp2_with fail
  go_ret2
  rw[hw.out]
  exact⟨rfl,rfl⟩
 ·by_cases h2:9223372036854775807 - b<a
  ·have hw:=hid (show wadd a b=none by unfold wadd;rw[if_neg (by omega)])
   go_enter Tryz.func151,Tryz.ntmps151
   go_wp2_with fail
   go_ret2
   rw[hw.out]
   exact⟨rfl,rfl⟩
  ·have hw:=hid (show wadd a b=some (a+b) by unfold wadd;rw[if_pos (by omega)])
   have hs0: -9223372036854775808<=a+b:=by omega
   have hs1:a+b<=9223372036854775807:=by omega
   go_enter Tryz.func151,Tryz.ntmps151
   go_wp2_with fail
   go_ret2
   rw[hw.out]
   exact⟨rfl,rfl⟩
end Go.Proofs.YtlbjfafbahphgaaGreatDoor
namespace Go.Proofs.YtlbjfafbahphgaaGreatDoor
open Go Go.RowKit
variable {w0 w:World}{l r:Hp}{v:Value}{sb:Nat}{k:ByteArray}{S:St}
theorem right_any {sl:Hp} {it:Itm} (hS:Step w0 l w (sl++r)) (hat:IsFields v it.fs sl) (hr:rightB it):
 Calls Tryz.prog 144 #[itemVal it.kind it.text v] w fun e w'=>e= .returned (.bool true)/\Step w0 l w' (sl++r):=by
 obtain⟨kind,text,fs⟩:=it
 rcases hr with⟨hk,ht,hf⟩|⟨hk,ht,hrise,h1,h2,hf⟩
 ·simp only at hk ht hf hat⊢
  subst hk hf
  obtain rfl:=hat.nil rfl
  exact right_text hS ht
 ·simp only at hk ht hrise h1 h2 hf hat⊢
  subst hk ht
  obtain⟨g,cap,rest,rfl,hc,hc2,rfl,hrest⟩:=hat.sl.view (by omega)
  exact right_hash hS hrise h1 h2 hf
theorem fieldsCost_snoc (fs:Fs) (k:Nat) (f:ByteArray×ByteArray) (h:fs[k]? =some f):fieldsCost (fs.take (k+1))=fieldsCost (fs.take k)+(16+f.1.size+f.2.size):=by
 obtain⟨hk,rfl⟩:=List.getElem?_eq_some_iff.1 h
 rw[List.take_succ_eq_append_getElem hk]
 simp only[fieldsCost,List.map_append,List.sum_append,List.map_cons,List.map_nil,List.sum_cons,List.sum_nil,Nat.add_zero]
theorem fieldsCost_le (fs:Fs) (k:Nat):fieldsCost (fs.take k)<=fieldsCost fs:=by
 have:fieldsCost fs=fieldsCost (fs.take k)+fieldsCost (fs.drop k):=by
  conv=>lhs;rw[<-List.take_append_drop k fs]
  simp only[fieldsCost,List.map_append,List.sum_append]
 omega
theorem cost_text {key text:ByteArray} (hS:Step w0 [] w r) (hG:Glob w0) (hk:key.size<=1099511627776) (ht:text.size<=1099511627776):
 Calls Tryz.prog 145 #[.string key,itemVal 1 text v] w fun e w'=>e= .returned (.int .i64 (cost key ⟨1,text,[]⟩:Nat))/\Step w0 [] w' r:=by
 have S1:=hS.alloc (.cells #[.int .i64 1,.string text,v] 59)
 have hcall:=hid (wparse_any S1 hG text ht)
 clear hS S1
 cases hn:wnum text with
 |some n=>
  have hc:=hid (show(cost key ⟨1,text,[]⟩:Int)=48+(key.size:Int)+8 by simp[cost,hn])
  rw[hn] at hcall
  go_enter Tryz.func145,Tryz.ntmps145
  unfold itemVal
  go_wp2_with fail
  refine hcall.out.mono ?_
  rintro e w2 ⟨rfl,S2⟩
  have c1:=(cells3 S2.own.head).c1
  have S3:=hid (S2.less (List.sublist_cons_self _ _))
  simp only[wcode,Option.isSome_some,if_true]
  clear S2 hcall
  replace hn:=hid hn
  go_wp2_with fail
  go_ret
  rw[hc.out]
  exact⟨rfl,S3.out⟩
 |none=>
  have hc:=hid (show(cost key ⟨1,text,[]⟩:Int)=48+(key.size:Int)+text.size by simp[cost,hn])
  rw[hn] at hcall
  go_enter Tryz.func145,Tryz.ntmps145
  unfold itemVal
  go_wp2_with fail
  refine hcall.out.mono ?_
  rintro e w2 ⟨rfl,S2⟩
  have c1:=(cells3 S2.own.head).c1
  have S3:=hid (S2.less (List.sublist_cons_self _ _))
  simp only[wcode,Option.isSome_none,Bool.false_eq_true,if_false]
  clear S2 hcall
  replace hn:=hid hn
  go_wp2_with fail
  go_ret
  rw[hc.out]
  exact⟨rfl,S3.out⟩
theorem cost_hash {sl:Hp} {key text:ByteArray} {kind:Int} {fs:Fs} (hkd:(kind==1)=false) (hS:Step w0 l w (sl++r)) (hat:IsFields v fs sl) (hk:key.size<=1099511627776) (hB:fs.length<=1048576) (hf:fieldsCost fs<=1099511627776):
 Calls Tryz.prog 145 #[.string key,itemVal kind text v] w fun e w'=>e= .returned (.int .i64 (48+key.size+fieldsCost fs:Nat))/\Step w0 l w' (sl++r):=by
 obtain⟨a,c,rfl⟩:=hat.shape
 have S1:=hid (hS.alloc (.cells #[.int .i64 kind,.string text,.slice a fs.length c] 59))
 have hat':=hid hat
 clear hS hat
 go_enter Tryz.func145,Tryz.ntmps145
 unfold itemVal
 go_wp2_with fail
 generalize hw1:w.alloc (.cells #[.int .i64 kind,.string text,.slice a fs.length c] 59)=w1 at S1⊢
 replace S1:=hid (S1.out.less (List.sublist_cons_self _ _))
 clear hw1
 go_loopw [5,34] (fun n i wr=>∃k:Nat,k<=fs.length/\n= .int .i64 (48+key.size+fieldsCost (fs.take k):Nat)/\i= .int .i64 k/\Hid (Step w0 l wr (sl++r))) (fun _ i wr=>fs.length - (intOf i).toNat)
 case atStart=>exact⟨0,Nat.zero_le _,by simp[fieldsCost],rfl,S1⟩
 case round=>
  obtain⟨k,hk',rfl,rfl,hS2⟩:=hrel
  have hle:=fieldsCost_le fs k
  by_cases hlt:k<fs.length
  ·obtain⟨f,hfk⟩:∃f:ByteArray×ByteArray,fs[k]? =some f:=⟨fs[k],List.getElem?_eq_getElem _⟩
   obtain⟨g,cap,rest,hsl,hc,hc2,rfl,hrest⟩:=hat'.out.sl.view (by omega)
   injection hsl with h1 h2 h3
   subst h1 h3
   have hb:=hS2.out.own.head
   have hgl:=block_lt hb
   have hcm:=fsCells_name fs k f hfk
   have hlen:=fsCells_len fs
   have b0:wr.cell? ⟨g,k*2,none⟩=some (.string f.1):=by
    rw[cells_get hb,List.getElem?_toArray,List.getElem?_append_left (by omega),Nat.mul_comm,hcm.1]
   have b1:wr.cell? ⟨g,k*2+1,none⟩=some (.string f.2):=by
    rw[cells_get hb,List.getElem?_toArray,List.getElem?_append_left (by omega),Nat.mul_comm,hcm.2]
   have hsn:=fieldsCost_snoc fs k f hfk
   have hle2:=fieldsCost_le fs (k+1)
   have S3:=hid ((hS2.out.alloc (.cells #[.string f.1,.string f.2] 94)).less (List.sublist_cons_self _ _))
   have hrel:Hid (48+key.size+fieldsCost (fs.take (k+1))=48+key.size+fieldsCost (fs.take k)+(16+f.1.size+f.2.size)):=hid (by omega)
   have hbd:48+key.size+fieldsCost (fs.take k)+(16+f.1.size+f.2.size)<=4611686018427387904:=by omega
   clear hb hcm hlen hsn hle2 hle hfk
   generalize 48+key.size+fieldsCost (fs.take k)=m at hrel hbd⊢
   go_wp2_with fail
   go_roundw
   case rel=>exact⟨k+1,by omega,by rw[hrel.out];go_num,by go_num,S3⟩
   case measure=>simp[intOf];omega
  ·obtain rfl:k=fs.length:=by omega
   rw[List.take_length]
   go_wp2_with fail
   go_ret
   exact⟨rfl,hS2.out⟩
structure Cell where
 key:ByteArray
 at_:Nat
 it:Itm
variable {c:Cell}
structure Slot where
 it:Itm
 v:Value
 hp:Hp
def slotCells (s:Slot):List Value:=[.int .i64 s.it.kind,.string s.it.text,s.v]
def slotsCells (ss:List Slot):List Value:=ss.flatMap slotCells
def slotsHp (ss:List Slot):Hp:=ss.flatMap Slot.hp
def evCells (es:List (Int×ByteArray)):List Value:=es.flatMap fun e=>[.int .i64 e.1,.string e.2]
def frCells (fr:List Nat):List Value:=fr.map fun n:Nat=>.int .i64 (n:Int)
def emptySlot:Slot:=⟨zeroItm,.slice none 0 0,[]⟩
structure SM where
 tb:Nat
 rb:Nat
 xb:Nat
 sv:Value
 fv:Value
 vv:Value
 tl:Hp
 rl:Hp
 xl:Hp
 shp:Hp
 fhp:Hp
 vhp:Hp
 M:KV
 cs:List Cell
 ss:List Slot
 fr:List Nat
variable {m:SM}
abbrev StObj (m:SM) (n bud:Nat):Obj:=.cells #[ptr m.tb,m.sv,m.fv,ptr m.rb,ptr m.xb,.int .i64 n,.int .i64 bud,m.vv] 56 (0,0)
def SM.rest (m:SM):Hp:=m.tl++(m.rl++(m.xl++(m.shp++(m.fhp++(m.vhp++slotsHp m.ss)))))
def SM.hp (m:SM) (sb n bud:Nat):Hp:=(sb,StObj m n bud)::m.rest
structure SM.Ok (m:SM) (S:St):Prop where
 tab:IsTable m.tl m.tb m.M 0
 rcn:IsRecent m.rl m.rb (m.cs.map Cell.key)
 exp:IsExpiry m.xl m.xb S.D
 slots:SliceHp 3 59 m.sv m.ss.length (slotsCells m.ss) m.shp
 free:SliceHp 1 3 m.fv m.fr.length (frCells m.fr) m.fhp
 evs:SliceHp 2 41 m.vv S.ev.length (evCells S.ev) m.vhp
 cells:S.L=m.cs.map fun c=>(c.key,c.it)
 num:m.M.Perm (m.cs.map fun c=>(c.key,(c.at_:Int)))
 holds:∀c∈m.cs,∃s,m.ss[c.at_]? =some s/\s.it=c.it
 all:(m.fr++m.cs.map Cell.at_).Perm (List.range m.ss.length)
 each:∀s∈m.ss,IsFields s.v s.it.fs s.hp
 few:m.ss.length<=68719476736
def IsStore (l:Hp) (sb:Nat) (S:St):Prop:=∃m:SM,l=m.hp sb (bytesOf S.L) S.bud/\m.Ok S/\Fit S
structure StCells (w:World) (sb:Nat) (m:SM) (n bud:Nat):Prop where
 c0:w.cell? ⟨sb,0,none⟩=some (ptr m.tb)
 c1:w.cell? ⟨sb,1,none⟩=some m.sv
 c2:w.cell? ⟨sb,2,none⟩=some m.fv
 c3:w.cell? ⟨sb,3,none⟩=some (ptr m.rb)
 c4:w.cell? ⟨sb,4,none⟩=some (ptr m.xb)
 c5:w.cell? ⟨sb,5,none⟩=some (.int .i64 n)
 c6:w.cell? ⟨sb,6,none⟩=some (.int .i64 bud)
 c7:w.cell? ⟨sb,7,none⟩=some m.vv
 fz:∀j,w.frozen? ⟨sb,j,none⟩=false
theorem stCells {n bud:Nat} (h:Own w (m.hp sb n bud++r)):StCells w sb m n bud:=by
 have hh:w.heap[sb]? =some (StObj m n bud):=h.left.head
 exact⟨cells_get hh 0,cells_get hh 1,cells_get hh 2,cells_get hh 3,cells_get hh 4,cells_get hh 5,cells_get hh 6,cells_get hh 7,fun j=>cells_free hh j⟩
theorem hp_sums {n bud:Nat} (f:Nat×Obj->Nat):((m.hp sb n bud++r).map f).sum=f (sb,StObj m n bud)+(m.tl.map f).sum+(m.rl.map f).sum+(m.xl.map f).sum+(m.shp.map f).sum+(m.fhp.map f).sum+(m.vhp.map f).sum+((slotsHp m.ss).map f).sum+(r.map f).sum:=by
 simp only[SM.hp,SM.rest,List.map_append,List.sum_append,List.map_cons,List.sum_cons,List.cons_append]
 omega
theorem Step.turn {w':World} {A A' B a a':Hp} (h:Step w0 l w A) (p:∀f:Nat×Obj->Nat,(A.map f).sum=(a.map f).sum+(B.map f).sum) (k:Step w a w' a') (q:∀f:Nat×Obj->Nat,(A'.map f).sum=(a'.map f).sum+(B.map f).sum):Step w0 l w' A':=
 (h.part (a:=a) (r:=B) (perm_by fun f=>by rw[p f,List.map_append,List.sum_append]) k).permR (perm_by fun f=>by rw[q f,List.map_append,List.sum_append])
theorem evInfo:(Tryz.prog.info? 41).map (fun i=>(i.zero,i.size,i.bytes))=some (some (.agg #[.int .i64 0,.string ByteArray.empty]),2,24):=by kernel_rfl
theorem evCells_snoc (es:List (Int×ByteArray)) (e:Int×ByteArray):evCells (es++[e])=evCells es++[.int .i64 e.1,.string e.2]:=by simp[evCells]
theorem tell_any {n bud:Nat} {ev:List (Int×ByteArray)} (hS:Step w0 l w (m.hp sb n bud++r)) (hev:SliceHp 2 41 m.vv ev.length (evCells ev) m.vhp) (hB:ev.length<=4398046511104) (kind:Int) (key:ByteArray):
 Calls Tryz.prog 113 #[ptr sb,.int .i64 kind,.string key] w fun e w'=>e= .returned (.tuple #[])/\
  ∃vv' vhp',SliceHp 2 41 vv' (ev++[(kind,key)]).length (evCells (ev++[(kind,key)])) vhp'/\Step w0 l w' ({m with vv:=vv',vhp:=vhp'}.hp sb n bud++r):=by
 obtain⟨_,_,_,_,_,_,_,c7,fz⟩:=stCells hS.own
 have hsb:=block_lt hS.own.left.head
 have S1:=hS.alloc (.cells #[.int .i64 kind,.string key] 41)
 have hvb:=S1.own.head
 generalize hw1:w.alloc (.cells #[.int .i64 kind,.string key] 41)=w1 at S1 hvb
 have S2:=S1.permR (l2:=m.vhp++((w.heap.size,.cells #[.int .i64 kind,.string key] 41 (0,0))::(sb,StObj m n bud)::(m.tl++(m.rl++(m.xl++(m.shp++(m.fhp++(slotsHp m.ss++r)))))))) (perm_by fun f=>by
  simp only[SM.hp,SM.rest,List.map_append,List.sum_append,List.map_cons,List.sum_cons,List.cons_append]
  omega)
 obtain⟨v',w2,sl',hrun,hsl',S3,_⟩:=run_append (P:=Tryz.prog) (ty:=35) Tryz.underlying35 Tryz.underlying35 evInfo rfl (by decide) S2 hev
  ⟨w.heap.size,0,none⟩ 1 1 [.int .i64 kind,.string key] rfl (by
   intro j u hu
   rw[addr_add,cells_get hvb]
   simpa using hu) (by simp[Value.oneCell']) (by omega) (by omega) (by unfold maxLen;omega)
 subst hw1
 obtain⟨a',c',rfl,_,_⟩:=hsl'.form
 have hb3:=S3.own.right.tail.head
 obtain⟨x7,hx7⟩:∃x,w2.cell? ⟨sb,7,none⟩=some x:=⟨_,cells_get hb3 7⟩
 have fz2:∀j,w2.frozen? ⟨sb,j,none⟩=false:=fun j=>cells_free hb3 j
 have S4:=(S3.pick (l2:=(sb,StObj m n bud)::(sl'++(m.tl++(m.rl++(m.xl++(m.shp++(m.fhp++(slotsHp m.ss++r)))))))) (m:=[(w.heap.size,.cells #[.int .i64 kind,.string key] 41 (0,0))]) (perm_by fun f=>by
  simp only[List.map_append,List.sum_append,List.map_cons,List.sum_cons,List.cons_append,List.map_nil,List.sum_nil]
  omega)).set 7 (.slice a' (ev.length+1) c')
 have S5:=S4.permR (l2:={m with vv:=.slice a' (ev.length+1) c',vhp:=sl'}.hp sb n bud++r) (perm_by fun f=>by
  rw[hp_sums]
  simp only[List.map_append,List.sum_append,List.map_cons,List.sum_cons,List.cons_append,List.map_nil,List.sum_nil]
  show f (sb,StObj {m with vv:=.slice a' (ev.length+1) c',vhp:=sl'} n bud)+_=_
  omega)
 have hfin:=hid (show ∃vv' vhp',SliceHp 2 41 vv' (ev++[(kind,key)]).length (evCells (ev++[(kind,key)])) vhp'/\Step w0 l (w2.setCell ⟨sb,7,none⟩ (.slice a' (ev.length+1) c')) ({m with vv:=vv',vhp:=vhp'}.hp sb n bud++r) from⟨.slice a' (ev.length+1) c',sl',by rw[evCells_snoc,List.length_append];exact hsl',S5⟩)
 obtain⟨a7,n7,h7⟩:∃a c,m.vv= .slice a ev.length c:=by obtain⟨a,c,h,_⟩:=hev.form;exact⟨a,c,h⟩
 rw[h7] at c7 hrun
 replace hrun:=hid hrun
 clear hev hS S1 S2 S3 S4 S5 hvb hb3 hsl' h7
 go_enter Tryz.func113,Tryz.ntmps113
 go_wp2_with (at_builtin;refine wpList_append_run rfl _ _ _ _ rfl _ _ rfl rfl hrun.out ?_)
 go_end0
 exact⟨rfl,hfin.out⟩
theorem bytes_any {n bud:Nat} (ho:Own w (m.hp sb n bud++r)):
 Calls Tryz.prog 11 #[ptr sb] w fun e w'=>e= .returned (.int .i64 n)/\w'=w:=by
 obtain⟨_,_,_,_,_,c5,_,_,_⟩:=stCells ho
 clear ho
 go_enter Tryz.func11,Tryz.ntmps11
 go_wp2_with fail
 go_ret
 exact⟨rfl,rfl⟩
def cdel (cs:List Cell) (key:ByteArray):List Cell:=cs.filter fun c=>decide (c.key≠key)
theorem look_mem {M:KV} {n:Int} (h:look M k=some n):(k,n)∈M:=by
 simp only[look,Option.map_eq_some_iff] at h
 obtain⟨p,hp,rfl⟩:=h
 have h1:=List.mem_of_find?_eq_some hp
 have h2:=List.find?_some hp
 simp only[decide_eq_true_eq] at h2
 subst h2;exact h1
theorem SM.Ok.keys (h:m.Ok S):S.L.map Prod.fst=m.cs.map Cell.key:=by rw[h.cells];simp[Function.comp_def]
theorem SM.Ok.mkeys (h:m.Ok S) (k:ByteArray):k∈m.M.map Prod.fst ↔ k∈S.L.map Prod.fst:=by
 rw[h.keys,((h.num.map Prod.fst).mem_iff)];simp[Function.comp_def]
theorem SM.Ok.len (h:m.Ok S):m.M.length=S.L.length:=by rw[h.num.length_eq,h.cells];simp
theorem SM.Ok.lost (h:m.Ok S) (hk:look m.M k=none):mlook S.L k=none:=by
 cases hl:mlook S.L k with
 |none=>rfl
 |some it=>exact absurd ((h.mkeys k).2 (mlook_iff.1 (by rw[hl];rfl))) (look_none.1 hk)
theorem SM.Ok.found (h:m.Ok S) (hf:Fit S) {i:Int} (hk:look m.M k=some i):
 ∃c s,c∈m.cs/\c.key=k/\i=c.at_/\m.ss[c.at_]? =some s/\s.it=c.it/\mlook S.L k=some c.it:=by
 have hm:=(h.num.mem_iff).1 (look_mem hk)
 obtain⟨c,hc,he⟩:=List.mem_map.1 hm
 simp only[Prod.mk.injEq] at he
 obtain⟨s,hs,hi⟩:=h.holds c hc
 refine⟨c,s,hc,he.1,he.2.symm,hs,hi,mlook_mem hf.nd ?_⟩
 rw[h.cells]
 exact List.mem_map.2 ⟨c,hc,by rw[he.1]⟩
theorem cs_nodup (h:m.Ok S) (hf:Fit S):(m.cs.map Cell.key).Nodup:=by rw[<-h.keys];exact hf.nd
theorem cs_at_nodup (h:m.Ok S):(m.cs.map Cell.at_).Nodup:=
 (List.nodup_append.1 (h.all.nodup_iff.2 List.nodup_range)).2.1
theorem cs_split {cs:List Cell} (hn:(cs.map Cell.key).Nodup) (hc:c∈cs):cs.Perm (c::cdel cs c.key):=by
 induction cs with
 |nil=>cases hc
 |cons d cs ih=>
  simp only[List.map_cons,List.nodup_cons] at hn
  rcases List.mem_cons.1 hc with rfl|hc
  ·have:cdel (c::cs) c.key=cs:=by
    simp only[cdel,List.filter_cons,ne_eq,not_true,decide_false,Bool.false_eq_true,if_false]
    rw[List.filter_eq_self]
    intro d hd
    have:d.key≠c.key:=fun e=>hn.1 (List.mem_map.2 ⟨d,hd,e⟩)
    simpa using this
   rw[this]
  ·have hne:d.key≠c.key:=fun e=>hn.1 (List.mem_map.2 ⟨c,hc,e.symm⟩)
   have:cdel (d::cs) c.key=d::cdel cs c.key:=by simp[cdel,hne]
   rw[this]
   exact((ih hn.2 hc).cons d).trans (List.Perm.swap _ _ _)
theorem at_ne {cs:List Cell} {d:Cell} (hn:(cs.map Cell.key).Nodup) (ha:(cs.map Cell.at_).Nodup) (hc:c∈cs) (hd:d∈cdel cs c.key):d.at_≠c.at_:=by
 have hp:=(cs_split hn hc).map Cell.at_
 have:=hp.nodup_iff.1 ha
 simp only[List.map_cons,List.nodup_cons] at this
 exact fun e=>this.1 (e▸List.mem_map_of_mem hd)
theorem kdel_map (cs:List Cell) (k:ByteArray):kdel (cs.map Cell.key) k=(cdel cs k).map Cell.key:=by
 simp only[kdel,cdel,List.filter_map];rfl
theorem mdel_map (cs:List Cell) (k:ByteArray):mdel (cs.map fun c=>(c.key,c.it)) k=(cdel cs k).map fun c=>(c.key,c.it):=by
 simp only[mdel,cdel,List.filter_map];rfl
theorem without_map (cs:List Cell) (k:ByteArray):without (cs.map fun c=>(c.key,(c.at_:Int))) k=(cdel cs k).map fun c=>(c.key,(c.at_:Int)):=by
 simp only[without,cdel,List.filter_map];rfl
theorem slotsCells_len (ss:List Slot):(slotsCells ss).length=ss.length*3:=by
 induction ss with
 |nil=>rfl
 |cons s ss ih=>simp only[slotsCells,List.flatMap_cons,List.length_append,slotCells,List.length_cons,List.length_nil] at ih⊢;omega
theorem slotsCells_cons (s:Slot) (ss:List Slot):slotsCells (s::ss)= .int .i64 s.it.kind:: .string s.it.text::s.v::slotsCells ss:=rfl
theorem slotsCells_at:∀(ss:List Slot) (i:Nat) (s:Slot),ss[i]? =some s->(slotsCells ss)[i*3]? =some (.int .i64 s.it.kind)/\(slotsCells ss)[i*3+1]? =some (.string s.it.text)/\(slotsCells ss)[i*3+2]? =some s.v
 |[],i,s,h=>by simp at h
 |t::ss,0,s,h=>by simp at h;subst h;exact⟨rfl,rfl,rfl⟩
 |t::ss,i+1,s,h=>by
  have:=slotsCells_at ss i s (by simpa using h)
  rw[slotsCells_cons]
  simpa only[show(i+1)*3=i*3+1+1+1 by omega,List.getElem?_cons_succ,show i*3+1+1+1+1=(i*3+1)+1+1+1 by omega,show i*3+1+1+1+2=(i*3+2)+1+1+1 by omega] using this
theorem slotsCells_set:∀(ss:List Slot) (i:Nat) (s:Slot),slotsCells (ss.set i s)=(((slotsCells ss).set (i*3) (.int .i64 s.it.kind)).set (i*3+1) (.string s.it.text)).set (i*3+2) s.v
 |[],i,s=>rfl
 |t::ss,0,s=>rfl
 |t::ss,i+1,s=>by
  simp only[List.set_cons_succ,slotsCells_cons,slotsCells_set ss i s,show(i+1)*3=i*3+1+1+1 by omega,show i*3+1+1+1+1=(i*3+1)+1+1+1 by omega,show i*3+1+1+1+2=(i*3+2)+1+1+1 by omega]
theorem slotsCells_snoc (ss:List Slot) (s:Slot):slotsCells (ss++[s])=slotsCells ss++slotCells s:=by simp[slotsCells]
theorem slotsHp_sum (ss:List Slot) (i:Nat) (s:Slot) (h:ss[i]? =some s) (f:Nat×Obj->Nat):((slotsHp ss).map f).sum=(s.hp.map f).sum+((slotsHp (ss.set i emptySlot)).map f).sum:=by
 induction ss generalizing i with
 |nil=>simp at h
 |cons t ss ih=>
  cases i with
  |zero=>
   simp at h;subst h
   simp[slotsHp,emptySlot]
  |succ i=>
   have:=ih i (by simpa using h)
   simp only[slotsHp,List.flatMap_cons,List.set_cons_succ,List.map_append,List.sum_append] at this⊢
   omega
theorem slotsHp_set (ss:List Slot) (i:Nat) (s:Slot) (hi:i<ss.length) (f:Nat×Obj->Nat):((slotsHp (ss.set i s)).map f).sum=(s.hp.map f).sum+((slotsHp (ss.set i emptySlot)).map f).sum:=by
 have:=slotsHp_sum (ss.set i s) i s (by simp[hi]) f
 rwa[List.set_set] at this
theorem SM.Ok.gone (h:m.Ok S) (hf:Fit S) (hc:c∈m.cs) {s:Slot} (hs:m.ss[c.at_]? =some s) {m':SM}
 (htab:IsTable m'.tl m'.tb (without m.M c.key) 0) (hrcn:IsRecent m'.rl m'.rb (kdel (m.cs.map Cell.key) c.key)) (hexp:IsExpiry m'.xl m'.xb (mdel S.D c.key))
 (hslots:SliceHp 3 59 m'.sv m.ss.length (slotsCells (m.ss.set c.at_ emptySlot)) m'.shp) (hfree:SliceHp 1 3 m'.fv (m.fr.length+1) (frCells (m.fr++[c.at_])) m'.fhp) (hevs:SliceHp 2 41 m'.vv S.ev.length (evCells S.ev) m'.vhp)
 (eM:m'.M=without m.M c.key) (ecs:m'.cs=cdel m.cs c.key) (ess:m'.ss=m.ss.set c.at_ emptySlot) (efr:m'.fr=m.fr++[c.at_]):
  m'.Ok {S with L:=mdel S.L c.key,D:=mdel S.D c.key}:=by
  have hkn:=cs_nodup h hf
  have han:=cs_at_nodup h
  have hi:=(List.getElem?_eq_some_iff.1 hs).1
  refine⟨by rw[eM];exact htab,by rw[ecs,<-kdel_map];exact hrcn,hexp,by rw[ess,List.length_set];exact hslots,by rw[efr,List.length_append];exact hfree,hevs,?_,?_,?_,?_,?_,by rw[ess,List.length_set];exact h.few⟩
  ·rw[ecs,<-mdel_map,<-h.cells]
  ·rw[eM,ecs,<-without_map]
   exact h.num.filter _
  ·intro d hd
   rw[ecs] at hd
   obtain⟨t,ht,hte⟩:=h.holds d (List.mem_filter.1 hd).1
   refine⟨t,?_,hte⟩
   rw[ess,List.getElem?_set_ne (Ne.symm (at_ne hkn han hc hd))]
   exact ht
  ·rw[efr,ecs,ess,List.length_set]
   refine List.Perm.trans ?_ h.all
   rw[List.append_assoc]
   exact List.Perm.append_left _ (((cs_split hkn hc).map Cell.at_).symm)
  ·intro t ht
   rw[ess] at ht
   rcases List.mem_or_eq_of_mem_set ht with ht|rfl
   ·exact h.each t ht
   ·exact⟨.nil,fun _=>rfl⟩
end Go.Proofs.YtlbjfafbahphgaaGreatDoor
