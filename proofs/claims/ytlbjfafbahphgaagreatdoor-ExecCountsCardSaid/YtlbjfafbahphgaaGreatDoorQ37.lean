/-
table.Clear, recent.Clear, expiry.Clear: all are gone. (For a seat of exec.)
-/
import Derived.Test.YtlbjfafbahphgaaGreatDoorQ19
import Derived.Test.YtlbjfafbahphgaaGreatDoorQ26
set_option linter.unusedVariables false
set_option linter.unusedSimpArgs false
set_option maxRecDepth 100000
set_option maxHeartbeats 8000000
namespace Go.Proofs.YtlbjfafbahphgaaGreatDoor
open Go Go.RowKit
variable {l:Hp}{b:Nat}{w:World}
theorem slcV_shape (o:Option Nat) (n:Nat):∃a k c,slcV o n= .slice a k c:=by
 cases o<;>exact⟨_,_,_,rfl⟩
theorem set8 (o0 o1 o2 o3 o4 o5 o6 o7 v0 v1 v2 v3 v4 v5 v6 v7:Value):((((((((#[o0,o1,o2,o3,o4,o5,o6,o7]:Array Value).setIfInBounds 0 v0).setIfInBounds 1 v1).setIfInBounds 2 v2).setIfInBounds 3 v3).setIfInBounds 4 v4).setIfInBounds 5 v5).setIfInBounds 6 v6).setIfInBounds 7 v7= #[v0,v1,v2,v3,v4,v5,v6,v7]:=by kernel_rfl
theorem tclear_any {M:KV} {c:Nat} (hT:IsTable l b M c) (ho:Own w l):
 Calls Tryz.prog 115 #[ptr b] w fun e w'=>e= .returned (.tuple #[])/\∃l',IsTable l' b [] 0/\Step w l w' l':=by
 obtain⟨T,po,pf,_,_,rfl⟩:=hT
 have hnew:=hid (tnew_any w)
 have hR:=hid (Step.refl ho)
 clear ho
 go_enter Tryz.func115,Tryz.ntmps115
 go_wp2_with fail
 refine hnew.out.mono ?_
 rintro e w1 ⟨nb,l',rfl,⟨T',po',pf',hok,hmv,rfl⟩,S1⟩
 obtain⟨sa,sn,sc,hsl⟩:=slcV_shape pf' T'.fresh.ps.length
 have S2:=(hR.out.born S1).permR (l2:=(b,TabObj po pf T)::(nb,TabObj po' pf' T')::((po',PlObj T'.old.ps)::freshHp pf' T'++((po,PlObj T.old.ps)::freshHp pf T))) (perm_by fun f=>by
  unfold TabHp;simp only[List.map_append,List.sum_append,List.map_cons,List.sum_cons,List.cons_append];omega)
 obtain⟨s0,s1,s2,s3,s4,s5,s6,s7,_,_⟩:=tabCells S2.own.tail.head
 rw[hsl] at s3
 obtain⟨d0,d1,d2,d3,d4,d5,d6,d7,fz,hlt⟩:=tabCells S2.own.head
 have S3:=(((((((S2.set 0 (.slice (some ⟨po',0,none⟩) T'.old.ps.length T'.old.ps.length)).set 1 (.int .i64 T'.old.fl)).set 2 (.int .i64 T'.old.gr)).set 3 (.slice sa sn sc)).set 4 (.int .i64 T'.fresh.fl)).set 5 (.int .i64 T'.fresh.gr)).set 6 (.bool T'.moving)).set 7 (.int .i64 T'.next)
 unfold tabArr at S3
 rw[set8] at S3
 rw[<-hsl] at S3
 replace S3:Step w (TabHp b po pf T) _ ((b,TabObj po' pf' T')::_):=S3
 have S4:=hid (S3.pick (l2:=TabHp b po' pf' T') (m:=(nb,TabObj po' pf' T')::((po,PlObj T.old.ps)::freshHp pf T)) (perm_by fun f=>by
  unfold TabHp;simp only[List.map_append,List.sum_append,List.map_cons,List.sum_cons,List.cons_append];omega))
 rw[hsl] at S4
 have hfin:Hid (IsTable (TabHp b po' pf' T') b [] 0):=hid ⟨T',po',pf',hok,hmv,rfl⟩
 replace hsl:=hid hsl
 clear hnew hR S1 S2 S3 hok hmv
 go_wp2_with fail
 go_end0
 exact⟨rfl,_,hfin.out,S4.out⟩
theorem eclear_any {D:AL Int} (hX:IsExpiry l b D) (ho:Own w l):
 Calls Tryz.prog 116 #[ptr b] w fun e w'=>e= .returned (.tuple #[])/\∃l',IsExpiry l' b []/\Step w l w' l':=by
 obtain⟨mb,o,rv,sl,es,m,rfl,_,_,_,_,_⟩:=hX
 have hnew:=hid (enew_any w)
 have hR:=hid (Step.refl ho)
 clear ho
 go_enter Tryz.func116,Tryz.ntmps116
 go_wp2_with fail
 refine hnew.out.mono ?_
 rintro e w1 ⟨nb,l',rfl,⟨mb',o',rv',sl',es',m',rfl,hat',h1,h2,h3,h4⟩,S1⟩
 have hes:es'=[]:=List.map_eq_nil_iff.1 (List.Perm.eq_nil h3.symm)
 subst hes
 obtain⟨ra,rc,rfl,_,_⟩:=hat'.sl.form
 have S2:=(hR.out.born S1).permR (l2:=(b,ExpObj rv mb)::(nb,ExpObj (.slice ra 0 rc) mb')::(sl'++[(mb',o')]++(sl++entHp 0 es++[(mb,o)]))) (perm_by fun f=>by
  unfold ExpHp HeapHp;simp only[entHp,List.map_append,List.sum_append,List.map_cons,List.sum_cons,List.cons_append,List.map_nil,List.sum_nil,List.length_nil];omega)
 have hs:=S2.own.tail.head
 have hd:=S2.own.head
 have s0:w1.cell? ⟨nb,0,none⟩=some (.slice ra 0 rc):=cells_get hs 0
 have s1:w1.cell? ⟨nb,1,none⟩=some (.map (some mb')):=cells_get hs 1
 have d0:w1.cell? ⟨b,0,none⟩=some rv:=cells_get hd 0
 have d1:w1.cell? ⟨b,1,none⟩=some (.map (some mb)):=cells_get hd 1
 have fz:∀j,w1.frozen? ⟨b,j,none⟩=false:=fun j=>cells_free hd j
 have hlt:=block_lt hd
 have S3:Step w (ExpHp b mb rv sl es o) _ ((b,ExpObj (.slice ra 0 rc) mb')::_):=(S2.set 0 (.slice ra 0 rc)).set 1 (.map (some mb'))
 have S4:=hid (S3.pick (l2:=ExpHp b mb' (.slice ra 0 rc) sl' [] o') (m:=(nb,ExpObj (.slice ra 0 rc) mb')::(sl++entHp 0 es++[(mb,o)])) (perm_by fun f=>by
  unfold ExpHp HeapHp;simp only[entHp,List.map_append,List.sum_append,List.map_cons,List.sum_cons,List.cons_append,List.map_nil,List.sum_nil];omega))
 have hfin:Hid (IsExpiry (ExpHp b mb' (.slice ra 0 rc) sl' [] o') b []):=hid ⟨mb',o',_,sl',[],m',rfl,hat',h1,h2,h3,h4⟩
 clear hnew hR S1 S2 S3 hs hd hat' h1 h2 h3 h4
 go_wp2_with fail
 go_end0
 exact⟨rfl,_,hfin.out,S4.out⟩
theorem rclear_at {ks:List ByteArray} (hX:IsRecent l b ks) (ho:Own w l):
 Calls Tryz.prog 35 #[ptr b] w fun e w'=>e= .returned (.tuple #[])/\∃l',IsRecent l' b []/\Step w l w' l':=by
 obtain⟨mb,o,ns,m,rfl,_,_,_,_⟩:=hX
 exact rclear_any b _ _ _ _ w w ((Step.refl ho).less (List.Sublist.cons_cons _ (List.nil_sublist _)))
def St.flush (S:St):St:=⟨[],[],S.ev++[(5,ByteArray.empty)],S.bud⟩
theorem Fit.none {S:St} (hf:Fit S) (ev:List (Int×ByteArray)):Fit ⟨[],[],ev,S.bud⟩:=
 ⟨List.nodup_nil,fun k hk=>by simp at hk,List.nodup_nil,fun p hp=>by simp at hp,hf.bud,Nat.zero_le _⟩
theorem SM.bare {w0:World} {r:Hp} {sb n bud:Nat} {m:SM} (h:Step w0 [] w (m.hp sb n bud++r)):
 Step w0 [] (((w.setCell ⟨sb,1,none⟩ (.slice none 0 0)).setCell ⟨sb,2,none⟩ (.slice none 0 0)).setCell ⟨sb,5,none⟩ (.int .i64 0)) ({m with sv:=.slice none 0 0,fv:=.slice none 0 0,shp:=[],fhp:=[],ss:=[],cs:=[],fr:=[]}.hp sb 0 bud++r):=by
 have h1:Step w0 [] w ((sb,StObj m n bud)::(m.rest++r)):=h
 have h2:=((h1.set 1 (.slice none 0 0)).set 2 (.slice none 0 0)).set 5 (.int .i64 0)
 refine h2.pick (m:=m.shp++(m.fhp++slotsHp m.ss)) (perm_by fun f=>?_)
 rw[List.map_append,List.sum_append,hp_sums]
 simp only[SM.rest,List.map_append,List.sum_append,List.map_cons,List.sum_cons,slotsHp,List.flatMap_nil,List.map_nil,List.sum_nil]
 show f (sb,StObj {m with sv:=.slice none 0 0,fv:=.slice none 0 0,shp:=[],fhp:=[],ss:=[],cs:=[],fr:=[]} 0 bud)+_=_
 omega
theorem flush_any {w0:World} {r:Hp} {sb:Nat} {S:St} (hS:Step w0 [] w (l++r)) (hX:IsStore l sb S) (hev:S.ev.length<=4398046511104):
 Calls Tryz.prog 63 #[ptr sb] w (StPost w0 r sb S.flush (.tuple #[])):=by
 obtain⟨m,rfl,hok,hf⟩:=hX
 have c0:=(stCells hS.own).c0
 have htc:=hid (tclear_any hok.tab (SM.ownT hS.own))
 replace hS:=hid hS
 have hev2:Hid (S.ev.length<=4398046511104):=hid hev
 clear hev
 go_enter Tryz.func63,Tryz.ntmps63
 go_wp2_with fail
 refine htc.out.mono ?_
 rintro e w1 ⟨rfl,tl',hT,ST⟩
 have S1:=SM.stepT (M':=[]) hS.out ST
 generalize hm1:({m with tl:=tl',M:=[]}:SM)=m1 at S1
 have ht1:IsTable m1.tl m1.tb [] 0:=by rw[<-hm1];exact hT
 have hr1:IsRecent m1.rl m1.rb (m.cs.map Cell.key):=by rw[<-hm1];exact hok.rcn
 have hx1:IsExpiry m1.xl m1.xb S.D:=by rw[<-hm1];exact hok.exp
 have hv1:SliceHp 2 41 m1.vv S.ev.length (evCells S.ev) m1.vhp:=by rw[<-hm1];exact hok.evs
 have hM1:m1.M=[]:=by rw[<-hm1]
 obtain⟨c0',c1,c2,c3,c4,c5,c6,c7,fz⟩:=stCells S1.own
 have hlt:=block_lt S1.own.left.head
 have S2:=SM.bare S1
 obtain⟨m2,hm2⟩:∃m2:SM,m2={m1 with sv:=.slice none 0 0,fv:=.slice none 0 0,shp:=[],fhp:=[],ss:=[],cs:=[],fr:=[]}:=⟨_,rfl⟩
 rw[<-hm2] at S2
 replace ht1:IsTable m2.tl m2.tb [] 0:=by rw[hm2];exact ht1
 replace hr1:IsRecent m2.rl m2.rb (m.cs.map Cell.key):=by rw[hm2];exact hr1
 replace hx1:IsExpiry m2.xl m2.xb S.D:=by rw[hm2];exact hx1
 replace hv1:SliceHp 2 41 m2.vv S.ev.length (evCells S.ev) m2.vhp:=by rw[hm2];exact hv1
 have hrest:Hid (m2.sv= .slice none 0 0/\m2.fv= .slice none 0 0/\m2.shp=[]/\m2.fhp=[]/\m2.ss=[]/\m2.cs=[]/\m2.fr=[]/\m2.M=[]):=hid (by rw[hm2];exact⟨rfl,rfl,rfl,rfl,rfl,rfl,rfl,hM1⟩)
 clear hm1 htc hS hT ST c0 S1 hm2 hM1
 replace S2:=hid S2
 replace ht1:=hid ht1
 replace hr1:=hid hr1
 replace hx1:=hid hx1
 replace hv1:=hid hv1
 go_upto_region 2 with fail
 clear c0' c1 c2 c3 c4 c5 c6 c7 fz hlt
 generalize hw2:((w1.setCell _ _).setCell _ _).setCell _ _=w2
 replace S2:Step w0 [] w2 _:=hw2▸S2.out
 clear hw2
 have c3:=(stCells S2.own).c3
 have hcl:=hid (rclear_at hr1.out (SM.ownR S2.own))
 replace S2:=hid S2
 go_wp2_with fail
 refine hcl.out.mono ?_
 rintro e w3 ⟨rfl,rl',hR,ST⟩
 have S3:=SM.stepR S2.out ST
 have c4:=(stCells S3.own).c4
 have hcx:=hid (eclear_any hx1.out (SM.ownX (m:={m2 with rl:=rl'}) S3.own))
 replace S3:=hid S3
 replace hR:=hid hR
 clear hcl ST S2 c3
 go_wp2_with fail
 refine hcx.out.mono ?_
 rintro e w4 ⟨rfl,xl',hE,ST⟩
 have S4:=SM.stepX S3.out ST
 have htl:=hid (tell_any S4 hv1.out hev2.out 5 ByteArray.empty)
 replace hE:=hid hE
 clear hcx ST S3 S4 c4
 go_wp2_with fail
 refine htl.out.mono ?_
 rintro e w5 ⟨rfl,vv',vhp',hv2,S5⟩
 replace S5:=hid S5
 replace hv2:=hid hv2
 clear htl
 go_wp2_with fail
 go_end0
 obtain⟨q1,q2,q3,q4,q5,q6,q7,q8⟩:=hrest.out
 refine⟨rfl,_,⟨{m2 with rl:=rl',xl:=xl',vv:=vv',vhp:=vhp'},rfl,⟨?_,?_,?_,?_,?_,?_,?_,?_,?_,?_,?_,?_⟩,hf.none _⟩,S5.out⟩
 ·show IsTable m2.tl m2.tb m2.M 0
  rw[q8];exact ht1.out
 ·show IsRecent rl' m2.rb (m2.cs.map Cell.key)
  rw[q6];exact hR.out
 ·exact hE.out
 ·show SliceHp 3 _ m2.sv m2.ss.length (slotsCells m2.ss) m2.shp
  rw[q1,q3,q5];exact .nil
 ·show SliceHp 1 _ m2.fv m2.fr.length (frCells m2.fr) m2.fhp
  rw[q2,q4,q7];exact .nil
 ·exact hv2.out
 ·show([]:AL Itm)=m2.cs.map _
  rw[q6];rfl
 ·show m2.M.Perm (m2.cs.map _)
  rw[q6,q8];exact List.Perm.refl _
 ·show ∀c∈m2.cs,_
  rw[q6];intro c hc;cases hc
 ·show(m2.fr++m2.cs.map Cell.at_).Perm (List.range m2.ss.length)
  rw[q5,q6,q7];exact List.Perm.refl _
 ·show ∀s∈m2.ss,_
  rw[q5];intro s hs;cases hs
 ·show m2.ss.length<=_
  rw[q5];exact Nat.zero_le _
end Go.Proofs.YtlbjfafbahphgaaGreatDoor
namespace Go.Proofs.YtlbjfafbahphgaaGreatDoor
open Go
variable {k s:ByteArray}{S:St}
def one (k:ByteArray) (it:Itm) (D:AL Int) (ev:List (Int×ByteArray)) (bud:Nat):St:=⟨[(k,it)],D,ev,bud⟩
theorem one_tight {it:Itm} {D:AL Int} {ev:List (Int×ByteArray)} {bud:Nat} (h:cost k it<=bud):Tight (one k it D ev bud):=by
 simp only[Tight,one,bytesOf,List.map_cons,List.map_nil,List.sum_cons,List.sum_nil];omega
theorem evict_not {n:Nat} (h:Tight S):S.evict n k=S:=by
 cases n with
 |zero=>rfl
 |succ n=>
  unfold Tight at h
  unfold St.evict
  rw[if_neg (by omega)]
theorem no_put {it:Itm} {ev:List (Int×ByteArray)} {bud:Nat} {now:Int} (hc:cost k it<=bud) (keep:Bool):
 (⟨[],[],ev,bud⟩:St).put k it keep now=one k it [] (ev++[(1,k)]) bud:=by
 have e0:(⟨[],[],ev,bud⟩:St).due k now=⟨[],[],ev,bud⟩:=rfl
 have e:(⟨[],[],ev,bud⟩:St).lay k it keep=one k it [] (ev++[(1,k)]) bud:=by
  cases keep<;>rfl
 rw[St.put,e0,e,evict_not (one_tight hc)]
theorem putE_text (hk:k.size<=512) (hs:s.size<=4096) (hc:cost k (textItm s)<=S.bud):S.putE k (textItm s)=0:=by
 have h1:¬(512<k.size\/((textItm s).kind=1/\4096<(textItm s).text.size)):=by
  rintro (h|⟨_,h⟩)
  ·omega
  ·have:(textItm s).text=s:=rfl
   rw[this] at h;omega
 rw[St.putE,if_neg h1,if_neg (by omega)]
theorem cost_txt {k s:ByteArray}:cost k (textItm s)<=48+k.size+max 8 s.size:=by
 have e:cost k (textItm s)=48+k.size+(if(wnum s).isSome then 8 else s.size):=rfl
 rw[e]
 split<;>omega
theorem tSetO_plain {now:Int}:tSet S now k s []=if(S.due k now).putE k (textItm s)=0 then((S.due k now).putG k (textItm s) false now,lfOk) else((S.due k now).putG k (textItm s) false now,lfErr ((S.due k now).putE k (textItm s))):=rfl
abbrev kk:ByteArray:=⟨#[107]⟩
theorem kk_size:kk.size=1:=rfl
theorem cost_kk (h:s.size<=4096):cost kk (textItm s)<=4145:=by
 have:=@cost_txt kk s
 rw[kk_size] at this
 omega
def txt (s:ByteArray) (ev:List (Int×ByteArray)) (bud:Nat):St:=one kk (textItm s) [] ev bud
theorem new_set {b:Int} {bud:Nat} (hb:newSt b=⟨[],[],[],bud⟩) (hb2:4145<=bud) (h:s.size<=4096) (now:Int):tSet (newSt b) now kk s []=(txt s [(1,kk)] bud,lfOk):=by
 have e0:(⟨[],[],[],bud⟩:St).due kk now=⟨[],[],[],bud⟩:=rfl
 have e1:(⟨[],[],[],bud⟩:St).putE kk (textItm s)=0:=putE_text (by rw[kk_size];omega) h (Nat.le_trans (cost_kk h) hb2)
 rw[hb,tSetO_plain,e0,if_pos e1,St.putG,if_pos e1,no_put (Nat.le_trans (cost_kk h) hb2)]
 rfl
end Go.Proofs.YtlbjfafbahphgaaGreatDoor
namespace Go.Proofs.YtlbjfafbahphgaaGreatDoor
open Go Go.RowKit
variable {w0 w:World}{r:Hp}
def secs (n:Int):Int:=if 0<n then(n - 1)/1000+1 else n
def lfYes (b:Bool):Lf:=lfInt (if b then 1 else 0)
theorem yes_any (hS:Step w0 [] w r) (b:Bool):
 Calls Tryz.prog 58 #[.bool b] w (AnsPost w0 r (lfVal (lfYes b))):=by
 have S1:=hS.alloc ZeroVal
 have hint:=fun n=>hid (vint_any S1 n)
 clear hS S1
 cases b
 all_goals
  go_enter Tryz.func58,Tryz.ntmps58
  go_wp2_with fail
  refine(hint _).out.mono ?_
  rintro e w1 ⟨rfl,S2⟩
  generalize w.heap.size=b at S2⊢
  obtain⟨⟨c0,hc0⟩,⟨c1,hc1⟩,⟨c2,hc2⟩,⟨c3,hc3⟩,⟨c4,hc4⟩,⟨c5,hc5⟩,fz,hlt⟩:=cells6 S2.own
  clear hint
  unfold ansVal
 ·have S3:=hid (S2.setLf (lfInt 0))
  clear S2
  go_wp2_with fail
  refine bodyPost_ret (v:=lfVal (lfYes false)) (by simp[results,Tryz.results58,go_sem,ansVal,lfVal,lfYes,lfInt, *]<;>rfl) rfl ?_
  exact⟨rfl,S3.out⟩
 ·have S3:=hid (S2.setLf (lfInt 1))
  clear S2
  go_wp2_with fail
  refine bodyPost_ret (v:=lfVal (lfYes true)) (by simp[results,Tryz.results58,go_sem,ansVal,lfVal,lfYes,lfInt, *]<;>rfl) rfl ?_
  exact⟨rfl,S3.out⟩
def isKeys (p:Sp×ByteArray):Bool:=decide (p.2=ByteArray.empty)&&(decide (p.1.kind=1)||decide (p.1.kind=2))
theorem bytes_nil {b:ByteArray}:b.toList=[] ↔ b=ByteArray.empty:=by
 rw[ByteArray.toList_eq]
 constructor
 ·intro h;cases b;simp only[Array.toList_eq_nil_iff] at h;subst h;rfl
 ·rintro rfl;rfl
theorem is_some (hS:Step w0 [] w r) {g off:Nat} {c:ByteArray} {ws:List ByteArray} (hA:Args w0 r g off (c::ws)) (cap:Nat):
 Calls Tryz.prog 24 #[.slice (some ⟨g,off,none⟩) (c::ws).length cap] w (fun e w'=>e= .returned (.bool (isKeys (wcheck (c::ws))))/\Step w0 [] w' r):=by
 have hchk:=check_some hS hA cap
 generalize wcheck (c::ws)=T at hchk⊢
 obtain⟨sp,wrong⟩:=T
 unfold CheckPost Sp.val specVal at hchk
 simp only at hchk
 generalize (c::ws).length=n at hchk⊢
 replace hchk:=hid hchk
 clear hS hA
 by_cases hw:wrong=ByteArray.empty
 ·subst hw
  by_cases h1:sp.kind=1
  ·have hres:Hid (isKeys (sp,ByteArray.empty)=true):=hid (by simp[isKeys,h1])
   have hb1:(sp.kind==1)=true:=by simpa using h1
   clear h1
   go_enter Tryz.func24,Tryz.ntmps24
   go_wp2_with fail
   refine hchk.out.mono ?_
   rintro e w1 ⟨rfl,S1⟩
   clear hchk
   have S2:=hid (S1.alloc (.cells #[.string sp.name,.int .i64 sp.kind,.int .i64 sp.least,.int .i64 sp.most,.int .i64 sp.first,.int .i64 sp.last,.int .i64 sp.step] 45))
   clear S1
   go_wp2_with fail
   go_ret
   rw[hres.out]
   exact⟨rfl,S2.out.less (List.sublist_cons_self _ _)⟩
  ·have hb1:(sp.kind==1)=false:=by simpa using h1
   by_cases h2:sp.kind=2
   ·have hres:Hid (isKeys (sp,ByteArray.empty)=true):=hid (by simp[isKeys,h2])
    have hb2:(sp.kind==2)=true:=by simpa using h2
    clear h1 h2
    go_enter Tryz.func24,Tryz.ntmps24
    go_wp2_with fail
    refine hchk.out.mono ?_
    rintro e w1 ⟨rfl,S1⟩
    clear hchk
    have S2:=hid (S1.alloc (.cells #[.string sp.name,.int .i64 sp.kind,.int .i64 sp.least,.int .i64 sp.most,.int .i64 sp.first,.int .i64 sp.last,.int .i64 sp.step] 45))
    clear S1
    go_wp2_with fail
    go_ret
    rw[hres.out]
    exact⟨rfl,S2.out.less (List.sublist_cons_self _ _)⟩
   ·have hres:Hid (isKeys (sp,ByteArray.empty)=false):=hid (by simp[isKeys,h1,h2])
    have hb2:(sp.kind==2)=false:=by simpa using h2
    clear h1 h2
    go_enter Tryz.func24,Tryz.ntmps24
    go_wp2_with fail
    refine hchk.out.mono ?_
    rintro e w1 ⟨rfl,S1⟩
    clear hchk
    have S2:=hid (S1.alloc (.cells #[.string sp.name,.int .i64 sp.kind,.int .i64 sp.least,.int .i64 sp.most,.int .i64 sp.first,.int .i64 sp.last,.int .i64 sp.step] 45))
    clear S1
    go_wp2_with fail
    go_ret
    rw[hres.out]
    exact⟨rfl,S2.out.less (List.sublist_cons_self _ _)⟩
 ·have hres:Hid (isKeys (sp,wrong)=false):=hid (by simp[isKeys,hw])
  have hw1:¬wrong.toList=[]:=fun h=>hw (bytes_nil.1 h)
  have hw2:wrong.toList.isEmpty=false:=by simpa using hw1
  clear hw
  go_enter Tryz.func24,Tryz.ntmps24
  go_wp2_with fail
  refine hchk.out.mono ?_
  rintro e w1 ⟨rfl,S1⟩
  clear hchk
  have S2:=hid (S1.alloc (.cells #[.string sp.name,.int .i64 sp.kind,.int .i64 sp.least,.int .i64 sp.most,.int .i64 sp.first,.int .i64 sp.last,.int .i64 sp.step] 45))
  clear S1
  go_wp2_with fail
  go_ret
  rw[hres.out]
  exact⟨rfl,S2.out.less (List.sublist_cons_self _ _)⟩
def eExpire (S:St) (now:Int) (key text:ByteArray) (unit:Int):St×Lf:=
 match wnum text with
 |none=>(S,lfErr 11)
 |some n=>if 0<=n then(if(whenOf now n unit).2=0 then((S.due key now).expire key (whenOf now n unit).1 now,lfYes (mlook (S.due key now).L key).isSome) else(S,lfErr (whenOf now n unit).2))
  else((S.due key now).expire key now now,lfYes (mlook (S.due key now).L key).isSome)
theorem eexpire_any {l:Hp} {sb:Nat} {S:St} (hS:Step w0 [] w (l++r)) (hG:Glob w0) (hX:IsStore l sb S) (hev:S.ev.length<=1099511627776) (key text:ByteArray) (hk:key.size<=1099511627776) (ht:text.size<=1099511627776) (now unit:Int) (hnow:0<=now/\now<=4611686018427387904) (hu:unit=1\/unit=1000):
 Calls Tryz.prog 57 #[ptr sb,.int .i64 now,.string key,.string text,.int .i64 unit] w (StPost w0 r sb (eExpire S now key text unit).1 (lfVal (eExpire S now key text unit).2)):=by
 have S0:=hS.alloc ZeroVal
 have hparse:=hid (wparse_any S0 hG text ht)
 obtain⟨B,hB⟩:∃B,B=w.heap.size:=⟨_,rfl⟩
 have herr:∀(w':World) (c:Int),Hid (errKnown c)->Hid (Calls _ _ _ w' _):=fun w' c h=>hid (werr_any w' c h.out)
 have hfl:∀(w':World) (c:Int),Hid (Step w0 [] w' ((B,ZeroVal)::(l++r)))->Hid (Calls _ _ _ w' _):=fun w' c hS'=>hid (vfail_any hS'.out (errText c))
 have hexp:∀(w':World) (t:Int),t<=9223372036854775807->Hid (Step w0 [] w' ((B,ZeroVal)::(l++r)))->Hid (Calls _ _ _ w' _):=fun w' t ht hS'=>
  hid (expire_any (r:=(B,ZeroVal)::r) (hS'.out.permR (perm_by fun f=>by simp only[SC];omega)) hG hX (by omega) key hk t now hnow.1 ht)
 have hyes:∀(w':World) (b:Bool) (l':Hp),Hid (Step w0 [] w' (l'++((B,ZeroVal)::r)))->Hid (Calls _ _ _ w' _):=fun w' b l' hS'=>hid (yes_any (hS'.out.permR (l2:=(B,ZeroVal)::(l'++r)) (perm_by fun f=>by simp only[SC];omega)) b)
 have hX0:=hid hX
 have hw0:Hid (w.heap.size=B):=hid hB.symm
 rw[<-hB] at hparse
 clear S0 hS hX hB hG hev hk
 cases hp:wnum text with
 |none=>
  have hres:Hid (eExpire S now key text unit=(S,lfErr 11)):=hid (by simp[eExpire,hp])
  rw[hp] at hparse
  simp only[wcode,Option.isSome_none,Option.getD_none,Bool.false_eq_true,if_false] at hparse
  replace hnow:=hid hnow
  replace hu:=hid hu
  have h3:=fun w'=>herr w' 11 (hid (.inl rfl))
  have h2:=fun w'=>hfl w' 11
  unfold lfErr at hres
  generalize errText 11=te at h2 h3 hres
  clear hp hexp hyes hfl herr
  go_enter Tryz.func57,Tryz.ntmps57
  go_wp2_with fail
  rw[hw0.out]
  refine hparse.out.mono ?_
  rintro e w1 ⟨rfl,S1⟩
  replace h2:=h2 w1 (hid S1)
  replace h3:=h3 w1
  clear hparse S1
  go_wp2_with fail
  refine h3.out.mono ?_
  rintro e w2 ⟨rfl,rfl⟩
  go_wp2_with fail
  refine h2.out.mono ?_
  rintro e w2 ⟨rfl,S2⟩
  obtain⟨⟨c0,hc0⟩,⟨c1,hc1⟩,⟨c2,hc2⟩,⟨c3,hc3⟩,⟨c4,hc4⟩,⟨c5,hc5⟩,fz,hlt⟩:=cells6 S2.own
  have S3:=hid (S2.setLf ⟨2,te,0⟩)
  clear S2 h2 h3
  unfold ansVal
  go_wp2_with fail
  refine bodyPost_ret (v:=lfVal ⟨2,te,0⟩) (by simp[results,Tryz.results57,go_sem,ansVal,lfVal, *]<;>rfl) rfl ?_
  rw[hres.out]
  exact⟨rfl,l,hX0.out,S3.out⟩
 |some n=>
  obtain⟨hn1,hn2⟩:=wnum_bounds hp
  rw[hp] at hparse
  simp only[wcode,Option.isSome_some,Option.getD_some,if_true] at hparse
  obtain⟨hnow1,hnow2⟩:=hnow
  by_cases hn:0<=n
  ·have hwhen:∀w':World,Hid (Calls Tryz.prog 111 #[.int .i64 now,.int .i64 n,.int .i64 unit] w' fun e w''=>e= .returned (.tuple #[.int .i64 (whenOf now n unit).1,.int .i64 (whenOf now n unit).2])/\w'=w''):=fun w'=>hid (by
    rcases hu with rfl|rfl
    ·exact when_1 now n w' ⟨by omega,by omega⟩ ⟨hn1,hn2⟩
    ·exact when_1000 now n w' ⟨by omega,by omega⟩ ⟨hn1,hn2⟩)
   have hkn:=whenOf_known now n unit
   have hle:=whenOf_le now n unit
   have hres:eExpire S now key text unit=if(whenOf now n unit).2=0 then((S.due key now).expire key (whenOf now n unit).1 now,lfYes (mlook (S.due key now).L key).isSome) else(S,lfErr (whenOf now n unit).2):=by simp[eExpire,hp,hn]
   generalize whenOf now n unit=T at hwhen hkn hle hres
   obtain⟨t,c⟩:=T
   simp only at hwhen hkn hle hres
   replace hu:=hid hu
   clear hp
   rcases hkn with rfl|rfl
   ·rw[if_pos rfl] at hres
    replace hres:=hid hres
    go_enter Tryz.func57,Tryz.ntmps57
    go_wp2_with fail
    rw[hw0.out]
    refine hparse.out.mono ?_
    rintro e w1 ⟨rfl,S1⟩
    go_wp2_with fail
    refine(hwhen _).out.mono ?_
    rintro e w2 ⟨rfl,rfl⟩
    clear hwhen
    have h2:=hexp w1 t (by omega) (hid S1)
    clear hparse S1 hfl herr hexp
    go_wp2_with fail
    refine h2.out.mono ?_
    rintro e w2 ⟨rfl,l2,hX2,S2⟩
    have h3:=hyes w2 (mlook (S.due key now).L key).isSome l2 (hid S2)
    clear h2 hyes
    obtain⟨bb,hbb⟩:∃bb,bb=(mlook (S.due key now).L key).isSome:=⟨_,rfl⟩
    rw[<-hbb] at hres h3⊢
    clear hbb S2
    replace hX2:=hid hX2
    go_wp2_with fail
    refine h3.out.mono ?_
    rintro e w3 ⟨rfl,S3⟩
    obtain⟨⟨c0,hc0⟩,⟨c1,hc1⟩,⟨c2,hc2⟩,⟨c3,hc3⟩,⟨c4,hc4⟩,⟨c5,hc5⟩,fz,hlt⟩:=cells6 S3.own
    have S4:=hid (S3.setLf (lfYes bb))
    clear S3 h3
    unfold lfVal ansVal
    go_wp2_with fail
    refine bodyPost_ret (v:=lfVal (lfYes bb)) (by simp[results,Tryz.results57,go_sem,ansVal,lfVal,lfYes,lfInt, *]<;>rfl) rfl ?_
    rw[hres.out]
    exact⟨rfl,l2,hX2.out,S4.out⟩
   ·rw[if_neg (by decide)] at hres
    replace hres:=hid hres
    have h3:=fun w'=>herr w' 111 (hid (.inr (.inr (.inl rfl))))
    have h2:=fun w'=>hfl w' 111
    unfold lfErr at hres
    generalize errText 111=te at h2 h3 hres
    clear hexp hyes hfl herr
    go_enter Tryz.func57,Tryz.ntmps57
    go_wp2_with fail
    rw[hw0.out]
    refine hparse.out.mono ?_
    rintro e w1 ⟨rfl,S1⟩
    go_wp2_with fail
    refine(hwhen _).out.mono ?_
    rintro e w2 ⟨rfl,rfl⟩
    clear hwhen
    replace h2:=h2 w1 (hid S1)
    replace h3:=h3 w1
    clear hparse S1
    go_wp2_with fail
    refine h3.out.mono ?_
    rintro e w2 ⟨rfl,rfl⟩
    go_wp2_with fail
    refine h2.out.mono ?_
    rintro e w2 ⟨rfl,S2⟩
    obtain⟨⟨c0,hc0⟩,⟨c1,hc1⟩,⟨c2,hc2⟩,⟨c3,hc3⟩,⟨c4,hc4⟩,⟨c5,hc5⟩,fz,hlt⟩:=cells6 S2.own
    have S3:=hid (S2.setLf ⟨2,te,0⟩)
    clear S2 h2 h3
    unfold ansVal
    go_wp2_with fail
    refine bodyPost_ret (v:=lfVal ⟨2,te,0⟩) (by simp[results,Tryz.results57,go_sem,ansVal,lfVal, *]<;>rfl) rfl ?_
    rw[hres.out]
    exact⟨rfl,l,hX0.out,S3.out⟩
  ·have hres:Hid (eExpire S now key text unit=((S.due key now).expire key now now,lfYes (mlook (S.due key now).L key).isSome)):=hid (by simp[eExpire,hp,hn])
   replace hu:=hid hu
   clear hp
   go_enter Tryz.func57,Tryz.ntmps57
   go_wp2_with fail
   rw[hw0.out]
   refine hparse.out.mono ?_
   rintro e w1 ⟨rfl,S1⟩
   have h2:=hexp w1 now (by omega) (hid S1)
   clear hparse S1 hfl herr hexp
   go_wp2_with fail
   refine h2.out.mono ?_
   rintro e w2 ⟨rfl,l2,hX2,S2⟩
   have h3:=hyes w2 (mlook (S.due key now).L key).isSome l2 (hid S2)
   clear h2 hyes
   obtain⟨bb,hbb⟩:∃bb,bb=(mlook (S.due key now).L key).isSome:=⟨_,rfl⟩
   rw[<-hbb] at hres h3⊢
   clear hbb S2
   replace hX2:=hid hX2
   go_wp2_with fail
   refine h3.out.mono ?_
   rintro e w3 ⟨rfl,S3⟩
   obtain⟨⟨c0,hc0⟩,⟨c1,hc1⟩,⟨c2,hc2⟩,⟨c3,hc3⟩,⟨c4,hc4⟩,⟨c5,hc5⟩,fz,hlt⟩:=cells6 S3.own
   have S4:=hid (S3.setLf (lfYes bb))
   clear S3 h3
   unfold lfVal ansVal
   go_wp2_with fail
   refine bodyPost_ret (v:=lfVal (lfYes bb)) (by simp[results,Tryz.results57,go_sem,ansVal,lfVal,lfYes,lfInt, *]<;>rfl) rfl ?_
   rw[hres.out]
   exact⟨rfl,l2,hX2.out,S4.out⟩
end Go.Proofs.YtlbjfafbahphgaaGreatDoor
namespace Go.Proofs.YtlbjfafbahphgaaGreatDoor
open Go
def ePersist (S:St) (now:Int) (key:ByteArray):St×Lf:=((S.due key now).persist key,lfYes (mlook (S.due key now).D key).isSome)
def ePttl (S:St) (now:Int) (key:ByteArray):St×Lf:=(S.due key now,lfInt ((S.due key now).ttl key now))
def eTtl (S:St) (now:Int) (key:ByteArray):St×Lf:=(S.due key now,lfInt (secs ((S.due key now).ttl key now)))
def eFlush (S:St):St×Lf:=(S.flush,lfOk)
abbrev kv:ByteArray:=⟨#[118]⟩
def eNo (ev:List (Int×ByteArray)):St:=⟨[],[],ev,10000⟩
def eYes (D:AL Int) (ev:List (Int×ByteArray)):St:=one kk (textItm kv) D ev 10000
theorem e_new:newSt 10000=eNo []:=by
 have:(max 0 (min (10000:Int) 1000000000000)).toNat=10000:=by decide
 rw[newSt,this];rfl
theorem e_set' (now:Int):tSet (newSt 10000) now kk kv []=(eYes [] [(1,kk)],lfOk):=new_set (b:=10000) (bud:=10000) e_new (by decide) (s:=kv) (by decide) now
theorem eYes_ok (D:AL Int) (ev:List (Int×ByteArray)) (h:ev.length<=10):Tight (eYes D ev)/\(eYes D ev).load<=1000000000000:=
 ⟨one_tight (Nat.le_trans (cost_kk (by decide)) (by decide)),by show ev.length+1<=_;omega⟩
end Go.Proofs.YtlbjfafbahphgaaGreatDoor
namespace Go.Proofs.YtlbjfafbahphgaaGreatDoor
open Go Go.RowKit
theorem persist_any {w0 w:World} {l r:Hp} {sb:Nat} {S:St} (hS:Step w0 [] w (l++r)) (hG:Glob w0) (hX:IsStore l sb S) (hev:S.ev.length<=2199023255552) (key:ByteArray) (hk:key.size<=1099511627776) (now:Int):
 Calls Tryz.prog 59 #[ptr sb,.string key,.int .i64 now] w (StPost w0 r sb ((S.due key now).persist key) (.bool (mlook (S.due key now).D key).isSome)):=by
 have hdue:=hid (due_any hS hG hX (by omega) key hk now)
 have hev2:=due_ev S key now
 generalize S.due key now=S' at hdue hev2⊢
 have hev3:S'.ev.length<=4398046511104:=by omega
 clear hS hX hev hev2
 go_enter Tryz.func59,Tryz.ntmps59
 go_wp2_with fail
 refine hdue.out.mono ?_
 rintro e w1 ⟨rfl,l1,hX1,S1⟩
 clear hdue
 obtain⟨m,rfl,hok,hf⟩:=hX1
 have c4:=(stCells S1.own).c4
 have hD:S'.D.length<=1099511627776:=by have:=hf.fewD;have:=hf.few;omega
 have hed:=hid (edrop_any m.xl m.xb S'.D key w1 hok.exp hD (SM.ownX S1.own))
 have hst:Hid (∀w' xl',IsExpiry xl' m.xb (mdel S'.D key)->Step w1 m.xl w' xl'->∃l',IsStore l' sb {S' with D:=mdel S'.D key}/\Step w0 [] w' (l'++r)):=fun w' xl' h1 h2=>
  ⟨_,⟨{m with xl:=xl'},rfl,⟨hok.tab,hok.rcn,h1,hok.slots,hok.free,hok.evs,hok.cells,hok.num,hok.holds,hok.all,hok.each,hok.few⟩,hf.undue key S'.ev⟩,SM.stepX S1 h2⟩
 clear S1 hok hf hD
 cases hl:mlook S'.D key with
 |none=>
  have hlast:Hid (∀w' l',IsStore l' sb {S' with D:=mdel S'.D key}->Step w0 [] w' (l'++r)->StPost w0 r sb (S'.persist key) (.bool (none:Option Int).isSome) (.returned (.bool false)) w'):=fun w' l' h1 h2=>⟨rfl,l',by simpa[St.persist,hl] using h1,h2⟩
  replace hl:=hid hl
  go_wp2_with fail
  refine hed.out.mono ?_
  rintro e w2 ⟨rfl,xl',hE,ST⟩
  obtain⟨l2,hX2,S2⟩:=hst.out w2 xl' hE ST
  have hdone:=hid (hlast.out w2 l2 hX2 S2)
  simp only[hl.out,Option.isSome_none]
  clear hed hE ST hX2 S2 hst hlast
  go_wp2_with fail
  go_ret
  rw[hl.out]
  exact hdone.out
 |some t=>
  have hlast:Hid (∀w' l',IsStore l' sb {S' with D:=mdel S'.D key,ev:=S'.ev++[(1,key)]}->Step w0 [] w' (l'++r)->StPost w0 r sb (S'.persist key) (.bool (some t:Option Int).isSome) (.returned (.bool true)) w'):=fun w' l' h1 h2=>⟨rfl,l',by simpa[St.persist,hl] using h1,h2⟩
  replace hl:=hid hl
  go_wp2_with fail
  refine hed.out.mono ?_
  rintro e w2 ⟨rfl,xl',hE,ST⟩
  obtain⟨l2,hX2,S2⟩:=hst.out w2 xl' hE ST
  have htell:=hid (tell_st S2 hX2 hev3 1 key)
  simp only[hl.out,Option.isSome_some]
  clear hed hE ST hX2 S2 hst
  go_wp2_with fail
  refine htell.out.mono ?_
  rintro e w3 ⟨rfl,l3,hX3,S3⟩
  have hdone:=hid (hlast.out w3 l3 hX3 S3)
  clear htell hX3 S3 hlast
  go_wp2_with fail
  go_ret
  rw[hl.out]
  exact hdone.out
end Go.Proofs.YtlbjfafbahphgaaGreatDoor
