/-
table.Keys: all keys, in order (printed by gen_tkeys.py).
-/
import Derived.Test.YtncbcaabanoeoaaGreatDoorQ43
import Derived.Test.YtncbcaabanoeoaaGreatDoorS04
set_option linter.unusedVariables false
set_option linter.unusedSimpArgs false
set_option maxRecDepth 100000
set_option maxHeartbeats 8000000
namespace Go.Proofs.YtncbcaabanoeoaaGreatDoor
open Go Go.RowKit
variable {w0 w:World}{r:Hp}
abbrev K1u (s:Value) (fl gr:Int):Obj:=.cells #[s,.int .i64 fl,.int .i64 gr] 80 (0,0)
abbrev K0s (st:Int) (k:ByteArray) (n:Int):Obj:=.cells #[.int .i64 st,.string k,.int .i64 n] 85 (0,0)
def K0g (ps:List Pl):List ByteArray:=(J0p ps).map Prod.fst
theorem K10 {ps:List Pl} {j:Nat} (hj:j<ps.length):K0g (ps.take (j+1))=K0g (ps.take j)++(if(Jo ps j).st=1 then [(Jo ps j).key] else []):=by
 have h:=J6w hj;unfold K0g J0p;rw[List.take_add_one,h,List.filterMap_append,List.map_append];congr 1
 simp only[Option.toList_some,List.filterMap_cons,List.filterMap_nil,J9r];by_cases h1:(Jo ps j).st=1<;>simp[h1]
theorem K19 (ps:List Pl) (j:Nat):(K0g (ps.take j)).length<=(K0g ps).length:=by
 unfold K0g J0p;rw[List.length_map,List.length_map];exact((List.take_sublist j ps).filterMap _).length_le
def K16 (w0:World) (L:Hp) (ra:Option Addr) (m:Nat) (ps:List Pl):Prop:=m=ps.length/\m<=1099511627776/\∀(w':World) (x:Hp),J3 w0 [] w' (x++L)->∀j,j<m->∃pb,ra=some ⟨pb,0,none⟩/\J0o w' pb ps
theorem K0v {b:Nat} {L:Hp} {a0 a1:Option Addr} {m0 m1:Nat} {f0 f1 g0 g1:Int} {p0 p1:List Pl} (hS:J3 w0 [] w (L++r))
 (c0:w.cell? ⟨b,0,none⟩=some (.slice a0 m0 m0)) (c1:w.cell? ⟨b,1,none⟩=some (.int .i64 f0)) (c2:w.cell? ⟨b,2,none⟩=some (.int .i64 g0))
 (c3:w.cell? ⟨b,3,none⟩=some (.slice a1 m1 m1)) (c4:w.cell? ⟨b,4,none⟩=some (.int .i64 f1)) (c5:w.cell? ⟨b,5,none⟩=some (.int .i64 g1))
 (h0:K16 w0 (L++r) a0 m0 p0) (h1:K16 w0 (L++r) a1 m1 p1) (hM:(K0g p0++K0g p1).length<=1000000000):
  Calls Tryz.prog 12 #[ptr b] w (fun e w'=>∃(v:Value) (ks:List ByteArray) (sl:Hp),e= .returned v/\ks.Perm (K0g p0++K0g p1)/\SliceHp 1 9 v ks.length (ks.map Value.string) sl/\J3 w0 [] w' (sl++(L++r))):=by
  have S0:Hid (J3 w0 [] w ([]++(L++r))):=hid hS;clear hS;rw[List.length_append] at hM;obtain⟨hl0,hb0,h0⟩:=h0
  obtain⟨hl1,hb1,h1⟩:=h1
  replace hl0:=hid hl0;replace hl1:=hid hl1;replace h0:=hid h0;replace h1:=hid h1;replace hM:=hid hM;go_enter Tryz.func12,Tryz.ntmps12;go_wp2_with fail;go_quiet (fail);go_wp2_with fail;go_loopw [3,5,7,17,23] (fun s3 s5 s7 s17 s23 wr=>∃(k n1:Nat) (va:Option Addr) (cc:Nat) (sl:Hp),s17= .int .i64 k/\s3= .slice va n1 cc/\k<=2/\Hid (J3r (.slice va n1 cc) (if k=0 then [] else if k=1 then K0g p0 else K0g p0++K0g p1) sl)/\Hid (n1=(if k=0 then([]:List ByteArray) else if k=1 then K0g p0 else K0g p0++K0g p1).length)/\Hid (J3 w0 [] wr (sl++(L++r)))) (fun s3 s5 s7 s17 s23 wr=>(2 - intOf s17).toNat)
  case atStart=>exact⟨0,0,none,0,[],rfl,rfl,by omega,hid .nil,hid rfl,hid (S0.out.drewN _)⟩
  case round=>
   obtain⟨k,n1,va,cc,sl,rfl,rfl,hk,hws,hn1,S1⟩:=hrel
   clear S0 c0 c1 c2 c3 c4 c5;by_cases hlt:k<2
   ·have hrow:∃(ra:Option Addr) (m:Nat) (f g:Int) (ps:List Pl),(∀w:World,(Instr.index 83 (.agg #[.slice a0 m0 m0,.int .i64 f0,.int .i64 g0,.slice a1 m1 m1,.int .i64 f1,.int .i64 g1]) (.int .i64 (k:Int))).run Tryz.prog w= .ok (.agg #[.slice ra m m,.int .i64 f,.int .i64 g]) w)/\(m=ps.length/\m<=1099511627776)/\K16 w0 (L++r) ra m ps/\Hid ((if k+1=0 then [] else if k+1=1 then K0g p0 else K0g p0++K0g p1)=(if k=0 then [] else if k=1 then K0g p0 else K0g p0++K0g p1)++K0g ps)/\Hid ((if k=0 then [] else if k=1 then K0g p0 else K0g p0++K0g p1).length+(K0g ps).length<=1000000000):=by
     have h2:=hM.out;rcases(show k=0\/k=1 by omega) with rfl|rfl
     ·exact⟨a0,m0,f0,g0,p0,fun _=>by kernel_rfl,⟨hl0.out,hb0⟩,⟨hl0.out,hb0,h0.out⟩,rfl,by show(0:Nat)+_<=_;omega⟩
     ·exact⟨a1,m1,f1,g1,p1,fun _=>by kernel_rfl,⟨hl1.out,hb1⟩,⟨hl1.out,hb1,h1.out⟩,rfl,h2⟩
    obtain⟨ra,m,f,g,ps,xK,⟨hl,hb⟩,hra0,hnext,hD2⟩:=hrow
    replace hl:=hid hl;have hra:=hid hra0.2.2;clear hra0;generalize (if k=0 then([]:List ByteArray) else if k=1 then K0g p0 else K0g p0++K0g p1)=D at hws hn1 hnext hD2
    have hk2:(k:Int)<2:=by omega
    go_upto_region 5 with fail;clear xK;have S2:=S1.out.alloc (K1u (.slice ra m m) f g);generalize hw:wr.alloc _=w1 at S2⊢;clear hw S1;generalize wr.heap.size=rb at S2⊢;have q0:w1.cell? ⟨rb,0,none⟩=some (.slice ra m m):=J2 S2.own.head 0;have S3:Hid (J3 w0 [] w1 (sl++(L++r))):=hid (S2.less (List.sublist_cons_self _ _));clear S2;go_wp2_with fail;clear q0;go_loopw [3,7,23] (fun s3 s7 s23 wq=>∃(j n2:Nat) (vb:Option Addr) (cb:Nat) (sl:Hp),s23= .int .i64 j/\s3= .slice vb n2 cb/\j<=m/\Hid (J3r (.slice vb n2 cb) (D++K0g (ps.take j)) sl)/\Hid (n2=(D++K0g (ps.take j)).length)/\Hid (J3 w0 [] wq (sl++(L++r)))) (fun s3 s7 s23 wq=>(m - intOf s23).toNat)
    case atStart=>exact⟨0,n1,va,cc,sl,rfl,rfl,Nat.zero_le _,hid (by rw[List.take_zero,show K0g []=[] from rfl,List.append_nil];exact hws.out),hid (by rw[List.take_zero,show K0g []=[] from rfl,List.append_nil];exact hn1.out),S3⟩
    case round=>
     obtain⟨j,n2,vb,cb,sl2,rfl,rfl,hj,hws2,hn2,S4⟩:=hrel
     clear S3 hws hn1;by_cases hjt:j<m
     ·have hjt2:(j:Int)<(m:Int):=by omega
      have hjp:j<ps.length:=by rw[<-hl.out];exact hjt
      obtain⟨pb,rfl,hpl⟩:=hra.out wr sl2 S4.out j hjt
      have c0:=hpl.st hjp;have c1:=hpl.key hjp;have c2:=hpl.n hjp;have htk:=K10 hjp;have hle:=K19 ps j;clear hpl;generalize (Jo ps j).st=st at c0 htk;generalize (Jo ps j).key=key at c1 htk;generalize (Jo ps j).n=pn at c2;replace htk:=hid htk;replace hle:=hid hle;replace hjp:=hid hjp;by_cases hst:st=1
      ·subst hst
       go_upto_region 9 with fail;have S5:=S4.out.alloc (K0s 1 key pn);generalize hw:wr.alloc _=w2 at S5⊢;clear hw S4 c0 c1 c2;generalize wr.heap.size=ob at S5⊢;have q1:w2.cell? ⟨ob,1,none⟩=some (.string key):=J2 S5.own.head 1;have S6:=(S5.less (List.sublist_cons_self _ _)).alloc (J33 [key]);obtain⟨vc,c9,w3,sl3,hrun,hws3,S7⟩:=Jx0 (nb:=w2.heap.size) (r:=(w2.heap.size,J33 [key])::(L++r)) (S6.permR (J5 fun f=>by simp only[SC];omega)) hws2.out hn2.out.symm (by rw[hn2.out,List.length_append];have:=hD2.out;have:=hle.out;omega) [key] (by simp) (by simp) (by simp)
       simp only[List.length_cons,List.length_nil,Nat.zero_add,List.map_cons,List.map_nil] at hrun;replace hrun:=hid hrun;have S8:Hid (J3 w0 [] w3 (sl3++(L++r))):=hid (S7.pick (m:=[(w2.heap.size,J33 [key])]) (J5 fun f=>by simp only[SC];omega))
       replace hws3:Hid (J3r (.slice vc (n2+1) c9) (D++K0g (ps.take (j+1))) sl3):=hid (by rw[htk.out,if_pos rfl,<-List.append_assoc];exact hws3)
       have hn3:Hid (n2+1=(D++K0g (ps.take (j+1))).length):=hid (by rw[htk.out,if_pos rfl,<-List.append_assoc,List.length_append,<-hn2.out];rfl)
       clear S5 S6 S7 hws2 hn2;go_upto_region 10 with (at_builtin;refine J8 rfl _ _ _ _ rfl _ _ rfl rfl hrun.out ?_)
       clear q1 hrun;go_wp2_with fail;go_roundw
       case rel=>exact⟨j+1,n2+1,vc,c9,sl3,by go_num,rfl,hjt,hws3,hn3,S8⟩
       case measure=>simp[intOf];omega
      ·have S5:Hid (J3 w0 [] (wr.alloc (K0s st key pn)) (sl2++(L++r))):=hid ((S4.out.alloc (K0s st key pn)).less (List.sublist_cons_self _ _))
       replace hws2:Hid (J3r (.slice vb n2 cb) (D++K0g (ps.take (j+1))) sl2):=hid (by rw[htk.out,if_neg hst,List.append_nil];exact hws2.out)
       replace hn2:Hid (n2=(D++K0g (ps.take (j+1))).length):=hid (by rw[htk.out,if_neg hst,List.append_nil];exact hn2.out)
       clear S4;go_wp2_with fail;go_roundw
       case rel=>exact⟨j+1,n2,vb,cb,sl2,by go_num,rfl,hjt,hws2,hn2,S5⟩
       case measure=>simp[intOf];omega
     ·have hge2:¬(j:Int)<(m:Int):=by omega
      have hall:ps.take j=ps:=List.take_of_length_le (by rw[<-hl.out];omega)
      rw[hall] at hws2 hn2;clear hall;go_wp2_with fail;go_roundw
      case rel=>exact⟨k+1,n2,vb,cb,sl2,by go_num,rfl,by omega,hid (by rw[hnext.out];exact hws2.out),hid (by rw[hnext.out];exact hn2.out),S4⟩
      case measure=>simp[intOf];omega
   ·have hge:¬(k:Int)<2:=by omega
    have hk2:k=2:=by omega
    subst hk2;simp only[show ¬(2=0) by decide,show ¬(2=1) by decide,if_false] at hws hn1
    have hs:=hid (K1p (r:=L++r) S1.out (by have:=hws.out;unfold J3r at this;exact this) (by have:=hM.out;rw[List.length_append];omega))
    have hn2:=hn1;go_wp2_with fail;refine hs.out.mono ?_;rintro e w2 ⟨rfl,ks,sl2,hp,hsl,S2⟩;have hres:Hid (ks.Perm (K0g p0++K0g p1)/\SliceHp 1 9 (.slice va n1 cc) ks.length (ks.map Value.string) sl2/\J3 w0 [] w2 (sl2++(L++r))):=hid ⟨hp,by rw[hp.length_eq];exact hsl,S2⟩
    clear hs hp hsl S2;go_wp2_with fail;go_ret;exact⟨_,ks,sl2,rfl,hres.out.1,hres.out.2.1,hres.out.2.2⟩
theorem K1h {l:Hp} {b c:Nat} {M:KV} (hS:J3 w0 [] w (l++r)) (h:K5 l b M c) (hM:M.length<=1000000000):
 Calls Tryz.prog 12 #[ptr b] w (fun e w'=>∃(v:Value) (ks:List ByteArray) (sl:Hp),e= .returned v/\ks.Perm (M.map Prod.fst)/\SliceHp 1 9 v ks.length (ks.map Value.string) sl/\J3 w0 [] w' (sl++(l++r))):=by
 obtain⟨T,po,pf,hok,hmv,rfl⟩:=h
 obtain⟨c0,c1,c2,c3,c4,c5,_,_,_,_⟩:Jsd w b po pf T:=J0a hS.own.head
 have hperm:(K0g T.old.ps++K0g T.fresh.ps).Perm (M.map Prod.fst):=by
  unfold K0g;rw[<-List.map_append];exact hok.perm.map _
 have hlen:(K0g T.old.ps++K0g T.fresh.ps).length<=1000000000:=by rw[hperm.length_eq,List.length_map];exact hM
 have ho:K16 w0 (J08 b po pf T++r) (some ⟨po,0,none⟩) T.old.ps.length T.old.ps:=⟨rfl,hok.lenB,fun w' x hS' j hj=>⟨po,rfl,hS'.own.right.tail.head⟩⟩
 cases pf with
 |none=>
  have hz:T.fresh.ps=[]:=by rw[(hok.idle (by simpa using hmv)).1];rfl
  have hz2:T.fresh.ps.length=0:=by rw[hz];rfl
  simp only[Jcw] at c3;exact(K0v hS c0 c1 c2 c3 c4 c5 ho ⟨by rw[hz2],by omega,fun w' x hS' j hj=>by omega⟩ hlen).mono fun e w' ⟨v,ks,sl,he,hp,h⟩=>⟨v,ks,sl,he,hp.trans hperm,h⟩
 |some f=>
  simp only[Jcw] at c3;exact(K0v hS c0 c1 c2 c3 c4 c5 ho ⟨rfl,(hok.busy (by simpa using hmv)).2.2.1,fun w' x hS' j hj=>⟨f,rfl,hS'.own.right.tail.tail.head⟩⟩ hlen).mono fun e w' ⟨v,ks,sl,he,hp,h⟩=>⟨v,ks,sl,he,hp.trans hperm,h⟩
theorem K1g {l:Hp} {sb:Nat} {S:St} (hS:J3 w0 [] w (l++r)) (hX:Jh l sb S) (hl:S.L.length<=1000000000):
 ∃tb,w.cell? ⟨sb,0,none⟩=some (ptr tb)/\Calls Tryz.prog 12 #[ptr tb] w (fun e w'=>∃(v:Value) (ks:List ByteArray) (sl:Hp),e= .returned v/\ks.Perm (S.L.map Prod.fst)/\SliceHp 1 9 v ks.length (ks.map Value.string) sl/\J3 w0 [] w' (l++(sl++r))):=by
 obtain⟨m,rfl,hok,hf⟩:=hX
 refine⟨m.tb,(K1 hS.own).c0,?_⟩
 have hM:(m.M.map Prod.fst).Perm (S.L.map Prod.fst):=by
  rw[hok.cells,List.map_map];have:=hok.num.map Prod.fst
  rwa[List.map_map] at this
 have hlen:m.M.length<=1000000000:=by
  have:=hM.length_eq
  rw[List.length_map,List.length_map] at this;omega
 obtain⟨R,hR⟩:∃R:Hp,(m.hp sb (Jd S.L) S.bud).Perm (m.tl++R):=⟨_,by
  unfold SM.hp SM.rest;exact List.perm_middle.symm⟩
 have hS2:J3 w0 [] w (m.tl++(R++r)):=hS.permR (by rw[<-List.append_assoc];exact hR.append_right r)
 refine(K1h hS2 hok.tab hlen).mono ?_
 rintro e w' ⟨v,ks,sl,rfl,hp,hsl,S3⟩;refine⟨v,ks,sl,rfl,hp.trans hM,hsl,S3.permR ?_⟩
 have h:=(hR.symm.append_right r).append_left sl|>.trans (List.perm_append_comm_assoc ..)
 simpa using h
end Go.Proofs.YtncbcaabanoeoaaGreatDoor
