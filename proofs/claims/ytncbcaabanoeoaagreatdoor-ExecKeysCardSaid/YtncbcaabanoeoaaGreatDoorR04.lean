/-
nearhandref17.Keys: the keys of a command's words: all that stand where keys stand.
-/
import Derived.Test.YtncbcaabanoeoaaGreatDoorR02
import Derived.Test.YtncbcaabanoeoaaGreatDoorR03
set_option linter.unusedVariables false
set_option linter.unusedSimpArgs false
set_option maxRecDepth 100000
set_option maxHeartbeats 8000000
namespace Go.Proofs.YtncbcaabanoeoaaGreatDoor
open Go Go.RowKit
variable {w0 w:World}{r:Hp}
def K0d (w0:World) (r:Hp) (n:Nat) (X:List ByteArray) (e:Ending) (w':World):Prop:=
 ∃v ks sl,e= .returned v/\J3r v ks sl/\ks.length<=n/\(∀x∈X,x∈ks)/\J3 w0 [] w' (sl++r)
def Ja4 (w0:World) (r:Hp) (ws:List ByteArray):Ending->World->Prop:=K0d w0 r ws.length (J0m (Ku ws).1 (ws.drop 1))
theorem Jrq (hS:J3 w0 [] w r) (a:Option Addr) (c:Nat):
 Calls Tryz.prog 9 #[.slice a 0 c] w (Ja4 w0 r []):=by
 have S1:=hS.alloc (.cells #[] 9);have hchk:=Jn5 S1 a c;rw[show Ku []=(Jw,J22) from rfl] at hchk;unfold J1c Sp.val K8 Jw J22 at hchk;replace hchk:=hid hchk;clear hS;go_enter Tryz.func9,Tryz.ntmps9;go_wp2_with fail;generalize w.heap.size=b at S1 hchk⊢;refine hchk.out.mono ?_;rintro e w1 ⟨rfl,S2⟩;clear hchk S1;have S3:=hid ((S2.alloc Ky).less (List.sublist_cons_self _ _));go_wp2_with fail;go_ret;exact⟨_,[],_,rfl,SliceHp.laid b 0 0 [] [] rfl rfl (by decide) (by unfold maxLen;decide),Nat.le_refl _,fun x hx=>by simp[J0m,Jw,Ku] at hx,S3.out⟩
theorem Jnb (hS:J3 w0 [] w r) {g off:Nat} {c:ByteArray} {ws:List ByteArray} (hA:J2h w0 r g off (c::ws)) (hc:c.size<=100000) (hfew:(c::ws).length<=1000) (cap:Nat):
 Calls Tryz.prog 9 #[.slice (some ⟨g,off,none⟩) (c::ws).length cap] w (Ja4 w0 r (c::ws)):=by
 have S1:=hS.alloc (.cells #[] 9);have hA1:J2h w0 ((w.heap.size,.cells #[] 9 (0,0))::r) g off (c::ws):=hA.more (x:=[_]);have hchk:=Jkm S1 hA1 hc cap;have hbad:=@Jo1 (c::ws);have hgood:=@Jo2 (c::ws);unfold Ja4;have hargs:=hid hA;obtain⟨l,hl⟩:∃l,l=c::ws:=⟨_,rfl⟩
 rw[<-hl] at hchk hbad hgood hargs hfew⊢;rcases hq:Ku l with⟨sp,tx⟩
 rw[hq] at hchk hbad;have hgood2:=hgood (sp:=sp);show Calls _ _ _ _ (K0d w0 r l.length (J0m sp (l.drop 1)))
 obtain⟨X,hX⟩:∃X,X=J0m sp (l.drop 1):=⟨_,rfl⟩
 rw[<-hX];replace hX:=hid hX;rw[hq] at hgood2;simp only at hbad
 obtain⟨n,hn⟩:∃n,n=l.length:=⟨_,rfl⟩
 rw[<-hn] at hchk hfew⊢;replace hn:=hid hn;replace hl:=hid hl;replace hbad:=hid hbad;replace hgood2:=hid hgood2;unfold J1c Sp.val K8 at hchk;simp only at hchk
 replace hchk:=hid hchk;clear hS hA hA1 hq hgood;go_enter Tryz.func9,Tryz.ntmps9;go_wp2_with fail;generalize w.heap.size=b at S1 hchk⊢;refine hchk.out.mono ?_;rintro e w1 ⟨rfl,S2⟩;clear hchk S1;go_upto_region 3 with fail;have S3:=(S2.alloc (J2k sp)).permR (l2:=(b,.cells #[] 9 (0,0))::((w1.heap.size,J2k sp)::r)) (List.Perm.swap _ _ _);generalize hw2:w1.alloc _=w2 at S3⊢;clear hw2 S2;generalize w1.heap.size=sb at S3⊢;have hw0:J3r (.slice (some ⟨b,0,none⟩) 0 0) [] [(b,.cells #[] 9 (0,0))]:=.laid b 0 0 [] [] rfl rfl (by decide) (by unfold maxLen;decide)
 by_cases ht:tx=ByteArray.empty
 case neg=>
  have e1:(tx.toList==[])=false:=beq_eq_false_iff_ne.2 fun e=>ht (Jaz.1 e)
  have hz:=hbad.out ht;have S4:=hid (S3.permR (l2:=[(b,.cells #[] 9 (0,0))]++r++[(sb,J2k sp)]) (J5 fun f=>by simp only[SC];omega))
  replace hw0:=hid hw0;replace ht:=hid ht;replace hz:=hid hz;clear S3;go_wp2_with fail;go_ret;exact⟨_,[],_,rfl,hw0.out,Nat.zero_le _,fun x hx=>by rw[hX.out,hz.out] at hx;simp[J0m,Jw] at hx,S4.out.less (List.sublist_append_left _ _)⟩
 case pos=>
  subst ht;have hmem:=hgood2.out rfl;have hD:Hid (∃ks sl,J3r (.slice (some ⟨b,0,none⟩) 0 0) ks sl/\ks.length<=0/\(∀i x,i<0->l[i]? =some x->Jin sp i->x∈ks)/\J3 w0 [] w2 (sl++((sb,J2k sp)::r))):=hid ⟨[],_,hw0,Nat.le_refl _,fun i x h=>absurd h (Nat.not_lt_zero i),S3⟩
  have hshape:sp.first=0\/(sp.first=1/\((sp.last=1/\sp.step=1)\/(sp.last= -1/\(sp.step=1\/sp.step=2)))):=by
   rcases hmem with h|h
   ·exact Jcl sp h
   ·rw[h];exact .inl rfl
  have hkeys:Hid (∀ks:List ByteArray,(∀i x,i<n->l[i]? =some x->Jin sp i->x∈ks)->∀x∈X,x∈ks):=hid fun ks h x hx=>by
   rw[hX.out] at hx;rcases hmem with hm|hm
   ·obtain⟨i,hi,hk⟩:=Jqw hm hx
    exact h i x (by rw[hn.out];exact(List.getElem?_eq_some_iff.1 hi).1) hi hk
   ·rw[hm] at hx;simp[J0m,Jw] at hx
  have hcells:Hid (∀wr sl,J3 w0 [] wr (sl++((sb,J2k sp)::r))->wr.cell? ⟨sb,4,none⟩=some (.int .i64 sp.first)/\wr.cell? ⟨sb,5,none⟩=some (.int .i64 sp.last)/\wr.cell? ⟨sb,6,none⟩=some (.int .i64 sp.step)):=hid fun wr sl h=>⟨J2 h.own.right.head 4,J2 h.own.right.head 5,J2 h.own.right.head 6⟩
  have hword:Hid (∀wr sl,J3 w0 [] wr (sl++((sb,J2k sp)::r))->∀k x,l[k]? =some x->wr.cell? ⟨g,off+k,none⟩=some (.string x)):=hid fun wr sl h k x hx=>hargs.out.at_ wr (sl++[(sb,J2k sp)]) (by rw[List.append_assoc];exact h) k x hx
  replace hw0:=hid hw0;have hkat:∀i,Hid (Jin sp i ↔ (sp.first=1/\1<=i/\((sp.last=1/\i=1)\/(sp.last= -1/\(sp.step=1\/(sp.step=2/\i%2=1)))))):=fun i=>hid Iff.rfl
  generalize Jin sp=ka at hkat hkeys hD;generalize hf4:sp.first=f4 at hshape hcells hkat;generalize hf5:sp.last=f5 at hshape hcells hkat;generalize hf6:sp.step=f6 at hshape hcells hkat;clear S3 hw0 hbad hgood2 hmem hf4 hf5 hf6;go_wp2_with fail;go_loopw [3,6,7,19] (fun s3 s6 s7 s19 wr=>∃(k:Nat) (v:Value),s19= .int .i64 k/\s3=v/\k<=n/\Hid (∃ks sl,J3r v ks sl/\ks.length<=k/\(∀i x,i<k->l[i]? =some x->ka i->x∈ks)/\J3 w0 [] wr (sl++((sb,J2k sp)::r)))) (fun s3 s6 s7 s19 wr=>(n - intOf s19).toNat)
  case atStart=>exact⟨0,_,rfl,rfl,Nat.zero_le _,hD⟩
  case round=>
   obtain⟨k,v,rfl,hv,hk,h1⟩:=hrel
   replace hv:=hv.symm;subst hv;clear hD;by_cases hlt:k<n
   ·have hlt2:(k:Int)<n:=by omega
    obtain⟨x,hx⟩:∃x,l[k]? =some x:=⟨l[k]'(by rw[<-hn.out];exact hlt),List.getElem?_eq_getElem _⟩
    obtain⟨ks,sl,hws,hle,hall,S4⟩:=h1.out
    obtain⟨e4,e5,e6⟩:=hcells.out wr sl S4
    have ex:=hword.out wr sl S4 k x hx
    have hskip:Hid (¬ka k->(∃ks sl,J3r v ks sl/\ks.length<=k+1/\(∀i x,i<k+1->l[i]? =some x->ka i->x∈ks)/\J3 w0 [] wr (sl++((sb,J2k sp)::r)))):=hid fun hno=>⟨ks,sl,hws,by omega,fun i y hi hy hka=>by
     rcases Nat.lt_or_ge i k with h|h
     ·exact hall i y h hy hka
     ·obtain rfl:i=k:=by omega
      exact absurd hka hno,S4⟩
    obtain⟨v',w',sl',hrun,hws',S5⟩:=Jek S4 hws (by omega) x
    have hpush:Hid (∃ks sl,J3r v' ks sl/\ks.length<=k+1/\(∀i x,i<k+1->l[i]? =some x->ka i->x∈ks)/\J3 w0 [] w' (sl++((sb,J2k sp)::r))):=hid ⟨_,sl',hws',by rw[List.length_append];simp only[List.length_cons,List.length_nil];omega,fun i y hi hy hka=>by
     rcases Nat.lt_or_ge i k with h|h
     ·exact List.mem_append_left _ (hall i y h hy hka)
     ·obtain rfl:i=k:=by omega
      rw[hx] at hy;obtain rfl:=Option.some.inj hy;simp,S5⟩
    replace hrun:=hid hrun;clear h1 hws hle hall S4 hws' S5 hx;have hno0:f4=0->Hid (¬ka k):=fun h=>hid fun q=>by have:=((hkat k).out.1 q).1;omega
    have hnoz:k=0->Hid (¬ka k):=fun h=>hid fun q=>by have:=((hkat k).out.1 q).2.1;omega
    have hno1:f5=1->1<k->Hid (¬ka k):=fun h h2=>hid fun q=>by have:=((hkat k).out.1 q).2.2;omega
    have hno2:f6=2->f5= -1->k%2=0->Hid (¬ka k):=fun h h2 h3=>hid fun q=>by have:=((hkat k).out.1 q).2.2;omega
    replace hno0:=hid hno0;replace hnoz:=hid hnoz;replace hno1:=hid hno1;replace hno2:=hid hno2;rcases hshape with hf|⟨hf,⟨hl1,hs1⟩|⟨hl1,hs1|hs1⟩⟩
    ·have hno:=hno0.out hf
     subst hf;go_wp2_with fail;go_roundw
     case rel=>exact⟨k+1,v,by go_num,rfl,hlt,hid (hskip.out hno.out)⟩
     case measure=>simp[intOf];omega
    ·have hno:=hno1.out hl1
     subst hf hl1 hs1;replace hno:=hid hno;rcases(show k=0\/k=1\/1<k by omega) with hk0|hk1|hk2
     ·have hn0:=hnoz.out hk0
      have g1:¬(1:Int)<=(k:Int):=by omega
      replace hk0:=hid hk0;go_wp2_with fail;go_roundw
      case rel=>exact⟨k+1,v,by go_num,rfl,hlt,hid (hskip.out hn0.out)⟩
      case measure=>simp[intOf];omega
     ·have g1:(1:Int)<=(k:Int):=by omega
      have g2:(k:Int)<=1:=by omega
      have g3:((k:Int) - 1).tmod 1=0:=Int.tmod_one _;replace hk1:=hid hk1;go_wp2_with (at_builtin;refine J8 rfl _ _ _ _ rfl _ _ rfl rfl hrun.out ?_);go_roundw
      case rel=>exact⟨k+1,_,by go_num,rfl,hlt,hpush⟩
      case measure=>simp[intOf];omega
     ·have g1:(1:Int)<=(k:Int):=by omega
      have g2:¬(k:Int)<=1:=by omega
      have hn0:=hno.out hk2;replace hk2:=hid hk2;go_wp2_with fail;go_roundw
      case rel=>exact⟨k+1,v,by go_num,rfl,hlt,hid (hskip.out hn0.out)⟩
      case measure=>simp[intOf];omega
    ·subst hf hl1 hs1
     by_cases hk0:k=0
     ·have hn0:=hnoz.out hk0
      have g1:¬(1:Int)<=(k:Int):=by omega
      replace hk0:=hid hk0;go_wp2_with fail;go_roundw
      case rel=>exact⟨k+1,v,by go_num,rfl,hlt,hid (hskip.out hn0.out)⟩
      case measure=>simp[intOf];omega
     ·have g1:(1:Int)<=(k:Int):=by omega
      have g3:((k:Int) - 1).tmod 1=0:=Int.tmod_one _;replace hk0:=hid hk0;go_wp2_with (at_builtin;refine J8 rfl _ _ _ _ rfl _ _ rfl rfl hrun.out ?_);go_roundw
      case rel=>exact⟨k+1,_,by go_num,rfl,hlt,hpush⟩
      case measure=>simp[intOf];omega
    ·have hno:=hno2.out hs1 hl1
     replace hno:=hid hno;subst hf hl1 hs1;by_cases hk0:k=0
     ·have hn0:=hnoz.out hk0
      have g1:¬(1:Int)<=(k:Int):=by omega
      replace hk0:=hid hk0;go_wp2_with fail;go_roundw
      case rel=>exact⟨k+1,v,by go_num,rfl,hlt,hid (hskip.out hn0.out)⟩
      case measure=>simp[intOf];omega
     ·have g1:(1:Int)<=(k:Int):=by omega
      replace hk0:=hid hk0;have h2:((k:Int) - 1).tmod 2=((k:Int) - 1)%2:=Int.tmod_eq_emod_of_nonneg (by omega)
      replace h2:=hid h2;by_cases hp:k%2=0
      ·have g3:((k:Int) - 1).tmod 2=1:=by rw[h2.out];omega
       have hn0:=hno.out hp;replace hp:=hid hp;go_wp2_with fail;go_roundw
       case rel=>exact⟨k+1,v,by go_num,rfl,hlt,hid (hskip.out hn0.out)⟩
       case measure=>simp[intOf];omega
      ·have g3:((k:Int) - 1).tmod 2=0:=by rw[h2.out];omega
       replace hp:=hid hp;go_wp2_with (at_builtin;refine J8 rfl _ _ _ _ rfl _ _ rfl rfl hrun.out ?_);go_roundw
       case rel=>exact⟨k+1,_,by go_num,rfl,hlt,hpush⟩
       case measure=>simp[intOf];omega
   ·obtain rfl:k=n:=by omega
    have hge:¬(k:Int)<k:=by omega
    obtain⟨ks,sl,hws,hle,hall,S4⟩:=h1.out
    have hfin:=hid (hkeys.out ks hall);replace hws:=hid hws;replace S4:=hid S4;clear h1 hall hkeys;go_wp2_with fail;go_ret;refine⟨_,ks,sl,rfl,hws.out,hle,hfin.out,S4.out.pick (m:=[(sb,J2k sp)]) (J5 fun f=>by simp only[SC];omega)⟩
theorem Jrp (hS:J3 w0 [] w r) {v:Value} {ws:List ByteArray} (hw:J5o w0 v ws) (hfew:ws.length<=70/\∀s∈ws,s.size<=4500):
 Calls Tryz.prog 9 #[v] w (Ja4 w0 r ws):=by
 obtain⟨a,cap,rfl,h1,h2,h3⟩:=hw
 cases ws with
 |nil=>exact Jrq hS a cap
 |cons c ws=>
  obtain⟨_,g,off,rfl,hg,_⟩:=h3 0 c rfl
  have hc:∀i s,(c::ws)[i]? =some s->w0.cell? ⟨g,off+i,none⟩=some (.string s):=fun i s hi=>by
   obtain⟨_,g2,off2,he,_,hc⟩:=h3 i s hi
   simp only[Option.some.injEq,Addr.mk.injEq] at he;rw[he.1,he.2.1];exact hc
  exact Jnb hS (.in_ hg hc hfew.2 hfew.1) (by have:=hfew.2 c (by simp);omega) (by have:=hfew.1;omega) cap
end Go.Proofs.YtncbcaabanoeoaaGreatDoor
