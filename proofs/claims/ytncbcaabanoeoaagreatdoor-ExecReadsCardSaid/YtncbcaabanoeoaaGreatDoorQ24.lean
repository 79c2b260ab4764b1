/-
texts: addText.
-/
import Derived.Test.YtncbcaabanoeoaaGreatDoorQ23
set_option linter.unusedVariables false
set_option linter.unusedSimpArgs false
set_option maxRecDepth 100000
set_option maxHeartbeats 8000000
namespace Go.Proofs.YtncbcaabanoeoaaGreatDoor
open Go Go.RowKit
variable {w0 w:World}{l:List Lf}{r sl:Hp}{g c:Nat}{va:Option Addr}
theorem Jvu {n:Int} (h1: -9223372036854775808<=n) (h2:n<=9223372036854775807): -9223372036854775808<=Jii n/\Jii n<=9223372036854775807:=by
 unfold Jii;split<;>omega
theorem Jfh (n:Int):J5x n=0\/J5x n=12:=by unfold J5x;split<;>simp
theorem Ctx.at {w':World} {l r':Hp} {sb:Nat} {S:St} {off:Nat} {ws:List ByteArray} (h:Ctx w0 w l r sb S g off ws) {x:Hp} (hr:r'=x++r) (hS:J3 w0 [] w' (l++r')):Ctx w0 w' l r' sb S g off ws:=
 ⟨hS,h.gl,h.is,h.tight,h.load,by rw[hr];exact h.args.more⟩
theorem Jc1 {l:Hp} {sb:Nat} {S:St} {off:Nat} {k m:ByteArray} {ws:List ByteArray} (h:Ctx w0 w l r sb S g off (k::m::ws)) (now:Int) (cap:Nat) (less:Bool):
 Calls Tryz.prog 46 #[Kv sb now g off (k::m::ws).length cap,.bool less] w (Jp w0 r sb (J2t S now k m less).1 (Ja (J2t S now k m less).2)):=by
 have H:=(h.alloc (Jy sb now g off (k::m::ws).length cap)).alloc J4;have hm:=h.args.small m (by simp)
 have hn:(1:Int)<(((k::m::ws).length:Nat):Int):=by simp only[List.length_cons];omega
 generalize hlen:(k::m::ws).length=n at H hn⊢;replace hlen:=hid hlen;have hn2:1<n:=by omega
 generalize hT:J2t S now k m less=T;replace hT:=hid hT;clear h;replace H:=hid H;go_enter Tryz.func46,Tryz.ntmps46;unfold Kv;go_upto_region 1 with fail;generalize hw1:(w.alloc _).alloc _=w1;replace H:Ctx w0 w1 _ _ _ _ _ _ _:=hw1▸H.out;clear hw1;simp only[World.size_alloc] at H;generalize w.heap.size=b at H⊢;have hjob:=hid (Ctx.job (A:=[(b+1,J4)]) H);obtain⟨R,hR⟩:∃R,R=[(b+1,J4)]++(b,Jy sb now g off n cap)::r:=⟨_,rfl⟩
 rw[<-hR] at hjob;replace H:Ctx w0 w1 l R sb S g off (k::m::ws):=hR▸H;obtain⟨j0,j1,j2⟩:=hjob.out.at_ w1 ⟨l,H.st⟩
 have ja:=hjob.out.arg w1 ⟨l,H.st⟩ 1 m rfl;have hpar:=hid (J2u H.st H.gl m hm)
 have hend:∀(w':World) (l3:Hp) (a':Lf),J3 w0 [] w' (l3++R)->J3 w0 [] _ (l3++r):=fun w' l3 a' h=>((h.permR (l2:=(b+1,J4)::(l3++r++[(b,Jy sb now g off n cap)])) (J5 fun f=>by
  rw[hR];simp only[SC];omega)).setLf a').less (List.sublist_append_left _ _)
 have hres:(b+1,J4)∈R:=by rw[hR];simp
 replace H:=hid H;replace hR:=hid hR;cases hw:J2f m with
 |none=>
  have e:Hid (T=(S,Kt 11)):=hid (by rw[<-hT.out];simp only[J2t,hw])
  rw[hw] at hpar;have e1:J5w none=11:=rfl;rw[e1,Option.getD_none] at hpar;clear hT hw hjob e1;go_wp2_with fail;refine hpar.out.mono ?_;rintro e2 w2 ⟨rfl,S2⟩;have herr:=hid (J23 S2 11 (by unfold K2;omega))
  clear hpar S2 j0 j1 j2 ja;unfold Kt at e;generalize Jx 11=te at herr e;go_wp2_with fail;refine herr.out.mono ?_;rintro e2 w3 ⟨rfl,S5⟩;have S9:=hid (hend w3 l ⟨2,te,0⟩ S5);obtain⟨⟨c0,hc0⟩,⟨c1,hc1⟩,⟨c2,hc2⟩,⟨c3,hc3⟩,⟨c4,hc4⟩,⟨c5,hc5⟩,fz,hlt⟩:=Jl (S5.own.right.at_ _ hres)
  clear herr S5 hend hres hR;unfold J7;go_wp2_with fail;refine bodyPost_ret (v:=Ja ⟨2,te,0⟩) (by simp[results,Tryz.results46,go_sem,J7,Ja, *]<;>rfl) rfl ?_
  rw[e.out];exact⟨rfl,l,H.out.is,S9.out⟩
 |some x=>
  obtain⟨hx1,hx2⟩:=J3q hw
  rw[hw] at hpar;have e1:J5w (some x)=0:=rfl;rw[e1,Option.getD_some] at hpar
  have hadd:∀(w2:World) (y:Int),-9223372036854775808<=y/\y<=9223372036854775807->J3 w0 [] w2 (l++R)->Calls Tryz.prog 45 #[Kv sb now g off n cap,.int .i64 y] w2 (Jp w0 R sb (Jcy S now k y).1 (Ja (Jcy S now k y).2)):=fun w2 y hy hS=>by
   have:=Jh4 (H.out.at (x:=[]) rfl hS) now cap y hy
   rw[hlen.out] at this;exact this
  unfold Kv at hadd;clear e1;cases less with
  |false=>
   have e:Hid (T=Jcy S now k x):=hid (by rw[<-hT.out];simp only[J2t,hw];rfl)
   clear hT hw;go_wp2_with fail;refine hpar.out.mono ?_;rintro e2 w2 ⟨rfl,S2⟩;obtain⟨j0,j1,j2⟩:=hjob.out.at_ w2 ⟨l,S2⟩
   have ha:=hadd w2 x ⟨hx1,hx2⟩ S2;rw[<-e.out] at ha;unfold Ja J7 at ha;replace ha:=hid ha;clear hpar S2 ja hadd hjob hx1 hx2;go_wp2_with fail;refine ha.out.mono ?_;rintro e2 w3 ⟨rfl,l5,hX5,S5⟩;have S9:=hid (hend w3 l5 T.2 S5);obtain⟨⟨c0,hc0⟩,⟨c1,hc1⟩,⟨c2,hc2⟩,⟨c3,hc3⟩,⟨c4,hc4⟩,⟨c5,hc5⟩,fz,hlt⟩:=Jl (S5.own.right.at_ _ hres)
   clear ha S5 hend hres hR;go_wp2_with fail;refine bodyPost_ret (v:=Ja T.2) (by simp[results,Tryz.results46,go_sem,J7,Ja, *]<;>rfl) rfl ?_
   exact⟨rfl,l5,hX5,S9.out⟩
  |true=>
   have hneg:∀w2,Hid _:=fun w2=>hid (Jvt w2 x hx1 hx2)
   have hfit:=Jvu hx1 hx2;rcases Jfh x with hc|hc
   ·have e:Hid (T=Jcy S now k (Jii x)):=hid (by rw[<-hT.out];simp only[J2t,hw,hc];rfl)
    rw[hc] at hneg;clear hT hw hc;go_wp2_with fail;refine hpar.out.mono ?_;rintro e2 w2 ⟨rfl,S2⟩;obtain⟨j0,j1,j2⟩:=hjob.out.at_ w2 ⟨l,S2⟩
    have ha:=hadd w2 (Jii x) hfit S2;rw[<-e.out] at ha;unfold Ja J7 at ha;replace ha:=hid ha;clear hpar S2 ja hadd hjob hfit;go_wp2_with fail;refine(hneg _).out.mono ?_
    rintro e2 w3 ⟨rfl,rfl⟩;clear hneg hx1 hx2;go_wp2_with fail;refine ha.out.mono ?_;rintro e2 w3 ⟨rfl,l5,hX5,S5⟩;have S9:=hid (hend w3 l5 T.2 S5);obtain⟨⟨c0,hc0⟩,⟨c1,hc1⟩,⟨c2,hc2⟩,⟨c3,hc3⟩,⟨c4,hc4⟩,⟨c5,hc5⟩,fz,hlt⟩:=Jl (S5.own.right.at_ _ hres)
    clear ha S5 hend hres hR;go_wp2_with fail;refine bodyPost_ret (v:=Ja T.2) (by simp[results,Tryz.results46,go_sem,J7,Ja, *]<;>rfl) rfl ?_
    exact⟨rfl,l5,hX5,S9.out⟩
   ·have e:Hid (T=(S,Kt 12)):=hid (by rw[<-hT.out];simp only[J2t,hw,hc];rfl)
    rw[hc] at hneg;clear hT hw hc;go_wp2_with fail;refine hpar.out.mono ?_;rintro e2 w2 ⟨rfl,S2⟩;have herr:=hid (J23 S2 12 (by unfold K2;omega))
    unfold Kt at e;generalize Jx 12=te at herr e;clear hpar S2 ja hadd hjob hfit j0 j1 j2;go_wp2_with fail;refine(hneg _).out.mono ?_
    rintro e2 w3 ⟨rfl,rfl⟩;clear hneg hx1 hx2;go_wp2_with fail;refine herr.out.mono ?_;rintro e2 w3 ⟨rfl,S5⟩;have S9:=hid (hend w3 l ⟨2,te,0⟩ S5);obtain⟨⟨c0,hc0⟩,⟨c1,hc1⟩,⟨c2,hc2⟩,⟨c3,hc3⟩,⟨c4,hc4⟩,⟨c5,hc5⟩,fz,hlt⟩:=Jl (S5.own.right.at_ _ hres)
    clear herr S5 hend hres hR;unfold J7;go_wp2_with fail;refine bodyPost_ret (v:=Ja ⟨2,te,0⟩) (by simp[results,Tryz.results46,go_sem,J7,Ja, *]<;>rfl) rfl ?_
    rw[e.out];exact⟨rfl,l,H.out.is,S9.out⟩
def J1w (a:Lf):List Value:=[.int .i64 a.kind,.string a.text,.int .i64 a.n,.float .f64 0,.bool false,.slice none 0 0]
def J2x (l:List Lf):List Value:=l.flatMap J1w
theorem Jhv (l:List Lf) (a:Lf):J2x (l++[a])=J2x l++J1w a:=by simp[J2x]
theorem Jeb:∀(l:List Lf) (i:Nat) (a:Lf),l[i]? =some a->∀j v,(J1w a)[j]? =some v->(J2x l)[i*6+j]? =some v
 |[],i,a,h,_,_,_=>by simp at h
 |t::l,0,a,h,j,v,hj=>by
  simp at h;subst h
  have hlt:j<(J1w t).length:=(List.getElem?_eq_some_iff.1 hj).1;show(J1w t++J2x l)[0*6+j]? =some v
  rw[List.getElem?_append_left (by omega)]
  simpa using hj
 |t::l,i+1,a,h,j,v,hj=>by
  have:=Jeb l i a (by simpa using h) j v hj
  show(J1w t++J2x l)[(i+1)*6+j]? =some v
  have ht:(J1w t).length=6:=rfl;rw[List.getElem?_append_right (by omega),ht,show(i+1)*6+j - 6=i*6+j by omega]
  exact this
structure Jzb (w:World) (g i:Nat) (a:Lf):Prop where
 c0:w.cell? ⟨g,i*6,none⟩=some (.int .i64 a.kind)
 c1:w.cell? ⟨g,i*6+1,none⟩=some (.string a.text)
 c2:w.cell? ⟨g,i*6+2,none⟩=some (.int .i64 a.n)
 c3:w.cell? ⟨g,i*6+3,none⟩=some (.float .f64 0)
 c4:w.cell? ⟨g,i*6+4,none⟩=some (.bool false)
 c5:w.cell? ⟨g,i*6+5,none⟩=some (.slice none 0 0)
theorem K08 {i:Nat} {a:Lf} {rest:List Value} {t:TypeId} (h:w.heap[g]? =some (.cells (J2x l++rest).toArray t (0,0))) (ha:l[i]? =some a):Jzb w g i a:=by
 have k:∀j v,(J1w a)[j]? =some v->w.cell? ⟨g,i*6+j,none⟩=some v:=fun j v hj=>by
  have h1:=Jeb l i a ha j v hj;have hlt:=(List.getElem?_eq_some_iff.1 h1).1;rw[J2 h,List.getElem?_toArray,List.getElem?_append_left hlt,h1]
 exact⟨k 0 _ rfl,k 1 _ rfl,k 2 _ rfl,k 3 _ rfl,k 4 _ rfl,k 5 _ rfl⟩
theorem Jpf:(Tryz.prog.info? 34).map (fun i=>(i.zero,i.size,i.bytes))=some (some (.agg #[.int .i64 0,.string ByteArray.empty,.int .i64 0,.float .f64 0,.bool false,.slice none 0 0]),6,72):=by kernel_rfl
abbrev J3s (v:Value) (l:List Lf) (sl:Hp):Prop:=SliceHp 6 34 v l.length (J2x l) sl
def J50 (w0:World) (r:Hp) (kind:Int) (text:ByteArray) (n:Int) (l:List Lf) (e:Ending) (w':World):Prop:=
 ∃v sl,e= .returned (J7 kind text n v)/\J3s v l sl/\J3 w0 [] w' (sl++r)
theorem Jd8 {k:Nat} {a:Lf} {nb:Nat} (hS:J3 w0 [] w (sl++r)) (hsl:J3s (.slice va k c) l sl) (hk:l.length=k) (hB:k<=1000000000) (hm:(nb,J0h a)∈r):
 ∃va' c' w' sl',(Builtin.append_ #[32,32] 32 #[.slice va k c,.slice (some ⟨nb,0,none⟩) 1 1]).run Tryz.prog w= .ok (.slice va' (k+1) c') w'/\J3s (.slice va' (k+1) c') (l++[a]) sl'/\J3 w0 [] w' (sl'++r):=by
 have hh:=hS.own.right.at_ _ hm
 obtain⟨v',w',sl',hrun,hsl',S',_⟩:=J1f (P:=Tryz.prog) (ty:=32) Tryz.underlying32 Tryz.underlying32 Jpf rfl (by decide) hS hsl
  ⟨nb,0,none⟩ 1 1 (J1w a) rfl (by
   intro j u hu
   rw[J0i,Nat.zero_add,J2 hh,<-hu];show(J1w a).toArray[j]? =(J1w a)[j]?
   rw[List.getElem?_toArray]) (by simp[J1w,Value.oneCell']) (by omega) (by rw[hk];omega) (by rw[hk];unfold maxLen;omega)
 obtain⟨a',c',rfl,_,_⟩:=hsl'.form
 rw[hk] at hrun hsl';refine⟨a',c',w',sl',hrun,?_,S'⟩
 show SliceHp 6 _ _ (l++[a]).length (J2x (l++[a])) sl'
 rw[List.length_append,Jhv,hk];exact hsl'
theorem Jo0 {m:Nat} (hS:J3 w0 [] w (sl++r)) (hsl:J3s (.slice va m c) l sl) (hB:l.length<=1000000) (kind:Int) (text:ByteArray) (n:Int):
 Calls Tryz.prog 149 #[J7 kind text n (.slice va m c)] w (J50 w0 (sl++r) kind text n l):=by
 obtain⟨a',c',hv,hc1,hc2⟩:=hsl.form
 obtain⟨rfl,rfl,rfl⟩:va=a'/\m=l.length/\c=c':=by injection hv with h1 h2 h3;exact⟨h1,h2,h3⟩
 clear hv;have S1:=(hS.alloc (.cells #[.int .i64 kind,.string text,.int .i64 n,.float .f64 0,.bool false,.slice va l.length c] 34)).alloc J4;rw[World.size_alloc] at S1;obtain⟨hm2,hm0⟩:l.length<=1000000/\True:=⟨hB,trivial⟩
 replace S1:=hid S1;clear hS;go_enter Tryz.func149,Tryz.ntmps149;unfold J7;go_wp2_with fail;generalize hw1:(w.alloc _).alloc _=w1;replace S1:J3 w0 [] w1 _:=hw1▸S1.out;clear hw1;generalize w.heap.size=b at S1⊢;obtain⟨L,hL⟩:∃L:Hp,L=(b+1,J4)::(b,.cells #[.int .i64 kind,.string text,.int .i64 n,.float .f64 0,.bool false,.slice va l.length c] 34 (0,0))::(sl++r):=⟨_,rfl⟩
 rw[<-hL] at S1
 have hin:∀(w':World) (x:Hp),J3 w0 [] w' (x++L)->Own w' (sl++r):=fun w' x h=>by
  have:=h.own.right
  rw[hL] at this;exact this.tail.tail
 replace hL:=hid hL;replace hin:=hid hin;have hm3:(l.length:Int)<=1000000:=by omega
 obtain⟨m,hm⟩:∃m,l.length=m:=⟨_,rfl⟩
 rw[hm] at hm2 hm3 hc1⊢;have S0:Hid (J3 w0 [] w1 ([]++L)):=hid S1;clear S1
 have hread:Hid (∀(k:Nat) (a:Lf),l[k]? =some a->∃g,va=some ⟨g,0,none⟩/\∀(w':World) (x:Hp),J3 w0 [] w' (x++L)->Jzb w' g k a):=hid (fun k a ha=>by
  have hlt:=(List.getElem?_eq_some_iff.1 ha).1;obtain⟨g,cap,rest,hv,_,_,hsl2,_⟩:=hsl.view (by omega)
  injection hv with h1 h2 h3
  refine⟨g,h1,fun w' x hw=>?_⟩
  have ho:=hin.out w' x hw;rw[hsl2] at ho;exact K08 ho.left.head ha)
 have hbox:Hid (∀(w':World) (x:Hp),J3 w0 [] w' (x++L)->w'.heap[b]? =some (.cells #[.int .i64 kind,.string text,.int .i64 n,.float .f64 0,.bool false,.slice va m c] 34 (0,0))/\w'.heap[b+1]? =some J4):=hid (fun w' x hw=>by
  have:=hw.own.right
  rw[hL.out,hm] at this;exact⟨this.tail.head,this.head⟩)
 clear hsl hin;go_loopw [3,5,9] (fun s3 s5 s9 wr=>∃(k:Nat) (va':Option Addr) (c':Nat) (sl':Hp),s3= .slice va' k c'/\s9= .int .i64 k/\k<=m/\Hid (J3s (.slice va' k c') (l.take k) sl')/\Hid (J3 w0 [] wr (sl'++L))) (fun s3 s5 s9 wr=>(m - intOf s9).toNat)
 case atStart=>exact⟨0,none,0,[],rfl,rfl,Nat.zero_le _,hid .nil,S0⟩
 case round=>
  obtain⟨k,va',c',sl',rfl,rfl,hk,hat,S2⟩:=hrel
  clear S0;by_cases hlt:k<m
  ·obtain⟨a,ha⟩:∃a,l[k]? =some a:=⟨l[k]'(by omega),List.getElem?_eq_getElem _⟩
   obtain⟨g,hva,hr⟩:=hread.out k a ha
   subst hva;obtain⟨c0,c1,c2,c3,c4,c5⟩:=hr wr sl' S2.out
   have S3:=S2.out.alloc (J0h a);have hcopy:=Jnz S3 a.kind a.text a.n;unfold J7 at hcopy;replace hcopy:=hid hcopy;clear hr S3;replace ha:=hid ha;go_wp2_with fail;refine hcopy.out.mono ?_;rintro e w2 ⟨rfl,S4⟩;have S5:=S4.alloc (J0h a);obtain⟨va2,c2',w4,sl2,hrun,hat2,S6⟩:=Jd8 (nb:=w2.heap.size) (a:=a) (r:=(w2.heap.size,J0h a)::(wr.heap.size,J0h a)::L) (S5.permR (J5 fun f=>by simp only[SC];omega)) hat.out (by rw[List.length_take];omega) (by omega) (by simp)
   have S7:=hid (S6.pick (l2:=sl2++L) (m:=[(w2.heap.size,J0h a),(wr.heap.size,J0h a)]) (J5 fun f=>by simp only[SC];omega))
   replace hrun:=hid hrun;have htk:Hid (J3s (.slice va2 (k+1) c2') (l.take (k+1)) sl2):=hid (by rw[List.take_add_one,ha.out];exact hat2)
   clear S4 S5 S6 hcopy c0 c1 c2 c3 c4 c5 S2 hat hat2;go_wp2_with (at_builtin;refine J8 rfl _ _ _ _ rfl _ _ rfl rfl hrun.out ?_);go_roundw
   case rel=>exact⟨k+1,va2,c2',sl2,rfl,rfl,hlt,htk,S7⟩
   case measure=>simp[intOf];omega
  ·obtain rfl:k=m:=by omega
   obtain⟨hb0,hb1⟩:=hbox.out wr sl' S2.out
   have x0:=J2 hb0 0;have x1:=J2 hb0 1;have x2:=J2 hb0 2;have x3:=J2 hb0 3;have x4:=J2 hb0 4;have x5:=J2 hb0 5;simp only[List.getElem?_toArray,List.getElem?_cons_zero,List.getElem?_cons_succ] at x0 x1 x2 x3 x4 x5;have xf:=fun j=>Jg hb0 j
   have hltb:=Jf hb0;obtain⟨⟨c0,hc0⟩,⟨c1,hc1⟩,⟨c2,hc2⟩,⟨c3,hc3⟩,⟨c4,hc4⟩,⟨c5,hc5⟩,fz,hlt2⟩:=Jl hb1
   have S3:=S2.out.permR (l2:=(b,.cells #[.int .i64 kind,.string text,.int .i64 n,.float .f64 0,.bool false,.slice va l.length c] 34 (0,0))::(b+1,J4)::(sl'++(sl++r))) (J5 fun f=>by
    rw[hL.out];simp only[SC];omega)
   have S4:=(S3.set 5 (.slice va' k c')).less (List.sublist_cons_self _ _);have S9:=hid (((((((S4.set 0 (.int .i64 kind)).set 1 (.string text)).set 2 (.int .i64 n)).set 3 (.float .f64 0)).set 4 (.bool false)).set 5 (.slice va' k c')).less (List.sublist_cons_self _ _));have hfull:Hid (J3s (.slice va' k c') l sl'):=hid (by have:=hat.out;rw[<-hm,List.take_length] at this;rw[<-hm];exact this)
   clear S2 S3 S4 hb0 hb1 hat hread hbox;go_wp2_with fail;refine bodyPost_ret (v:=J7 kind text n (.slice va' k c')) (by simp[results,Tryz.results149,go_sem,J7, *]<;>rfl) rfl ?_
   exact⟨_,sl',rfl,hfull.out,S9.out⟩
theorem Jgr {m:Nat} (hS:J3 w0 [] w (sl++r)) (hsl:J3s (.slice va m c) l sl) (hB:l.length<=1000000):
 Calls Tryz.prog 91 #[.slice va m c] w (J50 w0 (sl++r) 5 ByteArray.empty 0 l):=by
 have S1:=(hS.alloc J4).permR (l2:=sl++((w.heap.size,J4)::r)) (J5 fun f=>by simp only[SC];omega)
 have hcopy:=Jo0 S1 hsl hB 5 ByteArray.empty 0;unfold J7 at hcopy;replace hcopy:=hid hcopy;obtain⟨a',c',hv,_,_⟩:=hsl.form
 clear hS S1 hsl;go_enter Tryz.func91,Tryz.ntmps91;go_wp2_with fail;refine hcopy.out.mono ?_;rintro e w2 ⟨v,sl2,rfl,hat,S2⟩;obtain⟨a2,cc,rfl,_,_⟩:=hat.form
 generalize w.heap.size=b at S2⊢;have S3:=S2.permR (l2:=(b,J4)::(sl2++(sl++r))) (J5 fun f=>by simp only[SC];omega)
 obtain⟨⟨c0,hc0⟩,⟨c1,hc1⟩,⟨c2,hc2⟩,⟨c3,hc3⟩,⟨c4,hc4⟩,⟨c5,hc5⟩,fz,hlt2⟩:=Jl S3.own.head
 have S9:=hid (((((((S3.set 0 (.int .i64 5)).set 1 (.string ByteArray.empty)).set 2 (.int .i64 0)).set 3 (.float .f64 0)).set 4 (.bool false)).set 5 (.slice a2 l.length cc)).less (List.sublist_cons_self _ _));replace hat:=hid hat;clear S2 S3 hcopy;unfold J7;go_wp2_with fail;refine bodyPost_ret (v:=J7 5 ByteArray.empty 0 (.slice a2 l.length cc)) (by simp[results,Tryz.results91,go_sem,J7, *]<;>rfl) rfl ?_
 exact⟨_,sl2,rfl,hat.out,S9.out⟩
end Go.Proofs.YtncbcaabanoeoaaGreatDoor
namespace Go.Proofs.YtncbcaabanoeoaaGreatDoor
open Go
variable {S:St}
theorem Jcu {m:AL Itm} {k:ByteArray} {v:Itm}:Je (K3 m k++[(k,v)]) k=some v:=by
 have h:Je (K3 m k) k=none:=Jct;simp only[Je,Option.map_eq_none_iff] at h;simp only[Je,List.find?_append,h];simp
theorem Jtr (S:St) (key:ByteArray) (it:Itm) (keep:Bool):(S.lay key it keep).load<=S.load+2:=by
 have h:(K3 S.L key).length<=S.L.length:=List.length_filter_le _ _;simp only[St.load,St.lay,List.length_append,List.length_cons,List.length_nil];omega
theorem Jn4 (hf:Fit S) (hT:Kx S) {key:ByteArray} {it:Itm} (hk:key.size<=512) (hr:J0e it) (hc:J24 key it<=S.bud) (keep:Bool) (now:Int):
 Fit (S.put key it keep now)/\Kx (S.put key it keep now)/\(S.put key it keep now).load<=S.load+2:=by
 have hc':J24 key it<=(S.due key now).bud:=by rw[Jaa];exact hc
 have hl:=(hf.due key now).lay (hT.due key now) hk hr hc' keep;have he:=Jjf ((S.due key now).lay key it keep).L.length ((S.due key now).lay key it keep) key hl (Nat.le_refl _) ⟨it,Jcu,hc'⟩;refine⟨he.1,he.2.1,?_⟩
 show(((S.due key now).lay key it keep).evict _ key).load<=_
 rw[St.load_evict _ hl];have:=Jtr (S.due key now) key it keep
 rw[St.load_due hf] at this;exact this
theorem Jf0 {s:ByteArray} (h:s.size<=4096):J0e (Ji s):=.inl ⟨rfl,h,rfl⟩
theorem Jbg {key:ByteArray} {it:Itm} (h:S.putE key it=0):key.size<=512/\¬(it.kind=1/\4096<it.text.size)/\J24 key it<=S.bud:=by
 unfold St.putE at h;split at h
 ·omega
 ·rename_i h1
  split at h
  ·omega
  ·omega
theorem Jx1 (hf:Fit S) (hT:Kx S) (key:ByteArray) (it:Itm) (hr:J0e it\/(it.kind=1/\it.fs=[])) (keep:Bool) (now:Int):
 Fit (S.putG key it keep now)/\Kx (S.putG key it keep now)/\(S.putG key it keep now).load<=S.load+2:=by
 unfold St.putG;split
 ·rename_i h
  obtain⟨h1,h2,h3⟩:=Jbg h
  refine Jn4 hf hT h1 ?_ h3 keep now;rcases hr with hr|⟨ha,hb⟩
  ·exact hr
  ·exact .inl ⟨ha,by have:=fun h=>h2 ⟨ha,h⟩;omega,hb⟩
 ·exact⟨hf.due _ _,hT.due _ _,by rw[St.load_due hf];omega⟩
theorem Jgd (hf:Fit S) (hT:Kx S) (key s:ByteArray) (keep:Bool) (now:Int):
 Fit (S.putG key (Ji s) keep now)/\Kx (S.putG key (Ji s) keep now)/\(S.putG key (Ji s) keep now).load<=S.load+2:=Jx1 hf hT key _ (.inr ⟨rfl,rfl⟩) keep now
def Jvc (o:Option Itm):Lf:=match o with
 |some it=>if it.kind=1 then J11 it.text else J34
 |none=>J34
theorem Jnr (S:St) (now:Int) (k:ByteArray) (ks:List ByteArray):J4e S now (k::ks)=((J4e (S.get k now) now ks).1,Jvc (S.look k now)::(J4e (S.get k now) now ks).2):=by
 rw[J4e];rfl
end Go.Proofs.YtncbcaabanoeoaaGreatDoor
namespace Go.Proofs.YtncbcaabanoeoaaGreatDoor
open Go Go.RowKit
variable {w0 w:World}{r:Hp}
theorem Jre {l:Hp} {sb:Nat} {S:St} {g off:Nat} {ws:List ByteArray} (h:Ctx w0 w l r sb S g off ws) (hfew:ws.length<=1000) (now:Int) (cap:Nat):
 Calls Tryz.prog 44 #[Kv sb now g off ws.length cap] w (Jp w0 r sb (J5k S now ws).1 (Ja (J5k S now ws).2)):=by
 have H:=(h.alloc (Jy sb now g off ws.length cap)).alloc J4;generalize hT:J5k S now ws=T;clear h;obtain⟨n,hlen⟩:∃n,ws.length=n:=⟨_,rfl⟩
 rw[hlen] at H hfew⊢;replace hlen:=hid hlen;replace hT:=hid hT;replace H:=hid H;go_enter Tryz.func44,Tryz.ntmps44;unfold Kv;go_upto_region 1 with fail;generalize hw1:(w.alloc _).alloc _=w1;replace H:Ctx w0 w1 _ _ _ _ _ _ _:=hw1▸H.out;clear hw1;simp only[World.size_alloc] at H;generalize w.heap.size=b at H⊢;have hjob:=hid (Ctx.job (A:=[(b+1,J4)]) H);obtain⟨R,hR⟩:∃R,R=[(b+1,J4)]++(b,Jy sb now g off n cap)::r:=⟨_,rfl⟩
 rw[<-hR] at hjob;replace H:Ctx w0 w1 l R sb S g off ws:=hR▸H
 have hend:∀(w':World) (l3:Hp) (a':Lf),J3 w0 [] w' (l3++R)->J3 w0 [] _ (l3++r):=fun w' l3 a' h=>((h.permR (l2:=(b+1,J4)::(l3++r++[(b,Jy sb now g off n cap)])) (J5 fun f=>by
  rw[hR];simp only[SC];omega)).setLf a').less (List.sublist_append_left _ _)
 have hres:(b+1,J4)∈R:=by rw[hR];simp
 have hgl:=hid H.gl;have hsmall:=hid H.args.small;have hst0:=hid H.st;have his0:=hid H.is;have hti0:=hid H.tight;have hlo0:=hid H.load;clear hR H;go_wp2_with fail;go_loopw [3] (fun s3 wr=>∃(k:Nat) (S':St) (l':Hp),s3= .int .i64 k/\k<=n+1/\Hid (T=J5k S' now (ws.drop k))/\Hid (Jh l' sb S')/\Hid (Kx S')/\Hid (S'.load<=1000000000000+2*k)/\Hid (J3 w0 [] wr (l'++R))) (fun s3 wr=>(n+2 - intOf s3).toNat)
 case atStart=>exact⟨0,S,l,rfl,Nat.zero_le _,hid hT.out.symm,his0,hti0,hid (by have:=hlo0.out;omega),hst0⟩
 case round=>
  obtain⟨k,S',l',rfl,hk,hrest,hX,hti,hlo,S2⟩:=hrel
  clear hst0 his0 hti0 hlo0 hT;obtain⟨j0,j1,j2⟩:=hjob.out.at_ wr ⟨l',S2.out⟩
  by_cases hlt:k+1<n
  ·obtain⟨x,hx⟩:∃x,ws[k]? =some x:=⟨ws[k]'(by rw[hlen.out];omega),List.getElem?_eq_getElem _⟩
   obtain⟨y,hy⟩:∃y,ws[k+1]? =some y:=⟨ws[k+1]'(by rw[hlen.out];omega),List.getElem?_eq_getElem _⟩
   have hdrop:ws.drop k=x::y::ws.drop (k+2):=by
    rw[List.drop_eq_getElem_cons (by rw[hlen.out];omega),List.drop_eq_getElem_cons (by rw[hlen.out];omega)]
    rw[(List.getElem?_eq_some_iff.1 hx).2,(List.getElem?_eq_some_iff.1 hy).2]
   have hsx:=hsmall.out x (List.mem_of_getElem? hx);have hfit:Fit S':=by obtain⟨m,_,_,hf⟩:=hX.out;exact hf
   obtain⟨_,hti2,hlo2⟩:=Jgd hfit hti.out x y false now
   have q0:∀p:InW w0 [] (l'++R),p.w.cell? ⟨b,0,none⟩=some (ptr sb):=fun p=>(hjob.out.at_ p.w ⟨l',p.h⟩).c0
   have q1:∀p:InW w0 [] (l'++R),p.w.cell? ⟨b,1,none⟩=some (.int .i64 now):=fun p=>(hjob.out.at_ p.w ⟨l',p.h⟩).c1
   have q2:∀p:InW w0 [] (l'++R),p.w.cell? ⟨b,2,none⟩=some (.slice (some ⟨g,off,none⟩) n cap):=fun p=>(hjob.out.at_ p.w ⟨l',p.h⟩).c2
   have qx:∀p:InW w0 [] (l'++R),p.w.cell? ⟨g,off+k,none⟩=some (.string x):=fun p=>hjob.out.arg p.w ⟨l',p.h⟩ k x hx
   have qy:∀p:InW w0 [] (l'++R),p.w.cell? ⟨g,off+(k+1),none⟩=some (.string y):=fun p=>hjob.out.arg p.w ⟨l',p.h⟩ (k+1) y hy
   have hklt:k<n:=by omega
   have hlt2:(k:Int)+1<(n:Int):=by omega
   have hlt3:(k:Int)<(n:Int):=by omega
   have hev:S'.ev.length<=1099511627776:=by have:=hlo.out;unfold St.load at this;omega
   replace hfit:=hid hfit;replace hti2:=hid hti2;replace hlo2:=hid hlo2;rw[hdrop] at hrest;replace hx:=hid hx;replace hy:=hid hy;replace hev:=hid hev;clear hdrop;go_wp2_with fail;refine Jq 16 S2.out (by kernel_rfl) (by kernel_rfl) (fun hne=>?_)
   simp only[List.take_succ_cons,List.take_zero,List.drop_succ_cons,List.drop_zero];repeat (go_big_quiet_step ((go_at_call 88;refine Calls.inw (Jbv (InW.h _) y))))
   refine J04 fun w2 S3=>?_
   clear q0 q1 q2 qx qy hne S2 j0 j1 j2;have hput:=hid (J8e (l:=l') (il:=[]) (r:=R) (it:=Ji y) S3 hgl.out hX.out hti.out hev.out x hsx (J5n.text y) false now);have hknown:=J5f S' x (Ji y);have hTT:Hid (T=if S'.putE x (Ji y)=0 then J5k (S'.putG x (Ji y) false now) now (ws.drop (k+2)) else(S'.putG x (Ji y) false now,Kt (S'.putE x (Ji y)))):=hid hrest.out
   have hlo3:Hid ((S'.putG x (Ji y) false now).load<=1000000000000+2*(k+2)):=hid (by have:=hlo.out;have:=hlo2.out;omega)
   clear S3 hrest hX hti hlo hlo2 hfit hx hy hev;generalize S'.putE x (Ji y)=pe at hput hknown hTT;generalize S'.putG x (Ji y) false now=pg at hput hTT hti2 hlo3;simp only[J6,Ji,List.nil_append] at hput;unfold J6;go_wp2_with fail;refine hput.out.mono ?_;rintro e w3 ⟨rfl,l3,hX3,S4⟩;replace hX3:=hid hX3;clear hput;rcases hknown with rfl|⟨hne,hkn⟩
   ·rw[if_pos rfl] at hTT
    replace S4:=hid S4;go_wp2_with fail;go_roundw
    case rel=>exact⟨k+2,pg,l3,rfl,by omega,hTT,hX3,hti2,hlo3,S4⟩
    case measure=>simp[intOf];omega
   ·rw[if_neg hne] at hTT
    have herr:=hid (J23 S4 pe hkn);have hpb:(pe==0)=false:=by simpa using hne
    clear S4 hkn hne;unfold Kt at hTT;generalize Jx pe=te at herr hTT;go_wp2_with fail;refine herr.out.mono ?_;rintro e1 w4 ⟨rfl,S5⟩;have S6:=hid (hend w4 l3 ⟨2,te,0⟩ S5);obtain⟨⟨c0,hc0⟩,⟨c1,hc1⟩,⟨c2,hc2⟩,⟨c3,hc3⟩,⟨c4,hc4⟩,⟨c5,hc5⟩,fz,hlt⟩:=Jl (S5.own.right.at_ _ hres)
    clear herr S5 hend;unfold J7;go_wp2_with fail;refine bodyPost_ret (v:=Ja ⟨2,te,0⟩) (by simp[results,Tryz.results44,go_sem,J7,Ja, *]<;>rfl) rfl ?_
    rw[hTT.out];exact⟨rfl,l3,hX3.out,S6.out⟩
  ·have hTT:Hid (T=(S',J44)):=hid (by
    rw[hrest.out];have hl:(ws.drop k).length<=1:=by rw[List.length_drop,hlen.out];omega
    match hd:ws.drop k,hl with
    |[],_=>rfl
    |[_],_=>rfl
    |_::_::_,hl=>simp at hl)
   have hlt2:¬(k:Int)+1<(n:Int):=by omega
   have hok:=hid (Jih S2.out);clear hrest S2;go_wp2_with fail;refine hok.out.mono ?_;rintro e1 w4 ⟨rfl,S5⟩;have S6:=hid (hend w4 l' J44 S5);obtain⟨⟨c0,hc0⟩,⟨c1,hc1⟩,⟨c2,hc2⟩,⟨c3,hc3⟩,⟨c4,hc4⟩,⟨c5,hc5⟩,fz,hlt⟩:=Jl (S5.own.right.at_ _ hres)
   clear hok S5 hend;unfold J7;go_wp2_with fail;refine bodyPost_ret (v:=Ja J44) (by simp[results,Tryz.results44,go_sem,J7,Ja,J44, *]<;>rfl) rfl ?_
   rw[hTT.out];exact⟨rfl,l',hX.out,S6.out⟩
def Js9 (w0:World) (r:Hp) (sb:Nat) (S:St) (kind:Int) (xs:List Lf) (e:Ending) (w':World):Prop:=
 ∃v vl l',e= .returned (J7 kind ByteArray.empty 0 v)/\J3s v xs vl/\Jh l' sb S/\J3 w0 [] w' (l'++(vl++r))
theorem Jvj (hS:J3 w0 [] w r) (o:Option Itm) (v:Value):
 Calls Tryz.prog 38 #[.agg #[.int .i64 (o.getD Jc).kind,.string (o.getD Jc).text,v],.bool (o.isSome&&((o.getD Jc).kind==1))] w (Kr w0 r (Ja (Jvc o))):=by
 cases o with
 |none=>exact Jf2 hS _ _ v
 |some it=>
  simp only[Option.getD_some,Option.isSome_some,Jvc,Bool.true_and];by_cases hk:it.kind=1
  ·rw[if_pos hk,hk];exact Jgm hS _ _ v (by decide)
  ·rw[if_neg hk,beq_eq_false_iff_ne.2 hk];exact Jf2 hS _ _ v
theorem Jtz {l:Hp} {sb:Nat} {S:St} {g off:Nat} {ws:List ByteArray} (h:Ctx w0 w l r sb S g off ws) (hfew:ws.length<=1000) (now:Int) (cap:Nat):
 Calls Tryz.prog 43 #[Kv sb now g off ws.length cap] w (Js9 w0 r sb (J4e S now ws).1 5 (J4e S now ws).2):=by
 have H:=(h.alloc (Jy sb now g off ws.length cap)).alloc J4;generalize hT:J4e S now ws=T;clear h;obtain⟨n,hlen⟩:∃n,ws.length=n:=⟨_,rfl⟩
 rw[hlen] at H hfew⊢;replace hlen:=hid hlen;replace hT:=hid hT;replace H:=hid H;go_enter Tryz.func43,Tryz.ntmps43;unfold Kv;go_upto_region 1 with fail;generalize hw1:(w.alloc _).alloc _=w1;replace H:Ctx w0 w1 _ _ _ _ _ _ _:=hw1▸H.out;clear hw1;simp only[World.size_alloc] at H;generalize w.heap.size=b at H⊢;have hjob:=hid (Ctx.job (A:=[(b+1,J4)]) H);obtain⟨R,hR⟩:∃R,R=[(b+1,J4)]++(b,Jy sb now g off n cap)::r:=⟨_,rfl⟩
 rw[<-hR] at hjob;replace H:Ctx w0 w1 l R sb S g off ws:=hR▸H;have hres:(b+1,J4)∈R:=by rw[hR];simp
 have hgl:=hid H.gl;have hsmall:=hid H.args.small;have hst0:=hid H.st;have his0:=hid H.is;have hlo0:=hid H.load;obtain⟨j0,j1,j2⟩:=hjob.out.at_ w1 ⟨l,H.st⟩
 clear H;replace hR:=hid hR;go_wp2_with fail;have S0:Hid (J3 w0 [] w1 (l++([]++R))):=hst0;clear j0 j1 j2 hst0;go_loopw [3,5,6,7,11] (fun s3 s5 s6 s7 s11 wr=>∃(k:Nat) (S':St) (l':Hp) (va:Option Addr) (c:Nat) (sl:Hp) (acc:List Lf),s3= .slice va k c/\s11= .int .i64 k/\k<=n/\acc.length=k/\Hid (T.1=(J4e S' now (ws.drop k)).1/\T.2=acc++(J4e S' now (ws.drop k)).2)/\Hid (Jh l' sb S')/\Hid (S'.load<=1000000000000)/\Hid (J3s (.slice va k c) acc sl)/\Hid (J3 w0 [] wr (l'++(sl++R)))) (fun s3 s5 s6 s7 s11 wr=>(n - intOf s11).toNat)
 case atStart=>exact⟨0,S,l,none,0,[],[],rfl,rfl,Nat.zero_le _,rfl,hid ⟨by rw[<-hT.out];rfl,by rw[<-hT.out];rfl⟩,his0,hlo0,hid .nil,S0⟩
 case round=>
  obtain⟨k,S',l',va,c,sl,acc,rfl,rfl,hk,hacc,hrest,hX,hlo,hat,S2⟩:=hrel
  replace hacc:=hid hacc;clear S0 his0 hlo0 hT;have hx2:InX w0 R wr:=⟨l'++sl,by rw[List.append_assoc];exact S2.out⟩
  obtain⟨j0,j1,j2⟩:=hjob.out.at_ wr hx2
  by_cases hlt:k<n
  ·obtain⟨x,hx⟩:∃x,ws[k]? =some x:=⟨ws[k]'(by rw[hlen.out];omega),List.getElem?_eq_getElem _⟩
   have hdrop:ws.drop k=x::ws.drop (k+1):=by
    rw[List.drop_eq_getElem_cons (by rw[hlen.out];omega)]
    rw[(List.getElem?_eq_some_iff.1 hx).2]
   have hfit:Fit S':=by obtain⟨m,_,_,hf⟩:=hX.out;exact hf
   have hlo2:Hid ((S'.get x now).load<=1000000000000):=hid (by rw[St.load_get hfit];exact hlo.out)
   rw[hdrop,Jnr] at hrest;simp only at hrest
   have ja:=hjob.out.arg wr hx2 k x hx;have hsx:=hsmall.out x (List.mem_of_getElem? hx);have hget:=Jjm S2.out hgl.out hX.out (by have:=hlo.out;unfold St.load at this;omega) x hsx now
   replace hget:Hid _:=hid (hget.mono fun _ _ hp=>J5m.of (x:=[]) (R:=sl++R) hp)
   have hlt3:(k:Int)<(n:Int):=by omega
   have htold:∀(w':World) (L:Hp) (v:Value),Hid (J3 w0 [] w' L->_):=fun w' L v=>hid fun hw=>Jvj hw (S'.look x now) v
   unfold Ja J7 at htold;have hone:∀a,a=Jvc (S'.look x now)->Hid (T.1=(J4e (S'.get x now) now (ws.drop (k+1))).1/\T.2=(acc++[a])++(J4e (S'.get x now) now (ws.drop (k+1))).2):=fun a ha=>hid (by rw[ha,List.append_assoc];exact hrest.out)
   change Hid (Calls _ _ _ _ (J5m w0 (sl++R) [] sb (S'.get x now) ((S'.look x now).getD Jc).kind ((S'.look x now).getD Jc).text (S'.look x now).isSome ((S'.look x now).getD Jc).fs)) at hget
   generalize Jvc (S'.look x now)=a at htold hone;replace hone:=hone a rfl;generalize ((S'.look x now).getD Jc).kind=kd at hget htold;generalize ((S'.look x now).getD Jc).text=tx at hget htold;generalize (S'.look x now).isSome=is at hget htold;generalize ((S'.look x now).getD Jc).fs=fs at hget;generalize S'.get x now=S'' at hget hone hlo2;clear hfit hdrop hrest hX hlo hx2;replace hx:=hid hx;go_wp2_with fail;refine hget.out.mono ?_;rintro e w2 ⟨va2,vn2,vc2,vl,l2,rfl,hfs,hX2,S3,_⟩;clear hget S2 j0 j1 j2 ja;have S4:=S3.out.alloc (Jb kd tx (.slice va2 vn2 vc2));have hto:=hid ((htold _ _ (.slice va2 vn2 vc2)).out S4);clear htold S4;cases is with
   |false=>
    rw[Bool.false_and] at hto;go_wp2_with fail;refine hto.out.mono ?_;rintro e w3 ⟨rfl,S5⟩;have S6:=S5.alloc (J0h a);obtain⟨va3,c3,w4,sl3,hrun,hat3,S7⟩:=Jd8 (nb:=w3.heap.size) (a:=a) (r:=(w3.heap.size,J0h a)::(w2.heap.size,Jb kd tx (.slice va2 vn2 vc2))::(l2++(vl++R))) (S6.permR (J5 fun f=>by simp only[SC];omega)) hat.out hacc.out (by omega) (by simp)
    have S8:=hid (S7.pick (l2:=l2++(sl3++R)) (m:=(w3.heap.size,J0h a)::(w2.heap.size,Jb kd tx (.slice va2 vn2 vc2))::vl) (J5 fun f=>by simp only[SC];omega))
    replace hrun:=hid hrun;replace hat3:=hid hat3;have hacc2:Hid ((acc++[a]).length=k+1):=hid (by rw[List.length_append,hacc.out];rfl)
    clear S3 S5 S6 S7 hto hat hacc hfs;go_wp2_with (at_builtin;refine J8 rfl _ _ _ _ rfl _ _ rfl rfl hrun.out ?_);go_roundw
    case rel=>exact⟨k+1,S'',l2,va3,c3,sl3,acc++[a],rfl,rfl,hlt,hacc2.out,hone,hX2,hlo2,hat3,S8⟩
    case measure=>simp[intOf];omega
   |true=>
    rw[Bool.true_and] at hto;go_wp2_with fail;refine hto.out.mono ?_;rintro e w3 ⟨rfl,S5⟩;have S6:=S5.alloc (J0h a);obtain⟨va3,c3,w4,sl3,hrun,hat3,S7⟩:=Jd8 (nb:=w3.heap.size) (a:=a) (r:=(w3.heap.size,J0h a)::(w2.heap.size,Jb kd tx (.slice va2 vn2 vc2))::(l2++(vl++R))) (S6.permR (J5 fun f=>by simp only[SC];omega)) hat.out hacc.out (by omega) (by simp)
    have S8:=hid (S7.pick (l2:=l2++(sl3++R)) (m:=(w3.heap.size,J0h a)::(w2.heap.size,Jb kd tx (.slice va2 vn2 vc2))::vl) (J5 fun f=>by simp only[SC];omega))
    replace hrun:=hid hrun;replace hat3:=hid hat3;have hacc2:Hid ((acc++[a]).length=k+1):=hid (by rw[List.length_append,hacc.out];rfl)
    clear S3 S5 S6 S7 hto hat hacc hfs;go_wp2_with (at_builtin;refine J8 rfl _ _ _ _ rfl _ _ rfl rfl hrun.out ?_);go_roundw
    case rel=>exact⟨k+1,S'',l2,va3,c3,sl3,acc++[a],rfl,rfl,hlt,hacc2.out,hone,hX2,hlo2,hat3,S8⟩
    case measure=>simp[intOf];omega
  ·obtain rfl:k=n:=by omega
   have hTT:Hid (T.1=S'/\T.2=acc):=hid (by
    have h0:ws.drop k=[]:=List.drop_eq_nil_iff.2 (by rw[hlen.out];omega)
    have:=hrest.out
    rw[h0] at this;simpa[J4e] using this)
   have hlist:=Jgr (S2.out.permR (l2:=sl++(l'++R)) (J5 fun f=>by simp only[SC];omega)) hat.out (by rw[hacc.out];omega)
   replace hlist:=hid hlist;clear hrest S2 j0 j1 j2 hx2;go_wp2_with fail;refine hlist.out.mono ?_;rintro e w2 ⟨v,sl2,rfl,hat2,S3⟩;obtain⟨a2,cc,rfl,_,_⟩:=hat2.form
   have S4:=S3.permR (l2:=(b+1,J4)::(l'++(sl2++r)++(sl++[(b,Jy sb now g off k cap)]))) (J5 fun f=>by
    rw[hR.out];simp only[SC];omega)
   obtain⟨⟨c0,hc0⟩,⟨c1,hc1⟩,⟨c2,hc2⟩,⟨c3,hc3⟩,⟨c4,hc4⟩,⟨c5,hc5⟩,fz,hlt2⟩:=Jl S4.own.head
   have S9:=hid ((((((((S4.set 0 (.int .i64 5)).set 1 (.string ByteArray.empty)).set 2 (.int .i64 0)).set 3 (.float .f64 0)).set 4 (.bool false)).set 5 (.slice a2 acc.length cc)).less (List.sublist_cons_self _ _)).less (List.sublist_append_left _ _));replace hat2:=hid hat2;clear S3 S4 hlist hat;generalize acc.length=na at hat2 S9⊢;unfold J7;go_wp2_with fail;refine bodyPost_ret (v:=J7 5 ByteArray.empty 0 (.slice a2 na cc)) (by simp[results,Tryz.results43,go_sem,J7, *]<;>rfl) rfl ?_
   rw[hTT.out.1,hTT.out.2];exact⟨_,sl2,l',rfl,hat2.out,hX.out,S9.out⟩
end Go.Proofs.YtncbcaabanoeoaaGreatDoor
