/-
texts: options (printed by gen_opts.py).
-/
import Derived.Test.YtefjbegnlolgbaaGreatDoorQ19
set_option linter.unusedVariables false
set_option linter.unusedSimpArgs false
set_option maxRecDepth 100000
set_option maxHeartbeats 8000000
namespace Go.Proofs.YtefjbegnlolgbaaGreatDoor
open Go Go.RowKit
variable {w:World}
structure Jck where
 nx:Bool
 xx:Bool
 get:Bool
 keep:Bool
 ends:Bool
 unit:Int
 n:ByteArray
def K2:Jck:=⟨false,false,false,false,false,0,ByteArray.empty⟩
def Jf:List ByteArray->Jck->Jck×Bool
 |[],s=>(s,true)
 |[w],s=>
  if(J0x w).toList=[78,88] then(if s.nx then(s,false) else({s with nx:=true},true)) else
  if(J0x w).toList=[88,88] then(if s.xx then(s,false) else({s with xx:=true},true)) else
  if(J0x w).toList=[71,69,84] then(if s.get then(s,false) else({s with get:=true},true)) else
  if(J0x w).toList=[75,69,69,80,84,84,76] then(if s.keep then(s,false) else({s with keep:=true},true)) else
  if(J0x w).toList=[69,88]\/(J0x w).toList=[80,88] then(s,false) else
  (s,false)
 |w::v::l,s=>
  if(J0x w).toList=[78,88] then(if s.nx then(s,false) else Jf (v::l) {s with nx:=true}) else
  if(J0x w).toList=[88,88] then(if s.xx then(s,false) else Jf (v::l) {s with xx:=true}) else
  if(J0x w).toList=[71,69,84] then(if s.get then(s,false) else Jf (v::l) {s with get:=true}) else
  if(J0x w).toList=[75,69,69,80,84,84,76] then(if s.keep then(s,false) else Jf (v::l) {s with keep:=true}) else
  if(J0x w).toList=[69,88]\/(J0x w).toList=[80,88] then(if s.ends then(s,false) else Jf l {s with ends:=true,unit:=if(J0x w).toList=[69,88] then 1000 else 1,n:=v}) else
  (s,false)
theorem Jbu (w:ByteArray) (l:List ByteArray) (s:Jck) (u:List UInt8) (hu:u=(J0x w).toList):Jf (w::l) s=(
 if u=[78,88] then(if s.nx then(s,false) else Jf l {s with nx:=true}) else
 if u=[88,88] then(if s.xx then(s,false) else Jf l {s with xx:=true}) else
 if u=[71,69,84] then(if s.get then(s,false) else Jf l {s with get:=true}) else
 if u=[75,69,69,80,84,84,76] then(if s.keep then(s,false) else Jf l {s with keep:=true}) else
 if u=[69,88]\/u=[80,88] then(match l with
  |[]=>(s,false)
  |v::l2=>if s.ends then(s,false) else Jf l2 {s with ends:=true,unit:=if u=[69,88] then 1000 else 1,n:=v}) else
 (s,false)):=by
 subst hu;cases l with
 |nil=>rfl
 |cons v l2=>rfl
structure Opt where
 nx:Bool
 xx:Bool
 get:Bool
 keep:Bool
 ends:Bool
 when_:Int
def Kt (s:Jck) (t:Int):Opt:=⟨s.nx,s.xx,s.get,s.keep,s.ends,t⟩
def J26 (now:Int) (l:List ByteArray):Opt×Int:=
 if(Jf l K2).2 then
  (if((Jf l K2).1.nx&&(Jf l K2).1.xx)||((Jf l K2).1.keep&&(Jf l K2).1.ends) then(Kt (Jf l K2).1 0,131) else
   if(Jf l K2).1.ends=false then(Kt (Jf l K2).1 0,0) else
   match J2n (Jf l K2).1.n with
   |none=>(Kt (Jf l K2).1 0,11)
   |some x=>if x<1 then(Kt (Jf l K2).1 0,11) else(Kt (Jf l K2).1 (K0 now x (Jf l K2).1.unit).1,(K0 now x (Jf l K2).1.unit).2))
 else(Kt (Jf l K2).1 0,131)
theorem J1m {now:Int} {l:List ByteArray} {s:Jck} (h:Jf l K2=(s,false)):(J26 now l).2=131:=by
 simp only[J26,h];rfl
theorem Jjm {now:Int} {l:List ByteArray} {s:Jck} (h:Jf l K2=(s,true)):J26 now l=
 (if(s.nx&&s.xx)||(s.keep&&s.ends) then(Kt s 0,131) else
  if s.ends=false then(Kt s 0,0) else
  match J2n s.n with
  |none=>(Kt s 0,11)
  |some x=>if x<1 then(Kt s 0,11) else(Kt s (K0 now x s.unit).1,(K0 now x s.unit).2)):=by
 simp only[J26,h,if_true]
theorem Jiv (v a b c d e f:Value):(#[a,b,c,d,e,f]:Array Value).setIfInBounds 0 v= #[v,b,c,d,e,f]:=by kernel_rfl
theorem Jiw (v a b c d e f:Value):(#[a,b,c,d,e,f]:Array Value).setIfInBounds 1 v= #[a,v,c,d,e,f]:=by kernel_rfl
theorem Jix (v a b c d e f:Value):(#[a,b,c,d,e,f]:Array Value).setIfInBounds 2 v= #[a,b,v,d,e,f]:=by kernel_rfl
theorem Jiy (v a b c d e f:Value):(#[a,b,c,d,e,f]:Array Value).setIfInBounds 3 v= #[a,b,c,v,e,f]:=by kernel_rfl
theorem Jdm (v a b c d e f:Value):(#[a,b,c,d,e,f]:Array Value).setIfInBounds 4 v= #[a,b,c,d,v,f]:=by kernel_rfl
abbrev Jr (o:Opt):Obj:=.cells #[.bool o.nx,.bool o.xx,.bool o.get,.bool o.keep,.bool o.ends,.int .i64 o.when_] 230 (0,0)
def Ku (o:Opt):Value:=.agg #[.bool o.nx,.bool o.xx,.bool o.get,.bool o.keep,.bool o.ends,.int .i64 o.when_]
def Jfd (w0:World) (L:Hp) (p:Opt×Int) (e:Ending) (w':World):Prop:=
 ∃o:Opt,e= .returned (.tuple #[Ku o,.int .i64 p.2])/\(p.2=0->o=p.1)/\J1 w0 [] w' L
structure Jll (w:World) (b:Nat) (o:Opt):Prop where
 c0:w.cell? ⟨b,0,none⟩=some (.bool o.nx)
 c1:w.cell? ⟨b,1,none⟩=some (.bool o.xx)
 c2:w.cell? ⟨b,2,none⟩=some (.bool o.get)
 c3:w.cell? ⟨b,3,none⟩=some (.bool o.keep)
 c4:w.cell? ⟨b,4,none⟩=some (.bool o.ends)
 c5:w.cell? ⟨b,5,none⟩=some (.int .i64 o.when_)
theorem J38 {b:Nat} {o:Opt} (h:w.heap[b]? =some (Jr o)):Jll w b o:=⟨J0 h 0,J0 h 1,J0 h 2,J0 h 3,J0 h 4,J0 h 5⟩
theorem J1.setOpt {w0:World} {l r:Hp} {b:Nat} {o0 o1 o2 o3 o4 o5:Value} {t:TypeId} (h:J1 w0 l w ((b,.cells #[o0,o1,o2,o3,o4,o5] t (0,0))::r)) (a:Opt):
 J1 w0 l ((((((w.setCell ⟨b,0,none⟩ (.bool a.nx)).setCell ⟨b,1,none⟩ (.bool a.xx)).setCell ⟨b,2,none⟩ (.bool a.get)).setCell ⟨b,3,none⟩ (.bool a.keep)).setCell ⟨b,4,none⟩ (.bool a.ends)).setCell ⟨b,5,none⟩ (.int .i64 a.when_)) r:=
 ((((((h.set 0 (.bool a.nx)).set 1 (.bool a.xx)).set 2 (.bool a.get)).set 3 (.bool a.keep)).set 4 (.bool a.ends)).set 5 (.int .i64 a.when_)).less (List.sublist_cons_self _ _)
theorem Jdn {w0:World} {l r:Hp} {sb:Nat} {S:St} {g off:Nat} {k m:ByteArray} {ws:List ByteArray} (h:Ctx w0 w l r sb S g off (k::m::ws)) (now:Int) (hnow:0<=now/\now<=4611686018427387904) (cap:Nat) (hcap:(k::m::ws).length<=cap) (hcap2:cap<=9223372036854775807):
 Calls Tryz.prog 144 #[J46 sb now g off (k::m::ws).length cap] w (Jfd w0 (l++r) (J26 now ws)):=by
 have H:=((h.alloc (J1e sb now g off (k::m::ws).length cap)).alloc (Jr ⟨false,false,false,false,false,0⟩)).alloc (Jr ⟨false,false,false,false,false,0⟩);generalize hT:J26 now ws=T;have hargs:=hid h.args;clear h;obtain⟨n,hn⟩:∃n,ws.length=n:=⟨_,rfl⟩
 have hlen:(k::m::ws).length=n+2:=by simp only[List.length_cons,hn]
 rw[hlen] at H hcap⊢;replace hlen:=hid hlen;replace hn:=hid hn;replace hT:=hid hT;replace H:=hid H;go_enter Tryz.func144,Tryz.ntmps144;unfold J46;go_upto_region 2 with fail;generalize hw1:((w.alloc _).alloc _).alloc _=w1;replace H:Ctx w0 w1 _ _ _ _ _ _ _:=hw1▸H.out;clear hw1;simp only[World.size_alloc] at H;generalize w.heap.size=b at H⊢;have hjob:=hid (Ctx.job (A:=[(b+1+1,Jr ⟨false,false,false,false,false,0⟩),(b+1,Jr ⟨false,false,false,false,false,0⟩)]) H);obtain⟨j0,j1,j2⟩:=hjob.out.at_ w1 ⟨l,H.st⟩
 go_cut [5] (fun s5 wc=>∃(off2 cap2:Nat),s5= .slice (some ⟨g,off2,none⟩) n cap2/\(0<n->off2=off+2)/\wc=w1)
 case first=>
  by_cases hc:cap=2
  ·have hn0:n=0:=by omega
   have hcm:cap - 2=0:=by omega
   go_wp2_with fail;all_goals go_meet
   all_goals exact⟨off,0,by rw[hn0],by omega,rfl⟩
  ·have hc2:¬cap - 2=0:=by omega
   go_wp2_with fail;all_goals go_meet
   all_goals exact⟨_,_,rfl,by omega,rfl⟩
 case rest=>
  obtain⟨off2,cap2,rfl,hoff,rfl⟩:=hcut
  replace hoff:=hid hoff;obtain⟨L,hL⟩:∃L:Hp,L=(b+1,Jr ⟨false,false,false,false,false,0⟩)::(b,J1e sb now g off (n+2) cap)::(l++r):=⟨_,rfl⟩
  have S1:J1 w0 [] wc ((b+1+1,Jr ⟨false,false,false,false,false,0⟩)::L):=H.st.permR (J2 fun f=>by
   rw[hL];simp only[SC];omega)
  have hin:Hid (∀(w':World) (o:Obj),J1 w0 [] w' ((b+1+1,o)::L)->Jfb w' b sb now g off (n+2) cap/\∀(i:Nat) (s:ByteArray),ws[i]? =some s->w'.cell? ⟨g,off2+i,none⟩=some (.string s)):=hid (fun w' o h=>by
   rw[hL] at h;refine⟨Jij h.own.tail.tail.head,fun i s hs=>?_⟩
   have hi:0<n:=by have:=(List.getElem?_eq_some_iff.1 hs).1;rw[hn.out] at this;omega
   rw[hoff.out hi];have:=hargs.out.at_ w' ((b+1+1,o)::(b+1,Jr ⟨false,false,false,false,false,0⟩)::(b,J1e sb now g off (n+2) cap)::l) h (i+2) s (by simpa using hs)
   rw[show off+2+i=off+(i+2) by omega]
   exact this)
  have hws:Hid (∀s∈ws,s.size<=1099511627776):=hid fun s hs=>hargs.out.small s (by simp[hs])
  have hgl:=hid H.gl;have hcl:n<=1099511627776:=by have:=hargs.out.few;simp only[List.length_cons] at this;have:=hn.out;omega
  have hres:Hid (∀(w':World) (o:Opt),J1 w0 [] w' ((b+1+1,Jr o)::L)->w'.heap[b+1]? =some (Jr ⟨false,false,false,false,false,0⟩)):=hid (fun w' o h=>by
   rw[hL] at h;exact h.own.tail.head)
  have hfin:Hid (∀(w':World) (o:Opt),J1 w0 [] w' ((b+1+1,Jr o)::L)->∀o2:Opt,J1 w0 [] _ (l++r)):=hid (fun w' o h o2=>by
   rw[hL] at h
   exact((h.permR (l2:=(b+1,Jr ⟨false,false,false,false,false,0⟩)::((l++r)++[(b+1+1,Jr o),(b,J1e sb now g off (n+2) cap)])) (J2 fun f=>by
    simp only[SC];omega)).setOpt o2).less (List.sublist_append_left _ _))
  replace hL:=hid hL;clear H hjob j0 j1 j2 hoff;have S0:Hid (J1 w0 [] wc ((b+1+1,Jr (Kt K2 0))::L)):=hid S1;clear S1;go_wp2_with fail;go_loopw [6,7,8,9,10] (fun s6 s7 s8 s9 s10 wr=>∃(i:Nat) (s:Jck),s6= .string s.n/\s7= .int .i64 s.unit/\s8= .int .i64 i/\i<=n/\Hid (Jf ws K2=Jf (ws.drop i) s)/\Hid (s.n.size<=1099511627776/\(s.ends=true->s.unit=1\/s.unit=1000))/\Hid (J1 w0 [] wr ((b+1+1,Jr (Kt s 0))::L))) (fun s6 s7 s8 s9 s10 wr=>(n - intOf s8).toNat)
  case atStart=>exact⟨0,K2,rfl,rfl,rfl,Nat.zero_le _,hid rfl,hid ⟨by decide,fun h=>absurd h (by decide)⟩,S0⟩
  case round=>
   obtain⟨i,s,rfl,rfl,rfl,hi,hrest,hfit,S2⟩:=hrel
   clear S0;by_cases hlt:i<n
   ·obtain⟨x,hx⟩:∃x,ws[i]? =some x:=⟨ws[i]'(by rw[hn.out];omega),List.getElem?_eq_getElem _⟩
    have hdrop:ws.drop i=x::ws.drop (i+1):=by
     rw[List.drop_eq_getElem_cons (by rw[hn.out];omega)]
     rw[(List.getElem?_eq_some_iff.1 hx).2]
    have ja:=(hin.out wr _ S2.out).2 i x hx;have hup:=hid (J5m S2.out x (hws.out x (List.mem_of_getElem? hx)));rw[hdrop] at hrest
    have hstep:Hid (∀u,u=(J0x x).toList->Jf ws K2=(
     if u=[78,88] then(if s.nx then(s,false) else Jf (ws.drop (i+1)) {s with nx:=true}) else
     if u=[88,88] then(if s.xx then(s,false) else Jf (ws.drop (i+1)) {s with xx:=true}) else
     if u=[71,69,84] then(if s.get then(s,false) else Jf (ws.drop (i+1)) {s with get:=true}) else
     if u=[75,69,69,80,84,84,76] then(if s.keep then(s,false) else Jf (ws.drop (i+1)) {s with keep:=true}) else
     if u=[69,88]\/u=[80,88] then(match ws.drop (i+1) with
     |[]=>(s,false)
     |v::l2=>if s.ends then(s,false) else Jf l2 {s with ends:=true,unit:=if u=[69,88] then 1000 else 1,n:=v}) else
     (s,false))):=hid (fun u hu=>by rw[hrest.out,Jbu _ _ _ u hu])
    have hstep2:=hstep.out _ rfl;generalize J0x x=u at hup hstep2;replace hstep2:=hid hstep2;clear hrest hdrop hstep;replace hx:=hid hx;go_wp2_with fail;refine hup.out.mono ?_;rintro e w2 ⟨rfl,S3⟩;replace S3:=hid S3;clear hup S2 ja;by_cases g0:u.toList=[78,88]
    ·have g0b:(u.toList==[78,88])=true:=by rw[g0];rfl
     go_wp2_with fail;refine(J3s (v:=s.nx) S3.out rfl).mono ?_
     rintro e2 w3 ⟨rfl,S4⟩;rw[Jiv] at S4;clear S3;cases hf:s.nx with
     |true=>
      have S4':J1 w0 [] w3 ((b+1+1,Jr ⟨true,s.xx,s.get,s.keep,s.ends,0⟩)::L):=S4;replace S4:=S4';have hbad:Hid (T.2=131):=hid (by rw[<-hT.out];exact J1m (by rw[hstep2.out];rw[if_pos g0,hf];rfl))
      obtain⟨q0,q1,q2,q3,q4,q5⟩:=J38 S4.own.head
      obtain⟨⟨c0,hc0⟩,⟨c1,hc1⟩,⟨c2,hc2⟩,⟨c3,hc3⟩,⟨c4,hc4⟩,⟨c5,hc5⟩,fz,hltb⟩:=Jl (hres.out _ _ S4)
      have S9:=hid (hfin.out _ _ S4 (⟨true,s.xx,s.get,s.keep,s.ends,0⟩));clear S4 hstep2;simp only[Kt] at q0 q1 q2 q3 q4 q5 S9;go_wp2_with fail;refine bodyPost_ret (v:=.tuple #[Ku (⟨true,s.xx,s.get,s.keep,s.ends,0⟩),.int .i64 131]) (by simp[results,Tryz.results144,go_sem,Ku, *]<;>rfl) rfl ?_
      exact⟨⟨true,s.xx,s.get,s.keep,s.ends,0⟩,by rw[hbad.out],fun h=>absurd (hbad.out.symm.trans h) (by decide),S9.out⟩
     |false=>
      have hrest2:Hid (Jf ws K2=Jf (ws.drop (i+1)) {s with nx:=true}):=hid (by rw[hstep2.out,if_pos g0,hf];rfl)
      have S5:Hid (J1 w0 [] w3 ((b+1+1,Jr (Kt {s with nx:=true} 0))::L)):=hid S4
      clear S4 hstep2;go_wp2_with fail;go_roundw
      case rel=>exact⟨i+1,{s with nx:=true},rfl,rfl,rfl,hlt,hrest2,hfit,S5⟩
      case measure=>simp[intOf];omega
    by_cases g1:u.toList=[88,88]
    ·have g1b:(u.toList==[88,88])=true:=by rw[g1];rfl
     go_wp2_with fail;refine(J3s (v:=s.xx) S3.out rfl).mono ?_
     rintro e2 w3 ⟨rfl,S4⟩;rw[Jiw] at S4;clear S3;cases hf:s.xx with
     |true=>
      have S4':J1 w0 [] w3 ((b+1+1,Jr ⟨s.nx,true,s.get,s.keep,s.ends,0⟩)::L):=S4;replace S4:=S4';have hbad:Hid (T.2=131):=hid (by rw[<-hT.out];exact J1m (by rw[hstep2.out];rw[if_neg g0,if_pos g1,hf];rfl))
      obtain⟨q0,q1,q2,q3,q4,q5⟩:=J38 S4.own.head
      obtain⟨⟨c0,hc0⟩,⟨c1,hc1⟩,⟨c2,hc2⟩,⟨c3,hc3⟩,⟨c4,hc4⟩,⟨c5,hc5⟩,fz,hltb⟩:=Jl (hres.out _ _ S4)
      have S9:=hid (hfin.out _ _ S4 (⟨s.nx,true,s.get,s.keep,s.ends,0⟩));clear S4 hstep2;simp only[Kt] at q0 q1 q2 q3 q4 q5 S9;go_wp2_with fail;refine bodyPost_ret (v:=.tuple #[Ku (⟨s.nx,true,s.get,s.keep,s.ends,0⟩),.int .i64 131]) (by simp[results,Tryz.results144,go_sem,Ku, *]<;>rfl) rfl ?_
      exact⟨⟨s.nx,true,s.get,s.keep,s.ends,0⟩,by rw[hbad.out],fun h=>absurd (hbad.out.symm.trans h) (by decide),S9.out⟩
     |false=>
      have hrest2:Hid (Jf ws K2=Jf (ws.drop (i+1)) {s with xx:=true}):=hid (by rw[hstep2.out,if_neg g0,if_pos g1,hf];rfl)
      have S5:Hid (J1 w0 [] w3 ((b+1+1,Jr (Kt {s with xx:=true} 0))::L)):=hid S4
      clear S4 hstep2;go_wp2_with fail;go_roundw
      case rel=>exact⟨i+1,{s with xx:=true},rfl,rfl,rfl,hlt,hrest2,hfit,S5⟩
      case measure=>simp[intOf];omega
    by_cases g2:u.toList=[71,69,84]
    ·have g2b:(u.toList==[71,69,84])=true:=by rw[g2];rfl
     go_wp2_with fail;refine(J3s (v:=s.get) S3.out rfl).mono ?_
     rintro e2 w3 ⟨rfl,S4⟩;rw[Jix] at S4;clear S3;cases hf:s.get with
     |true=>
      have S4':J1 w0 [] w3 ((b+1+1,Jr ⟨s.nx,s.xx,true,s.keep,s.ends,0⟩)::L):=S4;replace S4:=S4';have hbad:Hid (T.2=131):=hid (by rw[<-hT.out];exact J1m (by rw[hstep2.out];rw[if_neg g0,if_neg g1,if_pos g2,hf];rfl))
      obtain⟨q0,q1,q2,q3,q4,q5⟩:=J38 S4.own.head
      obtain⟨⟨c0,hc0⟩,⟨c1,hc1⟩,⟨c2,hc2⟩,⟨c3,hc3⟩,⟨c4,hc4⟩,⟨c5,hc5⟩,fz,hltb⟩:=Jl (hres.out _ _ S4)
      have S9:=hid (hfin.out _ _ S4 (⟨s.nx,s.xx,true,s.keep,s.ends,0⟩));clear S4 hstep2;simp only[Kt] at q0 q1 q2 q3 q4 q5 S9;go_wp2_with fail;refine bodyPost_ret (v:=.tuple #[Ku (⟨s.nx,s.xx,true,s.keep,s.ends,0⟩),.int .i64 131]) (by simp[results,Tryz.results144,go_sem,Ku, *]<;>rfl) rfl ?_
      exact⟨⟨s.nx,s.xx,true,s.keep,s.ends,0⟩,by rw[hbad.out],fun h=>absurd (hbad.out.symm.trans h) (by decide),S9.out⟩
     |false=>
      have hrest2:Hid (Jf ws K2=Jf (ws.drop (i+1)) {s with get:=true}):=hid (by rw[hstep2.out,if_neg g0,if_neg g1,if_pos g2,hf];rfl)
      have S5:Hid (J1 w0 [] w3 ((b+1+1,Jr (Kt {s with get:=true} 0))::L)):=hid S4
      clear S4 hstep2;go_wp2_with fail;go_roundw
      case rel=>exact⟨i+1,{s with get:=true},rfl,rfl,rfl,hlt,hrest2,hfit,S5⟩
      case measure=>simp[intOf];omega
    by_cases g3:u.toList=[75,69,69,80,84,84,76]
    ·have g3b:(u.toList==[75,69,69,80,84,84,76])=true:=by rw[g3];rfl
     go_wp2_with fail;refine(J3s (v:=s.keep) S3.out rfl).mono ?_
     rintro e2 w3 ⟨rfl,S4⟩;rw[Jiy] at S4;clear S3;cases hf:s.keep with
     |true=>
      have S4':J1 w0 [] w3 ((b+1+1,Jr ⟨s.nx,s.xx,s.get,true,s.ends,0⟩)::L):=S4;replace S4:=S4';have hbad:Hid (T.2=131):=hid (by rw[<-hT.out];exact J1m (by rw[hstep2.out];rw[if_neg g0,if_neg g1,if_neg g2,if_pos g3,hf];rfl))
      obtain⟨q0,q1,q2,q3,q4,q5⟩:=J38 S4.own.head
      obtain⟨⟨c0,hc0⟩,⟨c1,hc1⟩,⟨c2,hc2⟩,⟨c3,hc3⟩,⟨c4,hc4⟩,⟨c5,hc5⟩,fz,hltb⟩:=Jl (hres.out _ _ S4)
      have S9:=hid (hfin.out _ _ S4 (⟨s.nx,s.xx,s.get,true,s.ends,0⟩));clear S4 hstep2;simp only[Kt] at q0 q1 q2 q3 q4 q5 S9;go_wp2_with fail;refine bodyPost_ret (v:=.tuple #[Ku (⟨s.nx,s.xx,s.get,true,s.ends,0⟩),.int .i64 131]) (by simp[results,Tryz.results144,go_sem,Ku, *]<;>rfl) rfl ?_
      exact⟨⟨s.nx,s.xx,s.get,true,s.ends,0⟩,by rw[hbad.out],fun h=>absurd (hbad.out.symm.trans h) (by decide),S9.out⟩
     |false=>
      have hrest2:Hid (Jf ws K2=Jf (ws.drop (i+1)) {s with keep:=true}):=hid (by rw[hstep2.out,if_neg g0,if_neg g1,if_neg g2,if_pos g3,hf];rfl)
      have S5:Hid (J1 w0 [] w3 ((b+1+1,Jr (Kt {s with keep:=true} 0))::L)):=hid S4
      clear S4 hstep2;go_wp2_with fail;go_roundw
      case rel=>exact⟨i+1,{s with keep:=true},rfl,rfl,rfl,hlt,hrest2,hfit,S5⟩
      case measure=>simp[intOf];omega
    by_cases g4:u.toList=[69,88]
    ·have g4b:(u.toList==[69,88])=true:=by rw[g4];rfl
     by_cases hi1':i+2<=n
     ·have hi1:(i:Int)+1<(n:Int):=by omega
      obtain⟨v,hv⟩:∃v,ws[i+1]? =some v:=⟨ws[i+1]'(by rw[hn.out];omega),List.getElem?_eq_getElem _⟩
      have hdrop1:ws.drop (i+1)=v::ws.drop (i+1+1):=by
       rw[List.drop_eq_getElem_cons (by rw[hn.out];omega)]
       rw[(List.getElem?_eq_some_iff.1 hv).2]
      rw[hdrop1] at hstep2;have hvs:=hid (hws.out v (List.mem_of_getElem? hv));clear hdrop1;go_wp2_with fail;refine(J3s (v:=s.ends) S3.out rfl).mono ?_
      rintro e2 w3 ⟨rfl,S4⟩;rw[Jdm] at S4;have jv:=(hin.out w3 _ S4).2 (i+1) v hv;replace hv:=hid hv;clear S3;cases hf:s.ends with
      |true=>
       have S4':J1 w0 [] w3 ((b+1+1,Jr ⟨s.nx,s.xx,s.get,s.keep,true,0⟩)::L):=S4;replace S4:=S4';have hbad:Hid (T.2=131):=hid (by rw[<-hT.out];exact J1m (by rw[hstep2.out];rw[if_neg g0,if_neg g1,if_neg g2,if_neg g3,if_pos (Or.inl g4)];simp only[hf];rfl))
       obtain⟨q0,q1,q2,q3,q4,q5⟩:=J38 S4.own.head
       obtain⟨⟨c0,hc0⟩,⟨c1,hc1⟩,⟨c2,hc2⟩,⟨c3,hc3⟩,⟨c4,hc4⟩,⟨c5,hc5⟩,fz,hltb⟩:=Jl (hres.out _ _ S4)
       have S9:=hid (hfin.out _ _ S4 (⟨s.nx,s.xx,s.get,s.keep,true,0⟩));clear S4 S4' hstep2;simp only[Kt] at q0 q1 q2 q3 q4 q5 S9;go_wp2_with fail;refine bodyPost_ret (v:=.tuple #[Ku (⟨s.nx,s.xx,s.get,s.keep,true,0⟩),.int .i64 131]) (by simp[results,Tryz.results144,go_sem,Ku, *]<;>rfl) rfl ?_
       exact⟨⟨s.nx,s.xx,s.get,s.keep,true,0⟩,by rw[hbad.out],fun h=>absurd (hbad.out.symm.trans h) (by decide),S9.out⟩
      |false=>
       have hrest2:Hid (Jf ws K2=Jf (ws.drop (i+2)) {s with ends:=true,unit:=1000,n:=v}):=hid (by rw[hstep2.out,if_neg g0,if_neg g1,if_neg g2,if_neg g3,if_pos (Or.inl g4)];simp only[hf];simp[g4])
       have S5:Hid (J1 w0 [] w3 ((b+1+1,Jr (Kt {s with ends:=true,unit:=1000,n:=v} 0))::L)):=hid S4
       clear S4 hstep2;go_wp2_with fail;go_roundw
       case rel=>exact⟨i+2,{s with ends:=true,unit:=1000,n:=v},rfl,rfl,rfl,hi1',hrest2,hid ⟨hvs.out,fun _=>.inr rfl⟩,S5⟩
       case measure=>simp[intOf];omega
     ·have hi1:¬(i:Int)+1<(n:Int):=by omega
      have hdrop1:ws.drop (i+1)=[]:=List.drop_eq_nil_iff.2 (by rw[hn.out];omega)
      rw[hdrop1] at hstep2;have S4:=S3.out;clear hdrop1 S3;have hbad:Hid (T.2=131):=hid (by rw[<-hT.out];exact J1m (by rw[hstep2.out];rw[if_neg g0,if_neg g1,if_neg g2,if_neg g3,if_pos (Or.inl g4)]))
      obtain⟨q0,q1,q2,q3,q4,q5⟩:=J38 S4.own.head
      obtain⟨⟨c0,hc0⟩,⟨c1,hc1⟩,⟨c2,hc2⟩,⟨c3,hc3⟩,⟨c4,hc4⟩,⟨c5,hc5⟩,fz,hltb⟩:=Jl (hres.out _ _ S4)
      have S9:=hid (hfin.out _ _ S4 (⟨s.nx,s.xx,s.get,s.keep,s.ends,0⟩));clear S4 hstep2;simp only[Kt] at q0 q1 q2 q3 q4 q5 S9;go_wp2_with fail;refine bodyPost_ret (v:=.tuple #[Ku (⟨s.nx,s.xx,s.get,s.keep,s.ends,0⟩),.int .i64 131]) (by simp[results,Tryz.results144,go_sem,Ku, *]<;>rfl) rfl ?_
      exact⟨⟨s.nx,s.xx,s.get,s.keep,s.ends,0⟩,by rw[hbad.out],fun h=>absurd (hbad.out.symm.trans h) (by decide),S9.out⟩
    by_cases g5:u.toList=[80,88]
    ·have g5b:(u.toList==[80,88])=true:=by rw[g5];rfl
     by_cases hi1':i+2<=n
     ·have hi1:(i:Int)+1<(n:Int):=by omega
      obtain⟨v,hv⟩:∃v,ws[i+1]? =some v:=⟨ws[i+1]'(by rw[hn.out];omega),List.getElem?_eq_getElem _⟩
      have hdrop1:ws.drop (i+1)=v::ws.drop (i+1+1):=by
       rw[List.drop_eq_getElem_cons (by rw[hn.out];omega)]
       rw[(List.getElem?_eq_some_iff.1 hv).2]
      rw[hdrop1] at hstep2;have hvs:=hid (hws.out v (List.mem_of_getElem? hv));clear hdrop1;go_wp2_with fail;refine(J3s (v:=s.ends) S3.out rfl).mono ?_
      rintro e2 w3 ⟨rfl,S4⟩;rw[Jdm] at S4;have jv:=(hin.out w3 _ S4).2 (i+1) v hv;replace hv:=hid hv;clear S3;cases hf:s.ends with
      |true=>
       have S4':J1 w0 [] w3 ((b+1+1,Jr ⟨s.nx,s.xx,s.get,s.keep,true,0⟩)::L):=S4;replace S4:=S4';have hbad:Hid (T.2=131):=hid (by rw[<-hT.out];exact J1m (by rw[hstep2.out];rw[if_neg g0,if_neg g1,if_neg g2,if_neg g3,if_pos (Or.inr g5)];simp only[hf];rfl))
       obtain⟨q0,q1,q2,q3,q4,q5⟩:=J38 S4.own.head
       obtain⟨⟨c0,hc0⟩,⟨c1,hc1⟩,⟨c2,hc2⟩,⟨c3,hc3⟩,⟨c4,hc4⟩,⟨c5,hc5⟩,fz,hltb⟩:=Jl (hres.out _ _ S4)
       have S9:=hid (hfin.out _ _ S4 (⟨s.nx,s.xx,s.get,s.keep,true,0⟩));clear S4 S4' hstep2;simp only[Kt] at q0 q1 q2 q3 q4 q5 S9;go_wp2_with fail;refine bodyPost_ret (v:=.tuple #[Ku (⟨s.nx,s.xx,s.get,s.keep,true,0⟩),.int .i64 131]) (by simp[results,Tryz.results144,go_sem,Ku, *]<;>rfl) rfl ?_
       exact⟨⟨s.nx,s.xx,s.get,s.keep,true,0⟩,by rw[hbad.out],fun h=>absurd (hbad.out.symm.trans h) (by decide),S9.out⟩
      |false=>
       have hrest2:Hid (Jf ws K2=Jf (ws.drop (i+2)) {s with ends:=true,unit:=1,n:=v}):=hid (by rw[hstep2.out,if_neg g0,if_neg g1,if_neg g2,if_neg g3,if_pos (Or.inr g5)];simp only[hf];simp[g4])
       have S5:Hid (J1 w0 [] w3 ((b+1+1,Jr (Kt {s with ends:=true,unit:=1,n:=v} 0))::L)):=hid S4
       clear S4 hstep2;go_wp2_with fail;go_roundw
       case rel=>exact⟨i+2,{s with ends:=true,unit:=1,n:=v},rfl,rfl,rfl,hi1',hrest2,hid ⟨hvs.out,fun _=>.inl rfl⟩,S5⟩
       case measure=>simp[intOf];omega
     ·have hi1:¬(i:Int)+1<(n:Int):=by omega
      have hdrop1:ws.drop (i+1)=[]:=List.drop_eq_nil_iff.2 (by rw[hn.out];omega)
      rw[hdrop1] at hstep2;have S4:=S3.out;clear hdrop1 S3;have hbad:Hid (T.2=131):=hid (by rw[<-hT.out];exact J1m (by rw[hstep2.out];rw[if_neg g0,if_neg g1,if_neg g2,if_neg g3,if_pos (Or.inr g5)]))
      obtain⟨q0,q1,q2,q3,q4,q5⟩:=J38 S4.own.head
      obtain⟨⟨c0,hc0⟩,⟨c1,hc1⟩,⟨c2,hc2⟩,⟨c3,hc3⟩,⟨c4,hc4⟩,⟨c5,hc5⟩,fz,hltb⟩:=Jl (hres.out _ _ S4)
      have S9:=hid (hfin.out _ _ S4 (⟨s.nx,s.xx,s.get,s.keep,s.ends,0⟩));clear S4 hstep2;simp only[Kt] at q0 q1 q2 q3 q4 q5 S9;go_wp2_with fail;refine bodyPost_ret (v:=.tuple #[Ku (⟨s.nx,s.xx,s.get,s.keep,s.ends,0⟩),.int .i64 131]) (by simp[results,Tryz.results144,go_sem,Ku, *]<;>rfl) rfl ?_
      exact⟨⟨s.nx,s.xx,s.get,s.keep,s.ends,0⟩,by rw[hbad.out],fun h=>absurd (hbad.out.symm.trans h) (by decide),S9.out⟩
    have S4:=S3.out;have g0f:(u.toList==[78,88])=false:=by simpa using g0
    have g1f:(u.toList==[88,88])=false:=by simpa using g1
    have g2f:(u.toList==[71,69,84])=false:=by simpa using g2
    have g3f:(u.toList==[75,69,69,80,84,84,76])=false:=by simpa using g3
    have g4f:(u.toList==[69,88])=false:=by simpa using g4
    have g5f:(u.toList==[80,88])=false:=by simpa using g5
    clear S3;have hbad:Hid (T.2=131):=hid (by rw[<-hT.out];exact J1m (by rw[hstep2.out];rw[if_neg g0,if_neg g1,if_neg g2,if_neg g3,if_neg (by simp only[g4,g5,or_self,not_false_eq_true])]))
    obtain⟨q0,q1,q2,q3,q4,q5⟩:=J38 S4.own.head
    obtain⟨⟨c0,hc0⟩,⟨c1,hc1⟩,⟨c2,hc2⟩,⟨c3,hc3⟩,⟨c4,hc4⟩,⟨c5,hc5⟩,fz,hltb⟩:=Jl (hres.out _ _ S4)
    have S9:=hid (hfin.out _ _ S4 (⟨s.nx,s.xx,s.get,s.keep,s.ends,0⟩));clear S4 hstep2;simp only[Kt] at q0 q1 q2 q3 q4 q5 S9;go_wp2_with fail;refine bodyPost_ret (v:=.tuple #[Ku (⟨s.nx,s.xx,s.get,s.keep,s.ends,0⟩),.int .i64 131]) (by simp[results,Tryz.results144,go_sem,Ku, *]<;>rfl) rfl ?_
    exact⟨⟨s.nx,s.xx,s.get,s.keep,s.ends,0⟩,by rw[hbad.out],fun h=>absurd (hbad.out.symm.trans h) (by decide),S9.out⟩
   ·obtain rfl:i=n:=by omega
    have hT2:Hid (T=(if(s.nx&&s.xx)||(s.keep&&s.ends) then(Kt s 0,131) else
     if s.ends=false then(Kt s 0,0) else
     match J2n s.n with
     |none=>(Kt s 0,11)
     |some x=>if x<1 then(Kt s 0,11) else(Kt s (K0 now x s.unit).1,(K0 now x s.unit).2))):=hid (by
     have h0:ws.drop i=[]:=List.drop_eq_nil_iff.2 (by rw[hn.out];omega)
     have h1:=hrest.out;rw[h0] at h1;rw[<-hT.out];exact Jjm h1)
    obtain⟨q0,q1,q2,q3,q4,q5⟩:=J38 S2.out.own.head
    have qf:=fun j=>J6 S2.out.own.head j
    have ql:=Jc S2.out.own.head;obtain⟨⟨c0,hc0⟩,⟨c1,hc1⟩,⟨c2,hc2⟩,⟨c3,hc3⟩,⟨c4,hc4⟩,⟨c5,hc5⟩,fz,hltb⟩:=Jl (hres.out _ _ S2.out)
    simp only[Kt] at q0 q1 q2 q3 q4 q5;clear hrest hT;obtain⟨nx,xx,get,keep,ends,unit,sn⟩:=s
    simp only at q0 q1 q2 q3 q4 q5 hT2 hfit
    go_upto_region 26 with fail;go_cut [87] (fun c wx=>c= .bool ((nx&&xx)||(keep&&ends))/\wx=wr)
    case first=>
     cases nx<;>cases xx<;>cases keep<;>cases ends<;>(go_wp2_with fail;go_meet;exact⟨rfl,rfl⟩)
    case rest=>
     obtain⟨rfl,rfl⟩:=hcut
     generalize hbb:((nx&&xx)||(keep&&ends))=bb at hT2⊢
     replace hbb:=hid hbb;cases bb with
     |true=>
      have hbad:Hid (T.2=131):=hid (by rw[hT2.out];rfl)
      have S9:=hid (hfin.out _ _ S2.out ⟨nx,xx,get,keep,ends,0⟩);clear hT2 S2;go_wp2_with fail;refine bodyPost_ret (v:=.tuple #[Ku ⟨nx,xx,get,keep,ends,0⟩,.int .i64 131]) (by simp[results,Tryz.results144,go_sem,Ku, *]<;>rfl) rfl ?_
      exact⟨⟨nx,xx,get,keep,ends,0⟩,by rw[hbad.out],fun h=>absurd (hbad.out.symm.trans h) (by decide),S9.out⟩
     |false=>
      cases ends with
      |false=>
       have hz:Hid (T=(⟨nx,xx,get,keep,false,0⟩,0)):=hid (by rw[hT2.out];rfl)
       have S9:=hid (hfin.out _ _ S2.out ⟨nx,xx,get,keep,false,0⟩);clear hT2 S2;go_wp2_with fail;refine bodyPost_ret (v:=.tuple #[Ku ⟨nx,xx,get,keep,false,0⟩,.int .i64 0]) (by simp[results,Tryz.results144,go_sem,Ku, *]<;>rfl) rfl ?_
       exact⟨⟨nx,xx,get,keep,false,0⟩,by rw[hz.out],fun _=>by rw[hz.out],S9.out⟩
      |true=>
       have hunit:=hid (hfit.out.2 rfl);have hpar:=hid (J64 S2.out hgl.out sn hfit.out.1);clear hc0 hc1 hc2 hc3 hc4 hc5 fz hltb q0 q1 q2 q3 q5 qf ql;cases hw:J2n sn with
       |none=>
        have hbad:Hid (T.2=11):=hid (by rw[hT2.out,hw];rfl)
        rw[hw] at hpar;have e1:J9z none=11:=rfl;rw[e1,Option.getD_none] at hpar;clear hT2 S2 e1 hw;go_wp2_with fail;refine hpar.out.mono ?_;rintro e2 w3 ⟨rfl,S4⟩;obtain⟨q0,q1,q2,q3,q4,q5⟩:=J38 S4.own.head
        obtain⟨⟨c0,hc0⟩,⟨c1,hc1⟩,⟨c2,hc2⟩,⟨c3,hc3⟩,⟨c4,hc4⟩,⟨c5,hc5⟩,fz,hltb⟩:=Jl (hres.out _ _ S4)
        have S9:=hid (hfin.out _ _ S4 ⟨nx,xx,get,keep,true,0⟩);clear S4 hpar;simp only[Kt] at q0 q1 q2 q3 q4 q5;go_wp2_with fail;refine bodyPost_ret (v:=.tuple #[Ku ⟨nx,xx,get,keep,true,0⟩,.int .i64 11]) (by simp[results,Tryz.results144,go_sem,Ku, *]<;>rfl) rfl ?_
        exact⟨⟨nx,xx,get,keep,true,0⟩,by rw[hbad.out],fun h=>absurd (hbad.out.symm.trans h) (by decide),S9.out⟩
       |some x=>
        obtain⟨hx1,hx2⟩:=J82 hw
        rw[hw] at hpar hT2;have e1:J9z (some x)=0:=rfl;rw[e1,Option.getD_some] at hpar;clear S2 e1 hw;by_cases hx3:x<1
        ·have hbad:Hid (T.2=11):=hid (by rw[hT2.out];simp only[hx3,if_true];rfl)
         clear hT2;go_wp2_with fail;refine hpar.out.mono ?_;rintro e2 w3 ⟨rfl,S4⟩;obtain⟨q0,q1,q2,q3,q4,q5⟩:=J38 S4.own.head
         obtain⟨⟨c0,hc0⟩,⟨c1,hc1⟩,⟨c2,hc2⟩,⟨c3,hc3⟩,⟨c4,hc4⟩,⟨c5,hc5⟩,fz,hltb⟩:=Jl (hres.out _ _ S4)
         have S9:=hid (hfin.out _ _ S4 ⟨nx,xx,get,keep,true,0⟩);clear S4 hpar;simp only[Kt] at q0 q1 q2 q3 q4 q5;go_wp2_with fail;refine bodyPost_ret (v:=.tuple #[Ku ⟨nx,xx,get,keep,true,0⟩,.int .i64 11]) (by simp[results,Tryz.results144,go_sem,Ku, *]<;>rfl) rfl ?_
         exact⟨⟨nx,xx,get,keep,true,0⟩,by rw[hbad.out],fun h=>absurd (hbad.out.symm.trans h) (by decide),S9.out⟩
        ·have hz:Hid (T=(⟨nx,xx,get,keep,true,(K0 now x unit).1⟩,(K0 now x unit).2)):=hid (by rw[hT2.out];simp only[hx3,if_false];rfl)
         have hwhen:∀w',Hid (Calls Tryz.prog 169 #[.int .i64 now,.int .i64 x,.int .i64 unit] w' fun e w''=>e= .returned (.tuple #[.int .i64 (K0 now x unit).1,.int .i64 (K0 now x unit).2])/\w'=w''):=fun w'=>hid (by
          rcases hunit.out with rfl|rfl
          ·exact Jk5 now x w' (by omega) ⟨hx1,hx2⟩
          ·exact Jb9 now x w' (by omega) ⟨hx1,hx2⟩)
         generalize K0 now x unit=tw at hz hwhen;obtain⟨tm,te⟩:=tw
         simp only at hz hwhen
         clear hT2 hunit hfit;go_wp2_with fail;refine hpar.out.mono ?_;rintro e2 w3 ⟨rfl,S4⟩;obtain⟨j0,j1,j2⟩:=(hin.out _ _ S4).1
         have S5:=hid S4;clear hpar S4;go_wp2_with fail;refine(hwhen _).out.mono ?_
         rintro e2 w4 ⟨rfl,rfl⟩;obtain⟨q0,q1,q2,q3,q4,q5⟩:=J38 S5.out.own.head
         have qf:=fun j=>J6 S5.out.own.head j
         have ql:=Jc S5.out.own.head;obtain⟨⟨c0,hc0⟩,⟨c1,hc1⟩,⟨c2,hc2⟩,⟨c3,hc3⟩,⟨c4,hc4⟩,⟨c5,hc5⟩,fz,hltb⟩:=Jl (hres.out _ _ S5.out)
         have S6:J1 w0 [] _ ((b+1+1,Jr ⟨nx,xx,get,keep,true,tm⟩)::L):=S5.out.set 5 (.int .i64 tm);have S9:=hid (hfin.out _ _ S6 ⟨nx,xx,get,keep,true,tm⟩);clear S5 S6 j0 j1 j2 hwhen;simp only[Kt] at q0 q1 q2 q3 q4 q5;go_wp2_with fail;refine bodyPost_ret (v:=.tuple #[Ku ⟨nx,xx,get,keep,true,tm⟩,.int .i64 te]) (by simp[results,Tryz.results144,go_sem,Ku, *]<;>rfl) rfl ?_
         exact⟨⟨nx,xx,get,keep,true,tm⟩,by rw[hz.out],fun _=>by rw[hz.out],S9.out⟩
end Go.Proofs.YtefjbegnlolgbaaGreatDoor
