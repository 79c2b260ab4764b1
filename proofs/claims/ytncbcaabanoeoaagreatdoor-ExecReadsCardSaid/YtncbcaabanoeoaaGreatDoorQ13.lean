/-
Slices of bytes that are owned, as lists of bytes: append, and the text of them.
-/
import Derived.Deep.CutBlock
import Derived.Deep.DeepCutAuto
import Derived.Test.YtncbcaabanoeoaaGreatDoorQ01
import Derived.Test.YtncbcaabanoeoaaGreatDoorQ05
set_option linter.unusedVariables false
set_option linter.unusedSimpArgs false
set_option maxRecDepth 100000
set_option maxHeartbeats 8000000
namespace Go.Proofs.YtncbcaabanoeoaaGreatDoor
open Go Go.RowKit
variable {v s:Value}{l:List UInt8}{sl r:Hp}{w0 w:World}{b:Nat}{cs:Array Value}{T:TypeId}
abbrev bv (b:UInt8):Value:=.int .u8 (b.toNat:Int)
def Bsl (v:Value) (l:List UInt8) (sl:Hp):Prop:=SliceHp 1 5 v l.length (l.map bv) sl
theorem Jxr:(Tryz.prog.info? 5).map (fun i=>(i.zero,i.size,i.bytes))=some (some (.int .u8 0),1,1):=by kernel_rfl
theorem Bsl.shape (h:Bsl v l sl):∃a c,v= .slice a l.length c:=by
 unfold Bsl at h;generalize hn:l.length=n at h;generalize hx:l.map bv=xs at h;cases h with
 |nil=>exact⟨none,0,rfl⟩
 |laid g n cap xs rest hx hr hn hc=>exact⟨_,cap,rfl⟩
theorem Jzl (hS:J3 w0 [] w (sl++r)) (h:Bsl v l sl) (ns:List UInt8) (vals:Array Value) (hv:vals.toList=ns.map bv) (k:Nat) (hk:k=ns.length) (h1:0<k) (hl:l.length+k<=1000000) (ty:TypeId):
 ∃a c w' sl',(Builtin.append_ #[129,129] ty #[v,.slice (some ⟨w.heap.size,0,none⟩) k k]).run Tryz.prog (w.alloc (.cells vals 5))= .ok (.slice a (l++ns).length c) w'/\Bsl (.slice a (l++ns).length c) (l++ns) sl'/\J3 w0 [] w' (sl'++r):=by
 have S1:J3 w0 [] (w.alloc (.cells vals 5)) (sl++((w.heap.size,.cells vals 5 (0,0))::r)):=(hS.alloc (.cells vals 5)).permR List.perm_middle.symm;have hb:=S1.own.right.head;obtain⟨v',w',sl',hrun,hsl,S2,_⟩:=J1f (P:=Tryz.prog) (ty:=ty) (t:=129) (t2:=129) (e:=5) (e2:=5) Tryz.underlying129 Tryz.underlying129 Jxr rfl (by decide) S1 h ⟨w.heap.size,0,none⟩ k k (ns.map bv) (by simp[hk]) (fun j u hu=>by
  have hadd:(⟨w.heap.size,0,none⟩:Addr).add j=⟨w.heap.size,j,none⟩:=by unfold Addr.add;split<;>simp_all
  rw[hadd,J2 hb,<-Array.getElem?_toList,hv];exact hu) (fun u hu=>by
  simp only[List.mem_map] at hu;obtain⟨x,_,rfl⟩:=hu
  rfl) h1 (by omega) (by unfold maxLen;omega)
 have hB:Bsl v' (l++ns) sl':=by
  unfold Bsl;rw[List.length_append,List.map_append,<-hk];exact hsl
 obtain⟨a,c,rfl⟩:=hB.shape
 exact⟨a,c,w',sl',hrun,hB,(S2.permR (l2:=(w.heap.size,.cells vals 5 (0,0))::(sl'++r)) List.perm_middle).less (List.sublist_cons_self _ _)⟩
theorem Jsh (hS:J3 w0 [] w (sl++r)) (h:Bsl v l sl) (hb:w.heap[b]? =some (.cells cs T (0,0))) (off cap:Nat) (ns:List UInt8) (hv:∀j x,ns[j]? =some x->cs[off+j]? =some (bv x)) (k:Nat) (hk:k=ns.length) (h1:0<k) (hl:l.length+k<=1000000) (ty:TypeId):
 ∃a c w' sl',(Builtin.append_ #[129,129] ty #[v,.slice (some ⟨b,off,none⟩) k cap]).run Tryz.prog w= .ok (.slice a (l++ns).length c) w'/\Bsl (.slice a (l++ns).length c) (l++ns) sl'/\J3 w0 [] w' (sl'++r):=by
 obtain⟨v',w',sl',hrun,hsl,S2,_⟩:=J1f (P:=Tryz.prog) (ty:=ty) (t:=129) (t2:=129) (e:=5) (e2:=5) Tryz.underlying129 Tryz.underlying129 Jxr rfl (by decide) hS h ⟨b,off,none⟩ k cap (ns.map bv) (by simp[hk]) (fun j u hu=>by
  have hadd:(⟨b,off,none⟩:Addr).add j=⟨b,off+j,none⟩:=by unfold Addr.add;split<;>simp_all
  rw[List.getElem?_map] at hu;cases hn:ns[j]? with
  |none=>rw[hn] at hu;simp at hu
  |some x=>
   rw[hn] at hu;simp only[Option.map_some,Option.some.injEq] at hu;rw[hadd,J2 hb,hv j x hn,hu]) (fun u hu=>by
    simp only[List.mem_map] at hu;obtain⟨x,_,rfl⟩:=hu
    rfl) h1 (by omega) (by unfold maxLen;omega)
 have hB:Bsl v' (l++ns) sl':=by
  unfold Bsl;rw[List.length_append,List.map_append,<-hk];exact hsl
 obtain⟨a,c,rfl⟩:=hB.shape
 exact⟨a,c,w',sl',hrun,hB,S2⟩
def J1b (neg:Bool):List UInt8:=if neg then [45] else []
def Jab (x:Int):List UInt8:=(if x<0 then 45 else 43)::(if x.natAbs<10 then [48,UInt8.ofNat (48+x.natAbs)] else if x.natAbs<100 then [UInt8.ofNat (48+x.natAbs/10),UInt8.ofNat (48+x.natAbs%10)] else [UInt8.ofNat (48+x.natAbs/100),UInt8.ofNat (48+x.natAbs/10%10),UInt8.ofNat (48+x.natAbs%10)])
def Jho (neg:Bool) (d:UInt8) (ds:List UInt8) (dp:Int):List UInt8:=J1b neg++([d]++((if ds=[] then [] else 46::ds)++([101]++Jab (dp - 1))))
def Jz (w0:World) (r:Hp) (l:List UInt8) (s:Value) (w:World):Prop:=∃a c sl,s= .slice a l.length c/\Bsl s l sl/\J3 w0 [] w (sl++r)
theorem Jz.push (h:Jz w0 r l s w) (ns:List UInt8) (vals:Array Value) (hv:vals.toList=ns.map bv) (k:Nat) (hk:k=ns.length) (h1:0<k) (hl:l.length+k<=1000000) (ty:TypeId):
 ∃v w',(Builtin.append_ #[129,129] ty #[s,.slice (some ⟨w.heap.size,0,none⟩) k k]).run Tryz.prog (w.alloc (.cells vals 5))= .ok v w'/\Jz w0 r (l++ns) v w':=by
 obtain⟨a,c,sl,rfl,hb,hS⟩:=h
 obtain⟨a',c',w',sl',hrun,hb',hS'⟩:=Jzl hS hb ns vals hv k hk h1 hl ty
 exact⟨_,w',hrun,a',c',sl',rfl,hb',hS'⟩
theorem Jz.push_at (h:Jz w0 r l s w) (hb:w.heap[b]? =some (.cells cs T (0,0))) (off cap:Nat) (ns:List UInt8) (hv:∀(j:Nat) (x:UInt8),ns[j]? =some x->cs[off+j]? =some (bv x)) (k:Nat) (hk:k=ns.length) (h1:0<k) (hl:l.length+k<=1000000) (ty:TypeId):
 ∃v w',(Builtin.append_ #[129,129] ty #[s,.slice (some ⟨b,off,none⟩) k cap]).run Tryz.prog w= .ok v w'/\Jz w0 r (l++ns) v w':=by
 obtain⟨a,c,sl,rfl,hbs,hS⟩:=h
 obtain⟨a',c',w',sl',hrun,hb',hS'⟩:=Jsh hS hbs hb off cap ns hv k hk h1 hl ty
 exact⟨_,w',hrun,a',c',sl',rfl,hb',hS'⟩
theorem Jz.len (h:Jz w0 r l s w):∃a c,s= .slice a l.length c:=by
 obtain⟨a,c,sl,rfl,_,_⟩:=h;exact⟨a,c,rfl⟩
theorem Jz.in_ (h:Jz w0 r l s w) {p:Nat×Obj} (hp:p∈r):w.heap[p.1]? =some p.2:=by
 obtain⟨a,c,sl,rfl,_,hS⟩:=h;exact hS.own.right.at_ _ hp
def J1m (w0:World) (r:Hp) (l:List UInt8) (e:Ending) (w':World):Prop:=∃v,e= .returned v/\Jz w0 r l v w'
theorem J96 (n:Nat) (h:n<=9):bv (UInt8.ofNat (48+n))= .int .u8 ((n:Int)+48):=by
 have:(UInt8.ofNat (48+n)).toNat=48+n:=by simp;omega
 show Value.int .u8 ((UInt8.ofNat (48+n)).toNat:Int)=_
 rw[this];congr 1;omega
theorem Jsy (neg:Bool) (d:UInt8) (ds:List UInt8) (k:Nat) (dp:Int) (h:Jz w0 r [] s w) (hr:(b,Obj.cells cs T (0,0))∈r) (hk:k=ds.length) (hk2:k<=30)
 (hcs:∀(j:Nat) (x:UInt8),(d::ds)[j]? =some x->cs[j]? =some (bv x)) (hx0: -900<=dp - 1) (hx1:dp - 1<=900):
  Calls Tryz.prog 267 #[s,.bool neg,.slice (some ⟨b,0,none⟩) 32 32,.int .i64 dp,.int .i64 ((k:Int)+1),.int .i64 k,.int .u8 101,.bool true] w (J1m w0 r (Jho neg d ds dp)):=by
  obtain⟨L,hL⟩:∃L,L=Jho neg d ds dp:=⟨_,rfl⟩
  rw[<-hL];replace hL:=hid hL;obtain⟨x,hx⟩:∃x,x=dp - 1:=⟨_,rfl⟩
  rw[<-hx] at hx0 hx1;replace h:=hid h;replace hcs:=hid hcs;replace hr:=hid hr;replace hk:=hid hk;have hxr:dp - 1=x:=hx.symm;replace hx:=hid hx;go_enter Tryz.func267,Tryz.ntmps267;go_upto_if 78 with fail;go_cut [0] (fun s0 wc=>∃v,s0=v/\Jz w0 r (J1b neg) v wc)
  case first=>
   cases neg with
   |true=>
    obtain⟨v1,w1,hrun,h1⟩:=h.out.push [45] #[.int .u8 45] rfl 1 rfl (by decide) (by decide) 129
    replace hrun:=hid hrun;replace h1:=hid h1;go_wp2_with (at_builtin;refine J8 rfl _ _ _ _ rfl _ _ rfl rfl hrun.out ?_);go_meet
    exact⟨_,rfl,h1.out⟩
   |false=>
    go_wp2_with fail;go_meet
    exact⟨_,rfl,h.out⟩
  case rest=>
   obtain⟨v1,rfl,h1⟩:=hcut
   clear h;have c0:wc.cell? ⟨b,0,none⟩=some (.int .u8 (d.toNat:Int)):=by rw[J2 (h1.in_ hr.out) 0];exact hcs.out 0 d rfl
   obtain⟨v2,w2,hrun,h2⟩:=h1.push [d] #[.int .u8 (d.toNat:Int)] rfl 1 rfl (by decide) (by cases neg<;>decide) 129
   replace hrun:=hid hrun;replace h2:=hid h2;clear h1;go_upto_if 92 with (at_builtin;refine J8 rfl _ _ _ _ rfl _ _ rfl rfl hrun.out ?_)
   clear hrun c0;have hnl:(J1b neg).length<=1:=by cases neg<;>decide
   go_cut [0] (fun s0 wc=>∃v,s0=v/\Jz w0 r (J1b neg++[d]++if ds=[] then [] else 46::ds) v wc)
   case first=>
    by_cases hz:ds=[]
    ·subst hz
     obtain rfl:k=0:=hk.out;go_wp2_with fail;go_meet
     exact⟨_,rfl,by simpa using h2.out⟩
    ·have hk0:0<k:=by rw[hk.out];exact List.length_pos_iff.2 hz
     have hk1:(0:Int)<k:=by omega
     obtain⟨v3,w3,hrun3,h3⟩:=h2.out.push [46] #[.int .u8 46] rfl 1 rfl (by decide) (by simp only[List.length_append,List.length_cons,List.length_nil];omega) 129
     obtain⟨v4,w4,hrun4,h4⟩:=h3.push_at (h3.in_ hr.out) 1 31 ds (fun j x hj=>by
      have:=hcs.out (j+1) x (by simpa using hj)
      rwa[Nat.add_comm] at this) k hk.out hk0 (by simp only[List.length_append,List.length_cons,List.length_nil];omega) 129
     replace hrun3:=hid hrun3;replace hrun4:=hid hrun4;replace h4:=hid h4;replace hz:=hid hz;clear h2 h3;go_upto_region 31 with (at_builtin;refine J8 rfl _ _ _ _ rfl _ _ rfl rfl hrun3.out ?_)
     clear hrun3;go_wp2_with (at_builtin;refine J8 rfl _ _ _ _ rfl _ _ rfl rfl hrun4.out ?_);refine wp_loop_rounds 1 ?_;rw[rounds_succ];go_wp2_with fail;go_meet
     refine⟨_,rfl,?_⟩
     have h5:=h4.out;rw[if_neg hz.out];simpa using h5
   case rest=>
    obtain⟨v3,rfl,h3⟩:=hcut
    clear h2;obtain⟨M,hM⟩:∃M,M=(if ds=[] then [] else 46::ds):=⟨_,rfl⟩
    have hMl:M.length<=31:=by rw[hM];have:=hk.out;split<;>simp<;>omega
    rw[<-hM] at h3;have hL2:L=J1b neg++([d]++(M++([101]++Jab x))):=by rw[hL.out,Jho,<-hM,hx.out]
    clear hM;replace hL2:=hid hL2;obtain⟨v4,w4,hrun4,h4⟩:=h3.push [101] #[.int .u8 101] rfl 1 rfl (by decide) (by simp only[List.length_append,List.length_cons,List.length_nil];omega) 129
    replace hrun4:=hid hrun4;replace h4:=hid h4;clear h3;go_upto_if 129 with (at_builtin;refine J8 rfl _ _ _ _ rfl _ _ rfl rfl hrun4.out ?_)
    clear hrun4;go_cut [19,22] (fun s19 s22 wc=>s19= .int .u8 (if x<0 then 45 else 43)/\s22= .int .i64 (x.natAbs:Int)/\wc=w4)
    case first=>
     by_cases hneg:x<0
     ·have hab: -x=(x.natAbs:Int):=by omega
      replace hab:=hid hab;go_wp2_with fail;go_meet
      rw[hab.out];exact⟨by rw[if_pos hneg],rfl,rfl⟩
     ·have hab:x=(x.natAbs:Int):=by omega
      replace hab:=hid hab;go_wp2_with fail;go_meet
      refine⟨by rw[if_neg (by omega)],?_,rfl⟩
      congr 1
    case rest=>
     obtain⟨rfl,rfl,rfl⟩:=hcut
     obtain⟨y,hy⟩:∃y,y=x.natAbs:=⟨_,rfl⟩
     have hy9:y<=900:=by omega
     obtain⟨cc,hcc⟩:∃cc:UInt8,cc=(if x<0 then 45 else 43):=⟨_,rfl⟩
     have hcv:(if x<0 then(45:Int) else 43)=(cc.toNat:Int):=by rw[hcc];split<;>rfl
     rw[<-hy,hcv];have hL3:L=J1b neg++([d]++(M++([101]++(cc::(if y<10 then [48,UInt8.ofNat (48+y)] else if y<100 then [UInt8.ofNat (48+y/10),UInt8.ofNat (48+y%10)] else [UInt8.ofNat (48+y/100),UInt8.ofNat (48+y/10%10),UInt8.ofNat (48+y%10)]))))):=by
      rw[hL2.out,Jab,<-hy,<-hcc]
     replace hy:=hid hy;replace hcc:=hid hcc;clear hcv hL2;obtain⟨v5,w5,hrun5,h5⟩:=h4.out.push [cc] #[.int .u8 (cc.toNat:Int)] rfl 1 rfl (by decide) (by simp only[List.length_append,List.length_cons,List.length_nil];omega) 129
     replace hrun5:=hid hrun5;replace h5:=hid h5;clear h4;by_cases g1:y<10
     ·have g1':(y:Int)<10:=by omega
      rw[if_pos g1] at hL3;replace hL3:=hid hL3;obtain⟨v6,w6,hrun6,h6⟩:=h5.out.push [48,UInt8.ofNat (48+y)] #[.int .u8 48,.int .u8 ((y:Int)+48)] (by rw[List.map_cons,List.map_cons,J96 y (by omega)];rfl) 2 rfl (by decide) (by simp only[List.length_append,List.length_cons,List.length_nil];omega) 129
      replace hrun6:=hid hrun6;replace h6:=hid h6;go_upto_region 48 with (at_builtin;refine J8 rfl _ _ _ _ rfl _ _ rfl rfl hrun5.out ?_)
      clear hrun5 h5;go_wp2_with (at_builtin;refine J8 rfl _ _ _ _ rfl _ _ rfl rfl hrun6.out ?_);go_ret;refine⟨_,rfl,?_⟩
      have h7:=h6.out;rw[hL3.out];simpa using h7
     ·have g1':¬(y:Int)<10:=by omega
      rw[if_neg g1] at hL3;by_cases g2:y<100
      ·have g2':(y:Int)<100:=by omega
       rw[if_pos g2] at hL3;replace hL3:=hid hL3;obtain⟨v6,w6,hrun6,h6⟩:=h5.out.push [UInt8.ofNat (48+y/10),UInt8.ofNat (48+y%10)] #[.int .u8 ((y:Int)/10+48),.int .u8 ((y:Int)%10+48)] (by rw[List.map_cons,List.map_cons,J96 (y/10) (by omega),J96 (y%10) (by omega)];rfl) 2 rfl (by decide) (by simp only[List.length_append,List.length_cons,List.length_nil];omega) 129
       replace hrun6:=hid hrun6;replace h6:=hid h6;go_upto_region 50 with (at_builtin;refine J8 rfl _ _ _ _ rfl _ _ rfl rfl hrun5.out ?_)
       clear hrun5 h5;go_wp2_with (at_builtin;refine J8 rfl _ _ _ _ rfl _ _ rfl rfl hrun6.out ?_);go_ret;refine⟨_,rfl,?_⟩
       have h7:=h6.out;rw[hL3.out];simpa using h7
      ·have g2':¬(y:Int)<100:=by omega
       rw[if_neg g2] at hL3;replace hL3:=hid hL3;obtain⟨v6,w6,hrun6,h6⟩:=h5.out.push [UInt8.ofNat (48+y/100),UInt8.ofNat (48+y/10%10),UInt8.ofNat (48+y%10)] #[.int .u8 ((y:Int)/100+48),.int .u8 ((y:Int)/10%10+48),.int .u8 ((y:Int)%10+48)] (by rw[List.map_cons,List.map_cons,List.map_cons,J96 (y/100) (by omega),J96 (y/10%10) (by omega),J96 (y%10) (by omega)];rfl) 3 rfl (by decide) (by simp only[List.length_append,List.length_cons,List.length_nil];omega) 129
       replace hrun6:=hid hrun6;replace h6:=hid h6;go_upto_region 46 with (at_builtin;refine J8 rfl _ _ _ _ rfl _ _ rfl rfl hrun5.out ?_)
       clear hrun5 h5;go_wp2_with (at_builtin;refine J8 rfl _ _ _ _ rfl _ _ rfl rfl hrun6.out ?_);go_ret;refine⟨_,rfl,?_⟩
       have h7:=h6.out;rw[hL3.out];simpa using h7
def Jyc (ds:List UInt8) (dp:Int):List UInt8:=if 0<dp then ds.take dp.toNat++List.replicate (dp.toNat - ds.length) 48 else [48]
def Jxp (ds:List UInt8) (dp:Int):List UInt8:=if dp<ds.length then 46::(List.replicate (-dp).toNat 48++ds.drop dp.toNat) else []
def Jwc (neg:Bool) (ds:List UInt8) (dp:Int):List UInt8:=J1b neg++(Jyc ds dp++Jxp ds dp)
theorem Jwd (neg:Bool) (ds:List UInt8) (O q:Nat) (h:Jz w0 r [] s w) (hr:(b,Obj.cells cs T (0,0))∈r) (hk:O+q=ds.length) (h1':1<=O) (h2':1<=q) (h3':O+q<=30)
 (hcs:∀(j:Nat) (x:UInt8),ds[j]? =some x->cs[j]? =some (bv x)):
  Calls Tryz.prog 267 #[s,.bool neg,.slice (some ⟨b,0,none⟩) 32 32,.int .i64 (O:Int),.int .i64 ((O:Int)+(q:Int)),.int .i64 (q:Int),.int .u8 102,.bool true] w (J1m w0 r (J1b neg++ds.take O++(46::ds.drop O))):=by
  have hnl:(J1b neg).length<=1:=by cases neg<;>decide
  obtain⟨F,hF⟩:∃F,F=ds.take O:=⟨_,rfl⟩
  obtain⟨G,hG⟩:∃G,G=(46::ds.drop O):=⟨_,rfl⟩
  rw[<-hF,<-hG];have hFl:F.length<=930:=by rw[hF];simp<;>omega
  have z1:(0:Int)<(O:Int):=by omega
  have z3:0<O:=by omega
  have z4:0<q:=by omega
  have z2:(0:Int)<(q:Int):=by omega
  replace h:=hid h;replace hcs:=hid hcs;replace hr:=hid hr;replace hk:=hid hk;replace hF:=hid hF;replace hG:=hid hG;go_enter Tryz.func267,Tryz.ntmps267;go_upto_if 178 with fail;go_cut [0] (fun s0 wc=>∃v,s0=v/\Jz w0 r (J1b neg) v wc)
  case first=>
   cases neg with
   |true=>
    obtain⟨v1,w1,hrun,h1⟩:=h.out.push [45] #[.int .u8 45] rfl 1 rfl (by decide) (by decide) 129
    replace hrun:=hid hrun;replace h1:=hid h1;go_wp2_with (at_builtin;refine J8 rfl _ _ _ _ rfl _ _ rfl rfl hrun.out ?_);go_meet
    exact⟨_,rfl,h1.out⟩
   |false=>
    go_wp2_with fail;go_meet
    exact⟨_,rfl,h.out⟩
  case rest=>
   obtain⟨v1,rfl,h1⟩:=hcut
   clear h;replace h1:=hid h1;go_upto_if 183 with fail;go_cut [0] (fun s0 wc=>∃v,s0=v/\Jz w0 r (J1b neg++F) v wc)
   case first=>
    go_wp2_with fail;go_loopw [0,25,191] (fun s0 sx s1 wr=>∃(j:Nat) (v:Value),s1= .int .i64 j/\s0=v/\j<=O/\Hid (Jz w0 r (J1b neg++ds.take j) v wr)) (fun s0 sx s1 wr=>(O - intOf s1).toNat)
    case atStart=>exact⟨0,_,rfl,rfl,Nat.zero_le _,hid (by simpa using h1.out)⟩
    case round=>
     obtain⟨j,v2,rfl,rfl,hj,h2⟩:=hrel
     clear h1;by_cases hlt:j<O
     ·have hlt2:(j:Int)<(O:Int):=by omega
      have hln:j<ds.length:=by rw[<-hk.out];omega
      have hgx:ds[j]? =some ds[j]:=by rw[List.getElem?_eq_getElem hln]
      generalize ds[j]=x at hgx;have cj:wr.cell? ⟨b,j,none⟩=some (.int .u8 (x.toNat:Int)):=by rw[J2 (h2.out.in_ hr.out) (j)];exact hcs.out _ x hgx
      obtain⟨v9,w9,hrun9,h9⟩:=h2.out.push [x] #[.int .u8 (x.toNat:Int)] rfl 1 rfl (by decide) (by simp only[List.length_append,List.length_cons,List.length_nil,List.length_replicate,List.length_take,List.length_drop];omega) 129
      replace hrun9:=hid hrun9;replace h9:=hid (show Jz w0 r (J1b neg++ds.take (j+1)) v9 w9 by have:=h9;rw[List.append_assoc] at this;rw[List.take_add_one,hgx];exact this)
      replace hgx:=hid hgx;have hidx1:j<32:=by omega
      have hidx2:(j:Int)<32:=by omega
      clear hln;go_wp2_with (at_builtin;refine J8 rfl _ _ _ _ rfl _ _ rfl rfl hrun9.out ?_);go_roundw
      case rel=>exact⟨j+1,_,by go_num,rfl,hlt,h9⟩
      case measure=>simp[intOf];omega
     ·obtain rfl:O=j:=by omega
      have hge:¬(O:Int)<(O:Int):=by omega
      go_wp2_with fail;refine wp_loop_rounds 1 ?_;rw[rounds_succ];go_wp2_with fail;go_meet
      refine⟨_,rfl,?_⟩
      rw[hF.out];have h6:=h2.out;simpa using h6
   case rest=>
    obtain⟨v2,rfl,h2⟩:=hcut
    replace h2:=hid h2;clear h1;obtain⟨v3,w3,hrun,h3⟩:=h2.out.push [46] #[.int .u8 46] rfl 1 rfl (by decide) (by simp only[List.length_append];omega) 129
    replace hrun:=hid hrun;replace h3:=hid h3;clear h2;go_wp2_with (at_builtin;refine J8 rfl _ _ _ _ rfl _ _ rfl rfl hrun.out ?_);clear hrun;refine wp_loop_rounds 1 ?_;rw[rounds_succ];go_wp2_with fail;go_loopw [0,30,247] (fun s0 sx s1 wr=>∃(j:Nat) (v:Value),s1= .int .i64 j/\s0=v/\j<=q/\Hid (Jz w0 r (J1b neg++F++[46]++(ds.drop O).take j) v wr)) (fun s0 sx s1 wr=>(q - intOf s1).toNat)
    case atStart=>exact⟨0,_,rfl,rfl,Nat.zero_le _,hid (by simpa using h3.out)⟩
    case round=>
     obtain⟨j,v5,rfl,rfl,hj,h5⟩:=hrel
     clear h3;by_cases hlt:j<q
     ·have hlt2:(j:Int)<(q:Int):=by omega
      have hln:O+j<ds.length:=by rw[<-hk.out];omega
      have hgx:(ds.drop O)[j]? =some ds[O+j]:=by rw[List.getElem?_drop,List.getElem?_eq_getElem hln]
      generalize ds[O+j]=x at hgx;have cj:wr.cell? ⟨b,O+j,none⟩=some (.int .u8 (x.toNat:Int)):=by rw[J2 (h5.out.in_ hr.out) (O+j)];exact hcs.out _ x (by rw[<-List.getElem?_drop];exact hgx)
      obtain⟨v9,w9,hrun9,h9⟩:=h5.out.push [x] #[.int .u8 (x.toNat:Int)] rfl 1 rfl (by decide) (by simp only[List.length_append,List.length_cons,List.length_nil,List.length_replicate,List.length_take,List.length_drop];omega) 129
      replace hrun9:=hid hrun9;replace h9:=hid (show Jz w0 r (J1b neg++F++[46]++(ds.drop O).take (j+1)) v9 w9 by have:=h9;rw[List.append_assoc] at this;rw[List.take_add_one,hgx];exact this)
      replace hgx:=hid hgx;have hidx1:O+j<32:=by omega
      have hidx2:(O:Int)+(j:Int)<32:=by omega
      clear hln;go_wp2_with (at_builtin;refine J8 rfl _ _ _ _ rfl _ _ rfl rfl hrun9.out ?_);go_roundw
      case rel=>exact⟨j+1,_,by go_num,rfl,hlt,h9⟩
      case measure=>simp[intOf];omega
     ·obtain rfl:q=j:=by omega
      have hge:¬(q:Int)<(q:Int):=by omega
      go_wp2_with fail;refine wp_loop_rounds 1 ?_;rw[rounds_succ];go_wp2_with fail;go_ret;refine⟨_,rfl,?_⟩
      have h6:=h5.out;rw[List.take_of_length_le (by rw[List.length_drop,<-hk.out];omega)] at h6
      rw[hG.out];simpa using h6
theorem Jwe (neg:Bool) (ds:List UInt8) (n P:Nat) (h:Jz w0 r [] s w) (hr:(b,Obj.cells cs T (0,0))∈r) (hk:n=ds.length) (h1':1<=n) (h2':n<=30) (h3':P<=900)
 (hcs:∀(j:Nat) (x:UInt8),ds[j]? =some x->cs[j]? =some (bv x)):
  Calls Tryz.prog 267 #[s,.bool neg,.slice (some ⟨b,0,none⟩) 32 32,.int .i64 ((n:Int)+(P:Int)),.int .i64 (n:Int),.int .i64 0,.int .u8 102,.bool true] w (J1m w0 r (J1b neg++(ds++List.replicate P 48)++([]:List UInt8))):=by
  have hnl:(J1b neg).length<=1:=by cases neg<;>decide
  obtain⟨F,hF⟩:∃F,F=(ds++List.replicate P 48):=⟨_,rfl⟩
  obtain⟨G,hG⟩:∃G,G=([]:List UInt8):=⟨_,rfl⟩
  rw[<-hF,<-hG];have hFl:F.length<=930:=by rw[hF];simp<;>omega
  have z1:(0:Int)<(n:Int)+(P:Int):=by omega
  replace h:=hid h;replace hcs:=hid hcs;replace hr:=hid hr;replace hk:=hid hk;replace hF:=hid hF;replace hG:=hid hG;go_enter Tryz.func267,Tryz.ntmps267;go_upto_if 178 with fail;go_cut [0] (fun s0 wc=>∃v,s0=v/\Jz w0 r (J1b neg) v wc)
  case first=>
   cases neg with
   |true=>
    obtain⟨v1,w1,hrun,h1⟩:=h.out.push [45] #[.int .u8 45] rfl 1 rfl (by decide) (by decide) 129
    replace hrun:=hid hrun;replace h1:=hid h1;go_wp2_with (at_builtin;refine J8 rfl _ _ _ _ rfl _ _ rfl rfl hrun.out ?_);go_meet
    exact⟨_,rfl,h1.out⟩
   |false=>
    go_wp2_with fail;go_meet
    exact⟨_,rfl,h.out⟩
  case rest=>
   obtain⟨v1,rfl,h1⟩:=hcut
   clear h;replace h1:=hid h1;go_upto_if 183 with fail;go_cut [0] (fun s0 wc=>∃v,s0=v/\Jz w0 r (J1b neg++F) v wc)
   case first=>
    go_wp2_with fail;go_loopw [0,25,191] (fun s0 sx s1 wr=>∃(j:Nat) (v:Value),s1= .int .i64 j/\s0=v/\j<=n/\Hid (Jz w0 r (J1b neg++ds.take j) v wr)) (fun s0 sx s1 wr=>(n - intOf s1).toNat)
    case atStart=>exact⟨0,_,rfl,rfl,Nat.zero_le _,hid (by simpa using h1.out)⟩
    case round=>
     obtain⟨j,v2,rfl,rfl,hj,h2⟩:=hrel
     clear h1;by_cases hlt:j<n
     ·have hlt2:(j:Int)<(n:Int):=by omega
      have hln:j<ds.length:=by rw[<-hk.out];omega
      have hgx:ds[j]? =some ds[j]:=by rw[List.getElem?_eq_getElem hln]
      generalize ds[j]=x at hgx;have cj:wr.cell? ⟨b,j,none⟩=some (.int .u8 (x.toNat:Int)):=by rw[J2 (h2.out.in_ hr.out) (j)];exact hcs.out _ x hgx
      obtain⟨v9,w9,hrun9,h9⟩:=h2.out.push [x] #[.int .u8 (x.toNat:Int)] rfl 1 rfl (by decide) (by simp only[List.length_append,List.length_cons,List.length_nil,List.length_replicate,List.length_take,List.length_drop];omega) 129
      replace hrun9:=hid hrun9;replace h9:=hid (show Jz w0 r (J1b neg++ds.take (j+1)) v9 w9 by have:=h9;rw[List.append_assoc] at this;rw[List.take_add_one,hgx];exact this)
      replace hgx:=hid hgx;have hidx1:j<32:=by omega
      have hidx2:(j:Int)<32:=by omega
      clear hln;go_wp2_with (at_builtin;refine J8 rfl _ _ _ _ rfl _ _ rfl rfl hrun9.out ?_);go_roundw
      case rel=>exact⟨j+1,_,by go_num,rfl,hlt,h9⟩
      case measure=>simp[intOf];omega
     ·obtain rfl:n=j:=by omega
      have hge:¬(n:Int)<(n:Int):=by omega
      go_wp2_with fail;go_loopw [0,203] (fun s0 s1 wr=>∃(j:Nat) (v:Value),s1= .int .i64 j/\s0=v/\j<=P/\Hid (Jz w0 r (J1b neg++ds.take n++List.replicate j 48) v wr)) (fun s0 s1 wr=>(P - intOf s1).toNat)
      case atStart=>exact⟨0,_,rfl,rfl,Nat.zero_le _,hid (by simpa using h2.out)⟩
      case round=>
       obtain⟨j,v3,rfl,rfl,hj,h3⟩:=hrel
       clear h2;by_cases hlt:j<P
       ·have hlt2:(j:Int)<(P:Int):=by omega
        obtain⟨v9,w9,hrun9,h9⟩:=h3.out.push [48] #[.int .u8 48] rfl 1 rfl (by decide) (by simp only[List.length_append,List.length_cons,List.length_nil,List.length_replicate,List.length_take,List.length_drop];omega) 129
        replace hrun9:=hid hrun9;replace h9:=hid (show Jz w0 r (J1b neg++ds.take n++List.replicate (j+1) 48) v9 w9 by have:=h9;rwa[List.append_assoc,<-List.replicate_succ'] at this)
        go_wp2_with (at_builtin;refine J8 rfl _ _ _ _ rfl _ _ rfl rfl hrun9.out ?_);go_roundw
        case rel=>exact⟨j+1,_,by go_num,rfl,hlt,h9⟩
        case measure=>simp[intOf];omega
       ·obtain rfl:P=j:=by omega
        have hge:¬(P:Int)<(P:Int):=by omega
        go_wp2_with fail;go_meet
        refine⟨_,rfl,?_⟩
        rw[hF.out];have h6:=h3.out;rw[List.take_of_length_le (by rw[<-hk.out];exact Nat.le_refl _)] at h6
        simpa using h6
   case rest=>
    obtain⟨v2,rfl,h2⟩:=hcut
    replace h2:=hid h2;clear h1;go_wp2_with fail;go_ret;refine⟨_,rfl,?_⟩
    have h6:=h2.out;rw[hG.out];simpa using h6
theorem Jyf (neg:Bool) (ds:List UInt8) (q:Nat) (h:Jz w0 r [] s w) (hr:(b,Obj.cells cs T (0,0))∈r) (hk:q=ds.length) (h1':1<=q) (h3':q<=30)
 (hcs:∀(j:Nat) (x:UInt8),ds[j]? =some x->cs[j]? =some (bv x)):
  Calls Tryz.prog 267 #[s,.bool neg,.slice (some ⟨b,0,none⟩) 32 32,.int .i64 0,.int .i64 (q:Int),.int .i64 (q:Int),.int .u8 102,.bool true] w (J1m w0 r (J1b neg++([48]:List UInt8)++(46::ds))):=by
  have hnl:(J1b neg).length<=1:=by cases neg<;>decide
  obtain⟨F,hF⟩:∃F,F=([48]:List UInt8):=⟨_,rfl⟩
  obtain⟨G,hG⟩:∃G,G=(46::ds):=⟨_,rfl⟩
  rw[<-hF,<-hG];have hFl:F.length<=930:=by rw[hF];simp<;>omega
  have z1:(0:Int)<(q:Int):=by omega
  have z3:0<q:=by omega
  replace h:=hid h;replace hcs:=hid hcs;replace hr:=hid hr;replace hk:=hid hk;replace hF:=hid hF;replace hG:=hid hG;go_enter Tryz.func267,Tryz.ntmps267;go_upto_if 178 with fail;go_cut [0] (fun s0 wc=>∃v,s0=v/\Jz w0 r (J1b neg) v wc)
  case first=>
   cases neg with
   |true=>
    obtain⟨v1,w1,hrun,h1⟩:=h.out.push [45] #[.int .u8 45] rfl 1 rfl (by decide) (by decide) 129
    replace hrun:=hid hrun;replace h1:=hid h1;go_wp2_with (at_builtin;refine J8 rfl _ _ _ _ rfl _ _ rfl rfl hrun.out ?_);go_meet
    exact⟨_,rfl,h1.out⟩
   |false=>
    go_wp2_with fail;go_meet
    exact⟨_,rfl,h.out⟩
  case rest=>
   obtain⟨v1,rfl,h1⟩:=hcut
   clear h;replace h1:=hid h1;go_upto_if 183 with fail;go_cut [0] (fun s0 wc=>∃v,s0=v/\Jz w0 r (J1b neg++F) v wc)
   case first=>
    obtain⟨v2,w2,hrun,h2⟩:=h1.out.push [48] #[.int .u8 48] rfl 1 rfl (by decide) (by omega) 129
    replace hrun:=hid hrun;replace h2:=hid h2;clear h1;go_wp2_with (at_builtin;refine J8 rfl _ _ _ _ rfl _ _ rfl rfl hrun.out ?_);go_meet
    refine⟨_,rfl,?_⟩
    rw[hF.out];exact h2.out
   case rest=>
    obtain⟨v2,rfl,h2⟩:=hcut
    replace h2:=hid h2;clear h1;obtain⟨v3,w3,hrun,h3⟩:=h2.out.push [46] #[.int .u8 46] rfl 1 rfl (by decide) (by simp only[List.length_append];omega) 129
    replace hrun:=hid hrun;replace h3:=hid h3;clear h2;go_wp2_with (at_builtin;refine J8 rfl _ _ _ _ rfl _ _ rfl rfl hrun.out ?_);clear hrun;refine wp_loop_rounds 1 ?_;rw[rounds_succ];go_wp2_with fail;go_loopw [0,30,247] (fun s0 sx s1 wr=>∃(j:Nat) (v:Value),s1= .int .i64 j/\s0=v/\j<=q/\Hid (Jz w0 r (J1b neg++F++[46]++ds.take j) v wr)) (fun s0 sx s1 wr=>(q - intOf s1).toNat)
    case atStart=>exact⟨0,_,rfl,rfl,Nat.zero_le _,hid (by simpa using h3.out)⟩
    case round=>
     obtain⟨j,v5,rfl,rfl,hj,h5⟩:=hrel
     clear h3;by_cases hlt:j<q
     ·have hlt2:(j:Int)<(q:Int):=by omega
      have hln:j<ds.length:=by rw[<-hk.out];omega
      have hgx:ds[j]? =some ds[j]:=by rw[List.getElem?_eq_getElem hln]
      generalize ds[j]=x at hgx;have cj:wr.cell? ⟨b,j,none⟩=some (.int .u8 (x.toNat:Int)):=by rw[J2 (h5.out.in_ hr.out) (j)];exact hcs.out _ x hgx
      obtain⟨v9,w9,hrun9,h9⟩:=h5.out.push [x] #[.int .u8 (x.toNat:Int)] rfl 1 rfl (by decide) (by simp only[List.length_append,List.length_cons,List.length_nil,List.length_replicate,List.length_take,List.length_drop];omega) 129
      replace hrun9:=hid hrun9;replace h9:=hid (show Jz w0 r (J1b neg++F++[46]++ds.take (j+1)) v9 w9 by have:=h9;rw[List.append_assoc] at this;rw[List.take_add_one,hgx];exact this)
      replace hgx:=hid hgx;have hidx1:j<32:=by omega
      have hidx2:(j:Int)<32:=by omega
      clear hln;go_wp2_with (at_builtin;refine J8 rfl _ _ _ _ rfl _ _ rfl rfl hrun9.out ?_);go_roundw
      case rel=>exact⟨j+1,_,by go_num,rfl,hlt,h9⟩
      case measure=>simp[intOf];omega
     ·obtain rfl:q=j:=by omega
      have hge:¬(q:Int)<(q:Int):=by omega
      go_wp2_with fail;refine wp_loop_rounds 1 ?_;rw[rounds_succ];go_wp2_with fail;go_ret;refine⟨_,rfl,?_⟩
      have h6:=h5.out;rw[List.take_of_length_le (by rw[<-hk.out];exact Nat.le_refl _)] at h6
      rw[hG.out];simpa using h6
theorem Jyg (neg:Bool) (ds:List UInt8) (n Z:Nat) (h:Jz w0 r [] s w) (hr:(b,Obj.cells cs T (0,0))∈r) (hk:n=ds.length) (h1':1<=n) (h2':n<=30) (h3':1<=Z) (h4':Z<=900)
 (hcs:∀(j:Nat) (x:UInt8),ds[j]? =some x->cs[j]? =some (bv x)):
  Calls Tryz.prog 267 #[s,.bool neg,.slice (some ⟨b,0,none⟩) 32 32,.int .i64 (-(Z:Int)),.int .i64 (n:Int),.int .i64 ((n:Int)+(Z:Int)),.int .u8 102,.bool true] w (J1m w0 r (J1b neg++([48]:List UInt8)++(46::(List.replicate Z 48++ds)))):=by
  have hnl:(J1b neg).length<=1:=by cases neg<;>decide
  obtain⟨F,hF⟩:∃F,F=([48]:List UInt8):=⟨_,rfl⟩
  obtain⟨G,hG⟩:∃G,G=(46::(List.replicate Z 48++ds)):=⟨_,rfl⟩
  rw[<-hF,<-hG];have hFl:F.length<=930:=by rw[hF];simp<;>omega
  have z1:¬(0:Int)< -(Z:Int):=by omega
  have z5: -(Z:Int)+(Z:Int)=0:=by omega
  have z3:0<Z:=by omega
  have z2:(0:Int)<(n:Int)+(Z:Int):=by omega
  replace h:=hid h;replace hcs:=hid hcs;replace hr:=hid hr;replace hk:=hid hk;replace hF:=hid hF;replace hG:=hid hG;go_enter Tryz.func267,Tryz.ntmps267;go_upto_if 178 with fail;go_cut [0] (fun s0 wc=>∃v,s0=v/\Jz w0 r (J1b neg) v wc)
  case first=>
   cases neg with
   |true=>
    obtain⟨v1,w1,hrun,h1⟩:=h.out.push [45] #[.int .u8 45] rfl 1 rfl (by decide) (by decide) 129
    replace hrun:=hid hrun;replace h1:=hid h1;go_wp2_with (at_builtin;refine J8 rfl _ _ _ _ rfl _ _ rfl rfl hrun.out ?_);go_meet
    exact⟨_,rfl,h1.out⟩
   |false=>
    go_wp2_with fail;go_meet
    exact⟨_,rfl,h.out⟩
  case rest=>
   obtain⟨v1,rfl,h1⟩:=hcut
   clear h;replace h1:=hid h1;go_upto_if 183 with fail;go_cut [0] (fun s0 wc=>∃v,s0=v/\Jz w0 r (J1b neg++F) v wc)
   case first=>
    obtain⟨v2,w2,hrun,h2⟩:=h1.out.push [48] #[.int .u8 48] rfl 1 rfl (by decide) (by omega) 129
    replace hrun:=hid hrun;replace h2:=hid h2;clear h1;go_wp2_with (at_builtin;refine J8 rfl _ _ _ _ rfl _ _ rfl rfl hrun.out ?_);go_meet
    refine⟨_,rfl,?_⟩
    rw[hF.out];exact h2.out
   case rest=>
    obtain⟨v2,rfl,h2⟩:=hcut
    replace h2:=hid h2;clear h1;obtain⟨v3,w3,hrun,h3⟩:=h2.out.push [46] #[.int .u8 46] rfl 1 rfl (by decide) (by simp only[List.length_append];omega) 129
    replace hrun:=hid hrun;replace h3:=hid h3;clear h2;go_wp2_with (at_builtin;refine J8 rfl _ _ _ _ rfl _ _ rfl rfl hrun.out ?_);clear hrun;go_loopw [0,240] (fun s0 s1 wr=>∃(j:Nat) (v:Value),s1= .int .i64 j/\s0=v/\j<=Z/\Hid (Jz w0 r (J1b neg++F++[46]++List.replicate j 48) v wr)) (fun s0 s1 wr=>(Z - intOf s1).toNat)
    case atStart=>exact⟨0,_,rfl,rfl,Nat.zero_le _,hid (by simpa using h3.out)⟩
    case round=>
     obtain⟨j,v4,rfl,rfl,hj,h4⟩:=hrel
     clear h3;by_cases hlt:j<Z
     ·have hlt2:(j:Int)<(Z:Int):=by omega
      obtain⟨v9,w9,hrun9,h9⟩:=h4.out.push [48] #[.int .u8 48] rfl 1 rfl (by decide) (by simp only[List.length_append,List.length_cons,List.length_nil,List.length_replicate,List.length_take,List.length_drop];omega) 129
      replace hrun9:=hid hrun9;replace h9:=hid (show Jz w0 r (J1b neg++F++[46]++List.replicate (j+1) 48) v9 w9 by have:=h9;rwa[List.append_assoc,<-List.replicate_succ'] at this)
      go_wp2_with (at_builtin;refine J8 rfl _ _ _ _ rfl _ _ rfl rfl hrun9.out ?_);go_roundw
      case rel=>exact⟨j+1,_,by go_num,rfl,hlt,h9⟩
      case measure=>simp[intOf];omega
     ·obtain rfl:Z=j:=by omega
      have hge:¬(Z:Int)<(Z:Int):=by omega
      go_wp2_with fail;go_loopw [0,30,247] (fun s0 sx s1 wr=>∃(j:Nat) (v:Value),s1= .int .i64 j/\s0=v/\j<=n/\Hid (Jz w0 r (J1b neg++F++[46]++List.replicate Z 48++ds.take j) v wr)) (fun s0 sx s1 wr=>(n - intOf s1).toNat)
      case atStart=>exact⟨0,_,rfl,rfl,Nat.zero_le _,hid (by simpa using h4.out)⟩
      case round=>
       obtain⟨j,v5,rfl,rfl,hj,h5⟩:=hrel
       clear h4;by_cases hlt:j<n
       ·have hlt2:(j:Int)<(n:Int):=by omega
        have hln:j<ds.length:=by rw[<-hk.out];omega
        have hgx:ds[j]? =some ds[j]:=by rw[List.getElem?_eq_getElem hln]
        generalize ds[j]=x at hgx;have cj:wr.cell? ⟨b,j,none⟩=some (.int .u8 (x.toNat:Int)):=by rw[J2 (h5.out.in_ hr.out) (j)];exact hcs.out _ x hgx
        obtain⟨v9,w9,hrun9,h9⟩:=h5.out.push [x] #[.int .u8 (x.toNat:Int)] rfl 1 rfl (by decide) (by simp only[List.length_append,List.length_cons,List.length_nil,List.length_replicate,List.length_take,List.length_drop];omega) 129
        replace hrun9:=hid hrun9;replace h9:=hid (show Jz w0 r (J1b neg++F++[46]++List.replicate Z 48++ds.take (j+1)) v9 w9 by have:=h9;rw[List.append_assoc] at this;rw[List.take_add_one,hgx];exact this)
        replace hgx:=hid hgx;have hidx1:j<32:=by omega
        have hidx2:(j:Int)<32:=by omega
        clear hln;go_wp2_with (at_builtin;refine J8 rfl _ _ _ _ rfl _ _ rfl rfl hrun9.out ?_);go_roundw
        case rel=>exact⟨j+1,_,by go_num,rfl,hlt,h9⟩
        case measure=>simp[intOf];omega
       ·obtain rfl:n=j:=by omega
        have hge:¬(n:Int)<(n:Int):=by omega
        go_wp2_with fail;refine wp_loop_rounds 1 ?_;rw[rounds_succ];go_wp2_with fail;go_ret;refine⟨_,rfl,?_⟩
        have h6:=h5.out;rw[List.take_of_length_le (by rw[<-hk.out];exact Nat.le_refl _)] at h6
        rw[hG.out];simpa using h6
theorem Jsz (neg:Bool) (ds:List UInt8) (n:Nat) (dp q:Int) (h:Jz w0 r [] s w) (hr:(b,Obj.cells cs T (0,0))∈r) (hk:n=ds.length) (hk1:1<=n) (hk2:n<=30) (hq:q=max ((n:Int) - dp) 0)
 (hcs:∀(j:Nat) (x:UInt8),ds[j]? =some x->cs[j]? =some (bv x)) (hx0: -900<=dp) (hx1:dp<=900):
  Calls Tryz.prog 267 #[s,.bool neg,.slice (some ⟨b,0,none⟩) 32 32,.int .i64 dp,.int .i64 n,.int .i64 q,.int .u8 102,.bool true] w (J1m w0 r (Jwc neg ds dp)):=by
  unfold Jwc Jyc Jxp;rw[<-List.append_assoc,<-hk];by_cases h1:0<dp
  ·obtain⟨O,rfl⟩:=Int.eq_ofNat_of_zero_le (Int.le_of_lt h1)
   rw[if_pos h1];by_cases h2:O<n
   ·obtain⟨p,rfl⟩:∃p,n=O+p:=⟨n - O,by omega⟩
    have e:=Jwd neg ds O p h hr hk (by omega) (by omega) hk2 hcs
    rw[if_pos (by omega),show q=(p:Int) by omega]
    have hz:(O:Int).toNat - (O+p)=0:=by simp
    have hz2:(-(O:Int)).toNat=0:=by omega
    rw[hz,hz2];simpa using e
   ·obtain⟨p,rfl⟩:∃p,O=n+p:=⟨O - n,by omega⟩
    have e:=Jwe neg ds n p h hr hk hk1 hk2 (by omega) hcs
    rw[if_neg (by omega),show q=0 by omega,List.take_of_length_le (by rw[<-hk];omega)]
    have hz:((n+p:Nat):Int).toNat - n=p:=by omega
    rw[hz];simpa using e
  ·rw[if_neg h1,if_pos (by omega)]
   by_cases h2:dp=0
   ·subst h2
    have e:=Jyf neg ds n h hr hk hk1 hk2 hcs;rw[show q=(n:Int) by omega]
    simpa using e
   ·obtain⟨Z,hZ⟩:=Int.eq_ofNat_of_zero_le (show 0<= -dp by omega)
    obtain rfl:dp= -(Z:Int):=by omega
    have e:=Jyg neg ds n Z h hr hk hk1 hk2 (by omega) (by omega) hcs
    rw[show q=(n:Int)+(Z:Int) by omega]
    simpa using e
end Go.Proofs.YtncbcaabanoeoaaGreatDoor
