/-
nearhandref06: one; Words, of a line without marks.
-/
import Derived.Deep.RegionHeld3
import Derived.Deep.RegionHeldLaw
import Derived.Great.BuildSlice
import Derived.Test.YtncbcaabanoeoaaGreatDoorQ43
set_option linter.unusedVariables false
set_option linter.unusedSimpArgs false
set_option maxRecDepth 100000
set_option maxHeartbeats 8000000
namespace Go.Proofs.YtncbcaabanoeoaaGreatDoor
open Go Go.RowKit
variable {w0 w:World}{r sl:Hp}{v:Value}{k:Nat}
theorem Jup (hS:J3 w0 [] w r) (c:UInt8):
 Calls Tryz.prog 167 #[.int .u8 (c.toNat:Int)] w (Kr w0 r (.string ⟨#[c]⟩)):=by
 have S1:=hS.alloc (.cells #[.int .u8 (c.toNat:Int)] 5)
 have hback:=run_convert_bytes_back (P:=Tryz.prog) (w.alloc (.cells #[.int .u8 (c.toNat:Int)] 5)) 129 9 5 ⟨w.heap.size,0,none⟩ 1 [c] Tryz.underlying129 Tryz.underlying5 Tryz.underlying9 (fun j hj=>by
  obtain rfl:j=0:=by simpa using hj
  rw[J0i,Nat.zero_add,J2 S1.own.head];rfl)
 rw[show [c].length=1 from rfl] at hback;replace S1:=hid S1;clear hS;go_enter Tryz.func167,Tryz.ntmps167;go_wp2_with fail;go_ret;exact⟨rfl,S1.out.less (List.sublist_cons_self _ _)⟩
def J8c:List UInt8->Option (List UInt8)->List ByteArray->List ByteArray
 |[],none,out=>out
 |[],some u,out=>out++[⟨u.toArray⟩]
 |c::l,none,out=>if c=32 then J8c l none out else J8c l (some [c]) out
 |c::l,some u,out=>if c=32 then J8c l none (out++[⟨u.toArray⟩]) else J8c l (some (u++[c])) out
def rwB (c:UInt8):Bool:=decide (32<=c.toNat)&&!(c==34)&&!(c==39)
theorem J3r.shape {ws:List ByteArray} (h:J3r v ws sl):∃a c,v= .slice a ws.length c:=by
 unfold J3r at h;generalize ws.length=n at h⊢;generalize ws.map Value.string=xs at h;cases h with
 |nil=>exact⟨none,0,rfl⟩
 |laid g n cap xs rest h1 h2 h3 h4=>exact⟨_,_,rfl⟩
def Jy4 (w0:World) (r:Hp) (T:List ByteArray) (e:Ending) (w':World):Prop:=∃v sl,e= .returned (.tuple #[v,.int .i64 0])/\J3r v T sl/\J3 w0 [] w' (sl++r)
theorem Jek {ws:List ByteArray} (hS:J3 w0 [] w (sl++r)) (hsl:J3r v ws sl) (hB:ws.length<=1000000) (s:ByteArray):
 ∃v' w' sl',(Builtin.append_ #[23,23] 23 #[v,.slice (some ⟨w.heap.size,0,none⟩) 1 1]).run Tryz.prog (w.alloc (J33 [s]))= .ok v' w'/\J3r v' (ws++[s]) sl'/\J3 w0 [] w' (sl'++r):=by
 obtain⟨a,c,rfl⟩:=hsl.shape
 have S1:J3 w0 [] (w.alloc (J33 [s])) (sl++((w.heap.size,J33 [s])::r)):=(hS.alloc _).permR (J5 fun f=>by simp only[SC];omega)
 obtain⟨va,c',w',sl',h1,h2,h3⟩:=Jx0 S1 hsl rfl (by omega) [s] (by simp) (by simp) (List.mem_cons_self ..)
 exact⟨_,w',sl',h1,h2,h3.letGo⟩
theorem Jnf (hS:J3 w0 [] w r) (s:ByteArray) (hs:s.size<=4096) (hb:∀c∈s.data.toList,rwB c=true) (T:List ByteArray) (hT:J8c s.data.toList none []=T) (h64:T.length<=64) (h40:∀u∈T,u.size<=4096) (hne:T≠[]):
 Calls Tryz.prog 117 #[.string s] w (Jy4 w0 r T):=by
 obtain⟨b,hbb⟩:∃b,b=w.heap.size:=⟨_,rfl⟩
 have hD:∃sl,J3r (.slice (some ⟨b,0,none⟩) 0 0) [] sl/\J3 w0 [] (w.alloc (.cells #[] 9)) (sl++r):=by
  subst hbb;exact⟨_,SliceHp.laid w.heap.size 0 0 [] [] rfl rfl (by decide) (by unfold maxLen;decide),hS.alloc (.cells #[] 9)⟩
 replace hD:=hid hD;replace hT:=hid hT;replace hb:=hid hb;replace h40:=hid h40;replace h64:=hid h64;clear hS;go_enter Tryz.func117,Tryz.ntmps117;go_wp2_with fail;rw[<-hbb];replace hbb:=hid hbb;go_loopw [4,5,6,7,8] (fun s4 s5 s6 s7 s8 wr=>∃(k:Nat) (v:Value) (st:Int) (wd:ByteArray) (cur:Option (List UInt8)) (ws:List ByteArray),s8= .int .i64 k/\s4=v/\s5= .int .i64 st/\s6= .string wd/\s7= .int .u8 0/\k<=s.size/\ws.length<=k/\wd.size<=k/\Hid (st=0/\cur=none\/st=1/\cur=some wd.data.toList)/\Hid (J8c (s.data.toList.drop k) cur ws=T)/\Hid (∃sl,J3r v ws sl/\J3 w0 [] wr (sl++r))) (fun s4 s5 s6 s7 s8 wr=>(s.size - intOf s8).toNat)
 case atStart=>exact⟨0,_,0,_,none,[],rfl,rfl,rfl,rfl,rfl,Nat.zero_le _,Nat.le_refl _,Nat.le_refl _,hid (.inl ⟨rfl,rfl⟩),hT,hD⟩
 case round=>
  obtain⟨k,v,st,wd,cur,ws,rfl,hv,rfl,rfl,rfl,hk,hwl,hwd,hst,hgo,h1⟩:=hrel
  replace hv:=hv.symm;subst hv;clear hD;by_cases hlt:k<s.size
  ·have hlt2:(k:Int)<s.size:=by omega
   have hx:s.data.toList[k]? =some s[k]:=by rw[List.getElem?_eq_getElem (by simpa using hlt)];rfl
   have hdrop:s.data.toList.drop k=s[k]::s.data.toList.drop (k+1):=by
    rw[List.drop_eq_getElem_cons (by simpa using hlt)];rfl
   rw[hdrop] at hgo;have hbk:=hb.out s[k] (List.mem_of_getElem? hx);simp only[rwB,Bool.and_eq_true,decide_eq_true_eq,Bool.not_eq_true',beq_eq_false_iff_ne,ne_eq] at hbk;obtain⟨⟨b1,b2⟩,b3⟩:=hbk
   have c34:¬s[k].toNat=34:=fun h=>b2 (UInt8.toNat_inj.1 h)
   have c39:¬s[k].toNat=39:=fun h=>b3 (UInt8.toNat_inj.1 h)
   have t34:((s[k].toNat:Int)==34)=false:=by simp;omega
   have t39:((s[k].toNat:Int)==39)=false:=by simp;omega
   have t9:((s[k].toNat:Int)==9)=false:=by simp;omega
   have u34:(s[k].toNat==34)=false:=by simp;omega
   have u39:(s[k].toNat==39)=false:=by simp;omega
   have u9:(s[k].toNat==9)=false:=by simp;omega
   clear b1 b2 b3 c34 c39 hdrop hx;have hone:=fun (w':World) (R:Hp) (h:Hid (J3 w0 [] w' R))=>hid (Jup h.out s[k])
   by_cases g:s[k]=32
   ·have t32:((s[k].toNat:Int)==32)=true:=by rw[g];rfl
    have u32:(s[k].toNat==32)=true:=by rw[g];rfl
    rcases hst.out with⟨rfl,rfl⟩|⟨rfl,rfl⟩
    ·have hgo2:Hid (J8c (s.data.toList.drop (k+1)) none ws=T):=hid (by have:=hgo.out;rw[J8c,if_pos g] at this;exact this)
     clear hgo g hone;go_wp2_with fail;go_roundw
     case rel=>exact⟨k+1,_,0,_,none,ws,by go_num,rfl,rfl,rfl,rfl,hlt,by omega,by omega,hid (.inl ⟨rfl,rfl⟩),hgo2,h1⟩
     case measure=>simp[intOf];omega
    ·have hgo2:Hid (J8c (s.data.toList.drop (k+1)) none (ws++[wd])=T):=hid (by have:=hgo.out;rw[J8c,if_pos g] at this;exact this)
     obtain⟨sl,hw,S1⟩:=h1.out
     obtain⟨v',w',sl',hrun,hw',S2⟩:=Jek S1 hw (by omega) wd
     replace hrun:=hid hrun;have h2:=hid (show ∃sl,J3r v' (ws++[wd]) sl/\J3 w0 [] w' (sl++r) from⟨sl',hw',S2⟩);clear hgo g hone hw S1 hw' S2 h1;go_wp2_with (at_builtin;refine J8 rfl _ _ _ _ rfl _ _ rfl rfl hrun.out ?_);go_roundw
     case rel=>exact⟨k+1,_,0,_,none,ws++[wd],by go_num,rfl,rfl,rfl,rfl,hlt,by simp only[List.length_append,List.length_cons,List.length_nil];omega,by omega,hid (.inl ⟨rfl,rfl⟩),hgo2,h2⟩
     case measure=>simp[intOf];omega
   ·have c32:¬s[k].toNat=32:=fun h=>g (UInt8.toNat_inj.1 h)
    have t32:((s[k].toNat:Int)==32)=false:=by simp;omega
    have u32:(s[k].toNat==32)=false:=by simp;omega
    clear c32;obtain⟨sl,hw,S1⟩:=h1.out
    have hcall:=hone wr _ (hid S1);clear hone;rcases hst.out with⟨rfl,rfl⟩|⟨rfl,rfl⟩
    ·have hgo2:Hid (J8c (s.data.toList.drop (k+1)) (some [s[k]]) ws=T):=hid (by have:=hgo.out;rw[J8c,if_neg g] at this;exact this)
     replace hw:=hid hw;clear hgo g S1 h1;go_wp2_with fail;refine hcall.out.mono ?_;rintro e w2 ⟨rfl,S2⟩;have h2:=hid (show ∃sl,J3r v ws sl/\J3 w0 [] w2 (sl++r) from⟨sl,hw.out,S2⟩);clear hcall S2 hw;go_wp2_with fail;go_roundw
     case rel=>exact⟨k+1,_,1,_,some [s[k]],ws,by go_num,rfl,rfl,rfl,rfl,hlt,by omega,by show 1<=k+1;omega,hid (.inr ⟨rfl,rfl⟩),hgo2,h2⟩
     case measure=>simp[intOf];omega
    ·have hgo2:Hid (J8c (s.data.toList.drop (k+1)) (some (wd.data.toList++[s[k]])) ws=T):=hid (by have:=hgo.out;rw[J8c,if_neg g] at this;exact this)
     replace hw:=hid hw;clear hgo g S1 h1;go_wp2_with fail;refine hcall.out.mono ?_;rintro e w2 ⟨rfl,S2⟩;have h2:=hid (show ∃sl,J3r v ws sl/\J3 w0 [] w2 (sl++r) from⟨sl,hw.out,S2⟩);clear hcall S2 hw;go_wp2_with fail;go_roundw
     case rel=>exact⟨k+1,_,1,_,some (wd.data.toList++[s[k]]),ws,by go_num,rfl,rfl,rfl,rfl,hlt,by omega,by rw[ByteArray.size_append];show wd.size+1<=k+1;omega,hid (.inr ⟨rfl,by simp⟩),hgo2,h2⟩
     case measure=>simp[intOf];omega
  ·obtain rfl:k=s.size:=by omega
   have hnil:s.data.toList.drop s.size=[]:=List.drop_of_length_le (by simp)
   rw[hnil] at hgo;rcases hst.out with⟨rfl,rfl⟩|⟨rfl,rfl⟩
   case' inl=>
    obtain⟨sl,hw,S1⟩:=h1.out
    have e:=hgo.out;rw[J8c] at e;rw[e] at hw;obtain⟨w4,hw4⟩:∃w4,w4=wr:=⟨_,rfl⟩
    rw[<-hw4] at S1;clear hgo hnil hst h1 hlt hwl hwd e
   case' inr=>
    obtain⟨sl0,hw0,S0⟩:=h1.out
    obtain⟨v',w4,sl,hrun,hw,S1⟩:=Jek S0 hw0 (by omega) wd
    replace hrun:=hid hrun;have e:=hgo.out;rw[J8c] at e;rw[show(⟨wd.data.toList.toArray⟩:ByteArray)=wd from rfl] at e;rw[e] at hw;clear hgo hnil hst h1 hlt hwl hwd e hw0 S0
   all_goals
    obtain⟨g,c,rest,hv,hsl,_,_⟩:=J3r.form hw hne
    subst hv;obtain⟨n,hn⟩:∃n,n=T.length:=⟨_,rfl⟩
    have hcell:∀(j:Nat) (u:ByteArray),T[j]? =some u->w4.cell? ⟨g,j,none⟩=some (.string u):=fun j u hu=>by
     have hb4:w4.heap[g]? =some (.cells (T.map Value.string++rest).toArray 9 (0,0)):=S1.own.at_ (g,_) (by rw[hsl];simp)
     have hj:j<(T.map Value.string).length:=by rw[List.length_map];exact(List.getElem?_eq_some_iff.1 hu).1
     rw[J2 hb4,List.getElem?_toArray,List.getElem?_append_left hj,List.getElem?_map,hu];rfl
    have hn64:n<=64:=by rw[hn];exact h64.out
    try rw[<-hn]
    try rw[<-hn] at hrun
    replace hn:=hid hn;replace hcell:=hid hcell;replace hw:=hid hw;replace S1:=hid S1;clear hsl
   case' inl=>
    rw[hw4] at hcell S1;clear hw4;go_wp2_with fail
   case' inr=>
    go_wp2_with (at_builtin;refine J8 rfl _ _ _ _ rfl _ _ rfl rfl hrun.out ?_);clear hrun
   all_goals
    go_loop [14,176] (fun s14 s176=>∃j:Nat,s176= .int .i64 j/\j<=n) (fun s14 s176=>(n - intOf s176).toNat)
    case atStart=>exact⟨0,rfl,Nat.zero_le _⟩
    case round=>
     obtain⟨j,rfl,hj⟩:=hrel
     by_cases hlt:j<n
     ·have hlt2:(j:Int)<n:=by omega
      obtain⟨u,hu⟩:∃u,T[j]? =some u:=⟨T[j]'(by rw[<-hn.out];exact hlt),List.getElem?_eq_getElem _⟩
      have hc:=hcell.out j u hu;have hu4:=h40.out u (List.mem_of_getElem? hu);clear hu;go_wp2_with fail;go_round
      case rel=>exact⟨j+1,by go_num,hlt⟩
      case measure=>simp[intOf];omega
     ·obtain rfl:j=n:=by omega
      have hge:¬(j:Int)<j:=by omega
      go_wp2_with fail;go_ret2;refine⟨_,sl,rfl,?_,S1.out⟩
      rw[hn.out];exact hw.out
def rpv (ds:List UInt8):Int:=ds.foldl (fun n c=>10*n - ((c.toNat:Int) - 48)) 0
theorem Jku {ds:List UInt8} {c:UInt8} (h:ds[k]? =some c):rpv (ds.take (k+1))=10*rpv (ds.take k) - ((c.toNat:Int) - 48):=by
 unfold rpv;rw[List.take_add_one,h,Option.toList_some,List.foldl_append];rfl
theorem Jp2 {ds:List UInt8} (h:∀c∈ds,48<=c.toNat/\c.toNat<=57):∀k,k<=ds.length-> -(10 ^k:Int)<rpv (ds.take k)/\rpv (ds.take k)<=0
 |0,_=>by simp[rpv]
 |k+1,hk=>by
  obtain⟨h1,h2⟩:=Jp2 h k (by omega)
  have hx:ds[k]? =some ds[k]:=List.getElem?_eq_getElem _;obtain⟨h3,h4⟩:=h _ (List.mem_of_getElem? hx)
  rw[Jku hx,Int.pow_succ];omega
theorem Jun (s:ByteArray) (hd:∀c∈s.data.toList,48<=c.toNat/\c.toNat<=57) (h1:1<=s.size) (h2:s.size<=15) (hz:s.size=1\/s.data.toList[0]? ≠some 48) (w:World):
 Calls Tryz.prog 118 #[.string s] w fun e w'=>e= .returned (.tuple #[.int .i64 (-rpv s.data.toList),.int .i64 0])/\w'=w:=by
 have hlen:s.data.toList.length=s.size:=Array.length_toList;have hx:∀k (h:k<s.size),s.data.toList[k]? =some s[k]:=fun k h=>by rw[List.getElem?_eq_getElem (by rw[hlen];exact h)];rfl
 have hdig:∀k (h:k<s.size),48<=s[k].toNat/\s[k].toNat<=57:=fun k h=>hd _ (List.mem_of_getElem? (hx k h))
 have h0:0<s.size:=by omega
 obtain⟨q1,q2⟩:=hdig 0 h0
 have h0i:(0:Int)<s.size:=by omega
 have h19:¬(19:Int)<s.size:=by omega
 have hn0:¬(s.size:Int)=0:=by omega
 have e0:((s.size:Int)==0)=false:=beq_eq_false_iff_ne.2 (by omega)
 have f0:(s.size==0)=false:=beq_eq_false_iff_ne.2 (by omega)
 have k0:¬s.size=0:=by omega
 have t45:((s[0].toNat:Int)==45)=false:=by simp;omega
 have u45:(s[0].toNat==45)=false:=by simp;omega
 have hz2:s.size=1\/¬s[0].toNat=48:=hz.imp id fun h e=>h (by rw[hx 0 h0];exact congrArg some (UInt8.toNat_inj.1 e))
 have hrng:=fun k (h:k<=s.size)=>Jp2 hd k (by rw[hlen];exact h)
 have htk:=fun k (h:k<s.size)=>Jku (hx k h)
 have hall:s.data.toList.take s.size=s.data.toList:=List.take_of_length_le (by rw[hlen];exact Nat.le_refl _)
 replace hx:=hid hx;replace hd:=hid hd;replace hdig:=hid hdig;replace hlen:=hid hlen;replace hrng:=hid hrng;replace htk:=hid htk;replace hall:=hid hall;go_enter Tryz.func118,Tryz.ntmps118;rcases hz2 with hs1|hz2
 case' inl=>
  have g1:¬(1:Int)<s.size:=by omega
  replace hs1:=hid hs1;go_wp2_with fail
 case' inr=>
  have g1:((s[0].toNat:Int)==48)=false:=by simp;omega
  have g2:(s[0].toNat==48)=false:=by simp;omega
  go_wp2_with fail
 all_goals
  go_loop [6,7,8] (fun s6 s7 s8=>∃(k:Nat) (n:Int),s7= .int .i64 k/\k<=s.size/\s6= .int .i64 n/\Hid (n=rpv (s.data.toList.take k))) (fun s6 s7 s8=>(s.size - intOf s7).toNat)
  case atStart=>exact⟨0,0,rfl,Nat.zero_le _,rfl,hid rfl⟩
  case round=>
   obtain⟨k,n,rfl,hk,rfl,hn⟩:=hrel
   obtain⟨r1,r2⟩:=hrng.out k hk
   rw[<-hn.out] at r1 r2
   have hp:(10 ^k:Int)<=10 ^15:=by
    have:(10:Nat) ^k<=10 ^15:=Nat.pow_le_pow_right (by decide) (by omega)
    exact_mod_cast this
   have r3: -1000000000000000<n:=by omega
   clear r1 hp;by_cases hlt:k<s.size
   ·have hlt2:(k:Int)<s.size:=by omega
    obtain⟨d1,d2⟩:=hdig.out k hlt
    have hnext:Hid (10*n - ((s[k].toNat:Int) - 48)=rpv (s.data.toList.take (k+1))):=hid (by rw[htk.out k hlt,hn.out])
    have e1:(n== -922337203685477580)=false:=by simp;omega
    go_wp2_with fail;go_round
    case rel=>exact⟨k+1,_,by go_num,hlt,rfl,hnext⟩
    case measure=>simp[intOf];omega
   ·obtain rfl:k=s.size:=by omega
    have hge:¬(s.size:Int)<s.size:=by omega
    have e1:(n== -9223372036854775808)=false:=by simp;omega
    have hfin:=hn.out;rw[hall.out] at hfin;replace hfin:=hid hfin;go_wp2_with fail;go_ret2;rw[<-hfin.out];exact⟨rfl,rfl⟩
theorem Jx3 (w:World):Calls Tryz.prog 118 #[.string ⟨#[45,49]⟩] w fun e w'=>e= .returned (.tuple #[.int .i64 (-1),.int .i64 0])/\w'=w:=by
 have he:(⟨#[45,49]⟩:ByteArray).extract 1 2=⟨#[49]⟩:=by decide
 have h0:∀h,(⟨#[49]⟩:ByteArray)[0]'h=49:=fun _=>rfl
 go_enter Tryz.func118,Tryz.ntmps118;go_wp2_with fail;refine wp_loop_rounds 2 ?_;rw[rounds_succ];go_wp2_with fail;rw[rounds_succ];go_wp2_with fail;go_ret2;exact⟨rfl,rfl⟩
def J1s:List ByteArray:=
 [⟨#[103,101,116,32,49,32,50,32,50,32,49,32,49,32,49]⟩,
  ⟨#[115,101,116,32,50,32,51,32,54,52,32,49,32,49,32,49]⟩,
  ⟨#[115,101,116,110,120,32,50,32,51,32,51,32,49,32,49,32,49]⟩,
  ⟨#[103,101,116,115,101,116,32,50,32,51,32,51,32,49,32,49,32,49]⟩,
  ⟨#[103,101,116,100,101,108,32,50,32,50,32,50,32,49,32,49,32,49]⟩,
  ⟨#[109,103,101,116,32,49,32,50,32,54,52,32,49,32,45,49,32,49]⟩,
  ⟨#[109,115,101,116,32,50,32,51,32,54,52,32,49,32,45,49,32,50]⟩,
  ⟨#[105,110,99,114,32,50,32,50,32,50,32,49,32,49,32,49]⟩,
  ⟨#[100,101,99,114,32,50,32,50,32,50,32,49,32,49,32,49]⟩,
  ⟨#[105,110,99,114,98,121,32,50,32,51,32,51,32,49,32,49,32,49]⟩,
  ⟨#[100,101,99,114,98,121,32,50,32,51,32,51,32,49,32,49,32,49]⟩,
  ⟨#[105,110,99,114,98,121,102,108,111,97,116,32,50,32,51,32,51,32,49,32,49,32,49]⟩,
  ⟨#[97,112,112,101,110,100,32,50,32,51,32,51,32,49,32,49,32,49]⟩,
  ⟨#[115,116,114,108,101,110,32,49,32,50,32,50,32,49,32,49,32,49]⟩,
  ⟨#[104,115,101,116,32,50,32,52,32,54,52,32,49,32,49,32,49]⟩,
  ⟨#[104,103,101,116,32,49,32,51,32,51,32,49,32,49,32,49]⟩,
  ⟨#[104,100,101,108,32,50,32,51,32,54,52,32,49,32,49,32,49]⟩,
  ⟨#[104,103,101,116,97,108,108,32,49,32,50,32,50,32,49,32,49,32,49]⟩,
  ⟨#[104,108,101,110,32,49,32,50,32,50,32,49,32,49,32,49]⟩,
  ⟨#[104,101,120,105,115,116,115,32,49,32,51,32,51,32,49,32,49,32,49]⟩,
  ⟨#[104,109,103,101,116,32,49,32,51,32,54,52,32,49,32,49,32,49]⟩,
  ⟨#[104,105,110,99,114,98,121,32,50,32,52,32,52,32,49,32,49,32,49]⟩,
  ⟨#[100,101,108,32,50,32,50,32,54,52,32,49,32,45,49,32,49]⟩,
  ⟨#[117,110,108,105,110,107,32,50,32,50,32,54,52,32,49,32,45,49,32,49]⟩,
  ⟨#[101,120,105,115,116,115,32,49,32,50,32,54,52,32,49,32,45,49,32,49]⟩,
  ⟨#[101,120,112,105,114,101,32,50,32,51,32,51,32,49,32,49,32,49]⟩,
  ⟨#[112,101,120,112,105,114,101,32,50,32,51,32,51,32,49,32,49,32,49]⟩,
  ⟨#[112,101,114,115,105,115,116,32,50,32,50,32,50,32,49,32,49,32,49]⟩,
  ⟨#[116,116,108,32,49,32,50,32,50,32,49,32,49,32,49]⟩,
  ⟨#[112,116,116,108,32,49,32,50,32,50,32,49,32,49,32,49]⟩,
  ⟨#[116,121,112,101,32,49,32,50,32,50,32,49,32,49,32,49]⟩,
  ⟨#[102,108,117,115,104,97,108,108,32,50,32,49,32,49,32,48,32,48,32,48]⟩,
  ⟨#[100,98,115,105,122,101,32,49,32,49,32,49,32,48,32,48,32,48]⟩,
  ⟨#[104,101,108,108,111,32,51,32,49,32,50,32,48,32,48,32,48]⟩,
  ⟨#[112,105,110,103,32,51,32,49,32,50,32,48,32,48,32,48]⟩,
  ⟨#[101,99,104,111,32,51,32,50,32,50,32,48,32,48,32,48]⟩,
  ⟨#[114,101,115,101,116,32,51,32,49,32,49,32,48,32,48,32,48]⟩,
  ⟨#[113,117,105,116,32,51,32,49,32,49,32,48,32,48,32,48]⟩,
  ⟨#[99,108,105,101,110,116,32,51,32,50,32,54,52,32,48,32,48,32,48]⟩]
theorem Jvh:(Tryz.prog.info? 9).map (fun i=>(i.zero,i.size,i.bytes))=some (some (.string ByteArray.empty),1,16):=by kernel_rfl
def Jg5:List (Nat×Value):=((J1s.map Value.string).zipIdx 0).map fun x=>(x.2,x.1)
theorem Jtv:Instr.fill (fun i=>some (i*1,1)) ((Array.range (39*1)).map ((Value.string ByteArray.empty).cells[·%(Value.string ByteArray.empty).cells.size]!)) Jg5=some (J1s.map Value.string).toArray:=by kernel_rfl
theorem Jat {ops:Array Oper} {rest:List Oper} {o:Oper} {a:Act} {Q:Exit->Act->World->Prop} (hg:o.guard=none) (parts:Array (Nat×Operand)) (ho:o.op= .buildSlice 23 39 parts)
 (hp:(parts.map fun (i,x)=>(i,a.eval x)).toList=Jg5)
 (h:wpList Tryz.prog ops Q rest (a.put o.dst (.slice (some ⟨w.heap.size,0,none⟩) 39 39)) (w.alloc (J33 J1s))):wpList Tryz.prog ops Q (o::rest) a w:=by
  obtain⟨i,hi,hz,hsz,hby⟩:=info_parts Jvh
  refine wpList_buildSlice hg 23 9 39 parts ho (J1s.map Value.string).toArray i _ Tryz.underlying23 hi hz (by rw[hsz];decide) (by rw[hsz];decide) ?_ h
  rw[hp,hsz];exact Jtv
def Jpj (w0:World) (r:Hp) (e:Ending) (w':World):Prop:=
 ∃b,e= .returned (.slice (some ⟨b,0,none⟩) 39 39)/\J3 w0 [] w' ((b,J33 J1s)::r)
theorem Jr0 (hS:J3 w0 [] w r):Calls Tryz.prog 116 #[] w (Jpj w0 r):=by
 have S1:=hid (hS.alloc (J33 J1s));clear hS;go_enter Tryz.func116,Tryz.ntmps116;go_wp2_with (refine Jat rfl _ rfl rfl ?_);go_ret;exact⟨_,rfl,S1.out⟩
def Jcj (l:ByteArray):List ByteArray:=J8c l.data.toList none []
def Jaj (s:ByteArray):Int:=if s=⟨#[45,49]⟩ then -1 else -rpv s.data.toList
def Jhw (l:ByteArray):Bool:=decide (l.size<=4096)&&l.data.toList.all rwB&&decide ((Jcj l).length=7)&&(Jcj l).all (fun u=>decide (u.size<=4096))&&(((Jcj l).drop 1).all fun s=>decide (s=⟨#[45,49]⟩)||(decide (1<=s.size)&&decide (s.size<=2)&&s.data.toList.all (fun c=>decide (48<=c.toNat)&&decide (c.toNat<=57))&&(decide (s.size=1)||!(s.data.toList[0]? ==some 48))))
theorem Jtw:J1s.all Jhw=true:=by decide+kernel
theorem Jmr:J1s.map (fun l=>(J16 ((Jcj l).headD ByteArray.empty),((Jcj l).drop 1).map Jaj))=Ju.map fun s=>(s.name,[s.kind,s.least,s.most,s.first,s.last,s.step]):=by decide+kernel
theorem Juo {s:ByteArray} (h:(decide (s=⟨#[45,49]⟩)||(decide (1<=s.size)&&decide (s.size<=2)&&s.data.toList.all (fun c=>decide (48<=c.toNat)&&decide (c.toNat<=57))&&(decide (s.size=1)||!(s.data.toList[0]? ==some 48))))=true) (w:World):
 Calls Tryz.prog 118 #[.string s] w fun e w'=>e= .returned (.tuple #[.int .i64 (Jaj s),.int .i64 0])/\w'=w:=by
 unfold Jaj;by_cases hs:s=⟨#[45,49]⟩
 ·rw[if_pos hs,hs];exact Jx3 w
 ·rw[if_neg hs]
  simp only[hs,decide_false,Bool.false_or,Bool.and_eq_true,decide_eq_true_eq,List.all_eq_true,Bool.or_eq_true,Bool.not_eq_true',beq_eq_false_iff_ne] at h;obtain⟨⟨⟨h1,h2⟩,h3⟩,h4⟩:=h
  exact Jun s (fun c hc=>h3 c hc) h1 (by omega) h4 w
theorem Jkj {bytes n:Nat} {z:Value} {t e:TypeId} (ht:Tryz.prog.underlying t=some (.slice e)) (hinfo:(Tryz.prog.info? e).map (fun i=>(i.zero,i.size,i.bytes))=some (some z,k,bytes)) (hzs:z.cells.size=k) (hk:0<k)
 {xs:List Value} (hS:J3 w0 [] w (sl++r)) (hsl:SliceHp k e v n xs sl) (news:List Value) (hl:news.length=k) (h1:∀u∈news,u.oneCell'=true) (hb:(n+1)*bytes<=140737488355328) (h63:n+1<=maxLen):
  ∃v' w' sl',(Builtin.append_ #[t,t] t #[v,.slice (some ⟨w.heap.size,0,none⟩) 1 1]).run Tryz.prog (w.alloc (.cells news.toArray e))= .ok v' w'/\SliceHp k e v' (n+1) (xs++news) sl'/\J3 w0 [] w' (sl'++r):=by
  have S1:J3 w0 [] (w.alloc (.cells news.toArray e)) (sl++((w.heap.size,.cells news.toArray e (0,0))::r)):=(hS.alloc _).permR (J5 fun f=>by simp only[SC];omega)
  have hh:=S1.own.right.head
  obtain⟨v',w',sl',hrun,hsl',S',_⟩:=J1f (P:=Tryz.prog) (ty:=t) ht ht hinfo hzs hk S1 hsl ⟨w.heap.size,0,none⟩ 1 1 news (by rw[hl,Nat.one_mul]) (fun j u hu=>by
   rw[J0i,Nat.zero_add,J2 hh,<-hu,List.getElem?_toArray]) h1 (by decide) hb h63
  exact⟨v',w',sl',hrun,hsl',S'.letGo⟩
def J76 (l:List Int):List Value:=l.map fun z=>.int .i64 z
def Jvy (w0:World) (r:Hp) (e:Ending) (w':World):Prop:=∃v sl,e= .returned v/\SliceHp 7 45 v 39 (J03 Ju) sl/\J3 w0 [] w' (sl++r)
theorem Jwo (hk:k<39):∃l sp u ns,J1s[k]? =some l/\Ju[k]? =some sp/\Jcj l=u::ns/\ns.length=6/\J16 u=sp.name/\ns.map Jaj=[sp.kind,sp.least,sp.most,sp.first,sp.last,sp.step]/\Jhw l=true:=by
 have h1:k<J1s.length:=hk;have h2:k<Ju.length:=hk;have e:=congrArg (·[k]?) Jmr;simp only[List.getElem?_map,List.getElem?_eq_getElem h1,List.getElem?_eq_getElem h2,Option.map_some,Option.some.injEq,Prod.mk.injEq] at e;have hok:=List.all_eq_true.1 Jtw _ (List.getElem_mem h1);generalize hl:J1s[k]=l at e hok;generalize hs:Ju[k]=sp at e
 have h7:(Jcj l).length=7:=by
  simp only[Jhw,Bool.and_eq_true,decide_eq_true_eq] at hok;exact hok.1.1.2
 cases hr:Jcj l with
 |nil=>rw[hr] at h7;cases h7
 |cons u ns=>
  rw[hr] at e h7;exact⟨l,sp,u,ns,by rw[List.getElem?_eq_getElem h1];exact congrArg some hl,by rw[List.getElem?_eq_getElem h2];exact congrArg some hs,hr,by simpa using h7,e.1,e.2,hok⟩
theorem Juj (hS:J3 w0 [] w r):Calls Tryz.prog 64 #[] w (Jvy w0 r):=by
 obtain⟨b,hb⟩:∃b,b=w.heap.size:=⟨_,rfl⟩
 have S1:J3 w0 [] (w.alloc (.cells #[] 45)) ((b,.cells #[] 45 (0,0))::r):=by subst hb;exact hS.alloc _
 have hlines:=hid (Jr0 S1);have h0:SliceHp 7 45 (.slice (some ⟨b,0,none⟩) 0 0) 0 (J03 (Ju.take 0)) [(b,.cells #[] 45 (0,0))]:=.laid b 0 0 [] [] rfl rfl (by decide) (by unfold maxLen;decide)
 replace h0:=hid h0;clear S1 hS;go_enter Tryz.func64,Tryz.ntmps64;go_wp2_with fail;rw[<-hb];replace hb:=hid hb;refine hlines.out.mono ?_;rintro e w1 ⟨lb,rfl,S1⟩;clear hlines;have hD:Hid (∃sl,SliceHp 7 45 (.slice (some ⟨b,0,none⟩) 0 0) 0 (J03 (Ju.take 0)) sl/\J3 w0 [] w1 (sl++((lb,J33 J1s)::r))):=hid ⟨_,h0.out,S1.permR (J5 fun f=>by simp only[SC];omega)⟩
 clear S1 h0;go_wp2_with fail;go_loopw [1,3,4,5,6,8,9,10,14,24,25,26,27] (fun s1 s3 s4 s5 s6 s8 s9 s10 s14 s24 s25 s26 s27 wr=>∃(k:Nat) (v:Value),s14= .int .i64 k/\s1=v/\k<=39/\Hid (∃sl,SliceHp 7 45 v k (J03 (Ju.take k)) sl/\J3 w0 [] wr (sl++((lb,J33 J1s)::r)))) (fun s1 s3 s4 s5 s6 s8 s9 s10 s14 s24 s25 s26 s27 wr=>(39 - intOf s14).toNat)
 case atStart=>exact⟨0,_,rfl,rfl,by decide,hD⟩
 case round=>
  obtain⟨k,v,rfl,hv,hk,h1⟩:=hrel
  replace hv:=hv.symm;subst hv;clear hD;by_cases hlt:k<39
  ·have hlt9:k<39:=hlt
   have hlt2:(k:Int)<39:=by omega
   obtain⟨l,sp,u,ns,hl,hsp,hrow,h6,hup,hnum,hok⟩:=Jwo hlt
   simp only[Jhw,Bool.and_eq_true,decide_eq_true_eq,List.all_eq_true] at hok;obtain⟨⟨⟨⟨o1,o2⟩,o3⟩,o4⟩,o5⟩:=hok
   obtain⟨sl,hsl,S1⟩:=h1.out
   have cl:wr.cell? ⟨lb,k,none⟩=some (.string l):=by
    rw[J2 S1.own.right.head,List.getElem?_toArray,List.getElem?_map,hl];rfl
   have hw:=hid (Jnf S1 l o1 (fun c hc=>o2 c hc) (u::ns) hrow (by simp only[List.length_cons];omega) (by rw[<-hrow];exact o4) (by simp))
   have hu40:=o4 u (by rw[hrow];simp)
   have hns:∀s∈ns,_:=fun s hs=>o5 s (by rw[hrow];exact hs)
   replace hsl:=hid hsl;replace hns:=hid hns;replace hnum:=hid hnum;replace hup:=hid hup;replace hsp:=hid hsp;replace h6:=hid h6;clear h1 S1 hl hrow o1 o2 o3 o4 o5;go_wp2_with fail;refine hw.out.mono ?_;rintro e w2 ⟨wv,wl,rfl,hws,S2⟩;clear hw;obtain⟨g,c,rest,hwv,hwl,hc7,_⟩:=J3r.form hws (by simp)
   have e7:(u::ns).length=7:=by rw[List.length_cons,h6.out]
   rw[e7] at hwv hc7;subst hwv;have hc6:¬c - 1=0:=by omega
   obtain⟨R,hR⟩:∃R:Hp,R=wl++(sl++((lb,J33 J1s)::r)):=⟨_,rfl⟩
   rw[<-hR] at S2;have hgm:∀w',J3 w0 [] w' R->w'.heap[g]? =some (.cells ((u::ns).map Value.string++rest).toArray 9 (0,0)):=fun w' h=>h.own.at_ (g,_) (by rw[hR,hwl];simp)
   have hg0:∀w' nl,J3 w0 [] w' (nl++R)->w'.cell? ⟨g,0,none⟩=some (.string u):=fun w' nl h=>by
    have h2:w'.heap[g]? =some (.cells ((u::ns).map Value.string++rest).toArray 9 (0,0)):=h.own.right.at_ (g,_) (by rw[hR,hwl];simp)
    rw[J2 h2];rfl
   have hgj:∀w' nl,J3 w0 [] w' (nl++R)->∀j s,ns[j]? =some s->w'.cell? ⟨g,1+j,none⟩=some (.string s):=fun w' nl h j s hs=>by
    have h2:w'.heap[g]? =some (.cells ((u::ns).map Value.string++rest).toArray 9 (0,0)):=h.own.right.at_ (g,_) (by rw[hR,hwl];simp)
    have hj:j<ns.length:=(List.getElem?_eq_some_iff.1 hs).1;rw[J2 h2,List.getElem?_toArray,List.getElem?_append_left (by simp;omega),Nat.add_comm,List.getElem?_map,List.getElem?_cons_succ,hs];rfl
   obtain⟨nb,hnb⟩:∃nb,nb=w2.heap.size:=⟨_,rfl⟩
   have hN:Hid (∃nl,SliceHp 1 3 (.slice (some ⟨nb,0,none⟩) 0 0) 0 (J76 ((ns.take 0).map Jaj)) nl/\J3 w0 [] (w2.alloc (.cells #[] 3)) (nl++R)):=by
    subst hnb;exact hid ⟨_,.laid w2.heap.size 0 0 [] [] rfl rfl (by decide) (by unfold maxLen;decide),S2.alloc (.cells #[] 3)⟩
   replace hR:=hid hR;replace hg0:=hid hg0;replace hgj:=hid hgj;replace hnb:=hid hnb;replace hwl:=hid hwl;clear hgm hws S2 e7;go_wp2_with fail;try rw[<-hnb.out]
   go_loopw [6,8,9,10,27] (fun s6 s8 s9 s10 s27 wr=>∃(j:Nat) (nv:Value),s27= .int .i64 j/\s6=nv/\j<=6/\Hid (∃nl,SliceHp 1 3 nv j (J76 ((ns.take j).map Jaj)) nl/\J3 w0 [] wr (nl++R))) (fun s6 s8 s9 s10 s27 wr=>(6 - intOf s27).toNat)
   case atStart=>exact⟨0,_,rfl,rfl,by decide,hN⟩
   case round=>
    obtain⟨j,nv,rfl,hv,hj,h2⟩:=hrel
    replace hv:=hv.symm;subst hv;clear hN;by_cases hlt3:j<6
    ·have hlt4:(j:Int)<6:=by omega
     obtain⟨s,hs⟩:∃s,ns[j]? =some s:=⟨ns[j]'(by rw[h6.out];exact hlt3),List.getElem?_eq_getElem _⟩
     obtain⟨nl,hnl,S3⟩:=h2.out
     have cs:=hgj.out wr nl S3 j s hs;have hp:=Juo (hns.out s (List.mem_of_getElem? hs)) wr;obtain⟨v',w',sl',hrun,hnl',S4⟩:=Jkj Tryz.underlying52 Joo rfl (by decide) S3 hnl [.int .i64 (Jaj s)] rfl (by simp[Value.oneCell']) (by omega) (by unfold maxLen;omega)
     have h3:Hid (∃nl,SliceHp 1 3 v' (j+1) (J76 ((ns.take (j+1)).map Jaj)) nl/\J3 w0 [] w' (nl++R)):=hid ⟨sl',by rw[List.take_add_one,hs];simpa[J76] using hnl',S4⟩
     generalize Jaj s=z at hp hrun;replace hp:=hid hp;replace hrun:=hid hrun;clear h2 S3 hnl hnl' S4 hs;go_wp2_with fail;refine hp.out.mono ?_;rintro e w3 ⟨rfl,rfl⟩;clear hp;go_wp2_with (at_builtin;refine J8 rfl _ _ _ _ rfl _ _ rfl rfl hrun.out ?_);go_roundw
     case rel=>exact⟨j+1,_,by go_num,rfl,hlt3,h3⟩
     case measure=>simp[intOf];omega
    ·obtain rfl:j=6:=by omega
     obtain⟨nl,hnl,S3⟩:=h2.out
     rw[List.take_of_length_le (by rw[h6.out];exact Nat.le_refl _),hnum.out] at hnl
     obtain⟨gn,cn,nrest,hnv,hnl2⟩:∃gn cn nrest,nv= .slice (some ⟨gn,0,none⟩) 6 cn/\nl=[(gn,.cells (J76 [sp.kind,sp.least,sp.most,sp.first,sp.last,sp.step]++nrest).toArray 3 (0,0))]:=by
      generalize hq:J76 [sp.kind,sp.least,sp.most,sp.first,sp.last,sp.step]=xs at hnl⊢;generalize h66:6=n6 at hnl⊢;cases hnl with
      |nil=>cases h66
      |laid g n cap xs rest q1 q2 q3 q4=>exact⟨g,cap,rest,rfl,rfl⟩
     subst hnv;obtain⟨R2,hR2⟩:∃R2:Hp,R2=nl++(wl++((lb,J33 J1s)::r)):=⟨_,rfl⟩
     have S4:J3 w0 [] wr (sl++R2):=S3.permR (J5 fun f=>by
      rw[hR2,hR.out];simp only[SC];omega)
     have hg9:∀w' x,J3 w0 [] w' (x++R2)->w'.cell? ⟨g,0,none⟩=some (.string u):=fun w' x h=>by
      have h2:w'.heap[g]? =some (.cells ((u::ns).map Value.string++rest).toArray 9 (0,0)):=h.own.right.at_ (g,_) (by rw[hR2,hwl.out];simp)
      rw[J2 h2];rfl
     have hkeep:Hid (∀w':World,Hid (InX w0 R2 w')->w'.cell? ⟨gn,0,none⟩=some (.int .i64 sp.kind)/\w'.cell? ⟨gn,1,none⟩=some (.int .i64 sp.least)/\w'.cell? ⟨gn,2,none⟩=some (.int .i64 sp.most)/\w'.cell? ⟨gn,3,none⟩=some (.int .i64 sp.first)/\w'.cell? ⟨gn,4,none⟩=some (.int .i64 sp.last)/\w'.cell? ⟨gn,5,none⟩=some (.int .i64 sp.step)/\w'.cell? ⟨g,0,none⟩=some (.string u)/\Hid (InX w0 R2 w')):=hid fun w' hx=>by
      have hgn:w'.heap[gn]? =some (.cells (J76 [sp.kind,sp.least,sp.most,sp.first,sp.last,sp.step]++nrest).toArray 3 (0,0)):=InX.get hx (p:=(gn,_)) (by rw[hR2,hnl2];simp)
      obtain⟨x,hx2⟩:=hx.out
      exact⟨J2 hgn 0,J2 hgn 1,J2 hgn 2,J2 hgn 3,J2 hgn 4,J2 hgn 5,hg9 w' x hx2,hx⟩
     have hs1:Hid (J3 w0 [] wr.drew (sl++R2)):=hid S4.drew;have hx1:Hid (InX w0 R2 wr.drew):=hid ⟨sl,S4.drew⟩
     have hupc:Hid (∀w',J3 w0 [] w' (sl++R2)->Calls Tryz.prog 65 #[.string u] w' (Kr w0 (sl++R2) (.string sp.name))):=hid fun w' h=>by
      have:=J9x h u (by omega)
      rw[hup.out] at this;exact this
     have hpush:Hid (∀w',J3 w0 [] w' (sl++R2)->∃v' w6 sl',(Builtin.append_ #[127,127] 127 #[v,.slice (some ⟨w'.heap.size,0,none⟩) 1 1]).run Tryz.prog (w'.alloc (.cells #[.string sp.name,.int .i64 sp.kind,.int .i64 sp.least,.int .i64 sp.most,.int .i64 sp.first,.int .i64 sp.last,.int .i64 sp.step] 45))= .ok v' w6/\SliceHp 7 45 v' (k+1) (J03 (Ju.take (k+1))) sl'/\J3 w0 [] w6 (sl'++R2)):=hid fun w' h=>by
      obtain⟨v',w6,sl',q1,q2,q3⟩:=Jkj Tryz.underlying127 Jl7 rfl (by decide) h hsl.out sp.cells rfl (by intro x hx;simp only[Sp.cells,List.mem_cons,List.not_mem_nil,or_false] at hx;rcases hx with rfl|rfl|rfl|rfl|rfl|rfl|rfl<;>rfl) (by omega) (by unfold maxLen;omega)
      refine⟨v',w6,sl',q1,?_,q3⟩
      rw[List.take_add_one,hsp.out];simpa[J03] using q2
     have hfin:Hid (∀w6 sl',J3 w0 [] w6 (sl'++R2)->J3 w0 [] w6 (sl'++((lb,J33 J1s)::r))):=hid fun w6 sl' h=>h.pick (m:=nl++wl) (J5 fun f=>by
      rw[hR2];simp only[SC];omega)
     clear S3 S4 hnl hnl2 h2 hg9 hR hR2 hwl hg0 hgj hns hnum hup hsp hsl hlt hlt2 hlt3;have hlt2:(k:Int)<39:=by omega
     go_upto_region 13 with fail
     go_region_held_law (fun w'=>w'.cell? ⟨gn,0,none⟩=some (.int .i64 sp.kind)/\w'.cell? ⟨gn,1,none⟩=some (.int .i64 sp.least)/\w'.cell? ⟨gn,2,none⟩=some (.int .i64 sp.most)/\w'.cell? ⟨gn,3,none⟩=some (.int .i64 sp.first)/\w'.cell? ⟨gn,4,none⟩=some (.int .i64 sp.last)/\w'.cell? ⟨gn,5,none⟩=some (.int .i64 sp.step)/\w'.cell? ⟨g,0,none⟩=some (.string u)/\Hid (InX w0 R2 w'))
      (first|(with_reducible exact hkeep.out _ hx1)|(with_reducible exact hkeep.out _ hx6)|(with_reducible exact hkeep.out _ hx5)|(with_reducible exact hkeep.out _ (hx5a _))|(fail "keep"))
      (first|(refine J7k rfl _ _ _ _ rfl _ _ rfl rfl hrun.out ?_)|(go_at_call 65;refine(hupc.out _ hs1.out).mono ?_;rintro e w5 ⟨rfl,S5⟩;obtain⟨v',w6,sl',hrun,hsl',S6⟩:=hpush.out w5 S5;have hx5:Hid (InX w0 R2 w5):=hid ⟨sl,S5⟩;have hx5a:∀o,Hid (InX w0 R2 (w5.alloc o)):=fun o=>hid ⟨_::sl,S5.alloc o⟩;have hx6:Hid (InX w0 R2 w6):=hid ⟨sl',S6⟩;replace hrun:=hid hrun;replace hsl':=hid hsl';replace S6:=hid S6;clear S5))
     all_goals (
      have h7:Hid (∃sl,SliceHp 7 45 v' (k+1) (J03 (Ju.take (k+1))) sl/\J3 w0 [] w6 (sl++((lb,J33 J1s)::r))):=hid ⟨sl',hsl'.out,hfin.out w6 sl' S6.out⟩;clear hkeep hs1 hx1 hupc hpush hfin hrun hsl' S6 hx5 hx5a hx6;go_wp2_with fail;go_roundw
      case rel=>exact⟨k+1,_,by go_num,rfl,hlt9,h7⟩
      case measure=>simp[intOf];omega)
  ·obtain rfl:k=39:=by omega
   obtain⟨sl,hsl,S1⟩:=h1.out
   rw[show Ju.take 39=Ju from rfl] at hsl;replace hsl:=hid hsl;replace S1:=hid S1;clear h1;go_wp2_with fail;go_ret;exact⟨_,sl,rfl,hsl.out,S1.out.letGo⟩
end Go.Proofs.YtncbcaabanoeoaaGreatDoor
