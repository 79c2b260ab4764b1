/-
container/heap's up and down over expiry's row: the entries are the same ones, in some order.
-/
import Derived.Test.YtefjbegnlolgbaaGreatDoorQ04
set_option linter.unusedVariables false
set_option linter.unusedSimpArgs false
set_option maxRecDepth 100000
set_option maxHeartbeats 8000000
namespace Go.Proofs.YtefjbegnlolgbaaGreatDoor
open Go Go.RowKit
variable {w0 w:World}{l r sl:Hp}{xb mb g cap i:Nat}{es:List En}{P:Program}{t:TypeId}{a:Addr}{x:En}
theorem J3q {n j:Nat} (hS:J1 w0 l w (Jp xb mb (.slice (some ⟨g,0,none⟩) n cap) sl es++r)) (hat:Ky (.slice (some ⟨g,0,none⟩) n cap) sl es) (hi:i<es.length) (hj:j<es.length):
 Calls Tryz.prog 439 #[.slice (some ⟨g,0,none⟩) n cap,.int .i64 i,.int .i64 j] w fun e w'=>e= .returned (.bool (J4n es[i] es[j]))/\J1 w0 l w' (Jp xb mb (.slice (some ⟨g,0,none⟩) n cap) sl es++r):=by
 obtain⟨hsl⟩:=hat
 generalize hxs:es.map Kp=xs at hsl;generalize hn:es.length=n' at hsl;cases hsl with
 |laid g n cap xs rest hx hr hnc hc=>
 subst hxs;have hown:=hS.own;have hg:w.heap[g]? =some (.cells ((es.map Kp)++rest).toArray 331 (0,0)):=hown.at_ (g,_) (by simp[Jp])
 have hcell:∀a (ha:a<es.length),w.cell? ⟨g,a,none⟩=some (J1i (es[a]).b):=by
  intro a ha
  rw[J0 hg];simp only[List.getElem?_toArray];rw[List.getElem?_append_left (by simpa using ha)]
  simp[Kp,List.getElem?_eq_getElem ha]
 have hen:∀a (ha:a<es.length),w.heap[(es[a]).b]? =some (J0y es[a] a):=fun a ha=>J90 (r1:=[(xb,_),(g,_)]) (r2:=r) (by simpa[Jp] using hown) ha
 refine(Jio g n cap i j es[i] es[j] w (by omega) (by omega) hnc hc (hcell i hi) (hcell j hj) (J0 (hen i hi) 0) (J0 (hen i hi) 1) (J0 (hen j hj) 0) (J0 (hen j hj) 1)).mono ?_
 rintro e w' ⟨he,hs⟩;exact⟨he,hS.part (a:=[]) (a':=[]) (List.Perm.refl _) hs⟩
theorem Jja (x y:String):(Builtin.ssaWrapNilChk_ #[t] t #[.pointer (some a),strVal x,strVal y]).run P w= .ok (.pointer (some a)) w:=rfl
theorem J3a {fuel:Nat} {elem:TypeId} {name:String} {m:Method} {i:TypeInfo} {f:FuncId} {v:Value} (hi:P.info? t=some i) (hm:i.methods.find? (·.name==name)=some m) (hp:m.path= #[])
 (hf:m.func=some (f,false)) (hu:P.underlying t=some (.pointer elem)) (hl:(loadVar elem a).run P w= .ok v w):(method (fuel+1) t (.pointer (some a)) name).run P w= .ok (f,v) w:=by
  unfold method;simp[typeInfo,hi,hm,hp,hf,follow,receiverAt,run_underlying hu,Place.get,Jja,asAddr,hl]
theorem J50 {fuel:Nat} {elem:TypeId} {name:String} {m:Method} {i:TypeInfo} {f:FuncId} (hi:P.info? t=some i) (hm:i.methods.find? (·.name==name)=some m) (hp:m.path= #[])
 (hf:m.func=some (f,true)) (hu:P.underlying t=some (.pointer elem)):(method (fuel+1) t (.pointer (some a)) name).run P w= .ok (f,.pointer (some a)) w:=by
  unfold method;simp[typeInfo,hi,hm,hp,hf,follow,receiverAt,run_underlying hu,Place.get]
theorem J3u (name:String) (f:FuncId) (b:Bool) (h:((Tryz.prog.info? 334).bind fun i=>(i.methods.find? (·.name==name)).map fun m=>(m.path.size,m.func))=some (0,some (f,b))):
 ∃i m,Tryz.prog.info? 334=some i/\i.methods.find? (·.name==name)=some m/\m.path= #[]/\m.func=some (f,b):=by
 cases hi:Tryz.prog.info? 334 with
 |none=>rw[hi] at h;cases h
 |some i=>
  rw[hi] at h;cases hm:i.methods.find? (·.name==name) with
  |none=>simp[hm] at h
  |some m=>
   simp[hm] at h;exact⟨i,m,rfl,hm,h.1,h.2⟩
theorem J7s (xb:Nat) (v:Value) (n:Nat) (w:World) (h:w.cell? ⟨xb,0,none⟩=some v):(method (n+1) 334 (.pointer (some ⟨xb,0,none⟩)) "Less").run Tryz.prog w= .ok (439,v) w:=by
 obtain⟨i,m,hi,hm,hp,hf⟩:=J3u "Less" 439 false (by kernel_rfl)
 exact J3a hi hm hp hf Tryz.underlying334 (by simp[go_sem,h])
theorem J4u (xb:Nat) (v:Value) (n:Nat) (w:World) (h:w.cell? ⟨xb,0,none⟩=some v):(method (n+1) 334 (.pointer (some ⟨xb,0,none⟩)) "Swap").run Tryz.prog w= .ok (440,v) w:=by
 obtain⟨i,m,hi,hm,hp,hf⟩:=J3u "Swap" 440 false (by kernel_rfl)
 exact J3a hi hm hp hf Tryz.underlying334 (by simp[go_sem,h])
theorem J5w (xb:Nat) (v:Value) (n:Nat) (w:World) (h:w.cell? ⟨xb,0,none⟩=some v):(method (n+1) 334 (.pointer (some ⟨xb,0,none⟩)) "Len").run Tryz.prog w= .ok (438,v) w:=by
 obtain⟨i,m,hi,hm,hp,hf⟩:=J3u "Len" 438 false (by kernel_rfl)
 exact J3a hi hm hp hf Tryz.underlying334 (by simp[go_sem,h])
theorem Jdh (xb:Nat) (n:Nat) (w:World):(method (n+1) 334 (.pointer (some ⟨xb,0,none⟩)) "Push").run Tryz.prog w= .ok (449,.pointer (some ⟨xb,0,none⟩)) w:=by
 obtain⟨i,m,hi,hm,hp,hf⟩:=J3u "Push" 449 true (by kernel_rfl)
 exact J50 hi hm hp hf Tryz.underlying334
theorem Jet (xb:Nat) (n:Nat) (w:World):(method (n+1) 334 (.pointer (some ⟨xb,0,none⟩)) "Pop").run Tryz.prog w= .ok (448,.pointer (some ⟨xb,0,none⟩)) w:=by
 obtain⟨i,m,hi,hm,hp,hf⟩:=J3u "Pop" 448 true (by kernel_rfl)
 exact J50 hi hm hp hf Tryz.underlying334
abbrev Jj8 (xb:Nat):Value:=.iface 334 (.pointer (some ⟨xb,0,none⟩))
theorem Jf9 {n j:Nat} (hS:J1 w0 l w (Jp xb mb (.slice (some ⟨g,0,none⟩) n cap) sl es++r)) (hat:Ky (.slice (some ⟨g,0,none⟩) n cap) sl es) (hj:j<es.length) (hB:es.length<=1099511627776):
 Calls Tryz.prog 297 #[Jj8 xb,.int .i64 j] w fun e w'=>e= .returned (.tuple #[])/\∃sl' es',(es'.Perm es/\es'.drop (j+1)=es.drop (j+1))/\Ky (.slice (some ⟨g,0,none⟩) n cap) sl' es'/\J1 w0 l w' (Jp xb mb (.slice (some ⟨g,0,none⟩) n cap) sl' es'++r):=by
 have hS':=hid hS;have hat':=hid hat;have hml:=J7s xb (.slice (some ⟨g,0,none⟩) n cap);have hms:=J4u xb (.slice (some ⟨g,0,none⟩) n cap);clear hS hat;go_enter Tryz.func297,Tryz.ntmps297;go_wp2_with fail;go_loopw [1] (fun c wr=>∃(k:Nat) (sl':Hp) (es':List En),c= .int .i64 k/\k<=j/\Hid (es'.length=es.length)/\Hid (es'.Perm es/\es'.drop (j+1)=es.drop (j+1))/\Hid (Ky (.slice (some ⟨g,0,none⟩) n cap) sl' es')/\Hid (J1 w0 l wr (Jp xb mb (.slice (some ⟨g,0,none⟩) n cap) sl' es'++r))) (fun c _=>(intOf c).toNat)
 case atStart=>exact⟨j,sl,es,rfl,Nat.le_refl _,hid rfl,hid ⟨List.Perm.refl _,rfl⟩,hat',hS'⟩
 case round=>
  obtain⟨k,sl',es',rfl,hk,hlen,hperm,hat2,hS2⟩:=hrel
  have c0:wr.cell? ⟨xb,0,none⟩=some (.slice (some ⟨g,0,none⟩) n cap):=J0 hS2.out.own.head 0;by_cases hk0:k=0
  ·subst hk0
   go_wp2_with fail;go_end0
   exact⟨rfl,sl',es',hperm.out,hat2.out,hS2.out⟩
  ·have hkp:0<k:=by omega
   obtain⟨i,hik,hii⟩:∃i:Nat,i<k/\((k:Int) - 1)/2=(i:Int):=⟨(k - 1)/2,by omega,by omega⟩
   have hbq:((i:Int)==(k:Int))=false:=by rw[beq_eq_false_iff_ne];omega
   have hless:=hid (J3q hS2.out hat2.out (i:=k) (j:=i) (by rw[hlen.out];omega) (by rw[hlen.out];omega))
   clear hk0;go_wp2_with fail;refine hless.out.mono ?_;rintro e w2 ⟨rfl,S3⟩;have c0':w2.cell? ⟨xb,0,none⟩=some (.slice (some ⟨g,0,none⟩) n cap):=J0 S3.own.head 0;have hswap:=hid (J3r S3 hat2.out hik (by rw[hlen.out];omega))
   replace S3:=hid S3;clear hless c0;cases hlt:J4n (es'[k]'(by rw[hlen.out];omega)) (es'[i]'(by rw[hlen.out];omega)) with
   |true=>
    go_wp2_with fail;refine hswap.out.mono ?_;rintro e w3 ⟨rfl,sl3,hat3,S4⟩;replace hat3:=hid hat3;replace S4:=hid S4;go_wp2_with fail;go_roundw
    case rel=>exact⟨i,sl3,J3b es' i k,rfl,by omega,hid (by rw[J3v];exact hlen.out),hid ⟨(J3c hik (by rw[hlen.out];omega)).trans hperm.out.1,(J4c hik (by omega)).trans hperm.out.2⟩,hat3,S4⟩
    case measure=>simp[intOf];omega
   |false=>
    go_wp2_with fail;go_end0
    exact⟨rfl,sl',es',hperm.out,hat2.out,S3.out⟩
def Jht (e:Ending):Prop:=∃b,e= .returned (.bool b)
theorem Jd0 {n m:Nat} (hS:J1 w0 l w (Jp xb mb (.slice (some ⟨g,0,none⟩) n cap) sl es++r)) (hat:Ky (.slice (some ⟨g,0,none⟩) n cap) sl es) (hi:i<=m) (hm:m<=es.length) (hB:es.length<=1099511627776):
 Calls Tryz.prog 296 #[Jj8 xb,.int .i64 i,.int .i64 m] w fun e w'=>Jht e/\∃sl' es',(es'.Perm es/\es'.drop m=es.drop m)/\Ky (.slice (some ⟨g,0,none⟩) n cap) sl' es'/\J1 w0 l w' (Jp xb mb (.slice (some ⟨g,0,none⟩) n cap) sl' es'++r):=by
 have hS':=hid hS;have hat':=hid hat;have hml:=J7s xb (.slice (some ⟨g,0,none⟩) n cap);have hms:=J4u xb (.slice (some ⟨g,0,none⟩) n cap);clear hS hat;go_enter Tryz.func296,Tryz.ntmps296;go_wp2_with fail;go_loopw [7] (fun c wr=>∃(k:Nat) (sl':Hp) (es':List En),c= .int .i64 k/\k<=m/\Hid (es'.length=es.length)/\Hid (es'.Perm es/\es'.drop m=es.drop m)/\Hid (Ky (.slice (some ⟨g,0,none⟩) n cap) sl' es')/\Hid (J1 w0 l wr (Jp xb mb (.slice (some ⟨g,0,none⟩) n cap) sl' es'++r))) (fun c _=>m - (intOf c).toNat)
 case atStart=>exact⟨i,sl,es,rfl,hi,hid rfl,hid ⟨List.Perm.refl _,rfl⟩,hat',hS'⟩
 case round=>
  obtain⟨k,sl',es',rfl,hk,hlen,hperm,hat2,hS2⟩:=hrel
  have c0:wr.cell? ⟨xb,0,none⟩=some (.slice (some ⟨g,0,none⟩) n cap):=J0 hS2.out.own.head 0;by_cases h1:2*k+1<m
  ·by_cases h2:2*k+2<m
   ·have hless:=hid (J3q hS2.out hat2.out (i:=2*k+2) (j:=2*k+1) (by rw[hlen.out];omega) (by rw[hlen.out];omega))
    have ecast:((2*k+2:Nat):Int)=2*(k:Int)+1+1:=by omega
    have ecast1:((2*k+1:Nat):Int)=2*(k:Int)+1:=by omega
    rw[ecast,ecast1] at hless;clear ecast ecast1;go_wp2_with fail;refine hless.out.mono ?_;rintro e w3 ⟨rfl,S3⟩;replace S3:=hid S3;clear hless c0;cases hb:J4n (es'[2*k+2]'(by rw[hlen.out];omega)) (es'[2*k+1]'(by rw[hlen.out];omega)) with
    |true=>
     have c0b:w3.cell? ⟨xb,0,none⟩=some (.slice (some ⟨g,0,none⟩) n cap):=J0 S3.out.own.head 0;have hless2:=hid (J3q S3.out hat2.out (i:=2*k+2) (j:=k) (by rw[hlen.out];omega) (by rw[hlen.out];omega))
     have ecj:((2*k+2:Nat):Int)=2*(k:Int)+1+1:=by omega
     rw[ecj] at hless2;go_wp2_with fail;refine hless2.out.mono ?_;rintro e w4 ⟨rfl,S4⟩;have c0c:w4.cell? ⟨xb,0,none⟩=some (.slice (some ⟨g,0,none⟩) n cap):=J0 S4.own.head 0;have hswap:=hid (J3r S4 hat2.out (i:=k) (j:=2*k+2) (by omega) (by rw[hlen.out];omega))
     rw[ecj] at hswap;clear ecj;replace S4:=hid S4;clear hless2 c0b;cases hlt:J4n (es'[2*k+2]'(by rw[hlen.out];omega)) (es'[k]'(by rw[hlen.out];omega)) with
     |true=>
      go_wp2_with fail;refine hswap.out.mono ?_;rintro e w5 ⟨rfl,sl5,hat5,S5⟩;replace hat5:=hid hat5;replace S5:=hid S5;go_wp2_with fail;go_roundw
      case rel=>exact⟨2*k+2,sl5,J3b es' k (2*k+2),by go_num,by omega,hid (by rw[J3v];exact hlen.out),hid ⟨(J3c (by omega) (by rw[hlen.out];omega)).trans hperm.out.1,(J4c (by omega) (by omega)).trans hperm.out.2⟩,hat5,S5⟩
      case measure=>simp[intOf];omega
     |false=>
      go_wp2_with fail;go_ret;exact⟨⟨_,rfl⟩,sl',es',hperm.out,hat2.out,S4.out⟩
    |false=>
     have c0b:w3.cell? ⟨xb,0,none⟩=some (.slice (some ⟨g,0,none⟩) n cap):=J0 S3.out.own.head 0;have hless2:=hid (J3q S3.out hat2.out (i:=2*k+1) (j:=k) (by rw[hlen.out];omega) (by rw[hlen.out];omega))
     have ecj:((2*k+1:Nat):Int)=2*(k:Int)+1:=by omega
     rw[ecj] at hless2;go_wp2_with fail;refine hless2.out.mono ?_;rintro e w4 ⟨rfl,S4⟩;have c0c:w4.cell? ⟨xb,0,none⟩=some (.slice (some ⟨g,0,none⟩) n cap):=J0 S4.own.head 0;have hswap:=hid (J3r S4 hat2.out (i:=k) (j:=2*k+1) (by omega) (by rw[hlen.out];omega))
     rw[ecj] at hswap;clear ecj;replace S4:=hid S4;clear hless2 c0b;cases hlt:J4n (es'[2*k+1]'(by rw[hlen.out];omega)) (es'[k]'(by rw[hlen.out];omega)) with
     |true=>
      go_wp2_with fail;refine hswap.out.mono ?_;rintro e w5 ⟨rfl,sl5,hat5,S5⟩;replace hat5:=hid hat5;replace S5:=hid S5;go_wp2_with fail;go_roundw
      case rel=>exact⟨2*k+1,sl5,J3b es' k (2*k+1),by go_num,by omega,hid (by rw[J3v];exact hlen.out),hid ⟨(J3c (by omega) (by rw[hlen.out];omega)).trans hperm.out.1,(J4c (by omega) (by omega)).trans hperm.out.2⟩,hat5,S5⟩
      case measure=>simp[intOf];omega
     |false=>
      go_wp2_with fail;go_ret;exact⟨⟨_,rfl⟩,sl',es',hperm.out,hat2.out,S4.out⟩
   ·clear c0
    have c0b:wr.cell? ⟨xb,0,none⟩=some (.slice (some ⟨g,0,none⟩) n cap):=J0 hS2.out.own.head 0;have hless2:=hid (J3q hS2.out hat2.out (i:=2*k+1) (j:=k) (by rw[hlen.out];omega) (by rw[hlen.out];omega))
    have ecj:((2*k+1:Nat):Int)=2*(k:Int)+1:=by omega
    rw[ecj] at hless2;go_wp2_with fail;refine hless2.out.mono ?_;rintro e w4 ⟨rfl,S4⟩;have c0c:w4.cell? ⟨xb,0,none⟩=some (.slice (some ⟨g,0,none⟩) n cap):=J0 S4.own.head 0;have hswap:=hid (J3r S4 hat2.out (i:=k) (j:=2*k+1) (by omega) (by rw[hlen.out];omega))
    rw[ecj] at hswap;clear ecj;replace S4:=hid S4;clear hless2 c0b;cases hlt:J4n (es'[2*k+1]'(by rw[hlen.out];omega)) (es'[k]'(by rw[hlen.out];omega)) with
    |true=>
     go_wp2_with fail;refine hswap.out.mono ?_;rintro e w5 ⟨rfl,sl5,hat5,S5⟩;replace hat5:=hid hat5;replace S5:=hid S5;go_wp2_with fail;go_roundw
     case rel=>exact⟨2*k+1,sl5,J3b es' k (2*k+1),by go_num,by omega,hid (by rw[J3v];exact hlen.out),hid ⟨(J3c (by omega) (by rw[hlen.out];omega)).trans hperm.out.1,(J4c (by omega) (by omega)).trans hperm.out.2⟩,hat5,S5⟩
     case measure=>simp[intOf];omega
    |false=>
     go_wp2_with fail;go_ret;exact⟨⟨_,rfl⟩,sl',es',hperm.out,hat2.out,S4.out⟩
  ·go_wp2_with fail
   go_ret;exact⟨⟨_,rfl⟩,sl',es',hperm.out,hat2.out,hS2.out⟩
theorem Jbk:(Tryz.prog.info? 331).map (fun i=>(i.zero,i.size,i.bytes))=some (some (.pointer none),1,8):=by kernel_rfl
theorem SliceHp.shape {k:Nat} {T:TypeId} {v:Value} {n:Nat} {xs:List Value} (h:SliceHp k T v n xs l):∃a c,v= .slice a n c:=by
 cases h with
 |nil=>exact⟨_,_,rfl⟩
 |laid g n cap xs rest hx hr hn hc=>exact⟨_,_,rfl⟩
theorem Ky.rv {rv:Value} (h:Ky rv sl es):(es=[]/\∃a c,rv= .slice a 0 c)\/∃g cap,rv= .slice (some ⟨g,0,none⟩) es.length cap/\es.length<=cap/\cap<=maxLen:=by
 obtain⟨hsl⟩:=h
 generalize es.map Kp=xs at hsl;generalize hn:es.length=n at hsl;cases hsl with
 |nil=>exact .inl ⟨List.eq_nil_of_length_eq_zero hn,_,_,rfl⟩
 |laid g n cap xs rest hx hr hnc hc=>exact .inr ⟨g,cap,rfl,hnc,hc⟩
theorem Ky.shape {rv:Value} (h:Ky rv sl es):∃a c,rv= .slice a es.length c:=by
 rcases h.rv with⟨rfl,a,c,hr⟩|⟨g,cap,hr,_⟩
 ·exact⟨a,c,hr⟩
 ·exact⟨_,_,hr⟩
theorem Jj3 {eb:Nat} {t:Int} {key:ByteArray} {x:Value} {rv:Value}
 (hS:J1 w0 l w ((eb,.cells #[.int .i64 t,.string key,x] 338 (0,0))::(Jp xb mb rv sl es++r))) (hat:Ky rv sl es) (hB:es.length<=1099511627776):
  Calls Tryz.prog 449 #[.pointer (some ⟨xb,0,none⟩),.iface 331 (J1i eb)] w fun e w'=>e= .returned (.tuple #[])/\
   ∃rv' sl',Ky rv' sl' (es++[⟨eb,t,key⟩])/\J1 w0 l w' (Jp xb mb rv' sl' (es++[⟨eb,t,key⟩])++r):=by
  obtain⟨a,c,rfl⟩:=hat.shape
  have hown:=hS.own;have he2:w.cell? ⟨eb,2,none⟩=some x:=J0 hown.head 2;have hf2:w.frozen? ⟨eb,2,none⟩=false:=J6 hown.head 2;have c0:w.cell? ⟨xb,0,none⟩=some (.slice a es.length c):=J0 hown.tail.head 0;have f0:w.frozen? ⟨xb,0,none⟩=false:=J6 hown.tail.head 0;have hxlt:=Jc hown.tail.head;have helt:=Jc hown.head;have hne:eb≠xb:=by have:=hown.nd;simp[Jp] at this;exact this.1.1
  have S1:=(hS.set 2 (.int .i64 es.length)).alloc (.cells #[J1i eb] 331);have hsz:(w.setCell ⟨eb,2,none⟩ (.int .i64 es.length)).heap.size=w.heap.size:=by simp
  rw[hsz] at S1;have hnew:=S1.own.head
  have S2:=S1.permR (l2:=sl++((w.heap.size,.cells #[J1i eb] 331)::(xb,J1y (.slice a es.length c) mb)::(eb,.cells #[.int .i64 t,.string key,.int .i64 es.length] 338 (0,0))::(K7 0 es++r))) (by
   simp only[Jp,List.cons_append,List.append_assoc];refine List.Perm.trans (List.Perm.cons _ (List.Perm.swap _ _ _)) ?_;exact List.perm_append_comm_assoc [_,_,_] sl _)
  obtain⟨hsl⟩:=hat
  obtain⟨v',w2,sl',hrun,hsl',S3,_⟩:=J0c (P:=Tryz.prog) (ty:=113) Tryz.underlying113 Tryz.underlying113 Jbk rfl (by decide) S2 hsl
   ⟨w.heap.size,0,none⟩ 1 1 [J1i eb] rfl (by
    intro j u hu
    obtain rfl:j=0:=by have:=(List.getElem?_eq_some_iff.1 hu).1;simp at this;exact this
    simp only[List.getElem?_cons_zero,Option.some.injEq] at hu;subst hu;exact J0 hnew 0) (by intro u hu;simp at hu;subst hu;rfl) (by decide) (by omega) (by unfold maxLen;omega)
  obtain⟨a',c',rfl⟩:=hsl'.shape
  have hlt2:∀b,b∈keys ((w.heap.size,Obj.cells #[J1i eb] 331)::(xb,J1y (.slice a es.length c) mb)::(eb,Obj.cells #[.int .i64 t,.string key,.int .i64 es.length] 338 (0,0))::(K7 0 es++r))->b<w2.heap.size:=fun b hb=>S3.own.lt (by rw[J0z];exact List.mem_append_right _ hb)
  have hx2:w2.heap[xb]? =some (J1y (.slice a es.length c) mb):=S3.own.right.tail.head;have d0:w2.cell? ⟨xb,0,none⟩=some (.slice a es.length c):=J0 hx2 0;have g0:w2.frozen? ⟨xb,0,none⟩=false:=J6 hx2 0
  have hfin:Hid (∀W,W=w2.setCell ⟨xb,0,none⟩ (.slice a' (es.length+1) c')->∃rv' sl',Ky rv' sl' (es++[⟨eb,t,key⟩])/\J1 w0 l W (Jp xb mb rv' sl' (es++[⟨eb,t,key⟩])++r)):=by
   rintro W rfl;refine⟨.slice a' (es.length+1) c',sl',⟨by simpa[Kp] using hsl'⟩,?_⟩
   have h1:=(S3.permR (l2:=(xb,J1y (.slice a es.length c) mb)::(sl'++((w.heap.size,.cells #[J1i eb] 331)::(eb,.cells #[.int .i64 t,.string key,.int .i64 es.length] 338 (0,0))::(K7 0 es++r)))) (by
    refine List.Perm.trans (List.Perm.append_left _ (List.Perm.swap _ _ _)) ?_;exact List.perm_middle)).set 0 (.slice a' (es.length+1) c')
   have h2:=h1.less (l2:=(xb,J1y (.slice a' (es.length+1) c') mb)::(sl'++((eb,.cells #[.int .i64 t,.string key,.int .i64 es.length] 338 (0,0))::(K7 0 es++r)))) (List.Sublist.cons_cons _ (List.Sublist.append (List.Sublist.refl _) (List.sublist_cons_self _ _)));refine h2.permR ?_;rw[Jp,J15];simp only[K7,Nat.zero_add,List.cons_append,List.append_assoc,List.nil_append];exact List.Perm.cons _ (List.Perm.append_left _ List.perm_middle.symm)
  clear S1 S2 S3 hsl hsl' hlt2 hx2 hown hnew hS;have hta:∀w,(Instr.typeAssert (.iface 331 (J1i eb)) 20 331 false).run Tryz.prog w= .ok (J1i eb) w:=fun _=>by kernel_rfl
  go_enter Tryz.func449,Tryz.ntmps449;replace hrun:=hid hrun;go_wp2_with (at_builtin;refine Jh rfl _ _ _ _ rfl _ _ rfl rfl hrun.out ?_);go_end0
  exact⟨rfl,hfin.out _ rfl⟩
theorem Jkz {n:Nat} {e:En}
 (hS:J1 w0 l w (Jp xb mb (.slice (some ⟨g,0,none⟩) n cap) sl (es++[e])++r)) (hat:Ky (.slice (some ⟨g,0,none⟩) n cap) sl (es++[e])) (hB:es.length<1099511627776):
  Calls Tryz.prog 448 #[.pointer (some ⟨xb,0,none⟩)] w fun en w'=>en= .returned (.iface 331 (J1i e.b))/\
   ∃rv' sl',Ky rv' sl' es/\J1 w0 l w' ((e.b,J0y e es.length)::(Jp xb mb rv' sl' es++r)):=by
  obtain⟨hsl⟩:=hat
  generalize hxs:(es++[e]).map Kp=xs at hsl;generalize hn:(es++[e]).length=n' at hsl;cases hsl with
  |laid g n cap xs rest hx hr hnc hc=>
  subst hxs;have hn1:n=es.length+1:=by rw[<-hn];simp
  subst hn1;have hown:=hS.own;have c0:w.cell? ⟨xb,0,none⟩=some (.slice (some ⟨g,0,none⟩) (es.length+1) cap):=J0 hown.head 0;have f0:w.frozen? ⟨xb,0,none⟩=false:=J6 hown.head 0;have hg:w.heap[g]? =some (.cells ((es++[e]).map Kp++rest).toArray 331 (0,0)):=hown.at_ (g,_) (by simp[Jp])
  have ce:w.cell? ⟨g,es.length,none⟩=some (J1i e.b):=by
   rw[J0 hg];simp[Kp]
  have hcb:cap<=9223372036854775807:=by unfold maxLen at hc;omega
  have hfin:Hid (∀W,W=w.setCell ⟨xb,0,none⟩ (.slice (some ⟨g,0,none⟩) es.length cap)->∃rv' sl',Ky rv' sl' es/\J1 w0 l W ((e.b,J0y e es.length)::(Jp xb mb rv' sl' es++r))):=by
   rintro W rfl;refine⟨.slice (some ⟨g,0,none⟩) es.length cap,[(g,.cells ((es++[e]).map Kp++rest).toArray 331 (0,0))],⟨?_⟩,?_⟩
   ·have:=SliceHp.laid (k:=1) (T:=331) g es.length cap (es.map Kp) (Kp e::rest) (by simp) (by simp at hr⊢;omega) (by omega) hc
    simpa using this
   ·have hS2:=hS
    rw[Jp,J15] at hS2;simp only[K7,Nat.zero_add,List.cons_append,List.append_assoc,List.nil_append] at hS2;have h1:=J1.set hS2 0 (.slice (some ⟨g,0,none⟩) es.length cap);refine h1.permR ?_;simp only[Jp,List.cons_append,List.append_assoc,List.nil_append];exact List.perm_middle (l₁:=(xb,_)::(g,_)::K7 0 es)
  clear hS hown hg hx hr hn hc;go_enter Tryz.func448,Tryz.ntmps448;go_wp2_with fail;go_ret;exact⟨rfl,hfin.out _ rfl⟩
theorem J60 (a:Option Addr) (n c:Nat) (w:World):Calls Tryz.prog 438 #[.slice a n c] w fun e w'=>e= .returned (.int .i64 n)/\w=w':=by
 go_enter Tryz.func438,Tryz.ntmps438;go_wp2_with fail;go_ret;exact⟨rfl,rfl⟩
def J8d (w0:World) (l:Hp) (xb mb:Nat) (r:Hp) (es0:List En) (w':World):Prop:=
 ∃rv' sl' es',es'.Perm es0/\Ky rv' sl' es'/\J1 w0 l w' (Jp xb mb rv' sl' es'++r)
theorem Jgh {eb:Nat} {t:Int} {key:ByteArray} {x:Value} {rv:Value}
 (hS:J1 w0 l w ((eb,.cells #[.int .i64 t,.string key,x] 338 (0,0))::(Jp xb mb rv sl es++r))) (hat:Ky rv sl es) (hB:es.length<1099511627776):
  Calls Tryz.prog 280 #[Jj8 xb,.iface 331 (J1i eb)] w fun e w'=>e= .returned (.tuple #[])/\J8d w0 l xb mb r (es++[⟨eb,t,key⟩]) w':=by
  have hpush:=hid (Jj3 hS hat (by omega))
  have hmp:=Jdh xb;have hml:=fun v=>J5w xb v
  clear hS hat;go_enter Tryz.func280,Tryz.ntmps280;go_wp2_with fail;refine hpush.out.mono ?_;rintro e w2 ⟨rfl,rv',sl',hat2,S2⟩;have hlen:(es++[(⟨eb,t,key⟩:En)]).length=es.length+1:=by simp
  rcases hat2.rv with⟨h,_⟩|⟨g,cap,rfl,hc1,hc2⟩
  ·simp at h
  have c0:w2.cell? ⟨xb,0,none⟩=some (.slice (some ⟨g,0,none⟩) (es++[(⟨eb,t,key⟩:En)]).length cap):=J0 S2.own.head 0;have hup:=hid (Jf9 (j:=es.length) S2 hat2 (by rw[hlen];omega) (by rw[hlen];omega))
  rw[hlen] at c0 hup;have hlenc:=hid (J60 (some ⟨g,0,none⟩) (es.length+1) cap w2);clear hpush hmp S2 hat2 hlen;go_wp2_with fail;refine hlenc.out.mono ?_;rintro e w3 ⟨rfl,rfl⟩;go_wp2_with fail;refine hup.out.mono ?_;rintro e w4 ⟨rfl,sl4,es4,⟨hp4,_⟩,hat4,S4⟩;replace hp4:=hid hp4;replace hat4:=hid hat4;replace S4:=hid S4;go_wp2_with fail;go_end0
  exact⟨rfl,_,sl4,es4,hp4.out,hat4.out,S4.out⟩
theorem Jic {rv:Value}
 (hS:J1 w0 l w (Jp xb mb rv sl es++r)) (hat:Ky rv sl es) (hi:i<es.length) (hB:es.length<=1099511627776):
  Calls Tryz.prog 279 #[Jj8 xb,.int .i64 i] w fun e w'=>e= .returned (.tuple #[])/\J8d w0 l xb mb r es w':=by
  rcases hat.rv with⟨h,_⟩|⟨g,cap,rfl,hc1,hc2⟩
  ·subst h;simp at hi
  have c0:w.cell? ⟨xb,0,none⟩=some (.slice (some ⟨g,0,none⟩) es.length cap):=J0 hS.own.head 0;have hdown:=hid (Jd0 (i:=i) (m:=es.length) hS hat (by omega) (Nat.le_refl _) hB)
  have hlenc:=hid (J60 (some ⟨g,0,none⟩) es.length cap w);have hml:=J5w xb (.slice (some ⟨g,0,none⟩) es.length cap);clear hS hat;go_enter Tryz.func279,Tryz.ntmps279;go_wp2_with fail;refine hlenc.out.mono ?_;rintro e w3 ⟨rfl,rfl⟩;go_wp2_with fail;refine hdown.out.mono ?_;rintro e w4 ⟨⟨b,rfl⟩,sl4,es4,⟨hp4,_⟩,hat4,S4⟩;have hlen4:=hp4.length_eq;clear hdown hlenc;cases b with
  |true=>
   replace hp4:=hid hp4;replace hat4:=hid hat4;replace S4:=hid S4;replace hlen4:=hid hlen4;go_wp2_with fail;go_end0
   exact⟨rfl,_,sl4,es4,hp4.out,hat4.out,S4.out⟩
  |false=>
   have hup:=hid (Jf9 (j:=i) S4 hat4 (by omega) (by omega))
   replace hp4:=hid hp4;replace hat4:=hid hat4;replace S4:=hid S4;replace hlen4:=hid hlen4;go_wp2_with fail;refine hup.out.mono ?_;rintro e w5 ⟨rfl,sl5,es5,⟨hp5,_⟩,hat5,S5⟩;replace hp5:=hid hp5;replace hat5:=hid hat5;replace S5:=hid S5;go_wp2_with fail;go_end0
   exact⟨rfl,_,sl5,es5,hp5.out.trans hp4.out,hat5.out,S5.out⟩
theorem Jbq {n:Nat} (h:es.drop n=[x]):es=es.take n++[x]:=by
 rw[<-h,List.take_append_drop]
theorem Jf5 {n:Nat} {z:En} (hin:i<n) (hn:n+1=es.length) (hz:es[i]? =some z):(J3b es i n).drop n=[z]:=by
 obtain⟨A,x,B,y,C,rfl,rfl,rfl⟩:=J7g (es:=es) hin (by omega)
 obtain rfl:x=z:=by simpa using hz
 have hC:C=[]:=by
  simp only[List.length_append,List.length_cons] at hn;exact List.eq_nil_of_length_eq_zero (by omega)
 subst hC;rw[J52];have:A++y::(B++[x])=(A++y::B)++[x]:=by simp
 rw[this];exact List.drop_left' (by simp;omega)
def J3x (w0:World) (l:Hp) (xb mb:Nat) (r:Hp) (es:List En) (x:En) (e:Ending) (w':World):Prop:=
 e= .returned (.iface 331 (J1i x.b))/\∃rv' sl' es',(es'++[x]).Perm es/\Ky rv' sl' es'/\J1 w0 l w' ((x.b,J0y x es'.length)::(Jp xb mb rv' sl' es'++r))
theorem J4z {n:Nat} {es0:List En}
 (hS:J1 w0 l w (Jp xb mb (.slice (some ⟨g,0,none⟩) n cap) sl es++r)) (hat:Ky (.slice (some ⟨g,0,none⟩) n cap) sl es) (hx:es.drop (es.length - 1)=[x]) (hp:es.Perm es0) (hB:es.length<=1099511627776):
  Calls Tryz.prog 448 #[.pointer (some ⟨xb,0,none⟩)] w (J3x w0 l xb mb r es0 x):=by
  have e1:=Jbq hx
  have hlen:(es.take (es.length - 1)).length<1099511627776:=by
   have:0<es.length:=by
    rcases Nat.eq_zero_or_pos es.length with h|h
    ·rw[List.eq_nil_of_length_eq_zero h] at hx;cases hx
    ·exact h
   simp;omega
  rw[e1] at hS hat hp;refine(Jkz hS hat hlen).mono ?_
  rintro e w' ⟨he,rv',sl',hat',S'⟩;exact⟨he,rv',sl',_,hp,hat',S'⟩
theorem Jda {rv:Value}
 (hS:J1 w0 l w (Jp xb mb rv sl es++r)) (hat:Ky rv sl es) (hx:es[i]? =some x) (hB:es.length<=1099511627776):
  Calls Tryz.prog 241 #[Jj8 xb,.int .i64 i] w (J3x w0 l xb mb r es x):=by
  have hi:i<es.length:=(List.getElem?_eq_some_iff.1 hx).1;rcases hat.rv with⟨h,_⟩|⟨g,cap,rfl,hc1,hc2⟩
  ·subst h;simp at hi
  have c0:w.cell? ⟨xb,0,none⟩=some (.slice (some ⟨g,0,none⟩) es.length cap):=J0 hS.own.head 0;have hlenc:=hid (J60 (some ⟨g,0,none⟩) es.length cap w);have hml:=J5w xb (.slice (some ⟨g,0,none⟩) es.length cap);have hms:=J4u xb (.slice (some ⟨g,0,none⟩) es.length cap);have hmp:=Jet xb;generalize hm:es.length=m at *;by_cases hlast:i+1=m
  ·have hpop:=hid (J4z (x:=x) hS hat (by rw[hm,show m - 1=i by omega,List.drop_eq_getElem_cons (by omega),List.drop_of_length_le (by omega),(List.getElem?_eq_some_iff.1 hx).2]) (List.Perm.refl _) (by omega))
   have hq:(((m:Int) - 1) !=(i:Int))=false:=by rw[bne_eq_false_iff_eq];omega
   clear hS hat;replace hm:=hid hm;replace hlast:=hid hlast;replace hx:=hid hx;have hrem:Hid (∀e w',J3x w0 l xb mb r es x e w'->∃v,e= .returned v/\J3x w0 l xb mb r es x (.returned v) w'):=fun e w' h=>⟨_,h.1,rfl,h.2⟩
   go_enter Tryz.func241,Tryz.ntmps241;go_wp2_with fail;refine hlenc.out.mono ?_;rintro e w3 ⟨rfl,rfl⟩;go_wp2_with fail;refine hpop.out.mono ?_;intro e w4 hR
   obtain⟨v,rfl,hR'⟩:=hrem.out _ _ hR
   replace hR':=hid hR';clear hR hrem;go_wp2_with fail;go_ret;exact hR'.out
  ·obtain⟨n,rfl⟩:∃n,m=n+1:=⟨m - 1,by omega⟩
   have hin:i<n:=by omega
   have hq:((n:Int) !=(i:Int))=true:=by rw[bne_iff_ne];omega
   have hnn:(((n+1:Nat):Int) - 1)=(n:Int):=by omega
   have hswap:=hid (J3r (i:=i) (j:=n) hS hat hin (by omega))
   clear hS hat;replace hm:=hid hm;replace hx:=hid hx;have hrem:Hid (∀e w',J3x w0 l xb mb r es x e w'->∃v,e= .returned v/\J3x w0 l xb mb r es x (.returned v) w'):=fun e w' h=>⟨_,h.1,rfl,h.2⟩
   go_enter Tryz.func241,Tryz.ntmps241;go_wp2_with fail;refine hlenc.out.mono ?_;rintro e w3 ⟨rfl,rfl⟩;go_wp2_with fail;refine hswap.out.mono ?_;rintro e w4 ⟨rfl,sl4,hat4,S4⟩;have hl4:(J3b es i n).length=n+1:=by rw[J3v];exact hm.out
   have hd4:=Jf5 hin hm.out.symm hx.out;have hp4:=J3c (es:=es) hin (by rw[hm.out];omega)
   have hdown:=hid (Jd0 (i:=i) (m:=n) S4 hat4 (by omega) (by omega) (by omega))
   clear hswap hlenc;replace hd4:=hid hd4;replace hp4:=hid hp4;replace hl4:=hid hl4;clear hat4 S4;go_wp2_with fail;refine hdown.out.mono ?_;rintro e w5 ⟨⟨b,rfl⟩,sl5,es5,⟨hp5,hd5⟩,hat5,S5⟩;have hl5:=hp5.length_eq.trans hl4.out;clear hdown;cases b with
   |true=>
    have hpop:=hid (J4z (x:=x) S5 hat5 (by rw[hl5,show n+1 - 1=n by omega,hd5];exact hd4.out) (hp5.trans hp4.out) (by omega))
    clear S5 hat5 hd5 hp5;replace hl5:=hid hl5;go_wp2_with fail;refine hpop.out.mono ?_;intro e w6 hR
    obtain⟨v,rfl,hR'⟩:=hrem.out _ _ hR
    replace hR':=hid hR';clear hR hrem;go_wp2_with fail;go_ret;exact hR'.out
   |false=>
    have hup:=hid (Jf9 (j:=i) S5 hat5 (by omega) (by omega))
    replace hp5:=hid hp5;replace hd5:=hid hd5;replace hl5:=hid hl5;clear S5 hat5;go_wp2_with fail;refine hup.out.mono ?_;rintro e w6 ⟨rfl,sl6,es6,⟨hp6,hd6⟩,hat6,S6⟩;have hl6:=hp6.length_eq.trans hl5.out
    have hd6':es6.drop n=[x]:=by
     have h1:es6.drop n=(es6.drop (i+1)).drop (n - (i+1)):=by rw[List.drop_drop];congr 1;omega
     have h2:es5.drop n=(es5.drop (i+1)).drop (n - (i+1)):=by rw[List.drop_drop];congr 1;omega
     rw[h1,hd6,<-h2,hd5.out];exact hd4.out
    have hpop:=hid (J4z (x:=x) S6 hat6 (by rw[hl6,show n+1 - 1=n by omega];exact hd6') (hp6.trans (hp5.out.trans hp4.out)) (by omega))
    clear S6 hat6 hd6 hp6 hd6' hup;replace hl6:=hid hl6;go_wp2_with fail;refine hpop.out.mono ?_;intro e w7 hR
    obtain⟨v,rfl,hR'⟩:=hrem.out _ _ hR
    replace hR':=hid hR';clear hR hrem;go_wp2_with fail;go_ret;exact hR'.out
end Go.Proofs.YtefjbegnlolgbaaGreatDoor
