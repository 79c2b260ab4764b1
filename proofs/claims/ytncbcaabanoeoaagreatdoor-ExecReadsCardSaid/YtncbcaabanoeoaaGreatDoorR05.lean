/-
nearhandlaw20: execAlive (printed by gen_law20.py).
-/
import Derived.Test.YtncbcaabanoeoaaGreatDoorQ16
import Derived.Test.YtncbcaabanoeoaaGreatDoorQ26
import Derived.Test.YtncbcaabanoeoaaGreatDoorQ39
set_option linter.unusedVariables false
set_option linter.unusedSimpArgs false
set_option maxRecDepth 100000
set_option maxHeartbeats 8000000
namespace Go.Proofs.YtncbcaabanoeoaaGreatDoor
open Go Go.RowKit
variable {T:TypeId}{v:Value}{w0 w:World}{r:Hp}
theorem Jzo {el:Hp} {u:List Value} {a b:Value} (h:SliceHp 2 T v 1 u el) (hu:u=[a,b]):∃g cap rest,v= .slice (some ⟨g,0,none⟩) 1 cap/\el=[(g,.cells ([a,b]++rest).toArray T (0,0))]:=by
 subst hu;cases h with
 |laid g n cap xs rest hx hr hn hc=>exact⟨g,cap,rest,rfl,rfl⟩
theorem Jq1:Ku [⟨#[83,69,84]⟩,kk,kv]=(Jp6,ByteArray.empty):=by kernel_rfl
theorem Jq2:Ku [⟨#[69,88,80,73,82,69]⟩,kk,⟨#[45,49]⟩]=(Jap,ByteArray.empty):=by kernel_rfl
theorem Jsq:J0f (eYes [] []) 0 kk ⟨#[45,49]⟩ 1000=(eNo [(2,kk)],lfYes true):=by kernel_rfl
theorem J3.told {l x e:Hp} (h:J3 w0 [] w (l++(x++(e++r)))):J3 w0 [] w (l++r):=h.pick (m:=x++e) (J5 fun f=>by simp only[SC];omega)
theorem Jma (hS:J3 w0 [] w r) (hG:J17 w0):
 Calls Tryz.prog 5 #[] w (fun e w'=>e= .returned (.bool true)/\J3 w0 [] w' r):=by
 have hnew:=hid (Jkz hS 10000);replace hG:=hid hG;clear hS;go_enter Tryz.func5,Tryz.ntmps5;go_wp2_with fail;refine hnew.out.mono ?_;rintro e w1 ⟨sb,l1,rfl,hX1,S1⟩;clear hnew
 have hdo:Calls Tryz.prog 8 #[ptr sb,.int .i64 0,.slice (some ⟨w1.heap.size,0,none⟩) 3 3] (w1.alloc (J33 [⟨#[83,69,84]⟩,kk,kv])) (J5z w0 (r) sb (eYes [] [(1,kk)]) 1 ⟨#[79,75]⟩ 0 []):=by
  have q:=Jvv S1 hG.out hX1 ⟨Jcf _,by decide⟩ (by decide) Jq1 (now:=0) (by decide)
  rw[Jya] at q;exact q
 replace hdo:=hid hdo;clear S1 hX1;go_wp2_with fail;refine hdo.out.mono ?_;rintro e w2 ⟨a2,c2,ev2,xl2,el2,l2,rfl,hxl2,hev2,hX2,S2⟩;clear hdo hxl2;replace S2:=S2.told;replace hX2:Jh l2 sb (eYes [] []):=hX2;clear hev2
 have hdo:Calls Tryz.prog 8 #[ptr sb,.int .i64 0,.slice (some ⟨w2.heap.size,0,none⟩) 3 3] (w2.alloc (J33 [⟨#[69,88,80,73,82,69]⟩,kk,⟨#[45,49]⟩])) (J5z w0 (r) sb (eNo [(2,kk)]) 3 ByteArray.empty 1 []):=by
  have q:=Jlr S2 hG.out hX2 (Jw9 _ _ (by decide)) (by decide) Jq2 (now:=0) (by decide)
  rw[Jsq] at q;exact q
 replace hdo:=hid hdo;clear S2 hX2;go_wp2_with fail;refine hdo.out.mono ?_;rintro e w3 ⟨a3,c3,ev3,xl3,el3,l3,rfl,hxl3,hev3,hX3,S3⟩;clear hdo hxl3;obtain⟨g,cap,rest,rfl,rfl⟩:=Jzo hev3 (a:=.int .i64 2) (b:=.string kk) rfl
 replace hX3:Jh l3 sb (eNo []):=hX3;clear hev3;unfold J7;go_upto_region 6 with fail;have S4:=S3.alloc (J1e 3 ByteArray.empty 1 (.slice a3 0 c3));generalize hw4:w3.alloc _=w4;replace S4:J3 w0 [] w4 _:=hw4▸S4;clear hw4 S3;generalize w3.heap.size=vb at S4⊢;have v0:w4.cell? ⟨vb,0,none⟩=some (.int .i64 3):=J2 S4.own.head 0;have v2:w4.cell? ⟨vb,2,none⟩=some (.int .i64 1):=J2 S4.own.head 2;have hgm:=S4.own.at_ (g,.cells ([Value.int .i64 2,Value.string kk]++rest).toArray 41 (0,0)) (by simp)
 have g0:w4.cell? ⟨g,0,none⟩=some (.int .i64 2):=by rw[J2 hgm];rfl
 have g1:w4.cell? ⟨g,1,none⟩=some (.string kk):=by rw[J2 hgm];rfl
 obtain⟨m,rfl,hok,hf⟩:=hX3
 have S5:=S4.permR (l2:=m.hp sb (Jd (eNo []).L) (eNo []).bud++((vb,J1e 3 ByteArray.empty 1 (.slice a3 0 c3))::(xl3++((g,.cells ([Value.int .i64 2,Value.string kk]++rest).toArray 41 (0,0))::r)))) (J5 fun f=>by simp only[SC];omega)
 have s0:=(K1 S5.own).c0;have htl:=Jlj m.tl m.tb m.M 0 w4 hok.tab (SM.ownT S5.own)
 have hM:m.M.length=0:=by
  have h1:=hok.num.length_eq;have h2:m.cs=[]:=List.map_eq_nil_iff.1 hok.cells.symm;rw[h2] at h1;exact h1
 rw[hM] at htl;have S9:=hid (S4.pick (l2:=r) (m:=(vb,J1e 3 ByteArray.empty 1 (.slice a3 0 c3))::(m.hp sb (Jd (eNo []).L) (eNo []).bud++(xl3++[(g,.cells ([Value.int .i64 2,Value.string kk]++rest).toArray 41 (0,0))]))) (J5 fun f=>by simp only[SC];omega))
 replace htl:=hid htl;clear S4 S5 hok hf hM hgm;go_wp2_with fail;refine htl.out.mono ?_;rintro e w5 ⟨rfl,nd,rfl⟩;clear htl;go_wp2_with fail;go_ret;exact⟨rfl,S9.out.drewN _⟩
theorem Jck {k:Nat} {n:Nat} {xs:List Value} {l:Hp} (h:SliceHp k T v n xs l):∃a c,v= .slice a n c:=by
 cases h with
 |nil=>exact⟨_,_,rfl⟩
 |laid g _ cap _ rest _ _ _ _=>exact⟨_,cap,rfl⟩
theorem Ja0 {k:Nat} {a:Option Addr} {n c:Nat} {xs:List Value} {sl x:Hp} {j:Nat} (h:SliceHp k T (.slice a n c) n xs sl) (hS:J3 w0 [] w (x++(sl++r))) (hj:xs[j]? =some v):∃g,a=some ⟨g,0,none⟩/\w.cell? ⟨g,j,none⟩=some v:=by
 obtain⟨s,hs⟩:∃s,s=Value.slice a n c:=⟨_,rfl⟩
 rw[<-hs] at h;have hjl:=(List.getElem?_eq_some_iff.1 hj).1;cases h with
 |nil=>simp at hjl
 |laid g _ cap _ rest _ _ _ _=>
  simp only[Value.slice.injEq] at hs;refine⟨g,hs.1.symm,?_⟩
  rw[J2 hS.own.right.head,List.getElem?_toArray,List.getElem?_append_left hjl,hj]
theorem Jxo:∀(es:List (Int×ByteArray)) (j:Nat) (e:Int×ByteArray),es[j]? =some e->(J1g es)[j*2]? =some (.int .i64 e.1)/\(J1g es)[j*2+1]? =some (.string e.2)
 |[],j,e,h=>by simp at h
 |f::es,0,e,h=>by
  simp only[List.getElem?_cons_zero,Option.some.injEq] at h;subst h;exact⟨rfl,rfl⟩
 |f::es,j+1,e,h=>by
  have ih:=Jxo es j e (by simpa using h)
  rw[show(j+1)*2=j*2+1+1 by omega]
  show(J1g es)[j*2]? =_/\(J1g es)[j*2+1]? =_
  exact ih
end Go.Proofs.YtncbcaabanoeoaaGreatDoor
