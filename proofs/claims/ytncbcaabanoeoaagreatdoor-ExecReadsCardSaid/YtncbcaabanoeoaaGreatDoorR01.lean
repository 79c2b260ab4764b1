/-
nearhandref17.Find: the command of a word.
-/
import Derived.Test.YtncbcaabanoeoaaGreatDoorQ44
set_option linter.unusedVariables false
set_option linter.unusedSimpArgs false
set_option maxRecDepth 100000
set_option maxHeartbeats 8000000
namespace Go.Proofs.YtncbcaabanoeoaaGreatDoor
open Go Go.RowKit
variable {s:Sp}{w:World}
theorem Jyo (c:UInt8):J83 (upc c)=J83 c:=by
 unfold J83 upc;by_cases h:97<=c.toNat/\c.toNat<=122
 ·have e:(UInt8.ofNat (c.toNat - 32)).toNat=c.toNat - 32:=by rw[UInt8.toNat_ofNat'];omega
  rw[if_pos h,if_pos (by omega),if_neg (by omega),e]
  apply UInt8.toNat_inj.1
  rw[UInt8.toNat_ofNat'];omega
 ·rw[if_neg h]
theorem Jnd (s:ByteArray):Jeq (J16 s)=Jeq s:=by
 unfold Jeq J16;congr 2
 simp[Jyo]
theorem Jnc (h:s∈Ju):Jeq s.name=⟨(Lib.toLowerA s.name.data.toList).toArray⟩:=by
 have:∀s∈Ju,s.name.data.toList.map J83=Lib.toLowerA s.name.data.toList:=by decide+kernel
 unfold Jeq;rw[this s h]
theorem Jzx {g i:Nat} {l:List Sp} {rest:List Value} {t:TypeId} (h:w.heap[g]? =some (.cells (J03 l++rest).toArray t (0,0))) (hs:l[i]? =some s):Jzg w g i s:=by
 have k:∀j v,s.cells[j]? =some v->w.cell? ⟨g,i*7+j,none⟩=some v:=fun j v hj=>by
  have h2:=Ja2 l i s hs j v hj;rw[J2 h,List.getElem?_toArray,List.getElem?_append_left (List.getElem?_eq_some_iff.1 h2).1];exact h2
 exact⟨k 0 _ rfl,k 1 _ rfl,k 2 _ rfl,k 3 _ rfl,k 4 _ rfl,k 5 _ rfl,k 6 _ rfl⟩
structure K0e (w:World) (b:Nat) (s:Sp):Prop where
 c0:w.cell? ⟨b,0,none⟩=some (.string s.name)
 c1:w.cell? ⟨b,1,none⟩=some (.int .i64 s.kind)
 c2:w.cell? ⟨b,2,none⟩=some (.int .i64 s.least)
 c3:w.cell? ⟨b,3,none⟩=some (.int .i64 s.most)
 c4:w.cell? ⟨b,4,none⟩=some (.int .i64 s.first)
 c5:w.cell? ⟨b,5,none⟩=some (.int .i64 s.last)
 c6:w.cell? ⟨b,6,none⟩=some (.int .i64 s.step)
abbrev J2k (s:Sp):Obj:=.cells #[.string s.name,.int .i64 s.kind,.int .i64 s.least,.int .i64 s.most,.int .i64 s.first,.int .i64 s.last,.int .i64 s.step] 45 (0,0)
theorem K0f {b:Nat} (h:w.heap[b]? =some (J2k s)):K0e w b s:=⟨J2 h 0,J2 h 1,J2 h 2,J2 h 3,J2 h 4,J2 h 5,J2 h 6⟩
abbrev Ky:Obj:=.cells #[.string ByteArray.empty,.int .i64 0,.int .i64 0,.int .i64 0,.int .i64 0,.int .i64 0,.int .i64 0] 45 (0,0)
theorem Jrl {w0:World} {r:Hp} (hS:J3 w0 [] w r) (word:ByteArray) (hw:word.size<=100000):
 Calls Tryz.prog 27 #[.string word] w (Jax w0 r (J5l word)):=by
 have S1:=hS.alloc Ky;have hall:=hid (Juj S1);clear hS S1;go_enter Tryz.func27,Tryz.ntmps27;go_wp2_with fail;generalize w.heap.size=b at hall⊢;refine hall.out.mono ?_;rintro e w1 ⟨v,sl,rfl,hsl,S2⟩;clear hall
 obtain⟨g,c,rest,rfl,rfl⟩:∃g c rest,v= .slice (some ⟨g,0,none⟩) 39 c/\sl=[(g,.cells (J03 Ju++rest).toArray 45 (0,0))]:=by
  generalize J03 Ju=xs at hsl⊢;generalize hn:39=n at hsl⊢;cases hsl with
  |nil=>cases hn
  |laid g n cap xs rest q1 q2 q3 q4=>exact⟨g,cap,rest,rfl,rfl⟩
 replace S2:Hid (J3 w0 [] w1 ((g,.cells (J03 Ju++rest).toArray 45 (0,0))::(b,Ky)::r)):=hid S2;clear hsl;go_wp2_with fail;go_loopw [5,8] (fun s5 s8 wr=>∃k:Nat,s8= .int .i64 k/\k<=39/\Hid ((Ju.take k).find? (fun s=>decide (s.name=J16 word))=none)/\Hid (J3 w0 [] wr ((g,.cells (J03 Ju++rest).toArray 45 (0,0))::(b,Ky)::r))) (fun s5 s8 wr=>(39 - intOf s8).toNat)
 case atStart=>exact⟨0,rfl,by decide,hid rfl,S2⟩
 case round=>
  obtain⟨k,rfl,hk,hno,S3⟩:=hrel
  clear S2;by_cases hlt:k<39
  ·have hlt2:(k:Int)<39:=by omega
   obtain⟨sp,hsp⟩:∃sp,Ju[k]? =some sp:=⟨Ju[k]'hlt,List.getElem?_eq_getElem _⟩
   have hsz:sp.name.size<=100000:=by have:=(J68 sp (List.mem_of_getElem? hsp)).1;omega
   obtain⟨c0,c1,c2,c3,c4,c5,c6⟩:=Jzx S3.out.own.head hsp
   have S4:=hid (S3.out.alloc (.cells #[.string sp.name,.int .i64 sp.kind,.int .i64 sp.least,.int .i64 sp.most,.int .i64 sp.first,.int .i64 sp.last,.int .i64 sp.step] 45));have hgl:=Jf S3.out.own.head;have htake:Hid (Ju.take (k+1)=Ju.take k++[sp]):=hid (by rw[List.take_add_one,hsp];rfl)
   have hmem:Hid (sp∈Ju):=hid (List.mem_of_getElem? hsp);clear S3 hsp;go_wp2_with fail;generalize hw2:wr.alloc _=w2 at S4⊢;generalize wr.heap.size=nb at S4⊢;clear hw2 c0 c1 c2 c3 c4 c5 c6 hgl;obtain⟨L,hL⟩:∃L:Hp,L=(nb,J2k sp)::(g,.cells (J03 Ju++rest).toArray 45 (0,0))::(b,Ky)::r:=⟨_,rfl⟩
   rw[<-hL] at S4;have x0:∀p:InW w0 [] L,p.w.cell? ⟨nb,0,none⟩=some (.string sp.name):=fun p=>J2 (p.h.own.at_ (nb,J2k sp) (by rw[hL];simp)) 0
   replace hL:=hid hL;by_cases hm:sp.name=J16 word
   ·have e1:((Jeq sp.name).toList==(Jeq word).toList)=true:=Jbr (by rw[hm,Jnd])
    have e2:((J16 word).toList==sp.name.toList)=true:=Jbr hm.symm
    have hfound:Hid (J5l word=some sp):=hid (by
     unfold J5l;rw[<-List.take_append_drop (k+1) Ju,htake.out,List.find?_append,List.find?_append,hno.out];simp[hm])
    replace hm:=hid hm;clear htake hmem hno;refine J1x S4.out (by kernel_rfl) (by kernel_rfl) (fun hne=>?_)
    repeat (go_big_quiet_step ((first
     |(go_at_call 28;refine Calls.inw (Jer (InW.h _) _ (by first|exact hsz|exact hw)))
     |(go_at_call 65;refine Calls.inw (J9x (InW.h _) _ (by first|exact hsz|exact hw))))))
    refine J73 fun wq hq=>?_
    rw[hL.out] at hq;have S5:=hq;obtain⟨⟨y0,hy0⟩,⟨y1,hy1⟩,⟨y2,hy2⟩,⟨y3,hy3⟩,⟨y4,hy4⟩,⟨y5,hy5⟩,⟨y6,hy6⟩,fz,hb⟩:=J3v S5.own.tail.tail.head
    obtain⟨z0,z1,z2,z3,z4,z5,z6⟩:=K0f S5.own.head
    have hnl:=Jf S5.own.head
    have hbn:b≠nb:=by
     have:=S5.own.nd
     simp only[J0y,List.nodup_cons,List.mem_cons,not_or] at this;exact fun e=>this.1.2.1 e.symm
    have S6:=hid (((S5.permR (l2:=(b,Ky)::((nb,J2k sp)::(g,.cells (J03 Ju++rest).toArray 45 (0,0))::r)) (J5 fun f=>by
     simp only[List.map_cons,List.sum_cons];omega)).setSp sp).less ((List.sublist_cons_self _ _).trans ((List.sublist_cons_self _ _).trans (List.sublist_cons_self _ _))))
    clear hq S5 x0 hne S4;go_wp2_with fail;refine bodyPost_ret (v:=.tuple #[sp.val,.bool true]) (by simp[results,Tryz.results27,go_sem,Sp.val,K8, *]<;>rfl) rfl ?_
    rw[hfound.out];exact⟨rfl,S6.out⟩
   ·have e2:((J16 word).toList==sp.name.toList)=false:=J6o (fun e=>hm e.symm)
    have hno2:Hid ((Ju.take (k+1)).find? (fun s=>decide (s.name=J16 word))=none):=hid (by
     rw[htake.out,List.find?_append,hno.out];simp[hm])
    have hS:Hid (∀wq,J3 w0 [] wq L->J3 w0 [] wq ((g,.cells (J03 Ju++rest).toArray 45 (0,0))::(b,Ky)::r)):=hid fun wq h=>by
     rw[hL.out] at h;exact h.less (List.sublist_cons_self _ _)
    replace hm:=hid hm;clear htake hmem hno hL;by_cases e1:((Jeq sp.name).toList==(Jeq word).toList)=true
    case' neg=>rw[Bool.not_eq_true] at e1
    all_goals
     refine J1x S4.out (by kernel_rfl) (by kernel_rfl) (fun hne=>?_)
     repeat (go_big_quiet_step ((first
      |(go_at_call 28;refine Calls.inw (Jer (InW.h _) _ (by first|exact hsz|exact hw)))
      |(go_at_call 65;refine Calls.inw (J9x (InW.h _) _ (by first|exact hsz|exact hw))))))
     refine J73 fun wq hq=>?_
     replace hq:=hid (hS.out wq hq);clear x0 hne S4;go_wp2_with fail;go_roundw
     case rel=>exact⟨k+1,by go_num,hlt,hno2,hq⟩
     case measure=>simp[intOf];omega
  ·obtain rfl:k=39:=by omega
   have hdone:Hid (J5l word=none):=hid hno.out;have S5:=S3.out;obtain⟨⟨y0,hy0⟩,⟨y1,hy1⟩,⟨y2,hy2⟩,⟨y3,hy3⟩,⟨y4,hy4⟩,⟨y5,hy5⟩,⟨y6,hy6⟩,fz,hb⟩:=J3v S5.own.tail.head
   have S6:=hid (((S5.permR (l2:=(b,Ky)::((g,.cells (J03 Ju++rest).toArray 45 (0,0))::r)) (J5 fun f=>by
    simp only[List.map_cons,List.sum_cons];omega)).setSp Jw).less ((List.sublist_cons_self _ _).trans (List.sublist_cons_self _ _)))
   unfold Jw at S6;clear S5 S3 hno;go_wp2_with fail;refine bodyPost_ret (v:=.tuple #[Jw.val,.bool false]) (by simp[results,Tryz.results27,go_sem,Sp.val,K8,Jw, *]<;>rfl) rfl ?_
   rw[hdone.out];exact⟨rfl,S6.out⟩
end Go.Proofs.YtncbcaabanoeoaaGreatDoor
