/-
keys: Add of a key where there is none; Take of the one that there is.
-/
import Derived.Deep.RegionHeld
import Derived.Test.YtefjbegnlolgbaaGreatDoorQ23
set_option linter.unusedVariables false
set_option linter.unusedSimpArgs false
set_option maxRecDepth 100000
set_option maxHeartbeats 8000000
namespace Go.Proofs.YtefjbegnlolgbaaGreatDoor
open Go Go.RowKit
variable {w w0:World}{l r:Hp}{rb g kb rm qm:Nat}{id:Int}{qo:Obj}{k:ByteArray}
theorem Jk8 (w:World):(zeroValue 73).run Tryz.prog w= .ok (.slice none 0 0) w:=by kernel_rfl
theorem Jny (w:World):(zeroValue 3).run Tryz.prog w= .ok (.int .i64 0) w:=by kernel_rfl
theorem Jcd (w:World):(zeroValue 212).run Tryz.prog w= .ok (.map none) w:=by kernel_rfl
theorem Jat (h:Own w (l++r)) (hR:Jj l rb []):∃mb o,w.cell? ⟨rb,3,none⟩=some (.map (some mb))/\w.heap[mb]? =some o/\Kz o []:=by
 obtain⟨mb,o,ns,m,rfl,hk,hm,hp,_⟩:=hR
 obtain rfl:ns=[]:=List.map_eq_nil_iff.1 hk.symm;obtain rfl:m=[]:=List.Perm.eq_nil hp;exact⟨mb,o,J0 h.left.head 3,h.left.tail.head,hm⟩
theorem Jgy (h:Own w (l++r)) (hR:Jj l rb []) (k:ByteArray):Calls Tryz.prog 122 #[ptr rb,.string k] w fun e w'=>e= .returned (.bool false)/\w'=w:=by
 obtain⟨mb,o,c3,hm,hs⟩:=Jat h hR
 have hlk:=J5l (P:=Tryz.prog) (t:=108) Tryz.underlying108 Tryz.underlying9 Ja0 hm hs k;simp only[J7,List.find?_nil,Option.map_none,Option.getD_none] at hlk;clear h hR hm hs;go_enter Tryz.func122,Tryz.ntmps122;go_wp2_with fail;go_ret;exact⟨rfl,rfl⟩
theorem Jh1 (h:Own w (l++r)) (hR:Jj l rb []):Calls Tryz.prog 123 #[ptr rb] w fun e w'=>e= .returned (.int .i64 0)/\w'=w:=by
 obtain⟨mb,o,c3,hm,hs⟩:=Jat h hR
 obtain⟨es,clock,rfl,he⟩:=hs
 have hsz:es.size=0:=by have:=congrArg List.length he;simpa using this
 obtain rfl:es= #[]:=Array.eq_empty_of_size_eq_zero hsz;have hlen:=run_len_map (P:=Tryz.prog) w 108 3 mb #[] clock (by kernel_rfl) hm
 clear h hR he hsz hm;go_enter Tryz.func123,Tryz.ntmps123;go_wp2_with fail;go_ret;exact⟨rfl,rfl⟩
theorem Jl4 (h:J1 w0 [] w (l++r)) (hR:Jj l rb []):Calls Tryz.prog 123 #[ptr rb] w fun e w'=>e= .returned (.int .i64 0)/\J1 w0 [] w' (l++r):=
 (Jh1 h.own hR).mono fun _ _ ⟨h1,h2⟩=>⟨h1,h2▸h⟩
abbrev J0l (rb rm qm:Nat):Obj:=.cells #[ptr rb,.map (some rm),.map (some qm),.int .i64 10] 119 (0,0)
theorem Jo0 {rest:List Value} {ro:Obj} (hS:J1 w0 [] w ((g,J0b id rest)::(kb,J0l rb rm qm)::(rm,ro)::l)) (hm:Kz ro []) (k:ByteArray) (c:Nat):
 ∃ro2 w4,w.cell? ⟨kb,1,none⟩=some (.map (some rm))/\(Instr.mapUpdate 116 (.map (some rm)) (.string k) (.slice (some ⟨g,0,none⟩) 1 c)).run Tryz.prog w= .ok () w4/\Kz ro2 [(k,.slice (some ⟨g,0,none⟩) 1 c)]/\J1 w0 [] w4 ((rm,ro2)::(g,J0b id rest)::(kb,J0l rb rm qm)::l):=by
 obtain⟨ro2,hup,hm2⟩:=J6n (P:=Tryz.prog) (t:=116) Tryz.underlying116 Tryz.underlying9 hS.own.tail.tail.head hm List.nodup_nil k (.slice (some ⟨g,0,none⟩) 1 c)
 exact⟨ro2,_,J0 hS.own.tail.head 1,hup,hm2,(hS.permR (l2:=(rm,ro)::(g,J0b id rest)::(kb,J0l rb rm qm)::l) (J2 fun f=>by simp only[List.map_cons,List.sum_cons];omega)).obj' ro2⟩
theorem Jlk (w:World):(zeroValue 3).run Tryz.prog w= .ok (.int .i64 0) w:=by kernel_rfl
theorem Jla (hS:J1 w0 [] w ((kb,J0l rb rm qm)::(qm,qo)::l)) (hm:K8 qo []) (k:ByteArray) (id:Int):
 ∃w2 w3 qo2 mo2,(Instr.mapUpdate 117 (.map (some qm)) (.int .i64 id) (.map (some w.heap.size))).run Tryz.prog (w.alloc (.map #[] 0))= .ok () w2/\
  (w.alloc (.map #[] 0)).cell? ⟨kb,2,none⟩=some (.map (some qm))/\w2.cell? ⟨kb,2,none⟩=some (.map (some qm))/\
  (Instr.lookup 117 (.map (some qm)) (.int .i64 id) false).run Tryz.prog w2= .ok (.map (some w.heap.size)) w2/\
  (Instr.lookup 212 (.map (some w.heap.size)) (.string k) false).run Tryz.prog w2= .ok (.int .i64 0) w2/\
  (Instr.mapUpdate 212 (.map (some w.heap.size)) (.string k) (.int .i64 1)).run Tryz.prog w2= .ok () w3/\
  K8 qo2 [(id,.map (some w.heap.size))]/\Kz mo2 [(k,.int .i64 1)]/\J1 w0 [] w3 ((w.heap.size,mo2)::(kb,J0l rb rm qm)::(qm,qo2)::l):=by
 have S1:=hS.alloc (.map #[] 0);obtain⟨qo2,hup,hm2⟩:=J9n (P:=Tryz.prog) (t:=117) Tryz.underlying117 Tryz.underlying3 S1.own.tail.tail.head hm List.nodup_nil id (.map (some w.heap.size))
 have hm2':K8 qo2 [(id,.map (some w.heap.size))]:=hm2;have S2:=((S1.permR (l2:=(qm,qo)::(w.heap.size,.map #[] 0)::(kb,J0l rb rm qm)::l) (J2 fun f=>by simp only[List.map_cons,List.sum_cons];omega)).obj' qo2).permR (l2:=(w.heap.size,.map #[] 0)::(kb,J0l rb rm qm)::(qm,qo2)::l) (J2 fun f=>by simp only[List.map_cons,List.sum_cons];omega)
 obtain⟨mo2,hup2,hm3⟩:=J6n (P:=Tryz.prog) (t:=212) Tryz.underlying212 Tryz.underlying9 S2.own.head Kz.empty List.nodup_nil k (.int .i64 1)
 have hl1:=J23 (P:=Tryz.prog) (t:=117) Tryz.underlying117 Tryz.underlying3 Jcd S2.own.tail.tail.head hm2' id;have hl2:=J5l (P:=Tryz.prog) (t:=212) Tryz.underlying212 Tryz.underlying9 Jlk S2.own.head Kz.empty k;have e1:((J0j [(id,Value.map (some w.heap.size))] id).getD (.map none))= .map (some w.heap.size):=by simp[J0j]
 have e2:((J7 ([]:AL Value) k).getD (.int .i64 0))= .int .i64 0:=rfl;rw[e1] at hl1;rw[e2] at hl2;exact⟨_,_,qo2,mo2,hup,J0 S1.own.tail.head 2,J0 S2.own.tail.head 2,hl1,hl2,hup2,hm2',hm3,S2.obj' mo2⟩
def Jhr (w0:World) (r:Hp) (kb:Nat) (k:ByteArray) (id:Int) (e:Ending) (w':World):Prop:=e= .returned (.tuple #[.string ByteArray.empty,.slice none 0 0,.bool false])/\∃kl,J2l kl kb (.one k id)/\J1 w0 [] w' (kl++r)
theorem Jgj {kl:Hp} (hS:J1 w0 [] w (kl++r)) (hK:J2l kl kb .none) (k:ByteArray) (id:Int):
 Calls Tryz.prog 71 #[ptr kb,.string k,.int .i64 id] w (Jhr w0 r kb k id):=by
 obtain⟨rb,rl,rm,ro,qm,qo,x,rfl,hR,hro,hqo,rfl⟩:=hK
 rw[List.append_nil] at hS;have hR0:Jj rl rb []:=hR;have S0:=hS.permR (l2:=rl++((kb,J0l rb rm qm)::(rm,ro)::(qm,qo)::r)) (J2 fun f=>by simp only[List.map_append,List.sum_append,List.map_cons,List.sum_cons,List.cons_append,J0l];omega)
 have kb0:w.cell? ⟨kb,0,none⟩=some (ptr rb):=J0 S0.own.right.head 0;have kb3:w.cell? ⟨kb,3,none⟩=some (.int .i64 10):=J0 S0.own.right.head 3;have hhas:=hid (Jgy S0.own hR0 k);have k0:∀p:InW w0 [] (rl++((kb,J0l rb rm qm)::(rm,ro)::(qm,qo)::r)),p.w.cell? ⟨kb,0,none⟩=some (ptr rb):=fun p=>J0 p.h.own.right.head 0
 have k3:∀p:InW w0 [] (rl++((kb,J0l rb rm qm)::(rm,ro)::(qm,qo)::r)),p.w.cell? ⟨kb,3,none⟩=some (.int .i64 10):=fun p=>J0 p.h.own.right.head 3
 replace hR0:=hid hR0;replace S0:=hid S0;replace hro:=hid hro;replace hqo:=hid hqo;clear hS hR;go_enter Tryz.func71,Tryz.ntmps71;go_wp2_with fail;refine hhas.out.mono ?_;rintro e w1 ⟨rfl,rfl⟩;clear hhas;go_wp2_with fail;refine J0q S0.out (by kernel_rfl) (by kernel_rfl) (fun hne=>?_)
 repeat (go_big_quiet_step ((go_at_call 123;refine Calls.inw (Jl4 (InW.h _) hR0.out))))
 refine J45 fun w1' S1=>?_
 have htch:=hid (J7e rl rb [] k w1' hR0.out S1.own.left);have kb1:w1'.cell? ⟨kb,0,none⟩=some (ptr rb):=J0 S1.own.right.head 0;replace S1:=hid S1;clear kb0 kb3 k0 k3;go_wp2_with fail;refine htch.out.mono ?_;rintro e w2 ⟨rfl,rl2,hR2,SR⟩;have S2:=((S1.out.part (a:=rl) (r:=(kb,J0l rb rm qm)::(rm,ro)::(qm,qo)::r) (List.Perm.refl _) SR).permR (l2:=(kb,J0l rb rm qm)::(rm,ro)::(qm,qo)::(rl2++r)) (J2 fun f=>by simp only[List.map_append,List.sum_append,List.map_cons,List.sum_cons,List.cons_append,J0l];omega)).drew
 have q1:w2.drew.cell? ⟨kb,1,none⟩=some (.map (some rm)):=J0 S2.own.head 1;have hlk:=J5l (P:=Tryz.prog) (t:=116) Tryz.underlying116 Tryz.underlying9 Jk8 S2.own.tail.head hro.out k;have hlk2:((J7 ([]:AL Value) k).getD (.slice none 0 0))= .slice none 0 0:=rfl;rw[hlk2] at hlk;clear hlk2;have hw:=hid (Jk6 S2 id);have heq:∀w,(binOp .eql 212 (.map none) (.map none)).run Tryz.prog w= .ok (.bool true) w:=fun w=>by kernel_rfl
 replace hR2:=hid hR2;clear htch S0 S1 SR S2 hR0 kb1;go_wp2_with fail;go_region_with (first|(go_at_call 126;refine hw.out.mono ?_;rintro e w3 ⟨g,c,rest,rfl,hc,S3⟩;obtain⟨ro2,w4,p1,hup,hm2,S4⟩:=Jo0 S3 hro.out k c;replace S4:=hid S4;replace hm2:=hid hm2;clear S3))
 all_goals
  have S5:=S4.out.permR (l2:=(kb,J0l rb rm qm)::(qm,qo)::((rm,ro2)::(g,J0b id rest)::(rl2++r))) (J2 fun f=>by simp only[List.map_cons,List.sum_cons];omega)
  have q2:w4.cell? ⟨kb,2,none⟩=some (.map (some qm)):=J0 S5.own.head 2;have hl0:=J23 (P:=Tryz.prog) (t:=117) Tryz.underlying117 Tryz.underlying3 Jcd S5.own.tail.head hqo.out id;have hl00:((J0j ([]:IL Value) id).getD (.map none))= .map none:=rfl;rw[hl00] at hl0;obtain⟨w5,w6,qo2,mo2,u1,u2,u3,u4,u5,u6,m1,m2,S6⟩:=Jla S5 hqo.out k id
  have hmk:=@run_makeMap Tryz.prog;replace m1:=hid m1;replace m2:=hid m2;replace S6:=hid S6;clear hw hlk hl00 S4 S5 q1;go_wp2_with fail;go_ret3;refine⟨rfl,_,⟨rb,rl2,rm,ro2,qm,qo2,_,rfl,hR2.out,g,c,rest,w4.heap.size,mo2,hm2.out,m1.out,m2.out,rfl⟩,S6.out.permR (J2 fun f=>by simp only[List.map_append,List.sum_append,List.map_cons,List.sum_cons,List.cons_append,J0l,J0b,List.map_nil,List.sum_nil,List.singleton_append,List.nil_append];omega)⟩
theorem Jg9 {o:Obj} (h:Kz o []):∃clock,o= .map #[] clock:=by
 obtain⟨es,clock,rfl,he⟩:=h
 have hsz:es.size=0:=by have:=congrArg List.length he;simpa using this
 exact⟨clock,by rw[Array.eq_empty_of_size_eq_zero hsz]⟩
theorem Jl9 {mb:Nat} {mo:Obj} (hS:J1 w0 [] w ((kb,J0l rb rm qm)::(qm,qo)::(mb,mo)::l)) (hq:K8 qo [(id,.map (some mb))]) (hm:Kz mo [(k,.int .i64 1)]):
 ∃w2 w3 qo2 mo2,(Instr.lookup 117 (.map (some qm)) (.int .i64 id) false).run Tryz.prog w= .ok (.map (some mb)) w/\
  (Builtin.delete_ #[212,9] 0 #[.map (some mb),.string k]).run Tryz.prog w= .ok (.tuple #[]) w2/\
  w.cell? ⟨kb,2,none⟩=some (.map (some qm))/\w2.cell? ⟨kb,2,none⟩=some (.map (some qm))/\
  (Instr.lookup 117 (.map (some qm)) (.int .i64 id) false).run Tryz.prog w2= .ok (.map (some mb)) w2/\
  (Builtin.len_ #[212] 3 #[.map (some mb)]).run Tryz.prog w2= .ok (.int .i64 0) w2/\
  (Builtin.delete_ #[117,3] 0 #[.map (some qm),.int .i64 id]).run Tryz.prog w2= .ok (.tuple #[]) w3/\
  K8 qo2 []/\J1 w0 [] w3 ((qm,qo2)::(kb,J0l rb rm qm)::(mb,mo2)::l):=by
 have hl1:=J23 (P:=Tryz.prog) (t:=117) Tryz.underlying117 Tryz.underlying3 Jcd hS.own.tail.head hq id;have e1:((J0j [(id,Value.map (some mb))] id).getD (.map none))= .map (some mb):=by simp[J0j]
 rw[e1] at hl1;obtain⟨mo2,hd,hm2⟩:=J8k (P:=Tryz.prog) (t:=212) Tryz.underlying212 Tryz.underlying9 0 hS.own.tail.tail.head hm (by simp) k 9
 have e2:Jk [(k,Value.int .i64 1)] k=[]:=by simp[Jk]
 rw[e2] at hm2;have S2:=(hS.permR (l2:=(mb,mo)::(kb,J0l rb rm qm)::(qm,qo)::l) (J2 fun f=>by simp only[List.map_cons,List.sum_cons];omega)).obj' mo2
 have hl2:=J23 (P:=Tryz.prog) (t:=117) Tryz.underlying117 Tryz.underlying3 Jcd S2.own.tail.tail.head hq id;rw[e1] at hl2;obtain⟨clock,hcl⟩:=Jg9 hm2
 have hlen:=run_len_map (P:=Tryz.prog) {w with heap:=w.heap.setIfInBounds mb mo2} 212 3 mb #[] clock (by kernel_rfl) (hcl▸S2.own.head)
 obtain⟨qo2,hd2,hq2⟩:=Jdu (P:=Tryz.prog) (t:=117) Tryz.underlying117 Tryz.underlying3 0 S2.own.tail.tail.head hq (by simp) id 3
 have e3:J4s [(id,Value.map (some mb))] id=[]:=by simp[J4s]
 rw[e3] at hq2;exact⟨_,_,qo2,mo2,hl1,hd,J0 hS.own.head 2,J0 S2.own.tail.head 2,hl2,hlen,hd2,hq2,(S2.permR (l2:=(qm,qo)::(kb,J0l rb rm qm)::(mb,mo2)::l) (J2 fun f=>by simp only[List.map_cons,List.sum_cons];omega)).obj' qo2⟩
def J8r (w0:World) (l:Hp) (kb rb rm qm:Nat) (e:Ending) (w':World):Prop:=e= .returned (.tuple #[])/\∃qo,K8 qo []/\J1 w0 [] w' ((qm,qo)::(kb,J0l rb rm qm)::l)
theorem Jeo {mb:Nat} {mo:Obj} (hS:J1 w0 [] w ((kb,J0l rb rm qm)::(qm,qo)::(mb,mo)::l)) (hq:K8 qo [(id,.map (some mb))]) (hm:Kz mo [(k,.int .i64 1)]):
 Calls Tryz.prog 117 #[ptr kb,.int .i64 id,.string k] w (J8r w0 l kb rb rm qm):=by
 obtain⟨w2,w3,qo2,mo2,u1,u2,u3,u4,u5,u6,u7,hq2,S3⟩:=Jl9 hS hq hm
 have hdone:=hid (show J8r w0 l kb rb rm qm (.returned (.tuple #[])) w3 from⟨rfl,qo2,hq2,(S3.permR (l2:=(mb,mo2)::(qm,qo2)::(kb,J0l rb rm qm)::l) (J2 fun f=>by simp only[List.map_cons,List.sum_cons];omega)).less (List.sublist_cons_self _ _)⟩)
 clear hS hq hm hq2 S3;go_enter Tryz.func117,Tryz.ntmps117;go_wp2_with fail;go_end0
 exact hdone.out
def Ja8 (w0:World) (r:Hp) (kb:Nat) (id:Int) (e:Ending) (w':World):Prop:=∃g c rest kl,e= .returned (.slice (some ⟨g,0,none⟩) 1 c)/\J2l kl kb .none/\J1 w0 [] w' ((g,J0b id rest)::(kl++r))
theorem Jjp {kl:Hp} (hS:J1 w0 [] w (kl++r)) (hK:J2l kl kb (.one k id)):
 Calls Tryz.prog 64 #[ptr kb,.string k] w (Ja8 w0 r kb id):=by
 obtain⟨rb,rl,rm,ro,qm,qo,x,rfl,hR,g,c,rest,mb,mo,hro,hqo,hmo,rfl⟩:=hK
 have S0:=hS.permR (l2:=(kb,J0l rb rm qm)::(qm,qo)::(mb,mo)::((rm,ro)::(g,J0b id rest)::(rl++r))) (J2 fun f=>by simp only[List.map_append,List.sum_append,List.map_cons,List.sum_cons,List.cons_append,J0l,J0b,List.map_nil,List.sum_nil,List.nil_append];omega)
 have k1:w.cell? ⟨kb,1,none⟩=some (.map (some rm)):=J0 S0.own.head 1;have gb:w.cell? ⟨g,0,none⟩=some (.int .i64 id):=J0 S0.own.tail.tail.tail.tail.head 0;have hlk:=J5l (P:=Tryz.prog) (t:=116) Tryz.underlying116 Tryz.underlying9 Jk8 S0.own.tail.tail.tail.head hro k;have hlk2:((J7 [(k,Value.slice (some ⟨g,0,none⟩) 1 c)] k).getD (.slice none 0 0))= .slice (some ⟨g,0,none⟩) 1 c:=by simp[J7]
 rw[hlk2] at hlk;have hf:=hid (Jeo S0 hqo hmo);replace hro:=hid hro;replace hR:=hid hR;clear hS hqo hmo S0 hlk2;go_enter Tryz.func64,Tryz.ntmps64;go_wp2_with fail;refine wp_loop_rounds 2 ?_;rw[rounds_succ];go_wp2_with fail;refine hf.out.mono ?_;rintro e w1 ⟨rfl,qo2,hq2,S1⟩;clear hf hlk k1 gb;obtain⟨ro2,hd,hr2⟩:=J8k (P:=Tryz.prog) (t:=116) Tryz.underlying116 Tryz.underlying9 0 S1.own.tail.tail.head hro.out (by simp) k 9
 have e2:Jk [(k,Value.slice (some ⟨g,0,none⟩) 1 c)] k=[]:=by simp[Jk]
 rw[e2] at hr2;have k1:w1.cell? ⟨kb,1,none⟩=some (.map (some rm)):=J0 S1.own.tail.head 1;have S2:=(S1.permR (l2:=(rm,ro)::(kb,J0l rb rm qm)::(qm,qo2)::(g,J0b id rest)::(rl++r)) (J2 fun f=>by simp only[List.map_cons,List.sum_cons];omega)).obj' ro2
 obtain⟨w2,hw2⟩:∃w2:World,w2={w1 with heap:=w1.heap.setIfInBounds rm ro2}:=⟨_,rfl⟩
 rw[<-hw2] at hd S2;clear hw2;have k0:w2.cell? ⟨kb,0,none⟩=some (ptr rb):=J0 S2.own.tail.head 0;have S3:=S2.permR (l2:=rl++((rm,ro2)::(kb,J0l rb rm qm)::(qm,qo2)::(g,J0b id rest)::r)) (J2 fun f=>by simp only[List.map_cons,List.sum_cons,List.map_append,List.sum_append];omega)
 have hdr:=hid (Jas rl rb [k] k w2 hR.out S3.own.left);replace hq2:=hid hq2;replace hr2:=hid hr2;replace S3:=hid S3;clear S1 S2 hro hR;go_wp2_with fail;rw[rounds_succ];go_wp2_with fail;refine hdr.out.mono ?_;rintro e w3 ⟨rfl,rl',hR',SR⟩;have ek:J35 [k] k=[]:=by simp[J35]
 rw[ek] at hR';have S4:=S3.out.part (a:=rl) (r:=(rm,ro2)::(kb,J0l rb rm qm)::(qm,qo2)::(g,J0b id rest)::r) (List.Perm.refl _) SR;have hdone:=hid (show Ja8 w0 r kb id (.returned (.slice (some ⟨g,0,none⟩) 1 c)) w3 from⟨g,c,rest,_,rfl,⟨rb,rl',rm,ro2,qm,qo2,[],rfl,hR',hr2.out,hq2.out,rfl⟩,S4.permR (J2 fun f=>by simp only[List.map_append,List.sum_append,List.map_cons,List.sum_cons,List.cons_append,J0l,J0b,List.map_nil,List.sum_nil];omega)⟩)
 clear hdr SR S3 S4 hR' hr2 hq2 ek;go_wp2_with fail;go_ret;exact hdone.out
def Ja7 (w0:World) (r:Hp) (e:Ending) (w':World):Prop:=∃g cap rest,e= .returned (.slice (some ⟨g,0,none⟩) 0 cap)/\1<=cap/\cap<=maxLen/\rest.length=cap/\J1 w0 [] w' ((g,.cells (rest:List Value).toArray 3 (0,0))::r)
theorem Jia (hS:J1 w0 [] w r):Calls Tryz.prog 116 #[.slice none 0 0,.int .i64 1] w (Ja7 w0 r):=by
 obtain⟨i,hi,hz,hsz,hby⟩:=info_parts Jfk
 have hrun:=Go.Lib.run_append_nil_zeros (P:=Tryz.prog) w 73 3 73 3 i (.int .i64 0) .i64 .i64 Tryz.underlying73 Tryz.underlying3 hi hz 1 (by omega) (by omega) (by omega) (by omega)
 have hge:=grownCap_ge w 1 0 3;have hle:=grownCap_le_maxLen w 1 0 3 (by unfold maxLen;omega)
 obtain⟨rest,hrest⟩:∃rest,rest=(Builtin.zeroCells (Value.int .i64 0).cells 1++Builtin.zeroCells (Value.int .i64 0).cells (grownCap w 1 0 3 - 1)).toList:=⟨_,rfl⟩
 have e1:(Builtin.zeroCells (Value.int .i64 0).cells 1++Builtin.zeroCells (Value.int .i64 0).cells (grownCap w 1 0 3 - 1))=rest.toArray:=by rw[hrest]
 rw[e1] at hrun;have S1:=hS.drew.alloc (.cells rest.toArray 3 (0,0))
 have hl:rest.length=grownCap w 1 0 3:=by
  rw[hrest,Array.toList_append,List.length_append,J3m,J3m];show 1*1+(_ - 1)*1=_
  omega
 have hdone:=hid (show Ja7 w0 r (.returned (.slice (some ⟨w.heap.size,0,none⟩) 0 (grownCap w 1 0 3))) _ from⟨_,_,_,rfl,hge,hle,hl,S1⟩);obtain⟨w2,hw2⟩:∃w2,w2=w.drew.alloc (.cells rest.toArray 3 (0,0)):=⟨_,rfl⟩
 rw[<-hw2] at hrun hdone;generalize w.heap.size=g at hrun hdone;generalize grownCap w 1 0 3=cap at hrun hdone hge;replace hrun:=hid hrun;clear hw2 S1 hS hi hz hsz hby hle e1 hl hrest;go_enter Tryz.func116,Tryz.ntmps116;go_wp2_with (at_builtin;refine Jh rfl _ _ _ _ rfl _ _ rfl rfl hrun.out ?_);go_ret;exact hdone.out
abbrev J8e (g c:Nat):Obj:=.cells #[.slice (some ⟨g,0,none⟩) 1 c,.slice none 0 0] 73 (0,0)
theorem Jem {b c:Nat} {rest:List Value} (hS:J1 w0 [] w ((b,J8e g c)::(g,J0b id rest)::r)):
 Calls Tryz.prog 63 #[.slice (some ⟨b,0,none⟩) 2 2] w (J58 w0 r id):=by
 have b0:w.cell? ⟨b,0,none⟩=some (.slice (some ⟨g,0,none⟩) 1 c):=J0 hS.own.head 0;have b1:w.cell? ⟨b,1,none⟩=some (.slice none 0 0):=J0 hS.own.head 1;have hg:=hid (Jia hS);clear hS;go_enter Tryz.func63,Tryz.ntmps63;go_wp2_with fail;refine wp_loop_rounds 3 ?_;rw[rounds_succ];go_wp2_with fail;rw[rounds_succ];go_wp2_with fail;rw[rounds_succ];go_wp2_with fail;refine hg.out.mono ?_;rintro e w1 ⟨ng,cap,nr,rfl,hc1,hc2,hl,S1⟩;clear hg b0 b1;have b0:w1.cell? ⟨b,0,none⟩=some (.slice (some ⟨g,0,none⟩) 1 c):=J0 S1.own.tail.head 0
 obtain⟨v',w2,sl',hrun,hsl,S2,_⟩:=J0c (P:=Tryz.prog) (ty:=73) (t:=73) (t2:=73) (e:=3) (e2:=3) (z:=.int .i64 0) (k:=1) (bytes:=8) Tryz.underlying73 Tryz.underlying73 Jfk rfl (by decide) (sl:=[(ng,.cells (([]:List Value)++nr).toArray 3 (0,0))]) (xs:=[]) (n:=0) (w0:=w0) (l:=[]) (w:=w1) (r:=(b,J8e g c)::(g,J0b id rest)::r) S1
  (.laid ng 0 cap [] nr rfl (by omega) (by omega) hc2) ⟨g,0,none⟩ 1 c [.int .i64 id] rfl (fun j u hu=>by
   cases j with
   |zero=>simp at hu;subst hu;exact J0 S1.own.tail.tail.head 0
   |succ j=>simp at hu) (fun u hu=>by simp at hu;subst hu;rfl) (by omega) (by omega) (by unfold maxLen;omega)
 cases hsl with
 |laid g2 n2 cap2 xs rest2 hx hr hn hc=>
  have c0:w2.cell? ⟨b,1,none⟩=some (.slice none 0 0):=J0 S2.own.tail.head 1;have hid2:=S2.own.head
  have hrun2:(Builtin.append_ #[73,73] 73 #[.slice (some ⟨g2,0,none⟩) (0+1) cap2,.slice none 0 0]).run Tryz.prog w2= .ok (.slice (some ⟨g2,0,none⟩) (0+1) cap2) w2:=by
   obtain⟨i,hi,hz,hsz,hby⟩:=info_parts Jfk
   have hn':0+1<=cap2:=hn;simp[Builtin.append_,run_underlying Tryz.underlying73,sizeOf,typeInfo,hi,Builtin.lenOf,Builtin.firstCells,hn',storeCells]
  have hdone:=hid (show J58 w0 r id (.returned (.slice (some ⟨g2,0,none⟩) (0+1) cap2)) w2 from⟨g2,cap2,rest2,rfl,hn,(S2.permR (l2:=(b,J8e g c)::(g,J0b id rest)::(g2,J0b id rest2)::r) (J2 fun f=>by simp only[List.map_cons,List.sum_cons,List.map_append,List.sum_append,List.map_nil,List.sum_nil,J0b,List.nil_append,List.singleton_append];omega)).less ((List.sublist_cons_self _ _).trans (List.sublist_cons_self _ _))⟩)
  replace hrun:=hid hrun;replace hrun2:=hid hrun2;clear S1 S2 hl hc1 hc2 hx hr hn hc hid2;go_wp2_with fail;refine wp_loop_rounds 3 ?_;rw[rounds_succ];go_wp2_with (at_builtin;refine Jh rfl _ _ _ _ rfl _ _ rfl rfl hrun.out ?_);rw[rounds_succ];go_wp2_with (at_builtin;refine Jh rfl _ _ _ _ rfl _ _ rfl rfl hrun2.out ?_);rw[rounds_succ];go_wp2_with fail;go_ret;exact hdone.out
theorem Jg3 (w:World):Calls Tryz.prog 121 #[.int .u64 1] w fun e w'=>(∃n,e= .returned (.int .i64 n))/\w'=w:=by
 go_enter Tryz.func121,Tryz.ntmps121;go_wp2
 go_ret;exact⟨⟨_,rfl⟩,rfl⟩
theorem Jal (v:Value) (n:Int) (hn:n<=1) (w:World):Calls Tryz.prog 180 #[v,.int .i64 0,.int .i64 n] w fun e w'=>e= .returned (.tuple #[])/\w'=w:=by
 have h1:¬1<n:=by omega
 go_enter Tryz.func180,Tryz.ntmps180;go_wp2_with fail;refine wp_loop_rounds 1 ?_;rw[rounds_succ];go_wp2_with fail;go_end0
 exact⟨rfl,rfl⟩
theorem Jn9 (v:Value) (k:Int) (w:World):Calls Tryz.prog 120 #[v,.int .i64 0,.int .i64 0,.int .i64 k] w fun e w'=>e= .returned (.tuple #[])/\w'=w:=by
 have hi:=hid (Jal v 0 (by omega) w)
 go_enter Tryz.func120,Tryz.ntmps120;go_wp2_with fail;refine wp_loop_rounds 1 ?_;rw[rounds_succ];go_wp2_with fail;refine hi.out.mono ?_;rintro e w1 ⟨rfl,rfl⟩;clear hi;go_wp2_with fail;refine bodyPost_ret (results_none rfl _ _ _) rfl ?_;exact⟨rfl,rfl⟩
theorem Jna (v:Value) (k:Int) (w:World):Calls Tryz.prog 120 #[v,.int .i64 0,.int .i64 1,.int .i64 k] w fun e w'=>e= .returned (.tuple #[])/\w'=w:=by
 have hi:=hid (Jal v 1 (by omega) w)
 go_enter Tryz.func120,Tryz.ntmps120;go_wp2_with fail;refine wp_loop_rounds 1 ?_;rw[rounds_succ];go_wp2_with fail;refine hi.out.mono ?_;rintro e w1 ⟨rfl,rfl⟩;clear hi;go_wp2_with fail;refine bodyPost_ret (results_none rfl _ _ _) rfl ?_;exact⟨rfl,rfl⟩
theorem Jjd (a:Option Addr) (c:Nat) (w:World):Calls Tryz.prog 66 #[.slice a 1 c] w fun e w'=>e= .returned (.tuple #[])/\w'=w:=by
 have hb:=hid (Jg3 w);have hp:=fun k w=>hid (Jna (.slice a 1 c) k w)
 replace hp:=hid hp;go_enter Tryz.func66,Tryz.ntmps66;go_wp2_with fail;refine hb.out.mono ?_;rintro e w1 ⟨⟨k,rfl⟩,rfl⟩;clear hb;go_wp2_with fail;refine(hp.out _ _).out.mono ?_
 rintro e w1 ⟨rfl,rfl⟩;go_wp2_with fail;go_end0
 exact⟨rfl,rfl⟩
theorem Jjc (w:World):Calls Tryz.prog 66 #[.slice none 0 0] w fun e w'=>e= .returned (.tuple #[])/\w'=w:=by
 have hb:=hid (Jab w);have hp:=fun k w=>hid (Jn9 (.slice none 0 0) k w)
 replace hp:=hid hp;go_enter Tryz.func66,Tryz.ntmps66;go_wp2_with fail;refine hb.out.mono ?_;rintro e w1 ⟨⟨k,rfl⟩,rfl⟩;clear hb;go_wp2_with fail;refine(hp.out _ _).out.mono ?_
 rintro e w1 ⟨rfl,rfl⟩;go_wp2_with fail;go_end0
 exact⟨rfl,rfl⟩
theorem J8w (a:Option Addr) (n c:Nat) (hn:n<2) (w:World):Calls Tryz.prog 67 #[.slice a n c] w fun e w'=>e= .returned (.slice a n c)/\w'=w:=by
 have h1:(n:Int)<2:=by omega
 go_enter Tryz.func67,Tryz.ntmps67;go_wp2_with fail;go_ret;exact⟨rfl,rfl⟩
theorem Jdb (w:World):Calls Tryz.prog 302 #[.slice none 0 0,.int .i64 0,.int .i64 0] w fun e w'=>e= .returned (.tuple #[])/\w'=w:=by
 go_enter Tryz.func302,Tryz.ntmps302;go_wp2_with fail;refine wp_loop_rounds 1 ?_;rw[rounds_succ];go_wp2_with fail;go_end0
 exact⟨rfl,rfl⟩
theorem Jiz (k:Int) (w:World):Calls Tryz.prog 259 #[.slice none 0 0,.int .i64 0,.int .i64 0,.int .i64 k] w fun e w'=>e= .returned (.tuple #[])/\w'=w:=by
 have hi:=hid (Jdb w);go_enter Tryz.func259,Tryz.ntmps259;go_wp2_with fail;refine wp_loop_rounds 1 ?_;rw[rounds_succ];go_wp2_with fail;refine hi.out.mono ?_;rintro e w1 ⟨rfl,rfl⟩;clear hi;go_wp2_with fail;refine bodyPost_ret (results_none rfl _ _ _) rfl ?_;exact⟨rfl,rfl⟩
theorem Jh4 (w:World):Calls Tryz.prog 197 #[.slice none 0 0] w fun e w'=>e= .returned (.tuple #[])/\w'=w:=by
 have hb:=hid (Jab w);have hp:=fun k w=>hid (Jiz k w)
 replace hp:=hid hp;go_enter Tryz.func197,Tryz.ntmps197;go_wp2_with fail;refine hb.out.mono ?_;rintro e w1 ⟨⟨k,rfl⟩,rfl⟩;clear hb;go_wp2_with fail;refine(hp.out _ _).out.mono ?_
 rintro e w1 ⟨rfl,rfl⟩;go_wp2_with fail;go_end0
 exact⟨rfl,rfl⟩
theorem Jj2 {pl:Hp} {pb:Nat} (h:Own w (pl++r)) (hP:J5o pl pb):∃tb om oo,w.cell? ⟨pb,0,none⟩=some (ptr tb)/\w.heap[tb]? =some J3y/\w.cell? ⟨pb,3,none⟩=some (.map (some om))/\w.heap[om]? =some oo/\K8 oo []:=by
 obtain⟨tb,rm,om,ro,oo,rfl,h1,h2⟩:=hP
 exact⟨tb,om,oo,J0 h.left.head 0,h.left.tail.head,J0 h.left.head 3,h.left.tail.tail.tail.head,h2⟩
theorem Jkv {pl:Hp} {pb:Nat} (h:Own w (pl++r)) (hP:J5o pl pb):Calls Tryz.prog 65 #[ptr pb,.string ⟨#[107]⟩] w fun e w'=>e= .returned (.slice none 0 0)/\w'=w:=by
 obtain⟨tb,om,oo,c0,ht,_⟩:=Jj2 h hP
 have ha:=hid (Jkd ht);have hs:=hid (Jjc w);have hc:=hid (J8w none 0 0 (by omega) w)
 clear h hP ht;go_enter Tryz.func65,Tryz.ntmps65;go_wp2_with fail;refine ha.out.mono ?_;rintro e w1 ⟨rfl,rfl⟩;clear ha;go_wp2_with fail;refine wp_loop_rounds 1 ?_;rw[rounds_succ];go_wp2_with fail;refine hs.out.mono ?_;rintro e w1 ⟨rfl,rfl⟩;clear hs;go_wp2_with fail;refine hc.out.mono ?_;rintro e w1 ⟨rfl,rfl⟩;clear hc;go_wp2_with fail;go_ret;exact⟨rfl,rfl⟩
theorem Jdo (hS:J1 w0 [] w r) {off:Nat} (hg:w.cell? ⟨g,off,none⟩=some (.string onB)):
 Calls Tryz.prog 134 #[.slice (some ⟨g,off,none⟩) 1 1] w (Ji w0 r (.tuple #[J0g true,.int .i64 0])):=by
 have S1:=hS.alloc (Kr false);have hup:=hid (Jjx S1);have hg1:(w.alloc (.cells #[.bool false,.bool false,.bool false,.bool false,.bool false,.int .i64 0,.slice none 0 0] 86)).cell? ⟨g,off,none⟩=some (.string onB):=(World.cell?_alloc_some w _ _ (by rw[hg];rfl)).trans hg
 have hsort:=fun w=>hid (Jh4 w)
 replace hsort:=hid hsort;clear hS S1;go_enter Tryz.func134,Tryz.ntmps134;go_wp2_with fail;refine hup.out.mono ?_;rintro e w1 ⟨rfl,S2⟩;have S3:=S2.alloc (Kr true);generalize w.heap.size=b at S2 S3⊢;have hr:=hid (Jdr S3);unfold J0g at hr;replace S3:=hid S3;clear hup S2;go_wp2_with fail;refine wp_loop_rounds 1 ?_;rw[rounds_succ];go_wp2_with fail;refine(hsort.out _).out.mono ?_
 rintro e w2 ⟨rfl,rfl⟩;go_wp2_with fail;refine hr.out.mono ?_;rintro e w2 ⟨rfl,S4⟩;clear hr S3 hsort;generalize w1.heap.size=b1 at S4⊢;have q0:w2.cell? ⟨b1,0,none⟩=some (.bool true):=J0 S4.own.head 0;have q1:w2.cell? ⟨b1,1,none⟩=some (.bool false):=J0 S4.own.head 1;have q2:w2.cell? ⟨b1,2,none⟩=some (.bool false):=J0 S4.own.head 2;have q3:w2.cell? ⟨b1,3,none⟩=some (.bool false):=J0 S4.own.head 3;have q4:w2.cell? ⟨b1,4,none⟩=some (.bool false):=J0 S4.own.head 4;have q5:w2.cell? ⟨b1,5,none⟩=some (.int .i64 0):=J0 S4.own.head 5;have q6:w2.cell? ⟨b1,6,none⟩=some (.slice none 0 0):=J0 S4.own.head 6;have S5:=S4.permR (l2:=(b,Kr false)::(b1,Kr true)::r) (List.Perm.swap _ _ _);have p0:w2.cell? ⟨b,0,none⟩=some (.bool false):=J0 S5.own.head 0;have p1:w2.cell? ⟨b,1,none⟩=some (.bool false):=J0 S5.own.head 1;have p2:w2.cell? ⟨b,2,none⟩=some (.bool false):=J0 S5.own.head 2;have p3:w2.cell? ⟨b,3,none⟩=some (.bool false):=J0 S5.own.head 3;have p4:w2.cell? ⟨b,4,none⟩=some (.bool false):=J0 S5.own.head 4;have p5:w2.cell? ⟨b,5,none⟩=some (.int .i64 0):=J0 S5.own.head 5;have p6:w2.cell? ⟨b,6,none⟩=some (.slice none 0 0):=J0 S5.own.head 6;have fz:∀j,w2.frozen? ⟨b,j,none⟩=false:=fun j=>J6 S5.own.head j
 have hlt:=Jc S5.own.head;have S6:=hid ((S5.setMd (.bool true) (.bool false) (.bool false) (.bool false) (.bool false) (.int .i64 0) (.slice none 0 0)).less ((List.sublist_cons_self _ _).trans (List.sublist_cons_self _ _)));clear S4 S5;go_wp2_with fail;refine bodyPost_ret (v:=.tuple #[J0g true,.int .i64 0]) (by simp[results,Tryz.results134,go_sem,J0g, *]<;>rfl) rfl ?_
 exact⟨rfl,S6.out⟩
theorem Jh9 (hS:J1 w0 [] w r):
 Calls Tryz.prog 128 #[J0g false,J0g true] w (Ji w0 r (.tuple #[J0g true,.int .i64 0])):=by
 have S3:=((hS.alloc (Kr false)).alloc (Kr true)).alloc (Kr false);have hcp:=hid (Jfg S3 true);unfold J0g at hcp⊢;clear hS S3;go_enter Tryz.func128,Tryz.ntmps128;go_wp2_with fail;refine hcp.out.mono ?_;rintro e w2 ⟨rfl,S5⟩;clear hcp;simp only[World.size_alloc] at S5;generalize w.heap.size=b0 at S5⊢;generalize hb:b0+1+1=b at S5;have p0:w2.cell? ⟨b,0,none⟩=some (.bool false):=J0 S5.own.head 0;have p1:w2.cell? ⟨b,1,none⟩=some (.bool false):=J0 S5.own.head 1;have p2:w2.cell? ⟨b,2,none⟩=some (.bool false):=J0 S5.own.head 2;have p3:w2.cell? ⟨b,3,none⟩=some (.bool false):=J0 S5.own.head 3;have p4:w2.cell? ⟨b,4,none⟩=some (.bool false):=J0 S5.own.head 4;have p5:w2.cell? ⟨b,5,none⟩=some (.int .i64 0):=J0 S5.own.head 5;have p6:w2.cell? ⟨b,6,none⟩=some (.slice none 0 0):=J0 S5.own.head 6;have fz:∀j,w2.frozen? ⟨b,j,none⟩=false:=fun j=>J6 S5.own.head j
 have hlt:=Jc S5.own.head;have S6:=hid ((S5.setMd (.bool true) (.bool false) (.bool false) (.bool false) (.bool false) (.int .i64 0) (.slice none 0 0)).less ((List.sublist_cons_self _ _).trans ((List.sublist_cons_self _ _).trans (List.sublist_cons_self _ _))));clear S5;have hb2:b0+2=b:=by omega
 try rw[hb2]
 try rw[hb]
 clear hb hb2;go_wp2_with fail;refine bodyPost_ret (v:=.tuple #[J0g true,.int .i64 0]) (by simp[results,Tryz.results128,go_sem,J0g, *]<;>rfl) rfl ?_
 exact⟨rfl,S6.out⟩
theorem Jbx (hS:J1 w0 [] w r):Calls Tryz.prog 47 #[] w (fun e w'=>e= .returned (ptr w.heap.size)/\J1 w0 [] w' ((w.heap.size,J3y)::r)):=by
 have S1:=hid (hS.alloc (.cells #[.string ByteArray.empty,.bool false,.int .i64 0,.slice none 0 0,.int .i64 0] 169));clear hS;go_enter Tryz.func47,Tryz.ntmps47;go_wp2_with fail;go_ret;exact⟨rfl,S1.out⟩
def Jef (w0:World) (r:Hp) (e:Ending) (w':World):Prop:=∃pb l,e= .returned (ptr pb)/\J5o l pb/\J1 w0 [] w' (l++r)
theorem Jj0 (hS:J1 w0 [] w r):Calls Tryz.prog 30 #[] w (Jef w0 r):=by
 have hr:=hid (Jbx hS);have hmm:=@run_makeMap Tryz.prog;clear hS;go_enter Tryz.func30,Tryz.ntmps30;go_wp2_with fail;refine hr.out.mono ?_;rintro e w1 ⟨rfl,S1⟩;clear hr;generalize w.heap.size=tb at S1⊢;have S2:=(((S1.alloc (.map #[] 0)).alloc (.map #[] 0)).alloc (.cells #[ptr tb,.map (some w1.heap.size),.int .i64 0,.map (some (w1.heap.size+1))] 125));simp only[World.size_alloc] at S2;replace S2:=hid S2;clear S1;go_wp2_with fail;go_ret;refine⟨_,_,rfl,⟨tb,w1.heap.size,w1.heap.size+1,_,_,rfl,K8.empty,K8.empty⟩,S2.out.permR (J2 fun f=>by simp only[SC];omega)⟩
def Jcj (w0:World) (r:Hp) (kb:Nat) (e:Ending) (w':World):Prop:=e= .returned (.tuple #[])/\∃l,J2l l kb .none/\J1 w0 [] w' (l++r)
theorem Jer {rl:Hp} {v1 v2:Value} (hS:J1 w0 [] w ((kb,.cells #[ptr rb,v1,v2,.int .i64 10] 119 (0,0))::(rl++r))) (hR:Jj rl rb []):
 Calls Tryz.prog 46 #[ptr kb] w (Jcj w0 r kb):=by
 have c0:w.cell? ⟨kb,0,none⟩=some (ptr rb):=J0 hS.own.head 0;have hmm:=@run_makeMap Tryz.prog;have hcl:=hid (Jgx hR (hS.own.perm (l':=rl++((kb,.cells #[ptr rb,v1,v2,.int .i64 10] 119 (0,0))::r)) List.perm_middle.symm).left);replace hS:=hid hS;clear hR;go_enter Tryz.func46,Tryz.ntmps46;go_wp2_with fail;refine hcl.out.mono ?_;rintro e w1 ⟨rfl,rl',hR',SR⟩;have S1:=(hS.out.part (a:=rl) (r:=(kb,.cells #[ptr rb,v1,v2,.int .i64 10] 119 (0,0))::r) List.perm_middle.symm SR).permR List.perm_middle;have fz:∀j,w1.frozen? ⟨kb,j,none⟩=false:=fun j=>J6 S1.own.head j
 have d1:w1.cell? ⟨kb,1,none⟩=some v1:=J0 S1.own.head 1;have d2:w1.cell? ⟨kb,2,none⟩=some v2:=J0 S1.own.head 2;have hlt:=Jc S1.own.head;have S2:=(((S1.set 1 (.map (some w1.heap.size))).set 2 (.map (some (w1.heap.size+1)))).alloc (.map #[] 0)).alloc (.map #[] 0);simp only[World.size_alloc,World.size_setCell] at S2;replace S2:=hid S2;replace hR':=hid hR';clear hcl hS SR S1 c0;go_wp2_with fail;go_end0
 exact⟨rfl,_,⟨rb,rl',w1.heap.size,_,w1.heap.size+1,_,[],rfl,hR'.out,⟨#[],0,rfl,rfl⟩,K8.empty,rfl⟩,S2.out.permR (J2 fun f=>by
  simp only[List.map_append,List.sum_append,List.map_cons,List.sum_cons,List.cons_append];show _+(_+(f (kb,.cells #[ptr rb,.map (some w1.heap.size),.map (some (w1.heap.size+1)),.int .i64 10] 119 (0,0))+_))=_
  simp only[List.map_nil,List.sum_nil];omega)⟩
def Jci (w0:World) (r:Hp) (e:Ending) (w':World):Prop:=∃kb l,e= .returned (ptr kb)/\J2l l kb .none/\J1 w0 [] w' (l++r)
theorem Jil (hS:J1 w0 [] w r):Calls Tryz.prog 29 #[.int .i64 10] w (Jci w0 r):=by
 have hr:=hid (Jds w);replace hS:=hid hS;go_enter Tryz.func29,Tryz.ntmps29;go_wp2_with fail;refine hr.out.mono ?_;rintro e w1 ⟨rb,rl,rfl,hR,SR⟩;have S1:=(hS.out.born SR).alloc (.cells #[ptr rb,.map none,.map none,.int .i64 10] 119);have hcl:=hid (Jer S1 hR);clear hr hS hR SR S1;go_wp2_with fail;refine hcl.out.mono ?_;rintro e w2 ⟨rfl,l,hK,S2⟩;have hdone:=hid (show Jci w0 r (.returned (ptr w1.heap.size)) w2 from⟨_,l,rfl,hK,S2⟩);clear hcl hK S2;go_wp2_with fail;go_ret;exact hdone.out
def Jco (w0:World) (r:Hp) (e:Ending) (w':World):Prop:=∃tb tm kb pb kl pl,e= .returned (ptr tb)/\J2l kl kb .none/\J5o pl pb/\J1 w0 [] w' ((tb,.cells #[.map (some tm),ptr kb,ptr pb] 83 (0,0))::(tm,.map #[] 0)::(kl++(pl++r)))
theorem Jc8 (hS:J1 w0 [] w r):Calls Tryz.prog 14 #[.int .i64 10] w (Jco w0 r):=by
 have hmm:=@run_makeMap Tryz.prog;have hk:=hid (Jil (hS.alloc (.map #[] 0)));clear hS;go_enter Tryz.func14,Tryz.ntmps14;go_wp2_with fail;refine hk.out.mono ?_;rintro e w1 ⟨kb,kl,rfl,hK,S1⟩;have hp:=hid (Jj0 S1);replace hK:=hid hK;generalize w.heap.size=tm at hp hk⊢;clear hk S1;go_wp2_with fail;refine hp.out.mono ?_;rintro e w2 ⟨pb,pl,rfl,hP,S2⟩
 have hdone:=hid (show Jco w0 r (.returned (ptr w2.heap.size)) (w2.alloc (.cells #[.map (some tm),ptr kb,ptr pb] 83)) from⟨w2.heap.size,tm,kb,pb,kl,pl,rfl,hK.out,hP,(S2.alloc _).permR (J2 fun f=>by
  simp only[SC];omega)⟩)
 clear hp hP S2 hK;go_wp2_with fail;go_ret;exact hdone.out
def Jcg (w0:World) (r:Hp) (e:Ending) (w':World):Prop:=∃(hb hm tb tm sto kb pb:Nat) (kl pl sl:Hp),e= .returned (ptr hb)/\J2l kl kb .none/\J5o pl pb/\Je sl sto (J4w 10000)/\
 J1 w0 [] w' ((hb,.cells #[ptr sto,ptr tb,.map (some hm)] 46 (0,0))::(hm,.map #[] 0)::(tb,.cells #[.map (some tm),ptr kb,ptr pb] 83 (0,0))::(tm,.map #[] 0)::(kl++(pl++(sl++r))))
theorem Jid (hS:J1 w0 [] w r):Calls Tryz.prog 5 #[.int .i64 10000,.int .i64 10] w (Jcg w0 r):=by
 have hmm:=@run_makeMap Tryz.prog;have hs:=hid (J9r hS 10000);clear hS;go_enter Tryz.func5,Tryz.ntmps5;go_wp2_with fail;refine hs.out.mono ?_;rintro e w1 ⟨sto,sl,rfl,hI,S1⟩;have ht:=hid (Jc8 S1);replace hI:=hid hI;clear hs S1;go_wp2_with fail;refine ht.out.mono ?_;rintro e w2 ⟨tb,tm,kb,pb,kl,pl,rfl,hK,hP,S2⟩;have S3:=(S2.alloc (.map #[] 0)).alloc (.cells #[ptr sto,ptr tb,.map (some w2.heap.size)] 46);simp only[World.size_alloc] at S3;have hdone:=hid (show Jcg w0 r (.returned (ptr (w2.heap.size+1))) ((w2.alloc (.map #[] 0)).alloc (.cells #[ptr sto,ptr tb,.map (some w2.heap.size)] 46)) from⟨_,_,tb,tm,sto,kb,pb,kl,pl,sl,rfl,hK,hP,hI.out,S3⟩);clear ht hK hP S2 S3 hI;go_wp2_with fail;go_ret;exact hdone.out
end Go.Proofs.YtefjbegnlolgbaaGreatDoor
