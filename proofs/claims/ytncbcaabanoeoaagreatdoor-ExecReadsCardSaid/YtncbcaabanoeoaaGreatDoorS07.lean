/-
ExecReads's statement: whatever comes in: the law answers true, and what was there stays as it was. The card is tied by the given tie.
-/
import Derived.Test.YtncbcaabanoeoaaGreatDoorCards
import Derived.Test.YtncbcaabanoeoaaGreatDoorS06
import Derived.Test.YtncbcaabanoeoaaGreatDoorTie
set_option linter.unusedVariables false
set_option linter.unusedSimpArgs false
set_option maxRecDepth 100000
set_option maxHeartbeats 8000000
namespace Go.Proofs.YtncbcaabanoeoaaGreatDoor
open Go Go.RowKit Go.ChangeShapes Go.WideShapes Go.ChangeAt
theorem J3.sameAt {W W':World} (h:J3 W [] W' []) {p:MemPlace} (hp:p.block<W.heap.size):W.sameAt W' p:=by
 have e:W'.heap[p.block]? =W.heap[p.block]? :=h.same p.block hp (by simp[keys])
 cases p with
 |cell b o=>exact World.cell?_of_block (w:=W) e
 |map b=>exact e
theorem J3.again {H:Type} {enc:TypeId×Value->H} {W W':World} {t:TypeId} {v:Value} {d:DataW H} {p:List MemPlace} (hb:J3 W [] W' []) (hr:Tryz.prog.readableRec t=true) (hrow:t<Tryz.prog.types.size) (h:DataW.Trod enc Tryz.prog W 0 (fun _=>true) true t v d p) (hlt:∀x∈p,x.block<W.heap.size):DataW.Trod enc Tryz.prog W' 0 (fun b=>decide (b<W.heap.size)) true t v d p:=
 WideElems.Trod_stays (by kernel_rfl) hr hrow h (fun x hx=>hb.sameAt (hlt x hx)) (fun x hx=>by simpa using hlt x hx)
theorem K11 (os:Os) (started:os.Started) (H:Type) (enc:TypeId×Value->H):
 ReturnsInHanded {} Tryz.checked os 4 .any (fun w args=>(Rows.execReadsSpec.pre enc Tryz.prog Tryz.f4 [] false w args/\laidMetH Tryz.prog Rows.execReadsRow.laid w)/\sizedMet enc Tryz.prog Tryz.f4 (OpenSpec.ofChange Rows.execReadsSpec) false w args)
  (Rows.execReadsSpec.post enc Tryz.prog Tryz.f4 false true false false):=by
 refine returnsInHanded_of_change_and (C:=Tryz.checked) (X:=fun w _=>laidMetH Tryz.prog Rows.execReadsRow.laid w) (fun _ _ _ hh h=>h.of_heap hh) Jww started (by kernel_rfl) Tryz.func4
  (ChangeSpec.witness_shaped (enc:=enc) (C:=Tryz.checked) (os:=os) (X:=fun w _=>laidMetH Tryz.prog Rows.execReadsRow.laid w) false (World.laidAll Tryz.prog os Rows.execReadsRow.laid) #[.slice none 0 0,.slice none 0 0] 8 (World.laidAll_os _ _ _)
   (World.shaped_of_ZipB (by kernel_rfl) (by kernel_rfl)) (by kernel_rfl) (by kernel_rfl) (by kernel_rfl)
   (by rw[MakeChecks.laidMetH_plain _ _ _ (by kernel_rfl)];exact laidMet_laidAll _ (by kernel_rfl) (by kernel_rfl))) ?_
 intro W base args ds gs before hval0 hW _ _ hL _
 have hval:∀(j:Nat) t v,Tryz.f4.params[j]? =some t->args[j]? =some v->Value.okWide Tryz.prog W .any base t v:=hval0;have hW':=hW;obtain⟨p,q,hA0,hV,rfl,_,_⟩:=hW
 have hA:DataW.TrodAll enc Tryz.prog W 0 (fun _=>true) true Tryz.f4.params.toList args.toList ds p:=hA0
 rw[Tryz.params4] at hA hval;obtain⟨v0,vs0,d0,ds0,p0,q0,hargs,rfl,rfl,h0,r0⟩:=trodAll_cons hA
 obtain⟨v1,vs1,d1,ds1,p1,q1,rfl,rfl,rfl,h1,r1⟩:=trodAll_cons r0
 obtain⟨rfl,rfl,rfl⟩:=trodAll_nil r1
 obtain rfl:args= #[v0,v1]:=by cases args;simp_all
 obtain⟨rfl,rfl⟩:=trodVars_none hV
 have k0:=h0;obtain⟨a0,Jyn,cap0,rfl⟩:=okWide_slice Tryz.underlying22 (hval 0 22 v0 rfl rfl)
 obtain⟨fu0,hf0⟩:=h0
 obtain⟨u0,x0,hu0,hx0⟩:=Jrc (by decide) hf0
 obtain rfl:_=u0:=by simpa[Value.cells] using hu0
 have k1:=h1;obtain⟨a1,Jqz,cap1,rfl⟩:=okWide_slice Tryz.underlying23 (hval 1 23 v1 rfl rfl)
 obtain⟨fu1,hf1⟩:=h1
 obtain⟨u1,x1,hu1,hx1⟩:=Jei (by decide) hf1
 obtain rfl:_=u1:=by simpa[Value.cells] using hu1
 clear hA0 hval0;simp only[List.append_nil] at hW';have hlt:=fun x hx=>hW'.lt x hx
 rw[MakeChecks.laidMetH_plain _ _ _ (by kernel_rfl)] at hL
 have hG:Jau W:=⟨Jwj hL.tail.tail.tail.tail.tail.tail.tail.tail hL.tail.tail.tail.tail.tail.tail.tail.tail.tail.tail hL.tail.tail.tail.tail.tail.tail.tail.tail.tail.tail.tail,Jyv hL.tail.tail.tail.tail.tail.tail.tail.tail.tail.tail.tail.tail.tail,⟨(Jhq hL.tail.tail.tail).1,(Jhq hL.tail.tail.tail).2.1,(Jhq hL.tail.tail.tail).2.2,Jyr hL.tail.tail.tail.tail,Jz5 hL.tail.tail.tail.tail.tail⟩,Jz4 hL.tail.tail.tail.tail.tail.tail,Jsi hL.tail.tail.tail.tail.tail.tail.tail.tail.tail.tail.tail.tail⟩;refine(K1m (J3.start W) hG hx0 hx1).mono fun e W' ⟨he,hb⟩=>?_
 subst he;exact⟨_,rfl,_,_,_,[],_,[],hW',trodAll_mk1 (shut_bool Tryz.underlying4 _),(trodAll_cons_mk (hb.again (by kernel_rfl) (of_decide_eq_true (by kernel_rfl)) k0 (fun x hx=>hlt x (by simp[hx]))) (trodAll_cons_mk (hb.again (by kernel_rfl) (of_decide_eq_true (by kernel_rfl)) k1 (fun x hx=>hlt x (by simp[hx]))) trodAll_mk0)),rfl,hb.kept _,fun h=>by cases h⟩
end Go.Proofs.YtncbcaabanoeoaaGreatDoor
namespace Go.Proofs.YtncbcaabanoeoaaGreatDoor
open Go Go.RowKit
theorem K13:joinedFacts Tryz.pinned.checked.prog 4 Tryz.f4 Rows.execReadsSpec Rows.execReadsRow=true:=by
 unfold joinedFacts;simp only[Bool.and_eq_true];repeat' apply And.intro
 all_goals (as_aux_lemma=>kernel_rfl)
end Go.Proofs.YtncbcaabanoeoaaGreatDoor
namespace Go.Proofs.YtncbcaabanoeoaaGreatDoor
open Go Go.RowKit Go.ChangeShapes Go.WideShapes Go.ChangeAt
theorem K1d:Rows.execReadsRow.holds Tryz.pinned (OpenSpec.ofChange Rows.execReadsSpec):=
 OpenClaim.holds_of_wide 4 Tryz.f4 rfl rfl rfl rfl rfl rfl rfl ⟨rfl,rfl,rfl,rfl,rfl⟩ rfl rfl rfl rfl rfl (by as_aux_lemma=>kernel_rfl) Tryz.func4 K13
  (of_decide_eq_true (by as_aux_lemma=>kernel_rfl)) (by unfold Func.isWrapper;first|(rw[if_pos (by decide+kernel)];kernel_rfl)|(rw[if_neg (by decide+kernel)];exact⟨rfl,rfl⟩))
  (fun os started H enc _=>K11 os started H enc)
theorem execReads_card:Rows.ExecReadsCardSaid:=
 Claim7.holds_tied_plain_at .later [] [.data,.data,.widerDeep,.widerDeep,.data,.data,.data,.data,.data,.data,.sentinel,.sentinel,.pinned,.pinned,.pinned,.pinned] true (true,"c6095d1612953cd9a2e2a3b4cdf0ff011c6f26928538abf98452bf43305fa43c") true K1d (fun _ h=>by cases h) (by as_aux_lemma=>kernel_rfl) (fun _ h=>by cases h) execReads_row_tie rfl ⟨rfl,rfl⟩ (by as_aux_lemma=>kernel_rfl) rfl
  (fun f fn hf hfn=>by
   obtain rfl:f=4:=Option.some.inj ((show Tryz.prog.funcNamed "nearhand/nearhandlaw20.ExecReads"=some 4 by kernel_rfl).symm.trans hf)|>.symm
   obtain rfl:fn=Tryz.f4:=(Option.some.inj (Tryz.func4.symm.trans hfn)).symm
   exact⟨by kernel_rfl,fun j t ht=>by
    rw[Tryz.params4] at ht;have hm:t∈[22,23]:=by simpa using Array.mem_of_getElem? ht
    have hall:([22,23].all fun u=>!Tryz.prog.wantsStandIn u)=true:=by kernel_rfl
    exact(show Tryz.prog.wantsStandIn t=false by simpa using List.all_eq_true.1 hall t hm)⟩)
  (by as_aux_lemma=>kernel_rfl)
end Go.Proofs.YtncbcaabanoeoaaGreatDoor
