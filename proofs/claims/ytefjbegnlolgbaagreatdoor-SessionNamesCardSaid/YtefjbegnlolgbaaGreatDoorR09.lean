/-
What the laid variables give: ErrSyntax, ErrRange, the table of powers.
-/
import Derived.LaidOnce
import Derived.Lay
import Derived.Lib.LaidTab
import Derived.OpenShut
import Derived.ProofKit
import Derived.Stop.LaidErr
import Derived.Test.YtefjbegnlolgbaaGreatDoorR08
import Derived.Test.YtefjbegnlolgbaaGreatDoorRows
set_option linter.unusedVariables false
set_option linter.unusedSimpArgs false
set_option maxRecDepth 100000
set_option maxHeartbeats 8000000
namespace Go.Proofs.YtefjbegnlolgbaaGreatDoor
open Go Go.RowKit
theorem Jov: "*"++ "errors.errorString"= "*errors.errorString":=by decide
theorem Jpl (u:TypeId) (h:Tryz.prog.typeName? 3 u=some "*errors.errorString"):u=441:=
 typeName_ptr_named (nm:= "errors.errorString") (by rw[Jov];kernel_rfl) (by kernel_rfl) (by decide) u (by rw[Jov];exact h)
theorem Jpw {W:World} {r1 r2 r3:List (String×DataW Unit)} (h1:laidMet Tryz.prog (("internal/strconv.uint64pow10",Rows.laid_internal_strconv_uint64pow10)::r1) W)
 (h2:laidMet Tryz.prog (("strconv.ErrRange",Rows.laid_strconv_ErrRange)::r2) W) (h3:laidMet Tryz.prog (("strconv.ErrSyntax",Rows.laid_strconv_ErrSyntax)::r3) W):J1q W:=by
 obtain⟨a1,s1,hv1,_⟩:=laid_sentinel (g:=5) (ti:=134) (tp:=441) (te:=443) (ts:=9) h3 (by kernel_rfl) (by kernel_rfl) Tryz.underlying134 Jpl Tryz.underlying441 Tryz.underlying443 rfl rfl Tryz.underlying9 (by kernel_rfl) (by kernel_rfl)
 obtain⟨a2,s2,hv2,_⟩:=laid_sentinel (g:=6) (ti:=134) (tp:=441) (te:=443) (ts:=9) h2 (by kernel_rfl) (by kernel_rfl) Tryz.underlying134 Jpl Tryz.underlying441 Tryz.underlying443 rfl rfl Tryz.underlying9 (by kernel_rfl) (by kernel_rfl)
 exact⟨⟨_,_,hv1⟩,⟨_,_,hv2⟩,Lib.tabIs_of_head (g:=7) (t:=439) (by kernel_rfl) (by kernel_rfl) Tryz.underlying439 Tryz.underlying276 (by kernel_rfl) (by kernel_rfl) h1⟩
theorem Jq1:ownKnob Tryz.prog.godebug=none:=by kernel_rfl
theorem J1.start (W:World):J1 W [] W []:=⟨rfl,rfl,Nat.le_refl _,⟨fun p hp=>by simp at hp,by simp[keys]⟩,fun _ _ _=>rfl,fun b hb=>.inl hb⟩
theorem J1.kept {W W':World} (h:J1 W [] W' []) (may:MemPlace->Prop):W.keptBut W' may:=by
 refine⟨h.os,h.output,fun i hi=>?_⟩
 rw[h.same i hi (by simp[keys])]
 split<;>simp_all
end Go.Proofs.YtefjbegnlolgbaaGreatDoor
namespace Go.Proofs.YtefjbegnlolgbaaGreatDoor
open Go Go.RowKit Go.ChangeShapes Go.WideShapes Go.ChangeAt
theorem Jp7 (os:Os) (started:os.Started) (H:Type) (enc:TypeId×Value->H):
 ReturnsInHanded {} Tryz.checked os 3 .any (fun w args=>(Rows.sessionNamesSpec.pre enc Tryz.prog Tryz.f3 [] false w args/\laidMetH Tryz.prog Rows.sessionNamesRow.laid w)/\sizedMet enc Tryz.prog Tryz.f3 (OpenSpec.ofChange Rows.sessionNamesSpec) false w args)
  (Rows.sessionNamesSpec.post enc Tryz.prog Tryz.f3 false true false false):=by
 refine returnsInHanded_of_change_and (C:=Tryz.checked) (X:=fun w _=>laidMetH Tryz.prog Rows.sessionNamesRow.laid w) (fun _ _ _ hh h=>h.of_heap hh) Jq1 started (by kernel_rfl) Tryz.func3
  (ChangeSpec.witness_shaped (enc:=enc) (C:=Tryz.checked) (os:=os) (X:=fun w _=>laidMetH Tryz.prog Rows.sessionNamesRow.laid w) false (World.laidAll Tryz.prog os Rows.sessionNamesRow.laid) #[] 8 (World.laidAll_os _ _ _)
   (World.shaped_of_ZipB (by kernel_rfl) (by kernel_rfl)) (by kernel_rfl) (by kernel_rfl) (by kernel_rfl)
   (by rw[MakeChecks.laidMetH_plain _ _ _ (by kernel_rfl)];exact laidMet_laidAll _ (by kernel_rfl) (by kernel_rfl))) ?_
 intro W base args ds gs before hval0 hW _ _ hL _
 have hval:∀(j:Nat) t v,Tryz.f3.params[j]? =some t->args[j]? =some v->Value.okWide Tryz.prog W .any base t v:=hval0;have hW':=hW;obtain⟨p,q,hA0,hV,rfl,_,_⟩:=hW
 have hA:DataW.TrodAll enc Tryz.prog W 0 (fun _=>true) true Tryz.f3.params.toList args.toList ds p:=hA0
 rw[Tryz.params3] at hA hval;obtain⟨hargs,rfl,rfl⟩:=trodAll_nil hA
 obtain rfl:args= #[]:=by cases args;simp_all
 obtain⟨rfl,rfl⟩:=trodVars_none hV
 clear hA0 hval0;simp only[List.append_nil] at hW';rw[MakeChecks.laidMetH_plain _ _ _ (by kernel_rfl)] at hL
 have hG:J1q W:=Jpw hL.tail.tail.tail.tail.tail.tail.tail.tail hL.tail.tail.tail.tail.tail.tail.tail.tail.tail.tail hL.tail.tail.tail.tail.tail.tail.tail.tail.tail.tail.tail;refine(Jos (J1.start W) hG).mono fun e W' ⟨he,hb⟩=>?_
 subst he;exact⟨_,rfl,_,_,_,[],_,[],hW',trodAll_mk1 (shut_bool Tryz.underlying4 _),trodAll_mk0,rfl,hb.kept _,fun h=>by cases h⟩
end Go.Proofs.YtefjbegnlolgbaaGreatDoor
