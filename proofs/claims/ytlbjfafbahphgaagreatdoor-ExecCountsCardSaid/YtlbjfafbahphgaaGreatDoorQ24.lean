/-
texts: addText.
-/
import Derived.Test.YtlbjfafbahphgaaGreatDoorQ23
set_option linter.unusedVariables false
set_option linter.unusedSimpArgs false
set_option maxRecDepth 100000
set_option maxHeartbeats 8000000
namespace Go.Proofs.YtlbjfafbahphgaaGreatDoor
open Go Go.RowKit
variable {w0 w:World}{l:List Lf}{r sl:Hp}{g c:Nat}{va:Option Addr}
theorem wneg_fit {n:Int} (h1: -9223372036854775808<=n) (h2:n<=9223372036854775807): -9223372036854775808<=wneg n/\wneg n<=9223372036854775807:=by
 unfold wneg;split<;>omega
theorem wnegErr_cases (n:Int):wnegErr n=0\/wnegErr n=12:=by unfold wnegErr;split<;>simp
theorem Ctx.at {w':World} {l r':Hp} {sb:Nat} {S:St} {off:Nat} {ws:List ByteArray} (h:Ctx w0 w l r sb S g off ws) {x:Hp} (hr:r'=x++r) (hS:Step w0 [] w' (l++r')):Ctx w0 w' l r' sb S g off ws:=
 ⟨hS,h.gl,h.is,h.tight,h.load,by rw[hr];exact h.args.more⟩
theorem addText_job {l:Hp} {sb:Nat} {S:St} {off:Nat} {k m:ByteArray} {ws:List ByteArray} (h:Ctx w0 w l r sb S g off (k::m::ws)) (now:Int) (cap:Nat) (less:Bool):
 Calls Tryz.prog 47 #[jobVal sb now g off (k::m::ws).length cap,.bool less] w (StPost w0 r sb (tAddText S now k m less).1 (lfVal (tAddText S now k m less).2)):=by
 have H:=(h.alloc (JobObj sb now g off (k::m::ws).length cap)).alloc ZeroVal
 have hm:=h.args.small m (by simp)
 have hn:(1:Int)<(((k::m::ws).length:Nat):Int):=by simp only[List.length_cons];omega
 generalize hlen:(k::m::ws).length=n at H hn⊢
 replace hlen:=hid hlen
 have hn2:1<n:=by omega
 generalize hT:tAddText S now k m less=T
 replace hT:=hid hT
 clear h
 replace H:=hid H
 go_enter Tryz.func47,Tryz.ntmps47
 unfold jobVal
 go_upto_region 1 with fail
 generalize hw1:(w.alloc _).alloc _=w1
 replace H:Ctx w0 w1 _ _ _ _ _ _ _:=hw1▸H.out
 clear hw1
 simp only[World.size_alloc] at H
 generalize w.heap.size=b at H⊢
 have hjob:=hid (Ctx.job (A:=[(b+1,ZeroVal)]) H)
 obtain⟨R,hR⟩:∃R,R=[(b+1,ZeroVal)]++(b,JobObj sb now g off n cap)::r:=⟨_,rfl⟩
 rw[<-hR] at hjob
 replace H:Ctx w0 w1 l R sb S g off (k::m::ws):=hR▸H
 obtain⟨j0,j1,j2⟩:=hjob.out.at_ w1 ⟨l,H.st⟩
 have ja:=hjob.out.arg w1 ⟨l,H.st⟩ 1 m rfl
 have hpar:=hid (wparse_any H.st H.gl m hm)
 have hend:∀(w':World) (l3:Hp) (a':Lf),Step w0 [] w' (l3++R)->Step w0 [] _ (l3++r):=fun w' l3 a' h=>((h.permR (l2:=(b+1,ZeroVal)::(l3++r++[(b,JobObj sb now g off n cap)])) (perm_by fun f=>by
  rw[hR];simp only[SC];omega)).setLf a').less (List.sublist_append_left _ _)
 have hres:(b+1,ZeroVal)∈R:=by rw[hR];simp
 replace H:=hid H
 replace hR:=hid hR
 cases hw:wnum m with
 |none=>
  have e:Hid (T=(S,lfErr 11)):=hid (by rw[<-hT.out];simp only[tAddText,hw])
  rw[hw] at hpar
  have e1:wcode none=11:=rfl
  rw[e1,Option.getD_none] at hpar
  clear hT hw hjob e1
  go_wp2_with fail
  refine hpar.out.mono ?_
  rintro e2 w2 ⟨rfl,S2⟩
  have herr:=hid (tfail_any S2 11 (by unfold errKnown;omega))
  clear hpar S2 j0 j1 j2 ja
  unfold lfErr at e
  generalize errText 11=te at herr e
  go_wp2_with fail
  refine herr.out.mono ?_
  rintro e2 w3 ⟨rfl,S5⟩
  have S9:=hid (hend w3 l ⟨2,te,0⟩ S5)
  obtain⟨⟨c0,hc0⟩,⟨c1,hc1⟩,⟨c2,hc2⟩,⟨c3,hc3⟩,⟨c4,hc4⟩,⟨c5,hc5⟩,fz,hlt⟩:=cells6' (S5.own.right.at_ _ hres)
  clear herr S5 hend hres hR
  unfold ansVal
  go_wp2_with fail
  refine bodyPost_ret (v:=lfVal ⟨2,te,0⟩) (by simp[results,Tryz.results47,go_sem,ansVal,lfVal, *]<;>rfl) rfl ?_
  rw[e.out]
  exact⟨rfl,l,H.out.is,S9.out⟩
 |some x=>
  obtain⟨hx1,hx2⟩:=wnum_bounds hw
  rw[hw] at hpar
  have e1:wcode (some x)=0:=rfl
  rw[e1,Option.getD_some] at hpar
  have hadd:∀(w2:World) (y:Int),-9223372036854775808<=y/\y<=9223372036854775807->Step w0 [] w2 (l++R)->Calls Tryz.prog 46 #[jobVal sb now g off n cap,.int .i64 y] w2 (StPost w0 R sb (tAdd S now k y).1 (lfVal (tAdd S now k y).2)):=fun w2 y hy hS=>by
   have:=add_job (H.out.at (x:=[]) rfl hS) now cap y hy
   rw[hlen.out] at this
   exact this
  unfold jobVal at hadd
  clear e1
  cases less with
  |false=>
   have e:Hid (T=tAdd S now k x):=hid (by rw[<-hT.out];simp only[tAddText,hw];rfl)
   clear hT hw
   go_wp2_with fail
   refine hpar.out.mono ?_
   rintro e2 w2 ⟨rfl,S2⟩
   obtain⟨j0,j1,j2⟩:=hjob.out.at_ w2 ⟨l,S2⟩
   have ha:=hadd w2 x ⟨hx1,hx2⟩ S2
   rw[<-e.out] at ha
   unfold lfVal ansVal at ha
   replace ha:=hid ha
   clear hpar S2 ja hadd hjob hx1 hx2
   go_wp2_with fail
   refine ha.out.mono ?_
   rintro e2 w3 ⟨rfl,l5,hX5,S5⟩
   have S9:=hid (hend w3 l5 T.2 S5)
   obtain⟨⟨c0,hc0⟩,⟨c1,hc1⟩,⟨c2,hc2⟩,⟨c3,hc3⟩,⟨c4,hc4⟩,⟨c5,hc5⟩,fz,hlt⟩:=cells6' (S5.own.right.at_ _ hres)
   clear ha S5 hend hres hR
   go_wp2_with fail
   refine bodyPost_ret (v:=lfVal T.2) (by simp[results,Tryz.results47,go_sem,ansVal,lfVal, *]<;>rfl) rfl ?_
   exact⟨rfl,l5,hX5,S9.out⟩
  |true=>
   have hneg:∀w2,Hid _:=fun w2=>hid (wneg_any w2 x hx1 hx2)
   have hfit:=wneg_fit hx1 hx2
   rcases wnegErr_cases x with hc|hc
   ·have e:Hid (T=tAdd S now k (wneg x)):=hid (by rw[<-hT.out];simp only[tAddText,hw,hc];rfl)
    rw[hc] at hneg
    clear hT hw hc
    go_wp2_with fail
    refine hpar.out.mono ?_
    rintro e2 w2 ⟨rfl,S2⟩
    obtain⟨j0,j1,j2⟩:=hjob.out.at_ w2 ⟨l,S2⟩
    have ha:=hadd w2 (wneg x) hfit S2
    rw[<-e.out] at ha
    unfold lfVal ansVal at ha
    replace ha:=hid ha
    clear hpar S2 ja hadd hjob hfit
    go_wp2_with fail
    refine(hneg _).out.mono ?_
    rintro e2 w3 ⟨rfl,rfl⟩
    clear hneg hx1 hx2
    go_wp2_with fail
    refine ha.out.mono ?_
    rintro e2 w3 ⟨rfl,l5,hX5,S5⟩
    have S9:=hid (hend w3 l5 T.2 S5)
    obtain⟨⟨c0,hc0⟩,⟨c1,hc1⟩,⟨c2,hc2⟩,⟨c3,hc3⟩,⟨c4,hc4⟩,⟨c5,hc5⟩,fz,hlt⟩:=cells6' (S5.own.right.at_ _ hres)
    clear ha S5 hend hres hR
    go_wp2_with fail
    refine bodyPost_ret (v:=lfVal T.2) (by simp[results,Tryz.results47,go_sem,ansVal,lfVal, *]<;>rfl) rfl ?_
    exact⟨rfl,l5,hX5,S9.out⟩
   ·have e:Hid (T=(S,lfErr 12)):=hid (by rw[<-hT.out];simp only[tAddText,hw,hc];rfl)
    rw[hc] at hneg
    clear hT hw hc
    go_wp2_with fail
    refine hpar.out.mono ?_
    rintro e2 w2 ⟨rfl,S2⟩
    have herr:=hid (tfail_any S2 12 (by unfold errKnown;omega))
    unfold lfErr at e
    generalize errText 12=te at herr e
    clear hpar S2 ja hadd hjob hfit j0 j1 j2
    go_wp2_with fail
    refine(hneg _).out.mono ?_
    rintro e2 w3 ⟨rfl,rfl⟩
    clear hneg hx1 hx2
    go_wp2_with fail
    refine herr.out.mono ?_
    rintro e2 w3 ⟨rfl,S5⟩
    have S9:=hid (hend w3 l ⟨2,te,0⟩ S5)
    obtain⟨⟨c0,hc0⟩,⟨c1,hc1⟩,⟨c2,hc2⟩,⟨c3,hc3⟩,⟨c4,hc4⟩,⟨c5,hc5⟩,fz,hlt⟩:=cells6' (S5.own.right.at_ _ hres)
    clear herr S5 hend hres hR
    unfold ansVal
    go_wp2_with fail
    refine bodyPost_ret (v:=lfVal ⟨2,te,0⟩) (by simp[results,Tryz.results47,go_sem,ansVal,lfVal, *]<;>rfl) rfl ?_
    rw[e.out]
    exact⟨rfl,l,H.out.is,S9.out⟩
def lfCell (a:Lf):List Value:=[.int .i64 a.kind,.string a.text,.int .i64 a.n,.float .f64 0,.bool false,.slice none 0 0]
def lfCells (l:List Lf):List Value:=l.flatMap lfCell
theorem lfCells_snoc (l:List Lf) (a:Lf):lfCells (l++[a])=lfCells l++lfCell a:=by simp[lfCells]
theorem lfCells_at:∀(l:List Lf) (i:Nat) (a:Lf),l[i]? =some a->∀j v,(lfCell a)[j]? =some v->(lfCells l)[i*6+j]? =some v
 |[],i,a,h,_,_,_=>by simp at h
 |t::l,0,a,h,j,v,hj=>by
  simp at h;subst h
  have hlt:j<(lfCell t).length:=(List.getElem?_eq_some_iff.1 hj).1
  show(lfCell t++lfCells l)[0*6+j]? =some v
  rw[List.getElem?_append_left (by omega)]
  simpa using hj
 |t::l,i+1,a,h,j,v,hj=>by
  have:=lfCells_at l i a (by simpa using h) j v hj
  show(lfCell t++lfCells l)[(i+1)*6+j]? =some v
  have ht:(lfCell t).length=6:=rfl
  rw[List.getElem?_append_right (by omega),ht,show(i+1)*6+j - 6=i*6+j by omega]
  exact this
structure LfIn (w:World) (g i:Nat) (a:Lf):Prop where
 c0:w.cell? ⟨g,i*6,none⟩=some (.int .i64 a.kind)
 c1:w.cell? ⟨g,i*6+1,none⟩=some (.string a.text)
 c2:w.cell? ⟨g,i*6+2,none⟩=some (.int .i64 a.n)
 c3:w.cell? ⟨g,i*6+3,none⟩=some (.float .f64 0)
 c4:w.cell? ⟨g,i*6+4,none⟩=some (.bool false)
 c5:w.cell? ⟨g,i*6+5,none⟩=some (.slice none 0 0)
theorem lfIn {i:Nat} {a:Lf} {rest:List Value} {t:TypeId} (h:w.heap[g]? =some (.cells (lfCells l++rest).toArray t (0,0))) (ha:l[i]? =some a):LfIn w g i a:=by
 have k:∀j v,(lfCell a)[j]? =some v->w.cell? ⟨g,i*6+j,none⟩=some v:=fun j v hj=>by
  have h1:=lfCells_at l i a ha j v hj
  have hlt:=(List.getElem?_eq_some_iff.1 h1).1
  rw[cells_get h,List.getElem?_toArray,List.getElem?_append_left hlt,h1]
 exact⟨k 0 _ rfl,k 1 _ rfl,k 2 _ rfl,k 3 _ rfl,k 4 _ rfl,k 5 _ rfl⟩
theorem valInfo:(Tryz.prog.info? 34).map (fun i=>(i.zero,i.size,i.bytes))=some (some (.agg #[.int .i64 0,.string ByteArray.empty,.int .i64 0,.float .f64 0,.bool false,.slice none 0 0]),6,72):=by kernel_rfl
abbrev IsLfs (v:Value) (l:List Lf) (sl:Hp):Prop:=SliceHp 6 34 v l.length (lfCells l) sl
def ListPost (w0:World) (r:Hp) (kind:Int) (text:ByteArray) (n:Int) (l:List Lf) (e:Ending) (w':World):Prop:=
 ∃v sl,e= .returned (ansVal kind text n v)/\IsLfs v l sl/\Step w0 [] w' (sl++r)
theorem push_lf {k:Nat} {a:Lf} {nb:Nat} (hS:Step w0 [] w (sl++r)) (hsl:IsLfs (.slice va k c) l sl) (hk:l.length=k) (hB:k<=1000000000) (hm:(nb,LfObj a)∈r):
 ∃va' c' w' sl',(Builtin.append_ #[32,32] 32 #[.slice va k c,.slice (some ⟨nb,0,none⟩) 1 1]).run Tryz.prog w= .ok (.slice va' (k+1) c') w'/\IsLfs (.slice va' (k+1) c') (l++[a]) sl'/\Step w0 [] w' (sl'++r):=by
 have hh:=hS.own.right.at_ _ hm
 obtain⟨v',w',sl',hrun,hsl',S',_⟩:=run_append (P:=Tryz.prog) (ty:=32) Tryz.underlying32 Tryz.underlying32 valInfo rfl (by decide) hS hsl
  ⟨nb,0,none⟩ 1 1 (lfCell a) rfl (by
   intro j u hu
   rw[addr_add,Nat.zero_add,cells_get hh,<-hu]
   show(lfCell a).toArray[j]? =(lfCell a)[j]?
   rw[List.getElem?_toArray]) (by simp[lfCell,Value.oneCell']) (by omega) (by rw[hk];omega) (by rw[hk];unfold maxLen;omega)
 obtain⟨a',c',rfl,_,_⟩:=hsl'.form
 rw[hk] at hrun hsl'
 refine⟨a',c',w',sl',hrun,?_,S'⟩
 show SliceHp 6 _ _ (l++[a]).length (lfCells (l++[a])) sl'
 rw[List.length_append,lfCells_snoc,hk]
 exact hsl'
theorem vcopy_list {m:Nat} (hS:Step w0 [] w (sl++r)) (hsl:IsLfs (.slice va m c) l sl) (hB:l.length<=1000000) (kind:Int) (text:ByteArray) (n:Int):
 Calls Tryz.prog 150 #[ansVal kind text n (.slice va m c)] w (ListPost w0 (sl++r) kind text n l):=by
 obtain⟨a',c',hv,hc1,hc2⟩:=hsl.form
 obtain⟨rfl,rfl,rfl⟩:va=a'/\m=l.length/\c=c':=by injection hv with h1 h2 h3;exact⟨h1,h2,h3⟩
 clear hv
 have S1:=(hS.alloc (.cells #[.int .i64 kind,.string text,.int .i64 n,.float .f64 0,.bool false,.slice va l.length c] 34)).alloc ZeroVal
 rw[World.size_alloc] at S1
 obtain⟨hm2,hm0⟩:l.length<=1000000/\True:=⟨hB,trivial⟩
 replace S1:=hid S1
 clear hS
 go_enter Tryz.func150,Tryz.ntmps150
 unfold ansVal
 go_wp2_with fail
 generalize hw1:(w.alloc _).alloc _=w1
 replace S1:Step w0 [] w1 _:=hw1▸S1.out
 clear hw1
 generalize w.heap.size=b at S1⊢
 obtain⟨L,hL⟩:∃L:Hp,L=(b+1,ZeroVal)::(b,.cells #[.int .i64 kind,.string text,.int .i64 n,.float .f64 0,.bool false,.slice va l.length c] 34 (0,0))::(sl++r):=⟨_,rfl⟩
 rw[<-hL] at S1
 have hin:∀(w':World) (x:Hp),Step w0 [] w' (x++L)->Own w' (sl++r):=fun w' x h=>by
  have:=h.own.right
  rw[hL] at this
  exact this.tail.tail
 replace hL:=hid hL
 replace hin:=hid hin
 have hm3:(l.length:Int)<=1000000:=by omega
 obtain⟨m,hm⟩:∃m,l.length=m:=⟨_,rfl⟩
 rw[hm] at hm2 hm3 hc1⊢
 have S0:Hid (Step w0 [] w1 ([]++L)):=hid S1
 clear S1
 have hread:Hid (∀(k:Nat) (a:Lf),l[k]? =some a->∃g,va=some ⟨g,0,none⟩/\∀(w':World) (x:Hp),Step w0 [] w' (x++L)->LfIn w' g k a):=hid (fun k a ha=>by
  have hlt:=(List.getElem?_eq_some_iff.1 ha).1
  obtain⟨g,cap,rest,hv,_,_,hsl2,_⟩:=hsl.view (by omega)
  injection hv with h1 h2 h3
  refine⟨g,h1,fun w' x hw=>?_⟩
  have ho:=hin.out w' x hw
  rw[hsl2] at ho
  exact lfIn ho.left.head ha)
 have hbox:Hid (∀(w':World) (x:Hp),Step w0 [] w' (x++L)->w'.heap[b]? =some (.cells #[.int .i64 kind,.string text,.int .i64 n,.float .f64 0,.bool false,.slice va m c] 34 (0,0))/\w'.heap[b+1]? =some ZeroVal):=hid (fun w' x hw=>by
  have:=hw.own.right
  rw[hL.out,hm] at this
  exact⟨this.tail.head,this.head⟩)
 clear hsl hin
 go_loopw [3,5,9] (fun s3 s5 s9 wr=>∃(k:Nat) (va':Option Addr) (c':Nat) (sl':Hp),s3= .slice va' k c'/\s9= .int .i64 k/\k<=m/\Hid (IsLfs (.slice va' k c') (l.take k) sl')/\Hid (Step w0 [] wr (sl'++L))) (fun s3 s5 s9 wr=>(m - intOf s9).toNat)
 case atStart=>exact⟨0,none,0,[],rfl,rfl,Nat.zero_le _,hid .nil,S0⟩
 case round=>
  obtain⟨k,va',c',sl',rfl,rfl,hk,hat,S2⟩:=hrel
  clear S0
  by_cases hlt:k<m
  ·obtain⟨a,ha⟩:∃a,l[k]? =some a:=⟨l[k]'(by omega),List.getElem?_eq_getElem _⟩
   obtain⟨g,hva,hr⟩:=hread.out k a ha
   subst hva
   obtain⟨c0,c1,c2,c3,c4,c5⟩:=hr wr sl' S2.out
   have S3:=S2.out.alloc (LfObj a)
   have hcopy:=vcopy_leaf S3 a.kind a.text a.n
   unfold ansVal at hcopy
   replace hcopy:=hid hcopy
   clear hr S3
   replace ha:=hid ha
   go_wp2_with fail
   refine hcopy.out.mono ?_
   rintro e w2 ⟨rfl,S4⟩
   have S5:=S4.alloc (LfObj a)
   obtain⟨va2,c2',w4,sl2,hrun,hat2,S6⟩:=push_lf (nb:=w2.heap.size) (a:=a) (r:=(w2.heap.size,LfObj a)::(wr.heap.size,LfObj a)::L) (S5.permR (perm_by fun f=>by simp only[SC];omega)) hat.out (by rw[List.length_take];omega) (by omega) (by simp)
   have S7:=hid (S6.pick (l2:=sl2++L) (m:=[(w2.heap.size,LfObj a),(wr.heap.size,LfObj a)]) (perm_by fun f=>by simp only[SC];omega))
   replace hrun:=hid hrun
   have htk:Hid (IsLfs (.slice va2 (k+1) c2') (l.take (k+1)) sl2):=hid (by rw[List.take_add_one,ha.out];exact hat2)
   clear S4 S5 S6 hcopy c0 c1 c2 c3 c4 c5 S2 hat hat2
   go_wp2_with (at_builtin;refine wpList_append_run rfl _ _ _ _ rfl _ _ rfl rfl hrun.out ?_)
   go_roundw
   case rel=>exact⟨k+1,va2,c2',sl2,rfl,rfl,hlt,htk,S7⟩
   case measure=>simp[intOf];omega
  ·obtain rfl:k=m:=by omega
   obtain⟨hb0,hb1⟩:=hbox.out wr sl' S2.out
   have x0:=cells_get hb0 0
   have x1:=cells_get hb0 1
   have x2:=cells_get hb0 2
   have x3:=cells_get hb0 3
   have x4:=cells_get hb0 4
   have x5:=cells_get hb0 5
   simp only[List.getElem?_toArray,List.getElem?_cons_zero,List.getElem?_cons_succ] at x0 x1 x2 x3 x4 x5
   have xf:=fun j=>cells_free hb0 j
   have hltb:=block_lt hb0
   obtain⟨⟨c0,hc0⟩,⟨c1,hc1⟩,⟨c2,hc2⟩,⟨c3,hc3⟩,⟨c4,hc4⟩,⟨c5,hc5⟩,fz,hlt2⟩:=cells6' hb1
   have S3:=S2.out.permR (l2:=(b,.cells #[.int .i64 kind,.string text,.int .i64 n,.float .f64 0,.bool false,.slice va l.length c] 34 (0,0))::(b+1,ZeroVal)::(sl'++(sl++r))) (perm_by fun f=>by
    rw[hL.out];simp only[SC];omega)
   have S4:=(S3.set 5 (.slice va' k c')).less (List.sublist_cons_self _ _)
   have S9:=hid (((((((S4.set 0 (.int .i64 kind)).set 1 (.string text)).set 2 (.int .i64 n)).set 3 (.float .f64 0)).set 4 (.bool false)).set 5 (.slice va' k c')).less (List.sublist_cons_self _ _))
   have hfull:Hid (IsLfs (.slice va' k c') l sl'):=hid (by have:=hat.out;rw[<-hm,List.take_length] at this;rw[<-hm];exact this)
   clear S2 S3 S4 hb0 hb1 hat hread hbox
   go_wp2_with fail
   refine bodyPost_ret (v:=ansVal kind text n (.slice va' k c')) (by simp[results,Tryz.results150,go_sem,ansVal, *]<;>rfl) rfl ?_
   exact⟨_,sl',rfl,hfull.out,S9.out⟩
theorem vlist_any {m:Nat} (hS:Step w0 [] w (sl++r)) (hsl:IsLfs (.slice va m c) l sl) (hB:l.length<=1000000):
 Calls Tryz.prog 92 #[.slice va m c] w (ListPost w0 (sl++r) 5 ByteArray.empty 0 l):=by
 have S1:=(hS.alloc ZeroVal).permR (l2:=sl++((w.heap.size,ZeroVal)::r)) (perm_by fun f=>by simp only[SC];omega)
 have hcopy:=vcopy_list S1 hsl hB 5 ByteArray.empty 0
 unfold ansVal at hcopy
 replace hcopy:=hid hcopy
 obtain⟨a',c',hv,_,_⟩:=hsl.form
 clear hS S1 hsl
 go_enter Tryz.func92,Tryz.ntmps92
 go_wp2_with fail
 refine hcopy.out.mono ?_
 rintro e w2 ⟨v,sl2,rfl,hat,S2⟩
 obtain⟨a2,cc,rfl,_,_⟩:=hat.form
 generalize w.heap.size=b at S2⊢
 have S3:=S2.permR (l2:=(b,ZeroVal)::(sl2++(sl++r))) (perm_by fun f=>by simp only[SC];omega)
 obtain⟨⟨c0,hc0⟩,⟨c1,hc1⟩,⟨c2,hc2⟩,⟨c3,hc3⟩,⟨c4,hc4⟩,⟨c5,hc5⟩,fz,hlt2⟩:=cells6' S3.own.head
 have S9:=hid (((((((S3.set 0 (.int .i64 5)).set 1 (.string ByteArray.empty)).set 2 (.int .i64 0)).set 3 (.float .f64 0)).set 4 (.bool false)).set 5 (.slice a2 l.length cc)).less (List.sublist_cons_self _ _))
 replace hat:=hid hat
 clear S2 S3 hcopy
 unfold ansVal
 go_wp2_with fail
 refine bodyPost_ret (v:=ansVal 5 ByteArray.empty 0 (.slice a2 l.length cc)) (by simp[results,Tryz.results92,go_sem,ansVal, *]<;>rfl) rfl ?_
 exact⟨_,sl2,rfl,hat.out,S9.out⟩
end Go.Proofs.YtlbjfafbahphgaaGreatDoor
namespace Go.Proofs.YtlbjfafbahphgaaGreatDoor
open Go
variable {S:St}
theorem mlook_snoc_same {m:AL Itm} {k:ByteArray} {v:Itm}:mlook (mdel m k++[(k,v)]) k=some v:=by
 have h:mlook (mdel m k) k=none:=mlook_mdel_same
 simp only[mlook,Option.map_eq_none_iff] at h
 simp only[mlook,List.find?_append,h]
 simp
theorem lay_load (S:St) (key:ByteArray) (it:Itm) (keep:Bool):(S.lay key it keep).load<=S.load+2:=by
 have h:(mdel S.L key).length<=S.L.length:=List.length_filter_le _ _
 simp only[St.load,St.lay,List.length_append,List.length_cons,List.length_nil]
 omega
theorem put_ok (hf:Fit S) (hT:Tight S) {key:ByteArray} {it:Itm} (hk:key.size<=512) (hr:rightB it) (hc:cost key it<=S.bud) (keep:Bool) (now:Int):
 Fit (S.put key it keep now)/\Tight (S.put key it keep now)/\(S.put key it keep now).load<=S.load+2:=by
 have hc':cost key it<=(S.due key now).bud:=by rw[due_bud];exact hc
 have hl:=(hf.due key now).lay (hT.due key now) hk hr hc' keep
 have he:=evict_ok ((S.due key now).lay key it keep).L.length ((S.due key now).lay key it keep) key hl (Nat.le_refl _) ⟨it,mlook_snoc_same,hc'⟩
 refine⟨he.1,he.2.1,?_⟩
 show(((S.due key now).lay key it keep).evict _ key).load<=_
 rw[St.load_evict _ hl]
 have:=lay_load (S.due key now) key it keep
 rw[St.load_due hf] at this
 exact this
theorem text_right {s:ByteArray} (h:s.size<=4096):rightB (textItm s):=.inl ⟨rfl,h,rfl⟩
theorem putE_zero {key:ByteArray} {it:Itm} (h:S.putE key it=0):key.size<=512/\¬(it.kind=1/\4096<it.text.size)/\cost key it<=S.bud:=by
 unfold St.putE at h
 split at h
 ·omega
 ·rename_i h1
  split at h
  ·omega
  ·omega
theorem putG_ok (hf:Fit S) (hT:Tight S) (key:ByteArray) (it:Itm) (hr:rightB it\/(it.kind=1/\it.fs=[])) (keep:Bool) (now:Int):
 Fit (S.putG key it keep now)/\Tight (S.putG key it keep now)/\(S.putG key it keep now).load<=S.load+2:=by
 unfold St.putG
 split
 ·rename_i h
  obtain⟨h1,h2,h3⟩:=putE_zero h
  refine put_ok hf hT h1 ?_ h3 keep now
  rcases hr with hr|⟨ha,hb⟩
  ·exact hr
  ·exact .inl ⟨ha,by have:=fun h=>h2 ⟨ha,h⟩;omega,hb⟩
 ·exact⟨hf.due _ _,hT.due _ _,by rw[St.load_due hf];omega⟩
theorem putG_text (hf:Fit S) (hT:Tight S) (key s:ByteArray) (keep:Bool) (now:Int):
 Fit (S.putG key (textItm s) keep now)/\Tight (S.putG key (textItm s) keep now)/\(S.putG key (textItm s) keep now).load<=S.load+2:=putG_ok hf hT key _ (.inr ⟨rfl,rfl⟩) keep now
def tOne (o:Option Itm):Lf:=match o with
 |some it=>if it.kind=1 then lfText it.text else lfNil
 |none=>lfNil
theorem tMany_cons (S:St) (now:Int) (k:ByteArray) (ks:List ByteArray):tMany S now (k::ks)=((tMany (S.get k now) now ks).1,tOne (S.look k now)::(tMany (S.get k now) now ks).2):=by
 rw[tMany];rfl
end Go.Proofs.YtlbjfafbahphgaaGreatDoor
namespace Go.Proofs.YtlbjfafbahphgaaGreatDoor
open Go Go.RowKit
variable {w0 w:World}{r:Hp}
theorem pairs_job {l:Hp} {sb:Nat} {S:St} {g off:Nat} {ws:List ByteArray} (h:Ctx w0 w l r sb S g off ws) (hfew:ws.length<=1000) (now:Int) (cap:Nat):
 Calls Tryz.prog 45 #[jobVal sb now g off ws.length cap] w (StPost w0 r sb (tPairs S now ws).1 (lfVal (tPairs S now ws).2)):=by
 have H:=(h.alloc (JobObj sb now g off ws.length cap)).alloc ZeroVal
 generalize hT:tPairs S now ws=T
 clear h
 obtain⟨n,hlen⟩:∃n,ws.length=n:=⟨_,rfl⟩
 rw[hlen] at H hfew⊢
 replace hlen:=hid hlen
 replace hT:=hid hT
 replace H:=hid H
 go_enter Tryz.func45,Tryz.ntmps45
 unfold jobVal
 go_upto_region 1 with fail
 generalize hw1:(w.alloc _).alloc _=w1
 replace H:Ctx w0 w1 _ _ _ _ _ _ _:=hw1▸H.out
 clear hw1
 simp only[World.size_alloc] at H
 generalize w.heap.size=b at H⊢
 have hjob:=hid (Ctx.job (A:=[(b+1,ZeroVal)]) H)
 obtain⟨R,hR⟩:∃R,R=[(b+1,ZeroVal)]++(b,JobObj sb now g off n cap)::r:=⟨_,rfl⟩
 rw[<-hR] at hjob
 replace H:Ctx w0 w1 l R sb S g off ws:=hR▸H
 have hend:∀(w':World) (l3:Hp) (a':Lf),Step w0 [] w' (l3++R)->Step w0 [] _ (l3++r):=fun w' l3 a' h=>((h.permR (l2:=(b+1,ZeroVal)::(l3++r++[(b,JobObj sb now g off n cap)])) (perm_by fun f=>by
  rw[hR];simp only[SC];omega)).setLf a').less (List.sublist_append_left _ _)
 have hres:(b+1,ZeroVal)∈R:=by rw[hR];simp
 have hgl:=hid H.gl
 have hsmall:=hid H.args.small
 have hst0:=hid H.st
 have his0:=hid H.is
 have hti0:=hid H.tight
 have hlo0:=hid H.load
 clear hR H
 go_wp2_with fail
 go_loopw [3] (fun s3 wr=>∃(k:Nat) (S':St) (l':Hp),s3= .int .i64 k/\k<=n+1/\Hid (T=tPairs S' now (ws.drop k))/\Hid (IsStore l' sb S')/\Hid (Tight S')/\Hid (S'.load<=1000000000000+2*k)/\Hid (Step w0 [] wr (l'++R))) (fun s3 wr=>(n+2 - intOf s3).toNat)
 case atStart=>exact⟨0,S,l,rfl,Nat.zero_le _,hid hT.out.symm,his0,hti0,hid (by have:=hlo0.out;omega),hst0⟩
 case round=>
  obtain⟨k,S',l',rfl,hk,hrest,hX,hti,hlo,S2⟩:=hrel
  clear hst0 his0 hti0 hlo0 hT
  obtain⟨j0,j1,j2⟩:=hjob.out.at_ wr ⟨l',S2.out⟩
  by_cases hlt:k+1<n
  ·obtain⟨x,hx⟩:∃x,ws[k]? =some x:=⟨ws[k]'(by rw[hlen.out];omega),List.getElem?_eq_getElem _⟩
   obtain⟨y,hy⟩:∃y,ws[k+1]? =some y:=⟨ws[k+1]'(by rw[hlen.out];omega),List.getElem?_eq_getElem _⟩
   have hdrop:ws.drop k=x::y::ws.drop (k+2):=by
    rw[List.drop_eq_getElem_cons (by rw[hlen.out];omega),List.drop_eq_getElem_cons (by rw[hlen.out];omega)]
    rw[(List.getElem?_eq_some_iff.1 hx).2,(List.getElem?_eq_some_iff.1 hy).2]
   have hsx:=hsmall.out x (List.mem_of_getElem? hx)
   have hfit:Fit S':=by obtain⟨m,_,_,hf⟩:=hX.out;exact hf
   obtain⟨_,hti2,hlo2⟩:=putG_text hfit hti.out x y false now
   have q0:∀p:InW w0 [] (l'++R),p.w.cell? ⟨b,0,none⟩=some (ptr sb):=fun p=>(hjob.out.at_ p.w ⟨l',p.h⟩).c0
   have q1:∀p:InW w0 [] (l'++R),p.w.cell? ⟨b,1,none⟩=some (.int .i64 now):=fun p=>(hjob.out.at_ p.w ⟨l',p.h⟩).c1
   have q2:∀p:InW w0 [] (l'++R),p.w.cell? ⟨b,2,none⟩=some (.slice (some ⟨g,off,none⟩) n cap):=fun p=>(hjob.out.at_ p.w ⟨l',p.h⟩).c2
   have qx:∀p:InW w0 [] (l'++R),p.w.cell? ⟨g,off+k,none⟩=some (.string x):=fun p=>hjob.out.arg p.w ⟨l',p.h⟩ k x hx
   have qy:∀p:InW w0 [] (l'++R),p.w.cell? ⟨g,off+(k+1),none⟩=some (.string y):=fun p=>hjob.out.arg p.w ⟨l',p.h⟩ (k+1) y hy
   have hklt:k<n:=by omega
   have hlt2:(k:Int)+1<(n:Int):=by omega
   have hlt3:(k:Int)<(n:Int):=by omega
   have hev:S'.ev.length<=1099511627776:=by have:=hlo.out;unfold St.load at this;omega
   replace hfit:=hid hfit
   replace hti2:=hid hti2
   replace hlo2:=hid hlo2
   rw[hdrop] at hrest
   replace hx:=hid hx
   replace hy:=hid hy
   replace hev:=hid hev
   clear hdrop
   go_wp2_with fail
   refine wp_region_tail 16 S2.out (by kernel_rfl) (by kernel_rfl) (fun hne=>?_)
   simp only[List.take_succ_cons,List.take_zero,List.drop_succ_cons,List.drop_zero]
   repeat (go_big_quiet_step ((go_at_call 89;refine Calls.inw (ttext_any (InW.h _) y))))
   refine tail_nil fun w2 S3=>?_
   clear q0 q1 q2 qx qy hne S2 j0 j1 j2
   have hput:=hid (sput_gen (l:=l') (il:=[]) (r:=R) (it:=textItm y) S3 hgl.out hX.out hti.out hev.out x hsx (Putable.text y) false now)
   have hknown:=putE_known S' x (textItm y)
   have hTT:Hid (T=if S'.putE x (textItm y)=0 then tPairs (S'.putG x (textItm y) false now) now (ws.drop (k+2)) else(S'.putG x (textItm y) false now,lfErr (S'.putE x (textItm y)))):=hid hrest.out
   have hlo3:Hid ((S'.putG x (textItm y) false now).load<=1000000000000+2*(k+2)):=hid (by have:=hlo.out;have:=hlo2.out;omega)
   clear S3 hrest hX hti hlo hlo2 hfit hx hy hev
   generalize S'.putE x (textItm y)=pe at hput hknown hTT
   generalize S'.putG x (textItm y) false now=pg at hput hTT hti2 hlo3
   simp only[itemVal,textItm,List.nil_append] at hput
   unfold itemVal
   go_wp2_with fail
   refine hput.out.mono ?_
   rintro e w3 ⟨rfl,l3,hX3,S4⟩
   replace hX3:=hid hX3
   clear hput
   rcases hknown with rfl|⟨hne,hkn⟩
   ·rw[if_pos rfl] at hTT
    replace S4:=hid S4
    go_wp2_with fail
    go_roundw
    case rel=>exact⟨k+2,pg,l3,rfl,by omega,hTT,hX3,hti2,hlo3,S4⟩
    case measure=>simp[intOf];omega
   ·rw[if_neg hne] at hTT
    have herr:=hid (tfail_any S4 pe hkn)
    have hpb:(pe==0)=false:=by simpa using hne
    clear S4 hkn hne
    unfold lfErr at hTT
    generalize errText pe=te at herr hTT
    go_wp2_with fail
    refine herr.out.mono ?_
    rintro e1 w4 ⟨rfl,S5⟩
    have S6:=hid (hend w4 l3 ⟨2,te,0⟩ S5)
    obtain⟨⟨c0,hc0⟩,⟨c1,hc1⟩,⟨c2,hc2⟩,⟨c3,hc3⟩,⟨c4,hc4⟩,⟨c5,hc5⟩,fz,hlt⟩:=cells6' (S5.own.right.at_ _ hres)
    clear herr S5 hend
    unfold ansVal
    go_wp2_with fail
    refine bodyPost_ret (v:=lfVal ⟨2,te,0⟩) (by simp[results,Tryz.results45,go_sem,ansVal,lfVal, *]<;>rfl) rfl ?_
    rw[hTT.out]
    exact⟨rfl,l3,hX3.out,S6.out⟩
  ·have hTT:Hid (T=(S',lfOk)):=hid (by
    rw[hrest.out]
    have hl:(ws.drop k).length<=1:=by rw[List.length_drop,hlen.out];omega
    match hd:ws.drop k,hl with
    |[],_=>rfl
    |[_],_=>rfl
    |_::_::_,hl=>simp at hl)
   have hlt2:¬(k:Int)+1<(n:Int):=by omega
   have hok:=hid (vok_any S2.out)
   clear hrest S2
   go_wp2_with fail
   refine hok.out.mono ?_
   rintro e1 w4 ⟨rfl,S5⟩
   have S6:=hid (hend w4 l' lfOk S5)
   obtain⟨⟨c0,hc0⟩,⟨c1,hc1⟩,⟨c2,hc2⟩,⟨c3,hc3⟩,⟨c4,hc4⟩,⟨c5,hc5⟩,fz,hlt⟩:=cells6' (S5.own.right.at_ _ hres)
   clear hok S5 hend
   unfold ansVal
   go_wp2_with fail
   refine bodyPost_ret (v:=lfVal lfOk) (by simp[results,Tryz.results45,go_sem,ansVal,lfVal,lfOk, *]<;>rfl) rfl ?_
   rw[hTT.out]
   exact⟨rfl,l',hX.out,S6.out⟩
def MPost (w0:World) (r:Hp) (sb:Nat) (S:St) (kind:Int) (xs:List Lf) (e:Ending) (w':World):Prop:=
 ∃v vl l',e= .returned (ansVal kind ByteArray.empty 0 v)/\IsLfs v xs vl/\IsStore l' sb S/\Step w0 [] w' (l'++(vl++r))
theorem told_one (hS:Step w0 [] w r) (o:Option Itm) (v:Value):
 Calls Tryz.prog 39 #[.agg #[.int .i64 (o.getD zeroItm).kind,.string (o.getD zeroItm).text,v],.bool (o.isSome&&((o.getD zeroItm).kind==1))] w (AnsPost w0 r (lfVal (tOne o))):=by
 cases o with
 |none=>exact told_nil hS _ _ v
 |some it=>
  simp only[Option.getD_some,Option.isSome_some,tOne,Bool.true_and]
  by_cases hk:it.kind=1
  ·rw[if_pos hk,hk];exact told_text hS _ _ v (by decide)
  ·rw[if_neg hk,beq_eq_false_iff_ne.2 hk];exact told_nil hS _ _ v
theorem many_job {l:Hp} {sb:Nat} {S:St} {g off:Nat} {ws:List ByteArray} (h:Ctx w0 w l r sb S g off ws) (hfew:ws.length<=1000) (now:Int) (cap:Nat):
 Calls Tryz.prog 44 #[jobVal sb now g off ws.length cap] w (MPost w0 r sb (tMany S now ws).1 5 (tMany S now ws).2):=by
 have H:=(h.alloc (JobObj sb now g off ws.length cap)).alloc ZeroVal
 generalize hT:tMany S now ws=T
 clear h
 obtain⟨n,hlen⟩:∃n,ws.length=n:=⟨_,rfl⟩
 rw[hlen] at H hfew⊢
 replace hlen:=hid hlen
 replace hT:=hid hT
 replace H:=hid H
 go_enter Tryz.func44,Tryz.ntmps44
 unfold jobVal
 go_upto_region 1 with fail
 generalize hw1:(w.alloc _).alloc _=w1
 replace H:Ctx w0 w1 _ _ _ _ _ _ _:=hw1▸H.out
 clear hw1
 simp only[World.size_alloc] at H
 generalize w.heap.size=b at H⊢
 have hjob:=hid (Ctx.job (A:=[(b+1,ZeroVal)]) H)
 obtain⟨R,hR⟩:∃R,R=[(b+1,ZeroVal)]++(b,JobObj sb now g off n cap)::r:=⟨_,rfl⟩
 rw[<-hR] at hjob
 replace H:Ctx w0 w1 l R sb S g off ws:=hR▸H
 have hres:(b+1,ZeroVal)∈R:=by rw[hR];simp
 have hgl:=hid H.gl
 have hsmall:=hid H.args.small
 have hst0:=hid H.st
 have his0:=hid H.is
 have hlo0:=hid H.load
 obtain⟨j0,j1,j2⟩:=hjob.out.at_ w1 ⟨l,H.st⟩
 clear H
 replace hR:=hid hR
 go_wp2_with fail
 have S0:Hid (Step w0 [] w1 (l++([]++R))):=hst0
 clear j0 j1 j2 hst0
 go_loopw [3,5,6,7,11] (fun s3 s5 s6 s7 s11 wr=>∃(k:Nat) (S':St) (l':Hp) (va:Option Addr) (c:Nat) (sl:Hp) (acc:List Lf),s3= .slice va k c/\s11= .int .i64 k/\k<=n/\acc.length=k/\Hid (T.1=(tMany S' now (ws.drop k)).1/\T.2=acc++(tMany S' now (ws.drop k)).2)/\Hid (IsStore l' sb S')/\Hid (S'.load<=1000000000000)/\Hid (IsLfs (.slice va k c) acc sl)/\Hid (Step w0 [] wr (l'++(sl++R)))) (fun s3 s5 s6 s7 s11 wr=>(n - intOf s11).toNat)
 case atStart=>exact⟨0,S,l,none,0,[],[],rfl,rfl,Nat.zero_le _,rfl,hid ⟨by rw[<-hT.out];rfl,by rw[<-hT.out];rfl⟩,his0,hlo0,hid .nil,S0⟩
 case round=>
  obtain⟨k,S',l',va,c,sl,acc,rfl,rfl,hk,hacc,hrest,hX,hlo,hat,S2⟩:=hrel
  replace hacc:=hid hacc
  clear S0 his0 hlo0 hT
  have hx2:InX w0 R wr:=⟨l'++sl,by rw[List.append_assoc];exact S2.out⟩
  obtain⟨j0,j1,j2⟩:=hjob.out.at_ wr hx2
  by_cases hlt:k<n
  ·obtain⟨x,hx⟩:∃x,ws[k]? =some x:=⟨ws[k]'(by rw[hlen.out];omega),List.getElem?_eq_getElem _⟩
   have hdrop:ws.drop k=x::ws.drop (k+1):=by
    rw[List.drop_eq_getElem_cons (by rw[hlen.out];omega)]
    rw[(List.getElem?_eq_some_iff.1 hx).2]
   have hfit:Fit S':=by obtain⟨m,_,_,hf⟩:=hX.out;exact hf
   have hlo2:Hid ((S'.get x now).load<=1000000000000):=hid (by rw[St.load_get hfit];exact hlo.out)
   rw[hdrop,tMany_cons] at hrest
   simp only at hrest
   have ja:=hjob.out.arg wr hx2 k x hx
   have hsx:=hsmall.out x (List.mem_of_getElem? hx)
   have hget:=get_any' S2.out hgl.out hX.out (by have:=hlo.out;unfold St.load at this;omega) x hsx now
   replace hget:Hid _:=hid (hget.mono fun _ _ hp=>PeekEnd.of (x:=[]) (R:=sl++R) hp)
   have hlt3:(k:Int)<(n:Int):=by omega
   have htold:∀(w':World) (L:Hp) (v:Value),Hid (Step w0 [] w' L->_):=fun w' L v=>hid fun hw=>told_one hw (S'.look x now) v
   unfold lfVal ansVal at htold
   have hone:∀a,a=tOne (S'.look x now)->Hid (T.1=(tMany (S'.get x now) now (ws.drop (k+1))).1/\T.2=(acc++[a])++(tMany (S'.get x now) now (ws.drop (k+1))).2):=fun a ha=>hid (by rw[ha,List.append_assoc];exact hrest.out)
   change Hid (Calls _ _ _ _ (PeekEnd w0 (sl++R) [] sb (S'.get x now) ((S'.look x now).getD zeroItm).kind ((S'.look x now).getD zeroItm).text (S'.look x now).isSome ((S'.look x now).getD zeroItm).fs)) at hget
   generalize tOne (S'.look x now)=a at htold hone
   replace hone:=hone a rfl
   generalize ((S'.look x now).getD zeroItm).kind=kd at hget htold
   generalize ((S'.look x now).getD zeroItm).text=tx at hget htold
   generalize (S'.look x now).isSome=is at hget htold
   generalize ((S'.look x now).getD zeroItm).fs=fs at hget
   generalize S'.get x now=S'' at hget hone hlo2
   clear hfit hdrop hrest hX hlo hx2
   replace hx:=hid hx
   go_wp2_with fail
   refine hget.out.mono ?_
   rintro e w2 ⟨va2,vn2,vc2,vl,l2,rfl,hfs,hX2,S3,_⟩
   clear hget S2 j0 j1 j2 ja
   have S4:=S3.out.alloc (ItemObj kd tx (.slice va2 vn2 vc2))
   have hto:=hid ((htold _ _ (.slice va2 vn2 vc2)).out S4)
   clear htold S4
   cases is with
   |false=>
    rw[Bool.false_and] at hto
    go_wp2_with fail
    refine hto.out.mono ?_
    rintro e w3 ⟨rfl,S5⟩
    have S6:=S5.alloc (LfObj a)
    obtain⟨va3,c3,w4,sl3,hrun,hat3,S7⟩:=push_lf (nb:=w3.heap.size) (a:=a) (r:=(w3.heap.size,LfObj a)::(w2.heap.size,ItemObj kd tx (.slice va2 vn2 vc2))::(l2++(vl++R))) (S6.permR (perm_by fun f=>by simp only[SC];omega)) hat.out hacc.out (by omega) (by simp)
    have S8:=hid (S7.pick (l2:=l2++(sl3++R)) (m:=(w3.heap.size,LfObj a)::(w2.heap.size,ItemObj kd tx (.slice va2 vn2 vc2))::vl) (perm_by fun f=>by simp only[SC];omega))
    replace hrun:=hid hrun
    replace hat3:=hid hat3
    have hacc2:Hid ((acc++[a]).length=k+1):=hid (by rw[List.length_append,hacc.out];rfl)
    clear S3 S5 S6 S7 hto hat hacc hfs
    go_wp2_with (at_builtin;refine wpList_append_run rfl _ _ _ _ rfl _ _ rfl rfl hrun.out ?_)
    go_roundw
    case rel=>exact⟨k+1,S'',l2,va3,c3,sl3,acc++[a],rfl,rfl,hlt,hacc2.out,hone,hX2,hlo2,hat3,S8⟩
    case measure=>simp[intOf];omega
   |true=>
    rw[Bool.true_and] at hto
    go_wp2_with fail
    refine hto.out.mono ?_
    rintro e w3 ⟨rfl,S5⟩
    have S6:=S5.alloc (LfObj a)
    obtain⟨va3,c3,w4,sl3,hrun,hat3,S7⟩:=push_lf (nb:=w3.heap.size) (a:=a) (r:=(w3.heap.size,LfObj a)::(w2.heap.size,ItemObj kd tx (.slice va2 vn2 vc2))::(l2++(vl++R))) (S6.permR (perm_by fun f=>by simp only[SC];omega)) hat.out hacc.out (by omega) (by simp)
    have S8:=hid (S7.pick (l2:=l2++(sl3++R)) (m:=(w3.heap.size,LfObj a)::(w2.heap.size,ItemObj kd tx (.slice va2 vn2 vc2))::vl) (perm_by fun f=>by simp only[SC];omega))
    replace hrun:=hid hrun
    replace hat3:=hid hat3
    have hacc2:Hid ((acc++[a]).length=k+1):=hid (by rw[List.length_append,hacc.out];rfl)
    clear S3 S5 S6 S7 hto hat hacc hfs
    go_wp2_with (at_builtin;refine wpList_append_run rfl _ _ _ _ rfl _ _ rfl rfl hrun.out ?_)
    go_roundw
    case rel=>exact⟨k+1,S'',l2,va3,c3,sl3,acc++[a],rfl,rfl,hlt,hacc2.out,hone,hX2,hlo2,hat3,S8⟩
    case measure=>simp[intOf];omega
  ·obtain rfl:k=n:=by omega
   have hTT:Hid (T.1=S'/\T.2=acc):=hid (by
    have h0:ws.drop k=[]:=List.drop_eq_nil_iff.2 (by rw[hlen.out];omega)
    have:=hrest.out
    rw[h0] at this
    simpa[tMany] using this)
   have hlist:=vlist_any (S2.out.permR (l2:=sl++(l'++R)) (perm_by fun f=>by simp only[SC];omega)) hat.out (by rw[hacc.out];omega)
   replace hlist:=hid hlist
   clear hrest S2 j0 j1 j2 hx2
   go_wp2_with fail
   refine hlist.out.mono ?_
   rintro e w2 ⟨v,sl2,rfl,hat2,S3⟩
   obtain⟨a2,cc,rfl,_,_⟩:=hat2.form
   have S4:=S3.permR (l2:=(b+1,ZeroVal)::(l'++(sl2++r)++(sl++[(b,JobObj sb now g off k cap)]))) (perm_by fun f=>by
    rw[hR.out];simp only[SC];omega)
   obtain⟨⟨c0,hc0⟩,⟨c1,hc1⟩,⟨c2,hc2⟩,⟨c3,hc3⟩,⟨c4,hc4⟩,⟨c5,hc5⟩,fz,hlt2⟩:=cells6' S4.own.head
   have S9:=hid ((((((((S4.set 0 (.int .i64 5)).set 1 (.string ByteArray.empty)).set 2 (.int .i64 0)).set 3 (.float .f64 0)).set 4 (.bool false)).set 5 (.slice a2 acc.length cc)).less (List.sublist_cons_self _ _)).less (List.sublist_append_left _ _))
   replace hat2:=hid hat2
   clear S3 S4 hlist hat
   generalize acc.length=na at hat2 S9⊢
   unfold ansVal
   go_wp2_with fail
   refine bodyPost_ret (v:=ansVal 5 ByteArray.empty 0 (.slice a2 na cc)) (by simp[results,Tryz.results44,go_sem,ansVal, *]<;>rfl) rfl ?_
   rw[hTT.out.1,hTT.out.2]
   exact⟨_,sl2,l',rfl,hat2.out,hX.out,S9.out⟩
end Go.Proofs.YtlbjfafbahphgaaGreatDoor
