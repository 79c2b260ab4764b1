/-
item.Put.
-/
import Derived.Deep.RegionWith
import Derived.Handy
import Derived.Lib.ItoaLen
import Derived.Lib.ItoaNum
import Derived.Lib.ParseIntB
import Derived.Lib.ParseIntBTie
import Derived.StillTailTactics
import Derived.WalkLawsBesides
import Derived.Test.YtncbcaabanoeoaaGreatDoorProg
import Derived.Test.YtncbcaabanoeoaaGreatDoorQ01
import Derived.Test.YtncbcaabanoeoaaGreatDoorQ03
import Derived.Test.YtncbcaabanoeoaaGreatDoorQ04
set_option linter.unusedVariables false
set_option linter.unusedSimpArgs false
set_option maxRecDepth 100000
set_option maxHeartbeats 8000000
namespace Go.Proofs.YtncbcaabanoeoaaGreatDoor
open Go Go.RowKit
variable {w0 w:World}{l r sl L:Hp}{v:Value}{fs:Fs}{kind:Int}{P:Program}
theorem J8t (hS:J3 w0 l w r) {f:ByteArray×ByteArray} (h1:f.1.size<=512) (h2:f.2.size<=4096):
 Calls Tryz.prog 183 #[J7l f] w fun e w'=>e= .returned (.bool true)/\J3 w0 l w' r:=by
 refine(Jb6 hS f).mono ?_
 rintro e w' ⟨rfl,S⟩;exact⟨by rw[decide_eq_true h1,decide_eq_true h2];rfl,S⟩
def J4t (w0:World) (l r sl:Hp) (fs:Fs) (name s:ByteArray) (e:Ending) (w':World):Prop:=
 ∃v' sl',e= .returned (.tuple #[J6 2 ByteArray.empty v',.bool (!has fs name),.int .i64 0])/\Jj v' (fput fs name s) sl'/\J3 w0 l w' (sl'++(sl++r))
theorem Juc {p q s:Nat×Obj}:(p::q::s::(sl++r)).Perm (sl++(p::q::s::r)):=List.perm_append_comm_assoc [_,_,_] sl r
theorem Jqt {text:ByteArray} (hk:(kind==1)=false) (hS:J3 w0 l w (sl++r)) (hat:Jj v fs sl) (hr:J1z fs) (hB:fs.length<256)
 (name s:ByteArray) (h1:name.size<=512) (h2:s.size<=4096) (hh:has fs name=false):
  Calls Tryz.prog 161 #[J6 kind text v,.string name,.string s] w (J4t w0 l r sl fs name s):=by
  obtain⟨a,c,rfl⟩:=hat.shape
  have S1:=((hS.alloc (.cells #[.int .i64 kind,.string text,.slice a fs.length c] 59)).alloc (.cells #[.int .i64 0,.string ByteArray.empty,.slice none 0 0] 59)).alloc (.cells #[.string name,.string s] 93);simp only[World.size_alloc] at S1;replace S1:=S1.permR Juc;have hcall:=hid (J58 (kind:=kind) (text:=text) S1 hat hr (by omega) name)
  have hat':=hid hat;clear hS S1 hat;go_enter Tryz.func161,Tryz.ntmps161;unfold J6;go_wp2_with fail;refine hcall.out.mono ?_;rintro e w2 ⟨rfl,S2⟩;clear hcall;obtain⟨c0,c1⟩:=Jb1 S2.own.right.head
  obtain⟨x0,x1,x2⟩:=Jn S2.own.right.tail.tail.head
  have hf:=hid (J8t S2 (f:=(name,s)) h1 h2);unfold J7l at hf;have hlen:¬(256:Int)<=(fs.length:Int):=by omega
  rw[hh];replace hh:=hid hh;clear S2;go_wp2_with fail;refine hf.out.mono ?_;rintro e w3 ⟨rfl,S3⟩;clear c0 c1 x0 x1 x2;obtain⟨x0,x1,x2⟩:=Jn S3.own.right.tail.tail.head
  have hcl:=hid (Jb2 S3 hat'.out (by omega))
  clear S3 hf;go_wp2_with fail;refine hcl.out.mono ?_;rintro e w4 ⟨v',sl',rfl,hat2,S4⟩;clear x0 x1 x2 hcl;obtain⟨a',c',rfl⟩:=hat2.shape
  replace hat2:=hid hat2;have hown:=S4.own;obtain⟨c0,c1⟩:=Jb1 hown.right.right.head
  have hlt:=Jf hown.right.right.head;have S5:=(S4.alloc (.cells #[.int .i64 2,.string ByteArray.empty,.slice a' fs.length c'] 59)).alloc (.cells #[.string name,.string s] 93);rw[World.size_alloc] at S5;replace S5:=S5.permR (List.perm_append_comm_assoc [_,_] sl' _);have hins:=hid (Jmh (f:=(name,s)) S5 hat2.out.sl (by omega) (Jud fs name))
  clear hown S4 S5;go_wp2_with fail;refine hins.out.mono ?_;rintro e w5 ⟨v5,sl5,rfl,hat5,S6⟩;have hne:¬w.heap.size+1=w4.heap.size:=by omega
  have hne2:¬w4.heap.size=w.heap.size+1:=by omega
  clear c0 c1 hlt hins;obtain⟨a5,c5,rfl,_,_⟩:=hat5.form
  generalize hn5:(fs.take (pos fs name)++(name,s)::fs.drop (pos fs name)).length=n5 at hat5 S6⊢;have hres:Jj (.slice a5 n5 c5) (fput fs name s) sl5:=by
   have e:fput fs name s=fs.take (pos fs name)++(name,s)::fs.drop (pos fs name):=by simp[fput,hh.out]
   rw[e];exact⟨by rw[hn5];exact hat5,fun h=>by simp at h⟩
  have S7:J3 w0 l w5 ((w4.heap.size,.cells #[.int .i64 2,.string ByteArray.empty,.slice a' fs.length c'] 59 (0,0))::(w.heap.size+1,.cells #[.int .i64 0,.string ByteArray.empty,.slice none 0 0] 59 (0,0))::(sl5++(sl++r))):=by
   refine S6.pick (m:=(w4.heap.size+1,.cells #[.string name,.string s] 93 (0,0))::(w.heap.size+1+1,.cells #[.string name,.string s] 93 (0,0))::(w.heap.size,.cells #[.int .i64 kind,.string text,.slice a fs.length c] 59 (0,0))::[]) (J5 fun f=>?_)
   simp only[List.map_append,List.sum_append,List.map_cons,List.sum_cons,List.append_eq,List.cons_append,List.nil_append,List.map_nil,List.sum_nil];omega
  obtain⟨c0,c1,c2,f0⟩:=Jn S7.own.head
  obtain⟨d0,d1,d2,f1⟩:=Jn S7.own.tail.head
  have S8:=(((((S7.set 2 (.slice a5 n5 c5)).permR (List.Perm.swap _ _ _)).set 0 (.int .i64 2)).set 1 (.string ByteArray.empty)).set 2 (.slice a5 n5 c5)).less ((List.sublist_cons_self _ _).trans (List.sublist_cons_self _ _));have hfin:Hid (J4t w0 l r sl fs name s (.returned (.tuple #[J6 2 ByteArray.empty (.slice a5 n5 c5),.bool true,.int .i64 0])) _):=⟨_,sl5,by rw[hh.out];rfl,hres,S8⟩
  clear S6 S7 S8 hres hat5 hn5;go_wp2_with fail;refine bodyPost_ret (v:=.tuple #[J6 2 ByteArray.empty (.slice a5 n5 c5),.bool true,.int .i64 0]) (by simp[results,Tryz.results161,go_sem,J6, *]) rfl ?_
  exact hfin.out
theorem Jc7:∀(fs:Fs) (i:Nat) (f:ByteArray×ByteArray),J9 (fs.set i f)=((J9 fs).set (i*2) (.string f.1)).set (i*2+1) (.string f.2)
 |[],i,f=>rfl
 |g::fs,0,f=>rfl
 |g::fs,i+1,f=>by
  simp only[List.set_cons_succ,J9,Jc7 fs i f,show(i+1)*2=i*2+1+1 by omega]
theorem Jqu {text:ByteArray} (hk:(kind==1)=false) (hS:J3 w0 l w (sl++r)) (hat:Jj v fs sl) (hr:J1z fs) (hB:fs.length<=1048576)
 (name s:ByteArray) (h1:name.size<=512) (h2:s.size<=4096) (hh:has fs name=true):
  Calls Tryz.prog 161 #[J6 kind text v,.string name,.string s] w (J4t w0 l r sl fs name s):=by
  obtain⟨f,hf,_,_⟩:=J7z hh
  have hp:=(List.getElem?_eq_some_iff.1 hf).1;obtain⟨a,c,rfl⟩:=hat.shape
  have S1:=((hS.alloc (.cells #[.int .i64 kind,.string text,.slice a fs.length c] 59)).alloc (.cells #[.int .i64 0,.string ByteArray.empty,.slice none 0 0] 59)).alloc (.cells #[.string name,.string s] 93);simp only[World.size_alloc] at S1;replace S1:=S1.permR Juc;have hcall:=hid (J58 (kind:=kind) (text:=text) S1 hat hr (by omega) name)
  have hat':=hid hat;have hres0:Hid (fput fs name s=fs.set (pos fs name) (name,s)):=hid (by simp[fput,hh])
  clear hS S1 hat hf;generalize hpos:pos fs name=k at hp hcall hres0;replace hpos:=hid hpos;go_enter Tryz.func161,Tryz.ntmps161;unfold J6;go_wp2_with fail;refine hcall.out.mono ?_;rintro e w2 ⟨rfl,S2⟩;clear hcall;obtain⟨c0,c1⟩:=Jb1 S2.own.right.head
  obtain⟨x0,x1,x2⟩:=Jn S2.own.right.tail.tail.head
  have hf:=hid (J8t S2 (f:=(name,s)) h1 h2);unfold J7l at hf;rw[hh];replace hh:=hid hh;clear S2;go_wp2_with fail;refine hf.out.mono ?_;rintro e w3 ⟨rfl,S3⟩;clear c0 c1 x0 x1 x2;obtain⟨x0,x1,x2⟩:=Jn S3.own.right.tail.tail.head
  have hcl:=hid (Jb2 S3 hat'.out (by omega))
  clear S3 hf;go_wp2_with fail;refine hcl.out.mono ?_;rintro e w4 ⟨v',sl',rfl,hat2,S4⟩;clear x0 x1 x2 hcl;obtain⟨g,cap,rest,rfl,hc,hc2,rfl,hrest⟩:=hat2.sl.view (by omega)
  have hown:=S4.own;obtain⟨c0,c1⟩:=Jb1 hown.right.right.head
  have hlt:=Jf hown.right.right.head;have hlt2:=Jf hown.right.right.tail.head;obtain⟨d0,d1,d2,f1⟩:=Jn hown.right.right.tail.head
  have hgl:=Jf hown.head;have hlen:=K7 fs;obtain⟨u0,hu0⟩:∃u,w4.cell? ⟨g,k*2,none⟩=some u:=by
   rw[J2 hown.head];exact⟨_,Array.getElem?_eq_getElem (by rw[List.size_toArray,List.length_append];omega)⟩
  obtain⟨u1,hu1⟩:∃u,w4.cell? ⟨g,k*2+1,none⟩=some u:=by
   rw[J2 hown.head];exact⟨_,Array.getElem?_eq_getElem (by rw[List.size_toArray,List.length_append];omega)⟩
  have fg:∀j,w4.frozen? ⟨g,j,none⟩=false:=fun j=>Jg hown.head j
  have hnd:=hown.nd;simp only[List.cons_append,List.nil_append,J0y,List.nodup_cons,J1h,List.mem_append,List.mem_cons,not_or] at hnd;have hg1:¬g=w.heap.size+1:=hnd.1.2.2.1;have hg2:¬g=w.heap.size+1+1:=hnd.1.2.1;have hg1':¬w.heap.size+1=g:=fun e=>hg1 e.symm
  have hg2':¬w.heap.size+1+1=g:=fun e=>hg2 e.symm
  have hn1:¬g=w4.heap.size:=by omega
  have hn1':¬w4.heap.size=g:=by omega
  have hn2:¬w.heap.size+1=w4.heap.size:=by omega
  have hn2':¬w4.heap.size=w.heap.size+1:=by omega
  have S5:=(S4.set (k*2) (.string name)).set (k*2+1) (.string s);have S6:=S5.pick (l2:=(w.heap.size+1,.cells #[.int .i64 0,.string ByteArray.empty,.slice none 0 0] 59 (0,0))::([(g,.cells (((J9 fs++rest).toArray.setIfInBounds (k*2) (.string name)).setIfInBounds (k*2+1) (.string s)) 93 (0,0))]++(sl++r))) (m:=(w.heap.size+1+1,.cells #[.string name,.string s] 93 (0,0))::(w.heap.size,.cells #[.int .i64 kind,.string text,.slice a fs.length c] 59 (0,0))::[]) (J5 fun f=>by
   simp only[List.map_append,List.sum_append,List.map_cons,List.sum_cons,List.append_eq,List.cons_append,List.nil_append,List.map_nil,List.sum_nil];omega)
  have S7:=((((S6.set 0 (.int .i64 2)).set 1 (.string ByteArray.empty)).set 2 (.slice (some ⟨g,0,none⟩) fs.length cap)).alloc (.cells #[.int .i64 2,.string ByteArray.empty,.slice (some ⟨g,0,none⟩) fs.length cap] 59)).less ((List.sublist_cons_self _ _).trans (List.sublist_cons_self _ _));have hres:Jj (.slice (some ⟨g,0,none⟩) fs.length cap) (fput fs name s) [(g,.cells (((J9 fs++rest).toArray.setIfInBounds (k*2) (.string name)).setIfInBounds (k*2+1) (.string s)) 93 (0,0))]:=by
   have e:((J9 fs++rest).toArray.setIfInBounds (k*2) (.string name)).setIfInBounds (k*2+1) (.string s)=(J9 (fs.set k (name,s))++rest).toArray:=by
    rw[Jc7];simp only[List.setIfInBounds_toArray];rw[List.set_append_left _ _ (by omega),List.set_append_left _ _ (by rw[List.length_set];omega)]
   rw[e,hres0.out];refine⟨?_,fun h=>by have:=congrArg List.length h;rw[List.length_set,List.length_nil] at this;omega⟩
   have hl:(fs.set k (name,s)).length=fs.length:=List.length_set;rw[hl];exact .laid g fs.length cap _ rest (by rw[K7,hl]) hrest hc hc2
  have hfin:Hid (J4t w0 l r sl fs name s (.returned (.tuple #[J6 2 ByteArray.empty (.slice (some ⟨g,0,none⟩) fs.length cap),.bool false,.int .i64 0])) _):=⟨_,_,by rw[hh.out];rfl,hres,S7⟩
  unfold maxLen at hc2;clear S4 S5 S6 S7 hres hown hnd hat2 hrest hlen;go_wp2_with fail;refine bodyPost_ret (v:=.tuple #[J6 2 ByteArray.empty (.slice (some ⟨g,0,none⟩) fs.length cap),.bool false,.int .i64 0]) (by simp[results,Tryz.results161,go_sem,J6, *];rfl) rfl ?_
  exact hfin.out
theorem Jg3 {text:ByteArray} (hk:(kind==1)=false) (hS:J3 w0 l w (sl++r)) (hat:Jj v fs sl) (hr:J1z fs) (hB:fs.length<=256)
 (name s:ByteArray) (h1:name.size<=512) (h2:s.size<=4096) (hh:has fs name=true\/fs.length<256):
  Calls Tryz.prog 161 #[J6 kind text v,.string name,.string s] w (J4t w0 l r sl fs name s):=by
  cases h:has fs name with
  |true=>exact Jqu hk hS hat hr (by omega) name s h1 h2 h
  |false=>
   rw[h] at hh;exact Jqt hk hS hat hr (hh.resolve_left (by simp)) name s h1 h2 h
def J3f (w0:World) (l r sl:Hp) (fs:Fs) (name:ByteArray) (kind:Int) (text:ByteArray) (is:Bool) (gs:Fs) (e:Ending) (w':World):Prop:=
 ∃v' sl',e= .returned (.tuple #[J6 kind text v',.bool is,.int .i64 0])/\Jj v' gs sl'/\J3 w0 l w' (sl'++(sl++r))
theorem Jub {p q:Nat×Obj}:(p::q::(sl++r)).Perm (sl++(p::q::r)):=List.perm_append_comm_assoc [_,_] sl r
theorem Jqs {text:ByteArray} (hk:(kind==1)=false) (hS:J3 w0 l w (sl++r)) (hat:Jj v fs sl) (hr:J1z fs) (hB:fs.length<=1048576)
 (name:ByteArray) (hh:has fs name=false):
  Calls Tryz.prog 164 #[J6 kind text v,.string name] w (J3f w0 l r sl fs name kind text false fs):=by
  obtain⟨a,c,rfl⟩:=hat.shape
  have S1:=((hS.alloc (.cells #[.int .i64 kind,.string text,.slice a fs.length c] 59)).alloc (.cells #[.int .i64 0,.string ByteArray.empty,.slice none 0 0] 59));simp only[World.size_alloc] at S1;replace S1:=S1.permR Jub;have hcall:=hid (J58 (kind:=kind) (text:=text) S1 hat hr (by omega) name)
  have hat':=hid hat;clear hS S1 hat;go_enter Tryz.func164,Tryz.ntmps164;unfold J6;go_wp2_with fail;refine hcall.out.mono ?_;rintro e w2 ⟨rfl,S2⟩;clear hcall;obtain⟨x0,x1,x2⟩:=Jn S2.own.right.tail.head
  have hcp:=hid (J39 (kind:=kind) (text:=text) S2 hat'.out hB);unfold J6 at hcp;rw[hh];replace hh:=hid hh;clear S2;go_wp2_with fail;refine hcp.out.mono ?_;rintro e w3 ⟨v',sl',rfl,hat2,S3⟩;obtain⟨a',c',rfl⟩:=hat2.shape
  replace hat2:=hid hat2;clear x0 x1 x2 hcp;have hown:=S3.own.right.right;obtain⟨d0,d1,d2,f1⟩:=Jn hown.head
  have hlt:=Jf hown.head;have hne:¬w.heap.size+1=w3.heap.size:=by omega
  have S4:=S3.pick (l2:=(w.heap.size+1,.cells #[.int .i64 0,.string ByteArray.empty,.slice none 0 0] 59 (0,0))::(sl'++(sl++r))) (m:=[(w.heap.size,.cells #[.int .i64 kind,.string text,.slice a fs.length c] 59 (0,0))]) (J5 fun f=>by
   simp only[List.map_append,List.sum_append,List.map_cons,List.sum_cons,List.append_eq,List.cons_append,List.nil_append,List.map_nil,List.sum_nil];omega)
  have S5:=((((S4.set 0 (.int .i64 kind)).set 1 (.string text)).set 2 (.slice a' fs.length c')).alloc (.cells #[.int .i64 kind,.string text,.slice a' fs.length c'] 59)).less ((List.sublist_cons_self _ _).trans (List.sublist_cons_self _ _));have hfin:Hid (J3f w0 l r sl fs name kind text false fs (.returned (.tuple #[J6 kind text (.slice a' fs.length c'),.bool false,.int .i64 0])) _):=⟨_,sl',rfl,hat2.out,S5⟩;clear S3 S4 S5 hown;go_wp2_with fail;refine bodyPost_ret (v:=.tuple #[J6 kind text (.slice a' fs.length c'),.bool false,.int .i64 0]) (by simp[results,Tryz.results164,go_sem,J6, *]) rfl ?_
  exact hfin.out
theorem Jmm {text:ByteArray} (hk:(kind==1)=false) (hS:J3 w0 l w (sl++r)) (hat:Jj v fs sl) (hr:J1z fs) (hB:fs.length<=1048576)
 (name:ByteArray) (hh:has fs name=true) (hl:fs.length=1):
  Calls Tryz.prog 164 #[J6 kind text v,.string name] w (J3f w0 l r sl fs name 0 ByteArray.empty true []):=by
  replace hl:=hid hl;obtain⟨a,c,rfl⟩:=hat.shape
  have S1:=((hS.alloc (.cells #[.int .i64 kind,.string text,.slice a fs.length c] 59)).alloc (.cells #[.int .i64 0,.string ByteArray.empty,.slice none 0 0] 59));simp only[World.size_alloc] at S1;replace S1:=S1.permR Jub;have hcall:=hid (J58 (kind:=kind) (text:=text) S1 hat hr (by omega) name)
  have hat':=hid hat;have hr':=hid hr;clear hS S1 hat hr;go_enter Tryz.func164,Tryz.ntmps164;unfold J6;go_wp2_with fail;refine hcall.out.mono ?_;rintro e w2 ⟨rfl,S2⟩;clear hcall;obtain⟨x0,x1,x2⟩:=Jn S2.own.right.tail.head
  have hcp:=hid (J39 (kind:=kind) (text:=text) S2 hat'.out hB);unfold J6 at hcp;rw[hh];replace hh:=hid hh;clear S2;go_wp2_with fail;refine hcp.out.mono ?_;rintro e w3 ⟨v',sl',rfl,hat2,S3⟩;obtain⟨a',c',rfl⟩:=hat2.shape
  rw[hl.out];clear x0 x1 x2 hcp hat2;have hown:=S3.own.right.right;obtain⟨d0,d1,d2,f1⟩:=Jn hown.head
  have hlt:=Jf hown.head;have hne:¬w.heap.size+1=w3.heap.size:=by omega
  have S4:=S3.pick (l2:=(w.heap.size+1,.cells #[.int .i64 0,.string ByteArray.empty,.slice none 0 0] 59 (0,0))::(sl++r)) (m:=(w.heap.size,.cells #[.int .i64 kind,.string text,.slice a fs.length c] 59 (0,0))::sl') (J5 fun f=>by
   simp only[List.map_append,List.sum_append,List.map_cons,List.sum_cons,List.append_eq,List.cons_append,List.nil_append,List.map_nil,List.sum_nil];omega)
  have S5:=((((S4.set 0 (.int .i64 0)).set 1 (.string ByteArray.empty)).set 2 (.slice none 0 0)).alloc (.cells #[.int .i64 kind,.string text,.slice a' 1 c'] 59)).less ((List.sublist_cons_self _ _).trans (List.sublist_cons_self _ _));have hfin:Hid (J3f w0 l r sl fs name 0 ByteArray.empty true [] (.returned (.tuple #[J6 0 ByteArray.empty (.slice none 0 0),.bool true,.int .i64 0])) _):=⟨_,[],rfl,⟨.nil,fun _=>rfl⟩,S5⟩
  clear S3 S4 S5 hown;go_wp2_with fail;refine bodyPost_ret (v:=.tuple #[J6 0 ByteArray.empty (.slice none 0 0),.bool true,.int .i64 0]) (by simp[results,Tryz.results164,go_sem,J6, *];rfl) rfl ?_
  exact hfin.out
theorem Jjw {text:ByteArray} (hk:(kind==1)=false) (hS:J3 w0 l w (sl++r)) (hat:Jj v fs sl) (hr:J1z fs) (hB:fs.length<=1048576)
 (name:ByteArray) (hh:has fs name=true) (hl:1<fs.length):
  Calls Tryz.prog 164 #[J6 kind text v,.string name] w (J3f w0 l r sl fs name kind text true (fdel fs name)):=by
  obtain⟨a,c,rfl⟩:=hat.shape
  have S1:=((hS.alloc (.cells #[.int .i64 kind,.string text,.slice a fs.length c] 59)).alloc (.cells #[.int .i64 0,.string ByteArray.empty,.slice none 0 0] 59));simp only[World.size_alloc] at S1;replace S1:=S1.permR Jub;have hcall:=hid (J58 (kind:=kind) (text:=text) S1 hat hr (by omega) name)
  have hat':=hid hat;have hr':=hid hr;clear hS S1 hat hr;go_enter Tryz.func164,Tryz.ntmps164;unfold J6;go_wp2_with fail;refine hcall.out.mono ?_;rintro e w2 ⟨rfl,S2⟩;clear hcall;obtain⟨x0,x1,x2⟩:=Jn S2.own.right.tail.head
  have hcp:=hid (J39 (kind:=kind) (text:=text) S2 hat'.out hB);unfold J6 at hcp;rw[hh];replace hh:=hid hh;clear S2;go_wp2_with fail;refine hcp.out.mono ?_;rintro e w3 ⟨v',sl',rfl,hat2,S3⟩;obtain⟨A,B,t,he,hpos,hdel,_,_⟩:=Jqh hr'.out hh.out
  have hlen:fs.length=A.length+1+B.length:=by rw[he];simp;omega
  obtain⟨g,cap,rest,rfl,hc,hc2,rfl,hrest⟩:=hat2.sl.view (by omega)
  rw[hpos,hlen];rw[hlen] at hc;have hown:=S3.own.right.right;have hlt:=Jf hown.head;have hcall:=hid (Jm5 (A:=A) (B:=B) (f:=(name,t)) (rest:=rest) (cap:=cap) (by
   have:=S3.alloc (.cells #[.int .i64 kind,.string text,.slice (some ⟨g,0,none⟩) (A.length+1+B.length) cap] 59)
   rw[he] at this;exact this.permR (List.Perm.swap _ _ _)) hc hc2)
  clear x0 x1 x2 hcp hat2;clear S3 hown;go_wp2_with fail;refine hcall.out.mono ?_;rintro e w4 ⟨rfl,S4⟩;have hown:=S4.own.tail;obtain⟨c0,c1,c2,f0⟩:=Jn hown.head
  obtain⟨d0,d1,d2,f1⟩:=Jn hown.tail.right.right.head
  have hne:¬w.heap.size+1=w3.heap.size:=by omega
  have hne2:¬w3.heap.size=w.heap.size+1:=by omega
  have S5:=S4.pick (l2:=(w3.heap.size,.cells #[.int .i64 kind,.string text,.slice (some ⟨g,0,none⟩) (A.length+1+B.length) cap] 59 (0,0))::(w.heap.size+1,.cells #[.int .i64 0,.string ByteArray.empty,.slice none 0 0] 59 (0,0))::
   ([(g,.cells (J9 (A++B)++ .string ByteArray.empty:: .string ByteArray.empty::rest).toArray 93 (0,0))]++(sl++r))) (m:=[(w.heap.size,.cells #[.int .i64 kind,.string text,.slice a (A++(name,t)::B).length c] 59 (0,0))]) (J5 fun f=>by
    simp only[List.map_append,List.sum_append,List.map_cons,List.sum_cons,List.append_eq,List.cons_append,List.nil_append,List.map_nil,List.sum_nil];omega)
  have S6:=(((((S5.set 2 (.slice (some ⟨g,0,none⟩) (A.length+B.length) cap)).permR (List.Perm.swap _ _ _)).set 0 (.int .i64 kind)).set 1 (.string text)).set 2 (.slice (some ⟨g,0,none⟩) (A.length+B.length) cap)).less ((List.sublist_cons_self _ _).trans (List.sublist_cons_self _ _));have hres:Jj (.slice (some ⟨g,0,none⟩) (A.length+B.length) cap) (fdel fs name) [(g,.cells (J9 (A++B)++ .string ByteArray.empty:: .string ByteArray.empty::rest).toArray 93 (0,0))]:=by
   rw[hdel];have hl2:(A++B).length=A.length+B.length:=List.length_append;refine⟨?_,fun h=>by have:=congrArg List.length h;rw[hl2,List.length_nil] at this;omega⟩
   rw[hl2];refine .laid g _ cap _ _ (by rw[K7,hl2]) ?_ (by omega) hc2
   simp only[List.length_cons,hrest];omega
  have hfin:Hid (J3f w0 l r sl fs name kind text true (fdel fs name) (.returned (.tuple #[J6 kind text (.slice (some ⟨g,0,none⟩) (A.length+B.length) cap),.bool true,.int .i64 0])) _):=⟨_,_,rfl,hres,S6⟩;clear S4 S5 S6 hres hown hcall hdel he hpos hrest hc hc2 hlen hl hB;go_wp2_with fail;refine bodyPost_ret (v:=.tuple #[J6 kind text (.slice (some ⟨g,0,none⟩) (A.length+B.length) cap),.bool true,.int .i64 0]) (by simp[results,Tryz.results164,go_sem,J6, *]) rfl ?_
  exact hfin.out
structure InW (w0:World) (l L:Hp) where
 w:World
 h:J3 w0 l w L
theorem J1x {id:Nat} {Q:Exit->Act->World->Prop} {a:Act} {ops:List Oper} (hS:J3 w0 l w L) (hm:P.follows .mixedOrders=true) (hB:Region.lexB .any ops.toArray=true)
 (h:Nonempty (InW w0 l L)->wpQuiet P ops.toArray (fun w'=>∃p:InW w0 l L,w'=p.w) (fun a'=>∀w',(∃p:InW w0 l L,w'=p.w)->Q .normal a' w') ops a):(Code.region id ops.toArray true).wp P Q a w:=
  wp_region_quiet (C:=fun w'=>∃p:InW w0 l L,w'=p.w) hm hB ⟨⟨w.drew,hS.drew⟩,rfl⟩ (by simpa using h ⟨⟨w,hS⟩⟩)
theorem J73 {ops:Array Oper} {C:World->Prop} {Q:Exit->Act->World->Prop} {a:Act} (h:∀w',J3 w0 l w' L->Q .normal a w'):
 wpQuiet P ops C (fun a'=>∀w',(∃p:InW w0 l L,w'=p.w)->Q .normal a' w') [] a:=wpQuiet_nil (fun _ ⟨p,hp⟩=>by rw[hp];exact h p.w p.h)
theorem Calls.inw {f:FuncId} {args:Array Value}
 (h:Calls P f args w fun e w'=>e= .returned v/\J3 w0 l w' L):Calls P f args w fun e w''=>e= .returned v/\∃p:InW w0 l L,w''=p.w:=
  h.mono fun _ w' ⟨he,hs⟩=>⟨he,⟨w',hs⟩,rfl⟩
theorem Jn8 {text:ByteArray} (hS:J3 w0 l w r) (h1:text.size<=4096):
 Calls Tryz.prog 143 #[J6 1 text (.slice none 0 0)] w fun e w'=>e= .returned (.bool true)/\J3 w0 l w' r:=by
 have hfin:=hid ((hS.alloc (.cells #[.int .i64 1,.string text,.slice none 0 0] 59)).less (List.sublist_cons_self _ _));have h2:(text.size:Int)<=4096:=by omega
 go_enter Tryz.func143,Tryz.ntmps143;unfold J6;go_wp2_with fail;go_ret;exact⟨rfl,hfin.out⟩
theorem Jn7 {text:ByteArray} (hS:J3 w0 l w r) (h1:4096<text.size):
 Calls Tryz.prog 143 #[J6 1 text (.slice none 0 0)] w fun e w'=>e= .returned (.bool false)/\J3 w0 l w' r:=by
 have hfin:=hid ((hS.alloc (.cells #[.int .i64 1,.string text,.slice none 0 0] 59)).less (List.sublist_cons_self _ _));have h2:¬(text.size:Int)<=4096:=by omega
 go_enter Tryz.func143,Tryz.ntmps143;unfold J6;go_wp2_with fail;go_ret;exact⟨rfl,hfin.out⟩
theorem Jci {g bb fb m:Nat} {rest:List Value} {f:ByteArray×ByteArray} {text:ByteArray}
 (hS:J3 w0 l w ((fb,.cells #[.string f.1,.string f.2] 93 (0,0))::(bb,.cells #[.int .i64 kind,.string text,v] 59 (0,0))::(g,.cells (J9 fs++rest).toArray 93 (0,0))::r)) {p:ByteArray×ByteArray} (hp:fs[m]? =some p):
  w.cell? ⟨g,m*2,none⟩=some (.string p.1)/\w.cell? ⟨g,m*2+1,none⟩=some (.string p.2)/\w.cell? ⟨fb,0,none⟩=some (.string f.1)/\w.cell? ⟨fb,1,none⟩=some (.string f.2)/\w.cell? ⟨bb,2,none⟩=some v/\
   Hid (J3 w0 l w ((fb,.cells #[.string f.1,.string f.2] 93 (0,0))::(bb,.cells #[.int .i64 kind,.string text,v] 59 (0,0))::(g,.cells (J9 fs++rest).toArray 93 (0,0))::r)):=by
  have hb:=hS.own.tail.tail.head;have hcm:=J1q fs m p hp;have hlen:=K7 fs;have hm:=(List.getElem?_eq_some_iff.1 hp).1;refine⟨?_,?_,J2 hS.own.head 0,J2 hS.own.head 1,J2 hS.own.tail.head 2,hid hS⟩
  ·rw[J2 hb,List.getElem?_toArray,List.getElem?_append_left (by omega),Nat.mul_comm,hcm.1]
  ·rw[J2 hb,List.getElem?_toArray,List.getElem?_append_left (by omega),Nat.mul_comm,hcm.2]
theorem Jn6 {g cap:Nat} {rest:List Value} (hS:J3 w0 l w ((g,.cells (J9 fs++rest).toArray 93 (0,0))::r)) (hr:J1z fs) (h1:1<=fs.length) (h2:fs.length<=256)
 (hf:∀f∈fs,f.1.size<=512/\f.2.size<=4096):
  Calls Tryz.prog 143 #[J6 2 ByteArray.empty (.slice (some ⟨g,0,none⟩) fs.length cap)] w fun e w'=>e= .returned (.bool true)/\J3 w0 l w' ((g,.cells (J9 fs++rest).toArray 93 (0,0))::r):=by
  have S1:=hid (hS.alloc (.cells #[.int .i64 2,.string ByteArray.empty,.slice (some ⟨g,0,none⟩) fs.length cap] 59));replace hf:=hid hf;clear hS;go_enter Tryz.func143,Tryz.ntmps143;unfold J6;go_wp2_with fail;generalize hw1:w.alloc (.cells #[.int .i64 2,.string ByteArray.empty,.slice (some ⟨g,0,none⟩) fs.length cap] 59)=w1 at S1⊢;generalize w.heap.size=bb at S1⊢;clear hw1;go_loopw [24] (fun c wr=>∃k:Nat,k<=fs.length/\c= .int .i64 k/\Hid (J3 w0 l wr ((bb,.cells #[.int .i64 2,.string ByteArray.empty,.slice (some ⟨g,0,none⟩) fs.length cap] 59 (0,0))::(g,.cells (J9 fs++rest).toArray 93 (0,0))::r))) (fun c wr=>fs.length - (intOf c).toNat)
  case atStart=>exact⟨0,Nat.zero_le _,rfl,S1⟩
  case round=>
   obtain⟨k,hk,rfl,hS2⟩:=hrel
   by_cases hlt:k<fs.length
   ·obtain⟨f,hfk⟩:∃f:ByteArray×ByteArray,fs[k]? =some f:=⟨fs[k],List.getElem?_eq_getElem _⟩
    have hfr:=hf.out f (List.mem_of_getElem? hfk);have S3:=hS2.out.alloc (.cells #[.string f.1,.string f.2] 93);have hgl:=Jf hS2.out.own.tail.head;have hb:=hS2.out.own.tail.head;have hcm:=J1q fs k f hfk;have hlen:=K7 fs;have b0:wr.cell? ⟨g,k*2,none⟩=some (.string f.1):=by
     rw[J2 hb,List.getElem?_toArray,List.getElem?_append_left (by omega),Nat.mul_comm,hcm.1]
    have b1:wr.cell? ⟨g,k*2+1,none⟩=some (.string f.2):=by
     rw[J2 hb,List.getElem?_toArray,List.getElem?_append_left (by omega),Nat.mul_comm,hcm.2]
    clear hb hcm hlen;replace S3:=hid S3;replace hfk:=hid hfk;replace hfr:=hid hfr;go_wp2_with fail;generalize hw2:wr.alloc (.cells #[.string f.1,.string f.2] 93)=w2 at S3⊢;generalize wr.heap.size=fb at S3⊢;clear hw2 b0 b1 hgl;have hdone:Hid (∀w3,J3 w0 l w3 ((fb,.cells #[.string f.1,.string f.2] 93 (0,0))::(bb,.cells #[.int .i64 2,.string ByteArray.empty,.slice (some ⟨g,0,none⟩) fs.length cap] 59 (0,0))::(g,.cells (J9 fs++rest).toArray 93 (0,0))::r)->
     Hid (J3 w0 l w3 ((bb,.cells #[.int .i64 2,.string ByteArray.empty,.slice (some ⟨g,0,none⟩) fs.length cap] 59 (0,0))::(g,.cells (J9 fs++rest).toArray 93 (0,0))::r))):=fun w3 h=>hid (h.less (List.sublist_cons_self _ _))
    by_cases hk0:k=0
    ·have hgt:decide ((0:Int)<(k:Int))=false:=by simp[hk0]
     have hgt2:decide (0<k)=false:=by simp[hk0]
     replace hk0:=hid hk0;have x0:∀p:InW w0 l ((fb,.cells #[.string f.1,.string f.2] 93 (0,0))::(bb,.cells #[.int .i64 2,.string ByteArray.empty,.slice (some ⟨g,0,none⟩) fs.length cap] 59 (0,0))::(g,.cells (J9 fs++rest).toArray 93 (0,0))::r),p.w.cell? ⟨fb,0,none⟩=some (.string f.1):=fun p=>J2 p.h.own.head 0
     have x1:∀p:InW w0 l ((fb,.cells #[.string f.1,.string f.2] 93 (0,0))::(bb,.cells #[.int .i64 2,.string ByteArray.empty,.slice (some ⟨g,0,none⟩) fs.length cap] 59 (0,0))::(g,.cells (J9 fs++rest).toArray 93 (0,0))::r),p.w.cell? ⟨fb,1,none⟩=some (.string f.2):=fun p=>J2 p.h.own.head 1
     refine J1x S3.out (by kernel_rfl) (by kernel_rfl) (fun hne=>?_)
     repeat (go_big_quiet_step ((go_at_call 183;refine Calls.inw (J8t (f:=f) (InW.h _) hfr.out.1 hfr.out.2))))
     refine J73 fun wq hq=>?_
     have hq':=hdone.out wq hq;clear x0 x1 hq hne;go_wp2_with fail;go_roundw
     case rel=>exact⟨k+1,by omega,by go_num,hq'⟩
     case measure=>simp[intOf];omega
    ·have hgt:decide ((0:Int)<(k:Int))=true:=by simp;omega
     have hgt2:decide (0<k)=true:=by simp;omega
     have hgt3:1<=k:=by omega
     obtain⟨q,hqk⟩:∃q:ByteArray×ByteArray,fs[k - 1]? =some q:=⟨fs[k - 1],List.getElem?_eq_getElem _⟩
     have hless:=J94 hr (show k - 1<k by omega) hqk hfk.out
     have hle:¬(0:Int)<=J2j q.1 f.1:=by omega
     have x0:∀p:InW w0 l ((fb,.cells #[.string f.1,.string f.2] 93 (0,0))::(bb,.cells #[.int .i64 2,.string ByteArray.empty,.slice (some ⟨g,0,none⟩) fs.length cap] 59 (0,0))::(g,.cells (J9 fs++rest).toArray 93 (0,0))::r),p.w.cell? ⟨fb,0,none⟩=some (.string f.1):=fun p=>J2 p.h.own.head 0
     have x1:∀p:InW w0 l ((fb,.cells #[.string f.1,.string f.2] 93 (0,0))::(bb,.cells #[.int .i64 2,.string ByteArray.empty,.slice (some ⟨g,0,none⟩) fs.length cap] 59 (0,0))::(g,.cells (J9 fs++rest).toArray 93 (0,0))::r),p.w.cell? ⟨fb,1,none⟩=some (.string f.2):=fun p=>J2 p.h.own.head 1
     have x2:∀p:InW w0 l ((fb,.cells #[.string f.1,.string f.2] 93 (0,0))::(bb,.cells #[.int .i64 2,.string ByteArray.empty,.slice (some ⟨g,0,none⟩) fs.length cap] 59 (0,0))::(g,.cells (J9 fs++rest).toArray 93 (0,0))::r),p.w.cell? ⟨bb,2,none⟩=some (.slice (some ⟨g,0,none⟩) fs.length cap):=fun p=>J2 p.h.own.tail.head 2
     have y0:∀p:InW w0 l ((fb,.cells #[.string f.1,.string f.2] 93 (0,0))::(bb,.cells #[.int .i64 2,.string ByteArray.empty,.slice (some ⟨g,0,none⟩) fs.length cap] 59 (0,0))::(g,.cells (J9 fs++rest).toArray 93 (0,0))::r),p.w.cell? ⟨g,(k - 1)*2,none⟩=some (.string q.1):=fun p=>(Jci p.h hqk).1
     have y1:∀p:InW w0 l ((fb,.cells #[.string f.1,.string f.2] 93 (0,0))::(bb,.cells #[.int .i64 2,.string ByteArray.empty,.slice (some ⟨g,0,none⟩) fs.length cap] 59 (0,0))::(g,.cells (J9 fs++rest).toArray 93 (0,0))::r),p.w.cell? ⟨g,(k - 1)*2+1,none⟩=some (.string q.2):=fun p=>(Jci p.h hqk).2.1
     replace hqk:=hid hqk;refine J1x S3.out (by kernel_rfl) (by kernel_rfl) (fun hne=>?_)
     repeat (go_big_quiet_step ((first
      |(go_at_call 183;refine Calls.inw (J8t (f:=f) (InW.h _) hfr.out.1 hfr.out.2))
      |(go_at_call 184;refine Calls.inw (J9m (InW.h _) q f)))))
     refine J73 fun wq hq=>?_
     have hq':=hdone.out wq hq;clear x0 x1 x2 y0 y1 hq hne;go_wp2_with fail;go_roundw
     case rel=>exact⟨k+1,by omega,by go_num,hq'⟩
     case measure=>simp[intOf];omega
   ·obtain rfl:k=fs.length:=by omega
    obtain⟨_,c1,c2,_⟩:=Jn hS2.out.own.head
    have hs1:(1:Int)<=(fs.length:Int):=by omega
    have hs2:(fs.length:Int)<=256:=by omega
    have S3:=hid (hS2.out.less (List.sublist_cons_self _ _));go_wp2_with fail;go_ret;exact⟨rfl,S3.out⟩
end Go.Proofs.YtncbcaabanoeoaaGreatDoor
namespace Go.Proofs.YtncbcaabanoeoaaGreatDoor
open Go
def J6s (n:Int):ByteArray:=⟨(Lib.itoa n).toArray⟩
def J2f (s:ByteArray):Option Int:=match Lib.parseIntB 64 s.data.toList with
 | .ok v=>if J6s v=s then some v else none
 |_=>none
end Go.Proofs.YtncbcaabanoeoaaGreatDoor
namespace Go.Proofs.YtncbcaabanoeoaaGreatDoor
open Go Go.RowKit
def Jh8 (a b:Int):Int:=if a<b then -1 else if b<a then 1 else 0
def Jh9 (a b:ByteArray):Int:=if Op.bytesLess a.toList b.toList=true then -1 else if a=b then 0 else 1
theorem Jm3 (a b:Int) (w:World):Calls Tryz.prog 328 #[.int .i64 a,.int .i64 b] w fun e w'=>e= .returned (.int .i64 (Jh8 a b))/\w=w':=by
 unfold Jh8;by_cases h1:a<b
 ·rw[if_pos h1]
  go_enter Tryz.func328,Tryz.ntmps328;go_wp2
  go_ret;exact⟨rfl,rfl⟩
 ·rw[if_neg h1]
  by_cases h2:b<a
  ·rw[if_pos h2]
   go_enter Tryz.func328,Tryz.ntmps328;go_wp2
   go_ret;exact⟨rfl,rfl⟩
  ·rw[if_neg h2]
   go_enter Tryz.func328,Tryz.ntmps328;go_wp2
   go_ret;exact⟨rfl,rfl⟩
theorem Jm4 (a b:ByteArray) (w:World):Calls Tryz.prog 329 #[.string a,.string b] w fun e w'=>e= .returned (.int .i64 (Jh9 a b))/\w=w':=by
 unfold Jh9;cases h1:Op.bytesLess a.toList b.toList with
 |true=>
  rw[if_pos rfl];go_enter Tryz.func329,Tryz.ntmps329;go_wp2
  go_ret;exact⟨rfl,rfl⟩
 |false=>
  rw[if_neg (by decide)]
  by_cases h2:a=b
  ·have h2':=Jbr h2
   rw[if_pos h2];clear h2;go_enter Tryz.func329,Tryz.ntmps329;go_wp2
   go_ret;exact⟨rfl,rfl⟩
  ·have h2':=J6o h2
   rw[if_neg h2];clear h2;go_enter Tryz.func329,Tryz.ntmps329;go_wp2
   go_ret;exact⟨rfl,rfl⟩
def Jsj (x y:Int):Int:=if x=0 then y else x
theorem Jps (b:Nat) (x y:Int) (w:World) (h0:w.cell? ⟨b,0,none⟩=some (.int .i64 x)) (h1:w.cell? ⟨b,1,none⟩=some (.int .i64 y)):
 Calls Tryz.prog 327 #[.slice (some ⟨b,0,none⟩) 2 2] w fun e w'=>e= .returned (.int .i64 (Jsj x y))/\w=w':=by
 unfold Jsj;by_cases hx:x=0
 ·subst hx
  rw[if_pos rfl];by_cases hy:y=0
  ·subst hy
   go_enter Tryz.func327,Tryz.ntmps327;go_wp2
   refine wp_loop_rounds 3 ?_;rw[rounds_succ];go_wp2
   rw[rounds_succ];go_wp2
   rw[rounds_succ];go_wp2
   go_ret;exact⟨rfl,rfl⟩
  ·have hy':(y !=0)=true:=by simpa using hy
   go_enter Tryz.func327,Tryz.ntmps327;go_wp2
   refine wp_loop_rounds 2 ?_;rw[rounds_succ];go_wp2
   rw[rounds_succ];go_wp2
   go_ret;exact⟨rfl,rfl⟩
 ·have hx':(x !=0)=true:=by simpa using hx
  rw[if_neg hx];go_enter Tryz.func327,Tryz.ntmps327;go_wp2
  refine wp_loop_rounds 1 ?_;rw[rounds_succ];go_wp2
  go_ret;exact⟨rfl,rfl⟩
def Jdw (t:Int) (k:ByteArray) (t':Int) (k':ByteArray):Int:=Jsj (Jh8 t t') (Jh9 k k')
theorem Jrd (t t':Int) (k k':ByteArray) (w:World):
 Calls Tryz.prog 326 #[.agg #[.int .i64 t,.string k],.agg #[.int .i64 t',.string k']] w fun e w'=>e= .returned (.int .i64 (Jdw t k t' k'))/\J3 w [] w' []:=by
 have hci:=hid (Jm3 t t');have hcs:=hid (Jm4 k k');have hco:=hid (Jps);unfold Jdw;go_enter Tryz.func326,Tryz.ntmps326;go_wp2_with fail;generalize hx:Jh8 t t'=x at *;generalize hy:Jh9 k k'=y at *;replace hx:=hid hx;replace hy:=hid hy;have S1:=((J3.refl (Own.nil w)).alloc (.cells #[.int .i64 t,.string k] 234)).alloc (.cells #[.int .i64 t',.string k'] 234);have q1:=S1.own.tail.head;have q2:=S1.own.head;generalize hw1:(w.alloc (.cells #[.int .i64 t,.string k] 234)).alloc (.cells #[.int .i64 t',.string k'] 234)=w1 at S1 q1 q2⊢;clear hw1;rw[World.size_alloc] at q2;have a0:=J2 q1 0;have a1:=J2 q1 1;have b0:=J2 q2 0;have b1:=J2 q2 1;simp only[List.getElem?_toArray,List.getElem?_cons_succ,List.getElem?_cons_zero] at a0 a1 b0 b1;replace S1:=hid (S1.less (List.nil_sublist _));clear q1 q2;refine wp_region_still_tail 10 (by kernel_rfl) (by kernel_rfl) ?_
 simp only[List.take_succ_cons,List.take_zero,List.drop_succ_cons,List.drop_zero];still_step
 still_step
 still_step
 still_step
 still_call (Jbm (hci.out _))
 still_step
 still_step
 still_step
 still_step
 still_call (Jbm (hcs.out _))
 refine wpStill_nil ?_;go_wp2_with fail;refine(hco.out _ x y _ (by simp[go_sem]) (by simp[go_sem])).mono ?_
 rintro e w' ⟨rfl,rfl⟩;go_wp2_with fail;go_ret;exact⟨by rw[hx.out,hy.out];rfl,(S1.out.drew.alloc _).less (List.nil_sublist _)⟩
abbrev ptr (b:Nat):Value:=.pointer (some ⟨b,0,none⟩)
theorem Jwv (b p n:Nat) (x y:Value) (w:World) (h1:w.cell? ⟨b,1,none⟩=some (ptr p)) (h2:w.cell? ⟨b,2,none⟩=some (ptr n)) (hp:w.cell? ⟨p,2,none⟩=some x) (hn:w.cell? ⟨n,1,none⟩=some y)
 (fp:w.frozen? ⟨p,2,none⟩=false) (fn:w.frozen? ⟨n,1,none⟩=false):
 Calls Tryz.prog 140 #[.pointer (some ⟨b,0,none⟩)] w fun e w'=>e= .returned (.tuple #[])/\w'=((w.setCell ⟨p,2,none⟩ (ptr n)).setCell ⟨n,1,none⟩ (ptr p)).drew:=by
 go_enter Tryz.func140,Tryz.ntmps140;go_wp2_with fail;go_region
 all_goals go_end0
 all_goals exact⟨rfl,rfl⟩
theorem Jtq (rb b q:Nat) (x1 x2 y:Value) (w:World) (hne:b≠rb) (hnq:b≠q) (hb1:w.cell? ⟨b,1,none⟩=some x1) (hb2:w.cell? ⟨b,2,none⟩=some x2) (hr:w.cell? ⟨rb,1,none⟩=some (ptr q)) (hq:w.cell? ⟨q,2,none⟩=some y)
 (f1:w.frozen? ⟨b,1,none⟩=false) (f2:w.frozen? ⟨b,2,none⟩=false) (fq:w.frozen? ⟨q,2,none⟩=false) (fr:w.frozen? ⟨rb,1,none⟩=false):
 Calls Tryz.prog 141 #[.pointer (some ⟨rb,0,none⟩),.pointer (some ⟨b,0,none⟩)] w fun e w'=>e= .returned (.tuple #[])/\
  w'=((((w.setCell ⟨b,1,none⟩ (ptr q)).setCell ⟨b,2,none⟩ (ptr rb)).setCell ⟨q,2,none⟩ (ptr b)).setCell ⟨rb,1,none⟩ (ptr b)).drew.drew:=by
 go_enter Tryz.func141,Tryz.ntmps141;go_wp2_with fail;go_region
 all_goals go_wp2_with fail
 all_goals go_region
 all_goals go_end0
 all_goals exact⟨rfl,rfl⟩
end Go.Proofs.YtncbcaabanoeoaaGreatDoor
