/-
item.at: where a field stands (slices.BinarySearchFunc).
-/
import Derived.Deep.RegionHeld3
import Derived.Test.YtncbcaabanoeoaaGreatDoorQ01
set_option linter.unusedVariables false
set_option linter.unusedSimpArgs false
set_option maxRecDepth 100000
set_option maxHeartbeats 8000000
namespace Go.Proofs.YtncbcaabanoeoaaGreatDoor
open Go Go.RowKit
variable {fs:Fs}{f:ByteArray × ByteArray}{g m:Nat}{name:ByteArray}{w0 w:World}{l r sl:Hp}{v:Value}{kind:Int}
def J1z (fs:Fs):Prop:=fs.Pairwise fun f g=>J2j f.1 g.1<0
def pos (fs:Fs) (name:ByteArray):Nat:=(fs.takeWhile fun f=>decide (J2j f.1 name<0)).length
def has (fs:Fs) (name:ByteArray):Bool:=(fs[pos fs name]?).any fun f=>J2j f.1 name==0
theorem Jue:∀(fs:Fs) (name:ByteArray) (k:Nat),k<=fs.length->(∀(i:Nat) (f:ByteArray×ByteArray),i<k->fs[i]? =some f->J2j f.1 name<0)->
 (∀f:ByteArray×ByteArray,fs[k]? =some f->¬J2j f.1 name<0)->pos fs name=k
 |[],name,k,h,_,_=>by simp at h;subst h;rfl
 |f::fs,name,0,_,_,h2=>by
  have:=h2 f rfl
  simp[pos,this]
 |f::fs,name,k+1,h,h1,h2=>by
  have a:=h1 0 f (by omega) rfl
  have ih:=Jue fs name k (by simpa using h) (fun i g hi hg=>h1 (i+1) g (by omega) (by simpa using hg)) (fun g hg=>h2 g (by simpa using hg))
  simp only[pos] at ih⊢;simp[a,ih]
theorem Jud (fs:Fs) (name:ByteArray):pos fs name<=fs.length:=(List.takeWhile_sublist _).length_le
theorem J94 (h:J1z fs) {i j:Nat} {g:ByteArray×ByteArray} (hij:i<j) (hf:fs[i]? =some f) (hg:fs[j]? =some g):J2j f.1 g.1<0:=by
 have hi:=(List.getElem?_eq_some_iff.1 hf);have hj:=(List.getElem?_eq_some_iff.1 hg);obtain⟨hi,rfl⟩:=hi
 obtain⟨hj,rfl⟩:=hj
 exact List.pairwise_iff_getElem.1 h i j hi hj hij
structure Jcq (fs:Fs) (name:ByteArray) (lo hi:Nat):Prop where
 le:lo<=hi
 top:hi<=fs.length
 lt:∀(i:Nat) (f:ByteArray×ByteArray),i<lo->fs[i]? =some f->J2j f.1 name<0
 ge:∀(i:Nat) (f:ByteArray×ByteArray),hi<=i->fs[i]? =some f->¬J2j f.1 name<0
theorem Jcq.start (fs:Fs) (name:ByteArray):Jcq fs name 0 fs.length:=
 ⟨Nat.zero_le _,Nat.le_refl _,fun i f h=>by omega,fun i f h hf=>by have:=(List.getElem?_eq_some_iff.1 hf).1;omega⟩
theorem Jcq.up {lo hi:Nat} (h:Jcq fs name lo hi) (hr:J1z fs) (h2:m<hi) (hf:fs[m]? =some f) (hc:J2j f.1 name<0):Jcq fs name (m+1) hi:=by
 refine⟨h2,h.top,fun i g hi hg=>?_,h.ge⟩
 by_cases e:i=m
 ·subst e;rw[hf] at hg;injection hg with hg;subst hg;exact hc
 ·exact J75 (J94 hr (by omega) hg hf) hc
theorem Jcq.down {lo hi:Nat} (h:Jcq fs name lo hi) (hr:J1z fs) (h1:lo<=m) (h2:m<hi) (hf:fs[m]? =some f) (hc:¬J2j f.1 name<0):Jcq fs name lo m:=by
 refine⟨h1,by have:=h.top;omega,h.lt,fun i g hi hg=>?_⟩
 by_cases e:i=m
 ·subst e;rw[hf] at hg;injection hg with hg;subst hg;exact hc
 ·exact fun hn=>hc (J75 (J94 hr (by omega) hf hg) hn)
theorem Jcq.done {k:Nat} (h:Jcq fs name k k):pos fs name=k:=
 Jue fs name k h.top h.lt (fun f hf=>h.ge k f (Nat.le_refl _) hf)
theorem J9y {xb:Nat} {rest:List Value} {x:ByteArray×ByteArray}
 (hS:J3 w0 l w ((xb,.cells #[.string x.1,.string x.2] 93 (0,0))::(g,.cells (J9 fs++rest).toArray 93 (0,0))::r)) (hf:fs[m]? =some f):
  w.cell? ⟨g,m*2,none⟩=some (.string f.1)/\w.cell? ⟨g,m*2+1,none⟩=some (.string f.2)/\w.cell? ⟨xb,0,none⟩=some (.string x.1)/\w.cell? ⟨xb,1,none⟩=some (.string x.2)/\
   Hid (J3 w0 l w ((xb,.cells #[.string x.1,.string x.2] 93 (0,0))::(g,.cells (J9 fs++rest).toArray 93 (0,0))::r)):=by
  have hb:=hS.own.tail.head;have hx:=hS.own.head;have hcm:=J1q fs m f hf;have hlen:=K7 fs;have hm:=(List.getElem?_eq_some_iff.1 hf).1;refine⟨?_,?_,J2 hx 0,J2 hx 1,hid hS⟩
  ·rw[J2 hb,List.getElem?_toArray,List.getElem?_append_left (by omega),Nat.mul_comm,hcm.1]
  ·rw[J2 hb,List.getElem?_toArray,List.getElem?_append_left (by omega),Nat.mul_comm,hcm.2]
def Jay:Value:=.func (.func 184) #[] #[]
theorem Jng {cap:Nat} {rest:List Value} (hS:J3 w0 l w ((g,.cells (J9 fs++rest).toArray 93 (0,0))::r)) (hr:J1z fs) (hB:fs.length<=1048576) (x:ByteArray×ByteArray):
 Calls Tryz.prog 225 #[.slice (some ⟨g,0,none⟩) fs.length cap,J7l x,Jay] w fun e w'=>
  e= .returned (.tuple #[.int .i64 (pos fs x.1),.bool (has fs x.1)])/\J3 w0 l w' ((g,.cells (J9 fs++rest).toArray 93 (0,0))::r):=by
 go_enter Tryz.func225,Tryz.ntmps225;unfold J7l Jay;replace hS:=hid hS;go_wp2_with fail;have S1:=hS.out.alloc (.cells #[.string x.1,.string x.2] 93);generalize hw1:w.alloc (.cells #[.string x.1,.string x.2] 93)=w1 at S1⊢;generalize w.heap.size=xb at S1⊢;clear hw1 hS;replace S1:=hid S1;go_loopw [9,10] (fun c d wr=>∃lo hi:Nat,c= .int .i64 lo/\d= .int .i64 hi/\Hid (Jcq fs x.1 lo hi)/\Hid (J3 w0 l wr ((xb,.cells #[.string x.1,.string x.2] 93 (0,0))::(g,.cells (J9 fs++rest).toArray 93 (0,0))::r))) (fun c d wr=>(intOf d - intOf c).toNat)
 case atStart=>exact⟨0,fs.length,rfl,rfl,hid (Jcq.start _ _),S1⟩
 case round=>
  obtain⟨lo,hi,rfl,rfl,hseek,hS2⟩:=hrel
  have htop:=hseek.out.top;have hle:=hseek.out.le;by_cases h:lo<hi
  ·obtain⟨m,hm,hmi⟩:∃m:Nat,(lo<=m/\m<hi)/\((lo:Int)+(hi:Int))/2=(m:Int):=⟨(lo+hi)/2,by omega,by omega⟩
   obtain⟨f,hf⟩:∃f:ByteArray×ByteArray,fs[m]? =some f:=⟨fs[m]'(by omega),List.getElem?_eq_getElem _⟩
   have hb:=hS2.out.own.tail.head;have hx:=hS2.out.own.head;have hcm:=J1q fs m f hf;have hlen:=K7 fs;have b0:wr.cell? ⟨g,m*2,none⟩=some (.string f.1):=by
    rw[J2 hb,List.getElem?_toArray,List.getElem?_append_left (by omega),Nat.mul_comm,hcm.1]
   have b1:wr.cell? ⟨g,m*2+1,none⟩=some (.string f.2):=by
    rw[J2 hb,List.getElem?_toArray,List.getElem?_append_left (by omega),Nat.mul_comm,hcm.2]
   have x0:wr.cell? ⟨xb,0,none⟩=some (.string x.1):=J2 hx 0;have x1:wr.cell? ⟨xb,1,none⟩=some (.string x.2):=J2 hx 1;have hml:m<fs.length:=by omega
   have hcall:=hid (J9m hS2.out.drew f x);clear hb hx hcm hlen;replace hf:=hid hf;by_cases hc:J2j f.1 x.1<0
   ·go_wp2_with fail
    go_still_tail 6,(by kernel_rfl)
    go_wp2_with (go_at_call 184;refine hcall.out.mono ?_);rintro e w2 ⟨rfl,S3⟩;replace S3:=hid S3;clear b0 b1 x0 x1 hcall;go_wp2_with fail;go_roundw
    case rel=>exact⟨m+1,hi,rfl,rfl,hid (hseek.out.up hr hm.2 hf.out hc),S3⟩
    case measure=>simp[intOf];omega
   ·go_wp2_with fail
    go_still_tail 6,(by kernel_rfl)
    go_wp2_with (go_at_call 184;refine hcall.out.mono ?_);rintro e w2 ⟨rfl,S3⟩;replace S3:=hid S3;clear b0 b1 x0 x1 hcall;go_wp2_with fail;go_roundw
    case rel=>exact⟨lo,m,rfl,rfl,hid (hseek.out.down hr hm.1 hm.2 hf.out (by omega)),S3⟩
    case measure=>simp[intOf];omega
  ·obtain rfl:lo=hi:=by omega
   have hpos:=hid hseek.out.done;by_cases hk:lo<fs.length
   ·obtain⟨f,hf⟩:∃f:ByteArray×ByteArray,fs[lo]? =some f:=⟨fs[lo]'(by omega),List.getElem?_eq_getElem _⟩
    obtain⟨b0,b1,x0,x1,_⟩:=J9y hS2.out hf
    replace hf:=hid hf;have hans:Hid (has fs x.1=(J2j f.1 x.1==0)):=hid (by unfold has;rw[hpos.out,hf.out];rfl)
    go_wp2_with fail;go_region_held3 (fun w'=>w'.cell? ⟨g,lo*2,none⟩=some (.string f.1)/\w'.cell? ⟨g,lo*2+1,none⟩=some (.string f.2)/\w'.cell? ⟨xb,0,none⟩=some (.string x.1)/\w'.cell? ⟨xb,1,none⟩=some (.string x.2)/\Hid (J3 w0 l w' ((xb,.cells #[.string x.1,.string x.2] 93 (0,0))::(g,.cells (J9 fs++rest).toArray 93 (0,0))::r)))
     (first|(exact J9y hS2.out.drew hf.out)|(exact J9y (by assumption) hf.out))
     (first|(go_at_call 184;refine(J9m hS2.out.drew f x).mono ?_;rintro e w2 ⟨rfl,S3⟩))
    go_wp2_with fail;go_ret2;rw[hpos.out,hans.out];exact⟨rfl,S3.less (List.sublist_cons_self _ _)⟩
   ·have hans:Hid (has fs x.1=false):=hid (by unfold has;rw[hpos.out,List.getElem?_eq_none (by omega)];rfl)
    go_wp2_with fail;go_quiet (fail);go_wp2_with fail;go_ret2;rw[hpos.out,hans.out];exact⟨rfl,(hS2.out.drewN _).less (List.sublist_cons_self _ _)⟩
theorem Jnh (hS:J3 w0 l w r) (x:ByteArray×ByteArray):
 Calls Tryz.prog 225 #[.slice none 0 0,J7l x,Jay] w fun e w'=>
  e= .returned (.tuple #[.int .i64 0,.bool false])/\J3 w0 l w' r:=by
 replace hS:=hid hS;go_enter Tryz.func225,Tryz.ntmps225;unfold J7l Jay;go_wp2_with fail;refine wp_loop_rounds 1 ?_;rw[rounds_succ];go_wp2_with fail;go_quiet (fail);go_wp2_with fail;go_ret2;exact⟨rfl,((hS.out.alloc _).drewN _).less (List.sublist_cons_self _ _)⟩
theorem Jj.shape (h:Jj v fs l):∃a c,v= .slice a fs.length c:=by
 obtain⟨h,_⟩:=h
 generalize fs.length=n at h⊢;generalize J9 fs=xs at h;cases h with
 |nil=>exact⟨_,_,rfl⟩
 |laid g n cap xs rest hx hr hn hc=>exact⟨_,_,rfl⟩
def J6 (kind:Int) (text:ByteArray) (v:Value):Value:=.agg #[.int .i64 kind,.string text,v]
theorem Jj.none (h:Jj v [] l):v= .slice none 0 0:=h.nil rfl
theorem Jfd (hS:J3 w0 l w (sl++r)) (hat:Jj v fs sl) (hr:J1z fs) (hB:fs.length<=1048576) (x:ByteArray×ByteArray):
 Calls Tryz.prog 225 #[v,J7l x,Jay] w fun e w'=>
  e= .returned (.tuple #[.int .i64 (pos fs x.1),.bool (has fs x.1)])/\J3 w0 l w' (sl++r):=by
 by_cases hz:fs=[]
 ·subst hz
  obtain rfl:=hat.nil rfl;exact Jnh hS x
 ·have hn:0<fs.length:=List.length_pos_iff.2 hz
  obtain⟨g,cap,rest,rfl,hc,hc2,rfl,hrest⟩:=hat.sl.view hn
  exact Jng hS hr hB x
theorem J58 {text:ByteArray} (hS:J3 w0 l w (sl++r)) (hat:Jj v fs sl) (hr:J1z fs) (hB:fs.length<=1048576) (name:ByteArray):
 Calls Tryz.prog 201 #[J6 kind text v,.string name] w fun e w'=>
  e= .returned (.tuple #[.int .i64 (pos fs name),.bool (has fs name)])/\J3 w0 l w' (sl++r):=by
 obtain⟨a,c,rfl⟩:=hat.shape
 have S1:=hS.alloc (.cells #[.int .i64 kind,.string text,.slice a fs.length c] 59);have hcall:=hid (Jfd (S1.less (List.sublist_cons_self _ _)) hat hr hB (name,ByteArray.empty));unfold J7l Jay at hcall;clear hS hat hr S1;go_enter Tryz.func201,Tryz.ntmps201;unfold J6;go_wp2_with fail;refine hcall.out.mono ?_;rintro e w2 ⟨rfl,S3⟩;replace S3:=hid S3;clear hcall;go_wp2_with fail;go_ret2;exact⟨rfl,S3.out⟩
theorem Jb6 (hS:J3 w0 l w r) (f:ByteArray×ByteArray):
 Calls Tryz.prog 183 #[J7l f] w fun e w'=>e= .returned (.bool (decide (f.1.size<=512)&&decide (f.2.size<=4096)))/\J3 w0 l w' r:=by
 replace hS:=hid hS;have hfin:=hid ((hS.out.alloc (.cells #[.string f.1,.string f.2] 93)).less (List.sublist_cons_self _ _));by_cases h1:(f.1.size:Int)<=512
 ·by_cases h2:(f.2.size:Int)<=4096
  ·have e:Hid ((decide (f.1.size<=512)&&decide (f.2.size<=4096))=true):=hid (by simp;omega)
   go_enter Tryz.func183,Tryz.ntmps183;unfold J7l;go_wp2_with fail;go_ret;rw[e.out];exact⟨rfl,hfin.out⟩
  ·have e:Hid ((decide (f.1.size<=512)&&decide (f.2.size<=4096))=false):=hid (by simp;omega)
   go_enter Tryz.func183,Tryz.ntmps183;unfold J7l;go_wp2_with fail;go_ret;rw[e.out];exact⟨rfl,hfin.out⟩
 ·have e:Hid ((decide (f.1.size<=512)&&decide (f.2.size<=4096))=false):=hid (by simp;omega)
  go_enter Tryz.func183,Tryz.ntmps183;unfold J7l;go_wp2_with fail;go_ret;rw[e.out];exact⟨rfl,hfin.out⟩
theorem J39 {text:ByteArray} (hS:J3 w0 l w (sl++r)) (hat:Jj v fs sl) (hB:fs.length<=1048576):
 Calls Tryz.prog 31 #[J6 kind text v] w fun e w'=>∃v' sl',e= .returned (J6 kind text v')/\Jj v' fs sl'/\J3 w0 l w' (sl'++(sl++r)):=by
 obtain⟨a,c,rfl⟩:=hat.shape
 have S1:=(hS.alloc (.cells #[.int .i64 kind,.string text,.slice a fs.length c] 59)).alloc (.cells #[.int .i64 0,.string ByteArray.empty,.slice none 0 0] 59);rw[World.size_alloc] at S1;have S2:=S1.permR (l2:=sl++((w.heap.size,.cells #[.int .i64 kind,.string text,.slice a fs.length c] 59)::(w.heap.size+1,.cells #[.int .i64 0,.string ByteArray.empty,.slice none 0 0] 59)::r)) (by
  refine(List.Perm.swap _ _ _).trans ?_
  exact List.perm_append_comm_assoc [_,_] sl r)
 have hcall:=hid (Jb2 S2 hat hB);clear S1 S2 hat hS;go_enter Tryz.func31,Tryz.ntmps31;unfold J6;go_wp2_with fail;refine hcall.out.mono ?_;rintro e w2 ⟨v',sl',rfl,hat',S3⟩;obtain⟨a',c',rfl⟩:=hat'.shape
 have hown:=S3.own;have hx:=hown.right.right.head;have hy:=hown.right.right.tail.head;have c0:=J2 hx 0;have c1:=J2 hx 1;have c2:=J2 hx 2;have f2:w2.frozen? ⟨w.heap.size,2,none⟩=false:=Jg hx 2;have d0:=J2 hy 0;have d1:=J2 hy 1;have d2:=J2 hy 2;simp only[List.getElem?_toArray,List.getElem?_cons_succ,List.getElem?_cons_zero] at c0 c1 c2 d0 d1 d2;have g0:w2.frozen? ⟨w.heap.size+1,0,none⟩=false:=Jg hy 0;have g1:w2.frozen? ⟨w.heap.size+1,1,none⟩=false:=Jg hy 1;have g2:w2.frozen? ⟨w.heap.size+1,2,none⟩=false:=Jg hy 2;have P1:=S3.permR (l2:=(w.heap.size,.cells #[.int .i64 kind,.string text,.slice a fs.length c] 59)::(w.heap.size+1,.cells #[.int .i64 0,.string ByteArray.empty,.slice none 0 0] 59)::(sl'++(sl++r)))
  ((List.Perm.append_left sl' (List.perm_append_comm_assoc sl [_,_] r)).trans (List.perm_append_comm_assoc sl' [_,_] (sl++r)))
 have P2:=(((((P1.set 2 (.slice a' fs.length c')).permR (List.Perm.swap _ _ _)).set 0 (.int .i64 kind)).set 1 (.string text)).set 2 (.slice a' fs.length c')).less ((List.sublist_cons_self _ _).trans (List.sublist_cons_self _ _));have hfin:=hid P2;clear hx hy hown hcall P1 P2 S3;replace hat':=hid hat';go_wp2_with fail;refine bodyPost_ret (v:=J6 kind text (.slice a' fs.length c')) (by simp[results,Tryz.results31,go_sem,J6, *]) rfl ?_
 exact⟨_,sl',rfl,hat'.out,hfin.out⟩
def Jb5 (fs:Fs) (name:ByteArray):ByteArray:=if has fs name then((fs[pos fs name]?).map Prod.snd).getD ByteArray.empty else ByteArray.empty
theorem J7z (h:has fs name=true):∃f:ByteArray×ByteArray,fs[pos fs name]? =some f/\f.1=name/\Jb5 fs name=f.2:=by
 have h0:=h;unfold has at h;cases hf:fs[pos fs name]? with
 |none=>rw[hf] at h;simp at h
 |some f=>
  rw[hf] at h;refine⟨f,rfl,Jov (by simpa using h),?_⟩
  simp[Jb5,h0,hf]
theorem Jol {text:ByteArray} (hk:(kind==1)=false) (hS:J3 w0 l w (sl++r)) (hat:Jj v fs sl) (hr:J1z fs) (hB:fs.length<=1048576) (name:ByteArray):
 Calls Tryz.prog 163 #[J6 kind text v,.string name] w fun e w'=>
  e= .returned (.tuple #[.string (Jb5 fs name),.bool (has fs name),.int .i64 0])/\J3 w0 l w' (sl++r):=by
 obtain⟨a,c,rfl⟩:=hat.shape
 have S1:=hS.alloc (.cells #[.int .i64 kind,.string text,.slice a fs.length c] 59);have S2:=S1.permR (l2:=sl++((w.heap.size,.cells #[.int .i64 kind,.string text,.slice a fs.length c] 59)::r)) List.perm_middle.symm;have hcall:=hid (J58 (kind:=kind) (text:=text) S2 hat hr hB name);have hat':=hid hat;clear hS S1 S2 hr hat;go_enter Tryz.func163,Tryz.ntmps163;unfold J6;go_wp2_with fail;refine hcall.out.mono ?_;rintro e w2 ⟨rfl,S3⟩;clear hcall;have hfin:=hid (S3.less ((List.sublist_cons_self _ _).append_left sl));have hx:=S3.own.right.head;have c2:=J2 hx 2;simp only[List.getElem?_toArray,List.getElem?_cons_succ,List.getElem?_cons_zero] at c2;cases hh:has fs name with
 |false=>
  have e:Hid (Jb5 fs name=ByteArray.empty):=hid (by simp[Jb5,hh])
  replace hh:=hid hh;clear hx;replace S3:=hid S3;go_wp2_with fail;go_ret3;rw[e.out,hh.out];exact⟨rfl,hfin.out⟩
 |true=>
  obtain⟨f,hf,_,hg⟩:=J7z hh
  have hp:=(List.getElem?_eq_some_iff.1 hf).1;obtain⟨b,cap,rest,hsl,hc,hc2,hl,hrest⟩:=hat'.out.sl.view (by omega)
  injection hsl with h1 h2 h3
  subst h1 h3 hl;have hb:=S3.own.head;have hcm:=J1q fs _ f hf;have hlen:=K7 fs;have b1:w2.cell? ⟨b,pos fs name*2+1,none⟩=some (.string f.2):=by
   rw[J2 hb,List.getElem?_toArray,List.getElem?_append_left (by omega),Nat.mul_comm,hcm.2]
  generalize pos fs name=k at hp b1⊢;replace hh:=hid hh;replace hg:=hid hg;clear hx hb hcm hf hlen;replace S3:=hid S3;go_wp2_with fail;go_ret3;rw[hg.out,hh.out];exact⟨rfl,hfin.out⟩
theorem Jbl (w:World) (g off n c ty:Nat) (xs ys:List Value) (u1 u2:Value) (hn:n=1) (hg:w.heap[g]? =some (.cells (xs++u1::u2::ys).toArray 93 (0,0))) (hoff:off=xs.length):
 (Builtin.clear_ #[57] ty #[.slice (some ⟨g,off,none⟩) n c]).run Tryz.prog w=
  .ok (.tuple #[]) (w.setRow g (xs++ .string ByteArray.empty:: .string ByteArray.empty::ys).toArray):=by
 obtain⟨i,hi,hz,hsz,hby⟩:=info_parts J43
 subst hoff hn;have hst:=run_storeCells_at Tryz.prog g xs.length 93 [.string ByteArray.empty,.string ByteArray.empty] 0 _ w hg (by simp) (by intro u hu;simp at hu;subst hu;rfl)
 simp only[Nat.add_zero] at hst;have hzc:(Builtin.zeroCells (Value.agg #[.string ByteArray.empty,.string ByteArray.empty]).cells 1).toList=[.string ByteArray.empty,.string ByteArray.empty]:=by kernel_rfl
 have e1:(List.take xs.length (xs++u1::u2::ys)++[Value.string ByteArray.empty,.string ByteArray.empty]++List.drop (xs.length+[Value.string ByteArray.empty,.string ByteArray.empty].length) (xs++u1::u2::ys))=xs++ .string ByteArray.empty:: .string ByteArray.empty::ys:=by
  simp[List.take_append,List.drop_append]
 rw[e1] at hst;simp[Builtin.clear_,Sem.run_bind,run_underlying Tryz.underlying57,zeroValue,typeInfo,hi,hz,hzc,hst]
theorem Jnx {l:List Value} (h:l.length=2):∃a b,l=[a,b]:=by
 match l,h with
 |[a,b],_=>exact⟨a,b,rfl⟩
theorem J6n (W:World) (g cap:Nat) (A B:Fs) (f:ByteArray×ByteArray) (rest:List Value) (c:Nat) (a:Addr) (ha:0<B.length->a=⟨g,(A.length+1)*2,none⟩) (hg:W.heap[g]? =some (.cells (J9 (A++f::B)++rest).toArray 93 (0,0))) (hc:A.length+1+B.length<=cap):
 ∃u1 u2,(Builtin.append_ #[57,57] 57 #[.slice (some ⟨g,0,none⟩) A.length cap,.slice (some a) B.length c]).run Tryz.prog W=
  .ok (.slice (some ⟨g,0,none⟩) (A.length+B.length) cap) (W.setRow g (J9 (A++B)++u1::u2::rest).toArray):=by
 obtain⟨i,hi,hz,hsz,hby⟩:=info_parts J43
 have hlA:=K7 A;have hlB:=K7 B;have hcur:J9 (A++f::B)++rest=J9 A++(([Value.string f.1,.string f.2]++J9 B)++rest):=by simp[J0t,J9]
 have hnews:∀(j:Nat) (u:Value),(J9 B)[j]? =some u->W.cell? (a.add j)=some u:=by
  intro j u hu
  have hj:j<(J9 B).length:=(List.getElem?_eq_some_iff.1 hu).1;rw[ha (by omega)]
  have hadd:(⟨g,(A.length+1)*2,none⟩:Addr).add j=⟨g,(A.length+1)*2+j,none⟩:=by unfold Addr.add;split<;>simp_all
  rw[hadd,J2 hg];rw[hcur,List.getElem?_toArray,List.getElem?_append_right (by omega)]
  have e:(A.length+1)*2+j - (J9 A).length=j+2:=by omega
  rw[e,List.getElem?_append_left (by simp;omega)]
  simpa using hu
 have hrun:=run_append_room (P:=Tryz.prog) (w:=W) 57 57 93 i Tryz.underlying57 hi g A.length cap _ hg a B.length c (J9 B) (by rw[hsz];exact hlB) hnews (J4b B) (by omega)
  (by rw[hsz];simp only[List.size_toArray,hcur,List.length_append,List.length_cons,List.length_nil];omega)
 obtain⟨u1,u2,hu⟩:=Jnx (l:=([Value.string f.1,.string f.2]++J9 B).drop (J9 B).length) (by simp only[List.length_drop,List.length_append,List.length_cons,List.length_nil];omega)
 refine⟨u1,u2,?_⟩
 have e1:(J9 A++(([Value.string f.1,.string f.2]++J9 B)++rest)).take (A.length*2)=J9 A:=by rw[<-hlA];simp
 have e2:(J9 A++(([Value.string f.1,.string f.2]++J9 B)++rest)).drop (A.length*2+(J9 B).length)=u1::u2::rest:=by
  rw[<-hlA,List.drop_append,List.drop_eq_nil_of_le (by omega),Nat.add_sub_cancel_left,List.nil_append,List.drop_append_of_le_length (by simp only[List.length_append,List.length_cons,List.length_nil];omega),hu]
  rfl
 have e3:(J9 (A++f::B)++rest).toArray.toList.take (A.length*i.size)++J9 B++(J9 (A++f::B)++rest).toArray.toList.drop (A.length*i.size+(J9 B).length)=J9 (A++B)++u1::u2::rest:=by
  rw[hsz,hcur];simp only[];rw[e1,e2,J0t]
 rw[e3] at hrun;exact hrun
theorem Jm5 {cap:Nat} {A B:Fs} {rest:List Value} (hS:J3 w0 l w ((g,.cells (J9 (A++f::B)++rest).toArray 93 (0,0))::r)) (hc:A.length+1+B.length<=cap) (hm:cap<=maxLen):
 Calls Tryz.prog 203 #[.slice (some ⟨g,0,none⟩) (A.length+1+B.length) cap,.int .i64 A.length,.int .i64 (A.length+1)] w fun e w'=>
  e= .returned (.slice (some ⟨g,0,none⟩) (A.length+B.length) cap)/\J3 w0 l w' ((g,.cells (J9 (A++B)++ .string ByteArray.empty:: .string ByteArray.empty::rest).toArray 93 (0,0))::r):=by
 have hm2:cap<=9223372036854775807:=by unfold maxLen at hm;omega
 have ha1:A.length<=cap:=by omega
 have hi0:(0:Int)<=(A.length:Int)+1:=by omega
 have hi1:(A.length:Int)+1<=(A.length:Int)+1+(B.length:Int):=by omega
 have hi2:¬cap=A.length+B.length:=by omega
 have hfin:∀(W:World) (u1 u2:Value),W.heap=(w.drew.setRow g (J9 (A++B)++u1::u2::rest).toArray).heap->W.os=w.os->W.output=w.output->
  ∃W',(∀n c off ty,n=1->off=(A.length+B.length)*2->(Builtin.clear_ #[57] ty #[.slice (some ⟨g,off,none⟩) n c]).run Tryz.prog W= .ok (.tuple #[]) W')/\
   J3 w0 l W' ((g,.cells (J9 (A++B)++ .string ByteArray.empty:: .string ByteArray.empty::rest).toArray 93 (0,0))::r):=by
  intro W u1 u2 hh ho hp
  have h1:J3 w0 l W ((g,.cells (J9 (A++B)++u1::u2::rest).toArray 93 (0,0))::r):=by
   refine(J3.put (w2:=w.drew.setRow g (J9 (A++B)++u1::u2::rest).toArray) hS.drew (by simp[World.setRow]) (setRow_heap w.drew g _ _ _ _ hS.drew.own.head) (fun k hk=>setRow_other w.drew g k _ hk) rfl rfl).heap hh ho hp
  refine⟨W.setRow g (J9 (A++B)++ .string ByteArray.empty:: .string ByteArray.empty::rest).toArray,?_,?_⟩
  ·intro n c off ty hn hoff
   refine Jbl W g off n c ty _ rest u1 u2 hn h1.own.head ?_;rw[hoff,K7,List.length_append]
  ·exact J3.put h1 (by simp[World.setRow]) (setRow_heap W g _ _ _ _ h1.own.head) (fun k hk=>setRow_other W g k _ hk) rfl rfl
 by_cases hcap:cap=A.length+1
 ·obtain rfl:B=[]:=List.length_eq_zero_iff.1 (by omega)
  subst hcap;obtain⟨u1,u2,hrun⟩:=J6n w.drew g (A.length+1) A [] f rest 0 ⟨g,0,none⟩ (fun h=>absurd h (by simp)) hS.drew.own.head hc
  obtain⟨W',hclr,S'⟩:=hfin _ u1 u2 rfl rfl rfl
  have hclr':=hclr 1 1 (A.length*2) 0 rfl (by simp)
  simp only[List.length_nil,Nat.add_zero,List.append_nil] at hrun hclr' S'⊢;clear hi0 hi1 hi2 hc;have hi0:(0:Int)<=(A.length:Int)+1:=by omega
  have hi2:¬A.length+1=A.length:=by omega
  have hi3:(A.length:Int)<=(A.length:Int)+1:=by omega
  have hi4:(0:Int)<=(A.length:Int):=by omega
  replace hrun:=hid hrun;replace S':=hid S';clear hfin hclr hS;go_enter Tryz.func203,Tryz.ntmps203;go_wp2_with fail;go_still_tail 6,(by kernel_rfl)
  go_wp2_with (at_builtin;refine J8 rfl _ _ _ _ rfl _ _ rfl rfl hrun.out ?_);go_ret;exact⟨rfl,S'.out⟩
 ·obtain⟨u1,u2,hrun⟩:=J6n w.drew g cap A B f rest (cap - (A.length+1)) ⟨g,(A.length+1)*2,none⟩ (fun _=>rfl) hS.drew.own.head hc
  obtain⟨W',hclr,S'⟩:=hfin _ u1 u2 rfl rfl rfl
  have hclr':=hclr (A.length+1+B.length - (A.length+B.length)) (cap - (A.length+B.length)) ((A.length+B.length)*2) 0 (by omega) rfl
  replace hrun:=hid hrun;replace S':=hid S';clear hfin hclr hS;go_enter Tryz.func203,Tryz.ntmps203;go_wp2_with fail;go_still_tail 6,(by kernel_rfl)
  go_wp2_with (at_builtin;refine J8 rfl _ _ _ _ rfl _ _ rfl rfl hrun.out ?_);go_ret;exact⟨rfl,S'.out⟩
end Go.Proofs.YtncbcaabanoeoaaGreatDoor
