/-
fields: job.drop (HDEL) of many fields.
-/
import Derived.Deep.CutBlock
import Derived.Deep.DeepCutAuto
import Derived.Deep.RegionHeld3
import Derived.Test.YtncbcaabanoeoaaGreatDoorQ37
import Derived.Test.YtncbcaabanoeoaaGreatDoorQ38
import Derived.Test.YtncbcaabanoeoaaGreatDoorQ39
set_option linter.unusedVariables false
set_option linter.unusedSimpArgs false
set_option maxRecDepth 100000
set_option maxHeartbeats 8000000
namespace Go.Proofs.YtncbcaabanoeoaaGreatDoor
open Go Go.RowKit
variable {fs:Fs}{name:ByteArray}{kind now:Int}{w0 w:World}{l r:Hp}{sb g off B:Nat}{S:St}
def J2m (kind:Int) (text:ByteArray) (fs:Fs) (name:ByteArray):Itm:=if has fs name then(if fs.length=1 then Jc else⟨kind,text,fdel fs name⟩) else⟨kind,text,fs⟩
theorem Jon (h:has fs name=true):0<fs.length:=by
 cases fs with
 |nil=>simp[has] at h
 |cons f fs=>simp
theorem Jdv (kind:Int) (text:ByteArray) (fs:Fs) (name:ByteArray):(J2m kind text fs name).fs=if has fs name then fdel fs name else fs:=by
 unfold J2m;cases h:has fs name with
 |false=>rfl
 |true=>
  simp only[if_true];split
  ·rename_i h1
   have h2:=Jk0 fs name;rw[h,h1] at h2;exact(List.length_eq_zero_iff.1 h2).symm
  ·rfl
theorem Jwa {f:ByteArray×ByteArray} (h:f∈fdel fs name):f∈fs:=by
 unfold fdel at h;split at h
 ·exact List.mem_of_mem_eraseIdx h
 ·exact h
theorem J4h.fdel (h:J4h fs) (name:ByteArray):J4h (fdel fs name):=
 ⟨h.1.fdel name,by have:=Jk0 fs name;have:=h.2.1;split at * <;>omega,fun f hf=>h.2.2 f (Jwa hf)⟩
theorem J4h.drop (h:J4h fs) (kind:Int) (text:ByteArray) (name:ByteArray):J4h (J2m kind text fs name).fs:=by
 rw[Jdv];split
 ·exact h.fdel name
 ·exact h
theorem Jhh {text:ByteArray} (hk:(kind==1)=false):((J2m kind text fs name).kind==1)=false:=by
 unfold J2m;split
 ·split
  ·rfl
  ·exact hk
 ·exact hk
theorem Jhg {text:ByteArray} (h:0<fs.length->kind=2/\text=ByteArray.empty):0<(J2m kind text fs name).fs.length->(J2m kind text fs name).kind=2/\(J2m kind text fs name).text=ByteArray.empty:=by
 unfold J2m;split
 ·rename_i hh
  split
  ·intro h0;cases h0
  ·intro _;exact h (Jon hh)
 ·exact h
theorem Jml {sl:Hp} {v:Value} {text:ByteArray} (hk:(kind==1)=false) (hS:J3 w0 l w (sl++r)) (hat:Jj v fs sl) (hr:J1z fs) (hB:fs.length<=1048576) (name:ByteArray):
 Calls Tryz.prog 164 #[J6 kind text v,.string name] w (J3f w0 l r sl fs name (J2m kind text fs name).kind (J2m kind text fs name).text (has fs name) (J2m kind text fs name).fs):=by
 unfold J2m;cases hh:has fs name with
 |false=>exact Jqs hk hS hat hr hB name hh
 |true=>
  by_cases h1:fs.length=1
  ·simp only[if_true,h1]
   exact Jmm hk hS hat hr hB name hh h1
  ·simp only[if_true,h1,if_false]
   exact Jjw hk hS hat hr hB name hh (by have:=Jon hh;omega)
def J7s:Fs->Int->List ByteArray->Fs×Int
 |fs,n,[]=>(fs,n)
 |fs,n,x::l=>J7s (if has fs x then fdel fs x else fs) (n+if has fs x then 1 else 0) l
def J5r (S:St) (now:Int) (key:ByteArray) (p:Fs×Int):St×Lf:=if p.2=0 then(S,Jm 0) else if p.1.length=0 then((S.due key now).gone key 2,Jm p.2) else J7f S now key (J3c p.1) p.2
def J8q (S:St) (now:Int) (key:ByteArray) (fs:Fs) (ws:List ByteArray):St×Lf:=J5r S now key (J7s fs 0 ws)
theorem Jq6 {sl:Hp} {v:Value} {text:ByteArray} (hk:(kind==1)=false) (hS:J3 w0 [] w (l++(sl++r))) (hG:J17 w0) (hX:Jh l sb S) (hT:Kx S) (hl:S.load<=1000000000000)
 (hat:Jj v fs sl) (hok:J4h fs) (hkt:0<fs.length->kind=2/\text=ByteArray.empty) (key:ByteArray) (hks:key.size<=1099511627776) (now:Int) {ws:List ByteArray} (ha:J2h w0 r g off ws) (hfew:ws.length<=1000) (cap:Nat):
  Calls Tryz.prog 103 #[Kz sb kind text v now key (.slice (some ⟨g,off,none⟩) ws.length cap)] w (Jp w0 r sb (J8q S now key fs ws).1 (Ja (J8q S now key fs ws).2)):=by
  obtain⟨va,vc,rfl⟩:=hat.shape
  obtain⟨m,hm⟩:∃m,m=ws.length:=⟨_,rfl⟩
  rw[<-hm] at hfew⊢;replace hm:=hid hm;obtain⟨nf,hnf⟩:∃nf,nf=fs.length:=⟨_,rfl⟩
  rw[<-hnf] at hat⊢;replace hnf:=hid hnf;have S1:=(hS.alloc (Jk sb kind text (.slice va nf vc) now key (.slice (some ⟨g,off,none⟩) m cap))).alloc J4;simp only[World.size_alloc] at S1;obtain⟨T,hTT⟩:∃T,T=J8q S now key fs ws:=⟨_,rfl⟩
  rw[<-hTT];replace hTT:=hid hTT;replace S1:=hid S1;clear hS;have hat0:=hid hat;have hok0:=hid hok;have hk0:=hid hk;have hkt0:=hid hkt;clear hat hok hk hkt;go_enter Tryz.func103,Tryz.ntmps103;unfold Kz;go_upto_region 1 with fail;generalize hw1:(w.alloc _).alloc _=w1;replace S1:J3 w0 [] w1 _:=hw1▸S1.out;clear hw1;generalize w.heap.size=b at S1⊢
  have S2:Hid (J3 w0 [] w1 (l++(sl++((b,Jk sb kind text (.slice va nf vc) now key (.slice (some ⟨g,off,none⟩) m cap))::((b+1,J4)::r))))):=hid (S1.permR (J5 fun f=>by
   simp only[SC];omega))
  clear S1;have c6:=(J1n S2.out.own.right.right.head).c6;go_wp2_with fail;clear c6;go_loopw [3,5,6,7,8,12] (fun s3 s5 s6 s7 s8 s12 wr=>∃(k:Nat) (n kd:Int) (tx:ByteArray) (vv:Value) (fs':Fs) (sl':Hp),s12= .int .i64 k/\s3= .int .i64 n/\k<=m/\0<=n/\n<=k/\Hid ((kd==1)=false)/\Hid (J4h fs')/\Hid (0<fs'.length->kd=2/\tx=ByteArray.empty)/\Hid (T=J5r S now key (J7s fs' n (ws.drop k)))/\Hid (Jj vv fs' sl')/\Hid (J3 w0 [] wr (l++(sl'++((b,Jk sb kd tx vv now key (.slice (some ⟨g,off,none⟩) m cap))::((b+1,J4)::r)))))) (fun s3 s5 s6 s7 s8 s12 wr=>(m - intOf s12).toNat)
  case atStart=>exact⟨0,0,kind,text,_,fs,sl,rfl,rfl,Nat.zero_le _,Int.le_refl _,Int.le_refl _,hk0,hok0,hkt0,hid hTT.out,hat0,S2⟩
  case round=>
   obtain⟨k,n,kd,tx,vv,fs',sl',rfl,rfl,hkn,hn0,hn1,hkd,hok',hkt',hres,hat',S3⟩:=hrel
   clear S2 hat0 hok0 hk0 hkt0 hTT hnf;obtain⟨va,vc,rfl⟩:=hat'.out.shape
   obtain⟨nf,hnf⟩:∃nf,nf=fs'.length:=⟨_,rfl⟩
   rw[<-hnf] at hat' S3;by_cases hlt:k<m
   ·obtain⟨x,hx⟩:∃x,ws[k]? =some x:=⟨ws[k]'(by rw[<-hm.out];omega),List.getElem?_eq_getElem _⟩
    have hdrop:ws.drop k=x::ws.drop (k+1):=by
     rw[List.drop_eq_getElem_cons (by rw[<-hm.out];omega)]
     rw[(List.getElem?_eq_some_iff.1 hx).2]
    have hres2:=hres.out;rw[hdrop,J7s] at hres2;replace hnf:=hid hnf;obtain⟨di,hdi⟩:∃di,di=J2m kd tx fs' x:=⟨_,rfl⟩
    have hdfs:di.fs=if has fs' x then fdel fs' x else fs':=by rw[hdi,Jdv]
    rw[<-hdfs] at hres2;have hok2:Hid (J4h di.fs):=hid (by rw[hdi];exact hok'.out.drop kd tx x)
    have hkd2:Hid ((di.kind==1)=false):=hid (by rw[hdi];exact Jhh hkd.out)
    have hkt2:Hid (0<di.fs.length->di.kind=2/\di.text=ByteArray.empty):=hid (by rw[hdi];exact Jhg hkt'.out)
    obtain⟨hs,hhs⟩:∃hs,hs=has fs' x:=⟨_,rfl⟩
    rw[<-hhs] at hres2
    have hd:=Jml (text:=tx) hkd.out (S3.out.permR (l2:=sl'++(l++((b,Jk sb kd tx (.slice va nf vc) now key (.slice (some ⟨g,off,none⟩) m cap))::((b+1,J4)::r)))) (J5 fun f=>by
     simp only[SC];omega)) hat'.out hok'.out.1 (by have:=hok'.out.2.1;omega) x
    rw[<-hdi,<-hhs] at hd;unfold J6 at hd;replace hd:=hid hd;obtain⟨_,c1,c2,c3,_,_,c6⟩:=J1n S3.out.own.right.right.head
    have ca:wr.cell? ⟨g,off+k,none⟩=some (.string x):=ha.at_ wr (l++(sl'++[(b,Jk sb kd tx (.slice va nf vc) now key (.slice (some ⟨g,off,none⟩) m cap)),(b+1,J4)])) (by have:=S3.out;simpa using this) k x hx
    have hlt2:(k:Int)<(m:Int):=by omega
    have hb1:n+1<=9223372036854775807:=by omega
    replace hres2:=hid hres2;replace hdi:=hid hdi;replace hhs:=hid hhs;replace hdfs:=hid hdfs;clear hres hdrop S3 hx hkd hok' hkt' hat';go_wp2_with fail;refine hd.out.mono ?_;rintro e w2 ⟨v2,sl2,rfl,hat2,S4⟩;obtain⟨va2,vc2,rfl⟩:=hat2.shape
    obtain⟨vn2,hvn2⟩:∃m,m=di.fs.length:=⟨_,rfl⟩
    rw[<-hvn2] at hat2⊢;clear c1 c2 c3 c6 ca hd;have hvn3:Hid (vn2=di.fs.length):=hid hvn2;clear hvn2;unfold J6;go_upto_region 6 with fail;have S5:=S4.alloc (Jb di.kind di.text (.slice va2 vn2 vc2));generalize hw:w2.alloc _=w3;replace S5:J3 w0 [] w3 _:=hw▸S5;clear hw S4;generalize w2.heap.size=nb at S5⊢
    have S6:=S5.permR (l2:=(b,Jk sb kd tx (.slice va nf vc) now key (.slice (some ⟨g,off,none⟩) m cap))::((nb,Jb di.kind di.text (.slice va2 vn2 vc2))::(l++(sl2++(sl'++((b+1,J4)::r)))))) (J5 fun f=>by
     simp only[SC];omega)
    have hio:=S6.own.tail.head;have i0:=J2 hio 0;have i1:=J2 hio 1;have i2:=J2 hio 2;simp only[List.getElem?_toArray,List.getElem?_cons_zero,List.getElem?_cons_succ] at i0 i1 i2;obtain⟨_,d1,d2,d3,_,_,_⟩:=J1n S6.own.head
    have fz:∀j,w3.frozen? ⟨b,j,none⟩=false:=fun j=>Jg S6.own.head j
    have hlt9:=Jf S6.own.head
    have S7:=hid ((S6.setJobItem di.kind di.text (.slice va2 vn2 vc2)).pick (l2:=l++(sl2++((b,Jk sb di.kind di.text (.slice va2 vn2 vc2) now key (.slice (some ⟨g,off,none⟩) m cap))::((b+1,J4)::r)))) (m:=(nb,Jb di.kind di.text (.slice va2 vn2 vc2))::sl') (J5 fun f=>by
     simp only[SC];omega))
    rw[hvn3.out] at hat2;have hat3:Hid (Jj (.slice va2 vn2 vc2) di.fs sl2):=hid (by rw[hvn3.out];exact hat2)
    clear hio S5 S6 hat2;cases hs with
    |true=>
     have hres3:Hid (T=J5r S now key (J7s di.fs (n+1) (ws.drop (k+1)))):=hid (by rw[hres2.out];rfl)
     go_wp2_with fail;go_roundw
     case rel=>exact⟨k+1,n+1,di.kind,di.text,.slice va2 vn2 vc2,di.fs,sl2,by go_num,rfl,by omega,by omega,by omega,hkd2,hok2,hkt2,hres3,hat3,S7⟩
     case measure=>simp[intOf];omega
    |false=>
     have hres3:Hid (T=J5r S now key (J7s di.fs n (ws.drop (k+1)))):=hid (by rw[hres2.out];simp)
     go_wp2_with fail;go_roundw
     case rel=>exact⟨k+1,n,di.kind,di.text,.slice va2 vn2 vc2,di.fs,sl2,by go_num,rfl,by omega,hn0,by omega,hkd2,hok2,hkt2,hres3,hat3,S7⟩
     case measure=>simp[intOf];omega
   ·have hge:¬(k:Int)<(m:Int):=by omega
    have hT2:Hid (T=J5r S now key (fs',n)):=hid (by
     rw[hres.out,List.drop_eq_nil_of_le (by rw[<-hm.out];omega)];rfl)
    have hend:Hid (∀(w':World) (l3:Hp) (a:Lf),J3 w0 [] w' (l3++(sl'++((b,Jk sb kd tx (.slice va nf vc) now key (.slice (some ⟨g,off,none⟩) m cap))::((b+1,J4)::r))))->J3 w0 [] _ (l3++r)):=hid fun w' l3 a h=>((h.permR (l2:=(b+1,J4)::(l3++r++(sl'++[(b,Jk sb kd tx (.slice va nf vc) now key (.slice (some ⟨g,off,none⟩) m cap))]))) (J5 fun f=>by
     simp only[SC];omega)).setLf a).less (List.sublist_append_left _ _)
    obtain⟨c0,c1,c2,c3,c4,c5,c6⟩:=J1n (S3.out.own.right.right.head)
    clear hres;by_cases hn:n=0
    ·subst hn
     have hT3:Hid (T=(S,Jm 0)):=hid hT2.out;have hv:=hid (J15 S3.out 0);replace hnf:=hid hnf;clear S3 hT2;go_wp2_with fail;refine hv.out.mono ?_;rintro e w5 ⟨rfl,S5⟩;obtain⟨⟨z0,hz0⟩,⟨z1,hz1⟩,⟨z2,hz2⟩,⟨z3,hz3⟩,⟨z4,hz4⟩,⟨z5,hz5⟩,fz,hlt9⟩:=Jl (S5.own.right.right.tail.head)
     have S9:=hid (hend.out w5 _ (Jm 0) S5);clear hv S5 hend c0 c1 c2 c3 c4 c5 c6;unfold J7;go_wp2_with fail;refine bodyPost_ret (v:=Ja (Jm 0)) (by simp[results,Tryz.results103,go_sem,J7,Ja,Jm, *]<;>rfl) rfl ?_
     rw[hT3.out];exact⟨rfl,_,hX,S9.out⟩
    ·have hnb:(n==0)=false:=by simpa using hn
     by_cases h0:fs'.length=0
     ·have hT3:Hid (T=((S.due key now).gone key 2,Jm n)):=hid (by rw[hT2.out];simp only[J5r];rw[if_neg hn,if_pos h0])
      obtain rfl:nf=0:=by omega
      have hd:=hid (Jbn S3.out hG hX (by have:=hl;unfold St.load at this;omega) key hks now)
      replace h0:=hid h0;replace hnf:=hid hnf;clear S3 hT2;go_wp2_with fail;refine hd.out.mono ?_;rintro e w4 ⟨rfl,l4,hX4,S4⟩;have hv:=hid (J15 S4 n);clear S4 hd;go_wp2_with fail;refine hv.out.mono ?_;rintro e w5 ⟨rfl,S5⟩;obtain⟨⟨z0,hz0⟩,⟨z1,hz1⟩,⟨z2,hz2⟩,⟨z3,hz3⟩,⟨z4,hz4⟩,⟨z5,hz5⟩,fz,hlt9⟩:=Jl (S5.own.right.right.tail.head)
      have S9:=hid (hend.out w5 _ (Jm n) S5);clear hv S5 hend c0 c1 c2 c3 c4 c5 c6;unfold J7;go_wp2_with fail;refine bodyPost_ret (v:=Ja (Jm n)) (by simp[results,Tryz.results103,go_sem,J7,Ja,Jm, *]<;>rfl) rfl ?_
      rw[hT3.out];exact⟨rfl,_,hX4,S9.out⟩
     ·have hpos:0<fs'.length:=by omega
      obtain⟨rfl,rfl⟩:=hkt'.out hpos
      have hT3:Hid (T=J7f S now key (J3c fs') n):=hid (by rw[hT2.out];simp only[J5r];rw[if_neg hn,if_neg h0])
      have hne:¬nf=0:=by omega
      have hne2:¬(nf:Int)=0:=by omega
      have hne3:((nf:Int)==0)=false:=by simpa using hne2
      have hkc:=Jb7 (il:=sl') (kind':=2) (text':=ByteArray.empty) (v':=.slice va nf vc) (it:=J3c fs') S3.out hG hX hT hl key hks (.inl ⟨hok'.out.right hpos,hat'.out⟩) ⟨va,nf,vc,rfl⟩ now n (.slice (some ⟨g,off,none⟩) m cap);rw[<-hT3.out] at hkc;unfold Kz J6 at hkc;have hkc2:Hid (Calls Tryz.prog 162 #[.agg #[ptr sb,.int .i64 2,.string ByteArray.empty,.slice va nf vc,.int .i64 now,.string key,(.slice (some ⟨g,off,none⟩) m cap)],.agg #[.int .i64 2,.string ByteArray.empty,.slice va nf vc],.int .i64 n] wr (Jp w0 (sl'++((b,Jk sb 2 ByteArray.empty (.slice va nf vc) now key (.slice (some ⟨g,off,none⟩) m cap))::((b+1,J4)::r))) sb T.1 (Ja T.2))):=hid hkc;replace hnf:=hid hnf;clear hkc S3 hT2 hT3 h0 hpos;go_wp2_with fail;refine hkc2.out.mono ?_;rintro e w4 ⟨rfl,l4,hX4,S4⟩;have S9:=hid (hend.out w4 l4 T.2 S4);obtain⟨⟨z0,hz0⟩,⟨z1,hz1⟩,⟨z2,hz2⟩,⟨z3,hz3⟩,⟨z4,hz4⟩,⟨z5,hz5⟩,fz,hlt9⟩:=Jl (S4.own.right.right.tail.head)
      clear hkc2 S4 hend c0 c1 c2 c3 c4 c5 c6;unfold Ja J7;go_wp2_with fail;refine bodyPost_ret (v:=Ja T.2) (by simp[results,Tryz.results103,go_sem,J7,Ja, *]<;>rfl) rfl ?_
      exact⟨rfl,l4,hX4,S9.out⟩
def J81 (kd:Int):ByteArray:=if kd=0 then⟨#[110,111,110,101]⟩ else if kd=1 then⟨#[115,116,114,105,110,103]⟩ else⟨#[104,97,115,104]⟩
def J63 (kd:Int):Lf:=⟨1,J81 kd,0⟩
theorem Jtp (hS:J3 w0 [] w r) (kd:Int) (h:kd=0\/kd=1\/kd=2) (tx:ByteArray) (a:Option Addr) (n c:Nat):
 Calls Tryz.prog 61 #[.agg #[.int .i64 kd,.string tx,.slice a n c]] w (Kr w0 r (Ja (J63 kd))):=by
 have hS':=hid hS;clear hS;rcases h with rfl|rfl|rfl
 ·go_enter Tryz.func61,Tryz.ntmps61
  go_wp2_with fail;refine bodyPost_ret (v:=Ja (J63 0)) (by simp[results,Tryz.results61,go_sem,J7,Ja,J63,J81, *]<;>rfl) rfl ?_
  exact⟨rfl,(((hS'.out.alloc _).alloc _).alloc _).less ((List.sublist_cons_self _ _).trans ((List.sublist_cons_self _ _).trans (List.sublist_cons_self _ _)))⟩
 ·go_enter Tryz.func61,Tryz.ntmps61
  go_wp2_with fail;refine bodyPost_ret (v:=Ja (J63 1)) (by simp[results,Tryz.results61,go_sem,J7,Ja,J63,J81, *]<;>rfl) rfl ?_
  exact⟨rfl,(((hS'.out.alloc _).alloc _).alloc _).less ((List.sublist_cons_self _ _).trans ((List.sublist_cons_self _ _).trans (List.sublist_cons_self _ _)))⟩
 ·go_enter Tryz.func61,Tryz.ntmps61
  go_wp2_with fail;refine bodyPost_ret (v:=Ja (J63 2)) (by simp[results,Tryz.results61,go_sem,J7,Ja,J63,J81, *]<;>rfl) rfl ?_
  exact⟨rfl,(((hS'.out.alloc _).alloc _).alloc _).less ((List.sublist_cons_self _ _).trans ((List.sublist_cons_self _ _).trans (List.sublist_cons_self _ _)))⟩
def Joh (S:St) (now:Int) (key:ByteArray):St×Lf:=(S.due key now,J63 ((S.look key now).getD Jc).kind)
def Jog (S:St):St×Lf:=(S,Jm S.L.length)
theorem Jr2 (hf:Fit S) (key:ByteArray) (now:Int):((S.look key now).getD Jc).kind=0\/((S.look key now).getD Jc).kind=1\/((S.look key now).getD Jc).kind=2:=by
 cases h:S.look key now with
 |none=>exact .inl rfl
 |some it=>
  have hr:=((hf.due key now).key _ (J0v h)).2;rcases hr with⟨h1,_⟩|⟨h1,_⟩
  ·exact .inr (.inl h1)
  ·exact .inr (.inr h1)
theorem Jua {k:ByteArray} {ws:List ByteArray} (h:Ctx w0 w l r sb S g off (k::ws)) (now:Int) (hnow:0<=now/\now<=4611686018427387904) (cap:Nat):
 Calls Tryz.prog 26 #[ptr sb,.int .i64 now,.string ⟨#[84,89,80,69]⟩,.slice (some ⟨g,off,none⟩) (k::ws).length cap] w (Jp w0 r sb (Joh S now k).1 (Ja (Joh S now k).2)):=by
 have hkd:=Jr2 h.fit k now;unfold St.look at hkd;have hS:=J5d (sb:=sb) (now:=now) h.st;have hG:=h.gl;have hX:=h.is;have hev:=h.ev;have hks:=h.args.small k (by simp)
 have hres:Joh S now k=(S.due k now,J63 ((Je (S.due k now).L k).getD Jc).kind):=rfl;generalize hb:w.heap.size=B at hS;obtain⟨R,hR⟩:∃R:Hp,R=J0b B sb now++r:=⟨_,rfl⟩
 rw[<-hR] at hS
 have hpk:∀(w':World) (x:Hp),Hid (J3 w0 [] w' (x++(l++R))->Calls Tryz.prog 13 #[ptr sb,.string k,.int .i64 now] w' (J5m w0 R x sb (S.due k now) ((Je (S.due k now).L k).getD Jc).kind ((Je (S.due k now).L k).getD Jc).text (Je (S.due k now).L k).isSome ((Je (S.due k now).L k).getD Jc).fs)):=fun w' x=>hid fun hw=>
  (Jak (hw.permR (l2:=l++(x++R)) (J5 fun f=>by simp only[SC];omega)) hG hX (by omega) k hks now).mono fun _ _ hp=>.of hp
 generalize ((Je (S.due k now).L k).getD Jc).kind=kd at hpk hkd hres;generalize ((Je (S.due k now).L k).getD Jc).text=tx at hpk;generalize (Je (S.due k now).L k).isSome=is at hpk;generalize ((Je (S.due k now).L k).getD Jc).fs=fs at hpk;generalize S.due k now=S2 at hpk hres
 have har:Hid (∀w',InX w0 R w'->w'.cell? ⟨B,0,none⟩=some (ptr sb)/\w'.cell? ⟨B+1,0,none⟩=some (.int .i64 now)/\w'.cell? ⟨g,off,none⟩=some (.string k)):=hid fun w' ⟨X,hX'⟩=>by
  rw[hR] at hX';exact⟨(J5t hX').a0,(J5t hX').a1,h.args.at_ w' (X++J0b B sb now) (by rw[List.append_assoc];exact hX') 0 k rfl⟩
 have hn:0<(k::ws).length:=by simp only[List.length_cons];omega
 generalize (k::ws).length=n at hn⊢;have hn1:(0:Int)<(n:Int):=by omega
 replace hb:=hid hb;replace hS:=hid hS;replace hR:=hid hR;replace hnow:=hid hnow;replace hres:=hid hres;replace hkd:=hid hkd;clear h hX hev hks hG;go_enter Tryz.func26,Tryz.ntmps26;go_wp2_with fail;rw[hb.out];generalize hw1:((w.alloc _).alloc _).alloc _=w1;replace hS:J3 w0 [] w1 _:=hw1▸hS.out;clear hw1;have hs1:Hid (J3 w0 [] w1.drew ([]++(l++R))):=hid hS.drew;have hs2:Hid (∀o:Obj,J3 w0 [] (w1.alloc o).drew ([(w1.heap.size,o)]++(l++R))):=hid fun o=>(hS.alloc o).drew
 have hx1:Hid (InX w0 R w1.drew):=hid ⟨l,hS.drew⟩;have hkeep:Hid (∀w',Hid (InX w0 R w')->w'.cell? ⟨B,0,none⟩=some (ptr sb)/\w'.cell? ⟨B+1,0,none⟩=some (.int .i64 now)/\w'.cell? ⟨g,off,none⟩=some (.string k)/\Hid (InX w0 R w')):=hid fun w' hx=>⟨(har.out w' hx.out).1,(har.out w' hx.out).2.1,(har.out w' hx.out).2.2,hx⟩
 clear hS har;go_cut [10,11] (fun s10 s11 wc=>∃nb va vn vc vl l2,s10= .pointer (some ⟨nb,0,none⟩)/\s11= .bool is/\Hid (Jh l2 sb S2)/\Hid (J3 w0 [] wc ((nb,Jb kd tx (.slice va vn vc))::(l2++(vl++R)))))
 case first=>
  go_region_held3 (fun w'=>w'.cell? ⟨B,0,none⟩=some (ptr sb)/\w'.cell? ⟨B+1,0,none⟩=some (.int .i64 now)/\w'.cell? ⟨g,off,none⟩=some (.string k)/\Hid (InX w0 R w'))
   (first|(with_reducible exact hkeep.out _ hx1)|(with_reducible exact hkeep.out _ (hset.out _ _ _))|(with_reducible exact hkeep.out _ (by assumption))|(with_reducible exact hkeep.out _ (InX.alloc (by assumption) _))|(with_reducible exact hkeep.out _ (InX.drew (InX.alloc (by assumption) _)))|(fail "keep"))
   (first|(go_at_call 13;refine((hpk _ _).out hs1.out).mono ?_;rintro e w2 ⟨va,vn,vc,vl,l2,rfl,hat,hX2,S2',hx2⟩)|(go_at_call 13;refine((hpk _ _).out (hs2.out _)).mono ?_;rintro e w2 ⟨va,vn,vc,vl,l2,rfl,hat,hX2,S2',hx2⟩;obtain⟨z0,z1,z2,zf⟩:=Jn S2'.out.own.head;have zl:=Jf S2'.out.own.head;have hset:Hid (∀v0 v1 v2,_):=hid fun v0 v1 v2=>InX.set3 (A:=l2++vl) (by rw[List.append_assoc];exact S2'.out) v0 v1 v2))
  all_goals (
   go_wp2_with fail;go_meet
   first|exact⟨_,va,vn,vc,vl,l2,rfl,rfl,hX2,hid (S2'.out.alloc _)⟩|exact⟨_,va,vn,vc,vl,l2,rfl,rfl,hX2,hid (((S2'.out.set 0 _).set 1 _).set 2 _)⟩)
 case rest=>
  obtain⟨ib,va,vn,vc,vl,l3,rfl,rfl,hX3,S12⟩:=hcut
  clear hpk hs1 hs2 hx1 hkeep;have i0:=J2 S12.out.own.head 0;have i1:=J2 S12.out.own.head 1;have i2:=J2 S12.out.own.head 2;simp only[List.getElem?_toArray,List.getElem?_cons_zero,List.getElem?_cons_succ] at i0 i1 i2;rw[hR.out] at S12;have hthen:=hid (Jtp (S12.out.permR (l2:=(B+1+1,J4)::(l3++r++[(B+1,.cells #[.int .i64 now] 2 (0,0)),(B,.cells #[ptr sb] 29 (0,0))]++(vl++[(ib,Jb kd tx (.slice va vn vc))]))) (J5 fun f=>by simp only[SC];omega)) kd hkd.out tx va vn vc)
  clear S12;obtain⟨kt,hkt⟩:∃kt,kt=J81 kd:=⟨_,rfl⟩
  have hlk:J63 kd=⟨1,kt,0⟩:=by rw[hkt];rfl
  rw[hlk] at hthen hres;unfold Ja J7 at hthen;replace hkt:=hid hkt;replace hlk:=hid hlk;go_wp2_with fail;refine hthen.out.mono ?_;rintro e w10 ⟨rfl,S12⟩;obtain⟨⟨c0,hc0⟩,⟨c1,hc1⟩,⟨c2,hc2⟩,⟨c3,hc3⟩,⟨c4,hc4⟩,⟨c5,hc5⟩,fz,hlt⟩:=J0d S12.own
  have S13:=hid (J4i (o:=J4) ((S12.setLf ⟨1,kt,0⟩).less (List.sublist_append_left _ _)));clear S12 hthen i0 i1 i2;go_wp2_with fail;refine bodyPost_ret (v:=Ja ⟨1,kt,0⟩) (by simp[results,Tryz.results26,go_sem,J7,Ja, *]<;>rfl) rfl ?_
  rw[hres.out];exact⟨rfl,l3,hX3.out,S13.out⟩
theorem Jmy {ws:List ByteArray} (h:Ctx w0 w l r sb S g off ws) (now:Int) (hnow:0<=now/\now<=4611686018427387904) (cap:Nat):
 Calls Tryz.prog 26 #[ptr sb,.int .i64 now,.string ⟨#[68,66,83,73,90,69]⟩,.slice (some ⟨g,off,none⟩) ws.length cap] w (Jp w0 r sb (Jog S).1 (Ja (Jog S).2)):=by
 have hS:=J5d (sb:=sb) (now:=now) h.st;have hX:=h.is;generalize ws.length=n;generalize hb:w.heap.size=B at hS;replace hb:=hid hb;replace hS:=hid hS;replace hnow:=hid hnow;clear h;go_enter Tryz.func26,Tryz.ntmps26;go_upto_region 2 with fail;rw[hb.out];generalize hw1:((w.alloc _).alloc _).alloc _=w1;replace hS:J3 w0 [] w1 _:=hw1▸hS.out;clear hw1;obtain⟨a0,a1⟩:=J5t hS
 obtain⟨m,rfl,hok,hf⟩:=hX
 have s0:=(K1 hS.own).c0;have htl:=Jlj m.tl m.tb m.M 0 w1 hok.tab (SM.ownT hS.own)
 have hM:m.M.length=S.L.length:=by
  rw[hok.num.length_eq,hok.cells,List.length_map,List.length_map]
 rw[hM] at htl;obtain⟨nn,hnn⟩:∃nn,nn=S.L.length:=⟨_,rfl⟩
 rw[<-hnn] at htl;have hres:Hid (Jog S=(S,Jm nn)):=hid (by rw[hnn];rfl)
 have hX2:Hid (Jh (m.hp sb (Jd S.L) S.bud) sb S):=hid ⟨m,rfl,hok,hf⟩;replace htl:=hid htl;replace hnn:=hid hnn;replace hS:=hid hS;clear a1 hok hf hM;go_wp2_with fail;refine htl.out.mono ?_;rintro e w8 ⟨rfl,nd,rfl⟩;have hthen:=hid (J15 (J5e (hS.out.drewN nd)) (nn:Int));clear htl;go_wp2_with fail;refine hthen.out.mono ?_;rintro e w9 ⟨rfl,S12⟩;obtain⟨⟨c0,hc0⟩,⟨c1,hc1⟩,⟨c2,hc2⟩,⟨c3,hc3⟩,⟨c4,hc4⟩,⟨c5,hc5⟩,fz,hlt⟩:=J0d S12.own
 have S13:=hid (J4i (o:=J4) (S12.setLf (Jm nn)));clear S12 hthen hS s0 a0;unfold Ja J7;go_wp2_with fail;refine bodyPost_ret (v:=Ja (Jm nn)) (by simp[results,Tryz.results26,go_sem,J7,Ja,lfYes,Jm,J44, *]<;>rfl) rfl ?_
 rw[hres.out];exact⟨rfl,_,hX2.out,S13.out⟩
def J0s (f:St->ByteArray->St×Bool):St->Int->List ByteArray->St×Int
 |S,n,[]=>(S,n)
 |S,n,k::l=>J0s f (f S k).1 (n+if(f S k).2 then 1 else 0) l
def J3w (now:Int) (S:St) (k:ByteArray):St×Bool:=((S.due k now).gone k 2,(Je (S.due k now).L k).isSome)
def J20 (now:Int) (S:St) (k:ByteArray):St×Bool:=(S.due k now,(Je (S.due k now).L k).isSome)
abbrev Jpi (B sb:Nat):Nat×Obj:=(B,.cells #[ptr sb] 29 (0,0))
abbrev Jph (B:Nat) (now:Int):Nat×Obj:=(B,.cells #[.int .i64 now] 2 (0,0))
theorem Jy8 (hS:J3 w0 [] w (l++r)) (hG:J17 w0) (hX:Jh l sb S) (hev:S.ev.length<=1099511627776) (h0:Jpi B sb∈r) (h1:Jph (B+1) now∈r) (k:ByteArray) (hk:k.size<=1099511627776):
 Calls Tryz.prog 53 #[.string k,ptr B,ptr (B+1)] w (Jp w0 r sb (J3w now S k).1 (.bool (J3w now S k).2)):=by
 have c0:w.cell? ⟨B,0,none⟩=some (ptr sb):=J2 (hS.own.right.at_ _ h0) 0;have c1:w.cell? ⟨B+1,0,none⟩=some (.int .i64 now):=J2 (hS.own.right.at_ _ h1) 0;have hd:=Jbn hS hG hX (by omega) k hk now
 unfold J3w;simp only
 generalize (S.due k now).gone k 2=S2 at hd⊢;generalize (Je (S.due k now).L k).isSome=is at hd⊢;replace hd:=hid hd;clear hS hX hev h0 h1 hG;go_enter Tryz.func53,Tryz.ntmps53;go_wp2_with fail;refine hd.out.mono ?_;rintro e w2 ⟨rfl,l2,hX2,S3⟩;have hfin:=hid (show Jh l2 sb S2/\J3 w0 [] w2 (l2++r) from⟨hX2,S3⟩);clear hd hX2 S3;go_wp2_with fail;go_ret;exact⟨rfl,l2,hfin.out.1,hfin.out.2⟩
theorem Jvi (hS:J3 w0 [] w (l++r)) (hG:J17 w0) (hX:Jh l sb S) (hev:S.ev.length<=1099511627776) (h0:Jpi B sb∈r) (h1:Jph (B+1) now∈r) (k:ByteArray) (hk:k.size<=1099511627776):
 Calls Tryz.prog 55 #[.string k,ptr B,ptr (B+1)] w (Jp w0 r sb (J20 now S k).1 (.bool (J20 now S k).2)):=by
 have c0:w.cell? ⟨B,0,none⟩=some (ptr sb):=J2 (hS.own.right.at_ _ h0) 0;have c1:w.cell? ⟨B+1,0,none⟩=some (.int .i64 now):=J2 (hS.own.right.at_ _ h1) 0;have hd:=(Jak hS hG hX (by omega) k hk now).mono fun _ _ hp=>J5m.of (x:=[]) (R:=r) hp
 unfold J20;simp only
 generalize ((Je (S.due k now).L k).getD Jc).kind=kd at hd;generalize ((Je (S.due k now).L k).getD Jc).text=tx at hd;generalize ((Je (S.due k now).L k).getD Jc).fs=fs at hd;generalize (Je (S.due k now).L k).isSome=is at hd⊢;generalize S.due k now=S2 at hd⊢;replace hd:=hid hd;clear hS hX hev h0 h1 hG;go_enter Tryz.func55,Tryz.ntmps55;go_wp2_with fail;refine hd.out.mono ?_;rintro e w2 ⟨va,vn,vc,vl,l2,rfl,_,hX2,S3,_⟩
 have hfin:=hid ((S3.out.alloc (Jb kd tx (.slice va vn vc))).pick (l2:=l2++r) (m:=(w2.heap.size,Jb kd tx (.slice va vn vc))::vl) (J5 fun f=>by
  simp only[SC];omega))
 clear hd S3;go_wp2_with fail;go_ret;exact⟨rfl,l2,hX2.out,hfin.out⟩
theorem Jfq {ws:List ByteArray} (hS:J3 w0 [] w (l++r)) (hG:J17 w0) (hX:Jh l sb S) (hl:S.load<=1000000000000) (ha:J2h w0 r g off ws) (hfew:ws.length<=1000) (h0:Jpi B sb∈r) (h1:Jph (B+1) now∈r) (cap:Nat):
 Calls Tryz.prog 52 #[.slice (some ⟨g,off,none⟩) ws.length cap,.func (.func 53) #[] #[ptr B,ptr (B+1)]] w (Jp w0 r sb (J0s (J3w now) S 0 ws).1 (Ja (Jm (J0s (J3w now) S 0 ws).2))):=by
 have S1:=hS.alloc J4;obtain⟨m,hm⟩:∃m,m=ws.length:=⟨_,rfl⟩
 rw[<-hm] at hfew⊢;replace hm:=hid hm;obtain⟨T,hT⟩:∃T,T=J0s (J3w now) S 0 ws:=⟨_,rfl⟩
 rw[<-hT];replace hT:=hid hT;have hX0:=hid hX;have hl0:=hid hl;obtain⟨b,hb⟩:∃b,b=w.heap.size:=⟨_,rfl⟩
 rw[<-hb] at S1;obtain⟨R,hR⟩:∃R:Hp,R=(b,J4)::r:=⟨_,rfl⟩
 have S2:Hid (J3 w0 [] _ (l++R)):=hid (S1.permR (J5 fun f=>by rw[hR];simp only[SC];omega))
 have hq0:Jpi B sb∈R:=by rw[hR];exact List.mem_cons_of_mem _ h0
 have hq1:Jph (B+1) now∈R:=by rw[hR];exact List.mem_cons_of_mem _ h1
 have hqa:Hid (J2h w0 R g off ws):=hid (by rw[hR];exact ha.more (x:=[(b,J4)]))
 have hend:Hid (∀(w':World) (l3:Hp),J3 w0 [] w' (l3++R)->J3 w0 [] w' ((b,J4)::(l3++r))):=hid fun w' l3 h=>h.permR (J5 fun f=>by rw[hR];simp only[SC];omega)
 replace hb:=hid hb;clear S1 hS hX hl h0 h1 hR ha;go_enter Tryz.func52,Tryz.ntmps52;go_wp2_with fail;rw[<-hb.out];generalize hw1:w.alloc _=w1;replace S2:Hid (J3 w0 [] w1 (l++R)):=hid (hw1▸S2.out);clear hw1;go_loopw [5,7,10] (fun s5 s7 s10 wr=>∃(k:Nat) (n:Int) (S':St) (l':Hp),s10= .int .i64 k/\s5= .int .i64 n/\k<=m/\0<=n/\n<=k/\Hid (T=J0s (J3w now) S' n (ws.drop k))/\Hid (Jh l' sb S')/\Hid (S'.load<=1000000000000)/\Hid (J3 w0 [] wr (l'++R))) (fun s5 s7 s10 wr=>(m - intOf s10).toNat)
 case atStart=>exact⟨0,0,S,l,rfl,rfl,Nat.zero_le _,Int.le_refl _,Int.le_refl _,hid hT.out,hX0,hl0,S2⟩
 case round=>
  obtain⟨k,n,S',l',rfl,rfl,hkm,hn0,hn1,hres,hX,hlo,S3⟩:=hrel
  clear S2 hX0 hl0 hT;by_cases hlt:k<m
  ·obtain⟨x,hx⟩:∃x,ws[k]? =some x:=⟨ws[k]'(by rw[<-hm.out];omega),List.getElem?_eq_getElem _⟩
   have hdrop:ws.drop k=x::ws.drop (k+1):=by
    rw[List.drop_eq_getElem_cons (by rw[<-hm.out];omega)]
    rw[(List.getElem?_eq_some_iff.1 hx).2]
   have hres2:=hres.out;rw[hdrop,J0s] at hres2;have hfit:Fit S':=by obtain⟨_,_,_,hf⟩:=hX.out;exact hf
   have hlo2:(J3w now S' x).1.load<=1000000000000:=by show((_:St).gone _ _).load<=_;rw[St.load_gone (hfit.due x now),St.load_due hfit];exact hlo.out
   have ca:=hqa.out.at_ wr l' S3.out k x hx;have hsx:=hqa.out.small x (List.mem_of_getElem? hx);have hcl:=Jy8 (now:=now) S3.out hG hX.out (by have:=hlo.out;unfold St.load at this;omega) hq0 hq1 x hsx
   obtain⟨p,hp⟩:∃p,p=J3w now S' x:=⟨_,rfl⟩
   rw[<-hp] at hcl hres2 hlo2;obtain⟨S4,is⟩:=p
   simp only at hcl hres2 hlo2
   replace hcl:=hid hcl;replace hres2:=hid hres2;replace hlo2:=hid hlo2;replace hp:=hid hp;replace hx:=hid hx;replace hsx:=hid hsx;have hlt2:(k:Int)<(m:Int):=by omega
   have hb1:n+1<=9223372036854775807:=by omega
   clear hres hdrop hX hlo S3 hfit;cases is with
   |true=>
    go_wp2_with fail;refine hcl.out.mono ?_;rintro e w3 ⟨rfl,l3,hX3,S5⟩;replace hX3:=hid hX3;replace S5:=hid S5;have hres3:Hid (T=J0s (J3w now) S4 (n+1) (ws.drop (k+1))):=hid (by rw[hres2.out];rfl)
    clear hcl ca hres2;go_wp2_with fail;go_roundw
    case rel=>exact⟨k+1,n+1,S4,l3,by go_num,rfl,hlt,by omega,by omega,hres3,hX3,hlo2,S5⟩
    case measure=>simp[intOf];omega
   |false=>
    go_wp2_with fail;refine hcl.out.mono ?_;rintro e w3 ⟨rfl,l3,hX3,S5⟩;replace hX3:=hid hX3;replace S5:=hid S5;have hres3:Hid (T=J0s (J3w now) S4 n (ws.drop (k+1))):=hid (by rw[hres2.out];simp)
    clear hcl ca hres2;go_wp2_with fail;go_roundw
    case rel=>exact⟨k+1,n,S4,l3,by go_num,rfl,hlt,hn0,by omega,hres3,hX3,hlo2,S5⟩
    case measure=>simp[intOf];omega
  ·have hge:¬(k:Int)<(m:Int):=by omega
   have hres2:Hid (T=(S',n)):=hid (by rw[hres.out,List.drop_eq_nil_of_le (by rw[<-hm.out];omega)];rfl)
   have hv:=hid (J15 (hend.out wr l' S3.out) n);clear hres S3 hlo;go_wp2_with fail;refine hv.out.mono ?_;rintro e w3 ⟨rfl,S5⟩;obtain⟨⟨c0,hc0⟩,⟨c1,hc1⟩,⟨c2,hc2⟩,⟨c3,hc3⟩,⟨c4,hc4⟩,⟨c5,hc5⟩,fz,hlt9⟩:=J0d S5.own
   have S6:=hid (S5.setLf (Jm n));clear S5 hv;unfold J7;go_wp2_with fail;refine bodyPost_ret (v:=Ja (Jm n)) (by simp[results,Tryz.results52,go_sem,J7,Ja,Jm, *]<;>rfl) rfl ?_
   rw[hres2.out];exact⟨rfl,l',hX.out,S6.out⟩
theorem Jj4 {ws:List ByteArray} (hS:J3 w0 [] w (l++r)) (hG:J17 w0) (hX:Jh l sb S) (hl:S.load<=1000000000000) (ha:J2h w0 r g off ws) (hfew:ws.length<=1000) (h0:Jpi B sb∈r) (h1:Jph (B+1) now∈r) (cap:Nat):
 Calls Tryz.prog 52 #[.slice (some ⟨g,off,none⟩) ws.length cap,.func (.func 55) #[] #[ptr B,ptr (B+1)]] w (Jp w0 r sb (J0s (J20 now) S 0 ws).1 (Ja (Jm (J0s (J20 now) S 0 ws).2))):=by
 have S1:=hS.alloc J4;obtain⟨m,hm⟩:∃m,m=ws.length:=⟨_,rfl⟩
 rw[<-hm] at hfew⊢;replace hm:=hid hm;obtain⟨T,hT⟩:∃T,T=J0s (J20 now) S 0 ws:=⟨_,rfl⟩
 rw[<-hT];replace hT:=hid hT;have hX0:=hid hX;have hl0:=hid hl;obtain⟨b,hb⟩:∃b,b=w.heap.size:=⟨_,rfl⟩
 rw[<-hb] at S1;obtain⟨R,hR⟩:∃R:Hp,R=(b,J4)::r:=⟨_,rfl⟩
 have S2:Hid (J3 w0 [] _ (l++R)):=hid (S1.permR (J5 fun f=>by rw[hR];simp only[SC];omega))
 have hq0:Jpi B sb∈R:=by rw[hR];exact List.mem_cons_of_mem _ h0
 have hq1:Jph (B+1) now∈R:=by rw[hR];exact List.mem_cons_of_mem _ h1
 have hqa:Hid (J2h w0 R g off ws):=hid (by rw[hR];exact ha.more (x:=[(b,J4)]))
 have hend:Hid (∀(w':World) (l3:Hp),J3 w0 [] w' (l3++R)->J3 w0 [] w' ((b,J4)::(l3++r))):=hid fun w' l3 h=>h.permR (J5 fun f=>by rw[hR];simp only[SC];omega)
 replace hb:=hid hb;clear S1 hS hX hl h0 h1 hR ha;go_enter Tryz.func52,Tryz.ntmps52;go_wp2_with fail;rw[<-hb.out];generalize hw1:w.alloc _=w1;replace S2:Hid (J3 w0 [] w1 (l++R)):=hid (hw1▸S2.out);clear hw1;go_loopw [5,7,10] (fun s5 s7 s10 wr=>∃(k:Nat) (n:Int) (S':St) (l':Hp),s10= .int .i64 k/\s5= .int .i64 n/\k<=m/\0<=n/\n<=k/\Hid (T=J0s (J20 now) S' n (ws.drop k))/\Hid (Jh l' sb S')/\Hid (S'.load<=1000000000000)/\Hid (J3 w0 [] wr (l'++R))) (fun s5 s7 s10 wr=>(m - intOf s10).toNat)
 case atStart=>exact⟨0,0,S,l,rfl,rfl,Nat.zero_le _,Int.le_refl _,Int.le_refl _,hid hT.out,hX0,hl0,S2⟩
 case round=>
  obtain⟨k,n,S',l',rfl,rfl,hkm,hn0,hn1,hres,hX,hlo,S3⟩:=hrel
  clear S2 hX0 hl0 hT;by_cases hlt:k<m
  ·obtain⟨x,hx⟩:∃x,ws[k]? =some x:=⟨ws[k]'(by rw[<-hm.out];omega),List.getElem?_eq_getElem _⟩
   have hdrop:ws.drop k=x::ws.drop (k+1):=by
    rw[List.drop_eq_getElem_cons (by rw[<-hm.out];omega)]
    rw[(List.getElem?_eq_some_iff.1 hx).2]
   have hres2:=hres.out;rw[hdrop,J0s] at hres2;have hfit:Fit S':=by obtain⟨_,_,_,hf⟩:=hX.out;exact hf
   have hlo2:(J20 now S' x).1.load<=1000000000000:=by show(St.due _ _ _).load<=_;rw[St.load_due hfit];exact hlo.out
   have ca:=hqa.out.at_ wr l' S3.out k x hx;have hsx:=hqa.out.small x (List.mem_of_getElem? hx);have hcl:=Jvi (now:=now) S3.out hG hX.out (by have:=hlo.out;unfold St.load at this;omega) hq0 hq1 x hsx
   obtain⟨p,hp⟩:∃p,p=J20 now S' x:=⟨_,rfl⟩
   rw[<-hp] at hcl hres2 hlo2;obtain⟨S4,is⟩:=p
   simp only at hcl hres2 hlo2
   replace hcl:=hid hcl;replace hres2:=hid hres2;replace hlo2:=hid hlo2;replace hp:=hid hp;replace hx:=hid hx;replace hsx:=hid hsx;have hlt2:(k:Int)<(m:Int):=by omega
   have hb1:n+1<=9223372036854775807:=by omega
   clear hres hdrop hX hlo S3 hfit;cases is with
   |true=>
    go_wp2_with fail;refine hcl.out.mono ?_;rintro e w3 ⟨rfl,l3,hX3,S5⟩;replace hX3:=hid hX3;replace S5:=hid S5;have hres3:Hid (T=J0s (J20 now) S4 (n+1) (ws.drop (k+1))):=hid (by rw[hres2.out];rfl)
    clear hcl ca hres2;go_wp2_with fail;go_roundw
    case rel=>exact⟨k+1,n+1,S4,l3,by go_num,rfl,hlt,by omega,by omega,hres3,hX3,hlo2,S5⟩
    case measure=>simp[intOf];omega
   |false=>
    go_wp2_with fail;refine hcl.out.mono ?_;rintro e w3 ⟨rfl,l3,hX3,S5⟩;replace hX3:=hid hX3;replace S5:=hid S5;have hres3:Hid (T=J0s (J20 now) S4 n (ws.drop (k+1))):=hid (by rw[hres2.out];simp)
    clear hcl ca hres2;go_wp2_with fail;go_roundw
    case rel=>exact⟨k+1,n,S4,l3,by go_num,rfl,hlt,hn0,by omega,hres3,hX3,hlo2,S5⟩
    case measure=>simp[intOf];omega
  ·have hge:¬(k:Int)<(m:Int):=by omega
   have hres2:Hid (T=(S',n)):=hid (by rw[hres.out,List.drop_eq_nil_of_le (by rw[<-hm.out];omega)];rfl)
   have hv:=hid (J15 (hend.out wr l' S3.out) n);clear hres S3 hlo;go_wp2_with fail;refine hv.out.mono ?_;rintro e w3 ⟨rfl,S5⟩;obtain⟨⟨c0,hc0⟩,⟨c1,hc1⟩,⟨c2,hc2⟩,⟨c3,hc3⟩,⟨c4,hc4⟩,⟨c5,hc5⟩,fz,hlt9⟩:=J0d S5.own
   have S6:=hid (S5.setLf (Jm n));clear S5 hv;unfold J7;go_wp2_with fail;refine bodyPost_ret (v:=Ja (Jm n)) (by simp[results,Tryz.results52,go_sem,J7,Ja,Jm, *]<;>rfl) rfl ?_
   rw[hres2.out];exact⟨rfl,l',hX.out,S6.out⟩
end Go.Proofs.YtncbcaabanoeoaaGreatDoor
