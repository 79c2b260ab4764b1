/-
exec.own, at DEL, UNLINK, EXISTS (printed by gen_own3.py; for a seat of exec).
-/
import Derived.Test.YtncbcaabanoeoaaGreatDoorQ38
import Derived.Test.YtncbcaabanoeoaaGreatDoorQ39
import Derived.Test.YtncbcaabanoeoaaGreatDoorQ40
import Derived.Test.YtncbcaabanoeoaaGreatDoorQ41
set_option linter.unusedVariables false
set_option linter.unusedSimpArgs false
set_option maxRecDepth 100000
set_option maxHeartbeats 8000000
namespace Go.Proofs.YtncbcaabanoeoaaGreatDoor
open Go Go.RowKit
variable {w0 w:World}{l r:Hp}{sb g off:Nat}{S:St}{c:ByteArray}
def Jjb (S:St) (now:Int) (ws:List ByteArray):St×Lf:=((J0s (J3w now) S 0 ws).1,Jm (J0s (J3w now) S 0 ws).2)
def Jd4 (S:St) (now:Int) (ws:List ByteArray):St×Lf:=((J0s (J20 now) S 0 ws).1,Jm (J0s (J20 now) S 0 ws).2)
theorem Jwx {ws:List ByteArray} (h:Ctx w0 w l r sb S g off ws) (now:Int) (hnow:0<=now/\now<=4611686018427387904) (cap:Nat) (hfew:ws.length<=1000):
 Calls Tryz.prog 26 #[ptr sb,.int .i64 now,.string ⟨#[68,69,76]⟩,.slice (some ⟨g,off,none⟩) ws.length cap] w (Jp w0 r sb (Jjb S now ws).1 (Ja (Jjb S now ws).2)):=by
 have hS:=J5d (sb:=sb) (now:=now) h.st;have hG:=h.gl;have hX:=h.is;have hl:=h.load;generalize hb:w.heap.size=B at hS;have ha:J2h w0 (J0b B sb now++r) g off ws:=h.args.more;obtain⟨T,hT⟩:∃T,T=Jjb S now ws:=⟨_,rfl⟩
 rw[<-hT];have hcnt:∀w',J3 w0 [] w' (l++(J0b B sb now++r))->Hid _:=fun w' hS=>hid (Jfq (B:=B) (now:=now) hS hG hX hl ha hfew (by simp) (by simp) cap)
 have hT1:T=((J0s (J3w now) S 0 ws).1,Jm (J0s (J3w now) S 0 ws).2):=hT;generalize J0s (J3w now) S 0 ws=p at hcnt hT1;obtain⟨S2,n2⟩:=p
 simp only at hcnt hT1
 generalize ws.length=n at hcnt⊢;replace hb:=hid hb;replace hS:=hid hS;replace hnow:=hid hnow;replace hT1:=hid hT1;clear h ha hfew hX hl hT;go_enter Tryz.func26,Tryz.ntmps26;go_upto_region 2 with fail;rw[hb.out];generalize hw1:((w.alloc _).alloc _).alloc _=w1;replace hS:J3 w0 [] w1 _:=hw1▸hS.out;clear hw1;have hc:=hcnt w1 hS;clear hcnt hS;go_wp2_with fail;refine hc.out.mono ?_;rintro e w8 ⟨rfl,l3,hX3,S11⟩;replace hX3:=hid hX3;have S12:=J5e S11;clear S11;obtain⟨⟨c0,hc0⟩,⟨c1,hc1⟩,⟨c2,hc2⟩,⟨c3,hc3⟩,⟨c4,hc4⟩,⟨c5,hc5⟩,fz,hlt⟩:=J0d S12.own
 have S13:=hid (J4i (o:=J4) (S12.setLf (Jm n2)));clear S12 hc;unfold Ja J7;go_wp2_with fail;refine bodyPost_ret (v:=Ja (Jm n2)) (by simp[results,Tryz.results26,go_sem,J7,Ja,lfYes,Jm,J44, *]<;>rfl) rfl ?_
 rw[hT1.out];exact⟨rfl,l3,hX3.out,S13.out⟩
theorem Jn0 {ws:List ByteArray} (h:Ctx w0 w l r sb S g off ws) (now:Int) (hnow:0<=now/\now<=4611686018427387904) (cap:Nat) (hfew:ws.length<=1000):
 Calls Tryz.prog 26 #[ptr sb,.int .i64 now,.string ⟨#[85,78,76,73,78,75]⟩,.slice (some ⟨g,off,none⟩) ws.length cap] w (Jp w0 r sb (Jjb S now ws).1 (Ja (Jjb S now ws).2)):=by
 have hS:=J5d (sb:=sb) (now:=now) h.st;have hG:=h.gl;have hX:=h.is;have hl:=h.load;generalize hb:w.heap.size=B at hS;have ha:J2h w0 (J0b B sb now++r) g off ws:=h.args.more;obtain⟨T,hT⟩:∃T,T=Jjb S now ws:=⟨_,rfl⟩
 rw[<-hT];have hcnt:∀w',J3 w0 [] w' (l++(J0b B sb now++r))->Hid _:=fun w' hS=>hid (Jfq (B:=B) (now:=now) hS hG hX hl ha hfew (by simp) (by simp) cap)
 have hT1:T=((J0s (J3w now) S 0 ws).1,Jm (J0s (J3w now) S 0 ws).2):=hT;generalize J0s (J3w now) S 0 ws=p at hcnt hT1;obtain⟨S2,n2⟩:=p
 simp only at hcnt hT1
 generalize ws.length=n at hcnt⊢;replace hb:=hid hb;replace hS:=hid hS;replace hnow:=hid hnow;replace hT1:=hid hT1;clear h ha hfew hX hl hT;go_enter Tryz.func26,Tryz.ntmps26;go_upto_region 2 with fail;rw[hb.out];generalize hw1:((w.alloc _).alloc _).alloc _=w1;replace hS:J3 w0 [] w1 _:=hw1▸hS.out;clear hw1;have hc:=hcnt w1 hS;clear hcnt hS;go_wp2_with fail;refine hc.out.mono ?_;rintro e w8 ⟨rfl,l3,hX3,S11⟩;replace hX3:=hid hX3;have S12:=J5e S11;clear S11;obtain⟨⟨c0,hc0⟩,⟨c1,hc1⟩,⟨c2,hc2⟩,⟨c3,hc3⟩,⟨c4,hc4⟩,⟨c5,hc5⟩,fz,hlt⟩:=J0d S12.own
 have S13:=hid (J4i (o:=J4) (S12.setLf (Jm n2)));clear S12 hc;unfold Ja J7;go_wp2_with fail;refine bodyPost_ret (v:=Ja (Jm n2)) (by simp[results,Tryz.results26,go_sem,J7,Ja,lfYes,Jm,J44, *]<;>rfl) rfl ?_
 rw[hT1.out];exact⟨rfl,l3,hX3.out,S13.out⟩
theorem Jmz {ws:List ByteArray} (h:Ctx w0 w l r sb S g off ws) (now:Int) (hnow:0<=now/\now<=4611686018427387904) (cap:Nat) (hfew:ws.length<=1000):
 Calls Tryz.prog 26 #[ptr sb,.int .i64 now,.string ⟨#[69,88,73,83,84,83]⟩,.slice (some ⟨g,off,none⟩) ws.length cap] w (Jp w0 r sb (Jd4 S now ws).1 (Ja (Jd4 S now ws).2)):=by
 have hS:=J5d (sb:=sb) (now:=now) h.st;have hG:=h.gl;have hX:=h.is;have hl:=h.load;generalize hb:w.heap.size=B at hS;have ha:J2h w0 (J0b B sb now++r) g off ws:=h.args.more;obtain⟨T,hT⟩:∃T,T=Jd4 S now ws:=⟨_,rfl⟩
 rw[<-hT];have hcnt:∀w',J3 w0 [] w' (l++(J0b B sb now++r))->Hid _:=fun w' hS=>hid (Jj4 (B:=B) (now:=now) hS hG hX hl ha hfew (by simp) (by simp) cap)
 have hT1:T=((J0s (J20 now) S 0 ws).1,Jm (J0s (J20 now) S 0 ws).2):=hT;generalize J0s (J20 now) S 0 ws=p at hcnt hT1;obtain⟨S2,n2⟩:=p
 simp only at hcnt hT1
 generalize ws.length=n at hcnt⊢;replace hb:=hid hb;replace hS:=hid hS;replace hnow:=hid hnow;replace hT1:=hid hT1;clear h ha hfew hX hl hT;go_enter Tryz.func26,Tryz.ntmps26;go_upto_region 2 with fail;rw[hb.out];generalize hw1:((w.alloc _).alloc _).alloc _=w1;replace hS:J3 w0 [] w1 _:=hw1▸hS.out;clear hw1;have hc:=hcnt w1 hS;clear hcnt hS;go_wp2_with fail;refine hc.out.mono ?_;rintro e w8 ⟨rfl,l3,hX3,S11⟩;replace hX3:=hid hX3;have S12:=J5e S11;clear S11;obtain⟨⟨c0,hc0⟩,⟨c1,hc1⟩,⟨c2,hc2⟩,⟨c3,hc3⟩,⟨c4,hc4⟩,⟨c5,hc5⟩,fz,hlt⟩:=J0d S12.own
 have S13:=hid (J4i (o:=J4) (S12.setLf (Jm n2)));clear S12 hc;unfold Ja J7;go_wp2_with fail;refine bodyPost_ret (v:=Ja (Jm n2)) (by simp[results,Tryz.results26,go_sem,J7,Ja,lfYes,Jm,J44, *]<;>rfl) rfl ?_
 rw[hT1.out];exact⟨rfl,l3,hX3.out,S13.out⟩
def Jey:Sp:=⟨⟨#[72,83,69,84]⟩,2,4,64,1,1,1⟩
def Jno:Sp:=⟨⟨#[72,71,69,84]⟩,1,3,3,1,1,1⟩
def Ji9:Sp:=⟨⟨#[72,68,69,76]⟩,2,3,64,1,1,1⟩
def Jbq:Sp:=⟨⟨#[72,71,69,84,65,76,76]⟩,1,2,2,1,1,1⟩
def Jnp:Sp:=⟨⟨#[72,76,69,78]⟩,1,2,2,1,1,1⟩
def Jbp:Sp:=⟨⟨#[72,69,88,73,83,84,83]⟩,1,3,3,1,1,1⟩
def Jia:Sp:=⟨⟨#[72,77,71,69,84]⟩,1,3,64,1,1,1⟩
def J95:Sp:=⟨⟨#[72,73,78,67,82,66,89]⟩,2,4,4,1,1,1⟩
def Jxs:Sp:=⟨⟨#[68,69,76]⟩,2,2,64,1,(-1),1⟩
def Jl6:Sp:=⟨⟨#[85,78,76,73,78,75]⟩,2,2,64,1,(-1),1⟩
def Jl2:Sp:=⟨⟨#[69,88,73,83,84,83]⟩,1,2,64,1,(-1),1⟩
def Jz0:Sp:=⟨⟨#[84,89,80,69]⟩,1,2,2,1,1,1⟩
def Jv1:Sp:=⟨⟨#[68,66,83,73,90,69]⟩,1,1,1,0,0,0⟩
def Jyz:Sp:=⟨⟨#[80,84,84,76]⟩,1,2,2,1,1,1⟩
def Jzz:Sp:=⟨⟨#[84,84,76]⟩,1,2,2,1,1,1⟩
def Jgj:Sp:=⟨⟨#[80,69,82,83,73,83,84]⟩,2,2,2,1,1,1⟩
def Jnn:Sp:=⟨⟨#[70,76,85,83,72,65,76,76]⟩,2,1,1,0,0,0⟩
def Jv5:Sp:=⟨⟨#[73,78,67,82,66,89,70,76,79,65,84]⟩,2,3,3,1,1,1⟩
def Juk (S:St) (kd:Int) (xs:List Lf):Res:=⟨S,kd,ByteArray.empty,0,xs⟩
def J80 (S:St) (now:Int) (k:ByteArray):Bool:=((S.look k now).getD Jc).kind==1
def J71:List Sp:=[Jey,Jno,Ji9,Jbq,Jnp,Jbp,Jia,J95]
inductive Ran (S:St) (now:Int) (sp:Sp):List ByteArray->Res->Prop
 |get (h:sp=Jzy) (k:ByteArray):Ran S now sp ([k]) (J10 (Jz2 S now k))
 |set (h:sp=Jp6) (k m:ByteArray) (ws:List ByteArray):Ran S now sp (k::m::ws) (J10 (Jaq S now k m ws))
 |setnx (h:sp=Jp7) (k m:ByteArray):Ran S now sp ([k,m]) (J10 (tNx S now k m))
 |getset (h:sp=Jl4) (k m:ByteArray):Ran S now sp ([k,m]) (J10 (Jcm S now k m false))
 |getdel (h:sp=Jl3) (k:ByteArray):Ran S now sp ([k]) (J10 (Jcm S now k ByteArray.empty true))
 |mget (h:sp=Jyy) (k:ByteArray) (ws:List ByteArray):Ran S now sp (k::ws) (Juk (J4e S now (k::ws)).1 5 (J4e S now (k::ws)).2)
 |mset (h:sp=Jv4) (k:ByteArray) (ws:List ByteArray):Ran S now sp (k::ws) (J10 (J5k S now (k::ws)))
 |incr (h:sp=Jv3) (k:ByteArray):Ran S now sp ([k]) (J10 (Jcy S now k 1))
 |decr (h:sp=Jv2) (k:ByteArray):Ran S now sp ([k]) (J10 (Jcy S now k (-1)))
 |incrby (h:sp=Jl5) (k m:ByteArray):Ran S now sp ([k,m]) (J10 (J2t S now k m false))
 |decrby (h:sp=Jl1) (k m:ByteArray):Ran S now sp ([k,m]) (J10 (J2t S now k m true))
 |append_ (h:sp=Jl0) (k m:ByteArray):Ran S now sp ([k,m]) (J10 (Jp9 S now k m))
 |strlen (h:sp=Jv6) (k:ByteArray):Ran S now sp ([k]) (J10 (J9i S now k))
 |real (h:sp=Jv5) (k m:ByteArray) (T:St×Lf) (hT:Ja5 S now k T):Ran S now sp [k,m] (J10 T)
 |htext (h:sp∈J71) (k:ByteArray) (ws:List ByteArray) (ht:J80 S now k=true):Ran S now sp (k::ws) ⟨S.get k now,2,Jx 91,0,[]⟩
 |hset (h:sp=Jey) (k:ByteArray) (ws:List ByteArray) (ht:J80 S now k=false):Ran S now sp (k::ws) (J10 (J8r (S.get k now) now k ((S.look k now).getD Jc).fs ws))
 |hget (h:sp=Jno) (k m:ByteArray) (ht:J80 S now k=false):Ran S now sp ([k,m]) (J10 ((S.get k now),J2o ((S.look k now).getD Jc).fs m))
 |hdel (h:sp=Ji9) (k:ByteArray) (ws:List ByteArray) (ht:J80 S now k=false):Ran S now sp (k::ws) (J10 (J8q (S.get k now) now k ((S.look k now).getD Jc).fs ws))
 |hgetall (h:sp=Jbq) (k:ByteArray) (ht:J80 S now k=false):Ran S now sp ([k]) (Juk (S.get k now) 12 (J7o ((S.look k now).getD Jc).fs))
 |hlen (h:sp=Jnp) (k:ByteArray) (ht:J80 S now k=false):Ran S now sp ([k]) (J10 ((S.get k now),Jm ((S.look k now).getD Jc).fs.length))
 |hexists (h:sp=Jbp) (k m:ByteArray) (ht:J80 S now k=false):Ran S now sp ([k,m]) (J10 ((S.get k now),Jm (if has ((S.look k now).getD Jc).fs m then 1 else 0)))
 |hmget (h:sp=Jia) (k:ByteArray) (ws:List ByteArray) (ht:J80 S now k=false):Ran S now sp (k::ws) (Juk (S.get k now) 5 (ws.map (J2o ((S.look k now).getD Jc).fs)))
 |hincrby (h:sp=J95) (k m m2:ByteArray) (ht:J80 S now k=false):Ran S now sp ([k,m,m2]) (J10 (J5q (S.get k now) now k ((S.look k now).getD Jc).fs m m2))
 |del (h:sp=Jxs) (ws:List ByteArray):Ran S now sp ws (J10 (Jjb S now ws))
 |unlink (h:sp=Jl6) (ws:List ByteArray):Ran S now sp ws (J10 (Jjb S now ws))
 |exists_ (h:sp=Jl2) (ws:List ByteArray):Ran S now sp ws (J10 (Jd4 S now ws))
 |expire (h:sp=Jap) (k m:ByteArray):Ran S now sp [k,m] (J10 (J0f S now k m 1000))
 |pexpire (h:sp=Jgk) (k m:ByteArray):Ran S now sp [k,m] (J10 (J0f S now k m 1))
 |persist (h:sp=Jgj) (k:ByteArray):Ran S now sp [k] (J10 (Jac S now k))
 |ttl (h:sp=Jzz) (k:ByteArray):Ran S now sp [k] (J10 (Jw8 S now k))
 |pttl (h:sp=Jyz) (k:ByteArray):Ran S now sp [k] (J10 (Jof S now k))
 |type (h:sp=Jz0) (k:ByteArray):Ran S now sp [k] (J10 (Joh S now k))
 |flushall (h:sp=Jnn):Ran S now sp [] (J10 (Jm9 S))
 |dbsize (h:sp=Jv1):Ran S now sp [] (J10 (Jog S))
def Out (S:St) (now:Int) (ws:List ByteArray) (o:Res):Prop:=
 if(Ku ws).2=ByteArray.empty then(if J3h (Ku ws)=true then ∃c rest,ws=c::rest/\Ran S now (Ku ws).1 rest o else o=⟨S,2,J00,0,[]⟩) else o=⟨S,2,(Ku ws).2,0,[]⟩
def DOk (S:St):Prop:=∀p∈S.D,0<=p.2/\p.2<=4611686018427387904
theorem Jbx {ws:List ByteArray} {sp:Sp} (h:Ku (c::ws)=(sp,ByteArray.empty)):sp∈Ju/\sp.least<=(ws.length:Int)+1/\(ws.length:Int)+1<=sp.most:=by
 simp only[Ku] at h;cases hf:J5l c with
 |none=>rw[hf] at h;simp only[Prod.mk.injEq] at h;exact absurd h.2 (by decide)
 |some s=>
  rw[hf] at h;simp only at h
  split at h
  ·have h2:J1a++_=ByteArray.empty:=(Prod.mk.injEq _ _ _ _▸h).2
   have h3:=congrArg ByteArray.size h2;rw[ByteArray.size_append] at h3
   exact absurd h3 (by have:J1a.size=34:=by decide
                       rw[this];show 34+_≠0;omega)
  ·rename_i hn
   have h2:=(Prod.mk.injEq _ _ _ _▸h).1;subst h2;rw[List.length_cons] at hn;exact⟨(J98 hf).1,by omega,by omega⟩
theorem Jyn {l:List ByteArray} (h:l.length=0):l=[]:=List.eq_nil_of_length_eq_zero h
theorem Jqz {l:List ByteArray} (h:1<=l.length):∃a t,l=a::t:=by
 cases l with
 |nil=>simp at h
 |cons a t=>exact⟨a,t,rfl⟩
theorem J82 {l:List ByteArray} (h:l.length=1):∃a,l=[a]:=List.length_eq_one_iff.1 h
theorem K07 {l:List ByteArray} (h:2<=l.length):∃a b t,l=a::b::t:=by
 match l,h with
 |a::b::t,_=>exact⟨a,b,t,rfl⟩
theorem J9f {l:List ByteArray} (h:l.length=2):∃a b,l=[a,b]:=by
 match l,h with
 |[a,b],_=>exact⟨a,b,rfl⟩
theorem Jzs {l:List ByteArray} (h:l.length=3):∃a b c,l=[a,b,c]:=by
 match l,h with
 |[a,b,c],_=>exact⟨a,b,c,rfl⟩
theorem Jd6 (hf:Fit S) (k:ByteArray) (now:Int):J4h ((S.look k now).getD Jc).fs/\(J80 S now k=false->0<((S.look k now).getD Jc).fs.length->((S.look k now).getD Jc).kind=2/\((S.look k now).getD Jc).text=ByteArray.empty):=by
 unfold J80;cases h:S.look k now with
 |none=>exact⟨⟨by simp[Jc,J1z],by simp[Jc],by simp[Jc]⟩,fun _ h=>by simp[Jc] at h⟩
 |some it=>
  rcases((hf.due k now).key _ (J0v h)).2 with⟨h1,h2,h3⟩|⟨h1,h2,h3,h4,h5,h6⟩
  ·simp only[Option.getD_some]
   rw[h3];exact⟨⟨by simp[J1z],by simp,by simp⟩,fun _ h=>by simp at h⟩
  ·exact⟨⟨h3,h5,h6⟩,fun _ _=>⟨h1,h2⟩⟩
theorem DOk.del (h:DOk S) (k:ByteArray):∀p∈K3 S.D k,0<=p.2/\p.2<=4611686018427387904:=fun p hp=>h p (J6i.1 hp).1
theorem DOk.gone (h:DOk S) (k:ByteArray) (kind:Int):DOk (S.gone k kind):=by
 unfold St.gone;split
 ·exact h.del k
 ·exact h
theorem DOk.due (h:DOk S) (k:ByteArray) (now:Int):DOk (S.due k now):=by
 unfold St.due;split
 ·split
  ·exact h.gone k 3
  ·exact h
 ·exact h
section
variable {w0 w w':World} {vl l r R:Hp} {sb:Nat} {S:St} {P:Res->Prop} {e:Ending} {fs:Fs} {v:Value}
theorem Kr.fend {a:Lf} (hX:Jh l sb S) (hP:P (J10 (S,a))) (h:Kr w0 (vl++(l++R)) (Ja a) e w'):J2w w0 R sb P e w':=
 ⟨_,hP,none,0,[],l,h.1,.nil,hX,h.2.less (List.sublist_append_right _ _)⟩
theorem J50.fend {kd:Int} {xs:List Lf} (hX:Jh l sb S) (hP:P (Juk S kd xs)) (h:J50 w0 (vl++(l++R)) kd ByteArray.empty 0 xs e w'):J2w w0 R sb P e w':=by
 obtain⟨v,sl,he,h1,h2⟩:=h
 obtain⟨a,c,rfl⟩:=h1.shape
 exact⟨_,hP,a,c,sl,l,he,h1,hX,h2.pick (m:=vl) (J5 fun f=>by simp only[SC];omega)⟩
theorem Js9.fend {xs:List Lf} (hP:P (Juk S 5 xs)) (h:Js9 w0 R sb S 5 xs e w'):J2w w0 R sb P e w':=by
 obtain⟨v,vl,l',he,h1,h2,h3⟩:=h
 obtain⟨a,c,rfl,_⟩:=h1.form
 exact⟨_,hP,a,c,vl,l',he,h1,h2,h3⟩
theorem Jl9 {a b c:Hp} (h:J3 w0 [] w (a++(b++c))):J3 w0 [] w (b++(a++c)):=h.permR (J5 fun f=>by simp only[SC];omega)
end
abbrev Jb0:Nat:=9223372036854775807
theorem Jrv:∀s∈Ju,s.most<=64:=by decide
theorem Jut {ws:List ByteArray} (hF:Jau w0) (hD:DOk S) {sp:Sp} {now:Int} {cap:Nat} (H:KC w0 w l r sb S g off c ws sp now cap):KG w0 w r sb g off c ws now cap (Ran S now sp ws):=by
 obtain⟨hm,h1,h2⟩:=Jbx H.chk
 have hk:=H.keys;have hnow:=H.now_;have hcap:=H.cap_;have hcap2:=H.cap2;have hfew:=H.few;have hsm:=H.ctx.args.small;have hok:=fun k=>Jd6 H.ctx.fit k now
 have hT:=fun k=>Kx.get H.ctx.fit H.ctx.tight k now
 have hl:∀k,(S.get k now).load<=1000000000000:=fun k=>by rw[St.load_get H.ctx.fit];exact H.ctx.load
 simp only[Ju,List.mem_cons,List.not_mem_nil,or_false] at hm;rcases hm with rfl|rfl|rfl|rfl|rfl|rfl|rfl|rfl|rfl|rfl|rfl|rfl|rfl|rfl|rfl|rfl|rfl|rfl|rfl|rfl|rfl|rfl|rfl|rfl|rfl|rfl|rfl|rfl|rfl|rfl|rfl|rfl|rfl|rfl|rfl|rfl|rfl|rfl|rfl
 ·obtain⟨k,rfl⟩:=J82 (l:=ws) (by simp only at h1 h2;omega)
  exact H.text (.inr ⟨by kernel_rfl,.get rfl k⟩)
 ·obtain⟨k,m,ws,rfl⟩:=K07 (l:=ws) (by simp only at h1 h2;omega)
  exact H.text (.inl ⟨_,fun j=>#[j],List.mem_of_getElem? (i:=0) (by kernel_rfl),fun w' R C=>(Jp5 C now hnow (cap - 1) (by simp only[List.length_cons] at hcap⊢;omega) (by omega)).mono fun _ _ hp=>.leaf (.set rfl k m ws) hp⟩)
 ·obtain⟨k,m,rfl⟩:=J9f (l:=ws) (by simp only at h1 h2;omega)
  exact H.text (.inl ⟨_,fun j=>#[j],List.mem_of_getElem? (i:=1) (by kernel_rfl),fun w' R C=>(Jyq C now (cap - 1)).mono fun _ _ hp=>.leaf (.setnx rfl k m) hp⟩)
 ·obtain⟨k,m,rfl⟩:=J9f (l:=ws) (by simp only at h1 h2;omega)
  exact H.text (.inl ⟨_,fun j=>#[j,.bool false],List.mem_of_getElem? (i:=2) (by kernel_rfl),fun w' R C=>(Jla C now (cap - 1) m false (fun _=>⟨[],rfl⟩)).mono fun _ _ hp=>.leaf (.getset rfl k m) hp⟩)
 ·obtain⟨k,rfl⟩:=J82 (l:=ws) (by simp only at h1 h2;omega)
  exact H.text (.inl ⟨_,fun j=>#[j,.bool true],List.mem_of_getElem? (i:=3) (by kernel_rfl),fun w' R C=>(Jla C now (cap - 1) ByteArray.empty true (fun h=>by cases h)).mono fun _ _ hp=>.leaf (.getdel rfl k) hp⟩)
 ·obtain⟨k,ws,rfl⟩:=Jqz (l:=ws) (by simp only at h1 h2;omega)
  exact H.text (.inl ⟨_,fun j=>#[j],List.mem_of_getElem? (i:=4) (by kernel_rfl),fun w' R C=>(Jtz C (by simp only[List.length_cons] at hfew⊢;omega) now (cap - 1)).mono fun _ _ hp=>hp.fend (.mget rfl k ws)⟩)
 ·obtain⟨k,ws,rfl⟩:=Jqz (l:=ws) (by simp only at h1 h2;omega)
  exact H.text (.inl ⟨_,fun j=>#[j],List.mem_of_getElem? (i:=5) (by kernel_rfl),fun w' R C=>(Jre C (by simp only[List.length_cons] at hfew⊢;omega) now (cap - 1)).mono fun _ _ hp=>.leaf (.mset rfl k ws) hp⟩)
 ·obtain⟨k,rfl⟩:=J82 (l:=ws) (by simp only at h1 h2;omega)
  exact H.text (.inl ⟨_,fun j=>#[j,.int .i64 1],List.mem_of_getElem? (i:=6) (by kernel_rfl),fun w' R C=>(Jh4 C now (cap - 1) 1 (by omega)).mono fun _ _ hp=>.leaf (.incr rfl k) hp⟩)
 ·obtain⟨k,rfl⟩:=J82 (l:=ws) (by simp only at h1 h2;omega)
  exact H.text (.inl ⟨_,fun j=>#[j,.int .i64 (-1)],List.mem_of_getElem? (i:=7) (by kernel_rfl),fun w' R C=>(Jh4 C now (cap - 1) (-1) (by omega)).mono fun _ _ hp=>.leaf (.decr rfl k) hp⟩)
 ·obtain⟨k,m,rfl⟩:=J9f (l:=ws) (by simp only at h1 h2;omega)
  exact H.text (.inl ⟨_,fun j=>#[j,.bool false],List.mem_of_getElem? (i:=8) (by kernel_rfl),fun w' R C=>(Jc1 C now (cap - 1) false).mono fun _ _ hp=>.leaf (.incrby rfl k m) hp⟩)
 ·obtain⟨k,m,rfl⟩:=J9f (l:=ws) (by simp only at h1 h2;omega)
  exact H.text (.inl ⟨_,fun j=>#[j,.bool true],List.mem_of_getElem? (i:=9) (by kernel_rfl),fun w' R C=>(Jc1 C now (cap - 1) true).mono fun _ _ hp=>.leaf (.decrby rfl k m) hp⟩)
 ·obtain⟨k,m,rfl⟩:=J9f (l:=ws) (by simp only at h1 h2;omega)
  exact H.text (.inl ⟨_,fun j=>#[j],List.mem_of_getElem? (i:=10) (by kernel_rfl),fun w' R C=>(Jis C hF now (cap - 1)).mono fun _ _ ⟨T,hT,hp⟩=>.leaf (.real rfl k m T hT) hp⟩)
 ·obtain⟨k,m,rfl⟩:=J9f (l:=ws) (by simp only at h1 h2;omega)
  exact H.text (.inl ⟨_,fun j=>#[j],List.mem_of_getElem? (i:=11) (by kernel_rfl),fun w' R C=>(Jtm C now (cap - 1)).mono fun _ _ hp=>.leaf (.append_ rfl k m) hp⟩)
 ·obtain⟨k,rfl⟩:=J82 (l:=ws) (by simp only at h1 h2;omega)
  exact H.text (.inl ⟨_,fun j=>#[j],List.mem_of_getElem? (i:=12) (by kernel_rfl),fun w' R C=>(Jv0 C now (cap - 1)).mono fun _ _ hp=>.leaf (.strlen rfl k) hp⟩)
 ·obtain⟨k,ws,rfl⟩:=Jqz (l:=ws) (by simp only at h1 h2;omega)
  exact H.field (by kernel_rfl) _ Jpy (List.mem_of_getElem? (i:=0) rfl) (fun ht=>.htext (by simp[J71,Jey]) k ws ht) fun ht w' l2 vl R v ga hS hX hat ha hga=>by obtain rfl:=hga (by rintro rfl;simp only[List.length_cons,List.length_nil] at h1;omega);exact(Jt2 ht hS hF.g hX (hT k) (hl k) hat (hok k).1 k (hsm k (by simp)) now ha (by simp only[List.length_cons] at hfew;omega) (by simp only[List.length_cons] at h1;omega) _).mono fun _ _ hp=>.leaf (.hset rfl k ws ht) hp
 ·obtain⟨k,m,rfl⟩:=J9f (l:=ws) (by simp only at h1 h2;omega)
  exact H.field (by kernel_rfl) _ Jpw (List.mem_of_getElem? (i:=5) rfl) (fun ht=>.htext (by simp[J71,Jno]) k _ ht) fun ht w' l2 vl R v ga hS hX hat ha hga=>by obtain rfl:=hga (by simp);exact(Jta ht (Jl9 hS) hat (hok k).1.1 (by have:=(hok k).1.2.1;omega) sb now k (ws:=[]) ha.more _).mono fun _ _ hp=>hp.fend hX (.hget rfl k m ht)
 ·obtain⟨k,ws,rfl⟩:=Jqz (l:=ws) (by simp only at h1 h2;omega)
  exact H.field (by kernel_rfl) _ Jpv (List.mem_of_getElem? (i:=4) rfl) (fun ht=>.htext (by simp[J71,Ji9]) k ws ht) fun ht w' l2 vl R v ga hS hX hat ha hga=>by obtain rfl:=hga (by rintro rfl;simp only[List.length_cons,List.length_nil] at h1;omega);exact(Jq6 ht hS hF.g hX (hT k) (hl k) hat (hok k).1 ((hok k).2 ht) k (hsm k (by simp)) now ha (by simp only[List.length_cons] at hfew;omega) _).mono fun _ _ hp=>.leaf (.hdel rfl k ws ht) hp
 ·obtain⟨k,rfl⟩:=J82 (l:=ws) (by simp only at h1 h2;omega)
  exact H.field (by kernel_rfl) _ Jhe (List.mem_of_getElem? (i:=3) rfl) (fun ht=>.htext (by simp[J71,Jbq]) k _ ht) fun ht w' l2 vl R v ga hS hX hat ha hga=>by exact(Jsv _ _ (Jl9 hS) hat (hok k).1.2.1 sb now k ga _ _).mono fun _ _ hp=>hp.fend hX (.hgetall rfl k ht)
 ·obtain⟨k,rfl⟩:=J82 (l:=ws) (by simp only at h1 h2;omega)
  exact H.field (by kernel_rfl) _ Jpx (List.mem_of_getElem? (i:=6) rfl) (fun ht=>.htext (by simp[J71,Jnp]) k _ ht) fun ht w' l2 vl R v ga hS hX hat ha hga=>by obtain⟨va,vc,rfl⟩:=hat.shape;exact(Jtb (Jl9 hS) _ _ va _ vc sb now k ga _ _).mono fun _ _ hp=>hp.fend hX (.hlen rfl k ht)
 ·obtain⟨k,m,rfl⟩:=J9f (l:=ws) (by simp only at h1 h2;omega)
  exact H.field (by kernel_rfl) _ Jhd (List.mem_of_getElem? (i:=7) rfl) (fun ht=>.htext (by simp[J71,Jbp]) k _ ht) fun ht w' l2 vl R v ga hS hX hat ha hga=>by obtain rfl:=hga (by simp);exact(Jjq ht (Jl9 hS) hat (hok k).1.1 (by have:=(hok k).1.2.1;omega) sb now k (ws:=[]) ha.more _).mono fun _ _ hp=>hp.fend hX (.hexists rfl k m ht)
 ·obtain⟨k,ws,rfl⟩:=Jqz (l:=ws) (by simp only at h1 h2;omega)
  exact H.field (by kernel_rfl) _ Jm6 (List.mem_of_getElem? (i:=2) rfl) (fun ht=>.htext (by simp[J71,Jia]) k ws ht) fun ht w' l2 vl R v ga hS hX hat ha hga=>by obtain rfl:=hga (by rintro rfl;simp only[List.length_cons,List.length_nil] at h1;omega);exact(Jqa ht (Jl9 hS) hat (hok k).1.1 (by have:=(hok k).1.2.1;omega) k now ha.more (by simp only[List.length_cons] at hfew;omega) _).mono fun _ _ hp=>hp.fend hX (.hmget rfl k ws ht)
 ·obtain⟨k,m,m2,rfl⟩:=Jzs (l:=ws) (by simp only at h1 h2;omega)
  exact H.field (by kernel_rfl) _ Jhf (List.mem_of_getElem? (i:=1) rfl) (fun ht=>.htext (by simp[J71,J95]) k _ ht) fun ht w' l2 vl R v ga hS hX hat ha hga=>by obtain rfl:=hga (by simp);exact(Jsu ht hS hF.g hX (hT k) (hl k) hat (hok k).1 m m2 k (hsm k (by simp)) (hsm m2 (by simp)) now ha _ _ (by simp)).mono fun _ _ hp=>.leaf (.hincrby rfl k m m2 ht) hp
 ·exact H.own (by kernel_rfl) (by kernel_rfl) fun w' R q C=>(Jwx C now hnow (cap - 1) (by simp only[List.length_cons] at hfew;omega)).mono fun _ _ hp=>.leaf (.del rfl ws) hp
 ·exact H.own (by kernel_rfl) (by kernel_rfl) fun w' R q C=>(Jn0 C now hnow (cap - 1) (by simp only[List.length_cons] at hfew;omega)).mono fun _ _ hp=>.leaf (.unlink rfl ws) hp
 ·exact H.own (by kernel_rfl) (by kernel_rfl) fun w' R q C=>(Jmz C now hnow (cap - 1) (by simp only[List.length_cons] at hfew;omega)).mono fun _ _ hp=>.leaf (.exists_ rfl ws) hp
 ·obtain⟨k,m,rfl⟩:=J9f (l:=ws) (by simp only at h1 h2;omega)
  exact H.own (by kernel_rfl) (by kernel_rfl) fun w' R q C=>(Jej C now hnow (cap - 1)).mono fun _ _ hp=>.leaf (.expire rfl k m) hp
 ·obtain⟨k,m,rfl⟩:=J9f (l:=ws) (by simp only at h1 h2;omega)
  exact H.own (by kernel_rfl) (by kernel_rfl) fun w' R q C=>(Jkb C now hnow (cap - 1)).mono fun _ _ hp=>.leaf (.pexpire rfl k m) hp
 ·obtain⟨k,rfl⟩:=J82 (l:=ws) (by simp only at h1 h2;omega)
  exact H.own (by kernel_rfl) (by kernel_rfl) fun w' R q C=>(Jka C now hnow (cap - 1)).mono fun _ _ hp=>.leaf (.persist rfl k) hp
 ·obtain⟨k,rfl⟩:=J82 (l:=ws) (by simp only at h1 h2;omega)
  exact H.own (by kernel_rfl) (by kernel_rfl) fun w' R q C=>(Jwy C now hnow (cap - 1) (fun t ht=>by have:=hD.due k now _ (J0v ht);omega)).mono fun _ _ hp=>.leaf (.ttl rfl k) hp
 ·obtain⟨k,rfl⟩:=J82 (l:=ws) (by simp only at h1 h2;omega)
  exact H.own (by kernel_rfl) (by kernel_rfl) fun w' R q C=>(Ju9 C now hnow (cap - 1) (fun t ht=>by have:=hD.due k now _ (J0v ht);omega)).mono fun _ _ hp=>.leaf (.pttl rfl k) hp
 ·obtain⟨k,rfl⟩:=J82 (l:=ws) (by simp only at h1 h2;omega)
  exact H.own (by kernel_rfl) (by kernel_rfl) fun w' R q C=>(Jua C now hnow (cap - 1)).mono fun _ _ hp=>.leaf (.type rfl k) hp
 ·obtain rfl:=Jyn (l:=ws) (by simp only at h1 h2;omega)
  exact H.own (by kernel_rfl) (by kernel_rfl) fun w' R q C=>(Ji2 C now hnow (cap - 1)).mono fun _ _ hp=>.leaf (.flushall rfl) hp
 ·obtain rfl:=Jyn (l:=ws) (by simp only at h1 h2;omega)
  exact H.own (by kernel_rfl) (by kernel_rfl) fun w' R q C=>(Jmy C now hnow (cap - 1)).mono fun _ _ hp=>.leaf (.dbsize rfl) hp
 all_goals exact absurd hk (by decide)
theorem Juv {ws:List ByteArray} (h:Ctx w0 w l r sb S g off (c::ws)) (hF:Jau w0) (hD:DOk S) (now:Int) (hnow:0<=now/\now<=4611686018427387904) (cap:Nat) (hcap:(c::ws).length<=cap) (hcap2:cap<=Jb0):KG w0 w r sb g off c ws now cap (Out S now (c::ws)):=by
 rcases hc:Ku (c::ws) with⟨sp,wrong⟩
 by_cases hw:wrong=ByteArray.empty
 ·subst hw
  obtain⟨hm,_,h2⟩:=Jbx hc
  have h64:(c::ws).length<=64:=by have:=Jrv sp hm;rw[List.length_cons];omega
  cases hk:J3h (sp,ByteArray.empty) with
  |true=>exact(Jut hF hD ⟨h,hc,hk,hnow,hcap,hcap2,h64⟩).mono fun _ _ ⟨o,ho,q⟩=>⟨o,by unfold Out;rw[hc,hk,if_pos rfl,if_pos rfl];exact⟨c,ws,rfl,ho⟩,q⟩
  |false=>exact(Jkv h sp hc (.inr ⟨rfl,hk,rfl⟩) now cap).mono fun _ _ q=>⟨⟨S,2,J00,0,[]⟩,by unfold Out;rw[hc,hk,if_pos rfl,if_neg (by decide)],q⟩
 ·exact(Jkv h sp hc (.inl ⟨hw,rfl⟩) now cap).mono fun _ _ q=>⟨⟨S,2,wrong,0,[]⟩,by unfold Out;rw[hc,if_neg hw],q⟩
theorem Juu (hS:J3 w0 [] w (l++r)) (hX:Jh l sb S) (now:Int) (a:Option Addr) (cap:Nat):
 Calls Tryz.prog 8 #[ptr sb,.int .i64 now,.slice a 0 cap] w (J6v w0 r sb (Out S now [])):=by
 have S0:J3 w0 [] (w.alloc J4) (l++((w.heap.size,J4)::r)):=(hS.alloc J4).permR (J5 fun f=>by simp only[SC];omega)
 have hchk:=Jpr S0 a cap;unfold J1c at hchk;have e:Ku []=(Jw,J22):=rfl;rw[e] at hchk;unfold Sp.val K8 Jw at hchk;simp only at hchk
 have hw1:¬J22.toList=[]:=fun h=>absurd (Jaz.1 h) (by decide)
 have hw2:J22.toList.isEmpty=false:=by simpa using hw1
 generalize hwr:J22=wrong at hchk hw1 hw2;replace hwr:=hid hwr;clear e hS S0;replace hchk:=hid hchk;go_enter Tryz.func8,Tryz.ntmps8;go_wp2_with fail;refine hchk.out.mono ?_;rintro e w2 ⟨rfl,S2⟩;clear hchk;generalize w.heap.size=b at S2⊢;go_upto_region 2 with fail;have S3:=S2.alloc (.cells #[.string ByteArray.empty,.int .i64 0,.int .i64 0,.int .i64 0,.int .i64 0,.int .i64 0,.int .i64 0] 45);generalize hw3:w2.alloc _=w3;replace S3:J3 w0 [] w3 ((w2.heap.size,J14 Jw)::_):=hw3▸S3;clear hw3 S2;generalize w2.heap.size=b1 at S3⊢;have S4:=S3;clear S3;generalize w3=w4 at S4⊢;have hf:=hid (J4z S4 wrong);have hL:∀w',J3 w0 [] w' ((b1,J14 Jw)::(l++(b,J4)::r))->J3 w0 [] w' (l++((b,J4)::(b1,J14 Jw)::r)):=fun w' h=>h.permR (J5 fun f=>by simp only[SC];omega)
 replace hL:=hid hL;clear S4;go_wp2_with fail;refine hf.out.mono ?_;rintro e w5 ⟨rfl,S5⟩;have hev:=hid (J9n (hL.out w5 S5) hX);clear hf S5 hX hL;unfold J7;go_wp2_with fail;refine hev.out.mono ?_;rintro e w6 ⟨ev,vl,l3,rfl,hsv,hX3,S6⟩;replace S6:J3 w0 [] w6 ((b,J4)::(l3++(vl++((b1,J14 Jw)::r)))):=S6.permR (J5 fun f=>by simp only[SC];omega)
 obtain⟨⟨c0,hc0⟩,⟨c1,hc1⟩,⟨c2,hc2⟩,⟨c3,hc3⟩,⟨c4,hc4⟩,⟨c5,hc5⟩,fz,hlt⟩:=Jl S6.own.head
 have S7:J3 w0 [] _ ((b,J1e 2 wrong 0 (.slice none 0 0))::_):=S6.setVal 2 wrong 0 (.slice none 0 0);have S9:=hid (S7.pick (l2:=l3++(vl++r)) (m:=[(b,J1e 2 wrong 0 (.slice none 0 0)),(b1,J14 Jw)]) (J5 fun f=>by simp only[SC];omega))
 replace hsv:=hid hsv;replace hX3:=hid hX3;clear hev S6 S7;go_wp2_with fail;refine bodyPost_ret (v:=.tuple #[J7 2 wrong 0 (.slice none 0 0),ev]) (by simp[results,Tryz.results8,go_sem,J7, *]<;>rfl) rfl ?_
 refine⟨⟨S,2,wrong,0,[]⟩,?_,none,0,ev,[],vl,l3,rfl,.nil,hsv.out,hX3.out,S9.out⟩
 rw[<-hwr.out];unfold Out;rw[if_neg (by decide)]
 rfl
end Go.Proofs.YtncbcaabanoeoaaGreatDoor
namespace Go.Proofs.YtncbcaabanoeoaaGreatDoor
open Go
variable {S T:St}{now:Int}
inductive Mv (now:Int) (own:ByteArray->Prop) (S:St):St->Prop
 |refl:Mv now own S S
 |due {T:St} (h:Mv now own S T) (k:ByteArray):Mv now own S (T.due k now)
 |touch {T:St} (h:Mv now own S T) (k:ByteArray):Mv now own S (T.touch k)
 |gone {T:St} (h:Mv now own S T) {k:ByteArray} (ho:own k) (kind:Int):Mv now own S (T.gone k kind)
 |put {T:St} (h:Mv now own S T) {k:ByteArray} (ho:own k) (it:Itm) (keep:Bool) (hk:k.size<=512) (hr:J0e it) (hc:J24 k it<=T.bud):Mv now own S (T.put k it keep now)
 |expire {T:St} (h:Mv now own S T) {k:ByteArray} (ho:own k) (t:Int):Mv now own S (T.expire k t now)
 |persist {T:St} (h:Mv now own S T) {k:ByteArray} (ho:own k):Mv now own S (T.persist k)
 |flush {T:St} (h:Mv now own S T):Mv now own S T.flush
def DUp (S:St):Prop:=∀p∈S.D,0<p.2/\p.2<=4611686018427387904
theorem DUp.ok (h:DUp S):DOk S:=fun p hp=>⟨by have:=(h p hp).1;omega,(h p hp).2⟩
theorem Ju0 {α:Type} {m:AL α} {k:ByteArray} {v:α} {p:ByteArray×α} (h:p∈J2q m k v):p∈m\/p=(k,v):=by
 unfold J2q at h;split at h
 ·unfold mset at h
  obtain⟨q,hq,rfl⟩:=List.mem_map.1 h
  split
  ·rename_i e;subst e;exact .inr rfl
  ·exact .inl hq
 ·rcases List.mem_append.1 h with h|h
  ·exact .inl h
  ·exact .inr (by simpa using h)
theorem Fit.expire_ (h:Fit S) (hT:Kx S) (k:ByteArray) (t now:Int):Fit (S.expire k t now)/\Kx (S.expire k t now):=by
 unfold St.expire;split
 ·rename_i hs
  split
  ·exact⟨h.gone k 2,hT.gone k 2⟩
  ·obtain⟨it,hl⟩:=Option.isSome_iff_exists.1 hs
   exact⟨h.ending hl _ _,hT⟩
 ·exact⟨h,hT⟩
theorem Mv.ok {own:ByteArray->Prop} (h:Mv now own S T) (hf:Fit S) (hT:Kx S):Fit T/\Kx T:=by
 induction h with
 |refl=>exact⟨hf,hT⟩
 |due _ k ih=>exact⟨ih.1.due k now,ih.2.due k now⟩
 |touch _ k ih=>exact⟨ih.1.touch k,ih.2.touch ih.1 k⟩
 |gone _ _ kind ih=>exact⟨ih.1.gone _ kind,ih.2.gone _ kind⟩
 |put _ _ it keep hk hr hc ih=>exact⟨(Jn4 ih.1 ih.2 hk hr hc keep now).1,(Jn4 ih.1 ih.2 hk hr hc keep now).2.1⟩
 |expire _ _ t ih=>exact ih.1.expire_ ih.2 _ t now
 |persist _ _ ih=>exact⟨ih.1.undue _ _,ih.2⟩
 |flush _ ih=>exact⟨ih.1.none _,Nat.zero_le _⟩
theorem Mv.bud {own:ByteArray->Prop} (h:Mv now own S T):T.bud=S.bud:=by
 induction h with
 |refl=>rfl
 |due _ k ih=>rw[Jaa,ih]
 |touch _ k ih=>rw[Jbs,ih]
 |gone _ _ kind ih=>rw[J6d,ih]
 |put _ _ it keep hk hr hc ih=>rw[St.put,Jfv];show(St.due _ _ _).bud=_;rw[Jaa,ih]
 |expire _ _ t ih=>
  unfold St.expire;split
  ·split
   ·rw[J6d,ih]
   ·exact ih
  ·exact ih
 |persist _ _ ih=>exact ih
 |flush _ ih=>exact ih
theorem DUp.del (h:DUp S) (k:ByteArray):∀p∈K3 S.D k,0<p.2/\p.2<=4611686018427387904:=fun p hp=>h p (J6i.1 hp).1
theorem DUp.gone (h:DUp S) (k:ByteArray) (kind:Int):DUp (S.gone k kind):=by
 unfold St.gone;split
 ·exact h.del k
 ·exact h
theorem DUp.due (h:DUp S) (k:ByteArray) (now:Int):DUp (S.due k now):=by
 unfold St.due;split
 ·split
  ·exact h.gone k 3
  ·exact h
 ·exact h
theorem DUp.evict:∀(n:Nat) {S:St} (_:DUp S) (but:ByteArray),DUp (S.evict n but)
 |0,_,h,_=>h
 |n+1,S,h,but=>by
  unfold St.evict;split
  ·split
   ·exact DUp.evict n (h.gone _ _) but
   ·exact h
  ·exact h
theorem Mv.dup (hn:0<=now) {own:ByteArray->Prop} (h:Mv now own S T) (hd:DUp S):DUp T:=by
 induction h with
 |refl=>exact hd
 |due _ k ih=>exact ih.due k now
 |touch _ k ih=>
  unfold St.touch;split
  ·exact ih
  ·exact ih
 |gone _ _ kind ih=>exact ih.gone _ kind
 |put _ _ it keep hk hr hc ih=>
  refine DUp.evict _ ?_ _;intro p hp
  simp only[St.lay] at hp;split at hp
  ·exact ih.due _ now p hp
  ·exact(ih.due _ now).del _ p hp
 |expire _ _ t ih=>
  unfold St.expire;split
  ·split
   ·exact ih.gone _ 2
   ·intro p hp
    rcases Ju0 hp with hp|rfl
    ·exact ih p hp
    ·simp only[J5p];omega
  ·exact ih
 |persist _ _ ih=>exact ih.del _
 |flush _ ih=>intro p hp;cases hp
def J9a (own:ByteArray->Prop) (S T:St):Prop:=∃es,T.ev=S.ev++es/\∀e∈es,own e.2\/e.1=3\/e.1=4\/e.1=5
theorem J9a.add {own:ByteArray->Prop} {U:St} (h:J9a own S T) (es:List (Int×ByteArray)) (hU:U.ev=T.ev++es) (hes:∀e∈es,own e.2\/e.1=3\/e.1=4\/e.1=5):J9a own S U:=by
 obtain⟨fs,h1,h2⟩:=h
 refine⟨fs++es,by rw[hU,h1,List.append_assoc],fun e he=>?_⟩
 rcases List.mem_append.1 he with he|he
 ·exact h2 e he
 ·exact hes e he
theorem J9a.gone {own:ByteArray->Prop} (h:J9a own S T) (k:ByteArray) (kind:Int) (ho:own k\/kind=3\/kind=4\/kind=5):J9a own S (T.gone k kind):=by
 unfold St.gone;split
 ·exact h.add [(kind,k)] rfl (by simpa using ho)
 ·exact h
theorem J9a.due {own:ByteArray->Prop} (h:J9a own S T) (k:ByteArray) (now:Int):J9a own S (T.due k now):=by
 unfold St.due;split
 ·split
  ·exact h.gone k 3 (.inr (.inl rfl))
  ·exact h
 ·exact h
theorem J9a.evict {own:ByteArray->Prop} {S:St}:∀(n:Nat) {T:St} (_:J9a own S T) (but:ByteArray),J9a own S (T.evict n but)
 |0,_,h,_=>h
 |n+1,T,h,but=>by
  unfold St.evict;split
  ·split
   ·exact J9a.evict n (h.gone _ _ (.inr (.inr (.inl rfl)))) but
   ·exact h
  ·exact h
theorem Mv.ev {own:ByteArray->Prop} (h:Mv now own S T):J9a own S T:=by
 induction h with
 |refl=>exact⟨[],by simp,by simp⟩
 |due _ k ih=>exact ih.due k now
 |touch _ k ih=>
  unfold St.touch;split
  ·exact ih
  ·exact ih
 |gone _ ho kind ih=>exact ih.gone _ kind (.inl ho)
 |put _ ho it keep hk hr hc ih=>exact J9a.evict _ ((ih.due _ now).add [(1,_)] rfl (by simpa using ho)) _
 |expire _ ho t ih=>
  unfold St.expire;split
  ·split
   ·exact ih.gone _ 2 (.inl ho)
   ·exact ih.add [(1,_)] rfl (by simpa using ho)
  ·exact ih
 |@persist T _ k ho ih=>
  by_cases hs:(Je T.D k).isSome=true
  ·exact ih.add [(1,k)] (by simp only[St.persist,hs,if_true]) (by simpa using ho)
  ·exact ih.add [] (by simp only[St.persist,hs,if_false,List.append_nil];rfl) (by simp)
 |flush _ ih=>exact ih.add [(5,ByteArray.empty)] rfl (by simp)
end Go.Proofs.YtncbcaabanoeoaaGreatDoor
