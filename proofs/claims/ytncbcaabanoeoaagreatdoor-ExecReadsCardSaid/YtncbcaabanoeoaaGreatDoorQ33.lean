/-
strconv.FormatFloat with the fewest digits.
-/
import Derived.Deep.CutBlock
import Derived.Deep.DeepCutAuto
import Derived.Test.YtncbcaabanoeoaaGreatDoorQ16
import Derived.Test.YtncbcaabanoeoaaGreatDoorQ29
import Derived.Test.YtncbcaabanoeoaaGreatDoorQ32
set_option linter.unusedVariables false
set_option linter.unusedSimpArgs false
set_option maxRecDepth 100000
set_option maxHeartbeats 8000000
namespace Go.Proofs.YtncbcaabanoeoaaGreatDoor
open Go Go.RowKit
variable {w0 w:World}{r:Hp}{c b a:Nat}
theorem Jz.text {l:List UInt8} {s:Value} (h:Jz w0 r l s w) (hl:l≠[]):
 ∃g c,s= .slice (some ⟨g,0,none⟩) l.length c/\∀j (hj:j<l.length),w.cell? ((⟨g,0,none⟩:Addr).add j)=some (.int .u8 (l[j].toNat:Int)):=by
 obtain⟨a,c,sl,rfl,hb,hS⟩:=h
 suffices H:∃g c',(Value.slice a l.length c)= .slice (some ⟨g,0,none⟩) l.length c'/\∃rest,(g,Obj.cells (l.map bv++rest).toArray 5 (0,0))∈sl by
  obtain⟨g,c',he,rest,hm⟩:=H
  refine⟨g,c',he,fun j hj=>?_⟩
  have hadd:(⟨g,0,none⟩:Addr).add j=⟨g,j,none⟩:=by unfold Addr.add;split<;>simp_all
  rw[hadd,J2 (hS.own.left.at_ _ hm) j];simp only[List.getElem?_toArray];rw[List.getElem?_append_left (by simpa using hj),List.getElem?_map,List.getElem?_eq_getElem hj]
  rfl
 unfold Bsl at hb;generalize hn:l.length=n at hb⊢;generalize l.map bv=xs at hb⊢;generalize hv:Value.slice a n c=v at hb⊢;cases hb with
 |nil=>exact absurd (List.length_eq_zero_iff.1 hn) hl
 |laid g n cap xs rest h1 h2 h3 h4=>exact⟨g,cap,rfl,rest,by simp⟩
theorem Jz.step {l:List UInt8} {s:Value} (h:Jz w0 r l s w):J3 w0 [] w r:=by
 obtain⟨a,c,sl,rfl,hb,hS⟩:=h
 exact hS.less (List.sublist_append_right _ _)
abbrev z24:Array Value:=#[.int .u8 0,.int .u8 0,.int .u8 0,.int .u8 0,.int .u8 0,.int .u8 0,.int .u8 0,.int .u8 0,.int .u8 0,.int .u8 0,.int .u8 0,.int .u8 0,.int .u8 0,.int .u8 0,.int .u8 0,.int .u8 0,.int .u8 0,.int .u8 0,.int .u8 0,.int .u8 0,.int .u8 0,.int .u8 0,.int .u8 0,.int .u8 0]
theorem Jyd (hS:J3 w0 [] w r) (b:Nat) (f:Int) (l:List UInt8) (hl:l≠[])
 (hc:∀(w':World) (s:Value),Jz w0 r [] s w'->Calls Tryz.prog 241 #[s,.float .f64 b,.int .u8 f,.int .i64 (-1)] w' (J1m w0 r l)):
  Calls Tryz.prog 222 #[.float .f64 b,.int .u8 f,.int .i64 (-1),.int .i64 64] w (J3m w0 r (.string ⟨l.toArray⟩)):=by
  have hmk:∀w,(Instr.makeSlice 129 (.int .i64 0) (.int .i64 24)).run Tryz.prog w= .ok (.slice (some ⟨w.heap.size,0,none⟩) 0 24) (w.alloc (.cells z24 5)):=fun _=>by kernel_rfl
  have S1:=hS.alloc (.cells z24 5)
  have hD:Jz w0 r [] (.slice (some ⟨w.heap.size,0,none⟩) 0 24) (w.alloc (.cells z24 5)):=
   ⟨_,24,_,rfl,SliceHp.laid w.heap.size 0 24 [] z24.toList rfl rfl (by decide) (by unfold maxLen;decide),S1⟩
  have hcall:=hid (hc _ _ hD);replace hl:=hid hl;have hmx:max (3:Int) 24=24:=by decide
  clear S1 hD hc hS;go_enter Tryz.func222,Tryz.ntmps222;go_wp2_with fail;refine hcall.out.mono ?_;rintro e w2 ⟨v,rfl,hv⟩;have hst:=hid hv.step;obtain⟨g,c,rfl,hcell⟩:=hv.text hl.out
  have hback:=run_convert_bytes_back (P:=Tryz.prog) w2 129 9 5 ⟨g,0,none⟩ c l Tryz.underlying129 Tryz.underlying5 Tryz.underlying9 hcell;clear hcell hv hcall hmk;go_wp2_with fail;go_ret;exact⟨rfl,hst.out⟩
theorem Jsw (hS:J3 w0 [] w r) (b:Nat) (f:Int) (l:List UInt8) (hl:l≠[])
 (hc:∀(w':World) (s:Value),Jz w0 r [] s w'->Calls Tryz.prog 241 #[s,.float .f64 b,.int .u8 f,.int .i64 (-1)] w' (J1m w0 r l)):
  Calls Tryz.prog 198 #[.float .f64 b,.int .u8 f,.int .i64 (-1),.int .i64 64] w (J3m w0 r (.string ⟨l.toArray⟩)):=by
  have hcall:=hid (Jyd hS b f l hl hc);clear hc;go_enter Tryz.func198,Tryz.ntmps198;go_wp2_with fail;refine hcall.out.mono ?_;rintro e w2 ⟨rfl,S2⟩;replace S2:=hid S2;go_wp2_with fail;go_ret;exact⟨rfl,S2.out⟩
theorem Jt3 (b:Nat):J4m b≠[]:=by
 unfold J4m;split
 ·simp
 ·unfold Jho;simp
theorem Jt4 (b:Nat):J7v b≠[]:=by
 unfold J7v;split
 ·simp
 ·rename_i hm
  intro h
  have h2:=(List.append_eq_nil_iff.1 h).2;have h3:=(List.append_eq_nil_iff.1 h2).1;unfold Jyc at h3;split at h3
  ·rename_i hp
   have h4:=(List.append_eq_nil_iff.1 h3);have h5:=congrArg List.length h4.1;have h6:=congrArg List.length h4.2;simp only[List.length_take,List.length_replicate,List.length_nil] at h5 h6;omega
  ·simp at h3
theorem K04 (hS:J3 w0 [] w r) (hG:J17 w0) (hF:J49 w0) (b:Nat) (hb:b<18446744073709551616) (hx:fEx b≠2047):
 Calls Tryz.prog 198 #[.float .f64 b,.int .u8 101,.int .i64 (-1),.int .i64 64] w (J3m w0 r (.string ⟨(J4m b).toArray⟩)):=
 Jsw hS b 101 _ (Jt3 b) fun w' s h=>by
  by_cases hm:fMa b=0
  ·exact Jwh h b hb hm
  ·exact Jyh h hG hF b hb hx hm
theorem K05 (hS:J3 w0 [] w r) (hG:J17 w0) (hF:J49 w0) (b:Nat) (hb:b<18446744073709551616) (hx:fEx b≠2047):
 Calls Tryz.prog 198 #[.float .f64 b,.int .u8 102,.int .i64 (-1),.int .i64 64] w (J3m w0 r (.string ⟨(J7v b).toArray⟩)):=
 Jsw hS b 102 _ (Jt4 b) fun w' s h=>by
  by_cases hm:fMa b=0
  ·exact Jwi h b hb hm
  ·exact Jyi h hG hF b hb hx hm
theorem Jsg (x:Int) (h0: -900<=x) (h1:x<=900):Lib.atoi (Jab x)=some x:=by
 have h:(List.range 1801).all (fun i=>decide (Lib.atoi (Jab ((i:Int) - 900))=some ((i:Int) - 900)))=true:=by decide+kernel
 have:=List.all_eq_true.1 h (x+900).toNat (by simp;omega)
 simp only[decide_eq_true_eq] at this;have e:(((x+900).toNat:Nat):Int) - 900=x:=by omega
 rwa[e] at this
theorem Jw6 {u:Nat} {c:UInt8} (h:c∈Lib.decDigits u):c≠101:=by
 rw[Lib.decDigits_eq] at h;obtain⟨t,_,rfl⟩:=List.mem_map.1 h
 intro hc
 have:=congrArg UInt8.toNat hc
 simp[Lib.dg] at this;omega
theorem Jfx {c:UInt8} (h:c∈J4l b):c≠101:=Jw6 (List.mem_of_mem_take h)
def Jjg (b:Nat):Int:=if fMa b=0 then 0 else J6z b - 1
theorem Jjl (b:Nat):∃A,J4m b=A++101::Jab (Jjg b)/\∀c∈A,c≠101:=by
 have hn:∀c∈J1b (J7u b),c≠(101:UInt8):=by
  intro c hc
  unfold J1b at hc;split at hc
  ·simp at hc;subst hc;decide
  ·simp at hc
 unfold J4m Jjg;split
 ·refine⟨J1b (J7u b)++[48],?_,?_⟩
  ·rw[List.append_assoc];rfl
  ·intro c hc
   rcases List.mem_append.1 hc with hc|hc
   ·exact hn c hc
   ·simp at hc;subst hc;decide
 ·unfold Jho
  refine⟨J1b (J7u b)++([(J4l b).headD 48]++(if(J4l b).tail=[] then [] else 46::(J4l b).tail)),by simp,?_⟩
  intro c hc
  rcases List.mem_append.1 hc with hc|hc
  ·exact hn c hc
  ·rcases List.mem_append.1 hc with hc|hc
   ·simp only[List.mem_singleton] at hc
    subst hc;cases hf:J4l b with
    |nil=>decide
    |cons d ds=>exact Jfx (b:=b) (by rw[hf];simp)
   ·split at hc
    ·simp at hc
    ·rcases List.mem_cons.1 hc with rfl|hc
     ·decide
     ·exact Jfx (List.mem_of_mem_tail hc)
theorem Jjh (hx:fEx b≠2047): -900<=Jjg b/\Jjg b<=900:=by
 unfold Jjg;split
 ·omega
 ·rename_i hm
  have hk:=fok hx hm;have hp:=J79 hk.m0 hk.m1 hk.e0 hk.e1;have h20:=Lib.nDigits_le20 (J7t b).1 (by have:=hp.2.1;unfold J7t;omega)
  have h1:=Lib.nDigits_pos (J7t b).1;have h3:=hp.2.2.1;have h4:=hp.2.2.2;unfold J6z;have e:(J7t b).2=(J38 (fMa b*2 ^fSh b) (fXp b - fSh b - 52)).2:=rfl;omega
theorem Jxq (t:List UInt8):∀(A:List UInt8),(∀c∈A,c≠101)->Lib.indexByte (A++101::t) 101=A.length
 |[],_=>by simp[Lib.indexByte]
 |c::A,h=>by
  have ih:=Jxq t A fun x hx=>h x (by simp[hx])
  have hc:(c==101)=false:=by simpa using h c (by simp)
  simp only[List.cons_append,Lib.indexByte,hc,Bool.false_eq_true,if_false,ih];have:((A.length:Int)== -1)=false:=by simp
  rw[this];simp
theorem Jsp (x:Int):(Jab x).length<=4:=by
 unfold Jab;split<;>(split<;>(try split)<;>simp)
theorem Jq5 (hx:fEx b≠2047) (hm:fMa b≠0):(J4l b).length<=20:=by
 have hk:=fok hx hm;have hp:=J79 hk.m0 hk.m1 hk.e0 hk.e1;have h20:=Lib.nDigits_le20 (J7t b).1 (by have:=hp.2.1;unfold J7t;omega)
 unfold J4l;rw[List.length_take,Lib.decDigits_length];omega
theorem Jqe (hx:fEx b≠2047):(J4m b).length<=100:=by
 have hn:(J1b (J7u b)).length<=1:=by cases J7u b<;>decide
 unfold J4m;split
 ·simp only[List.length_append,List.length_cons,List.length_nil];omega
 ·rename_i hm
  have h1:=Jq5 hx hm;have h2:=Jsp (J6z b - 1)
  have h3:(if(J4l b).tail=[] then [] else 46::(J4l b).tail).length<=21:=by
   split
   ·simp
   ·simp only[List.length_cons,List.length_tail];omega
  unfold Jho;simp only[List.length_append,List.length_cons,List.length_nil];omega
def Jan (b:Nat):ByteArray:=if Jjg b< -4\/21<=Jjg b then⟨(J4m b).toArray⟩ else⟨(J7v b).toArray⟩
structure Jxl (b:Nat):Prop where
 lt:b<18446744073709551616
 ex:fEx b≠2047
 nan:Jt1 b=false
 up:fgt b=false
 down:fgt (Jqd b)=false
theorem Ji5 (hS:J3 w0 [] w r) (hG:J17 w0) (hF:J49 w0) (hb:Jxl b):
 Calls Tryz.prog 160 #[.float .f64 b] w (J3m w0 r (.string (Jan b))):=by
 have h1:=J8v b;have h2:=Jtj b;have h3:=Jmk b;rw[hb.nan] at h1;rw[hb.up] at h2;rw[hb.down] at h3;obtain⟨hx0,hx1⟩:=Jjh hb.ex
 obtain⟨A,hA,hAe⟩:=Jjl b
 obtain⟨x,hx⟩:∃x,x=Jjg b:=⟨_,rfl⟩
 obtain⟨s,hs⟩:∃s:ByteArray,s=⟨(J4m b).toArray⟩:=⟨_,rfl⟩
 obtain⟨t,ht⟩:∃t:ByteArray,t=⟨(J7v b).toArray⟩:=⟨_,rfl⟩
 obtain⟨T,hT⟩:∃T,T=Jan b:=⟨_,rfl⟩
 have hT2:T=if x< -4\/21<=x then s else t:=by rw[hT,Jan,<-hx,<-hs,<-ht]
 have hfe:=K04 hS hG hF b hb.lt hb.ex;rw[<-hs] at hfe;have hff:=fun (w':World) (h:J3 w0 [] w' r)=>K05 h hG hF b hb.lt hb.ex
 rw[<-ht] at hff;rw[<-hx] at hx0 hx1 hA;rw[<-hT];have hsl:s.data.toList=A++101::Jab x:=by rw[hs];exact hA
 obtain⟨n,hn⟩:∃n,n=A.length:=⟨_,rfl⟩
 have hsz:s.size=n+1+(Jab x).length:=by
  have:=congrArg List.length hsl
  simp only[Array.length_toList,List.length_append,List.length_cons] at this;rw[hn];show s.data.size=_
  omega
 have hel:(Jab x).length<=18:=by
  unfold Jab;split<;>(split<;>(try split)<;>simp)
 have hix:∀w',Hid (Calls Tryz.prog 200 #[.string s,.int .u8 101] w' fun e w''=>e= .returned (.int .i64 (n:Int))/\w''=w'):=fun w'=>hid (by
  have:=Tryz.strings_IndexByte s 101 w'
  rw[hsl,show((101:Int).toNat.toUInt8)=101 from rfl,Jxq _ A hAe,<-hn] at this;exact this)
 have hsub:(s.extract (n+1) s.size).data.toList=Jab x:=by
  rw[Lib.extract_to_end,hsl,hn,List.drop_append,List.drop_of_length_le (by omega),show A.length+1 - A.length=1 by omega]
  rfl
 have hat:=fun (w':World) (h:J3 w0 [] w' r)=>(show Calls Tryz.prog 199 #[.string (s.extract (n+1) s.size)] w' (J3m w0 r (.tuple #[.int .i64 x,.nilIface])) from
  (Tryz.strconv_Atoi (s.extract (n+1) s.size) x (by
   have e:(s.extract (n+1) s.size).size=(Jab x).length:=by rw[<-hsub];exact Array.length_toList.symm
   rw[e];exact hel) (by rw[hsub];exact Jsg x hx0 hx1) w').mono fun _ _ ⟨he,t',hw⟩=>⟨he,by rw[hw];exact h.below (Lib.bytesWorld_below _ _ _)⟩)
 have hss:s.size<=1099511627776\/True:=.inr trivial;have hb1:n+1<=s.size:=by omega
 have hb2:(n:Int)+1<=s.size:=by omega
 have hb3:n<=100:=by
  have h9:=Jqe hb.ex;have:s.size=(J4m b).length:=by rw[hs];rfl
  omega
 replace hs:=hid hs;replace ht:=hid ht;replace hx:=hid hx;replace hT:=hid hT;replace hT2:=hid hT2;replace hfe:=hid hfe;replace hff:=hid hff;replace hat:=hid hat;replace hn:=hid hn;replace hsz:=hid hsz;clear hsub hel hsl hA hAe hS hss;go_enter Tryz.func160,Tryz.ntmps160;go_wp2_with fail;refine(h1 _).mono ?_
 rintro e w' ⟨rfl,rfl⟩;go_wp2_with fail;refine(h2 _).mono ?_
 rintro e w' ⟨rfl,rfl⟩;go_wp2_with fail;refine(h3 _).mono ?_
 rintro e w' ⟨rfl,rfl⟩;go_wp2_with fail;refine hfe.out.mono ?_;rintro e w1 ⟨rfl,S1⟩;clear hfe;go_wp2_with fail;refine(hix _).out.mono ?_
 rintro e w' ⟨rfl,rfl⟩;have hac:=hid (hat.out w' S1);replace S1:=hid S1;go_wp2_with fail;refine hac.out.mono ?_;rintro e w2 ⟨rfl,S2⟩;have hfc:=hid (hff.out w2 S2);replace S2:=hid S2;clear hac hat S1;by_cases c1:x< -4
 ·have r1:T=s:=by rw[hT2.out,if_pos (.inl c1)]
  replace r1:=hid r1;go_wp2_with fail;go_ret;rw[r1.out];exact⟨rfl,S2.out⟩
 ·by_cases c2:21<=x
  ·have r1:T=s:=by rw[hT2.out,if_pos (.inr c2)]
   replace r1:=hid r1;go_wp2_with fail;go_ret;rw[r1.out];exact⟨rfl,S2.out⟩
  ·have r1:T=t:=by rw[hT2.out,if_neg (by omega)]
   replace r1:=hid r1;go_wp2_with fail;refine hfc.out.mono ?_;rintro e w3 ⟨rfl,S3⟩;replace S3:=hid S3;go_wp2_with fail;go_ret;rw[r1.out];exact⟨rfl,S3.out⟩
theorem Jhm (hb:b<18446744073709551616):Jf9 b=b%9223372036854775808:=by
 unfold Jf9
 have h:bits .andNot .u64 (b:Int) 9223372036854775808=((b%9223372036854775808:Nat):Int):=by
  show IntKind.u64.wrap (((BitVec.ofInt 64 (b:Int))&&&~~~(BitVec.ofInt 64 (9223372036854775808:Int))).toNat:Int)=_
  have e1:(BitVec.ofInt 64 (b:Int)).toNat=b:=by
   rw[BitVec.ofInt_natCast,BitVec.toNat_ofNat,Nat.mod_eq_of_lt (by simpa using hb)]
  have e2:(~~~(BitVec.ofInt 64 9223372036854775808)).toNat=2 ^63 - 1:=by decide
  rw[BitVec.toNat_and,e1,e2,Nat.and_two_pow_sub_one_eq_mod,IntKind.wrap_u64];omega
 rw[h];omega
theorem Jxx (hc:c<9223372036854775808):c ^^^9223372036854775808=9223372036854775808+c:=by
 apply Nat.eq_of_testBit_eq
 intro i
 rw[Nat.testBit_xor,show(9223372036854775808:Nat)=2 ^63 from rfl];have hc':c<2 ^63:=hc;rcases Nat.lt_trichotomy i 63 with h|rfl|h
 ·rw[Nat.testBit_two_pow_add_gt h,Nat.testBit_two_pow]
  have:decide (63=i)=false:=by simp;omega
  rw[this];simp
 ·rw[Nat.testBit_two_pow_add_eq,Nat.testBit_two_pow]
  rw[Nat.testBit_lt_two_pow hc'];rfl
 ·have h1:2 ^64<=2 ^i:=Nat.pow_le_pow_right (by decide) h
  rw[Nat.testBit_lt_two_pow (show 2 ^63+c<2 ^i by omega),Nat.testBit_lt_two_pow (show c<2 ^i by omega),Nat.testBit_two_pow]
  have:decide (63=i)=false:=by simp;omega
  rw[this];rfl
theorem Jok (hb:b<18446744073709551616):Jqd b=if b<9223372036854775808 then 9223372036854775808+b else b - 9223372036854775808:=by
 have h0:Jqd b=b ^^^9223372036854775808:=rfl;rw[h0];split
 ·exact Jxx ‹_›
 ·have e:b=(b - 9223372036854775808) ^^^9223372036854775808:=by rw[Jxx (by omega)];omega
  rw[e,Nat.xor_assoc,Nat.xor_self,Nat.xor_zero,<-e]
abbrev rd (b:Nat):Ieee.Datum:=Ieee.double.read b
theorem Ji4 (b:Nat):rd b=(if b%9223372036854775808<4503599627370496 then .number (b/9223372036854775808%2==1) (b%9223372036854775808) (-1074)
 else if b%9223372036854775808<9218868437227405312 then .number (b/9223372036854775808%2==1) (4503599627370496+b%9223372036854775808%4503599627370496) (-1074+(b%9223372036854775808/4503599627370496 - 1:Nat))
 else if b%9223372036854775808=9218868437227405312 then .infinity (b/9223372036854775808%2==1) else .nan (b/9223372036854775808%2==1) (b%9223372036854775808 - 9218868437227405312)):=rfl
theorem J60 (hb:b<18446744073709551616) (h:J12 b=true):b%9223372036854775808<9218868437227405312:=by
 refine Nat.lt_of_not_le fun hge=>?_
 simp only[J12,Bool.and_eq_true,Bool.not_eq_true'] at h;obtain⟨h1,h2⟩:=h
 have hr:=Ji4 b;rw[if_neg (by omega),if_neg (by omega)] at hr
 split at hr
 ·rename_i he
  have ha:=Ji4 (Jf9 b);rw[Jhm hb,Nat.mod_mod,if_neg (by omega),if_neg (by omega),if_pos he] at ha
  have:fgt (Jf9 b)=true:=by
   show((rd (Jf9 b)).order (rd 9218868437227405311)==some .gt)=true
   rw[Jhm hb,ha]
   have:(b%9223372036854775808/9223372036854775808%2==1)=false:=by
    have:=Nat.mod_lt b (show 0<9223372036854775808 by decide)
    rw[Nat.div_eq_of_lt this];rfl
   rw[this];decide+kernel
  rw[this] at h2;exact absurd h2 (by decide)
 ·have:Jt1 b=true:=by
   show(!((rd b).order (rd b)==some .eq))=true
   rw[hr];rfl
  rw[this] at h1;exact absurd h1 (by decide)
theorem J93 (h:b%9223372036854775808<9218868437227405312):∃m p,rd b= .number (b/9223372036854775808%2==1) m p:=by
 have hr:=Ji4 b;rw[if_pos h] at hr;split at hr
 ·exact⟨_,_,hr⟩
 ·exact⟨_,_,hr⟩
theorem Jyx:rd 9218868437227405311= .number false 9007199254740991 971:=by decide+kernel
theorem Jfz (h0:9223372036854775808<=c) (h1:c<18446744073709551616) (h:c%9223372036854775808<9218868437227405312):fgt c=false:=by
 obtain⟨m,p,hr⟩:=J93 h
 have hs:(c/9223372036854775808%2==1)=true:=by
  have:c/9223372036854775808=1:=by omega
  rw[this];rfl
 rw[hs] at hr;show((rd c).order (rd 9218868437227405311)==some .gt)=false
 rw[hr,Jyx];simp only[Ieee.Datum.order,Ieee.signed,if_true,Bool.false_eq_true,if_false];generalize (m<<<(p - min p 971).toNat:Nat)=x;generalize ((9007199254740991:Nat)<<<((971:Int) - min p 971).toNat:Nat)=y;have hle: -(x:Int)<=(y:Int):=by omega
 have:compare (-(x:Int)) (y:Int)≠ .gt:=by
  rw[Int.compare_ne_gt];exact hle
 simpa using this
theorem Jye (hb:b<18446744073709551616) (h:J12 b=true):Jxl b:=by
 have hn:=J60 hb h;have h':=h;simp only[J12,Bool.and_eq_true,Bool.not_eq_true'] at h';obtain⟨h1,h2⟩:=h'
 rw[Jhm hb] at h2;refine⟨hb,?_,h1,?_,?_⟩
 ·unfold fEx;omega
 ·by_cases hlt:b<9223372036854775808
  ·rwa[Nat.mod_eq_of_lt hlt] at h2
  ·exact Jfz (by omega) hb hn
 ·rw[Jok hb]
  split
  ·exact Jfz (by omega) (by omega) (by omega)
  ·rwa[show b - 9223372036854775808=b%9223372036854775808 by omega]
theorem Jva (ha:a<18446744073709551616) (hb:b<18446744073709551616) (h1:J12 a=true) (h2:J12 b=true):∃r,floatBits .add .f64 a b=some r/\r<18446744073709551616:=by
 obtain⟨m,p,e1⟩:=J93 (J60 ha h1)
 obtain⟨n,q,e2⟩:=J93 (J60 hb h2)
 have e:floatBits .add .f64 a b=((rd a).sum (rd b)).map Ieee.double.write:=rfl;rw[e1,e2] at e;simp only[Ieee.Datum.sum,Option.map_some] at e;exact⟨_,e,Ieee.Format.write_lt _ _⟩
theorem Jko {r:Nat} (h:floatBits .add .f64 a b=some r) (w:World):
 Calls Tryz.prog 159 #[.float .f64 a,.float .f64 b] w fun e w'=>e= .returned (.tuple #[.float .f64 (if J12 r then r else 0),.int .i64 (if J12 r then 0 else 21)])/\w'=w:=by
 have hop:∀t w,(binOp .add t (.float .f64 a) (.float .f64 b)).run Tryz.prog w= .ok (.float .f64 r) w:=fun t w=>run_float_arith w .add t .f64 a b r h
 have h1:=J8v r;have h2:=Jg2 r;cases hn:Jt1 r with
 |true=>
  rw[hn] at h1;have hT:J12 r=false:=by unfold J12;rw[hn];rfl
  rw[hT];go_enter Tryz.func159,Tryz.ntmps159;go_wp2_with (simp only[hop]);refine(h1 _).mono ?_
  rintro e w' ⟨rfl,rfl⟩;go_wp2_with fail;go_ret2;exact⟨rfl,rfl⟩
 |false=>
  rw[hn] at h1;cases hi:fgt (Jf9 r) with
  |true=>
   rw[hi] at h2;have hT:J12 r=false:=by unfold J12;rw[hn,hi];rfl
   rw[hT];go_enter Tryz.func159,Tryz.ntmps159;go_wp2_with (simp only[hop]);refine(h1 _).mono ?_
   rintro e w' ⟨rfl,rfl⟩;go_wp2_with fail;refine(h2 _).mono ?_
   rintro e w' ⟨rfl,rfl⟩;go_wp2_with fail;go_ret2;exact⟨rfl,rfl⟩
  |false=>
   rw[hi] at h2;have hT:J12 r=true:=by unfold J12;rw[hn,hi];rfl
   rw[hT];go_enter Tryz.func159,Tryz.ntmps159;go_wp2_with (simp only[hop]);refine(h1 _).mono ?_
   rintro e w' ⟨rfl,rfl⟩;go_wp2_with fail;refine(h2 _).mono ?_
   rintro e w' ⟨rfl,rfl⟩;go_wp2_with fail;go_ret2;exact⟨rfl,rfl⟩
structure J4j (b:Nat):Prop where
 lt:b<18446744073709551616
 le:b%9223372036854775808<=9218868437227405312
theorem Jeh (neg:Bool) (m:Nat) (p:Int):J4j (Ieee.double.nearest neg m p):=by
 have hw:∀(s:Bool) (r:Nat),r<=9218868437227405312->J4j (Ieee.double.word s r):=fun s r hr=>by
  cases s
  ·exact⟨by show r<_;omega,by show r%_<=_;omega⟩
  ·exact⟨by show 9223372036854775808+r<_;omega,by show(9223372036854775808+r)%_<=_;omega⟩
 unfold Ieee.Format.nearest;dsimp only
 split
 ·exact hw _ _ (by decide)
 ·exact hw _ _ (Nat.min_le_right _ _)
theorem J5y {d:Ieee.Datum} (h:d.isNaN=false):J4j (Ieee.double.write d):=by
 cases d with
 |number s m p=>exact Jeh s m p
 |infinity s=>cases s<;>exact⟨by decide,by decide⟩
 |nan s f=>cases h
theorem Jkn (h:J4j b):(∃s m p,rd b= .number s m p)\/∃s,rd b= .infinity s:=by
 by_cases hb:b%9223372036854775808<9218868437227405312
 ·obtain⟨m,p,e⟩:=J93 hb;exact .inl ⟨_,_,_,e⟩
 ·have:=h.le
  have hr:=Ji4 b;rw[if_neg (by omega),if_neg hb,if_pos (by omega)] at hr
  exact .inr ⟨_,hr⟩
def Jz3 (c:Nat):Prop:=∃m p,rd c= .number false m p/\m≠0
theorem Ju2 (ha:J4j a) (hc:Jz3 c):∃r,floatBits .mul .f64 a c=some r/\J4j r:=by
 obtain⟨n,q,e2,hn⟩:=hc
 have e:floatBits .mul .f64 a c=((rd a).product (rd c)).map Ieee.double.write:=rfl;rcases Jkn ha with⟨s,m,p,e1⟩|⟨s,e1⟩
 ·rw[e1,e2] at e
  exact⟨_,e,J5y rfl⟩
 ·rw[e1,e2] at e
  simp only[Ieee.Datum.product,if_neg hn,Option.map_some] at e;exact⟨_,e,J5y rfl⟩
theorem Jsm (ha:J4j a) (hc:Jz3 c):∃r,floatBits .quo .f64 a c=some r/\J4j r:=by
 obtain⟨n,q,e2,hn⟩:=hc
 have e:floatBits .quo .f64 a c=((rd a).quotient (Ieee.double.fractionBits+2) (rd c)).map Ieee.double.write:=rfl;rcases Jkn ha with⟨s,m,p,e1⟩|⟨s,e1⟩
 ·rw[e1,e2] at e
  simp only[Ieee.Datum.quotient,if_neg hn,Option.map_some] at e;exact⟨_,e,J5y rfl⟩
 ·rw[e1,e2] at e
  exact⟨_,e,J5y rfl⟩
theorem Jra (h:J4j a):J4j (Jqd a):=by
 have h1:=h.lt;have h2:=h.le;rw[Jok h1];split<;>exact⟨by omega,by omega⟩
theorem Jqq (n:Int):J4j (floatOfInt .f64 n):=Jeh _ _ _
def f10 (i:Nat):Nat:=floatOfInt .f64 ((10 ^i:Nat):Int)
theorem Joj {i:Nat} (h:i<23):Jz3 (f10 i):=by
 have:∀i:Fin 23,∃m p,rd (f10 i.1)= .number false m p/\m≠0:=by
  intro i
  have hall:(List.range 23).all (fun i=>match rd (f10 i) with| .number false m _=>decide (m≠0)|_=>false)=true:=by decide+kernel
  have h1:=List.all_eq_true.1 hall i.1 (by simp[i.2])
  revert h1
  cases rd (f10 i.1) with
  |number s m p=>cases s<;>simp
  |infinity s=>simp
  |nan s f=>simp
 exact this ⟨i,h⟩
def Jst (k:Int):Value:=if k=0 then .nilIface else .iface 289 (.int .i64 k)
def Jo5 (w0:World) (r:Hp) (e:Ending) (w':World):Prop:=∃(b:Nat) (k:Int),b<18446744073709551616/\(k=0\/k=1\/k=2)/\e= .returned (.tuple #[.float .f64 b,Jst k])/\J3 w0 [] w' r
theorem toNat_lt {x:Int} (h:0<=x/\x<18446744073709551616):x.toNat<18446744073709551616:=by omega
theorem Jkc (hS:J3 w0 [] w r) (m:Int) (hm0:0<=m) (hm1:m<18446744073709551616) (e:Int) (h0: -5000<=e) (h1:e<=5000):
 Calls Tryz.prog 288 #[.int .u64 m,.int .i64 e] w (Jo5 w0 r):=by
 have hf:=fun n w=>J9w n w
 have hS:=hid hS;by_cases hb:(bits .and .u64 m 4503599627370496==0)=true
 ·go_enter Tryz.func288,Tryz.ntmps288
  go_wp2_with fail;go_ret2;exact⟨_,0,toNat_lt ⟨hm0,hm1⟩,.inl rfl,rfl,hS.out⟩
 ·replace hb:(bits .and .u64 m 4503599627370496==0)=false:=Bool.eq_false_iff.2 hb
  by_cases he:972<=e
  ·go_enter Tryz.func288,Tryz.ntmps288
   go_wp2_with fail;go_ret2;exact⟨_,1,toNat_lt (J31 _),.inr (.inl rfl),rfl,hS.out⟩
  ·go_enter Tryz.func288,Tryz.ntmps288
   go_wp2_with fail;go_ret2;exact⟨_,0,toNat_lt (J31 _),.inl rfl,rfl,hS.out⟩
theorem Jkh (hS:J3 w0 [] w r) (hF:J49 w0) (d:Nat) (hd:d<18446744073709551616) (p:Int) (hp0: -345<=p) (hp1:p<=310) (sg:Int):
 Calls Tryz.prog 262 #[.int .u64 d,.int .i64 p,.int .u64 sg] w (Jo5 w0 r):=by
 obtain⟨L,hL,hL2⟩:∃L,Lib.bitLen d=L/\L<=64:=by
  rcases Nat.eq_zero_or_pos d with h|h
  ·subst h;exact⟨0,rfl,by decide⟩
  ·exact⟨_,rfl,(Jfm (k:=64) h hd (by decide)).2.1⟩
 obtain⟨sh,hsh⟩:∃sh,sh=64 - L:=⟨_,rfl⟩
 have hlen:∀w',Hid (Calls Tryz.prog 129 #[.int .u64 (d:Int)] w' fun e w''=>e= .returned (.int .i64 (64 - (sh:Int)))/\w''=w'):=fun w'=>hid (by
  have:=Tryz.bits_Len64 (d:Int) w' (by omega) (by omega)
  rw[Int.toNat_natCast,hL] at this;have e1:(L:Int)=64 - (sh:Int):=by omega
  rw[e1] at this;exact this)
 have hsh64:sh<=64:=by omega
 obtain⟨lp,hlp⟩:∃lp,p*108853/32768=lp:=⟨_,rfl⟩
 have hl2:=fun w'=>hid (J4w p (by omega) (by omega) w')
 rw[hlp] at hl2;have hlp0: -1200<=lp:=by omega
 have hlp1:lp<=1100:=by omega
 obtain⟨E,hE⟩:∃E,min 1074 (53 - (64 - (sh:Int)) - lp)=E:=⟨_,rfl⟩
 have hE1:E<=1074:=by omega
 have hE2:E<=53 - (64 - (sh:Int)) - lp:=by omega
 have hE3: -2000<=E:=by omega
 obtain⟨s,hs⟩:∃s,-(E - (sh:Int)+lp+3)=s:=⟨_,rfl⟩
 have hs8:8<=s:=by omega
 have g3:64 - (64 - (sh:Int))=sh:=by omega
 obtain⟨x,hx⟩:∃x,(d*2 ^sh)%18446744073709551616=x:=⟨_,rfl⟩
 have hx64:x<18446744073709551616:=by rw[<-hx];exact Nat.mod_lt _ (by decide)
 have g4:IntKind.u64.wrap ((d:Int)*2 ^sh)=(x:Int):=by
  rw[show(d:Int)*2 ^sh=((d*2 ^sh:Nat):Int) by simp,<-hx,IntKind.wrap_u64];omega
 have S1:=hid (hS.alloc (.cells #[.int .u64 0,.int .u64 0,.int .i64 0] 366));have hpi:(((p+348).toNat:Nat):Int) - 348=p:=by omega
 have hpre:=J92 S1.out hF (E - (sh:Int)) (by omega) (by omega) (p+348).toNat (by omega) lp (by omega) (by omega)
 obtain⟨b1,b2,b3⟩:=Jbf (i:=(p+348).toNat) (by omega)
 rw[hpi] at hpre b1 b2 b3;rw[hs] at hpre;have hf:=fun n w=>J9w n w
 replace hpre:=hid hpre;replace hE:=hid hE;replace hlp:=hid hlp;replace hL:=hid hL;replace hsh:=hid hsh;replace hs:=hid hs;replace hx:=hid hx;replace g4:=hid g4;clear hpi S1 hS;generalize J2r p=H at *;generalize J36 p=Lo at *;have hEr:=hE.out;go_enter Tryz.func262,Tryz.ntmps262;go_wp2_with fail;refine(hlen _).out.mono ?_
 rintro en w' ⟨rfl,rfl⟩;go_wp2_with fail;refine(hl2 _).out.mono ?_
 rintro en w' ⟨rfl,rfl⟩;go_wp2_with (simp only[hEr]);clear hEr;with_reducible refine hpre.out.mono ?_
 rintro en w2 ⟨rfl,S2⟩;generalize w'.heap.size=b at S2⊢;have d2:=J2 S2.own.head 2;simp only[List.getElem?_toArray,List.getElem?_cons_succ,List.getElem?_cons_zero] at d2;replace S2:=hid S2;clear hpre;by_cases hs64:64<=s
 ·go_wp2_with fail
  go_ret2;exact⟨_,0,toNat_lt (J31 _),.inl rfl,rfl,S2.out.less (List.sublist_cons_self _ _)⟩
 ·have hs7:s<64:=by omega
  obtain⟨sn,hsn⟩:∃sn:Nat,s=(sn:Int):=⟨s.toNat,by omega⟩
  have hu:=Jpe (hi:=H) (lo:=Lo) (s:=sn) (by rw[<-hsn];exact S2.out) x hx64 b2 b3 (by omega)
  rw[<-hsn] at hu;have hub:=Jvm (lo:=Lo) (s:=sn) hx64 b2 (by omega)
  generalize usc x H Lo sn=u at hu hub;have hub':u<9223372036854775808:=hub;have hand:=hid (Jzi u (by omega))
  replace hu:=hid hu;replace hsn:=hid hsn;clear b1 b2 b3 hx64 hub;have g4':=g4.out;have um:=fun w=>hid (Jxb w)
  have hrt:∀(w':World),J3 w0 [] w' ((b,J1y H Lo s)::r)->J3 w0 [] w' r:=fun w' h=>h.less (List.sublist_cons_self _ _)
  replace hrt:=hid hrt;go_wp2_with fail;with_reducible refine hu.out.mono ?_
  rintro en w3 ⟨rfl,S3⟩;replace S3:=hid S3;clear hu S2 d2 g4';go_wp2_with fail;with_reducible refine(um _).out.mono ?_
  rintro en w4 ⟨rfl,rfl⟩;by_cases hbig:36028797018963966<=u
  ·have t1:decide ((36028797018963966:Int)<=(u:Int))=true:=by simp;omega
   have t2:(36028797018963966:Int)<=(u:Int):=by omega
   have hb2:=fun w=>hid (show Calls Tryz.prog 246 #[.bool true] w (fun e w'=>e= .returned (.int .i64 1)/\w'=w) from Jfn true w)
   have hand2:=hand.out;have hor:=hid (bits_or_u64_nat (u/2) (u%2) (by omega) (by omega))
   have hv:(u/2|||u%2)<9223372036854775808:=Nat.or_lt_two_pow (n:=63) (by omega) (by omega)
   have hdv:(u:Int)/2=((u/2:Nat):Int):=by omega
   obtain⟨a1,ha1⟩:∃a,u/2=a:=⟨_,rfl⟩
   obtain⟨a2,ha2⟩:∃a,u%2=a:=⟨_,rfl⟩
   obtain⟨v,hv'⟩:∃v,a1|||a2=v:=⟨_,rfl⟩
   rw[ha1,ha2] at hor hv;rw[ha1] at hdv;rw[ha2] at hand2;rw[hv'] at hor hv;have hor2:=hor.out;have hro:=fun w=>hid (J46 v (by omega) w)
   replace ha1:=hid ha1;replace ha2:=hid ha2;replace hv':=hid hv';go_wp2_with fail;with_reducible refine(hb2 _).out.mono ?_
   rintro en w5 ⟨rfl,rfl⟩;go_wp2_with fail;with_reducible refine(hro _).out.mono ?_
   rintro en w6 ⟨rfl,rfl⟩;have hpk:=fun m h1 h2=>hid (Jkc S3.out m h1 h2 (-(E - 1)) (by omega) (by omega))
   clear hdv hand2 hor2 t1 t2 hb2;go_wp2_with fail;with_reducible refine(hpk _ (K0 _ (.inr rfl) _ _).1 (K0 _ (.inr rfl) _ _).2).out.mono ?_
   rintro en w7 ⟨fb,fk,hfb,hfk,rfl,S7⟩;replace S7:=hid S7;replace hfk:=hid hfk;go_wp2_with fail;go_ret2;exact⟨fb,fk,hfb,hfk.out,rfl,hrt.out _ S7.out⟩
  ·have t1:decide ((36028797018963966:Int)<=(u:Int))=false:=by simp;omega
   have t2:¬(36028797018963966:Int)<=(u:Int):=by omega
   have hb2:=fun w=>hid (show Calls Tryz.prog 246 #[.bool false] w (fun e w'=>e= .returned (.int .i64 0)/\w'=w) from Jfn false w)
   have hand2:=hand.out;have hor:=hid (bits_or_u64_nat u (u%2) (by omega) (by omega))
   have hv:(u|||u%2)<9223372036854775808:=Nat.or_lt_two_pow (n:=63) (by omega) (by omega)
   obtain⟨a2,ha2⟩:∃a,u%2=a:=⟨_,rfl⟩
   obtain⟨v,hv'⟩:∃v,u|||a2=v:=⟨_,rfl⟩
   rw[ha2] at hor hv hand2;rw[hv'] at hor hv;have hor2:=hor.out;have hro:=fun w=>hid (J46 v (by omega) w)
   replace ha2:=hid ha2;replace hv':=hid hv';go_wp2_with fail;with_reducible refine(hb2 _).out.mono ?_
   rintro en w5 ⟨rfl,rfl⟩;go_wp2_with fail;with_reducible refine(hro _).out.mono ?_
   rintro en w6 ⟨rfl,rfl⟩;have hpk:=fun m h1 h2=>hid (Jkc S3.out m h1 h2 (-E) (by omega) (by omega))
   clear hand2 hor2 t1 t2 hb2;go_wp2_with fail;with_reducible refine(hpk _ (K0 _ (.inr rfl) _ _).1 (K0 _ (.inr rfl) _ _).2).out.mono ?_
   rintro en w7 ⟨fb,fk,hfb,hfk,rfl,S7⟩;replace S7:=hid S7;replace hfk:=hid hfk;go_wp2_with fail;go_ret2;exact⟨fb,fk,hfb,hfk.out,rfl,hrt.out _ S7.out⟩
structure Joa (w:World):Prop where
 ten:∃pb po pc,w.cell? ⟨13,0,none⟩=some (.slice (some ⟨pb,po,none⟩) 23 pc)/\∀i,i<23->w.cell? ⟨pb,po+i,none⟩=some (.float .f64 (f10 i))
def K03 (w:World) (e:Ending) (w':World):Prop:=∃(b:Nat) (ok:Bool),b<18446744073709551616/\e= .returned (.tuple #[.float .f64 b,.bool ok])/\w'=w
theorem Jq4 (hS:J3 w0 [] w r) (hI:Jim w0) (hT:Joa w0) (d:Nat) (p:Int) (hp0: -100000<=p) (hp1:p<=100000) (ng:Bool):
 Calls Tryz.prog 261 #[.int .u64 d,.int .i64 p,.bool ng] w (K03 w):=by
 have i0:=K4 hS hI.c0;obtain⟨pb,po,pc,q0,qk⟩:=hT.ten
 have q0:=K4 hS q0;have qk:=fun i h=>K4 hS (qk i h)
 have hn0:=Jqq (d:Int);obtain⟨f0,hf0⟩:∃f,floatOfInt .f64 (d:Int)=f:=⟨_,rfl⟩
 rw[hf0] at hn0;have hun:=Jgo f0
 have hmul:∀f i,J4j f->i<23->∃r,J4j r/\∀t w,(binOp .mul t (.float .f64 f) (.float .f64 (f10 i))).run Tryz.prog w= .ok (.float .f64 r) w:=fun f i hf hi=>by
  obtain⟨r,h,hr⟩:=Ju2 hf (Joj hi)
  exact⟨r,hr,fun t w=>run_float_arith w .mul t .f64 f (f10 i) r h⟩
 have hdiv:∀f i,J4j f->i<23->∃r,J4j r/\∀t w,(binOp .quo t (.float .f64 f) (.float .f64 (f10 i))).run Tryz.prog w= .ok (.float .f64 r) w:=fun f i hf hi=>by
  obtain⟨r,h,hr⟩:=Jsm hf (Joj hi)
  exact⟨r,hr,fun t w=>run_float_arith w .quo t .f64 f (f10 i) r h⟩
 replace qk:=hid qk;replace hmul:=hid hmul;replace hdiv:=hid hdiv;replace hn0:=hid hn0;clear hS hI hT;by_cases hd:d<4503599627370496
 ·have hd1:((d:Int)/4503599627370496 !=0)=false:=by simp;omega
  have hd2:(d:Int)/4503599627370496=0:=by omega
  go_enter Tryz.func261,Tryz.ntmps261;go_upto_if 15 with fail;go_cut [6] from 16 to 17 (fun s6 wx=>∃f,s6= .float .f64 f/\Hid (J4j f)/\wx=w)
  case first=>
   cases ng with
   |true=>
    go_wp2_with fail;go_meet
    exact⟨_,rfl,hid (Jra hn0.out),rfl⟩
   |false=>
    go_wp2_with fail;go_meet
    exact⟨_,rfl,hn0,rfl⟩
  case rest=>
   obtain⟨f,rfl,hf,rfl⟩:=hcut
   replace hf0:=hid hf0;clear hun hd1 hd2 i0 hn0;by_cases hz:p=0
   ·subst hz
    go_wp2_with fail;go_ret2;exact⟨_,_,hf.out.lt,rfl,rfl⟩
   ·have hz1:(p==0)=false:=by simp;exact hz
    replace hz:=hid hz;by_cases hpos:0<p
    ·by_cases h37:p<=37
     ·obtain⟨i,rfl⟩:∃i:Nat,p=(i:Int):=⟨p.toNat,by omega⟩
      by_cases h22:22<i
      ·obtain⟨j,hj⟩:∃j,(i:Int) - 22=((j:Nat):Int):=⟨i - 22,by omega⟩
       have hj9:j<23:=by omega
       have hj8:(j:Int)<23:=by omega
       have qj:=qk.out j hj9;have q22:=qk.out 22 (by decide)
       obtain⟨r1,hr1,hop1⟩:=hmul.out f j hf.out hj9
       obtain⟨r2,hr2,hop2⟩:=hmul.out r1 22 hr1 (by decide)
       have h22':(22:Int)<(i:Int):=by omega
       replace hr1:=hid hr1;replace hr2:=hid hr2;generalize f10 22=F22 at q22 hop2;generalize f10 j=Fj at qj hop1;cases g1:(FloatKind.f64.format.order r1 4831355200913801216==some .gt) with
       |true=>
        go_wp2_with (simp only[hop1]);go_ret2;exact⟨_,_,hr1.out.lt,rfl,rfl⟩
       |false=>
        cases g2:(FloatKind.f64.format.order r1 14054727237768577024==some .lt) with
        |true=>
         go_wp2_with (simp only[hop1]);go_ret2;exact⟨_,_,hr1.out.lt,rfl,rfl⟩
        |false=>
         go_wp2_with (first|simp only[hop1]|simp only[hop2])
         go_ret2;exact⟨_,_,hr2.out.lt,rfl,rfl⟩
      ·have h22':¬(22:Int)<(i:Int):=by omega
       have hi9:i<23:=by omega
       have hi8:(i:Int)<23:=by omega
       have qj:=qk.out i hi9;obtain⟨r1,hr1,hop1⟩:=hmul.out f i hf.out hi9
       replace hr1:=hid hr1;generalize f10 i=Fj at qj hop1;cases g1:(FloatKind.f64.format.order f 4831355200913801216==some .gt) with
       |true=>
        go_wp2_with (simp only[hop1]);go_ret2;exact⟨_,_,hf.out.lt,rfl,rfl⟩
       |false=>
        cases g2:(FloatKind.f64.format.order f 14054727237768577024==some .lt) with
        |true=>
         go_wp2_with (simp only[hop1]);go_ret2;exact⟨_,_,hf.out.lt,rfl,rfl⟩
        |false=>
         go_wp2_with (simp only[hop1]);go_ret2;exact⟨_,_,hr1.out.lt,rfl,rfl⟩
     ·have hneg:¬p<0:=by omega
      go_wp2_with fail;go_ret2;exact⟨_,_,hf.out.lt,rfl,rfl⟩
    ·have hneg:p<0:=by have:=hz.out;omega
     by_cases h22: -22<=p
     ·obtain⟨i,hi⟩:∃i:Nat,-p=(i:Int):=⟨(-p).toNat,by omega⟩
      obtain rfl:p= -(i:Int):=by omega
      have hi9:i<23:=by omega
      have hi8:(i:Int)<23:=by omega
      have hi7:0<i:=by omega
      have hi6:(i:Int)<=22:=by omega
      have qj:=qk.out i hi9;obtain⟨r1,hr1,hop1⟩:=hdiv.out f i hf.out hi9
      replace hr1:=hid hr1;generalize f10 i=Fj at qj hop1;replace hi:=hid hi;go_wp2_with (simp only[hop1]);go_ret2;exact⟨_,_,hr1.out.lt,rfl,rfl⟩
     ·go_wp2_with fail
      go_ret2;exact⟨_,_,hf.out.lt,rfl,rfl⟩
 ·have hd1:((d:Int)/4503599627370496 !=0)=true:=by simp;omega
  replace hf0:=hid hf0;go_enter Tryz.func261,Tryz.ntmps261;go_wp2_with fail;go_ret2;exact⟨_,_,by decide,rfl,rfl⟩
end Go.Proofs.YtncbcaabanoeoaaGreatDoor
