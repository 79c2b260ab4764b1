/-
DERIVED: THE SHELF's CONTRACTS AT THIS DUMP, IN PLAIN WORDS (tools/lay-plain.mjs out of 'TryzShelfS.lean', which tools/lay-shelf.mjs wrote): THE SAME DECLARATIONS UNDER THE SAME NAMES: 'import', 'namespace', 'open', 'def', 'theorem' AND NOTHING ELSE: no command of the shelf's: FOR A HAND-IN. Each laying: the table of numbers ('.._ren') and one theorem, a field a fact of the dump's own or the kernel's comparison; each contract: ONE APPLICATION.
-/
import Derived.Ground.NamesProg
import Derived.Shelf.Slices.In.SortAlone
import Derived.Shelf.Slices.In.SortNone
import Derived.Sort.EveryDepth
import Derived.Sort.Grow
import Derived.Test.YtncbcaabanoeoaaGreatDoorProg
import Derived.Test.YtncbcaabanoeoaaGreatDoorQ43
set_option linter.unusedVariables false
set_option linter.unusedSimpArgs false
set_option maxRecDepth 100000
set_option maxHeartbeats 8000000
namespace Go.Proofs
open Go.Shelf
def Tryz.laysSort_ren:Go.Shelf.Ren:=⟨fun|190=>29|125=>67|258=>66|128=>128|129=>129|302=>119|303=>120|304=>121|305=>122|306=>123|307=>124|308=>125|309=>126|310=>127|333=>169|329=>170|330=>171|334=>172|335=>173|336=>174|344=>208|n=>n,fun|31=>23|9=>9|3=>3|46=>132|0=>0|51=>190|53=>90|4=>4|183=>183|182=>182|131=>87|5=>5|218=>239|222=>243|228=>275|229=>276|n=>n,fun|n=>n⟩
theorem Tryz.laysSort:Go.Proofs.Lays.n190 Tryz.prog Tryz.laysSort_ren:={
 mixed:=by kernel_rfl
 f125:=Tryz.func67.trans (congrArg some (by kernel_rfl))
 f128:=Tryz.func128.trans (congrArg some (by kernel_rfl))
 f129:=Tryz.func129.trans (congrArg some (by kernel_rfl))
 f190:=Tryz.func29.trans (congrArg some (by kernel_rfl))
 f258:=Tryz.func66.trans (congrArg some (by kernel_rfl))
 f302:=Tryz.func119.trans (congrArg some (by kernel_rfl))
 f303:=Tryz.func120.trans (congrArg some (by kernel_rfl))
 f304:=Tryz.func121.trans (congrArg some (by kernel_rfl))
 f305:=Tryz.func122.trans (congrArg some (by kernel_rfl))
 f306:=Tryz.func123.trans (congrArg some (by kernel_rfl))
 f307:=Tryz.func124.trans (congrArg some (by kernel_rfl))
 f308:=Tryz.func125.trans (congrArg some (by kernel_rfl))
 f309:=Tryz.func126.trans (congrArg some (by kernel_rfl))
 f310:=Tryz.func127.trans (congrArg some (by kernel_rfl))
 f329:=Tryz.func170.trans (congrArg some (by kernel_rfl))
 f330:=Tryz.func171.trans (congrArg some (by kernel_rfl))
 f333:=Tryz.func169.trans (congrArg some (by kernel_rfl))
 f334:=Tryz.func172.trans (congrArg some (by kernel_rfl))
 f335:=Tryz.func173.trans (congrArg some (by kernel_rfl))
 f336:=Tryz.func174.trans (congrArg some (by kernel_rfl))
 f344:=Tryz.func208.trans (congrArg some (by kernel_rfl))
 t0:=Tryz.underlying0
 a0:=Tryz.isAgg0
 z0:=Tryz.sizeOf0
 v0:=Tryz.zeroValue0
 t3:=Tryz.underlying3
 a3:=Tryz.isAgg3
 z3:=Tryz.sizeOf3
 v3:=Tryz.zeroValue3
 t4:=Tryz.underlying4
 a4:=Tryz.isAgg4
 z4:=Tryz.sizeOf4
 v4:=Tryz.zeroValue4
 t5:=Tryz.underlying5
 a5:=Tryz.isAgg5
 z5:=Tryz.sizeOf5
 v5:=Tryz.zeroValue5
 t9:=Tryz.underlying9
 a9:=Tryz.isAgg9
 z9:=Tryz.sizeOf9
 v9:=Tryz.zeroValue9
 t31:=Tryz.underlying23
 a31:=Tryz.isAgg23
 z31:=Tryz.sizeOf23
 v31:=Tryz.zeroValue23
 t46:=Tryz.underlying132
 a46:=Tryz.isAgg132
 z46:=Tryz.sizeOf132
 v46:=Tryz.zeroValue132
 t51:=Tryz.underlying190
 a51:=Tryz.isAgg190
 z51:=Tryz.sizeOf190
 v51:=Tryz.zeroValue190
 t53:=Tryz.underlying90
 a53:=Tryz.isAgg90
 z53:=Tryz.sizeOf90
 v53:=Tryz.zeroValue90
 t131:=Tryz.underlying87
 a131:=Tryz.isAgg87
 z131:=Tryz.sizeOf87
 v131:=Tryz.zeroValue87
 t182:=Tryz.underlying182
 a182:=Tryz.isAgg182
 z182:=Tryz.sizeOf182
 v182:=Tryz.zeroValue182
 t183:=Tryz.underlying183
 a183:=Tryz.isAgg183
 z183:=Tryz.sizeOf183
 v183:=Tryz.zeroValue183
 t218:=Tryz.underlying239
 a218:=Tryz.isAgg239
 z218:=Tryz.sizeOf239
 v218:=Tryz.zeroValue239
 t222:=Tryz.underlying243
 a222:=Tryz.isAgg243
 z222:=Tryz.sizeOf243
 v222:=Tryz.zeroValue243
 t228:=Tryz.underlying275
 a228:=Tryz.isAgg275
 z228:=Tryz.sizeOf275
 v228:=Tryz.zeroValue275
 t229:=Tryz.underlying276
 a229:=Tryz.isAgg276
 z229:=Tryz.sizeOf276
 v229:=Tryz.zeroValue276}
end Go.Proofs
namespace Go.Proofs.YtncbcaabanoeoaaGreatDoor
open Go Go.RowKit Go.Shelf Go.Sort
variable {w:World}
theorem K1v (blk off cap:Nat) (zs:List (List UInt8)) (w:World) (hH:Holds encStr w blk off zs.toArray) (hblk:blk<w.heap.size) (hsz:zs.length<4611686018427387904):
 Calls Tryz.prog 29 #[.slice (some ⟨blk,off,none⟩) zs.length cap] w fun e w'=>
  e= .returned (.tuple #[])/\∃n os,w'=grow (putRow encStr (Sort.ahead w n) blk off (zs.mergeSort fun x y=>decide (x<=y)).toArray) os:=
 calls_of_every_depth fun D=>AnyS.slices_Sort_string_alone Tryz.laysSort D blk off cap zs w hH hblk hsz
theorem J3.mapB {w':World} {l l':Hp} {b:Nat} {cs:Array Value} {t:TypeId} {fr:Nat×Nat} (h:J3 w l w' ((b,.cells cs t fr)::l')) (f:Array Value->Array Value):
 J3 w l (mapBlock w' b f) ((b,.cells (f cs) t fr)::l'):=by
 have hb:=h.own.head;refine h.put (by show(w'.heap.modify b (onCells f)).size=_;rw[Array.size_modify]) ?_ (fun k hk=>?_) rfl rfl
 ·show(w'.heap.modify b (onCells f))[b]? =_
  rw[Array.getElem?_modify,if_pos rfl,hb];rfl
 ·show(w'.heap.modify b (onCells f))[k]? =_
  rw[Array.getElem?_modify,if_neg (Ne.symm hk)]
theorem K1q {w0:World} {r sl:Hp} {v:Value} {ks:List ByteArray} (hS:J3 w0 [] w (sl++r)) (hv:SliceHp 1 9 v ks.length (ks.map Value.string) sl) (hl:ks.length<=1000000000000) (h0:ks≠[]):
 Calls Tryz.prog 29 #[v] w fun e w'=>e= .returned (.tuple #[])/\∃(ks':List ByteArray) (sl':Hp),ks'.Perm ks/\SliceHp 1 9 v ks.length (ks'.map Value.string) sl'/\J3 w0 [] w' (sl'++r):=by
 obtain⟨n,hn⟩:∃n,n=ks.length:=⟨_,rfl⟩
 obtain⟨xs,hx⟩:∃xs,xs=ks.map Value.string:=⟨_,rfl⟩
 rw[<-hn,<-hx] at hv;have hgoal:∀ks':List ByteArray,ks'.map Value.string=ks'.map Value.string:=fun _=>rfl
 cases hv with
 |nil=>exact absurd (List.eq_nil_of_length_eq_zero hn.symm) h0
 |laid g _ cap _ rest h1 h2 h3 h4=>
  subst hx;obtain⟨zs,hz⟩:∃zs:List (List UInt8),zs=ks.map fun s=>s.data.toList:=⟨_,rfl⟩
  have hzl:zs.length=ks.length:=by rw[hz,List.length_map]
  have hzk:∀j,j<ks.length->encStr (zs.toArray[j]!)=Value.string ks[j]! :=fun j hj=>by
   rw[getElem!_pos zs.toArray j (by simp;omega),getElem!_pos ks j hj]
   simp[hz,encStr]
  have hb:w.heap[g]? =some (.cells (ks.map Value.string++rest).toArray 9 (0,0)):=hS.own.head
  have hH:Holds encStr w g 0 zs.toArray:=fun j hj=>by
   have hj':j<ks.length:=by simpa[hzl] using hj
   refine⟨?_,Jg hb _⟩
   rw[Nat.zero_add,hzk j hj',J2 hb,List.getElem?_toArray,List.getElem?_append_left (by simpa using hj'),List.getElem?_map,List.getElem?_eq_getElem hj',getElem!_pos ks j hj']
   rfl
  have hc:=K1v g 0 cap zs w hH (Jf hb) (by omega)
  rw[hzl,<-hn] at hc;obtain⟨ys,hys⟩:∃ys:List (List UInt8),ys=List.mergeSort zs (fun x y=>decide (x<=y)):=⟨_,rfl⟩
  rw[<-hys] at hc;have hperm:ys.Perm zs:=by rw[hys];exact List.mergeSort_perm _ _
  have hyl:ys.length=ks.length:=by rw[hperm.length_eq,hzl]
  refine hc.mono ?_;rintro e w' ⟨rfl,n2,os,rfl⟩
  have hzb:(zs.map fun l:List UInt8=>(⟨l.toArray⟩:ByteArray))=ks:=by
   rw[hz,List.map_map];conv=>rhs;rw[<-List.map_id ks]
   refine List.map_congr_left fun s _=>?_
   simp
  refine⟨rfl,ys.map (fun l:List UInt8=>(⟨l.toArray⟩:ByteArray)),[(g,.cells (((ys.map (fun l:List UInt8=>(⟨l.toArray⟩:ByteArray))).map Value.string)++rest).toArray 9 (0,0))],by rw[<-hzb];exact hperm.map _,hn▸ .laid g n cap ((ys.map (fun l:List UInt8=>(⟨l.toArray⟩:ByteArray))).map Value.string) rest (by rw[List.length_map,List.length_map];omega) h2 h3 h4,?_⟩
  have hs:=((hS.drewN n2).mapB (Go.Sort.putCells encStr 0 ys.toArray))
  have e1:Go.Sort.putCells encStr 0 ys.toArray (ks.map Value.string++rest).toArray=((ys.map (fun l:List UInt8=>(⟨l.toArray⟩:ByteArray))).map Value.string++rest).toArray:=by
   apply Array.ext_getElem?
   intro k
   simp only[Go.Sort.putCells,Array.getElem?_mapIdx,List.getElem?_toArray,Nat.zero_le,true_and,Nat.zero_add,List.size_toArray,Nat.sub_zero];by_cases hk:k<ys.length
   ·rw[List.getElem?_append_left (l₁:=ks.map Value.string) (by rw[List.length_map];omega),List.getElem?_append_left (l₁:=(ys.map (fun l:List UInt8=>(⟨l.toArray⟩:ByteArray))).map Value.string) (by rw[List.length_map,List.length_map];omega),List.getElem?_map,List.getElem?_map,List.getElem?_map,List.getElem?_eq_getElem (l:=ks) (by omega),List.getElem?_eq_getElem (l:=ys) hk]
    simp only[Option.map_some,if_pos hk];rw[getElem!_pos ys.toArray k (by simpa using hk)]
    simp[encStr]
   ·rw[List.getElem?_append_right (l₁:=ks.map Value.string) (by rw[List.length_map];omega),List.getElem?_append_right (l₁:=(ys.map (fun l:List UInt8=>(⟨l.toArray⟩:ByteArray))).map Value.string) (by rw[List.length_map,List.length_map];omega)]
    simp only[List.length_map,hyl,if_neg hk];have hk2:¬k<ks.length:=by omega
    cases rest[k - ks.length]? <;>simp[hk2]
  rw[e1] at hs;have hs2:=hs.growN 0 os;exact hs2
theorem K1p {w0:World} {r sl:Hp} {v:Value} {ks:List ByteArray} (hS:J3 w0 [] w (sl++r)) (hv:SliceHp 1 9 v ks.length (ks.map Value.string) sl) (hl:ks.length<=1000000000000):
 Calls Tryz.prog 29 #[v] w fun e w'=>e= .returned (.tuple #[])/\∃(ks':List ByteArray) (sl':Hp),ks'.Perm ks/\SliceHp 1 9 v ks.length (ks'.map Value.string) sl'/\J3 w0 [] w' (sl'++r):=by
 by_cases h0:ks=[]
 ·subst h0
  have hv0:=hv;obtain⟨n,hn⟩:∃n,n=([]:List ByteArray).length:=⟨_,rfl⟩
  obtain⟨xs,hx⟩:∃xs,xs=([]:List ByteArray).map Value.string:=⟨_,rfl⟩
  rw[<-hn,<-hx] at hv
  have hsh:∃p cap,v= .slice p 0 cap:=by
   cases hv with
   |nil=>exact⟨_,_,rfl⟩
   |laid g _ cap _ rest h1 h2 h3 h4=>exact⟨_,cap,by rw[hn];rfl⟩
  obtain⟨p,cap,rfl⟩:=hsh
  have hc:Calls Tryz.prog 29 #[.slice p 0 cap] w fun e w'=>e= .returned (.tuple #[])/\w'=w:=calls_of_every_depth fun D=>AnyS.slices_Sort_string_none_alone Tryz.laysSort D p cap w
  refine hc.mono ?_;rintro e w' ⟨rfl,rfl⟩;exact⟨rfl,[],sl,.refl _,hv0,hS⟩
 ·exact K1q hS hv hl h0
end Go.Proofs.YtncbcaabanoeoaaGreatDoor
