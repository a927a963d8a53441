/- Part 24 of a proof: contracts of the functions that the law reaches. No condition. -/
import Derived.Shelf.Sort.Plain
import Derived.Test.YtandhagfhppgaaaGreatDoorG1
import Derived.Test.YtandhagfhppgaaaGreatDoorG15
import Derived.Test.YtandhagfhppgaaaGreatDoorG18
set_option linter.all false
set_option maxRecDepth 100000
set_option maxHeartbeats 16000000
section
namespace Go.Proofs
open Go.Shelf
def Tryz.F9:Go.Shelf.Ren:=⟨fun | 189=>334|125=>257|257=>357|128=>309|129=>199|294=>365|295=>366|296=>367|297=>368|298=>369|299=>370|216=>131|300=>371|301=>372|328=>374|329=>339|330=>340|331=>375|332=>376|215=>184|343=>377|n=>n,fun | 28=>44|3=>3|46=>95|0=>0|51=>43|53=>281|4=>4|183=>383|182=>382|131=>150|5=>5|9=>9|218=>412|222=>416|228=>431|229=>69|n=>n,fun | n=>n⟩
theorem Tryz.lays189:Go.Proofs.Lays.n189 Tryz.prog Tryz.F9:={
 mixed:=by kernel_rfl
 f125:=Tryz.func257.trans (congrArg some (by kernel_rfl))
 f128:=Tryz.func309.trans (congrArg some (by kernel_rfl))
 f129:=Tryz.func199.trans (congrArg some (by kernel_rfl))
 f189:=Tryz.func334.trans (congrArg some (by kernel_rfl))
 f215:=Tryz.func184.trans (congrArg some (by kernel_rfl))
 f216:=Tryz.func131.trans (congrArg some (by kernel_rfl))
 f257:=Tryz.func357.trans (congrArg some (by kernel_rfl))
 f294:=Tryz.func365.trans (congrArg some (by kernel_rfl))
 f295:=Tryz.func366.trans (congrArg some (by kernel_rfl))
 f296:=Tryz.func367.trans (congrArg some (by kernel_rfl))
 f297:=Tryz.func368.trans (congrArg some (by kernel_rfl))
 f298:=Tryz.func369.trans (congrArg some (by kernel_rfl))
 f299:=Tryz.func370.trans (congrArg some (by kernel_rfl))
 f300:=Tryz.func371.trans (congrArg some (by kernel_rfl))
 f301:=Tryz.func372.trans (congrArg some (by kernel_rfl))
 f328:=Tryz.func374.trans (congrArg some (by kernel_rfl))
 f329:=Tryz.func339.trans (congrArg some (by kernel_rfl))
 f330:=Tryz.func340.trans (congrArg some (by kernel_rfl))
 f331:=Tryz.func375.trans (congrArg some (by kernel_rfl))
 f332:=Tryz.func376.trans (congrArg some (by kernel_rfl))
 f343:=Tryz.func377.trans (congrArg some (by kernel_rfl))
 t0:=Tryz.underlying0
 a0:=Tryz.isAgg0
 z0:=Tryz.sizeOf0
 v0:=Tryz.zeroValue0
 t3:=Tryz.underlying3
 a3:=Tryz.isAgg3
 z3:=Tryz.sizeOf3
 v3:=Tryz.zeroValue3
 t4:=Tryz.underlying4
 a4:=Tryz.isAgg4
 z4:=Tryz.sizeOf4
 v4:=Tryz.zeroValue4
 t5:=Tryz.underlying5
 a5:=Tryz.isAgg5
 z5:=Tryz.sizeOf5
 v5:=Tryz.zeroValue5
 t9:=Tryz.underlying9
 a9:=Tryz.isAgg9
 z9:=Tryz.sizeOf9
 v9:=Tryz.zeroValue9
 t28:=Tryz.underlying44
 a28:=Tryz.isAgg44
 z28:=Tryz.sizeOf44
 v28:=Tryz.zeroValue44
 t46:=Tryz.underlying95
 a46:=Tryz.isAgg95
 z46:=Tryz.sizeOf95
 v46:=Tryz.zeroValue95
 t51:=Tryz.underlying43
 a51:=Tryz.isAgg43
 z51:=Tryz.sizeOf43
 v51:=Tryz.zeroValue43
 t53:=Tryz.underlying281
 a53:=Tryz.isAgg281
 z53:=Tryz.sizeOf281
 v53:=Tryz.zeroValue281
 t131:=Tryz.underlying150
 a131:=Tryz.isAgg150
 z131:=Tryz.sizeOf150
 v131:=Tryz.zeroValue150
 t182:=Tryz.underlying382
 a182:=Tryz.isAgg382
 z182:=Tryz.sizeOf382
 v182:=Tryz.zeroValue382
 t183:=Tryz.underlying383
 a183:=Tryz.isAgg383
 z183:=Tryz.sizeOf383
 v183:=Tryz.zeroValue383
 t218:=Tryz.underlying412
 a218:=Tryz.isAgg412
 z218:=Tryz.sizeOf412
 v218:=Tryz.zeroValue412
 t222:=Tryz.underlying416
 a222:=Tryz.isAgg416
 z222:=Tryz.sizeOf416
 v222:=Tryz.zeroValue416
 t228:=Tryz.underlying431
 a228:=Tryz.isAgg431
 z228:=Tryz.sizeOf431
 v228:=Tryz.zeroValue431
 t229:=Tryz.underlying69
 a229:=Tryz.isAgg69
 z229:=Tryz.sizeOf69
 v229:=Tryz.zeroValue69}
open Go.Sort Go.RowKit in
theorem Tryz.slices_Sort_int (blk off cap:Nat)(zs:List Int)(w:World)(hH:Holds (Value.int .i64) w blk off zs.toArray)(hblk:blk<w.heap.size)(hsz:zs.length<4611686018427387904) :
 Calls Tryz.prog 334 #[.slice (some ⟨blk,off,none⟩) zs.length cap] w fun e w' =>
  e=.returned (.tuple #[])∧∃n os,w'=grow (putRow (Value.int .i64) (Sort.ahead w n) blk off (zs.mergeSort fun x y=>decide (x≤y)).toArray) os:=Any.slices_Sort_int Tryz.lays189 blk off cap zs w hH hblk hsz
end Go.Proofs
end
namespace Go.Proofs.YtandhagfhppgaaaGreatDoor
section
open Go.RowKit
theorem tK {b n:Nat}{e:TypeId}{sz:Nat}{cs:Array Value}(hs:cs.size=n*sz)(hn:n≤maxLen){w:World}{F:Nat→Prop}(h:(aF b (.cells cs e (0,0))).P w F):(rowA e sz (.slice (some ⟨b,0,none⟩) n n) n cs.toList).P w F:=by
 refine⟨⟨by simpa using hs,.inr ⟨b,n,cs,rfl,Nat.zero_le _,h.1,Nat.le_refl _,hn,hs,?_⟩⟩,fun k hk=>?_⟩
 ·rw[←hs];exact List.take_of_length_le (by simp)
 ·simp[Value.ownBlock]at hk;rw[←hk];exact h.2
section
variable {w0 w:World}{L:List bV}
open Go.Sort in
theorem yF (H:Has w0 w L)(i:Nat){g n c:Nat}{l:List Int}(hi:L[i]?=some (aT 3 1 encI (.slice (some ⟨g,0,none⟩) n c) l))(hn:n=l.length) :
 Holds (Value.int .i64) w g 0 l.toArray∧g<w.heap.size∧n≤c∧c≤9223372036854775807 ∧
  ∀(l':List Int) (m n':Nat) (os:Array Obj),l'.length=l.length→n'≤l.length→Has w0 (grow (putRow (Value.int .i64) (Sort.ahead w m) g 0 l'.toArray) os) (L.set i (aT 3 1 encI (.slice (some ⟨g,0,none⟩) n' c) (l'.take n'))):=by
 subst hn;obtain⟨cur,hg,hnc,hcm,hsz,htk,hxl⟩:=nX H i hi;have hgs:g<w.heap.size:=(Array.getElem?_eq_some_iff.1 hg).1;have hfm:∀t:List Int,t.flatMap encI=t.map (Value.int .i64):=fun t=>by
  induction t with
  |nil=>rfl
  |cons a t ih=>simp[encI,ih]
 refine⟨fun j hj=>?_,hgs,hnc,by unfold maxLen at hcm;omega,fun l' m n' os hl hn'=>?_⟩
 ·have hj2:j<l.length:=by simpa using hj
  refine⟨?_,aI hg _⟩;rw[aj hg,Nat.zero_add];refine nY htk ?_;rw[hfm,List.getElem?_map,List.getElem?_eq_getElem hj2,getElem!_pos l.toArray j hj];simp
 ·have hat:(grow (putRow (Value.int .i64) (Sort.ahead w m) g 0 l'.toArray) os).heap[g]?=some (.cells (putCells (Value.int .i64) 0 l'.toArray cur) 3 (0,0)):=by
   unfold putRow;rw[Sort.heap_grow_old _ _ (by simpa[mapBlock]using hgs)];simp[mapBlock,Sort.ahead,Array.getElem?_modify,hg,onCells]
  have hsize:w.heap.size≤(grow (putRow (Value.int .i64) (Sort.ahead w m) g 0 l'.toArray) os).heap.size:=by
   unfold putRow Sort.grow mapBlock;simp
  have ht:Touch (fun k=>k=g) w (grow (putRow (Value.int .i64) (Sort.ahead w m) g 0 l'.toArray) os):=⟨rfl,rfl,rfl,hsize,fun q hq hne=>by
   unfold putRow;rw[Sort.heap_grow_old _ _ (by simpa[mapBlock]using hq)];simp[mapBlock,Sort.ahead,Array.getElem?_modify,Ne.symm hne]⟩
  have:=H.AY i hi _ ht _ hat (by simp[putCells,hsz]) n' ((l'.take n').flatMap encI) (by omega) (by
   rw[hfm];apply List.ext_getElem?;intro j;rw[List.getElem?_take,Nat.mul_one];by_cases hj:j<n'
   ·have hjl:j<l'.length:=by omega
    have hjc:j<cur.size:=by omega
    rw[if_pos hj,Array.getElem?_toList,List.getElem?_map,List.getElem?_take_of_lt hj,List.getElem?_eq_getElem hjl];simp only[putCells,Array.getElem?_mapIdx,Array.getElem?_eq_getElem hjc,Option.map_some];rw[if_pos ⟨Nat.zero_le _,by simpa using hjl⟩,Nat.sub_zero,getElem!_pos l'.toArray j (by simpa using hjl)];simp
   ·rw[if_neg hj,List.getElem?_eq_none (by simp;omega)])
  unfold aT;rw[show(l'.take n').length=n' by simp;omega];exact this
end
section
variable {w:World}
theorem iF {fA bA:Option Addr}{fn fc bn bc:Nat}{fl:List Int}{ts:List Tk}(hf:bM w 1 encI (.slice fA fn fc) fl)(hb:bM w 4 kK (.slice bA bn bc) ts)(hok:∀t∈ts,t.ok)(h1:fn≤1000)(h2:bn≤1000)(q:Nat)(hq:q≤3)(fr ln:Int) :
 Calls Tryz.prog 296 #[.agg #[.int .i64 3,.slice fA fn fc,.slice bA bn bc],.int .i64 q,.int .i64 fr,.int .i64 ln] w fun e w'=>∃(t:Int) (s:Nat) (r:Int),e=.returned (.tuple #[.int .i64 t,.int .i64 s,.int .i64 r])∧(s≤7∧s%2^q=0)∧Below w.heap.size w w':=by
 refine named fun R HQ=>?_;have HB:=ah.mk hb;have LB:=ah.mk hb.len;have FD:=ah.mk fun(t1 t2:Int) (W:World) (h:Below w.heap.size w W)=>oH (w:=W) (hf.below h) (hb.below h) hok h1 h2 q hq t1 t2;have Z0:=ah.mk (Nat.zero_mod (2^q));have H0:=ah.mk ((Has.start w).bg (.cells #[.int .i64 3,.slice fA fn fc,.slice bA bn bc] 230));have H1:ah (Has w ((w.alloc (.cells #[.int .i64 3,.slice fA fn fc,.slice bA bn bc] 230)).alloc (.cells #[.int .i64 fr] 3)) [aF w.heap.size (.cells #[.int .i64 3,.slice fA fn fc,.slice bA bn bc] 230),aT 3 1 encI (.slice (some ⟨w.heap.size+1,0,none⟩) 1 1) [fr]]):=⟨by
  have h:=H0.out.bg (.cells #[.int .i64 fr] 3);have h2:=h.imp 1 _ (rowA 3 1 (.slice (some ⟨w.heap.size+1,0,none⟩) 1 1) 1 #[.int .i64 fr].toList) rfl fun F hF=>tK (by rfl) (by decide) (by simpa using hF);simpa[aT,encI]using h2⟩
 clear hf hb hok H0;go_enter Tryz.func296,Tryz.ntmps296;go_wp2_with fail
 go_loopw [11,23] (fun v i wr=>∃(k m:Nat) (A1:Option Addr) (c1:Nat) (l:List Int),v=.slice A1 m c1∧i=.int .i64 k∧k≤bn∧m≤k+1∧1≤m∧ah (m=l.length)∧ah (Has w wr [aF w.heap.size (.cells #[.int .i64 3,.slice fA fn fc,.slice bA bn bc] 230),aT 3 1 encI (.slice A1 m c1) l])) (fun _ i _=>bn-(intOf i).toNat)
 case atStart=>exact⟨0,1,_,1,[fr],rfl,rfl,Nat.zero_le _,by omega,by omega,⟨rfl⟩,H1⟩
 case round =>
  clear H1;obtain⟨k,m,A1,c1,l,rfl,rfl,hk,hmk,hm1,HM,HS⟩:=hrel;by_cases hlt:k<bn
  ·obtain⟨t,ht⟩:∃y,ts[k]?=some y:=⟨_,List.getElem?_eq_getElem (by rw[←LB.out];exact hlt)⟩;obtain⟨gb,hA,gQ⟩:=(HB.out.below HS.out.old).get k t ht;have R1:ah (wr.rangeAt gb (k*4) t.cells.toList):=⟨gQ⟩;have H5:=ah.mk (HS.out.bg (.cells t.cells 292));obtain⟨ti,hti⟩:∃x,x=t.till:=⟨_,rfl⟩;have k3:t.cells[3]?=some (.int .i64 ti):=by rw[hti];rfl
   have lC:=MK t;subst hA;clear gQ ht hti;go_wp2_with (first|(refine aB wr.heap.size rfl rfl 292 (.tmp 13) (.tmp 26) rfl t.cells rfl rfl 292 _ lC rfl t.one ?_;refine ah.out ?_)|(refine aJ rfl 292 (.tmp 25) rfl gb (k*4) rfl t.cells _ R1.out Tryz.underlying292 rfl lC ?_))
   obtain⟨NB,jH⟩:∃NB,NB=wr.heap.size:=⟨_,rfl⟩;obtain⟨W5,pq⟩:∃W5,W5=wr.alloc (.cells t.cells 292):=⟨_,rfl⟩;rw[←jH,←pq]at H5 ⊢;clear pq jH;have f3:W5.cell? ⟨NB,3,none⟩=some (.int .i64 ti):=by rw[aj (H5.out.blk 2 rfl)];exact k3
   have H6:=ah.mk (H5.out.drop 2);refine ah.mk ?_;cases d4:decide (fr<ti)
   ·go_wp2_with fail
    go_roundw
    case rel=>exact⟨k+1,m,A1,c1,l,rfl,by go_num,by omega,by omega,hm1,HM,H6⟩
    case measure=>simp[intOf];omega
   ·go_wp2_with (at_builtin;have _t:=H5.out;clear _t;refine cO 44 (.tmp 31) (.tmp 34) rfl rfl H5.out 1 rfl m HM.out Tryz.underlying44 info3 (by decide) (by omega) rfl rfl ti _ rfl rfl (by simp[Value.oneCell']) ?_;intro A5 c5 w5 h5;have H7:=ah.mk (h5.drop 2);clear h5 H5)
    go_roundw
    case rel=>exact⟨k+1,m+1,A5,c5,l++[ti],by go_num,by go_num,by omega,by omega,by omega,⟨by have:=HM.out;simp;omega⟩,⟨H7.out⟩⟩
    case measure=>simp[intOf];omega
  ·obtain rfl:k=bn:=by omega
   obtain⟨g,rfl,_⟩:=dD HS.out 1 rfl HM.out.symm (by omega);obtain⟨hH,hgs,hmc,hc63,hgo⟩:=yF HS.out 1 rfl HM.out;have hsort:=Any.slices_Sort_int Tryz.lays189 g 0 c1 l wr hH hgs (by have:=HM.out;omega);have SO:ah (Calls Tryz.prog 334 #[.slice (some ⟨g,0,none⟩) m c1] wr fun e w'=>e=.returned (.tuple #[])∧∃l':List Int,l'.length=m∧Has w w' [aF w.heap.size (.cells #[.int .i64 3,.slice fA fn fc,.slice bA k bc] 230),aT 3 1 encI (.slice (some ⟨g,0,none⟩) m c1) l']):=⟨by
    change Calls Tryz.prog 334 _ _ _ at hsort;rw[←HM.out]at hsort;refine hsort.mono fun e w' ⟨he,n1,os,hw⟩=>⟨he,l.mergeSort fun x y=>decide (x≤y),by rw[List.length_mergeSort];exact HM.out.symm,?_⟩;have:=hgo (l.mergeSort fun x y=>decide (x≤y)) n1 m os (by rw[List.length_mergeSort]) (by rw[HM.out];exact Nat.le_refl _);rw[List.take_of_length_le (by rw[List.length_mergeSort,HM.out];exact Nat.le_refl _)]at this;rw[hw];exact this⟩
   clear hsort hH hgs hgo;go_wp2_with (go_at_call 334;refine SO.out.mono ?_;rintro e w2 ⟨rfl,l',hl',hs'⟩;have HL:=ah.mk hl';have H2:=ah.mk hs';clear hl' hs';refine ah.out ?_)
   obtain⟨hH,hgs,hmc,hc63,hgo⟩:=yF H2.out 1 rfl HL.out.symm;have hcomp:=Tryz.slices_Compact_int g 0 c1 l' w2 hH (by have:=HL.out;omega) (by have:=HL.out;omega);have CO:ah (Calls Tryz.prog 335 #[.slice (some ⟨g,0,none⟩) m c1] w2 fun e w'=>∃(n':Nat) (lz:List Int),e=.returned (.slice (some ⟨g,0,none⟩) n' c1)∧(n'=lz.length∧n'≤m)∧Has w w' [aF w.heap.size (.cells #[.int .i64 3,.slice fA fn fc,.slice bA k bc] 230),aT 3 1 encI (.slice (some ⟨g,0,none⟩) n' c1) lz]):=⟨by
    change Calls Tryz.prog 335 _ _ _ at hcomp;rw[HL.out]at hcomp;refine hcomp.mono fun e w' ⟨he,n1,hw⟩=>?_;have hle:(Lib.compact l').length≤m:=by have:=Lib.compact_length_le l';have:=HL.out;omega
    refine⟨(Lib.compact l').length,Lib.compact l',he,⟨rfl,hle⟩,?_⟩;have:=hgo (Lib.compact l'++List.replicate (m-(Lib.compact l').length) 0) n1 (Lib.compact l').length #[] (by simp;have:=HL.out;omega) (by rw[HL.out];exact hle);rw[List.take_left,Sort.grow_empty]at this;rw[hw];exact this⟩
   clear hcomp hH hgs hgo SO HS HM;refine ah.mk ?_;go_wp2_with (go_at_call 335;refine CO.out.mono ?_;rintro e w3 ⟨n',lz,rfl,hn',hs'⟩;have HN:=ah.mk hn';have H3:=ah.mk hs';clear hn' hs' H2 CO)
   have hn2:n'≤2000:=by have:=HN.out.2;omega
   go_loopw [42] (fun i wr=>∃(j:Nat),i=.int .i64 j∧j≤n'∧ah (Has w wr [aF w.heap.size (.cells #[.int .i64 3,.slice fA fn fc,.slice bA k bc] 230),aT 3 1 encI (.slice (some ⟨g,0,none⟩) n' c1) lz])) (fun i _=>n'-(intOf i).toNat)
   case atStart=>exact⟨0,rfl,Nat.zero_le _,H3⟩
   case round =>
    clear H3;obtain⟨j,rfl,hj,HS⟩:=hrel;have c0:wr.cell? ⟨w.heap.size,0,none⟩=some (.int .i64 3):=by rw[aj (HS.out.blk 0 rfl)];rfl
    have c1':wr.cell? ⟨w.heap.size,1,none⟩=some (.slice fA fn fc):=by rw[aj (HS.out.blk 0 rfl)];rfl
    have c2:wr.cell? ⟨w.heap.size,2,none⟩=some (.slice bA k bc):=by rw[aj (HS.out.blk 0 rfl)];rfl
    by_cases hlt2:j<n'
    ·obtain⟨y,hy⟩:∃y,lz[j]?=some y:=⟨_,List.getElem?_eq_getElem (by rw[←HN.out.1];exact hlt2)⟩;obtain⟨g2,hA,gQ⟩:=(bI HS.out 1 rfl bH).get j y hy;cases hA;have cy:wr.cell? ⟨g,j,none⟩=some (.int .i64 y):=by have:=gQ 0 _ rfl;simpa using this
     clear hy gQ;have FX:=ah.mk fun t2=>FD.out y t2 wr HS.out.old;go_wp2_with (go_at_call 297;refine(FX.out _).mono ?_;rintro e w9 ⟨s,b,rfl,hs,hb'⟩;have H9:=ah.mk (HS.out.up hb');have HZ:=ah.mk hs;clear hb' hs;refine ah.out ?_)
     cases b
     ·refine ah.mk ?_;go_wp2_with fail
      go_roundw
      case rel=>exact⟨j+1,by go_num,by omega,H9⟩
      case measure=>simp[intOf];omega
     ·refine ah.mk ?_;go_wp2_with fail
      first|go_ret3|skip
      rw[←HQ.out];exact⟨y,s,0,rfl,HZ.out,H9.out.old⟩
    ·go_wp2_with fail
     first|go_ret3|skip
     rw[←HQ.out];exact⟨0,0,5,rfl,⟨by decide,Z0.out⟩,HS.out.old⟩
end
end
end Go.Proofs.YtandhagfhppgaaaGreatDoor
