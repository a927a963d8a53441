/- Part 21 of a proof: contracts of the functions that the law reaches. No condition. -/
import Derived.Shelf.Sort.Plain
import Derived.Test.YtandhagfhppgaaaGreatDoorS5
import Derived.Test.YtandhagfhppgaaaGreatDoorS19
import Derived.Test.YtandhagfhppgaaaGreatDoorS20
set_option linter.all false
set_option maxRecDepth 100000
set_option maxHeartbeats 16000000
section
namespace Go.Proofs
open Go.Shelf
def Tryz.aam:Go.Shelf.Ren:=⟨fun | 189=>334|125=>257|257=>357|128=>309|129=>199|294=>365|295=>366|296=>367|297=>368|298=>369|299=>370|216=>131|300=>371|301=>372|328=>374|329=>339|330=>340|331=>375|332=>376|215=>184|343=>377|n=>n,fun | 28=>44|3=>3|46=>95|0=>0|51=>43|53=>281|4=>4|183=>383|182=>382|131=>150|5=>5|9=>9|218=>412|222=>416|228=>431|229=>69|n=>n,fun | n=>n⟩
theorem Tryz.lays189:Go.Proofs.Lays.n189 Tryz.prog Tryz.aam:={
 mixed:=by kernel_rfl
 f125:=Tryz.func257.trans (congrArg some (by kernel_rfl))
 f128:=Tryz.func309.trans (congrArg some (by kernel_rfl))
 f129:=Tryz.func199.trans (congrArg some (by kernel_rfl))
 f189:=Tryz.func334.trans (congrArg some (by kernel_rfl))
 f215:=Tryz.func184.trans (congrArg some (by kernel_rfl))
 f216:=Tryz.func131.trans (congrArg some (by kernel_rfl))
 f257:=Tryz.func357.trans (congrArg some (by kernel_rfl))
 f294:=Tryz.func365.trans (congrArg some (by kernel_rfl))
 f295:=Tryz.func366.trans (congrArg some (by kernel_rfl))
 f296:=Tryz.func367.trans (congrArg some (by kernel_rfl))
 f297:=Tryz.func368.trans (congrArg some (by kernel_rfl))
 f298:=Tryz.func369.trans (congrArg some (by kernel_rfl))
 f299:=Tryz.func370.trans (congrArg some (by kernel_rfl))
 f300:=Tryz.func371.trans (congrArg some (by kernel_rfl))
 f301:=Tryz.func372.trans (congrArg some (by kernel_rfl))
 f328:=Tryz.func374.trans (congrArg some (by kernel_rfl))
 f329:=Tryz.func339.trans (congrArg some (by kernel_rfl))
 f330:=Tryz.func340.trans (congrArg some (by kernel_rfl))
 f331:=Tryz.func375.trans (congrArg some (by kernel_rfl))
 f332:=Tryz.func376.trans (congrArg some (by kernel_rfl))
 f343:=Tryz.func377.trans (congrArg some (by kernel_rfl))
 t0:=Tryz.underlying0
 a0:=Tryz.isAgg0
 z0:=Tryz.sizeOf0
 v0:=Tryz.zeroValue0
 t3:=Tryz.underlying3
 a3:=Tryz.isAgg3
 z3:=Tryz.sizeOf3
 v3:=Tryz.zeroValue3
 t4:=Tryz.underlying4
 a4:=Tryz.isAgg4
 z4:=Tryz.sizeOf4
 v4:=Tryz.zeroValue4
 t5:=Tryz.underlying5
 a5:=Tryz.isAgg5
 z5:=Tryz.sizeOf5
 v5:=Tryz.zeroValue5
 t9:=Tryz.underlying9
 a9:=Tryz.isAgg9
 z9:=Tryz.sizeOf9
 v9:=Tryz.zeroValue9
 t28:=Tryz.underlying44
 a28:=Tryz.isAgg44
 z28:=Tryz.sizeOf44
 v28:=Tryz.zeroValue44
 t46:=Tryz.underlying95
 a46:=Tryz.isAgg95
 z46:=Tryz.sizeOf95
 v46:=Tryz.zeroValue95
 t51:=Tryz.underlying43
 a51:=Tryz.isAgg43
 z51:=Tryz.sizeOf43
 v51:=Tryz.zeroValue43
 t53:=Tryz.underlying281
 a53:=Tryz.isAgg281
 z53:=Tryz.sizeOf281
 v53:=Tryz.zeroValue281
 t131:=Tryz.underlying150
 a131:=Tryz.isAgg150
 z131:=Tryz.sizeOf150
 v131:=Tryz.zeroValue150
 t182:=Tryz.underlying382
 a182:=Tryz.isAgg382
 z182:=Tryz.sizeOf382
 v182:=Tryz.zeroValue382
 t183:=Tryz.underlying383
 a183:=Tryz.isAgg383
 z183:=Tryz.sizeOf383
 v183:=Tryz.zeroValue383
 t218:=Tryz.underlying412
 a218:=Tryz.isAgg412
 z218:=Tryz.sizeOf412
 v218:=Tryz.zeroValue412
 t222:=Tryz.underlying416
 a222:=Tryz.isAgg416
 z222:=Tryz.sizeOf416
 v222:=Tryz.zeroValue416
 t228:=Tryz.underlying431
 a228:=Tryz.isAgg431
 z228:=Tryz.sizeOf431
 v228:=Tryz.zeroValue431
 t229:=Tryz.underlying69
 a229:=Tryz.isAgg69
 z229:=Tryz.sizeOf69
 v229:=Tryz.zeroValue69}
end Go.Proofs
end
namespace Go.Proofs.YtandhagfhppgaaaGreatDoor
section
open Go.RowKit
section
variable {P:Program}
theorem jF (w:World)(dT sT ty elem:TypeId)(sz:Nat)(b o dLen dCap:Nat)(a:Addr)(sLen sCap:Nat)(cs:List Value)
 (hu:P.underlying dT=some (.slice elem)) (hs:(P.info? elem).map (·.size)=some sz) (hn:cs.length=Nat.min sLen dLen*sz)
 (hsrc:∀j v,cs[j]?=some v→w.cell? (a.add j)=some v) (hc:∀j,j<cs.length→(w.cell? ⟨b,o+j,none⟩).isSome=true) (hf:∀j,j<cs.length→w.frozen? ⟨b,o+j,none⟩=false) (h1:∀v∈cs,v.oneCell'=true) :
 (Builtin.copy_ #[dT,sT] ty #[.slice (some ⟨b,o,none⟩) dLen dCap,.slice (some a) sLen sCap]).run P w=.ok (goInt (Nat.min sLen dLen)) (w.setCells b o cs):=by
 have hl:=run_loadCells_list (P:=P) w a cs hsrc;have hst:=run_storeCells_cells (P:=P) b o cs 0 w (by simpa using hc) (by simpa using hf) h1;cases hq:P.info? elem with
 |none=>simp[hq]at hs
 |some i =>
  have hi:i.size=sz:=by simpa[hq]using hs
  simp[Builtin.copy_,run_underlying hu,Builtin.lenOf,Builtin.firstCells,sizeOf,typeInfo,hq,hi,←hn,hl,hst]
theorem rD (w:World)(t e:TypeId)(z:Value)(sz:Nat)(ht:P.underlying t=some (.slice e))(hv:∀w,(zeroValue e).run P w=.ok z w)(hz:z.cells.size=sz)(h1:z.cells.all (·.oneCell')=true)(b o n c:Nat)(hn:0<n)
 (hc:∀j,j<n*sz→(w.cell? ⟨b,o+j,none⟩).isSome=true) (hf:∀j,j<n*sz→w.frozen? ⟨b,o+j,none⟩=false) :
 ∃zs:List Value,zs.length=n*sz∧∀ty,(Builtin.clear_ #[t] ty #[.slice (some ⟨b,o,none⟩) n c]).run P w=.ok (.tuple #[]) (w.setCells b o zs):=by
 refine⟨(Builtin.zeroCells z.cells n).toList,by simp[Builtin.zeroCells,hz,Nat.mul_comm],fun ty=>?_⟩;have hone:∀v∈(Builtin.zeroCells z.cells n).toList,v.oneCell'=true:=by
  intro v hv';have h2:v∈Builtin.zeroCells z.cells n:=by simpa using hv'
  obtain⟨i,hi,e⟩:=Array.getElem_of_mem h2;have hsz:0<z.cells.size:=by
   rcases Nat.eq_zero_or_pos z.cells.size with h0|h0
   ·simp[Builtin.zeroCells,h0]at hi
   ·exact h0
  have h3:v=z.cells[i%z.cells.size]! :=by
   rw[←e];simp[Builtin.zeroCells]
  have h4:i%z.cells.size<z.cells.size:=Nat.mod_lt _ hsz;rw[h3,getElem!_pos z.cells (i%z.cells.size) h4];exact(Array.all_eq_true.1 h1) _ h4
 have hlen:(Builtin.zeroCells z.cells n).toList.length=n*sz:=by simp[Builtin.zeroCells,hz,Nat.mul_comm]
 have hst:=run_storeCells_cells (P:=P) b o _ 0 w (by intro j hj;rw[hlen]at hj;simpa using hc j hj) (by intro j hj;rw[hlen]at hj;simpa using hf j hj) hone;simp only[Nat.add_zero]at hst;obtain⟨m,rfl⟩:∃m,n=m+1:=⟨n-1,by omega⟩;simp[Builtin.clear_,run_underlying ht,hv,hst]
end
theorem iV {w:World}{g:Nat}{e:TypeId}{cur:Array Value}(hg:w.heap[g]?=some (.cells cur e (0,0))){k:Nat}(hk:k<cur.size):(w.cell? ⟨g,k,none⟩).isSome=true:=by
 rw[aj hg,Array.getElem?_eq_getElem hk];rfl
theorem nO {cur:Array Value}{m:Nat}{xs:List Value}(h:cur.toList.take m=xs){j:Nat}{v:Value}(hj:xs[j]?=some v):cur[j]?=some v:=by
 rw[←h,List.getElem?_take]at hj;split at hj
 ·rwa [←Array.getElem?_toList]
 ·cases hj
section
variable {w0 w:World}{L:List bW}
theorem l7 (w:World):Touch (fun _=>False) w w.drew:=⟨rfl,rfl,rfl,Nat.le_refl _,fun _ _ _=>rfl⟩
theorem xR {e:TypeId}{i0:TypeInfo}{z:Value}(h:Tryz.prog.info? e=some i0)(hz:i0.zero=some z)(w:World):(zeroValue e).run Tryz.prog w=.ok z w:=by
 simp[zeroValue,typeInfo,h,hz]
theorem xU {e:TypeId}{i0:TypeInfo}{z:Value}(h:Tryz.prog.info? e=some i0)(hz:i0.zero=some z)(hk:(Tryz.prog.info? e).bind (fun i=>i.zero.map fun z=>z.cells.all (·.oneCell'))=some true):z.cells.all (·.oneCell')=true:=by
 rw[h]at hk;simpa[hz]using hk
theorem xW (cur:Array Value)(n k sz:Nat)(xs zs:List Value)(hk:k<n)(hs:n*sz≤cur.size)(hx:cur.toList.take (n*sz)=xs)(hz:zs.length=sz) :
 (qW (qW cur (k*sz) (xs.drop ((k+1)*sz))) ((n-1)*sz) zs).toList.take ((n-1)*sz)=xs.take (k*sz)++xs.drop ((k+1)*sz):=by
 have hxl:xs.length=n*sz:=by rw[←hx,List.length_take,Array.length_toList];exact Nat.min_eq_left hs
 have e1:(k+1)*sz=k*sz+sz:=by rw[Nat.add_mul,Nat.one_mul]
 have e2:n*sz=(n-1)*sz+sz:=by rw[←Nat.add_one_mul];congr 1;omega
 have e3:k*sz≤(n-1)*sz:=Nat.mul_le_mul_right _ (by omega);have hdl:(xs.drop ((k+1)*sz)).length=n*sz-(k+1)*sz:=by rw[List.length_drop,hxl]
 rw[FV _ _ _ (by rw[dS,hz];omega),FV _ _ _ (by rw[hdl];omega)];have ht:(cur.toList.take (k*sz))=xs.take (k*sz):=by rw[←hx,List.take_take,Nat.min_eq_left (by omega)]
 rw[ht];have hl1:(xs.take (k*sz)++xs.drop ((k+1)*sz)).length=(n-1)*sz:=by
  rw[List.length_append,List.length_take,hdl,hxl,Nat.min_eq_left (by omega)];omega
 rw[List.append_assoc,List.take_left' (by rw[List.length_take,List.length_append,hl1];omega)];exact List.take_left' hl1
theorem Qh:∃i0 z,Tryz.prog.info? 53=some i0∧i0.zero=some z∧i0.size=2∧i0.bytes≤1000∧z.cells.size=2:=fZ (by kernel_rfl)
theorem MF:∃i0 z,Tryz.prog.info? 203=some i0∧i0.zero=some z∧i0.size=4∧i0.bytes≤1000∧z.cells.size=4:=fZ (by kernel_rfl)
theorem Qi (H:Has w0 w L)(i:Nat){g n c:Nat}{xs:List Value}(hi:L[i]?=some (rowA 3 1 (.slice (some ⟨g,0,none⟩) n c) n xs))(k:Nat)(hk:k<n)(h1:∀u∈xs,u.oneCell'=true) :
 Calls Tryz.prog 77 #[.slice (some ⟨g,0,none⟩) n c,.int .i64 (k:Int),.int .i64 ((k:Int)+1)] w fun e w'=>e=.returned (.slice (some ⟨g,0,none⟩) (n-1) c)∧Has w0 w' (L.set i (rowA 3 1 (.slice (some ⟨g,0,none⟩) (n-1) c) (n-1) (xs.take (k*1)++xs.drop ((k+1)*1)))):=by
 refine named fun R HQ=>?_;obtain⟨i0,z,hi0,hz0,hzs,hzb,hzc⟩:=info3;obtain⟨cur,hg,hnc,hcm,hsz,htk,hxl⟩:=nN H i hi;have hm63:c≤9223372036854775807:=by unfold maxLen at hcm;omega
 obtain⟨news,hnews⟩:∃news,news=xs.drop ((k+1)*1):=⟨_,rfl⟩;have hlen:news.length=(n-(k+1))*1:=by rw[hnews,List.length_drop,hxl];omega
 have hgd:w.drew.heap[g]?=some (.cells cur 3 (0,0)):=hg;obtain⟨A,hA,hsrc⟩:∃A:Addr,(if c=k+1 then some (⟨g,0,none⟩:Addr)else some ⟨g,(k+1)*1,none⟩)=some A∧(∀t u,news[t]?=some u→w.drew.cell? (A.add t)=some u):=by
  by_cases h:c=k+1
  ·refine⟨⟨g,0,none⟩,by simp[h],fun t u hu=>?_⟩;have h0:news.length=0:=by rw[hlen];omega
   rw[List.length_eq_zero_iff.1 h0]at hu;simp at hu
  ·refine⟨⟨g,(k+1)*1,none⟩,by simp[h],fun t u hu=>?_⟩;rw[hnews,List.getElem?_drop]at hu;rw[Addr.add_mid,aj hgd];exact nO htk hu
 have Qj:=ah.mk hsrc;have HL:=ah.mk hlen;have s2:ah (∀u∈news,u.oneCell'=true):=⟨fun u hu=>h1 u (by rw[hnews]at hu;exact List.mem_of_mem_drop hu)⟩;have s3:ah (∀t,t<news.length→(w.drew.cell? ⟨g,0+k*1+t,none⟩).isSome=true∧w.drew.frozen? ⟨g,0+k*1+t,none⟩=false):=⟨fun t ht=>⟨iV hgd (by rw[hlen]at ht;omega),aJ hgd _⟩⟩;obtain⟨W1,hW1⟩:∃W1,W1=w.drew.setCells g (0+k*1) news:=⟨_,rfl⟩;have hg1:W1.heap[g]?=some (.cells (qW cur (k*1) news) 3 (0,0)):=by rw[hW1,Nat.zero_add];exact dO _ _ _ _ hgd
 obtain⟨zs,hzl,FW⟩:=rD (P:=Tryz.prog) W1 44 3 z 1 Tryz.underlying44 (xR hi0 hz0) hzc (xU hi0 hz0 (by kernel_rfl)) g ((n-1)*1) 1 (c-(n-1)) (by decide) (fun j hj=>iV hg1 (by rw[dS];omega)) (fun j hj=>aJ hg1 _);have hcl:∀ty,(Builtin.clear_ #[44] ty #[.slice (some ⟨g,n-1,none⟩) (n-(n-1)) (c-(n-1))]).run Tryz.prog W1=.ok (.tuple #[]) (W1.setCells g ((n-1)*1) zs):=fun ty=>by
  rw[show n-(n-1)=1 by omega];simpa only[Nat.mul_one]using FW ty
 have HF:ah (Has w0 (W1.setCells g ((n-1)*1) zs) (L.set i (rowA 3 1 (.slice (some ⟨g,0,none⟩) (n-1) c) (n-1) (xs.take (k*1)++xs.drop ((k+1)*1))))):=⟨by
  refine H.Aq i hi _ ?_ (qW (qW cur (k*1) news) ((n-1)*1) zs) (dO _ _ _ _ hg1) (by rw[dS,dS,hsz]) (n-1) _ (by omega) ?_
  ·rw[hW1];exact(((l7 w).mono fun _ _ h=>h.elim).trans (dU _ _ _)).trans (dU _ _ _)
  ·rw[hnews];exact xW cur n k 1 xs zs hk (by rw[hsz];exact Nat.mul_le_mul_right _ hnc) htk (by simpa using hzl)⟩
 have hW:ah (W1=w.drew.setCells g (0+k*1) news):=⟨hW1⟩;have hic:k≤c:=by omega
 have hjc:k+1≤c:=by omega
 have e2:k+(n-(k+1))=n-1:=by omega
 have mixed:Tryz.prog.follows .mixedOrders=true:=by kernel_rfl
 have hbn:(k:Int)+1≤n:=by omega
 have hb0:(0:Int)≤(k:Int)+1:=by omega
 simp only[Nat.mul_one]at hA;clear hW1 hg1 FW hg hgd hsrc hlen hnews hsz htk hxl hzl H hi h1;go_enter Tryz.func77,Tryz.ntmps77;go_wp2_with fail
 go_region_law_o (refine step_append_room rfl (.tmp 22) (.tmp 25) 44 rfl 3 i0 1 Tryz.underlying44 hi0 hzs g 0 k c (by simp[Act.eval,Act.put]) A (n-(k+1)) (c-(k+1)) news (by simp[Act.eval,Act.put];try exact hA) HL.out Qj.out s2.out (by omega) s3.out ?_;rw[←hW.out])
 go_wp2_with fail
 first|go_ret|skip
 rw[←HQ.out];exact⟨rfl,by simpa only[Nat.mul_one]using HF.out⟩
theorem Jp (H:Has w0 w L)(i:Nat){g n c:Nat}{xs:List Value}(hi:L[i]?=some (rowA 53 2 (.slice (some ⟨g,0,none⟩) n c) n xs))(k:Nat)(hk:k<n)(h1:∀u∈xs,u.oneCell'=true) :
 Calls Tryz.prog 123 #[.slice (some ⟨g,0,none⟩) n c,.int .i64 (k:Int),.int .i64 ((k:Int)+1)] w fun e w'=>e=.returned (.slice (some ⟨g,0,none⟩) (n-1) c)∧Has w0 w' (L.set i (rowA 53 2 (.slice (some ⟨g,0,none⟩) (n-1) c) (n-1) (xs.take (k*2)++xs.drop ((k+1)*2)))):=by
 refine named fun R HQ=>?_;obtain⟨i0,z,hi0,hz0,hzs,hzb,hzc⟩:=Qh;obtain⟨cur,hg,hnc,hcm,hsz,htk,hxl⟩:=nN H i hi;have hm63:c≤9223372036854775807:=by unfold maxLen at hcm;omega
 obtain⟨news,hnews⟩:∃news,news=xs.drop ((k+1)*2):=⟨_,rfl⟩;have hlen:news.length=(n-(k+1))*2:=by rw[hnews,List.length_drop,hxl];omega
 have hgd:w.drew.heap[g]?=some (.cells cur 53 (0,0)):=hg;obtain⟨A,hA,hsrc⟩:∃A:Addr,(if c=k+1 then some (⟨g,0,none⟩:Addr)else some ⟨g,(k+1)*2,none⟩)=some A∧(∀t u,news[t]?=some u→w.drew.cell? (A.add t)=some u):=by
  by_cases h:c=k+1
  ·refine⟨⟨g,0,none⟩,by simp[h],fun t u hu=>?_⟩;have h0:news.length=0:=by rw[hlen];omega
   rw[List.length_eq_zero_iff.1 h0]at hu;simp at hu
  ·refine⟨⟨g,(k+1)*2,none⟩,by simp[h],fun t u hu=>?_⟩;rw[hnews,List.getElem?_drop]at hu;rw[Addr.add_mid,aj hgd];exact nO htk hu
 have Qj:=ah.mk hsrc;have HL:=ah.mk hlen;have s2:ah (∀u∈news,u.oneCell'=true):=⟨fun u hu=>h1 u (by rw[hnews]at hu;exact List.mem_of_mem_drop hu)⟩;have s3:ah (∀t,t<news.length→(w.drew.cell? ⟨g,0+k*2+t,none⟩).isSome=true∧w.drew.frozen? ⟨g,0+k*2+t,none⟩=false):=⟨fun t ht=>⟨iV hgd (by rw[hlen]at ht;omega),aJ hgd _⟩⟩;obtain⟨W1,hW1⟩:∃W1,W1=w.drew.setCells g (0+k*2) news:=⟨_,rfl⟩;have hg1:W1.heap[g]?=some (.cells (qW cur (k*2) news) 53 (0,0)):=by rw[hW1,Nat.zero_add];exact dO _ _ _ _ hgd
 obtain⟨zs,hzl,FW⟩:=rD (P:=Tryz.prog) W1 124 53 z 2 Tryz.underlying124 (xR hi0 hz0) hzc (xU hi0 hz0 (by kernel_rfl)) g ((n-1)*2) 1 (c-(n-1)) (by decide) (fun j hj=>iV hg1 (by rw[dS];omega)) (fun j hj=>aJ hg1 _);have hcl:∀ty,(Builtin.clear_ #[124] ty #[.slice (some ⟨g,(n-1)*2,none⟩) (n-(n-1)) (c-(n-1))]).run Tryz.prog W1=.ok (.tuple #[]) (W1.setCells g ((n-1)*2) zs):=fun ty=>by
  rw[show n-(n-1)=1 by omega];exact FW ty
 have HF:ah (Has w0 (W1.setCells g ((n-1)*2) zs) (L.set i (rowA 53 2 (.slice (some ⟨g,0,none⟩) (n-1) c) (n-1) (xs.take (k*2)++xs.drop ((k+1)*2))))):=⟨by
  refine H.Aq i hi _ ?_ (qW (qW cur (k*2) news) ((n-1)*2) zs) (dO _ _ _ _ hg1) (by rw[dS,dS,hsz]) (n-1) _ (by omega) ?_
  ·rw[hW1];exact(((l7 w).mono fun _ _ h=>h.elim).trans (dU _ _ _)).trans (dU _ _ _)
  ·rw[hnews];exact xW cur n k 2 xs zs hk (by rw[hsz];exact Nat.mul_le_mul_right _ hnc) htk (by simpa using hzl)⟩
 have hW:ah (W1=w.drew.setCells g (0+k*2) news):=⟨hW1⟩;have hic:k≤c:=by omega
 have hjc:k+1≤c:=by omega
 have e2:k+(n-(k+1))=n-1:=by omega
 have mixed:Tryz.prog.follows .mixedOrders=true:=by kernel_rfl
 have hbn:(k:Int)+1≤n:=by omega
 have hb0:(0:Int)≤(k:Int)+1:=by omega
 clear hW1 hg1 FW hg hgd hsrc hlen hnews hsz htk hxl hzl H hi h1;go_enter Tryz.func123,Tryz.ntmps123;go_wp2_with fail
 go_region_law_o (refine step_append_room rfl (.tmp 22) (.tmp 25) 124 rfl 53 i0 2 Tryz.underlying124 hi0 hzs g 0 k c (by simp[Act.eval,Act.put]) A (n-(k+1)) (c-(k+1)) news (by simp[Act.eval,Act.put];try exact hA) HL.out Qj.out s2.out (by omega) s3.out ?_;rw[←hW.out])
 go_wp2_with fail
 first|go_ret|skip
 rw[←HQ.out];exact⟨rfl,HF.out⟩
theorem Ob (H:Has w0 w L)(i:Nat){g n c:Nat}{xs:List Value}(hi:L[i]?=some (rowA 203 4 (.slice (some ⟨g,0,none⟩) n c) n xs))(k:Nat)(hk:k<n)(h1:∀u∈xs,u.oneCell'=true) :
 Calls Tryz.prog 119 #[.slice (some ⟨g,0,none⟩) n c,.int .i64 (k:Int),.int .i64 ((k:Int)+1)] w fun e w'=>e=.returned (.slice (some ⟨g,0,none⟩) (n-1) c)∧Has w0 w' (L.set i (rowA 203 4 (.slice (some ⟨g,0,none⟩) (n-1) c) (n-1) (xs.take (k*4)++xs.drop ((k+1)*4)))):=by
 refine named fun R HQ=>?_;obtain⟨i0,z,hi0,hz0,hzs,hzb,hzc⟩:=MF;obtain⟨cur,hg,hnc,hcm,hsz,htk,hxl⟩:=nN H i hi;have hm63:c≤9223372036854775807:=by unfold maxLen at hcm;omega
 obtain⟨news,hnews⟩:∃news,news=xs.drop ((k+1)*4):=⟨_,rfl⟩;have hlen:news.length=(n-(k+1))*4:=by rw[hnews,List.length_drop,hxl];omega
 have hgd:w.drew.heap[g]?=some (.cells cur 203 (0,0)):=hg;obtain⟨A,hA,hsrc⟩:∃A:Addr,(if c=k+1 then some (⟨g,0,none⟩:Addr)else some ⟨g,(k+1)*4,none⟩)=some A∧(∀t u,news[t]?=some u→w.drew.cell? (A.add t)=some u):=by
  by_cases h:c=k+1
  ·refine⟨⟨g,0,none⟩,by simp[h],fun t u hu=>?_⟩;have h0:news.length=0:=by rw[hlen];omega
   rw[List.length_eq_zero_iff.1 h0]at hu;simp at hu
  ·refine⟨⟨g,(k+1)*4,none⟩,by simp[h],fun t u hu=>?_⟩;rw[hnews,List.getElem?_drop]at hu;rw[Addr.add_mid,aj hgd];exact nO htk hu
 have Qj:=ah.mk hsrc;have HL:=ah.mk hlen;have s2:ah (∀u∈news,u.oneCell'=true):=⟨fun u hu=>h1 u (by rw[hnews]at hu;exact List.mem_of_mem_drop hu)⟩;have s3:ah (∀t,t<news.length→(w.drew.cell? ⟨g,0+k*4+t,none⟩).isSome=true∧w.drew.frozen? ⟨g,0+k*4+t,none⟩=false):=⟨fun t ht=>⟨iV hgd (by rw[hlen]at ht;omega),aJ hgd _⟩⟩;obtain⟨W1,hW1⟩:∃W1,W1=w.drew.setCells g (0+k*4) news:=⟨_,rfl⟩;have hg1:W1.heap[g]?=some (.cells (qW cur (k*4) news) 203 (0,0)):=by rw[hW1,Nat.zero_add];exact dO _ _ _ _ hgd
 obtain⟨zs,hzl,FW⟩:=rD (P:=Tryz.prog) W1 127 203 z 4 Tryz.underlying127 (xR hi0 hz0) hzc (xU hi0 hz0 (by kernel_rfl)) g ((n-1)*4) 1 (c-(n-1)) (by decide) (fun j hj=>iV hg1 (by rw[dS];omega)) (fun j hj=>aJ hg1 _);have hcl:∀ty,(Builtin.clear_ #[127] ty #[.slice (some ⟨g,(n-1)*4,none⟩) (n-(n-1)) (c-(n-1))]).run Tryz.prog W1=.ok (.tuple #[]) (W1.setCells g ((n-1)*4) zs):=fun ty=>by
  rw[show n-(n-1)=1 by omega];exact FW ty
 have HF:ah (Has w0 (W1.setCells g ((n-1)*4) zs) (L.set i (rowA 203 4 (.slice (some ⟨g,0,none⟩) (n-1) c) (n-1) (xs.take (k*4)++xs.drop ((k+1)*4))))):=⟨by
  refine H.Aq i hi _ ?_ (qW (qW cur (k*4) news) ((n-1)*4) zs) (dO _ _ _ _ hg1) (by rw[dS,dS,hsz]) (n-1) _ (by omega) ?_
  ·rw[hW1];exact(((l7 w).mono fun _ _ h=>h.elim).trans (dU _ _ _)).trans (dU _ _ _)
  ·rw[hnews];exact xW cur n k 4 xs zs hk (by rw[hsz];exact Nat.mul_le_mul_right _ hnc) htk (by simpa using hzl)⟩
 have hW:ah (W1=w.drew.setCells g (0+k*4) news):=⟨hW1⟩;have hic:k≤c:=by omega
 have hjc:k+1≤c:=by omega
 have e2:k+(n-(k+1))=n-1:=by omega
 have mixed:Tryz.prog.follows .mixedOrders=true:=by kernel_rfl
 have hbn:(k:Int)+1≤n:=by omega
 have hb0:(0:Int)≤(k:Int)+1:=by omega
 clear hW1 hg1 FW hg hgd hsrc hlen hnews hsz htk hxl hzl H hi h1;go_enter Tryz.func119,Tryz.ntmps119;go_wp2_with fail
 go_region_law_o (refine step_append_room rfl (.tmp 22) (.tmp 25) 127 rfl 203 i0 4 Tryz.underlying127 hi0 hzs g 0 k c (by simp[Act.eval,Act.put]) A (n-(k+1)) (c-(k+1)) news (by simp[Act.eval,Act.put];try exact hA) HL.out Qj.out s2.out (by omega) s3.out ?_;rw[←hW.out])
 go_wp2_with fail
 first|go_ret|skip
 rw[←HQ.out];exact⟨rfl,HF.out⟩
end
end
section
open Go.RowKit
theorem sU {b n:Nat}{e:TypeId}{sz:Nat}{cs:Array Value}(hs:cs.size=n*sz)(hn:n≤maxLen){w:World}{F:Nat→Prop}(h:(aF b (.cells cs e (0,0))).P w F):(rowA e sz (.slice (some ⟨b,0,none⟩) n n) n cs.toList).P w F:=by
 refine⟨⟨by simpa using hs,.inr ⟨b,n,cs,rfl,Nat.zero_le _,h.1,Nat.le_refl _,hn,hs,?_⟩⟩,fun k hk=>?_⟩
 ·rw[←hs];exact List.take_of_length_le (by simp)
 ·simp[Value.ownBlock]at hk;rw[←hk];exact h.2
section
variable {w0 w:World}{L:List bW}
open Go.Sort in
theorem xY (H:Has w0 w L)(i:Nat){g n c:Nat}{l:List Int}(hi:L[i]?=some (aV 3 1 encI (.slice (some ⟨g,0,none⟩) n c) l))(hn:n=l.length) :
 Holds (Value.int .i64) w g 0 l.toArray∧g<w.heap.size∧n≤c∧c≤9223372036854775807 ∧
  ∀(l':List Int) (m n':Nat) (os:Array Obj),l'.length=l.length→n'≤l.length→Has w0 (grow (putRow (Value.int .i64) (Sort.ahead w m) g 0 l'.toArray) os) (L.set i (aV 3 1 encI (.slice (some ⟨g,0,none⟩) n' c) (l'.take n'))):=by
 subst hn;obtain⟨cur,hg,hnc,hcm,hsz,htk,hxl⟩:=nN H i hi;have hgs:g<w.heap.size:=(Array.getElem?_eq_some_iff.1 hg).1;have hfm:∀t:List Int,t.flatMap encI=t.map (Value.int .i64):=fun t=>by
  induction t with
  |nil=>rfl
  |cons a t ih=>simp[encI,ih]
 refine⟨fun j hj=>?_,hgs,hnc,by unfold maxLen at hcm;omega,fun l' m n' os hl hn'=>?_⟩
 ·have hj2:j<l.length:=by simpa using hj
  refine⟨?_,aJ hg _⟩;rw[aj hg,Nat.zero_add];refine nO htk ?_;rw[hfm,List.getElem?_map,List.getElem?_eq_getElem hj2,getElem!_pos l.toArray j hj];simp
 ·have hat:(grow (putRow (Value.int .i64) (Sort.ahead w m) g 0 l'.toArray) os).heap[g]?=some (.cells (putCells (Value.int .i64) 0 l'.toArray cur) 3 (0,0)):=by
   unfold putRow;rw[Sort.heap_grow_old _ _ (by simpa[mapBlock]using hgs)];simp[mapBlock,Sort.ahead,Array.getElem?_modify,hg,onCells]
  have hsize:w.heap.size≤(grow (putRow (Value.int .i64) (Sort.ahead w m) g 0 l'.toArray) os).heap.size:=by
   unfold putRow Sort.grow mapBlock;simp
  have ht:Touch (fun k=>k=g) w (grow (putRow (Value.int .i64) (Sort.ahead w m) g 0 l'.toArray) os):=⟨rfl,rfl,rfl,hsize,fun q hq hne=>by
   unfold putRow;rw[Sort.heap_grow_old _ _ (by simpa[mapBlock]using hq)];simp[mapBlock,Sort.ahead,Array.getElem?_modify,Ne.symm hne]⟩
  have:=H.Aq i hi _ ht _ hat (by simp[putCells,hsz]) n' ((l'.take n').flatMap encI) (by omega) (by
   rw[hfm];apply List.ext_getElem?;intro j;rw[List.getElem?_take,Nat.mul_one];by_cases hj:j<n'
   ·have hjl:j<l'.length:=by omega
    have hjc:j<cur.size:=by omega
    rw[if_pos hj,Array.getElem?_toList,List.getElem?_map,List.getElem?_take_of_lt hj,List.getElem?_eq_getElem hjl];simp only[putCells,Array.getElem?_mapIdx,Array.getElem?_eq_getElem hjc,Option.map_some];rw[if_pos ⟨Nat.zero_le _,by simpa using hjl⟩,Nat.sub_zero,getElem!_pos l'.toArray j (by simpa using hjl)];simp
   ·rw[if_neg hj,List.getElem?_eq_none (by simp;omega)])
  unfold aV;rw[show(l'.take n').length=n' by simp;omega];exact this
end
section
variable {w:World}
theorem iF {fA bA:Option Addr}{fn fc bn bc:Nat}{fl:List Int}{ts:List Tk}(hf:bU w 1 encI (.slice fA fn fc) fl)(hb:bU w 4 jX (.slice bA bn bc) ts)(hok:∀t∈ts,t.ok)(h1:fn≤1000)(h2:bn≤1000)(q:Nat)(hq:q≤3)(fr ln:Int) :
 Calls Tryz.prog 296 #[.agg #[.int .i64 3,.slice fA fn fc,.slice bA bn bc],.int .i64 q,.int .i64 fr,.int .i64 ln] w fun e w'=>∃(t:Int) (s:Nat) (r:Int),e=.returned (.tuple #[.int .i64 t,.int .i64 s,.int .i64 r])∧(s≤7∧s%2^q=0)∧Below w.heap.size w w':=by
 refine named fun R HQ=>?_;have HB:=ah.mk hb;have LB:=ah.mk hb.len;have FD:=ah.mk fun(t1 t2:Int) (W:World) (h:Below w.heap.size w W)=>oh (w:=W) (hf.below h) (hb.below h) hok h1 h2 q hq t1 t2;have Z0:=ah.mk (Nat.zero_mod (2^q));have H0:=ah.mk ((Has.start w).aZ (.cells #[.int .i64 3,.slice fA fn fc,.slice bA bn bc] 230));have H1:ah (Has w ((w.alloc (.cells #[.int .i64 3,.slice fA fn fc,.slice bA bn bc] 230)).alloc (.cells #[.int .i64 fr] 3)) [aF w.heap.size (.cells #[.int .i64 3,.slice fA fn fc,.slice bA bn bc] 230),aV 3 1 encI (.slice (some ⟨w.heap.size+1,0,none⟩) 1 1) [fr]]):=⟨by
  have h:=H0.out.aZ (.cells #[.int .i64 fr] 3);have h2:=h.imp 1 _ (rowA 3 1 (.slice (some ⟨w.heap.size+1,0,none⟩) 1 1) 1 #[.int .i64 fr].toList) rfl fun F hF=>sU (by rfl) (by decide) (by simpa using hF);simpa[aV,encI]using h2⟩
 clear hf hb hok H0;go_enter Tryz.func296,Tryz.ntmps296;go_wp2_with fail
 go_loopw [11,23] (fun v i wr=>∃(k m:Nat) (A1:Option Addr) (c1:Nat) (l:List Int),v=.slice A1 m c1∧i=.int .i64 k∧k≤bn∧m≤k+1∧1≤m∧ah (m=l.length)∧ah (Has w wr [aF w.heap.size (.cells #[.int .i64 3,.slice fA fn fc,.slice bA bn bc] 230),aV 3 1 encI (.slice A1 m c1) l])) (fun _ i _=>bn-(intOf i).toNat)
 case atStart=>exact⟨0,1,_,1,[fr],rfl,rfl,Nat.zero_le _,by omega,by omega,⟨rfl⟩,H1⟩
 case round =>
  clear H1;obtain⟨k,m,A1,c1,l,rfl,rfl,hk,hmk,hm1,HM,HS⟩:=hrel;by_cases hlt:k<bn
  ·obtain⟨t,ht⟩:∃y,ts[k]?=some y:=⟨_,List.getElem?_eq_getElem (by rw[←LB.out];exact hlt)⟩;obtain⟨gb,hA,gK⟩:=(HB.out.below HS.out.old).get k t ht;have R1:ah (wr.rangeAt gb (k*4) t.cells.toList):=⟨gK⟩;have H5:=ah.mk (HS.out.aZ (.cells t.cells 292));obtain⟨ti,hti⟩:∃x,x=t.till:=⟨_,rfl⟩;have k3:t.cells[3]?=some (.int .i64 ti):=by rw[hti];rfl
   have kT:=MB t;subst hA;clear gK ht hti;go_wp2_with (first|(refine aB wr.heap.size rfl rfl 292 (.tmp 13) (.tmp 26) rfl t.cells rfl rfl 292 _ kT rfl t.one ?_;refine ah.out ?_)|(refine aI rfl 292 (.tmp 25) rfl gb (k*4) rfl t.cells _ R1.out Tryz.underlying292 rfl kT ?_))
   obtain⟨NB,jw⟩:∃NB,NB=wr.heap.size:=⟨_,rfl⟩;obtain⟨W5,oM⟩:∃W5,W5=wr.alloc (.cells t.cells 292):=⟨_,rfl⟩;rw[←jw,←oM]at H5 ⊢;clear oM jw;have f3:W5.cell? ⟨NB,3,none⟩=some (.int .i64 ti):=by rw[aj (H5.out.blk 2 rfl)];exact k3
   have H6:=ah.mk (H5.out.drop 2);refine ah.mk ?_;cases d4:decide (fr<ti)
   ·go_wp2_with fail
    go_roundw
    case rel=>exact⟨k+1,m,A1,c1,l,rfl,by go_num,by omega,by omega,hm1,HM,H6⟩
    case measure=>simp[intOf];omega
   ·go_wp2_with (at_builtin;have _t:=H5.out;clear _t;refine dn 44 (.tmp 31) (.tmp 34) rfl rfl H5.out 1 rfl m HM.out Tryz.underlying44 info3 (by decide) (by omega) rfl rfl ti _ rfl rfl (by simp[Value.oneCell']) ?_;intro A5 c5 w5 h5;have H7:=ah.mk (h5.drop 2);clear h5 H5)
    go_roundw
    case rel=>exact⟨k+1,m+1,A5,c5,l++[ti],by go_num,by go_num,by omega,by omega,by omega,⟨by have:=HM.out;simp;omega⟩,⟨H7.out⟩⟩
    case measure=>simp[intOf];omega
  ·obtain rfl:k=bn:=by omega
   obtain⟨g,rfl,_⟩:=dG HS.out 1 rfl HM.out.symm (by omega);obtain⟨hH,hgs,hmc,hc63,hgo⟩:=xY HS.out 1 rfl HM.out;have hsort:=Any.slices_Sort_int Tryz.lays189 g 0 c1 l wr hH hgs (by have:=HM.out;omega);have SO:ah (Calls Tryz.prog 334 #[.slice (some ⟨g,0,none⟩) m c1] wr fun e w'=>e=.returned (.tuple #[])∧∃l':List Int,l'.length=m∧Has w w' [aF w.heap.size (.cells #[.int .i64 3,.slice fA fn fc,.slice bA k bc] 230),aV 3 1 encI (.slice (some ⟨g,0,none⟩) m c1) l']):=⟨by
    change Calls Tryz.prog 334 _ _ _ at hsort;rw[←HM.out]at hsort;refine hsort.mono fun e w' ⟨he,n1,os,hw⟩=>⟨he,l.mergeSort fun x y=>decide (x≤y),by rw[List.length_mergeSort];exact HM.out.symm,?_⟩;have:=hgo (l.mergeSort fun x y=>decide (x≤y)) n1 m os (by rw[List.length_mergeSort]) (by rw[HM.out];exact Nat.le_refl _);rw[List.take_of_length_le (by rw[List.length_mergeSort,HM.out];exact Nat.le_refl _)]at this;rw[hw];exact this⟩
   clear hsort hH hgs hgo;go_wp2_with (go_at_call 334;refine SO.out.mono ?_;rintro e w2 ⟨rfl,l',hl',hs'⟩;have HL:=ah.mk hl';have H2:=ah.mk hs';clear hl' hs';refine ah.out ?_)
   obtain⟨hH,hgs,hmc,hc63,hgo⟩:=xY H2.out 1 rfl HL.out.symm;have hcomp:=Tryz.slices_Compact_int g 0 c1 l' w2 hH (by have:=HL.out;omega) (by have:=HL.out;omega);have CO:ah (Calls Tryz.prog 335 #[.slice (some ⟨g,0,none⟩) m c1] w2 fun e w'=>∃(n':Nat) (lz:List Int),e=.returned (.slice (some ⟨g,0,none⟩) n' c1)∧(n'=lz.length∧n'≤m)∧Has w w' [aF w.heap.size (.cells #[.int .i64 3,.slice fA fn fc,.slice bA k bc] 230),aV 3 1 encI (.slice (some ⟨g,0,none⟩) n' c1) lz]):=⟨by
    change Calls Tryz.prog 335 _ _ _ at hcomp;rw[HL.out]at hcomp;refine hcomp.mono fun e w' ⟨he,n1,hw⟩=>?_;have hle:(Lib.compact l').length≤m:=by have:=Lib.compact_length_le l';have:=HL.out;omega
    refine⟨(Lib.compact l').length,Lib.compact l',he,⟨rfl,hle⟩,?_⟩;have:=hgo (Lib.compact l'++List.replicate (m-(Lib.compact l').length) 0) n1 (Lib.compact l').length #[] (by simp;have:=HL.out;omega) (by rw[HL.out];exact hle);rw[List.take_left,Sort.grow_empty]at this;rw[hw];exact this⟩
   clear hcomp hH hgs hgo SO HS HM;refine ah.mk ?_;go_wp2_with (go_at_call 335;refine CO.out.mono ?_;rintro e w3 ⟨n',lz,rfl,hn',hs'⟩;have HN:=ah.mk hn';have H3:=ah.mk hs';clear hn' hs' H2 CO)
   have hn2:n'≤2000:=by have:=HN.out.2;omega
   go_loopw [42] (fun i wr=>∃(j:Nat),i=.int .i64 j∧j≤n'∧ah (Has w wr [aF w.heap.size (.cells #[.int .i64 3,.slice fA fn fc,.slice bA k bc] 230),aV 3 1 encI (.slice (some ⟨g,0,none⟩) n' c1) lz])) (fun i _=>n'-(intOf i).toNat)
   case atStart=>exact⟨0,rfl,Nat.zero_le _,H3⟩
   case round =>
    clear H3;obtain⟨j,rfl,hj,HS⟩:=hrel;have c0:wr.cell? ⟨w.heap.size,0,none⟩=some (.int .i64 3):=by rw[aj (HS.out.blk 0 rfl)];rfl
    have c1':wr.cell? ⟨w.heap.size,1,none⟩=some (.slice fA fn fc):=by rw[aj (HS.out.blk 0 rfl)];rfl
    have c2:wr.cell? ⟨w.heap.size,2,none⟩=some (.slice bA k bc):=by rw[aj (HS.out.blk 0 rfl)];rfl
    by_cases hlt2:j<n'
    ·obtain⟨y,hy⟩:∃y,lz[j]?=some y:=⟨_,List.getElem?_eq_getElem (by rw[←HN.out.1];exact hlt2)⟩;obtain⟨g2,hA,gK⟩:=(bK HS.out 1 rfl bJ).get j y hy;cases hA;have cy:wr.cell? ⟨g,j,none⟩=some (.int .i64 y):=by have:=gK 0 _ rfl;simpa using this
     clear hy gK;have FX:=ah.mk fun t2=>FD.out y t2 wr HS.out.old;go_wp2_with (go_at_call 297;refine(FX.out _).mono ?_;rintro e w9 ⟨s,b,rfl,hs,hb'⟩;have H9:=ah.mk (HS.out.up hb');have HZ:=ah.mk hs;clear hb' hs;refine ah.out ?_)
     cases b
     ·refine ah.mk ?_;go_wp2_with fail
      go_roundw
      case rel=>exact⟨j+1,by go_num,by omega,H9⟩
      case measure=>simp[intOf];omega
     ·refine ah.mk ?_;go_wp2_with fail
      first|go_ret3|skip
      rw[←HQ.out];exact⟨y,s,0,rfl,HZ.out,H9.out.old⟩
    ·go_wp2_with fail
     first|go_ret3|skip
     rw[←HQ.out];exact⟨0,0,5,rfl,⟨by decide,Z0.out⟩,HS.out.old⟩
end
end
end Go.Proofs.YtandhagfhppgaaaGreatDoor
