/- Part 20 of a proof: contracts of the functions that the law reaches. No condition. -/
import Derived.Test.YtandhagfhppgaaaGreatDoorG13
set_option linter.all false
set_option maxRecDepth 100000
set_option maxHeartbeats 16000000
namespace Go.Proofs.YtandhagfhppgaaaGreatDoor
section
open Go.RowKit
def rC:Array Value→Nat→List Value→Array Value
 |cur,_,[]=>cur
 |cur,o,v::r=>rC (cur.setIfInBounds o v) (o+1) r
theorem dP:∀(ys:List Value) (cur:Array Value) (o:Nat),(rC cur o ys).size=cur.size
 |[],_,_=>rfl
 |v::r,cur,o=>by rw[rC,dP r,Array.size_setIfInBounds]
theorem qG:∀(ys:List Value) (cur:Array Value) (o j:Nat),o+ys.length≤cur.size→(rC cur o ys)[j]?=if o≤j∧j<o+ys.length then ys[j-o]? else cur[j]?
 |[],cur,o,j,h=>by rw[rC,if_neg (by simp only[List.length_nil];omega)]
 |v::r,cur,o,j,h=>by
  simp only[List.length_cons]at h;rw[rC,qG r _ (o+1) j (by simp;omega)];by_cases h1:o+1≤j∧j<o+1+r.length
  ·rw[if_pos h1,if_pos (by simp;omega),show j-o=(j-(o+1))+1 by omega,List.getElem?_cons_succ]
  ·rw[if_neg h1];by_cases h2:j=o
   ·subst h2;rw[if_pos (by simp),Nat.sub_self,List.getElem?_cons_zero,Array.getElem?_setIfInBounds_self_of_lt (by omega)]
   ·rw[if_neg (by simp;omega),Array.getElem?_setIfInBounds_ne (by omega)]
theorem F7 (cur:Array Value)(o:Nat)(ys:List Value)(h:o+ys.length≤cur.size):(rC cur o ys).toList=cur.toList.take o++ys++cur.toList.drop (o+ys.length):=by
 apply List.ext_getElem?;intro j;rw[Array.getElem?_toList,qG ys cur o j h,List.append_assoc];have ht:(cur.toList.take o).length=o:=by simp;omega
 by_cases h1:o≤j∧j<o+ys.length
 ·rw[if_pos h1,List.getElem?_append_right (by omega),ht,List.getElem?_append_left (by omega)]
 ·rw[if_neg h1];by_cases h2:j<o
  ·rw[List.getElem?_append_left (by omega),List.getElem?_take_of_lt h2,Array.getElem?_toList]
  ·rw[List.getElem?_append_right (by omega),ht,List.getElem?_append_right (by omega),List.getElem?_drop,show o+ys.length+(j-o-ys.length)=j by omega,Array.getElem?_toList]
theorem dO {g:Nat}{e:TypeId}{fr:Nat×Nat}:∀(ys:List Value) (o:Nat) (w:World) (cur:Array Value),w.heap[g]?=some (.cells cur e fr)→(w.setCells g o ys).heap[g]?=some (.cells (rC cur o ys) e fr)
 |[],_,_,_,h=>h
 |v::r,o,w,cur,h=>by
  rw[World.setCells,rC];exact dO r (o+1) _ _ (vK h)
theorem dQ {g:Nat}:∀(ys:List Value) (o:Nat) (w:World),Touch (fun k=>k=g) w (w.setCells g o ys)
 |[],_,w=>Touch.refl _ _
 |v::r,o,w=>by
  rw[World.setCells];exact((Touch.jS (qC w g o v)).mono fun q _ e=>by cases e;rfl).trans (dQ r (o+1) _)
section
variable {w0 w:World}{L:List bV}{e:TypeId}{sz:Nat}
theorem qg {v:Value}{n:Nat}{xs:List Value}(H:Has w0 w L)(i:Nat)(hi:L[i]?=some (rowA e sz v n xs))(h0:0<n) :
 ∃g cap cur,v=.slice (some ⟨g,0,none⟩) n cap∧w.heap[g]?=some (.cells cur e (0,0))∧n≤cap∧cap≤maxLen∧cur.size=cap*sz∧cur.toList.take (n*sz)=xs∧xs.length=n*sz:=by
 have h:=H.row i hi;rcases h.2 with⟨_,h1⟩|⟨g,cap,cur,h1,_,h2,h3,h4,h5,h6⟩
 ·omega
 ·exact⟨g,cap,cur,h1,h2,h3,h4,h5,h6,h.1⟩
theorem nX {g n cap:Nat}{xs:List Value}(H:Has w0 w L)(i:Nat)(hi:L[i]?=some (rowA e sz (.slice (some ⟨g,0,none⟩) n cap) n xs)) :
 ∃cur,w.heap[g]?=some (.cells cur e (0,0))∧n≤cap∧cap≤maxLen∧cur.size=cap*sz∧cur.toList.take (n*sz)=xs∧xs.length=n*sz:=by
 have h:=H.row i hi;rcases h.2 with⟨h1,_⟩|⟨g',cap',cur,h1,_,h2,h3,h4,h5,h6⟩
 ·cases h1
 ·injection h1 with e1 e2 e3;injection e1 with e1;injection e1 with e1;subst e1;subst e3;exact⟨cur,h2,h3,h4,h5,h6,h.1⟩
theorem Has.AY {g n cap:Nat}{xs:List Value}(H:Has w0 w L)(i:Nat)(hi:L[i]?=some (rowA e sz (.slice (some ⟨g,0,none⟩) n cap) n xs))(w1:World)(ht:Touch (fun k=>k=g) w w1)(cur':Array Value)
 (hh:w1.heap[g]?=some (.cells cur' e (0,0))) (hs:cur'.size=cap*sz) (n':Nat) (xs':List Value) (hn:n'≤cap) (hx:cur'.toList.take (n'*sz)=xs'):Has w0 w1 (L.set i (rowA e sz (.slice (some ⟨g,0,none⟩) n' cap) n' xs')):=by
 obtain⟨F,⟨h1,h2⟩,h3,hgo⟩:=H.get i _ hi;have hF:F g:=h2 g rfl;have hcm:cap≤maxLen∧w.heap.size≤w1.heap.size:=by
  obtain⟨cur,_,_,h4,_⟩:=nX H i hi;exact⟨h4,ht.size⟩
 refine hgo _ _ ⟨F,⟨⟨?_,.inr ⟨g,cap,cur',rfl,Nat.zero_le _,hh,hn,hcm.1,hs,hx⟩⟩,fun k hk=>?_⟩,ht.mono fun q _ e=>by rw[e];exact hF,fun q hq=>⟨.inl hq,Nat.lt_of_lt_of_le (h3 q hq).2 hcm.2⟩⟩
 ·rw[←hx,List.length_take,Array.length_toList,hs];exact Nat.min_eq_left (Nat.mul_le_mul_right _ hn)
 ·exact h2 k hk
end
end
section
open Go.RowKit
section
variable {P:Program}
theorem jP (w:World)(dT sT ty elem:TypeId)(sz:Nat)(b o dLen dCap:Nat)(a:Addr)(sLen sCap:Nat)(cs:List Value)
 (hu:P.underlying dT=some (.slice elem)) (hs:(P.info? elem).map (·.size)=some sz) (hn:cs.length=Nat.min sLen dLen*sz)
 (hsrc:∀j v,cs[j]?=some v→w.cell? (a.add j)=some v) (hc:∀j,j<cs.length→(w.cell? ⟨b,o+j,none⟩).isSome=true) (hf:∀j,j<cs.length→w.frozen? ⟨b,o+j,none⟩=false) (h1:∀v∈cs,v.oneCell'=true) :
 (Builtin.copy_ #[dT,sT] ty #[.slice (some ⟨b,o,none⟩) dLen dCap,.slice (some a) sLen sCap]).run P w=.ok (goInt (Nat.min sLen dLen)) (w.setCells b o cs):=by
 have hl:=run_loadCells_list (P:=P) w a cs hsrc;have hst:=run_storeCells_cells (P:=P) b o cs 0 w (by simpa using hc) (by simpa using hf) h1;cases hq:P.info? elem with
 |none=>simp[hq]at hs
 |some i =>
  have hi:i.size=sz:=by simpa[hq]using hs
  simp[Builtin.copy_,run_underlying hu,Builtin.lenOf,Builtin.firstCells,sizeOf,typeInfo,hq,hi,←hn,hl,hst]
theorem rO (w:World)(t e:TypeId)(z:Value)(sz:Nat)(ht:P.underlying t=some (.slice e))(hv:∀w,(zeroValue e).run P w=.ok z w)(hz:z.cells.size=sz)(h1:z.cells.all (·.oneCell')=true)(b o n c:Nat)(hn:0<n)
 (hc:∀j,j<n*sz→(w.cell? ⟨b,o+j,none⟩).isSome=true) (hf:∀j,j<n*sz→w.frozen? ⟨b,o+j,none⟩=false) :
 ∃zs:List Value,zs.length=n*sz∧∀ty,(Builtin.clear_ #[t] ty #[.slice (some ⟨b,o,none⟩) n c]).run P w=.ok (.tuple #[]) (w.setCells b o zs):=by
 refine⟨(Builtin.zeroCells z.cells n).toList,by simp[Builtin.zeroCells,hz,Nat.mul_comm],fun ty=>?_⟩;have hone:∀v∈(Builtin.zeroCells z.cells n).toList,v.oneCell'=true:=by
  intro v hv';have h2:v∈Builtin.zeroCells z.cells n:=by simpa using hv'
  obtain⟨i,hi,e⟩:=Array.getElem_of_mem h2;have hsz:0<z.cells.size:=by
   rcases Nat.eq_zero_or_pos z.cells.size with h0|h0
   ·simp[Builtin.zeroCells,h0]at hi
   ·exact h0
  have h3:v=z.cells[i%z.cells.size]! :=by
   rw[←e];simp[Builtin.zeroCells]
  have h4:i%z.cells.size<z.cells.size:=Nat.mod_lt _ hsz;rw[h3,getElem!_pos z.cells (i%z.cells.size) h4];exact(Array.all_eq_true.1 h1) _ h4
 have hlen:(Builtin.zeroCells z.cells n).toList.length=n*sz:=by simp[Builtin.zeroCells,hz,Nat.mul_comm]
 have hst:=run_storeCells_cells (P:=P) b o _ 0 w (by intro j hj;rw[hlen]at hj;simpa using hc j hj) (by intro j hj;rw[hlen]at hj;simpa using hf j hj) hone;simp only[Nat.add_zero]at hst;obtain⟨m,rfl⟩:∃m,n=m+1:=⟨n-1,by omega⟩;simp[Builtin.clear_,run_underlying ht,hv,hst]
end
theorem je {w:World}{g:Nat}{e:TypeId}{cur:Array Value}(hg:w.heap[g]?=some (.cells cur e (0,0))){k:Nat}(hk:k<cur.size):(w.cell? ⟨g,k,none⟩).isSome=true:=by
 rw[aj hg,Array.getElem?_eq_getElem hk];rfl
theorem nY {cur:Array Value}{m:Nat}{xs:List Value}(h:cur.toList.take m=xs){j:Nat}{v:Value}(hj:xs[j]?=some v):cur[j]?=some v:=by
 rw[←h,List.getElem?_take]at hj;split at hj
 ·rwa [←Array.getElem?_toList]
 ·cases hj
section
variable {w0 w:World}{L:List bV}
theorem mX (w:World):Touch (fun _=>False) w w.drew:=⟨rfl,rfl,rfl,Nat.le_refl _,fun _ _ _=>rfl⟩
theorem yB {e:TypeId}{i0:TypeInfo}{z:Value}(h:Tryz.prog.info? e=some i0)(hz:i0.zero=some z)(w:World):(zeroValue e).run Tryz.prog w=.ok z w:=by
 simp[zeroValue,typeInfo,h,hz]
theorem yC {e:TypeId}{i0:TypeInfo}{z:Value}(h:Tryz.prog.info? e=some i0)(hz:i0.zero=some z)(hk:(Tryz.prog.info? e).bind (fun i=>i.zero.map fun z=>z.cells.all (·.oneCell'))=some true):z.cells.all (·.oneCell')=true:=by
 rw[h]at hk;simpa[hz]using hk
theorem yD (cur:Array Value)(n k sz:Nat)(xs zs:List Value)(hk:k<n)(hs:n*sz≤cur.size)(hx:cur.toList.take (n*sz)=xs)(hz:zs.length=sz) :
 (rC (rC cur (k*sz) (xs.drop ((k+1)*sz))) ((n-1)*sz) zs).toList.take ((n-1)*sz)=xs.take (k*sz)++xs.drop ((k+1)*sz):=by
 have hxl:xs.length=n*sz:=by rw[←hx,List.length_take,Array.length_toList];exact Nat.min_eq_left hs
 have e1:(k+1)*sz=k*sz+sz:=by rw[Nat.add_mul,Nat.one_mul]
 have e2:n*sz=(n-1)*sz+sz:=by rw[←Nat.add_one_mul];congr 1;omega
 have e3:k*sz≤(n-1)*sz:=Nat.mul_le_mul_right _ (by omega);have hdl:(xs.drop ((k+1)*sz)).length=n*sz-(k+1)*sz:=by rw[List.length_drop,hxl]
 rw[F7 _ _ _ (by rw[dP,hz];omega),F7 _ _ _ (by rw[hdl];omega)];have ht:(cur.toList.take (k*sz))=xs.take (k*sz):=by rw[←hx,List.take_take,Nat.min_eq_left (by omega)]
 rw[ht];have hl1:(xs.take (k*sz)++xs.drop ((k+1)*sz)).length=(n-1)*sz:=by
  rw[List.length_append,List.length_take,hdl,hxl,Nat.min_eq_left (by omega)];omega
 rw[List.append_assoc,List.take_left' (by rw[List.length_take,List.length_append,hl1];omega)];exact List.take_left' hl1
theorem Qx:∃i0 z,Tryz.prog.info? 53=some i0∧i0.zero=some z∧i0.size=2∧i0.bytes≤1000∧z.cells.size=2:=gq (by kernel_rfl)
theorem ML:∃i0 z,Tryz.prog.info? 203=some i0∧i0.zero=some z∧i0.size=4∧i0.bytes≤1000∧z.cells.size=4:=gq (by kernel_rfl)
theorem Qy (H:Has w0 w L)(i:Nat){g n c:Nat}{xs:List Value}(hi:L[i]?=some (rowA 3 1 (.slice (some ⟨g,0,none⟩) n c) n xs))(k:Nat)(hk:k<n)(h1:∀u∈xs,u.oneCell'=true) :
 Calls Tryz.prog 77 #[.slice (some ⟨g,0,none⟩) n c,.int .i64 (k:Int),.int .i64 ((k:Int)+1)] w fun e w'=>e=.returned (.slice (some ⟨g,0,none⟩) (n-1) c)∧Has w0 w' (L.set i (rowA 3 1 (.slice (some ⟨g,0,none⟩) (n-1) c) (n-1) (xs.take (k*1)++xs.drop ((k+1)*1)))):=by
 refine named fun R HQ=>?_;obtain⟨i0,z,hi0,hz0,hzs,hzb,hzc⟩:=info3;obtain⟨cur,hg,hnc,hcm,hsz,htk,hxl⟩:=nX H i hi;have hm63:c≤9223372036854775807:=by unfold maxLen at hcm;omega
 obtain⟨news,hnews⟩:∃news,news=xs.drop ((k+1)*1):=⟨_,rfl⟩;have hlen:news.length=(n-(k+1))*1:=by rw[hnews,List.length_drop,hxl];omega
 have hgd:w.drew.heap[g]?=some (.cells cur 3 (0,0)):=hg;obtain⟨A,hA,hsrc⟩:∃A:Addr,(if c=k+1 then some (⟨g,0,none⟩:Addr)else some ⟨g,(k+1)*1,none⟩)=some A∧(∀t u,news[t]?=some u→w.drew.cell? (A.add t)=some u):=by
  by_cases h:c=k+1
  ·refine⟨⟨g,0,none⟩,by simp[h],fun t u hu=>?_⟩;have h0:news.length=0:=by rw[hlen];omega
   rw[List.length_eq_zero_iff.1 h0]at hu;simp at hu
  ·refine⟨⟨g,(k+1)*1,none⟩,by simp[h],fun t u hu=>?_⟩;rw[hnews,List.getElem?_drop]at hu;rw[Addr.add_mid,aj hgd];exact nY htk hu
 have Qz:=ah.mk hsrc;have HL:=ah.mk hlen;have s2:ah (∀u∈news,u.oneCell'=true):=⟨fun u hu=>h1 u (by rw[hnews]at hu;exact List.mem_of_mem_drop hu)⟩;have s3:ah (∀t,t<news.length→(w.drew.cell? ⟨g,0+k*1+t,none⟩).isSome=true∧w.drew.frozen? ⟨g,0+k*1+t,none⟩=false):=⟨fun t ht=>⟨je hgd (by rw[hlen]at ht;omega),aI hgd _⟩⟩;obtain⟨W1,hW1⟩:∃W1,W1=w.drew.setCells g (0+k*1) news:=⟨_,rfl⟩;have hg1:W1.heap[g]?=some (.cells (rC cur (k*1) news) 3 (0,0)):=by rw[hW1,Nat.zero_add];exact dO _ _ _ _ hgd
 obtain⟨zs,hzl,F8⟩:=rO (P:=Tryz.prog) W1 44 3 z 1 Tryz.underlying44 (yB hi0 hz0) hzc (yC hi0 hz0 (by kernel_rfl)) g ((n-1)*1) 1 (c-(n-1)) (by decide) (fun j hj=>je hg1 (by rw[dP];omega)) (fun j hj=>aI hg1 _);have hcl:∀ty,(Builtin.clear_ #[44] ty #[.slice (some ⟨g,n-1,none⟩) (n-(n-1)) (c-(n-1))]).run Tryz.prog W1=.ok (.tuple #[]) (W1.setCells g ((n-1)*1) zs):=fun ty=>by
  rw[show n-(n-1)=1 by omega];simpa only[Nat.mul_one]using F8 ty
 have HF:ah (Has w0 (W1.setCells g ((n-1)*1) zs) (L.set i (rowA 3 1 (.slice (some ⟨g,0,none⟩) (n-1) c) (n-1) (xs.take (k*1)++xs.drop ((k+1)*1))))):=⟨by
  refine H.AY i hi _ ?_ (rC (rC cur (k*1) news) ((n-1)*1) zs) (dO _ _ _ _ hg1) (by rw[dP,dP,hsz]) (n-1) _ (by omega) ?_
  ·rw[hW1];exact(((mX w).mono fun _ _ h=>h.elim).trans (dQ _ _ _)).trans (dQ _ _ _)
  ·rw[hnews];exact yD cur n k 1 xs zs hk (by rw[hsz];exact Nat.mul_le_mul_right _ hnc) htk (by simpa using hzl)⟩
 have hW:ah (W1=w.drew.setCells g (0+k*1) news):=⟨hW1⟩;have hic:k≤c:=by omega
 have hjc:k+1≤c:=by omega
 have e2:k+(n-(k+1))=n-1:=by omega
 have mixed:Tryz.prog.follows .mixedOrders=true:=by kernel_rfl
 have hbn:(k:Int)+1≤n:=by omega
 have hb0:(0:Int)≤(k:Int)+1:=by omega
 simp only[Nat.mul_one]at hA;clear hW1 hg1 F8 hg hgd hsrc hlen hnews hsz htk hxl hzl H hi h1;go_enter Tryz.func77,Tryz.ntmps77;go_wp2_with fail
 go_region_law_o (refine step_append_room rfl (.tmp 22) (.tmp 25) 44 rfl 3 i0 1 Tryz.underlying44 hi0 hzs g 0 k c (by simp[Act.eval,Act.put]) A (n-(k+1)) (c-(k+1)) news (by simp[Act.eval,Act.put];try exact hA) HL.out Qz.out s2.out (by omega) s3.out ?_;rw[←hW.out])
 go_wp2_with fail
 first|go_ret|skip
 rw[←HQ.out];exact⟨rfl,by simpa only[Nat.mul_one]using HF.out⟩
theorem Jw (H:Has w0 w L)(i:Nat){g n c:Nat}{xs:List Value}(hi:L[i]?=some (rowA 53 2 (.slice (some ⟨g,0,none⟩) n c) n xs))(k:Nat)(hk:k<n)(h1:∀u∈xs,u.oneCell'=true) :
 Calls Tryz.prog 123 #[.slice (some ⟨g,0,none⟩) n c,.int .i64 (k:Int),.int .i64 ((k:Int)+1)] w fun e w'=>e=.returned (.slice (some ⟨g,0,none⟩) (n-1) c)∧Has w0 w' (L.set i (rowA 53 2 (.slice (some ⟨g,0,none⟩) (n-1) c) (n-1) (xs.take (k*2)++xs.drop ((k+1)*2)))):=by
 refine named fun R HQ=>?_;obtain⟨i0,z,hi0,hz0,hzs,hzb,hzc⟩:=Qx;obtain⟨cur,hg,hnc,hcm,hsz,htk,hxl⟩:=nX H i hi;have hm63:c≤9223372036854775807:=by unfold maxLen at hcm;omega
 obtain⟨news,hnews⟩:∃news,news=xs.drop ((k+1)*2):=⟨_,rfl⟩;have hlen:news.length=(n-(k+1))*2:=by rw[hnews,List.length_drop,hxl];omega
 have hgd:w.drew.heap[g]?=some (.cells cur 53 (0,0)):=hg;obtain⟨A,hA,hsrc⟩:∃A:Addr,(if c=k+1 then some (⟨g,0,none⟩:Addr)else some ⟨g,(k+1)*2,none⟩)=some A∧(∀t u,news[t]?=some u→w.drew.cell? (A.add t)=some u):=by
  by_cases h:c=k+1
  ·refine⟨⟨g,0,none⟩,by simp[h],fun t u hu=>?_⟩;have h0:news.length=0:=by rw[hlen];omega
   rw[List.length_eq_zero_iff.1 h0]at hu;simp at hu
  ·refine⟨⟨g,(k+1)*2,none⟩,by simp[h],fun t u hu=>?_⟩;rw[hnews,List.getElem?_drop]at hu;rw[Addr.add_mid,aj hgd];exact nY htk hu
 have Qz:=ah.mk hsrc;have HL:=ah.mk hlen;have s2:ah (∀u∈news,u.oneCell'=true):=⟨fun u hu=>h1 u (by rw[hnews]at hu;exact List.mem_of_mem_drop hu)⟩;have s3:ah (∀t,t<news.length→(w.drew.cell? ⟨g,0+k*2+t,none⟩).isSome=true∧w.drew.frozen? ⟨g,0+k*2+t,none⟩=false):=⟨fun t ht=>⟨je hgd (by rw[hlen]at ht;omega),aI hgd _⟩⟩;obtain⟨W1,hW1⟩:∃W1,W1=w.drew.setCells g (0+k*2) news:=⟨_,rfl⟩;have hg1:W1.heap[g]?=some (.cells (rC cur (k*2) news) 53 (0,0)):=by rw[hW1,Nat.zero_add];exact dO _ _ _ _ hgd
 obtain⟨zs,hzl,F8⟩:=rO (P:=Tryz.prog) W1 124 53 z 2 Tryz.underlying124 (yB hi0 hz0) hzc (yC hi0 hz0 (by kernel_rfl)) g ((n-1)*2) 1 (c-(n-1)) (by decide) (fun j hj=>je hg1 (by rw[dP];omega)) (fun j hj=>aI hg1 _);have hcl:∀ty,(Builtin.clear_ #[124] ty #[.slice (some ⟨g,(n-1)*2,none⟩) (n-(n-1)) (c-(n-1))]).run Tryz.prog W1=.ok (.tuple #[]) (W1.setCells g ((n-1)*2) zs):=fun ty=>by
  rw[show n-(n-1)=1 by omega];exact F8 ty
 have HF:ah (Has w0 (W1.setCells g ((n-1)*2) zs) (L.set i (rowA 53 2 (.slice (some ⟨g,0,none⟩) (n-1) c) (n-1) (xs.take (k*2)++xs.drop ((k+1)*2))))):=⟨by
  refine H.AY i hi _ ?_ (rC (rC cur (k*2) news) ((n-1)*2) zs) (dO _ _ _ _ hg1) (by rw[dP,dP,hsz]) (n-1) _ (by omega) ?_
  ·rw[hW1];exact(((mX w).mono fun _ _ h=>h.elim).trans (dQ _ _ _)).trans (dQ _ _ _)
  ·rw[hnews];exact yD cur n k 2 xs zs hk (by rw[hsz];exact Nat.mul_le_mul_right _ hnc) htk (by simpa using hzl)⟩
 have hW:ah (W1=w.drew.setCells g (0+k*2) news):=⟨hW1⟩;have hic:k≤c:=by omega
 have hjc:k+1≤c:=by omega
 have e2:k+(n-(k+1))=n-1:=by omega
 have mixed:Tryz.prog.follows .mixedOrders=true:=by kernel_rfl
 have hbn:(k:Int)+1≤n:=by omega
 have hb0:(0:Int)≤(k:Int)+1:=by omega
 clear hW1 hg1 F8 hg hgd hsrc hlen hnews hsz htk hxl hzl H hi h1;go_enter Tryz.func123,Tryz.ntmps123;go_wp2_with fail
 go_region_law_o (refine step_append_room rfl (.tmp 22) (.tmp 25) 124 rfl 53 i0 2 Tryz.underlying124 hi0 hzs g 0 k c (by simp[Act.eval,Act.put]) A (n-(k+1)) (c-(k+1)) news (by simp[Act.eval,Act.put];try exact hA) HL.out Qz.out s2.out (by omega) s3.out ?_;rw[←hW.out])
 go_wp2_with fail
 first|go_ret|skip
 rw[←HQ.out];exact⟨rfl,HF.out⟩
theorem Ov (H:Has w0 w L)(i:Nat){g n c:Nat}{xs:List Value}(hi:L[i]?=some (rowA 203 4 (.slice (some ⟨g,0,none⟩) n c) n xs))(k:Nat)(hk:k<n)(h1:∀u∈xs,u.oneCell'=true) :
 Calls Tryz.prog 119 #[.slice (some ⟨g,0,none⟩) n c,.int .i64 (k:Int),.int .i64 ((k:Int)+1)] w fun e w'=>e=.returned (.slice (some ⟨g,0,none⟩) (n-1) c)∧Has w0 w' (L.set i (rowA 203 4 (.slice (some ⟨g,0,none⟩) (n-1) c) (n-1) (xs.take (k*4)++xs.drop ((k+1)*4)))):=by
 refine named fun R HQ=>?_;obtain⟨i0,z,hi0,hz0,hzs,hzb,hzc⟩:=ML;obtain⟨cur,hg,hnc,hcm,hsz,htk,hxl⟩:=nX H i hi;have hm63:c≤9223372036854775807:=by unfold maxLen at hcm;omega
 obtain⟨news,hnews⟩:∃news,news=xs.drop ((k+1)*4):=⟨_,rfl⟩;have hlen:news.length=(n-(k+1))*4:=by rw[hnews,List.length_drop,hxl];omega
 have hgd:w.drew.heap[g]?=some (.cells cur 203 (0,0)):=hg;obtain⟨A,hA,hsrc⟩:∃A:Addr,(if c=k+1 then some (⟨g,0,none⟩:Addr)else some ⟨g,(k+1)*4,none⟩)=some A∧(∀t u,news[t]?=some u→w.drew.cell? (A.add t)=some u):=by
  by_cases h:c=k+1
  ·refine⟨⟨g,0,none⟩,by simp[h],fun t u hu=>?_⟩;have h0:news.length=0:=by rw[hlen];omega
   rw[List.length_eq_zero_iff.1 h0]at hu;simp at hu
  ·refine⟨⟨g,(k+1)*4,none⟩,by simp[h],fun t u hu=>?_⟩;rw[hnews,List.getElem?_drop]at hu;rw[Addr.add_mid,aj hgd];exact nY htk hu
 have Qz:=ah.mk hsrc;have HL:=ah.mk hlen;have s2:ah (∀u∈news,u.oneCell'=true):=⟨fun u hu=>h1 u (by rw[hnews]at hu;exact List.mem_of_mem_drop hu)⟩;have s3:ah (∀t,t<news.length→(w.drew.cell? ⟨g,0+k*4+t,none⟩).isSome=true∧w.drew.frozen? ⟨g,0+k*4+t,none⟩=false):=⟨fun t ht=>⟨je hgd (by rw[hlen]at ht;omega),aI hgd _⟩⟩;obtain⟨W1,hW1⟩:∃W1,W1=w.drew.setCells g (0+k*4) news:=⟨_,rfl⟩;have hg1:W1.heap[g]?=some (.cells (rC cur (k*4) news) 203 (0,0)):=by rw[hW1,Nat.zero_add];exact dO _ _ _ _ hgd
 obtain⟨zs,hzl,F8⟩:=rO (P:=Tryz.prog) W1 127 203 z 4 Tryz.underlying127 (yB hi0 hz0) hzc (yC hi0 hz0 (by kernel_rfl)) g ((n-1)*4) 1 (c-(n-1)) (by decide) (fun j hj=>je hg1 (by rw[dP];omega)) (fun j hj=>aI hg1 _);have hcl:∀ty,(Builtin.clear_ #[127] ty #[.slice (some ⟨g,(n-1)*4,none⟩) (n-(n-1)) (c-(n-1))]).run Tryz.prog W1=.ok (.tuple #[]) (W1.setCells g ((n-1)*4) zs):=fun ty=>by
  rw[show n-(n-1)=1 by omega];exact F8 ty
 have HF:ah (Has w0 (W1.setCells g ((n-1)*4) zs) (L.set i (rowA 203 4 (.slice (some ⟨g,0,none⟩) (n-1) c) (n-1) (xs.take (k*4)++xs.drop ((k+1)*4))))):=⟨by
  refine H.AY i hi _ ?_ (rC (rC cur (k*4) news) ((n-1)*4) zs) (dO _ _ _ _ hg1) (by rw[dP,dP,hsz]) (n-1) _ (by omega) ?_
  ·rw[hW1];exact(((mX w).mono fun _ _ h=>h.elim).trans (dQ _ _ _)).trans (dQ _ _ _)
  ·rw[hnews];exact yD cur n k 4 xs zs hk (by rw[hsz];exact Nat.mul_le_mul_right _ hnc) htk (by simpa using hzl)⟩
 have hW:ah (W1=w.drew.setCells g (0+k*4) news):=⟨hW1⟩;have hic:k≤c:=by omega
 have hjc:k+1≤c:=by omega
 have e2:k+(n-(k+1))=n-1:=by omega
 have mixed:Tryz.prog.follows .mixedOrders=true:=by kernel_rfl
 have hbn:(k:Int)+1≤n:=by omega
 have hb0:(0:Int)≤(k:Int)+1:=by omega
 clear hW1 hg1 F8 hg hgd hsrc hlen hnews hsz htk hxl hzl H hi h1;go_enter Tryz.func119,Tryz.ntmps119;go_wp2_with fail
 go_region_law_o (refine step_append_room rfl (.tmp 22) (.tmp 25) 127 rfl 203 i0 4 Tryz.underlying127 hi0 hzs g 0 k c (by simp[Act.eval,Act.put]) A (n-(k+1)) (c-(k+1)) news (by simp[Act.eval,Act.put];try exact hA) HL.out Qz.out s2.out (by omega) s3.out ?_;rw[←hW.out])
 go_wp2_with fail
 first|go_ret|skip
 rw[←HQ.out];exact⟨rfl,HF.out⟩
end
end
section
open Go.RowKit
def mk (s k:Nat):Nat:=(2^k-1)*2^s
def aW (m:Nat):Array Value:=#[.int .u64 (m:Int),.int .u64 0,.int .u64 0,.int .u64 0,.int .u64 0,.int .u64 0,.int .u64 0,.int .u64 0,.int .u64 0,.int .u64 0,.int .u64 0,.int .u64 0,.int .u64 0,.int .u64 0,.int .u64 0,.int .u64 0]
theorem Uj:∀s,s≤7→∀k,k≤7→s+k≤7→bits .or .u64 ((mk s k:Nat):Int) ((2^(s+k):Nat):Int)=((mk s (k+1):Nat):Int):=by decide
theorem Uk (s:Nat):mk s 0=0:=by simp[mk]
def yR (m:Nat):Nat:=m%2+m/2%2+m/4%2+m/8%2+m/16%2+m/32%2+m/64%2+m/128%2
def XJ (m s q:Nat):Bool:=decide (8<s+2^q)||(bits .and .u64 (m:Int) ((mk s (2^q):Nat):Int)==((m&&&mk s (2^q):Nat):Int)&&bits .or .u64 (m:Int) ((mk s (2^q):Nat):Int)==((m|||mk s (2^q):Nat):Int)&&decide ((m|||mk s (2^q))<256)&&(m&&&mk s (2^q) != 0||decide (yR m+1≤yR (m|||mk s (2^q)))))
theorem QV:((List.range 256).all fun m=>(List.range 8).all fun s=>(List.range 4).all fun q=>XJ m s q)=true:=by decide +kernel
theorem uZ (m s q:Nat)(hm:m<256)(hq:q≤3)(hs:s+2^q≤8):bits .and .u64 (m:Int) ((mk s (2^q):Nat):Int)=((m&&&mk s (2^q):Nat):Int)∧bits .or .u64 (m:Int) ((mk s (2^q):Nat):Int)=((m|||mk s (2^q):Nat):Int)∧(m|||mk s (2^q))<256∧(m&&&mk s (2^q)=0→yR m+1≤yR (m|||mk s (2^q))):=by
 have h1:1≤2^q:=Nat.one_le_two_pow;have h:=List.all_eq_true.1 (List.all_eq_true.1 (List.all_eq_true.1 QV m (List.mem_range.2 hm)) s (List.mem_range.2 (by omega))) q (List.mem_range.2 (by omega));unfold XJ at h;rw[show decide (8<s+2^q)=false by simp;omega]at h;simp only[Bool.false_or,Bool.and_eq_true,beq_iff_eq,decide_eq_true_eq,Bool.or_eq_true,bne_iff_ne,ne_eq]at h;obtain⟨⟨⟨a,b⟩,c⟩,d⟩:=h;exact⟨a,b,c,fun e=>d.resolve_left fun f=>f e⟩
theorem Nh (m:Nat):yR m≤8:=by unfold yR;omega
theorem jB (m:Nat):(Tryz.prog.info? 283).map (·.size)=some (aW m).size:=by rw[show(aW m).size=16 from rfl];kernel_rfl
theorem kW (m:Nat):(aW m).all (·.oneCell')=true:=by simp[aW,Value.oneCell']
theorem yS (m m':Nat):(aW m).setIfInBounds 0 (.int .u64 (m':Int))=aW m':=rfl
theorem vg (s q:Nat)(hs:s+2^q≤8)(hq:q≤3)(w:World) :
 Calls Tryz.prog 202 #[.agg #[.int .i64 (s:Int),.int .i64 (q:Int)]] w fun e w'=>e=.returned (.agg (aW (mk s (2^q))))∧Below w.heap.size w w':=by
 refine named fun R HQ=>?_;have H0:=ah.mk ((((Has.start w).bg (.cells #[.int .i64 (s:Int),.int .i64 (q:Int)] 53)).bg (.cells (aW 0) 283)).bg (.cells (aW 0) 283));have hz:((w.alloc (.cells #[.int .i64 (s:Int),.int .i64 (q:Int)] 53)).alloc (.cells (aW 0) 283)).heap.size=w.heap.size+1+1:=by simp
 have hz1:(w.alloc (.cells #[.int .i64 (s:Int),.int .i64 (q:Int)] 53)).heap.size=w.heap.size+1:=by simp
 rw[hz,hz1]at H0;obtain⟨z,Ul⟩:∃z:Nat,z=2^q:=⟨_,rfl⟩;have bz:=fP hq;have s1:wrap64 ((2:Int)^min q 64)=(z:Int):=by
  rw[Ul];rcases(by omega:q=0∨q=1∨q=2∨q=3)with h|h|h|h<;>rw[h]<;>kernel_rfl
 rw[←Ul]at bz hs HQ;have w1:wrap64 ((s:Int)+z)=(s:Int)+z:=wrap_in (by omega) (by omega);clear hz hz1 Ul hq;go_enter Tryz.func202,Tryz.ntmps202;go_wp2_with fail
 go_loopw [4] (fun i wr=>∃(v m:Nat),i=.int .i64 (v:Int)∧ah (∃k,v=s+k∧k≤z∧m=mk s k)∧ah (Has w wr [aF w.heap.size (.cells #[.int .i64 (s:Int),.int .i64 (q:Int)] 53),aF (w.heap.size+1) (.cells (aW 0) 283),aF (w.heap.size+1+1) (.cells (aW m) 283)])) (fun i _=>8-(intOf i).toNat)
 case atStart=>exact⟨s,0,rfl,⟨0,rfl,Nat.zero_le _,(Uk s).symm⟩,H0⟩
 case round =>
  clear H0;obtain⟨v,m,rfl,HK,HB⟩:=hrel;have c0:wr.cell? ⟨w.heap.size,0,none⟩=some (.int .i64 (s:Int)):=by rw[aj (HB.out.blk 0 rfl)];rfl
  have c1:wr.cell? ⟨w.heap.size,1,none⟩=some (.int .i64 (q:Int)):=by rw[aj (HB.out.blk 0 rfl)];rfl
  have c2:wr.cell? ⟨w.heap.size+1+1,0,none⟩=some (.int .u64 (m:Nat)):=by rw[aj (HB.out.blk 2 rfl)];rfl
  have c3:wr.frozen? ⟨w.heap.size+1+1,0,none⟩=false:=aI (HB.out.blk 2 rfl) _;by_cases hlt:v<s+z
  ·have e1:(v:Int)<s+z:=by omega
   have v7:v≤7:=by omega
   have q1:v/64=0:=by omega
   have q2:v%64=v:=by omega
   obtain⟨p,hp⟩:∃p:Nat,p=2^v:=⟨_,rfl⟩;have s2:IntKind.u64.wrap ((2:Int)^v)=(p:Int):=by
    rw[hp];rcases(by omega:v=0∨v=1∨v=2∨v=3∨v=4∨v=5∨v=6∨v=7)with h|h|h|h|h|h|h|h<;>rw[h]<;>first|rfl|decide
   obtain⟨m',hm'⟩:∃m':Nat,bits .or .u64 (m:Int) (p:Int)=(m':Int)∧∃k,v+1=s+k∧k≤z∧m'=mk s k:=by
    obtain⟨k,h1,h2,h3⟩:=HK.out;have hk:k<z:=by omega
    refine⟨mk s (k+1),?_,k+1,by omega,by omega,rfl⟩;rw[h3,hp,h1];exact Uj s (by omega) k (by omega) (by omega)
   have s3:=hm'.1;have HK':=ah.mk hm'.2;clear hm' hp;go_wp2_with fail
   go_quiet (fail)
   go_wp2_with fail
   go_region
   all_goals
    go_wp2_with fail
    go_roundw
    case rel=>exact⟨v+1,m',rfl,HK',⟨(HB.out.drewN _).put 2 rfl 0 _ _ (yS m m')⟩⟩
    case measure=>simp[intOf];omega
  ·have e1:¬(v:Int)<s+z:=by omega
   have RX:ah (∀n,(wr.drewN n).rangeAt (w.heap.size+1+1) 0 (aW m).toList):=⟨fun n=>aX ((HB.out.drewN n).blk 2 rfl) 0 _ fun i v h=>by simpa using h⟩;have BX:ah (∀n,(wr.drewN n).heap[w.heap.size + 1]?=some (.cells (aW 0) 283)):=⟨fun n=>(HB.out.drewN n).blk 1 rfl⟩;have oJ:=jB m;go_wp2_with fail
   go_quiet (fail)
   go_wp2_with (first|(refine aY rfl 283 (.tmp 2) (.tmp 26) rfl (w.heap.size+1) (aW m) rfl rfl 283 _ (BX.out _) oJ rfl (kW m) ?_)|(refine aJ rfl 283 (.tmp 3) rfl (w.heap.size+1+1) 0 rfl (aW m) _ (RX.out _) Tryz.underlying283 rfl oJ ?_))
   have hg:=setRow_heap (wr.drewN nq) (w.heap.size+1) _ (aW m) 283 (0,0) (BX.out _);refine bodyPost_ret (results_cell_row rfl _ _ (w.heap.size+1) 283 (aW m) (0,0) _ (by rfl) hg Tryz.underlying283 rfl (by kernel_rfl)) rfl ?_;rw[←HQ.out];obtain⟨k,h1,h2,h3⟩:=HK.out;have hk:k=z:=by omega
   exact⟨by rw[h3,hk],below_setRow ((HB.out.drewN _).old) (by omega) _⟩
theorem xG (m i:Nat)(h1:1≤i)(h2:i<16):(aW m)[i]?=some (.int .u64 0):=by
 rcases(by omega:i=1∨i=2∨i=3∨i=4∨i=5∨i=6∨i=7∨i=8∨i=9∨i=10∨i=11∨i=12∨i=13∨i=14∨i=15)with h|h|h|h|h|h|h|h|h|h|h|h|h|h|h<;>subst h<;>rfl
theorem BH (m i:Nat)(h1:1≤i)(h2:i<16):(aW m).setIfInBounds i (.int .u64 0)=aW m:=by
 rcases(by omega:i=1∨i=2∨i=3∨i=4∨i=5∨i=6∨i=7∨i=8∨i=9∨i=10∨i=11∨i=12∨i=13∨i=14∨i=15)with h|h|h|h|h|h|h|h|h|h|h|h|h|h|h<;>subst h<;>rfl
theorem JY (m k r:Nat)(hr:bits .and .u64 (m:Int) (k:Int)=(r:Int))(w:World) :
 Calls Tryz.prog 245 #[.agg (aW m),.agg (aW k)] w fun e w'=>e=.returned (.agg (aW r))∧Below w.heap.size w w':=by
 refine named fun R HQ=>?_;have H0:=ah.mk ((((Has.start w).bg (.cells (aW m) 283)).bg (.cells (aW k) 283)).bg (.cells (aW 0) 283));have hz:((w.alloc (.cells (aW m) 283)).alloc (.cells (aW k) 283)).heap.size=w.heap.size+1+1:=by simp
 have hz1:(w.alloc (.cells (aW m) 283)).heap.size=w.heap.size+1:=by simp
 rw[hz,hz1]at H0;have h0:bits .and .u64 0 0=0:=by decide
 clear hz hz1;go_enter Tryz.func245,Tryz.ntmps245;go_wp2_with fail
 go_loopw [6] (fun i wr=>∃v:Nat,i=.int .i64 (v:Int)∧v≤16∧ah (∃m',(v=0→m'=m)∧(1≤v→m'=r)∧Has w wr [aF w.heap.size (.cells (aW m') 283),aF (w.heap.size+1) (.cells (aW k) 283),aF (w.heap.size+1+1) (.cells (aW 0) 283)])) (fun i _=>16-(intOf i).toNat)
 case atStart=>exact⟨0,rfl,by omega,⟨m,fun _=>rfl,fun h=>by omega,H0.out⟩⟩
 case round =>
  clear H0;obtain⟨v,rfl,hv,HB⟩:=hrel;by_cases hlt:v<16
  ·obtain⟨x,y,x',c2,d2,c3,hx,HX⟩:∃x y x':Int,wr.cell? ⟨w.heap.size,v,none⟩=some (.int .u64 x)∧wr.cell? ⟨w.heap.size+1,v,none⟩=some (.int .u64 y)∧wr.frozen? ⟨w.heap.size,v,none⟩=false∧bits .and .u64 x y=x'∧ah (∀q,Has w ((wr.drewN q).setCell ⟨w.heap.size,v,none⟩ (.int .u64 x')) [aF w.heap.size (.cells (aW r) 283),aF (w.heap.size+1) (.cells (aW k) 283),aF (w.heap.size+1+1) (.cells (aW 0) 283)]):=by
    obtain⟨m',h1,h2,H⟩:=HB.out;by_cases e:v=0
    ·subst e;rw[h1 rfl]at H;exact⟨m,k,r,by rw[aj (H.blk 0 rfl)];rfl,by rw[aj (H.blk 1 rfl)];rfl,aI (H.blk 0 rfl) _,hr,⟨fun q=>(H.drewN q).put 0 rfl 0 _ _ (yS m r)⟩⟩
    ·rw[h2 (by omega)]at H;exact⟨0,0,0,by rw[aj (H.blk 0 rfl),xG _ v (by omega) hlt],by rw[aj (H.blk 1 rfl),xG _ v (by omega) hlt],aI (H.blk 0 rfl) _,h0,⟨fun q=>(H.drewN q).put 0 rfl v _ _ (BH r v (by omega) hlt)⟩⟩
   have e1:(v:Int)<16:=by omega
   clear HB hr h0;go_wp2_with fail
   go_region
   all_goals
    go_wp2_with fail
    go_roundw
    case rel=>exact⟨v+1,rfl,by omega,⟨r,fun h=>by omega,fun _=>rfl,HX.out _⟩⟩
    case measure=>simp[intOf];omega
  ·have e1:¬(v:Int)<16:=by omega
   obtain⟨m',h1,h2,H⟩:=HB.out;rw[h2 (by omega)]at H;have RX:ah (wr.rangeAt w.heap.size 0 (aW r).toList):=⟨aX (H.blk 0 rfl) 0 _ fun i v h=>by simpa using h⟩;have BX:ah (wr.heap[w.heap.size+1 + 1]?=some (.cells (aW 0) 283)):=⟨H.blk 2 rfl⟩;have HH:=ah.mk H;have oJ:=jB r;clear H h1 h2 HB hr h0;go_wp2_with (first|(refine aY rfl 283 (.tmp 4) (.tmp 18) rfl (w.heap.size+1+1) (aW r) rfl rfl 283 _ BX.out oJ rfl (kW r) ?_)|(refine aJ rfl 283 (.tmp 2) rfl w.heap.size 0 rfl (aW r) _ RX.out Tryz.underlying283 rfl oJ ?_))
   have hg:=setRow_heap wr (w.heap.size+1+1) _ (aW r) 283 (0,0) BX.out;refine bodyPost_ret (results_cell_row rfl _ _ (w.heap.size+1+1) 283 (aW r) (0,0) _ (by rfl) hg Tryz.underlying283 rfl (by kernel_rfl)) rfl ?_;rw[←HQ.out];exact⟨rfl,below_setRow HH.out.old (by omega) _⟩
theorem BJ (m k r:Nat)(hr:bits .or .u64 (m:Int) (k:Int)=(r:Int))(w:World) :
 Calls Tryz.prog 210 #[.agg (aW m),.agg (aW k)] w fun e w'=>e=.returned (.agg (aW r))∧Below w.heap.size w w':=by
 refine named fun R HQ=>?_;have H0:=ah.mk ((((Has.start w).bg (.cells (aW m) 283)).bg (.cells (aW k) 283)).bg (.cells (aW 0) 283));have hz:((w.alloc (.cells (aW m) 283)).alloc (.cells (aW k) 283)).heap.size=w.heap.size+1+1:=by simp
 have hz1:(w.alloc (.cells (aW m) 283)).heap.size=w.heap.size+1:=by simp
 rw[hz,hz1]at H0;have h0:bits .or .u64 0 0=0:=by decide
 clear hz hz1;go_enter Tryz.func210,Tryz.ntmps210;go_wp2_with fail
 go_loopw [6] (fun i wr=>∃v:Nat,i=.int .i64 (v:Int)∧v≤16∧ah (∃m',(v=0→m'=m)∧(1≤v→m'=r)∧Has w wr [aF w.heap.size (.cells (aW m') 283),aF (w.heap.size+1) (.cells (aW k) 283),aF (w.heap.size+1+1) (.cells (aW 0) 283)])) (fun i _=>16-(intOf i).toNat)
 case atStart=>exact⟨0,rfl,by omega,⟨m,fun _=>rfl,fun h=>by omega,H0.out⟩⟩
 case round =>
  clear H0;obtain⟨v,rfl,hv,HB⟩:=hrel;by_cases hlt:v<16
  ·obtain⟨x,y,x',c2,d2,c3,hx,HX⟩:∃x y x':Int,wr.cell? ⟨w.heap.size,v,none⟩=some (.int .u64 x)∧wr.cell? ⟨w.heap.size+1,v,none⟩=some (.int .u64 y)∧wr.frozen? ⟨w.heap.size,v,none⟩=false∧bits .or .u64 x y=x'∧ah (∀q,Has w ((wr.drewN q).setCell ⟨w.heap.size,v,none⟩ (.int .u64 x')) [aF w.heap.size (.cells (aW r) 283),aF (w.heap.size+1) (.cells (aW k) 283),aF (w.heap.size+1+1) (.cells (aW 0) 283)]):=by
    obtain⟨m',h1,h2,H⟩:=HB.out;by_cases e:v=0
    ·subst e;rw[h1 rfl]at H;exact⟨m,k,r,by rw[aj (H.blk 0 rfl)];rfl,by rw[aj (H.blk 1 rfl)];rfl,aI (H.blk 0 rfl) _,hr,⟨fun q=>(H.drewN q).put 0 rfl 0 _ _ (yS m r)⟩⟩
    ·rw[h2 (by omega)]at H;exact⟨0,0,0,by rw[aj (H.blk 0 rfl),xG _ v (by omega) hlt],by rw[aj (H.blk 1 rfl),xG _ v (by omega) hlt],aI (H.blk 0 rfl) _,h0,⟨fun q=>(H.drewN q).put 0 rfl v _ _ (BH r v (by omega) hlt)⟩⟩
   have e1:(v:Int)<16:=by omega
   clear HB hr h0;go_wp2_with fail
   go_region
   all_goals
    go_wp2_with fail
    go_roundw
    case rel=>exact⟨v+1,rfl,by omega,⟨r,fun h=>by omega,fun _=>rfl,HX.out _⟩⟩
    case measure=>simp[intOf];omega
  ·have e1:¬(v:Int)<16:=by omega
   obtain⟨m',h1,h2,H⟩:=HB.out;rw[h2 (by omega)]at H;have RX:ah (wr.rangeAt w.heap.size 0 (aW r).toList):=⟨aX (H.blk 0 rfl) 0 _ fun i v h=>by simpa using h⟩;have BX:ah (wr.heap[w.heap.size+1 + 1]?=some (.cells (aW 0) 283)):=⟨H.blk 2 rfl⟩;have HH:=ah.mk H;have oJ:=jB r;clear H h1 h2 HB hr h0;go_wp2_with (first|(refine aY rfl 283 (.tmp 4) (.tmp 18) rfl (w.heap.size+1+1) (aW r) rfl rfl 283 _ BX.out oJ rfl (kW r) ?_)|(refine aJ rfl 283 (.tmp 2) rfl w.heap.size 0 rfl (aW r) _ RX.out Tryz.underlying283 rfl oJ ?_))
   have hg:=setRow_heap wr (w.heap.size+1+1) _ (aW r) 283 (0,0) BX.out;refine bodyPost_ret (results_cell_row rfl _ _ (w.heap.size+1+1) 283 (aW r) (0,0) _ (by rfl) hg Tryz.underlying283 rfl (by kernel_rfl)) rfl ?_;rw[←HQ.out];exact⟨rfl,below_setRow HH.out.old (by omega) _⟩
theorem Um (r:Nat)(w:World):(Op.equalIn 10000 283 (.agg (aW r)) (.agg #[.int .u64 0,.int .u64 0,.int .u64 0,.int .u64 0,.int .u64 0,.int .u64 0,.int .u64 0,.int .u64 0,.int .u64 0,.int .u64 0,.int .u64 0,.int .u64 0,.int .u64 0,.int .u64 0,.int .u64 0,.int .u64 0])).run Tryz.prog w=.ok (decide (r=0)) w:=by
 cases r with
 |zero=>kernel_rfl
 |succ r =>
  rw[show decide (r+1=0)=false by simp];kernel_rfl
theorem uy (m k r:Nat)(hr:bits .and .u64 (m:Int) (k:Int)=(r:Int))(w:World) :
 Calls Tryz.prog 201 #[.agg (aW m),.agg (aW k)] w fun e w'=>e=.returned (.bool (decide (r≠0)))∧Below w.heap.size w w':=by
 refine named fun R HQ=>?_;have B:=ah.mk (au (au (Below.refl w.heap.size w) (.cells (aW m) 283)) (.cells (aW k) 283));have R1:ah (((w.alloc (.cells (aW m) 283)).alloc (.cells (aW k) 283)).rangeAt w.heap.size 0 (aW m).toList):=⟨aX ((heap_alloc_old _ _ (by simp)).trans (heap_alloc_new _ _)) 0 _ fun i v h=>by simpa using h⟩;have R2:ah (((w.alloc (.cells (aW m) 283)).alloc (.cells (aW k) 283)).rangeAt (w.heap.size+1) 0 (aW k).toList):=⟨aX (heap_alloc2_new w _ _) 0 _ fun i v h=>by simpa using h⟩;have i1:=jB m;have i2:=jB k;have AC:=ah.mk (JY m k r hr);have CE:=fun W=>Um r W;go_enter Tryz.func201,Tryz.ntmps201;go_wp2_with (first|(go_at_call 245;refine(AC.out _).mono ?_;rintro e w2 ⟨rfl,hb⟩;have B2:=ah.mk (ay B.out B.out.size hb);clear hb)|(refine aJ rfl 283 (.tmp 3) rfl (w.heap.size+1) 0 rfl (aW k) _ R2.out Tryz.underlying283 rfl i2 ?_)|(refine aJ rfl 283 (.tmp 2) rfl w.heap.size 0 rfl (aW m) _ R1.out Tryz.underlying283 rfl i1 ?_))
 first|go_ret|skip
 rw[←HQ.out];exact⟨by simp,B2.out⟩
end
end Go.Proofs.YtandhagfhppgaaaGreatDoor
