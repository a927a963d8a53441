/- Part 22 of a proof: contracts of the functions that the law reaches. No condition. -/
import Derived.Test.YtandhagfhppgaaaGreatDoorS17
import Derived.Test.YtandhagfhppgaaaGreatDoorS21
set_option linter.all false
set_option maxRecDepth 100000
set_option maxHeartbeats 16000000
namespace Go.Proofs.YtandhagfhppgaaaGreatDoor
section
open Go.RowKit
theorem lH {P:Program}{ops:Array Oper}{rest:List Oper}{o:Oper}{a:Act}{w:World}{Q:Exit→Act→World→Prop}(hgd:o.guard=none)(d s:Operand)(t t':TypeId)
 (ho:o.op=.call { callee:=.builtin .copy,args:=#[d,s],argTypes:=#[t,t']}) (v u:Value) (hd:a.eval d=v) (hs:a.eval s=u) {v':Value} {w':World}
 (hr:(Builtin.copy_ #[t,t'] o.type #[v,u]).run P w=.ok v' w') (h:wpList P ops Q rest (a.put o.dst v') w'):wpList P ops Q (o::rest) a w :=
 wpList_plain hgd fun _ hK=>by
  unfold Oper.wp execOp;simp only[ho,resolve,invoke,builtin,Sem.run_bind,Sem.run_pure,Result.andThen_ok,List.map_toArray,List.map_cons,List.map_nil,hd,hs,hr];exact hK _ _ h
theorem kD {P:Program}{ops:Array Oper}{o:Oper}{a:Act}{w:World}{K:Act→World→Prop}{Q:Exit→Act→World→Prop}{E:Prop}
 (hg:o.guard=none) (d x:Operand) (dT sT:TypeId) (hop:o.op=Op.call { callee:=Callee.builtin Builtin.copy,args:=#[d,x],argTypes:=#[dT,sT]})
 (v u:Value) (hd:a.eval d=v) (hx:a.eval x=u) {v':Value} {w':World} (hr:(Builtin.copy_ #[dT,sT] o.type #[v,u]).run P w=.ok v' w') (hK:K (a.put o.dst v') w') :
 if Region.wanted o (yielded ops a.tmps)=true then Oper.wp P o a w K Q else E:=by
 have hw:Region.wanted o (yielded ops a.tmps)=true:=by simp[Region.wanted,hg]
 rw[if_pos hw];unfold Oper.wp;simp[execOp,hop,resolve,invoke,builtin,hd,hx,hr,Result.andThen];exact hK
section
variable {w0 w:World}{L:List bW}
theorem MG (H:Has w0 w L)(i:Nat){e:TypeId}{sz n:Nat}{v:Value}{xs:List Value}(hi:L[i]?=some (rowA e sz v n xs))(t ty:TypeId)(ht:Tryz.prog.underlying t=some (.slice e))(i0:TypeInfo)(hi0:Tryz.prog.info? e=some i0)(z:Value)(hz:i0.zero=some z)
 (hsize:i0.size=sz) (hb:i0.bytes≤1000) (hzs:z.cells.size=sz) (h0:0<sz) (b cc:Nat) (ys:List Value) (hys:ys.length=sz) (h1:∀u∈ys,u.oneCell'=true) (hn:n≤100000000) (hc:∀q u,ys[q]?=some u→w.cell? ⟨b,q,none⟩=some u) :
 ∃A1 c1 w1,(Builtin.append_ #[t,t] ty #[v,.slice (some ⟨b,0,none⟩) 1 cc]).run Tryz.prog w=.ok (.slice A1 (n+1) c1) w1∧Has w0 w1 (L.set i (rowA e sz (.slice A1 (n+1) c1) (n+1) (xs++ys))):=by
 have hbytes:(n+1)*i0.bytes≤140737488355328:=Nat.le_trans (Nat.mul_le_mul (show n+1≤100000001 by omega) hb) (by decide);obtain⟨F,⟨h2,h3⟩,h4,hgo⟩:=H.get i _ hi;obtain⟨v1,w1,hr,ho,hg,_,hat⟩:=run_append_own_at (P:=Tryz.prog) w 0 t ty e i0 z sz i0.bytes ht hi0 hz hsize rfl hzs h0 v n xs h2 ⟨b,0,none⟩ 1 cc ys (by simp[hys])
  (fun j u hu=>by rw[Addr.add_mid,Nat.zero_add];exact hc j u hu) h1 (by simp only[maxLen];omega) hbytes (Nat.zero_le _)
 obtain⟨A1,c1,rfl⟩:=jD ho;refine⟨A1,c1,w1,hr,hgo _ _ ⟨fun k=>F k∨(w.heap.size≤k∧k<w1.heap.size),⟨ho,fun k hk=>?_⟩,(Touch.lQ hg).mono fun k _ e=>h3 k e.symm,fun k hk=>?_⟩⟩
 ·rcases hat with e2|e2
  ·exact .inl (h3 k (by rw[←e2];exact hk))
  ·rw[hk]at e2;cases e2;exact .inr ⟨Nat.le_refl _,xg ho _ hk⟩
 ·rcases hk with hk|hk
  ·exact⟨.inl hk,Nat.lt_of_lt_of_le (h4 k hk).2 hg.size⟩
  ·exact⟨.inr hk.1,hk.2⟩
theorem Has.fresh (H:Has w0 w L)(i:Nat){X:bW}(hi:L[i]?=some X){w1:World}(hb:Below w.heap.size w w1){e:TypeId}{sz g n cap:Nat}{cur:Array Value}(hg1:w.heap.size≤g)(hg:w1.heap[g]?=some (.cells cur e (0,0)))(hn:n≤cap)(hm:cap≤maxLen)(hs:cur.size=cap*sz){xs:List Value}(hx:cur.toList.take (n*sz)=xs) :
 Has w0 w1 (L.set i (rowA e sz (.slice (some ⟨g,0,none⟩) n cap) n xs)):=by
 obtain⟨F,_,h3,hgo⟩:=H.get i _ hi;have hlt:g<w1.heap.size:=(Array.getElem?_eq_some_iff.1 hg).1;refine hgo _ _ ⟨fun k=>k=g,⟨⟨?_,.inr ⟨g,cap,cur,rfl,Nat.zero_le _,hg,hn,hm,hs,hx⟩⟩,fun k e=>?_⟩,Touch.of_below hb,fun k e=>?_⟩
 ·rw[←hx,List.length_take,Array.length_toList,hs];exact Nat.min_eq_left (Nat.mul_le_mul_right _ hn)
 ·simp[Value.ownBlock]at e;exact e.symm
 ·subst e;exact⟨.inr hg1,hlt⟩
theorem below_setCells {w0 w1:World}{g:Nat}(h:Below w0.heap.size w0 w1)(hg:w0.heap.size≤g)(o:Nat)(ys:List Value):Below w0.heap.size w0 (w1.setCells g o ys):=
 h.trans ((dU ys o w1).below _ h.size fun k e=>by rw[e];exact hg)
theorem wU {z:Array Value}{sz:Nat}(h:z.size=sz)(n:Nat):(Builtin.zeroCells z n).size=n*sz:=by simp[Builtin.zeroCells,h,Nat.mul_comm]
theorem MH (K N S j:Nat)(xs ys:List Value)(hK:K≤N)(hx:xs.length=N)(hy:ys.length=S):(xs.take K++ys++xs.drop K)[j]?=if K≤j∧j<K+S then ys[j-K]? else if K+S≤j∧j<N+S then xs[j-S]? else if j<K then xs[j]? else none:=by
 have h1:(xs.take K).length=K:=by rw[List.length_take];omega
 rw[List.append_assoc];by_cases c1:j<K
 ·rw[List.getElem?_append_left (by omega),List.getElem?_take_of_lt c1,if_neg (by omega),if_neg (by omega),if_pos c1]
 ·rw[List.getElem?_append_right (by omega),h1];by_cases c2:j<K+S
  ·rw[List.getElem?_append_left (by omega),if_pos (by omega)]
  ·rw[List.getElem?_append_right (by omega),List.getElem?_drop,if_neg (by omega)];by_cases c3:j<N+S
   ·rw[if_pos (by omega)];congr 1;omega
   ·rw[if_neg (by omega),if_neg (by omega),List.getElem?_eq_none (by omega)]
theorem Xy (cur:Array Value)(K N S:Nat)(xs ys:List Value)(hK:K≤N)(hs:N+S≤cur.size)(hc:∀j,j<K→cur[j]?=xs[j]?)(hx:xs.length=N)(hy:ys.length=S) :
 (qW (qW cur (K+S) (xs.drop K)) K ys).toList.take (N+S)=xs.take K++ys++xs.drop K:=by
 have hdl:(xs.drop K).length=N-K:=by rw[List.length_drop,hx]
 apply List.ext_getElem?;intro j;rw[MH K N S j xs ys hK hx hy,List.getElem?_take];by_cases c0:j<N+S
 ·rw[if_pos c0,Array.getElem?_toList,qC _ _ _ _ (by rw[dS,hy];omega),qC _ _ _ _ (by rw[hdl];omega),hy,hdl];by_cases c1:K≤j∧j<K+S
  ·rw[if_pos c1,if_pos c1]
  ·rw[if_neg c1,if_neg c1];by_cases c2:K+S≤j
   ·rw[if_pos (by omega),if_pos (by omega),List.getElem?_drop];congr 1;omega
   ·rw[if_neg (by omega),if_neg (by omega),if_pos (by omega),hc j (by omega)]
 ·rw[if_neg c0,if_neg (by omega),if_neg (by omega),if_neg (by omega)]
theorem Xz (cur:Array Value)(K N S:Nat)(xs ys:List Value)(hK:K≤N)(hs:N+S≤cur.size)(hc:∀j,j<K→cur[j]?=xs[j]?)(hx:xs.length=N)(hy:ys.length=S) :
 (qW (qW cur K ys) (K+S) (xs.drop K)).toList.take (N+S)=xs.take K++ys++xs.drop K:=by
 have hdl:(xs.drop K).length=N-K:=by rw[List.length_drop,hx]
 apply List.ext_getElem?;intro j;rw[MH K N S j xs ys hK hx hy,List.getElem?_take];by_cases c0:j<N+S
 ·rw[if_pos c0,Array.getElem?_toList,qC _ _ _ _ (by rw[dS,hdl];omega),qC _ _ _ _ (by rw[hy];omega),hy,hdl];by_cases c1:K≤j∧j<K+S
  ·rw[if_neg (by omega),if_pos c1,if_pos c1]
  ·rw[if_neg c1,if_neg c1];by_cases c2:K+S≤j
   ·rw[if_pos (by omega),if_pos (by omega),List.getElem?_drop];congr 1;omega
   ·rw[if_neg (by omega),if_neg (by omega),if_pos (by omega),hc j (by omega)]
 ·rw[if_neg c0,if_neg (by omega),if_neg (by omega),if_neg (by omega)]
theorem Qk (H:Has w0 w L)(i j:Nat){v:Value}{n vb:Nat}{xs:List Value}{ys:Array Value}(hi:L[i]?=some (rowA 3 1 v n xs))(hj:L[j]?=some (aF vb (.cells ys 3 (0,0))))(hij:i≠j)(hys:ys.size=1)(h1:∀u∈xs,u.oneCell'=true)(h1v:∀u∈ys.toList,u.oneCell'=true)(k:Nat)(hk:k≤n)(hn:n≤1000000) :
 Calls Tryz.prog 127 #[v,.int .i64 (k:Int),.slice (some ⟨vb,0,none⟩) 1 1] w fun e w'=>∃A1 c1,e=.returned (.slice A1 (n+1) c1)∧Has w0 w' (L.set i (rowA 3 1 (.slice A1 (n+1) c1) (n+1) (xs.take (k*1)++ys.toList++xs.drop (k*1)))):=by
 refine named fun R HQ=>?_;obtain⟨i0,z,hi0,hz0,hzs,hzb,hzc⟩:=info3;have xX:ys.toList.length=1:=by simpa using hys
 have hvb:w.heap[vb]?=some (.cells ys 3 (0,0)):=H.blk j hj;have hxl:xs.length=n*1:=(H.row i hi).1;have hcv:∀q u,ys.toList[q]?=some u→w.cell? ⟨vb,q,none⟩=some u:=fun q u hu=>by rw[aj hvb,←Array.getElem?_toList];exact hu
 by_cases hkn:k=n
 ·subst hkn;obtain⟨A1,c1,w1,hr,hw⟩:=MG H i hi 44 44 Tryz.underlying44 i0 hi0 z hz0 hzs hzb hzc (by decide) vb 1 ys.toList xX h1v (by omega) hcv;have hw':ah (Has w0 w1 (L.set i (rowA 3 1 (.slice A1 (k+1) c1) (k+1) (xs.take (k*1)++ys.toList++xs.drop (k*1))))):=⟨by rw[←hxl,List.take_length,List.drop_length,List.append_nil];exact hw⟩;have HR:ah (∀ty,(Builtin.append_ #[44,44] ty #[v,.slice (some ⟨vb,0,none⟩) 1 1]).run Tryz.prog w=.ok (.slice A1 (k+1) c1) w1):=⟨fun ty=>by rw[←hr];rfl⟩;have hrow:=H.row i hi;clear hr hw H hi hj h1 h1v hcv hvb;rcases hrow.2 with⟨rfl,hk0⟩|⟨g,cap,cur,rfl,_,_,hnc,_⟩
  ·subst hk0;clear hrow;go_enter Tryz.func127,Tryz.ntmps127;go_wp2_with (at_builtin;refine Lib.wpList_append_run _ rfl _ _ _ _ rfl _ _ rfl rfl _ _ (HR.out _) ?_)
   first|go_ret|skip
   rw[←HQ.out];exact⟨A1,c1,rfl,hw'.out⟩
  ·clear hrow;have hkc:k≤cap:=hnc;go_enter Tryz.func127,Tryz.ntmps127;go_wp2_with (at_builtin;refine Lib.wpList_append_run _ rfl _ _ _ _ rfl _ _ rfl rfl _ _ (HR.out _) ?_)
   all_goals
    first|go_ret|skip
    rw[←HQ.out];exact⟨A1,c1,rfl,hw'.out⟩
 ·have hlt:k<n:=by omega
  obtain⟨g,c,cur,rfl,hg,hnc,hcm,hsz,htk,_⟩:=pR H i hi (by omega);have hm63:c≤9223372036854775807:=by unfold maxLen at hcm;omega
  have hne:vb≠g:=by
   obtain⟨R,_,⟨⟨F,⟨G,H1,g1,⟨G',H2,g2,_,g3,g4⟩,g5,g6⟩,_⟩,_⟩,_⟩:=H.two i j _ _ hi hj hij;intro e;exact g5 vb (by rw[e];exact g1.2 g rfl) (g4 vb (.inl g2.2))
  have hinfo:(Tryz.prog.info? 3).map (·.size)=some 1:=by rw[hi0];simp[hzs]
  have hdl:(xs.drop (k*1)).length=(n-k)*1:=by rw[List.length_drop,hxl];omega
  have hcx:∀q u,xs[q]?=some u→cur[q]?=some u:=fun q u hu=>nO htk hu;have hz1:¬((k:Int)=(n:Int)):=by omega
  have hin:k≤n:=by omega
  have hkc:¬(c=k):=by omega
  by_cases hroom:n+1≤c
  ·have hgd:w.drew.heap[g]?=some (.cells cur 3 (0,0)):=hg;have hov:ah (∀lb cb,(callFunc 181 #[.slice (some ⟨vb,0,none⟩) 1 1,.slice (some ⟨g,(k+1)*1,none⟩) lb cb]).run Tryz.prog w=.ok (.value (.bool false)) w):=⟨fun lb cb=>by
    rw[run_callFunc_extern Tryz.func181 (by kernel_rfl) (by kernel_rfl) (by kernel_rfl) (e:=Extern.SlicesOverlaps.overlaps #[44,44] #[4]) (by kernel_rfl),
     Lib.run_overlaps_apart w 44 4 3 Tryz.underlying44 1 (fun w=>by simp[sizeOf,typeInfo,hi0,hzs]) ⟨vb,0,none⟩ ⟨g,(k+1)*1,none⟩ 1 1 lb cb hne 3 3 1 (c*1) (by simp[World.shape?,hvb,hys]) (by simp[World.shape?,hg,hsz]) (by omega) (aJ hvb _) (aJ hvb _)]
    rfl⟩
   have WT:ah (∀ty dc sc,(Builtin.copy_ #[44,44] ty #[.slice (some ⟨g,(k+1)*1,none⟩) (n-k) dc,.slice (some ⟨g,k*1,none⟩) (n+1-k) sc]).run Tryz.prog w.drew=.ok (goInt (Nat.min (n+1-k) (n-k))) (w.drew.setCells g ((k+1)*1) (xs.drop (k*1)))):=⟨fun ty dc sc =>
    jF w.drew 44 44 ty 3 1 g ((k+1)*1) (n-k) dc ⟨g,k*1,none⟩ (n+1-k) sc (xs.drop (k*1)) Tryz.underlying44 hinfo (by rw[hdl];simp only[Nat.min_def];split<;>omega)
     (fun q u hu=>by rw[Addr.add_mid,aj hgd];exact hcx _ _ (by rwa [List.getElem?_drop]at hu))
     (fun q hq=>iV hgd (by rw[hdl]at hq;omega)) (fun q hq=>aJ hgd _) (fun u hu=>h1 u (List.mem_of_mem_drop hu))⟩
   obtain⟨W1,hW1⟩:∃W1,W1=w.drew.setCells g ((k+1)*1) (xs.drop (k*1)):=⟨_,rfl⟩;have hg1:W1.heap[g]?=some (.cells (qW cur ((k+1)*1) (xs.drop (k*1))) 3 (0,0)):=by rw[hW1];exact dO _ _ _ _ hgd
   have hv1:∀q u,ys.toList[q]?=some u→W1.cell? ⟨vb,q,none⟩=some u:=fun q u hu=>by
    rw[hW1,World.cell?_setCells_out g _ _ _ _ (fun h _=>absurd h hne)];exact hcv q u hu
   have cp2:ah (∀ty dc,(Builtin.copy_ #[44,44] ty #[.slice (some ⟨g,k*1,none⟩) (n+1-k) dc,.slice (some ⟨vb,0,none⟩) 1 1]).run Tryz.prog W1=.ok (goInt (Nat.min 1 (n+1-k))) (W1.setCells g (k*1) ys.toList)):=⟨fun ty dc =>
    jF W1 44 44 ty 3 1 g (k*1) (n+1-k) dc ⟨vb,0,none⟩ 1 1 ys.toList Tryz.underlying44 hinfo (by rw[xX];simp only[Nat.min_def];split<;>omega)
     (fun q u hu=>by rw[Addr.add_mid,Nat.zero_add];exact hv1 q u hu)
     (fun q hq=>iV hg1 (by rw[dS];omega)) (fun q hq=>aJ hg1 _) h1v⟩
   have HF:ah (Has w0 (W1.setCells g (k*1) ys.toList) (L.set i (rowA 3 1 (.slice (some ⟨g,0,none⟩) (n+1) c) (n+1) (xs.take (k*1)++ys.toList++xs.drop (k*1))))):=⟨by
    refine H.Aq i hi _ ?_ (qW (qW cur ((k+1)*1) (xs.drop (k*1))) (k*1) ys.toList) (dO _ _ _ _ hg1) (by rw[dS,dS,hsz]) (n+1) _ hroom ?_
    ·rw[hW1];exact(((l7 w).mono fun _ _ h=>h.elim).trans (dU _ _ _)).trans (dU _ _ _)
    ·have:=Xy cur (k*1) (n*1) 1 xs ys.toList (by omega) (by omega) (fun q hq=>by
      have hq2:q<xs.length:=by omega
      rw[List.getElem?_eq_getElem hq2];exact hcx q _ (List.getElem?_eq_getElem hq2)) hxl xX
     rw[show(k+1)*1=k*1+1 by omega,show(n+1)*1=n*1+1 by omega];exact this⟩
   have hW:ah (W1=w.drew.setCells g ((k+1)*1) (xs.drop (k*1))):=⟨hW1⟩;have htn:((k:Int)+1).toNat=k+1:=by omega
   have mixed:Tryz.prog.follows .mixedOrders=true:=by kernel_rfl
   have hw1:IntKind.i64.wrap ((k:Int)+1)=(k:Int)+1:=by rw[IntKind.wrap_i64];omega
   have hbn:(k:Int)+1≤(n:Int)+1:=by omega
   have hb0:(0:Int)≤(k:Int)+1:=by omega
   have hbm:(k:Int)≤(n:Int)+1:=by omega
   have hb2:¬(c=k+1):=by omega
   rw[←hW1]at WT;clear hW1 hg1 hg hgd hsz htk hxl H hi hj h1 h1v hcv hvb hcx hdl hv1;simp only[Nat.mul_one]at hov WT cp2 hW;go_enter Tryz.func127,Tryz.ntmps127;go_wp2_with (first|(have _t:=hW.out;clear _t;refine lH rfl _ _ 44 44 rfl _ _ rfl rfl (cp2.out _ _) ?_)|(simp only[hov.out]))
   go_region_law_o (refine kD rfl _ _ 44 44 rfl (.slice (some ⟨g,k+1,none⟩) (n-k) (c-(k+1))) (.slice (some ⟨g,k,none⟩) (n+1-k) (c-k)) (by simp[Act.eval,Act.put]) (by simp[Act.eval,Act.put]) (WT.out _ _ _) ?_)
   go_wp2_with (refine lH rfl _ _ 44 44 rfl _ _ rfl rfl (cp2.out _ _) ?_)
   first|go_ret|skip
   rw[←HQ.out];exact⟨_,_,rfl,by simpa only[Nat.mul_one]using HF.out⟩
  ·have VI:c=n:=by omega
   have hbig:(n+1)*i0.bytes≤140737488355328:=Nat.le_trans (Nat.mul_le_mul (show n+1≤1000001 by omega) hzb) (by decide);have hgd:w.drew.heap[g]?=some (.cells cur 3 (0,0)):=hg;have hgw:g<w.heap.size:=(Array.getElem?_eq_some_iff.1 hg).1;have hvw:vb<w.heap.size:=(Array.getElem?_eq_some_iff.1 hvb).1;have hold:(Builtin.firstCells i0.size k (.slice (some ⟨g,0,none⟩) k c)).run Tryz.prog w.drew=.ok (xs.take (k*1)).toArray w.drew:=by
    rw[hzs];exact run_firstCells_some w.drew 1 k ⟨g,0,none⟩ k c (xs.take (k*1)) (by rw[List.length_take];omega) (fun q u hu=>by
     rw[Addr.add_mid,Nat.zero_add,aj hgd];rw[List.getElem?_take]at hu;split at hu
     ·exact hcx q u hu
     ·cases hu)
   have hkk:(n:Int)+1-(k:Int)=((n+1-k:Nat):Int):=by omega
   obtain⟨G,hG⟩:∃G,G=grownCap w (n+1) c 3:=⟨_,rfl⟩;have hGn:n+1≤G:=by rw[hG];exact grownCap_ge w _ _ _
   have VJ:G≤maxLen:=by rw[hG];exact grownCap_le_maxLen w (n+1) c 3 (by unfold maxLen;omega)
   have hG63:G≤9223372036854775807:=by unfold maxLen at VJ;omega
   obtain⟨ROW,hROW⟩:∃ROW:Array Value,ROW=(xs.take (k*1)).toArray++Builtin.zeroCells z.cells (n+1-k)++Builtin.zeroCells z.cells (G-(n+1)):=⟨_,rfl⟩;have hrz:ah (∀ty,(Builtin.append_ #[44,3] ty #[.slice (some ⟨g,0,none⟩) k c,.int .i64 ((n:Int)+1-(k:Int))]).run Tryz.prog w=.ok (.slice (some ⟨w.heap.size,0,none⟩) (n+1) G) (w.drew.alloc (.cells ROW 3))):=⟨fun ty=>by
    have h:=Lib.run_append_grow_zeros w 44 3 ty 3 i0 _ .i64 .i64 Tryz.underlying44 Tryz.underlying3 hi0 hz0 (some ⟨g,0,none⟩) k c (xs.take (k*1)) hold (n+1-k) (by omega) (by omega) (by omega) (by omega) (Nat.le_trans (Nat.mul_le_mul (show n+1-k≤1000001 by omega) hzb) (by decide)) (by rw[show k+(n+1-k)=n+1 by omega];exact growslice_fits (by omega) hbig);rw[show k+(n+1-k)=n+1 by omega]at h;rw[hkk,hROW,hG];exact h⟩
   have hRs:ROW.size=G*1:=by
    rw[hROW,Array.size_append,Array.size_append,List.size_toArray,List.length_take,hxl,Nat.min_eq_left (by omega),wU hzc,wU hzc];omega
   have XA:∀q,q<k*1→ROW[q]?=xs[q]?:=fun q hq=>by
    rw[hROW,Array.append_assoc,Array.getElem?_append_left (by simp;omega),List.getElem?_toArray,List.getElem?_take_of_lt hq]
   obtain⟨N,hN⟩:∃N,N=w.heap.size:=⟨_,rfl⟩;obtain⟨V,hV⟩:∃V,V=(w.alloc (.cells ROW 3)).drew:=⟨_,rfl⟩;have Tv:V.heap[N]?=some (.cells ROW 3 (0,0)):=by rw[hV,hN];exact heap_alloc_new w _
   have VK:Below w.heap.size w V:=by rw[hV];exact aC (au (Below.refl _ _) _) 1
   have Yy:ah (∀ty dc,(Builtin.copy_ #[44,44] ty #[.slice (some ⟨N,k*1,none⟩) (n+1-k) dc,.slice (some ⟨vb,0,none⟩) 1 1]).run Tryz.prog V=.ok (goInt (Nat.min 1 (n+1-k))) (V.setCells N (k*1) ys.toList)):=⟨fun ty dc =>
    jF V 44 44 ty 3 1 N (k*1) (n+1-k) dc ⟨vb,0,none⟩ 1 1 ys.toList Tryz.underlying44 hinfo (by rw[xX];simp only[Nat.min_def];split<;>omega)
     (fun q u hu=>by rw[Addr.add_mid,Nat.zero_add];exact ak VK (hcv q u hu))
     (fun q hq=>iV Tv (by omega)) (fun q hq=>aJ Tv _) h1v⟩
   obtain⟨V2,hV2⟩:∃V2,V2=(V.setCells N (k*1) ys.toList).drew:=⟨_,rfl⟩;have Di:V2.heap[N]?=some (.cells (qW ROW (k*1) ys.toList) 3 (0,0)):=by rw[hV2];exact dO _ _ _ _ Tv
   have Jq:Below w.heap.size w V2:=by rw[hV2];exact aC (below_setCells VK (by omega) _ _) 1
   have Yz:ah (∀ty dc sc,(Builtin.copy_ #[44,44] ty #[.slice (some ⟨N,(k+1)*1,none⟩) (n-k) dc,.slice (some ⟨g,k*1,none⟩) (n-k) sc]).run Tryz.prog V2=.ok (goInt (Nat.min (n-k) (n-k))) (V2.setCells N ((k+1)*1) (xs.drop (k*1)))):=⟨fun ty dc sc =>
    jF V2 44 44 ty 3 1 N ((k+1)*1) (n-k) dc ⟨g,k*1,none⟩ (n-k) sc (xs.drop (k*1)) Tryz.underlying44 hinfo (by rw[hdl];simp only[Nat.min_def];split<;>omega)
     (fun q u hu=>by rw[Addr.add_mid];exact ak Jq (by rw[aj hg];exact hcx _ _ (by rwa [List.getElem?_drop]at hu)))
     (fun q hq=>iV Di (by rw[dS];rw[hdl]at hq;omega)) (fun q hq=>aJ Di _) (fun u hu=>h1 u (List.mem_of_mem_drop hu))⟩
   have HF:ah (Has w0 (V2.setCells N ((k+1)*1) (xs.drop (k*1))) (L.set i (rowA 3 1 (.slice (some ⟨N,0,none⟩) (n+1) G) (n+1) (xs.take (k*1)++ys.toList++xs.drop (k*1))))):=⟨by
    refine H.fresh i hi (below_setCells Jq (by omega) _ _) (by omega) (dO _ _ _ _ Di) hGn VJ (by rw[dS,dS,hRs]) ?_;have:=Xz ROW (k*1) (n*1) 1 xs ys.toList (by omega) (by omega) XA hxl xX;rw[show(k+1)*1=k*1+1 by omega,show(n+1)*1=n*1+1 by omega];exact this⟩
   have Zf:ah (V=w.drew.alloc (.cells ROW 3)):=⟨hV⟩;have Tz:ah (V2=(V.setCells N (k*1) ys.toList).drew):=⟨hV2⟩;have htn:((k:Int)+1).toNat=k+1:=by omega
   have mixed:Tryz.prog.follows .mixedOrders=true:=by kernel_rfl
   have hbn:(k:Int)+1≤n:=by omega
   have hb0:(0:Int)≤(k:Int)+1:=by omega
   have hbm:(k:Int)≤(n:Int)+1:=by omega
   have hz3:(c:Int)<(n:Int)+1:=by omega
   have hGi:¬(G=k):=by omega
   have hGim:¬(G=k+1):=by omega
   rw[←hN]at hrz;rw[←Zf.out]at hrz;have hw1:IntKind.i64.wrap ((k:Int)+1)=(k:Int)+1:=by rw[IntKind.wrap_i64];omega
   have mixed:Tryz.prog.follows .mixedOrders=true:=by kernel_rfl
   have hbn:(k:Int)+1≤(n:Int)+1:=by omega
   have hb0:(0:Int)≤(k:Int)+1:=by omega
   have hbm:(k:Int)≤(n:Int)+1:=by omega
   clear hN hV hV2 Tv Di VK Jq hRs XA hROW hG hold hg hgd hsz htk hxl H hi hj h1 h1v hcv hvb hcx hdl hbig VJ hkk VI hroom;simp only[Nat.mul_one]at Yy Yz Tz;go_enter Tryz.func127,Tryz.ntmps127;go_wp2_with (at_builtin;refine Lib.wpList_append_run _ rfl _ _ _ _ rfl _ _ rfl rfl _ _ (hrz.out _) ?_;refine ah.out ?_)
   refine ah.mk ?_;go_wp2_with (refine lH rfl _ _ 44 44 rfl _ _ rfl rfl (Yy.out _ _) ?_;refine ah.out ?_)
   refine ah.mk ?_;go_wp2_with fail
   go_region_law_o (rw[←Tz.out];refine kD rfl _ _ 44 44 rfl (.slice (some ⟨N,k+1,none⟩) (n-k) (G-(k+1))) (.slice (some ⟨g,k,none⟩) (n-k) (c-k)) (by simp[Act.eval,Act.put]) (by simp[Act.eval,Act.put]) (Yz.out _ _ _) ?_)
   go_wp2_with fail
   first|go_ret|skip
   rw[←HQ.out];exact⟨_,_,rfl,by simpa only[Nat.mul_one]using HF.out⟩
theorem Jr (H:Has w0 w L)(i j:Nat){v:Value}{n vb:Nat}{xs:List Value}{ys:Array Value}(hi:L[i]?=some (rowA 53 2 v n xs))(hj:L[j]?=some (aF vb (.cells ys 53 (0,0))))(hij:i≠j)(hys:ys.size=2)(h1:∀u∈xs,u.oneCell'=true)(h1v:∀u∈ys.toList,u.oneCell'=true)(k:Nat)(hk:k≤n)(hn:n≤1000000) :
 Calls Tryz.prog 255 #[v,.int .i64 (k:Int),.slice (some ⟨vb,0,none⟩) 1 1] w fun e w'=>∃A1 c1,e=.returned (.slice A1 (n+1) c1)∧Has w0 w' (L.set i (rowA 53 2 (.slice A1 (n+1) c1) (n+1) (xs.take (k*2)++ys.toList++xs.drop (k*2)))):=by
 refine named fun R HQ=>?_;obtain⟨i0,z,hi0,hz0,hzs,hzb,hzc⟩:=Qh;have xX:ys.toList.length=2:=by simpa using hys
 have hvb:w.heap[vb]?=some (.cells ys 53 (0,0)):=H.blk j hj;have hxl:xs.length=n*2:=(H.row i hi).1;have hcv:∀q u,ys.toList[q]?=some u→w.cell? ⟨vb,q,none⟩=some u:=fun q u hu=>by rw[aj hvb,←Array.getElem?_toList];exact hu
 by_cases hkn:k=n
 ·subst hkn;obtain⟨A1,c1,w1,hr,hw⟩:=MG H i hi 124 124 Tryz.underlying124 i0 hi0 z hz0 hzs hzb hzc (by decide) vb 1 ys.toList xX h1v (by omega) hcv;have hw':ah (Has w0 w1 (L.set i (rowA 53 2 (.slice A1 (k+1) c1) (k+1) (xs.take (k*2)++ys.toList++xs.drop (k*2))))):=⟨by rw[←hxl,List.take_length,List.drop_length,List.append_nil];exact hw⟩;have HR:ah (∀ty,(Builtin.append_ #[124,124] ty #[v,.slice (some ⟨vb,0,none⟩) 1 1]).run Tryz.prog w=.ok (.slice A1 (k+1) c1) w1):=⟨fun ty=>by rw[←hr];rfl⟩;have hrow:=H.row i hi;clear hr hw H hi hj h1 h1v hcv hvb;rcases hrow.2 with⟨rfl,hk0⟩|⟨g,cap,cur,rfl,_,_,hnc,_⟩
  ·subst hk0;clear hrow;go_enter Tryz.func255,Tryz.ntmps255;go_wp2_with (at_builtin;refine Lib.wpList_append_run _ rfl _ _ _ _ rfl _ _ rfl rfl _ _ (HR.out _) ?_)
   first|go_ret|skip
   rw[←HQ.out];exact⟨A1,c1,rfl,hw'.out⟩
  ·clear hrow;have hkc:k≤cap:=hnc;go_enter Tryz.func255,Tryz.ntmps255;go_wp2_with (at_builtin;refine Lib.wpList_append_run _ rfl _ _ _ _ rfl _ _ rfl rfl _ _ (HR.out _) ?_)
   all_goals
    first|go_ret|skip
    rw[←HQ.out];exact⟨A1,c1,rfl,hw'.out⟩
 ·have hlt:k<n:=by omega
  obtain⟨g,c,cur,rfl,hg,hnc,hcm,hsz,htk,_⟩:=pR H i hi (by omega);have hm63:c≤9223372036854775807:=by unfold maxLen at hcm;omega
  have hne:vb≠g:=by
   obtain⟨R,_,⟨⟨F,⟨G,H1,g1,⟨G',H2,g2,_,g3,g4⟩,g5,g6⟩,_⟩,_⟩,_⟩:=H.two i j _ _ hi hj hij;intro e;exact g5 vb (by rw[e];exact g1.2 g rfl) (g4 vb (.inl g2.2))
  have hinfo:(Tryz.prog.info? 53).map (·.size)=some 2:=by rw[hi0];simp[hzs]
  have hdl:(xs.drop (k*2)).length=(n-k)*2:=by rw[List.length_drop,hxl];omega
  have hcx:∀q u,xs[q]?=some u→cur[q]?=some u:=fun q u hu=>nO htk hu;have hz1:¬((k:Int)=(n:Int)):=by omega
  have hin:k≤n:=by omega
  have hkc:¬(c=k):=by omega
  by_cases hroom:n+1≤c
  ·have hgd:w.drew.heap[g]?=some (.cells cur 53 (0,0)):=hg;have hov:ah (∀lb cb,(callFunc 298 #[.slice (some ⟨vb,0,none⟩) 1 1,.slice (some ⟨g,(k+1)*2,none⟩) lb cb]).run Tryz.prog w=.ok (.value (.bool false)) w):=⟨fun lb cb=>by
    rw[run_callFunc_extern Tryz.func298 (by kernel_rfl) (by kernel_rfl) (by kernel_rfl) (e:=Extern.SlicesOverlaps.overlaps #[124,124] #[4]) (by kernel_rfl),
     Lib.run_overlaps_apart w 124 4 53 Tryz.underlying124 2 (fun w=>by simp[sizeOf,typeInfo,hi0,hzs]) ⟨vb,0,none⟩ ⟨g,(k+1)*2,none⟩ 1 1 lb cb hne 53 53 2 (c*2) (by simp[World.shape?,hvb,hys]) (by simp[World.shape?,hg,hsz]) (by omega) (aJ hvb _) (aJ hvb _)]
    rfl⟩
   have WT:ah (∀ty dc sc,(Builtin.copy_ #[124,124] ty #[.slice (some ⟨g,(k+1)*2,none⟩) (n-k) dc,.slice (some ⟨g,k*2,none⟩) (n+1-k) sc]).run Tryz.prog w.drew=.ok (goInt (Nat.min (n+1-k) (n-k))) (w.drew.setCells g ((k+1)*2) (xs.drop (k*2)))):=⟨fun ty dc sc =>
    jF w.drew 124 124 ty 53 2 g ((k+1)*2) (n-k) dc ⟨g,k*2,none⟩ (n+1-k) sc (xs.drop (k*2)) Tryz.underlying124 hinfo (by rw[hdl];simp only[Nat.min_def];split<;>omega)
     (fun q u hu=>by rw[Addr.add_mid,aj hgd];exact hcx _ _ (by rwa [List.getElem?_drop]at hu))
     (fun q hq=>iV hgd (by rw[hdl]at hq;omega)) (fun q hq=>aJ hgd _) (fun u hu=>h1 u (List.mem_of_mem_drop hu))⟩
   obtain⟨W1,hW1⟩:∃W1,W1=w.drew.setCells g ((k+1)*2) (xs.drop (k*2)):=⟨_,rfl⟩;have hg1:W1.heap[g]?=some (.cells (qW cur ((k+1)*2) (xs.drop (k*2))) 53 (0,0)):=by rw[hW1];exact dO _ _ _ _ hgd
   have hv1:∀q u,ys.toList[q]?=some u→W1.cell? ⟨vb,q,none⟩=some u:=fun q u hu=>by
    rw[hW1,World.cell?_setCells_out g _ _ _ _ (fun h _=>absurd h hne)];exact hcv q u hu
   have cp2:ah (∀ty dc,(Builtin.copy_ #[124,124] ty #[.slice (some ⟨g,k*2,none⟩) (n+1-k) dc,.slice (some ⟨vb,0,none⟩) 1 1]).run Tryz.prog W1=.ok (goInt (Nat.min 1 (n+1-k))) (W1.setCells g (k*2) ys.toList)):=⟨fun ty dc =>
    jF W1 124 124 ty 53 2 g (k*2) (n+1-k) dc ⟨vb,0,none⟩ 1 1 ys.toList Tryz.underlying124 hinfo (by rw[xX];simp only[Nat.min_def];split<;>omega)
     (fun q u hu=>by rw[Addr.add_mid,Nat.zero_add];exact hv1 q u hu)
     (fun q hq=>iV hg1 (by rw[dS];omega)) (fun q hq=>aJ hg1 _) h1v⟩
   have HF:ah (Has w0 (W1.setCells g (k*2) ys.toList) (L.set i (rowA 53 2 (.slice (some ⟨g,0,none⟩) (n+1) c) (n+1) (xs.take (k*2)++ys.toList++xs.drop (k*2))))):=⟨by
    refine H.Aq i hi _ ?_ (qW (qW cur ((k+1)*2) (xs.drop (k*2))) (k*2) ys.toList) (dO _ _ _ _ hg1) (by rw[dS,dS,hsz]) (n+1) _ hroom ?_
    ·rw[hW1];exact(((l7 w).mono fun _ _ h=>h.elim).trans (dU _ _ _)).trans (dU _ _ _)
    ·have:=Xy cur (k*2) (n*2) 2 xs ys.toList (by omega) (by omega) (fun q hq=>by
      have hq2:q<xs.length:=by omega
      rw[List.getElem?_eq_getElem hq2];exact hcx q _ (List.getElem?_eq_getElem hq2)) hxl xX
     rw[show(k+1)*2=k*2+2 by omega,show(n+1)*2=n*2+2 by omega];exact this⟩
   have hW:ah (W1=w.drew.setCells g ((k+1)*2) (xs.drop (k*2))):=⟨hW1⟩;have htn:((k:Int)+1).toNat=k+1:=by omega
   have mixed:Tryz.prog.follows .mixedOrders=true:=by kernel_rfl
   have hw1:IntKind.i64.wrap ((k:Int)+1)=(k:Int)+1:=by rw[IntKind.wrap_i64];omega
   have hbn:(k:Int)+1≤(n:Int)+1:=by omega
   have hb0:(0:Int)≤(k:Int)+1:=by omega
   have hbm:(k:Int)≤(n:Int)+1:=by omega
   have hb2:¬(c=k+1):=by omega
   rw[←hW1]at WT;clear hW1 hg1 hg hgd hsz htk hxl H hi hj h1 h1v hcv hvb hcx hdl hv1;go_enter Tryz.func255,Tryz.ntmps255;go_wp2_with (first|(have _t:=hW.out;clear _t;refine lH rfl _ _ 124 124 rfl _ _ rfl rfl (cp2.out _ _) ?_)|(simp only[hov.out]))
   go_region_law_o (refine kD rfl _ _ 124 124 rfl (.slice (some ⟨g,(k+1)*2,none⟩) (n-k) (c-(k+1))) (.slice (some ⟨g,k*2,none⟩) (n+1-k) (c-k)) (by simp[Act.eval,Act.put]) (by simp[Act.eval,Act.put]) (WT.out _ _ _) ?_)
   go_wp2_with (refine lH rfl _ _ 124 124 rfl _ _ rfl rfl (cp2.out _ _) ?_)
   first|go_ret|skip
   rw[←HQ.out];exact⟨_,_,rfl,HF.out⟩
  ·have VI:c=n:=by omega
   have hbig:(n+1)*i0.bytes≤140737488355328:=Nat.le_trans (Nat.mul_le_mul (show n+1≤1000001 by omega) hzb) (by decide);have hgd:w.drew.heap[g]?=some (.cells cur 53 (0,0)):=hg;have hgw:g<w.heap.size:=(Array.getElem?_eq_some_iff.1 hg).1;have hvw:vb<w.heap.size:=(Array.getElem?_eq_some_iff.1 hvb).1;have hold:(Builtin.firstCells i0.size k (.slice (some ⟨g,0,none⟩) k c)).run Tryz.prog w.drew=.ok (xs.take (k*2)).toArray w.drew:=by
    rw[hzs];exact run_firstCells_some w.drew 2 k ⟨g,0,none⟩ k c (xs.take (k*2)) (by rw[List.length_take];omega) (fun q u hu=>by
     rw[Addr.add_mid,Nat.zero_add,aj hgd];rw[List.getElem?_take]at hu;split at hu
     ·exact hcx q u hu
     ·cases hu)
   have hkk:(n:Int)+1-(k:Int)=((n+1-k:Nat):Int):=by omega
   obtain⟨G,hG⟩:∃G,G=grownCap w (n+1) c 53:=⟨_,rfl⟩;have hGn:n+1≤G:=by rw[hG];exact grownCap_ge w _ _ _
   have VJ:G≤maxLen:=by rw[hG];exact grownCap_le_maxLen w (n+1) c 53 (by unfold maxLen;omega)
   have hG63:G≤9223372036854775807:=by unfold maxLen at VJ;omega
   obtain⟨ROW,hROW⟩:∃ROW:Array Value,ROW=(xs.take (k*2)).toArray++Builtin.zeroCells z.cells (n+1-k)++Builtin.zeroCells z.cells (G-(n+1)):=⟨_,rfl⟩;have hrz:ah (∀ty,(Builtin.append_ #[124,3] ty #[.slice (some ⟨g,0,none⟩) k c,.int .i64 ((n:Int)+1-(k:Int))]).run Tryz.prog w=.ok (.slice (some ⟨w.heap.size,0,none⟩) (n+1) G) (w.drew.alloc (.cells ROW 53))):=⟨fun ty=>by
    have h:=Lib.run_append_grow_zeros w 124 3 ty 53 i0 _ .i64 .i64 Tryz.underlying124 Tryz.underlying3 hi0 hz0 (some ⟨g,0,none⟩) k c (xs.take (k*2)) hold (n+1-k) (by omega) (by omega) (by omega) (by omega) (Nat.le_trans (Nat.mul_le_mul (show n+1-k≤1000001 by omega) hzb) (by decide)) (by rw[show k+(n+1-k)=n+1 by omega];exact growslice_fits (by omega) hbig);rw[show k+(n+1-k)=n+1 by omega]at h;rw[hkk,hROW,hG];exact h⟩
   have hRs:ROW.size=G*2:=by
    rw[hROW,Array.size_append,Array.size_append,List.size_toArray,List.length_take,hxl,Nat.min_eq_left (by omega),wU hzc,wU hzc];omega
   have XA:∀q,q<k*2→ROW[q]?=xs[q]?:=fun q hq=>by
    rw[hROW,Array.append_assoc,Array.getElem?_append_left (by simp;omega),List.getElem?_toArray,List.getElem?_take_of_lt hq]
   obtain⟨N,hN⟩:∃N,N=w.heap.size:=⟨_,rfl⟩;obtain⟨V,hV⟩:∃V,V=(w.alloc (.cells ROW 53)).drew:=⟨_,rfl⟩;have Tv:V.heap[N]?=some (.cells ROW 53 (0,0)):=by rw[hV,hN];exact heap_alloc_new w _
   have VK:Below w.heap.size w V:=by rw[hV];exact aC (au (Below.refl _ _) _) 1
   have Yy:ah (∀ty dc,(Builtin.copy_ #[124,124] ty #[.slice (some ⟨N,k*2,none⟩) (n+1-k) dc,.slice (some ⟨vb,0,none⟩) 1 1]).run Tryz.prog V=.ok (goInt (Nat.min 1 (n+1-k))) (V.setCells N (k*2) ys.toList)):=⟨fun ty dc =>
    jF V 124 124 ty 53 2 N (k*2) (n+1-k) dc ⟨vb,0,none⟩ 1 1 ys.toList Tryz.underlying124 hinfo (by rw[xX];simp only[Nat.min_def];split<;>omega)
     (fun q u hu=>by rw[Addr.add_mid,Nat.zero_add];exact ak VK (hcv q u hu))
     (fun q hq=>iV Tv (by omega)) (fun q hq=>aJ Tv _) h1v⟩
   obtain⟨V2,hV2⟩:∃V2,V2=(V.setCells N (k*2) ys.toList).drew:=⟨_,rfl⟩;have Di:V2.heap[N]?=some (.cells (qW ROW (k*2) ys.toList) 53 (0,0)):=by rw[hV2];exact dO _ _ _ _ Tv
   have Jq:Below w.heap.size w V2:=by rw[hV2];exact aC (below_setCells VK (by omega) _ _) 1
   have Yz:ah (∀ty dc sc,(Builtin.copy_ #[124,124] ty #[.slice (some ⟨N,(k+1)*2,none⟩) (n-k) dc,.slice (some ⟨g,k*2,none⟩) (n-k) sc]).run Tryz.prog V2=.ok (goInt (Nat.min (n-k) (n-k))) (V2.setCells N ((k+1)*2) (xs.drop (k*2)))):=⟨fun ty dc sc =>
    jF V2 124 124 ty 53 2 N ((k+1)*2) (n-k) dc ⟨g,k*2,none⟩ (n-k) sc (xs.drop (k*2)) Tryz.underlying124 hinfo (by rw[hdl];simp only[Nat.min_def];split<;>omega)
     (fun q u hu=>by rw[Addr.add_mid];exact ak Jq (by rw[aj hg];exact hcx _ _ (by rwa [List.getElem?_drop]at hu)))
     (fun q hq=>iV Di (by rw[dS];rw[hdl]at hq;omega)) (fun q hq=>aJ Di _) (fun u hu=>h1 u (List.mem_of_mem_drop hu))⟩
   have HF:ah (Has w0 (V2.setCells N ((k+1)*2) (xs.drop (k*2))) (L.set i (rowA 53 2 (.slice (some ⟨N,0,none⟩) (n+1) G) (n+1) (xs.take (k*2)++ys.toList++xs.drop (k*2))))):=⟨by
    refine H.fresh i hi (below_setCells Jq (by omega) _ _) (by omega) (dO _ _ _ _ Di) hGn VJ (by rw[dS,dS,hRs]) ?_;have:=Xz ROW (k*2) (n*2) 2 xs ys.toList (by omega) (by omega) XA hxl xX;rw[show(k+1)*2=k*2+2 by omega,show(n+1)*2=n*2+2 by omega];exact this⟩
   have Zf:ah (V=w.drew.alloc (.cells ROW 53)):=⟨hV⟩;have Tz:ah (V2=(V.setCells N (k*2) ys.toList).drew):=⟨hV2⟩;have htn:((k:Int)+1).toNat=k+1:=by omega
   have mixed:Tryz.prog.follows .mixedOrders=true:=by kernel_rfl
   have hbn:(k:Int)+1≤n:=by omega
   have hb0:(0:Int)≤(k:Int)+1:=by omega
   have hbm:(k:Int)≤(n:Int)+1:=by omega
   have hz3:(c:Int)<(n:Int)+1:=by omega
   have hGi:¬(G=k):=by omega
   have hGim:¬(G=k+1):=by omega
   rw[←hN]at hrz;rw[←Zf.out]at hrz;have hw1:IntKind.i64.wrap ((k:Int)+1)=(k:Int)+1:=by rw[IntKind.wrap_i64];omega
   have mixed:Tryz.prog.follows .mixedOrders=true:=by kernel_rfl
   have hbn:(k:Int)+1≤(n:Int)+1:=by omega
   have hb0:(0:Int)≤(k:Int)+1:=by omega
   have hbm:(k:Int)≤(n:Int)+1:=by omega
   clear hN hV hV2 Tv Di VK Jq hRs XA hROW hG hold hg hgd hsz htk hxl H hi hj h1 h1v hcv hvb hcx hdl hbig VJ hkk VI hroom;go_enter Tryz.func255,Tryz.ntmps255;go_wp2_with (at_builtin;refine Lib.wpList_append_run _ rfl _ _ _ _ rfl _ _ rfl rfl _ _ (hrz.out _) ?_;refine ah.out ?_)
   refine ah.mk ?_;go_wp2_with (refine lH rfl _ _ 124 124 rfl _ _ rfl rfl (Yy.out _ _) ?_;refine ah.out ?_)
   refine ah.mk ?_;go_wp2_with fail
   go_region_law_o (rw[←Tz.out];refine kD rfl _ _ 124 124 rfl (.slice (some ⟨N,(k+1)*2,none⟩) (n-k) (G-(k+1))) (.slice (some ⟨g,k*2,none⟩) (n-k) (c-k)) (by simp[Act.eval,Act.put]) (by simp[Act.eval,Act.put]) (Yz.out _ _ _) ?_)
   go_wp2_with fail
   first|go_ret|skip
   rw[←HQ.out];exact⟨_,_,rfl,HF.out⟩
end
end
end Go.Proofs.YtandhagfhppgaaaGreatDoor
