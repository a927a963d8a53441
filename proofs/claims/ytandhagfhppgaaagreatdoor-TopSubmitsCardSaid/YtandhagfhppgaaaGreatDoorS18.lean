/- Part 18 of a proof: contracts of the functions that the law reaches. No condition. -/
import Derived.Test.YtandhagfhppgaaaGreatDoorS16
import Derived.Test.YtandhagfhppgaaaGreatDoorS17
set_option linter.all false
set_option maxRecDepth 100000
set_option maxHeartbeats 16000000
namespace Go.Proofs.YtandhagfhppgaaaGreatDoor
section
open Go.RowKit
section
variable {P:Program}{ops:Array Oper}{md:Region.Mode}{C:World→Prop}{n g:Nat}{L:Array Bool→Act→Prop}
def FK (P:Program)(md:Region.Mode)(ops:Array Oper)(C:World→Prop)(n:Nat)(L:Array Bool→Act→Prop):Nat→Array Bool→Act→Prop
 |0,up,a=>L up a
 |m+1,up,a=>Region.ready md ops up≠[]∧∀j∈Region.ready md ops up,j<n∧qOp P ops C j (FK P md ops C n L m (up.setIfInBounds j true)) a
theorem NY {Q:Exit→Act→World→Prop}(hL:∀up a w,C w→L up a→wpAny P md ops Q g up a w)(m:Nat):∀(up:Array Bool) (a:Act) (w:World),C w→FK P md ops C n L m up a→wpAny P md ops Q (m+g) up a w:=by
 induction m with
 |zero=>intro up a w hw h;rw[Nat.zero_add];exact hL _ _ _ hw h
 |succ m ih =>
  intro up a w hw h;rw[Nat.add_right_comm];exact⟨fun e=>absurd e h.1,fun j hj=>wpOp_of_qOp hw (fun a' w' hw' h'=>ih _ a' w' hw' h') (h.2 j hj).2⟩
theorem vO {k:Nat}{ok:Oper}{v:Value}(hk:ops[k]?=some ok)(hsel:∀(j:Nat) (o:Oper) cs b,ops[j]?=some o→o.op≠.select cs b)
 (hs:Region.sinkB md ops n=true) (hc:Region.chainB md ops n=true) (hn:n<ops.size) (hkn:k<n) (hL:∀up a,L up a→∀j∈Region.ready md ops up,n≤j) :
 ∀(m:Nat) (up:Array Bool) (a:Act),HeadInv md ops n up→(∀j oj,ops[j]?=some oj→j≠k→up.getD j true=false→(∀e∈oj.after,Region.binds md e=true→e.on≠k)→ok.apart ops oj=true)→
  k∈Region.ready md ops up→YieldsIn P ops C ok v a→FK P md ops C n L m (up.setIfInBounds k true) (a.put ok.dst v)→FK P md ops C n L (m+1) up a
 |m,up,a,inv,hap,hr,hy,H=>by
  have hun:=(mem_ready.1 hr).1;refine⟨List.ne_nil_of_mem hr,fun j hj=>?_⟩;have hjn:j<n:=Nat.lt_of_not_le fun h=>tail_waits hs hc hn inv _ k rfl hkn hun j h hj;refine⟨hjn,?_⟩;by_cases e:j=k
  ·subst e;exact hy.qOp hk H
  ·match m,H with
   |0,H=>exact absurd (hL _ _ H j (ready_mono hj e)) (by omega)
   |m+1,H =>
    obtain⟨U2,oj,hoj,hall⟩:=mem_ready.1 hj;have free:∀x∈oj.after,Region.binds md x=true→x.on≠k:=fun x hx hb e'=>by
     have:=hall x hx hb;rw[e',getD_both hun]at this;cases this
    have step:=qOp_put hoj (hap j oj hoj e U2 free) (fun cs b=>hsel k ok cs b hk) (fun cs b=>hsel j oj cs b hoj) hy (H.2 j (ready_mono hj e)).2;refine qOp_mono (fun a' h'=>vO hk hsel hs hc hn hkn hL m _ a' (inv.set hj hjn) (fun i oi hi hik hiu=>hap i oi hi hik ?_) (ready_mono hr (Ne.symm e)) h'.1 ?_) step
    ·rcases Decidable.em (j=i)with rfl|hji
     ·exact U2
     ·rwa [getD_set_ne true hji]at hiu
    ·rw[Array.setIfInBounds_comm _ _ e];exact h'.2
theorem Ai {R:Act→Prop}(hsel:Region.noSelect ops=true)(hs:Region.sinkB md ops n=true)(hc:Region.chainB md ops n=true)(hn:n<ops.size) :
 ∀(l:List Oper) (k:Nat) (up:Array Bool) (a:Act),(∀j,j<l.length→l[j]?=ops[k+j]?)→k+l.length=n→HeadInv md ops n up→Region.lexHead md ops g l.length k up=true→wpQuiet P ops C R l a →
  FK P md ops C n (fun up' a'=>Region.seqB md ops g n up'=true∧R a') l.length up a
 |[],k,up,a,_,hk,_,hB,h=>by
  obtain rfl:k=n:=by simpa using hk
  exact⟨by simpa[Region.lexHead]using hB,h⟩
 |o::l,k,up,a,hl,hk,inv,hB,h=>by
  have h0:ops[k]?=some o:=by simpa using(hl 0 (by simp)).symm
  simp only[List.length_cons,Region.lexHead,Bool.and_eq_true]at hB hk;have hkn:k<n:=by omega
  have hr:k∈Region.ready md ops up:=by simpa using hB.1.1
  obtain⟨v,hy,hK⟩:=yieldsIn_of_qOp (K:=wpQuiet P ops C R l) h0 (show qOp P ops C k (wpQuiet P ops C R l) a by unfold qOp;simp only[h0];exact h);refine vO h0 (Region.noSelect_spec hsel) hs hc hn hkn (fun up' a' h'=>seqB_ready h'.1) l.length up a inv (Region.free_spec h0 hB.1.2) hr hy ?_;refine Ai hsel hs hc hn l (k+1) _ _ (fun j hj=>?_) (by omega) (inv.set hr hkn) hB.2 hK;have:=hl (j+1) (by simp;omega);simpa[Nat.add_assoc,Nat.add_comm 1 j]using this
theorem pO {id:Nat}{Q:Exit→Act→World→Prop}{a:Act}{w:World}{l:List Oper}(n:Nat)(hm:P.follows .mixedOrders=true)(hB:Region.lexTailB .any l.toArray n=true)(hC:C { w with drawn:=w.drawn+1})
 (h:wpQuiet P l.toArray C (fun a'=>∀w',C w'→wpList P l.toArray Q (l.drop n) a' w') (l.take n) a):(Code.region id l.toArray true).wp P Q a w:=by
 simp only[Region.lexTailB,Bool.and_eq_true,decide_eq_true_eq]at hB;obtain⟨⟨⟨⟨hsel,hn⟩,hs⟩,hc⟩,hlex⟩:=hB;have hnl:n<l.length:=by simpa using hn
 have e1:(l.take n).length=n:=by simp;omega
 have e2:(l.drop n).length=l.toArray.size-n:=by simp
 have inv:HeadInv .any l.toArray n (Array.replicate l.toArray.size false):=
  ⟨by simp,fun j oj _ hl=>(by rw[getD_replicate_false]at hl;cases hl),fun t _ ht=>getD_in (by simpa using ht) (getD_replicate_false _ _)⟩
 have H:=Ai (md:=.any) (g:=l.toArray.size-n) (P:=P) (C:=C) hsel hs hc hn (l.take n) 0 _ a (fun j hj=>by rw[e1]at hj;simp[hj]) (by simpa using e1) inv (by rw[e1];exact hlex) h;have A:=NY (Q:=Q) (g:=l.toArray.size-n) (fun up a' w' hw' hL=>by
  have:=wpAny_of_seq (md:=.any) (Q':=Q) (P:=P) (ops:=l.toArray) (l.drop n) n up a' w' (fun j=>by simp[List.getElem?_drop]) (by rw[e2];exact hL.1) (hL.2 w' hw');rwa [e2]at this) _ _ a _ hC H
 rw[e1,show n+(l.toArray.size-n)=l.toArray.size by omega]at A;exact wp_region_any hm A
theorem kW {w:World}{id:Nat}{Q:Exit→Act→World→Prop}{a:Act}{l:List Oper}(n:Nat)(hm:P.follows .mixedOrders=true)(hB:Region.lexTailB .any l.toArray n=true)
 (h:wpQuiet P l.toArray (fun w'=>∃g:GW w,w'=g.W) (fun a'=>∀w',(∃g:GW w,w'=g.W)→wpList P l.toArray Q (l.drop n) a' w') (l.take n) a):(Code.region id l.toArray true).wp P Q a w :=
 pO n hm hB ⟨⟨_,aC (Below.refl _ w) 1⟩,rfl⟩ h
end
section
variable {P:Program}{ops:Array Oper}{md:Region.Mode}{S:World→Prop}{Q:Exit→Act→World→Prop}{n:Nat}{tl:List Oper}
def jL (md:Region.Mode)(ops:Array Oper)(n:Nat):Bool:=decide (n<ops.size)&&Region.sinkB md ops n&&Region.chainB md ops n
def sN (md:Region.Mode)(ops:Array Oper)(n:Nat)(up:Array Bool):Bool:=decide (up.size=ops.size)&&((List.range ops.size).all fun j=>!up.getD j false||(match ops[j]? with | some o=>o.after.all fun e=>!Region.binds md e||up.getD e.on false|none=>true))&&((List.range ops.size).all fun t=>decide (t<n) || !up.getD t true)
theorem Aj {up:Array Bool}(h:sN md ops n up=true):HeadInv md ops n up:=by
 simp only[sN,Bool.and_eq_true,decide_eq_true_eq,List.all_eq_true,List.mem_range]at h;obtain⟨⟨h1,h2⟩,h3⟩:=h;refine⟨h1,fun j oj hj hl e he hb=>?_,fun t ht ht'=>?_⟩
 ·have:=h2 j (Array.getElem?_eq_some_iff.1 hj).1;simp only[hl,hj,Bool.not_true,Bool.false_or]at this;obtain⟨i,hi,rfl⟩:=Array.getElem_of_mem he;have:=(Array.all_eq_true.1 this) i hi;simpa[hb]using this
 ·have:=h3 t ht';simp only[Bool.or_eq_true,decide_eq_true_eq,Bool.not_eq_true']at this;exact this.resolve_left (by omega)
def jM (P:Program)(md:Region.Mode)(ops:Array Oper)(Q:Exit→Act→World→Prop)(S:World→Prop)(n:Nat)(tl:List Oper):Nat→Array Bool→Act→World→Prop
 |0,up,a,w=>Region.seqB md ops tl.length n up=true∧wpList P ops Q tl a w
 |m+1,up,a,w=>Region.ready md ops up≠[]∧∀j∈Region.ready md ops up,j<n∧wpOp P ops Q j (fun a' w'=>S w'∧jM P md ops Q S n tl m (up.setIfInBounds j true) a' w') a w
theorem NZ (ht:∀j,tl[j]?=ops[n+j]?)(m:Nat):∀(up:Array Bool) (a:Act) (w:World),jM P md ops Q S n tl m up a w→wpAny P md ops Q (m+tl.length) up a w:=by
 induction m with
 |zero=>intro up a w h;rw[Nat.zero_add];exact wpAny_of_seq tl n up a w ht h.1 h.2
 |succ m ih =>
  intro up a w h;rw[Nat.add_right_comm];exact⟨fun e=>absurd e h.1,fun j hj=>wpOp_mono (fun a' w' h'=>ih _ a' w' h'.2) (h.2 j hj).2⟩
theorem xP {up:Array Bool}{j k:Nat}(hb:jL md ops n=true)(inv:HeadInv md ops n up)(hk:k<n)(hu:up.getD k true=false)(hj:j∈Region.ready md ops up):j<n:=by
 simp only[jL,Bool.and_eq_true,decide_eq_true_eq]at hb;exact Nat.lt_of_not_le fun h=>tail_waits hb.1.2 hb.2 hb.1.1 inv _ k rfl hk hu j h hj
theorem vP {k:Nat}{ok:Oper}{v:Value}(hk:ops[k]?=some ok)(hsel:∀(j:Nat) (o:Oper) cs b,ops[j]?=some o→o.op≠.select cs b)(hb:jL md ops n=true)(hkn:k<n)(hQ:∀c a w,Q (.panic c) (a.put ok.dst v) w→Q (.panic c) a w) :
 ∀(m:Nat) (up:Array Bool) (a:Act) (w:World),HeadInv md ops n up→(∀j oj,ops[j]?=some oj→j≠k→up.getD j true=false→(∀e∈oj.after,Region.binds md e=true→e.on≠k)→ok.apart ops oj=true)→
  k∈Region.ready md ops up→YieldsIf P ops S ok v a→S w→jM P md ops Q S n tl m (up.setIfInBounds k true) (a.put ok.dst v) w→jM P md ops Q S n tl (m+1) up a w
 |m,up,a,w,inv,hap,hr,hy,hS,H=>by
  have hun:=(mem_ready.1 hr).1;refine⟨List.ne_nil_of_mem hr,fun j hj=>?_⟩;have hjn:j<n:=xP hb inv hkn hun hj;refine⟨hjn,?_⟩;by_cases e:j=k
  ·subst e;exact hy.wpOp hk hS ⟨hS,H⟩
  ·match m,H with
   |0,H=>exact absurd (seqB_ready H.1 j (ready_mono hj e)) (by omega)
   |m+1,H =>
    obtain⟨U2,oj,hoj,hall⟩:=mem_ready.1 hj;have free:∀x∈oj.after,Region.binds md x=true→x.on≠k:=fun x hx hbd e'=>by
     have:=hall x hx hbd;rw[e',getD_both hun]at this;cases this
    have step:=wpOp_putIf hoj (hap j oj hoj e U2 free) (fun cs b=>hsel k ok cs b hk) (fun cs b=>hsel j oj cs b hoj) hQ hy (H.2 j (ready_mono hj e)).2;refine wpOp_mono (fun a' w' h'=>⟨h'.2.1,vP hk hsel hb hkn hQ m _ a' w' (inv.set hj hjn) (fun i oi hi hik hiu=>hap i oi hi hik ?_) (ready_mono hr (Ne.symm e)) h'.1 h'.2.1 ?_⟩) step
    ·rcases Decidable.em (j=i)with rfl|hji
     ·exact U2
     ·rwa [getD_set_ne true hji]at hiu
    ·rw[Array.setIfInBounds_comm _ _ e];exact h'.2.2
theorem dA {k m:Nat}{ok:Oper}{v:Value}{up:Array Bool}{a:Act}{w:World}(hk:ops[k]?=some ok)(hs:Region.noSelect ops=true)(hb:jL md ops n=true)(hi:sN md ops n up=true)(hkn:Nat.blt k n=true)(hf:Region.free md ops up k=true)(hr:(Region.ready md ops up).contains k=true)
 (hQ:∀c a w,Q (.panic c) (a.put ok.dst v) w→Q (.panic c) a w) (hw:Region.wanted ok (yielded ops a.tmps)=true) (hy:∀W,S W→(execOp a.eval ok).run P W=.ok (.value v) W) (hS:S w)
 (a':Act) (ha:a.put ok.dst v=a') (h:jM P md ops Q S n tl m (up.setIfInBounds k true) a' w):jM P md ops Q S n tl (m+1) up a w:=by
 subst ha;exact vP hk (Region.noSelect_spec hs) hb (by simpa[Nat.blt_eq]using hkn) hQ m up a w (Aj hi) (Region.free_spec hk hf) (by simpa using hr) (.inl ⟨hw,hy⟩) hS h
theorem aP {k m:Nat}{ok:Oper}{up:Array Bool}{a:Act}{w:World}(hk:ops[k]?=some ok)(hr:Region.ready md ops up=[k])(hkn:Nat.blt k n=true)
 (h:∀K:Act→World→Prop,(∀a' w',S w'→jM P md ops Q S n tl m (up.setIfInBounds k true) a' w'→K a' w')→if Region.wanted ok (yielded ops a.tmps)=true then ok.wp P a w K Q else K (a.put ok.dst undef) w):jM P md ops Q S n tl (m+1) up a w :=
 ⟨by rw[hr];simp,fun j hj=>by
  rw[hr]at hj;obtain rfl:j=k:=by simpa using hj
  exact⟨by simpa[Nat.blt_eq]using hkn,wpOp_step hk fun K hK=>h K fun a' w' h1 h2=>hK a' w' ⟨h1,h2⟩⟩⟩
theorem ji {k k2 m:Nat}{ok ok2:Oper}{up:Array Bool}{a:Act}{w:World}(hk:ops[k]?=some ok)(hk2:ops[k2]?=some ok2)(hr:Region.ready md ops up=[k,k2])(hkn:Nat.blt k n=true)(hkn2:Nat.blt k2 n=true)
 (h:∀K:Act→World→Prop,(∀a' w',S w'→jM P md ops Q S n tl m (up.setIfInBounds k true) a' w'→K a' w')→if Region.wanted ok (yielded ops a.tmps)=true then ok.wp P a w K Q else K (a.put ok.dst undef) w)
 (h2:∀K:Act→World→Prop,(∀a' w',S w'→jM P md ops Q S n tl m (up.setIfInBounds k2 true) a' w'→K a' w')→if Region.wanted ok2 (yielded ops a.tmps)=true then ok2.wp P a w K Q else K (a.put ok2.dst undef) w):jM P md ops Q S n tl (m+1) up a w :=
 ⟨by rw[hr];simp,fun j hj=>by
  rw[hr]at hj;rcases List.mem_cons.1 hj with rfl|hj
  ·exact⟨by simpa[Nat.blt_eq]using hkn,wpOp_step hk fun K hK=>h K fun a' w' h1 h2=>hK a' w' ⟨h1,h2⟩⟩
  ·obtain rfl:j=k2:=by simpa using hj
   exact⟨by simpa[Nat.blt_eq]using hkn2,wpOp_step hk2 fun K hK=>h2 K fun a' w' h1 h2=>hK a' w' ⟨h1,h2⟩⟩⟩
theorem aO {up:Array Bool}{a:Act}{w:World}(hq:Region.seqB md ops tl.length n up=true)(h:wpList P ops Q tl a w):jM P md ops Q S n tl 0 up a w:=⟨hq,h⟩
theorem aK {id:Nat}{a:Act}{w:World}{l:List Oper}(S:World→Prop)(n:Nat)(hn:Nat.ble n l.length=true)(hm:P.follows .mixedOrders=true)
 (h:jM P .any l.toArray Q S n (l.drop n) n (Array.replicate l.length false) a w.drew):(Code.region id l.toArray true).wp P Q a w:=by
 have hn':n≤l.length:=by simpa[Nat.ble_eq]using hn
 have:=NZ (fun j=>by simp[List.getElem?_drop]) n _ a _ h;rw[List.length_drop,show n+(l.length-n)=l.toArray.size by simp;omega]at this;exact wp_region_any hm this
end
end
section
open Go.RowKit
def Je (h:Int):Int:=if h≤2 then 1 else if h≤4 then 2 else if h≤5 then 3 else 4
structure Wh where
 id:Nat
 how:Int
def L9 (x:Wh):List Value:=[.int .u32 x.id,.int .i64 x.how]
theorem Tf:∃i0 z,Tryz.prog.info? 315=some i0∧i0.zero=some z∧i0.size=2∧i0.bytes≤1000∧z.cells.size=2:=fZ (by kernel_rfl)
section
variable {P:Program}{ops:Array Oper}{rest:List Oper}{op:Oper}{a:Act}{w:World}{Q:Exit→Act→World→Prop}
theorem iy (hw:Region.wanted op (yielded ops a.tmps)=true)(ty:TypeId)(x:Operand)(ho:op.op=.load ty x)(b o:Nat)(hx:a.eval x=.pointer (some ⟨b,o,none⟩))(cs:Array Value)(d:TypeDesc)(hc:w.rangeAt b o cs.toList)
 (hu:P.underlying ty=some d) (hd:d.isRow=true) (hi:(P.info? ty).map (·.size)=some cs.size) (h:wpList P ops Q rest (a.put op.dst (.agg cs)) w):wpList P ops Q (op::rest) a w :=
 BigFrame.wpList_want hw fun _ hK=>wp_load_mid ty x ho b o hx cs.toList d hc hu hd (by simpa using hi) (hK _ _ (by simpa using h))
theorem run_load {W:World}(ty:TypeId)(x:Operand)(ho:op.op=.load ty x)(b o:Nat)(hx:a.eval x=.pointer (some ⟨b,o,none⟩))(cs:Array Value)(d:TypeDesc)(hc:W.rangeAt b o cs.toList)
 (hu:P.underlying ty=some d) (hd:d.isRow=true) (hi:(P.info? ty).map (·.size)=some cs.size):(execOp a.eval op).run P W=.ok (.value (.agg cs)) W:=by
 have:=run_loadVar_mid (P:=P) W b o ty cs.toList d hc hu hd (by simpa using hi);unfold execOp;simp only[ho,hx,Instr.loadAt,Instr.sureAddr,Sem.run_bind,Sem.run_pure,Result.andThen_ok,this]
end
section
variable {w:World}
theorem uN (j:J)(h1:1≤j.how)(h9:j.how≤9)(w:World):Calls Tryz.prog 235 #[.agg j.cells] w fun e w'=>e=.returned (.int .i64 (Je j.how))∧Below w.heap.size w w':=by
 refine named fun R HQ=>?_;have B:=ah.mk (au (Below.refl w.heap.size w) (.cells j.cells 55));have h19:=j.lT;have hh:j.how=1∨j.how=2∨j.how=3∨j.how=4∨j.how=5∨j.how=6∨j.how=7∨j.how=8∨j.how=9:=by omega
 clear h1 h9;go_enter Tryz.func235,Tryz.ntmps235;rcases hh with e|e|e|e|e|e|e|e|e;all_goals
  rw[e]at h19 HQ;clear e;go_wp2_with fail
  first|go_ret|skip
  rw[←HQ.out];exact⟨rfl,B.out⟩
theorem CZ {A:Option Addr}{n c:Nat}{js:List J}(hr:bU w 26 qP (.slice A n c) js)(hok:∀k j,js[k]?=some j→j.id=k+1∧1≤j.how∧j.how≤9)(hn:n≤1000) :
 Calls Tryz.prog 189 #[.slice A n c] w fun e w'=>e=.returned (.int .i64 0)∧Below w.heap.size w w':=by
 refine named fun R HQ=>?_;have hnl:n=js.length:=hr.len;have HR:=ah.mk hr;have HK:=ah.mk hok;have HL:=ah.mk hnl;have B0:=ah.mk (Below.refl w.heap.size w);clear hr hok hnl;go_enter Tryz.func189,Tryz.ntmps189;go_wp2_with fail
 go_loopw [7] (fun i wr=>∃(k:Nat),i=.int .i64 k∧k≤n∧ah (Below w.heap.size w wr)) (fun i _=>n-(intOf i).toNat)
 case atStart=>exact⟨0,rfl,Nat.zero_le _,B0⟩
 case round =>
  clear B0;obtain⟨k,rfl,hk,HB⟩:=hrel;by_cases hlt:k<n
  ·obtain⟨x,hx⟩:∃x,js[k]?=some x:=⟨_,List.getElem?_eq_getElem (by rw[←HL.out];exact hlt)⟩;obtain⟨b,hA2,hxr⟩:=(HR.out.below HB.out).get k x hx;subst hA2;have R1:ah (wr.rangeAt b (k*26) x.cells.toList):=⟨hxr⟩;obtain⟨hid,h1,h9⟩:=HK.out k x hx;have WC:=ah.mk fun W=>uN x h1 h9 W;have x0:x.cells[0]?=some (.int .u32 ((k:Int)+1)):=by rw[x.o7,hid];simp
   have hv:(Je x.how==0)=false:=by unfold Je;by_cases e1:x.how≤2<;>by_cases e2:x.how≤4<;>by_cases e3:x.how≤5<;>simp[e1,e2,e3]
   have HB1:=ah.mk (ay HB.out HB.out.size (au (Below.refl wr.heap.size wr) (.cells x.cells 55)));have j55:=eP x;clear hxr hx hid h1 h9;obtain⟨hw,Nu⟩:∃hw,hw=Je x.how:=⟨_,rfl⟩;rw[←Nu]at WC hv;clear Nu;go_wp2_with (first|(go_at_call 235;have _t:=WC.out;clear _t;refine(WC.out _).mono ?_;rintro e w9 ⟨rfl,hb'⟩;have H9:=ah.mk (ay HB1.out HB1.out.size hb');clear hb')|(refine iy (by rfl) 55 (.tmp 4) rfl wr.heap.size 0 rfl x.cells _ (aX (heap_alloc_new _ _) 0 _ (fun i v h=>by simpa using h)) Tryz.underlying55 rfl j55 ?_)|(refine aB wr.heap.size rfl rfl 55 (.tmp 4) (.tmp 11) rfl x.cells rfl rfl 55 _ j55 rfl x.one ?_)|(refine aI rfl 55 (.tmp 10) rfl b (k*26) rfl x.cells _ R1.out Tryz.underlying55 rfl j55 ?_))
   go_roundw
   case rel=>exact⟨k+1,by go_num,by omega,H9⟩
   case measure=>simp[intOf];omega
  ·obtain rfl:k=n:=by omega
   go_wp2_with fail
   first|go_ret|skip
   rw[←HQ.out];exact⟨rfl,HB.out⟩
theorem Dc {A:Option Addr}{n c:Nat}{js:List J}(hr:bU w 26 qP (.slice A n c) js)(hok:∀k j,js[k]?=some j→j.id=k+1∧1≤j.how∧j.how≤9)(hn:n≤1000) :
 Calls Tryz.prog 190 #[.slice A n c] w fun e w'=>∃(A2:Option Addr) (c2:Nat),e=.returned (.slice A2 n c2)∧Below w.heap.size w w':=by
 refine named fun R HQ=>?_;have hnl:n=js.length:=hr.len;have HR:=ah.mk hr;have HK:=ah.mk hok;have HL:=ah.mk hnl;have HH0:ah (Has w w [aV 315 2 L9 (.slice none 0 0) []]):=⟨(Has.start w).nilRow 315 2 L9⟩;clear hr hok hnl;go_enter Tryz.func190,Tryz.ntmps190;go_wp2_with fail
 go_loopw [3,8] (fun v i wr=>∃(k:Nat) (A1:Option Addr) (c1:Nat) (l:List Wh),v=.slice A1 k c1∧i=.int .i64 k∧k≤n∧ah (k=l.length)∧ah (Has w wr [aV 315 2 L9 (.slice A1 k c1) l])) (fun _ i _=>n-(intOf i).toNat)
 case atStart=>exact⟨0,none,0,[],rfl,rfl,Nat.zero_le _,⟨rfl⟩,HH0⟩
 case round =>
  clear HH0;obtain⟨k,A1,c1,l,rfl,rfl,hk,HM,HB⟩:=hrel;by_cases hlt:k<n
  ·obtain⟨x,hx⟩:∃x,js[k]?=some x:=⟨_,List.getElem?_eq_getElem (by rw[←HL.out];exact hlt)⟩;obtain⟨b,hA2,hxr⟩:=(HR.out.below HB.out.old).get k x hx;subst hA2;have R1:ah (wr.rangeAt b (k*26) x.cells.toList):=⟨hxr⟩;obtain⟨hid,h1,h9⟩:=HK.out k x hx;have WC:=ah.mk fun W=>uN x h1 h9 W;have HB1:=ah.mk (HB.out.aZ (.cells x.cells 55));have j55:=eP x;clear hxr hx h1 h9 hid;obtain⟨hw,Nu⟩:∃hw,hw=Je x.how:=⟨_,rfl⟩;rw[←Nu]at WC;clear Nu;obtain⟨W0,hW⟩:∃W0,W0=wr.alloc (.cells x.cells 55):=⟨_,rfl⟩;have HW:=ah.mk hW;have HB2:ah (Has w W0 ([aV 315 2 L9 (.slice A1 k c1) l]++[aF wr.heap.size (.cells x.cells 55)])):=⟨by rw[hW];exact HB1.out⟩;have cx0:∀g:GW W0,g.W.cell? ⟨wr.heap.size,0,none⟩=some (.int .u32 (x.id:Int)):=fun g=>g.cell (by rw[aj (HB2.out.blk 1 rfl)];exact x.o7);have rx:ah (∀W,(∃g:GW W0,W=g.W)→W.rangeAt wr.heap.size 0 x.cells.toList):=⟨fun W ⟨g,e⟩=>by subst e;exact bQ (aX (HB2.out.blk 1 rfl) 0 _ (fun i v h=>by simpa using h)) g.h⟩;clear hW HB1;go_wp2_with (first|(refine aB wr.heap.size rfl rfl 55 (.tmp 5) (.tmp 11) rfl x.cells rfl rfl 55 _ j55 rfl x.one ?_;rw[←HW.out];refine ah.out ?_)|(refine aI rfl 55 (.tmp 10) rfl b (k*26) rfl x.cells _ R1.out Tryz.underlying55 rfl j55 ?_))
   refine ah.mk ?_;go_wp2_with fail
   refine aK (fun W=>∃g:GW W0,W=g.W) 7 (by kernel_rfl) (by kernel_rfl) ?_;have Ph:=ah.mk (show Below W0.heap.size W0 W0.drew from aC (Below.refl _ W0) 1);have HG:∃g:GW W0,W0.drew=g.W:=⟨⟨_,Ph.out⟩,rfl⟩;refine dA (k:=0) rfl (by kernel_rfl) (by kernel_rfl) (by kernel_rfl) (by kernel_rfl) (by kernel_rfl) (by kernel_rfl) (fun _ _ _ h=>h) (by rfl) (by rintro W ⟨g,rfl⟩;go_simp;try with_reducible rfl) HG _ rfl ?_;refine dA (k:=1) rfl (by kernel_rfl) (by kernel_rfl) (by kernel_rfl) (by kernel_rfl) (by kernel_rfl) (by kernel_rfl) (fun _ _ _ h=>h) (by rfl) (by rintro W ⟨g,rfl⟩;go_simp;try with_reducible rfl) HG _ rfl ?_;simp only[Act.put,List.setIfInBounds_toArray,List.set_cons_zero,List.set_cons_succ];refine dA (k:=2) rfl (by kernel_rfl) (by kernel_rfl) (by kernel_rfl) (by kernel_rfl) (by kernel_rfl) (by kernel_rfl) (fun _ _ _ h=>h) (by rfl) (by rintro W ⟨g,rfl⟩;go_simp;try with_reducible rfl) HG _ rfl ?_;refine dA (k:=3) rfl (by kernel_rfl) (by kernel_rfl) (by kernel_rfl) (by kernel_rfl) (by kernel_rfl) (by kernel_rfl) (fun _ _ _ h=>h) (by rfl) (fun W hW=>run_load 55 _ rfl wr.heap.size 0 rfl x.cells _ (rx.out W hW) Tryz.underlying55 rfl j55) HG _ rfl ?_;simp only[Act.put,List.setIfInBounds_toArray,List.set_cons_zero,List.set_cons_succ];refine aP (k:=4) rfl (by kernel_rfl) (by kernel_rfl) (fun K hK=>?_);rw[if_pos (by rfl)];go_simp;refine(WC.out _).mono ?_;rintro e w9 ⟨rfl,hb'⟩;refine hK _ _ ⟨⟨_,ay Ph.out Ph.out.size hb'⟩,rfl⟩ ?_;clear hK K HG;have HG:∃g:GW W0,w9=g.W:=⟨⟨_,ay Ph.out Ph.out.size hb'⟩,rfl⟩;have B9:=ah.mk (ay Ph.out Ph.out.size hb');have H9:=ah.mk (HB2.out.below B9.out);clear hb';try simp only[Act.put,List.setIfInBounds_toArray,List.set_cons_zero,List.set_cons_succ]
   refine dA (k:=5) rfl (by kernel_rfl) (by kernel_rfl) (by kernel_rfl) (by kernel_rfl) (by kernel_rfl) (by kernel_rfl) (fun _ _ _ h=>h) (by rfl) (by rintro W ⟨g,rfl⟩;go_simp;try with_reducible rfl) HG _ rfl ?_;simp only[Act.put,List.setIfInBounds_toArray,List.set_cons_zero,List.set_cons_succ];refine aP (k:=6) rfl (by kernel_rfl) (by kernel_rfl) (fun K hK=>?_);rw[if_pos (by rfl)];go_simp;refine hK _ _ ⟨⟨_,au B9.out _⟩,rfl⟩ ?_;refine aO (by kernel_rfl) ?_;simp only[List.drop_succ_cons,List.drop_zero];go_wp2_with (at_builtin;refine dn 267 (.tmp 12) (.tmp 18) rfl rfl H9.out 0 rfl k HM.out Tryz.underlying267 Tf (by decide) (by omega) rfl rfl (⟨x.id,hw⟩:Wh) _ rfl rfl (by simp[Value.oneCell']) ?_;intro A5 c5 w5 h5;have H5:=ah.mk (h5.drop 1);clear h5)
   go_roundw
   case rel=>exact⟨k+1,A5,c5,l++[(⟨x.id,hw⟩:Wh)],by go_num,by go_num,by omega,⟨by have:=HM.out;simp;omega⟩,⟨H5.out⟩⟩
   case measure=>simp[intOf];omega
  ·obtain rfl:k=n:=by omega
   go_wp2_with fail
   first|go_ret|skip
   rw[←HQ.out];exact⟨A1,c1,rfl,HB.out.old⟩
end
end
section
open Go.RowKit
def zC (h:Int):Int:=if 1≤h∧h≤9 then Je h else 0
section
variable {w:World}
theorem Mc (j:J)(w:World):Calls Tryz.prog 235 #[.agg j.cells] w fun e w'=>e=.returned (.int .i64 (zC j.how))∧Below w.heap.size w w':=by
 by_cases h:1≤j.how∧j.how≤9
 ·unfold zC;rw[if_pos h];exact uN j h.1 h.2 w
 ·refine named fun R HQ=>?_;have B:=ah.mk (au (Below.refl w.heap.size w) (.cells j.cells 55));have h19:=j.lT;have hz:zC j.how=0:=by unfold zC;rw[if_neg h]
  rw[hz]at HQ;obtain⟨v,hv⟩:∃v,v=j.how:=⟨_,rfl⟩;rw[←hv]at h19 h;have e1:(v==1)=false:=by simp;omega
  have e2:(v==2)=false:=by simp;omega
  have e3:(v==3)=false:=by simp;omega
  have e4:(v==4)=false:=by simp;omega
  have e5:(v==5)=false:=by simp;omega
  have h6:decide (5<v)=false∨(decide (5<v)=true∧decide (v≤9)=false):=by
   by_cases a:5<v
   ·exact .inr ⟨decide_eq_true a,decide_eq_false (by omega)⟩
   ·exact .inl (decide_eq_false a)
  clear hz hv h;rcases h6 with h6|⟨h6,h7⟩;all_goals
   go_enter Tryz.func235,Tryz.ntmps235;go_wp2_with fail
   first|go_ret|skip
   rw[←HQ.out];exact⟨rfl,B.out⟩
def kS (j x:J):Bool:=if x.id=j.id then false else if(x.s.account.toList==j.s.account.toList)=true then zC x.how==2||(zC x.how==1&&decide ((x.id:Int)<j.id))else false
theorem J.Md (j:J):j.cells[3]?=some (.string gW):=rfl
theorem J.jB (j:J):j.cells[4]?=some (.string j.s.account):=rfl
theorem Df (j x:J)(pj:Nat)(c0:w.cell? ⟨pj,0,none⟩=some (.int .u32 (j.id:Int)))(c3:w.cell? ⟨pj,3,none⟩=some (.string gW))(c4:w.cell? ⟨pj,4,none⟩=some (.string j.s.account)) :
 Calls Tryz.prog 278 #[.agg x.cells,.pointer (some ⟨pj,0,none⟩)] w fun e w'=>e=.returned (.bool (kS j x))∧Below w.heap.size w w':=by
 refine named fun R HQ=>?_;obtain⟨W0,hW⟩:∃W0,W0=w.alloc (.cells x.cells 55):=⟨_,rfl⟩;have B:=ah.mk (show Below w.heap.size w W0 by rw[hW];exact au (Below.refl w.heap.size w) _);have hb:W0.heap[w.heap.size]?=some (.cells x.cells 55):=by rw[hW];exact heap_alloc_new _ _
 have K0:ah (W0.cell? ⟨pj,0,none⟩=some (.int .u32 (j.id:Int))):=⟨by rw[hW];exact ak (au (Below.refl _ _) _) c0⟩;have X0:ah (W0.cell? ⟨w.heap.size,0,none⟩=some (.int .u32 (x.id:Int))):=⟨by rw[aj hb];exact x.o7⟩;have k0:∀o,(w.alloc o).cell? ⟨pj,0,none⟩=some (.int .u32 (j.id:Int)):=fun o=>ak (au (Below.refl _ _) _) c0;have k3:∀o,(w.alloc o).cell? ⟨pj,3,none⟩=some (.string gW):=fun o=>ak (au (Below.refl _ _) _) c3;have k4:∀o,(w.alloc o).cell? ⟨pj,4,none⟩=some (.string j.s.account):=fun o=>ak (au (Below.refl _ _) _) c4;have x0:=x.o7;have x3:=x.Md;have x4:=x.jB;have RX:=ah.mk (aX hb 0 x.cells.toList (fun i v h=>by simpa using h));have HC:=ah.mk (Mc x);have j55:=eP x;clear hb c0 c3 c4;subst hW;by_cases hid:x.id=j.id
 ·have hi:((x.id:Int)==(j.id:Int))=true:=by simp[hid]
  have hp:kS j x=false:=by unfold kS;rw[if_pos hid]
  rw[hp]at HQ;clear hp;go_enter Tryz.func278,Tryz.ntmps278;go_wp2_with fail
  first|go_ret|skip
  rw[←HQ.out];exact⟨rfl,B.out⟩
 ·have hi:((x.id:Int)==(j.id:Int))=false:=by simp;omega
  by_cases hac:(x.s.account.toList==j.s.account.toList)=true
  ·obtain⟨v,hv⟩:∃v,v=zC x.how:=⟨_,rfl⟩;rw[←hv]at HC;have ha:(x.s.account.toList==j.s.account.toList)=true:=hac;have hp:kS j x=(v==2||(v==1&&decide ((x.id:Int)<j.id))):=by unfold kS;rw[if_neg hid,if_pos hac,hv]
   rw[hp]at HQ;clear hp hv hid hac;go_enter Tryz.func278,Tryz.ntmps278;cases h2:(v==2)
   ·cases h1:(v==1)
    ·go_wp2_with (first|(go_at_call 235;refine(HC.out _).mono ?_;rintro e w9 ⟨rfl,hb'⟩;have B9:=ah.mk (ay B.out B.out.size hb');have k9:w9.cell? ⟨pj,0,none⟩=some (.int .u32 (j.id:Int)):=ak hb' K0.out;have x9:w9.cell? ⟨w.heap.size,0,none⟩=some (.int .u32 (x.id:Int)):=ak hb' X0.out;clear hb')|(refine aI rfl 55 (.tmp 2) rfl w.heap.size 0 rfl x.cells _ RX.out Tryz.underlying55 rfl j55 ?_))
     first|go_ret|skip
     rw[←HQ.out];exact⟨by simp[h2,h1],B9.out⟩
    ·go_wp2_with (first|(go_at_call 235;refine(HC.out _).mono ?_;rintro e w9 ⟨rfl,hb'⟩;have B9:=ah.mk (ay B.out B.out.size hb');have k9:w9.cell? ⟨pj,0,none⟩=some (.int .u32 (j.id:Int)):=ak hb' K0.out;have x9:w9.cell? ⟨w.heap.size,0,none⟩=some (.int .u32 (x.id:Int)):=ak hb' X0.out;clear hb')|(refine aI rfl 55 (.tmp 2) rfl w.heap.size 0 rfl x.cells _ RX.out Tryz.underlying55 rfl j55 ?_))
     first|go_ret|skip
     rw[←HQ.out];exact⟨by simp[h2,h1],B9.out⟩
   ·go_wp2_with (first|(go_at_call 235;refine(HC.out _).mono ?_;rintro e w9 ⟨rfl,hb'⟩;have B9:=ah.mk (ay B.out B.out.size hb');have k9:w9.cell? ⟨pj,0,none⟩=some (.int .u32 (j.id:Int)):=ak hb' K0.out;have x9:w9.cell? ⟨w.heap.size,0,none⟩=some (.int .u32 (x.id:Int)):=ak hb' X0.out;clear hb')|(refine aI rfl 55 (.tmp 2) rfl w.heap.size 0 rfl x.cells _ RX.out Tryz.underlying55 rfl j55 ?_))
    first|go_ret|skip
    rw[←HQ.out];exact⟨by simp[h2],B9.out⟩
  ·have ha:(x.s.account.toList==j.s.account.toList)=false:=by simpa using hac
   have hp:kS j x=false:=by unfold kS;rw[if_neg hid,if_neg hac]
   rw[hp]at HQ;clear hp hid hac;go_enter Tryz.func278,Tryz.ntmps278;go_wp2_with fail
   first|go_ret|skip
   rw[←HQ.out];exact⟨rfl,B.out⟩
instance :Inhabited J:=⟨⟨0,⟨cZ,cZ,0,0,false⟩,0,0,0,0,0,0,0⟩⟩
theorem FM {g n c:Nat}{js:List J}(j:J)(hr:bU w 26 qP (.slice (some ⟨g,0,none⟩) n c) js)(hn:n≤1000)(hn1:1≤n) :
 Calls Tryz.prog 237 #[.slice (some ⟨g,0,none⟩) n c,.agg j.cells] w fun e w'=>e=.returned (.bool (!js.any (kS j)))∧Below w.heap.size w w':=by
 refine named fun R HQ=>?_;have hnl:n=js.length:=hr.len;obtain⟨W0,hW⟩:∃W0,W0=w.alloc (.cells j.cells 55):=⟨_,rfl⟩;have B:=ah.mk (show Below w.heap.size w W0 by rw[hW];exact au (Below.refl w.heap.size w) _);have hb:W0.heap[w.heap.size]?=some (.cells j.cells 55):=by rw[hW];exact heap_alloc_new _ _
 have k0:W0.cell? ⟨w.heap.size,0,none⟩=some (.int .u32 (j.id:Int)):=by rw[aj hb];exact j.o7
 have k3:W0.cell? ⟨w.heap.size,3,none⟩=some (.string gW):=by rw[aj hb];exact j.Md
 have k4:W0.cell? ⟨w.heap.size,4,none⟩=some (.string j.s.account):=by rw[aj hb];exact j.jB
 have hp:PredBelow Tryz.prog 278 #[.pointer (some ⟨w.heap.size,0,none⟩)] (fun x:J=>.agg (qP x).toArray) (kS j) W0:=fun W x hb'=>(Df j x w.heap.size ((GW.mk W hb').cell k0) ((GW.mk W hb').cell k3) ((GW.mk W hb').cell k4)).mono fun e w' ⟨h,h2⟩=>⟨h,ay hb' hb'.size h2⟩;have hR:=hr.below B.out;have hA0:∃x,js[0]?=some x:=⟨_,List.getElem?_eq_getElem (by omega)⟩;have hg:g<W0.heap.size:=by
  obtain⟨x,hx⟩:=hA0;obtain⟨b,hA,hxr⟩:=hR.get 0 x hx;cases hA;have:=hxr 0 _ x.o7;exact World.block_lt_of_cell? _ _ this
 have hcon:=AnyQ.slices_ContainsFunc Tryz.CY 26 Tryz.isAgg55 Tryz.sizeOf55 qP (fun x=>x.EN) (kS j) 278 #[.pointer (some ⟨w.heap.size,0,none⟩)] (enters_of Tryz.func278 (by kernel_rfl) rfl) g 0 n c js W0 hp (by omega) (by omega) hg (fun k hk i v hv=>by
  obtain⟨b,hA,hxr⟩:=hR.get k js[k] (List.getElem?_eq_getElem hk);cases hA;rw[getElem!_pos js k hk]at hv;have:=hxr i v hv;simpa using this)
 change Calls Tryz.prog 277 _ _ _ at hcon;rw[List.take_of_length_le (by omega)]at hcon;have HC:=ah.mk hcon;clear hcon hb hp hR hA0 k0 k3 k4 hg hnl hr;subst hW;go_enter Tryz.func237,Tryz.ntmps237;go_wp2_with (go_at_call 277;refine HC.out.mono ?_;rintro e w9 ⟨rfl,hb'⟩;have B9:=ah.mk (ay B.out B.out.size hb');clear hb')
 first|go_ret|skip
 rw[←HQ.out];exact⟨rfl,B9.out⟩
end
end
section
open Go.RowKit
section
variable {P:Program}{ops:Array Oper}{md:Region.Mode}{S:World→Prop}{Q:Exit→Act→World→Prop}{n:Nat}{tl:List Oper}
theorem tk (k:Nat){m:Nat}{ok:Oper}{v:Value}{up:Array Bool}{a:Act}{w:World}{a':Act}(hS:S w)(h:jM P md ops Q S n tl m (up.setIfInBounds k true) a' w)
 (hk:ops[k]?=some ok:=by rfl) (hs:Region.noSelect ops=true:=by kernel_rfl) (hb:jL md ops n=true:=by kernel_rfl) (hi:sN md ops n up=true:=by kernel_rfl) (hkn:Nat.blt k n=true:=by kernel_rfl) (hf:Region.free md ops up k=true:=by kernel_rfl) (hr:(Region.ready md ops up).contains k=true:=by kernel_rfl)
 (hQ:∀c a w,Q (.panic c) (a.put ok.dst v) w→Q (.panic c) a w:=by exact fun _ _ _ h=>h) (hw:Region.wanted ok (yielded ops a.tmps)=true:=by rfl) (hy:∀W,S W→(execOp a.eval ok).run P W=.ok (.value v) W:=by(rintro W ⟨g,rfl⟩;go_simp;try with_reducible rfl))
 (ha:a.put ok.dst v=a':=by(first|(simp only[Act.put,List.getElem_toArray,List.getElem_cons_zero,List.getElem_cons_succ,List.setIfInBounds_toArray,List.set_cons_zero,List.set_cons_succ];rfl)|rfl)):jM P md ops Q S n tl (m+1) up a w :=
 dA hk hs hb hi hkn hf hr hQ hw hy hS a' ha h
end
end
end Go.Proofs.YtandhagfhppgaaaGreatDoor
