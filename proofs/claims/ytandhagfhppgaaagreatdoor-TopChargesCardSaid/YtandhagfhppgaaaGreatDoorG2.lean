/- Part 7 of a proof: contracts of the functions that the law reaches. No condition. -/
import Derived.Test.YtandhagfhppgaaaGreatDoorG0
import Derived.Test.YtandhagfhppgaaaGreatDoorProg
set_option linter.all false
set_option maxRecDepth 100000
set_option maxHeartbeats 16000000
namespace Go.Proofs.YtandhagfhppgaaaGreatDoor
section
section
variable {P:Program}{ops:Array Oper}{Q:Exit→Act→World→Prop}{md:Region.Mode}{S:World→Prop}{ds:List Nat}
def Region.nN (md:Region.Mode)(ops:Array Oper)(i:Nat):Nat→Nat→Bool
 |0,_=>false
 |fuel+1,d=>match ops[d]? with
  |some o=>o.after.any fun e=>Region.binds md e&&(e.on==i||Region.nN md ops i fuel e.on)
  |none=>false
def Region.Cm (md:Region.Mode)(ops:Array Oper)(listed:Array Bool):Bool :=
 (List.range ops.size).all fun j=>!listed.getD j false||match ops[j]? with
  |some o=>o.after.all fun e=>!Region.binds md e||listed.getD e.on false
  |none=>true
def Region.lastB (md:Region.Mode)(ops:Array Oper)(listed:Array Bool)(ds:List Nat)(i:Nat):Bool :=
 ds.all fun d=>listed.getD d true||Region.nN md ops i ops.size d
def iK (md:Region.Mode)(ops:Array Oper)(listed:Array Bool):Prop :=
 ∀j oj,ops[j]?=some oj→listed.getD j false=true→∀e∈oj.after,Region.binds md e=true→listed.getD e.on false=true
theorem Region.CB {listed:Array Bool}(h:Region.Cm md ops listed=true):iK md ops listed:=by
 intro j oj hj hl e he hb;have hlt:j<ops.size:=(Array.getElem?_eq_some_iff.1 hj).1;have h1:=List.all_eq_true.1 h j (List.mem_range.2 hlt);simp only[hl,hj,Bool.not_true,Bool.false_or]at h1;have h2:=Array.all_eq_true_iff_forall_mem.1 h1 e he;simpa[hb]using h2
theorem iK.set {listed:Array Bool}{i:Nat}(h:iK md ops listed)(hi:i∈Region.ready md ops listed):iK md ops (listed.setIfInBounds i true):=by
 obtain⟨_,oi,hoi,hall⟩:=mem_ready.1 hi;intro j oj hj hl e he hb;by_cases hij:i=j
 ·subst hij;have : oj=oi:=Option.some.inj (hj.symm.trans hoi);subst this;exact getD_set_true (hall e he hb)
 ·rw[getD_set_ne false hij]at hl;exact getD_set_true (h j oj hj hl e he hb)
theorem Region.rZ {listed:Array Bool}{i:Nat}(hc:iK md ops listed):∀(fuel d:Nat),Region.nN md ops i fuel d=true→listed.getD d false=true→listed.getD i false=true
 |0,_,h,_=>by simp[Region.nN]at h
 |fuel+1,d,h,hl=>by
  unfold Region.nN at h;cases ho:ops[d]? with
  |none=>rw[ho]at h;simp at h
  |some o =>
   rw[ho]at h;obtain⟨e,he,h1⟩:=Array.any_eq_true'.1 h;simp only[Bool.and_eq_true,Bool.or_eq_true,beq_iff_eq]at h1;have hle:=hc d o ho hl e he h1.1;rcases h1.2 with h2|h2
   ·rw[←h2];exact hle
   ·exact Region.rZ hc fuel e.on h2 hle
theorem Region.wP {listed:Array Bool}{i d fuel:Nat}(hc:iK md ops listed)(hr:Region.nN md ops i fuel d=true)(hun:listed.getD i true=false):d ∉ Region.ready md ops listed:=by
 intro hd;obtain⟨_,o,ho,hall⟩:=mem_ready.1 hd;have hi:listed.getD i false=true:=by
  cases fuel with
  |zero=>simp[Region.nN]at hr
  |succ n =>
   unfold Region.nN at hr;rw[ho]at hr;obtain⟨e,he,h1⟩:=Array.any_eq_true'.1 hr;simp only[Bool.and_eq_true,Bool.or_eq_true,beq_iff_eq]at h1;have hle:=hall e he h1.1;rcases h1.2 with h2|h2
   ·rw[←h2];exact hle
   ·exact Region.rZ hc n e.on h2 hle
 rcases Nat.lt_or_ge i listed.size with h'|h'
 ·simp[h']at hun hi;rw[hun]at hi;cases hi
 ·simp[Array.getElem?_eq_none h']at hun
def dA (P:Program)(md:Region.Mode)(ops:Array Oper)(Q:Exit→Act→World→Prop)(S:World→Prop)(ds:List Nat):Nat→Array Bool→Act→World→Prop
 |0,listed,a,w=>Region.ready md ops listed=[]∧Q .normal a w
 |fuel+1,listed,a,w =>
  (Region.ready md ops listed=[]→Q .normal a w)∧
  ∀i∈Region.ready md ops listed,wpOp P ops Q i (fun a' w'=>(i ∉ ds→S w→S w')∧dA P md ops Q S ds fuel (listed.setIfInBounds i true) a' w') a w
theorem wQ {i:Nat}{oi:Oper}{v:Value}(hi:ops[i]?=some oi)(hsel:∀(j:Nat) (o:Oper) cs b,ops[j]?=some o→o.op≠.select cs b)
 (hQ:∀c a w,Q (.panic c) (a.put oi.dst v) w→Q (.panic c) a w) (n:Nat) :
 ∀(fuel:Nat) (listed:Array Bool) (a:Act) (w:World),
  (∀j oj,ops[j]?=some oj→j≠i→listed.getD j true=false→(∀e∈oj.after,Region.binds md e=true→e.on≠i)→oi.apart ops oj=true)→
  iK md ops listed→(∀d∈ds,listed.getD d true=false→Region.nN md ops i n d=true)→
  i∈Region.ready md ops listed→YieldsIf P ops S oi v a→S w →
  dA P md ops Q S ds fuel (listed.setIfInBounds i true) (a.put oi.dst v) w→dA P md ops Q S ds (fuel+1) listed a w:=by
 intro fuel;induction fuel with
 |zero =>
  intro listed a w _ _ _ hr hy hS H;refine⟨fun h=>(by rw[h]at hr;cases hr),fun j hj=>?_⟩;by_cases hji:j=i
  ·subst hji;exact hy.wpOp hi hS ⟨fun _ h=>h,H⟩
  ·have:=ready_mono hj hji;rw[H.1]at this;cases this
 |succ fuel ih =>
  intro listed a w hfree hc hd hr hy hS H;refine⟨fun h=>(by rw[h]at hr;cases hr),fun j hj=>?_⟩;by_cases hji:j=i
  ·subst hji;exact hy.wpOp hi hS ⟨fun _ h=>h,H⟩
  ·have h1:=H.2 j (ready_mono hj hji);obtain⟨hjun,oj,hoj,hall⟩:=mem_ready.1 hj;have Vk:=(mem_ready.1 hr).1;have hnot:∀e∈oj.after,Region.binds md e=true→e.on≠i:=fun e he hb heq=>by
    have h1:=hall e he hb;rw[heq]at h1;rcases Nat.lt_or_ge i listed.size with h'|h'
    ·simp[h']at Vk h1;rw[Vk]at h1;cases h1
    ·simp[Array.getElem?_eq_none h']at h1
   have hjd:j ∉ ds:=fun hm=>Region.wP hc (hd j hm hjun) Vk hj;have h2:=wpOp_putIf hoj (hfree j oj hoj hji hjun hnot) (fun cs b=>hsel i oi cs b hi) (fun cs b=>hsel j oj cs b hoj) hQ hy h1;have hfree':∀k ok,ops[k]?=some ok→k≠i→(listed.setIfInBounds j true).getD k true=false →
    (∀e∈ok.after,Region.binds md e=true→e.on≠i)→oi.apart ops ok=true:=fun k ok hk hki hun hno=>by
    refine hfree k ok hk hki ?_ hno;by_cases hjk:j=k
    ·subst hjk;exact hjun
    ·rw[getD_set_ne true hjk]at hun;exact hun
   have hd':∀d∈ds,(listed.setIfInBounds j true).getD d true=false→Region.nN md ops i n d=true:=fun d hm hun=>by
    refine hd d hm ?_;by_cases hjk:j=d
    ·subst hjk;exact hjun
    ·rw[getD_set_ne true hjk]at hun;exact hun
   refine wpOp_mono (fun a' w' h3=>⟨h3.2.1,ih (listed.setIfInBounds j true) a' w' hfree' (hc.set hj) hd' (ready_mono hr (Ne.symm hji)) h3.1 (h3.2.1 hjd hS) ?_⟩) h2;rw[Array.setIfInBounds_comm _ _ hji];exact h3.2.2
theorem xI {i:Nat}{oi:Oper}{v:Value}{fuel:Nat}{listed:Array Bool}{a:Act}{w:World}(hi:ops[i]?=some oi)
 (hs:Region.noSelect ops=true) (hf:Region.free md ops listed i=true) (hr:(Region.ready md ops listed).contains i=true)
 (hc:Region.Cm md ops listed=true) (hl:Region.lastB md ops listed ds i=true)
 (hQ:∀c a w,Q (.panic c) (a.put oi.dst v) w→Q (.panic c) a w) (hy:YieldsIf P ops S oi v a) (hS:S w)
 (h:dA P md ops Q S ds fuel (listed.setIfInBounds i true) (a.put oi.dst v) w):dA P md ops Q S ds (fuel+1) listed a w :=
 wQ hi (Region.noSelect_spec hs) hQ ops.size fuel listed a w (Region.free_spec hi hf) (Region.CB hc)
  (fun d hm hun=>by have:=List.all_eq_true.1 hl d hm;rw[hun]at this;simpa using this) (by simpa using hr) hy hS h
theorem zA {rs:List Nat}{fuel:Nat}{listed:Array Bool}{a:Act}{w:World}(hr:Region.ready md ops listed=rs)(hne:rs≠[])
 (h:∀i∈rs,wpOp P ops Q i (fun a' w'=>(i ∉ ds→S w→S w')∧dA P md ops Q S ds fuel (listed.setIfInBounds i true) a' w') a w):dA P md ops Q S ds (fuel+1) listed a w :=
 ⟨fun h0=>absurd (hr▸h0) hne,hr▸h⟩
end
section
variable {P:Program}{ops:Array Oper}{Q:Exit→Act→World→Prop}{md:Region.Mode}{S:World→Prop}{ds:List Nat}
def fF (P:Program)(md:Region.Mode)(ops:Array Oper)(Q:Exit→Act→World→Prop)(S:World→Prop)(ds:List Nat)(fuel:Nat)(listed:Array Bool)(a:Act)(w:World)(rs:List Nat):Prop :=
 ∀i∈rs,wpOp P ops Q i (fun a' w'=>(i ∉ ds→S w→S w')∧dA P md ops Q S ds fuel (listed.setIfInBounds i true) a' w') a w
theorem fF.nil {fuel:Nat}{listed:Array Bool}{a:Act}{w:World}:fF P md ops Q S ds fuel listed a w []:=fun _ h=>by cases h
theorem fF.cons {fuel:Nat}{listed:Array Bool}{a:Act}{w:World}{i:Nat}{o:Oper}{rs:List Nat}(ho:ops[i]?=some o)(hd:i ∉ ds)
 (h:∀K':Act→World→Prop,Shut (∀a w,S w→(S w→dA P md ops Q S ds fuel (listed.setIfInBounds i true) a w)→K' a w)→if Region.wanted o (yielded ops a.tmps)=true then Oper.wp P o a w K' Q else K' (a.put o.dst undef) w)
 (hs:fF P md ops Q S ds fuel listed a w rs):fF P md ops Q S ds fuel listed a w (i::rs):=fun j hj=>by
 rcases List.mem_cons.1 hj with rfl|hj
 ·exact wpOp_step ho (fun K' hK=>h K' (fun a w hS hW=>hK a w ⟨fun _ _=>hS,hW hS⟩))
 ·exact hs j hj
theorem kZ {rs:List Nat}{fuel:Nat}{listed:Array Bool}{a:Act}{w:World}(hr:Region.ready md ops listed=rs)(hne:rs≠[])
 (h:fF P md ops Q S ds fuel listed a w rs):dA P md ops Q S ds (fuel+1) listed a w:=zA hr hne h
def takeB (md:Region.Mode)(ops:Array Oper)(ds:List Nat)(l l':Array Bool)(i:Nat):Bool :=
 Region.noSelect ops&&Region.free md ops l i&&(Region.ready md ops l).contains i&&Region.Cm md ops l&&Region.lastB md ops l ds i&&(l.setIfInBounds i true==l')
theorem vI {i:Nat}{N:Option Tmp}{oi:Oper}{v:Value}{fuel:Nat}{l:Array Bool}{a:Act}{w:World}(l':Array Bool)(hi:ops[i]?=some oi)(hN:oi.dst=N)(hc:takeB md ops ds l l' i=true)
 (hQ:∀c a w,Q (.panic c) (a.put oi.dst v) w→Q (.panic c) a w) (hy:YieldsIf P ops S oi v a) (hS:S w) {a':Act} (ha:a.put N v=a')
 (h:dA P md ops Q S ds fuel l' a' w):dA P md ops Q S ds (fuel+1) l a w:=by
 subst ha;subst hN;simp only[takeB,Bool.and_eq_true,beq_iff_eq]at hc;obtain⟨⟨⟨⟨⟨h1,h2⟩,h3⟩,h4⟩,h5⟩,h6⟩:=hc;subst h6;exact xI hi h1 h2 h3 h4 h5 hQ hy hS h
def PN (md:Region.Mode)(ops:Array Oper)(l l':Array Bool)(i:Nat):Bool:=(Region.ready md ops l==[i])&&(l.setIfInBounds i true==l')
theorem one_ {i:Nat}{N:Option Tmp}{oi:Oper}{fuel:Nat}{l:Array Bool}{a:Act}{w:World}(l':Array Bool)(hi:ops[i]?=some oi)(hN:oi.dst=N)(hc:PN md ops l l' i=true)(hd:i ∉ ds)
 (h:∀K:Act→World→Prop,Shut (∀a' w',S w'→(S w'→dA P md ops Q S ds fuel l' a' w')→K a' w')→if Region.wanted oi (yielded ops a.tmps)=true then Oper.wp P oi a w K Q else K (a.put N undef) w) :
 dA P md ops Q S ds (fuel+1) l a w:=by
 subst hN;simp only[PN,Bool.and_eq_true,beq_iff_eq]at hc;obtain⟨h1,h2⟩:=hc;subst h2;exact kZ h1 (by simp) (fF.cons hi hd (fun K hK=>h K hK) fF.nil)
theorem two_ {i j:Nat}{Ni Nj:Option Tmp}{oi oj:Oper}{fuel:Nat}{l:Array Bool}{a:Act}{w:World}(li lj:Array Bool)(hi:ops[i]?=some oi)(hj:ops[j]?=some oj)(hNi:oi.dst=Ni)(YG:oj.dst=Nj)
 (hc:(Region.ready md ops l==[i,j]&&l.setIfInBounds i true==li&&l.setIfInBounds j true==lj)=true) (hdi:i ∉ ds) (hdj:j ∉ ds)
 (h1:∀K:Act→World→Prop,Shut (∀a' w',S w'→(S w'→dA P md ops Q S ds fuel li a' w')→K a' w')→if Region.wanted oi (yielded ops a.tmps)=true then Oper.wp P oi a w K Q else K (a.put Ni undef) w)
 (h2:∀K:Act→World→Prop,Shut (∀a' w',S w'→(S w'→dA P md ops Q S ds fuel lj a' w')→K a' w')→if Region.wanted oj (yielded ops a.tmps)=true then Oper.wp P oj a w K Q else K (a.put Nj undef) w) :
 dA P md ops Q S ds (fuel+1) l a w:=by
 subst hNi;subst YG;simp only[Bool.and_eq_true,beq_iff_eq]at hc;obtain⟨⟨h3,h4⟩,h5⟩:=hc;subst h4;subst h5;exact kZ h3 (by simp) (fF.cons hi hdi (fun K hK=>h1 K hK) (fF.cons hj hdj (fun K hK=>h2 K hK) fF.nil))
theorem YH {i j k:Nat}{Ni Nj Nk:Option Tmp}{oi oj ok:Oper}{fuel:Nat}{l:Array Bool}{a:Act}{w:World}(li lj lk:Array Bool)(hi:ops[i]?=some oi)(hj:ops[j]?=some oj)(hk:ops[k]?=some ok)(hNi:oi.dst=Ni)(YG:oj.dst=Nj)(hNk:ok.dst=Nk)
 (hc:(Region.ready md ops l==[i,j,k]&&l.setIfInBounds i true==li&&l.setIfInBounds j true==lj&&l.setIfInBounds k true==lk)=true) (hdi:i ∉ ds) (hdj:j ∉ ds) (hdk:k ∉ ds)
 (h1:∀K:Act→World→Prop,Shut (∀a' w',S w'→(S w'→dA P md ops Q S ds fuel li a' w')→K a' w')→if Region.wanted oi (yielded ops a.tmps)=true then Oper.wp P oi a w K Q else K (a.put Ni undef) w)
 (h2:∀K:Act→World→Prop,Shut (∀a' w',S w'→(S w'→dA P md ops Q S ds fuel lj a' w')→K a' w')→if Region.wanted oj (yielded ops a.tmps)=true then Oper.wp P oj a w K Q else K (a.put Nj undef) w)
 (h3:∀K:Act→World→Prop,Shut (∀a' w',S w'→(S w'→dA P md ops Q S ds fuel lk a' w')→K a' w')→if Region.wanted ok (yielded ops a.tmps)=true then Oper.wp P ok a w K Q else K (a.put Nk undef) w) :
 dA P md ops Q S ds (fuel+1) l a w:=by
 subst hNi;subst YG;subst hNk;simp only[Bool.and_eq_true,beq_iff_eq]at hc;obtain⟨⟨⟨h4,h5⟩,h6⟩,h7⟩:=hc;subst h5;subst h6;subst h7;exact kZ h4 (by simp) (fF.cons hi hdi (fun K hK=>h1 K hK) (fF.cons hj hdj (fun K hK=>h2 K hK) (fF.cons hk hdk (fun K hK=>h3 K hK) fF.nil)))
def IB:Act→List (Tmp×Value)→Act
 |a,[]=>a
 |a,(n,v)::r=>IB (a.put (some n) v) r
theorem ZN {σ:Type}{fuel:Nat}{l:Array Bool}{a:Act}{w:World}(fuel':Nat)(l':Array Bool)(ns:σ→List (Tmp×Value))(F:σ→World→Prop)
 (hcont:∀s w',F s w'→dA P md ops Q S ds fuel' l' (IB a (ns s)) w')
 (h:(∀s w',F s w'→dA P md ops Q S ds fuel' l' (IB a (ns s)) w')→dA P md ops Q S ds fuel l a w):dA P md ops Q S ds fuel l a w:=h hcont
theorem eu (n:Int):IntKind.i64.wrap n=Go.RowKit.wrap64 n:=by unfold Go.RowKit.wrap64;exact IntKind.wrap_i64 n
end
end
section
open Go.RowKit
namespace Kd
def tag {α:Type}(f:Nat→Nat)(d:Kd α):Kd (α×Nat) where
 sz:=d.sz
 E:=d.E
 K:=fun w x cs=>d.K w x.1 cs
 M:=fun w base ok x cs=>d.M w base (fun k=>ok k∧f k=x.2) x.1 cs
 nJ:=fun h=>d.nJ h
 mG:=fun h=>d.mG h
 iM:=fun hb h=>d.iM hb h
 jE:=fun h=>d.jE h
 gU:=fun hok h=>d.gU (fun k hk=>⟨hok k hk.1,hk.2⟩) h
 iO:=fun h=>d.gU (fun _ hk=>⟨⟨hk.1.1,hk.2⟩,hk.1.2⟩) (d.iO h)
 jf:=fun hm h=>d.jf (fun k hk=>hm k hk.1) h
 iP:=fun hb h=>d.iP hb h
def raw (sz:Nat):Kd (List Value) where
 sz:=sz
 E:=[]
 K:=fun _ x cs=>cs=x∧cs.length=sz∧∀u∈cs,u.oneCell'=true
 M:=fun _ _ _ x cs=>cs=x∧cs.length=sz∧∀u∈cs,u.oneCell'=true
 nJ:=fun h=>h.2.1
 mG:=fun h=>h.2.2
 iM:=fun _ h=>h
 jE:=fun h=>h
 gU:=fun _ h=>h
 iO:=fun h=>h
 jf:=fun _ h=>h
 iP:=fun _ h=>h
def S {α:Type}(d:Kd α)(e:Nat)(w:World)(base:Nat)(ok:Nat→Prop)(v:Value)(xs:List α):Prop:=∃f,(tag f d).R e w base ok v xs.zipIdx
section
variable {α β:Type}{d:Kd α}{d':Kd β}{e e':Nat}{w w1 W:World}{base b:Nat}{ok ok' ZO ZP:Nat→Prop}{u v:Value}{xs:List α}{ys:List β}
end
section
variable {α β:Type}{d:Kd α}{d':Kd β}{e e' g:Nat}{w w1 W:World}{base b:Nat}{ok ok' ZO ZP:Nat→Prop}{u v:Value}{xs:List α}{ys:List β}
end
section
variable {P:Program}{ops:Array Oper}{rest:List Oper}{o:Oper}{a:Act}{Q:Exit→Act→World→Prop}{Kc:Act→World→Prop}{α:Type}
end
def gap {α:Type}(f:Nat→Nat)(d:Kd α)(i:Nat)(c:List Value):Kd (α×Nat) where
 sz:=d.sz
 E:=d.E
 K:=fun w x cs=>(x.2=i→cs=c∧cs.length=d.sz∧∀u∈cs,u.oneCell'=true)∧(x.2≠i→d.K w x.1 cs)
 M:=fun w base ok x cs=>(x.2=i→cs=c∧cs.length=d.sz∧∀u∈cs,u.oneCell'=true)∧(x.2≠i→d.M w base (fun k=>ok k∧f k=x.2) x.1 cs)
 nJ:=fun {w x cs} h=>by
  by_cases hx:x.2=i
  ·exact(h.1 hx).2.1
  ·exact d.nJ (h.2 hx)
 mG:=fun {w x cs} h=>by
  by_cases hx:x.2=i
  ·exact(h.1 hx).2.2
  ·exact d.mG (h.2 hx)
 iM:=fun hb h=>⟨h.1,fun hx=>d.iM hb (h.2 hx)⟩
 jE:=fun h=>⟨h.1,fun hx=>d.jE (h.2 hx)⟩
 gU:=fun hok h=>⟨h.1,fun hx=>d.gU (fun k hk=>⟨hok k hk.1,hk.2⟩) (h.2 hx)⟩
 iO:=fun h=>⟨h.1,fun hx=>d.gU (fun _ hk=>⟨⟨hk.1.1,hk.2⟩,hk.1.2⟩) (d.iO (h.2 hx))⟩
 jf:=fun hm h=>⟨h.1,fun hx=>d.jf (fun k hk=>hm k hk.1) (h.2 hx)⟩
 iP:=fun hb h=>⟨h.1,fun hx=>d.iP hb (h.2 hx)⟩
def H {α:Type}(d:Kd α)(e:Nat)(w:World)(base:Nat)(ok:Nat→Prop)(v:Value)(xs:List α)(i:Int)(Xf:Nat→Prop)(c:List Value):Prop :=
 (∀k,Xf k→ok k)∧∃f,(gap f d i.toNat c).R e w base (fun k=>ok k∧¬Xf k) v xs.zipIdx
section
variable {α β:Type}{d:Kd α}{e e' g n cap:Nat}{w w1 W:World}{base:Nat}{ok ok' Xf U1:Nat→Prop}{u v:Value}{xs:List α}{i:Int}{c:List Value}
end
section
variable {P:Program}{ops:Array Oper}{rest:List Oper}{o:Oper}{a:Act}{Q:Exit→Act→World→Prop}{α:Type}
end
end Kd
end
section
open Go.RowKit
namespace Kd
theorem PY {α:Type}{R:α→List Value→Prop}{size:Nat}{ps:List α}{cs:List Value}(h:qU R size ps cs)(hs0:0<size)(hR:∀p c,R p c→∀u∈c,u.oneCell'=true):∀u∈cs,u.oneCell'=true:=by
 intro u hu;obtain⟨q,hq,rfl⟩:=List.mem_iff_getElem.1 hu;have hql:q/size<ps.length:=by
  rw[Nat.div_lt_iff_lt_mul hs0,←h.1];exact hq
 refine hR _ _ (h.2 (q/size) _ (List.getElem?_eq_getElem hql)) _ ?_;rw[List.mem_iff_getElem?];refine⟨q%size,?_⟩;rw[List.getElem?_take,if_pos (Nat.mod_lt _ hs0),List.getElem?_drop,Nat.mul_comm,Nat.div_add_mod,List.getElem?_eq_getElem hq]
def arr {α:Type}(n:Nat)(d:Kd α)(hs:0<d.sz):Kd (List α) where
 sz:=n*d.sz
 E:=d.E
 K:=fun w xs cs=>xs.length=n∧qU (d.K w) d.sz xs cs
 M:=fun w base ok xs cs=>xs.length=n∧qU (d.M w base ok) d.sz xs cs
 nJ:=fun h=>by rw[←h.1];exact h.2.1
 mG:=fun h=>PY h.2 hs (fun _ _ hk=>d.mG hk)
 iM:=fun hb h=>⟨h.1,h.2.rG (fun _ _ hk=>d.iM hb hk)⟩
 jE:=fun h=>⟨h.1,h.2.rG (fun _ _ hk=>d.jE hk)⟩
 gU:=fun hok h=>⟨h.1,h.2.rG (fun _ _ hk=>d.gU hok hk)⟩
 iO:=fun h=>⟨h.1,h.2.rG (fun _ _ hk=>d.iO hk)⟩
 jf:=fun hm h=>⟨h.1,h.2.rG (fun _ _ hk=>d.jf hm hk)⟩
 iP:=fun hb h=>⟨h.1,h.2.rG (fun _ _ hk=>d.iP hb hk)⟩
section
variable {α:Type}{n:Nat}{d:Kd α}{hs:0<d.sz}{w:World}{base:Nat}{ok:Nat→Prop}{xs:List α}{cs:List Value}
end
section
variable {α:Type}{n:Nat}{enc:α→Value}{h1:∀x,(enc x).oneCell'=true}{hs:0<(scalar enc h1).sz}{w:World}{base:Nat}{ok:Nat→Prop}{xs:List α}{cs:List Value}
end
end Kd
end
section
open Go.RowKit
namespace Kd
structure Heap {α:Type}(d:Kd α):Prop where
 K:∀ {w w1:World} {x:α} {cs:List Value},(∀k,k<w.heap.size→w1.heap[k]?=w.heap[k]?)→d.K w x cs→d.K w1 x cs
theorem NR {w w1:World}(hb:∀k,k<w.heap.size→w1.heap[k]?=w.heap[k]?){a:Addr}{v:Value}(h:w.cell? a=some v):w1.cell? a=some v:=by
 have:=hb a.block (World.block_lt_of_cell? w a h);simpa[World.cell?,this]using h
theorem Heap.C {α:Type}{d:Kd α}(hd:Heap d){w w1:World}{A:Option Addr}{n:Nat}{xs:List α}(hb:∀k,k<w.heap.size→w1.heap[k]?=w.heap[k]?)(h:d.C w A n xs):d.C w1 A n xs :=
 ⟨h.1,h.2.1,fun hn=>by
  obtain⟨ad,e,hc⟩:=h.2.2 hn;refine⟨ad,e,fun j p hj=>?_⟩;obtain⟨c,hs,hr,hcell⟩:=hc j p hj;exact⟨c,hs,hd.K hb hr,fun i u hu=>NR hb (hcell i u hu)⟩⟩
section
variable {α:Type}{d:Kd α}{e base g n c:Nat}{ok:Nat→Prop}{w w0 W:World}{A:Option Addr}{xs:List α}
end
end Kd
end
section
open Go.RowKit
def Kept (w W:World)(S:Nat→Prop):Prop:=w.heap.size≤W.heap.size∧∀i,i<w.heap.size→¬S i→W.heap[i]?=w.heap[i]?
section
variable {w W W2:World}{S S2 S':Nat→Prop}
theorem Kept.refl (w:World)(S:Nat→Prop):Kept w w S:=⟨Nat.le_refl _,fun _ _ _=>rfl⟩
theorem Kept.of_below (h:Below w.heap.size w W)(S:Nat→Prop):Kept w W S:=⟨h.size,fun i hi _=>h.block i hi⟩
theorem Kept.mono (h:Kept w W S)(hs:∀k,S k→S' k):Kept w W S':=⟨h.1,fun i hi hn=>h.2 i hi (fun hk=>hn (hs i hk))⟩
theorem Kept.then_ (h:Kept w W S)(k:Kept W W2 S2)(hs:∀k,S2 k→S k∨w.heap.size≤k):Kept w W2 S :=
 ⟨Nat.le_trans h.1 k.1,fun i hi hn=>(k.2 i (Nat.lt_of_lt_of_le hi h.1) (fun h2=>(hs i h2).elim hn (fun h3=>by omega))).trans (h.2 i hi hn)⟩
theorem Kept.jS {row:Option Nat}(hg:W.grownBy W2 row)(h:Kept w W S)(hr:∀k,row=some k→S k∨w.heap.size≤k):Kept w W2 S :=
 h.then_ (S2:=fun k=>row=some k) ⟨hg.size,fun i hi hn=>hg.block i hi (fun he=>hn he.symm)⟩ hr
theorem Kept.below (h:Kept w W S)(hb:Below W.heap.size W W2):Kept w W2 S:=h.then_ (Kept.of_below hb (fun _=>False)) (fun _ hk=>hk.elim)
theorem Kept.alloc (h:Kept w W S)(o:Obj):Kept w (W.alloc o) S:=h.below (au (Below.refl _ _) o)
theorem Kept.drew (h:Kept w W S):Kept w W.drew S:=h
theorem Kept.drewN (h:Kept w W S)(m:Nat):Kept w (W.drewN m) S:=h
theorem Kept.setCell (h:Kept w W S){p:Addr}(hp:S p.block∨w.heap.size≤p.block)(u:Value):Kept w (W.setCell p u) S :=
 h.then_ (S2:=fun k=>k=p.block) ⟨by simp[World.setCell],fun i _ hn=>Below.heap_setCell W p u i hn⟩ (fun k hk=>by rw[hk];exact hp)
theorem Kept.keep {g:Nat}(h:fO w W g none)(k:Kept W W2 S2)(hs:∀k,S2 k→w.heap.size≤k):fO w W2 g none :=
 ⟨Nat.le_trans h.1 k.1,fun i hi hg hr=>(k.2 i (Nat.lt_of_lt_of_le hi h.1) (fun h2=>by have:=hs i h2;omega)).trans (h.2 i hi hg hr)⟩
end
namespace Kd
section
variable {α:Type}{d:Kd α}{e base n c:Nat}{ok Xf S S2:Nat→Prop}{w w0 W W1 W2:World}{v:Value}{A:Option Addr}{xs:List α}{i:Int}{cs:List Value}
end
end Kd
end
section
open Go.RowKit
def rJ (P:World→Prop)(W:World)(ok:Nat→Prop):Prop:=∀W':World,(∀k,ok k→k<W.heap.size→W'.heap[k]?=W.heap[k]?)→P W'
theorem Tq {W W1:World}{k:Nat}(h:W1.heap[k]?=W.heap[k]?)(hlt:k<W.heap.size):k<W1.heap.size:=by
 rw[Array.getElem?_eq_getElem hlt]at h;exact(Array.getElem?_eq_some_iff.1 h).1
namespace rJ
variable {P Q:World→Prop}{W W1:World}{ok ok':Nat→Prop}
theorem now (h:rJ P W ok):P W:=h W (fun _ _ _=>rfl)
theorem mono (h:rJ P W ok)(hok:∀k,ok k→ok' k):rJ P W ok':=fun W' hW=>h W' (fun k hk hlt=>hW k (hok k hk) hlt)
theorem bound (h:rJ P W ok):rJ P W (fun k=>ok k∧k<W.heap.size):=fun W' hW=>h W' (fun k hk hlt=>hW k ⟨hk,hlt⟩ hlt)
theorem step (h:rJ P W ok)(hm:∀k,ok k→k<W.heap.size→W1.heap[k]?=W.heap[k]?):rJ P W1 ok:=fun W' hW=>h W' (fun k hk hlt=>(hW k hk (Tq (hm k hk hlt) hlt)).trans (hm k hk hlt))
theorem imp (h:rJ P W ok)(hi:∀W',P W'→Q W'):rJ Q W ok:=fun W' hW=>hi W' (h W' hW)
theorem old (h:rJ P W ok)(hb:Below W.heap.size W W1):rJ P W1 (fun k=>ok k∧k<W.heap.size):=(h.bound).step (fun k _ hlt=>hb.block k hlt)
end rJ
namespace Kd
def F {α:Type}(d:Kd α)(W:World)(ok:Nat→Prop)(A:Option Addr)(n:Nat)(xs:List α):Prop:=rJ (fun W=>d.C W A n xs) W ok
def FK {α:Type}(d:Kd α)(W:World)(ok:Nat→Prop)(x:α)(c:List Value):Prop:=rJ (fun W=>d.K W x c) W ok
section
variable {α β:Type}{d:Kd α}{e base n n' cc g N:Nat}{ok ok' U1 S:Nat→Prop}{w w0 w1 W W1:World}{A A':Option Addr}{u v v1:Value}{xs:List α}{xs':List β}{d':Kd β}{x:α}{c:List Value}
end
end Kd
end
section
open Go.RowKit
namespace Kd
section
variable {α:Type}{d:Kd α}{e base n cc g:Nat}{ok ok' U1 S:Nat→Prop}{w w1 W W1:World}{A:Option Addr}{u v v1:Value}{xs:List α}{x:α}{c:List Value}
def N {α:Type}(d:Kd α)(e:Nat)(w:World)(base:Nat)(ok:Nat→Prop)(v:Value)(xs:List α):Prop :=
 (∀k,v.ownBlock=some k→ok k)∧∃rows:List (List Value),rows.length=xs.length∧(raw d.sz).R e w base (fun k=>some k=v.ownBlock) v rows∧∀(j:Nat) (x:α) (c:List Value),xs[j]?=some x→rows[j]?=some c→FK d w (fun k=>ok k∧some k≠v.ownBlock) x c
end
end Kd
end
section
open Go.RowKit
namespace Kd
section
variable {α:Type}{d:Kd α}{e base g o n cap:Nat}{ok U1:Nat→Prop}{w W:World}{v:Value}{xs:List α}
theorem YK (h:d.Q e w base ok v xs)(hp:0<xs.length):∃g o cap,v=.slice (some ⟨g,o,none⟩) xs.length cap∧base≤g∧g<w.heap.size∧∃cells,w.heap[g]?=some (.cells cells e (0,0)):=by
 obtain⟨h0,inner,hq,hr⟩:=h;rcases hq.2 with⟨h1,_⟩|⟨g,off,cap,cur,rfl,hb,hh,r⟩
 ·omega
 ·exact⟨g,off*d.sz,cap,rfl,hb,PO hh,cur,hh⟩
theorem PZ (h:d.Q e W base ok (.slice (some ⟨g,o,none⟩) n cap) xs)(z:α)(i:Int)(h0:0≤i)(h1:i<n) :
 ∃c,c.length=d.sz∧d.M W base (fun k=>ok k∧k≠g) (xs.getD i.toNat z) c∧(∀j u,c[j]?=some u→W.cell? ⟨g,o+i.toNat*d.sz+j,none⟩=some u)∧∀j,W.frozen? ⟨g,o+i.toNat*d.sz+j,none⟩=false:=by
 obtain⟨hn,hnc,hC⟩:=xO h;obtain⟨_,inner,ho,hr⟩:=h;have hil:i.toNat<xs.length:=by omega
 have hseg:i.toNat*d.sz+d.sz≤inner.length:=by rw[hr.1,←Nat.succ_mul];exact Nat.mul_le_mul_right _ hil
 have hM:=hr.2 i.toNat _ (List.getElem?_eq_getElem hil);refine⟨(inner.drop (i.toNat*d.sz)).take d.sz,by rw[List.length_take,List.length_drop];omega,?_,fun j u hu=>?_,fun j=>?_⟩
 ·rw[List.getD_eq_getElem?_getD,List.getElem?_eq_getElem hil];exact d.gU (fun k hk=>⟨hk.1,fun he=>hk.2 (by rw[he];simp[Value.ownBlock])⟩) hM
 ·rw[List.getElem?_take]at hu;split at hu
  ·rw[List.getElem?_drop]at hu;subst hn;obtain⟨ad,he,hc⟩:=LZ ho (by omega);injection he with he;subst he;have:=hc _ u hu;rwa [PW,←Nat.add_assoc]at this
  ·cases hu
 ·obtain⟨_,cells,hc⟩:=Tj ho g (by simp[Value.ownBlock]);exact aI hc _
theorem Xg (h:d.Q e W base ok (.slice (some ⟨g,o,none⟩) n cap) xs)(i:Int)(h0:0≤i)(h1:i<n){c seg:List Value}{j:Nat}(hcl:c.length=d.sz)(hcc:∀j u,c[j]?=some u→W.cell? ⟨g,o+i.toNat*d.sz+j,none⟩=some u)
 (hj:j+seg.length≤d.sz) {x':α} (hM:d.M W base U1 x' (c.take j++seg++c.drop (j+seg.length))) (Vq:∀k,U1 k→ok k∧k≠g) :
 d.Q e (W.setCells g (o+i.toNat*d.sz+j) seg) base ok (.slice (some ⟨g,o,none⟩) n cap) (xs.set i.toNat x')∧W.grownBy (W.setCells g (o+i.toNat*d.sz+j) seg) (some g):=by
 obtain⟨hn,hnc,_⟩:=xO h;obtain⟨hok,inner,ho,hr⟩:=h;have hil:i.toNat<xs.length:=by omega
 have hseg:i.toNat*d.sz+d.sz≤inner.length:=by rw[hr.1,←Nat.succ_mul];exact Nat.mul_le_mul_right _ hil
 have hin:inner.length=n*d.sz:=by rw[hr.1,hn]
 obtain⟨ho1,ho2⟩:=ho;rcases ho2 with⟨hz,_⟩|⟨g',off,cap',cur,hv,hb,hh,hnc',hcm,hcs,ht⟩
 ·omega
 injection hv with ha _ hc;injection ha with ha;injection ha with hg hoff;subst hg;subst hc;subst hoff;have hcap:n*d.sz≤cap*d.sz:=Nat.mul_le_mul_right _ hnc;have hcs':cur.size=off*d.sz+cap*d.sz:=by rw[hcs,Nat.add_mul]
 have hfit:off*d.sz+i.toNat*d.sz+j+seg.length≤cur.size:=by omega
 obtain⟨cur',h3,h4,h5⟩:=sD seg (off*d.sz+i.toNat*d.sz+j) W cur hh hfit;obtain⟨s1,s2,s3,s4⟩:=iy g seg (off*d.sz+i.toNat*d.sz+j) W;have Vr:∀k,k≠g→(W.setCells g (off*d.sz+i.toNat*d.sz+j) seg).heap[k]?=W.heap[k]?:=fun k hk=>su seg _ k hk;rw[←hn]at ht;have hat:∀q,q<n*d.sz→cur.toList[off*d.sz+q]?=inner[q]?:=by
  intro q hq;rw[←ht,List.getElem?_take,if_pos hq,List.getElem?_drop]
 have hcin:∀q,q<d.sz→c[q]?=inner[i.toNat*d.sz+q]?:=by
  intro q hq;have hq':q<c.length:=by omega
  have h6:=hcc q _ (List.getElem?_eq_getElem hq');rw[cell_of_row W g _ cur e (0,0) hh]at h6;rw[List.getElem?_eq_getElem hq',←h6,←hat _ (by omega),Array.getElem?_toList,Nat.add_assoc]
 refine⟨⟨hok,inner.take (i.toNat*d.sz+j)++seg++inner.drop (i.toNat*d.sz+j+seg.length),⟨?_,.inr ⟨g,off,cap,cur',by rw[List.length_set,hn],hb,h3,by rw[List.length_set,←hn];exact hnc,hcm,by rw[h4,hcs],?_⟩⟩,?_⟩,
  ⟨s1,s2,s3,by rw[s4];exact Nat.le_refl _,fun k _ hk=>Vr k (fun he=>hk (by rw[he]))⟩⟩
 ·rw[List.length_set];simp only[List.length_append,List.length_take,List.length_drop];rw[hr.1]at hseg ⊢;omega
 ·rw[List.length_set,←hn];apply List.ext_getElem?;intro q;rw[List.getElem?_take,List.getElem?_drop,h5];rw[sF cur.toList seg (off*d.sz+i.toNat*d.sz+j) (by rw[Array.length_toList];omega) (off*d.sz+q),sF inner seg (i.toNat*d.sz+j) (by omega) q];by_cases hq:q<n*d.sz
  ·rw[if_pos hq];by_cases hq1:q<i.toNat*d.sz+j
   ·rw[if_pos (by omega),if_pos hq1,hat q hq]
   ·rw[if_neg (by omega),if_neg hq1];by_cases hq2:q<i.toNat*d.sz+j+seg.length
    ·rw[if_pos (by omega),if_pos hq2];congr 1
     omega
    ·rw[if_neg (by omega),if_neg hq2,hat q hq]
  ·rw[if_neg hq,if_neg (by omega),if_neg (by omega),List.getElem?_eq_none (by omega)]
 ·refine⟨?_,fun m p hm=>?_⟩
  ·rw[List.length_set];simp only[List.length_append,List.length_take,List.length_drop];rw[hr.1]at hseg ⊢;omega
  ·have hml:m<xs.length:=by
    have:=(List.getElem?_eq_some_iff.1 hm).1;rwa [List.length_set]at this
   have ZQ:m*d.sz+d.sz≤inner.length:=by rw[hr.1,←Nat.succ_mul];exact Nat.mul_le_mul_right _ hml
   have hgo:some g=(Value.slice (some ⟨g,off*d.sz,none⟩) n cap).ownBlock:=by simp[Value.ownBlock]
   by_cases ZR:m=i.toNat
   ·subst ZR;rw[List.getElem?_set_self (by omega)]at hm;injection hm with hm;subst hm;have hcells:((inner.take (i.toNat*d.sz+j)++seg++inner.drop (i.toNat*d.sz+j+seg.length)).drop (i.toNat*d.sz)).take d.sz=c.take j++seg++c.drop (j+seg.length):=by
     apply List.ext_getElem?;intro q;rw[List.getElem?_take,List.getElem?_drop,sF inner seg _ (by omega),sF c seg j (by omega) q];by_cases hq:q<d.sz
     ·rw[if_pos hq,hcin q hq];by_cases hq1:q<j
      ·rw[if_pos (by omega),if_pos hq1]
      ·rw[if_neg (by omega),if_neg hq1];by_cases hq2:q<j+seg.length
       ·rw[if_pos (by omega),if_pos hq2];congr 1
        omega
       ·rw[if_neg (by omega),if_neg hq2]
     ·rw[if_neg hq,if_neg (by omega),if_neg (by omega),List.getElem?_eq_none (by omega)]
    rw[hcells];refine d.gU (fun k hk=>?_) (d.jf (w1:=W.setCells g (off*d.sz+i.toNat*d.sz+j) seg) (fun k hk=>Vr k (Vq k hk).2) hM);exact⟨(Vq k hk).1,fun he=>(Vq k hk).2 (by rw[←hgo]at he;injection he)⟩
   ·rw[List.getElem?_set_ne (by omega)]at hm;have hold:=hr.2 m p hm;have hcells:((inner.take (i.toNat*d.sz+j)++seg++inner.drop (i.toNat*d.sz+j+seg.length)).drop (m*d.sz)).take d.sz=(inner.drop (m*d.sz)).take d.sz:=by
     apply List.ext_getElem?;intro q;rw[List.getElem?_take,List.getElem?_take,List.getElem?_drop,List.getElem?_drop,sF inner seg _ (by omega)];by_cases hq:q<d.sz
     ·rw[if_pos hq,if_pos hq];rcases Nat.lt_or_gt_of_ne ZR with hlt|hgt
      ·have : m*d.sz+d.sz≤i.toNat*d.sz:=by rw[←Nat.succ_mul];exact Nat.mul_le_mul_right _ hlt
       rw[if_pos (by omega)]
      ·have : i.toNat*d.sz+d.sz≤m*d.sz:=by rw[←Nat.succ_mul];exact Nat.mul_le_mul_right _ hgt
       rw[if_neg (by omega),if_neg (by omega)]
     ·rw[if_neg hq,if_neg hq]
    rw[hcells];refine d.jf (fun k hk=>Vr k (fun he=>hk.2 (by rw[he];exact hgo))) hold
end
section
variable {α:Type}{enc:α→Value}{h1:∀x,(enc x).oneCell'=true}{e base g o n cap:Nat}{ok:Nat→Prop}{W:World}{xs:List α}
theorem YL (d:α)(h:(scalar enc h1).Q e W base ok (.slice (some ⟨g,o,none⟩) n cap) xs)(i:Int)(h0:0≤i)(hi:i<n):W.cell? ⟨g,o+i.toNat,none⟩=some (enc (Xd d xs i))∧W.frozen? ⟨g,o+i.toNat,none⟩=false:=by
 obtain⟨c,_,hM,hcc,hf⟩:=PZ h d i h0 hi;have hM':c=[enc (xs.getD i.toNat d)]:=hM;subst hM';have h2:=hcc 0 _ rfl;have h3:=hf 0;rw[show(scalar enc h1).sz=1 from rfl,Nat.mul_one,Nat.add_zero]at h2 h3;exact⟨h2,h3⟩
theorem YM (h:(scalar enc h1).Q e W base ok (.slice (some ⟨g,o,none⟩) n cap) xs)(i:Int)(h0:0≤i)(hi:i<n)(x:α):(scalar enc h1).Q e (W.setCell ⟨g,o+i.toNat,none⟩ (enc x)) base ok (.slice (some ⟨g,o,none⟩) n cap) (xs.set i.toNat x)∧W.grownBy (W.setCell ⟨g,o+i.toNat,none⟩ (enc x)) (some g):=by
 have hp:0<xs.length:=by have:=(xO h).1;omega
 obtain⟨c,hcl,_,hcc,_⟩:=PZ h (xs[0]'hp) i h0 hi;have h2:=Xg h i h0 hi (c:=c) (seg:=[enc x]) (j:=0) (U1:=fun _=>False) (x':=x) hcl hcc (Nat.le_refl 1) (by
  have hl:c.length=1:=hcl;show c.take 0++[enc x]++c.drop (0+1)=[enc x]
  rw[List.drop_eq_nil_of_le (by omega)];rfl) (fun _ hk=>hk.elim)
 rw[show(scalar enc h1).sz=1 from rfl,Nat.mul_one,Nat.add_zero]at h2;exact h2
end
end Kd
end
section
open Go.RowKit
namespace Kd
open Go.Proofs.YtandhagfhppgaaaGreatDoor.Kd
end Kd
namespace Kd
open Go.Proofs.YtandhagfhppgaaaGreatDoor.Kd
section
variable {α:Type}{d:Kd α}{e base g N:Nat}{ok:Nat→Prop}{W w1:World}{u v:Value}{xs:List α}
end
end Kd
open Go.RowKit
section
variable {P:Program}{ops:Array Oper}{rest:List Oper}{o:Oper}{a:Act}{Q:Exit→Act→World→Prop}{W:World}
end
def mx (a b:Int):Int:=if a<b then b else a
def mn (a b:Int):Int:=if b<a then b else a
def shl (k:IntKind)(x y:Int):Int:=k.wrap (x*2^min y.toNat k.bits)
def shr (k:IntKind)(x y:Int):Int:=x/2^min y.toNat k.bits
namespace Kd
section
variable {α:Type}{d:Kd α}{e base:Nat}{ok:Nat→Prop}{W w1:World}{v:Value}{xs:List α}
end
section
variable {α:Type}{d:Kd α}{e base g n cap:Nat}{ok Xf U1:Nat→Prop}{W:World}{xs:List α}{i:Int}{c:List Value}
end
section
variable {α:Type}{d:Kd α}{e base b b' g N:Nat}{ok ok1:Nat→Prop}{W W2 w1:World}{u v:Value}{xs ys:List α}{S:Nat→Prop}
end
end Kd
open Go.RowKit
namespace Kd
def V {α:Type}(d:Kd α)(_e:Nat)(W:World)(_base:Nat)(ok:Nat→Prop)(v:Value)(xs:List α):Prop:=∃A c,v=.slice A xs.length c∧xs.length≤c∧F d W ok A xs.length xs
section
variable {α β:Type}{d:Kd α}{e base base' n m c g N' lo hi:Nat}{ok ok' S:Nat→Prop}{w W w1:World}{A:Option Addr}{ad:Addr}{u v v1:Value}{xs:List α}
end
end Kd
end
section
open Go.RowKit
theorem qC (w:World)(g k:Nat)(u:Value):w.grownBy (w.setCell ⟨g,k,none⟩ u) (some g):=
 ⟨rfl,rfl,rfl,by simp[World.setCell],fun i _ hne=>Below.heap_setCell w ⟨g,k,none⟩ u i (fun e=>hne (by rw[e]))⟩
structure Touch (S:Nat→Prop)(w w':World):Prop where
 os:w'.os=w.os
 tape:w'.tape=w.tape
 output:w'.output=w.output
 size:w.heap.size≤w'.heap.size
 block:∀k,k<w.heap.size→¬S k→w'.heap[k]?=w.heap[k]?
theorem Touch.refl (S:Nat→Prop)(w:World):Touch S w w:=⟨rfl,rfl,rfl,Nat.le_refl _,fun _ _ _=>rfl⟩
theorem Touch.trans {S:Nat→Prop}{a b c:World}(h:Touch S a b)(k:Touch S b c):Touch S a c :=
 ⟨k.os.trans h.os,k.tape.trans h.tape,k.output.trans h.output,Nat.le_trans h.size k.size,fun i hi hs=>(k.block i (Nat.lt_of_lt_of_le hi h.size) hs).trans (h.block i hi hs)⟩
theorem Touch.mono {S T:Nat→Prop}{w w':World}(h:Touch S w w')(hs:∀k,k<w.heap.size→S k→T k):Touch T w w' :=
 ⟨h.os,h.tape,h.output,h.size,fun k hk hn=>h.block k hk fun hk'=>hn (hs k hk hk')⟩
theorem Touch.jS {w w':World}{row:Option Nat}(h:w.grownBy w' row):Touch (fun k=>some k=row) w w':=⟨h.os,h.tape,h.output,h.size,fun k hk hn=>h.block k hk hn⟩
theorem Touch.below {S:Nat→Prop}{w w':World}(h:Touch S w w')(B:Nat)(hB:B≤w.heap.size)(hS:∀k,S k→B≤k):Below B w w' :=
 ⟨h.os,h.tape,h.output,h.size,fun k hk=>h.block k (by omega) fun hs=>by have:=hS k hs;omega⟩
theorem Touch.of_below {S:Nat→Prop}{w w':World}(h:Below w.heap.size w w'):Touch S w w':=⟨h.os,h.tape,h.output,h.size,fun k hk _=>h.block k hk⟩
structure bV where
 P:World→(Nat→Prop)→Prop
 loc:∀w w1 F,P w F→(∀k,F k→w1.heap[k]?=w.heap[k]?)→P w1 F
def Star:List bV→World→(Nat→Prop)→Prop
 |[],_,_=>True
 |X::l,w,F=>∃G H:Nat→Prop,X.P w G∧Star l w H∧(∀k,G k→H k→False)∧∀k,G k∨H k→F k
theorem Star.loc {w w1:World}:∀(l:List bV) (F:Nat→Prop),Star l w F→(∀k,F k→w1.heap[k]?=w.heap[k]?)→Star l w1 F
 |[],_,_,_=>trivial
 |X::l,F,⟨G,H,h1,h2,h3,h4⟩,hk=>⟨G,H,X.loc _ _ _ h1 fun k hg=>hk k (h4 k (.inl hg)),Star.loc l H h2 fun k hh=>hk k (h4 k (.inr hh)),h3,h4⟩
theorem Star.up {w:World}:∀(l:List bV) (F G:Nat→Prop),Star l w F→(∀k,F k→G k)→Star l w G
 |[],_,_,_,_=>trivial
 |X::l,F,G',⟨G,H,h1,h2,h3,h4⟩,hk=>⟨G,H,h1,h2,h3,fun k h=>hk k (h4 k h)⟩
def nP (l:List bV):bV:=⟨fun w F=>Star l w F,fun _ _ F h hk=>Star.loc l F h hk⟩
theorem Star.at_ {w:World}:∀(l:List bV) (i:Nat) (X:bV) (F:Nat→Prop),Star l w F→l[i]?=some X →
 ∃G H:Nat→Prop,X.P w G∧(∀k,G k→H k→False)∧(∀k,G k∨H k→F k)∧
  ∀(Y:bV) (w1:World) (G1:Nat→Prop),Y.P w1 G1→(∀k,H k→w1.heap[k]?=w.heap[k]?)→(∀k,G1 k→H k→False)→Star (l.set i Y) w1 fun k=>G1 k∨H k
 |[],i,X,F,_,hi=>by simp at hi
 |Z::l,0,X,F,⟨G,H,h1,h2,h3,h4⟩,hi=>by
  simp at hi;subst hi;exact⟨G,H,h1,h3,h4,fun Y w1 G1 hy hk hd=>⟨G1,H,hy,Star.loc l H h2 hk,hd,fun k h=>h⟩⟩
 |Z::l,i+1,X,F,⟨G,H,h1,h2,h3,h4⟩,hi=>by
  obtain⟨G',H',k1,k2,k3,k4⟩:=Star.at_ l i X H h2 (by simpa using hi);refine⟨G',fun k=>G k∨H' k,k1,fun k hg hh=>?_,fun k hk=>?_,fun Y w1 G1 hy hk hd=>?_⟩
  ·rcases hh with hh|hh
   ·exact h3 k hh (k3 k (.inl hg))
   ·exact k2 k hg hh
  ·rcases hk with hk|hk|hk
   ·exact h4 k (.inr (k3 k (.inl hk)))
   ·exact h4 k (.inl hk)
   ·exact h4 k (.inr (k3 k (.inr hk)))
  ·refine⟨G,fun k=>G1 k∨H' k,Z.loc _ _ _ h1 fun k hg=>hk k (.inl hg),k4 Y w1 G1 hy (fun k hh=>hk k (.inr hh)) fun k hg hh=>hd k hg (.inr hh),fun k hg hh=>?_,fun k h=>?_⟩
   ·rcases hh with hh|hh
    ·exact hd k hh (.inl hg)
    ·exact h3 k hg (k3 k (.inr hh))
   ·rcases h with h|h|h
    ·exact .inr (.inl h)
    ·exact .inl h
    ·exact .inr (.inr h)
def Goes (F:Nat→Prop)(Y:bV)(w w1:World):Prop :=
 ∃F1:Nat→Prop,Y.P w1 F1∧Touch F w w1∧∀k,F1 k→(F k∨w.heap.size≤k)∧k<w1.heap.size
def Has (w0 w:World)(l:List bV):Prop :=
 (∃F:Nat→Prop,Star l w F∧∀k,F k→w0.heap.size≤k∧k<w.heap.size)∧Below w0.heap.size w0 w
section
variable {w0 w w1:World}{l:List bV}
theorem Has.start (w:World):Has w w []:=⟨⟨fun _=>False,trivial,fun _ h=>h.elim⟩,Below.refl _ _⟩
theorem Has.old (h:Has w0 w l):Below w0.heap.size w0 w:=h.2
theorem Has.size (h:Has w0 w l):w0.heap.size≤w.heap.size:=h.2.size
theorem Has.below (h:Has w0 w l)(hb:Below w.heap.size w w1):Has w0 w1 l:=by
 obtain⟨⟨F,h1,h2⟩,h3⟩:=h;exact⟨⟨F,Star.loc l F h1 fun k hk=>hb.block k (h2 k hk).2,fun k hk=>⟨(h2 k hk).1,Nat.lt_of_lt_of_le (h2 k hk).2 hb.size⟩⟩,ay h3 h3.size hb⟩
theorem Has.alloc (h:Has w0 w l)(o:Obj):Has w0 (w.alloc o) l:=h.below (au (Below.refl _ _) o)
theorem Has.drewN (h:Has w0 w l)(n:Nat):Has w0 (w.drewN n) l:=h.below (aC (Below.refl _ _) n)
theorem Has.drew (h:Has w0 w l):Has w0 w.drew l:=h.drewN 1
theorem Has.get (h:Has w0 w l)(i:Nat)(X:bV)(hi:l[i]?=some X):∃F:Nat→Prop,X.P w F∧(∀k,F k→w0.heap.size≤k∧k<w.heap.size)∧
 ∀(Y:bV) (w1:World),Goes F Y w w1→Has w0 w1 (l.set i Y):=by
 obtain⟨⟨F,h1,h2⟩,h3⟩:=h;obtain⟨G,H,k1,k2,k3,k4⟩:=Star.at_ l i X F h1 hi;refine⟨G,k1,fun k hk=>h2 k (k3 k (.inl hk)),fun Y w1 ⟨G1,hy,ht,hg⟩=>⟨⟨fun k=>G1 k∨H k,k4 Y w1 G1 hy (fun k hk=>ht.block k (h2 k (k3 k (.inr hk))).2 fun hg'=>k2 k hg' hk) fun k hg' hh=>?_,fun k hk=>?_⟩,?_⟩⟩
 ·rcases(hg k hg').1 with h|h
  ·exact k2 k h hh
  ·have:=(h2 k (k3 k (.inr hh))).2;omega
 ·rcases hk with hk|hk
  ·have hlt:=(hg k hk).2;rcases(hg k hk).1 with h|h
   ·exact⟨(h2 k (k3 k (.inl h))).1,hlt⟩
   ·have:=h3.size;exact⟨by omega,hlt⟩
  ·exact⟨(h2 k (k3 k (.inr hk))).1,Nat.lt_of_lt_of_le (h2 k (k3 k (.inr hk))).2 ht.size⟩
 ·exact h3.trans (ht.below _ h3.size fun k hk=>(h2 k (k3 k (.inl hk))).1)
theorem Has.imp (h:Has w0 w l)(i:Nat)(X Y:bV)(hi:l[i]?=some X)(hxy:∀F,X.P w F→Y.P w F):Has w0 w (l.set i Y):=by
 obtain⟨F,h1,h2,h3⟩:=h.get i X hi;exact h3 Y w ⟨F,hxy F h1,Touch.refl _ _,fun k hk=>⟨.inl hk,(h2 k hk).2⟩⟩
theorem Star.add {w:World}{Y:bV}{G:Nat→Prop}(hy:Y.P w G):∀(l:List bV) (F:Nat→Prop),Star l w F→(∀k,G k→F k→False)→Star (l++[Y]) w fun k=>F k∨G k
 |[],F,_,hd=>⟨G,fun _=>False,hy,trivial,fun _ _ h=>h,fun k h=>.inr (h.resolve_right id)⟩
 |X::l,F,⟨G',H,h1,h2,h3,h4⟩,hd=>by
  refine⟨G',fun k=>H k∨G k,h1,Star.add hy l H h2 fun k hg hh=>hd k hg (h4 k (.inr hh)),fun k hg hh=>?_,fun k h=>?_⟩
  ·rcases hh with hh|hh
   ·exact h3 k hg hh
   ·exact hd k hh (h4 k (.inl hg))
  ·rcases h with h|h|h
   ·exact .inl (h4 k (.inl h))
   ·exact .inl (h4 k (.inr h))
   ·exact .inr h
theorem Has.add (h:Has w0 w l)(hb:Below w.heap.size w w1)(Y:bV)(G:Nat→Prop)(hy:Y.P w1 G)(hg:∀k,G k→w.heap.size≤k∧k<w1.heap.size):Has w0 w1 (l++[Y]):=by
 have hs:=h.size;obtain⟨⟨F,h1,h2⟩,h3⟩:=h;refine⟨⟨fun k=>F k∨G k,Star.add hy l F (Star.loc l F h1 fun k hk=>hb.block k (h2 k hk).2) fun k hgk hf=>?_,fun k hk=>?_⟩,ay h3 h3.size hb⟩
 ·have h5:=(hg k hgk).1;have h6:=(h2 k hf).2;omega
 ·rcases hk with hk|hk
  ·exact⟨(h2 k hk).1,Nat.lt_of_lt_of_le (h2 k hk).2 hb.size⟩
  ·have:=hg k hk;exact⟨by omega,this.2⟩
theorem Star.drop {w:World}:∀(i:Nat) (l:List bV) (F:Nat→Prop),Star l w F→Star (l.eraseIdx i) w F
 |_,[],_,_=>trivial
 |0,X::l,F,⟨G,H,h1,h2,h3,h4⟩=>Star.up l H F h2 fun k hk=>h4 k (.inr hk)
 |i+1,X::l,F,⟨G,H,h1,h2,h3,h4⟩=>⟨G,H,h1,Star.drop i l H h2,h3,h4⟩
theorem Has.drop (h:Has w0 w l)(i:Nat):Has w0 w (l.eraseIdx i):=by
 obtain⟨⟨F,h1,h2⟩,h3⟩:=h;exact⟨⟨F,Star.drop i l F h1,h2⟩,h3⟩
end
def aF (b:Nat)(o:Obj):bV:=⟨fun w F=>w.heap[b]?=some o∧F b,fun _ _ _ h hk=>⟨(hk b h.2).trans h.1,h.2⟩⟩
section
variable {w0 w w1:World}{l:List bV}
theorem Has.bg (h:Has w0 w l)(o:Obj):Has w0 (w.alloc o) (l++[aF w.heap.size o]):=
 h.add (au (Below.refl _ _) o) _ (fun k=>k=w.heap.size) ⟨LY w o,rfl⟩ fun k e=>by subst e;exact⟨Nat.le_refl _,by simp⟩
theorem Has.blk (h:Has w0 w l)(i:Nat){b:Nat}{o:Obj}(hi:l[i]?=some (aF b o)):w.heap[b]?=some o:=by
 obtain⟨F,h1,_⟩:=h.get i _ hi;exact h1.1
theorem Has.put (h:Has w0 w l)(i:Nat){b:Nat}{cs:Array Value}{T:TypeId}(hi:l[i]?=some (aF b (.cells cs T (0,0))))(k:Nat)(u:Value)(cs':Array Value)(hc:cs.setIfInBounds k u=cs') :
 Has w0 (w.setCell ⟨b,k,none⟩ u) (l.set i (aF b (.cells cs' T (0,0)))):=by
 obtain⟨F,h1,h2,h3⟩:=h.get i _ hi;refine h3 _ _ ⟨F,⟨?_,h1.2⟩,(Touch.jS (qC w b k u)).mono fun q _ e=>by cases e;exact h1.2,fun k hk=>⟨.inl hk,?_⟩⟩
 ·rw[←hc];exact xg h1.1 k u
 ·rw[show(w.setCell ⟨b,_,none⟩ u).heap.size=w.heap.size by simp[World.setCell]];exact(h2 k hk).2
end
def lI:bV:=⟨fun _ _=>True,fun _ _ _ h _=>h⟩
theorem Star.vI {w:World}(l:List bV)(i:Nat)(X:bV)(F:Nat→Prop)(h:Star l w F)(hi:l[i]?=some X) :
 ∃G H:Nat→Prop,X.P w G∧Star (l.set i lI) w H∧(∀k,G k→H k→False)∧∀k,G k∨H k→F k:=by
 obtain⟨G,H,h1,h2,h3,h4⟩:=Star.at_ l i X F h hi;exact⟨G,fun k=>H k,h1,Star.up _ _ _ (h4 lI w (fun _=>False) trivial (fun _ _=>rfl) fun _ h _=>h) (fun k hk=>hk.resolve_left id),h2,h3⟩
theorem Star.Tt {w:World}{Y:bV}{G:Nat→Prop}(hy:Y.P w G):∀(l:List bV) (i:Nat) (Z:bV) (F:Nat→Prop),Star l w F→l[i]?=some Z→(∀k,G k→F k→False)→Star (l.set i Y) w fun k=>G k∨F k
 |[],i,Z,F,_,hi,_=>by simp at hi
 |X::l,0,Z,F,⟨G',H,h1,h2,h3,h4⟩,hi,hd=>⟨G,H,hy,h2,fun k hg hh=>hd k hg (h4 k (.inr hh)),fun k h=>h.imp id fun hh=>h4 k (.inr hh)⟩
 |X::l,i+1,Z,F,⟨G',H,h1,h2,h3,h4⟩,hi,hd=>by
  have:=Star.Tt hy l i Z H h2 (by simpa using hi) fun k hg hh=>hd k hg (h4 k (.inr hh));refine⟨G',fun k=>G k∨H k,h1,this,fun k hg hh=>?_,fun k h=>?_⟩
  ·rcases hh with hh|hh
   ·exact hd k hh (h4 k (.inl hg))
   ·exact h3 k hg hh
  ·rcases h with h|h|h
   ·exact .inr (h4 k (.inl h))
   ·exact .inl h
   ·exact .inr (h4 k (.inr h))
section
variable {w0 w:World}{l:List bV}
theorem Has.two (h:Has w0 w l)(i j:Nat)(X Y:bV)(hi:l[i]?=some X)(hj:l[j]?=some Y)(hij:i≠j) :
 ∃R:bV,R=nP ((l.set i lI).set j lI)∧Has w0 w [X,Y,R]∧∀(X' Y':bV) (w1:World),Has w0 w1 [X',Y',R]→Has w0 w1 ((l.set i X').set j Y'):=by
 refine⟨_,rfl,?_,fun X' Y' w1 h1=>?_⟩
 ·obtain⟨⟨F,h1,h2⟩,h3⟩:=h;obtain⟨G,H,g1,g2,g3,g4⟩:=Star.vI l i X F h1 hi;have hj':(l.set i lI)[j]?=some Y:=by rw[List.getElem?_set_ne hij];exact hj
  obtain⟨G',H',k1,k2,k3,k4⟩:=Star.vI _ j Y H g2 hj';refine⟨⟨F,⟨G,fun k=>G' k∨H' k,g1,⟨G',H',k1,⟨H',fun _=>False,k2,trivial,fun _ _ h=>h,fun k h=>h.elim id False.elim⟩,k3,fun k h=>h⟩,fun k hg hh=>g3 k hg (k4 k hh),fun k h=>g4 k (h.imp id (k4 k))⟩,h2⟩,h3⟩
 ·obtain⟨⟨F,⟨G,H0,g1,⟨G',H1,k1,⟨H2,_,m1,_,_,m4⟩,k3,k4⟩,g3,g4⟩,h2⟩,h3⟩:=h1;have m1':Star ((l.set i lI).set j lI) w1 H1:=Star.up _ H2 H1 m1 fun k hk=>m4 k (.inl hk);have hil:i<l.length:=(List.getElem?_eq_some_iff.1 hi).1;have hjl:j<l.length:=(List.getElem?_eq_some_iff.1 hj).1;have a1:=Star.Tt k1 _ j lI H1 m1' (by rw[List.getElem?_set_self (by simpa using hjl)]) k3;rw[List.set_set]at a1;have a2:=Star.Tt g1 _ i lI _ a1 (by rw[List.getElem?_set_ne (fun e=>hij e.symm),List.getElem?_set_self (by simpa using hil)]) fun k hg hh=>g3 k hg (k4 k hh);have e:((l.set i lI).set j Y').set i X'=(l.set i X').set j Y':=by
   rw[List.set_comm _ _ (fun e=>hij e.symm),List.set_set]
  rw[e]at a2;exact⟨⟨_,a2,fun k hk=>h2 k (g4 k (hk.imp id (k4 k)))⟩,h3⟩
theorem Has.one (h:Has w0 w l)(i:Nat)(X:bV)(hi:l[i]?=some X) :
 ∃R:bV,R=nP (l.set i lI)∧Has w0 w [X,R]∧∀(X':bV) (w1:World),Has w0 w1 [X',R]→Has w0 w1 (l.set i X'):=by
 refine⟨_,rfl,?_,fun X' w1 h1=>?_⟩
 ·obtain⟨⟨F,h1,h2⟩,h3⟩:=h;obtain⟨G,H,g1,g2,g3,g4⟩:=Star.vI l i X F h1 hi;exact⟨⟨F,⟨G,H,g1,⟨H,fun _=>False,g2,trivial,fun _ _ h=>h,fun k h=>h.elim id False.elim⟩,g3,g4⟩,h2⟩,h3⟩
 ·obtain⟨⟨F,⟨G,H0,g1,⟨H2,_,m1,_,_,m4⟩,g3,g4⟩,h2⟩,h3⟩:=h1;have hil:i<l.length:=(List.getElem?_eq_some_iff.1 hi).1;have a2:=Star.Tt g1 _ i lI H2 m1 (by rw[List.getElem?_set_self (by simpa using hil)]) fun k hg hh=>g3 k hg (m4 k (.inl hh));rw[List.set_set]at a2;exact⟨⟨_,a2,fun k hk=>h2 k (g4 k (hk.imp id fun hh=>m4 k (.inl hh)))⟩,h3⟩
end
theorem Star.part {w:World}{X Y1 Y2:bV}(hx:∀F,X.P w F→Star [Y1,Y2] w F):∀(l:List bV) (i:Nat) (F:Nat→Prop),Star l w F→l[i]?=some X→Star (l.set i Y1++[Y2]) w F
 |[],i,F,_,hi=>by simp at hi
 |Z::l,0,F,⟨G,H,h1,h2,h3,h4⟩,hi=>by
  simp at hi;subst hi;obtain⟨G1,G2,g1,⟨G3,_,g3,_,_,g6⟩,g4,g5⟩:=hx G h1;have:=Star.add g3 l H h2 fun k hk hh=>h3 k (g5 k (.inr (g6 k (.inl hk)))) hh;refine⟨G1,fun k=>H k∨G3 k,g1,this,fun k hg hh=>?_,fun k h=>?_⟩
  ·rcases hh with hh|hh
   ·exact h3 k (g5 k (.inl hg)) hh
   ·exact g4 k hg (g6 k (.inl hh))
  ·rcases h with h|h|h
   ·exact h4 k (.inl (g5 k (.inl h)))
   ·exact h4 k (.inr h)
   ·exact h4 k (.inl (g5 k (.inr (g6 k (.inl h)))))
 |Z::l,i+1,F,⟨G,H,h1,h2,h3,h4⟩,hi=>⟨G,H,h1,Star.part hx l i H h2 (by simpa using hi),h3,h4⟩
section
variable {w0 w w1:World}{l:List bV}
theorem Has.part (h:Has w0 w l)(i:Nat)(X Y1 Y2:bV)(hi:l[i]?=some X)(hx:∀F,X.P w F→Star [Y1,Y2] w F):Has w0 w (l.set i Y1++[Y2]):=by
 obtain⟨⟨F,h1,h2⟩,h3⟩:=h;exact⟨⟨F,Star.part hx l i F h1 hi,h2⟩,h3⟩
end
end
section
open Go.RowKit
section
variable {P:Program}
theorem vK {w:World}{g k:Nat}{v:Value}{t:TypeId}{cs:Array Value}{fr:Nat×Nat}(hg:w.heap[g]?=some (.cells cs t fr)):(w.setCell ⟨g,k,none⟩ v).heap[g]?=some (.cells (cs.setIfInBounds k v) t fr):=by
 simp[World.setCell,Array.getElem?_modify,hg]
theorem CQ {w:World}{g k:Nat}{v:Value}{t:TypeId}{cs:Array Value}{fr:Nat×Nat}(hg:w.heap[g]?=some (.cells cs t fr))(hc:cs[k]?=some v):w.setCell ⟨g,k,none⟩ v=w:=by
 have h1:cs.setIfInBounds k v=cs:=by
  apply Array.ext_getElem?;intro i;rw[Array.getElem?_setIfInBounds];split
  ·rename_i e
   subst e;split
   ·exact hc.symm
   ·rename_i h2
    rw[Array.getElem?_eq_none (by omega)]at hc;cases hc
  ·rfl
 have hheap:(w.setCell ⟨g,k,none⟩ v).heap=w.heap:=by
  apply Array.ext_getElem?;intro i;by_cases e:g=i
  ·subst e;rw[vK hg,hg,h1]
  ·exact Below.heap_setCell w ⟨g,k,none⟩ v i (fun h=>e h.symm)
 have hrest:w.setCell ⟨g,k,none⟩ v = { w with heap:=(w.setCell ⟨g,k,none⟩ v).heap}:=rfl;rw[hrest,hheap]
theorem aac {w:World}{g:Nat}{t:TypeId}{cs:Array Value}{fr:Nat×Nat}(hg:w.heap[g]?=some (.cells cs t fr)):∀(vs:List Value) (o:Nat),(∀i v,vs[i]?=some v→cs[o+i]?=some v)→w.setCells g o vs=w
 |[],_,_=>rfl
 |v::vs,o,h=>by
  rw[World.setCells,CQ hg (by simpa using h 0 v rfl)];exact aac hg vs (o+1) fun i u hu=>by
   have:=h (i+1) u (by simpa using hu);rwa [show o+(i+1)=o+1+i by omega]at this
section
variable {ops:Array Oper}{rest:List Oper}{op:Oper}{a:Act}{w:World}{Q:Exit→Act→World→Prop}
theorem aJ (hgd:op.guard=none)(ty:TypeId)(x:Operand)(ho:op.op=.load ty x)(b o:Nat)(hx:a.eval x=.pointer (some ⟨b,o,none⟩))(cs:Array Value)(d:TypeDesc)(hc:w.rangeAt b o cs.toList)
 (hu:P.underlying ty=some d) (hd:d.isRow=true) (hi:(P.info? ty).map (·.size)=some cs.size) (h:wpList P ops Q rest (a.put op.dst (.agg cs)) w):wpList P ops Q (op::rest) a w:=by
 refine wpList_load_mid hgd ty x ho b o hx cs.toList d hc hu hd (by simpa using hi) ?_;simpa using h
theorem aB (N:Nat)(hN:w.heap.size=N)(hgd:op.guard=none)(ty:TypeId)(x y:Operand)(ho:op.op=.store ty x y)(cells:Array Value)(hx:a.eval x=.pointer (some ⟨N,0,none⟩))(hy:a.eval y=.agg cells)
 (t:TypeId) (old:Array Value) (hi:(P.info? ty).map (·.size)=some cells.size) (hold:old.size=cells.size) (h1:cells.all (·.oneCell')=true)
 (h:wpList P ops Q rest (a.put op.dst undef) (w.alloc (.cells cells t))):wpList P ops Q (op::rest) a (w.alloc (.cells old t)):=by
 subst hN;refine wpList_store_row hgd ty x y ho w.heap.size cells hx hy t old (heap_alloc_new w _) hi hold h1 ?_;rw[World.setRow_alloc_new];exact h
theorem lg (hgd:op.guard=none)(ty:TypeId)(x y:Operand)(ho:op.op=.store ty x y)(b o:Nat)(cells:Array Value)(hx:a.eval x=.pointer (some ⟨b,o,none⟩))(hy:a.eval y=.agg cells)
 (t:TypeId) (cs:Array Value) (hg:w.heap[b]?=some (.cells cs t (0,0))) (hs:∀i v,cells.toList[i]?=some v→cs[o+i]?=some v) (hi:(P.info? ty).map (·.size)=some cells.size) (h1:cells.all (·.oneCell')=true)
 (h:wpList P ops Q rest (a.put op.dst undef) w):wpList P ops Q (op::rest) a w:=by
 refine wpList_store_mid hgd ty x y ho b o cells hx hy (fun j hj=>⟨?_,aI hg _⟩) hi h1 ?_
 ·rw[aj hg,hs j (cells[j]) (by simp[hj])];rfl
 ·rw[aac hg _ _ hs];exact h
theorem aY (hgd:op.guard=none)(ty:TypeId)(x y:Operand)(ho:op.op=.store ty x y)(b:Nat)(cells:Array Value)(hx:a.eval x=.pointer (some ⟨b,0,none⟩))(hy:a.eval y=.agg cells)
 (t:TypeId) (old:Array Value) (hg:w.heap[b]?=some (.cells old t (0,0))) (hi:(P.info? ty).map (·.size)=some cells.size) (hold:old.size=cells.size) (h1:cells.all (·.oneCell')=true)
 (h:wpList P ops Q rest (a.put op.dst undef) (w.setRow b cells)):wpList P ops Q (op::rest) a w :=
 wpList_store_row hgd ty x y ho b cells hx hy t old hg hi hold h1 h
end
theorem dY {fn:Func}{p u:Tmp}{ty:TypeId}{R:Ending→World→Prop}{a:Act}{w:World}(h:fn.results=#[.cell p ty,.tmp u])(hdf:a.defers=[])(g:Nat)(cs:Array Value)(t:TypeId)(fr:Nat×Nat)(d:TypeDesc)
 (hp:a.tmps.getD p undef=.pointer (some ⟨g,0,none⟩)) (hg:w.heap[g]?=some (.cells cs t fr)) (hu:P.underlying ty=some d) (hd:(match d with | .struct _ | .array _ _=>true|_=>false)=true) (hi:(P.info? ty).map (·.size)=some cs.size)
 (hR:R (.returned (.tuple #[.agg cs,a.tmps.getD u undef])) w):bodyPost P fn R .ret a w:=by
 refine bodyPost_ret (v:=.tuple #[.agg cs,a.tmps.getD u undef]) ?_ hdf hR;rw[results_cell_tmp h,hp];simp[asAddr,run_loadVar_row w g t ty cs fr d hg hu hd hi]
theorem aX {w:World}{b:Nat}{t:TypeId}{cs:Array Value}(hg:w.heap[b]?=some (.cells cs t (0,0)))(o:Nat)(l:List Value)(h:∀i v,l[i]?=some v→cs[o+i]?=some v):w.rangeAt b o l:=fun i v hv=>by
 rw[aj hg,h i v hv]
end
structure Spec where
 account:ByteArray
 qos:ByteArray
 size:Nat
 limit:Nat
 gX:Bool
def jT:ByteArray:=⟨#[106]⟩
def aP:ByteArray:=⟨#[109,97,105,110]⟩
def bY:ByteArray:=⟨#[]⟩
def Spec.cells (s:Spec):Array Value:=#[.string jT,.string s.account,.string aP,.string s.qos,.int .i64 s.size,.int .i64 s.limit,.slice none 0 0,.int .i64 0,.bool false,.slice none 0 0,.int .i64 0,.int .i64 0,.bool false,.bool s.gX,.string bY]
theorem clone_nil (w:World):Calls Tryz.prog 150 #[.slice none 0 0] w fun e w'=>e=.returned (.slice none 0 0)∧w'=w:=by
 have hnil:∀W,(binOp .eql 44 (.slice none 0 0) (.slice none 0 0)).run Tryz.prog W=.ok (.bool true) W:=fun _=>rfl;go_enter Tryz.func150,Tryz.ntmps150;go_wp2_with fail
 go_ret;exact⟨rfl,rfl⟩
theorem sG (s:Spec)(w:World):Calls Tryz.prog 96 #[.agg s.cells] w fun e w'=>e=.returned (.agg s.cells)∧Below w.heap.size w w':=by
 obtain⟨a,q,sz,lim,rq⟩:=s;unfold Spec.cells;simp only;go_enter Tryz.func96,Tryz.ntmps96;go_wp2_with (go_at_call 150;refine(clone_nil _).mono ?_;rintro e w' ⟨rfl,hw⟩;obtain rfl:=hw.symm;clear hw)
 refine wp_loop_rounds 1 ?_;rw[rounds_succ];go_wp2_with fail
 try simp only[Exit.inBlock,Exit.then]
 refine bodyPost_ret (results_cell_row rfl _ _ (w.heap.size+1) 51 _ (0,0) _ (by rfl) (heap_alloc2_new _ _ _) Tryz.underlying51 rfl (by kernel_rfl)) rfl ?_;exact⟨rfl,au (au (Below.refl _ _) _) _⟩
structure J where
 id:Nat
 s:Spec
 how:Int
 since:Int
 started:Int
 runs:Int
 ran:Int
 start:Int
 order:Int
def J.cells (j:J):Array Value:=#[.int .u32 j.id,.int .u32 0,.int .i64 (-1),.string jT,.string j.s.account,.string aP,.string j.s.qos,.int .i64 j.s.size,.int .i64 j.s.limit,.slice none 0 0,.int .i64 0,.bool false,.slice none 0 0,.int .i64 0,.int .i64 0,.bool false,.bool j.s.gX,.string bY,.int .i64 0,.int .i64 j.how,.int .i64 j.since,.int .i64 j.started,.int .i64 j.runs,.int .i64 j.ran,.int .i64 j.start,.int .i64 j.order]
theorem EP {w:World}{p g n c:Nat}(id:Nat)(h:w.cell? ⟨p,12,none⟩=some (.slice (some ⟨g,0,none⟩) n c))(h1:1≤id)(h2:id≤n)(hn:n≤1000) :
 Calls Tryz.prog 95 #[.pointer (some ⟨p,0,none⟩),.int .u32 id] w fun e w'=>e=.returned (.pointer (some ⟨g,(id-1)*26,none⟩))∧w'=w:=by
 obtain⟨k,rfl⟩:∃k,id=k+1:=⟨id-1,by omega⟩;have hlt:¬(n:Int)<(k:Int)+1:=by omega
 have hz:((k:Int)+1==0)=false:=by simp;omega
 go_enter Tryz.func95,Tryz.ntmps95;go_wp2_with fail
 go_ret;exact⟨by simp,rfl⟩
theorem uM {w:World}{p n c:Nat}{A:Option Addr}(h:w.cell? ⟨p,12,none⟩=some (.slice A n c)) :
 Calls Tryz.prog 51 #[.pointer (some ⟨p,0,none⟩)] w fun e w'=>e=.returned (.int .i64 n)∧w'=w:=by
 go_enter Tryz.func51,Tryz.ntmps51;go_wp2_with fail
 go_ret;exact⟨rfl,rfl⟩
theorem J.size (j:J):j.cells.size=26:=rfl
theorem J.L6 (j:J)(i:Nat)(v:Value)(h:j.s.cells.toList[i]?=some v):j.cells[3+i]?=some v:=by
 have hi:i<15:=(List.getElem?_eq_some_iff.1 h).1;unfold Spec.cells at h;unfold J.cells;rcases(by omega:i=0∨i=1∨i=2∨i=3∨i=4∨i=5∨i=6∨i=7∨i=8∨i=9∨i=10∨i=11∨i=12∨i=13∨i=14)with rfl|rfl|rfl|rfl|rfl|rfl|rfl|rfl|rfl|rfl|rfl|rfl|rfl|rfl|rfl<;>exact h
theorem J.one (j:J):j.cells.all (·.oneCell')=true:=by simp[J.cells,Value.oneCell']
theorem Spec.one (s:Spec):s.cells.all (·.oneCell')=true:=by simp[Spec.cells,Value.oneCell']
theorem eY (j:J):(Tryz.prog.info? 55).map (·.size)=some j.cells.size:=by rw[J.size];kernel_rfl
theorem uN (s:Spec):(Tryz.prog.info? 51).map (·.size)=some s.cells.size:=by rw[show s.cells.size=15 from rfl];kernel_rfl
theorem nR {w:World}{p g n c:Nat}(id:Nat)(j:J)(h:w.cell? ⟨p,12,none⟩=some (.slice (some ⟨g,0,none⟩) n c))(h1:1≤id)(h2:id≤n)(hn:n≤1000)(hj:w.rangeAt g ((id-1)*26) j.cells.toList) :
 Calls Tryz.prog 54 #[.pointer (some ⟨p,0,none⟩),.int .u32 id] w fun e w'=>e=.returned (.tuple #[.agg j.cells,.bool true])∧Below w.heap.size w w':=by
 obtain⟨k,rfl⟩:∃k,id=k+1:=⟨id-1,by omega⟩;simp only[Nat.add_sub_cancel]at hj;have HC:ah (∀o,(w.alloc o).cell? ⟨p,12,none⟩=some (.slice (some ⟨g,0,none⟩) n c)):=ah.mk fun o=>ak (au (Below.refl _ _) o) h;have HL:ah (∀o,(w.alloc o).rangeAt g (k*26) j.cells.toList):=ah.mk fun o i v hv=>ak (au (Below.refl _ _) o) (hj i v hv);clear hj h;go_enter Tryz.func54,Tryz.ntmps54;go_wp2_with (first|(have _t:=H3.out;clear _t;refine aY rfl 55 (.tmp 4) (.tmp 25) rfl w.heap.size j.cells rfl rfl 55 _ ((H3.out.block _ (by simp;omega)).trans ((heap_alloc_old _ _ (by simp)).trans (heap_alloc_new w _))) (eY j) rfl j.one ?_)|(have _t:=H3.out;clear _t;refine aJ rfl 55 (.tmp 6) rfl (w.heap.size+1) 0 rfl j.cells _ (aX ((H3.out.block _ (by simp)).trans (heap_alloc2_new w _ _)) 0 _ (fun i v hv=>by simpa using hv)) Tryz.underlying55 rfl (eY j) ?_)|(have _t:=H3.out;clear _t;refine lg rfl 51 (.tmp 24) (.tmp 23) rfl (w.heap.size+1) 3 j.s.cells rfl rfl 55 j.cells ((H3.out.block _ (by simp)).trans (heap_alloc2_new w _ _)) j.L6 (uN j.s) j.s.one ?_)|(go_at_call 96;refine(sG j.s _).mono ?_;rintro e w3 ⟨rfl,hb⟩;have H3:=ah.mk hb;clear hb)|(refine aJ rfl 51 (.tmp 21) rfl (w.heap.size+1) 3 rfl j.s.cells _ (aX (heap_alloc2_new w _ _) 3 _ j.L6) Tryz.underlying51 rfl (uN j.s) ?_)|(refine aB (w.heap.size+1) (by simp) rfl 55 (.tmp 6) (.tmp 20) rfl j.cells rfl rfl 55 _ (eY j) rfl j.one ?_)|(refine aJ rfl 55 (.tmp 19) rfl g (k*26) rfl j.cells _ (HL.out _) Tryz.underlying55 rfl (eY j) ?_)|(go_at_call 95;refine(EP (k+1) (HC.out _) h1 h2 hn).mono ?_;rintro e w' ⟨rfl,hw⟩;obtain rfl:=hw.symm;clear hw))
 try simp only[Exit.inBlock,Exit.then]
 have hg3:=((H3.out.block w.heap.size (by simp;omega)).trans ((heap_alloc_old _ _ (by simp)).trans (heap_alloc_new w _)));have hr:=setRow_heap w3 w.heap.size _ j.cells 55 (0,0) hg3;exact dY rfl rfl w.heap.size j.cells 55 (0,0) _ rfl hr Tryz.underlying55 rfl (eY j) ⟨rfl,below_setRow (ay (au (au (Below.refl _ _) _) _) (by simp;omega) H3.out) (Nat.le_refl _) _⟩
end
section
open Go.RowKit
def rowA (e:TypeId)(sz:Nat)(v:Value)(n:Nat)(xs:List Value):bV :=
 ⟨fun w F=>w.ownsRow 0 e sz v n xs∧∀k,v.ownBlock=some k→F k,fun _ _ _ h hk=>⟨xM h.1 fun k e=>hk k (h.2 k e),h.2⟩⟩
theorem flat_get {α:Type}{sz:Nat}{enc:α→List Value}(hs:∀x,(enc x).length=sz):∀(l:List α) (k:Nat) (x:α),l[k]?=some x→∀f,f<sz→(l.flatMap enc)[k*sz+f]?=(enc x)[f]?
 |[],k,x,h,f,hf=>by simp at h
 |y::l,0,x,h,f,hf=>by
  simp at h;subst h;rw[List.flatMap_cons,List.getElem?_append_left (by rw[hs];omega)];simp
 |y::l,k+1,x,h,f,hf=>by
  rw[List.flatMap_cons,List.getElem?_append_right (by rw[hs,Nat.add_mul];omega),hs,show(k+1)*sz+f-sz=k*sz+f by rw[Nat.add_mul];omega];exact flat_get hs l k x (by simpa using h) f hf
theorem kR {α:Type}{sz:Nat}{enc:α→List Value}(hs:∀x,(enc x).length=sz):∀l:List α,(l.flatMap enc).length=l.length*sz
 |[]=>by simp
 |x::l=>by rw[List.flatMap_cons,List.length_append,hs,kR hs l,List.length_cons,Nat.add_mul];omega
theorem xP {α:Type}{sz:Nat}{enc:α→List Value}(hs:∀x,(enc x).length=sz):∀(l:List α) (k:Nat) (x x':α) (f:Nat) (u:Value),l[k]?=some x→f<sz→(enc x).set f u=enc x'→(l.flatMap enc).set (k*sz+f) u=(l.set k x').flatMap enc
 |[],k,x,x',f,u,h,hf,he=>by simp at h
 |y::l,0,x,x',f,u,h,hf,he=>by
  simp at h;subst h;rw[List.flatMap_cons,List.set_append_left _ _ (by rw[hs];omega),Nat.zero_mul,Nat.zero_add,he];simp
 |y::l,k+1,x,x',f,u,h,hf,he=>by
  rw[List.flatMap_cons,List.set_append_right _ _ (by rw[hs,Nat.add_mul];omega),hs,show(k+1)*sz+f-sz=k*sz+f by rw[Nat.add_mul];omega];rw[xP hs l k x x' f u (by simpa using h) hf he];simp
theorem J.ER (j:J):j.cells.toList.length=26:=rfl
def qZ (js:List J):List Value:=js.flatMap fun j=>j.cells.toList
def aO (v:Value)(js:List J):bV:=rowA 55 26 v js.length (qZ js)
section
variable {w0 w:World}{L:List bV}
theorem Has.row (H:Has w0 w L)(i:Nat){e:TypeId}{sz n:Nat}{v:Value}{xs:List Value}(hi:L[i]?=some (rowA e sz v n xs)):w.ownsRow 0 e sz v n xs:=by
 obtain⟨F,h,_⟩:=H.get i _ hi;exact h.1
theorem dN (H:Has w0 w L)(i:Nat){v:Value}{js:List J}(hi:L[i]?=some (aO v js))(k:Nat)(j:J)(hk:js[k]?=some j) :
 ∃g c,v=.slice (some ⟨g,0,none⟩) js.length c∧w.rangeAt g (k*26) j.cells.toList∧∀f,w.frozen? ⟨g,f,none⟩=false:=by
 have hkl:=(List.getElem?_eq_some_iff.1 hk).1;rcases(H.row i hi).2 with⟨_,h0⟩|⟨g,cap,cur,hv,_,hh,_,_,hs,ht⟩
 ·omega
 ·refine⟨g,cap,hv,fun f u hu=>?_,fun f=>aI hh f⟩;have hf:f<26:=by have:=(List.getElem?_eq_some_iff.1 hu).1;rwa [J.ER]at this
  rw[aj hh,←Array.getElem?_toList];have h1:(qZ js)[k*26+f]?=some u:=by
   unfold qZ;rw[flat_get J.ER js k j hk f hf];exact hu
  have hlt:k*26+f<js.length*26:=by
   have : (k+1)*26≤js.length*26:=Nat.mul_le_mul_right _ hkl;omega
  rw[←ht,List.getElem?_take_of_lt hlt]at h1;exact h1
theorem jg (H:Has w0 w L)(i:Nat){v:Value}{js:List J}(hi:L[i]?=some (aO v js)):∃A c,v=.slice A js.length c:=iW (H.row i hi)
theorem fD (H:Has w0 w L)(i:Nat){g c n:Nat}{js:List J}(hi:L[i]?=some (aO (.slice (some ⟨g,0,none⟩) n c) js))(k:Nat)(j j':J)(hk:js[k]?=some j)(f:Nat)(hf:f<26)(u:Value)(he:j.cells.toList.set f u=j'.cells.toList) :
 Has w0 (w.setCell ⟨g,k*26+f,none⟩ u) (L.set i (aO (.slice (some ⟨g,0,none⟩) n c) (js.set k j'))):=by
 obtain⟨F,⟨h1,h2⟩,h3,hgo⟩:=H.get i _ hi;have hF:F g:=h2 g rfl;refine hgo _ _ ⟨F,⟨⟨?_,?_⟩,h2⟩,(Touch.jS (qC w g (k*26+f) u)).mono fun q _ e=>by cases e;exact hF,fun q hq=>⟨.inl hq,?_⟩⟩
 ·unfold qZ;rw[kR J.ER]
 ·rcases h1.2 with⟨h0,_⟩|⟨g',cap,cur,hv,hb,hh,hn,hc,hs,ht⟩
  ·cases h0
  ·injection hv with e1 e2 e3;injection e1 with e1;injection e1 with e1;subst e1;refine .inr ⟨g,cap,cur.setIfInBounds (k*26+f) u,by rw[e3,List.length_set,e2],hb,xg hh _ _,by simpa using hn,hc,by simpa using hs,?_⟩;rw[List.length_set,Array.toList_setIfInBounds,List.take_set,ht];unfold qZ;exact xP J.ER js k j j' f u hk hf he
 ·rw[show(w.setCell ⟨g,_,none⟩ u).heap.size=w.heap.size by simp[World.setCell]];exact(h3 q hq).2
end
end
section
open Go.RowKit
section
variable {w0 w:World}{L:List bV}
theorem bZ {w:World}{g o:Nat}{j:J}(h:w.rangeAt g o j.cells.toList)(f:Nat)(u:Value)(hu:j.cells.toList[f]?=some u):w.cell? ⟨g,o+f,none⟩=some u:=h f u hu
theorem max_le {a b m:Int}(h:m=if a<b then b else a)(W:World):(Builtin.max_ #[3,3] 3 #[.int .i64 a,.int .i64 b]).run Tryz.prog W=.ok (.int .i64 m) W:=by
 subst h;by_cases hh:a<b
 ·rw[if_pos hh];simp[Builtin.max_,Builtin.max2,hh]
 ·rw[if_neg hh];simp[Builtin.max_,Builtin.max2,hh]
theorem IE {g o:Nat}(j:J)(now:Int)(h:w.rangeAt g o j.cells.toList)(h1:j.since≤now)(h2:j.started≤now)(h3:now≤1099511627776) :
 Calls Tryz.prog 114 #[.pointer (some ⟨g,o,none⟩),.int .i64 now] w fun e w'=>e=.returned (.bool false)∧∃q,w'=w.drewN q:=by
 have c20:=bZ h 20 _ rfl;have c21:=bZ h 21 _ rfl;obtain⟨m,hm⟩:∃m,m=if j.since<j.started then j.started else j.since:=⟨_,rfl⟩
 have hmax:=fun W=>max_le hm W;have hlt:¬now<m:=by rw[hm];split<;>omega
 have h4:¬(1099511627776:Int)<now:=by omega
 clear hm h h1 h2;go_enter Tryz.func114,Tryz.ntmps114;go_wp2_with fail
 go_quiet (fail)
 go_wp2_with fail
 go_ret;exact⟨by simp[hlt,h4],_,rfl⟩
theorem kG {g o:Nat}(j:J)(now:Int)(h:w.rangeAt g o j.cells.toList)(h1:j.since≤now)(h2:j.started≤now)(h3:now≤1099511627776) :
 Calls Tryz.prog 114 #[.pointer (some ⟨g,o,none⟩),.int .i64 now] w fun e w'=>e=.returned (.bool false)∧eU w w' :=
 (IE j now h h1 h2 h3).mono fun e w' ⟨he,q,hq⟩=>⟨he,hq▸(eU.refl _).step q⟩
theorem xQ (H0:Has w0 w L)(i:Nat){g c n:Nat}{js:List J}(hi:L[i]?=some (aO (.slice (some ⟨g,0,none⟩) n c) js))(k:Nat)(j:J)(hk:js[k]?=some j)(now:Int) :
 Calls Tryz.prog 65 #[.pointer (some ⟨g,k*26,none⟩),.int .i64 now] w fun e w'=>e=.returned (.tuple #[])∧Has w0 w' (L.set i (aO (.slice (some ⟨g,0,none⟩) n c) (js.set k { j with since:=now}))):=by
 obtain⟨g',c',hv,hr,hfz⟩:=dN H0 i hi k j hk;injection hv with e1 e2 e3;injection e1 with e1;injection e1 with e1;subst e1;subst e2 e3;have c20:=bZ hr 20 _ rfl;have f20:=hfz (k*26+20);have HS:=ah.mk (fD H0 i hi k j { j with since:=now} hk 20 (by omega) (.int .i64 now) rfl);clear hr hfz H0;go_enter Tryz.func65,Tryz.ntmps65;go_wp2_with fail
 first|go_end0|skip
 exact⟨rfl,HS.out⟩
theorem zC (H0:Has w0 w L)(i:Nat){g c n:Nat}{js:List J}(hi:L[i]?=some (aO (.slice (some ⟨g,0,none⟩) n c) js))(k:Nat)(j:J)(hk:js[k]?=some j)(now:Int) :
 Calls Tryz.prog 212 #[.pointer (some ⟨g,k*26,none⟩),.int .i64 now] w fun e w'=>e=.returned (.tuple #[])∧Has w0 w' (L.set i (aO (.slice (some ⟨g,0,none⟩) n c) (js.set k { j with started:=now}))):=by
 obtain⟨g',c',hv,hr,hfz⟩:=dN H0 i hi k j hk;injection hv with e1 e2 e3;injection e1 with e1;injection e1 with e1;subst e1;subst e2 e3;have cf:=bZ hr 21 _ rfl;have ff:=hfz (k*26+21);have HS:=ah.mk (fD H0 i hi k j { j with started:=now} hk 21 (by omega) (.int .i64 now) rfl);clear hr hfz H0;go_enter Tryz.func212,Tryz.ntmps212;go_wp2_with fail
 first|go_end0|skip
 exact⟨rfl,HS.out⟩
def J.till (j:J)(now:Int):J:=if j.how=3 then { j with ran:=j.ran+(now-j.started)} else j
theorem NU (H0:Has w0 w L)(i:Nat){g c n:Nat}{js:List J}(hi:L[i]?=some (aO (.slice (some ⟨g,0,none⟩) n c) js))(k:Nat)(j:J)(hk:js[k]?=some j)(now:Int)
 (h1:0≤j.started) (h2:j.started≤now) (h3:now≤1099511627776) (h4:0≤j.ran) (h5:j.ran≤1099511627776) :
 Calls Tryz.prog 116 #[.pointer (some ⟨g,k*26,none⟩),.int .i64 now] w fun e w'=>e=.returned (.tuple #[])∧Has w0 w' (L.set i (aO (.slice (some ⟨g,0,none⟩) n c) (js.set k (j.till now)))):=by
 obtain⟨g',c',hv,hr,hfz⟩:=dN H0 i hi k j hk;injection hv with e1 e2 e3;injection e1 with e1;injection e1 with e1;subst e1;subst e2 e3;have c19:=bZ hr 19 _ rfl;have c21:=bZ hr 21 _ rfl;have c23:=bZ hr 23 _ rfl;have f23:=hfz (k*26+23);obtain⟨how,jU⟩:∃how,how=j.how:=⟨_,rfl⟩;obtain⟨st,hst⟩:∃st,st=j.started:=⟨_,rfl⟩;obtain⟨rn,hrn⟩:∃rn,rn=j.ran:=⟨_,rfl⟩;rw[←jU]at c19;rw[←hst]at c21 h1 h2;rw[←hrn]at c23 h4 h5;by_cases h:how=3
 ·have HS:=ah.mk (fD H0 i hi k j (j.till now) hk 23 (by omega) (.int .i64 (rn+(now-st))) (by unfold J.till;rw[if_pos (by rw[←jU];exact h),hrn,hst];rfl));subst h;clear hr hfz H0 jU hst hrn;go_enter Tryz.func116,Tryz.ntmps116;go_wp2_with fail
  go_still_tail 13,(by kernel_rfl)
  change wpList _ _ _ _ _ (World.drew w);go_wp2_with fail
  first|go_end0|skip
  exact⟨rfl,HS.out.drew⟩
 ·have HS:ah (Has w0 w (L.set i (aO (.slice (some ⟨g,0,none⟩) js.length c) (js.set k (j.till now))))):=ah.mk (by
   unfold J.till;rw[if_neg (by rw[←jU];exact h),show js.set k j=js from ?_,show L.set i _=L from ?_]
   ·exact H0
   ·exact List.ext_getElem? fun q=>by
     rw[List.getElem?_set];split
     ·rename_i e;subst e;split
      ·exact hi.symm
      ·rename_i h2;rw[List.getElem?_eq_none (by omega)]at hi;cases hi
     ·rfl
   ·exact List.ext_getElem? fun q=>by
     rw[List.getElem?_set];split
     ·rename_i e;subst e;split
      ·exact hk.symm
      ·rename_i h2;rw[List.getElem?_eq_none (by omega)]at hk;cases hk
     ·rfl)
  have hz:(how==3)=false:=by simpa using h
  clear hr hfz H0 jU hst hrn h;go_enter Tryz.func116,Tryz.ntmps116;go_wp2_with fail
  first|go_end0|skip
  exact⟨rfl,HS.out⟩
theorem aN {α:Type}{l:List α}{i:Nat}{x y:α}(h:l[i]?=some x):(l.set i y)[i]?=some y:=by
 rw[List.getElem?_set_self (List.getElem?_eq_some_iff.1 h).1]
def J.back (j:J)(now:Int):J:={ j with since:=now,ran:=0,start:=0,order:=0}
theorem xR (H0:Has w0 w L)(i:Nat){g c n:Nat}{js:List J}(hi:L[i]?=some (aO (.slice (some ⟨g,0,none⟩) n c) js))(k:Nat)(j:J)(hk:js[k]?=some j)(now:Int) :
 Calls Tryz.prog 117 #[.pointer (some ⟨g,k*26,none⟩),.int .i64 now] w fun e w'=>e=.returned (.tuple #[])∧Has w0 w' (L.set i (aO (.slice (some ⟨g,0,none⟩) n c) (js.set k (j.back now)))):=by
 obtain⟨g',c',hv,hr,hfz⟩:=dN H0 i hi k j hk;injection hv with e1 e2 e3;injection e1 with e1;injection e1 with e1;subst e1;subst e2 e3;have c20:=bZ hr 20 _ rfl;have c23:=bZ hr 23 _ rfl;have c24:=bZ hr 24 _ rfl;have c25:=bZ hr 25 _ rfl;have f20:=hfz (k*26+20);have f23:=hfz (k*26+23);have f24:=hfz (k*26+24);have f25:=hfz (k*26+25);have S1:=fD H0 i hi k j { j with since:=now} hk 20 (by omega) (.int .i64 now) rfl;have S2:=fD S1 i (aN hi) k _ { j with since:=now,ran:=0} (aN hk) 23 (by omega) (.int .i64 0) rfl;have S3:=fD S2 i (aN (aN hi)) k _ { j with since:=now,ran:=0,start:=0} (aN (aN hk)) 24 (by omega) (.int .i64 0) rfl;have S4:=fD S3 i (aN (aN (aN hi))) k _ (j.back now) (aN (aN (aN hk))) 25 (by omega) (.int .i64 0) rfl;simp only[List.set_set]at S4;have HS:=ah.mk S4;clear hr hfz H0 S1 S2 S3 S4;go_enter Tryz.func117,Tryz.ntmps117;go_wp2_with fail
 first|go_end0|skip
 exact⟨rfl,HS.out⟩
def J.go (j:J)(now s o:Int):J:={ j with started:=now,ran:=0,start:=s,order:=o,runs:=j.runs+1}
theorem CS (H0:Has w0 w L)(i:Nat){g c n:Nat}{js:List J}(hi:L[i]?=some (aO (.slice (some ⟨g,0,none⟩) n c) js))(k:Nat)(j:J)(hk:js[k]?=some j)(now s o:Int)(b:Nat)(hb0:w.cell? ⟨b,0,none⟩=some (.int .i64 s))(hb1:w.cell? ⟨b,1,none⟩=some (.int .i64 o))(h1:0≤j.runs)(h2:j.runs≤1000) :
 Calls Tryz.prog 205 #[.pointer (some ⟨g,k*26,none⟩),.int .i64 now,.pointer (some ⟨b,0,none⟩)] w fun e w'=>e=.returned (.tuple #[])∧Has w0 w' (L.set i (aO (.slice (some ⟨g,0,none⟩) n c) (js.set k (j.go now s o)))):=by
 obtain⟨g',c',hv,hr,hfz⟩:=dN H0 i hi k j hk;injection hv with e1 e2 e3;injection e1 with e1;injection e1 with e1;subst e1;subst e2 e3;have c21:=bZ hr 21 _ rfl;have ZT:=bZ hr 22 _ rfl;have c23:=bZ hr 23 _ rfl;have c24:=bZ hr 24 _ rfl;have c25:=bZ hr 25 _ rfl;have f21:=hfz (k*26+21);have f22:=hfz (k*26+22);have f23:=hfz (k*26+23);have f24:=hfz (k*26+24);have f25:=hfz (k*26+25);obtain⟨rn,hrn⟩:∃rn,rn=j.runs:=⟨_,rfl⟩;rw[←hrn]at ZT h1 h2;have S1:=fD H0 i hi k j { j with started:=now} hk 21 (by omega) (.int .i64 now) rfl;have S2:=fD S1 i (aN hi) k _ { j with started:=now,ran:=0} (aN hk) 23 (by omega) (.int .i64 0) rfl;have S3:=fD S2 i (aN (aN hi)) k _ { j with started:=now,ran:=0,start:=s} (aN (aN hk)) 24 (by omega) (.int .i64 s) rfl;have S4:=fD S3 i (aN (aN (aN hi))) k _ { j with started:=now,ran:=0,start:=s,order:=o} (aN (aN (aN hk))) 25 (by omega) (.int .i64 o) rfl;have S5:=fD S4 i (aN (aN (aN (aN hi)))) k _ (j.go now s o) (aN (aN (aN (aN hk)))) 22 (by omega) (.int .i64 (rn+1)) (by rw[hrn];rfl);simp only[List.set_set]at S5;have HS:=ah.mk S5;clear hr hfz H0 S1 S2 S3 S4 S5 hrn;go_enter Tryz.func205,Tryz.ntmps205;go_wp2_with fail
 go_region
 all_goals
  go_wp2_with fail
  first|go_end0|skip
  exact⟨rfl,HS.out.drewN _⟩
end
end
end Go.Proofs.YtandhagfhppgaaaGreatDoor
