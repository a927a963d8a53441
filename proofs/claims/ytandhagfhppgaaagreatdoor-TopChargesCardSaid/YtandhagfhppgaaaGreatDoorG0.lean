/- Part 5 of a proof: contracts of the functions that the law reaches. No condition. -/
import Derived.ArgAppend
import Derived.Below
import Derived.BigQuiet
import Derived.ChangeMaps5
import Derived.Deep.AppendLies
import Derived.Deep.AppendSrc
import Derived.Deep.CutBlock
import Derived.Deep.DeepCutAuto
import Derived.Deep.Draws
import Derived.Deep.LoopGhost
import Derived.Deep.MidRow
import Derived.Deep.OwnRows
import Derived.Deep.Quiet
import Derived.Deep.QuietTactic
import Derived.Deep.RegionHeld3
import Derived.Deep.RegionLaw
import Derived.Deep.Strs
import Derived.Deep.WholeRow
import Derived.Great.BuildSlice
import Derived.Great.Walk
import Derived.HandedShaped
import Derived.JoinedOf
import Derived.KernelRfl
import Derived.LaidMore
import Derived.Laws.BitsLemmas
import Derived.Laws.BytesArg
import Derived.Laws.CopyOwn
import Derived.Laws.IdiomCopy
import Derived.Laws.MakeOwn
import Derived.Laws.NewBlocks
import Derived.Laws.OwnMore
import Derived.Laws.ResultCell
import Derived.Laws.Rows
import Derived.Laws.Slices
import Derived.Lay
import Derived.Lib.AppendStr
import Derived.Lib.AppendZerosOnto
import Derived.Lib.ConvBytes
import Derived.Lib.CutLaws
import Derived.Lib.Hide
import Derived.Lib.ItoaNum
import Derived.Lib.JoinLaws
import Derived.Lib.LaidTab
import Derived.Lib.LaidU8
import Derived.Lib.Overlaps
import Derived.Lib.RowBridge
import Derived.Lib.SlBytesConst
import Derived.Lib.SliceRun
import Derived.MapKept
import Derived.Maps.AppendAt
import Derived.OpenShut
import Derived.OrdersHeld
import Derived.Outline
import Derived.OwnWalk
import Derived.ProofKit
import Derived.RowKit
import Derived.RowKit3
import Derived.SevenTiedAt
import Derived.Shelf.Vars
import Derived.StillTail
import Derived.StillTailTactics
import Derived.Stop.Joined
import Derived.Tactics
import Derived.WalkKit
import Derived.WideLaws
set_option linter.all false
set_option maxRecDepth 100000
set_option maxHeartbeats 16000000
namespace Go.Proofs.YtandhagfhppgaaaGreatDoor
section
open Go.RowKit
structure ah (p:Prop):Prop where mk::(out:p)
structure eU (w w':World):Prop where mk::(out:∃n,w'=w.drewN n)
theorem eU.refl (w:World):eU w w:=⟨⟨0,rfl⟩⟩
theorem eU.step {w w':World}(h:eU w w')(n:Nat):eU w (w'.drewN n):=by
 obtain⟨m,rfl⟩:=h;exact⟨⟨m+n,World.drewN_drewN ..⟩⟩
theorem eU.grown {w w':World}(h:eU w w'):Grown w w':=by
 obtain⟨n,rfl⟩:=h;induction n with
 |zero=>exact Grown.refl _
 |succ n ih=>rw[←World.drew_drewN];exact Grown.drew ih
theorem eU.below {w w':World}(h:eU w w'):Below w.heap.size w w':=by
 obtain⟨n,rfl⟩:=h;induction n with
 |zero=>exact Below.refl _ _
 |succ n ih=>rw[←World.drew_drewN];exact ih.drew
def rd (xs:List Int)(i:Int):Int:=xs.getD i.toNat 0
theorem au {w W:World}(h:Below w.heap.size w W)(o:Obj):Below w.heap.size w (W.alloc o):=h.alloc h.size o
theorem aC {B:Nat}{w W:World}(h:Below B w W)(n:Nat):Below B w (W.drewN n):=⟨h.os,h.tape,h.output,h.size,h.block⟩
theorem ay {B:Nat}{w w1 w2:World}(h:Below B w w1)(hB:B≤w1.heap.size)(k:Below w1.heap.size w1 w2):Below B w w2 :=
 h.trans ⟨k.os,k.tape,k.output,k.size,fun i hi=>k.block i (Nat.lt_of_lt_of_le hi hB)⟩
theorem xJ {w w1:World}(h:Below w.heap.size w w1)(row:Option Nat):w.grownBy w1 row:=⟨h.os,h.tape,h.output,h.size,fun i hi _=>h.block i hi⟩
theorem ak {w w1:World}(h:Below w.heap.size w w1){a:Addr}{v:Value}(hc:w.cell? a=some v):w1.cell? a=some v:=(h.cell (World.block_lt_of_cell? w a hc)).trans hc
def fV (w:World)(k:IntKind)(A:Option Addr)(n:Nat)(xs:List Int):Prop :=
 xs.length=n∧n≤9223372036854775807∧(0<n→∃ad,A=some ad∧∀j,j<n→w.cell? (ad.add j)=some (.int k (xs.getD j 0)))
theorem fV.at_ {w:World}{k:IntKind}{A:Option Addr}{n:Nat}{xs:List Int}(h:fV w k A n xs)(i:Int)(h0:0≤i)(h1:i<n):∃ad,A=some ad∧w.cell? (ad.add i.toNat)=some (.int k (rd xs i)):=by
 obtain⟨ad,e,hc⟩:=h.2.2 (by omega);exact⟨ad,e,hc _ (by omega)⟩
theorem fV.below {w w1:World}{k:IntKind}{A:Option Addr}{n:Nat}{xs:List Int}(h:fV w k A n xs)(hb:Below w.heap.size w w1):fV w1 k A n xs :=
 ⟨h.1,h.2.1,fun hn=>by
  obtain⟨ad,e,hc⟩:=h.2.2 hn;exact⟨ad,e,fun j hj=>ak hb (hc j hj)⟩⟩
theorem SV (W:World)(base:Nat)(e:TypeId)(size:Nat):W.ownsRow base e size (.slice none 0 0) 0 []:=⟨by simp,.inl ⟨rfl,rfl⟩⟩
theorem own_base {w:World}{base:Nat}{e:TypeId}{size n:Nat}{v:Value}{xs:List Value}(h:w.ownsRow base e size v n xs)(k:Nat)(hk:v.ownBlock=some k):base≤k:=by
 rcases h.2 with⟨rfl,_⟩|⟨g,cap,cur,rfl,hb,_⟩
 ·simp[Value.ownBlock]at hk
 ·have : g=k:=by simpa[Value.ownBlock]using hk
  omega
theorem uK {w:World}{base:Nat}{e:TypeId}{size n:Nat}{v:Value}{xs:List Value}(h:w.ownsRow base e size v n xs)(k:Nat)(hk:v.ownBlock=some k):k<w.heap.size:=by
 rcases h.2 with⟨rfl,_⟩|⟨g,cap,cur,rfl,hb,hh,_⟩
 ·simp[Value.ownBlock]at hk
 ·have : g=k:=by simpa[Value.ownBlock]using hk
  subst this;exact(Array.getElem?_eq_some_iff.1 hh).1
theorem CG {w w1:World}{base:Nat}{e:TypeId}{size n:Nat}{v:Value}{xs:List Value}(h:w.ownsRow base e size v n xs)(hb:Below w.heap.size w w1):w1.ownsRow base e size v n xs :=
 h.kept (xJ hb none) (by cases v.ownBlock<;>simp)
theorem NG {w w1:World}{base:Nat}{e:TypeId}{size n:Nat}{v:Value}{xs:List Value}(h:w.ownsRow base e size v n xs){row:Option Nat}(hg:w.grownBy w1 row)(hne:v.ownBlock=none∨v.ownBlock≠row):w1.ownsRow base e size v n xs:=h.kept hg hne
theorem iW {w:World}{base n:Nat}{e:TypeId}{size:Nat}{v:Value}{xs:List Value}(h:w.ownsRow base e size v n xs):∃A c,v=.slice A n c:=by
 rcases h.2 with⟨rfl,rfl⟩|⟨g,cap,cur,rfl,_⟩
 ·exact⟨none,0,rfl⟩
 ·exact⟨_,cap,rfl⟩
section
variable {P:Program}{ops:Array Oper}{rest:List Oper}{o:Oper}{a:Act}{Q:Exit→Act→World→Prop}
end
section
variable {P:Program}
end
section
variable {P:Program}{ops:Array Oper}{rest:List Oper}{o:Oper}{a:Act}{Q:Exit→Act→World→Prop}
end
theorem fV.vI {w:World}{k:IntKind}{A:Option Addr}{n:Nat}{xs:List Int}(h:fV w k A n xs)(i:Nat)(hi:i≤n):fV w k A i (xs.take i):=by
 refine⟨by rw[List.length_take,h.1];omega,by have:=h.2.1;omega,fun hp=>?_⟩;obtain⟨ad,e,hc⟩:=h.2.2 (by omega);refine⟨ad,e,fun j hj=>?_⟩;rw[hc j (by omega)];simp[List.getD_eq_getElem?_getD,hj]
def Ap {α:Type}(a b:Option α):Prop:=∀r,a=some r→b=some r
theorem Ap.refl {α:Type}(a:Option α):Ap a a:=fun _ h=>h
theorem Ap.none {α:Type}(b:Option α):Ap Option.none b:=fun _ h=>by cases h
theorem Ap.trans {α:Type}{a b c:Option α}(h:Ap a b)(k:Ap b c):Ap a c:=fun r hr=>k r (h r hr)
theorem Ap.bind {α β:Type}{a a':Option α}{f f':α→Option β}(h:Ap a a')(k:∀x,Ap (f x) (f' x)):Ap (a.bind f) (a'.bind f'):=by
 intro r hr;obtain⟨x,hx,hf⟩:=Option.bind_eq_some_iff.1 hr;exact Option.bind_eq_some_iff.2 ⟨x,h x hx,k x r hf⟩
theorem Ap.map {α β:Type}{a a':Option α}(f:α→β)(h:Ap a a'):Ap (a.map f) (a'.map f):=by
 intro r hr;obtain⟨x,hx,hf⟩:=Option.map_eq_some_iff.1 hr;exact Option.map_eq_some_iff.2 ⟨x,h x hx,hf⟩
theorem vJ {α:Type}{g:Nat→Option α}(h:∀k,Ap (g k) (g (k+1)))(k:Nat):∀j,Ap (g k) (g (k+j))
 |0=>Ap.refl _
 |j+1=>(vJ h k j).trans (h (k+j))
theorem NI {α:Type}{g:Nat→Option α}(h:∀k,Ap (g k) (g (k+1))){k k':Nat}(hk:k≤k'){r:α}(hr:g k=some r):g k'=some r:=by
 have:=vJ h k (k'-k) r hr;rwa [Nat.add_sub_cancel' hk]at this
def qU {α:Type}(R:α→List Value→Prop)(size:Nat)(ps:List α)(cs:List Value):Prop :=
 cs.length=ps.length*size∧∀j p,ps[j]?=some p→R p ((cs.drop (j*size)).take size)
theorem qU.none {α:Type}(R:α→List Value→Prop)(size:Nat):qU R size [] []:=⟨by simp,fun j p h=>by simp at h⟩
theorem qU.snoc {α:Type}{R:α→List Value→Prop}{size:Nat}{ps:List α}{cs c:List Value}{p:α}(h:qU R size ps cs)(hp:R p c)(hc:c.length=size):qU R size (ps++[p]) (cs++c):=by
 refine⟨by rw[List.length_append,h.1,hc,List.length_append,List.length_singleton,Nat.add_mul,Nat.one_mul],fun j q hq=>?_⟩;rcases Nat.lt_or_ge j ps.length with hj|hj
 ·rw[List.getElem?_append_left hj]at hq;have h1:j*size+size≤cs.length:=by rw[h.1,←Nat.succ_mul];exact Nat.mul_le_mul_right _ hj
  have h2:=h.2 j q hq;rw[List.drop_append_of_le_length (by omega),List.take_append_of_le_length (by rw[List.length_drop];omega)];exact h2
 ·have hj':j=ps.length:=by
   have:=(List.getElem?_eq_some_iff.1 hq).1;rw[List.length_append,List.length_singleton]at this;omega
  subst hj';have hq':p=q:=by simpa using hq
  subst hq';rw[←h.1,List.drop_left,←hc,List.take_length];exact hp
theorem qU.rG {α:Type}{R R':α→List Value→Prop}{size:Nat}{ps:List α}{cs:List Value}(h:qU R size ps cs)(hR:∀p c,R p c→R' p c):qU R' size ps cs:=⟨h.1,fun j p hj=>hR _ _ (h.2 j p hj)⟩
def mF {α:Type}(R:α→List Value→Prop)(size:Nat)(w:World)(A:Option Addr)(n:Nat)(ps:List α):Prop :=
 ps.length=n∧n≤9223372036854775807∧(0<n→∃ad,A=some ad∧∀j p,ps[j]?=some p→∃c,c.length=size∧R p c∧∀i u,c[i]?=some u→w.cell? (ad.add (j*size+i))=some u)
theorem mF.rG {α:Type}{R R':α→List Value→Prop}{size:Nat}{w w1:World}{A:Option Addr}{n:Nat}{ps:List α}(h:mF R size w A n ps)(hb:Below w.heap.size w w1)(hR:∀p c,R p c→R' p c):mF R' size w1 A n ps :=
 ⟨h.1,h.2.1,fun hn=>by
  obtain⟨ad,e,hc⟩:=h.2.2 hn;refine⟨ad,e,fun j p hj=>?_⟩;obtain⟨c,hs,hr,hcell⟩:=hc j p hj;exact⟨c,hs,hR _ _ hr,fun i u hu=>ak hb (hcell i u hu)⟩⟩
theorem zB {α:Type}{R:α→List Value→Prop}{w:World}{base n size:Nat}{e:TypeId}{v:Value}{ps:List α}{cs:List Value}(h:w.ownsRow base e size v n cs)(hR:qU R size ps cs)(hn:ps.length=n) :
 ∃A c,v=.slice A n c∧mF R size w A n ps:=by
 rcases Nat.eq_zero_or_pos n with h0|h0
 ·rcases h.2 with⟨rfl,rfl⟩|⟨g,cap,cur,rfl,_⟩
  ·exact⟨none,0,rfl,hn,by omega,fun hp=>absurd hp (by omega)⟩
  ·exact⟨_,cap,rfl,hn,by omega,fun hp=>absurd hp (by omega)⟩
 ·obtain⟨g,cap,rfl,_,_⟩:=h.form h0;have hm:n≤9223372036854775807:=by
   rcases h.2 with⟨_,h1⟩|⟨g',cap',cur,he,_,_,h1,h2,_⟩
   ·omega
   ·simp only[maxLen]at h2;omega
  refine⟨_,cap,rfl,hn,hm,fun _=>⟨_,rfl,fun j p hj=>⟨(cs.drop (j*size)).take size,?_,hR.2 j p hj,fun i u hu=>?_⟩⟩⟩
  ·have hjl:=(List.getElem?_eq_some_iff.1 hj).1;have h1:j*size+size≤cs.length:=by rw[hR.1,←Nat.succ_mul];exact Nat.mul_le_mul_right _ hjl
   rw[List.length_take,List.length_drop];omega
  ·refine h.cells (g:=g) rfl _ u ?_;rw[List.getElem?_take]at hu;split at hu
   ·rw[List.getElem?_drop]at hu;exact hu
   ·cases hu
section
variable {P:Program}{ops:Array Oper}{rest:List Oper}{o:Oper}{a:Act}{Q:Exit→Act→World→Prop}
theorem rH {w0 W:World}(base:Nat)(hgd:o.guard=none)(s x:Operand)(t e:TypeId)(z:Value)(size bytes:Nat)
 (ho:o.op=.call { callee:=.builtin .append,args:=#[s,x],argTypes:=#[t,t]})
 (ht:P.underlying t=some (.slice e)) (hinfo:(P.info? e).map (fun i=>(i.zero,i.size,i.bytes))=some (some z,size,bytes)) (hz:z.cells.size=size) (hs0:0<size) (hb0:0<bytes)
 (v:Value) (n:Nat) (xs ys:List Value) (hs:a.eval s=v) (hx:a.eval x=.slice (some ⟨W.heap.size,0,none⟩) 1 1) (hys:ys.length=size) (h1:∀u∈ys,u.oneCell'=true)
 (HO:W.ownsRow base e size v n xs) (HB:Below base w0 W) (hbase:base≤W.heap.size) (hl:(n+1)*bytes≤140737488355328)
 (h:∀v1 w1,w1.ownsRow base e size v1 (n+1) (xs++ys)→Below base w0 w1→W.grownBy w1 v.ownBlock→(v1.ownBlock=v.ownBlock∨∃b,v1.ownBlock=some b∧W.heap.size≤b)→wpList P ops Q rest (a.put o.dst v1) w1) :
 wpList P ops Q (o::rest) a (W.alloc (.cells ys.toArray e)):=by
 obtain⟨i0,hi,hzz⟩:=Option.map_eq_some_iff.1 hinfo;simp only[Prod.mk.injEq]at hzz;obtain⟨hz0,hz1,hz2⟩:=hzz;have hlen:n+1≤140737488355328:=Nat.le_trans (Nat.le_mul_of_pos_right _ hb0) hl;refine wpList_append_own_at (W.alloc (.cells ys.toArray e)) hgd s x t ho base e i0 z size bytes ht hi hz0 hz1 hz2 hz hs0 v n xs hs (HO.alloc _) ⟨W.heap.size,0,none⟩ 1 1 ys hx (by rw[hys];simp)
  (by simpa using World.news_of_block (cs:=ys.toArray) (t:=e) (fr:=(0,0)) (heap_alloc_new W (.cells ys.toArray e))) h1 (by simp only[maxLen];omega) hl (by simp;omega) ?_
 intro v1 w1 hown hg _ hat;refine h v1 w1 hown ((HB.alloc hbase _).grown hg (by simp;omega) (own_base HO)) (World.grownBy.trans (World.grownBy_alloc W _ _) hg) ?_;rcases hat with hat|hat
 ·exact .inl hat
 ·exact .inr ⟨_,hat,by simp⟩
end
theorem own_ne {w:World}{base:Nat}{e t:TypeId}{size n g:Nat}{v:Value}{xs:List Value}{cs:Array Value}(h:w.ownsRow base e size v n xs)(hg:w.heap[g]?=some (.cells cs t (0,0)))(hne:e≠t):some g≠v.ownBlock:=by
 rcases h.2 with⟨rfl,_⟩|⟨g',cap,cur,rfl,_,hh,_⟩
 ·simp[Value.ownBlock]
 ·intro he;have : g=g':=by simpa[Value.ownBlock]using he
  subst this;rw[hg]at hh;injection hh with hh;injection hh with _ ht;exact hne ht.symm
theorem xg {w:World}{g:Nat}{t:TypeId}{cs:Array Value}(h:w.heap[g]?=some (.cells cs t (0,0)))(i:Nat)(u:Value):(w.setCell ⟨g,i,none⟩ u).heap[g]?=some (.cells (cs.setIfInBounds i u) t (0,0)):=by
 simp[World.setCell,Array.getElem?_modify,h]
theorem PO {w:World}{g:Nat}{o:Obj}(h:w.heap[g]?=some o):g<w.heap.size:=(Array.getElem?_eq_some_iff.1 h).1
theorem aj {w:World}{g:Nat}{t:TypeId}{cs:Array Value}(h:w.heap[g]?=some (.cells cs t (0,0)))(i:Nat):w.cell? ⟨g,i,none⟩=cs[i]?:=cell_of_row w g i cs t (0,0) h
theorem aI {w:World}{g:Nat}{t:TypeId}{cs:Array Value}(h:w.heap[g]?=some (.cells cs t (0,0)))(i:Nat):w.frozen? ⟨g,i,none⟩=false:=by simp[World.frozen?,h]
def fO (w w':World)(g:Nat)(row:Option Nat):Prop:=w.heap.size≤w'.heap.size∧∀i,i<w.heap.size→i≠g→some i≠row→w'.heap[i]?=w.heap[i]?
theorem fO.refl (w:World)(g:Nat)(row:Option Nat):fO w w g row:=⟨Nat.le_refl _,fun _ _ _ _=>rfl⟩
theorem fO.jS {w w1:World}{row:Option Nat}(h:w.grownBy w1 row)(g:Nat):fO w w1 g row:=⟨h.size,fun i hi _ hr=>h.block i hi hr⟩
theorem fO.of_below {w w1:World}(h:Below w.heap.size w w1)(g:Nat)(row:Option Nat):fO w w1 g row:=⟨h.size,fun i hi _ _=>h.block i hi⟩
theorem fO.trans {w w1 w2:World}{g:Nat}{row Vl:Option Nat}(h:fO w w1 g row)(k:fO w1 w2 g Vl)(hr:Vl=row∨∃b,Vl=some b∧w.heap.size≤b):fO w w2 g row :=
 ⟨Nat.le_trans h.1 k.1,fun i hi hg hn=>by
  refine(k.2 i (Nat.lt_of_lt_of_le hi h.1) hg ?_).trans (h.2 i hi hg hn);rcases hr with rfl|⟨b,rfl,hb⟩
  ·exact hn
  ·intro e;injection e with e;omega⟩
theorem fO.blk {w w1:World}{g g':Nat}{row:Option Nat}{o:Obj}(h:fO w w1 g row)(hb:w.heap[g']?=some o)(hg:g'≠g)(hr:some g'≠row):w1.heap[g']?=some o:=(h.2 g' (PO hb) hg hr).trans hb
theorem fO.own {w w1:World}{g:Nat}{row:Option Nat}{base:Nat}{e:TypeId}{size n:Nat}{v:Value}{xs:List Value}(h:fO w w1 g row)(ho:w.ownsRow base e size v n xs)(hg:v.ownBlock≠some g)(hr:v.ownBlock=none∨v.ownBlock≠row):w1.ownsRow base e size v n xs:=by
 obtain⟨h1,h2⟩:=ho;refine⟨h1,?_⟩;rcases h2 with h2|⟨b,cap,cur,rfl,hb,hh,r⟩
 ·exact .inl h2
 ·refine .inr ⟨b,cap,cur,rfl,hb,h.blk hh ?_ ?_,r⟩
  ·intro e;exact hg (by rw[←e];rfl)
  ·rcases hr with hr|hr
   ·simp[Value.ownBlock]at hr
   ·exact hr
def Ev {α:Type}(g:Nat→Option α)(r:α):Prop:=∃K,∀k,K≤k→g k=some r
theorem Ev.of {α:Type}{g:Nat→Option α}{r:α}(hg:∀k,Ap (g k) (g (k+1))){k:Nat}(h:g k=some r):Ev g r:=⟨k,fun _ hk=>NI hg hk h⟩
theorem Ev.now {α:Type}(r:α):Ev (fun _=>some r) r:=⟨0,fun _ _=>rfl⟩
theorem Ev.rounds {α:Type}{g:Nat→Option α}{r:α}(h:Ev g r):∃k,g k=some r:=by
 obtain⟨K,h⟩:=h;exact⟨K,h K (Nat.le_refl _)⟩
theorem Ev.bind {α β:Type}{g:Nat→Option α}{f:Nat→α→Option β}{a:α}{r:β}(h:Ev g a)(k:Ev (fun n=>f n a) r):Ev (fun n=>(g n).bind (f n)) r:=by
 obtain⟨K,h⟩:=h;obtain⟨K',k⟩:=k;refine⟨max K K',fun n hn=>?_⟩;have h1:=h n (by omega);have h2:=k n (by omega);simp only[h1,Option.bind_some];exact h2
theorem Ev.step {α:Type}{g f:Nat→Option α}{r:α}(h:∀k,g (k+1)=f k)(k:Ev f r):Ev g r:=by
 obtain⟨K,k⟩:=k;refine⟨K+1,fun n hn=>?_⟩;obtain⟨m,rfl⟩:∃m,n=m+1:=⟨n-1,by omega⟩;rw[h];exact k m (by omega)
theorem Ev.congr {α:Type}{g f:Nat→Option α}{r:α}(h:∀k,g k=f k)(k:Ev f r):Ev g r:=by
 obtain⟨K,k⟩:=k;exact⟨K,fun n hn=>(h n).trans (k n hn)⟩
section
variable {P:Program}{ops:Array Oper}{o:Oper}{a:Act}{Q:Exit→Act→World→Prop}{K:Act→World→Prop}
end
theorem xK {w:World}{base base':Nat}{e:TypeId}{size n:Nat}{v:Value}{xs:List Value}(h:w.ownsRow base e size v n xs)(hb:base'≤base):w.ownsRow base' e size v n xs:=by
 obtain⟨h1,h2⟩:=h;refine⟨h1,?_⟩;rcases h2 with h2|⟨g,cap,cur,rfl,hg,r⟩
 ·exact .inl h2
 ·exact .inr ⟨g,cap,cur,rfl,Nat.le_trans hb hg,r⟩
section
variable {α:Type}{enc:α→Value}{d:α}
def Xd (d:α)(xs:List α)(i:Int):α:=xs.getD i.toNat d
def iD (enc:α→Value)(d:α)(w:World)(A:Option Addr)(n:Nat)(xs:List α):Prop :=
 xs.length=n∧n≤9223372036854775807∧(0<n→∃ad,A=some ad∧∀j,j<n→w.cell? (ad.add j)=some (enc (xs.getD j d)))
theorem iD.at_ {w:World}{A:Option Addr}{n:Nat}{xs:List α}(h:iD enc d w A n xs)(i:Int)(h0:0≤i)(h1:i<n):∃ad,A=some ad∧w.cell? (ad.add i.toNat)=some (enc (Xd d xs i)):=by
 obtain⟨ad,e,hc⟩:=h.2.2 (by omega);exact⟨ad,e,hc _ (by omega)⟩
theorem iD.below {w w1:World}{A:Option Addr}{n:Nat}{xs:List α}(h:iD enc d w A n xs)(hb:Below w.heap.size w w1):iD enc d w1 A n xs :=
 ⟨h.1,h.2.1,fun hn=>by
  obtain⟨ad,e,hc⟩:=h.2.2 hn;exact⟨ad,e,fun j hj=>ak hb (hc j hj)⟩⟩
theorem iD.vI {w:World}{A:Option Addr}{n:Nat}{xs:List α}(h:iD enc d w A n xs)(i:Nat)(hi:i≤n):iD enc d w A i (xs.take i):=by
 refine⟨by rw[List.length_take,h.1];omega,by have:=h.2.1;omega,fun hp=>?_⟩;obtain⟨ad,e,hc⟩:=h.2.2 (by omega);refine⟨ad,e,fun j hj=>?_⟩;rw[hc j (by omega)];simp[List.getD_eq_getElem?_getD,hj]
end
section
variable {α:Type}{P:Program}{ops:Array Oper}{rest:List Oper}{o:Oper}{a:Act}{Q:Exit→Act→World→Prop}
end
theorem LY (w:World)(o:Obj):(w.alloc o).heap[w.heap.size]?=some o:=heap_alloc_new w o
section
variable {P:Program}
end
theorem Vm {w:World}{base n m c size:Nat}{e:TypeId}{A:Option Addr}{xs:List Value}(h:w.ownsRow base e size (.slice A m c) n xs):m≤c:=by
 rcases h.2 with⟨he,_⟩|⟨g,cap,cur,he,_,_,hnc,_⟩
 ·injection he with _ h2 h3;omega
 ·injection he with _ h2 h3;omega
def iL {α:Type}(R:α→List Value→Prop)(e:TypeId)(size:Nat)(w:World)(base:Nat)(v:Value)(ps:List α):Prop :=
 ∃inner,w.ownsRow base e size v ps.length inner∧qU R size ps inner
section
variable {α:Type}{R R':α→List Value→Prop}{e:TypeId}{size:Nat}{w w1:World}{base:Nat}{v:Value}{ps:List α}
theorem iL.rG (h:iL R e size w base v ps)(hR:∀p c,R p c→R' p c):iL R' e size w base v ps:=by
 obtain⟨inner,ho,hr⟩:=h;exact⟨inner,ho,hr.rG hR⟩
theorem iL.below (h:iL R e size w base v ps)(hb:Below w.heap.size w w1):iL R e size w1 base v ps:=by
 obtain⟨inner,ho,hr⟩:=h;exact⟨inner,CG ho hb,hr⟩
theorem iL.other (h:iL R e size w base v ps){row:Option Nat}(hg:w.grownBy w1 row)(hne:v.ownBlock=none∨v.ownBlock≠row):iL R e size w1 base v ps:=by
 obtain⟨inner,ho,hr⟩:=h;exact⟨inner,NG ho hg hne,hr⟩
theorem iL.keep (h:iL R e size w base v ps){g:Nat}{t:TypeId}{cells:Array Value}(hb:w.heap[g]?=some (.cells cells t (0,0)))(ht:e≠t)(hk:fO w w1 g none):iL R e size w1 base v ps:=by
 obtain⟨inner,ho,hr⟩:=h;exact⟨inner,hk.own ho (Ne.symm (own_ne ho hb ht)) (by cases v.ownBlock<;>simp),hr⟩
theorem iL.reads (h:iL R e size w base v ps):∃A c,v=.slice A ps.length c∧ps.length≤c∧mF R size w A ps.length ps:=by
 obtain⟨inner,ho,hr⟩:=h;obtain⟨A,c,rfl,hrow⟩:=zB ho hr rfl;exact⟨A,c,rfl,Vm ho,hrow⟩
end
section
variable {P:Program}{ops:Array Oper}{rest:List Oper}{o:Oper}{a:Act}{Q:Exit→Act→World→Prop}{α:Type}{R:α→List Value→Prop}
theorem iL.append {w0 W:World}(base:Nat)(hgd:o.guard=none)(s x:Operand)(t e:TypeId)(z:Value)(size bytes:Nat)
 (ho:o.op=.call { callee:=.builtin .append,args:=#[s,x],argTypes:=#[t,t]})
 (ht:P.underlying t=some (.slice e)) (hinfo:(P.info? e).map (fun i=>(i.zero,i.size,i.bytes))=some (some z,size,bytes)) (hz:z.cells.size=size) (hs0:0<size) (hb0:0<bytes)
 (v:Value) (ps:List α) (p:α) (cs:List Value) (hs:a.eval s=v) (hx:a.eval x=.slice (some ⟨W.heap.size,0,none⟩) 1 1) (hp:R p cs) (hcs:cs.length=size) (h1:∀u∈cs,u.oneCell'=true)
 (HO:iL R e size W base v ps) (HB:Below base w0 W) (hbase:base≤W.heap.size) (hl:(ps.length+1)*bytes≤140737488355328)
 (h:∀v1 w1,iL R e size w1 base v1 (ps++[p])→Below base w0 w1→W.grownBy w1 v.ownBlock→(v1.ownBlock=v.ownBlock∨∃b,v1.ownBlock=some b∧W.heap.size≤b)→wpList P ops Q rest (a.put o.dst v1) w1) :
 wpList P ops Q (o::rest) a (W.alloc (.cells cs.toArray e)):=by
 obtain⟨inner,hown,hr⟩:=HO;refine rH base hgd s x t e z size bytes ho ht hinfo hz hs0 hb0 v ps.length inner cs hs hx hcs h1 hown HB hbase hl ?_;intro v1 w1 hown1 hb1 hg1 YI;exact h v1 w1 ⟨inner++cs,by rw[List.length_append,List.length_singleton];exact hown1,hr.snoc hp hcs⟩ hb1 hg1 YI
end
section
variable {P:Program}{ops:Array Oper}{o:Oper}{a:Act}{Q:Exit→Act→World→Prop}{K:Act→World→Prop}{α:Type}{R:α→List Value→Prop}
end
section
variable {α:Type}{P:Program}
end
section
variable {P:Program}{ops:Array Oper}{rest:List Oper}{o:Oper}{a:Act}{Q:Exit→Act→World→Prop}
end
structure Kd (α:Type) where
 sz:Nat
 E:List Nat
 K:World→α→List Value→Prop
 M:World→Nat→(Nat→Prop)→α→List Value→Prop
 nJ:∀ {w x cs},K w x cs→cs.length=sz
 mG:∀ {w x cs},K w x cs→∀u∈cs,u.oneCell'=true
 iM:∀ {w w1:World} {x cs},Below w.heap.size w w1→K w x cs→K w1 x cs
 jE:∀ {w base ok x cs},M w base ok x cs→K w x cs
 gU:∀ {w base ok ok' x cs},(∀k,ok k→ok' k)→M w base ok x cs→M w base ok' x cs
 iO:∀ {w:World} {base ok x cs},M w base ok x cs→M w base (fun k=>ok k∧base≤k∧k<w.heap.size∧∃q,q∈E∧∃cells,w.heap[k]?=some (.cells cells q (0,0))) x cs
 jf:∀ {w w1:World} {base ok x cs},(∀k,ok k→w1.heap[k]?=w.heap[k]?)→M w base ok x cs→M w1 base ok x cs
 iP:∀ {w base base' ok x cs},base'≤base→M w base ok x cs→M w base' ok x cs
theorem xM {w w1:World}{base:Nat}{e:TypeId}{size n:Nat}{v:Value}{xs:List Value}(h:w.ownsRow base e size v n xs)(hm:∀k,v.ownBlock=some k→w1.heap[k]?=w.heap[k]?):w1.ownsRow base e size v n xs:=by
 obtain⟨h1,h2⟩:=h;refine⟨h1,?_⟩;rcases h2 with h2|⟨g,cap,cur,rfl,hg,hh,r⟩
 ·exact .inl h2
 ·exact .inr ⟨g,cap,cur,rfl,hg,(hm g (by simp[Value.ownBlock])).trans hh,r⟩
theorem NP {w:World}{base:Nat}{e:TypeId}{size n:Nat}{v:Value}{xs:List Value}(h:w.ownsRow base e size v n xs)(k:Nat)(hk:v.ownBlock=some k):∃cells,w.heap[k]?=some (.cells cells e (0,0)):=by
 rcases h.2 with⟨rfl,_⟩|⟨g,cap,cur,rfl,hg,hh,r⟩
 ·simp[Value.ownBlock]at hk
 ·have : g=k:=by simpa[Value.ownBlock]using hk
  subst this;exact⟨cur,hh⟩
namespace Kd
def C {α:Type}(d:Kd α)(w:World)(A:Option Addr)(n:Nat)(xs:List α):Prop:=mF (d.K w) d.sz w A n xs
def R {α:Type}(d:Kd α)(e:Nat)(w:World)(base:Nat)(ok:Nat→Prop)(v:Value)(xs:List α):Prop :=
 (∀k,v.ownBlock=some k→ok k)∧iL (d.M w base (fun k=>ok k∧some k≠v.ownBlock)) e d.sz w base v xs
section
variable {α:Type}{d:Kd α}{e:Nat}{w w1:World}{base:Nat}{ok ok':Nat→Prop}{v:Value}{xs:List α}
theorem Tc {A:Option Addr}{n:Nat}(h:d.C w A n xs)(hb:Below w.heap.size w w1):d.C w1 A n xs:=mF.rG h hb (fun _ _ hp=>d.iM hb hp)
theorem Vo (h:d.R e w base ok v xs)(hok:∀k,ok k→ok' k):d.R e w base ok' v xs:=⟨fun k hk=>hok k (h.1 k hk),h.2.rG (fun _ _ hp=>d.gU (fun k hk=>⟨hok k hk.1,hk.2⟩) hp)⟩
theorem Td (h:d.R e w base ok v xs):d.R e w base (fun k=>ok k∧base≤k∧k<w.heap.size∧∃q,q∈e::d.E∧∃cells,w.heap[k]?=some (.cells cells q (0,0))) v xs:=by
 obtain⟨h0,inner,ho,hr⟩:=h;refine⟨fun k hk=>?_,inner,ho,hr.rG (fun _ _ hp=>d.gU (fun k hk=>?_) (d.iO hp))⟩
 ·obtain⟨cells,hc⟩:=NP ho k hk;exact⟨h0 k hk,own_base ho k hk,uK ho k hk,e,List.mem_cons_self,cells,hc⟩
 ·obtain⟨⟨h1,h2⟩,h3,h4,q,hq,hc⟩:=hk;exact⟨⟨h1,h3,h4,q,List.mem_cons_of_mem _ hq,hc⟩,h2⟩
theorem Vp (h:d.R e w base ok v xs)(hm:∀k,ok k→w1.heap[k]?=w.heap[k]?):d.R e w1 base ok v xs:=by
 obtain⟨h0,inner,ho,hr⟩:=h;exact⟨h0,inner,xM ho (fun k hk=>hm k (h0 k hk)),hr.rG (fun _ _ hp=>d.jf (fun k hk=>hm k hk.1) hp)⟩
theorem Tf {base':Nat}(h:d.R e w base ok v xs)(hb:base'≤base):d.R e w base' ok v xs:=by
 obtain⟨h0,inner,ho,hr⟩:=h;exact⟨h0,inner,xK ho hb,hr.rG (fun _ _ hp=>d.iP hb hp)⟩
theorem Ti (h:d.R e w base ok v xs):∃A c,v=.slice A xs.length c∧xs.length≤c∧d.C w A xs.length xs:=by
 obtain⟨A,c,he,hl,hr⟩:=iL.reads h.2;exact⟨A,c,he,hl,hr.rG (Below.refl _ _) (fun _ _ hp=>d.jE hp)⟩
end
def scalar {α:Type}(enc:α→Value)(h1:∀x,(enc x).oneCell'=true):Kd α where
 sz:=1
 E:=[]
 K:=fun _ x cs=>cs=[enc x]
 M:=fun _ _ _ x cs=>cs=[enc x]
 nJ:=fun h=>by rw[h];rfl
 mG:=fun h u hu=>by
  rw[h]at hu;rw[List.mem_singleton.1 hu];exact h1 _
 iM:=fun _ h=>h
 jE:=fun h=>h
 gU:=fun _ h=>h
 iO:=fun h=>h
 jf:=fun _ h=>h
 iP:=fun _ h=>h
def int (k:IntKind):Kd Int:=scalar (Value.int k) (fun _=>rfl)
def bool:Kd Bool:=scalar Value.bool (fun _=>rfl)
def string:Kd ByteArray:=scalar Value.string (fun _=>rfl)
def slice {α:Type}(e:Nat)(d:Kd α):Kd (List α) where
 sz:=1
 E:=e::d.E
 K:=fun w xs cs=>∃A c,cs=[.slice A xs.length c]∧xs.length≤c∧d.C w A xs.length xs
 M:=fun w base ok xs cs=>∃v,cs=[v]∧d.R e w base ok v xs
 nJ:=by
  rintro w x cs ⟨A,c,rfl,_⟩;rfl
 mG:=by
  rintro w x cs ⟨A,c,rfl,_⟩ u hu;rw[List.mem_singleton.1 hu];rfl
 iM:=by
  rintro w w1 x cs hb ⟨A,c,rfl,hl,hr⟩;exact⟨A,c,rfl,hl,Tc hr hb⟩
 jE:=by
  rintro w base ok x cs ⟨v,rfl,h⟩;obtain⟨A,c,rfl,hl,hr⟩:=Ti h;exact⟨A,c,rfl,hl,hr⟩
 gU:=by
  rintro w base ok ok' x cs hok ⟨v,rfl,h⟩;exact⟨v,rfl,Vo h hok⟩
 iO:=by
  rintro w base ok x cs ⟨v,rfl,h⟩;exact⟨v,rfl,Td h⟩
 jf:=by
  rintro w w1 base ok x cs hm ⟨v,rfl,h⟩;exact⟨v,rfl,Vp h hm⟩
 iP:=by
  rintro w base base' ok x cs hb ⟨v,rfl,h⟩;exact⟨v,rfl,Tf h hb⟩
def bot {α:Type}(sz:Nat)(E:List Nat):Kd α where
 sz:=sz
 E:=E
 K:=fun _ _ _=>False
 M:=fun _ _ _ _ _=>False
 nJ:=fun h=>h.elim
 mG:=fun h=>h.elim
 iM:=fun _ h=>h
 jE:=fun h=>h
 gU:=fun _ h=>h
 iO:=fun h=>h
 jf:=fun _ h=>h
 iP:=fun _ h=>h
def upto {α:Type}(F:Kd α→Kd α)(sz:Nat)(E:List Nat):Nat→Kd α
 |0=>bot sz E
 |n+1=>F (upto F sz E n)
section
variable {P:Program}{ops:Array Oper}{rest:List Oper}{o:Oper}{a:Act}{Q:Exit→Act→World→Prop}{α:Type}
end
section
variable {P:Program}{ops:Array Oper}{o:Oper}{a:Act}{Q:Exit→Act→World→Prop}{Kc:Act→World→Prop}{α:Type}
end
end Kd
namespace Kd
section
variable {α:Type}{F:Kd α→Kd α}{sz:Nat}{E:List Nat}{hs:∀n,(upto F sz E n).sz=sz}{hE:∀n q,q∈(upto F sz E n).E→q∈E}
end
end Kd
namespace Kd
end Kd
namespace Kd
section
variable {α β:Type}{d:Kd α}{d':Kd β}{e e':Nat}{w w1 W:World}{base b b':Nat}{ok ok' ZO ZP:Nat→Prop}{v u:Value}{xs:List α}{ys:List β}
end
section
variable {w W:World}{A:Option Addr}{n:Nat}
variable {α:Type}{enc:α→Value}{h1:∀x,(enc x).oneCell'=true}{e base g cap:Nat}{ok:Nat→Prop}{xs:List α}
end
section
variable {P:Program}{ops:Array Oper}{rest:List Oper}{o:Oper}{a:Act}{Q:Exit→Act→World→Prop}
variable {α:Type}
end
end Kd
theorem PU {w:World}{base n m c size:Nat}{e:TypeId}{A:Option Addr}{xs:List Value}(h:w.ownsRow base e size (.slice A n c) n xs)(hm:m≤n):w.ownsRow base e size (.slice A m c) m (xs.take (m*size)):=by
 obtain⟨h1,h2⟩:=h;refine⟨by rw[List.length_take,h1];exact Nat.min_eq_left (Nat.mul_le_mul_right _ hm),?_⟩;rcases h2 with⟨he,h0⟩|⟨g,cap,cur,he,hb,hh,hnc,hcm,hcs,ht⟩
 ·injection he with ha _ hc;subst ha;subst hc;exact .inl ⟨by rw[show m=0 by omega],by omega⟩
 ·injection he with ha _ hc;subst ha;subst hc;refine .inr ⟨g,c,cur,rfl,hb,hh,by omega,hcm,hcs,?_⟩;rw[←ht,List.take_take,Nat.min_eq_left (Nat.mul_le_mul_right _ hm)]
section
variable {P:Program}
end
def PV (w:World)(base:Nat)(e:TypeId)(size:Nat)(v:Value)(n:Nat)(xs:List Value):Prop :=
 xs.length=n*size ∧
 ((n=0∧∃A,v=.slice A 0 0∧∀a,A=some a→base≤a.block∧∃cur,w.heap[a.block]?=some (.cells cur e (0,0)))∨
  ∃g off cap cur,v=.slice (some ⟨g,off*size,none⟩) n cap∧base≤g∧w.heap[g]?=some (.cells cur e (0,0))∧n≤cap∧off+cap≤maxLen∧cur.size=(off+cap)*size∧(cur.toList.drop (off*size)).take (n*size)=xs)
section
variable {w w1:World}{base n size:Nat}{e:TypeId}{v:Value}{xs:List Value}
theorem Tj (h:PV w base e size v n xs)(k:Nat)(hk:v.ownBlock=some k):base≤k∧∃cells,w.heap[k]?=some (.cells cells e (0,0)):=by
 rcases h.2 with⟨_,A,rfl,hA⟩|⟨g,off,cap,cur,rfl,hg,hh,r⟩
 ·cases A with
  |none=>simp[Value.ownBlock]at hk
  |some a =>
   have : a.block=k:=by simpa[Value.ownBlock]using hk
   subst this;exact hA a rfl
 ·have : g=k:=by simpa[Value.ownBlock]using hk
  subst this;exact⟨hg,cur,hh⟩
theorem Tn (h:PV w base e size v n xs):∃A c,v=.slice A n c∧n≤c:=by
 rcases h.2 with⟨h0,A,rfl,_⟩|⟨g,off,cap,cur,rfl,hg,hh,hnc,r⟩
 ·exact⟨A,0,by rw[h0],by omega⟩
 ·exact⟨_,cap,rfl,hnc⟩
theorem Xe (h:PV w base e size v n xs):n≤9223372036854775807:=by
 rcases h.2 with⟨h0,_⟩|⟨g,off,cap,cur,rfl,hg,hh,hnc,hm,r⟩
 ·omega
 ·simp only[maxLen]at hm;omega
theorem PW (g o j:Nat):(⟨g,o,none⟩:Addr).add j=⟨g,o+j,none⟩:=by unfold Addr.add;split<;>simp_all
theorem LZ {A:Option Addr}{c:Nat}(h:PV w base e size (.slice A n c) n xs)(hn:0<n):∃ad,A=some ad∧∀j u,xs[j]?=some u→w.cell? (ad.add j)=some u:=by
 rcases h.2 with⟨h0,_⟩|⟨g,off,cap,cur,he,hg,hh,hnc,hm,hcs,ht⟩
 ·omega
 ·injection he with ha _ hc;subst ha;refine⟨_,rfl,fun j u hu=>?_⟩;rw[PW,cell_of_row w g _ cur e (0,0) hh];rw[←ht,List.getElem?_take]at hu;split at hu
  ·rw[List.getElem?_drop]at hu;rw[←Array.getElem?_toList];exact hu
  ·cases hu
theorem su {g:Nat}:∀(vs:List Value) (o:Nat) {w:World} (k:Nat),k≠g→(w.setCells g o vs).heap[k]?=w.heap[k]?
 |[],_,_,_,_=>rfl
 |v::r,o,w,k,hk=>by
  rw[World.setCells,su r (o+1) k hk];exact Below.heap_setCell w ⟨g,o,none⟩ v k hk
theorem iy (g:Nat):∀(vs:List Value) (o:Nat) (w:World),(w.setCells g o vs).os=w.os∧(w.setCells g o vs).tape=w.tape∧(w.setCells g o vs).output=w.output∧(w.setCells g o vs).heap.size=w.heap.size
 |[],_,_=>⟨rfl,rfl,rfl,rfl⟩
 |v::r,o,w=>by
  obtain⟨h1,h2,h3,h4⟩:=iy g r (o+1) (w.setCell ⟨g,o,none⟩ v);rw[World.setCells];exact⟨h1,h2,h3,by rw[h4];simp[World.setCell]⟩
theorem sD {g:Nat}{e:TypeId}:∀(vs:List Value) (o:Nat) (w:World) (cur:Array Value),w.heap[g]?=some (.cells cur e (0,0))→o+vs.length≤cur.size →
 ∃cur',(w.setCells g o vs).heap[g]?=some (.cells cur' e (0,0))∧cur'.size=cur.size∧cur'.toList=cur.toList.take o++vs++cur.toList.drop (o+vs.length)
 |[],o,w,cur,h,_=>⟨cur,h,rfl,by simp⟩
 |v::r,o,w,cur,h,hl=>by
  have h2:=xg h o v;simp only[List.length_cons]at hl;obtain⟨cur',h3,h4,h5⟩:=sD r (o+1) (w.setCell ⟨g,o,none⟩ v) _ h2 (by simp;omega);refine⟨cur',h3,by rw[h4];simp,?_⟩;rw[h5,Array.toList_setIfInBounds];have ho:o<cur.toList.length:=by rw[Array.length_toList];omega
  rw[List.take_set,List.drop_set_of_lt (by omega)];simp only[List.length_cons];rw[show o+1+r.length=o+(r.length+1) by omega];congr 1
  rw[List.take_succ_eq_append_getElem ho,List.set_append_right _ _ (by rw[List.length_take];omega)];have ho':o<cur.size:=by omega
  simp[Nat.min_eq_left (Nat.le_of_lt ho')]
end
section
variable {P:Program}
end
namespace Kd
theorem NQ {α:Type}{R:α→List Value→Prop}{size m:Nat}{ps:List α}{cs:List Value}(h:qU R size ps cs)(hm:m≤ps.length):qU R size (ps.take m) (cs.take (m*size)):=by
 refine⟨by rw[List.length_take,List.length_take,h.1,Nat.min_eq_left hm,Nat.min_eq_left (Nat.mul_le_mul_right _ hm)],fun j p hj=>?_⟩;rw[List.getElem?_take]at hj;split at hj
 ·rename_i hjm
  have:=h.2 j p hj;have hle:j*size+size≤m*size:=by rw[←Nat.succ_mul];exact Nat.mul_le_mul_right _ hjm
  rw[List.drop_take,List.take_take,Nat.min_eq_left (by omega)];exact this
 ·cases hj
theorem YJ {α:Type}{d:Kd α}{e m n c:Nat}{w:World}{base:Nat}{ok:Nat→Prop}{A:Option Addr}{xs:List α}(h:d.R e w base ok (.slice A n c) xs)(hm:m≤xs.length):d.R e w base ok (.slice A m c) (xs.take m):=by
 obtain⟨h0,inner,ho,hr⟩:=h;have hn:n=xs.length:=by
  obtain⟨A',c',he⟩:=iW ho;injection he
 subst hn;have hb:∀x y:Nat,(Value.slice A x c).ownBlock=(Value.slice A y c).ownBlock:=by
  intro x y;cases A<;>rfl
 refine⟨fun k hk=>h0 k (by rw[hb _ m];exact hk),inner.take (m*d.sz),?_,?_⟩
 ·rw[List.length_take,Nat.min_eq_left hm];exact PU ho hm
 ·rw[hb m xs.length];exact NQ hr hm
def Q {α:Type}(d:Kd α)(e:Nat)(w:World)(base:Nat)(ok:Nat→Prop)(v:Value)(xs:List α):Prop :=
 (∀k,v.ownBlock=some k→ok k)∧∃inner,PV w base e d.sz v xs.length inner∧qU (d.M w base (fun k=>ok k∧some k≠v.ownBlock)) d.sz xs inner
section
variable {α:Type}{d:Kd α}{e:Nat}{w w1 W:World}{base:Nat}{ok ok':Nat→Prop}{v:Value}{xs:List α}
theorem xO {A:Option Addr}{n c:Nat}(h:d.Q e w base ok (.slice A n c) xs):n=xs.length∧n≤c∧d.C w A xs.length xs:=by
 obtain⟨_,inner,ho,hr⟩:=h;obtain⟨A',c',he,hl⟩:=Tn ho;injection he with h1 h2 h3;subst h1;subst h2;subst h3;refine⟨rfl,hl,rfl,Xe ho,fun hp=>?_⟩;obtain⟨ad,ha,hc⟩:=LZ ho hp;refine⟨ad,ha,fun j p hj=>⟨(inner.drop (j*d.sz)).take d.sz,?_,d.jE (hr.2 j p hj),fun i u hu=>?_⟩⟩
 ·have hjl:=(List.getElem?_eq_some_iff.1 hj).1;have h1:j*d.sz+d.sz≤inner.length:=by rw[hr.1,←Nat.succ_mul];exact Nat.mul_le_mul_right _ hjl
  rw[List.length_take,List.length_drop];omega
 ·refine hc _ u ?_;rw[List.getElem?_take]at hu;split at hu
  ·rw[List.getElem?_drop]at hu;exact hu
  ·cases hu
end
section
variable {P:Program}{ops:Array Oper}{rest:List Oper}{o:Oper}{a:Act}{Q':Exit→Act→World→Prop}{Kc:Act→World→Prop}{α:Type}
end
end Kd
namespace Kd
section
variable {α:Type}{d:Kd α}{e e':Nat}{w w1 W:World}{base:Nat}{ok:Nat→Prop}{u v:Value}{xs:List α}
end
end Kd
theorem sF {α:Type}(a seg:List α)(o:Nat)(h:o+seg.length≤a.length)(q:Nat) :
 (a.take o++seg++a.drop (o+seg.length))[q]?=if q<o then a[q]? else if q<o+seg.length then seg[q-o]? else a[q]?:=by
 have hl:(a.take o).length=o:=by rw[List.length_take];omega
 rw[List.append_assoc];by_cases h1:q<o
 ·rw[if_pos h1,List.getElem?_append_left (by omega),List.getElem?_take,if_pos h1]
 ·rw[if_neg h1,List.getElem?_append_right (by omega),hl];by_cases h2:q<o+seg.length
  ·rw[if_pos h2,List.getElem?_append_left (by omega)]
  ·rw[if_neg h2,List.getElem?_append_right (by omega),List.getElem?_drop];congr 1
   omega
namespace Kd
section
variable {α:Type}{d:Kd α}{e base g n cap:Nat}{ok U1:Nat→Prop}{W:World}{xs:List α}
end
end Kd
namespace Kd
def fixed {α:Type}(d:Kd α)(w0:World):Kd α where
 sz:=d.sz
 E:=[]
 K:=fun _ x cs=>d.K w0 x cs
 M:=fun _ _ _ x cs=>d.K w0 x cs
 nJ:=d.nJ
 mG:=d.mG
 iM:=fun _ h=>h
 jE:=fun h=>h
 gU:=fun _ h=>h
 iO:=fun h=>h
 jf:=fun _ h=>h
 iP:=fun _ h=>h
def or_ {α:Type}(a b:Kd α)(h:b.sz=a.sz):Kd α where
 sz:=a.sz
 E:=a.E++b.E
 K:=fun w x cs=>a.K w x cs∨b.K w x cs
 M:=fun w base ok x cs=>a.M w base ok x cs∨b.M w base ok x cs
 nJ:=fun hk=>hk.elim a.nJ (fun hk=>(b.nJ hk).trans h)
 mG:=fun hk=>hk.elim a.mG b.mG
 iM:=fun hb hk=>hk.imp (a.iM hb) (b.iM hb)
 jE:=fun hk=>hk.imp a.jE b.jE
 gU:=fun hok hk=>hk.imp (a.gU hok) (b.gU hok)
 iO:=fun hk=>hk.imp
  (fun hk=>a.gU (fun _ ⟨h1,h2,h3,q,hq,hc⟩=>⟨h1,h2,h3,q,List.mem_append_left _ hq,hc⟩) (a.iO hk))
  (fun hk=>b.gU (fun _ ⟨h1,h2,h3,q,hq,hc⟩=>⟨h1,h2,h3,q,List.mem_append_right _ hq,hc⟩) (b.iO hk))
 jf:=fun hm hk=>hk.imp (a.jf hm) (b.jf hm)
 iP:=fun hb hk=>hk.imp (a.iP hb) (b.iP hb)
section
variable {α:Type}{F:Kd α→Kd α}{sz:Nat}{E:List Nat}{hs:∀n,(upto F sz E n).sz=sz}{hE:∀n q,q∈(upto F sz E n).E→q∈E}
end
end Kd
namespace Kd
section
variable {P:Program}{ops:Array Oper}{rest:List Oper}{o:Oper}{a:Act}{Q:Exit→Act→World→Prop}{α:Type}
end
end Kd
namespace Kd
section
variable {P:Program}{ops:Array Oper}{rest:List Oper}{o:Oper}{a:Act}{Q:Exit→Act→World→Prop}{α:Type}
end
end Kd
namespace Kd
section
variable {α:Type}{k:Kd α}{w:World}{A:Option Addr}{xs:List α}{m c:Nat}
end
end Kd
section
variable {P:Program}
end
theorem fV.nil (W:World)(k:IntKind):fV W k none ([]:List Int).length []:=⟨rfl,by simp,fun h=>absurd h (Nat.lt_irrefl 0)⟩
theorem fV.drewN {W:World}{k:IntKind}{A:Option Addr}{n:Nat}{xs:List Int}(h:fV W k A n xs)(m:Nat):fV (W.drewN m) k A n xs:=h
theorem Aq {w W:World}{g:Nat}(h:fO w W g none){a:Addr}{v:Value}(hc:w.cell? a=some v)(hne:a.block≠g):W.cell? a=some v:=by
 have:=h.2 a.block (World.block_lt_of_cell? w a hc) hne (by simp);simpa[World.cell?,this]using hc
theorem add_block (a:Addr)(i:Nat):(a.add i).block=a.block:=by unfold Addr.add;split<;>rfl
theorem iD.nil {α:Type}(enc:α→Value)(d:α)(W:World):iD enc d W none ([]:List α).length []:=⟨rfl,by simp,fun h=>absurd h (Nat.lt_irrefl 0)⟩
theorem iD.drewN {α:Type}{enc:α→Value}{d:α}{W:World}{A:Option Addr}{n:Nat}{xs:List α}(h:iD enc d W A n xs)(m:Nat):iD enc d (W.drewN m) A n xs:=h
theorem fV.keep {w W:World}{k:IntKind}{A:Option Addr}{n g:Nat}{xs:List Int}(h:fV w k A n xs)(hk:fO w W g none)(hf:∀ad,A=some ad→0<n→ad.block≠g):fV W k A n xs :=
 ⟨h.1,h.2.1,fun hn=>by
  obtain⟨ad,e,hc⟩:=h.2.2 hn;exact⟨ad,e,fun j hj=>Aq hk (hc j hj) (by rw[add_block];exact hf ad e hn)⟩⟩
theorem iD.keep {α:Type}{enc:α→Value}{d:α}{w W:World}{A:Option Addr}{n g:Nat}{xs:List α}(h:iD enc d w A n xs)(hk:fO w W g none)(hf:∀ad,A=some ad→0<n→ad.block≠g):iD enc d W A n xs :=
 ⟨h.1,h.2.1,fun hn=>by
  obtain⟨ad,e,hc⟩:=h.2.2 hn;exact⟨ad,e,fun j hj=>Aq hk (hc j hj) (by rw[add_block];exact hf ad e hn)⟩⟩
namespace Kd
section
variable {α β:Type}{d:Kd α}{d':Kd β}{e e' base base' n:Nat}{ok ok':Nat→Prop}{w W w1 W1:World}{v u:Value}{xs:List α}{ys:List β}{A:Option Addr}{c:Nat}
end
section
variable {α:Type}{enc:α→Value}{h1:∀x,(enc x).oneCell'=true}{w W:World}{A:Option Addr}{n g:Nat}{xs:List α}
end
end Kd
namespace Kd
section
variable {α:Type}{d:Kd α}{e base g:Nat}{ok:Nat→Prop}{w w1:World}{v:Value}{xs:List α}{o:Obj}
end
end Kd
section
variable {P:Program}{ops:Array Oper}{rest:List Oper}{o:Oper}{a:Act}{Q:Exit→Act→World→Prop}
end
namespace Kd
section
variable {α:Type}{enc:α→Value}{h1:∀x,(enc x).oneCell'=true}{e base g n cap:Nat}{ok:Nat→Prop}{W:World}{xs:List α}
end
end Kd
section
variable {P:Program}{ops:Array Oper}{rest:List Oper}{o:Oper}{a:Act}{Q:Exit→Act→World→Prop}
end
namespace Kd
section
variable {α:Type}{enc:α→Value}{h1:∀x,(enc x).oneCell'=true}{e base g n cap:Nat}{ok:Nat→Prop}{W:World}{xs:List α}
end
end Kd
section
variable {P:Program}{ops:Array Oper}{rest:List Oper}{o:Oper}{a:Act}{Q:Exit→Act→World→Prop}{W:World}
end
section
variable {P:Program}{ops:Array Oper}{o:Oper}{a:Act}{Q:Exit→Act→World→Prop}{Kc:Act→World→Prop}
namespace Kd
variable {α:Type}
end Kd
end
section
variable {P:Program}{tmps:Array Value}{w:World}
end
namespace Kd
section
variable {P:Program}{α:Type}
end
section
variable {P:Program}{ops:Array Oper}{rest:List Oper}{o:Oper}{a:Act}{Q:Exit→Act→World→Prop}{Kc:Act→World→Prop}{α:Type}
end
end Kd
end
end Go.Proofs.YtandhagfhppgaaaGreatDoor
