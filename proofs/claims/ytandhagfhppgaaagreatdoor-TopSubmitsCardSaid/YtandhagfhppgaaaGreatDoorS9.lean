/- Part 9 of a proof: contracts of the functions that the law reaches. No condition. -/
import Derived.Test.YtandhagfhppgaaaGreatDoorS7
import Derived.Test.YtandhagfhppgaaaGreatDoorS8
set_option linter.all false
set_option maxRecDepth 100000
set_option maxHeartbeats 16000000
namespace Go.Proofs.YtandhagfhppgaaaGreatDoor
section
open Go.RowKit
section
variable {w0 w:World}{L:List bW}
theorem J.cell_of (H0:Has w0 w L)(ij:Nat){g c n:Nat}{js:List J}(hj:L[ij]?=some (aS (.slice (some ⟨g,0,none⟩) n c) js))(k:Nat)(j:J)(hk:js[k]?=some j):w.rangeAt g (k*26) j.cells.toList:=by
 obtain⟨g2,c2,hv2,hr2,_⟩:=dN H0 ij hj k j hk;injection hv2 with e1 e2 e3;injection e1 with e1;injection e1 with e1;subst e1;exact hr2
theorem LX (H0:Has w0 w L)(ij:Nat){g c n:Nat}{js:List J}(hj:L[ij]?=some (aS (.slice (some ⟨g,0,none⟩) n c) js))(k:Nat)(j:J)(hk:js[k]?=some j):k<n:=by
 obtain⟨A,c',e⟩:=iW H0 ij hj;injection e with _ e2 _;rw[e2];exact(List.getElem?_eq_some_iff.1 hk).1
theorem zx (H0:Has w0 w L)(it ij:Nat){p g n c:Nat}{tcs:Array Value}{js:List J}(hit:L[it]?=some (aF p (.cells tcs 122)))(hj:L[ij]?=some (aS (.slice (some ⟨g,0,none⟩) n c) js))(hc:tcs[12]?=some (.slice (some ⟨g,0,none⟩) n c))(hn:n≤1000)
 (k:Nat) (j:J) (hk:js[k]?=some j) (now:Int) (h1:j.since≤now) (h2:j.started≤now) (h3:now≤1099511627776) (hq:tcs[3]?=some (.int .i64 2)) :
 Calls Tryz.prog 67 #[.pointer (some ⟨p,0,none⟩),.int .u32 ((k:Int)+1),.int .i64 now] w fun e w'=>((j.how=3∨j.how=4)∧¬2<j.runs∧e=.returned (.int .i64 0)∧Has w0 w' (L.set ij (aS (.slice (some ⟨g,0,none⟩) n c) (js.set k { (j.back now)with how:=1}))))∨
  ((j.how=3∨j.how=4)∧2<j.runs∧e=.returned (.int .i64 5)∧Has w0 w' L)∨(¬(j.how=3∨j.how=4)∧e=.returned (.int .i64 130)∧Has w0 w' L):=by
 have HA:=ah.mk (H0.alloc (.cells #[.int .i64 3,.int .i64 4] 3));have hz:∀i,i<([3,4]:List Int).length→(w.alloc (.cells #[.int .i64 3,.int .i64 4] 3)).cell? ⟨w.heap.size,0+i,none⟩=some (.int .i64 (([3,4]:List Int).getD i 0)):=fun i hi=>by
  rw[aj (heap_alloc_new w _)];rcases(by simp at hi;omega:i=0∨i=1)with rfl|rfl<;>simp
 have HZ:=ah.mk hz;have IY:ah ((w.alloc (.cells #[.int .i64 3,.int .i64 4] 3)).cell? ⟨p,12,none⟩=some (.slice (some ⟨g,0,none⟩) n c)):=ah.mk (ak (au (Below.refl _ _) _) (by rw[aj (Has.blk H0 it hit) 12];exact hc));have c3:(w.alloc (.cells #[.int .i64 3,.int .i64 4] 3)).cell? ⟨p,3,none⟩=some (.int .i64 2):=ak (au (Below.refl _ _) _) (by rw[aj (Has.blk H0 it hit) 3];exact hq);have KL:=ah.mk (LX H0 ij hj k j hk);have hr:=J.cell_of HA.out ij hj k j hk;have R:=ah.mk hr;have c19:=dh hr 19 _ rfl;have Yx:=dh hr 22 _ rfl;have G:=ah.mk (And.intro hit (And.intro hj (And.intro hc hk)));clear hr hz H0 hit hj hc hk hq;by_cases hy:([3,4]:List Int).contains j.how=true
 ·have hy2:j.how=3∨j.how=4:=by simpa using hy
  have HY:=ah.mk hy;have CT:ah (∀q,Calls Tryz.prog 115 #[.slice (some ⟨w.heap.size,0,none⟩) 2 2,.int .i64 j.how] ((w.alloc (.cells #[.int .i64 3,.int .i64 4] 3)).drewN q) fun e w'=>e=.returned (.bool true)∧w'=(w.alloc (.cells #[.int .i64 3,.int .i64 4] 3)).drewN q):=ah.mk fun q =>
   (Tryz.slices_Contains_int w.heap.size 0 2 2 [3,4] j.how _ (by decide) (by decide) (fun i hi=>ak (aC (Below.refl _ _) q) (HZ.out i hi))).mono fun e w' h=>by rw[show([3,4]:List Int).take 2=[3,4]from rfl,HY.out]at h;exact h
  have LT:ah (∀q,Calls Tryz.prog 114 #[.pointer (some ⟨g,k*26,none⟩),.int .i64 now] ((w.alloc (.cells #[.int .i64 3,.int .i64 4] 3)).drewN q) fun e w'=>e=.returned (.bool false)∧∃m,w'=((w.alloc (.cells #[.int .i64 3,.int .i64 4] 3)).drewN q).drewN m):=ah.mk fun q=>Iw j now (fun i v hv=>ak (aC (Below.refl _ _) q) (R.out i v hv)) h1 h2 h3;clear hy;by_cases hr2:2<j.runs
  ·suffices h:Calls Tryz.prog 67 #[.pointer (some ⟨p,0,none⟩),.int .u32 ((k:Int)+1),.int .i64 now] w fun e w'=>e=.returned (.int .i64 5)∧Has w0 w' L from h.mono fun e w' h=>.inr (.inl ⟨hy2,hr2,h⟩)
   clear hy2;go_enter Tryz.func67,Tryz.ntmps67;go_wp2_with (go_at_call 95;refine(eF k IY.out KL.out hn).mono ?_;rintro e w' ⟨rfl,hw⟩;obtain rfl:=hw.symm;clear hw)
   go_quiet ((first
    |(go_at_call 115;exact Calls.quiet_of_same (CT.out _))|(go_at_call 114;exact Calls.quiet_of (LT.out _))))
   go_wp2_with fail
   go_ret;exact⟨rfl,HA.out.drewN _⟩
  ·suffices h:Calls Tryz.prog 67 #[.pointer (some ⟨p,0,none⟩),.int .u32 ((k:Int)+1),.int .i64 now] w fun e w'=>e=.returned (.int .i64 0)∧Has w0 w' (L.set ij (aS (.slice (some ⟨g,0,none⟩) n c) (js.set k { (j.back now)with how:=1})))from h.mono fun e w' h=>.inl ⟨hy2,hr2,h⟩
   have Y:=ah.mk fun q=>BU (cf:=2) (HA.out.drewN q) it ij G.out.1 G.out.2.1 G.out.2.2.1 hn k j G.out.2.2.2 now h1 h2 h3 [3,4] (by decide) (fun i hi=>ak (aC (Below.refl _ _) q) (HZ.out i hi)) 1 HY.out;clear hy2;go_enter Tryz.func67,Tryz.ntmps67;go_wp2_with (go_at_call 95;refine(eF k IY.out KL.out hn).mono ?_;rintro e w' ⟨rfl,hw⟩;obtain rfl:=hw.symm;clear hw)
   go_quiet ((first
    |(go_at_call 115;exact Calls.quiet_of_same (CT.out _))|(go_at_call 114;exact Calls.quiet_of (LT.out _))))
   go_wp2_with (go_at_call 64;refine(Y.out _).mono ?_;rintro e w2 ⟨rfl,hs⟩;have H2:=ah.mk hs;clear hs)
   go_ret;exact⟨rfl,H2.out⟩
 ·have hy1:([3,4]:List Int).contains j.how=false:=by simpa using hy
  have hy2:¬(j.how=3∨j.how=4):=by simpa using hy1
  have HY:=ah.mk hy1;have CT:ah (∀q,Calls Tryz.prog 115 #[.slice (some ⟨w.heap.size,0,none⟩) 2 2,.int .i64 j.how] ((w.alloc (.cells #[.int .i64 3,.int .i64 4] 3)).drewN q) fun e w'=>e=.returned (.bool false)∧w'=(w.alloc (.cells #[.int .i64 3,.int .i64 4] 3)).drewN q):=ah.mk fun q =>
   (Tryz.slices_Contains_int w.heap.size 0 2 2 [3,4] j.how _ (by decide) (by decide) (fun i hi=>ak (aC (Below.refl _ _) q) (HZ.out i hi))).mono fun e w' h=>by rw[show([3,4]:List Int).take 2=[3,4]from rfl,HY.out]at h;exact h
  have LT:ah (∀q,Calls Tryz.prog 114 #[.pointer (some ⟨g,k*26,none⟩),.int .i64 now] ((w.alloc (.cells #[.int .i64 3,.int .i64 4] 3)).drewN q) fun e w'=>e=.returned (.bool false)∧∃m,w'=((w.alloc (.cells #[.int .i64 3,.int .i64 4] 3)).drewN q).drewN m):=ah.mk fun q=>Iw j now (fun i v hv=>ak (aC (Below.refl _ _) q) (R.out i v hv)) h1 h2 h3;suffices h:Calls Tryz.prog 67 #[.pointer (some ⟨p,0,none⟩),.int .u32 ((k:Int)+1),.int .i64 now] w fun e w'=>e=.returned (.int .i64 130)∧Has w0 w' L from h.mono fun e w' h=>.inr (.inr ⟨hy2,h⟩)
  have Y:=ah.mk fun q=>kZ (cf:=2) (HA.out.drewN q) it ij G.out.1 G.out.2.1 G.out.2.2.1 hn k j G.out.2.2.2 now h1 h2 h3 (.func (.func 117) #[] #[]) [3,4] (by decide) (fun i hi=>ak (aC (Below.refl _ _) q) (HZ.out i hi)) 1 HY.out;clear hy hy1 hy2;go_enter Tryz.func67,Tryz.ntmps67;go_wp2_with (go_at_call 95;refine(eF k IY.out KL.out hn).mono ?_;rintro e w' ⟨rfl,hw⟩;obtain rfl:=hw.symm;clear hw)
  go_quiet ((first
   |(go_at_call 115;exact Calls.quiet_of_same (CT.out _))|(go_at_call 114;exact Calls.quiet_of (LT.out _))))
  go_wp2_with (go_at_call 64;refine(Y.out _).mono ?_;rintro e w2 ⟨rfl,hs⟩;have H2:=ah.mk hs;clear hs)
  go_ret;exact⟨rfl,H2.out⟩
end
end
section
open Go.RowKit
def ord (n:Nat):Nat:=Lib.bitLen (n-1)
theorem lU {n:Nat}(h1:1≤n)(h2:n≤8):ord n≤3∧n≤2^ord n:=by
 rcases(by omega:n=1∨n=2∨n=3∨n=4∨n=5∨n=6∨n=7∨n=8)with rfl|rfl|rfl|rfl|rfl|rfl|rfl|rfl<;>decide
theorem PK (n:Nat)(h1:1≤n)(h2:n≤8)(w:World) :
 Calls Tryz.prog 139 #[.int .i64 n] w fun e w'=>e=.returned (.tuple #[.int .i64 ((2^ord n:Nat):Int),.int .i64 (ord n:Nat)])∧w'=w:=by
 rcases(by omega:n=1∨n=2∨n=3∨n=4∨n=5∨n=6∨n=7∨n=8)with rfl|rfl|rfl|rfl|rfl|rfl|rfl|rfl;all_goals
  go_enter Tryz.func139,Tryz.ntmps139;go_wp2_with (go_at_call 199;refine(Tryz.bits_Len64 _ _ (by decide) (by decide)).mono ?_;rintro e w' ⟨rfl,hw⟩;obtain rfl:=hw.symm;clear hw)
  refine bodyPost_ret (results_tmp2 rfl _ _ _) rfl ?_;exact⟨by simp[ord,show Lib.bitLen 0=0 by decide,show Lib.bitLen 1=1 by decide,show Lib.bitLen 2=2 by decide,show Lib.bitLen 3=2 by decide,show Lib.bitLen 4=3 by decide,show Lib.bitLen 5=3 by decide,show Lib.bitLen 6=3 by decide,show Lib.bitLen 7=3 by decide,wrap64],rfl⟩
theorem nI (n:Nat)(h1:1≤n)(h2:n≤8)(z q:Nat)(hz:z=2^ord n)(hq:q=ord n)(w:World) :
 Calls Tryz.prog 139 #[.int .i64 n] w fun e w'=>e=.returned (.tuple #[.int .i64 (z:Int),.int .i64 (q:Int)])∧w'=w:=by
 subst hz hq;exact PK n h1 h2 w
section
variable {w0 w:World}{L:List bW}
theorem o9 (H0:Has w0 w L)(it ij:Nat){p g n c:Nat}{tcs:Array Value}{js:List J}(hit:L[it]?=some (aF p (.cells tcs 122)))(hj:L[ij]?=some (aS (.slice (some ⟨g,0,none⟩) n c) js))(hc:tcs[12]?=some (.slice (some ⟨g,0,none⟩) n c))(hn:n≤1000)
 (k:Nat) (j:J) (hk:js[k]?=some j) (now:Int) (h1:j.since≤now) (h2:j.started≤now) (h3:now≤1099511627776) (r1:0≤j.runs) (r2:j.runs≤1000) (hs1:1≤j.s.size) (hs2:j.s.size≤8) (s:Nat) (hs8:s≤7) (hsd:s%2^ord j.s.size=0) :
 Calls Tryz.prog 143 #[.pointer (some ⟨p,0,none⟩),.int .u32 ((k:Int)+1),.int .i64 now,.agg #[.int .i64 s,.int .i64 (ord j.s.size:Nat)]] w fun e w'=>(j.how=1∧e=.returned (.int .i64 0)∧Has w0 w' (L.set ij (aS (.slice (some ⟨g,0,none⟩) n c) (js.set k { (j.go now s (ord j.s.size:Nat))with how:=3}))))∨(¬j.how=1∧e=.returned (.int .i64 130)∧Has w0 w' L):=by
 obtain⟨q,hq⟩:∃q,q=ord j.s.size:=⟨_,rfl⟩;obtain⟨z,hzz⟩:∃z,z=2^ord j.s.size:=⟨_,rfl⟩;obtain⟨o,ho⟩:∃o:Int,o=(q:Int):=⟨_,rfl⟩;obtain⟨sz,hsz⟩:∃sz,sz=j.s.size:=⟨_,rfl⟩;have hq3:q≤3:=by rw[hq];exact(lU hs1 hs2).1
 rw[←hzz]at hsd;rw[←hq];have HA:=(H0.alloc (.cells #[.int .i64 s,.int .i64 o] 53)).alloc (.cells #[.int .i64 1] 3);have hz:∀i,i<([1]:List Int).length→((w.alloc (.cells #[.int .i64 s,.int .i64 o] 53)).alloc (.cells #[.int .i64 1] 3)).cell? ⟨w.heap.size+1,0+i,none⟩=some (.int .i64 (([1]:List Int).getD i 0)):=fun i hi=>by
  rw[aj (heap_alloc2_new w _ _)];obtain rfl:i=0:=by simpa using hi
  rfl
 have hb0:((w.alloc (.cells #[.int .i64 s,.int .i64 o] 53)).alloc (.cells #[.int .i64 1] 3)).cell? ⟨w.heap.size,0,none⟩=some (.int .i64 s):=ak (au (Below.refl _ _) _) (by rw[aj (heap_alloc_new w _)];rfl);have hb1:((w.alloc (.cells #[.int .i64 s,.int .i64 o] 53)).alloc (.cells #[.int .i64 1] 3)).cell? ⟨w.heap.size,1,none⟩=some (.int .i64 o):=ak (au (Below.refl _ _) _) (by rw[aj (heap_alloc_new w _)];rfl);have IY:ah ((w.alloc (.cells #[.int .i64 s,.int .i64 o] 53)).cell? ⟨p,12,none⟩=some (.slice (some ⟨g,0,none⟩) n c)):=ah.mk (ak (au (Below.refl _ _) _) (by rw[aj (Has.blk H0 it hit) 12];exact hc));have KL:=ah.mk (LX H0 ij hj k j hk);have c7:=dh (J.cell_of (H0.alloc (.cells #[.int .i64 s,.int .i64 o] 53)) ij hj k j hk) 7 _ rfl;rw[←hsz]at c7 hs1 hs2 hq hzz;have HUP:=fun W=>nI sz hs1 hs2 z q hzz hq W;have hmod:Int.tmod (s:Int) (z:Int)=0:=by
  have : Int.tmod (s:Int) (z:Int)=((s%z:Nat):Int):=(Int.ofNat_tmod s z).symm;rw[this,hsd];rfl
 have hpos:¬(z:Int)=0:=by
  have : 0<2^ord sz:=Nat.pos_of_ne_zero (by simp);omega
 rw[←ho];have YES:=fun hy=>ah.mk (Iz (cf:=1) HA it ij hit hj hc hn k j hk now h1 h2 h3 s o w.heap.size hb0 hb1 r1 r2 [1] (by decide) hz 3 hy);have NO:=fun hy=>ah.mk (kZ (cf:=1) HA it ij hit hj hc hn k j hk now h1 h2 h3 (.func (.func 205) #[] #[.pointer (some ⟨w.heap.size,0,none⟩)]) [1] (by decide) hz 3 hy);clear hz hb0 hb1 HA H0 hit hj hc hk hsz hsd hs1 hs2 hq hzz;have hoq:(o==(q:Int))=true:=by rw[ho];simp
 have hoq2:(o != (q:Int))=false:=by rw[ho];simp
 clear ho;by_cases hy:([1]:List Int).contains j.how=true
 ·have hy2:j.how=1:=by simpa using hy
  have Y:=YES hy;clear YES NO hy;suffices h:Calls Tryz.prog 143 #[.pointer (some ⟨p,0,none⟩),.int .u32 ((k:Int)+1),.int .i64 now,.agg #[.int .i64 s,.int .i64 o]] w fun e w'=>e=.returned (.int .i64 0)∧Has w0 w' (L.set ij (aS (.slice (some ⟨g,0,none⟩) n c) (js.set k { (j.go now s o)with how:=3})))from h.mono fun e w' h=>.inl ⟨hy2,h⟩
  clear hy2;go_enter Tryz.func143,Tryz.ntmps143;go_wp2_with (first|(go_at_call 64;refine Y.out.mono ?_;rintro e w2 ⟨rfl,hs⟩;have H2:=ah.mk hs;clear hs)|(go_at_call 139;refine(HUP _).mono ?_;rintro e w' ⟨rfl,hw⟩;obtain rfl:=hw.symm;clear hw)|(go_at_call 95;refine(eF k IY.out KL.out hn).mono ?_;rintro e w' ⟨rfl,hw⟩;obtain rfl:=hw.symm;clear hw))
  go_ret;exact⟨rfl,H2.out⟩
 ·have hy1:([1]:List Int).contains j.how=false:=by simpa using hy
  have hy2:¬j.how=1:=by simpa using hy1
  have Y:=NO hy1;clear YES NO hy hy1;suffices h:Calls Tryz.prog 143 #[.pointer (some ⟨p,0,none⟩),.int .u32 ((k:Int)+1),.int .i64 now,.agg #[.int .i64 s,.int .i64 o]] w fun e w'=>e=.returned (.int .i64 130)∧Has w0 w' L from h.mono fun e w' h=>.inr ⟨hy2,h⟩
  clear hy2;go_enter Tryz.func143,Tryz.ntmps143;go_wp2_with (first|(go_at_call 64;refine Y.out.mono ?_;rintro e w2 ⟨rfl,hs⟩;have H2:=ah.mk hs;clear hs)|(go_at_call 139;refine(HUP _).mono ?_;rintro e w' ⟨rfl,hw⟩;obtain rfl:=hw.symm;clear hw)|(go_at_call 95;refine(eF k IY.out KL.out hn).mono ?_;rintro e w' ⟨rfl,hw⟩;obtain rfl:=hw.symm;clear hw))
  go_ret;exact⟨rfl,H2.out⟩
end
end
section
open Go.RowKit
def J.on (j:J):Bool:=j.how==3||j.how==4
def J.pay (j:J)(now:Int):Int:=if j.how=3 then(j.ran+(now-j.started))*2^j.order.toNat else if j.how=4 then j.ran*2^j.order.toNat else 0
def paid (bk:List Ch):Int:=(bk.map fun c=>(c.workers:Int)*c.seconds).sum
def pays (js:List J)(now:Int):Int:=(js.map fun j=>j.pay now).sum
def Ae (js:List J):Nat:=(js.map fun j=>if j.on then 1 else 0).sum
def vF (js:List J):Int:=(js.map fun j=>j.runs).sum
def J.load (j:J):Int:=if j.how=3 then 2^j.order.toNat else 0
def loads (js:List J):Int:=(js.map fun j=>j.load).sum
def Spec.ok (s:Spec):Prop:=(s.account=aU∨s.account=bP)∧(s.qos=bC∨s.qos=dZ)∧1≤s.size∧s.size≤8∧1≤s.limit∧s.limit≤20
structure J.ok (now:Int)(k:Nat)(j:J):Prop where
 id:j.id=k+1
 spec:j.s.ok
 Nv:1≤j.how
 Nw:j.how≤9
 pq:0≤j.since
 since:j.since≤now
 fV:0≤j.started
 started:j.started≤now
 rY:0≤j.ran
 ran:j.ran≤now
 pz:0≤j.runs
 pF:j.runs≤3
 wait:j.how=1∨j.how=2→j.runs≤2
 run:j.how=3→j.ran≤j.started
 block:j.how=3∨j.how=4→j.order=(ord j.s.size:Nat)∧∃s:Nat,j.start=s∧s≤7∧s%2^ord j.s.size=0
 place:0≤j.start∧j.start≤7
structure Ch.ok (now:Int)(c:Ch):Prop where
 id1:1≤c.id
 id2:c.id≤500
 account:c.account=aU∨c.account=bP
 ET:1≤c.workers
 workers:c.workers≤8
 pG:0≤c.seconds
 seconds:c.seconds≤now
 how:c.how=0∨c.how=5∨c.how=6∨c.how=7∨c.how=8
 at0:0≤c.at_
 WQ:c.at_≤now
structure dL (now:Int)(js:List J)(bk:List Ch):Prop where
 uH:0≤now
 qQ:now≤1000000
 len:js.length≤500
 jobs:∀(k:Nat) (j:J),js[k]?=some j→j.ok now k
 UW:∀c:Ch,c∈bk→c.ok now
 book:(bk.length:Int)+Ae js=vF js
theorem CB {α:Type}(f:α→Int):∀(l:List α) (k:Nat) (x y:α),l[k]?=some x→((l.set k y).map f).sum=(l.map f).sum-f x+f y
 |[],k,x,y,h=>by simp at h
 |z::l,0,x,y,h=>by simp at h;subst h;simp;omega
 |z::l,k+1,x,y,h=>by
  have:=CB f l k x y (by simpa using h);simp only[List.set_cons_succ,List.map_cons,List.sum_cons,this];omega
theorem xC {α:Type}(f:α→Nat):∀(l:List α) (k:Nat) (x y:α),l[k]?=some x→((l.set k y).map f).sum+f x=(l.map f).sum+f y
 |[],k,x,y,h=>by simp at h
 |z::l,0,x,y,h=>by simp at h;subst h;simp;omega
 |z::l,k+1,x,y,h=>by
  have:=xC f l k x y (by simpa using h);simp only[List.set_cons_succ,List.map_cons,List.sum_cons];omega
theorem EU {js:List J}{k:Nat}{j:J}(h:js[k]?=some j)(j':J)(now:Int):pays (js.set k j') now=pays js now-j.pay now+j'.pay now:=CB _ js k j j' h
theorem EW {js:List J}{k:Nat}{j:J}(h:js[k]?=some j)(j':J):vF (js.set k j')=vF js-j.runs+j'.runs:=CB _ js k j j' h
theorem uI {js:List J}{k:Nat}{j:J}(h:js[k]?=some j)(j':J):Ae (js.set k j')+(if j.on then 1 else 0)=Ae js+(if j'.on then 1 else 0):=xC _ js k j j' h
theorem LY {js:List J}{k:Nat}{j':J}{P:Nat→J→Prop}(h:∀i j,js[i]?=some j→P i j)(hk:k<js.length→P k j'):∀i j,(js.set k j')[i]?=some j→P i j:=fun i j hi=>by
 rw[List.getElem?_set]at hi;split at hi
 ·split at hi
  ·rename_i e hlt
   subst e;cases hi;exact hk hlt
  ·cases hi
 ·exact h i j hi
theorem dL.set {now:Int}{js:List J}{bk:List Ch}(G:dL now js bk){k:Nat}{j:J}(hk:js[k]?=some j)(j':J)(hj:j'.ok now k)(hr:j'.runs+(if j.on then 1 else 0)=j.runs+(if j'.on then 1 else 0)):dL now (js.set k j') bk:=by
 refine⟨G.uH,G.qQ,by simpa using G.len,LY G.jobs fun _=>hj,G.UW,?_⟩;have h1:=uI hk j';have h2:=EW hk j';have h3:=G.book;rw[h2];cases hon:j.on<;>cases Y3:j'.on<;>simp[hon,Y3]at h1 hr<;>omega
theorem dL.iY {now:Int}{js:List J}{bk:List Ch}(G:dL now js bk){k:Nat}{j:J}(hk:js[k]?=some j)(j':J)(c:Ch)(hj:j'.ok now k)(hon:j.on=true)(hoff:j'.on=false)(hr:j'.runs=j.runs)(hc:c.ok now):dL now (js.set k j') (bk++[c]):=by
 refine⟨G.uH,G.qQ,by simpa using G.len,LY G.jobs fun _=>hj,fun x hx=>?_,?_⟩
 ·rcases List.mem_append.1 hx with h|h
  ·exact G.UW x h
  ·obtain rfl:=List.mem_singleton.1 h;exact hc
 ·have h1:=uI hk j';have h2:=EW hk j';have h3:=G.book;rw[h2];simp only[hon,hoff,if_true,Bool.false_eq_true,if_false,List.length_append,List.length_singleton]at h1 ⊢;omega
theorem dL.few {now:Int}{js:List J}{bk:List Ch}(G:dL now js bk):bk.length≤1500:=by
 have h:∀(l:List J),(∀j∈l,j.runs≤3)→vF l≤3*l.length:=by
  intro l;induction l with
  |nil=>intro _;simp[vF]
  |cons x l ih =>
   intro hl;have h1:=ih fun j hj=>hl j (List.mem_cons_of_mem _ hj);have h2:=hl x List.mem_cons_self;simp only[vF,List.map_cons,List.sum_cons,List.length_cons]at h1 ⊢;omega
 have h1:=h js fun j hj=>by
  obtain⟨k,hk,e⟩:=List.getElem_of_mem hj;exact(G.jobs k j (by rw[←e];exact List.getElem?_eq_getElem hk)).pF
 have h2:=G.book;have h3:=G.len;omega
theorem CG {now:Int}{js:List J}{k:Nat}{j:J}(hk:js[k]?=some j)(j':J)(h:j'.pay now=j.pay now):pays (js.set k j') now=pays js now:=by rw[EU hk,h];omega
theorem dL.tick {now:Int}{js:List J}{bk:List Ch}(G:dL now js bk)(h:now<1000000):dL (now+1) js bk :=
 ⟨by have:=G.uH;omega,by omega,G.len,fun k j hk=>by
  have:=G.jobs k j hk;exact⟨this.id,this.spec,this.Nv,this.Nw,this.pq,by have:=this.since;omega,this.fV,by have:=this.started;omega,this.rY,by have:=this.ran;omega,this.pz,this.pF,this.wait,this.run,this.block,this.place⟩,
  fun c hc=>by
   have:=G.UW c hc;exact⟨this.id1,this.id2,this.account,this.ET,this.workers,this.pG,by have:=this.seconds;omega,this.how,this.at0,by have:=this.WQ;omega⟩,G.book⟩
section
variable {now:Int}{k:Nat}{j:J}
theorem J.ok.hold (h:j.ok now k)(hw:j.how=1):({ j with how:=2}:J).ok now k :=
 ⟨h.id,h.spec,by simp,by simp,h.pq,h.since,h.fV,h.started,h.rY,h.ran,h.pz,h.pF,fun _=>h.wait (.inl hw),fun e=>by simp at e,fun e=>by simp at e,h.place⟩
theorem J.ok.release (h:j.ok now k)(hw:j.how=2)(hn:0≤now):({ { j with since:=now} with how:=1}:J).ok now k :=
 ⟨h.id,h.spec,by simp,by simp,hn,Int.le_refl _,h.fV,h.started,h.rY,h.ran,h.pz,h.pF,fun _=>h.wait (.inr hw),fun e=>by simp at e,fun e=>by simp at e,h.place⟩
theorem J.ok.start (h:j.ok now k)(hw:j.how=1)(hn:0≤now)(s:Nat)(hs:s≤7)(hd:s%2^ord j.s.size=0):({ (j.go now s (ord j.s.size:Nat))with how:=3}:J).ok now k :=
 ⟨h.id,h.spec,by simp,by simp,h.pq,h.since,hn,Int.le_refl _,Int.le_refl _,hn,by have:=h.pz;simp[J.go];omega,by have:=h.wait (.inl hw);simp[J.go];omega,fun e=>by simp at e,fun _=>hn,fun _=>⟨rfl,s,rfl,hs,hd⟩,⟨by show(0:Int)≤(s:Int);omega,by show(s:Int)≤7;omega⟩⟩
theorem J.pI (hw:j.how=3):j.till now = { j with ran:=j.ran+(now-j.started)}:=by unfold J.till;rw[if_pos hw]
theorem J.wQ (hw:j.how≠3):j.till now=j:=by unfold J.till;rw[if_neg hw]
theorem J.ok.till (h:j.ok now k):0≤(j.till now).ran∧(j.till now).ran≤now:=by
 by_cases hw:j.how=3
 ·rw[J.pI hw];have h1:=h.run hw;have h2:=h.started;have h3:=h.rY;have h4:=h.fV;simp only;omega
 ·rw[J.wQ hw];exact⟨h.rY,h.ran⟩
theorem J.gQ (j:J)(now:Int):(j.till now).id=j.id∧(j.till now).s=j.s∧(j.till now).how=j.how∧(j.till now).since=j.since∧(j.till now).started=j.started∧(j.till now).runs=j.runs∧(j.till now).start=j.start∧(j.till now).order=j.order:=by
 unfold J.till;split<;>exact⟨rfl,rfl,rfl,rfl,rfl,rfl,rfl,rfl⟩
theorem J.ok.suspend (h:j.ok now k)(hw:j.how=3):({ j.till now with how:=4}:J).ok now k:=by
 have ht:=h.till;rw[J.pI hw]at ht ⊢;exact⟨h.id,h.spec,by simp,by simp,h.pq,h.since,h.fV,h.started,ht.1,ht.2,h.pz,h.pF,fun e=>by simp at e,fun e=>by simp at e,fun _=>h.block (.inl hw),h.place⟩
theorem J.ok.resume (h:j.ok now k)(hw:j.how=4)(hn:0≤now):({ { j with started:=now} with how:=3}:J).ok now k :=
 ⟨h.id,h.spec,by simp,by simp,h.pq,h.since,hn,Int.le_refl _,h.rY,h.ran,h.pz,h.pF,fun e=>by simp at e,fun _=>h.ran,fun _=>h.block (.inr hw),h.place⟩
theorem J.ok.ended (h:j.ok now k)(d:Int)(h1:5≤d)(h2:d≤9):({ j.till now with how:=d}:J).ok now k:=by
 have ht:=h.till;obtain⟨e1,e2,e3,e4,e5,e6,e7,e8⟩:=J.gQ j now;refine⟨by rw[←h.id];exact e1,by show(j.till now).s.ok;rw[e2];exact h.spec,by simp;omega,by simpa using h2,by show 0≤(j.till now).since;rw[e4];exact h.pq,by show(j.till now).since≤now;rw[e4];exact h.since,by show 0≤(j.till now).started;rw[e5];exact h.fV,by show(j.till now).started≤now;rw[e5];exact h.started,ht.1,ht.2,by show 0≤(j.till now).runs;rw[e6];exact h.pz,by show(j.till now).runs≤3;rw[e6];exact h.pF,fun e=>?_,fun e=>?_,fun e=>?_,by show 0≤(j.till now).start∧(j.till now).start≤7;rw[e7];exact h.place⟩
 ·simp at e;omega
 ·simp at e;omega
 ·simp at e;omega
theorem J.ok.gV (h:j.ok now k)(hr:j.runs≤2)(hn:0≤now):({ j.back now with how:=1}:J).ok now k :=
 ⟨h.id,h.spec,by simp,by simp,hn,Int.le_refl _,h.fV,h.started,Int.le_refl _,hn,h.pz,h.pF,fun _=>hr,fun e=>by simp at e,fun e=>by simp at e,⟨Int.le_refl _,by simp[J.back]⟩⟩
theorem Af (hw:j.how=1)(s o:Int):({ (j.go now s o)with how:=3}:J).pay now=j.pay now:=by
 have h1:j.pay now=0:=by unfold J.pay;rw[if_neg (by omega),if_neg (by omega)]
 rw[h1];simp[J.pay,J.go]
theorem EX (hw:j.how=3):({ j.till now with how:=4}:J).pay now=j.pay now:=by
 rw[J.pI hw];simp[J.pay,hw]
theorem IZ (hw:j.how=4):({ { j with started:=now} with how:=3}:J).pay now=j.pay now:=by
 simp[J.pay,hw]
theorem nU (h:j.on=false):j.pay now=0:=by
 have : j.how≠3∧j.how≠4:=by simpa[J.on]using h
 unfold J.pay;rw[if_neg this.1,if_neg this.2]
theorem PN (h:j.on=true):j.pay now=((2^j.order.toNat:Nat):Int)*(j.till now).ran:=by
 have : j.how=3∨j.how=4:=by simpa[J.on]using h
 rw[Int.mul_comm,Int.natCast_pow];rcases this with hw|hw
 ·rw[J.pI hw];simp[J.pay,hw]
 ·rw[J.wQ (by omega)];simp[J.pay,hw]
end
theorem PO (bk:List Ch)(c:Ch):paid (bk++[c])=paid bk+(c.workers:Int)*c.seconds:=by simp[paid]
end
section
open Go.RowKit
def encI (x:Int):List Value:=[.int .i64 x]
def fO (x:Nat):List Value:=[.int .u32 x]
structure Bk where
 start:Int
 order:Int
def pJ (b:Bk):List Value:=[.int .i64 b.start,.int .i64 b.order]
structure Ce where
 id:Nat
 row:Int
 start:Int
 order:Int
def gq (c:Ce):List Value:=[.int .u32 c.id,.int .i64 c.row,.int .i64 c.start,.int .i64 c.order]
def EY (v:Value)(l:List Int):bW:=rowA 3 1 v l.length (l.flatMap encI)
def LZ (v:Value)(l:List Bk):bW:=rowA 53 2 v l.length (l.flatMap pJ)
def cellsA (v:Value)(l:List Ce):bW:=rowA 203 4 v l.length (l.flatMap gq)
theorem bJ (x:Int):(encI x).length=1:=rfl
theorem kJ (x:Nat):(fO x).length=1:=rfl
theorem lV (x:Bk):(pJ x).length=2:=rfl
theorem lW (x:Ce):(gq x).length=4:=rfl
def Bk.ok (b:Bk):Prop:=∃s q:Nat,b.start=s∧b.order=q∧s≤7∧q≤3∧s%2^q=0
structure Yd where
 free:List (Value×List Int)
 tv:Value
 taken:List Bk
 lv:Value
 failed:List Int
def Yd.cells (y:Yd):Array Value:=(.int .i64 3::(y.free.map (·.1)++[y.tv,y.lv])).toArray
structure Yd.ok (N F:Nat)(y:Yd):Prop where
 len:y.free.length=11
 few:∀f∈y.free,f.2.length≤N
 taken:∀b∈y.taken,b.ok
 Ny:y.taken.length≤N
 fail:∀x∈y.failed,0≤x∧x≤7
 wu:y.failed.length≤F
def Yd.star (y:Yd)(b:Nat):List bW:=aF b (.cells y.cells 126)::LZ y.tv y.taken::EY y.lv y.failed::y.free.map fun f=>EY f.1 f.2
def Ce.ok (c:Ce):Prop:=0≤c.row∧c.row≤15∧∃o s:Nat,c.order=o∧c.start=s∧o≤3∧s+2^o≤8
structure Mx where
 cv:Value
 cells:List Ce
 active:Int
def Mx.arr (m:Mx):Array Value:=#[.int .i64 3,m.cv,.int .i64 m.active]
structure Mx.ok (N:Nat)(m:Mx):Prop where
 cells:∀c∈m.cells,c.ok
 few:m.cells.length≤N
 Nz:0≤m.active
 ND:m.active≤16
def Mx.star (m:Mx)(b:Nat):List bW:=[aF b (.cells m.arr 129),cellsA m.cv m.cells]
structure qR where
 x:Nat
 p:Nat
 jA:Option Addr
 jc:Nat
 bA:Option Addr
 bc:Nat
 xp:Nat
 NG:Nat
 xq:Nat
 UY:Nat
 xa:Nat
 U0:Nat
 tp:Nat
 Et:Nat
 tq:Nat
 zi:Nat
 ta:Nat
 tac:Nat
 yr:Nat
 PU:Nat
 mr:Nat
 Tc:Nat
 yb:Nat
 mb:Nat
def IG (a:qR)(pol now:Int)(nb:Nat):Array Value:=#[.int .i64 pol,.int .i64 50,.int .i64 3,.int .i64 2,.int .i64 0,.int .i64 0,.int .i64 0,.int .i64 0,.int .i64 0,.slice (some ⟨a.xp,0,none⟩) 1 a.NG,.slice (some ⟨a.xq,0,none⟩) 2 a.UY,.slice (some ⟨a.xa,0,none⟩) 2 a.U0,.int .i64 now,.pointer (some ⟨a.p,0,none⟩),.slice (some ⟨a.yr,0,none⟩) 1 a.PU,.slice (some ⟨a.mr,0,none⟩) 1 a.Tc,.slice a.bA nb a.bc]
def tcs (a:qR)(pol:Int)(n:Nat):Array Value:=#[.int .i64 pol,.int .i64 50,.int .i64 3,.int .i64 2,.int .i64 0,.int .i64 0,.int .i64 0,.int .i64 0,.int .i64 0,.slice (some ⟨a.tp,0,none⟩) 1 a.Et,.slice (some ⟨a.tq,0,none⟩) 2 a.zi,.slice (some ⟨a.ta,0,none⟩) 2 a.tac,.slice a.jA n a.jc]
def gu:List Value:=fU.toList
def dI:List Value:=dV.toList++fQ.toList
def dM:List Value:=acc0.toList++jg.toList
def CL (a:qR)(pol now:Int)(js:List J)(bk:List Ch)(y:Yd)(m:Mx):List bW :=
 [aF a.x (.cells (IG a pol now bk.length) 88),aF a.p (.cells (tcs a pol js.length) 122),aS (.slice a.jA js.length a.jc) js,UU (.slice a.bA bk.length a.bc) bk,
  rowA 78 4 (.slice (some ⟨a.xp,0,none⟩) 1 a.NG) 1 gu,rowA 81 3 (.slice (some ⟨a.xq,0,none⟩) 2 a.UY) 2 dI,rowA 84 3 (.slice (some ⟨a.xa,0,none⟩) 2 a.U0) 2 dM,
  rowA 78 4 (.slice (some ⟨a.tp,0,none⟩) 1 a.Et) 1 gu,rowA 81 3 (.slice (some ⟨a.tq,0,none⟩) 2 a.zi) 2 dI,rowA 84 3 (.slice (some ⟨a.ta,0,none⟩) 2 a.tac) 2 dM,
  rowA 89 1 (.slice (some ⟨a.yr,0,none⟩) 1 a.PU) 1 [.pointer (some ⟨a.yb,0,none⟩)],rowA 92 1 (.slice (some ⟨a.mr,0,none⟩) 1 a.Tc) 1 [.pointer (some ⟨a.mb,0,none⟩)],
  oQ (y.star a.yb),oQ (m.star a.mb)]
def most (js:List J)(bk:List Ch)(k:Nat):Nat:=24*bk.length+8*Ae js+8*k+8
def St (w0 w:World)(x:Nat)(pol now:Int)(js:List J)(bk:List Ch)(fl:List Int)(k:Nat):Prop :=
 ∃(a:qR) (y:Yd) (m:Mx),a.x=x∧y.failed=fl∧y.ok (most js bk k) k∧m.ok (most js bk k)∧Has w0 w (CL a pol now js bk y m)
section
variable {w0 w:World}{L:List bW}
theorem Star.parted {w:World}{m:List bW}:∀(l:List bW) (F:Nat→Prop),Star (l++m) w F→∃G H:Nat→Prop,Star l w G∧Star m w H∧(∀k,G k→H k→False)∧∀k,G k∨H k→F k
 |[],F,h=>⟨fun _=>False,F,trivial,h,fun _ h _=>h,fun k h=>h.elim False.elim id⟩
 |X::l,F,⟨G,H,h1,h2,h3,h4⟩=>by
  obtain⟨G',H',k1,k2,k3,k4⟩:=Star.parted l H h2;refine⟨fun k=>G k∨G' k,H',⟨G,G',h1,k1,fun k hg hg'=>h3 k hg (k4 k (.inl hg')),fun k h=>h⟩,k2,fun k hg hh=>?_,fun k h=>?_⟩
  ·rcases hg with hg|hg
   ·exact h3 k hg (k4 k (.inr hh))
   ·exact k3 k hg hh
  ·rcases h with(h|h)|h
   ·exact h4 k (.inl h)
   ·exact h4 k (.inr (k4 k (.inl h)))
   ·exact h4 k (.inr (k4 k (.inr h)))
theorem Has.first {M:List bW}(h:Has w0 w (L++M)):Has w0 w L:=by
 obtain⟨⟨F,h1,h2⟩,h3⟩:=h;obtain⟨G,H,g1,g2,g3,g4⟩:=Star.parted L F h1;exact⟨⟨G,g1,fun k hk=>h2 k (g4 k (.inl hk))⟩,h3⟩
theorem Has.opened (h:Has w0 w L)(i:Nat)(Ys:List bW)(hi:L[i]?=some (oQ Ys)):∃R:bW,Has w0 w (Ys++[R])∧∀(Zs:List bW) (w1:World),Has w0 w1 (Zs++[R])→Has w0 w1 (L.set i (oQ Zs)):=by
 obtain⟨R,_,h1,hgo⟩:=h.one i _ hi;refine⟨R,?_,fun Zs w1 h2=>hgo (oQ Zs) w1 ?_⟩
 ·obtain⟨⟨F,⟨G,H,g1,g2,g3,g4⟩,hF⟩,hb⟩:=h1;exact⟨⟨_,Star.append g2 Ys G g1 fun k hh hg=>g3 k hg hh,fun k hk=>hF k (g4 k hk)⟩,hb⟩
 ·obtain⟨⟨F,hF1,hF⟩,hb⟩:=h2;obtain⟨G,H,g1,g2,g3,g4⟩:=Star.parted Zs F hF1;exact⟨⟨F,⟨G,H,g1,g2,g3,g4⟩,hF⟩,hb⟩
end
end
section
open Go.RowKit
section
variable {w:World}
theorem Ag (a b:Int)(ha:0≤a)(hb:0≤b)(h1:a≤4611686018427387903)(h2:b≤4611686018427387903) :
 Calls Tryz.prog 319 #[.int .i64 a,.int .i64 b] w fun e w'=>e=.returned (.tuple #[.int .i64 (a+b),.int .i64 0])∧w'=w:=by
 by_cases hz:b=0
 ·subst hz;go_enter Tryz.func319,Tryz.ntmps319;go_wp2_with fail
  go_ret2;exact⟨by simp,rfl⟩
 ·have hp:0<b:=by omega
  have hp1:a<a+b:=by omega
  have hz1:(b != 0)=true:=by simpa using hz
  clear hz;go_enter Tryz.func319,Tryz.ntmps319;go_wp2_with fail
  go_ret2;exact⟨rfl,rfl⟩
theorem xE {g c:Nat}(a b:Int)(ha:0≤a)(hb:0≤b)(h1:a≤4611686018427387903)(h2:b≤4611686018427387903)(c0:w.cell? ⟨g,0,none⟩=some (.int .i64 a))(c1:w.cell? ⟨g,1,none⟩=some (.int .i64 b)) :
 Calls Tryz.prog 280 #[.slice (some ⟨g,0,none⟩) 2 c] w fun e w'=>e=.returned (.int .i64 (a+b))∧w'=w:=by
 have A0:=ah.mk (Ag (w:=w) 0 a (by omega) ha (by omega) h1);have A1:=ah.mk (Ag (w:=w) a b ha hb h1 h2);rw[Int.zero_add]at A0;obtain⟨s,hs⟩:∃s,s=a+b:=⟨_,rfl⟩;rw[←hs]at A1 ⊢;clear ha hb h1 h2 hs;go_enter Tryz.func280,Tryz.ntmps280;go_wp2_with fail
 refine wp_loop_rounds 3 ?_;rw[rounds_succ];go_wp2_with (go_at_call 319;have _t:=A0;clear _t;refine A0.out.mono ?_;rintro e w' ⟨rfl,hw⟩;obtain rfl:=hw.symm;clear hw A0)
 rw[rounds_succ];go_wp2_with (go_at_call 319;have _t:=A1;clear _t;refine A1.out.mono ?_;rintro e w' ⟨rfl,hw⟩;obtain rfl:=hw.symm;clear hw A1)
 rw[rounds_succ];go_wp2_with fail
 go_ret;exact⟨rfl,rfl⟩
theorem NI (lo y:Nat)(h1:0<y)(h2:lo<18446744073709551616)(h3:y<18446744073709551616) :
 Calls Tryz.prog 321 #[.int .u64 0,.int .u64 lo,.int .u64 y] w fun e w'=>e=.returned (.tuple #[.int .u64 ((lo/y:Nat):Int),.int .u64 ((lo%y:Nat):Int)])∧fC w w':=by
 have hz:((y:Int)==0)=false:=by simp;omega
 have hz2:¬(y:Int)=0:=by omega
 have hz3:¬(y:Int)≤0:=by omega
 go_enter Tryz.func321,Tryz.ntmps321;go_wp2_with fail
 go_quiet (fail)
 go_wp2_with fail
 go_ret2;refine⟨?_,⟨⟨_,rfl⟩⟩⟩;have hq:IntKind.u64.wrap ((lo:Int)/(y:Int))=((lo/y:Nat):Int):=by
  rw[←Int.natCast_ediv,IntKind.wrap_u64];have h4:lo/y≤lo:=Nat.div_le_self _ _;have h5:lo/y<18446744073709551616:=Nat.lt_of_le_of_lt h4 h2;exact Int.emod_eq_of_lt (Int.natCast_nonneg _) (Int.ofNat_lt.2 h5)
 simp[hq]
theorem jK (a b c:Nat)(hc:0<c)(hc2:c<9223372036854775808)(ha:a<9223372036854775808)(hb:b<9223372036854775808)(h:a*b<9223372036854775808) :
 Calls Tryz.prog 282 #[.int .i64 a,.int .i64 b,.int .i64 c] w fun e w'=>e=.returned (.tuple #[.int .i64 ((a*b/c:Nat):Int),.int .i64 0])∧fC w w':=by
 obtain⟨p,hp⟩:∃p,p=a*b:=⟨_,rfl⟩;obtain⟨q,hq⟩:∃q,q=p/c:=⟨_,rfl⟩;have M:=ah.mk (Tryz.bits_Mul64 a b (by omega) (by omega) w);have M2:ah (Calls Tryz.prog 320 #[.int .u64 (a:Int),.int .u64 (b:Int)] w fun e w'=>e=.returned (.tuple #[.int .u64 0,.int .u64 (p:Int)])∧w'=w):=⟨by
  have:=M.out;rw[←hp,Nat.div_eq_of_lt (show p<18446744073709551616 by omega),Nat.mod_eq_of_lt (show p<18446744073709551616 by omega)]at this;exact this⟩
 have D:ah (Calls Tryz.prog 321 #[.int .u64 0,.int .u64 (p:Int),.int .u64 (c:Int)] w fun e w'=>e=.returned (.tuple #[.int .u64 (q:Int),.int .u64 ((p%c:Nat):Int)])∧fC w w'):=⟨by rw[hq];exact NI p c hc (by omega) (by omega)⟩;have h1:¬(a:Int)<0:=by omega
 have h2:¬(b:Int)<0:=by omega
 have h3:¬(c:Int)<1:=by omega
 have h4:¬(c:Int)≤0:=by omega
 have hqb:(q:Int)≤9223372036854775807:=by have : p/c≤p:=Nat.div_le_self _ _;omega
 have h5:¬(9223372036854775807:Int)<(q:Int):=by omega
 have wa:IntKind.u64.wrap (a:Int)=a:=by rw[IntKind.wrap_u64];omega
 have wb:IntKind.u64.wrap (b:Int)=b:=by rw[IntKind.wrap_u64];omega
 have wc:IntKind.u64.wrap (c:Int)=c:=by rw[IntKind.wrap_u64];omega
 rw[←hp]at h ⊢;rw[←hq];clear hp hq M;go_enter Tryz.func282,Tryz.ntmps282;go_wp2_with (first|(go_at_call 321;refine D.out.mono ?_;rintro e w2 ⟨rfl,hw⟩;have H2:=ah.mk hw;clear hw)|(go_at_call 320;refine M2.out.mono ?_;rintro e w' ⟨rfl,hw⟩;obtain rfl:=hw.symm;clear hw))
 go_ret2;exact⟨by simp,H2.out⟩
def PV:Array Value:=#[.int .i64 65536,.int .i64 62757,.int .i64 60097,.int .i64 57549,.int .i64 55109,.int .i64 52773,.int .i64 50535,.int .i64 48393,.int .i64 46341,.int .i64 44376,.int .i64 42495,.int .i64 40693,.int .i64 38968,.int .i64 37316,.int .i64 35734,.int .i64 34219]
theorem PW (i:Nat)(hi:i<16):∃s:Nat,s≤65536∧∀W,(Instr.index 433 (.agg PV) (.int .i64 i)).run Tryz.prog W=.ok (.int .i64 s) W:=by
 rcases(by omega:i=0∨i=1∨i=2∨i=3∨i=4∨i=5∨i=6∨i=7∨i=8∨i=9∨i=10∨i=11∨i=12∨i=13∨i=14∨i=15)with rfl|rfl|rfl|rfl|rfl|rfl|rfl|rfl|rfl|rfl|rfl|rfl|rfl|rfl|rfl|rfl
 ·exact⟨65536,by decide,fun W=>by kernel_rfl⟩
 ·exact⟨62757,by decide,fun W=>by kernel_rfl⟩
 ·exact⟨60097,by decide,fun W=>by kernel_rfl⟩
 ·exact⟨57549,by decide,fun W=>by kernel_rfl⟩
 ·exact⟨55109,by decide,fun W=>by kernel_rfl⟩
 ·exact⟨52773,by decide,fun W=>by kernel_rfl⟩
 ·exact⟨50535,by decide,fun W=>by kernel_rfl⟩
 ·exact⟨48393,by decide,fun W=>by kernel_rfl⟩
 ·exact⟨46341,by decide,fun W=>by kernel_rfl⟩
 ·exact⟨44376,by decide,fun W=>by kernel_rfl⟩
 ·exact⟨42495,by decide,fun W=>by kernel_rfl⟩
 ·exact⟨40693,by decide,fun W=>by kernel_rfl⟩
 ·exact⟨38968,by decide,fun W=>by kernel_rfl⟩
 ·exact⟨37316,by decide,fun W=>by kernel_rfl⟩
 ·exact⟨35734,by decide,fun W=>by kernel_rfl⟩
 ·exact⟨34219,by decide,fun W=>by kernel_rfl⟩
theorem EZ (i:Nat)(hi:i<16):∃s:Nat,s≤65536∧∀w,Calls Tryz.prog 344 #[.int .i64 i] w fun e w'=>e=.returned (.int .i64 s)∧w'=w:=by
 obtain⟨s,hs,hix⟩:=PW i hi;refine⟨s,hs,fun w=>?_⟩;unfold PV at hix;clear hs hi;go_enter Tryz.func344,Tryz.ntmps344;go_wp2_with fail
 go_ret;exact⟨rfl,rfl⟩
theorem CQ (t:Nat)(ht:t≤1000000):∃s:Nat,s≤65536∧∀w,Calls Tryz.prog 318 #[.int .i64 t,.int .i64 50] w fun e w'=>e=.returned (.tuple #[.int .i64 ((t/50:Nat):Int),.int .i64 s,.int .i64 0])∧fC w w':=by
 have hlt:t%50*16/50<16:=by omega
 obtain⟨s,hs,hst⟩:=EZ (t%50*16/50) hlt;refine⟨s,hs,fun w=>?_⟩;obtain⟨i,hi⟩:∃i,i=t%50*16/50:=⟨_,rfl⟩;obtain⟨q,hq⟩:∃q,q=t/50:=⟨_,rfl⟩;have h1:¬(t:Int)<0:=by omega
 have h2:¬(1099511627776:Int)<t:=by omega
 have e1:Int.tdiv (t:Int) 50=q:=by rw[hq,Int.tdiv_eq_ediv_of_nonneg (by omega)];omega
 have e2:Int.tdiv (Int.tmod (t:Int) 50*16) 50=i:=by rw[hi,Int.tmod_eq_emod_of_nonneg (by omega),Int.tdiv_eq_ediv_of_nonneg (by omega)];omega
 have e3:(t:Int)/50=q:=by rw[hq];omega
 have e4:(t:Int)%50*16/50=i:=by rw[hi];omega
 rw[←hi]at hst;rw[←hq];have HS:=ah.mk hst;have E:=Lib.hid (And.intro e1 (And.intro e2 (And.intro e3 e4)));clear hst hi hq hs hlt e1 e2 e3 e4;go_enter Tryz.func318,Tryz.ntmps318;go_wp2_with fail
 go_quiet ((go_at_call 344;rw[E.out.2.2.2];exact Calls.quiet_of_same (HS.out _)))
 go_wp2_with fail
 go_ret3
 exact⟨by simp[E.out.2.2.1],⟨⟨_,rfl⟩⟩⟩
end
end
end Go.Proofs.YtandhagfhppgaaaGreatDoor
