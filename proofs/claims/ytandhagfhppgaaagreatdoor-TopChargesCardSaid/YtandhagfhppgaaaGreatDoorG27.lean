/- Part 32 of a proof: contracts of the functions that the law reaches. No condition. -/
import Derived.Test.YtandhagfhppgaaaGreatDoorG3
import Derived.Test.YtandhagfhppgaaaGreatDoorG22
import Derived.Test.YtandhagfhppgaaaGreatDoorG24
set_option linter.all false
set_option maxRecDepth 100000
set_option maxHeartbeats 16000000
namespace Go.Proofs.YtandhagfhppgaaaGreatDoor
section
open Go.RowKit
section
variable {w0 w:World}{L:List bV}
theorem zS (H0:Has w0 w L)(it ij:Nat){p g n c:Nat}{tcs:Array Value}{js:List J}(hit:L[it]?=some (aF p (.cells tcs 122)))(hj:L[ij]?=some (aO (.slice (some ⟨g,0,none⟩) n c) js))(hc:tcs[12]?=some (.slice (some ⟨g,0,none⟩) n c))(hn:n≤1000)
 (k:Nat) (j:J) (hk:js[k]?=some j) (now:Int) (h1:j.since≤now) (h2:j.started≤now) (h3:now≤1099511627776) :
 Calls Tryz.prog 35 #[.pointer (some ⟨p,0,none⟩),.int .u32 ((k:Int)+1),.int .i64 now] w fun e w'=>((j.how=2)∧e=.returned (.int .i64 0)∧Has w0 w' (L.set ij (aO (.slice (some ⟨g,0,none⟩) n c) (js.set k { { j with since:=now} with how:=1}))))∨(¬(j.how=2)∧e=.returned (.int .i64 130)∧Has w0 w' L):=by
 have HA:=H0.alloc (.cells #[.int .i64 2] 3);have hz:∀i,i<([2]:List Int).length→(w.alloc (.cells #[.int .i64 2] 3)).cell? ⟨w.heap.size,0+i,none⟩=some (.int .i64 (([2]:List Int).getD i 0)):=fun i hi=>by
  rw[aj (heap_alloc_new w _)];rcases(by simp at hi;omega:i=0)with rfl<;>simp
 have YES:=fun hy=>ah.mk (CV (cf:=1) HA it ij hit hj hc hn k j hk now h1 h2 h3 [2] (by decide) hz 1 hy);have NO:=fun hy=>ah.mk (lJ (cf:=1) HA it ij hit hj hc hn k j hk now h1 h2 h3 (.func (.func 65) #[] #[]) [2] (by decide) hz 1 hy);by_cases hy:([2]:List Int).contains j.how=true
 ·have Y:=YES hy;have hy2:j.how=2:=by simpa using hy
  clear YES NO hz HA H0 hit hj hc hk hy;go_enter Tryz.func35,Tryz.ntmps35;go_wp2_with (first|(go_at_call 64;refine Y.out.mono ?_;rintro e w2 ⟨rfl,hs⟩;have H2:=ah.mk hs;clear hs))
  go_ret;exact .inl ⟨hy2,rfl,H2.out⟩
 ·have hy1:([2]:List Int).contains j.how=false:=by simpa using hy
  have Y:=NO hy1;have hy2:¬(j.how=2):=by simpa using hy1
  clear YES NO hz HA H0 hit hj hc hk hy hy1;go_enter Tryz.func35,Tryz.ntmps35;go_wp2_with (first|(go_at_call 64;refine Y.out.mono ?_;rintro e w2 ⟨rfl,hs⟩;have H2:=ah.mk hs;clear hs))
  go_ret;exact .inr ⟨hy2,rfl,H2.out⟩
theorem zT (H0:Has w0 w L)(it ij:Nat){p g n c:Nat}{tcs:Array Value}{js:List J}(hit:L[it]?=some (aF p (.cells tcs 122)))(hj:L[ij]?=some (aO (.slice (some ⟨g,0,none⟩) n c) js))(hc:tcs[12]?=some (.slice (some ⟨g,0,none⟩) n c))(hn:n≤1000)
 (k:Nat) (j:J) (hk:js[k]?=some j) (now:Int) (h1:j.since≤now) (h2:j.started≤now) (h3:now≤1099511627776) (p1:0≤j.started) (p4:0≤j.ran) (p5:j.ran≤1099511627776) :
 Calls Tryz.prog 148 #[.pointer (some ⟨p,0,none⟩),.int .u32 ((k:Int)+1),.int .i64 now] w fun e w'=>((j.how=3)∧e=.returned (.int .i64 0)∧Has w0 w' (L.set ij (aO (.slice (some ⟨g,0,none⟩) n c) (js.set k { (j.till now)with how:=4}))))∨(¬(j.how=3)∧e=.returned (.int .i64 130)∧Has w0 w' L):=by
 have HA:=H0.alloc (.cells #[.int .i64 3] 3);have hz:∀i,i<([3]:List Int).length→(w.alloc (.cells #[.int .i64 3] 3)).cell? ⟨w.heap.size,0+i,none⟩=some (.int .i64 (([3]:List Int).getD i 0)):=fun i hi=>by
  rw[aj (heap_alloc_new w _)];rcases(by simp at hi;omega:i=0)with rfl<;>simp
 have YES:=fun hy=>ah.mk (pI (cf:=1) HA it ij hit hj hc hn k j hk now h1 h2 h3 p1 p4 p5 [3] (by decide) hz 4 hy);have NO:=fun hy=>ah.mk (lJ (cf:=1) HA it ij hit hj hc hn k j hk now h1 h2 h3 (.func (.func 116) #[] #[]) [3] (by decide) hz 4 hy);by_cases hy:([3]:List Int).contains j.how=true
 ·have Y:=YES hy;have hy2:j.how=3:=by simpa using hy
  clear YES NO hz HA H0 hit hj hc hk hy;go_enter Tryz.func148,Tryz.ntmps148;go_wp2_with (first|(go_at_call 64;refine Y.out.mono ?_;rintro e w2 ⟨rfl,hs⟩;have H2:=ah.mk hs;clear hs))
  go_ret;exact .inl ⟨hy2,rfl,H2.out⟩
 ·have hy1:([3]:List Int).contains j.how=false:=by simpa using hy
  have Y:=NO hy1;have hy2:¬(j.how=3):=by simpa using hy1
  clear YES NO hz HA H0 hit hj hc hk hy hy1;go_enter Tryz.func148,Tryz.ntmps148;go_wp2_with (first|(go_at_call 64;refine Y.out.mono ?_;rintro e w2 ⟨rfl,hs⟩;have H2:=ah.mk hs;clear hs))
  go_ret;exact .inr ⟨hy2,rfl,H2.out⟩
theorem DK (H0:Has w0 w L)(it ij:Nat){p g n c:Nat}{tcs:Array Value}{js:List J}(hit:L[it]?=some (aF p (.cells tcs 122)))(hj:L[ij]?=some (aO (.slice (some ⟨g,0,none⟩) n c) js))(hc:tcs[12]?=some (.slice (some ⟨g,0,none⟩) n c))(hn:n≤1000)
 (k:Nat) (j:J) (hk:js[k]?=some j) (now:Int) (h1:j.since≤now) (h2:j.started≤now) (h3:now≤1099511627776) :
 Calls Tryz.prog 149 #[.pointer (some ⟨p,0,none⟩),.int .u32 ((k:Int)+1),.int .i64 now] w fun e w'=>((j.how=4)∧e=.returned (.int .i64 0)∧Has w0 w' (L.set ij (aO (.slice (some ⟨g,0,none⟩) n c) (js.set k { { j with started:=now} with how:=3}))))∨(¬(j.how=4)∧e=.returned (.int .i64 130)∧Has w0 w' L):=by
 have HA:=H0.alloc (.cells #[.int .i64 4] 3);have hz:∀i,i<([4]:List Int).length→(w.alloc (.cells #[.int .i64 4] 3)).cell? ⟨w.heap.size,0+i,none⟩=some (.int .i64 (([4]:List Int).getD i 0)):=fun i hi=>by
  rw[aj (heap_alloc_new w _)];rcases(by simp at hi;omega:i=0)with rfl<;>simp
 have YES:=fun hy=>ah.mk (ES (cf:=1) HA it ij hit hj hc hn k j hk now h1 h2 h3 [4] (by decide) hz 3 hy);have NO:=fun hy=>ah.mk (lJ (cf:=1) HA it ij hit hj hc hn k j hk now h1 h2 h3 (.func (.func 212) #[] #[]) [4] (by decide) hz 3 hy);by_cases hy:([4]:List Int).contains j.how=true
 ·have Y:=YES hy;have hy2:j.how=4:=by simpa using hy
  clear YES NO hz HA H0 hit hj hc hk hy;go_enter Tryz.func149,Tryz.ntmps149;go_wp2_with (first|(go_at_call 64;refine Y.out.mono ?_;rintro e w2 ⟨rfl,hs⟩;have H2:=ah.mk hs;clear hs))
  go_ret;exact .inl ⟨hy2,rfl,H2.out⟩
 ·have hy1:([4]:List Int).contains j.how=false:=by simpa using hy
  have Y:=NO hy1;have hy2:¬(j.how=4):=by simpa using hy1
  clear YES NO hz HA H0 hit hj hc hk hy hy1;go_enter Tryz.func149,Tryz.ntmps149;go_wp2_with (first|(go_at_call 64;refine Y.out.mono ?_;rintro e w2 ⟨rfl,hs⟩;have H2:=ah.mk hs;clear hs))
  go_ret;exact .inr ⟨hy2,rfl,H2.out⟩
theorem yM (H0:Has w0 w L)(it ij:Nat){p g n c:Nat}{tcs:Array Value}{js:List J}(hit:L[it]?=some (aF p (.cells tcs 122)))(hj:L[ij]?=some (aO (.slice (some ⟨g,0,none⟩) n c) js))(hc:tcs[12]?=some (.slice (some ⟨g,0,none⟩) n c))(hn:n≤1000)
 (k:Nat) (j:J) (hk:js[k]?=some j) (now:Int) (h1:j.since≤now) (h2:j.started≤now) (h3:now≤1099511627776) (p1:0≤j.started) (p4:0≤j.ran) (p5:j.ran≤1099511627776) :
 Calls Tryz.prog 66 #[.pointer (some ⟨p,0,none⟩),.int .u32 ((k:Int)+1),.int .i64 now,.int .i64 5] w fun e w'=>((j.how=3∨j.how=4)∧e=.returned (.int .i64 0)∧Has w0 w' (L.set ij (aO (.slice (some ⟨g,0,none⟩) n c) (js.set k { (j.till now)with how:=5}))))∨(¬(j.how=3∨j.how=4)∧e=.returned (.int .i64 130)∧Has w0 w' L):=by
 have HA:=H0.alloc (.cells #[.int .i64 3,.int .i64 4] 3);have hz:∀i,i<([3,4]:List Int).length→(w.alloc (.cells #[.int .i64 3,.int .i64 4] 3)).cell? ⟨w.heap.size,0+i,none⟩=some (.int .i64 (([3,4]:List Int).getD i 0)):=fun i hi=>by
  rw[aj (heap_alloc_new w _)];rcases(by simp at hi;omega:i=0∨i=1)with rfl|rfl<;>simp
 have Ja:ah ((w.alloc (.cells #[.int .i64 3,.int .i64 4] 3)).cell? ⟨p,12,none⟩=some (.slice (some ⟨g,0,none⟩) n c)):=ah.mk (ak (au (Below.refl _ _) _) (by rw[aj (Has.blk H0 it hit) 12];exact hc));have KL:=ah.mk (show k<n by
  obtain⟨A,c',e⟩:=jg H0 ij hj;injection e with _ e2 _;rw[e2];exact(List.getElem?_eq_some_iff.1 hk).1)
 have YES:=fun hy=>ah.mk (pI (cf:=2) HA it ij hit hj hc hn k j hk now h1 h2 h3 p1 p4 p5 [3,4] (by decide) hz 5 hy);have NO:=fun hy=>ah.mk (lJ (cf:=2) HA it ij hit hj hc hn k j hk now h1 h2 h3 (.func (.func 116) #[] #[]) [3,4] (by decide) hz 5 hy);by_cases hy:([3,4]:List Int).contains j.how=true
 ·have Y:=YES hy;have hy2:j.how=3∨j.how=4:=by simpa using hy
  clear YES NO hz HA H0 hit hj hc hk hy;go_enter Tryz.func66,Tryz.ntmps66;go_wp2_with (first|(go_at_call 95;refine(dZ k Ja.out KL.out hn).mono ?_;rintro e w' ⟨rfl,hw⟩;obtain rfl:=hw.symm;clear hw)|(go_at_call 64;refine Y.out.mono ?_;rintro e w2 ⟨rfl,hs⟩;have H2:=ah.mk hs;clear hs))
  go_ret;exact .inl ⟨hy2,rfl,H2.out⟩
 ·have hy1:([3,4]:List Int).contains j.how=false:=by simpa using hy
  have Y:=NO hy1;have hy2:¬(j.how=3∨j.how=4):=by simpa using hy1
  clear YES NO hz HA H0 hit hj hc hk hy hy1;go_enter Tryz.func66,Tryz.ntmps66;go_wp2_with (first|(go_at_call 95;refine(dZ k Ja.out KL.out hn).mono ?_;rintro e w' ⟨rfl,hw⟩;obtain rfl:=hw.symm;clear hw)|(go_at_call 64;refine Y.out.mono ?_;rintro e w2 ⟨rfl,hs⟩;have H2:=ah.mk hs;clear hs))
  go_ret;exact .inr ⟨hy2,rfl,H2.out⟩
theorem uY (H0:Has w0 w L)(it ij:Nat){p g n c:Nat}{tcs:Array Value}{js:List J}(hit:L[it]?=some (aF p (.cells tcs 122)))(hj:L[ij]?=some (aO (.slice (some ⟨g,0,none⟩) n c) js))(hc:tcs[12]?=some (.slice (some ⟨g,0,none⟩) n c))(hn:n≤1000)
 (k:Nat) (j:J) (hk:js[k]?=some j) (now:Int) (h1:j.since≤now) (h2:j.started≤now) (h3:now≤1099511627776) (p1:0≤j.started) (p4:0≤j.ran) (p5:j.ran≤1099511627776) :
 Calls Tryz.prog 66 #[.pointer (some ⟨p,0,none⟩),.int .u32 ((k:Int)+1),.int .i64 now,.int .i64 6] w fun e w'=>((j.how=3∨j.how=4)∧e=.returned (.int .i64 0)∧Has w0 w' (L.set ij (aO (.slice (some ⟨g,0,none⟩) n c) (js.set k { (j.till now)with how:=6}))))∨(¬(j.how=3∨j.how=4)∧e=.returned (.int .i64 130)∧Has w0 w' L):=by
 have HA:=H0.alloc (.cells #[.int .i64 3,.int .i64 4] 3);have hz:∀i,i<([3,4]:List Int).length→(w.alloc (.cells #[.int .i64 3,.int .i64 4] 3)).cell? ⟨w.heap.size,0+i,none⟩=some (.int .i64 (([3,4]:List Int).getD i 0)):=fun i hi=>by
  rw[aj (heap_alloc_new w _)];rcases(by simp at hi;omega:i=0∨i=1)with rfl|rfl<;>simp
 have Ja:ah ((w.alloc (.cells #[.int .i64 3,.int .i64 4] 3)).cell? ⟨p,12,none⟩=some (.slice (some ⟨g,0,none⟩) n c)):=ah.mk (ak (au (Below.refl _ _) _) (by rw[aj (Has.blk H0 it hit) 12];exact hc));have KL:=ah.mk (show k<n by
  obtain⟨A,c',e⟩:=jg H0 ij hj;injection e with _ e2 _;rw[e2];exact(List.getElem?_eq_some_iff.1 hk).1)
 have YES:=fun hy=>ah.mk (pI (cf:=2) HA it ij hit hj hc hn k j hk now h1 h2 h3 p1 p4 p5 [3,4] (by decide) hz 6 hy);have NO:=fun hy=>ah.mk (lJ (cf:=2) HA it ij hit hj hc hn k j hk now h1 h2 h3 (.func (.func 116) #[] #[]) [3,4] (by decide) hz 6 hy);by_cases hy:([3,4]:List Int).contains j.how=true
 ·have Y:=YES hy;have hy2:j.how=3∨j.how=4:=by simpa using hy
  clear YES NO hz HA H0 hit hj hc hk hy;go_enter Tryz.func66,Tryz.ntmps66;go_wp2_with (first|(go_at_call 95;refine(dZ k Ja.out KL.out hn).mono ?_;rintro e w' ⟨rfl,hw⟩;obtain rfl:=hw.symm;clear hw)|(go_at_call 64;refine Y.out.mono ?_;rintro e w2 ⟨rfl,hs⟩;have H2:=ah.mk hs;clear hs))
  go_ret;exact .inl ⟨hy2,rfl,H2.out⟩
 ·have hy1:([3,4]:List Int).contains j.how=false:=by simpa using hy
  have Y:=NO hy1;have hy2:¬(j.how=3∨j.how=4):=by simpa using hy1
  clear YES NO hz HA H0 hit hj hc hk hy hy1;go_enter Tryz.func66,Tryz.ntmps66;go_wp2_with (first|(go_at_call 95;refine(dZ k Ja.out KL.out hn).mono ?_;rintro e w' ⟨rfl,hw⟩;obtain rfl:=hw.symm;clear hw)|(go_at_call 64;refine Y.out.mono ?_;rintro e w2 ⟨rfl,hs⟩;have H2:=ah.mk hs;clear hs))
  go_ret;exact .inr ⟨hy2,rfl,H2.out⟩
theorem yN (H0:Has w0 w L)(it ij:Nat){p g n c:Nat}{tcs:Array Value}{js:List J}(hit:L[it]?=some (aF p (.cells tcs 122)))(hj:L[ij]?=some (aO (.slice (some ⟨g,0,none⟩) n c) js))(hc:tcs[12]?=some (.slice (some ⟨g,0,none⟩) n c))(hn:n≤1000)
 (k:Nat) (j:J) (hk:js[k]?=some j) (now:Int) (h1:j.since≤now) (h2:j.started≤now) (h3:now≤1099511627776) (p1:0≤j.started) (p4:0≤j.ran) (p5:j.ran≤1099511627776) :
 Calls Tryz.prog 66 #[.pointer (some ⟨p,0,none⟩),.int .u32 ((k:Int)+1),.int .i64 now,.int .i64 8] w fun e w'=>((j.how=3∨j.how=4)∧e=.returned (.int .i64 0)∧Has w0 w' (L.set ij (aO (.slice (some ⟨g,0,none⟩) n c) (js.set k { (j.till now)with how:=8}))))∨(¬(j.how=3∨j.how=4)∧e=.returned (.int .i64 130)∧Has w0 w' L):=by
 have HA:=H0.alloc (.cells #[.int .i64 3,.int .i64 4] 3);have hz:∀i,i<([3,4]:List Int).length→(w.alloc (.cells #[.int .i64 3,.int .i64 4] 3)).cell? ⟨w.heap.size,0+i,none⟩=some (.int .i64 (([3,4]:List Int).getD i 0)):=fun i hi=>by
  rw[aj (heap_alloc_new w _)];rcases(by simp at hi;omega:i=0∨i=1)with rfl|rfl<;>simp
 have Ja:ah ((w.alloc (.cells #[.int .i64 3,.int .i64 4] 3)).cell? ⟨p,12,none⟩=some (.slice (some ⟨g,0,none⟩) n c)):=ah.mk (ak (au (Below.refl _ _) _) (by rw[aj (Has.blk H0 it hit) 12];exact hc));have KL:=ah.mk (show k<n by
  obtain⟨A,c',e⟩:=jg H0 ij hj;injection e with _ e2 _;rw[e2];exact(List.getElem?_eq_some_iff.1 hk).1)
 have YES:=fun hy=>ah.mk (pI (cf:=2) HA it ij hit hj hc hn k j hk now h1 h2 h3 p1 p4 p5 [3,4] (by decide) hz 8 hy);have NO:=fun hy=>ah.mk (lJ (cf:=2) HA it ij hit hj hc hn k j hk now h1 h2 h3 (.func (.func 116) #[] #[]) [3,4] (by decide) hz 8 hy);by_cases hy:([3,4]:List Int).contains j.how=true
 ·have Y:=YES hy;have hy2:j.how=3∨j.how=4:=by simpa using hy
  clear YES NO hz HA H0 hit hj hc hk hy;go_enter Tryz.func66,Tryz.ntmps66;go_wp2_with (first|(go_at_call 95;refine(dZ k Ja.out KL.out hn).mono ?_;rintro e w' ⟨rfl,hw⟩;obtain rfl:=hw.symm;clear hw)|(go_at_call 64;refine Y.out.mono ?_;rintro e w2 ⟨rfl,hs⟩;have H2:=ah.mk hs;clear hs))
  go_ret;exact .inl ⟨hy2,rfl,H2.out⟩
 ·have hy1:([3,4]:List Int).contains j.how=false:=by simpa using hy
  have Y:=NO hy1;have hy2:¬(j.how=3∨j.how=4):=by simpa using hy1
  clear YES NO hz HA H0 hit hj hc hk hy hy1;go_enter Tryz.func66,Tryz.ntmps66;go_wp2_with (first|(go_at_call 95;refine(dZ k Ja.out KL.out hn).mono ?_;rintro e w' ⟨rfl,hw⟩;obtain rfl:=hw.symm;clear hw)|(go_at_call 64;refine Y.out.mono ?_;rintro e w2 ⟨rfl,hs⟩;have H2:=ah.mk hs;clear hs))
  go_ret;exact .inr ⟨hy2,rfl,H2.out⟩
end
end
section
open Go.RowKit
def J.over (j:J)(now d:Int):J:=if d=0 then { j.back now with how:=1} else { j.till now with how:=d}
def J.ji (j:J)(now d:Int):Ch:=⟨j.id,j.s.account,2^ord j.s.size,(j.till now).ran,d,now⟩
def J.can (j:J)(d:Int):Prop:=(j.on=true∧(d=0→j.runs≤2))∨(d=7∧(j.how=1∨j.how=2))
def ways (d:Int):Prop:=d=0∨d=5∨d=6∨d=7∨d=8
theorem J.ni (j:J)(now d:Int)(h:ways d):(j.over now d).on=false:=by
 unfold J.over;rcases h with rfl|rfl|rfl|rfl|rfl<;>rfl
theorem J.Bo (j:J)(now d:Int):(j.over now d).runs=j.runs:=by
 unfold J.over;split
 ·rfl
 ·exact(j.iE now).2.2.2.2.2.1
theorem J.ok.over {now d:Int}{k:Nat}{j:J}(h:j.ok now k)(hd:ways d)(hn:0≤now)(hr:d=0→j.runs≤2):(j.over now d).ok now k:=by
 unfold J.over;split
 ·rename_i e
  exact h.gX (hr e) hn
 ·rename_i e
  exact h.ended d (by rcases hd with h|h|h|h|h<;>omega) (by rcases hd with h|h|h|h|h<;>omega)
theorem J.ok.ji {now d:Int}{k:Nat}{j:J}(h:j.ok now k)(hd:ways d)(hn:0≤now)(hk:k<500):(j.ji now d).ok now:=by
 have ho:=jh h.spec.2.2.1 h.spec.2.2.2.1;have hp:=fP ho.1;exact⟨by show 1≤j.id;rw[h.id];omega,by show j.id≤500;rw[h.id];omega,h.spec.1,hp.1,hp.2,h.till.1,h.till.2,hd,hn,Int.le_refl _⟩
theorem dJ.over {now d:Int}{js:List J}{bk:List Ch}(G:dJ now js bk){k:Nat}{j:J}(hk:js[k]?=some j)(hd:ways d)(hon:j.on=true)(hr:d=0→j.runs≤2) :
 dJ now (js.set k (j.over now d)) (bk++[j.ji now d])∧paid (bk++[j.ji now d])+pays (js.set k (j.over now d)) now=paid bk+pays js now:=by
 have hlt:=(List.getElem?_eq_some_iff.1 hk).1;have hlen:=G.len;have J0:=G.jobs k j hk;refine⟨G.ji hk _ _ (J0.over hd G.uP hr) hon (j.ni now d hd) (j.Bo now d) (J0.ji hd G.uP (by omega)),?_⟩;rw[Qg,EY hk,oz (j.ni now d hd),Qe hon];have hb:=J0.block (by simpa[J.on]using hon);have e:j.order.toNat=ord j.s.size:=by rw[hb.1];simp
 rw[e];show paid bk+((2^ord j.s.size:Nat):Int)*(j.till now).ran+_=_
 omega
theorem dJ.cancel {now:Int}{js:List J}{bk:List Ch}(G:dJ now js bk){k:Nat}{j:J}(hk:js[k]?=some j)(hw:j.how=1∨j.how=2) :
 dJ now (js.set k (j.over now 7)) bk∧pays (js.set k (j.over now 7)) now=pays js now:=by
 have hoff:j.on=false:=by rcases hw with h|h<;>simp[J.on,h]
 have ho:=j.ni now 7 (.inr (.inr (.inr (.inl rfl))));refine⟨G.set hk _ ((G.jobs k j hk).over (.inr (.inr (.inr (.inl rfl)))) G.uP fun h=>by omega) ?_,Di hk _ (by rw[oz hoff,oz ho])⟩;rw[hoff,ho,j.Bo]
theorem Bq {js:List J}{bk:List Ch}{k i:Nat}{j j':J}(c:Ch)(hij:js[i]?=some j)(h0:j.on=true)(h1:j'.on=false):most (js.set i j') (bk++[c]) k=most js bk k+16:=by
 have h:=uQ hij j';rw[h0,h1]at h;simp only[Bool.false_eq_true,if_false,if_true,Nat.add_zero]at h;unfold most;rw[List.length_append,List.length_singleton];omega
theorem lZ {js:List J}{bk:List Ch}{k i:Nat}{j j':J}(hij:js[i]?=some j)(h:j'.on=j.on):most (js.set i j') bk k=most js bk k:=by
 have h:=uQ hij j';rename_i e
 rw[e]at h;unfold most;omega
section
variable {w0 w:World}{L:List bV}
theorem Bv (H0:Has w0 w L)(it ij:Nat){p g n c:Nat}{tcs:Array Value}{js:List J}(hit:L[it]?=some (aF p (.cells tcs 122)))(hj:L[ij]?=some (aO (.slice (some ⟨g,0,none⟩) n c) js))(hc:tcs[12]?=some (.slice (some ⟨g,0,none⟩) n c))(hn:n≤1000)
 (k:Nat) (j:J) (hk:js[k]?=some j) (now d:Int) (h1:j.since≤now) (h2:j.started≤now) (h3:now≤1099511627776) (p1:0≤j.started) (p4:0≤j.ran) (p5:j.ran≤1099511627776) (hd:d=5∨d=6∨d=7∨d=8) :
 Calls Tryz.prog 66 #[.pointer (some ⟨p,0,none⟩),.int .u32 ((k:Int)+1),.int .i64 now,.int .i64 d] w fun e w'=>(j.can d∧e=.returned (.int .i64 0)∧Has w0 w' (L.set ij (aO (.slice (some ⟨g,0,none⟩) n c) (js.set k (j.over now d)))))∨(¬j.can d∧e=.returned (.int .i64 130)∧Has w0 w' L):=by
 have on:j.on=true↔(j.how=3∨j.how=4):=by simp[J.on]
 have c5:∀d:Int,d≠0→d≠7→((j.how=3∨j.how=4)↔j.can d):=fun d h0 h7=>⟨fun h=>.inl ⟨on.2 h,fun e=>absurd e h0⟩,fun h=>h.elim (fun h=>on.1 h.1) fun h=>absurd h.1 h7⟩;have c7:(j.how=3∨j.how=4∨j.how=1∨j.how=2)↔j.can 7:=by
  constructor
  ·intro h;rcases h with h|h|h|h
   ·exact .inl ⟨on.2 (.inl h),fun e=>by cases e⟩
   ·exact .inl ⟨on.2 (.inr h),fun e=>by cases e⟩
   ·exact .inr ⟨rfl,.inl h⟩
   ·exact .inr ⟨rfl,.inr h⟩
  ·intro h;rcases h with h|⟨_,h⟩
   ·rcases on.1 h.1 with h|h
    ·exact .inl h
    ·exact .inr (.inl h)
   ·rcases h with h|h
    ·exact .inr (.inr (.inl h))
    ·exact .inr (.inr (.inr h))
 rcases hd with rfl|rfl|rfl|rfl
 ·refine(yM H0 it ij hit hj hc hn k j hk now h1 h2 h3 p1 p4 p5).mono fun e w' h=>?_;rw[c5 5 (by decide) (by decide)]at h;exact h
 ·refine(uY H0 it ij hit hj hc hn k j hk now h1 h2 h3 p1 p4 p5).mono fun e w' h=>?_;rw[c5 6 (by decide) (by decide)]at h;exact h
 ·refine(qV H0 it ij hit hj hc hn k j hk now h1 h2 h3 p1 p4 p5).mono fun e w' h=>?_;rw[c7]at h;exact h
 ·refine(yN H0 it ij hit hj hc hn k j hk now h1 h2 h3 p1 p4 p5).mono fun e w' h=>?_;rw[c5 8 (by decide) (by decide)]at h;exact h
theorem yO (H0:Has w0 w L)(it ij:Nat){p g n c:Nat}{tcs:Array Value}{js:List J}(hit:L[it]?=some (aF p (.cells tcs 122)))(hj:L[ij]?=some (aO (.slice (some ⟨g,0,none⟩) n c) js))(hc:tcs[12]?=some (.slice (some ⟨g,0,none⟩) n c))(hn:n≤1000)
 (k:Nat) (j:J) (hk:js[k]?=some j) (now:Int) (h1:j.since≤now) (h2:j.started≤now) (h3:now≤1099511627776) (hq:tcs[3]?=some (.int .i64 2)) :
 Calls Tryz.prog 67 #[.pointer (some ⟨p,0,none⟩),.int .u32 ((k:Int)+1),.int .i64 now] w fun e w'=>(j.can 0∧e=.returned (.int .i64 0)∧Has w0 w' (L.set ij (aO (.slice (some ⟨g,0,none⟩) n c) (js.set k (j.over now 0)))))∨(¬j.can 0∧∃r:Int,bad r∧e=.returned (.int .i64 r)∧Has w0 w' L):=by
 have on:j.on=true↔(j.how=3∨j.how=4):=by simp[J.on]
 refine(zI H0 it ij hit hj hc hn k j hk now h1 h2 h3 hq).mono fun e w' h=>?_;rcases h with⟨a,b,c,d⟩|⟨a,b,c,d⟩|⟨a,c,d⟩
 ·exact .inl ⟨.inl ⟨on.2 a,fun _=>by omega⟩,c,d⟩
 ·refine .inr ⟨fun h=>?_,5,⟨by decide,by decide,by decide⟩,c,d⟩;rcases h with h|h
  ·have:=h.2 rfl;omega
  ·exact absurd h.1 (by decide)
 ·refine .inr ⟨fun h=>?_,130,⟨by decide,by decide,by decide⟩,c,d⟩;rcases h with h|h
  ·exact a (on.1 h.1)
  ·exact absurd h.1 (by decide)
end
end
end Go.Proofs.YtandhagfhppgaaaGreatDoor
