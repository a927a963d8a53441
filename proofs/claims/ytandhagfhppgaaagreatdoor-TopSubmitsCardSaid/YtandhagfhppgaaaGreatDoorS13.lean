/- Part 13 of a proof: contracts of the functions that the law reaches. No condition. -/
import Derived.Test.YtandhagfhppgaaaGreatDoorS7
import Derived.Test.YtandhagfhppgaaaGreatDoorS8
import Derived.Test.YtandhagfhppgaaaGreatDoorS11
import Derived.Test.YtandhagfhppgaaaGreatDoorS12
set_option linter.all false
set_option maxRecDepth 100000
set_option maxHeartbeats 16000000
namespace Go.Proofs.YtandhagfhppgaaaGreatDoor
section
open Go.RowKit
theorem info3:∃i0 z,Tryz.prog.info? 3=some i0∧i0.zero=some z∧i0.size=1∧i0.bytes≤1000∧z.cells.size=1:=fZ (by kernel_rfl)
theorem Py (w:World)(ty:TypeId):∃g c w1,(Builtin.append_ #[44,44] ty #[.slice (some ⟨w.heap.size,0,none⟩) 2 2,.slice (some ⟨w.heap.size+1,0,none⟩) 2 2]).run Tryz.prog ((w.alloc (.cells #[.int .i64 3,.int .i64 4] 3)).alloc (.cells #[.int .i64 1,.int .i64 2] 3))=.ok (.slice (some ⟨g,0,none⟩) 4 c) w1∧Below w.heap.size w w1 ∧
 ∀i,i<([3,4,1,2]:List Int).length→w1.cell? ⟨g,0+i,none⟩=some (.int .i64 (([3,4,1,2]:List Int).getD i 0)):=by
 obtain⟨i0,z,a1,a2,a3,a4,a5⟩:=info3;have hh:((w.alloc (.cells #[.int .i64 3,.int .i64 4] 3)).alloc (.cells #[.int .i64 1,.int .i64 2] 3)).heap[w.heap.size]?=some (.cells #[.int .i64 3,.int .i64 4] 3):=(heap_alloc_old _ _ (by simp)).trans (heap_alloc_new w _);have hown:((w.alloc (.cells #[.int .i64 3,.int .i64 4] 3)).alloc (.cells #[.int .i64 1,.int .i64 2] 3)).ownsRow w.heap.size 3 1 (.slice (some ⟨w.heap.size,0,none⟩) 2 2) 2 [.int .i64 3,.int .i64 4]:=⟨rfl,.inr ⟨w.heap.size,2,_,rfl,Nat.le_refl _,hh,Nat.le_refl _,by decide,rfl,rfl⟩⟩;obtain⟨v1,w1,hr,ho,hg,hnil,_⟩:=run_append_own_at (P:=Tryz.prog) ((w.alloc (.cells #[.int .i64 3,.int .i64 4] 3)).alloc (.cells #[.int .i64 1,.int .i64 2] 3)) w.heap.size 44 ty 3 i0 z 1 i0.bytes Tryz.underlying44 a1 a2 a3 rfl a5 (by decide) _ 2 _ hown ⟨w.heap.size+1,0,none⟩ 2 2 [.int .i64 1,.int .i64 2] rfl
  (fun j u hu=>by rw[Addr.add_mid,aj (heap_alloc2_new w _ _),Nat.zero_add,←Array.getElem?_toList];exact hu)
  (fun u hu=>by simp at hu;rcases hu with rfl|rfl<;>rfl) (by decide) (Nat.le_trans (Nat.mul_le_mul_left 4 a4) (by decide)) (by simp;omega)
 obtain⟨A1,c1,rfl⟩:=jD ho;rcases ho.2 with⟨h0,_⟩|⟨g,cap,cur,hv,hb,hc,hn,hm,hs,ht⟩
 ·injection h0 with _ h1 _;cases h1
 ·injection hv with e1 e2 e3;subst e1;refine⟨g,c1,w1,hr,?_,fun i hi=>?_⟩
  ·have hb2:=au (au (Below.refl w.heap.size w) (.cells #[.int .i64 3,.int .i64 4] 3)) (.cells #[.int .i64 1,.int .i64 2] 3);exact⟨hg.os.trans hb2.os,hg.tape.trans hb2.tape,hg.output.trans hb2.output,Nat.le_trans hb2.size hg.size,fun q hq=>(hg.block q (by simp;omega) (by simp[Value.ownBlock];omega)).trans (hb2.block q hq)⟩
  ·rw[aj hc,Nat.zero_add,←Array.getElem?_toList];have h4:(cur.toList.take (4*1))[i]?=([.int .i64 3,.int .i64 4]++[.int .i64 1,.int .i64 2]:List Value)[i]?:=by rw[←ht]
   rw[List.getElem?_take_of_lt (by simpa using hi)]at h4;rw[h4];rcases(by simp at hi;omega:i=0∨i=1∨i=2∨i=3)with rfl|rfl|rfl|rfl<;>rfl
section
variable {w0 w:World}{L:List bW}
theorem qO (H0:Has w0 w L)(it ij:Nat){p g n c:Nat}{tcs:Array Value}{js:List J}(hit:L[it]?=some (aF p (.cells tcs 122)))(hj:L[ij]?=some (aS (.slice (some ⟨g,0,none⟩) n c) js))(hc:tcs[12]?=some (.slice (some ⟨g,0,none⟩) n c))(hn:n≤1000)
 (k:Nat) (j:J) (hk:js[k]?=some j) (now:Int) (h1:j.since≤now) (h2:j.started≤now) (h3:now≤1099511627776) (p1:0≤j.started) (p4:0≤j.ran) (p5:j.ran≤1099511627776) :
 Calls Tryz.prog 66 #[.pointer (some ⟨p,0,none⟩),.int .u32 ((k:Int)+1),.int .i64 now,.int .i64 7] w fun e w'=>((j.how=3∨j.how=4∨j.how=1∨j.how=2)∧e=.returned (.int .i64 0)∧Has w0 w' (L.set ij (aS (.slice (some ⟨g,0,none⟩) n c) (js.set k { (j.till now)with how:=7}))))∨(¬(j.how=3∨j.how=4∨j.how=1∨j.how=2)∧e=.returned (.int .i64 130)∧Has w0 w' L):=by
 obtain⟨bf,cf,w1,hr,hb,hz⟩:=Py w 44;have HA:=H0.below hb;have HR:=ah.mk hr;have YES:=fun hy=>ah.mk (oW (cf:=cf) HA it ij hit hj hc hn k j hk now h1 h2 h3 p1 p4 p5 [3,4,1,2] (by decide) hz 7 hy);have NO:=fun hy=>ah.mk (kZ (cf:=cf) HA it ij hit hj hc hn k j hk now h1 h2 h3 (.func (.func 116) #[] #[]) [3,4,1,2] (by decide) hz 7 hy);clear hz HA H0 hit hj hc hk hr hb;by_cases hy:([3,4,1,2]:List Int).contains j.how=true
 ·have Y:=YES hy;have hy2:j.how=3∨j.how=4∨j.how=1∨j.how=2:=by simpa using hy
  suffices h:Calls Tryz.prog 66 #[.pointer (some ⟨p,0,none⟩),.int .u32 ((k:Int)+1),.int .i64 now,.int .i64 7] w fun e w'=>e=.returned (.int .i64 0)∧Has w0 w' (L.set ij (aS (.slice (some ⟨g,0,none⟩) n c) (js.set k { (j.till now)with how:=7})))from h.mono fun e w' h=>.inl ⟨hy2,h⟩
  clear YES NO hy hy2;go_enter Tryz.func66,Tryz.ntmps66;go_wp2_with (first|(go_at_call 64;refine Y.out.mono ?_;rintro e w2 ⟨rfl,hs⟩;have H2:=ah.mk hs;clear hs)|(at_builtin;refine step_append rfl 44 (.tmp 14) (.tmp 15) rfl rfl rfl HR.out ?_))
  go_ret;exact⟨rfl,H2.out⟩
 ·have hy1:([3,4,1,2]:List Int).contains j.how=false:=by simpa using hy
  have Y:=NO hy1;have hy2:¬(j.how=3∨j.how=4∨j.how=1∨j.how=2):=by simpa using hy1
  suffices h:Calls Tryz.prog 66 #[.pointer (some ⟨p,0,none⟩),.int .u32 ((k:Int)+1),.int .i64 now,.int .i64 7] w fun e w'=>e=.returned (.int .i64 130)∧Has w0 w' L from h.mono fun e w' h=>.inr ⟨hy2,h⟩
  clear YES NO hy hy1 hy2;go_enter Tryz.func66,Tryz.ntmps66;go_wp2_with (first|(go_at_call 64;refine Y.out.mono ?_;rintro e w2 ⟨rfl,hs⟩;have H2:=ah.mk hs;clear hs)|(at_builtin;refine step_append rfl 44 (.tmp 14) (.tmp 15) rfl rfl rfl HR.out ?_))
  go_ret;exact⟨rfl,H2.out⟩
end
end
section
open Go.RowKit
def sG:ByteArray:=⟨#[120]⟩
theorem L6:small sG:=by
 refine⟨fun j b h=>?_,by decide,by decide⟩;have : ∀x∈sG.data.toList,97≤x.toNat∧x.toNat≤122:=by decide
 exact this b (List.mem_of_getElem? h)
def mX (w:World)(g:Nat):Prop:=w.rangeAt g 0 acc0.toList∧w.rangeAt g 3 jg.toList
theorem mX.on {w:World}{g:Nat}(h:mX w g)(k:GW w):mX k.W g:=⟨bQ h.1 k.h,bQ h.2 k.h⟩
section
variable {w:World}
theorem sH {ag ac og oc:Nat}(a b:Int)(ha:0≤a)(hb:0≤b)(hA:mX w ag)(o0:w.cell? ⟨og,0,none⟩=some (.int .i64 a))(o1:w.cell? ⟨og,1,none⟩=some (.int .i64 b)) :
 Calls Tryz.prog 283 #[.slice (some ⟨ag,0,none⟩) 2 ac,.slice (some ⟨og,0,none⟩) 2 oc] w fun e w'=>e=.returned (.int .i64 0)∧Below w.heap.size w w':=by
 refine named fun R HQ=>?_;have HA:=ah.mk hA;have q0:∀g:GW w,g.W.cell? ⟨og,0,none⟩=some (.int .i64 a):=fun g=>g.cell o0;have q1:∀g:GW w,g.W.cell? ⟨og,1,none⟩=some (.int .i64 b):=fun g=>g.cell o1;clear hA o0 o1;obtain⟨W3,hW⟩:∃W3,W3=((w.alloc (.cells #[.string sG,.int .i64 0,.int .i64 0,.int .i64 1] 78)).alloc (.cells #[.string sG,.int .i64 0,.int .i64 1] 81)).alloc (.cells (bT 1 1 1 0 (.slice (some ⟨w.heap.size,0,none⟩) 1 1) (.slice (some ⟨w.heap.size+1,0,none⟩) 1 1) (.slice (some ⟨ag,0,none⟩) 2 ac)) 33):=⟨_,rfl⟩;have hB:Below w.heap.size w W3:=by rw[hW];exact au (au (au (Below.refl _ _) _) _) _
 have hh0:W3.heap[w.heap.size]?=some (.cells #[.string sG,.int .i64 0,.int .i64 0,.int .i64 1] 78):=by rw[hW,heap_alloc_old _ _ (by simp;omega),heap_alloc_old _ _ (by simp)];exact heap_alloc_new _ _
 have hh1:W3.heap[w.heap.size + 1]?=some (.cells #[.string sG,.int .i64 0,.int .i64 1] 81):=by rw[hW,heap_alloc_old _ _ (by simp)];exact heap_alloc2_new _ _ _
 have CC:ah (Calls Tryz.prog 55 #[.agg (bT 1 1 1 0 (.slice (some ⟨w.heap.size,0,none⟩) 1 1) (.slice (some ⟨w.heap.size+1,0,none⟩) 1 1) (.slice (some ⟨ag,0,none⟩) 2 ac))] W3 fun e w'=>e=.returned (.int .i64 0)∧∃g:GW w,w'=g.W):=⟨by
  refine(xI (w:=W3) 1 1 1 0 (by decide) (by decide) (by decide) (by decide) (by decide) (by decide) (by decide) (by decide) (fun g=>?_) (fun g=>?_) (fun g=>?_)).mono fun e w' ⟨he,hb⟩=>⟨he,⟨w',ay hB hB.size hb⟩,rfl⟩
  ·exact sD sG 0 0 1 L6 (by decide) (by decide) (by decide) (by decide) (by decide) (by decide) (g.cell (by rw[aj hh0];rfl)) (g.cell (by rw[aj hh0];rfl)) (g.cell (by rw[aj hh0];rfl)) (g.cell (by rw[aj hh0];rfl))
  ·exact xG sG 0 1 L6 (by decide) (by decide) (by decide) (by decide) (g.cell (by rw[aj hh1];rfl)) (g.cell (by rw[aj hh1];rfl)) (g.cell (by rw[aj hh1];rfl))
  ·have:=HA.out.on ⟨W3,hB⟩;exact oG (bQ this.1 g.h) (bQ this.2 g.h)⟩
 subst hW;unfold bT sG at CC;clear hB hh0 hh1;go_enter Tryz.func283,Tryz.ntmps283;go_wp2_with (go_at_call 55;refine CC.out.mono ?_;rintro e w' ⟨rfl,g1,rfl⟩)
 refine wp_loop_rounds 3 ?_;iterate 3
  rw[rounds_succ];go_wp2_with fail
 first|go_ret|skip
 rw[←HQ.out];exact⟨rfl,g1.h⟩
end
end
section
open Go.RowKit
section
variable {w0 w:World}{L:List bW}
theorem xK {W:World}(H:Has w0 W L)(i:Nat){v:Value}{l:List Int}(hi:L[i]?=some (aV 3 1 encI v l))(ty:TypeId)(x:Int)(hn:l.length≤4000000000) :
 ∃A1 c1 w1,(Builtin.append_ #[44,44] ty #[v,.slice (some ⟨W.heap.size,0,none⟩) 1 1]).run Tryz.prog (W.alloc (.cells #[.int .i64 x] 3))=.ok (.slice A1 (l.length+1) c1) w1∧Has w0 w1 (L.set i (aV 3 1 encI (.slice A1 (l.length+1) c1) (l++[x]))):=
 wR H i hi 44 ty Tryz.underlying44 info3 (by decide) x #[.int .i64 x] rfl rfl (by simp[Value.oneCell']) hn
theorem mX.below {w1:World}{g:Nat}(h:mX w g)(hb:Below w.heap.size w w1):mX w1 g:=⟨bQ h.1 hb,bQ h.2 hb⟩
theorem lG {g:Nat}(h:mX w g):w.cell? ⟨g,0,none⟩=some (.string aU)∧w.cell? ⟨g,1,none⟩=some (.string cZ)∧w.cell? ⟨g,2,none⟩=some (.int .i64 1)∧w.cell? ⟨g,3,none⟩=some (.string bP)∧w.cell? ⟨g,4,none⟩=some (.string aU)∧w.cell? ⟨g,5,none⟩=some (.int .i64 1):=
 ⟨h.1 0 _ rfl,h.1 1 _ rfl,h.1 2 _ rfl,h.2 0 _ rfl,h.2 1 _ rfl,h.2 2 _ rfl⟩
theorem zero3 (w:World):(zeroValue 3).run Tryz.prog w=.ok (.int .i64 0) w:=by kernel_rfl
theorem sJ {ag ac:Nat}(hA:mX w ag) :
 Calls Tryz.prog 284 #[.slice (some ⟨ag,0,none⟩) 2 ac] w fun e w'=>∃g c,e=.returned (.slice (some ⟨g,0,none⟩) 2 c)∧Has w w' [aV 3 1 encI (.slice (some ⟨g,0,none⟩) 2 c) [-1,0]]:=by
 refine named fun R HQ=>?_;obtain⟨a0,a1,a2,a3,a4,a5⟩:=lG hA;have H1:=((Has.start w).jW Value.string).nilRow 3 1 encI;obtain⟨w2,hr2,h2⟩:=run_store eG H1 0 rfl 402 9 3 Tryz.underlying402 Tryz.underlying9 cZ (.int .i64 (-1));have Y5:=h2.aZ (.cells #[.string aU,.string cZ,.int .i64 1] 84);have hk2:=dR eG Y5 0 rfl 402 9 3 Tryz.underlying402 Tryz.underlying9 (.int .i64 0) (zero3 _) cZ false;obtain⟨A3,k3,w3,hr3,h3⟩:=xK Y5 1 rfl 44 (-1) (by simp);obtain⟨w4,hr4,h4⟩:=run_store eG h3 0 rfl 402 9 3 Tryz.underlying402 Tryz.underlying9 aU (.int .i64 0);have Y6:=h4.aZ (.cells #[.string bP,.string aU,.int .i64 1] 84);have hk4:=dR eG Y6 0 rfl 402 9 3 Tryz.underlying402 Tryz.underlying9 (.int .i64 0) (zero3 _) aU false;obtain⟨A5,k5,w5,xB,h5⟩:=xK Y6 1 rfl 44 0 (by simp);obtain⟨w6,hr6,h6⟩:=run_store eG h5 0 rfl 402 9 3 Tryz.underlying402 Tryz.underlying9 bP (.int .i64 1);have hb4:=hA.below h4.old;obtain⟨_,_,_,b3,b4,b5⟩:=lG hb4;obtain⟨b0,b1,b2,_⟩:=lG (hA.below h2.old);obtain⟨g5,rfl,_⟩:=dG h6 1 rfl rfl (by simp);have HE:ah (Has w w6 [aV 3 1 encI (.slice (some ⟨g5,0,none⟩) 2 k5) [-1,0]]):=⟨((h6.drop 0).drop 1).drop 1⟩;have e2:(look (store ([]:List (ByteArray×Value)) cZ (.int .i64 (-1))) cZ).getD (.int .i64 0)=.int .i64 (-1):=rfl;have e4:(look (store (store ([]:List (ByteArray×Value)) cZ (.int .i64 (-1))) aU (.int .i64 0)) aU).getD (.int .i64 0)=.int .i64 0:=rfl;rw[if_neg (by decide),e2]at hk2;rw[if_neg (by decide),e4]at hk4;simp only[World.size_alloc,List.length_nil,Nat.zero_add,List.nil_append,List.length_singleton,List.singleton_append,Nat.reduceAdd]at hr3 xB;have f3:w3.cell? ⟨w2.heap.size,0,none⟩=some (.string aU):=by rw[aj (h3.blk 2 rfl)];rfl
 have f5:w5.cell? ⟨w4.heap.size,0,none⟩=some (.string bP):=by rw[aj (h5.blk 3 rfl)];rfl
 have X:=ah.mk hr2;have X2:=ah.mk hk2;have X3:=ah.mk hr3;have X4:=ah.mk hr4;have X5:=ah.mk hk4;have X6:=ah.mk xB;have X7:=ah.mk hr6;unfold cZ aU bP at *;clear e2 e4 hr2 hk2 hr3 hr4 hk4 xB hr6 H1 h2 Y5 h3 h4 Y6 h5 h6 hA hb4 a3 a4 a5;have hmm:=@run_makeMap Tryz.prog;go_enter Tryz.func284,Tryz.ntmps284;go_wp2_with (refine aG rfl 402 _ _ _ rfl rfl rfl rfl X.out ?_)
 refine wp_loop_rounds 3 ?_;rw[rounds_succ];go_wp2_with (first|(refine kK rfl 402 _ _ _ rfl rfl rfl rfl X4.out ?_)|(at_builtin;refine step_append rfl 44 (.tmp 16) (.tmp 21) rfl rfl rfl X3.out ?_)|(refine fH rfl 402 _ _ false rfl rfl rfl X2.out ?_))
 rw[rounds_succ];go_wp2_with (first|(refine kK rfl 402 _ _ _ rfl rfl rfl rfl X7.out ?_)|(at_builtin;refine step_append rfl 44 (.tmp 16) (.tmp 21) rfl rfl rfl X6.out ?_)|(refine fH rfl 402 _ _ false rfl rfl rfl X5.out ?_))
 rw[rounds_succ];go_wp2_with fail
 first|go_ret|skip
 rw[←HQ.out];exact⟨g5,k5,rfl,HE.out⟩
end
end
section
open Go.RowKit
section
variable {w0 w:World}{L:List bW}
theorem nX {α:Type}{enc:α→List Value}{e:TypeId}{sz:Nat}{b:Nat}{cs:Array Value}(H:Has w0 w L)(i:Nat)(hi:L[i]?=some (aF b (.cells cs e (0,0))))(l:List α)(hcs:cs.toList=l.flatMap enc)(hlen:l.length*sz=cs.size)(hn:l.length≤maxLen) :
 Has w0 w (L.set i (aV e sz enc (.slice (some ⟨b,0,none⟩) l.length l.length) l)):=
 H.imp i _ _ hi fun F h=>⟨⟨by rw[←hcs,hlen,Array.length_toList],.inr ⟨b,l.length,cs,rfl,Nat.zero_le _,h.1,Nat.le_refl _,hn,hlen.symm,by rw[hlen,←hcs,←Array.length_toList,List.take_length]⟩⟩,fun k hk=>by cases hk;exact h.2⟩
theorem P8 (W:World):(Instr.makeSlice 44 (.int .i64 2) (.int .i64 2)).run Tryz.prog W=.ok (.slice (some ⟨W.heap.size,0,none⟩) 2 2) (W.alloc (.cells #[.int .i64 0,.int .i64 0] 3)):=by kernel_rfl
theorem I7 {ag ac og oc:Nat}(a b:Nat)(ha:a≤1000000000)(hb:b≤1000000000)(hA:mX w ag)(o0:w.cell? ⟨og,0,none⟩=some (.int .i64 a))(o1:w.cell? ⟨og,1,none⟩=some (.int .i64 b)) :
 Calls Tryz.prog 281 #[.slice (some ⟨ag,0,none⟩) 2 ac,.slice (some ⟨og,0,none⟩) 2 oc] w fun e w'=>∃g c,e=.returned (.tuple #[.slice (some ⟨g,0,none⟩) 2 c,.int .i64 0])∧Has w w' [aV 3 1 encI (.slice (some ⟨g,0,none⟩) 2 c) [((a+b:Nat):Int),(b:Int)]]:=by
 refine named fun R HQ=>?_;have RC:=ah.mk (sH (ac:=ac) (oc:=oc) (a:Int) (b:Int) (by omega) (by omega) hA o0 o1);have PC:=ah.mk fun(g:GW w)=>sJ (ac:=ac) (hA.on g);have q0:∀g:GW w,g.W.cell? ⟨og,0,none⟩=some (.int .i64 a):=fun g=>g.cell o0;have q1:∀g:GW w,g.W.cell? ⟨og,1,none⟩=some (.int .i64 b):=fun g=>g.cell o1;have HB:=ah.mk (And.intro ha hb);clear hA o0 o1 ha hb;go_enter Tryz.func281,Tryz.ntmps281;go_wp2_with (first|(go_at_call 283;refine RC.out.mono ?_;rintro e w' ⟨rfl,hw⟩;obtain⟨g1,hg1⟩:∃g1:GW w,w'=g1.W:=⟨⟨w',hw⟩,rfl⟩;subst hg1;clear hw)|(go_at_call 284;refine(PC.out _).mono ?_;rintro e w2 ⟨ug,uc,rfl,hw⟩;have H2:=ah.mk ((Has.start w).below g1.h |>.more hw);clear hw;refine ah.out ?_))
 obtain⟨g2,hg2⟩:∃g2:GW w,w2=g2.W:=⟨⟨w2,H2.out.old⟩,rfl⟩;subst hg2;have u0:g2.W.cell? ⟨ug,0,none⟩=some (.int .i64 (-1)):=cu H2.out 0 rfl rfl bJ 0 (-1) rfl 0 _ rfl;have u1:g2.W.cell? ⟨ug,1,none⟩=some (.int .i64 0):=cu H2.out 0 rfl rfl bJ 1 0 rfl 0 _ rfl;have U:=ah.mk (And.intro u0 u1);refine ah.mk ?_;have hmk:=P8;have K1:∀ {p:Addr} {v:Value},g2.W.cell? p=some v→∀o,(g2.W.alloc o).cell? p=some v:=fun h o=>ak (au (Below.refl _ _) _) h;have K2:∀ {p:Addr} {v:Value},g2.W.cell? p=some v→∀o o2,((g2.W.alloc o).alloc o2).cell? p=some v:=fun h o o2=>ak (au (au (Below.refl _ _) _) _) h;have r0:=K1 (q0 g2);have r1:=K1 (q1 g2);have r2:=K1 u0;have r3:=K1 u1;have s0:=K2 (q0 g2);have s1:=K2 (q1 g2);have s2:=K2 u0;have s3:=K2 u1;clear K1 K2;go_wp2_with fail
 refine wp_loop_rounds 3 ?_;rw[rounds_succ];go_wp2_with fail
 refine wp_loop_rounds 1 ?_;rw[rounds_succ];go_wp2_with fail
 rw[rounds_succ];have SM:ah (∀g c W,W.cell? ⟨g,0,none⟩=some (.int .i64 (a:Int))→W.cell? ⟨g,1,none⟩=some (.int .i64 (b:Int))→Calls Tryz.prog 280 #[.slice (some ⟨g,0,none⟩) 2 c] W fun e w'=>e=.returned (.int .i64 ((a+b:Nat):Int))∧w'=W):=⟨fun g c W h0 h1=>by
  have:=HB.out;have:=xE (w:=W) (g:=g) (c:=c) (a:Int) (b:Int) (by omega) (by omega) (by omega) (by omega) h0 h1;rwa [←Int.natCast_add]at this⟩
 obtain⟨s,hs⟩:∃s,s=a+b:=⟨_,rfl⟩;rw[←hs]at SM HQ;clear hs;go_wp2_with fail
 refine wp_loop_rounds 2 ?_;rw[rounds_succ];go_wp2_with (go_at_call 280;refine(SM.out _ _ _ (by rw[aj (heap_alloc2_new _ _ _)];rfl) (by rw[aj (heap_alloc2_new _ _ _)];rfl)).mono ?_;rintro e w' ⟨rfl,hw⟩;obtain rfl:=hw.symm;clear hw)
 rw[rounds_succ];go_wp2_with fail
 rw[rounds_succ];go_wp2_with fail
 first|go_ret2|skip
 rw[←HQ.out];exact⟨_,_,rfl,(nX (enc:=encI) ((H2.out.aZ (.cells #[.int .i64 s,.int .i64 b] 3)).drop 0) 0 rfl [(s:Int),(b:Int)] rfl rfl (show 2≤maxLen by decide)).alloc _⟩
end
end
section
open Go.RowKit
section
variable {w0 w:World}{L:List bW}
theorem CU {n s:Nat}(h:n≤s)(hs:0<s):n*65536/s≤65536:=by
 have h1:n*65536≤65536*s:=by rw[Nat.mul_comm];exact Nat.mul_le_mul_left _ h
 exact Nat.le_trans (Nat.div_le_div_right h1) (by rw[Nat.mul_div_cancel _ hs];exact Nat.le_refl _)
theorem CV {ag ac og oc:Nat}(a b:Nat)(ha:a≤1000000000)(hb:b≤1000000000)(hA:mX w ag)(o0:w.cell? ⟨og,0,none⟩=some (.int .i64 a))(o1:w.cell? ⟨og,1,none⟩=some (.int .i64 b)) :
 Calls Tryz.prog 241 #[.slice (some ⟨ag,0,none⟩) 2 ac,.slice (some ⟨og,0,none⟩) 2 oc] w fun e w'=>∃g c,e=.returned (.tuple #[.slice (some ⟨g,0,none⟩) 2 c,.int .i64 0])∧∃p q:Nat,p≤65536∧q≤65536∧Has w w' [aV 3 1 encI (.slice (some ⟨g,0,none⟩) 2 c) [(p:Int),(q:Int)]]:=by
 refine named fun R HQ=>?_;have SC:=ah.mk (I7 (ac:=ac) (oc:=oc) a b ha hb hA o0 o1);obtain⟨s,hs⟩:∃s,s=a+b:=⟨_,rfl⟩;rw[←hs]at SC;have hbs:b≤s:=by omega
 have hs2:s≤2000000000:=by omega
 have hmk:=P8;clear hA o0 o1 ha hs;go_enter Tryz.func241,Tryz.ntmps241;by_cases h0:0<s
 ·have M0:=ah.mk fun W=>jK (w:=W) s 65536 s h0 (by omega) (by omega) (by decide) (Nat.lt_of_le_of_lt (Nat.mul_le_mul_right _ hs2) (by decide));have M1:=ah.mk fun W=>jK (w:=W) b 65536 s h0 (by omega) (by omega) (by decide) (Nat.lt_of_le_of_lt (Nat.mul_le_mul_right _ (Nat.le_trans hbs hs2)) (by decide));have P0:=CU (Nat.le_refl s) h0;have P1:=CU hbs h0;obtain⟨p,hp⟩:∃p,p=s*65536/s:=⟨_,rfl⟩;obtain⟨q,hq⟩:∃q,q=b*65536/s:=⟨_,rfl⟩;rw[←hp]at M0 P0;rw[←hq]at M1 P1;have PQ:=ah.mk (And.intro P0 P1);have h0i:(0:Int)<(s:Int):=by omega
  clear hp hq P0 P1 hb hbs hs2;go_wp2_with (go_at_call 281;refine SC.out.mono ?_;rintro e w2 ⟨sg,sc,rfl,hw⟩;have H2:=ah.mk hw;clear hw;refine ah.out ?_)
  have H4:=ah.mk (H2.out.aZ (.cells #[.int .i64 0,.int .i64 0] 3));have s0:=cu H4.out 0 rfl rfl bJ 0 (s:Int) rfl 0 _ rfl;have s1:=cu H4.out 0 rfl rfl bJ 1 (b:Int) rfl 0 _ rfl;have t0:=cu H2.out 0 rfl rfl bJ 0 (s:Int) rfl 0 _ rfl;refine ah.mk ?_;go_wp2_with fail
  refine wp_loop_rounds 3 ?_;rw[rounds_succ];go_wp2_with (go_at_call 282;refine(M0.out _).mono ?_;rintro e w5 ⟨rfl,hw⟩;have H5:=ah.mk (H4.out.below hw.below);clear hw;refine ah.out ?_)
  have f0:w5.frozen? ⟨w2.heap.size,0,none⟩=false:=aJ (H5.out.blk 1 rfl) _;have d0:w5.cell? ⟨w2.heap.size,0,none⟩=some (.int .i64 0):=by rw[aj (H5.out.blk 1 rfl)];rfl
  have H6:=ah.mk (H5.out.put 1 rfl 0 (.int .i64 p) #[.int .i64 p,.int .i64 0] rfl);have v0:=cu H6.out 0 rfl rfl bJ 0 (s:Int) rfl 0 _ rfl;have v1:=cu H6.out 0 rfl rfl bJ 1 (b:Int) rfl 0 _ rfl;refine ah.mk ?_;go_wp2_with fail
  rw[rounds_succ];go_wp2_with (go_at_call 282;refine(M1.out _).mono ?_;rintro e w7 ⟨rfl,hw⟩;have H7:=ah.mk (H6.out.below hw.below);clear hw;refine ah.out ?_)
  have f1:w7.frozen? ⟨w2.heap.size,1,none⟩=false:=aJ (H7.out.blk 1 rfl) _;have d1:w7.cell? ⟨w2.heap.size,1,none⟩=some (.int .i64 0):=by rw[aj (H7.out.blk 1 rfl)];rfl
  have H8:=ah.mk (H7.out.put 1 rfl 1 (.int .i64 q) #[.int .i64 p,.int .i64 q] rfl);refine ah.mk ?_;go_wp2_with fail
  rw[rounds_succ];go_wp2_with fail
  first|go_ret2|skip
  rw[←HQ.out];exact⟨_,_,rfl,p,q,PQ.out.1,PQ.out.2,nX (enc:=encI) (H8.out.drop 0) 0 rfl [(p:Int),(q:Int)] rfl rfl (show 2≤maxLen by decide)⟩
 ·obtain rfl:s=0:=by omega
  obtain rfl:b=0:=by omega
  go_wp2_with (go_at_call 281;refine SC.out.mono ?_;rintro e w2 ⟨sg,sc,rfl,hw⟩;have H2:=ah.mk hw;clear hw;refine ah.out ?_)
  have H4:=ah.mk (H2.out.aZ (.cells #[.int .i64 0,.int .i64 0] 3));have s0:(w2.alloc (.cells #[.int .i64 0,.int .i64 0] 3)).cell? ⟨sg,0,none⟩=some (.int .i64 0):=cu H4.out 0 rfl rfl bJ 0 0 rfl 0 _ rfl;have s1:(w2.alloc (.cells #[.int .i64 0,.int .i64 0] 3)).cell? ⟨sg,1,none⟩=some (.int .i64 0):=cu H4.out 0 rfl rfl bJ 1 0 rfl 0 _ rfl;refine ah.mk ?_;go_wp2_with fail
  refine wp_loop_rounds 3 ?_;iterate 3
   rw[rounds_succ];go_wp2_with fail
  first|go_ret2|skip
  rw[←HQ.out];exact⟨_,_,rfl,0,0,by decide,by decide,nX (enc:=encI) (H4.out.drop 0) 0 rfl [((0:Nat):Int),((0:Nat):Int)] rfl rfl (show 2≤maxLen by decide)⟩
end
end
section
open Go.RowKit
section
theorem lZ (n lo hi:Int)(h1:lo≤n)(h2:n≤hi)(w:World):Calls Tryz.prog 285 #[.int .i64 n,.int .i64 lo,.int .i64 hi] w fun e w'=>e=.returned (.bool true)∧w'=w:=by
 refine named fun R HQ=>?_;go_enter Tryz.func285,Tryz.ntmps285;go_wp2_with fail
 first|go_ret|skip
 rw[←HQ.out];exact⟨rfl,rfl⟩
theorem I8 (n lo hi:Int):∃b:Bool,∀w,Calls Tryz.prog 285 #[.int .i64 n,.int .i64 lo,.int .i64 hi] w fun e w'=>e=.returned (.bool b)∧w'=w:=by
 by_cases h1:lo≤n
 ·by_cases h2:n≤hi
  ·exact⟨true,lZ n lo hi h1 h2⟩
  ·refine⟨false,fun w=>named fun R HQ=>?_⟩;have h2:¬n≤hi:=h2;go_enter Tryz.func285,Tryz.ntmps285;go_wp2_with fail
   first|go_ret|skip
   rw[←HQ.out];exact⟨by simp[h2],rfl⟩
 ·refine⟨false,fun w=>named fun R HQ=>?_⟩;have hd:decide (lo≤n)=false:=decide_eq_false h1;go_enter Tryz.func285,Tryz.ntmps285;go_wp2_with fail
  first|go_ret|skip
  rw[←HQ.out];exact⟨by simp[hd],rfl⟩
theorem xM (n most:Nat)(hn:n≤1048576)(h1:1≤most)(h2:most≤1048576):∃v:Nat,v≤65536∧∀w,Calls Tryz.prog 288 #[.int .i64 n,.int .i64 most] w fun e w'=>e=.returned (.int .i64 v)∧fC w w':=by
 by_cases hlt:most<n
 ·refine⟨65536,Nat.le_refl _,fun w=>named fun R HQ=>?_⟩;have q1:(1:Int)≤most:=by omega
  have q2:(most:Int)<n:=by omega
  go_enter Tryz.func288,Tryz.ntmps288;go_wp2_with fail
  first|go_ret|skip
  rw[←HQ.out];exact⟨rfl,fC.refl _⟩
 ·refine⟨n*65536/most,CU (by omega) h1,fun w=>named fun R HQ=>?_⟩;have q1:(1:Int)≤most:=by omega
  have q2:¬(most:Int)<n:=by omega
  have M:=ah.mk (jK (w:=w) n 65536 most h1 (by omega) (by omega) (by decide) (Nat.lt_of_le_of_lt (Nat.mul_le_mul_right _ hn) (by decide)));obtain⟨v,hv⟩:∃v,v=n*65536/most:=⟨_,rfl⟩;rw[←hv]at M HQ;clear hv hlt;go_enter Tryz.func288,Tryz.ntmps288;go_wp2_with (go_at_call 282;refine M.out.mono ?_;rintro e w2 ⟨rfl,hw⟩;have H2:=ah.mk hw;clear hw)
  first|go_ret|skip
  rw[←HQ.out];exact⟨rfl,H2.out⟩
theorem Vz (q:Nat):∃m:Nat,m≤1048576∧∀W,(Builtin.min_ #[3,3] 3 #[.int .i64 q,.int .i64 1048576]).run Tryz.prog W=.ok (.int .i64 m) W:=by
 by_cases hh:q<1048576
 ·exact⟨q,by omega,fun W=>by
   have : ¬(1048576:Int)<q:=by omega
   simp[Builtin.min_,Builtin.min2,this]⟩
 ·by_cases he:q=1048576
  ·exact⟨1048576,by omega,fun W=>by subst he;simp[Builtin.min_,Builtin.min2]⟩
  ·exact⟨1048576,by omega,fun W=>by
    have : (1048576:Int)<q:=by omega
    simp[Builtin.min_,Builtin.min2,this]⟩
theorem NR (since now:Nat)(hn:now≤1000000):∃v:Nat,v≤65536∧∀w,Calls Tryz.prog 286 #[.int .i64 since,.int .i64 now] w fun e w'=>e=.returned (.int .i64 v)∧fC w w':=by
 by_cases hlt:now≤since
 ·refine⟨0,by omega,fun w=>named fun R HQ=>?_⟩;have q2:(now:Int)≤since:=by omega
  go_enter Tryz.func286,Tryz.ntmps286;go_wp2_with fail
  first|go_ret|skip
  rw[←HQ.out];exact⟨rfl,fC.refl _⟩
 ·obtain⟨m,hm,hmin⟩:=Vz (now-since);obtain⟨v,hv,ho⟩:=xM m 1048576 hm (by decide) (by decide);refine⟨v,hv,fun w=>named fun R HQ=>?_⟩;have q2:¬(now:Int)≤since:=by omega
  have q3:(now:Int)≤1000000:=by omega
  have O:ah (Calls Tryz.prog 288 #[.int .i64 (m:Int),.int .i64 1048576] w fun e w'=>e=.returned (.int .i64 v)∧fC w w'):=⟨ho w⟩;have e1:(now:Int)-since=((now-since:Nat):Int):=by omega
  rw[←e1]at hmin;clear ho e1 hlt;go_enter Tryz.func286,Tryz.ntmps286;go_wp2_with (go_at_call 288;refine O.out.mono ?_;rintro e w2 ⟨rfl,hw⟩;have H2:=ah.mk hw;clear hw)
  first|go_ret|skip
  rw[←HQ.out];exact⟨rfl,H2.out⟩
theorem Fp (size:Nat)(h1:1≤size)(h2:size≤8):∃v:Nat,v≤65536∧∀w,Calls Tryz.prog 287 #[.int .i64 size,.int .i64 8] w fun e w'=>e=.returned (.int .i64 v)∧fC w w':=by
 obtain⟨v,hv,ho⟩:=xM size 8 (by omega) (by decide) (by decide);refine⟨v,hv,fun w=>named fun R HQ=>?_⟩;have q1:(1:Int)≤size:=by omega
 have q2:(size:Int)≤8:=by omega
 have O:ah (Calls Tryz.prog 288 #[.int .i64 (size:Int),.int .i64 8] w fun e w'=>e=.returned (.int .i64 v)∧fC w w'):=⟨ho w⟩;clear ho;go_enter Tryz.func287,Tryz.ntmps287;go_wp2_with (go_at_call 288;refine O.out.mono ?_;rintro e w2 ⟨rfl,hw⟩;have H2:=ah.mk hw;clear hw)
 first|go_ret|skip
 rw[←HQ.out];exact⟨rfl,H2.out⟩
end
end
end Go.Proofs.YtandhagfhppgaaaGreatDoor
