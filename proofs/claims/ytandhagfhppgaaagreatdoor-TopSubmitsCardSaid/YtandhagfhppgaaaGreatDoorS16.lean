/- Part 16 of a proof: contracts of the functions that the law reaches. No condition. -/
import Derived.Shelf.SlSortCmp.WholeK
import Derived.Test.YtandhagfhppgaaaGreatDoorS6
import Derived.Test.YtandhagfhppgaaaGreatDoorS7
import Derived.Test.YtandhagfhppgaaaGreatDoorS8
import Derived.Test.YtandhagfhppgaaaGreatDoorS10
import Derived.Test.YtandhagfhppgaaaGreatDoorS11
import Derived.Test.YtandhagfhppgaaaGreatDoorS12
import Derived.Test.YtandhagfhppgaaaGreatDoorS13
set_option linter.all false
set_option maxRecDepth 100000
set_option maxHeartbeats 16000000
namespace Go.Proofs.YtandhagfhppgaaaGreatDoor
section
open Go.RowKit
section
variable {w:World}
theorem uF {x:Nat}(now:Int)(h:w.cell? ⟨x,12,none⟩=some (.int .i64 now)) :
 Calls Tryz.prog 13 #[.pointer (some ⟨x,0,none⟩)] w fun e w'=>e=.returned (.int .i64 now)∧w'=w:=by
 go_enter Tryz.func13,Tryz.ntmps13;go_wp2_with fail
 go_ret;exact⟨rfl,rfl⟩
theorem oZ {x p n c:Nat}{A:Option Addr}(h:w.cell? ⟨x,13,none⟩=some (.pointer (some ⟨p,0,none⟩)))(h2:w.cell? ⟨p,12,none⟩=some (.slice A n c)) :
 Calls Tryz.prog 15 #[.pointer (some ⟨x,0,none⟩)] w fun e w'=>e=.returned (.int .i64 n)∧w'=w:=by
 go_enter Tryz.func15,Tryz.ntmps15;go_wp2_with (go_at_call 51;refine(uz h2).mono ?_;rintro e w' ⟨rfl,hw⟩;obtain rfl:=hw.symm;clear hw)
 go_ret;exact⟨rfl,rfl⟩
theorem Ns {x p g n c:Nat}(h:w.cell? ⟨x,13,none⟩=some (.pointer (some ⟨p,0,none⟩)))(h2:w.cell? ⟨p,12,none⟩=some (.slice (some ⟨g,0,none⟩) n c))(id:Nat)(j:J)(h1:1≤id)(h3:id≤n)(hn:n≤1000)(hj:w.rangeAt g ((id-1)*26) j.cells.toList) :
 Calls Tryz.prog 18 #[.pointer (some ⟨x,0,none⟩),.int .u32 id] w fun e w'=>e=.returned (.tuple #[.agg j.cells,.bool true])∧Below w.heap.size w w':=by
 have GT:=ah.mk fun o=>nG (w:=w.alloc o) id j (ak (au (Below.refl _ _) _) h2) h1 h3 hn (fun i v hv=>ak (au (Below.refl _ _) _) (hj i v hv));have hx:∀o,(w.alloc o).cell? ⟨x,13,none⟩=some (.pointer (some ⟨p,0,none⟩)):=fun o=>ak (au (Below.refl _ _) _) h;clear h2 hj h;go_enter Tryz.func18,Tryz.ntmps18;go_wp2_with (first|(have _t:=H3.out;clear _t;refine aY rfl 55 (.tmp 4) (.tmp 15) rfl w.heap.size j.cells rfl rfl 55 _ ((H3.out.block _ (by simp)).trans (heap_alloc_new w _)) (eP j) rfl j.one ?_)|(go_at_call 54;refine(GT.out _).mono ?_;rintro e w3 ⟨rfl,hb⟩;have H3:=ah.mk hb;clear hb))
 try simp only[Exit.inBlock,Exit.then]
 have hg3:=(H3.out.block w.heap.size (by simp)).trans (heap_alloc_new w _);have hr:=setRow_heap w3 w.heap.size _ j.cells 55 (0,0) hg3;exact eu rfl rfl w.heap.size j.cells 55 (0,0) _ rfl hr Tryz.underlying55 rfl (eP j) ⟨rfl,below_setRow (ay (au (Below.refl _ _) _) (by simp) H3.out) (Nat.le_refl _) _⟩
theorem Pv {x p n c:Nat}{A:Option Addr}(h:w.cell? ⟨x,13,none⟩=some (.pointer (some ⟨p,0,none⟩)))(h2:w.cell? ⟨p,12,none⟩=some (.slice A n c))(id:Nat)(hid:id=0∨n<id)(hn:n≤1000)(h3:id≤4294967295) :
 Calls Tryz.prog 18 #[.pointer (some ⟨x,0,none⟩),.int .u32 id] w fun e w'=>e=.returned (.tuple #[.agg je,.bool false])∧Below w.heap.size w w':=by
 have GT:=ah.mk fun o=>get_none (w:=w.alloc o) id (ak (au (Below.refl _ _) _) h2) hid hn h3;have hx:∀o,(w.alloc o).cell? ⟨x,13,none⟩=some (.pointer (some ⟨p,0,none⟩)):=fun o=>ak (au (Below.refl _ _) _) h;clear h2 hid h;go_enter Tryz.func18,Tryz.ntmps18;go_wp2_with (first|(have _t:=H3.out;clear _t;refine aY rfl 55 (.tmp 4) (.tmp 15) rfl w.heap.size je rfl rfl 55 _ ((H3.out.block _ (by simp)).trans (heap_alloc_new w _)) jf rfl mW ?_)|(go_at_call 54;refine(GT.out _).mono ?_;rintro e w3 ⟨rfl,hb⟩;have H3:=ah.mk hb;clear hb))
 try simp only[Exit.inBlock,Exit.then]
 have hg3:=(H3.out.block w.heap.size (by simp)).trans (heap_alloc_new w _);have hr:=setRow_heap w3 w.heap.size _ je 55 (0,0) hg3;exact eu rfl rfl w.heap.size je 55 (0,0) _ rfl hr Tryz.underlying55 rfl jf ⟨rfl,below_setRow (ay (au (Below.refl _ _) _) (by simp) H3.out) (Nat.le_refl _) _⟩
theorem J.lT (j:J):j.cells[19]?=some (.int .i64 j.how):=rfl
theorem jv (j:J):Calls Tryz.prog 68 #[.agg j.cells] w fun e w'=>e=.returned (.bool (j.how==3||j.how==4))∧Below w.heap.size w w':=by
 have h19:=j.lT;go_enter Tryz.func68,Tryz.ntmps68;go_wp2_with fail
 all_goals
  rename_i h
  go_ret;exact⟨by simp[h],au (Below.refl _ _) _⟩
end
section
variable {w0 w:World}{L:List bW}
theorem IE {w:World}{p g n c:Nat}(k:Nat)(j:J)(h:w.cell? ⟨p,12,none⟩=some (.slice (some ⟨g,0,none⟩) n c))(h2:k<n)(hn:n≤1000)(hj:w.rangeAt g (k*26) j.cells.toList) :
 Calls Tryz.prog 54 #[.pointer (some ⟨p,0,none⟩),.int .u32 ((k:Int)+1)] w fun e w'=>e=.returned (.tuple #[.agg j.cells,.bool true])∧Below w.heap.size w w':=by
 have:=nG (k+1) j h (by omega) h2 hn (by simpa using hj);simpa using this
theorem vw {P:Program}{ops:Array Oper}{rest:List Oper}{o:Oper}{a:Act}{w:World}{Q:Exit→Act→World→Prop}(hg:o.guard=none)(t e:TypeId)(x:Operand)(ho:o.op=.buildSlice t 1 #[(0,x)])
 (N:Nat) (hN:w.heap.size=N) (dst:Option Tmp) (hdst:o.dst=dst) (hu:P.underlying t=some (.slice e)) (u:Value) (cells:Array Value) (hx:a.eval x=u)
 (hf:P.builtSlice e 1 [(0,u)]=some cells) (h:wpList P ops Q rest (a.put dst (.slice (some ⟨N,0,none⟩) 1 1)) (w.alloc (.cells cells e))):wpList P ops Q (o::rest) a w:=by
 subst hx;exact Go.Great.wpList_buildSliceTo hg t e 1 #[(0,x)] ho N hN dst hdst hu cells (by simpa using hf) h
theorem uG (j:J):Tryz.prog.builtSlice 55 1 [(0,.agg j.cells)]=some j.cells:=by kernel_rfl
theorem nH {α:Type}{l:List α}{k:Nat}{x:α}(h:l[k]?=some x):l.take (k+1)=l.take k++[x]:=by
 obtain⟨h1,rfl⟩:=List.getElem?_eq_some_iff.1 h;exact List.take_succ_eq_append_getElem h1
theorem lg {α:Type}(l:List α)(x y:α):(l++[x]).set l.length y=l++[y]:=by simp
theorem jV (H0:Has w0 w L)(ix it ij:Nat){x p n c:Nat}{A:Option Addr}{IG tcs:Array Value}{js:List J}(hix:L[ix]?=some (aF x (.cells IG 88)))(hit:L[it]?=some (aF p (.cells tcs 122)))(hj:L[ij]?=some (aS (.slice A n c) js))(hx:IG[13]?=some (.pointer (some ⟨p,0,none⟩)))(hc:tcs[12]?=some (.slice A n c))(hn:n≤1000) :
 Calls Tryz.prog 61 #[.pointer (some ⟨x,0,none⟩)] w fun e w'=>∃A1 c1,e=.returned (.slice A1 n c1)∧Has w0 w' (L++[aS (.slice A1 n c1) js]):=by
 have hnl:n=js.length:=by
  obtain⟨A',c',e⟩:=iW H0 ij hj;injection e with _ e2 _
 have HN:=Lib.hid hnl;have HX:=ah.mk (And.intro hix (And.intro hit (And.intro hj (And.intro hx hc))));have zh:ah (Has w0 w (L++[aS (.slice none 0 0) (js.take 0)])):=ah.mk (H0.iU 55 26);clear hix hit hj hx hc H0 hnl;go_enter Tryz.func61,Tryz.ntmps61;go_wp2_with fail
 go_loopw [3,4] (fun v i wr=>∃(k:Nat) (A1:Option Addr) (c1:Nat),v=.slice A1 k c1∧i=.int .u32 ((k:Int)+1)∧k≤n∧ah (Has w0 wr (L++[aS (.slice A1 k c1) (js.take k)]))) (fun _ i _=>n+1-(intOf i).toNat)
 case atStart=>exact⟨0,none,0,rfl,rfl,Nat.zero_le _,zh⟩
 case round =>
  clear zh;obtain⟨k,A1,c1,rfl,rfl,hk,HS⟩:=hrel;have Xf:wr.cell? ⟨x,13,none⟩=some (.pointer (some ⟨p,0,none⟩)):=by rw[aj (HS.out.blk ix (eH HX.out.1 _))];exact HX.out.2.2.2.1
  have II:wr.cell? ⟨p,12,none⟩=some (.slice A n c):=by rw[aj (HS.out.blk it (eH HX.out.2.1 _))];exact HX.out.2.2.2.2
  have Vm:=ah.mk II;by_cases hlt:k<n
  ·obtain⟨j,hjk⟩:∃j,js[k]?=some j:=⟨_,List.getElem?_eq_getElem (by rw[←HN.out];exact hlt)⟩;obtain⟨g,c2,hv,hr,_⟩:=dN HS.out ij (eH HX.out.2.2.1 _) k j hjk;injection hv with e1 e2 e3;subst e1;have JK:=ah.mk hjk;have R:=ah.mk hr;have hi1:(k:Int)+1≤(n:Int):=by omega
   clear e2 e3 hr hjk II;go_wp2_with (first|(have _t:=H4.out;clear _t;refine aI rfl 55 (.tmp 5) rfl w3.heap.size 0 rfl j.cells _ (aX (heap_alloc_new w3 _) 0 _ (fun i v hv=>by simpa using hv)) Tryz.underlying55 rfl (eP j) ?_;refine ah.out ?_)|(have _t:=H3.out;clear _t;refine aB w3.heap.size rfl rfl 55 (.tmp 5) (.tmp 24) rfl j.cells rfl rfl 55 _ (eP j) rfl j.one ?_;have H4:=ah.mk (H3.out.alloc (.cells j.cells 55));obtain⟨A5,c5,w5,xB,h5⟩:=EP H4.out L.length (aT _ _) 41 j (by rw[List.length_take];omega);rw[show(w3.alloc (.cells j.cells 55)).heap.size=w3.heap.size+1 by simp,show(js.take k).length+1=k+1 by rw[List.length_take];have:=HN.out;omega]at xB;rw[lg,←nH JK.out,show(js.take k).length+1=k+1 by rw[List.length_take];have:=HN.out;omega]at h5;have SQ:=ah.mk xB;have H5:=ah.mk h5;clear xB h5)|(go_at_call 54;refine(IE k j Vm.out hlt hn R.out).mono ?_;rintro e w3 ⟨rfl,hb⟩;have H3:=ah.mk (HS.out.below hb);clear hb)|(go_at_call 51;refine(uz Vm.out).mono ?_;rintro e w' ⟨rfl,hw⟩;obtain rfl:=hw.symm;clear hw))
   refine ah.mk ?_;refine vw rfl 41 55 (.tmp 27) rfl (w3.heap.size+1) (by simp) (some 28) rfl Tryz.underlying41 _ j.cells rfl (uG j) ?_;refine step_append rfl 41 (.tmp 26) (.tmp 28) rfl rfl rfl SQ.out ?_;clear SQ;go_wp2_with fail
   go_roundw
   case rel=>exact⟨k+1,A5,c5,rfl,by go_num,by omega,H5⟩
   case measure=>simp[intOf];omega
  ·have hi1:¬(k:Int)+1≤(n:Int):=by omega
   have hkn:k=n:=by omega
   subst hkn;go_wp2_with (go_at_call 51;refine(uz Vm.out).mono ?_;rintro e w' ⟨rfl,hw⟩;obtain rfl:=hw.symm;clear hw)
   go_ret;have h:=HS.out;rw[HN.out,List.take_length,←HN.out]at h;exact⟨A1,c1,rfl,h⟩
end
end
section
open Go.RowKit
theorem ru {w:World}{x p g n c:Nat}(h:w.cell? ⟨x,13,none⟩=some (.pointer (some ⟨p,0,none⟩)))(h2:w.cell? ⟨p,12,none⟩=some (.slice (some ⟨g,0,none⟩) n c))(k:Nat)(j:J)(hk:k<n)(hn:n≤1000)(hj:w.rangeAt g (k*26) j.cells.toList) :
 Calls Tryz.prog 18 #[.pointer (some ⟨x,0,none⟩),.int .u32 ((k:Int)+1)] w fun e w'=>e=.returned (.tuple #[.agg j.cells,.bool true])∧Below w.heap.size w w':=by
 have:=Ns h h2 (k+1) j (by omega) hk hn (by simpa using hj);simpa using this
section
variable {w0 w:World}{L:List bW}
theorem IJ (H0:Has w0 w L)(ix it ij:Nat){x p n c:Nat}{A:Option Addr}{IG tcs:Array Value}{js:List J}(hix:L[ix]?=some (aF x (.cells IG 88)))(hit:L[it]?=some (aF p (.cells tcs 122)))(hj:L[ij]?=some (aS (.slice A n c) js))(hx:IG[13]?=some (.pointer (some ⟨p,0,none⟩)))(hc:tcs[12]?=some (.slice A n c))(hn:n≤500) :
 Calls Tryz.prog 9 #[.pointer (some ⟨x,0,none⟩)] w fun e w'=>∃A1 c1,e=.returned (.slice A1 n c1)∧Has w0 w' (L++[aS (.slice A1 n c1) js]):=by
 have hnl:n=js.length:=by
  obtain⟨A',c',e⟩:=iW H0 ij hj;injection e with _ e2 _
 have HN:=Lib.hid hnl;have HX:=ah.mk (And.intro hix (And.intro hit (And.intro hj (And.intro hx hc))));have zh:ah (Has w0 w (L++[aS (.slice none 0 0) (js.take 0)])):=ah.mk (H0.iU 55 26);clear hix hit hj hx hc H0 hnl;go_enter Tryz.func9,Tryz.ntmps9;go_wp2_with fail
 go_loopw [3,4] (fun v i wr=>∃(k:Nat) (A1:Option Addr) (c1:Nat),v=.slice A1 k c1∧i=.int .i64 ((k:Int)+1)∧k≤n∧ah (Has w0 wr (L++[aS (.slice A1 k c1) (js.take k)]))) (fun _ i _=>n+1-(intOf i).toNat)
 case atStart=>exact⟨0,none,0,rfl,rfl,Nat.zero_le _,zh⟩
 case round =>
  clear zh;obtain⟨k,A1,c1,rfl,rfl,hk,HS⟩:=hrel;have Xf:wr.cell? ⟨x,13,none⟩=some (.pointer (some ⟨p,0,none⟩)):=by rw[aj (HS.out.blk ix (eH HX.out.1 _))];exact HX.out.2.2.2.1
  have II:wr.cell? ⟨p,12,none⟩=some (.slice A n c):=by rw[aj (HS.out.blk it (eH HX.out.2.1 _))];exact HX.out.2.2.2.2
  have Vm:=ah.mk II;have Y2:=ah.mk Xf;by_cases hlt:k<n
  ·obtain⟨j,hjk⟩:∃j,js[k]?=some j:=⟨_,List.getElem?_eq_getElem (by rw[←HN.out];exact hlt)⟩;obtain⟨g,c2,hv,hr,_⟩:=dN HS.out ij (eH HX.out.2.2.1 _) k j hjk;injection hv with e1 e2 e3;subst e1;have JK:=ah.mk hjk;have R:=ah.mk hr;have hi1:(k:Int)+1≤(n:Int):=by omega
   have hi2:(k:Int)+1<600:=by omega
   clear e2 e3 hr hjk II;go_wp2_with (first|(have _t:=H4.out;clear _t;refine aI rfl 55 (.tmp 5) rfl w3.heap.size 0 rfl j.cells _ (aX (heap_alloc_new w3 _) 0 _ (fun i v hv=>by simpa using hv)) Tryz.underlying55 rfl (eP j) ?_;refine ah.out ?_)|(have _t:=H3.out;clear _t;refine aB w3.heap.size rfl rfl 55 (.tmp 5) (.tmp 22) rfl j.cells rfl rfl 55 _ (eP j) rfl j.one ?_;have H4:=ah.mk (H3.out.alloc (.cells j.cells 55));obtain⟨A5,c5,w5,xB,h5⟩:=EP H4.out L.length (aT _ _) 41 j (by rw[List.length_take];omega);rw[show(w3.alloc (.cells j.cells 55)).heap.size=w3.heap.size+1 by simp,show(js.take k).length+1=k+1 by rw[List.length_take];have:=HN.out;omega]at xB;rw[lg,←nH JK.out,show(js.take k).length+1=k+1 by rw[List.length_take];have:=HN.out;omega]at h5;have SQ:=ah.mk xB;have H5:=ah.mk h5;clear xB h5)|(go_at_call 18;refine(ru Y2.out Vm.out k j hlt (by omega) R.out).mono ?_;rintro e w3 ⟨rfl,hb⟩;have H3:=ah.mk (HS.out.below hb);clear hb)|(go_at_call 15;refine(oZ Y2.out Vm.out).mono ?_;rintro e w' ⟨rfl,hw⟩;obtain rfl:=hw.symm;clear hw))
   refine ah.mk ?_;refine vw rfl 41 55 (.tmp 25) rfl (w3.heap.size+1) (by simp) (some 26) rfl Tryz.underlying41 _ j.cells rfl (uG j) ?_;refine step_append rfl 41 (.tmp 24) (.tmp 26) rfl rfl rfl SQ.out ?_;clear SQ;go_wp2_with fail
   go_roundw
   case rel=>exact⟨k+1,A5,c5,rfl,by go_num,by omega,H5⟩
   case measure=>simp[intOf];omega
  ·have hi1:¬(k:Int)+1≤(n:Int):=by omega
   have hkn:k=n:=by omega
   subst hkn;go_wp2_with (go_at_call 15;refine(oZ Y2.out Vm.out).mono ?_;rintro e w' ⟨rfl,hw⟩;obtain rfl:=hw.symm;clear hw)
   go_ret;have h:=HS.out;rw[HN.out,List.take_length,←HN.out]at h;exact⟨A1,c1,rfl,h⟩
end
section
variable {w:World}
theorem jE {x:Nat}(pol:Int)(h:w.cell? ⟨x,0,none⟩=some (.int .i64 pol)) :
 Calls Tryz.prog 69 #[.pointer (some ⟨x,0,none⟩)] w fun e w'=>e=.returned (.bool (pol==4))∧w'=w:=by
 go_enter Tryz.func69,Tryz.ntmps69;go_wp2_with fail
 go_ret;exact⟨rfl,rfl⟩
end
end
section
open Go.RowKit
def nT (js:List J)(how:Int):List Nat:=(js.filter fun j=>j.how==how).map (·.id)
def Px (l:List Nat):List Value:=l.map fun(i:Nat)=>Value.int .u32 (i:Int)
def ER (v:Value)(l:List Nat):bW:=rowA 43 1 v l.length (Px l)
theorem Ci:∃i0 z,Tryz.prog.info? 43=some i0∧i0.zero=some z∧i0.size=1∧i0.bytes≤1000∧z.cells.size=1:=fZ (by kernel_rfl)
section
variable {w0 W w:World}{L:List bW}
theorem SS (H:Has w0 W L)(i:Nat){v:Value}{l:List Nat}(hi:L[i]?=some (ER v l))(ty:TypeId)(id:Nat)(hn:l.length≤4000000000) :
 ∃A1 c1 w1,(Builtin.append_ #[132,132] ty #[v,.slice (some ⟨W.heap.size,0,none⟩) 1 1]).run Tryz.prog (W.alloc (.cells #[.int .u32 (id:Int)] 43))=.ok (.slice A1 (l.length+1) c1) w1∧Has w0 w1 (L.set i (ER (.slice A1 (l.length+1) c1) (l++[id]))):=by
 obtain⟨i0,z,a1,a2,a3,a4,a5⟩:=Ci;obtain⟨A1,c1,w1,h1,h2⟩:=Cc H i hi 132 ty Tryz.underlying132 i0 a1 z a2 _ a3 rfl a5 (by decide) #[.int .u32 (id:Int)] rfl (by simp[Value.oneCell']) hn a4;refine⟨A1,c1,w1,h1,?_⟩;unfold ER;rw[show Px (l++[id])=Px l++(#[.int .u32 (id:Int)]:Array Value).toList by simp[Px],List.length_append];exact h2
theorem J.o7 (j:J):j.cells[0]?=some (.int .u32 (j.id:Int)):=rfl
theorem IK (H0:Has w0 w L)(it ij:Nat){p n c:Nat}{A:Option Addr}{tcs:Array Value}{js:List J}(hit:L[it]?=some (aF p (.cells tcs 122)))(hj:L[ij]?=some (aS (.slice A n c) js))(hc:tcs[12]?=some (.slice A n c))(hn:n≤1000)(how:Int) :
 Calls Tryz.prog 125 #[.pointer (some ⟨p,0,none⟩),.int .i64 how] w fun e w'=>∃A1 m1 c1,e=.returned (.slice A1 m1 c1)∧m1=(nT js how).length∧Has w0 w' (L++[ER (.slice A1 m1 c1) (nT js how)]):=by
 have hnl:n=js.length:=by
  obtain⟨A',c',e⟩:=iW H0 ij hj;injection e with _ e2 _
 have II:w.cell? ⟨p,12,none⟩=some (.slice A n c):=by rw[aj (H0.blk it hit)];exact hc
 have HN:=Lib.hid hnl;have HJ:=ah.mk hj;have zh:ah (Has w0 w (L++[ER (.slice none 0 0) (nT (js.take 0) how)])):=ah.mk (H0.iU 43 1);clear hit hj hc H0 hnl;go_enter Tryz.func125,Tryz.ntmps125;go_wp2_with fail
 go_loopw [5,15] (fun v i wr=>∃(k m:Nat) (A1:Option Addr) (c1:Nat),v=.slice A1 m c1∧i=.int .i64 k∧k≤n∧m≤k∧ah (m=(nT (js.take k) how).length)∧ah (Has w0 wr (L++[ER (.slice A1 m c1) (nT (js.take k) how)]))) (fun _ i _=>n-(intOf i).toNat)
 case atStart=>exact⟨0,0,none,0,rfl,rfl,Nat.zero_le _,Nat.zero_le _,⟨rfl⟩,zh⟩
 case round =>
  clear zh;obtain⟨k,m,A1,c1,rfl,rfl,hk,hmk,HM,HS⟩:=hrel;by_cases hlt:k<n
  ·obtain⟨j,hjk⟩:∃j,js[k]?=some j:=⟨_,List.getElem?_eq_getElem (by rw[←HN.out];exact hlt)⟩;obtain⟨g,c2,hv,hr,_⟩:=dN HS.out ij (eH HJ.out _) k j hjk;injection hv with e1 e2 e3;subst e1;have h19:=j.lT;have h0:=j.o7;have JK:=ah.mk hjk;have R:=ah.mk hr;obtain⟨hw,Nu⟩:∃hw,hw=j.how:=⟨_,rfl⟩;rw[←Nu]at h19;have HW:=Lib.hid Nu;clear e2 e3 hr hjk Nu;by_cases hq:hw=how
   ·have hs:nT (js.take (k+1)) how=nT (js.take k) how++[j.id]:=by
     rw[nH JK.out];unfold nT;rw[List.filter_append,List.map_append];simp[←HW.out,hq]
    have SV:=ah.mk hs;subst hq;clear hs;go_wp2_with (first|(at_builtin;have _t:=SQ.out;clear _t;refine step_append rfl 132 (.tmp 23) (.tmp 26) rfl rfl rfl SQ.out ?_;clear SQ)|(refine aB wr.heap.size rfl rfl 55 (.tmp 7) (.tmp 18) rfl j.cells rfl rfl 55 _ (eP j) rfl j.one ?_;have H4:=ah.mk (HS.out.alloc (.cells j.cells 55));obtain⟨A5,c5,w5,xB,h5⟩:=SS H4.out L.length (aT _ _) 132 j.id (by rw[←HM.out];omega);rw[show(wr.alloc (.cells j.cells 55)).heap.size=wr.heap.size+1 by simp,←HM.out]at xB;rw[lg,←SV.out,←HM.out]at h5;have SQ:=ah.mk xB;have H5:=ah.mk h5;clear xB h5)|(refine aI rfl 55 (.tmp 17) rfl g (k*26) rfl j.cells _ R.out Tryz.underlying55 rfl (eP j) ?_))
    go_roundw
    case rel=>exact⟨k+1,m+1,A5,c5,rfl,by go_num,by omega,by omega,⟨by rw[SV.out,List.length_append,←HM.out];rfl⟩,H5⟩
    case measure=>simp[intOf];omega
   ·have hs:nT (js.take (k+1)) how=nT (js.take k) how:=by
     rw[nH JK.out];unfold nT;rw[List.filter_append,List.map_append];simp[←HW.out,hq]
    have SV:=ah.mk hs;have hqz:(hw==how)=false:=by simpa using hq
    clear hs hq;go_wp2_with (first|(refine aB wr.heap.size rfl rfl 55 (.tmp 7) (.tmp 18) rfl j.cells rfl rfl 55 _ (eP j) rfl j.one ?_;have H4:=ah.mk (HS.out.alloc (.cells j.cells 55)))|(refine aI rfl 55 (.tmp 17) rfl g (k*26) rfl j.cells _ R.out Tryz.underlying55 rfl (eP j) ?_))
    go_roundw
    case rel=>exact⟨k+1,m,A1,c1,rfl,by go_num,by omega,by omega,⟨by rw[SV.out];exact HM.out⟩,⟨by rw[SV.out];exact H4.out⟩⟩
    case measure=>simp[intOf];omega
  ·go_wp2_with fail
   go_ret;have h:=HS.out;have hkn:k=n:=by omega
   have hm:=HM.out;rw[hkn,HN.out,List.take_length]at h hm;exact⟨A1,m,c1,rfl,hm,h⟩
end
end
section
open Go.RowKit Go.Sort Go.Lib Go.Shelf
section
variable {α:Type}[Inhabited α]{w0 w:World}{L:List bW}
theorem Fv {enc:α→List Value}{k:Nat}(hk0:0<k)(hk:∀x,(enc x).length=k)(l:List α):flatK enc k l.toArray=(l.flatMap enc).toArray:=by
 apply Array.ext
 ·rw[size_flatK];simp only[List.size_toArray];exact(kH hk l).symm
 ·intro t h1 h2;rw[size_flatK,List.size_toArray]at h1;have hq:t/k<l.length:=Nat.div_lt_of_lt_mul (by rw[Nat.mul_comm];exact h1);have hr:t%k<k:=Nat.mod_lt _ hk0;have hx:l[t/k]?=some (l[t/k]'hq):=List.getElem?_eq_getElem hq;have hf:=flat_get hk l (t/k) _ hx (t%k) hr;have ht:t/k*k+t%k=t:=by rw[Nat.mul_comm];exact Nat.div_add_mod t k
  rw[ht]at hf;have e1:(flatK enc k l.toArray)[t]! = (enc (l.toArray[t/k]!))[t%k]! :=get_flatK enc k l.toArray t (by simpa using h1);rw[getElem!_pos _ t (by rw[size_flatK];simpa using h1)]at e1;rw[e1];have e2:l.toArray[t/k]! = l[t/k]'hq:=by rw[getElem!_pos _ _ (by simpa using hq)];simp
  rw[e2];have h3:t%k<(enc (l[t/k]'hq)).length:=by rw[hk];exact hr
  rw[getElem!_pos (enc (l[t/k]'hq)) (t%k) h3];rw[List.getElem?_eq_getElem h3]at hf;have h4:t<(l.flatMap enc).length:=by simpa using h2
  rw[List.getElem?_eq_getElem h4]at hf;simp only[Option.some.injEq]at hf;simp[hf]
theorem Fz {enc:α→List Value}{e:TypeId}{k:Nat}(hk0:0<k)(hk:∀x,(enc x).length=k)(H:Has w0 w L)(i:Nat){g n c:Nat}{l:List α}(hi:L[i]?=some (aV e k enc (.slice (some ⟨g,0,none⟩) n c) l))(hn:n=l.length) :
 HoldsK enc k w g 0 l.toArray∧g<w.heap.size∧∀(l':List α) (m:Nat) (os:Array Obj),l'.length=l.length→Has w0 (sortWorldK enc k w g 0 m l'.toArray os) (L.set i (aV e k enc (.slice (some ⟨g,0,none⟩) n c) l')):=by
 obtain⟨F,⟨hrow,hF⟩,h3,hgo⟩:=H.get i _ hi;have hFg:F g:=hF g rfl;rcases hrow.2 with⟨h0,_⟩|⟨g',cap,cur,hv,_,hh,hnc,hcm,hsz,ht⟩
 ·cases h0
 ·injection hv with e1 e2 e3;injection e1 with e1;injection e1 with e1;subst e1;refine⟨fun j hj=>?_,(h3 g hFg).2,fun l' m os hl'=>?_⟩
  ·rw[Fv hk0 hk]at hj ⊢;have hj2:j<(l.flatMap enc).length:=by simpa using hj
   have hj3:j<l.length*k:=by rw[kH hk]at hj2;exact hj2
   refine⟨?_,aJ hh _⟩;rw[aj hh,Nat.zero_add,getElem!_pos (l.flatMap enc).toArray j hj,←Array.getElem?_toList];have:=congrArg (fun z=>z[j]?) ht;simp only[List.getElem?_take_of_lt hj3]at this;rw[this,List.getElem?_eq_getElem hj2];simp
  ·have hgs:g<w.heap.size:=(h3 g hFg).2;have hlt:∀q,q<w.heap.size→q≠g→(sortWorldK enc k w g 0 m l'.toArray os).heap[q]?=w.heap[q]?:=fun q hq hne=>by
    unfold sortWorldK putRowK putRow;rw[Sort.heap_grow_old _ _ (by simpa[mapBlock]using hq)];simp[mapBlock,Sort.ahead,Array.getElem?_modify,Ne.symm hne]
   have hsize:w.heap.size≤(sortWorldK enc k w g 0 m l'.toArray os).heap.size:=by
    unfold sortWorldK putRowK putRow Sort.grow mapBlock;simp
   have hat:(sortWorldK enc k w g 0 m l'.toArray os).heap[g]?=some (.cells (putCells id 0 (flatK enc k l'.toArray) cur) e (0,0)):=by
    unfold sortWorldK putRowK putRow;rw[Sort.heap_grow_old _ _ (by simpa[mapBlock]using hgs)];simp[mapBlock,Sort.ahead,Array.getElem?_modify,hh,onCells]
   refine hgo _ _ ⟨F,⟨⟨?_,.inr ⟨g,cap,_,?_,Nat.zero_le _,hat,?_,hcm,?_,?_⟩⟩,hF⟩,⟨rfl,rfl,rfl,hsize,fun q hq hn'=>hlt q hq fun e=>hn' (e▸hFg)⟩,fun q hq=>⟨.inl hq,Nat.lt_of_lt_of_le (h3 q hq).2 hsize⟩⟩
   ·exact kH hk l'
   ·rw[hn,e3,hl']
   ·omega
   ·simp[putCells,hsz]
   ·have hm:l'.length*k≤cur.size:=by rw[hsz,hl'];exact Nat.mul_le_mul_right _ hnc
    rw[Fv hk0 hk];apply List.ext_getElem?;intro j;by_cases hj:j<l'.length*k
    ·have hj2:j<(l'.flatMap enc).length:=by rw[kH hk];exact hj
     rw[List.getElem?_take_of_lt hj,Array.getElem?_toList];have hsz2:j<(l'.flatMap enc).toArray.size:=hj2;simp only[putCells,Array.getElem?_mapIdx,Array.getElem?_eq_getElem (show j<cur.size by omega),Option.map_some];rw[if_pos ⟨Nat.zero_le _,by rw[Nat.zero_add];exact hsz2⟩,Nat.sub_zero,getElem!_pos (l'.flatMap enc).toArray j hsz2,List.getElem?_eq_getElem hj2];rfl
    ·have hj2:¬j<(l'.flatMap enc).length:=by rw[kH hk];exact hj
     rw[List.getElem?_take_eq_none (by omega),List.getElem?_eq_none (by omega)]
theorem L8 {d d':Array α}(h:Sort.PermIn 0 d.size d d'):d'.toList.Perm d.toList∧d'.size=d.size:=by
 obtain⟨h1,_,h3⟩:=h;rw[Array.extract_size]at h3;rw[show d'.extract 0 d.size=d' by rw[←h1];exact Array.extract_size]at h3;exact⟨h3,h1⟩
end
end
section
open Go.RowKit Go.Sort Go.Lib Go.Shelf
section
variable {w0 w:World}{L:List bW}
def Bools {κ:Type}(l:List (κ×Value)):Prop:=∀p∈l,∃b,p.2=Value.bool b
theorem Bools.look {κ:Type}[BEq κ]{l:List (κ×Value)}(h:Bools l)(a:κ):∃b,(look l a).getD (.bool false)=.bool b:=by
 induction l with
 |nil=>exact⟨false,rfl⟩
 |cons p l ih =>
  unfold YtandhagfhppgaaaGreatDoor.look;split
  ·obtain⟨b,hb⟩:=h p List.mem_cons_self;exact⟨b,by rw[hb];rfl⟩
  ·exact ih fun q hq=>h q (List.mem_cons_of_mem _ hq)
theorem Bools.store {κ:Type}[BEq κ]{l:List (κ×Value)}(h:Bools l)(a:κ)(b:Bool):Bools (store l a (.bool b)):=by
 induction l with
 |nil=>intro p hp;simp[YtandhagfhppgaaaGreatDoor.store]at hp;exact⟨b,by rw[hp]⟩
 |cons q l ih =>
  unfold YtandhagfhppgaaaGreatDoor.store;split
  ·intro p hp;rcases List.mem_cons.1 hp with rfl|hp
   ·exact⟨b,rfl⟩
   ·exact h p (List.mem_cons_of_mem _ hp)
  ·intro p hp;rcases List.mem_cons.1 hp with rfl|hp
   ·exact h _ List.mem_cons_self
   ·exact ih (fun q hq=>h q (List.mem_cons_of_mem _ hq)) p hp
theorem Xt (w:World):(zeroValue 4).run Tryz.prog w=.ok (.bool false) w:=by kernel_rfl
theorem Jb (k:Ky):(Tryz.prog.info? 218).map (·.size)=some (dw k).toArray.size:=by rw[show(dw k).toArray.size=3 from rfl];kernel_rfl
theorem sK (k:Ky):(dw k).toArray.all (·.oneCell')=true:=by simp[dw,Value.oneCell']
theorem FB {A:Option Addr}{n c:Nat}{ks:List Ky}(hr:bU w 3 dw (.slice A n c) ks)(hn:n≤100000) :
 Calls Tryz.prog 289 #[.slice A n c] w fun e w'=>(∃b:Bool,e=.returned (.bool b))∧Below w.heap.size w w':=by
 refine named fun R HQ=>?_;have HL:=ah.mk hr.len;have HR:=ah.mk hr;have hmm:=@run_makeMap Tryz.prog;have H1:=ah.mk ((Has.start w).jW (Value.int .u32));clear hr;go_enter Tryz.func289,Tryz.ntmps289;go_wp2_with fail
 go_loopw [9] (fun i wr=>∃(k:Nat) (l:List (Int×Value)),i=.int .i64 k∧k≤n∧ah (Bools l)∧ah (Has w wr [mapA w.heap.size (Value.int .u32) l])) (fun i _=>n-(intOf i).toNat)
 case atStart=>exact⟨0,[],rfl,Nat.zero_le _,⟨fun p hp=>by cases hp⟩,H1⟩
 case round =>
  clear H1;obtain⟨k,l,rfl,hk,HB,HH⟩:=hrel;by_cases hlt:k<n
  ·obtain⟨x,hx⟩:∃x,ks[k]?=some x:=⟨_,List.getElem?_eq_getElem (by rw[←HL.out];exact hlt)⟩;obtain⟨b,hA,hxr⟩:=(HR.out.below HH.out.old).get k x hx;subst hA;have R1:ah (wr.rangeAt b (k*3) (dw x).toArray.toList):=⟨by simpa using hxr⟩;have h2:=ah.mk (HH.out.aZ (.cells (dw x).toArray 218));obtain⟨bo,hbo⟩:=HB.out.look (x.id:Int);have hlk:=dR (gI .u32) h2.out 0 rfl 162 43 4 Tryz.underlying162 Tryz.underlying43 (.bool false) (Xt _) (x.id:Int) false;rw[if_neg (by decide),hbo]at hlk;obtain⟨w5,xB,h5⟩:=run_store (gI .u32) h2.out 0 rfl 162 43 4 Tryz.underlying162 Tryz.underlying43 (x.id:Int) (.bool true);have HK:=ah.mk hlk;have H5:=ah.mk h5;have HS5:=ah.mk xB;have B5:=ah.mk (HB.out.store (x.id:Int) true);have x2:(dw x).toArray[2]?=some (.int .u32 (x.id:Int)):=rfl;have hk3:=Jb x;clear hxr hx hbo hlk xB h5;cases bo with
   |true =>
    go_wp2_with (first|(refine fH rfl 162 _ _ false rfl rfl rfl HK.out ?_)|(refine aB wr.heap.size rfl rfl 218 (.tmp 5) (.tmp 12) rfl (dw x).toArray rfl rfl 218 _ hk3 rfl (sK x) ?_)|(refine aI rfl 218 (.tmp 11) rfl b (k*3) rfl (dw x).toArray _ R1.out Tryz.underlying218 rfl hk3 ?_))
    first|go_ret|skip
    rw[←HQ.out];exact⟨⟨true,rfl⟩,h2.out.old⟩
   |false =>
    go_wp2_with (first|(refine kK rfl 162 _ _ _ rfl rfl rfl rfl HS5.out ?_)|(refine fH rfl 162 _ _ false rfl rfl rfl HK.out ?_)|(refine aB wr.heap.size rfl rfl 218 (.tmp 5) (.tmp 12) rfl (dw x).toArray rfl rfl 218 _ hk3 rfl (sK x) ?_)|(refine aI rfl 218 (.tmp 11) rfl b (k*3) rfl (dw x).toArray _ R1.out Tryz.underlying218 rfl hk3 ?_))
    go_roundw
    case rel=>exact⟨k+1,_,by go_num,by omega,B5,⟨H5.out.drop 1⟩⟩
    case measure=>simp[intOf];omega
  ·go_wp2_with fail
   first|go_ret|skip
   rw[←HQ.out];exact⟨⟨false,rfl⟩,HH.out.old⟩
end
end
section
open Go.RowKit Go.Sort Go.Lib Go.Shelf
theorem Jc (x y:Ky):WR x y<0↔y.prio<x.prio∨(y.prio=x.prio∧(x.time<y.time∨(x.time=y.time∧(x.id:Int)<y.id))):=by
 unfold WR zk Lib.compareInt;repeat' split
 all_goals omega
theorem swoK:SWO (ltOf WR) where
 irrefl x:=by simp only[ltOf,decide_eq_false_iff_not,Jc];omega
 trans x y z h1 h2:=by simp only[ltOf,decide_eq_true_eq,Jc]at *;omega
 ntrans x y z h1 h2:=by simp only[ltOf,decide_eq_false_iff_not,Jc]at *;omega
section
variable {w0 w:World}{L:List bW}
theorem xO (H:Has w0 w L)(i:Nat){A:Option Addr}{n c:Nat}{ks:List Ky}(hi:L[i]?=some (aV 218 3 dw (.slice A n c) ks))(hn:n=ks.length)(hn2:n≤100000) :
 Calls Tryz.prog 291 #[.slice A n c,.func (.func 292) #[] #[]] w fun e w'=>e=.returned (.tuple #[])∧∃ks':List Ky,(∀k∈ks',k∈ks)∧ks'.length=n∧Has w0 w' (L.set i (aV 218 3 dw (.slice A n c) ks')):=by
 rcases Nat.eq_zero_or_pos n with h0|h0
 ·subst h0;have hks:ks=[]:=List.eq_nil_of_length_eq_zero hn.symm;subst hks;have hcon:=AnyF.slices_SortFunc_none Tryz.Fq A c (.func (.func 292) #[] #[]) w;change Calls Tryz.prog 291 _ _ _ at hcon;refine hcon.mono fun e w' ⟨he,hw⟩=>⟨he,[],fun k hk=>hk,rfl,?_⟩;rw[hw,show L.set i (aV 218 3 dw (.slice A 0 c) [])=L from List.ext_getElem? fun q=>by
   rw[List.getElem?_set];split
   ·rename_i e;subst e;split
    ·exact hi.symm
    ·rename_i h2;rw[List.getElem?_eq_none (by omega)]at hi;cases hi
   ·rfl]
  exact H
 ·obtain⟨g,rfl,_⟩:=dG H i hi hn.symm h0;obtain⟨hH,hb,hgo⟩:=Fz (enc:=dw) (by decide) pK H i hi hn;have eg:∀args w,(callFunc 292 args).run Tryz.prog w=.ok (.enter 292 args) w:=enters_of Tryz.func292 (by kernel_rfl) rfl;have hcon:=AnyQ.slices_SortFunc Tryz.Fq 3 Tryz.isAgg218 Tryz.sizeOf218 dw pK (fun x v hv=>by simp[dw]at hv;rcases hv with rfl|rfl|rfl<;>rfl) WR swoK 292 #[] g 0 c ks.toArray w eg (fun m os dk hs x y=>zB x y _) hH hb (by simp;omega);change Calls Tryz.prog 291 _ _ _ at hcon;rw[show ks.toArray.size=n by simp[hn]]at hcon;refine hcon.mono fun e w' ⟨he,d',m,os,hp,_,hw⟩=>?_;rw[show n=ks.toArray.size by simp[hn]]at hp;obtain⟨hp1,hp2⟩:=L8 hp;refine⟨he,d'.toList,fun k hk=>by simpa using hp1.mem_iff.1 hk,by simpa[hn]using hp2,?_⟩;rw[hw];exact hgo d'.toList m os (by simpa using hp2)
theorem Qa (ks:List Ky):∀u∈ks.flatMap dw,u.oneCell'=true:=by
 intro u hu;obtain⟨x,_,hx⟩:=List.mem_flatMap.1 hu;simp[dw]at hx;rcases hx with rfl|rfl|rfl<;>rfl
theorem FH (H:Has w0 w L)(i:Nat){A:Option Addr}{n c:Nat}{ks:List Ky}(hi:L[i]?=some (aV 218 3 dw (.slice A n c) ks))(hn:n=ks.length)(hn2:n≤100000) :
 Calls Tryz.prog 244 #[.slice A n c] w fun e w'=>∃(A2:Option Addr) (n2 c2:Nat) (r:Int) (ks':List Ky),e=.returned (.tuple #[.slice A2 n2 c2,.int .i64 r])∧(∀k∈ks',k∈ks)∧Has w0 w' (L++[aV 218 3 dw (.slice A2 n2 c2) ks'])∧n2=ks'.length∧n2≤n:=by
 refine named fun R HQ=>?_;have TW:=ah.mk (FB (by have:=bK H i hi pK;exact this) hn2);have HH:=ah.mk H;have HI:=ah.mk hi;have HN:=ah.mk (And.intro hn hn2);clear H hi hn hn2;go_enter Tryz.func244,Tryz.ntmps244;go_wp2_with (go_at_call 289;refine TW.out.mono ?_;rintro e w2 ⟨⟨b,rfl⟩,hb⟩;have H2:=ah.mk (HH.out.below hb);clear hb;refine ah.out ?_)
 cases b with
 |true =>
  refine ah.mk ?_;go_wp2_with fail
  first|go_ret2|skip
  rw[←HQ.out];exact⟨none,0,0,30,[],rfl,(fun k hk=>by cases hk),H2.out.nilRow 218 3 dw,rfl,Nat.zero_le _⟩
 |false =>
  have CL0:=ah.mk (IL H2.out i (by have:=HI.out;unfold aV at this;rw[←HN.out.1]at this;exact this) (by have:=HN.out.2;omega) (Qa ks));refine ah.mk ?_;go_wp2_with (go_at_call 290;refine CL0.out.mono ?_;rintro e w3 ⟨A1,c1,rfl,h3⟩;have H3:=ah.mk h3;clear h3;refine ah.out ?_)
  have H4:ah (Has w0 w3 (L++[aV 218 3 dw (.slice A1 n c1) ks])):=⟨by have:=H3.out;unfold aV;rw[←HN.out.1];exact this⟩;have SC:=ah.mk (xO H4.out L.length (aT _ _) HN.out.1 HN.out.2);refine ah.mk ?_;go_wp2_with (go_at_call 291;refine SC.out.mono ?_;rintro e w5 ⟨rfl,ks',hks,hlen,h5⟩;have H5:=ah.mk h5;have HK:=ah.mk (And.intro hks hlen);clear h5 hks hlen)
  first|go_ret2|skip
  rw[←HQ.out];refine⟨A1,n,c1,0,ks',rfl,HK.out.1,?_,HK.out.2.symm,Nat.le_refl _⟩;have:=H5.out;rw[lg]at this;exact this
end
end
section
open Go.RowKit
theorem J.Wj (j:J):j.cells[6]?=some (.string j.s.qos):=rfl
section
variable {w0 w:World}{L:List bW}
theorem GK (H0:Has w0 w L)(it ij:Nat){p n c:Nat}{A:Option Addr}{tcs:Array Value}{js:List J}(hit:L[it]?=some (aF p (.cells tcs 122)))(hj:L[ij]?=some (aS (.slice A n c) js))(hc:tcs[12]?=some (.slice A n c))(hn:n≤1000)(q:ByteArray) :
 Calls Tryz.prog 173 #[.pointer (some ⟨p,0,none⟩),.string q] w fun e w'=>∃m:Nat,e=.returned (.int .i64 m)∧m≤n∧Has w0 w' L:=by
 have hnl:n=js.length:=by
  obtain⟨A',c',e⟩:=iW H0 ij hj;injection e with _ e2 _
 have II:w.cell? ⟨p,12,none⟩=some (.slice A n c):=by rw[aj (H0.blk it hit)];exact hc
 have HN:=Lib.hid hnl;have HJ:=ah.mk hj;have zh:=ah.mk H0;clear hit hj hc H0 hnl;go_enter Tryz.func173,Tryz.ntmps173;go_wp2_with fail
 go_loopw [5,13] (fun v i wr=>∃(k m:Nat),v=.int .i64 m∧i=.int .i64 k∧k≤n∧m≤k∧ah (Has w0 wr L)) (fun _ i _=>n-(intOf i).toNat)
 case atStart=>exact⟨0,0,rfl,rfl,Nat.zero_le _,Nat.zero_le _,zh⟩
 case round =>
  clear zh;obtain⟨k,m,rfl,rfl,hk,hmk,HS⟩:=hrel;by_cases hlt:k<n
  ·obtain⟨j,hjk⟩:∃j,js[k]?=some j:=⟨_,List.getElem?_eq_getElem (by rw[←HN.out];exact hlt)⟩;obtain⟨g,c2,hv,hr,_⟩:=dN HS.out ij HJ.out k j hjk;injection hv with e1 e2 e3;subst e1;have h19:=j.lT;have h6:=j.Wj;have R:=ah.mk hr;clear e2 e3 hr hjk;have SV:=ah.mk (HS.out.alloc (.cells j.cells 55));cases hq:(j.s.qos.toList==q.toList)with
   |true =>
    by_cases hw:j.how≤4
    ·go_wp2_with (first|(refine aB wr.heap.size rfl rfl 55 (.tmp 7) (.tmp 16) rfl j.cells rfl rfl 55 _ (eP j) rfl j.one ?_)|(refine aI rfl 55 (.tmp 15) rfl g (k*26) rfl j.cells _ R.out Tryz.underlying55 rfl (eP j) ?_))
     go_roundw
     case rel=>exact⟨k+1,m+1,by go_num,by go_num,by omega,by omega,SV⟩
     case measure=>simp[intOf];omega
    ·have hd:decide (j.how≤4)=false:=decide_eq_false hw;go_wp2_with (first|(refine aB wr.heap.size rfl rfl 55 (.tmp 7) (.tmp 16) rfl j.cells rfl rfl 55 _ (eP j) rfl j.one ?_)|(refine aI rfl 55 (.tmp 15) rfl g (k*26) rfl j.cells _ R.out Tryz.underlying55 rfl (eP j) ?_))
     go_roundw
     case rel=>exact⟨k+1,m,rfl,by go_num,by omega,by omega,SV⟩
     case measure=>simp[intOf];omega
   |false =>
    go_wp2_with (first|(refine aB wr.heap.size rfl rfl 55 (.tmp 7) (.tmp 16) rfl j.cells rfl rfl 55 _ (eP j) rfl j.one ?_)|(refine aI rfl 55 (.tmp 15) rfl g (k*26) rfl j.cells _ R.out Tryz.underlying55 rfl (eP j) ?_))
    go_roundw
    case rel=>exact⟨k+1,m,rfl,by go_num,by omega,by omega,SV⟩
    case measure=>simp[intOf];omega
  ·go_wp2_with fail
   go_ret;exact⟨m,rfl,by omega,HS.out⟩
end
end
end Go.Proofs.YtandhagfhppgaaaGreatDoor
