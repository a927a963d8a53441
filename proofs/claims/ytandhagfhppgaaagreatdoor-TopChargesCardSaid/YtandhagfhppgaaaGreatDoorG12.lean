/- Part 17 of a proof: contracts of the functions that the law reaches. No condition. -/
import Derived.Ground.SlgfProg
import Derived.Ground.SlsfProg
import Derived.Shelf.SlGeneric
import Derived.Shelf.SlSortCmp.NoneTotal
import Derived.Shelf.SlSortCmp.WholeK
import Derived.Shelf.SlicesE.IndexFunc
import Derived.Shelf.SlicesQ.IndexFunc
import Derived.Test.YtandhagfhppgaaaGreatDoorG3
import Derived.Test.YtandhagfhppgaaaGreatDoorG4
import Derived.Test.YtandhagfhppgaaaGreatDoorG6
import Derived.Test.YtandhagfhppgaaaGreatDoorG7
import Derived.Test.YtandhagfhppgaaaGreatDoorG8
import Derived.Test.YtandhagfhppgaaaGreatDoorG9
import Derived.Test.YtandhagfhppgaaaGreatDoorProg
set_option linter.all false
set_option maxRecDepth 100000
set_option maxHeartbeats 16000000
section
namespace Go.Proofs
open Go.Shelf
def Tryz.Dp:Go.Shelf.Ren:=⟨fun | 6=>291|15=>257|14=>322|28=>309|29=>199|20=>346|21=>347|22=>348|23=>349|24=>350|25=>351|26=>352|27=>353|46=>361|47=>339|48=>340|49=>362|50=>363|57=>373|n=>n,fun | 22=>215|24=>218|25=>372|3=>3|39=>95|0=>0|53=>43|55=>281|4=>4|46=>383|45=>382|50=>150|5=>5|9=>9|66=>412|70=>416|76=>431|77=>69|n=>n,fun | n=>n⟩
theorem Tryz.FI:Go.Proofs.SlLaysF0.n6 Tryz.prog Tryz.Dp:={
 mixed:=by kernel_rfl
 f6:=⟨Tryz.f291.name,by decide,Tryz.func291.trans (congrArg some (by kernel_rfl))⟩
 f14:=⟨Tryz.f322.name,by decide,Tryz.func322.trans (congrArg some (by kernel_rfl))⟩
 f15:=Tryz.func257.trans (congrArg some (by kernel_rfl))
 f20:=⟨Tryz.f346.name,by decide,Tryz.func346.trans (congrArg some (by kernel_rfl))⟩
 f21:=⟨Tryz.f347.name,by decide,Tryz.func347.trans (congrArg some (by kernel_rfl))⟩
 f22:=⟨Tryz.f348.name,by decide,Tryz.func348.trans (congrArg some (by kernel_rfl))⟩
 f23:=⟨Tryz.f349.name,by decide,Tryz.func349.trans (congrArg some (by kernel_rfl))⟩
 f24:=⟨Tryz.f350.name,by decide,Tryz.func350.trans (congrArg some (by kernel_rfl))⟩
 f25:=⟨Tryz.f351.name,by decide,Tryz.func351.trans (congrArg some (by kernel_rfl))⟩
 f26:=⟨Tryz.f352.name,by decide,Tryz.func352.trans (congrArg some (by kernel_rfl))⟩
 f27:=⟨Tryz.f353.name,by decide,Tryz.func353.trans (congrArg some (by kernel_rfl))⟩
 f28:=Tryz.func309.trans (congrArg some (by kernel_rfl))
 f29:=Tryz.func199.trans (congrArg some (by kernel_rfl))
 f46:=⟨Tryz.f361.name,by decide,Tryz.func361.trans (congrArg some (by kernel_rfl))⟩
 f47:=Tryz.func339.trans (congrArg some (by kernel_rfl))
 f48:=Tryz.func340.trans (congrArg some (by kernel_rfl))
 f49:=⟨Tryz.f362.name,by decide,Tryz.func362.trans (congrArg some (by kernel_rfl))⟩
 f50:=⟨Tryz.f363.name,by decide,Tryz.func363.trans (congrArg some (by kernel_rfl))⟩
 f57:=⟨Tryz.f373.name,by decide,Tryz.func373.trans (congrArg some (by kernel_rfl))⟩
 t0:=Tryz.underlying0
 a0:=Tryz.isAgg0
 z0:=Tryz.sizeOf0
 v0:=Tryz.zeroValue0
 t3:=Tryz.underlying3
 a3:=Tryz.isAgg3
 z3:=Tryz.sizeOf3
 v3:=Tryz.zeroValue3
 t4:=Tryz.underlying4
 a4:=Tryz.isAgg4
 z4:=Tryz.sizeOf4
 v4:=Tryz.zeroValue4
 t5:=Tryz.underlying5
 a5:=Tryz.isAgg5
 z5:=Tryz.sizeOf5
 v5:=Tryz.zeroValue5
 t9:=Tryz.underlying9
 a9:=Tryz.isAgg9
 z9:=Tryz.sizeOf9
 v9:=Tryz.zeroValue9
 t22:=Tryz.underlying215
 a22:=Tryz.isAgg215
 z22:=Tryz.sizeOf215
 v22:=Tryz.zeroValue215
 t25:=Tryz.underlying372
 a25:=Tryz.isAgg372
 z25:=Tryz.sizeOf372
 v25:=Tryz.zeroValue372
 t39:=Tryz.underlying95
 a39:=Tryz.isAgg95
 z39:=Tryz.sizeOf95
 v39:=Tryz.zeroValue95
 t45:=Tryz.underlying382
 a45:=Tryz.isAgg382
 z45:=Tryz.sizeOf382
 v45:=Tryz.zeroValue382
 t46:=Tryz.underlying383
 a46:=Tryz.isAgg383
 z46:=Tryz.sizeOf383
 v46:=Tryz.zeroValue383
 t50:=Tryz.underlying150
 a50:=Tryz.isAgg150
 z50:=Tryz.sizeOf150
 v50:=Tryz.zeroValue150
 t53:=Tryz.underlying43
 a53:=Tryz.isAgg43
 z53:=Tryz.sizeOf43
 v53:=Tryz.zeroValue43
 t55:=Tryz.underlying281
 a55:=Tryz.isAgg281
 z55:=Tryz.sizeOf281
 v55:=Tryz.zeroValue281
 t66:=Tryz.underlying412
 a66:=Tryz.isAgg412
 z66:=Tryz.sizeOf412
 v66:=Tryz.zeroValue412
 t70:=Tryz.underlying416
 a70:=Tryz.isAgg416
 z70:=Tryz.sizeOf416
 v70:=Tryz.zeroValue416
 t76:=Tryz.underlying431
 a76:=Tryz.isAgg431
 z76:=Tryz.sizeOf431
 v76:=Tryz.zeroValue431
 t77:=Tryz.underlying69
 a77:=Tryz.isAgg69
 z77:=Tryz.sizeOf69
 v77:=Tryz.zeroValue69}
def Tryz.zK:Go.Shelf.Ren:=⟨fun | 6=>246|15=>257|14=>293|28=>309|29=>199|20=>324|21=>325|22=>326|23=>327|24=>328|25=>329|26=>330|27=>331|46=>354|47=>339|48=>340|49=>355|50=>356|57=>364|n=>n,fun | 22=>127|24=>203|25=>328|3=>3|39=>95|0=>0|53=>43|55=>281|4=>4|46=>383|45=>382|50=>150|5=>5|9=>9|66=>412|70=>416|76=>431|77=>69|n=>n,fun | n=>n⟩
theorem Tryz.AP:Go.Proofs.SlLaysF0.n6 Tryz.prog Tryz.zK:={
 mixed:=by kernel_rfl
 f6:=⟨Tryz.f246.name,by decide,Tryz.func246.trans (congrArg some (by kernel_rfl))⟩
 f14:=⟨Tryz.f293.name,by decide,Tryz.func293.trans (congrArg some (by kernel_rfl))⟩
 f15:=Tryz.func257.trans (congrArg some (by kernel_rfl))
 f20:=⟨Tryz.f324.name,by decide,Tryz.func324.trans (congrArg some (by kernel_rfl))⟩
 f21:=⟨Tryz.f325.name,by decide,Tryz.func325.trans (congrArg some (by kernel_rfl))⟩
 f22:=⟨Tryz.f326.name,by decide,Tryz.func326.trans (congrArg some (by kernel_rfl))⟩
 f23:=⟨Tryz.f327.name,by decide,Tryz.func327.trans (congrArg some (by kernel_rfl))⟩
 f24:=⟨Tryz.f328.name,by decide,Tryz.func328.trans (congrArg some (by kernel_rfl))⟩
 f25:=⟨Tryz.f329.name,by decide,Tryz.func329.trans (congrArg some (by kernel_rfl))⟩
 f26:=⟨Tryz.f330.name,by decide,Tryz.func330.trans (congrArg some (by kernel_rfl))⟩
 f27:=⟨Tryz.f331.name,by decide,Tryz.func331.trans (congrArg some (by kernel_rfl))⟩
 f28:=Tryz.func309.trans (congrArg some (by kernel_rfl))
 f29:=Tryz.func199.trans (congrArg some (by kernel_rfl))
 f46:=⟨Tryz.f354.name,by decide,Tryz.func354.trans (congrArg some (by kernel_rfl))⟩
 f47:=Tryz.func339.trans (congrArg some (by kernel_rfl))
 f48:=Tryz.func340.trans (congrArg some (by kernel_rfl))
 f49:=⟨Tryz.f355.name,by decide,Tryz.func355.trans (congrArg some (by kernel_rfl))⟩
 f50:=⟨Tryz.f356.name,by decide,Tryz.func356.trans (congrArg some (by kernel_rfl))⟩
 f57:=⟨Tryz.f364.name,by decide,Tryz.func364.trans (congrArg some (by kernel_rfl))⟩
 t0:=Tryz.underlying0
 a0:=Tryz.isAgg0
 z0:=Tryz.sizeOf0
 v0:=Tryz.zeroValue0
 t3:=Tryz.underlying3
 a3:=Tryz.isAgg3
 z3:=Tryz.sizeOf3
 v3:=Tryz.zeroValue3
 t4:=Tryz.underlying4
 a4:=Tryz.isAgg4
 z4:=Tryz.sizeOf4
 v4:=Tryz.zeroValue4
 t5:=Tryz.underlying5
 a5:=Tryz.isAgg5
 z5:=Tryz.sizeOf5
 v5:=Tryz.zeroValue5
 t9:=Tryz.underlying9
 a9:=Tryz.isAgg9
 z9:=Tryz.sizeOf9
 v9:=Tryz.zeroValue9
 t22:=Tryz.underlying127
 a22:=Tryz.isAgg127
 z22:=Tryz.sizeOf127
 v22:=Tryz.zeroValue127
 t25:=Tryz.underlying328
 a25:=Tryz.isAgg328
 z25:=Tryz.sizeOf328
 v25:=Tryz.zeroValue328
 t39:=Tryz.underlying95
 a39:=Tryz.isAgg95
 z39:=Tryz.sizeOf95
 v39:=Tryz.zeroValue95
 t45:=Tryz.underlying382
 a45:=Tryz.isAgg382
 z45:=Tryz.sizeOf382
 v45:=Tryz.zeroValue382
 t46:=Tryz.underlying383
 a46:=Tryz.isAgg383
 z46:=Tryz.sizeOf383
 v46:=Tryz.zeroValue383
 t50:=Tryz.underlying150
 a50:=Tryz.isAgg150
 z50:=Tryz.sizeOf150
 v50:=Tryz.zeroValue150
 t53:=Tryz.underlying43
 a53:=Tryz.isAgg43
 z53:=Tryz.sizeOf43
 v53:=Tryz.zeroValue43
 t55:=Tryz.underlying281
 a55:=Tryz.isAgg281
 z55:=Tryz.sizeOf281
 v55:=Tryz.zeroValue281
 t66:=Tryz.underlying412
 a66:=Tryz.isAgg412
 z66:=Tryz.sizeOf412
 v66:=Tryz.zeroValue412
 t70:=Tryz.underlying416
 a70:=Tryz.isAgg416
 z70:=Tryz.sizeOf416
 v70:=Tryz.zeroValue416
 t76:=Tryz.underlying431
 a76:=Tryz.isAgg431
 z76:=Tryz.sizeOf431
 v76:=Tryz.zeroValue431
 t77:=Tryz.underlying69
 a77:=Tryz.isAgg69
 z77:=Tryz.sizeOf69
 v77:=Tryz.zeroValue69}
def Tryz.uU:Go.Shelf.Ren:=⟨fun | 8=>277|6=>317|n=>n,fun | 22=>41|23=>55|25=>146|4=>4|3=>3|0=>0|n=>n,fun | n=>n⟩
theorem Tryz.Dq:Go.Proofs.SlLaysH0.n8 Tryz.prog Tryz.uU:={
 mixed:=by kernel_rfl
 f6:=⟨Tryz.f317.name,by decide,Tryz.func317.trans (congrArg some (by kernel_rfl))⟩
 f8:=⟨Tryz.f277.name,by decide,Tryz.func277.trans (congrArg some (by kernel_rfl))⟩
 t0:=Tryz.underlying0
 a0:=Tryz.isAgg0
 z0:=Tryz.sizeOf0
 v0:=Tryz.zeroValue0
 t3:=Tryz.underlying3
 a3:=Tryz.isAgg3
 z3:=Tryz.sizeOf3
 v3:=Tryz.zeroValue3
 t4:=Tryz.underlying4
 a4:=Tryz.isAgg4
 z4:=Tryz.sizeOf4
 v4:=Tryz.zeroValue4
 t22:=Tryz.underlying41
 a22:=Tryz.isAgg41
 z22:=Tryz.sizeOf41
 v22:=Tryz.zeroValue41
 t25:=Tryz.underlying146
 a25:=Tryz.isAgg146
 z25:=Tryz.sizeOf146
 v25:=Tryz.zeroValue146}
end Go.Proofs
end
namespace Go.Proofs.YtandhagfhppgaaaGreatDoor
section
open Go.RowKit
section
variable {w:World}
theorem Au {x:Nat}(now:Int)(h:w.cell? ⟨x,12,none⟩=some (.int .i64 now)) :
 Calls Tryz.prog 13 #[.pointer (some ⟨x,0,none⟩)] w fun e w'=>e=.returned (.int .i64 now)∧w'=w:=by
 go_enter Tryz.func13,Tryz.ntmps13;go_wp2_with fail
 go_ret;exact⟨rfl,rfl⟩
theorem vM {x p n c:Nat}{A:Option Addr}(h:w.cell? ⟨x,13,none⟩=some (.pointer (some ⟨p,0,none⟩)))(h2:w.cell? ⟨p,12,none⟩=some (.slice A n c)) :
 Calls Tryz.prog 15 #[.pointer (some ⟨x,0,none⟩)] w fun e w'=>e=.returned (.int .i64 n)∧w'=w:=by
 go_enter Tryz.func15,Tryz.ntmps15;go_wp2_with (go_at_call 51;refine(uM h2).mono ?_;rintro e w' ⟨rfl,hw⟩;obtain rfl:=hw.symm;clear hw)
 go_ret;exact⟨rfl,rfl⟩
theorem NY {x p g n c:Nat}(h:w.cell? ⟨x,13,none⟩=some (.pointer (some ⟨p,0,none⟩)))(h2:w.cell? ⟨p,12,none⟩=some (.slice (some ⟨g,0,none⟩) n c))(id:Nat)(j:J)(h1:1≤id)(h3:id≤n)(hn:n≤1000)(hj:w.rangeAt g ((id-1)*26) j.cells.toList) :
 Calls Tryz.prog 18 #[.pointer (some ⟨x,0,none⟩),.int .u32 id] w fun e w'=>e=.returned (.tuple #[.agg j.cells,.bool true])∧Below w.heap.size w w':=by
 have GT:=ah.mk fun o=>nR (w:=w.alloc o) id j (ak (au (Below.refl _ _) _) h2) h1 h3 hn (fun i v hv=>ak (au (Below.refl _ _) _) (hj i v hv));have hx:∀o,(w.alloc o).cell? ⟨x,13,none⟩=some (.pointer (some ⟨p,0,none⟩)):=fun o=>ak (au (Below.refl _ _) _) h;clear h2 hj h;go_enter Tryz.func18,Tryz.ntmps18;go_wp2_with (first|(have _t:=H3.out;clear _t;refine aY rfl 55 (.tmp 4) (.tmp 15) rfl w.heap.size j.cells rfl rfl 55 _ ((H3.out.block _ (by simp)).trans (heap_alloc_new w _)) (eY j) rfl j.one ?_)|(go_at_call 54;refine(GT.out _).mono ?_;rintro e w3 ⟨rfl,hb⟩;have H3:=ah.mk hb;clear hb))
 try simp only[Exit.inBlock,Exit.then]
 have hg3:=(H3.out.block w.heap.size (by simp)).trans (heap_alloc_new w _);have hr:=setRow_heap w3 w.heap.size _ j.cells 55 (0,0) hg3;exact dY rfl rfl w.heap.size j.cells 55 (0,0) _ rfl hr Tryz.underlying55 rfl (eY j) ⟨rfl,below_setRow (ay (au (Below.refl _ _) _) (by simp) H3.out) (Nat.le_refl _) _⟩
theorem P6 {x p n c:Nat}{A:Option Addr}(h:w.cell? ⟨x,13,none⟩=some (.pointer (some ⟨p,0,none⟩)))(h2:w.cell? ⟨p,12,none⟩=some (.slice A n c))(id:Nat)(hid:id=0∨n<id)(hn:n≤1000)(h3:id≤4294967295) :
 Calls Tryz.prog 18 #[.pointer (some ⟨x,0,none⟩),.int .u32 id] w fun e w'=>e=.returned (.tuple #[.agg jq,.bool false])∧Below w.heap.size w w':=by
 have GT:=ah.mk fun o=>get_none (w:=w.alloc o) id (ak (au (Below.refl _ _) _) h2) hid hn h3;have hx:∀o,(w.alloc o).cell? ⟨x,13,none⟩=some (.pointer (some ⟨p,0,none⟩)):=fun o=>ak (au (Below.refl _ _) _) h;clear h2 hid h;go_enter Tryz.func18,Tryz.ntmps18;go_wp2_with (first|(have _t:=H3.out;clear _t;refine aY rfl 55 (.tmp 4) (.tmp 15) rfl w.heap.size jq rfl rfl 55 _ ((H3.out.block _ (by simp)).trans (heap_alloc_new w _)) jr rfl nK ?_)|(go_at_call 54;refine(GT.out _).mono ?_;rintro e w3 ⟨rfl,hb⟩;have H3:=ah.mk hb;clear hb))
 try simp only[Exit.inBlock,Exit.then]
 have hg3:=(H3.out.block w.heap.size (by simp)).trans (heap_alloc_new w _);have hr:=setRow_heap w3 w.heap.size _ jq 55 (0,0) hg3;exact dY rfl rfl w.heap.size jq 55 (0,0) _ rfl hr Tryz.underlying55 rfl jr ⟨rfl,below_setRow (ay (au (Below.refl _ _) _) (by simp) H3.out) (Nat.le_refl _) _⟩
theorem J.mM (j:J):j.cells[19]?=some (.int .i64 j.how):=rfl
theorem jG (j:J):Calls Tryz.prog 68 #[.agg j.cells] w fun e w'=>e=.returned (.bool (j.how==3||j.how==4))∧Below w.heap.size w w':=by
 have h19:=j.mM;go_enter Tryz.func68,Tryz.ntmps68;go_wp2_with fail
 all_goals
  rename_i h
  go_ret;exact⟨by simp[h],au (Below.refl _ _) _⟩
end
section
variable {w0 w:World}{L:List bV}
theorem IK {w:World}{p g n c:Nat}(k:Nat)(j:J)(h:w.cell? ⟨p,12,none⟩=some (.slice (some ⟨g,0,none⟩) n c))(h2:k<n)(hn:n≤1000)(hj:w.rangeAt g (k*26) j.cells.toList) :
 Calls Tryz.prog 54 #[.pointer (some ⟨p,0,none⟩),.int .u32 ((k:Int)+1)] w fun e w'=>e=.returned (.tuple #[.agg j.cells,.bool true])∧Below w.heap.size w w':=by
 have:=nR (k+1) j h (by omega) h2 hn (by simpa using hj);simpa using this
theorem vN {P:Program}{ops:Array Oper}{rest:List Oper}{o:Oper}{a:Act}{w:World}{Q:Exit→Act→World→Prop}(hg:o.guard=none)(t e:TypeId)(x:Operand)(ho:o.op=.buildSlice t 1 #[(0,x)])
 (N:Nat) (hN:w.heap.size=N) (dst:Option Tmp) (hdst:o.dst=dst) (hu:P.underlying t=some (.slice e)) (u:Value) (cells:Array Value) (hx:a.eval x=u)
 (hf:P.builtSlice e 1 [(0,u)]=some cells) (h:wpList P ops Q rest (a.put dst (.slice (some ⟨N,0,none⟩) 1 1)) (w.alloc (.cells cells e))):wpList P ops Q (o::rest) a w:=by
 subst hx;exact Go.Great.wpList_buildSliceTo hg t e 1 #[(0,x)] ho N hN dst hdst hu cells (by simpa using hf) h
theorem uO (j:J):Tryz.prog.builtSlice 55 1 [(0,.agg j.cells)]=some j.cells:=by kernel_rfl
theorem jL {α:Type}{l:List α}{k:Nat}{x:α}(h:l[k]?=some x):l.take (k+1)=l.take k++[x]:=by
 obtain⟨h1,rfl⟩:=List.getElem?_eq_some_iff.1 h;exact List.take_succ_eq_append_getElem h1
theorem lK {α:Type}(l:List α)(x y:α):(l++[x]).set l.length y=l++[y]:=by simp
theorem lU (H0:Has w0 w L)(ix it ij:Nat){x p n c:Nat}{A:Option Addr}{EF tcs:Array Value}{js:List J}(hix:L[ix]?=some (aF x (.cells EF 88)))(hit:L[it]?=some (aF p (.cells tcs 122)))(hj:L[ij]?=some (aO (.slice A n c) js))(hx:EF[13]?=some (.pointer (some ⟨p,0,none⟩)))(hc:tcs[12]?=some (.slice A n c))(hn:n≤1000) :
 Calls Tryz.prog 61 #[.pointer (some ⟨x,0,none⟩)] w fun e w'=>∃A1 c1,e=.returned (.slice A1 n c1)∧Has w0 w' (L++[aO (.slice A1 n c1) js]):=by
 have hnl:n=js.length:=by
  obtain⟨A',c',e⟩:=jg H0 ij hj;injection e with _ e2 _
 have HN:=Lib.hid hnl;have HX:=ah.mk (And.intro hix (And.intro hit (And.intro hj (And.intro hx hc))));have zn:ah (Has w0 w (L++[aO (.slice none 0 0) (js.take 0)])):=ah.mk (H0.iQ 55 26);clear hix hit hj hx hc H0 hnl;go_enter Tryz.func61,Tryz.ntmps61;go_wp2_with fail
 go_loopw [3,4] (fun v i wr=>∃(k:Nat) (A1:Option Addr) (c1:Nat),v=.slice A1 k c1∧i=.int .u32 ((k:Int)+1)∧k≤n∧ah (Has w0 wr (L++[aO (.slice A1 k c1) (js.take k)]))) (fun _ i _=>n+1-(intOf i).toNat)
 case atStart=>exact⟨0,none,0,rfl,rfl,Nat.zero_le _,zn⟩
 case round =>
  clear zn;obtain⟨k,A1,c1,rfl,rfl,hk,HS⟩:=hrel;have Xh:wr.cell? ⟨x,13,none⟩=some (.pointer (some ⟨p,0,none⟩)):=by rw[aj (HS.out.blk ix (eH HX.out.1 _))];exact HX.out.2.2.2.1
  have IL:wr.cell? ⟨p,12,none⟩=some (.slice A n c):=by rw[aj (HS.out.blk it (eH HX.out.2.1 _))];exact HX.out.2.2.2.2
  have Vs:=ah.mk IL;by_cases hlt:k<n
  ·obtain⟨j,hjk⟩:∃j,js[k]?=some j:=⟨_,List.getElem?_eq_getElem (by rw[←HN.out];exact hlt)⟩;obtain⟨g,c2,hv,hr,_⟩:=dN HS.out ij (eH HX.out.2.2.1 _) k j hjk;injection hv with e1 e2 e3;subst e1;have JK:=ah.mk hjk;have R:=ah.mk hr;have hi1:(k:Int)+1≤(n:Int):=by omega
   clear e2 e3 hr hjk IL;go_wp2_with (first|(have _t:=H4.out;clear _t;refine aJ rfl 55 (.tmp 5) rfl w3.heap.size 0 rfl j.cells _ (aX (heap_alloc_new w3 _) 0 _ (fun i v hv=>by simpa using hv)) Tryz.underlying55 rfl (eY j) ?_;refine ah.out ?_)|(have _t:=H3.out;clear _t;refine aB w3.heap.size rfl rfl 55 (.tmp 5) (.tmp 24) rfl j.cells rfl rfl 55 _ (eY j) rfl j.one ?_;have H4:=ah.mk (H3.out.alloc (.cells j.cells 55));obtain⟨A5,c5,w5,zo,h5⟩:=ET H4.out L.length (aU _ _) 41 j (by rw[List.length_take];omega);rw[show(w3.alloc (.cells j.cells 55)).heap.size=w3.heap.size+1 by simp,show(js.take k).length+1=k+1 by rw[List.length_take];have:=HN.out;omega]at zo;rw[lK,←jL JK.out,show(js.take k).length+1=k+1 by rw[List.length_take];have:=HN.out;omega]at h5;have Tv:=ah.mk zo;have H5:=ah.mk h5;clear zo h5)|(go_at_call 54;refine(IK k j Vs.out hlt hn R.out).mono ?_;rintro e w3 ⟨rfl,hb⟩;have H3:=ah.mk (HS.out.below hb);clear hb)|(go_at_call 51;refine(uM Vs.out).mono ?_;rintro e w' ⟨rfl,hw⟩;obtain rfl:=hw.symm;clear hw))
   refine ah.mk ?_;refine vN rfl 41 55 (.tmp 27) rfl (w3.heap.size+1) (by simp) (some 28) rfl Tryz.underlying41 _ j.cells rfl (uO j) ?_;refine step_append rfl 41 (.tmp 26) (.tmp 28) rfl rfl rfl Tv.out ?_;clear Tv;go_wp2_with fail
   go_roundw
   case rel=>exact⟨k+1,A5,c5,rfl,by go_num,by omega,H5⟩
   case measure=>simp[intOf];omega
  ·have hi1:¬(k:Int)+1≤(n:Int):=by omega
   have hkn:k=n:=by omega
   subst hkn;go_wp2_with (go_at_call 51;refine(uM Vs.out).mono ?_;rintro e w' ⟨rfl,hw⟩;obtain rfl:=hw.symm;clear hw)
   go_ret;have h:=HS.out;rw[HN.out,List.take_length,←HN.out]at h;exact⟨A1,c1,rfl,h⟩
end
end
section
open Go.RowKit
theorem xU {w:World}{x p g n c:Nat}(h:w.cell? ⟨x,13,none⟩=some (.pointer (some ⟨p,0,none⟩)))(h2:w.cell? ⟨p,12,none⟩=some (.slice (some ⟨g,0,none⟩) n c))(k:Nat)(j:J)(hk:k<n)(hn:n≤1000)(hj:w.rangeAt g (k*26) j.cells.toList) :
 Calls Tryz.prog 18 #[.pointer (some ⟨x,0,none⟩),.int .u32 ((k:Int)+1)] w fun e w'=>e=.returned (.tuple #[.agg j.cells,.bool true])∧Below w.heap.size w w':=by
 have:=NY h h2 (k+1) j (by omega) hk hn (by simpa using hj);simpa using this
section
variable {w0 w:World}{L:List bV}
theorem IQ (H0:Has w0 w L)(ix it ij:Nat){x p n c:Nat}{A:Option Addr}{EF tcs:Array Value}{js:List J}(hix:L[ix]?=some (aF x (.cells EF 88)))(hit:L[it]?=some (aF p (.cells tcs 122)))(hj:L[ij]?=some (aO (.slice A n c) js))(hx:EF[13]?=some (.pointer (some ⟨p,0,none⟩)))(hc:tcs[12]?=some (.slice A n c))(hn:n≤500) :
 Calls Tryz.prog 9 #[.pointer (some ⟨x,0,none⟩)] w fun e w'=>∃A1 c1,e=.returned (.slice A1 n c1)∧Has w0 w' (L++[aO (.slice A1 n c1) js]):=by
 have hnl:n=js.length:=by
  obtain⟨A',c',e⟩:=jg H0 ij hj;injection e with _ e2 _
 have HN:=Lib.hid hnl;have HX:=ah.mk (And.intro hix (And.intro hit (And.intro hj (And.intro hx hc))));have zn:ah (Has w0 w (L++[aO (.slice none 0 0) (js.take 0)])):=ah.mk (H0.iQ 55 26);clear hix hit hj hx hc H0 hnl;go_enter Tryz.func9,Tryz.ntmps9;go_wp2_with fail
 go_loopw [3,4] (fun v i wr=>∃(k:Nat) (A1:Option Addr) (c1:Nat),v=.slice A1 k c1∧i=.int .i64 ((k:Int)+1)∧k≤n∧ah (Has w0 wr (L++[aO (.slice A1 k c1) (js.take k)]))) (fun _ i _=>n+1-(intOf i).toNat)
 case atStart=>exact⟨0,none,0,rfl,rfl,Nat.zero_le _,zn⟩
 case round =>
  clear zn;obtain⟨k,A1,c1,rfl,rfl,hk,HS⟩:=hrel;have Xh:wr.cell? ⟨x,13,none⟩=some (.pointer (some ⟨p,0,none⟩)):=by rw[aj (HS.out.blk ix (eH HX.out.1 _))];exact HX.out.2.2.2.1
  have IL:wr.cell? ⟨p,12,none⟩=some (.slice A n c):=by rw[aj (HS.out.blk it (eH HX.out.2.1 _))];exact HX.out.2.2.2.2
  have Vs:=ah.mk IL;have YN:=ah.mk Xh;by_cases hlt:k<n
  ·obtain⟨j,hjk⟩:∃j,js[k]?=some j:=⟨_,List.getElem?_eq_getElem (by rw[←HN.out];exact hlt)⟩;obtain⟨g,c2,hv,hr,_⟩:=dN HS.out ij (eH HX.out.2.2.1 _) k j hjk;injection hv with e1 e2 e3;subst e1;have JK:=ah.mk hjk;have R:=ah.mk hr;have hi1:(k:Int)+1≤(n:Int):=by omega
   have hi2:(k:Int)+1<600:=by omega
   clear e2 e3 hr hjk IL;go_wp2_with (first|(have _t:=H4.out;clear _t;refine aJ rfl 55 (.tmp 5) rfl w3.heap.size 0 rfl j.cells _ (aX (heap_alloc_new w3 _) 0 _ (fun i v hv=>by simpa using hv)) Tryz.underlying55 rfl (eY j) ?_;refine ah.out ?_)|(have _t:=H3.out;clear _t;refine aB w3.heap.size rfl rfl 55 (.tmp 5) (.tmp 22) rfl j.cells rfl rfl 55 _ (eY j) rfl j.one ?_;have H4:=ah.mk (H3.out.alloc (.cells j.cells 55));obtain⟨A5,c5,w5,zo,h5⟩:=ET H4.out L.length (aU _ _) 41 j (by rw[List.length_take];omega);rw[show(w3.alloc (.cells j.cells 55)).heap.size=w3.heap.size+1 by simp,show(js.take k).length+1=k+1 by rw[List.length_take];have:=HN.out;omega]at zo;rw[lK,←jL JK.out,show(js.take k).length+1=k+1 by rw[List.length_take];have:=HN.out;omega]at h5;have Tv:=ah.mk zo;have H5:=ah.mk h5;clear zo h5)|(go_at_call 18;refine(xU YN.out Vs.out k j hlt (by omega) R.out).mono ?_;rintro e w3 ⟨rfl,hb⟩;have H3:=ah.mk (HS.out.below hb);clear hb)|(go_at_call 15;refine(vM YN.out Vs.out).mono ?_;rintro e w' ⟨rfl,hw⟩;obtain rfl:=hw.symm;clear hw))
   refine ah.mk ?_;refine vN rfl 41 55 (.tmp 25) rfl (w3.heap.size+1) (by simp) (some 26) rfl Tryz.underlying41 _ j.cells rfl (uO j) ?_;refine step_append rfl 41 (.tmp 24) (.tmp 26) rfl rfl rfl Tv.out ?_;clear Tv;go_wp2_with fail
   go_roundw
   case rel=>exact⟨k+1,A5,c5,rfl,by go_num,by omega,H5⟩
   case measure=>simp[intOf];omega
  ·have hi1:¬(k:Int)+1≤(n:Int):=by omega
   have hkn:k=n:=by omega
   subst hkn;go_wp2_with (go_at_call 15;refine(vM YN.out Vs.out).mono ?_;rintro e w' ⟨rfl,hw⟩;obtain rfl:=hw.symm;clear hw)
   go_ret;have h:=HS.out;rw[HN.out,List.take_length,←HN.out]at h;exact⟨A1,c1,rfl,h⟩
end
section
variable {w:World}
theorem jM {x:Nat}(pol:Int)(h:w.cell? ⟨x,0,none⟩=some (.int .i64 pol)) :
 Calls Tryz.prog 69 #[.pointer (some ⟨x,0,none⟩)] w fun e w'=>e=.returned (.bool (pol==4))∧w'=w:=by
 go_enter Tryz.func69,Tryz.ntmps69;go_wp2_with fail
 go_ret;exact⟨rfl,rfl⟩
end
end
section
open Go.RowKit
def ou (js:List J)(how:Int):List Nat:=(js.filter fun j=>j.how==how).map (·.id)
def P7 (l:List Nat):List Value:=l.map fun(i:Nat)=>Value.int .u32 (i:Int)
def EU (v:Value)(l:List Nat):bV:=rowA 43 1 v l.length (P7 l)
theorem CZ:∃i0 z,Tryz.prog.info? 43=some i0∧i0.zero=some z∧i0.size=1∧i0.bytes≤1000∧z.cells.size=1:=gq (by kernel_rfl)
section
variable {w0 W w:World}{L:List bV}
theorem Tz (H:Has w0 W L)(i:Nat){v:Value}{l:List Nat}(hi:L[i]?=some (EU v l))(ty:TypeId)(id:Nat)(hn:l.length≤4000000000) :
 ∃A1 c1 w1,(Builtin.append_ #[132,132] ty #[v,.slice (some ⟨W.heap.size,0,none⟩) 1 1]).run Tryz.prog (W.alloc (.cells #[.int .u32 (id:Int)] 43))=.ok (.slice A1 (l.length+1) c1) w1∧Has w0 w1 (L.set i (EU (.slice A1 (l.length+1) c1) (l++[id]))):=by
 obtain⟨i0,z,a1,a2,a3,a4,a5⟩:=CZ;obtain⟨A1,c1,w1,h1,h2⟩:=CY H i hi 132 ty Tryz.underlying132 i0 a1 z a2 _ a3 rfl a5 (by decide) #[.int .u32 (id:Int)] rfl (by simp[Value.oneCell']) hn a4;refine⟨A1,c1,w1,h1,?_⟩;unfold EU;rw[show P7 (l++[id])=P7 l++(#[.int .u32 (id:Int)]:Array Value).toList by simp[P7],List.length_append];exact h2
theorem J.pJ (j:J):j.cells[0]?=some (.int .u32 (j.id:Int)):=rfl
theorem IU (H0:Has w0 w L)(it ij:Nat){p n c:Nat}{A:Option Addr}{tcs:Array Value}{js:List J}(hit:L[it]?=some (aF p (.cells tcs 122)))(hj:L[ij]?=some (aO (.slice A n c) js))(hc:tcs[12]?=some (.slice A n c))(hn:n≤1000)(how:Int) :
 Calls Tryz.prog 125 #[.pointer (some ⟨p,0,none⟩),.int .i64 how] w fun e w'=>∃A1 m1 c1,e=.returned (.slice A1 m1 c1)∧m1=(ou js how).length∧Has w0 w' (L++[EU (.slice A1 m1 c1) (ou js how)]):=by
 have hnl:n=js.length:=by
  obtain⟨A',c',e⟩:=jg H0 ij hj;injection e with _ e2 _
 have IL:w.cell? ⟨p,12,none⟩=some (.slice A n c):=by rw[aj (H0.blk it hit)];exact hc
 have HN:=Lib.hid hnl;have HJ:=ah.mk hj;have zn:ah (Has w0 w (L++[EU (.slice none 0 0) (ou (js.take 0) how)])):=ah.mk (H0.iQ 43 1);clear hit hj hc H0 hnl;go_enter Tryz.func125,Tryz.ntmps125;go_wp2_with fail
 go_loopw [5,15] (fun v i wr=>∃(k m:Nat) (A1:Option Addr) (c1:Nat),v=.slice A1 m c1∧i=.int .i64 k∧k≤n∧m≤k∧ah (m=(ou (js.take k) how).length)∧ah (Has w0 wr (L++[EU (.slice A1 m c1) (ou (js.take k) how)]))) (fun _ i _=>n-(intOf i).toNat)
 case atStart=>exact⟨0,0,none,0,rfl,rfl,Nat.zero_le _,Nat.zero_le _,⟨rfl⟩,zn⟩
 case round =>
  clear zn;obtain⟨k,m,A1,c1,rfl,rfl,hk,hmk,HM,HS⟩:=hrel;by_cases hlt:k<n
  ·obtain⟨j,hjk⟩:∃j,js[k]?=some j:=⟨_,List.getElem?_eq_getElem (by rw[←HN.out];exact hlt)⟩;obtain⟨g,c2,hv,hr,_⟩:=dN HS.out ij (eH HJ.out _) k j hjk;injection hv with e1 e2 e3;subst e1;have h19:=j.mM;have h0:=j.pJ;have JK:=ah.mk hjk;have R:=ah.mk hr;obtain⟨hw,TB⟩:∃hw,hw=j.how:=⟨_,rfl⟩;rw[←TB]at h19;have HW:=Lib.hid TB;clear e2 e3 hr hjk TB;by_cases hq:hw=how
   ·have hs:ou (js.take (k+1)) how=ou (js.take k) how++[j.id]:=by
     rw[jL JK.out];unfold ou;rw[List.filter_append,List.map_append];simp[←HW.out,hq]
    have TD:=ah.mk hs;subst hq;clear hs;go_wp2_with (first|(at_builtin;have _t:=Tv.out;clear _t;refine step_append rfl 132 (.tmp 23) (.tmp 26) rfl rfl rfl Tv.out ?_;clear Tv)|(refine aB wr.heap.size rfl rfl 55 (.tmp 7) (.tmp 18) rfl j.cells rfl rfl 55 _ (eY j) rfl j.one ?_;have H4:=ah.mk (HS.out.alloc (.cells j.cells 55));obtain⟨A5,c5,w5,zo,h5⟩:=Tz H4.out L.length (aU _ _) 132 j.id (by rw[←HM.out];omega);rw[show(wr.alloc (.cells j.cells 55)).heap.size=wr.heap.size+1 by simp,←HM.out]at zo;rw[lK,←TD.out,←HM.out]at h5;have Tv:=ah.mk zo;have H5:=ah.mk h5;clear zo h5)|(refine aJ rfl 55 (.tmp 17) rfl g (k*26) rfl j.cells _ R.out Tryz.underlying55 rfl (eY j) ?_))
    go_roundw
    case rel=>exact⟨k+1,m+1,A5,c5,rfl,by go_num,by omega,by omega,⟨by rw[TD.out,List.length_append,←HM.out];rfl⟩,H5⟩
    case measure=>simp[intOf];omega
   ·have hs:ou (js.take (k+1)) how=ou (js.take k) how:=by
     rw[jL JK.out];unfold ou;rw[List.filter_append,List.map_append];simp[←HW.out,hq]
    have TD:=ah.mk hs;have hqz:(hw==how)=false:=by simpa using hq
    clear hs hq;go_wp2_with (first|(refine aB wr.heap.size rfl rfl 55 (.tmp 7) (.tmp 18) rfl j.cells rfl rfl 55 _ (eY j) rfl j.one ?_;have H4:=ah.mk (HS.out.alloc (.cells j.cells 55)))|(refine aJ rfl 55 (.tmp 17) rfl g (k*26) rfl j.cells _ R.out Tryz.underlying55 rfl (eY j) ?_))
    go_roundw
    case rel=>exact⟨k+1,m,A1,c1,rfl,by go_num,by omega,by omega,⟨by rw[TD.out];exact HM.out⟩,⟨by rw[TD.out];exact H4.out⟩⟩
    case measure=>simp[intOf];omega
  ·go_wp2_with fail
   go_ret;have h:=HS.out;have hkn:k=n:=by omega
   have hm:=HM.out;rw[hkn,HN.out,List.take_length]at h hm;exact⟨A1,m,c1,rfl,hm,h⟩
end
end
section
open Go.RowKit
structure Ky where
 prio:Int
 time:Int
 id:Nat
instance :Inhabited Ky:=⟨⟨0,0,0⟩⟩
def dn (k:Ky):List Value:=[.int .i64 k.prio,.int .i64 k.time,.int .u32 k.id]
theorem pY (k:Ky):(dn k).length=3:=rfl
def zu (a b:Int):Int:=if a=0 then b else a
def WT (x y:Ky):Int:=zu (Lib.compareInt y.prio x.prio) (zu (Lib.compareInt x.time y.time) (Lib.compareInt x.id y.id))
section
variable {w:World}
theorem qF (x:Int)(w:World):Calls Tryz.prog 343 #[.int .u32 x] w fun e w'=>e=.returned (.bool false)∧w'=w:=by
 refine named fun R HQ=>?_;go_enter Tryz.func343,Tryz.ntmps343;go_wp2_with fail
 first|go_ret|skip
 rw[←HQ.out];exact⟨by simp,rfl⟩
theorem Jg (x y:Int)(w:World):Calls Tryz.prog 323 #[.int .u32 x,.int .u32 y] w fun e w'=>e=.returned (.int .i64 (Lib.compareInt x y))∧w'=w:=by
 refine named fun R HQ=>?_;by_cases h1:x<y
 ·go_enter Tryz.func323,Tryz.ntmps323;go_wp2_with (go_at_call 343;refine(qF _ _).mono ?_;rintro e w' ⟨rfl,hw⟩;obtain rfl:=hw.symm;clear hw)
  first|go_ret|skip
  rw[←HQ.out];exact⟨by simp[Lib.compareInt,h1],rfl⟩
 ·by_cases h2:y<x
  ·have hd:decide (x<y)=false:=decide_eq_false h1;go_enter Tryz.func323,Tryz.ntmps323;go_wp2_with (go_at_call 343;refine(qF _ _).mono ?_;rintro e w' ⟨rfl,hw⟩;obtain rfl:=hw.symm;clear hw)
   first|go_ret|skip
   rw[←HQ.out];exact⟨by simp[Lib.compareInt,h1,h2],rfl⟩
  ·have hd:decide (x<y)=false:=decide_eq_false h1;have hd2:decide (y<x)=false:=decide_eq_false h2;go_enter Tryz.func323,Tryz.ntmps323;go_wp2_with (go_at_call 343;refine(qF _ _).mono ?_;rintro e w' ⟨rfl,hw⟩;obtain rfl:=hw.symm;clear hw)
   first|go_ret|skip
   rw[←HQ.out];have e0:Lib.compareInt x y=0:=by unfold Lib.compareInt;rw[if_neg (by omega),if_neg (by omega)]
   exact⟨by rw[e0];rfl,rfl⟩
theorem Oh {g c:Nat}(x y z:Int)(c0:w.cell? ⟨g,0,none⟩=some (.int .i64 x))(c1:w.cell? ⟨g,1,none⟩=some (.int .i64 y))(c2:w.cell? ⟨g,2,none⟩=some (.int .i64 z)) :
 Calls Tryz.prog 248 #[.slice (some ⟨g,0,none⟩) 3 c] w fun e w'=>e=.returned (.int .i64 (zu x (zu y z)))∧w'=w:=by
 refine named fun R HQ=>?_;by_cases hx:x=0
 ·subst hx;by_cases hy:y=0
  ·subst hy;by_cases hz:z=0
   ·subst hz;go_enter Tryz.func248,Tryz.ntmps248;go_wp2_with fail
    refine wp_loop_rounds 4 ?_;iterate 4
     rw[rounds_succ];go_wp2_with fail
    first|go_ret|skip
    rw[←HQ.out];exact⟨rfl,rfl⟩
   ·have hz2:(z != 0)=true:=by simpa using hz
    have e:zu 0 (zu 0 z)=z:=rfl;rw[e]at HQ;clear hz e;go_enter Tryz.func248,Tryz.ntmps248;go_wp2_with fail
    refine wp_loop_rounds 3 ?_;iterate 3
     rw[rounds_succ];go_wp2_with fail
    first|go_ret|skip
    rw[←HQ.out];exact⟨rfl,rfl⟩
  ·have hy2:(y != 0)=true:=by simpa using hy
   have e:zu 0 (zu y z)=y:=by unfold zu;rw[if_pos rfl,if_neg hy]
   rw[e]at HQ;clear hy e;go_enter Tryz.func248,Tryz.ntmps248;go_wp2_with fail
   refine wp_loop_rounds 2 ?_;iterate 2
    rw[rounds_succ];go_wp2_with fail
   first|go_ret|skip
   rw[←HQ.out];exact⟨rfl,rfl⟩
 ·have hx2:(x != 0)=true:=by simpa using hx
  have e:zu x (zu y z)=x:=by unfold zu;rw[if_neg hx]
  rw[e]at HQ;clear hx e;go_enter Tryz.func248,Tryz.ntmps248;go_wp2_with fail
  refine wp_loop_rounds 1 ?_;rw[rounds_succ];go_wp2_with fail
  first|go_ret|skip
  rw[←HQ.out];exact⟨rfl,rfl⟩
open Go.Sort in
theorem rM (w:World)(o:Obj):w.alloc o=grow w #[o]:=alloc_eq_grow w o
theorem Qp (W:World)(o1 o2 o3:Obj):(((W.alloc o1).alloc o2).drew).alloc o3=Sort.grow (W.drewN 1) #[o1,o2,o3]:=by
 rw[rM,rM,rM];show Sort.grow (Sort.grow (Sort.grow W.drew #[o1]) #[o2]) #[o3]=_
 rw[Sort.grow_grow,Sort.grow_grow];rfl
theorem zL (x y:Ky)(W:World):Calls Tryz.prog 292 #[.agg (dn x).toArray,.agg (dn y).toArray] W fun e w'=>e=.returned (.int .i64 (WT x y))∧∃q os',w'=Sort.grow (W.drewN q) os':=by
 refine named fun R HQ=>?_;obtain⟨xp,xt,xi⟩:=x;obtain⟨yp,yt,yi⟩:=y;have C1:=ah.mk fun V=>Tryz.cmp_Compare_int yp xp V;have C2:=ah.mk fun V=>Tryz.cmp_Compare_int xt yt V;have C3:=ah.mk fun V=>Jg (xi:Int) (yi:Int) V;unfold WT at HQ;simp only at HQ;obtain⟨a,ha⟩:∃a,a=Lib.compareInt yp xp:=⟨_,rfl⟩;obtain⟨b,hb⟩:∃b,b=Lib.compareInt xt yt:=⟨_,rfl⟩;obtain⟨c,hc⟩:∃c,c=Lib.compareInt (xi:Int) (yi:Int):=⟨_,rfl⟩;rw[←ha]at C1 HQ;rw[←hb]at C2 HQ;rw[←hc]at C3 HQ;clear ha hb hc;unfold dn;simp only;go_enter Tryz.func292,Tryz.ntmps292;go_wp2_with fail
 obtain⟨V,hV⟩:∃V,V=(W.alloc (.cells #[.int .i64 xp,.int .i64 xt,.int .u32 xi] 218)).alloc (.cells #[.int .i64 yp,.int .i64 yt,.int .u32 yi] 218):=⟨_,rfl⟩;rw[←hV];have d0:V.cell? ⟨W.heap.size,0,none⟩=some (.int .i64 xp):=by rw[hV,aj ((heap_alloc_old _ _ (by simp)).trans (heap_alloc_new _ _))];rfl
 have d1:V.cell? ⟨W.heap.size,1,none⟩=some (.int .i64 xt):=by rw[hV,aj ((heap_alloc_old _ _ (by simp)).trans (heap_alloc_new _ _))];rfl
 have d2:V.cell? ⟨W.heap.size,2,none⟩=some (.int .u32 xi):=by rw[hV,aj ((heap_alloc_old _ _ (by simp)).trans (heap_alloc_new _ _))];rfl
 have e0:V.cell? ⟨W.heap.size+1,0,none⟩=some (.int .i64 yp):=by rw[hV,aj (heap_alloc2_new _ _ _)];rfl
 have e1:V.cell? ⟨W.heap.size+1,1,none⟩=some (.int .i64 yt):=by rw[hV,aj (heap_alloc2_new _ _ _)];rfl
 have e2:V.cell? ⟨W.heap.size+1,2,none⟩=some (.int .u32 yi):=by rw[hV,aj (heap_alloc2_new _ _ _)];rfl
 have HV:=ah.mk hV;clear hV;refine wp_region_still_tail 15 (by kernel_rfl) (by kernel_rfl) ?_;simp only[List.take_succ_cons,List.take_zero,List.drop_succ_cons,List.drop_zero];repeat still_step
 still_call (C1.out _)
 repeat still_step
 still_call (C2.out _)
 repeat still_step
 still_call (C3.out _)
 repeat still_step
 refine wpStill_nil ?_;change wpList _ _ _ _ _ (World.drew V);have OC:ah (∀cp,Calls Tryz.prog 248 #[.slice (some ⟨V.heap.size,0,none⟩) 3 cp] (V.drew.alloc (.cells #[.int .i64 a,.int .i64 b,.int .i64 c] 3)) fun e w'=>e=.returned (.int .i64 (zu a (zu b c)))∧w'=V.drew.alloc (.cells #[.int .i64 a,.int .i64 b,.int .i64 c] 3)):=⟨fun cp=>Oh a b c (by rw[show V.heap.size=V.drew.heap.size from rfl,aj (heap_alloc_new _ _)];rfl) (by rw[show V.heap.size=V.drew.heap.size from rfl,aj (heap_alloc_new _ _)];rfl) (by rw[show V.heap.size=V.drew.heap.size from rfl,aj (heap_alloc_new _ _)];rfl)⟩;go_wp2_with (go_at_call 248;refine(OC.out _).mono ?_;rintro e w' ⟨rfl,hw⟩;have HF:=ah.mk hw;clear hw)
 first|go_ret|skip
 rw[←HQ.out];have hw:w'=(((W.alloc (.cells #[.int .i64 xp,.int .i64 xt,.int .u32 xi] 218)).alloc (.cells #[.int .i64 yp,.int .i64 yt,.int .u32 yi] 218)).drew).alloc (.cells #[.int .i64 a,.int .i64 b,.int .i64 c] 3):=by rw[HF.out,HV.out]
 exact⟨rfl,1,_,hw.trans (Qp W _ _ _)⟩
end
end
section
open Go.RowKit Go.Sort Go.Lib Go.Shelf
section
variable {α:Type}[Inhabited α]{w0 w:World}{L:List bV}
theorem FM {enc:α→List Value}{k:Nat}(hk0:0<k)(hk:∀x,(enc x).length=k)(l:List α):flatK enc k l.toArray=(l.flatMap enc).toArray:=by
 apply Array.ext
 ·rw[size_flatK];simp only[List.size_toArray];exact(kR hk l).symm
 ·intro t h1 h2;rw[size_flatK,List.size_toArray]at h1;have hq:t/k<l.length:=Nat.div_lt_of_lt_mul (by rw[Nat.mul_comm];exact h1);have hr:t%k<k:=Nat.mod_lt _ hk0;have hx:l[t/k]?=some (l[t/k]'hq):=List.getElem?_eq_getElem hq;have hf:=flat_get hk l (t/k) _ hx (t%k) hr;have ht:t/k*k+t%k=t:=by rw[Nat.mul_comm];exact Nat.div_add_mod t k
  rw[ht]at hf;have e1:(flatK enc k l.toArray)[t]! = (enc (l.toArray[t/k]!))[t%k]! :=get_flatK enc k l.toArray t (by simpa using h1);rw[getElem!_pos _ t (by rw[size_flatK];simpa using h1)]at e1;rw[e1];have e2:l.toArray[t/k]! = l[t/k]'hq:=by rw[getElem!_pos _ _ (by simpa using hq)];simp
  rw[e2];have h3:t%k<(enc (l[t/k]'hq)).length:=by rw[hk];exact hr
  rw[getElem!_pos (enc (l[t/k]'hq)) (t%k) h3];rw[List.getElem?_eq_getElem h3]at hf;have h4:t<(l.flatMap enc).length:=by simpa using h2
  rw[List.getElem?_eq_getElem h4]at hf;simp only[Option.some.injEq]at hf;simp[hf]
theorem FP {enc:α→List Value}{e:TypeId}{k:Nat}(hk0:0<k)(hk:∀x,(enc x).length=k)(H:Has w0 w L)(i:Nat){g n c:Nat}{l:List α}(hi:L[i]?=some (aT e k enc (.slice (some ⟨g,0,none⟩) n c) l))(hn:n=l.length) :
 HoldsK enc k w g 0 l.toArray∧g<w.heap.size∧∀(l':List α) (m:Nat) (os:Array Obj),l'.length=l.length→Has w0 (sortWorldK enc k w g 0 m l'.toArray os) (L.set i (aT e k enc (.slice (some ⟨g,0,none⟩) n c) l')):=by
 obtain⟨F,⟨hrow,hF⟩,h3,hgo⟩:=H.get i _ hi;have hFg:F g:=hF g rfl;rcases hrow.2 with⟨h0,_⟩|⟨g',cap,cur,hv,_,hh,hnc,hcm,hsz,ht⟩
 ·cases h0
 ·injection hv with e1 e2 e3;injection e1 with e1;injection e1 with e1;subst e1;refine⟨fun j hj=>?_,(h3 g hFg).2,fun l' m os hl'=>?_⟩
  ·rw[FM hk0 hk]at hj ⊢;have hj2:j<(l.flatMap enc).length:=by simpa using hj
   have hj3:j<l.length*k:=by rw[kR hk]at hj2;exact hj2
   refine⟨?_,aI hh _⟩;rw[aj hh,Nat.zero_add,getElem!_pos (l.flatMap enc).toArray j hj,←Array.getElem?_toList];have:=congrArg (fun z=>z[j]?) ht;simp only[List.getElem?_take_of_lt hj3]at this;rw[this,List.getElem?_eq_getElem hj2];simp
  ·have hgs:g<w.heap.size:=(h3 g hFg).2;have hlt:∀q,q<w.heap.size→q≠g→(sortWorldK enc k w g 0 m l'.toArray os).heap[q]?=w.heap[q]?:=fun q hq hne=>by
    unfold sortWorldK putRowK putRow;rw[Sort.heap_grow_old _ _ (by simpa[mapBlock]using hq)];simp[mapBlock,Sort.ahead,Array.getElem?_modify,Ne.symm hne]
   have hsize:w.heap.size≤(sortWorldK enc k w g 0 m l'.toArray os).heap.size:=by
    unfold sortWorldK putRowK putRow Sort.grow mapBlock;simp
   have hat:(sortWorldK enc k w g 0 m l'.toArray os).heap[g]?=some (.cells (putCells id 0 (flatK enc k l'.toArray) cur) e (0,0)):=by
    unfold sortWorldK putRowK putRow;rw[Sort.heap_grow_old _ _ (by simpa[mapBlock]using hgs)];simp[mapBlock,Sort.ahead,Array.getElem?_modify,hh,onCells]
   refine hgo _ _ ⟨F,⟨⟨?_,.inr ⟨g,cap,_,?_,Nat.zero_le _,hat,?_,hcm,?_,?_⟩⟩,hF⟩,⟨rfl,rfl,rfl,hsize,fun q hq hn'=>hlt q hq fun e=>hn' (e▸hFg)⟩,fun q hq=>⟨.inl hq,Nat.lt_of_lt_of_le (h3 q hq).2 hsize⟩⟩
   ·exact kR hk l'
   ·rw[hn,e3,hl']
   ·omega
   ·simp[putCells,hsz]
   ·have hm:l'.length*k≤cur.size:=by rw[hsz,hl'];exact Nat.mul_le_mul_right _ hnc
    rw[FM hk0 hk];apply List.ext_getElem?;intro j;by_cases hj:j<l'.length*k
    ·have hj2:j<(l'.flatMap enc).length:=by rw[kR hk];exact hj
     rw[List.getElem?_take_of_lt hj,Array.getElem?_toList];have hsz2:j<(l'.flatMap enc).toArray.size:=hj2;simp only[putCells,Array.getElem?_mapIdx,Array.getElem?_eq_getElem (show j<cur.size by omega),Option.map_some];rw[if_pos ⟨Nat.zero_le _,by rw[Nat.zero_add];exact hsz2⟩,Nat.sub_zero,getElem!_pos (l'.flatMap enc).toArray j hsz2,List.getElem?_eq_getElem hj2];rfl
    ·have hj2:¬j<(l'.flatMap enc).length:=by rw[kR hk];exact hj
     rw[List.getElem?_take_eq_none (by omega),List.getElem?_eq_none (by omega)]
theorem MF {d d':Array α}(h:Sort.PermIn 0 d.size d d'):d'.toList.Perm d.toList∧d'.size=d.size:=by
 obtain⟨h1,_,h3⟩:=h;rw[Array.extract_size]at h3;rw[show d'.extract 0 d.size=d' by rw[←h1];exact Array.extract_size]at h3;exact⟨h3,h1⟩
end
end
section
open Go.RowKit Go.Sort Go.Lib Go.Shelf
section
variable {w0 w:World}{L:List bV}
def Bools {κ:Type}(l:List (κ×Value)):Prop:=∀p∈l,∃b,p.2=Value.bool b
theorem Bools.look {κ:Type}[BEq κ]{l:List (κ×Value)}(h:Bools l)(a:κ):∃b,(look l a).getD (.bool false)=.bool b:=by
 induction l with
 |nil=>exact⟨false,rfl⟩
 |cons p l ih =>
  unfold YtandhagfhppgaaaGreatDoor.look;split
  ·obtain⟨b,hb⟩:=h p List.mem_cons_self;exact⟨b,by rw[hb];rfl⟩
  ·exact ih fun q hq=>h q (List.mem_cons_of_mem _ hq)
theorem Bools.store {κ:Type}[BEq κ]{l:List (κ×Value)}(h:Bools l)(a:κ)(b:Bool):Bools (store l a (.bool b)):=by
 induction l with
 |nil=>intro p hp;simp[YtandhagfhppgaaaGreatDoor.store]at hp;exact⟨b,by rw[hp]⟩
 |cons q l ih =>
  unfold YtandhagfhppgaaaGreatDoor.store;split
  ·intro p hp;rcases List.mem_cons.1 hp with rfl|hp
   ·exact⟨b,rfl⟩
   ·exact h p (List.mem_cons_of_mem _ hp)
  ·intro p hp;rcases List.mem_cons.1 hp with rfl|hp
   ·exact h _ List.mem_cons_self
   ·exact ih (fun q hq=>h q (List.mem_cons_of_mem _ hq)) p hp
theorem Xv (w:World):(zeroValue 4).run Tryz.prog w=.ok (.bool false) w:=by kernel_rfl
theorem Jh (k:Ky):(Tryz.prog.info? 218).map (·.size)=some (dn k).toArray.size:=by rw[show(dn k).toArray.size=3 from rfl];kernel_rfl
theorem sZ (k:Ky):(dn k).toArray.all (·.oneCell')=true:=by simp[dn,Value.oneCell']
theorem FQ {A:Option Addr}{n c:Nat}{ks:List Ky}(hr:bM w 3 dn (.slice A n c) ks)(hn:n≤100000) :
 Calls Tryz.prog 289 #[.slice A n c] w fun e w'=>(∃b:Bool,e=.returned (.bool b))∧Below w.heap.size w w':=by
 refine named fun R HQ=>?_;have HL:=ah.mk hr.len;have HR:=ah.mk hr;have hmm:=@run_makeMap Tryz.prog;have H1:=ah.mk ((Has.start w).lq (Value.int .u32));clear hr;go_enter Tryz.func289,Tryz.ntmps289;go_wp2_with fail
 go_loopw [9] (fun i wr=>∃(k:Nat) (l:List (Int×Value)),i=.int .i64 k∧k≤n∧ah (Bools l)∧ah (Has w wr [mapA w.heap.size (Value.int .u32) l])) (fun i _=>n-(intOf i).toNat)
 case atStart=>exact⟨0,[],rfl,Nat.zero_le _,⟨fun p hp=>by cases hp⟩,H1⟩
 case round =>
  clear H1;obtain⟨k,l,rfl,hk,HB,HH⟩:=hrel;by_cases hlt:k<n
  ·obtain⟨x,hx⟩:∃x,ks[k]?=some x:=⟨_,List.getElem?_eq_getElem (by rw[←HL.out];exact hlt)⟩;obtain⟨b,hA,hxr⟩:=(HR.out.below HH.out.old).get k x hx;subst hA;have R1:ah (wr.rangeAt b (k*3) (dn x).toArray.toList):=⟨by simpa using hxr⟩;have h2:=ah.mk (HH.out.bg (.cells (dn x).toArray 218));obtain⟨bo,Z4⟩:=HB.out.look (x.id:Int);have hlk:=dU (gJ .u32) h2.out 0 rfl 162 43 4 Tryz.underlying162 Tryz.underlying43 (.bool false) (Xv _) (x.id:Int) false;rw[if_neg (by decide),Z4]at hlk;obtain⟨w5,zo,h5⟩:=run_store (gJ .u32) h2.out 0 rfl 162 43 4 Tryz.underlying162 Tryz.underlying43 (x.id:Int) (.bool true);have HK:=ah.mk hlk;have H5:=ah.mk h5;have HS5:=ah.mk zo;have B5:=ah.mk (HB.out.store (x.id:Int) true);have x2:(dn x).toArray[2]?=some (.int .u32 (x.id:Int)):=rfl;have hk3:=Jh x;clear hxr hx Z4 hlk zo h5;cases bo with
   |true =>
    go_wp2_with (first|(refine fH rfl 162 _ _ false rfl rfl rfl HK.out ?_)|(refine aB wr.heap.size rfl rfl 218 (.tmp 5) (.tmp 12) rfl (dn x).toArray rfl rfl 218 _ hk3 rfl (sZ x) ?_)|(refine aJ rfl 218 (.tmp 11) rfl b (k*3) rfl (dn x).toArray _ R1.out Tryz.underlying218 rfl hk3 ?_))
    first|go_ret|skip
    rw[←HQ.out];exact⟨⟨true,rfl⟩,h2.out.old⟩
   |false =>
    go_wp2_with (first|(refine kT rfl 162 _ _ _ rfl rfl rfl rfl HS5.out ?_)|(refine fH rfl 162 _ _ false rfl rfl rfl HK.out ?_)|(refine aB wr.heap.size rfl rfl 218 (.tmp 5) (.tmp 12) rfl (dn x).toArray rfl rfl 218 _ hk3 rfl (sZ x) ?_)|(refine aJ rfl 218 (.tmp 11) rfl b (k*3) rfl (dn x).toArray _ R1.out Tryz.underlying218 rfl hk3 ?_))
    go_roundw
    case rel=>exact⟨k+1,_,by go_num,by omega,B5,⟨H5.out.drop 1⟩⟩
    case measure=>simp[intOf];omega
  ·go_wp2_with fail
   first|go_ret|skip
   rw[←HQ.out];exact⟨⟨false,rfl⟩,HH.out.old⟩
end
end
section
open Go.RowKit Go.Sort Go.Lib Go.Shelf
theorem Ji (x y:Ky):WT x y<0↔y.prio<x.prio∨(y.prio=x.prio∧(x.time<y.time∨(x.time=y.time∧(x.id:Int)<y.id))):=by
 unfold WT zu Lib.compareInt;repeat' split
 all_goals omega
theorem swoK:SWO (ltOf WT) where
 irrefl x:=by simp only[ltOf,decide_eq_false_iff_not,Ji];omega
 trans x y z h1 h2:=by simp only[ltOf,decide_eq_true_eq,Ji]at *;omega
 ntrans x y z h1 h2:=by simp only[ltOf,decide_eq_false_iff_not,Ji]at *;omega
section
variable {w0 w:World}{L:List bV}
theorem yw (H:Has w0 w L)(i:Nat){A:Option Addr}{n c:Nat}{ks:List Ky}(hi:L[i]?=some (aT 218 3 dn (.slice A n c) ks))(hn:n=ks.length)(hn2:n≤100000) :
 Calls Tryz.prog 291 #[.slice A n c,.func (.func 292) #[] #[]] w fun e w'=>e=.returned (.tuple #[])∧∃ks':List Ky,(∀k∈ks',k∈ks)∧ks'.length=n∧Has w0 w' (L.set i (aT 218 3 dn (.slice A n c) ks')):=by
 rcases Nat.eq_zero_or_pos n with h0|h0
 ·subst h0;have hks:ks=[]:=List.eq_nil_of_length_eq_zero hn.symm;subst hks;have hcon:=AnyF.slices_SortFunc_none Tryz.FI A c (.func (.func 292) #[] #[]) w;change Calls Tryz.prog 291 _ _ _ at hcon;refine hcon.mono fun e w' ⟨he,hw⟩=>⟨he,[],fun k hk=>hk,rfl,?_⟩;rw[hw,show L.set i (aT 218 3 dn (.slice A 0 c) [])=L from List.ext_getElem? fun q=>by
   rw[List.getElem?_set];split
   ·rename_i e;subst e;split
    ·exact hi.symm
    ·rename_i h2;rw[List.getElem?_eq_none (by omega)]at hi;cases hi
   ·rfl]
  exact H
 ·obtain⟨g,rfl,_⟩:=dD H i hi hn.symm h0;obtain⟨hH,hb,hgo⟩:=FP (enc:=dn) (by decide) pY H i hi hn;have eg:∀args w,(callFunc 292 args).run Tryz.prog w=.ok (.enter 292 args) w:=enters_of Tryz.func292 (by kernel_rfl) rfl;have hcon:=AnyQ.slices_SortFunc Tryz.FI 3 Tryz.isAgg218 Tryz.sizeOf218 dn pY (fun x v hv=>by simp[dn]at hv;rcases hv with rfl|rfl|rfl<;>rfl) WT swoK 292 #[] g 0 c ks.toArray w eg (fun m os dk hs x y=>zL x y _) hH hb (by simp;omega);change Calls Tryz.prog 291 _ _ _ at hcon;rw[show ks.toArray.size=n by simp[hn]]at hcon;refine hcon.mono fun e w' ⟨he,d',m,os,hp,_,hw⟩=>?_;rw[show n=ks.toArray.size by simp[hn]]at hp;obtain⟨hp1,hp2⟩:=MF hp;refine⟨he,d'.toList,fun k hk=>by simpa using hp1.mem_iff.1 hk,by simpa[hn]using hp2,?_⟩;rw[hw];exact hgo d'.toList m os (by simpa using hp2)
theorem Qq (ks:List Ky):∀u∈ks.flatMap dn,u.oneCell'=true:=by
 intro u hu;obtain⟨x,_,hx⟩:=List.mem_flatMap.1 hu;simp[dn]at hx;rcases hx with rfl|rfl|rfl<;>rfl
theorem FU (H:Has w0 w L)(i:Nat){A:Option Addr}{n c:Nat}{ks:List Ky}(hi:L[i]?=some (aT 218 3 dn (.slice A n c) ks))(hn:n=ks.length)(hn2:n≤100000) :
 Calls Tryz.prog 244 #[.slice A n c] w fun e w'=>∃(A2:Option Addr) (n2 c2:Nat) (r:Int) (ks':List Ky),e=.returned (.tuple #[.slice A2 n2 c2,.int .i64 r])∧(∀k∈ks',k∈ks)∧Has w0 w' (L++[aT 218 3 dn (.slice A2 n2 c2) ks'])∧n2=ks'.length∧n2≤n:=by
 refine named fun R HQ=>?_;have TW:=ah.mk (FQ (by have:=bI H i hi pY;exact this) hn2);have HH:=ah.mk H;have HI:=ah.mk hi;have HN:=ah.mk (And.intro hn hn2);clear H hi hn hn2;go_enter Tryz.func244,Tryz.ntmps244;go_wp2_with (go_at_call 289;refine TW.out.mono ?_;rintro e w2 ⟨⟨b,rfl⟩,hb⟩;have H2:=ah.mk (HH.out.below hb);clear hb;refine ah.out ?_)
 cases b with
 |true =>
  refine ah.mk ?_;go_wp2_with fail
  first|go_ret2|skip
  rw[←HQ.out];exact⟨none,0,0,30,[],rfl,(fun k hk=>by cases hk),H2.out.nilRow 218 3 dn,rfl,Nat.zero_le _⟩
 |false =>
  have CL0:=ah.mk (IW H2.out i (by have:=HI.out;unfold aT at this;rw[←HN.out.1]at this;exact this) (by have:=HN.out.2;omega) (Qq ks));refine ah.mk ?_;go_wp2_with (go_at_call 290;refine CL0.out.mono ?_;rintro e w3 ⟨A1,c1,rfl,h3⟩;have H3:=ah.mk h3;clear h3;refine ah.out ?_)
  have H4:ah (Has w0 w3 (L++[aT 218 3 dn (.slice A1 n c1) ks])):=⟨by have:=H3.out;unfold aT;rw[←HN.out.1];exact this⟩;have SC:=ah.mk (yw H4.out L.length (aU _ _) HN.out.1 HN.out.2);refine ah.mk ?_;go_wp2_with (go_at_call 291;refine SC.out.mono ?_;rintro e w5 ⟨rfl,ks',hks,hlen,h5⟩;have H5:=ah.mk h5;have HK:=ah.mk (And.intro hks hlen);clear h5 hks hlen)
  first|go_ret2|skip
  rw[←HQ.out];refine⟨A1,n,c1,0,ks',rfl,HK.out.1,?_,HK.out.2.symm,Nat.le_refl _⟩;have:=H5.out;rw[lK]at this;exact this
end
end
section
open Go.RowKit
theorem J.Ws (j:J):j.cells[6]?=some (.string j.s.qos):=rfl
section
variable {w0 w:World}{L:List bV}
theorem GY (H0:Has w0 w L)(it ij:Nat){p n c:Nat}{A:Option Addr}{tcs:Array Value}{js:List J}(hit:L[it]?=some (aF p (.cells tcs 122)))(hj:L[ij]?=some (aO (.slice A n c) js))(hc:tcs[12]?=some (.slice A n c))(hn:n≤1000)(q:ByteArray) :
 Calls Tryz.prog 173 #[.pointer (some ⟨p,0,none⟩),.string q] w fun e w'=>∃m:Nat,e=.returned (.int .i64 m)∧m≤n∧Has w0 w' L:=by
 have hnl:n=js.length:=by
  obtain⟨A',c',e⟩:=jg H0 ij hj;injection e with _ e2 _
 have IL:w.cell? ⟨p,12,none⟩=some (.slice A n c):=by rw[aj (H0.blk it hit)];exact hc
 have HN:=Lib.hid hnl;have HJ:=ah.mk hj;have zn:=ah.mk H0;clear hit hj hc H0 hnl;go_enter Tryz.func173,Tryz.ntmps173;go_wp2_with fail
 go_loopw [5,13] (fun v i wr=>∃(k m:Nat),v=.int .i64 m∧i=.int .i64 k∧k≤n∧m≤k∧ah (Has w0 wr L)) (fun _ i _=>n-(intOf i).toNat)
 case atStart=>exact⟨0,0,rfl,rfl,Nat.zero_le _,Nat.zero_le _,zn⟩
 case round =>
  clear zn;obtain⟨k,m,rfl,rfl,hk,hmk,HS⟩:=hrel;by_cases hlt:k<n
  ·obtain⟨j,hjk⟩:∃j,js[k]?=some j:=⟨_,List.getElem?_eq_getElem (by rw[←HN.out];exact hlt)⟩;obtain⟨g,c2,hv,hr,_⟩:=dN HS.out ij HJ.out k j hjk;injection hv with e1 e2 e3;subst e1;have h19:=j.mM;have h6:=j.Ws;have R:=ah.mk hr;clear e2 e3 hr hjk;have TD:=ah.mk (HS.out.alloc (.cells j.cells 55));cases hq:(j.s.qos.toList==q.toList)with
   |true =>
    by_cases hw:j.how≤4
    ·go_wp2_with (first|(refine aB wr.heap.size rfl rfl 55 (.tmp 7) (.tmp 16) rfl j.cells rfl rfl 55 _ (eY j) rfl j.one ?_)|(refine aJ rfl 55 (.tmp 15) rfl g (k*26) rfl j.cells _ R.out Tryz.underlying55 rfl (eY j) ?_))
     go_roundw
     case rel=>exact⟨k+1,m+1,by go_num,by go_num,by omega,by omega,TD⟩
     case measure=>simp[intOf];omega
    ·have hd:decide (j.how≤4)=false:=decide_eq_false hw;go_wp2_with (first|(refine aB wr.heap.size rfl rfl 55 (.tmp 7) (.tmp 16) rfl j.cells rfl rfl 55 _ (eY j) rfl j.one ?_)|(refine aJ rfl 55 (.tmp 15) rfl g (k*26) rfl j.cells _ R.out Tryz.underlying55 rfl (eY j) ?_))
     go_roundw
     case rel=>exact⟨k+1,m,rfl,by go_num,by omega,by omega,TD⟩
     case measure=>simp[intOf];omega
   |false =>
    go_wp2_with (first|(refine aB wr.heap.size rfl rfl 55 (.tmp 7) (.tmp 16) rfl j.cells rfl rfl 55 _ (eY j) rfl j.one ?_)|(refine aJ rfl 55 (.tmp 15) rfl g (k*26) rfl j.cells _ R.out Tryz.underlying55 rfl (eY j) ?_))
    go_roundw
    case rel=>exact⟨k+1,m,rfl,by go_num,by omega,by omega,TD⟩
    case measure=>simp[intOf];omega
  ·go_wp2_with fail
   go_ret;exact⟨m,rfl,by omega,HS.out⟩
end
end
end Go.Proofs.YtandhagfhppgaaaGreatDoor
