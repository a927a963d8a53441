/- Part 6 of a proof: contracts of the functions that the law reaches. No condition. -/
import Derived.ArgAppend
import Derived.Below
import Derived.BigQuiet
import Derived.ChangeMaps5
import Derived.Deep.AppendLies
import Derived.Deep.AppendSrc
import Derived.Deep.CutBlock
import Derived.Deep.DeepCutAuto
import Derived.Deep.Draws
import Derived.Deep.LoopGhost
import Derived.Deep.MidRow
import Derived.Deep.OwnRows
import Derived.Deep.Quiet
import Derived.Deep.QuietTactic
import Derived.Deep.RegionHeld3
import Derived.Deep.RegionLaw
import Derived.Deep.Strs
import Derived.Deep.WholeRow
import Derived.Great.BuildSlice
import Derived.Great.Walk
import Derived.Ground.SlgfProg
import Derived.Ground.SlsfProg
import Derived.HandedShaped
import Derived.JoinedOf
import Derived.KernelRfl
import Derived.LaidMore
import Derived.Laws.BitsLemmas
import Derived.Laws.BytesArg
import Derived.Laws.CopyOwn
import Derived.Laws.IdiomCopy
import Derived.Laws.MakeOwn
import Derived.Laws.NewBlocks
import Derived.Laws.OwnMore
import Derived.Laws.ResultCell
import Derived.Laws.Rows
import Derived.Laws.Slices
import Derived.Lay
import Derived.Lib.AppendStr
import Derived.Lib.AppendZerosOnto
import Derived.Lib.ConvBytes
import Derived.Lib.CutLaws
import Derived.Lib.Hide
import Derived.Lib.ItoaLen
import Derived.Lib.ItoaNum
import Derived.Lib.Join
import Derived.Lib.JoinLaws
import Derived.Lib.LaidTab
import Derived.Lib.LaidU8
import Derived.Lib.Overlaps
import Derived.Lib.RowBridge
import Derived.Lib.SlBytesConst
import Derived.Lib.SliceRun
import Derived.MapKept
import Derived.Maps.AppendAt
import Derived.OpenShut
import Derived.OrdersHeld
import Derived.Outline
import Derived.OwnWalk
import Derived.ProofKit
import Derived.RowKit
import Derived.RowKit3
import Derived.SevenTiedAt
import Derived.Shelf.SlGeneric
import Derived.Shelf.SlSortCmp.NoneTotal
import Derived.Shelf.SlSortCmp.WholeK
import Derived.Shelf.SlicesE.IndexFunc
import Derived.Shelf.SlicesQ.IndexFunc
import Derived.Shelf.Vars
import Derived.StillTail
import Derived.StillTailTactics
import Derived.Stop.Joined
import Derived.Tactics
import Derived.WalkKit
import Derived.WideLaws
import Derived.Test.YtandhagfhppgaaaGreatDoorCards
import Derived.Test.YtandhagfhppgaaaGreatDoorProg
set_option linter.all false
set_option maxRecDepth 100000
set_option maxHeartbeats 16000000
section
namespace Go.Proofs
open Go.Shelf
def Tryz.CX:Go.Shelf.Ren:=⟨fun | 6=>291|15=>257|14=>322|28=>309|29=>199|20=>346|21=>347|22=>348|23=>349|24=>350|25=>351|26=>352|27=>353|46=>361|47=>339|48=>340|49=>362|50=>363|57=>373|n=>n,fun | 22=>215|24=>218|25=>372|3=>3|39=>95|0=>0|53=>43|55=>281|4=>4|46=>383|45=>382|50=>150|5=>5|9=>9|66=>412|70=>416|76=>431|77=>69|n=>n,fun | n=>n⟩
theorem Tryz.Fq:Go.Proofs.SlLaysF0.n6 Tryz.prog Tryz.CX:={
 mixed:=by kernel_rfl
 f6:=⟨Tryz.f291.name,by decide,Tryz.func291.trans (congrArg some (by kernel_rfl))⟩
 f14:=⟨Tryz.f322.name,by decide,Tryz.func322.trans (congrArg some (by kernel_rfl))⟩
 f15:=Tryz.func257.trans (congrArg some (by kernel_rfl))
 f20:=⟨Tryz.f346.name,by decide,Tryz.func346.trans (congrArg some (by kernel_rfl))⟩
 f21:=⟨Tryz.f347.name,by decide,Tryz.func347.trans (congrArg some (by kernel_rfl))⟩
 f22:=⟨Tryz.f348.name,by decide,Tryz.func348.trans (congrArg some (by kernel_rfl))⟩
 f23:=⟨Tryz.f349.name,by decide,Tryz.func349.trans (congrArg some (by kernel_rfl))⟩
 f24:=⟨Tryz.f350.name,by decide,Tryz.func350.trans (congrArg some (by kernel_rfl))⟩
 f25:=⟨Tryz.f351.name,by decide,Tryz.func351.trans (congrArg some (by kernel_rfl))⟩
 f26:=⟨Tryz.f352.name,by decide,Tryz.func352.trans (congrArg some (by kernel_rfl))⟩
 f27:=⟨Tryz.f353.name,by decide,Tryz.func353.trans (congrArg some (by kernel_rfl))⟩
 f28:=Tryz.func309.trans (congrArg some (by kernel_rfl))
 f29:=Tryz.func199.trans (congrArg some (by kernel_rfl))
 f46:=⟨Tryz.f361.name,by decide,Tryz.func361.trans (congrArg some (by kernel_rfl))⟩
 f47:=Tryz.func339.trans (congrArg some (by kernel_rfl))
 f48:=Tryz.func340.trans (congrArg some (by kernel_rfl))
 f49:=⟨Tryz.f362.name,by decide,Tryz.func362.trans (congrArg some (by kernel_rfl))⟩
 f50:=⟨Tryz.f363.name,by decide,Tryz.func363.trans (congrArg some (by kernel_rfl))⟩
 f57:=⟨Tryz.f373.name,by decide,Tryz.func373.trans (congrArg some (by kernel_rfl))⟩
 t0:=Tryz.underlying0
 a0:=Tryz.isAgg0
 z0:=Tryz.sizeOf0
 v0:=Tryz.zeroValue0
 t3:=Tryz.underlying3
 a3:=Tryz.isAgg3
 z3:=Tryz.sizeOf3
 v3:=Tryz.zeroValue3
 t4:=Tryz.underlying4
 a4:=Tryz.isAgg4
 z4:=Tryz.sizeOf4
 v4:=Tryz.zeroValue4
 t5:=Tryz.underlying5
 a5:=Tryz.isAgg5
 z5:=Tryz.sizeOf5
 v5:=Tryz.zeroValue5
 t9:=Tryz.underlying9
 a9:=Tryz.isAgg9
 z9:=Tryz.sizeOf9
 v9:=Tryz.zeroValue9
 t22:=Tryz.underlying215
 a22:=Tryz.isAgg215
 z22:=Tryz.sizeOf215
 v22:=Tryz.zeroValue215
 t25:=Tryz.underlying372
 a25:=Tryz.isAgg372
 z25:=Tryz.sizeOf372
 v25:=Tryz.zeroValue372
 t39:=Tryz.underlying95
 a39:=Tryz.isAgg95
 z39:=Tryz.sizeOf95
 v39:=Tryz.zeroValue95
 t45:=Tryz.underlying382
 a45:=Tryz.isAgg382
 z45:=Tryz.sizeOf382
 v45:=Tryz.zeroValue382
 t46:=Tryz.underlying383
 a46:=Tryz.isAgg383
 z46:=Tryz.sizeOf383
 v46:=Tryz.zeroValue383
 t50:=Tryz.underlying150
 a50:=Tryz.isAgg150
 z50:=Tryz.sizeOf150
 v50:=Tryz.zeroValue150
 t53:=Tryz.underlying43
 a53:=Tryz.isAgg43
 z53:=Tryz.sizeOf43
 v53:=Tryz.zeroValue43
 t55:=Tryz.underlying281
 a55:=Tryz.isAgg281
 z55:=Tryz.sizeOf281
 v55:=Tryz.zeroValue281
 t66:=Tryz.underlying412
 a66:=Tryz.isAgg412
 z66:=Tryz.sizeOf412
 v66:=Tryz.zeroValue412
 t70:=Tryz.underlying416
 a70:=Tryz.isAgg416
 z70:=Tryz.sizeOf416
 v70:=Tryz.zeroValue416
 t76:=Tryz.underlying431
 a76:=Tryz.isAgg431
 z76:=Tryz.sizeOf431
 v76:=Tryz.zeroValue431
 t77:=Tryz.underlying69
 a77:=Tryz.isAgg69
 z77:=Tryz.sizeOf69
 v77:=Tryz.zeroValue69}
def Tryz.zA:Go.Shelf.Ren:=⟨fun | 6=>246|15=>257|14=>293|28=>309|29=>199|20=>324|21=>325|22=>326|23=>327|24=>328|25=>329|26=>330|27=>331|46=>354|47=>339|48=>340|49=>355|50=>356|57=>364|n=>n,fun | 22=>127|24=>203|25=>328|3=>3|39=>95|0=>0|53=>43|55=>281|4=>4|46=>383|45=>382|50=>150|5=>5|9=>9|66=>412|70=>416|76=>431|77=>69|n=>n,fun | n=>n⟩
theorem Tryz.Ah:Go.Proofs.SlLaysF0.n6 Tryz.prog Tryz.zA:={
 mixed:=by kernel_rfl
 f6:=⟨Tryz.f246.name,by decide,Tryz.func246.trans (congrArg some (by kernel_rfl))⟩
 f14:=⟨Tryz.f293.name,by decide,Tryz.func293.trans (congrArg some (by kernel_rfl))⟩
 f15:=Tryz.func257.trans (congrArg some (by kernel_rfl))
 f20:=⟨Tryz.f324.name,by decide,Tryz.func324.trans (congrArg some (by kernel_rfl))⟩
 f21:=⟨Tryz.f325.name,by decide,Tryz.func325.trans (congrArg some (by kernel_rfl))⟩
 f22:=⟨Tryz.f326.name,by decide,Tryz.func326.trans (congrArg some (by kernel_rfl))⟩
 f23:=⟨Tryz.f327.name,by decide,Tryz.func327.trans (congrArg some (by kernel_rfl))⟩
 f24:=⟨Tryz.f328.name,by decide,Tryz.func328.trans (congrArg some (by kernel_rfl))⟩
 f25:=⟨Tryz.f329.name,by decide,Tryz.func329.trans (congrArg some (by kernel_rfl))⟩
 f26:=⟨Tryz.f330.name,by decide,Tryz.func330.trans (congrArg some (by kernel_rfl))⟩
 f27:=⟨Tryz.f331.name,by decide,Tryz.func331.trans (congrArg some (by kernel_rfl))⟩
 f28:=Tryz.func309.trans (congrArg some (by kernel_rfl))
 f29:=Tryz.func199.trans (congrArg some (by kernel_rfl))
 f46:=⟨Tryz.f354.name,by decide,Tryz.func354.trans (congrArg some (by kernel_rfl))⟩
 f47:=Tryz.func339.trans (congrArg some (by kernel_rfl))
 f48:=Tryz.func340.trans (congrArg some (by kernel_rfl))
 f49:=⟨Tryz.f355.name,by decide,Tryz.func355.trans (congrArg some (by kernel_rfl))⟩
 f50:=⟨Tryz.f356.name,by decide,Tryz.func356.trans (congrArg some (by kernel_rfl))⟩
 f57:=⟨Tryz.f364.name,by decide,Tryz.func364.trans (congrArg some (by kernel_rfl))⟩
 t0:=Tryz.underlying0
 a0:=Tryz.isAgg0
 z0:=Tryz.sizeOf0
 v0:=Tryz.zeroValue0
 t3:=Tryz.underlying3
 a3:=Tryz.isAgg3
 z3:=Tryz.sizeOf3
 v3:=Tryz.zeroValue3
 t4:=Tryz.underlying4
 a4:=Tryz.isAgg4
 z4:=Tryz.sizeOf4
 v4:=Tryz.zeroValue4
 t5:=Tryz.underlying5
 a5:=Tryz.isAgg5
 z5:=Tryz.sizeOf5
 v5:=Tryz.zeroValue5
 t9:=Tryz.underlying9
 a9:=Tryz.isAgg9
 z9:=Tryz.sizeOf9
 v9:=Tryz.zeroValue9
 t22:=Tryz.underlying127
 a22:=Tryz.isAgg127
 z22:=Tryz.sizeOf127
 v22:=Tryz.zeroValue127
 t25:=Tryz.underlying328
 a25:=Tryz.isAgg328
 z25:=Tryz.sizeOf328
 v25:=Tryz.zeroValue328
 t39:=Tryz.underlying95
 a39:=Tryz.isAgg95
 z39:=Tryz.sizeOf95
 v39:=Tryz.zeroValue95
 t45:=Tryz.underlying382
 a45:=Tryz.isAgg382
 z45:=Tryz.sizeOf382
 v45:=Tryz.zeroValue382
 t46:=Tryz.underlying383
 a46:=Tryz.isAgg383
 z46:=Tryz.sizeOf383
 v46:=Tryz.zeroValue383
 t50:=Tryz.underlying150
 a50:=Tryz.isAgg150
 z50:=Tryz.sizeOf150
 v50:=Tryz.zeroValue150
 t53:=Tryz.underlying43
 a53:=Tryz.isAgg43
 z53:=Tryz.sizeOf43
 v53:=Tryz.zeroValue43
 t55:=Tryz.underlying281
 a55:=Tryz.isAgg281
 z55:=Tryz.sizeOf281
 v55:=Tryz.zeroValue281
 t66:=Tryz.underlying412
 a66:=Tryz.isAgg412
 z66:=Tryz.sizeOf412
 v66:=Tryz.zeroValue412
 t70:=Tryz.underlying416
 a70:=Tryz.isAgg416
 z70:=Tryz.sizeOf416
 v70:=Tryz.zeroValue416
 t76:=Tryz.underlying431
 a76:=Tryz.isAgg431
 z76:=Tryz.sizeOf431
 v76:=Tryz.zeroValue431
 t77:=Tryz.underlying69
 a77:=Tryz.isAgg69
 z77:=Tryz.sizeOf69
 v77:=Tryz.zeroValue69}
def Tryz.uM:Go.Shelf.Ren:=⟨fun | 8=>277|6=>317|n=>n,fun | 22=>41|23=>55|25=>146|4=>4|3=>3|0=>0|n=>n,fun | n=>n⟩
theorem Tryz.CY:Go.Proofs.SlLaysH0.n8 Tryz.prog Tryz.uM:={
 mixed:=by kernel_rfl
 f6:=⟨Tryz.f317.name,by decide,Tryz.func317.trans (congrArg some (by kernel_rfl))⟩
 f8:=⟨Tryz.f277.name,by decide,Tryz.func277.trans (congrArg some (by kernel_rfl))⟩
 t0:=Tryz.underlying0
 a0:=Tryz.isAgg0
 z0:=Tryz.sizeOf0
 v0:=Tryz.zeroValue0
 t3:=Tryz.underlying3
 a3:=Tryz.isAgg3
 z3:=Tryz.sizeOf3
 v3:=Tryz.zeroValue3
 t4:=Tryz.underlying4
 a4:=Tryz.isAgg4
 z4:=Tryz.sizeOf4
 v4:=Tryz.zeroValue4
 t22:=Tryz.underlying41
 a22:=Tryz.isAgg41
 z22:=Tryz.sizeOf41
 v22:=Tryz.zeroValue41
 t25:=Tryz.underlying146
 a25:=Tryz.isAgg146
 z25:=Tryz.sizeOf146
 v25:=Tryz.zeroValue146}
end Go.Proofs
end
namespace Go.Proofs.YtandhagfhppgaaaGreatDoor
section
theorem Ve:true=Tryz.prog.looks []:=by kernel_rfl
theorem Xd:Tryz.prog.mainIs=some (true,"a9414e422898caab89ed97ee7844babe24d4d94e6468459f9858390815273d3f".toList):=by kernel_rfl
end
section
section
variable {P:Program}{ops:Array Oper}{Q:Exit→Act→World→Prop}{md:Region.Mode}{S:World→Prop}{ds:List Nat}
theorem kV (n:Int):IntKind.i64.wrap n=Go.RowKit.wrap64 n:=by unfold Go.RowKit.wrap64;exact IntKind.wrap_i64 n
end
end
section
open Go.RowKit
structure ah (p:Prop):Prop where mk::(out:p)
structure fC (w w':World):Prop where mk::(out:∃n,w'=w.drewN n)
theorem fC.refl (w:World):fC w w:=⟨⟨0,rfl⟩⟩
theorem fC.step {w w':World}(h:fC w w')(n:Nat):fC w (w'.drewN n):=by
 obtain⟨m,rfl⟩:=h;exact⟨⟨m+n,World.drewN_drewN ..⟩⟩
theorem fC.below {w w':World}(h:fC w w'):Below w.heap.size w w':=by
 obtain⟨n,rfl⟩:=h;induction n with
 |zero=>exact Below.refl _ _
 |succ n ih=>rw[←World.drew_drewN];exact ih.drew
theorem au {w W:World}(h:Below w.heap.size w W)(o:Obj):Below w.heap.size w (W.alloc o):=h.alloc h.size o
theorem aC {B:Nat}{w W:World}(h:Below B w W)(n:Nat):Below B w (W.drewN n):=⟨h.os,h.tape,h.output,h.size,h.block⟩
theorem ay {B:Nat}{w w1 w2:World}(h:Below B w w1)(hB:B≤w1.heap.size)(k:Below w1.heap.size w1 w2):Below B w w2 :=
 h.trans ⟨k.os,k.tape,k.output,k.size,fun i hi=>k.block i (Nat.lt_of_lt_of_le hi hB)⟩
theorem ak {w w1:World}(h:Below w.heap.size w w1){a:Addr}{v:Value}(hc:w.cell? a=some v):w1.cell? a=some v:=(h.cell (World.block_lt_of_cell? w a hc)).trans hc
theorem SL (W:World)(base:Nat)(e:TypeId)(size:Nat):W.ownsRow base e size (.slice none 0 0) 0 []:=⟨by simp,.inl ⟨rfl,rfl⟩⟩
theorem own_base {w:World}{base:Nat}{e:TypeId}{size n:Nat}{v:Value}{xs:List Value}(h:w.ownsRow base e size v n xs)(k:Nat)(hk:v.ownBlock=some k):base≤k:=by
 rcases h.2 with⟨rfl,_⟩|⟨g,cap,cur,rfl,hb,_⟩
 ·simp[Value.ownBlock]at hk
 ·have : g=k:=by simpa[Value.ownBlock]using hk
  omega
theorem xg {w:World}{base:Nat}{e:TypeId}{size n:Nat}{v:Value}{xs:List Value}(h:w.ownsRow base e size v n xs)(k:Nat)(hk:v.ownBlock=some k):k<w.heap.size:=by
 rcases h.2 with⟨rfl,_⟩|⟨g,cap,cur,rfl,hb,hh,_⟩
 ·simp[Value.ownBlock]at hk
 ·have : g=k:=by simpa[Value.ownBlock]using hk
  subst this;exact(Array.getElem?_eq_some_iff.1 hh).1
theorem jD {w:World}{base n:Nat}{e:TypeId}{size:Nat}{v:Value}{xs:List Value}(h:w.ownsRow base e size v n xs):∃A c,v=.slice A n c:=by
 rcases h.2 with⟨rfl,rfl⟩|⟨g,cap,cur,rfl,_⟩
 ·exact⟨none,0,rfl⟩
 ·exact⟨_,cap,rfl⟩
theorem BK {w:World}{g:Nat}{t:TypeId}{cs:Array Value}(h:w.heap[g]?=some (.cells cs t (0,0)))(i:Nat)(u:Value):(w.setCell ⟨g,i,none⟩ u).heap[g]?=some (.cells (cs.setIfInBounds i u) t (0,0)):=by
 simp[World.setCell,Array.getElem?_modify,h]
theorem aj {w:World}{g:Nat}{t:TypeId}{cs:Array Value}(h:w.heap[g]?=some (.cells cs t (0,0)))(i:Nat):w.cell? ⟨g,i,none⟩=cs[i]?:=cell_of_row w g i cs t (0,0) h
theorem aJ {w:World}{g:Nat}{t:TypeId}{cs:Array Value}(h:w.heap[g]?=some (.cells cs t (0,0)))(i:Nat):w.frozen? ⟨g,i,none⟩=false:=by simp[World.frozen?,h]
theorem Iu {w:World}{base base':Nat}{e:TypeId}{size n:Nat}{v:Value}{xs:List Value}(h:w.ownsRow base e size v n xs)(hb:base'≤base):w.ownsRow base' e size v n xs:=by
 obtain⟨h1,h2⟩:=h;refine⟨h1,?_⟩;rcases h2 with h2|⟨g,cap,cur,rfl,hg,r⟩
 ·exact .inl h2
 ·exact .inr ⟨g,cap,cur,rfl,Nat.le_trans hb hg,r⟩
theorem LQ (w:World)(o:Obj):(w.alloc o).heap[w.heap.size]?=some o:=heap_alloc_new w o
structure Kd (α:Type) where
 sz:Nat
 E:List Nat
 K:World→α→List Value→Prop
 M:World→Nat→(Nat→Prop)→α→List Value→Prop
 aak:∀ {w x cs},K w x cs→cs.length=sz
 aal:∀ {w x cs},K w x cs→∀u∈cs,u.oneCell'=true
 Yu:∀ {w w1:World} {x cs},Below w.heap.size w w1→K w x cs→K w1 x cs
 YZ:∀ {w base ok x cs},M w base ok x cs→K w x cs
 Y0:∀ {w base ok ok' x cs},(∀k,ok k→ok' k)→M w base ok x cs→M w base ok' x cs
 Yv:∀ {w:World} {base ok x cs},M w base ok x cs→M w base (fun k=>ok k∧base≤k∧k<w.heap.size∧∃q,q∈E∧∃cells,w.heap[k]?=some (.cells cells q (0,0))) x cs
 Y1:∀ {w w1:World} {base ok x cs},(∀k,ok k→w1.heap[k]?=w.heap[k]?)→M w base ok x cs→M w1 base ok x cs
 Yw:∀ {w base base' ok x cs},base'≤base→M w base ok x cs→M w base' ok x cs
theorem EL {w w1:World}{base:Nat}{e:TypeId}{size n:Nat}{v:Value}{xs:List Value}(h:w.ownsRow base e size v n xs)(hm:∀k,v.ownBlock=some k→w1.heap[k]?=w.heap[k]?):w1.ownsRow base e size v n xs:=by
 obtain⟨h1,h2⟩:=h;refine⟨h1,?_⟩;rcases h2 with h2|⟨g,cap,cur,rfl,hg,hh,r⟩
 ·exact .inl h2
 ·exact .inr ⟨g,cap,cur,rfl,hg,(hm g (by simp[Value.ownBlock])).trans hh,r⟩
end
section
open Go.RowKit
theorem qy (w:World)(g k:Nat)(u:Value):w.grownBy (w.setCell ⟨g,k,none⟩ u) (some g):=
 ⟨rfl,rfl,rfl,by simp[World.setCell],fun i _ hne=>Below.heap_setCell w ⟨g,k,none⟩ u i (fun e=>hne (by rw[e]))⟩
structure Touch (S:Nat→Prop)(w w':World):Prop where
 os:w'.os=w.os
 tape:w'.tape=w.tape
 output:w'.output=w.output
 size:w.heap.size≤w'.heap.size
 block:∀k,k<w.heap.size→¬S k→w'.heap[k]?=w.heap[k]?
theorem Touch.refl (S:Nat→Prop)(w:World):Touch S w w:=⟨rfl,rfl,rfl,Nat.le_refl _,fun _ _ _=>rfl⟩
theorem Touch.trans {S:Nat→Prop}{a b c:World}(h:Touch S a b)(k:Touch S b c):Touch S a c :=
 ⟨k.os.trans h.os,k.tape.trans h.tape,k.output.trans h.output,Nat.le_trans h.size k.size,fun i hi hs=>(k.block i (Nat.lt_of_lt_of_le hi h.size) hs).trans (h.block i hi hs)⟩
theorem Touch.mono {S T:Nat→Prop}{w w':World}(h:Touch S w w')(hs:∀k,k<w.heap.size→S k→T k):Touch T w w' :=
 ⟨h.os,h.tape,h.output,h.size,fun k hk hn=>h.block k hk fun hk'=>hn (hs k hk hk')⟩
theorem Touch.lQ {w w':World}{row:Option Nat}(h:w.grownBy w' row):Touch (fun k=>some k=row) w w':=⟨h.os,h.tape,h.output,h.size,fun k hk hn=>h.block k hk hn⟩
theorem Touch.below {S:Nat→Prop}{w w':World}(h:Touch S w w')(B:Nat)(hB:B≤w.heap.size)(hS:∀k,S k→B≤k):Below B w w' :=
 ⟨h.os,h.tape,h.output,h.size,fun k hk=>h.block k (by omega) fun hs=>by have:=hS k hs;omega⟩
theorem Touch.of_below {S:Nat→Prop}{w w':World}(h:Below w.heap.size w w'):Touch S w w':=⟨h.os,h.tape,h.output,h.size,fun k hk _=>h.block k hk⟩
structure bW where
 P:World→(Nat→Prop)→Prop
 loc:∀w w1 F,P w F→(∀k,F k→w1.heap[k]?=w.heap[k]?)→P w1 F
def Star:List bW→World→(Nat→Prop)→Prop
 |[],_,_=>True
 |X::l,w,F=>∃G H:Nat→Prop,X.P w G∧Star l w H∧(∀k,G k→H k→False)∧∀k,G k∨H k→F k
theorem Star.loc {w w1:World}:∀(l:List bW) (F:Nat→Prop),Star l w F→(∀k,F k→w1.heap[k]?=w.heap[k]?)→Star l w1 F
 |[],_,_,_=>trivial
 |X::l,F,⟨G,H,h1,h2,h3,h4⟩,hk=>⟨G,H,X.loc _ _ _ h1 fun k hg=>hk k (h4 k (.inl hg)),Star.loc l H h2 fun k hh=>hk k (h4 k (.inr hh)),h3,h4⟩
theorem Star.up {w:World}:∀(l:List bW) (F G:Nat→Prop),Star l w F→(∀k,F k→G k)→Star l w G
 |[],_,_,_,_=>trivial
 |X::l,F,G',⟨G,H,h1,h2,h3,h4⟩,hk=>⟨G,H,h1,h2,h3,fun k h=>hk k (h4 k h)⟩
def oQ (l:List bW):bW:=⟨fun w F=>Star l w F,fun _ _ F h hk=>Star.loc l F h hk⟩
theorem Star.at_ {w:World}:∀(l:List bW) (i:Nat) (X:bW) (F:Nat→Prop),Star l w F→l[i]?=some X →
 ∃G H:Nat→Prop,X.P w G∧(∀k,G k→H k→False)∧(∀k,G k∨H k→F k)∧
  ∀(Y:bW) (w1:World) (G1:Nat→Prop),Y.P w1 G1→(∀k,H k→w1.heap[k]?=w.heap[k]?)→(∀k,G1 k→H k→False)→Star (l.set i Y) w1 fun k=>G1 k∨H k
 |[],i,X,F,_,hi=>by simp at hi
 |Z::l,0,X,F,⟨G,H,h1,h2,h3,h4⟩,hi=>by
  simp at hi;subst hi;exact⟨G,H,h1,h3,h4,fun Y w1 G1 hy hk hd=>⟨G1,H,hy,Star.loc l H h2 hk,hd,fun k h=>h⟩⟩
 |Z::l,i+1,X,F,⟨G,H,h1,h2,h3,h4⟩,hi=>by
  obtain⟨G',H',k1,k2,k3,k4⟩:=Star.at_ l i X H h2 (by simpa using hi);refine⟨G',fun k=>G k∨H' k,k1,fun k hg hh=>?_,fun k hk=>?_,fun Y w1 G1 hy hk hd=>?_⟩
  ·rcases hh with hh|hh
   ·exact h3 k hh (k3 k (.inl hg))
   ·exact k2 k hg hh
  ·rcases hk with hk|hk|hk
   ·exact h4 k (.inr (k3 k (.inl hk)))
   ·exact h4 k (.inl hk)
   ·exact h4 k (.inr (k3 k (.inr hk)))
  ·refine⟨G,fun k=>G1 k∨H' k,Z.loc _ _ _ h1 fun k hg=>hk k (.inl hg),k4 Y w1 G1 hy (fun k hh=>hk k (.inr hh)) fun k hg hh=>hd k hg (.inr hh),fun k hg hh=>?_,fun k h=>?_⟩
   ·rcases hh with hh|hh
    ·exact hd k hh (.inl hg)
    ·exact h3 k hg (k3 k (.inr hh))
   ·rcases h with h|h|h
    ·exact .inr (.inl h)
    ·exact .inl h
    ·exact .inr (.inr h)
def Goes (F:Nat→Prop)(Y:bW)(w w1:World):Prop :=
 ∃F1:Nat→Prop,Y.P w1 F1∧Touch F w w1∧∀k,F1 k→(F k∨w.heap.size≤k)∧k<w1.heap.size
def Has (w0 w:World)(l:List bW):Prop :=
 (∃F:Nat→Prop,Star l w F∧∀k,F k→w0.heap.size≤k∧k<w.heap.size)∧Below w0.heap.size w0 w
section
variable {w0 w w1:World}{l:List bW}
theorem Has.start (w:World):Has w w []:=⟨⟨fun _=>False,trivial,fun _ h=>h.elim⟩,Below.refl _ _⟩
theorem Has.old (h:Has w0 w l):Below w0.heap.size w0 w:=h.2
theorem Has.size (h:Has w0 w l):w0.heap.size≤w.heap.size:=h.2.size
theorem Has.below (h:Has w0 w l)(hb:Below w.heap.size w w1):Has w0 w1 l:=by
 obtain⟨⟨F,h1,h2⟩,h3⟩:=h;exact⟨⟨F,Star.loc l F h1 fun k hk=>hb.block k (h2 k hk).2,fun k hk=>⟨(h2 k hk).1,Nat.lt_of_lt_of_le (h2 k hk).2 hb.size⟩⟩,ay h3 h3.size hb⟩
theorem Has.alloc (h:Has w0 w l)(o:Obj):Has w0 (w.alloc o) l:=h.below (au (Below.refl _ _) o)
theorem Has.drewN (h:Has w0 w l)(n:Nat):Has w0 (w.drewN n) l:=h.below (aC (Below.refl _ _) n)
theorem Has.drew (h:Has w0 w l):Has w0 w.drew l:=h.drewN 1
theorem Has.get (h:Has w0 w l)(i:Nat)(X:bW)(hi:l[i]?=some X):∃F:Nat→Prop,X.P w F∧(∀k,F k→w0.heap.size≤k∧k<w.heap.size)∧
 ∀(Y:bW) (w1:World),Goes F Y w w1→Has w0 w1 (l.set i Y):=by
 obtain⟨⟨F,h1,h2⟩,h3⟩:=h;obtain⟨G,H,k1,k2,k3,k4⟩:=Star.at_ l i X F h1 hi;refine⟨G,k1,fun k hk=>h2 k (k3 k (.inl hk)),fun Y w1 ⟨G1,hy,ht,hg⟩=>⟨⟨fun k=>G1 k∨H k,k4 Y w1 G1 hy (fun k hk=>ht.block k (h2 k (k3 k (.inr hk))).2 fun hg'=>k2 k hg' hk) fun k hg' hh=>?_,fun k hk=>?_⟩,?_⟩⟩
 ·rcases(hg k hg').1 with h|h
  ·exact k2 k h hh
  ·have:=(h2 k (k3 k (.inr hh))).2;omega
 ·rcases hk with hk|hk
  ·have hlt:=(hg k hk).2;rcases(hg k hk).1 with h|h
   ·exact⟨(h2 k (k3 k (.inl h))).1,hlt⟩
   ·have:=h3.size;exact⟨by omega,hlt⟩
  ·exact⟨(h2 k (k3 k (.inr hk))).1,Nat.lt_of_lt_of_le (h2 k (k3 k (.inr hk))).2 ht.size⟩
 ·exact h3.trans (ht.below _ h3.size fun k hk=>(h2 k (k3 k (.inl hk))).1)
theorem Has.imp (h:Has w0 w l)(i:Nat)(X Y:bW)(hi:l[i]?=some X)(hxy:∀F,X.P w F→Y.P w F):Has w0 w (l.set i Y):=by
 obtain⟨F,h1,h2,h3⟩:=h.get i X hi;exact h3 Y w ⟨F,hxy F h1,Touch.refl _ _,fun k hk=>⟨.inl hk,(h2 k hk).2⟩⟩
theorem Star.add {w:World}{Y:bW}{G:Nat→Prop}(hy:Y.P w G):∀(l:List bW) (F:Nat→Prop),Star l w F→(∀k,G k→F k→False)→Star (l++[Y]) w fun k=>F k∨G k
 |[],F,_,hd=>⟨G,fun _=>False,hy,trivial,fun _ _ h=>h,fun k h=>.inr (h.resolve_right id)⟩
 |X::l,F,⟨G',H,h1,h2,h3,h4⟩,hd=>by
  refine⟨G',fun k=>H k∨G k,h1,Star.add hy l H h2 fun k hg hh=>hd k hg (h4 k (.inr hh)),fun k hg hh=>?_,fun k h=>?_⟩
  ·rcases hh with hh|hh
   ·exact h3 k hg hh
   ·exact hd k hh (h4 k (.inl hg))
  ·rcases h with h|h|h
   ·exact .inl (h4 k (.inl h))
   ·exact .inl (h4 k (.inr h))
   ·exact .inr h
theorem Has.add (h:Has w0 w l)(hb:Below w.heap.size w w1)(Y:bW)(G:Nat→Prop)(hy:Y.P w1 G)(hg:∀k,G k→w.heap.size≤k∧k<w1.heap.size):Has w0 w1 (l++[Y]):=by
 have hs:=h.size;obtain⟨⟨F,h1,h2⟩,h3⟩:=h;refine⟨⟨fun k=>F k∨G k,Star.add hy l F (Star.loc l F h1 fun k hk=>hb.block k (h2 k hk).2) fun k hgk hf=>?_,fun k hk=>?_⟩,ay h3 h3.size hb⟩
 ·have h5:=(hg k hgk).1;have h6:=(h2 k hf).2;omega
 ·rcases hk with hk|hk
  ·exact⟨(h2 k hk).1,Nat.lt_of_lt_of_le (h2 k hk).2 hb.size⟩
  ·have:=hg k hk;exact⟨by omega,this.2⟩
theorem Star.drop {w:World}:∀(i:Nat) (l:List bW) (F:Nat→Prop),Star l w F→Star (l.eraseIdx i) w F
 |_,[],_,_=>trivial
 |0,X::l,F,⟨G,H,h1,h2,h3,h4⟩=>Star.up l H F h2 fun k hk=>h4 k (.inr hk)
 |i+1,X::l,F,⟨G,H,h1,h2,h3,h4⟩=>⟨G,H,h1,Star.drop i l H h2,h3,h4⟩
theorem Has.drop (h:Has w0 w l)(i:Nat):Has w0 w (l.eraseIdx i):=by
 obtain⟨⟨F,h1,h2⟩,h3⟩:=h;exact⟨⟨F,Star.drop i l F h1,h2⟩,h3⟩
end
def aF (b:Nat)(o:Obj):bW:=⟨fun w F=>w.heap[b]?=some o∧F b,fun _ _ _ h hk=>⟨(hk b h.2).trans h.1,h.2⟩⟩
section
variable {w0 w w1:World}{l:List bW}
theorem Has.aZ (h:Has w0 w l)(o:Obj):Has w0 (w.alloc o) (l++[aF w.heap.size o]):=
 h.add (au (Below.refl _ _) o) _ (fun k=>k=w.heap.size) ⟨LQ w o,rfl⟩ fun k e=>by subst e;exact⟨Nat.le_refl _,by simp⟩
theorem Has.blk (h:Has w0 w l)(i:Nat){b:Nat}{o:Obj}(hi:l[i]?=some (aF b o)):w.heap[b]?=some o:=by
 obtain⟨F,h1,_⟩:=h.get i _ hi;exact h1.1
theorem Has.put (h:Has w0 w l)(i:Nat){b:Nat}{cs:Array Value}{T:TypeId}(hi:l[i]?=some (aF b (.cells cs T (0,0))))(k:Nat)(u:Value)(cs':Array Value)(hc:cs.setIfInBounds k u=cs') :
 Has w0 (w.setCell ⟨b,k,none⟩ u) (l.set i (aF b (.cells cs' T (0,0)))):=by
 obtain⟨F,h1,h2,h3⟩:=h.get i _ hi;refine h3 _ _ ⟨F,⟨?_,h1.2⟩,(Touch.lQ (qy w b k u)).mono fun q _ e=>by cases e;exact h1.2,fun k hk=>⟨.inl hk,?_⟩⟩
 ·rw[←hc];exact BK h1.1 k u
 ·rw[show(w.setCell ⟨b,_,none⟩ u).heap.size=w.heap.size by simp[World.setCell]];exact(h2 k hk).2
end
def mQ:bW:=⟨fun _ _=>True,fun _ _ _ h _=>h⟩
theorem Star.LU {w:World}(l:List bW)(i:Nat)(X:bW)(F:Nat→Prop)(h:Star l w F)(hi:l[i]?=some X) :
 ∃G H:Nat→Prop,X.P w G∧Star (l.set i mQ) w H∧(∀k,G k→H k→False)∧∀k,G k∨H k→F k:=by
 obtain⟨G,H,h1,h2,h3,h4⟩:=Star.at_ l i X F h hi;exact⟨G,fun k=>H k,h1,Star.up _ _ _ (h4 mQ w (fun _=>False) trivial (fun _ _=>rfl) fun _ h _=>h) (fun k hk=>hk.resolve_left id),h2,h3⟩
theorem Star.SN {w:World}{Y:bW}{G:Nat→Prop}(hy:Y.P w G):∀(l:List bW) (i:Nat) (Z:bW) (F:Nat→Prop),Star l w F→l[i]?=some Z→(∀k,G k→F k→False)→Star (l.set i Y) w fun k=>G k∨F k
 |[],i,Z,F,_,hi,_=>by simp at hi
 |X::l,0,Z,F,⟨G',H,h1,h2,h3,h4⟩,hi,hd=>⟨G,H,hy,h2,fun k hg hh=>hd k hg (h4 k (.inr hh)),fun k h=>h.imp id fun hh=>h4 k (.inr hh)⟩
 |X::l,i+1,Z,F,⟨G',H,h1,h2,h3,h4⟩,hi,hd=>by
  have:=Star.SN hy l i Z H h2 (by simpa using hi) fun k hg hh=>hd k hg (h4 k (.inr hh));refine⟨G',fun k=>G k∨H k,h1,this,fun k hg hh=>?_,fun k h=>?_⟩
  ·rcases hh with hh|hh
   ·exact hd k hh (h4 k (.inl hg))
   ·exact h3 k hg hh
  ·rcases h with h|h|h
   ·exact .inr (h4 k (.inl h))
   ·exact .inl h
   ·exact .inr (h4 k (.inr h))
section
variable {w0 w:World}{l:List bW}
theorem Has.two (h:Has w0 w l)(i j:Nat)(X Y:bW)(hi:l[i]?=some X)(hj:l[j]?=some Y)(hij:i≠j) :
 ∃R:bW,R=oQ ((l.set i mQ).set j mQ)∧Has w0 w [X,Y,R]∧∀(X' Y':bW) (w1:World),Has w0 w1 [X',Y',R]→Has w0 w1 ((l.set i X').set j Y'):=by
 refine⟨_,rfl,?_,fun X' Y' w1 h1=>?_⟩
 ·obtain⟨⟨F,h1,h2⟩,h3⟩:=h;obtain⟨G,H,g1,g2,g3,g4⟩:=Star.LU l i X F h1 hi;have hj':(l.set i mQ)[j]?=some Y:=by rw[List.getElem?_set_ne hij];exact hj
  obtain⟨G',H',k1,k2,k3,k4⟩:=Star.LU _ j Y H g2 hj';refine⟨⟨F,⟨G,fun k=>G' k∨H' k,g1,⟨G',H',k1,⟨H',fun _=>False,k2,trivial,fun _ _ h=>h,fun k h=>h.elim id False.elim⟩,k3,fun k h=>h⟩,fun k hg hh=>g3 k hg (k4 k hh),fun k h=>g4 k (h.imp id (k4 k))⟩,h2⟩,h3⟩
 ·obtain⟨⟨F,⟨G,H0,g1,⟨G',H1,k1,⟨H2,_,m1,_,_,m4⟩,k3,k4⟩,g3,g4⟩,h2⟩,h3⟩:=h1;have m1':Star ((l.set i mQ).set j mQ) w1 H1:=Star.up _ H2 H1 m1 fun k hk=>m4 k (.inl hk);have hil:i<l.length:=(List.getElem?_eq_some_iff.1 hi).1;have hjl:j<l.length:=(List.getElem?_eq_some_iff.1 hj).1;have a1:=Star.SN k1 _ j mQ H1 m1' (by rw[List.getElem?_set_self (by simpa using hjl)]) k3;rw[List.set_set]at a1;have a2:=Star.SN g1 _ i mQ _ a1 (by rw[List.getElem?_set_ne (fun e=>hij e.symm),List.getElem?_set_self (by simpa using hil)]) fun k hg hh=>g3 k hg (k4 k hh);have e:((l.set i mQ).set j Y').set i X'=(l.set i X').set j Y':=by
   rw[List.set_comm _ _ (fun e=>hij e.symm),List.set_set]
  rw[e]at a2;exact⟨⟨_,a2,fun k hk=>h2 k (g4 k (hk.imp id (k4 k)))⟩,h3⟩
theorem Has.one (h:Has w0 w l)(i:Nat)(X:bW)(hi:l[i]?=some X) :
 ∃R:bW,R=oQ (l.set i mQ)∧Has w0 w [X,R]∧∀(X':bW) (w1:World),Has w0 w1 [X',R]→Has w0 w1 (l.set i X'):=by
 refine⟨_,rfl,?_,fun X' w1 h1=>?_⟩
 ·obtain⟨⟨F,h1,h2⟩,h3⟩:=h;obtain⟨G,H,g1,g2,g3,g4⟩:=Star.LU l i X F h1 hi;exact⟨⟨F,⟨G,H,g1,⟨H,fun _=>False,g2,trivial,fun _ _ h=>h,fun k h=>h.elim id False.elim⟩,g3,g4⟩,h2⟩,h3⟩
 ·obtain⟨⟨F,⟨G,H0,g1,⟨H2,_,m1,_,_,m4⟩,g3,g4⟩,h2⟩,h3⟩:=h1;have hil:i<l.length:=(List.getElem?_eq_some_iff.1 hi).1;have a2:=Star.SN g1 _ i mQ H2 m1 (by rw[List.getElem?_set_self (by simpa using hil)]) fun k hg hh=>g3 k hg (m4 k (.inl hh));rw[List.set_set]at a2;exact⟨⟨_,a2,fun k hk=>h2 k (g4 k (hk.imp id fun hh=>m4 k (.inl hh)))⟩,h3⟩
end
end
section
open Go.RowKit
section
variable {P:Program}
theorem vg {w:World}{g k:Nat}{v:Value}{t:TypeId}{cs:Array Value}{fr:Nat×Nat}(hg:w.heap[g]?=some (.cells cs t fr)):(w.setCell ⟨g,k,none⟩ v).heap[g]?=some (.cells (cs.setIfInBounds k v) t fr):=by
 simp[World.setCell,Array.getElem?_modify,hg]
theorem BM {w:World}{g k:Nat}{v:Value}{t:TypeId}{cs:Array Value}{fr:Nat×Nat}(hg:w.heap[g]?=some (.cells cs t fr))(hc:cs[k]?=some v):w.setCell ⟨g,k,none⟩ v=w:=by
 have h1:cs.setIfInBounds k v=cs:=by
  apply Array.ext_getElem?;intro i;rw[Array.getElem?_setIfInBounds];split
  ·rename_i e
   subst e;split
   ·exact hc.symm
   ·rename_i h2
    rw[Array.getElem?_eq_none (by omega)]at hc;cases hc
  ·rfl
 have hheap:(w.setCell ⟨g,k,none⟩ v).heap=w.heap:=by
  apply Array.ext_getElem?;intro i;by_cases e:g=i
  ·subst e;rw[vg hg,hg,h1]
  ·exact Below.heap_setCell w ⟨g,k,none⟩ v i (fun h=>e h.symm)
 have hrest:w.setCell ⟨g,k,none⟩ v = { w with heap:=(w.setCell ⟨g,k,none⟩ v).heap}:=rfl;rw[hrest,hheap]
theorem oU {w:World}{g:Nat}{t:TypeId}{cs:Array Value}{fr:Nat×Nat}(hg:w.heap[g]?=some (.cells cs t fr)):∀(vs:List Value) (o:Nat),(∀i v,vs[i]?=some v→cs[o+i]?=some v)→w.setCells g o vs=w
 |[],_,_=>rfl
 |v::vs,o,h=>by
  rw[World.setCells,BM hg (by simpa using h 0 v rfl)];exact oU hg vs (o+1) fun i u hu=>by
   have:=h (i+1) u (by simpa using hu);rwa [show o+(i+1)=o+1+i by omega]at this
section
variable {ops:Array Oper}{rest:List Oper}{op:Oper}{a:Act}{w:World}{Q:Exit→Act→World→Prop}
theorem aI (hgd:op.guard=none)(ty:TypeId)(x:Operand)(ho:op.op=.load ty x)(b o:Nat)(hx:a.eval x=.pointer (some ⟨b,o,none⟩))(cs:Array Value)(d:TypeDesc)(hc:w.rangeAt b o cs.toList)
 (hu:P.underlying ty=some d) (hd:d.isRow=true) (hi:(P.info? ty).map (·.size)=some cs.size) (h:wpList P ops Q rest (a.put op.dst (.agg cs)) w):wpList P ops Q (op::rest) a w:=by
 refine wpList_load_mid hgd ty x ho b o hx cs.toList d hc hu hd (by simpa using hi) ?_;simpa using h
theorem aB (N:Nat)(hN:w.heap.size=N)(hgd:op.guard=none)(ty:TypeId)(x y:Operand)(ho:op.op=.store ty x y)(cells:Array Value)(hx:a.eval x=.pointer (some ⟨N,0,none⟩))(hy:a.eval y=.agg cells)
 (t:TypeId) (old:Array Value) (hi:(P.info? ty).map (·.size)=some cells.size) (hold:old.size=cells.size) (h1:cells.all (·.oneCell')=true)
 (h:wpList P ops Q rest (a.put op.dst undef) (w.alloc (.cells cells t))):wpList P ops Q (op::rest) a (w.alloc (.cells old t)):=by
 subst hN;refine wpList_store_row hgd ty x y ho w.heap.size cells hx hy t old (heap_alloc_new w _) hi hold h1 ?_;rw[World.setRow_alloc_new];exact h
theorem kR (hgd:op.guard=none)(ty:TypeId)(x y:Operand)(ho:op.op=.store ty x y)(b o:Nat)(cells:Array Value)(hx:a.eval x=.pointer (some ⟨b,o,none⟩))(hy:a.eval y=.agg cells)
 (t:TypeId) (cs:Array Value) (hg:w.heap[b]?=some (.cells cs t (0,0))) (hs:∀i v,cells.toList[i]?=some v→cs[o+i]?=some v) (hi:(P.info? ty).map (·.size)=some cells.size) (h1:cells.all (·.oneCell')=true)
 (h:wpList P ops Q rest (a.put op.dst undef) w):wpList P ops Q (op::rest) a w:=by
 refine wpList_store_mid hgd ty x y ho b o cells hx hy (fun j hj=>⟨?_,aJ hg _⟩) hi h1 ?_
 ·rw[aj hg,hs j (cells[j]) (by simp[hj])];rfl
 ·rw[oU hg _ _ hs];exact h
theorem aY (hgd:op.guard=none)(ty:TypeId)(x y:Operand)(ho:op.op=.store ty x y)(b:Nat)(cells:Array Value)(hx:a.eval x=.pointer (some ⟨b,0,none⟩))(hy:a.eval y=.agg cells)
 (t:TypeId) (old:Array Value) (hg:w.heap[b]?=some (.cells old t (0,0))) (hi:(P.info? ty).map (·.size)=some cells.size) (hold:old.size=cells.size) (h1:cells.all (·.oneCell')=true)
 (h:wpList P ops Q rest (a.put op.dst undef) (w.setRow b cells)):wpList P ops Q (op::rest) a w :=
 wpList_store_row hgd ty x y ho b cells hx hy t old hg hi hold h1 h
end
theorem eu {fn:Func}{p u:Tmp}{ty:TypeId}{R:Ending→World→Prop}{a:Act}{w:World}(h:fn.results=#[.cell p ty,.tmp u])(hdf:a.defers=[])(g:Nat)(cs:Array Value)(t:TypeId)(fr:Nat×Nat)(d:TypeDesc)
 (hp:a.tmps.getD p undef=.pointer (some ⟨g,0,none⟩)) (hg:w.heap[g]?=some (.cells cs t fr)) (hu:P.underlying ty=some d) (hd:(match d with | .struct _ | .array _ _=>true|_=>false)=true) (hi:(P.info? ty).map (·.size)=some cs.size)
 (hR:R (.returned (.tuple #[.agg cs,a.tmps.getD u undef])) w):bodyPost P fn R .ret a w:=by
 refine bodyPost_ret (v:=.tuple #[.agg cs,a.tmps.getD u undef]) ?_ hdf hR;rw[results_cell_tmp h,hp];simp[asAddr,run_loadVar_row w g t ty cs fr d hg hu hd hi]
theorem aX {w:World}{b:Nat}{t:TypeId}{cs:Array Value}(hg:w.heap[b]?=some (.cells cs t (0,0)))(o:Nat)(l:List Value)(h:∀i v,l[i]?=some v→cs[o+i]?=some v):w.rangeAt b o l:=fun i v hv=>by
 rw[aj hg,h i v hv]
end
structure Spec where
 account:ByteArray
 qos:ByteArray
 size:Nat
 limit:Nat
 gV:Bool
def gW:ByteArray:=⟨#[106]⟩
def aQ:ByteArray:=⟨#[109,97,105,110]⟩
def cZ:ByteArray:=⟨#[]⟩
def Spec.cells (s:Spec):Array Value:=#[.string gW,.string s.account,.string aQ,.string s.qos,.int .i64 s.size,.int .i64 s.limit,.slice none 0 0,.int .i64 0,.bool false,.slice none 0 0,.int .i64 0,.int .i64 0,.bool false,.bool s.gV,.string cZ]
theorem clone_nil (w:World):Calls Tryz.prog 150 #[.slice none 0 0] w fun e w'=>e=.returned (.slice none 0 0)∧w'=w:=by
 have hnil:∀W,(binOp .eql 44 (.slice none 0 0) (.slice none 0 0)).run Tryz.prog W=.ok (.bool true) W:=fun _=>rfl;go_enter Tryz.func150,Tryz.ntmps150;go_wp2_with fail
 go_ret;exact⟨rfl,rfl⟩
theorem rU (s:Spec)(w:World):Calls Tryz.prog 96 #[.agg s.cells] w fun e w'=>e=.returned (.agg s.cells)∧Below w.heap.size w w':=by
 obtain⟨a,q,sz,lim,rq⟩:=s;unfold Spec.cells;simp only;go_enter Tryz.func96,Tryz.ntmps96;go_wp2_with (go_at_call 150;refine(clone_nil _).mono ?_;rintro e w' ⟨rfl,hw⟩;obtain rfl:=hw.symm;clear hw)
 refine wp_loop_rounds 1 ?_;rw[rounds_succ];go_wp2_with fail
 try simp only[Exit.inBlock,Exit.then]
 refine bodyPost_ret (results_cell_row rfl _ _ (w.heap.size+1) 51 _ (0,0) _ (by rfl) (heap_alloc2_new _ _ _) Tryz.underlying51 rfl (by kernel_rfl)) rfl ?_;exact⟨rfl,au (au (Below.refl _ _) _) _⟩
structure J where
 id:Nat
 s:Spec
 how:Int
 since:Int
 started:Int
 runs:Int
 ran:Int
 start:Int
 order:Int
def J.cells (j:J):Array Value:=#[.int .u32 j.id,.int .u32 0,.int .i64 (-1),.string gW,.string j.s.account,.string aQ,.string j.s.qos,.int .i64 j.s.size,.int .i64 j.s.limit,.slice none 0 0,.int .i64 0,.bool false,.slice none 0 0,.int .i64 0,.int .i64 0,.bool false,.bool j.s.gV,.string cZ,.int .i64 0,.int .i64 j.how,.int .i64 j.since,.int .i64 j.started,.int .i64 j.runs,.int .i64 j.ran,.int .i64 j.start,.int .i64 j.order]
theorem EM {w:World}{p g n c:Nat}(id:Nat)(h:w.cell? ⟨p,12,none⟩=some (.slice (some ⟨g,0,none⟩) n c))(h1:1≤id)(h2:id≤n)(hn:n≤1000) :
 Calls Tryz.prog 95 #[.pointer (some ⟨p,0,none⟩),.int .u32 id] w fun e w'=>e=.returned (.pointer (some ⟨g,(id-1)*26,none⟩))∧w'=w:=by
 obtain⟨k,rfl⟩:∃k,id=k+1:=⟨id-1,by omega⟩;have hlt:¬(n:Int)<(k:Int)+1:=by omega
 have hz:((k:Int)+1==0)=false:=by simp;omega
 go_enter Tryz.func95,Tryz.ntmps95;go_wp2_with fail
 go_ret;exact⟨by simp,rfl⟩
theorem uz {w:World}{p n c:Nat}{A:Option Addr}(h:w.cell? ⟨p,12,none⟩=some (.slice A n c)) :
 Calls Tryz.prog 51 #[.pointer (some ⟨p,0,none⟩)] w fun e w'=>e=.returned (.int .i64 n)∧w'=w:=by
 go_enter Tryz.func51,Tryz.ntmps51;go_wp2_with fail
 go_ret;exact⟨rfl,rfl⟩
theorem J.size (j:J):j.cells.size=26:=rfl
theorem J.LV (j:J)(i:Nat)(v:Value)(h:j.s.cells.toList[i]?=some v):j.cells[3+i]?=some v:=by
 have hi:i<15:=(List.getElem?_eq_some_iff.1 h).1;unfold Spec.cells at h;unfold J.cells;rcases(by omega:i=0∨i=1∨i=2∨i=3∨i=4∨i=5∨i=6∨i=7∨i=8∨i=9∨i=10∨i=11∨i=12∨i=13∨i=14)with rfl|rfl|rfl|rfl|rfl|rfl|rfl|rfl|rfl|rfl|rfl|rfl|rfl|rfl|rfl<;>exact h
theorem J.one (j:J):j.cells.all (·.oneCell')=true:=by simp[J.cells,Value.oneCell']
theorem Spec.one (s:Spec):s.cells.all (·.oneCell')=true:=by simp[Spec.cells,Value.oneCell']
theorem eP (j:J):(Tryz.prog.info? 55).map (·.size)=some j.cells.size:=by rw[J.size];kernel_rfl
theorem uD (s:Spec):(Tryz.prog.info? 51).map (·.size)=some s.cells.size:=by rw[show s.cells.size=15 from rfl];kernel_rfl
theorem nG {w:World}{p g n c:Nat}(id:Nat)(j:J)(h:w.cell? ⟨p,12,none⟩=some (.slice (some ⟨g,0,none⟩) n c))(h1:1≤id)(h2:id≤n)(hn:n≤1000)(hj:w.rangeAt g ((id-1)*26) j.cells.toList) :
 Calls Tryz.prog 54 #[.pointer (some ⟨p,0,none⟩),.int .u32 id] w fun e w'=>e=.returned (.tuple #[.agg j.cells,.bool true])∧Below w.heap.size w w':=by
 obtain⟨k,rfl⟩:∃k,id=k+1:=⟨id-1,by omega⟩;simp only[Nat.add_sub_cancel]at hj;have HC:ah (∀o,(w.alloc o).cell? ⟨p,12,none⟩=some (.slice (some ⟨g,0,none⟩) n c)):=ah.mk fun o=>ak (au (Below.refl _ _) o) h;have HL:ah (∀o,(w.alloc o).rangeAt g (k*26) j.cells.toList):=ah.mk fun o i v hv=>ak (au (Below.refl _ _) o) (hj i v hv);clear hj h;go_enter Tryz.func54,Tryz.ntmps54;go_wp2_with (first|(have _t:=H3.out;clear _t;refine aY rfl 55 (.tmp 4) (.tmp 25) rfl w.heap.size j.cells rfl rfl 55 _ ((H3.out.block _ (by simp;omega)).trans ((heap_alloc_old _ _ (by simp)).trans (heap_alloc_new w _))) (eP j) rfl j.one ?_)|(have _t:=H3.out;clear _t;refine aI rfl 55 (.tmp 6) rfl (w.heap.size+1) 0 rfl j.cells _ (aX ((H3.out.block _ (by simp)).trans (heap_alloc2_new w _ _)) 0 _ (fun i v hv=>by simpa using hv)) Tryz.underlying55 rfl (eP j) ?_)|(have _t:=H3.out;clear _t;refine kR rfl 51 (.tmp 24) (.tmp 23) rfl (w.heap.size+1) 3 j.s.cells rfl rfl 55 j.cells ((H3.out.block _ (by simp)).trans (heap_alloc2_new w _ _)) j.LV (uD j.s) j.s.one ?_)|(go_at_call 96;refine(rU j.s _).mono ?_;rintro e w3 ⟨rfl,hb⟩;have H3:=ah.mk hb;clear hb)|(refine aI rfl 51 (.tmp 21) rfl (w.heap.size+1) 3 rfl j.s.cells _ (aX (heap_alloc2_new w _ _) 3 _ j.LV) Tryz.underlying51 rfl (uD j.s) ?_)|(refine aB (w.heap.size+1) (by simp) rfl 55 (.tmp 6) (.tmp 20) rfl j.cells rfl rfl 55 _ (eP j) rfl j.one ?_)|(refine aI rfl 55 (.tmp 19) rfl g (k*26) rfl j.cells _ (HL.out _) Tryz.underlying55 rfl (eP j) ?_)|(go_at_call 95;refine(EM (k+1) (HC.out _) h1 h2 hn).mono ?_;rintro e w' ⟨rfl,hw⟩;obtain rfl:=hw.symm;clear hw))
 try simp only[Exit.inBlock,Exit.then]
 have hg3:=((H3.out.block w.heap.size (by simp;omega)).trans ((heap_alloc_old _ _ (by simp)).trans (heap_alloc_new w _)));have hr:=setRow_heap w3 w.heap.size _ j.cells 55 (0,0) hg3;exact eu rfl rfl w.heap.size j.cells 55 (0,0) _ rfl hr Tryz.underlying55 rfl (eP j) ⟨rfl,below_setRow (ay (au (au (Below.refl _ _) _) _) (by simp;omega) H3.out) (Nat.le_refl _) _⟩
end
section
open Go.RowKit
def rowA (e:TypeId)(sz:Nat)(v:Value)(n:Nat)(xs:List Value):bW :=
 ⟨fun w F=>w.ownsRow 0 e sz v n xs∧∀k,v.ownBlock=some k→F k,fun _ _ _ h hk=>⟨EL h.1 fun k e=>hk k (h.2 k e),h.2⟩⟩
theorem flat_get {α:Type}{sz:Nat}{enc:α→List Value}(hs:∀x,(enc x).length=sz):∀(l:List α) (k:Nat) (x:α),l[k]?=some x→∀f,f<sz→(l.flatMap enc)[k*sz+f]?=(enc x)[f]?
 |[],k,x,h,f,hf=>by simp at h
 |y::l,0,x,h,f,hf=>by
  simp at h;subst h;rw[List.flatMap_cons,List.getElem?_append_left (by rw[hs];omega)];simp
 |y::l,k+1,x,h,f,hf=>by
  rw[List.flatMap_cons,List.getElem?_append_right (by rw[hs,Nat.add_mul];omega),hs,show(k+1)*sz+f-sz=k*sz+f by rw[Nat.add_mul];omega];exact flat_get hs l k x (by simpa using h) f hf
theorem kH {α:Type}{sz:Nat}{enc:α→List Value}(hs:∀x,(enc x).length=sz):∀l:List α,(l.flatMap enc).length=l.length*sz
 |[]=>by simp
 |x::l=>by rw[List.flatMap_cons,List.length_append,hs,kH hs l,List.length_cons,Nat.add_mul];omega
theorem xu {α:Type}{sz:Nat}{enc:α→List Value}(hs:∀x,(enc x).length=sz):∀(l:List α) (k:Nat) (x x':α) (f:Nat) (u:Value),l[k]?=some x→f<sz→(enc x).set f u=enc x'→(l.flatMap enc).set (k*sz+f) u=(l.set k x').flatMap enc
 |[],k,x,x',f,u,h,hf,he=>by simp at h
 |y::l,0,x,x',f,u,h,hf,he=>by
  simp at h;subst h;rw[List.flatMap_cons,List.set_append_left _ _ (by rw[hs];omega),Nat.zero_mul,Nat.zero_add,he];simp
 |y::l,k+1,x,x',f,u,h,hf,he=>by
  rw[List.flatMap_cons,List.set_append_right _ _ (by rw[hs,Nat.add_mul];omega),hs,show(k+1)*sz+f-sz=k*sz+f by rw[Nat.add_mul];omega];rw[xu hs l k x x' f u (by simpa using h) hf he];simp
theorem J.EN (j:J):j.cells.toList.length=26:=rfl
def qU (js:List J):List Value:=js.flatMap fun j=>j.cells.toList
def aS (v:Value)(js:List J):bW:=rowA 55 26 v js.length (qU js)
section
variable {w0 w:World}{L:List bW}
theorem Has.row (H:Has w0 w L)(i:Nat){e:TypeId}{sz n:Nat}{v:Value}{xs:List Value}(hi:L[i]?=some (rowA e sz v n xs)):w.ownsRow 0 e sz v n xs:=by
 obtain⟨F,h,_⟩:=H.get i _ hi;exact h.1
theorem dN (H:Has w0 w L)(i:Nat){v:Value}{js:List J}(hi:L[i]?=some (aS v js))(k:Nat)(j:J)(hk:js[k]?=some j) :
 ∃g c,v=.slice (some ⟨g,0,none⟩) js.length c∧w.rangeAt g (k*26) j.cells.toList∧∀f,w.frozen? ⟨g,f,none⟩=false:=by
 have hkl:=(List.getElem?_eq_some_iff.1 hk).1;rcases(H.row i hi).2 with⟨_,h0⟩|⟨g,cap,cur,hv,_,hh,_,_,hs,ht⟩
 ·omega
 ·refine⟨g,cap,hv,fun f u hu=>?_,fun f=>aJ hh f⟩;have hf:f<26:=by have:=(List.getElem?_eq_some_iff.1 hu).1;rwa [J.EN]at this
  rw[aj hh,←Array.getElem?_toList];have h1:(qU js)[k*26+f]?=some u:=by
   unfold qU;rw[flat_get J.EN js k j hk f hf];exact hu
  have hlt:k*26+f<js.length*26:=by
   have : (k+1)*26≤js.length*26:=Nat.mul_le_mul_right _ hkl;omega
  rw[←ht,List.getElem?_take_of_lt hlt]at h1;exact h1
theorem iW (H:Has w0 w L)(i:Nat){v:Value}{js:List J}(hi:L[i]?=some (aS v js)):∃A c,v=.slice A js.length c:=jD (H.row i hi)
theorem fE (H:Has w0 w L)(i:Nat){g c n:Nat}{js:List J}(hi:L[i]?=some (aS (.slice (some ⟨g,0,none⟩) n c) js))(k:Nat)(j j':J)(hk:js[k]?=some j)(f:Nat)(hf:f<26)(u:Value)(he:j.cells.toList.set f u=j'.cells.toList) :
 Has w0 (w.setCell ⟨g,k*26+f,none⟩ u) (L.set i (aS (.slice (some ⟨g,0,none⟩) n c) (js.set k j'))):=by
 obtain⟨F,⟨h1,h2⟩,h3,hgo⟩:=H.get i _ hi;have hF:F g:=h2 g rfl;refine hgo _ _ ⟨F,⟨⟨?_,?_⟩,h2⟩,(Touch.lQ (qy w g (k*26+f) u)).mono fun q _ e=>by cases e;exact hF,fun q hq=>⟨.inl hq,?_⟩⟩
 ·unfold qU;rw[kH J.EN]
 ·rcases h1.2 with⟨h0,_⟩|⟨g',cap,cur,hv,hb,hh,hn,hc,hs,ht⟩
  ·cases h0
  ·injection hv with e1 e2 e3;injection e1 with e1;injection e1 with e1;subst e1;refine .inr ⟨g,cap,cur.setIfInBounds (k*26+f) u,by rw[e3,List.length_set,e2],hb,BK hh _ _,by simpa using hn,hc,by simpa using hs,?_⟩;rw[List.length_set,Array.toList_setIfInBounds,List.take_set,ht];unfold qU;exact xu J.EN js k j j' f u hk hf he
 ·rw[show(w.setCell ⟨g,_,none⟩ u).heap.size=w.heap.size by simp[World.setCell]];exact(h3 q hq).2
end
end
section
open Go.RowKit
section
variable {w0 w:World}{L:List bW}
theorem dh {w:World}{g o:Nat}{j:J}(h:w.rangeAt g o j.cells.toList)(f:Nat)(u:Value)(hu:j.cells.toList[f]?=some u):w.cell? ⟨g,o+f,none⟩=some u:=h f u hu
theorem max_le {a b m:Int}(h:m=if a<b then b else a)(W:World):(Builtin.max_ #[3,3] 3 #[.int .i64 a,.int .i64 b]).run Tryz.prog W=.ok (.int .i64 m) W:=by
 subst h;by_cases hh:a<b
 ·rw[if_pos hh];simp[Builtin.max_,Builtin.max2,hh]
 ·rw[if_neg hh];simp[Builtin.max_,Builtin.max2,hh]
theorem Iw {g o:Nat}(j:J)(now:Int)(h:w.rangeAt g o j.cells.toList)(h1:j.since≤now)(h2:j.started≤now)(h3:now≤1099511627776) :
 Calls Tryz.prog 114 #[.pointer (some ⟨g,o,none⟩),.int .i64 now] w fun e w'=>e=.returned (.bool false)∧∃q,w'=w.drewN q:=by
 have c20:=dh h 20 _ rfl;have c21:=dh h 21 _ rfl;obtain⟨m,hm⟩:∃m,m=if j.since<j.started then j.started else j.since:=⟨_,rfl⟩
 have hmax:=fun W=>max_le hm W;have hlt:¬now<m:=by rw[hm];split<;>omega
 have h4:¬(1099511627776:Int)<now:=by omega
 clear hm h h1 h2;go_enter Tryz.func114,Tryz.ntmps114;go_wp2_with fail
 go_quiet (fail)
 go_wp2_with fail
 go_ret;exact⟨by simp[hlt,h4],_,rfl⟩
theorem jU {g o:Nat}(j:J)(now:Int)(h:w.rangeAt g o j.cells.toList)(h1:j.since≤now)(h2:j.started≤now)(h3:now≤1099511627776) :
 Calls Tryz.prog 114 #[.pointer (some ⟨g,o,none⟩),.int .i64 now] w fun e w'=>e=.returned (.bool false)∧fC w w' :=
 (Iw j now h h1 h2 h3).mono fun e w' ⟨he,q,hq⟩=>⟨he,hq▸(fC.refl _).step q⟩
theorem xw (H0:Has w0 w L)(i:Nat){g c n:Nat}{js:List J}(hi:L[i]?=some (aS (.slice (some ⟨g,0,none⟩) n c) js))(k:Nat)(j:J)(hk:js[k]?=some j)(now:Int) :
 Calls Tryz.prog 65 #[.pointer (some ⟨g,k*26,none⟩),.int .i64 now] w fun e w'=>e=.returned (.tuple #[])∧Has w0 w' (L.set i (aS (.slice (some ⟨g,0,none⟩) n c) (js.set k { j with since:=now}))):=by
 obtain⟨g',c',hv,hr,hfz⟩:=dN H0 i hi k j hk;injection hv with e1 e2 e3;injection e1 with e1;injection e1 with e1;subst e1;subst e2 e3;have c20:=dh hr 20 _ rfl;have f20:=hfz (k*26+20);have HS:=ah.mk (fE H0 i hi k j { j with since:=now} hk 20 (by omega) (.int .i64 now) rfl);clear hr hfz H0;go_enter Tryz.func65,Tryz.ntmps65;go_wp2_with fail
 first|go_end0|skip
 exact⟨rfl,HS.out⟩
theorem zn (H0:Has w0 w L)(i:Nat){g c n:Nat}{js:List J}(hi:L[i]?=some (aS (.slice (some ⟨g,0,none⟩) n c) js))(k:Nat)(j:J)(hk:js[k]?=some j)(now:Int) :
 Calls Tryz.prog 212 #[.pointer (some ⟨g,k*26,none⟩),.int .i64 now] w fun e w'=>e=.returned (.tuple #[])∧Has w0 w' (L.set i (aS (.slice (some ⟨g,0,none⟩) n c) (js.set k { j with started:=now}))):=by
 obtain⟨g',c',hv,hr,hfz⟩:=dN H0 i hi k j hk;injection hv with e1 e2 e3;injection e1 with e1;injection e1 with e1;subst e1;subst e2 e3;have cf:=dh hr 21 _ rfl;have ff:=hfz (k*26+21);have HS:=ah.mk (fE H0 i hi k j { j with started:=now} hk 21 (by omega) (.int .i64 now) rfl);clear hr hfz H0;go_enter Tryz.func212,Tryz.ntmps212;go_wp2_with fail
 first|go_end0|skip
 exact⟨rfl,HS.out⟩
def J.till (j:J)(now:Int):J:=if j.how=3 then { j with ran:=j.ran+(now-j.started)} else j
theorem Nq (H0:Has w0 w L)(i:Nat){g c n:Nat}{js:List J}(hi:L[i]?=some (aS (.slice (some ⟨g,0,none⟩) n c) js))(k:Nat)(j:J)(hk:js[k]?=some j)(now:Int)
 (h1:0≤j.started) (h2:j.started≤now) (h3:now≤1099511627776) (h4:0≤j.ran) (h5:j.ran≤1099511627776) :
 Calls Tryz.prog 116 #[.pointer (some ⟨g,k*26,none⟩),.int .i64 now] w fun e w'=>e=.returned (.tuple #[])∧Has w0 w' (L.set i (aS (.slice (some ⟨g,0,none⟩) n c) (js.set k (j.till now)))):=by
 obtain⟨g',c',hv,hr,hfz⟩:=dN H0 i hi k j hk;injection hv with e1 e2 e3;injection e1 with e1;injection e1 with e1;subst e1;subst e2 e3;have c19:=dh hr 19 _ rfl;have c21:=dh hr 21 _ rfl;have c23:=dh hr 23 _ rfl;have f23:=hfz (k*26+23);obtain⟨how,iE⟩:∃how,how=j.how:=⟨_,rfl⟩;obtain⟨st,hst⟩:∃st,st=j.started:=⟨_,rfl⟩;obtain⟨rn,hrn⟩:∃rn,rn=j.ran:=⟨_,rfl⟩;rw[←iE]at c19;rw[←hst]at c21 h1 h2;rw[←hrn]at c23 h4 h5;by_cases h:how=3
 ·have HS:=ah.mk (fE H0 i hi k j (j.till now) hk 23 (by omega) (.int .i64 (rn+(now-st))) (by unfold J.till;rw[if_pos (by rw[←iE];exact h),hrn,hst];rfl));subst h;clear hr hfz H0 iE hst hrn;go_enter Tryz.func116,Tryz.ntmps116;go_wp2_with fail
  go_still_tail 13,(by kernel_rfl)
  change wpList _ _ _ _ _ (World.drew w);go_wp2_with fail
  first|go_end0|skip
  exact⟨rfl,HS.out.drew⟩
 ·have HS:ah (Has w0 w (L.set i (aS (.slice (some ⟨g,0,none⟩) js.length c) (js.set k (j.till now))))):=ah.mk (by
   unfold J.till;rw[if_neg (by rw[←iE];exact h),show js.set k j=js from ?_,show L.set i _=L from ?_]
   ·exact H0
   ·exact List.ext_getElem? fun q=>by
     rw[List.getElem?_set];split
     ·rename_i e;subst e;split
      ·exact hi.symm
      ·rename_i h2;rw[List.getElem?_eq_none (by omega)]at hi;cases hi
     ·rfl
   ·exact List.ext_getElem? fun q=>by
     rw[List.getElem?_set];split
     ·rename_i e;subst e;split
      ·exact hk.symm
      ·rename_i h2;rw[List.getElem?_eq_none (by omega)]at hk;cases hk
     ·rfl)
  have hz:(how==3)=false:=by simpa using h
  clear hr hfz H0 iE hst hrn h;go_enter Tryz.func116,Tryz.ntmps116;go_wp2_with fail
  first|go_end0|skip
  exact⟨rfl,HS.out⟩
theorem aN {α:Type}{l:List α}{i:Nat}{x y:α}(h:l[i]?=some x):(l.set i y)[i]?=some y:=by
 rw[List.getElem?_set_self (List.getElem?_eq_some_iff.1 h).1]
def J.back (j:J)(now:Int):J:={ j with since:=now,ran:=0,start:=0,order:=0}
theorem xA (H0:Has w0 w L)(i:Nat){g c n:Nat}{js:List J}(hi:L[i]?=some (aS (.slice (some ⟨g,0,none⟩) n c) js))(k:Nat)(j:J)(hk:js[k]?=some j)(now:Int) :
 Calls Tryz.prog 117 #[.pointer (some ⟨g,k*26,none⟩),.int .i64 now] w fun e w'=>e=.returned (.tuple #[])∧Has w0 w' (L.set i (aS (.slice (some ⟨g,0,none⟩) n c) (js.set k (j.back now)))):=by
 obtain⟨g',c',hv,hr,hfz⟩:=dN H0 i hi k j hk;injection hv with e1 e2 e3;injection e1 with e1;injection e1 with e1;subst e1;subst e2 e3;have c20:=dh hr 20 _ rfl;have c23:=dh hr 23 _ rfl;have c24:=dh hr 24 _ rfl;have c25:=dh hr 25 _ rfl;have f20:=hfz (k*26+20);have f23:=hfz (k*26+23);have f24:=hfz (k*26+24);have f25:=hfz (k*26+25);have S1:=fE H0 i hi k j { j with since:=now} hk 20 (by omega) (.int .i64 now) rfl;have S2:=fE S1 i (aN hi) k _ { j with since:=now,ran:=0} (aN hk) 23 (by omega) (.int .i64 0) rfl;have S3:=fE S2 i (aN (aN hi)) k _ { j with since:=now,ran:=0,start:=0} (aN (aN hk)) 24 (by omega) (.int .i64 0) rfl;have S4:=fE S3 i (aN (aN (aN hi))) k _ (j.back now) (aN (aN (aN hk))) 25 (by omega) (.int .i64 0) rfl;simp only[List.set_set]at S4;have HS:=ah.mk S4;clear hr hfz H0 S1 S2 S3 S4;go_enter Tryz.func117,Tryz.ntmps117;go_wp2_with fail
 first|go_end0|skip
 exact⟨rfl,HS.out⟩
def J.go (j:J)(now s o:Int):J:={ j with started:=now,ran:=0,start:=s,order:=o,runs:=j.runs+1}
theorem BO (H0:Has w0 w L)(i:Nat){g c n:Nat}{js:List J}(hi:L[i]?=some (aS (.slice (some ⟨g,0,none⟩) n c) js))(k:Nat)(j:J)(hk:js[k]?=some j)(now s o:Int)(b:Nat)(hb0:w.cell? ⟨b,0,none⟩=some (.int .i64 s))(hb1:w.cell? ⟨b,1,none⟩=some (.int .i64 o))(h1:0≤j.runs)(h2:j.runs≤1000) :
 Calls Tryz.prog 205 #[.pointer (some ⟨g,k*26,none⟩),.int .i64 now,.pointer (some ⟨b,0,none⟩)] w fun e w'=>e=.returned (.tuple #[])∧Has w0 w' (L.set i (aS (.slice (some ⟨g,0,none⟩) n c) (js.set k (j.go now s o)))):=by
 obtain⟨g',c',hv,hr,hfz⟩:=dN H0 i hi k j hk;injection hv with e1 e2 e3;injection e1 with e1;injection e1 with e1;subst e1;subst e2 e3;have c21:=dh hr 21 _ rfl;have Yx:=dh hr 22 _ rfl;have c23:=dh hr 23 _ rfl;have c24:=dh hr 24 _ rfl;have c25:=dh hr 25 _ rfl;have f21:=hfz (k*26+21);have f22:=hfz (k*26+22);have f23:=hfz (k*26+23);have f24:=hfz (k*26+24);have f25:=hfz (k*26+25);obtain⟨rn,hrn⟩:∃rn,rn=j.runs:=⟨_,rfl⟩;rw[←hrn]at Yx h1 h2;have S1:=fE H0 i hi k j { j with started:=now} hk 21 (by omega) (.int .i64 now) rfl;have S2:=fE S1 i (aN hi) k _ { j with started:=now,ran:=0} (aN hk) 23 (by omega) (.int .i64 0) rfl;have S3:=fE S2 i (aN (aN hi)) k _ { j with started:=now,ran:=0,start:=s} (aN (aN hk)) 24 (by omega) (.int .i64 s) rfl;have S4:=fE S3 i (aN (aN (aN hi))) k _ { j with started:=now,ran:=0,start:=s,order:=o} (aN (aN (aN hk))) 25 (by omega) (.int .i64 o) rfl;have S5:=fE S4 i (aN (aN (aN (aN hi)))) k _ (j.go now s o) (aN (aN (aN (aN hk)))) 22 (by omega) (.int .i64 (rn+1)) (by rw[hrn];rfl);simp only[List.set_set]at S5;have HS:=ah.mk S5;clear hr hfz H0 S1 S2 S3 S4 S5 hrn;go_enter Tryz.func205,Tryz.ntmps205;go_wp2_with fail
 go_region
 all_goals
  go_wp2_with fail
  first|go_end0|skip
  exact⟨rfl,HS.out.drewN _⟩
end
end
end Go.Proofs.YtandhagfhppgaaaGreatDoor
