/- Part 42 of a proof: contracts of the functions that the law reaches. No condition. -/
import Derived.Shelf.LaysM
import Derived.Shelf.Strings.OnBuilder
import Derived.Test.YtandhagfhppgaaaGreatDoorS5
import Derived.Test.YtandhagfhppgaaaGreatDoorS8
import Derived.Test.YtandhagfhppgaaaGreatDoorS9
import Derived.Test.YtandhagfhppgaaaGreatDoorS10
import Derived.Test.YtandhagfhppgaaaGreatDoorS12
import Derived.Test.YtandhagfhppgaaaGreatDoorS17
import Derived.Test.YtandhagfhppgaaaGreatDoorS18
import Derived.Test.YtandhagfhppgaaaGreatDoorS28
import Derived.Test.YtandhagfhppgaaaGreatDoorS35
set_option linter.all false
set_option maxRecDepth 100000
set_option maxHeartbeats 16000000
section
namespace Go.Proofs
open Go.Shelf
def Tryz.lays156_ren:Go.Shelf.Ren:=⟨fun | 156=>62|165=>109|166=>110|169=>111|240=>174|241=>175|276=>227|277=>228|n=>n,fun | 31=>106|9=>9|3=>3|4=>4|0=>0|20=>20|72=>189|76=>193|70=>187|37=>118|75=>192|127=>257|164=>310|5=>5|80=>99|n=>n,fun | n=>n⟩
theorem Tryz.lays156:Go.Proofs.Lays.n156 Tryz.prog Tryz.lays156_ren:={
 mixed:=by kernel_rfl
 f156:=Tryz.func62.trans (congrArg some (by kernel_rfl))
 f165:=Tryz.func109.trans (congrArg some (by kernel_rfl))
 f166:=Tryz.func110.trans (congrArg some (by kernel_rfl))
 f169:=Tryz.func111.trans (congrArg some (by kernel_rfl))
 f240:=Tryz.func174.trans (congrArg some (by kernel_rfl))
 f241:=Tryz.func175.trans (congrArg some (by kernel_rfl))
 f276:=Tryz.func227.trans (congrArg some (by kernel_rfl))
 f277:=Tryz.func228.trans (congrArg some (by kernel_rfl))
 t0:=Tryz.underlying0
 a0:=Tryz.isAgg0
 z0:=Tryz.sizeOf0
 v0:=Tryz.zeroValue0
 t3:=Tryz.underlying3
 a3:=Tryz.isAgg3
 z3:=Tryz.sizeOf3
 v3:=Tryz.zeroValue3
 t4:=Tryz.underlying4
 a4:=Tryz.isAgg4
 z4:=Tryz.sizeOf4
 v4:=Tryz.zeroValue4
 t9:=Tryz.underlying9
 a9:=Tryz.isAgg9
 z9:=Tryz.sizeOf9
 v9:=Tryz.zeroValue9
 t20:=Tryz.underlying20
 a20:=Tryz.isAgg20
 z20:=Tryz.sizeOf20
 v20:=Tryz.zeroValue20
 t31:=Tryz.underlying106
 a31:=Tryz.isAgg106
 z31:=Tryz.sizeOf106
 v31:=Tryz.zeroValue106
 t37:=Tryz.underlying118
 a37:=Tryz.isAgg118
 z37:=Tryz.sizeOf118
 v37:=Tryz.zeroValue118
 t70:=Tryz.underlying187
 a70:=Tryz.isAgg187
 z70:=Tryz.sizeOf187
 v70:=Tryz.zeroValue187
 t72:=Tryz.underlying189
 a72:=Tryz.isAgg189
 z72:=Tryz.sizeOf189
 v72:=Tryz.zeroValue189
 t75:=Tryz.underlying192
 a75:=Tryz.isAgg192
 z75:=Tryz.sizeOf192
 v75:=Tryz.zeroValue192
 t76:=Tryz.underlying193
 a76:=Tryz.isAgg193
 z76:=Tryz.sizeOf193
 v76:=Tryz.zeroValue193
 t127:=Tryz.underlying257
 a127:=Tryz.isAgg257
 z127:=Tryz.sizeOf257
 v127:=Tryz.zeroValue257
 t164:=Tryz.underlying310
 a164:=Tryz.isAgg310
 z164:=Tryz.sizeOf310
 v164:=Tryz.zeroValue310}
theorem Tryz.Builder_Extra_156:Builder.Extra Tryz.prog Tryz.lays156_ren:={
 sizeBuilder:=by kernel_rfl
 liesBuilder:=by kernel_rfl
 t5:=Tryz.underlying5
 a5:=Tryz.isAgg5
 z5:=Tryz.sizeOf5
 v5:=Tryz.zeroValue5
 infoByte:=by kernel_rfl
 cellsByte:=by kernel_rfl
 sizeByte:=by kernel_rfl
 neB5:=by decide}
open Go.RowKit in
theorem Tryz.strings_Join (bk o c:Nat)(xs:List ByteArray)(sep:ByteArray)(w:World)(hcells:∀(j:Nat) x,xs[j]?=some x→w.cell? ⟨bk,o+j,none⟩=some (.string x))(hbk:bk<w.heap.size)(hN:xs.length≤140737488355328)(hcap:xs.length≤c)(hlen:(Lib.join (xs.map (·.data.toList)) sep.data.toList).length≤140737488355328) :
 Calls Tryz.prog 62 #[.slice (some ⟨bk,o,none⟩) xs.length c,.string sep] w fun e w'=>e=.returned (.string ⟨(Lib.join (xs.map (·.data.toList)) sep.data.toList).toArray⟩)∧Below w.heap.size w w':=Any.strings_Join Tryz.lays156 Tryz.Builder_Extra_156 bk o c xs sep w hcells hbk hN hcap hlen
end Go.Proofs
end
namespace Go.Proofs.YtandhagfhppgaaaGreatDoor
section
open Go.RowKit Go.ChangeMaps
abbrev Tab (w:World):Prop:=Lib.TabIs Tryz.prog w "internal/strconv.uint64pow10" .u64 Lib.pow10Tab
def iO (r:Int):ByteArray:=if r=0 then⟨#[111,107]⟩else⟨#[101,114,114,111,114,32]⟩++⟨(Lib.itoa r).toArray⟩
theorem MZ:∀(k u:Nat),u<10^(k+1)→(Lib.decDigits u).length≤k+1
 |0,u,h=>by
  rw[Lib.decDigits,dif_pos (by simpa using h)];simp
 |k+1,u,h=>by
  rw[Lib.decDigits];split
  ·simp
  ·have:=MZ k (u/10) (by rw[Nat.pow_succ]at h;omega);rw[List.length_append];simp;omega
theorem Gw {r:Int}(h:code r):(Lib.itoa r).length≤4:=by
 obtain⟨n,rfl⟩:∃n:Nat,r=n:=⟨r.toNat,by have:=h.1;omega⟩;have h2:=h.2;unfold Lib.itoa;rw[if_neg (by omega)];exact MZ 3 _ (by simp;omega)
section
variable {w:World}
set_option maxRecDepth 1000000 in
theorem dQ (r:Int)(hr:code r)(T:Tab w):Calls Tryz.prog 27 #[.int .i64 r] w fun e w'=>e=.returned (.string (iO r))∧Below w.heap.size w w':=by
 refine named fun R HQ=>?_;have IT:=ah.mk (Tryz.strconv_Itoa r (by have:=hr.1;omega) (by have:=hr.2;omega) w T);have h0:r=0∨(r != 0)=true:=by by_cases h:r=0<;>simp[h]
 have hl:=Gw hr;have hl2:¬9223372036854775807<6+(Lib.itoa r).length:=by omega
 clear T hr;rcases h0 with rfl|h0
 ·go_enter Tryz.func27,Tryz.ntmps27;go_wp2_with fail
  first|go_ret2|go_ret|skip
  rw[←HQ.out];exact⟨rfl,Below.refl _ _⟩
 ·go_enter Tryz.func27,Tryz.ntmps27;go_wp2_with (go_at_call 57;refine IT.out.mono ?_;rintro e w2 ⟨rfl,k,os,hw⟩;have H2:=ah.mk hw;clear hw)
  first|go_ret2|go_ret|skip
  rw[←HQ.out];have hn:¬r=0:=by simpa using h0
  refine⟨by rw[iO,if_neg hn];rfl,?_⟩;rw[H2.out];exact⟨rfl,rfl,rfl,by show w.heap.size≤(w.heap++os).size;rw[Array.size_append];omega,fun j hj=>Array.getElem?_append_left hj⟩
end
end
section
open Go.RowKit Go.ChangeMaps
def mY (n:Int):ByteArray:=⟨(Lib.itoa n).toArray⟩
def Gx (xs:List ByteArray):ByteArray:=⟨(Lib.join (xs.map (·.data.toList)) (⟨#[32]⟩:ByteArray).data.toList).toArray⟩
theorem iC {n:Int}(h0:0≤n)(h1:n≤9223372036854775807):(mY n).size≤21:=Lib.itoa_length_le n (by omega) h1
theorem DF (l:List ByteArray):(Lib.joinTail [32] (l.map (·.data.toList))).length=(l.map (·.size)).sum+l.length:=by
 unfold Lib.joinTail;induction l with
 |nil=>rfl
 |cons x l ih =>
  simp only[List.map_cons,List.flatten_cons,List.length_append,List.length_cons,List.length_nil,List.sum_cons]at ih ⊢;rw[ih];have : x.data.toList.length=x.size:=rfl;omega
theorem Bh (x:ByteArray)(l:List ByteArray):(Lib.join ((x::l).map (·.data.toList)) [32]).length=x.size+(l.map (·.size)).sum+l.length:=by
 rw[List.map_cons,Lib.join_cons,List.length_append,DF];have : x.data.toList.length=x.size:=rfl;omega
theorem yO (x:ByteArray)(l:List ByteArray):(Gx (x::l)).size=x.size+(l.map (·.size)).sum+l.length:=Bh x l
def yP (how:Int):ByteArray:=if how=0 then⟨#[114,101,113,117,101,117,101,100]⟩else if how=5 then⟨#[100,111,110,101]⟩else if how=6 then⟨#[102,97,105,108,101,100]⟩else if how=7 then⟨#[99,97,110,99,101,108,108,101,100]⟩else⟨#[108,97,116,101]⟩
theorem vY (how:Int):(yP how).size≤9:=by
 unfold yP;split;exact Nat.le_of_ble_eq_true rfl
 split;exact Nat.le_of_ble_eq_true rfl
 split;exact Nat.le_of_ble_eq_true rfl
 split;exact Nat.le_of_ble_eq_true rfl
 exact Nat.le_of_ble_eq_true rfl
theorem OD {how:Int}(h:how=0∨how=5∨how=6∨how=7∨how=8)(W:World):(Instr.index 196 (.agg CS) (.int .i64 how)).run Tryz.prog W=.ok (.string (yP how)) W:=by
 rcases h with rfl|rfl|rfl|rfl|rfl<;>kernel_rfl
def QW (c:Ch):ByteArray:=(mY (c.workers:Int)++⟨#[120]⟩)++mY c.seconds
def iD (c:Ch):ByteArray:=Gx [mY (c.id:Int),c.account,QW c,yP c.how,mY c.at_]
section
variable {w:World}
theorem kC (n:Int)(h0:0≤n)(h1:n≤9223372036854775807)(T:Tab w):Calls Tryz.prog 57 #[.int .i64 n] w fun e w'=>e=.returned (.string (mY n))∧Below w.heap.size w w' :=
 (Tryz.strconv_Itoa n (by omega) h1 w T).mono fun e w' ⟨he,q,os,hw⟩=>⟨he,by rw[hw];exact⟨rfl,rfl,rfl,by show w.heap.size≤(w.heap++os).size;rw[Array.size_append];omega,fun j hj=>Array.getElem?_append_left hj⟩⟩
set_option maxRecDepth 1000000 in
theorem Gy (c:Ch)(now:Int)(hc:c.ok now)(hn:now≤1000000)(TT:∀W,Below w.heap.size w W→Tab W):Calls Tryz.prog 63 #[.agg c.cells] w fun e w'=>e=.returned (.tuple #[.string (iD c),.int .i64 0])∧Below w.heap.size w w':=by
 refine named fun R HQ=>?_;have YF:=fun W=>vH c now hc hn W;have ZM:=fun W=>OD hc.how W;have b1:=hc.id1;have b2:=hc.id2;have b3:=hc.workers;have b4:=hc.pG;have b5:=hc.seconds;have b6:=hc.at0;have b7:=hc.WQ;have b8:c.account.size≤4:=by rcases hc.account with h|h<;>rw[h]<;>exact Nat.le_of_ble_eq_true rfl
 have b9:=vY c.how;have s1:=iC (n:=(c.id:Int)) (by omega) (by omega);have s2:=iC (n:=(c.workers:Int)) (by omega) (by omega);have s3:=iC (n:=c.seconds) (by omega) (by omega);have s4:=iC (n:=c.at_) (by omega) (by omega);have ZN:IntKind.i64.wrap (c.id:Int)=(c.id:Int):=(kV _).trans (wrap_in (by omega) (by omega));obtain⟨id,ac,wk,sec,how,at_⟩:=c;unfold Ch.cells at YF;unfold iD QW at HQ;unfold Ch.cells;simp only at YF ZM b1 b2 b3 b4 b5 b6 b7 b8 b9 s1 s2 s3 s4 ZN HQ ⊢;have RC:=ah.mk YF;have IX:=ah.mk ZM;clear YF ZM hc;obtain⟨S1,hS1⟩:∃S,S=mY (id:Int):=⟨_,rfl⟩;obtain⟨S2,hS2⟩:∃S,S=mY (wk:Int):=⟨_,rfl⟩;obtain⟨S3,hS3⟩:∃S,S=mY sec:=⟨_,rfl⟩;obtain⟨S4,hS4⟩:∃S,S=mY at_:=⟨_,rfl⟩;obtain⟨S5,hS5⟩:∃S,S=yP how:=⟨_,rfl⟩;obtain⟨W0,hW⟩:∃W0,W0=w.alloc (.cells #[.int .u32 id,.string ac,.int .i64 wk,.int .i64 sec,.int .i64 how,.int .i64 at_] 61):=⟨_,rfl⟩;have hh:W0.heap[w.heap.size]?=some (.cells #[.int .u32 id,.string ac,.int .i64 wk,.int .i64 sec,.int .i64 how,.int .i64 at_] 61):=by rw[hW];exact heap_alloc_new _ _
 have hB:Below w.heap.size w W0:=by rw[hW];exact au (Below.refl _ _) _
 have I1:ah (∀W,Below w.heap.size w W→Calls Tryz.prog 57 #[.int .i64 (id:Int)] W fun e w'=>e=.returned (.string S1)∧Below W.heap.size W w'):=⟨fun W h=>by rw[hS1];exact kC _ (by omega) (by omega) (TT W h)⟩;have I2:ah (∀W,Below w.heap.size w W→Calls Tryz.prog 57 #[.int .i64 (wk:Int)] W fun e w'=>e=.returned (.string S2)∧Below W.heap.size W w'):=⟨fun W h=>by rw[hS2];exact kC _ (by omega) (by omega) (TT W h)⟩;have I3:ah (∀W,Below w.heap.size w W→Calls Tryz.prog 57 #[.int .i64 sec] W fun e w'=>e=.returned (.string S3)∧Below W.heap.size W w'):=⟨fun W h=>by rw[hS3];exact kC _ (by omega) (by omega) (TT W h)⟩;have I4:ah (∀W,Below w.heap.size w W→Calls Tryz.prog 57 #[.int .i64 at_] W fun e w'=>e=.returned (.string S4)∧Below W.heap.size W w'):=⟨fun W h=>by rw[hS4];exact kC _ (by omega) (by omega) (TT W h)⟩;rw[←hS1]at s1;rw[←hS2]at s2;rw[←hS3]at s3;rw[←hS4]at s4;rw[←hS5]at b9 IX;rw[←hS1,←hS2,←hS3,←hS4,←hS5]at HQ;clear hS1 hS2 hS3 hS4 hS5 TT;have Pn:ah (∀W,Below W0.heap.size W0 W→Below w.heap.size w W∧W.heap[w.heap.size]?=some (.cells #[.int .u32 id,.string ac,.int .i64 wk,.int .i64 sec,.int .i64 how,.int .i64 at_] 61)):=⟨fun W h=>⟨ay hB hB.size h,nY h hh⟩⟩;have z1:¬9223372036854775807<S2.size+1:=by omega
 have z2:¬9223372036854775807<S2.size+1+S3.size:=by omega
 have ZO:ah ((Lib.join ([S1,ac,(S2++⟨#[120]⟩)++S3,S5,S4].map (·.data.toList)) (⟨#[32]⟩:ByteArray).data.toList).length≤140737488355328):=⟨by
  have h:=Bh S1 [ac,(S2++⟨#[120]⟩)++S3,S5,S4];have e:((S2++⟨#[120]⟩)++S3).size=S2.size+1+S3.size:=by
   rw[ByteArray.size_append,ByteArray.size_append];rfl
  show(Lib.join ([S1,ac,(S2++⟨#[120]⟩)++S3,S5,S4].map (·.data.toList)) [32]).length≤_
  rw[h];simp only[List.map_cons,List.map_nil,List.sum_cons,List.sum_nil,List.length_cons,List.length_nil];omega⟩
 clear s1 s2 s3 s4 b1 b2 b3 b4 b5 b6 b7 b8 b9 hB;go_enter Tryz.func63,Tryz.ntmps63;go_wp2_with (go_at_call 112;rw[←hW];refine(RC.out _).mono ?_;rintro e w2 ⟨rfl,hw⟩;have B2:=ah.mk hw;clear hw;refine ah.out ?_)
 have c2:∀g:GW w2,g.W.cell? ⟨w.heap.size,2,none⟩=some (.int .i64 (wk:Int)):=fun g=>by rw[aj (Pn.out _ (ay B2.out B2.out.size g.h)).2];rfl
 have c3:∀g:GW w2,g.W.cell? ⟨w.heap.size,3,none⟩=some (.int .i64 sec):=fun g=>by rw[aj (Pn.out _ (ay B2.out B2.out.size g.h)).2];rfl
 clear hW hh;refine ah.mk ?_;go_wp2_with fail
 refine bZ (by kernel_rfl) (by kernel_rfl) ?_;repeat (go_big_quiet_step (first|(go_at_call 57;with_reducible exact GW.calls (I2.out _ (Pn.out _ (ay B2.out B2.out.size (GW.h _))).1))|(go_at_call 57;with_reducible exact GW.calls (I3.out _ (Pn.out _ (ay B2.out B2.out.size (GW.h _))).1))))
 refine wpQuiet_nil ?_;intro _ hw';obtain⟨g1,rfl⟩:=hw';have B3:ah (Below W0.heap.size W0 g1.W):=⟨ay B2.out B2.out.size g1.h⟩;clear c2 c3;obtain⟨v,hv⟩:∃v,v=g1.W:=⟨_,rfl⟩;rw[←hv]at B3 ⊢;clear hv B2 I2 I3;have c0:∀g:GW v,g.W.cell? ⟨w.heap.size,0,none⟩=some (.int .u32 (id:Int)):=fun g=>by rw[aj (Pn.out _ (ay B3.out B3.out.size g.h)).2];rfl
 have c1:∀g:GW v,g.W.cell? ⟨w.heap.size,1,none⟩=some (.string ac):=fun g=>by rw[aj (Pn.out _ (ay B3.out B3.out.size g.h)).2];rfl
 have c4:∀g:GW v,g.W.cell? ⟨w.heap.size,4,none⟩=some (.int .i64 how):=fun g=>by rw[aj (Pn.out _ (ay B3.out B3.out.size g.h)).2];rfl
 have c5:∀g:GW v,g.W.cell? ⟨w.heap.size,5,none⟩=some (.int .i64 at_):=fun g=>by rw[aj (Pn.out _ (ay B3.out B3.out.size g.h)).2];rfl
 have IX1:=IX.out;go_wp2_with fail
 refine kW 14 (by kernel_rfl) (by kernel_rfl) ?_;simp only[List.take_succ_cons,List.take_zero,List.drop_succ_cons,List.drop_zero];repeat (go_big_quiet_step (first|(go_at_call 113;exact GW.calls (vG _))|(go_at_call 57;with_reducible exact GW.calls (I1.out _ (Pn.out _ (ay B3.out B3.out.size (GW.h _))).1))|(go_at_call 57;with_reducible exact GW.calls (I4.out _ (Pn.out _ (ay B3.out B3.out.size (GW.h _))).1))))
 refine wpQuiet_nil ?_;intro _ hw';obtain⟨g2,rfl⟩:=hw';have B4:ah (Below w.heap.size w g2.W):=⟨(Pn.out _ (ay B3.out B3.out.size g2.h)).1⟩;clear c0 c1 c4 c5;obtain⟨u,hu⟩:∃u,u=g2.W:=⟨_,rfl⟩;rw[←hu]at B4 ⊢;clear hu B3 I1 I4 Pn IX1;have JC:ah (Calls Tryz.prog 62 #[.slice (some ⟨u.heap.size,0,none⟩) 5 5,.string ⟨#[32]⟩] (u.alloc (.cells #[.string S1,.string ac,.string ((S2++⟨#[120]⟩)++S3),.string S5,.string S4] 9)) fun e w'=>e=.returned (.string (Gx [S1,ac,(S2++⟨#[120]⟩)++S3,S5,S4]))∧Below (u.alloc (.cells #[.string S1,.string ac,.string ((S2++⟨#[120]⟩)++S3),.string S5,.string S4] 9)).heap.size (u.alloc (.cells #[.string S1,.string ac,.string ((S2++⟨#[120]⟩)++S3),.string S5,.string S4] 9)) w'):=⟨by
  refine Tryz.strings_Join u.heap.size 0 5 [S1,ac,(S2++⟨#[120]⟩)++S3,S5,S4] ⟨#[32]⟩ _ ?_ ?_ (by simp) (by simp) ZO.out
  ·intro j x hj;rw[aj (heap_alloc_new u _)];rcases j with _|_|_|_|_|j<;>simp at hj;all_goals (try(subst hj;rfl))
  ·simp⟩
 go_wp2_with (go_at_call 62;refine JC.out.mono ?_;rintro e w5 ⟨rfl,hb⟩;have H5:ah (Below w.heap.size w w5):=⟨ay (au B4.out _) (by have:=B4.out.size;simp;omega) hb⟩;clear hb)
 first|go_ret2|go_ret|skip
 rw[←HQ.out];exact⟨rfl,H5.out⟩
end
end
section
open Go.RowKit Go.ChangeMaps
def fM {α:Type}(f:α→ByteArray)(l:List α):ByteArray:=l.foldl (fun o x=>o++(⟨#[10]⟩++f x)) ⟨#[111,107]⟩
theorem yQ {α:Type}(f:α→ByteArray)(l:List α)(x:α):fM f (l++[x])=fM f l++(⟨#[10]⟩++f x):=by
 unfold fM;rw[List.foldl_append];rfl
theorem Kv {α:Type}(f:α→ByteArray)(B:Nat):∀(l:List α) (o:ByteArray),(∀x∈l,(f x).size≤B)→(l.foldl (fun o x=>o++(⟨#[10]⟩++f x)) o).size≤o.size+(B+1)*l.length:=by
 intro l;induction l with
 |nil=>intro o _;simp
 |cons x l ih =>
  intro o h;have h1:=ih (o++(⟨#[10]⟩++f x)) fun y hy=>h y (List.mem_cons_of_mem _ hy);have h2:=h x List.mem_cons_self;rw[ByteArray.size_append,ByteArray.size_append]at h1;rw[List.foldl_cons,List.length_cons];have e:(⟨#[10]⟩:ByteArray).size=1:=rfl;rw[e]at h1;rw[Nat.mul_add,Nat.mul_one];omega
theorem mZ {α:Type}{f:α→ByteArray}{B:Nat}{l:List α}(h:∀x∈l,(f x).size≤B):(fM f l).size≤2+(B+1)*l.length:=Kv f B l _ h
theorem ql (c:Ch)(now:Int)(hc:c.ok now)(hn:now≤1000000):(iD c).size≤150:=by
 have b1:=hc.id1;have b2:=hc.id2;have b3:=hc.workers;have b4:=hc.pG;have b5:=hc.seconds;have b6:=hc.at0;have b7:=hc.WQ;have b8:c.account.size≤4:=by rcases hc.account with h|h<;>rw[h]<;>exact Nat.le_of_ble_eq_true rfl
 have b9:=vY c.how;have s1:=iC (n:=(c.id:Int)) (by omega) (by omega);have s2:=iC (n:=(c.workers:Int)) (by omega) (by omega);have s3:=iC (n:=c.seconds) (by omega) (by omega);have s4:=iC (n:=c.at_) (by omega) (by omega);unfold iD;rw[yO];unfold QW;simp only[List.map_cons,List.map_nil,List.sum_cons,List.sum_nil,List.length_cons,List.length_nil];rw[ByteArray.size_append,ByteArray.size_append,show(⟨#[120]⟩:ByteArray).size=1 from rfl];omega
section
variable {w0 w:World}{M:List bW}
set_option maxRecDepth 1000000 in
theorem DJ {x:Nat}{pol:Int}{now:Nat}{js:List J}{bk:List Ch}{fl:List Int}{k:Nat}(hS:dF M w0 w x pol now js bk fl k)(G:dL now js bk)(TT:∀W,Below w.heap.size w W→Tab W):Calls Tryz.prog 31 #[.pointer (some ⟨x,0,none⟩)] w fun e w'=>e=.returned (.string (fM iD bk))∧Below w.heap.size w w':=by
 refine named fun R HQ=>?_;obtain⟨a,y,m,rfl,ku,hy,hm,H⟩:=hS;have ZP:bU w 6 vI (.slice a.bA bk.length a.bc) bk:=H.read 3 (enc:=vI) rfl rfl Ch.EN;obtain⟨n,hnl⟩:∃n,n=bk.length:=⟨_,rfl⟩;have C16:w.cell? ⟨a.x,16,none⟩=some (.slice a.bA bk.length a.bc):=by rw[aj (H.blk 0 rfl)];rfl
 have hn:n≤1500:=by rw[hnl];exact G.few
 obtain⟨A,hAA⟩:∃A,A=a.bA:=⟨_,rfl⟩;obtain⟨cc,hcc⟩:∃c,c=a.bc:=⟨_,rfl⟩;rw[←hnl,←hAA,←hcc]at ZP C16;have HR:=ah.mk ZP;have HG:=ah.mk (And.intro G TT);have HN:=Lib.hid hnl;have hz:∀k≤n,¬9223372036854775807<(fM iD (bk.take k)).size+1000:=fun k hk=>by
  have h:=mZ (f:=iD) (B:=150) (l:=bk.take k) fun c hc=>ql c now (G.UW c (List.mem_of_mem_take hc)) G.qQ;rw[List.length_take]at h;omega
 have HZ:=ah.mk hz;have T0:fM iD (bk.take 0)=⟨#[111,107]⟩:=rfl;have HT:=ah.mk T0;clear T0 hz hnl H ZP G TT hy hm ku hAA hcc;go_enter Tryz.func31,Tryz.ntmps31;go_wp2_with fail
 go_loopw [3,13] (fun o i wr=>∃(k:Nat),o=.string (fM iD (bk.take k))∧i=.int .i64 k∧k≤n∧ah (Below w.heap.size w wr)) (fun _ i _=>n-(intOf i).toNat)
 case atStart=>exact⟨0,by rw[HT.out],rfl,Nat.zero_le _,⟨Below.refl _ _⟩⟩
 case round =>
  obtain⟨k,rfl,rfl,hk,BW⟩:=hrel;by_cases hlt:k<n
  ·obtain⟨c,hx⟩:∃c,bk[k]?=some c:=⟨_,List.getElem?_eq_getElem (by rw[←HN.out];exact hlt)⟩;have OC:=ah.mk (HG.out.1.UW c (List.mem_of_getElem? hx));have TK:ah (fM iD (bk.take (k+1))=fM iD (bk.take k)++(⟨#[10]⟩++iD c)):=⟨by rw[←yQ,List.take_add_one,hx];rfl⟩;have CSZ:=ql c now OC.out HG.out.1.qQ;have z1:¬9223372036854775807<1+(iD c).size:=by omega
   have z2:¬9223372036854775807<(fM iD (bk.take k)).size+(1+(iD c).size):=by have:=HZ.out k hk;omega
   obtain⟨b,hA,hxr⟩:=(HR.out.below BW.out).get k c hx;have R1:ah (wr.rangeAt b (k*6) c.cells.toList):=⟨hxr⟩;subst hA;have Ip:=Vw c;have B2:ah (Below w.heap.size w (wr.alloc (.cells c.cells 61))):=⟨au BW.out _⟩;have LC:=ah.mk (Gy (w:=wr.alloc (.cells c.cells 61)) c now OC.out HG.out.1.qQ fun W h=>HG.out.2 W (ay B2.out B2.out.size h));obtain⟨L,hL⟩:∃L,L=fM iD (bk.take k):=⟨_,rfl⟩;obtain⟨L1,hL1⟩:∃L,L=iD c:=⟨_,rfl⟩;rw[←hL,←hL1]at TK z2;rw[←hL1]at LC z1;rw[←hL];clear hL hL1 CSZ hxr hx;go_wp2_with (first|(go_at_call 63;refine LC.out.mono ?_;rintro e w5 ⟨rfl,hb⟩;have H5:ah (Below w.heap.size w w5):=⟨ay B2.out B2.out.size hb⟩;clear hb)|(refine aI rfl 61 (.tmp 5) rfl wr.heap.size 0 rfl c.cells _ (aX (heap_alloc_new wr _) 0 _ (fun i v hv=>by simpa using hv)) Tryz.underlying61 rfl Ip ?_)|(refine aB wr.heap.size rfl rfl 61 (.tmp 5) (.tmp 16) rfl c.cells rfl rfl 61 _ Ip rfl c.one ?_)|(refine aI rfl 61 (.tmp 15) rfl b (k*6) rfl c.cells _ R1.out Tryz.underlying61 rfl Ip ?_))
   go_roundw
   case rel=>exact⟨k+1,by rw[TK.out],by go_num,by omega,H5⟩
   case measure=>simp[intOf];omega
  ·have h1:¬(k:Int)<(n:Int):=by omega
   go_wp2_with fail
   first|go_ret2|go_ret|skip
   rw[←HQ.out];have hkn:k=n:=by omega
   exact⟨by rw[hkn,HN.out,List.take_length],BW.out⟩
end
end
end Go.Proofs.YtandhagfhppgaaaGreatDoor
