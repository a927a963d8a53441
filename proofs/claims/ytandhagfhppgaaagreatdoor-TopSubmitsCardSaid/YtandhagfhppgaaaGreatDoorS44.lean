/- Part 44 of a proof: contracts of the functions that the law reaches. No condition. -/
import Derived.Test.YtandhagfhppgaaaGreatDoorS8
import Derived.Test.YtandhagfhppgaaaGreatDoorS16
import Derived.Test.YtandhagfhppgaaaGreatDoorS27
import Derived.Test.YtandhagfhppgaaaGreatDoorS33
import Derived.Test.YtandhagfhppgaaaGreatDoorS35
import Derived.Test.YtandhagfhppgaaaGreatDoorS43
set_option linter.all false
set_option maxRecDepth 100000
set_option maxHeartbeats 16000000
namespace Go.Proofs.YtandhagfhppgaaaGreatDoor
section
open Go.RowKit Go.ChangeMaps
section
variable {w0 w:World}{M:List bW}
theorem fJ {a:qR}{pol now:Int}{js:List J}{bk:List Ch}{y:Yd}{m:Mx}(H:Has w0 w (CL a pol now js bk y m++M)) :
 (w.cell? ⟨a.p,9,none⟩=some (.slice (some ⟨a.tp,0,none⟩) 1 a.Et)∧w.cell? ⟨a.p,10,none⟩=some (.slice (some ⟨a.tq,0,none⟩) 2 a.zi)∧w.cell? ⟨a.p,11,none⟩=some (.slice (some ⟨a.ta,0,none⟩) 2 a.tac)∧w.cell? ⟨a.p,12,none⟩=some (.slice a.jA js.length a.jc))∧
 (w.rangeAt a.tp 0 fU.toList∧w.rangeAt a.tq 0 dV.toList∧w.rangeAt a.tq 3 fQ.toList∧w.rangeAt a.ta 0 acc0.toList∧w.rangeAt a.ta 3 jg.toList):=
 ⟨⟨by rw[aj (H.blk 1 rfl)];rfl,by rw[aj (H.blk 1 rfl)];rfl,by rw[aj (H.blk 1 rfl)];rfl,by rw[aj (H.blk 1 rfl)];rfl⟩,
  bM H 7 rfl 0 _ gZ,bM H 8 rfl 0 dV.toList (fun k v h=>by
   rw[Nat.zero_add];rw[show dI=dV.toList++fQ.toList from rfl,List.getElem?_append_left (List.getElem?_eq_some_iff.1 h).1];exact h),
  bM H 8 rfl 3 fQ.toList (fun k v h=>by
   rw[show dI=dV.toList++fQ.toList from rfl,List.getElem?_append_right (show dV.toList.length≤3+k by show 3≤3+k;omega),show 3+k-dV.toList.length=k by show 3+k-3=k;omega];exact h),
  bM H 9 rfl 0 acc0.toList (fun k v h=>by
   rw[Nat.zero_add];rw[show dM=acc0.toList++jg.toList from rfl,List.getElem?_append_left (List.getElem?_eq_some_iff.1 h).1];exact h),
  bM H 9 rfl 3 jg.toList (fun k v h=>by
   rw[show dM=acc0.toList++jg.toList from rfl,List.getElem?_append_right (show acc0.toList.length≤3+k by show 3≤3+k;omega),show 3+k-acc0.toList.length=k by show 3+k-3=k;omega];exact h)⟩
set_option maxRecDepth 1000000 in
theorem D9 {a:qR}{pol now:Int}{js:List J}{bk:List Ch}{y:Yd}{m:Mx}(H:Has w0 w (CL a pol now js bk y m++M))(s:Spec)(hs:s.ok)(hn0:0≤now)(hn1:now≤1000000)(hlen:js.length≤400) :
 Calls Tryz.prog 108 #[.pointer (some ⟨a.p,0,none⟩),.agg s.cells,.int .i64 now,.int .i64 1] w fun e w'=>(e=.returned (.tuple #[.int .i64 0,.int .i64 0])∨e=.returned (.tuple #[.int .i64 0,.int .i64 5]))∧Has w0 w' (CL a pol now js bk y m++M):=by
 refine named fun R HQ=>?_;obtain⟨hac,hqo,hz1,hz2,hl1,hl2⟩:=hs;have H1:ah (Has w0 (w.alloc (.cells s.cells 51)) (CL a pol now js bk y m++aF w.heap.size (.cells s.cells 51)::M)):=⟨(H.aZ (.cells s.cells 51)).ins (CL a pol now js bk y m) M⟩;have F:ah (∀W,Has w0 W (CL a pol now js bk y m++aF w.heap.size (.cells s.cells 51)::M)→((W.cell? ⟨a.p,9,none⟩=some (.slice (some ⟨a.tp,0,none⟩) 1 a.Et)∧W.cell? ⟨a.p,10,none⟩=some (.slice (some ⟨a.tq,0,none⟩) 2 a.zi)∧W.cell? ⟨a.p,11,none⟩=some (.slice (some ⟨a.ta,0,none⟩) 2 a.tac)∧W.cell? ⟨a.p,12,none⟩=some (.slice a.jA js.length a.jc))∧
  (W.cell? ⟨w.heap.size,2,none⟩=some (.string aQ)∧W.cell? ⟨w.heap.size,3,none⟩=some (.string s.qos)∧W.cell? ⟨w.heap.size,4,none⟩=some (.int .i64 s.size)∧W.cell? ⟨w.heap.size,5,none⟩=some (.int .i64 s.limit))∧(W.cell? ⟨a.tp,1,none⟩=some (.int .i64 3)∧W.cell? ⟨a.tp,3,none⟩=some (.int .i64 100)))):=⟨fun W HW=>by
  have h:=fJ HW;refine⟨h.1,⟨by rw[aj (HW.blk 14 rfl)];rfl,by rw[aj (HW.blk 14 rfl)];rfl,by rw[aj (HW.blk 14 rfl)];rfl,by rw[aj (HW.blk 14 rfl)];rfl⟩,?_,?_⟩
  ·have:=h.2.1 1 _ rfl;simpa using this
  ·have:=h.2.1 3 _ rfl;simpa using this⟩
 obtain⟨cl,mo,hcl,hmo,Rq⟩:∃cl mo:Nat,cl≤1∧mo≤40∧∀W,Has w0 W (CL a pol now js bk y m++aF w.heap.size (.cells s.cells 51)::M)→W.cell? ⟨a.tq,cl*3+2,none⟩=some (.int .i64 (mo:Int))∧Calls Tryz.prog 169 #[.slice (some ⟨a.tq,0,none⟩) 2 a.zi,.func (.func 170) #[] #[.pointer (some ⟨w.heap.size,0,none⟩)]] W fun e w'=>e=.returned (.int .i64 (cl:Int))∧Below W.heap.size W w':=by
  rcases hqo with h|h
  ·refine⟨0,40,by decide,by decide,fun W HW=>⟨?_,?_⟩⟩
   ·have:=(fJ HW).2.2.1 2 _ rfl;simpa using this
   ·exact Cj w.heap.size a.tq a.zi (by rw[(F.out W HW).2.1.2.1,h]) (fJ HW).2.2.1 (fJ HW).2.2.2.1
  ·refine⟨1,5,by decide,by decide,fun W HW=>⟨?_,?_⟩⟩
   ·have:=(fJ HW).2.2.2.1 2 _ rfl;simpa using this
   ·exact Cm w.heap.size a.tq a.zi (by rw[(F.out W HW).2.1.2.1,h]) (fJ HW).2.2.1 (fJ HW).2.2.2.1
 have CC:=ah.mk Rq;have AC:ah (∀W,Has w0 W (CL a pol now js bk y m++aF w.heap.size (.cells s.cells 51)::M)→Calls Tryz.prog 171 #[.slice (some ⟨a.ta,0,none⟩) 2 a.tac,.func (.func 172) #[] #[.pointer (some ⟨w.heap.size,0,none⟩)]] W fun e w'=>e=.returned (.bool true)∧Below W.heap.size W w'):=⟨fun W HW=>by
  have h1:W.cell? ⟨w.heap.size,1,none⟩=some (.string s.account):=by rw[aj (HW.blk 14 rfl)];rfl
  rcases hac with h|h
  ·exact zq w.heap.size a.ta a.tac (by rw[h1,h]) (fJ HW).2.2.2.2.1 (fJ HW).2.2.2.2.2
  ·exact zu w.heap.size a.ta a.tac (by rw[h1,h]) (fJ HW).2.2.2.2.1 (fJ HW).2.2.2.2.2⟩
 have PC:ah (∀W,Has w0 W (CL a pol now js bk y m++aF w.heap.size (.cells s.cells 51)::M)→Calls Tryz.prog 168 #[.pointer (some ⟨a.p,0,none⟩),.string aQ] W fun e w'=>e=.returned (.int .i64 0)∧Below W.heap.size W w'):=⟨fun W HW=>IU a.p a.tp a.Et (F.out W HW).1.1 (fJ HW).2.1⟩;have BC:ah (∀W,Has w0 W (CL a pol now js bk y m++aF w.heap.size (.cells s.cells 51)::M)→Calls Tryz.prog 173 #[.pointer (some ⟨a.p,0,none⟩),.string s.qos] W fun e w'=>∃k:Nat,e=.returned (.int .i64 k)∧k≤js.length∧Has w0 w' (CL a pol now js bk y m++aF w.heap.size (.cells s.cells 51)::M)):=⟨fun W HW=>GK HW 1 2 rfl rfl rfl (by omega) s.qos⟩;have UC:=ah.mk fun W=>nI s.size hz1 hz2 (2^ord s.size) (ord s.size) rfl rfl W;obtain⟨z,hz⟩:∃z,z=2^ord s.size:=⟨_,rfl⟩;obtain⟨o,ho⟩:∃o,o=ord s.size:=⟨_,rfl⟩;have ho3:¬(3:Int)<o:=by rw[ho];have:=(lU hz1 hz2).1;omega
 rw[←hz,←ho]at UC;have g1:¬now<0:=by omega
 have g2:¬(1099511627776:Int)<now:=by omega
 have g3:¬(cl:Int)<0:=by omega
 have g4:¬(100:Int)<s.limit:=by omega
 have g5:¬(500:Int)<(js.length:Int)+1:=by omega
 have g6:wrap64 ((js.length:Int)+1)=(js.length:Int)+1:=wrap_in (by omega) (by omega);have g7:(cl:Int)<2:=by omega
 have g6w:IntKind.i64.wrap ((js.length:Int)+1)=(js.length:Int)+1:=(kV _).trans g6;have h1:=ah.mk s.one;have Po:=uD s;clear hac hqo hz1 hz2 hl1 hl2 hz ho hn0 hn1 Rq H;obtain⟨⟨f9,f10,f11,f12⟩,⟨b2,b3,b4,b5⟩,t1,t3⟩:=F.out _ H1.out;go_enter Tryz.func108,Tryz.ntmps108;go_wp2_with (first|(refine aB w.heap.size rfl rfl 51 (.tmp 5) (.tmp 1) rfl s.cells rfl rfl 51 _ Po rfl h1.out ?_)|(go_at_call 168;refine(PC.out _ H1.out).mono ?_;rintro e w2 ⟨rfl,hb⟩;have H2:=ah.mk (H1.out.below hb);clear hb;refine ah.out ?_))
 clear f9 f10 f11 f12 b2 b3 b4 b5 t1 t3 PC;obtain⟨⟨f9,f10,f11,f12⟩,⟨b2,b3,b4,b5⟩,t1,t3⟩:=F.out _ H2.out;have IC:=ah.mk (CC.out _ H2.out).2;refine ah.mk ?_;go_wp2_with (first|(go_at_call 139;refine(UC.out _).mono ?_;rintro e w' ⟨rfl,hw⟩;obtain rfl:=hw.symm;clear hw)|(go_at_call 169;refine IC.out.mono ?_;rintro e w3 ⟨rfl,hb⟩;have H3:=ah.mk (H2.out.below hb);clear hb;refine ah.out ?_))
 clear f9 f10 f11 f12 b2 b3 b4 b5 t1 t3 IC UC;obtain⟨⟨f9,f10,f11,f12⟩,⟨b2,b3,b4,b5⟩,t1,t3⟩:=F.out _ H3.out;refine ah.mk ?_;go_wp2_with (go_at_call 171;refine(AC.out _ H3.out).mono ?_;rintro e w4 ⟨rfl,hb⟩;have H4:=ah.mk (H3.out.below hb);clear hb;refine ah.out ?_)
 clear f9 f10 f11 f12 b2 b3 b4 b5 t1 t3 AC;obtain⟨⟨f9,f10,f11,f12⟩,⟨b2,b3,b4,b5⟩,t1,t3⟩:=F.out _ H4.out;refine ah.mk ?_;go_wp2_with fail
 go_quiet (fail)
 go_wp2_with fail
 obtain⟨w5,hw5⟩:∃v,v=w4.drewN nq:=⟨_,rfl⟩;have H5:ah (Has w0 w5 (CL a pol now js bk y m++aF w.heap.size (.cells s.cells 51)::M)):=⟨by rw[hw5];exact H4.out.drewN nq⟩;rw[←hw5];clear hw5 f9 f10 f11 f12 b2 b3 b4 b5 t1 t3 H1 H2 H3 H4 g2 g4;have FG:ah (∀W,Has w0 W (CL a pol now js bk y m++aF w.heap.size (.cells s.cells 51)::M)→W.cell? ⟨a.p,12,none⟩=some (.slice a.jA js.length a.jc)∧W.cell? ⟨w.heap.size,3,none⟩=some (.string s.qos)∧W.cell? ⟨a.p,10,none⟩=some (.slice (some ⟨a.tq,0,none⟩) 2 a.zi)∧W.cell? ⟨a.tq,cl*3+2,none⟩=some (.int .i64 (mo:Int))∧True):=⟨fun W HW=>⟨(F.out W HW).1.2.2.2,(F.out W HW).2.1.2.1,(F.out W HW).1.2.1,(CC.out W HW).1,trivial⟩⟩;have H6:=ah.mk H5.out.drew;have HG:=FG.out _ H6.out;clear F CC;refine aK (fun W=>W.cell? ⟨a.p,12,none⟩=some (.slice a.jA js.length a.jc)∧W.cell? ⟨w.heap.size,3,none⟩=some (.string s.qos)∧W.cell? ⟨a.p,10,none⟩=some (.slice (some ⟨a.tq,0,none⟩) 2 a.zi)∧W.cell? ⟨a.tq,cl*3+2,none⟩=some (.int .i64 (mo:Int))∧True) 24 (by kernel_rfl) (by kernel_rfl) ?_;refine bg 0 HG ?_;refine bg 1 HG ?_;refine bg 2 HG ?_;refine bg 3 HG ?_;refine bg 4 HG ?_;refine bg 5 HG ?_;refine bg 6 HG ?_;refine YB (v:=.bool false) 7 HG (hk:=rfl) (fun W _=>by go_simp;try simp[g5];try with_reducible rfl) ?_;refine bg 8 HG ?_;refine bg 9 HG ?_;refine bg 10 HG ?_;refine bg 11 HG ?_;refine bg 13 HG ?_;refine bg 15 HG ?_;refine bg 16 HG ?_;refine bg 17 HG ?_;refine bg 18 HG ?_;refine bg 19 HG ?_;refine bg 20 HG ?_;refine bg 21 HG ?_;refine bg 22 HG ?_;refine bg 23 HG ?_;have B5:=ah.mk (BC.out _ H6.out);refine aP (k:=12) rfl (by kernel_rfl) (by kernel_rfl) (fun K hK=>?_);rw[if_pos (by rfl)];go_simp;go_at_call 173;refine B5.out.mono ?_;rintro e w6 ⟨k,rfl,hk,h7⟩;have HG:=FG.out _ h7;have H7:=ah.mk h7;refine hK _ _ HG ?_;clear hK K h7;try simp only[Act.put,List.getElem_toArray,List.getElem_cons_zero,List.getElem_cons_succ,List.setIfInBounds_toArray,List.set_cons_zero,List.set_cons_succ]
 have g8:wrap64 ((k:Int)+1)=(k:Int)+1:=wrap_in (by omega) (by omega);have g8w:IntKind.i64.wrap ((k:Int)+1)=(k:Int)+1:=(kV _).trans g8;refine bg 14 HG ?_;refine aO (by kernel_rfl) ?_;simp only[List.drop_succ_cons,List.drop_zero];clear HG;by_cases hmost:(mo:Int)<(k:Int)+1
 ·go_wp2_with fail
  first|go_ret2|go_ret|skip
  rw[←HQ.out];exact⟨.inr rfl,Has.cut (CL a pol now js bk y m) M H7.out⟩
 ·go_wp2_with fail
  first|go_ret2|go_ret|skip
  rw[←HQ.out];exact⟨.inl rfl,Has.cut (CL a pol now js bk y m) M H7.out⟩
end
end
section
open Go.RowKit Go.ChangeMaps
def J.new (n:Nat)(s:Spec)(now:Int):J:=⟨n+1,s,1,now,0,0,0,0,0⟩
theorem Ws (a:qR)(pol now:Int)(js:List J)(bk:List Ch)(y:Yd)(m:Mx)(A5:Option Addr)(c5:Nat)(j:J) :
 CL { a with jA:=A5,jc:=c5} pol now (js++[j]) bk y m=((CL a pol now js bk y m).set 2 (aV 55 26 (fun j:J=>j.cells.toList) (.slice A5 (js.length+1) c5) (js++[j]))).set 1 (aF a.p (.cells (tcs { a with jA:=A5,jc:=c5} pol (js.length+1)) 122)):=by
 have hl:(js++[j]).length=js.length+1:=by simp
 unfold CL aS qU aV;rw[hl];rfl
theorem jI {P:Program}{o:Oper}{a:Act}{w:World}{K:Act→World→Prop}{Q:Exit→Act→World→Prop}(t e:TypeId)(x:Operand)(ho:o.op=.buildSlice t 1 #[(0,x)])
 (N:Nat) (hN:w.heap.size=N) (hu:P.underlying t=some (.slice e)) (u:Value) (cells:Array Value) (hx:a.eval x=u)
 (hf:P.builtSlice e 1 [(0,u)]=some cells) (h:K (a.put o.dst (.slice (some ⟨N,0,none⟩) 1 1)) (w.alloc (.cells cells e))):o.wp P a w K Q:=by
 subst hN hx;unfold Program.builtSlice at hf;cases hie:P.info? e with
 |none=>simp[hie]at hf
 |some ie =>
  simp only[hie]at hf;cases hz:ie.zero with
  |none=>simp[hz]at hf
  |some z =>
   simp only[hz]at hf;by_cases hc:1*ie.size>2^24∨1*ie.size=0
   ·simp only[if_pos hc]at hf;cases hf
   ·rw[if_neg hc]at hf;exact Go.wp_buildSlice t e 1 #[(0,x)] ho cells ie z hu hie hz (fun h'=>hc (Or.inl h')) (fun h'=>hc (Or.inr h')) (by simpa using hf) h
section
variable {w0 w:World}{M:List bW}
set_option maxRecDepth 1000000 in
theorem OM {a:qR}{pol now:Int}{js:List J}{bk:List Ch}{y:Yd}{m:Mx}(H:Has w0 w (CL a pol now js bk y m++M))(s:Spec)(hs:s.ok)(hn0:0≤now)(hn1:now≤1000000)(hlen:js.length≤400) :
 Calls Tryz.prog 60 #[.pointer (some ⟨a.p,0,none⟩),.agg s.cells,.int .i64 now] w fun e w'=>(∃(A:Option Addr) (c:Nat) (A5:Option Addr) (c5:Nat),e=.returned (.tuple #[.slice A 1 c,.int .i64 0])∧Has w0 w' (CL { a with jA:=A5,jc:=c5} pol now (js++[J.new js.length s now]) bk y m++aV 43 1 fO (.slice A 1 c) [js.length + 1]::M))∨(e=.returned (.tuple #[.slice none 0 0,.int .i64 5])∧Has w0 w' (CL a pol now js bk y m++M)):=by
 refine named fun R HQ=>?_;have Eu:small s.account:=by
  rcases hs.1 with h|h<;>rw[h]
  ·exact iK
  ·exact jh
 have Ew:small s.qos:=by
  rcases hs.2.1 with h|h<;>rw[h]
  ·exact dW [110,111,114,109,97,108] rfl (by decide) (by decide)
  ·exact dW [104,105,103,104] rfl (by decide) (by decide)
 have KC:=ah.mk (D8 (w:=w.alloc (.cells s.cells 51)) s Eu Ew hs.2.2.1 hs.2.2.2.1 hs.2.2.2.2.1 hs.2.2.2.2.2);have H1:ah (Has w0 (w.alloc (.cells s.cells 51)) (CL a pol now js bk y m++aF w.heap.size (.cells s.cells 51)::M)):=⟨(H.aZ (.cells s.cells 51)).ins (CL a pol now js bk y m) M⟩;have h1:=ah.mk s.one;have Po:=uD s;have g6:wrap64 ((js.length:Int)+1)=(js.length:Int)+1:=wrap_in (by omega) (by omega);have g6w:IntKind.i64.wrap ((js.length:Int)+1)=(js.length:Int)+1:=(kV _).trans g6;have g7:IntKind.u32.wrap ((js.length:Int)+1)=(js.length:Int)+1:=by
  unfold IntKind.wrap;simp[IntKind.signed,IntKind.bits];omega
 have R1:ah ((w.alloc (.cells s.cells 51)).rangeAt w.heap.size 0 s.cells.toList):=⟨aX (H1.out.blk 14 rfl) 0 _ fun i v h=>by rw[Nat.zero_add];simpa using h⟩;have HS:=ah.mk (And.intro hs (And.intro hn0 (And.intro hn1 hlen)));have CP:=ah.mk fun W=>rU s W;clear Eu Ew hs hn0 hn1 hlen H;go_enter Tryz.func60,Tryz.ntmps60;go_wp2_with (first|(refine aB w.heap.size rfl rfl 51 (.tmp 4) (.tmp 1) rfl s.cells rfl rfl 51 _ Po rfl h1.out ?_)|(refine aI rfl 51 (.tmp 4) rfl w.heap.size 0 rfl s.cells _ R1.out Tryz.underlying51 rfl Po ?_)|(go_at_call 107;refine KC.out.mono ?_;rintro e w2 ⟨rfl,hb⟩;have H2:=ah.mk (H1.out.below hb);clear hb;refine ah.out ?_))
 clear R1 KC H1;have b6:w2.cell? ⟨w.heap.size,6,none⟩=some (.slice none 0 0):=by rw[aj (H2.out.blk 14 rfl)];rfl
 have p12:w2.cell? ⟨a.p,12,none⟩=some (.slice a.jA js.length a.jc):=(fJ H2.out).1.2.2.2;have H3:ah (Has w0 (w2.alloc (.cells #[.int .i64 (-1)] 3)) (CL a pol now js bk y m++aF w.heap.size (.cells s.cells 51)::aF w2.heap.size (.cells #[.int .i64 (-1)] 3)::M)):=⟨(H2.out.aZ (.cells #[.int .i64 (-1)] 3)).ins (CL a pol now js bk y m++[aF w.heap.size (.cells s.cells 51)]) M⟩;have R3:ah ((w2.alloc (.cells #[.int .i64 (-1)] 3)).rangeAt w.heap.size 0 s.cells.toList):=⟨aX (H3.out.blk 14 rfl) 0 _ fun i v h=>by rw[Nat.zero_add];simpa using h⟩;have AD:=ah.mk (D9 H3.out s HS.out.1 HS.out.2.1 HS.out.2.2.1 HS.out.2.2.2);clear H2;refine ah.mk ?_;go_wp2_with (first|(refine aI rfl 51 (.tmp 4) rfl w.heap.size 0 rfl s.cells _ R3.out Tryz.underlying51 rfl Po ?_)|(go_at_call 108;refine AD.out.mono ?_;rintro e w4 ⟨he,h4⟩;have HE:=ah.mk he;have H4:=ah.mk h4;clear he h4;refine ah.out ?_))
 clear H3 R3 AD b6 p12;obtain⟨nb,hnb⟩:∃v,v=w2.heap.size:=⟨_,rfl⟩;rw[←hnb]at H4;rw[←hnb];clear hnb;rcases HE.out with h|h
 ·injection h with h;subst h;clear HE;have b12:w4.cell? ⟨w.heap.size,12,none⟩=some (.bool false):=by rw[aj (H4.out.blk 14 rfl)];rfl
  have n0:w4.cell? ⟨nb,0,none⟩=some (.int .i64 (-1)):=by rw[aj (H4.out.blk 15 rfl)];rfl
  have p12:w4.cell? ⟨a.p,12,none⟩=some (.slice a.jA js.length a.jc):=(fJ H4.out).1.2.2.2;refine ah.mk ?_;go_wp2_with fail
  refine wp_loop_rounds 2 ?_;rw[rounds_succ];go_wp2_with fail
  clear b12 n0 p12;have SG:ah (∀W,Has w0 W (CL a pol now js bk y m++aF w.heap.size (.cells s.cells 51)::aF nb (.cells #[.int .i64 (-1)] 3)::M)→W.cell? ⟨a.p,12,none⟩=some (.slice a.jA js.length a.jc)∧W.rangeAt w.heap.size 0 s.cells.toList∧True):=⟨fun W HW=>⟨(fJ HW).1.2.2.2,aX (HW.blk 14 rfl) 0 _ fun i v h=>by rw[Nat.zero_add];simpa using h,trivial⟩⟩;have HG:=SG.out _ H4.out.drew;refine aK (fun W=>W.cell? ⟨a.p,12,none⟩=some (.slice a.jA js.length a.jc)∧W.rangeAt w.heap.size 0 s.cells.toList∧True) 18 (by kernel_rfl) (by kernel_rfl) ?_;refine bg 0 HG ?_;refine bg 1 HG ?_;refine bg 2 HG ?_;refine bg 3 HG ?_;refine bg 4 HG ?_;refine bg 5 HG ?_;refine bg 6 HG ?_;refine bg 7 HG ?_;refine YB (v:=.agg s.cells) 8 HG (hk:=rfl) (fun W hW=>run_load 51 _ rfl w.heap.size 0 rfl s.cells _ hW.2.1 Tryz.underlying51 rfl Po) ?_;refine bg 10 HG ?_;refine bg 11 HG ?_;refine bg 12 HG ?_;refine aP (k:=9) rfl (by kernel_rfl) (by kernel_rfl) (fun K hK=>?_);rw[if_pos (by rfl)];go_simp;go_at_call 96;refine(CP.out _).mono ?_;rintro e w5 ⟨rfl,hb⟩;have H5:=ah.mk (H4.out.drew.below hb);have HG:=SG.out _ H5.out;refine hK _ _ HG ?_;clear hK K hb;try simp only[Act.put,List.getElem_toArray,List.getElem_cons_zero,List.getElem_cons_succ,List.setIfInBounds_toArray,List.set_cons_zero,List.set_cons_succ]
  obtain⟨J0,hJ0⟩:∃v,v=J.new js.length s now:=⟨_,rfl⟩;refine YB (v:=.agg J0.cells) 13 HG (hk:=rfl) (fun W _=>by rw[hJ0];kernel_rfl) ?_;have j55:=eP J0;have HJ0:=ah.mk hJ0;have hbs:Tryz.prog.builtSlice 55 1 [(0,.agg J0.cells)]=some J0.cells:=uG J0;clear hJ0;refine aP (k:=14) rfl (by kernel_rfl) (by kernel_rfl) (fun K hK=>?_);rw[if_pos (by rfl)];refine jI 41 55 (.tmp 78) rfl (w5.heap.size) rfl Tryz.underlying41 _ J0.cells rfl hbs ?_;refine hK _ _ (SG.out _ (H5.out.alloc _)) ?_;clear hK K HG;try simp only[Act.put,List.getElem_toArray,List.getElem_cons_zero,List.getElem_cons_succ,List.setIfInBounds_toArray,List.set_cons_zero,List.set_cons_succ]
  refine aP (k:=15) rfl (by kernel_rfl) (by kernel_rfl) (fun K hK=>?_);rw[if_pos (by rfl)];refine qJ 41 (.tmp 69) (.tmp 79) rfl H5.out 2 rfl js.length rfl Tryz.underlying41 Pq (by decide) (by have:=HS.out.2.2.2;omega) rfl rfl J0 J0.cells rfl rfl J0.one ?_;intro A5 c5 w6 h6;have H6:=ah.mk h6;have HG:w6.cell? ⟨a.p,12,none⟩=some (.slice a.jA js.length a.jc)∧w6.rangeAt w.heap.size 0 s.cells.toList∧True:=⟨by rw[aj (h6.blk 1 rfl)];rfl,aX (h6.blk 14 rfl) 0 _ fun i v h=>by rw[Nat.zero_add];simpa using h,trivial⟩;refine hK _ _ HG ?_;clear hK K h6;try simp only[Act.put,List.getElem_toArray,List.getElem_cons_zero,List.getElem_cons_succ,List.setIfInBounds_toArray,List.set_cons_zero,List.set_cons_succ]
  refine bg 16 HG ?_;refine bg 17 HG ?_;refine aO (by kernel_rfl) ?_;simp only[List.drop_succ_cons,List.drop_zero];clear HG SG H4 H5;have z0:w6.cell? ⟨a.p,12,none⟩=some (.slice a.jA js.length a.jc):=by rw[aj (H6.out.blk 1 rfl)];rfl
  have z1:w6.frozen? ⟨a.p,12,none⟩=false:=aJ (H6.out.blk 1 rfl) _;have H7:=ah.mk (((H6.out.put 1 rfl 12 (.slice A5 (js.length+1) c5) (tcs { a with jA:=A5,jc:=c5} pol (js.length+1)) rfl).nilRow 43 1 fO).ins (((CL a pol now js bk y m).set 2 (aV 55 26 (fun j:J=>j.cells.toList) (.slice A5 (js.length+1) c5) (js++[J0]))).set 1 (aF a.p (.cells (tcs { a with jA:=A5,jc:=c5} pol (js.length+1)) 122))++[aF w.heap.size (.cells s.cells 51),aF nb (.cells #[.int .i64 (-1)] 3)]) M);go_wp2_with (at_builtin;refine ah.out ?_)
  refine ah.mk ?_;refine dn 132 (.tmp 83) (.tmp 85) rfl rfl H7.out 16 rfl 0 rfl Tryz.underlying132 Ci (by decide) (by decide) rfl (by rw[show(w6.setCell ⟨a.p,12,none⟩ (.slice A5 (js.length+1) c5)).heap.size=w6.heap.size by simp[World.setCell]];rfl) (js.length+1) _ rfl rfl (by simp[Value.oneCell']) ?_;intro A8 c8 w8 h8;have H8:=ah.mk h8;clear h8;go_wp2_with fail
  rw[rounds_succ];go_wp2_with fail
  first|go_ret2|go_ret|skip
  rw[←HQ.out];refine .inl ⟨A8,c8,A5,c5,rfl,?_⟩;rw[←HJ0.out,Ws];exact Has.cut (((CL a pol now js bk y m).set 2 (aV 55 26 (fun j:J=>j.cells.toList) (.slice A5 (js.length+1) c5) (js++[J0]))).set 1 (aF a.p (.cells (tcs { a with jA:=A5,jc:=c5} pol (js.length+1)) 122))) _ (Has.cut (((CL a pol now js bk y m).set 2 (aV 55 26 (fun j:J=>j.cells.toList) (.slice A5 (js.length+1) c5) (js++[J0]))).set 1 (aF a.p (.cells (tcs { a with jA:=A5,jc:=c5} pol (js.length+1)) 122))++[aF w.heap.size (.cells s.cells 51)]) _ H8.out)
 ·injection h with h;subst h;clear HE;refine ah.mk ?_;go_wp2_with fail
  first|go_ret2|go_ret|skip
  rw[←HQ.out];exact .inr ⟨rfl,Has.cut (CL a pol now js bk y m) _ (Has.cut (CL a pol now js bk y m++[aF w.heap.size (.cells s.cells 51)]) _ H4.out)⟩
 all_goals (rcases HE.out with h|h<;>cases h)
end
end
end Go.Proofs.YtandhagfhppgaaaGreatDoor
