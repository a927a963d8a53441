/- Part 52 of a proof: contracts of the functions that the law reaches. No condition. -/
import Derived.Test.YtandhagfhppgaaaGreatDoorG4
import Derived.Test.YtandhagfhppgaaaGreatDoorG12
import Derived.Test.YtandhagfhppgaaaGreatDoorG33
import Derived.Test.YtandhagfhppgaaaGreatDoorG41
import Derived.Test.YtandhagfhppgaaaGreatDoorG43
import Derived.Test.YtandhagfhppgaaaGreatDoorG44
import Derived.Test.YtandhagfhppgaaaGreatDoorG45
import Derived.Test.YtandhagfhppgaaaGreatDoorG46
import Derived.Test.YtandhagfhppgaaaGreatDoorCards
import Derived.Test.YtandhagfhppgaaaGreatDoorTie
set_option linter.all false
set_option maxRecDepth 100000
set_option maxHeartbeats 16000000
namespace Go.Proofs.YtandhagfhppgaaaGreatDoor
section
open Go.RowKit
theorem Em:∀n:Fin 21,((dI n).data.toList.all (fun b=>decide (48≤b.toNat)&&decide (b.toNat≤57))=true∧1≤(dI n).size∧(dI n).size≤4)∧numeral (dI n)=true∧val (dI n)=n:=by decide
theorem kF {n:Nat}(h:n<21):pz (dI n):=by
 have hh:=(Em ⟨n,h⟩).1;refine⟨fun j b hb=>?_,hh.2.1,hh.2.2⟩;have:=List.all_eq_true.1 hh.1 b (List.mem_iff_getElem?.2 ⟨j,hb⟩);simpa using this
theorem lS {n:Nat}(h:n<21):numeral (dI n)=true:=(Em ⟨n,h⟩).2.1
theorem lT {n:Nat}(h:n<21):val (dI n)=n:=(Em ⟨n,h⟩).2.2
theorem Says.mk' {t:ByteArray}{ws:List ByteArray}(h:Lib.hasPrefix t.data.toList [115,117,98,109,105,116,10]=false∧(t.data.toList==[106,111,98,115])=false∧(t.data.toList==[98,111,111,107])=false∧t.size<4294967281∧Lib.countB t ⟨#[32]⟩+1=ws.length∧Lib.splitB ⟨#[32]⟩ 0 (Lib.countB t ⟨#[32]⟩) t=ws):Says t ws :=
 ⟨h.1,by rw[ByteArray.toList_eq];exact h.2.1,by rw[ByteArray.toList_eq];exact h.2.2.1,h.2.2.2.1,h.2.2.2.2.1,h.2.2.2.2.2⟩
theorem Ll:∀n:Fin 21,Lib.hasPrefix (⟨#[104,111,108,100,32]⟩++dI n).data.toList [115,117,98,109,105,116,10]=false∧((⟨#[104,111,108,100,32]⟩++dI n).data.toList==[106,111,98,115])=false∧((⟨#[104,111,108,100,32]⟩++dI n).data.toList==[98,111,111,107])=false∧(⟨#[104,111,108,100,32]⟩++dI n).size<4294967281∧Lib.countB (⟨#[104,111,108,100,32]⟩++dI n) ⟨#[32]⟩+1=([⟨#[104,111,108,100]⟩,dI n]:List ByteArray).length∧Lib.splitB ⟨#[32]⟩ 0 (Lib.countB (⟨#[104,111,108,100,32]⟩++dI n) ⟨#[32]⟩) (⟨#[104,111,108,100,32]⟩++dI n)=[⟨#[104,111,108,100]⟩,dI n]:=by decide
theorem Pj {n:Nat}(h:n<21):Says (⟨#[104,111,108,100,32]⟩++dI n) [⟨#[104,111,108,100]⟩,dI n]:=.mk' (Ll ⟨n,h⟩)
theorem Ad:∀n:Fin 21,Lib.hasPrefix (⟨#[114,101,108,101,97,115,101,32]⟩++dI n).data.toList [115,117,98,109,105,116,10]=false∧((⟨#[114,101,108,101,97,115,101,32]⟩++dI n).data.toList==[106,111,98,115])=false∧((⟨#[114,101,108,101,97,115,101,32]⟩++dI n).data.toList==[98,111,111,107])=false∧(⟨#[114,101,108,101,97,115,101,32]⟩++dI n).size<4294967281∧Lib.countB (⟨#[114,101,108,101,97,115,101,32]⟩++dI n) ⟨#[32]⟩+1=([⟨#[114,101,108,101,97,115,101]⟩,dI n]:List ByteArray).length∧Lib.splitB ⟨#[32]⟩ 0 (Lib.countB (⟨#[114,101,108,101,97,115,101,32]⟩++dI n) ⟨#[32]⟩) (⟨#[114,101,108,101,97,115,101,32]⟩++dI n)=[⟨#[114,101,108,101,97,115,101]⟩,dI n]:=by decide
theorem En {n:Nat}(h:n<21):Says (⟨#[114,101,108,101,97,115,101,32]⟩++dI n) [⟨#[114,101,108,101,97,115,101]⟩,dI n]:=.mk' (Ad ⟨n,h⟩)
theorem Eo:∀n:Fin 21,Lib.hasPrefix (⟨#[99,97,110,99,101,108,32]⟩++dI n).data.toList [115,117,98,109,105,116,10]=false∧((⟨#[99,97,110,99,101,108,32]⟩++dI n).data.toList==[106,111,98,115])=false∧((⟨#[99,97,110,99,101,108,32]⟩++dI n).data.toList==[98,111,111,107])=false∧(⟨#[99,97,110,99,101,108,32]⟩++dI n).size<4294967281∧Lib.countB (⟨#[99,97,110,99,101,108,32]⟩++dI n) ⟨#[32]⟩+1=([⟨#[99,97,110,99,101,108]⟩,dI n]:List ByteArray).length∧Lib.splitB ⟨#[32]⟩ 0 (Lib.countB (⟨#[99,97,110,99,101,108,32]⟩++dI n) ⟨#[32]⟩) (⟨#[99,97,110,99,101,108,32]⟩++dI n)=[⟨#[99,97,110,99,101,108]⟩,dI n]:=by decide
theorem Ia {n:Nat}(h:n<21):Says (⟨#[99,97,110,99,101,108,32]⟩++dI n) [⟨#[99,97,110,99,101,108]⟩,dI n]:=.mk' (Eo ⟨n,h⟩)
theorem Ae:∀n:Fin 21,Lib.hasPrefix (⟨#[114,101,113,117,101,117,101,32]⟩++dI n).data.toList [115,117,98,109,105,116,10]=false∧((⟨#[114,101,113,117,101,117,101,32]⟩++dI n).data.toList==[106,111,98,115])=false∧((⟨#[114,101,113,117,101,117,101,32]⟩++dI n).data.toList==[98,111,111,107])=false∧(⟨#[114,101,113,117,101,117,101,32]⟩++dI n).size<4294967281∧Lib.countB (⟨#[114,101,113,117,101,117,101,32]⟩++dI n) ⟨#[32]⟩+1=([⟨#[114,101,113,117,101,117,101]⟩,dI n]:List ByteArray).length∧Lib.splitB ⟨#[32]⟩ 0 (Lib.countB (⟨#[114,101,113,117,101,117,101,32]⟩++dI n) ⟨#[32]⟩) (⟨#[114,101,113,117,101,117,101,32]⟩++dI n)=[⟨#[114,101,113,117,101,117,101]⟩,dI n]:=by decide
theorem Ep {n:Nat}(h:n<21):Says (⟨#[114,101,113,117,101,117,101,32]⟩++dI n) [⟨#[114,101,113,117,101,117,101]⟩,dI n]:=.mk' (Ae ⟨n,h⟩)
theorem Lm:∀n:Fin 21,Lib.hasPrefix (⟨#[100,111,110,101,32]⟩++dI n).data.toList [115,117,98,109,105,116,10]=false∧((⟨#[100,111,110,101,32]⟩++dI n).data.toList==[106,111,98,115])=false∧((⟨#[100,111,110,101,32]⟩++dI n).data.toList==[98,111,111,107])=false∧(⟨#[100,111,110,101,32]⟩++dI n).size<4294967281∧Lib.countB (⟨#[100,111,110,101,32]⟩++dI n) ⟨#[32]⟩+1=([⟨#[100,111,110,101]⟩,dI n]:List ByteArray).length∧Lib.splitB ⟨#[32]⟩ 0 (Lib.countB (⟨#[100,111,110,101,32]⟩++dI n) ⟨#[32]⟩) (⟨#[100,111,110,101,32]⟩++dI n)=[⟨#[100,111,110,101]⟩,dI n]:=by decide
theorem Pm {n:Nat}(h:n<21):Says (⟨#[100,111,110,101,32]⟩++dI n) [⟨#[100,111,110,101]⟩,dI n]:=.mk' (Lm ⟨n,h⟩)
theorem Es:∀n:Fin 21,Lib.hasPrefix (⟨#[102,97,105,108,101,100,32]⟩++dI n).data.toList [115,117,98,109,105,116,10]=false∧((⟨#[102,97,105,108,101,100,32]⟩++dI n).data.toList==[106,111,98,115])=false∧((⟨#[102,97,105,108,101,100,32]⟩++dI n).data.toList==[98,111,111,107])=false∧(⟨#[102,97,105,108,101,100,32]⟩++dI n).size<4294967281∧Lib.countB (⟨#[102,97,105,108,101,100,32]⟩++dI n) ⟨#[32]⟩+1=([⟨#[102,97,105,108,101,100]⟩,dI n]:List ByteArray).length∧Lib.splitB ⟨#[32]⟩ 0 (Lib.countB (⟨#[102,97,105,108,101,100,32]⟩++dI n) ⟨#[32]⟩) (⟨#[102,97,105,108,101,100,32]⟩++dI n)=[⟨#[102,97,105,108,101,100]⟩,dI n]:=by decide
theorem Ib {n:Nat}(h:n<21):Says (⟨#[102,97,105,108,101,100,32]⟩++dI n) [⟨#[102,97,105,108,101,100]⟩,dI n]:=.mk' (Es ⟨n,h⟩)
theorem Lp:∀n:Fin 21,Lib.hasPrefix (⟨#[116,105,99,107,32]⟩++dI n).data.toList [115,117,98,109,105,116,10]=false∧((⟨#[116,105,99,107,32]⟩++dI n).data.toList==[106,111,98,115])=false∧((⟨#[116,105,99,107,32]⟩++dI n).data.toList==[98,111,111,107])=false∧(⟨#[116,105,99,107,32]⟩++dI n).size<4294967281∧Lib.countB (⟨#[116,105,99,107,32]⟩++dI n) ⟨#[32]⟩+1=([⟨#[116,105,99,107]⟩,dI n]:List ByteArray).length∧Lib.splitB ⟨#[32]⟩ 0 (Lib.countB (⟨#[116,105,99,107,32]⟩++dI n) ⟨#[32]⟩) (⟨#[116,105,99,107,32]⟩++dI n)=[⟨#[116,105,99,107]⟩,dI n]:=by decide
theorem Pn {n:Nat}(h:n<21):Says (⟨#[116,105,99,107,32]⟩++dI n) [⟨#[116,105,99,107]⟩,dI n]:=.mk' (Lp ⟨n,h⟩)
theorem Lr:∀n:Fin 8,Lib.hasPrefix (⟨#[100,111,119,110,32,109,97,105,110,32]⟩++dI n).data.toList [115,117,98,109,105,116,10]=false∧((⟨#[100,111,119,110,32,109,97,105,110,32]⟩++dI n).data.toList==[106,111,98,115])=false∧((⟨#[100,111,119,110,32,109,97,105,110,32]⟩++dI n).data.toList==[98,111,111,107])=false∧(⟨#[100,111,119,110,32,109,97,105,110,32]⟩++dI n).size<4294967281∧Lib.countB (⟨#[100,111,119,110,32,109,97,105,110,32]⟩++dI n) ⟨#[32]⟩+1=([⟨#[100,111,119,110]⟩,aP,dI n]:List ByteArray).length∧Lib.splitB ⟨#[32]⟩ 0 (Lib.countB (⟨#[100,111,119,110,32,109,97,105,110,32]⟩++dI n) ⟨#[32]⟩) (⟨#[100,111,119,110,32,109,97,105,110,32]⟩++dI n)=[⟨#[100,111,119,110]⟩,aP,dI n]:=by decide
theorem Po {n:Nat}(h:n<8):Says (⟨#[100,111,119,110,32,109,97,105,110,32]⟩++dI n) [⟨#[100,111,119,110]⟩,aP,dI n]:=.mk' (Lr ⟨n,h⟩)
theorem Si:∀n:Fin 8,Lib.hasPrefix (⟨#[117,112,32,109,97,105,110,32]⟩++dI n).data.toList [115,117,98,109,105,116,10]=false∧((⟨#[117,112,32,109,97,105,110,32]⟩++dI n).data.toList==[106,111,98,115])=false∧((⟨#[117,112,32,109,97,105,110,32]⟩++dI n).data.toList==[98,111,111,107])=false∧(⟨#[117,112,32,109,97,105,110,32]⟩++dI n).size<4294967281∧Lib.countB (⟨#[117,112,32,109,97,105,110,32]⟩++dI n) ⟨#[32]⟩+1=([⟨#[117,112]⟩,aP,dI n]:List ByteArray).length∧Lib.splitB ⟨#[32]⟩ 0 (Lib.countB (⟨#[117,112,32,109,97,105,110,32]⟩++dI n) ⟨#[32]⟩) (⟨#[117,112,32,109,97,105,110,32]⟩++dI n)=[⟨#[117,112]⟩,aP,dI n]:=by decide
theorem UG {n:Nat}(h:n<8):Says (⟨#[117,112,32,109,97,105,110,32]⟩++dI n) [⟨#[117,112]⟩,aP,dI n]:=.mk' (Si ⟨n,h⟩)
end
section
open Go.RowKit Go.ChangeMaps
section
variable {w0 w w1:World}{M:List bV}
set_option maxRecDepth 1000000 in
theorem UH {x:Nat}{pol:Int}{now:Nat}{js:List J}{bk:List Ch}{fl:List Int}{k:Nat}(hS:dL M w0 w x pol now js bk fl k)(dK:1≤pol∧pol≤4)(G:dJ now js bk)(hk:k≤900)
 {mm:Int} (HM:w0.cell? ⟨0,0,none⟩=some (.int .i64 mm)) (TT:∀W,Below w0.heap.size w0 W→Tab W) (t s:ByteArray) (ht:Says t [⟨#[116,105,99,107]⟩,s]) (hs:pz s) (hn:numeral s=true) (hv:1≤val s∧val s≤20) (dB:now+val s≤10000) :
 Calls Tryz.prog 11 #[.pointer (some ⟨x,0,none⟩),.string t] w fun e w'=>e=.returned (.string (nD 0))∧∃(bG:List J) (bk':List Ch),Many now js bk (val s) bG bk'∧dL M w0 w' x pol ((now+val s:Nat):Int) bG bk' fl k:=by
 refine named fun R HQ=>?_;obtain⟨w3,w4,w5,w6,w7,w8,w9,wA,wB,MP⟩:=jC w x;have MM:=ah.mk MP;have b8:=MP.b8;have b9:=MP.b9;have vG:=MP.vG;have CP:ah (∀W,Calls Tryz.prog 28 #[.string t,.string ⟨#[115,117,98,109,105,116,10]⟩] W fun e w'=>e=.returned (.tuple #[.string ⟨(Lib.trimPrefix t.data.toList [115,117,98,109,105,116,10]).toArray⟩,.bool false])∧w'=W):=⟨fun W=>(Tryz.strings_CutPrefix t ⟨#[115,117,98,109,105,116,10]⟩ W).mono fun e w' h=>by rw[show(⟨#[115,117,98,109,105,116,10]⟩:ByteArray).data.toList=[115,117,98,109,105,116,10]from rfl,ht.pre]at h;exact h⟩;have SP:ah (Calls Tryz.prog 46 #[.string t,.string ⟨#[32]⟩] wB fun e w'=>e=.returned (.slice (some ⟨wB.heap.size,0,none⟩) 2 2)∧w'=wB.alloc (.cells #[.string ⟨#[116,105,99,107]⟩,.string s] 9)):=⟨(Tryz.strings_Split t ⟨#[32]⟩ mm wB ht.size (ak (hS.below MP.h.old).old HM) (by decide)).mono fun e w' h=>by rw[ht.count,ht.split]at h;exact h⟩;have HC:=MP.h.bg (.cells #[.string ⟨#[116,105,99,107]⟩,.string s] 9);have LK:=dU eX HC 1 rfl 104 9 101 Tryz.underlying104 Tryz.underlying9 .nilFunc (lQ _) ⟨#[116,105,99,107]⟩ true;rw[if_pos rfl]at LK;have S1:=ah.mk (hS.front (show Has w (wB.alloc (.cells #[.string ⟨#[116,105,99,107]⟩,.string s] 9)) [aF w.heap.size (.cells #[.pointer (some ⟨x,0,none⟩)] 23),aF wB.heap.size (.cells #[.string ⟨#[116,105,99,107]⟩,.string s] 9)]from(HC.drop 1).drop 1));have c0:(wB.alloc (.cells #[.string ⟨#[116,105,99,107]⟩,.string s] 9)).cell? ⟨wB.heap.size,0,none⟩=some (.string ⟨#[116,105,99,107]⟩):=by rw[aj (heap_alloc_new wB _)];rfl
 have c1:(wB.alloc (.cells #[.string ⟨#[116,105,99,107]⟩,.string s] 9)).cell? ⟨wB.heap.size,1,none⟩=some (.string s):=by rw[aj (heap_alloc_new wB _)];rfl
 have AC:=ah.mk (jl s hs hn wB.heap.size 1 c1 (by simp));have hi:=fun w=>iw (.int .i64 (val s:Int)) 20 w;have hmm:=@run_makeMap Tryz.prog;have tj:=ht.jobs;have tb:=ht.book;have PP:=ah.mk dK;have GG:=ah.mk G;have uJ:=ah.mk TT;have HV:=ah.mk hv;clear hS dK G HM TT ht hs hn MP HC hv;have wK:ah ((Instr.lookup 104 (.map (some (w.heap.size+1))) (.string ⟨#[116,105,99,107]⟩) true).run Tryz.prog (wB.alloc (.cells #[.string ⟨#[116,105,99,107]⟩,.string s] 9))=.ok (.tuple #[.func (.func 42) #[.pointer (some ⟨x,0,none⟩)] #[],.bool true]) (wB.alloc (.cells #[.string ⟨#[116,105,99,107]⟩,.string s] 9))):=⟨by rw[show look (zY x w.heap.size) ⟨#[116,105,99,107]⟩=some (.func (.func 42) #[.pointer (some ⟨x,0,none⟩)] #[])from rfl]at LK;exact LK⟩;clear LK;have hneq:∀W,(binOp .neq 9 (.string ⟨#[116,105,99,107]⟩) (.string ⟨#[116,105,99,107]⟩)).run Tryz.prog W=.ok (.bool false) W:=fun _=>by kernel_rfl
 go_enter Tryz.func11,Tryz.ntmps11;go_wp2_with (go_at_call 28;refine(CP.out _).mono ?_;rintro e w' ⟨rfl,hw⟩;obtain rfl:=hw.symm;clear hw;refine ah.out ?_)
 refine ah.mk ?_;go_wp2_with (refine aG rfl 104 _ _ _ rfl rfl rfl rfl MM.out.u0 ?_;refine ah.out ?_)
 refine ah.mk ?_;go_wp2_with (refine aG rfl 104 _ _ _ rfl rfl rfl rfl MM.out.u1 ?_;refine ah.out ?_)
 refine ah.mk ?_;go_wp2_with (refine aG rfl 104 _ _ _ rfl rfl rfl rfl MM.out.u2 ?_;refine ah.out ?_)
 refine ah.mk ?_;go_wp2_with (refine aG rfl 104 _ _ _ rfl rfl rfl rfl MM.out.u3 ?_;refine ah.out ?_)
 refine ah.mk ?_;go_wp2_with (refine aG rfl 104 _ _ _ rfl rfl rfl rfl MM.out.u4 ?_;refine ah.out ?_)
 refine ah.mk ?_;go_wp2_with (refine aG rfl 104 _ _ _ rfl rfl rfl rfl MM.out.u5 ?_;refine ah.out ?_)
 refine ah.mk ?_;go_wp2_with (refine aG rfl 104 _ _ _ rfl rfl rfl rfl MM.out.u6 ?_;refine ah.out ?_)
 refine ah.mk ?_;go_wp2_with (refine aG rfl 105 _ _ _ rfl rfl rfl rfl MM.out.v0 ?_;refine ah.out ?_)
 refine ah.mk ?_;go_wp2_with (refine aG rfl 105 _ _ _ rfl rfl rfl rfl MM.out.v1 ?_;refine ah.out ?_)
 refine ah.mk ?_;go_wp2_with (go_at_call 46;refine SP.out.mono ?_;rintro e w' ⟨rfl,hw⟩;obtain rfl:=hw.symm;clear hw;refine ah.out ?_)
 clear SP CP tj tb b8 b9 vG MM hmm;refine ah.mk ?_;go_wp2_with (refine fH rfl 104 _ _ true rfl rfl rfl wK.out ?_;refine ah.out ?_)
 clear wK;refine ah.mk ?_;go_wp2_with (go_at_call 47;refine AC.out.mono ?_;rintro e wD ⟨A,cA,rfl,hD⟩;have HD:=ah.mk hD;clear hD;refine ah.out ?_)
 obtain⟨g,rfl,_⟩:=dD HD.out 0 rfl rfl (by simp);have cg:wD.cell? ⟨g,0,none⟩=some (.iface 3 (.int .i64 (val s:Int))):=by
  have:=bP HD.out 0 rfl 0 [.iface 3 (.int .i64 (val s:Int))] ig 0 _ rfl;simpa using this
 have S2:=ah.mk (S1.out.below HD.out.old);have bD:wD.cell? ⟨w.heap.size,0,none⟩=some (.pointer (some ⟨x,0,none⟩)):=by rw[aj S2.out.blk0];rfl
 have FC:=ah.mk (GR S2.out PP.out GG.out (val s) HV.out.1 HV.out.2 dB (by omega));clear AC c0 c1 S1 HD S2 dB;refine ah.mk ?_;go_wp2_with (go_at_call 42;refine FC.out.mono ?_;rintro e wE ⟨rfl,jo,bk2,ht,hs3⟩;have S3:=ah.mk hs3;have HT:=ah.mk ht;clear hs3 ht;refine ah.out ?_)
 clear FC cg bD;have bE:wE.cell? ⟨w.heap.size,0,none⟩=some (.pointer (some ⟨x,0,none⟩)):=by rw[aj S3.out.blk0];rfl
 have cE:wE.cell? ⟨wB.heap.size,0,none⟩=some (.string ⟨#[116,105,99,107]⟩):=by rw[aj S3.out.DY];rfl
 have TC:=ah.mk (dS 0 ⟨by decide,by decide⟩ (uJ.out _ S3.out.old));refine ah.mk ?_;go_wp2_with (go_at_call 27;refine TC.out.mono ?_;rintro e wG ⟨rfl,hb⟩;have HG:=ah.mk hb;clear hb)
 first|go_ret2|go_ret|skip
 rw[←HQ.out];exact⟨rfl,jo,bk2,HT.out,(S3.out.below HG.out).drop1.drop1⟩
end
end
section
open Go.RowKit Go.ChangeMaps
section
variable {w:World}
set_option maxRecDepth 1000000 in
theorem Ih (nn sz lim:Int)(ac hi rq:Bool):Calls Tryz.prog 8 #[.agg #[.int .i64 0,.int .i64 nn,.int .i64 sz,.int .i64 lim,.bool ac,.bool hi,.bool rq]] w fun e w'=>e=.returned (.string (lb ([115,117,98,109,105,116,10]++(dV (moveSpec sz lim ac hi rq).account.data.toList (moveSpec sz lim ac hi rq).qos.data.toList (moveSpec sz lim ac hi rq).size (moveSpec sz lim ac hi rq).limit rq))))∧Below w.heap.size w w':=by
 refine named fun R HQ=>?_;have M12:=ah.mk fun W=>cZ (w:=W) nn 12 (by decide) (by decide);have wU:=ah.mk fun W=>bF (w:=W) (cu nn 12) (Nat.lt_trans (dh nn (n:=12) (by decide)) (by decide));have SC:=ah.mk fun W=>oM (w:=W) sz lim ac hi rq;have hT:(lb (dV (moveSpec sz lim ac hi rq).account.data.toList (moveSpec sz lim ac hi rq).qos.data.toList (moveSpec sz lim ac hi rq).size (moveSpec sz lim ac hi rq).limit rq)).size≤400:=by
  have hs:=jm sz lim ac hi rq;have Iy:small (moveSpec sz lim ac hi rq).account:=by
   rcases hs.1 with h|h<;>rw[h]
   ·exact jk
   ·exact jO
  have Iz:small (moveSpec sz lim ac hi rq).qos:=by
   rcases hs.2.1 with h|h<;>rw[h]
   ·exact eF [110,111,114,109,97,108] rfl (by decide) (by decide)
   ·exact eF [104,105,103,104] rfl (by decide) (by decide)
  have:=oL (moveSpec sz lim ac hi rq).account.data.toList (moveSpec sz lim ac hi rq).qos.data.toList (by rw[o8];exact Iy) (by rw[o8];exact Iz) (moveSpec sz lim ac hi rq).size (moveSpec sz lim ac hi rq).limit rq;rw[gK];unfold dV;simp only[List.length_append,List.length_cons,List.length_nil];omega
 have FIN:=ah.mk (oK [115,117,98,109,105,116,10] (dV (moveSpec sz lim ac hi rq).account.data.toList (moveSpec sz lim ac hi rq).qos.data.toList (moveSpec sz lim ac hi rq).size (moveSpec sz lim ac hi rq).limit rq));obtain⟨T,hT2⟩:∃T,T=lb (dV (moveSpec sz lim ac hi rq).account.data.toList (moveSpec sz lim ac hi rq).qos.data.toList (moveSpec sz lim ac hi rq).size (moveSpec sz lim ac hi rq).limit rq):=⟨_,rfl⟩;rw[←hT2]at SC hT FIN;have hsz:¬9223372036854775807<7+T.size:=by omega
 clear hT2 hT;have C0:ah (∀W,Below (w.alloc (.cells #[.int .i64 0,.int .i64 nn,.int .i64 sz,.int .i64 lim,.bool ac,.bool hi,.bool rq] 40)).heap.size (w.alloc (.cells #[.int .i64 0,.int .i64 nn,.int .i64 sz,.int .i64 lim,.bool ac,.bool hi,.bool rq] 40)) W→W.cell? ⟨w.heap.size,0,none⟩=some (.int .i64 0)∧W.cell? ⟨w.heap.size,1,none⟩=some (.int .i64 nn)∧W.cell? ⟨w.heap.size,2,none⟩=some (.int .i64 sz)∧W.cell? ⟨w.heap.size,3,none⟩=some (.int .i64 lim)∧W.cell? ⟨w.heap.size,4,none⟩=some (.bool ac)∧W.cell? ⟨w.heap.size,5,none⟩=some (.bool hi)∧W.cell? ⟨w.heap.size,6,none⟩=some (.bool rq)):=⟨fun W h=>by
  refine⟨?_,?_,?_,?_,?_,?_,?_⟩;all_goals exact ak h (by rw[aj (heap_alloc_new w _)];rfl)⟩
 have BW:=ah.mk (au (Below.refl w.heap.size w) (.cells #[.int .i64 0,.int .i64 nn,.int .i64 sz,.int .i64 lim,.bool ac,.bool hi,.bool rq] 40));go_enter Tryz.func8,Tryz.ntmps8;go_wp2_with (first|(go_at_call 17;have _t:=H2.out;clear _t;refine(SC.out _).mono ?_;rintro e w3 ⟨rfl,hb⟩;have H3:=ah.mk (ay H2.out (by have:=H2.out.size;omega) hb);clear hb)|(go_at_call 20;refine(wU.out _).mono ?_;rintro e w2 ⟨rfl,hb⟩;obtain⟨c0,c1,c2,c3,c4,c5,c6⟩:=C0.out _ hb;have H2:=ah.mk (ay BW.out (by simp) hb:Below w.heap.size w w2);clear hb)|(go_at_call 7;refine(M12.out _).mono ?_;rintro e w' ⟨rfl,hw⟩;obtain rfl:=hw.symm;clear hw))
 first|go_ret2|go_ret|skip
 rw[←HQ.out,←FIN.out];exact⟨rfl,H3.out⟩
set_option maxRecDepth 1000000 in
theorem Ii (nn sz lim:Int)(ac hi rq:Bool):Calls Tryz.prog 8 #[.agg #[.int .i64 1,.int .i64 nn,.int .i64 sz,.int .i64 lim,.bool ac,.bool hi,.bool rq]] w fun e w'=>e=.returned (.string (lb ([115,117,98,109,105,116,10]++(dV (moveSpec sz lim ac hi rq).account.data.toList (moveSpec sz lim ac hi rq).qos.data.toList (moveSpec sz lim ac hi rq).size (moveSpec sz lim ac hi rq).limit rq))))∧Below w.heap.size w w':=by
 refine named fun R HQ=>?_;have M12:=ah.mk fun W=>cZ (w:=W) nn 12 (by decide) (by decide);have wU:=ah.mk fun W=>bF (w:=W) (cu nn 12) (Nat.lt_trans (dh nn (n:=12) (by decide)) (by decide));have SC:=ah.mk fun W=>oM (w:=W) sz lim ac hi rq;have hT:(lb (dV (moveSpec sz lim ac hi rq).account.data.toList (moveSpec sz lim ac hi rq).qos.data.toList (moveSpec sz lim ac hi rq).size (moveSpec sz lim ac hi rq).limit rq)).size≤400:=by
  have hs:=jm sz lim ac hi rq;have Iy:small (moveSpec sz lim ac hi rq).account:=by
   rcases hs.1 with h|h<;>rw[h]
   ·exact jk
   ·exact jO
  have Iz:small (moveSpec sz lim ac hi rq).qos:=by
   rcases hs.2.1 with h|h<;>rw[h]
   ·exact eF [110,111,114,109,97,108] rfl (by decide) (by decide)
   ·exact eF [104,105,103,104] rfl (by decide) (by decide)
  have:=oL (moveSpec sz lim ac hi rq).account.data.toList (moveSpec sz lim ac hi rq).qos.data.toList (by rw[o8];exact Iy) (by rw[o8];exact Iz) (moveSpec sz lim ac hi rq).size (moveSpec sz lim ac hi rq).limit rq;rw[gK];unfold dV;simp only[List.length_append,List.length_cons,List.length_nil];omega
 have FIN:=ah.mk (oK [115,117,98,109,105,116,10] (dV (moveSpec sz lim ac hi rq).account.data.toList (moveSpec sz lim ac hi rq).qos.data.toList (moveSpec sz lim ac hi rq).size (moveSpec sz lim ac hi rq).limit rq));obtain⟨T,hT2⟩:∃T,T=lb (dV (moveSpec sz lim ac hi rq).account.data.toList (moveSpec sz lim ac hi rq).qos.data.toList (moveSpec sz lim ac hi rq).size (moveSpec sz lim ac hi rq).limit rq):=⟨_,rfl⟩;rw[←hT2]at SC hT FIN;have hsz:¬9223372036854775807<7+T.size:=by omega
 clear hT2 hT;have C0:ah (∀W,Below (w.alloc (.cells #[.int .i64 1,.int .i64 nn,.int .i64 sz,.int .i64 lim,.bool ac,.bool hi,.bool rq] 40)).heap.size (w.alloc (.cells #[.int .i64 1,.int .i64 nn,.int .i64 sz,.int .i64 lim,.bool ac,.bool hi,.bool rq] 40)) W→W.cell? ⟨w.heap.size,0,none⟩=some (.int .i64 1)∧W.cell? ⟨w.heap.size,1,none⟩=some (.int .i64 nn)∧W.cell? ⟨w.heap.size,2,none⟩=some (.int .i64 sz)∧W.cell? ⟨w.heap.size,3,none⟩=some (.int .i64 lim)∧W.cell? ⟨w.heap.size,4,none⟩=some (.bool ac)∧W.cell? ⟨w.heap.size,5,none⟩=some (.bool hi)∧W.cell? ⟨w.heap.size,6,none⟩=some (.bool rq)):=⟨fun W h=>by
  refine⟨?_,?_,?_,?_,?_,?_,?_⟩;all_goals exact ak h (by rw[aj (heap_alloc_new w _)];rfl)⟩
 have BW:=ah.mk (au (Below.refl w.heap.size w) (.cells #[.int .i64 1,.int .i64 nn,.int .i64 sz,.int .i64 lim,.bool ac,.bool hi,.bool rq] 40));go_enter Tryz.func8,Tryz.ntmps8;go_wp2_with (first|(go_at_call 17;have _t:=H2.out;clear _t;refine(SC.out _).mono ?_;rintro e w3 ⟨rfl,hb⟩;have H3:=ah.mk (ay H2.out (by have:=H2.out.size;omega) hb);clear hb)|(go_at_call 20;refine(wU.out _).mono ?_;rintro e w2 ⟨rfl,hb⟩;obtain⟨c0,c1,c2,c3,c4,c5,c6⟩:=C0.out _ hb;have H2:=ah.mk (ay BW.out (by simp) hb:Below w.heap.size w w2);clear hb)|(go_at_call 7;refine(M12.out _).mono ?_;rintro e w' ⟨rfl,hw⟩;obtain rfl:=hw.symm;clear hw))
 first|go_ret2|go_ret|skip
 rw[←HQ.out,←FIN.out];exact⟨rfl,H3.out⟩
set_option maxRecDepth 1000000 in
theorem Ij (nn sz lim:Int)(ac hi rq:Bool):Calls Tryz.prog 8 #[.agg #[.int .i64 2,.int .i64 nn,.int .i64 sz,.int .i64 lim,.bool ac,.bool hi,.bool rq]] w fun e w'=>e=.returned (.string (lb ([115,117,98,109,105,116,10]++(dV (moveSpec sz lim ac hi rq).account.data.toList (moveSpec sz lim ac hi rq).qos.data.toList (moveSpec sz lim ac hi rq).size (moveSpec sz lim ac hi rq).limit rq))))∧Below w.heap.size w w':=by
 refine named fun R HQ=>?_;have M12:=ah.mk fun W=>cZ (w:=W) nn 12 (by decide) (by decide);have wU:=ah.mk fun W=>bF (w:=W) (cu nn 12) (Nat.lt_trans (dh nn (n:=12) (by decide)) (by decide));have SC:=ah.mk fun W=>oM (w:=W) sz lim ac hi rq;have hT:(lb (dV (moveSpec sz lim ac hi rq).account.data.toList (moveSpec sz lim ac hi rq).qos.data.toList (moveSpec sz lim ac hi rq).size (moveSpec sz lim ac hi rq).limit rq)).size≤400:=by
  have hs:=jm sz lim ac hi rq;have Iy:small (moveSpec sz lim ac hi rq).account:=by
   rcases hs.1 with h|h<;>rw[h]
   ·exact jk
   ·exact jO
  have Iz:small (moveSpec sz lim ac hi rq).qos:=by
   rcases hs.2.1 with h|h<;>rw[h]
   ·exact eF [110,111,114,109,97,108] rfl (by decide) (by decide)
   ·exact eF [104,105,103,104] rfl (by decide) (by decide)
  have:=oL (moveSpec sz lim ac hi rq).account.data.toList (moveSpec sz lim ac hi rq).qos.data.toList (by rw[o8];exact Iy) (by rw[o8];exact Iz) (moveSpec sz lim ac hi rq).size (moveSpec sz lim ac hi rq).limit rq;rw[gK];unfold dV;simp only[List.length_append,List.length_cons,List.length_nil];omega
 have FIN:=ah.mk (oK [115,117,98,109,105,116,10] (dV (moveSpec sz lim ac hi rq).account.data.toList (moveSpec sz lim ac hi rq).qos.data.toList (moveSpec sz lim ac hi rq).size (moveSpec sz lim ac hi rq).limit rq));obtain⟨T,hT2⟩:∃T,T=lb (dV (moveSpec sz lim ac hi rq).account.data.toList (moveSpec sz lim ac hi rq).qos.data.toList (moveSpec sz lim ac hi rq).size (moveSpec sz lim ac hi rq).limit rq):=⟨_,rfl⟩;rw[←hT2]at SC hT FIN;have hsz:¬9223372036854775807<7+T.size:=by omega
 clear hT2 hT;have C0:ah (∀W,Below (w.alloc (.cells #[.int .i64 2,.int .i64 nn,.int .i64 sz,.int .i64 lim,.bool ac,.bool hi,.bool rq] 40)).heap.size (w.alloc (.cells #[.int .i64 2,.int .i64 nn,.int .i64 sz,.int .i64 lim,.bool ac,.bool hi,.bool rq] 40)) W→W.cell? ⟨w.heap.size,0,none⟩=some (.int .i64 2)∧W.cell? ⟨w.heap.size,1,none⟩=some (.int .i64 nn)∧W.cell? ⟨w.heap.size,2,none⟩=some (.int .i64 sz)∧W.cell? ⟨w.heap.size,3,none⟩=some (.int .i64 lim)∧W.cell? ⟨w.heap.size,4,none⟩=some (.bool ac)∧W.cell? ⟨w.heap.size,5,none⟩=some (.bool hi)∧W.cell? ⟨w.heap.size,6,none⟩=some (.bool rq)):=⟨fun W h=>by
  refine⟨?_,?_,?_,?_,?_,?_,?_⟩;all_goals exact ak h (by rw[aj (heap_alloc_new w _)];rfl)⟩
 have BW:=ah.mk (au (Below.refl w.heap.size w) (.cells #[.int .i64 2,.int .i64 nn,.int .i64 sz,.int .i64 lim,.bool ac,.bool hi,.bool rq] 40));go_enter Tryz.func8,Tryz.ntmps8;go_wp2_with (first|(go_at_call 17;have _t:=H2.out;clear _t;refine(SC.out _).mono ?_;rintro e w3 ⟨rfl,hb⟩;have H3:=ah.mk (ay H2.out (by have:=H2.out.size;omega) hb);clear hb)|(go_at_call 20;refine(wU.out _).mono ?_;rintro e w2 ⟨rfl,hb⟩;obtain⟨c0,c1,c2,c3,c4,c5,c6⟩:=C0.out _ hb;have H2:=ah.mk (ay BW.out (by simp) hb:Below w.heap.size w w2);clear hb)|(go_at_call 7;refine(M12.out _).mono ?_;rintro e w' ⟨rfl,hw⟩;obtain rfl:=hw.symm;clear hw))
 first|go_ret2|go_ret|skip
 rw[←HQ.out,←FIN.out];exact⟨rfl,H3.out⟩
end
end
section
open Go.RowKit Go.ChangeMaps
section
def Keeps (T:ByteArray):Prop:=∀(w0 w:World) (M:List bV) (x:Nat) (pol:Int) (now:Nat) (js:List J) (bk:List Ch) (fl:List Int) (k:Nat) (mm:Int),dL M w0 w x pol now js bk fl k→(1≤pol∧pol≤4)→dJ now js bk→now≤10000→k≤900→js.length≤400→w0.cell? ⟨0,0,none⟩=some (.int .i64 mm)→(∀W,Below w0.heap.size w0 W→Tab W)→
 Calls Tryz.prog 11 #[.pointer (some ⟨x,0,none⟩),.string T] w fun e w'=>∃(s:ByteArray) (bG:List J) (bk':List Ch) (Ic:List Int) (k':Nat),e=.returned (.string s)∧k'≤k+1∧dJ now bG bk'∧paid bk'+pays bG now=paid bk+pays js now∧bG.length≤js.length+1∧dL M w0 w' x pol now bG bk' Ic k'
theorem mg {T:ByteArray}(h:∀(w0 w:World) (M:List bV) (x:Nat) (pol:Int) (now:Nat) (js:List J) (bk:List Ch) (fl:List Int) (k:Nat) (mm:Int),dL M w0 w x pol now js bk fl k→(1≤pol∧pol≤4)→dJ now js bk→now≤10000→k≤900→w0.cell? ⟨0,0,none⟩=some (.int .i64 mm)→(∀W,Below w0.heap.size w0 W→Tab W)→
 Calls Tryz.prog 11 #[.pointer (some ⟨x,0,none⟩),.string T] w fun e w'=>∃(r:Int) (bG:List J) (bk':List Ch),e=.returned (.string (nD r))∧(code r∧gV now js bk bG bk')∧dL M w0 w' x pol now bG bk' fl k):Keeps T:=fun w0 w M x pol now js bk fl k mm hS hp G hn hk hl HM TT =>
 (h w0 w M x pol now js bk fl k mm hS hp G hn hk HM TT).mono fun e w' ⟨r,bG,bk',he,hw,hs⟩=>by
  obtain⟨g1,g2,g3⟩:=hw.2.sane G;exact⟨_,bG,bk',fl,k,he,by omega,g1,g2,by omega,hs⟩
theorem Cc {T:ByteArray}(h:∀(w0 w:World) (M:List bV) (x:Nat) (pol:Int) (now:Nat) (js:List J) (bk:List Ch) (fl:List Int) (k:Nat) (mm:Int),dL M w0 w x pol now js bk fl k→(1≤pol∧pol≤4)→dJ now js bk→now≤10000→k≤900→w0.cell? ⟨0,0,none⟩=some (.int .i64 mm)→(∀W,Below w0.heap.size w0 W→Tab W)→
 Calls Tryz.prog 11 #[.pointer (some ⟨x,0,none⟩),.string T] w fun e w'=>∃(r:Int) (bG:List J) (bk':List Ch) (Ic:List Int),e=.returned (.string (nD r))∧(code r∧gV now js bk bG bk')∧dL M w0 w' x pol now bG bk' Ic (k+1)):Keeps T:=fun w0 w M x pol now js bk fl k mm hS hp G hn hk hl HM TT =>
 (h w0 w M x pol now js bk fl k mm hS hp G hn hk HM TT).mono fun e w' ⟨r,bG,bk',Ic,he,hw,hs⟩=>by
  obtain⟨g1,g2,g3⟩:=hw.2.sane G;exact⟨_,bG,bk',Ic,k+1,he,by omega,g1,g2,by omega,hs⟩
theorem oN (s:Spec)(hs:s.ok):Keeps (lb ([115,117,98,109,105,116,10]++dV s.account.data.toList s.qos.data.toList s.size s.limit s.gX)):=fun w0 w M x pol now js bk fl k mm hS hp G hn hk hl HM TT =>
 (O8 hS hp G hn hk hl HM TT s hs).mono fun e w' h=>by
  rcases h with⟨he,h⟩|⟨he,bG,ht,h⟩
  ·exact⟨_,js,bk,fl,k,he,by omega,G,rfl,by omega,h⟩
  ·obtain⟨g1,g2,g3⟩:=(ht.went bk).sane (G.new s hs hl);rw[RI]at g2;exact⟨_,bG,bk,fl,k,he,by omega,g1,g2,by rw[g3];simp,h⟩
theorem wM {w0 w:World}{M:List bV}{x:Nat}{pol:Int}{now:Nat}{js:List J}{bk:List Ch}{fl:List Int}{k:Nat}{mm:Int}(hS:dL M w0 w x pol now js bk fl k)(hp:1≤pol∧pol≤4)(G:dJ now js bk)(hn:now+1≤10000)(hk:k≤900)(HM:w0.cell? ⟨0,0,none⟩=some (.int .i64 mm))(TT:∀W,Below w0.heap.size w0 W→Tab W) :
 Calls Tryz.prog 11 #[.pointer (some ⟨x,0,none⟩),.string ⟨#[116,105,99,107,32,49]⟩] w fun e w'=>∃(s:ByteArray) (bG:List J) (bk':List Ch),e=.returned (.string s)∧dJ ((now+1:Nat):Int) bG bk'∧paid bk'+pays bG ((now+1:Nat):Int)=paid bk+pays js now+loads js∧bG.length=js.length∧dL M w0 w' x pol ((now+1:Nat):Int) bG bk' fl k:=by
 have ht:Says ⟨#[116,105,99,107,32,49]⟩ [⟨#[116,105,99,107]⟩,dI 1]:=by
  have:=Pn (n:=1) (by decide);rwa [show(⟨#[116,105,99,107,32]⟩++dI 1:ByteArray)=⟨#[116,105,99,107,32,49]⟩from by decide]at this
 have hv:val (dI 1)=1:=lT (by decide);have h:=UH hS hp G hk HM TT _ _ ht (kF (by decide)) (lS (by decide)) (by rw[hv];exact⟨by decide,by decide⟩) (by rw[hv];exact hn);rw[hv]at h;refine h.mono fun e w' ⟨he,bG,bk',⟨l7,bk1,⟨e1,e2⟩,hw⟩,hs⟩=>?_;rw[e1,e2]at hw;have p:=AA js (now:Int);have g:=hw.sane (by have:=G.tick (by omega);exact this);refine⟨_,bG,bk',he,g.1,?_,g.2.2,hs⟩;have e1:((now+0+1:Nat):Int)=(now:Int)+1:=rfl;have g2:=g.2.1;rw[e1]at g2;show paid bk'+pays bG ((now:Int)+1)=_
 omega
theorem UW:∀n:Fin 12,((⟨#[100,111,110,101,32]⟩++dI n).toList==[116,105,99,107,32,49])=false:=by
 intro n;rw[ByteArray.toList_eq];revert n
 decide
theorem LH (n:Nat)(h:n<12):Keeps (⟨#[100,111,110,101,32]⟩++dI n):=mg fun w0 w M x pol now js bk fl k mm hS hp G hn hk HM TT =>
 do_done hS hp G hn hk HM TT _ _ (Pm (n:=n) (by omega)) (kF (by omega)) (lS (by omega)) (by rw[lT (by omega)];omega)
theorem Pv:∀n:Fin 12,((⟨#[102,97,105,108,101,100,32]⟩++dI n).toList==[116,105,99,107,32,49])=false:=by
 intro n;rw[ByteArray.toList_eq];revert n
 decide
theorem Ey (n:Nat)(h:n<12):Keeps (⟨#[102,97,105,108,101,100,32]⟩++dI n):=mg fun w0 w M x pol now js bk fl k mm hS hp G hn hk HM TT =>
 OX hS hp G hn hk HM TT _ _ (Ib (n:=n) (by omega)) (kF (by omega)) (lS (by omega)) (by rw[lT (by omega)];omega)
theorem Px:∀n:Fin 12,((⟨#[99,97,110,99,101,108,32]⟩++dI n).toList==[116,105,99,107,32,49])=false:=by
 intro n;rw[ByteArray.toList_eq];revert n
 decide
theorem Ez (n:Nat)(h:n<12):Keeps (⟨#[99,97,110,99,101,108,32]⟩++dI n):=mg fun w0 w M x pol now js bk fl k mm hS hp G hn hk HM TT =>
 OW hS hp G hn hk HM TT _ _ (Ia (n:=n) (by omega)) (kF (by omega)) (lS (by omega)) (by rw[lT (by omega)];omega)
theorem LJ:∀n:Fin 12,((⟨#[114,101,113,117,101,117,101,32]⟩++dI n).toList==[116,105,99,107,32,49])=false:=by
 intro n;rw[ByteArray.toList_eq];revert n
 decide
theorem Ag (n:Nat)(h:n<12):Keeps (⟨#[114,101,113,117,101,117,101,32]⟩++dI n):=mg fun w0 w M x pol now js bk fl k mm hS hp G hn hk HM TT =>
 KH hS hp G hn hk HM TT _ _ (Ep (n:=n) (by omega)) (kF (by omega)) (lS (by omega)) (by rw[lT (by omega)];omega)
theorem UY:∀n:Fin 8,((⟨#[100,111,119,110,32,109,97,105,110,32]⟩++dI n).toList==[116,105,99,107,32,49])=false:=by
 intro n;rw[ByteArray.toList_eq];revert n
 decide
theorem LM (n:Nat)(h:n<8):Keeps (⟨#[100,111,119,110,32,109,97,105,110,32]⟩++dI n):=Cc fun w0 w M x pol now js bk fl k mm hS hp G hn hk HM TT =>
 UL hS hp G hn hk HM TT _ _ (Po (n:=n) (by omega)) (kF (by omega)) (lS (by omega)) (by rw[lT (by omega)];omega)
theorem Yk:∀n:Fin 8,((⟨#[117,112,32,109,97,105,110,32]⟩++dI n).toList==[116,105,99,107,32,49])=false:=by
 intro n;rw[ByteArray.toList_eq];revert n
 decide
theorem Sr (n:Nat)(h:n<8):Keeps (⟨#[117,112,32,109,97,105,110,32]⟩++dI n):=Cc fun w0 w M x pol now js bk fl k mm hS hp G hn hk HM TT =>
 Yi hS hp G hn hk HM TT _ _ (UG (n:=n) (by omega)) (kF (by omega)) (lS (by omega)) (by rw[lT (by omega)];omega)
theorem U0:∀n:Fin 12,((⟨#[104,111,108,100,32]⟩++dI n).toList==[116,105,99,107,32,49])=false:=by
 intro n;rw[ByteArray.toList_eq];revert n
 decide
theorem LQ (n:Nat)(h:n<12):Keeps (⟨#[104,111,108,100,32]⟩++dI n):=mg fun w0 w M x pol now js bk fl k mm hS hp G hn hk HM TT =>
 UA hS hp G hn hk HM TT _ _ (Pj (n:=n) (by omega)) (kF (by omega)) (lS (by omega)) (by rw[lT (by omega)];omega)
theorem LU:∀n:Fin 12,((⟨#[114,101,108,101,97,115,101,32]⟩++dI n).toList==[116,105,99,107,32,49])=false:=by
 intro n;rw[ByteArray.toList_eq];revert n
 decide
theorem Ah (n:Nat)(h:n<12):Keeps (⟨#[114,101,108,101,97,115,101,32]⟩++dI n):=mg fun w0 w M x pol now js bk fl k mm hS hp G hn hk HM TT =>
 KG hS hp G hn hk HM TT _ _ (En (n:=n) (by omega)) (kF (by omega)) (lS (by omega)) (by rw[lT (by omega)];omega)
theorem LV (kd nn sz lim:Int)(ac hi rq:Bool):∃T:ByteArray,(∀w,Calls Tryz.prog 8 #[.agg #[.int .i64 kd,.int .i64 nn,.int .i64 sz,.int .i64 lim,.bool ac,.bool hi,.bool rq]] w fun e w'=>e=.returned (.string T)∧Below w.heap.size w w')∧(kd≠3→kd≠4→(T.toList==[116,105,99,107,32,49])=false∧Keeps T):=by
 have hone:∀kd':Int,(#[.int .i64 kd',.int .i64 nn,.int .i64 sz,.int .i64 lim,.bool ac,.bool hi,.bool rq]:Array Value).all (·.oneCell')=true:=fun kd'=>by simp[Value.oneCell']
 by_cases h0:kd=0
 ·subst h0;exact⟨_,fun w=>Ih nn sz lim ac hi rq,fun _ _=>⟨lH _ _ rfl,oN (moveSpec sz lim ac hi rq) (jm sz lim ac hi rq)⟩⟩
 by_cases h1:kd=1
 ·subst h1;exact⟨_,fun w=>Ii nn sz lim ac hi rq,fun _ _=>⟨lH _ _ rfl,oN (moveSpec sz lim ac hi rq) (jm sz lim ac hi rq)⟩⟩
 by_cases h2:kd=2
 ·subst h2;exact⟨_,fun w=>Ij nn sz lim ac hi rq,fun _ _=>⟨lH _ _ rfl,oN (moveSpec sz lim ac hi rq) (jm sz lim ac hi rq)⟩⟩
 by_cases h3:kd=3
 ·subst h3;exact⟨_,fun w=>OG nn _ _ _ _ _ (hone 3),fun h=>absurd rfl h⟩
 by_cases h4:kd=4
 ·subst h4;exact⟨_,fun w=>JV nn _ _ _ _ _ (hone 4),fun _ h=>absurd rfl h⟩
 by_cases h5:kd=5
 ·subst h5;have hc:=dh nn (n:=12) (by decide);exact⟨_,fun w=>QS nn _ _ _ _ _ (hone 5),fun _ _=>⟨UW ⟨_,hc⟩,LH _ hc⟩⟩
 by_cases h6:kd=6
 ·subst h6;have hc:=dh nn (n:=12) (by decide);exact⟨_,fun w=>JW nn _ _ _ _ _ (hone 6),fun _ _=>⟨Pv ⟨_,hc⟩,Ey _ hc⟩⟩
 by_cases h7:kd=7
 ·subst h7;have hc:=dh nn (n:=12) (by decide);exact⟨_,fun w=>JX nn _ _ _ _ _ (hone 7),fun _ _=>⟨Px ⟨_,hc⟩,Ez _ hc⟩⟩
 by_cases h8:kd=8
 ·subst h8;have hc:=dh nn (n:=12) (by decide);exact⟨_,fun w=>Gx nn _ _ _ _ _ (hone 8),fun _ _=>⟨LJ ⟨_,hc⟩,Ag _ hc⟩⟩
 by_cases h9:kd=9
 ·subst h9;have hc:=dh nn (n:=8) (by decide);exact⟨_,fun w=>QT nn _ _ _ _ _ (hone 9),fun _ _=>⟨UY ⟨_,hc⟩,LM _ hc⟩⟩
 by_cases h10:kd=10
 ·subst h10;have hc:=dh nn (n:=8) (by decide);exact⟨_,fun w=>V6 nn _ _ _ _ _ (hone 10),fun _ _=>⟨Yk ⟨_,hc⟩,Sr _ hc⟩⟩
 by_cases h11:kd=11
 ·subst h11;have hc:=dh nn (n:=12) (by decide);exact⟨_,fun w=>QU nn _ _ _ _ _ (hone 11),fun _ _=>⟨U0 ⟨_,hc⟩,LQ _ hc⟩⟩
 have hc:=dh nn (n:=12) (by decide);have hb:∀n:Int,kd≠n→(kd==n)=false:=fun n h=>by simpa using h
 exact⟨_,fun w=>Gy kd (hb _ h0) (hb _ h1) (hb _ h2) (hb _ h3) (hb _ h4) (hb _ h5) (hb _ h6) (hb _ h7) (hb _ h8) (hb _ h9) (hb _ h10) (hb _ h11) nn _ _ _ _ _ (hone kd),fun _ _=>⟨LU ⟨_,hc⟩,Ah _ hc⟩⟩
end
end
section
open Go.RowKit Go.ChangeMaps
structure Mv where
 kind:Int
 nn:Int
 sz:Int
 lim:Int
 ac:Bool
 hi:Bool
 rq:Bool
instance :Inhabited Mv:=⟨⟨0,0,0,0,false,false,false⟩⟩
def Mv.cells (m:Mv):Array Value:=#[.int .i64 m.kind,.int .i64 m.nn,.int .i64 m.sz,.int .i64 m.lim,.bool m.ac,.bool m.hi,.bool m.rq]
def Sv (w:World)(ad:Addr)(m:Mv):Prop:=∀j v,m.cells.toList[j]?=some v→w.cell? (ad.add j)=some v
theorem Sv.below {w w1:World}{ad:Addr}{m:Mv}(h:Sv w ad m)(hb:Below w.heap.size w w1):Sv w1 ad m:=fun j v hv=>ak hb (h j v hv)
def ZE (w:World)(A:Option Addr)(l:List Mv):Prop:=l.length≤9223372036854775807∧∀i m,l[i]?=some m→∃ad,A=some ad∧Sv w (ad.add (i*7)) m
theorem lc1 {c n:Nat}(h:c<1+n):(c:Int)<1+(n:Int):=by omega
theorem lc2 {c n:Nat}(h:¬c<1+n):¬(c:Int)<1+(n:Int):=by omega
theorem wZ {P:Program}(w:World)(ad:Addr)(ty:TypeId)(cs:List Value)(d:TypeDesc)(hc:∀j v,cs[j]?=some v→w.cell? (ad.add j)=some v)
 (hu:P.underlying ty=some d) (hd:d.isRow=true) (hi:(P.info? ty).map (·.size)=some cs.length):(loadVar ty ad).run P w=.ok (.agg cs.toArray) w:=by
 have hl:(loadCells ad cs.length).run P w=.ok cs.toArray w:=run_loadCells_list (P:=P) w ad cs hc;cases hq:P.info? ty with
 |none=>simp[hq]at hi
 |some i =>
  have hs:i.size=cs.length:=by simpa[hq]using hi
  have hagg:(isAgg ty).run P w=.ok true w:=by
   unfold isAgg;rw[Sem.run_bind,run_underlying hu w];cases d<;>simp_all
  simp[loadVar,Sem.run_bind,hagg,sizeOf,typeInfo,hq,hs,hl]
theorem Ai {P:Program}{ops:Array Oper}{rest:List Oper}{op:Oper}{a:Act}{w:World}{Q:Exit→Act→World→Prop}(hgd:op.guard=none)(ty:TypeId)(x:Operand)(ho:op.op=.load ty x)(ad:Addr)(hx:a.eval x=.pointer (some ad))(cs:Array Value)(d:TypeDesc)(hc:∀j v,cs.toList[j]?=some v→w.cell? (ad.add j)=some v)
 (hu:P.underlying ty=some d) (hd:d.isRow=true) (hi:(P.info? ty).map (·.size)=some cs.size) (h:wpList P ops Q rest (a.put op.dst (.agg cs)) w):wpList P ops Q (op::rest) a w :=
 wpList_plain hgd fun _ hK=>by
  unfold Oper.wp execOp;simp only[ho,hx,Instr.loadAt,Instr.sureAddr,Sem.run_bind,Sem.run_pure,Result.andThen_ok,wZ w ad ty cs.toList d hc hu hd (by simpa using hi)];exact hK _ _ (by simpa using h)
theorem oO {js:List J}{a:Nat}{j:J}(h:js[a]?=some j):loads (js.take (a+1))=loads (js.take a)+j.load:=by
 rw[jL h];simp[loads]
theorem mD {js:List J}{a:Nat}{j:J}(now:Int)(h:js[a]?=some j):pays (js.take (a+1)) now=pays (js.take a) now+j.pay now:=by
 rw[jL h];simp[pays]
theorem Ci {bk:List Ch}{a:Nat}{c:Ch}(h:bk[a]?=some c):paid (bk.take (a+1))=paid (bk.take a)+(c.workers:Int)*c.seconds:=by
 rw[jL h];simp[paid]
section
variable {w0 w:World}{M:List bV}
theorem kY {x:Nat}{pol now:Int}{js:List J}{bk:List Ch}{fl:List Int}{k:Nat}(hS:dL M w0 w x pol now js bk fl k)(hn:js.length≤500):Calls Tryz.prog 9 #[.pointer (some ⟨x,0,none⟩)] w fun e w'=>∃A1 c1,e=.returned (.slice A1 js.length c1)∧dL (M++[aO (.slice A1 js.length c1) js]) w0 w' x pol now js bk fl k:=by
 obtain⟨a,y,m,rfl,h2,h3,h4,H⟩:=hS;exact(IQ H 0 1 2 rfl rfl rfl rfl rfl hn).mono fun e w' ⟨A1,c1,he,h⟩=>⟨A1,c1,he,a,y,m,rfl,h2,h3,h4,by rw[←List.append_assoc];exact h⟩
theorem wO {x:Nat}{pol now:Int}{js:List J}{bk:List Ch}{fl:List Int}{k:Nat}(hS:dL M w0 w x pol now js bk fl k)(hn:bk.length≤1000000):Calls Tryz.prog 12 #[.pointer (some ⟨x,0,none⟩)] w fun e w'=>∃A1 c1,e=.returned (.slice A1 bk.length c1)∧dL (M++[oP (.slice A1 bk.length c1) bk]) w0 w' x pol now js bk fl k:=by
 obtain⟨a,y,m,rfl,h2,h3,h4,H⟩:=hS;exact(IY H 0 3 rfl rfl rfl hn).mono fun e w' ⟨A1,c1,he,h⟩=>⟨A1,c1,he,a,y,m,rfl,h2,h3,h4,by rw[←List.append_assoc];exact h⟩
theorem dL.ED {x:Nat}{pol now:Int}{js:List J}{bk:List Ch}{fl:List Int}{k:Nat}{v:Value}{l:List J}(h:dL (aO v l::M) w0 w x pol now js bk fl k):bM w 26 qW v l:=by
 obtain⟨a,y,m,h1,h2,h3,h4,h5⟩:=h;exact gI h5 14 rfl
theorem dL.Sz {x:Nat}{pol now:Int}{js:List J}{bk:List Ch}{fl:List Int}{k:Nat}{v:Value}{l:List Ch}(h:dL (oP v l::M) w0 w x pol now js bk fl k):bM w 6 vS v l:=by
 obtain⟨a,y,m,h1,h2,h3,h4,h5⟩:=h;exact h5.read 14 (enc:=vS) rfl rfl Ch.ER
theorem dL.nowAt {x:Nat}{pol now:Int}{js:List J}{bk:List Ch}{fl:List Int}{k:Nat}(h:dL M w0 w x pol now js bk fl k):w.cell? ⟨x,12,none⟩=some (.int .i64 now):=by
 obtain⟨a,y,m,rfl,h2,h3,h4,h5⟩:=h;rw[aj (h5.blk 0 rfl)];rfl
end
end
section
open Go.ChangeShapes Go.WideShapes Go.ChangeAt Go.RowKit Go.Deep
theorem Yr:ownKnob Tryz.prog.godebug=none:=by kernel_rfl
theorem laidOut:laidOutB Tryz.prog=true:=by kernel_rfl
theorem ZI:∀(cs:List Value),cs.length=7→∃a b c d e f g,cs=[a,b,c,d,e,f,g]
 |[a,b,c,d,e,f,g],_=>⟨a,b,c,d,e,f,g,rfl⟩
section
variable {H:Type}{enc:TypeId×Value→H}{w:World}{base:Nat}{held:Bool}{fuel:Nat}{x:DataW H×List MemPlace}
theorem Iq {a:Option Addr}{len cap:Nat}(h:DataW.trod enc Tryz.prog w base (fun _=>true) held fuel 22 [.slice a len cap]=some x):∃l:List Mv,len=l.length∧ZE w a l:=by
 have e3:Tryz.prog.cellsOf 3=1:=by kernel_rfl
 have e4:Tryz.prog.cellsOf 4=1:=by kernel_rfl
 have e38:Tryz.prog.cellsOf 38=5:=by kernel_rfl
 have e40:Tryz.prog.cellsOf 40=7:=by kernel_rfl
 rcases open_slice Tryz.underlying22 h with⟨hcs,_⟩|⟨a',len',cap',m,n,D,Pl,hcs,hb,hl,hm,hmm,_,hx⟩
 ·simp at hcs;obtain⟨rfl,rfl,rfl⟩:=hcs;exact⟨[],rfl,by simp,fun i x hi=>by simp at hi⟩
 ·simp at hcs;obtain⟨rfl,rfl,rfl⟩:=hcs;simp at hmm;subst hmm;have each:∀i,∃y:Mv,i<m→Sv w (a'.add (i*7)) y:=fun i=>by
   by_cases hi:i<m
   ·obtain⟨cs',h1,h2⟩:=hx i hi;rw[e40]at h1;obtain⟨_,hlen,hcell⟩:=World.cells?_some h1;obtain⟨y0,y1,y2,n',_,_,g0,g1,g2⟩:=trod_struct3 Tryz.underlying40 h2;obtain⟨v0,v1,v2,v3,v4,v5,v6,rfl⟩:=ZI cs' hlen;simp[e3,e38]at g0 g1 g2;obtain⟨k,q0,_,_⟩:=DataW.trod_int Tryz.underlying3 g0;obtain⟨nn,q1,_,_⟩:=DataW.trod_int Tryz.underlying3 g1;obtain⟨xs,n2,_,_,_,hl5,hf⟩:=DataW.trod_struct Tryz.underlying38 g2;match xs,hl5 with
    |[z0,z1,z2,z3,z4],_ =>
     have f0:=hf 0 _ rfl;have f1:=hf 1 _ rfl;have f2:=hf 2 _ rfl;have f3:=hf 3 _ rfl;have f4:=hf 4 _ rfl;simp[e3,e4]at f0 f1 f2 f3 f4;obtain⟨sz,q2,_,_⟩:=DataW.trod_int Tryz.underlying3 f0;obtain⟨lim,q3,_,_⟩:=DataW.trod_int Tryz.underlying3 f1;obtain⟨ac,q4,_⟩:=DataW.trod_bool Tryz.underlying4 f2;obtain⟨hi',q5,_⟩:=DataW.trod_bool Tryz.underlying4 f3;obtain⟨rq,q6,_⟩:=DataW.trod_bool Tryz.underlying4 f4;simp at q0 q1 q2 q3 q4 q5 q6;refine⟨⟨k,nn,sz,lim,ac,hi',rq⟩,fun _ j v hv=>?_⟩;rw[hcell j (by have:=(List.getElem?_eq_some_iff.1 hv).1;simpa[Mv.cells]using this)];rw[←hv,q0,q1,q2,q3,q4,q5,q6];rfl
   ·exact⟨default,fun hh=>absurd hh hi⟩
  refine⟨(List.range len).map fun i=>(each i).choose,by simp,by simp;unfold maxLen at hm;omega,fun i y hi=>⟨a',rfl,?_⟩⟩;have hil:i<len:=by
   have:=(List.getElem?_eq_some_iff.1 hi).1;simpa using this
  rw[List.getElem?_map,List.getElem?_range hil]at hi;simp only[Option.map_some,Option.some.injEq]at hi;rw[←hi];exact(each i).choose_spec (by omega)
end
theorem WR:Tryz.prog.globalNamed "internal/strconv.uint64pow10" = some 1:=by kernel_rfl
theorem ZJ:(Tryz.prog.globals[1]?).map (·.type)=some 337:=by kernel_rfl
theorem ZK:Rows.laid_internal_strconv_uint64pow10 (H:=Unit)=Lib.tabData .u64 Lib.pow10Tab:=by kernel_rfl
theorem ZL:Tryz.prog.cellsOf 281=1:=by kernel_rfl
theorem ZM:Tryz.prog.cellsOf 337=20:=by kernel_rfl
theorem Ir {W:World}(h:laidMetH Tryz.prog Rows.topChargesRow.laid W):Tab W:=by
 rw[MakeChecks.laidMetH_plain _ _ _ (by kernel_rfl)]at h;obtain⟨g,t,cs,fuel,p,hg,ht,hv,hd⟩:=Lib.laidMet.reads (n:= "internal/strconv.uint64pow10") (d:=Rows.laid_internal_strconv_uint64pow10) h (.tail _ (.tail _ (.head _)));obtain rfl:=Option.some.inj (WR.symm.trans hg);obtain rfl:=Option.some.inj (ZJ.symm.trans ht);rw[ZK]at hd;show W.var? _ _=_
 rw[hv,←Lib.cells_of_tab Tryz.underlying337 Tryz.underlying281 ZL ZM hd]
theorem LX {P:Program}{w w':World}{n:String}{g B:Nat}{cs:Array Value}(h:w.var? P n=some cs)(hg:P.globalNamed n=some g)(hb:Below B w w')(hlt:g<B):w'.var? P n=some cs:=by
 unfold World.var? at h ⊢;rw[hg]at h ⊢;simp only[Option.bind_some]at h ⊢;rw[hb.block g hlt];exact h
theorem SK {w:World}{a:Addr}{v:Value}(h:w.cell? a=some v):a.block<w.heap.size:=by
 unfold World.cell? at h;split at h
 ·rename_i hh
  exact(Array.getElem?_eq_some_iff.1 hh).1
 ·cases h
theorem tab_below {W W':World}(h:Tab W)(hb:Below W.heap.size W W'):Tab W' :=
 LX h WR hb (by
  have:=Lib.TabIs.cell h WR 0 (by decide);exact SK this)
theorem Py {W:World}(h:W.ShapedOpen Tryz.prog):∃m,W.cell? ⟨0,0,none⟩=some (.int .i64 m):=
 cell_of_shapedOpen_int (t:=3) (zero:=#[.int .i64 0]) h (of_decide_eq_true (by kernel_rfl)) (by kernel_rfl) rfl (by kernel_rfl) (by kernel_rfl) Tryz.underlying3
end
end Go.Proofs.YtandhagfhppgaaaGreatDoor
