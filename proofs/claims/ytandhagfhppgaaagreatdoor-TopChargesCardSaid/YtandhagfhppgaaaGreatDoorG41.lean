/- Part 46 of a proof: contracts of the functions that the law reaches. No condition. -/
import Derived.Test.YtandhagfhppgaaaGreatDoorG22
import Derived.Test.YtandhagfhppgaaaGreatDoorG24
import Derived.Test.YtandhagfhppgaaaGreatDoorG26
import Derived.Test.YtandhagfhppgaaaGreatDoorG32
import Derived.Test.YtandhagfhppgaaaGreatDoorG36
import Derived.Test.YtandhagfhppgaaaGreatDoorG38
import Derived.Test.YtandhagfhppgaaaGreatDoorG40
set_option linter.all false
set_option maxRecDepth 100000
set_option maxHeartbeats 16000000
namespace Go.Proofs.YtandhagfhppgaaaGreatDoor
section
open Go.RowKit Go.ChangeMaps
structure Says (t:ByteArray)(ws:List ByteArray):Prop where
 pre:Lib.hasPrefix t.data.toList [115,117,98,109,105,116,10]=false
 jobs:(t.toList==[106,111,98,115])=false
 book:(t.toList==[98,111,111,107])=false
 size:t.size<4294967281
 count:Lib.countB t ⟨#[32]⟩+1=ws.length
 split:Lib.splitB ⟨#[32]⟩ 0 (Lib.countB t ⟨#[32]⟩) t=ws
section
variable {w0 w w1:World}{M:List bV}
theorem dL.front {K:List bV}{x:Nat}{pol now:Int}{js:List J}{bk:List Ch}{fl:List Int}{k:Nat}(h:dL M w0 w x pol now js bk fl k)(hk:Has w w1 K):dL (K++M) w0 w1 x pol now js bk fl k:=by
 obtain⟨a,y,m,h1,h2,h3,h4,h5⟩:=h;refine⟨a,y,m,h1,h2,h3,h4,(h5.more hk).perm ?_⟩;rw[List.append_assoc];exact List.perm_append_comm.append_left _
theorem dL.old {x:Nat}{pol now:Int}{js:List J}{bk:List Ch}{fl:List Int}{k:Nat}(h:dL M w0 w x pol now js bk fl k):Below w0.heap.size w0 w:=by
 obtain⟨a,y,m,h1,h2,h3,h4,h5⟩:=h;exact h5.old
theorem dL.blk0 {b:Nat}{o:Obj}{x:Nat}{pol now:Int}{js:List J}{bk:List Ch}{fl:List Int}{k:Nat}(h:dL (aF b o::M) w0 w x pol now js bk fl k):w.heap[b]?=some o:=by
 obtain⟨a,y,m,h1,h2,h3,h4,h5⟩:=h;exact h5.blk 14 rfl
theorem dL.DY {b:Nat}{o:Obj}{X:bV}{x:Nat}{pol now:Int}{js:List J}{bk:List Ch}{fl:List Int}{k:Nat}(h:dL (X::aF b o::M) w0 w x pol now js bk fl k):w.heap[b]?=some o:=by
 obtain⟨a,y,m,h1,h2,h3,h4,h5⟩:=h;exact h5.blk 15 rfl
set_option maxRecDepth 1000000 in
theorem UA {x:Nat}{pol:Int}{now:Nat}{js:List J}{bk:List Ch}{fl:List Int}{k:Nat}(hS:dL M w0 w x pol now js bk fl k)(dK:1≤pol∧pol≤4)(G:dJ now js bk)(dB:now≤10000)(hk:k≤900)
 {mm:Int} (HM:w0.cell? ⟨0,0,none⟩=some (.int .i64 mm)) (TT:∀W,Below w0.heap.size w0 W→Tab W) (t s:ByteArray) (ht:Says t [⟨#[104,111,108,100]⟩,s]) (hs:pz s) (hn:numeral s=true) (hv:val s≤1000) :
 Calls Tryz.prog 11 #[.pointer (some ⟨x,0,none⟩),.string t] w fun e w'=>∃(r:Int) (bG:List J) (bk':List Ch),e=.returned (.string (nD r))∧(code r∧gV now js bk bG bk')∧dL M w0 w' x pol now bG bk' fl k:=by
 refine named fun R HQ=>?_;obtain⟨w3,w4,w5,w6,w7,w8,w9,wA,wB,MP⟩:=jC w x;have MM:=ah.mk MP;have b8:=MP.b8;have b9:=MP.b9;have vG:=MP.vG;have CP:ah (∀W,Calls Tryz.prog 28 #[.string t,.string ⟨#[115,117,98,109,105,116,10]⟩] W fun e w'=>e=.returned (.tuple #[.string ⟨(Lib.trimPrefix t.data.toList [115,117,98,109,105,116,10]).toArray⟩,.bool false])∧w'=W):=⟨fun W=>(Tryz.strings_CutPrefix t ⟨#[115,117,98,109,105,116,10]⟩ W).mono fun e w' h=>by rw[show(⟨#[115,117,98,109,105,116,10]⟩:ByteArray).data.toList=[115,117,98,109,105,116,10]from rfl,ht.pre]at h;exact h⟩;have SP:ah (Calls Tryz.prog 46 #[.string t,.string ⟨#[32]⟩] wB fun e w'=>e=.returned (.slice (some ⟨wB.heap.size,0,none⟩) 2 2)∧w'=wB.alloc (.cells #[.string ⟨#[104,111,108,100]⟩,.string s] 9)):=⟨(Tryz.strings_Split t ⟨#[32]⟩ mm wB ht.size (ak (hS.below MP.h.old).old HM) (by decide)).mono fun e w' h=>by rw[ht.count,ht.split]at h;exact h⟩;have HC:=MP.h.bg (.cells #[.string ⟨#[104,111,108,100]⟩,.string s] 9);have LK:=dU eX HC 1 rfl 104 9 101 Tryz.underlying104 Tryz.underlying9 .nilFunc (lQ _) ⟨#[104,111,108,100]⟩ true;rw[if_pos rfl]at LK;have S1:=ah.mk (hS.front (show Has w (wB.alloc (.cells #[.string ⟨#[104,111,108,100]⟩,.string s] 9)) [aF w.heap.size (.cells #[.pointer (some ⟨x,0,none⟩)] 23),aF wB.heap.size (.cells #[.string ⟨#[104,111,108,100]⟩,.string s] 9)]from(HC.drop 1).drop 1));have c0:(wB.alloc (.cells #[.string ⟨#[104,111,108,100]⟩,.string s] 9)).cell? ⟨wB.heap.size,0,none⟩=some (.string ⟨#[104,111,108,100]⟩):=by rw[aj (heap_alloc_new wB _)];rfl
 have c1:(wB.alloc (.cells #[.string ⟨#[104,111,108,100]⟩,.string s] 9)).cell? ⟨wB.heap.size,1,none⟩=some (.string s):=by rw[aj (heap_alloc_new wB _)];rfl
 have AC:=ah.mk (jl s hs hn wB.heap.size 1 c1 (by simp));have hi:=fun w=>iw (.int .i64 (val s:Int)) 20 w;have hmm:=@run_makeMap Tryz.prog;have tj:=ht.jobs;have tb:=ht.book;have PP:=ah.mk dK;have GG:=ah.mk G;have uJ:=ah.mk TT;have HV:=ah.mk hv;clear hS dK G HM TT ht hs hn MP HC hv;have wK:ah ((Instr.lookup 104 (.map (some (w.heap.size+1))) (.string ⟨#[104,111,108,100]⟩) true).run Tryz.prog (wB.alloc (.cells #[.string ⟨#[104,111,108,100]⟩,.string s] 9))=.ok (.tuple #[.func (.func 32) #[] #[.pointer (some ⟨w.heap.size,0,none⟩)],.bool true]) (wB.alloc (.cells #[.string ⟨#[104,111,108,100]⟩,.string s] 9))):=⟨by rw[show look (zY x w.heap.size) ⟨#[104,111,108,100]⟩=some (.func (.func 32) #[] #[.pointer (some ⟨w.heap.size,0,none⟩)])from rfl]at LK;exact LK⟩;clear LK;have hneq:∀W,(binOp .neq 9 (.string ⟨#[104,111,108,100]⟩) (.string ⟨#[116,105,99,107]⟩)).run Tryz.prog W=.ok (.bool true) W:=fun _=>by kernel_rfl
 go_enter Tryz.func11,Tryz.ntmps11;go_wp2_with (go_at_call 28;refine(CP.out _).mono ?_;rintro e w' ⟨rfl,hw⟩;obtain rfl:=hw.symm;clear hw;refine ah.out ?_)
 refine ah.mk ?_;go_wp2_with (refine aG rfl 104 _ _ _ rfl rfl rfl rfl MM.out.u0 ?_;refine ah.out ?_)
 refine ah.mk ?_;go_wp2_with (refine aG rfl 104 _ _ _ rfl rfl rfl rfl MM.out.u1 ?_;refine ah.out ?_)
 refine ah.mk ?_;go_wp2_with (refine aG rfl 104 _ _ _ rfl rfl rfl rfl MM.out.u2 ?_;refine ah.out ?_)
 refine ah.mk ?_;go_wp2_with (refine aG rfl 104 _ _ _ rfl rfl rfl rfl MM.out.u3 ?_;refine ah.out ?_)
 refine ah.mk ?_;go_wp2_with (refine aG rfl 104 _ _ _ rfl rfl rfl rfl MM.out.u4 ?_;refine ah.out ?_)
 refine ah.mk ?_;go_wp2_with (refine aG rfl 104 _ _ _ rfl rfl rfl rfl MM.out.u5 ?_;refine ah.out ?_)
 refine ah.mk ?_;go_wp2_with (refine aG rfl 104 _ _ _ rfl rfl rfl rfl MM.out.u6 ?_;refine ah.out ?_)
 refine ah.mk ?_;go_wp2_with (refine aG rfl 105 _ _ _ rfl rfl rfl rfl MM.out.v0 ?_;refine ah.out ?_)
 refine ah.mk ?_;go_wp2_with (refine aG rfl 105 _ _ _ rfl rfl rfl rfl MM.out.v1 ?_;refine ah.out ?_)
 refine ah.mk ?_;go_wp2_with (go_at_call 46;refine SP.out.mono ?_;rintro e w' ⟨rfl,hw⟩;obtain rfl:=hw.symm;clear hw;refine ah.out ?_)
 clear SP CP tj tb b8 b9 vG MM hmm;refine ah.mk ?_;go_wp2_with (refine fH rfl 104 _ _ true rfl rfl rfl wK.out ?_;refine ah.out ?_)
 clear wK;refine ah.mk ?_;go_wp2_with (go_at_call 47;refine AC.out.mono ?_;rintro e wD ⟨A,cA,rfl,hD⟩;have HD:=ah.mk hD;clear hD;refine ah.out ?_)
 obtain⟨g,rfl,_⟩:=dD HD.out 0 rfl rfl (by simp);have cg:wD.cell? ⟨g,0,none⟩=some (.iface 3 (.int .i64 (val s:Int))):=by
  have:=bP HD.out 0 rfl 0 [.iface 3 (.int .i64 (val s:Int))] ig 0 _ rfl;simpa using this
 have S2:=ah.mk (S1.out.below HD.out.old);have bD:wD.cell? ⟨w.heap.size,0,none⟩=some (.pointer (some ⟨x,0,none⟩)):=by rw[aj S2.out.blk0];rfl
 have FC:=ah.mk (Wn S2.out PP.out GG.out dB hk (val s) HV.out w.heap.size bD);clear AC c0 c1 S1 HD S2;refine ah.mk ?_;go_wp2_with (go_at_call 32;refine FC.out.mono ?_;rintro e wE ⟨r,jo,bk2,rfl,ht,hs3⟩;have S3:=ah.mk hs3;have HT:=ah.mk ht;clear hs3 ht;refine ah.out ?_)
 clear FC cg bD;have bE:wE.cell? ⟨w.heap.size,0,none⟩=some (.pointer (some ⟨x,0,none⟩)):=by rw[aj S3.out.blk0];rfl
 have cE:wE.cell? ⟨wB.heap.size,0,none⟩=some (.string ⟨#[104,111,108,100]⟩):=by rw[aj S3.out.DY];rfl
 by_cases hr:r=0
 ·subst hr;have SC:=ah.mk (fK S3.out PP.out (HT.out.2.sane GG.out).1 dB (by omega));refine ah.mk ?_;go_wp2_with (go_at_call 49;refine SC.out.mono ?_;rintro e wF ⟨rfl,wX,ht,hs3⟩;have S4:=ah.mk hs3;have HT2:=ah.mk ht;clear hs3 ht;refine ah.out ?_)
  have TC:=ah.mk (dS 0 ⟨by decide,by decide⟩ (uJ.out _ S4.out.old));refine ah.mk ?_;go_wp2_with (go_at_call 27;refine TC.out.mono ?_;rintro e wG ⟨rfl,hb⟩;have HG:=ah.mk hb;clear hb)
  first|go_ret2|go_ret|skip
  rw[←HQ.out];exact⟨0,wX,bk2,rfl,⟨⟨by decide,by decide⟩,HT.out.2.trans (HT2.out.went _)⟩,(S4.out.below HG.out).drop1.drop1⟩
 ·have e0:(r==0)=false:=by simpa using hr
  have TC:=ah.mk (dS r HT.out.1 (uJ.out _ S3.out.old));clear hr;refine ah.mk ?_;go_wp2_with (go_at_call 27;refine TC.out.mono ?_;rintro e wG ⟨rfl,hb⟩;have HG:=ah.mk hb;clear hb)
  first|go_ret2|go_ret|skip
  rw[←HQ.out];exact⟨r,jo,bk2,rfl,HT.out,(S3.out.below HG.out).drop1.drop1⟩
set_option maxRecDepth 1000000 in
theorem KG {x:Nat}{pol:Int}{now:Nat}{js:List J}{bk:List Ch}{fl:List Int}{k:Nat}(hS:dL M w0 w x pol now js bk fl k)(dK:1≤pol∧pol≤4)(G:dJ now js bk)(dB:now≤10000)(hk:k≤900)
 {mm:Int} (HM:w0.cell? ⟨0,0,none⟩=some (.int .i64 mm)) (TT:∀W,Below w0.heap.size w0 W→Tab W) (t s:ByteArray) (ht:Says t [⟨#[114,101,108,101,97,115,101]⟩,s]) (hs:pz s) (hn:numeral s=true) (hv:val s≤1000) :
 Calls Tryz.prog 11 #[.pointer (some ⟨x,0,none⟩),.string t] w fun e w'=>∃(r:Int) (bG:List J) (bk':List Ch),e=.returned (.string (nD r))∧(code r∧gV now js bk bG bk')∧dL M w0 w' x pol now bG bk' fl k:=by
 refine named fun R HQ=>?_;obtain⟨w3,w4,w5,w6,w7,w8,w9,wA,wB,MP⟩:=jC w x;have MM:=ah.mk MP;have b8:=MP.b8;have b9:=MP.b9;have vG:=MP.vG;have CP:ah (∀W,Calls Tryz.prog 28 #[.string t,.string ⟨#[115,117,98,109,105,116,10]⟩] W fun e w'=>e=.returned (.tuple #[.string ⟨(Lib.trimPrefix t.data.toList [115,117,98,109,105,116,10]).toArray⟩,.bool false])∧w'=W):=⟨fun W=>(Tryz.strings_CutPrefix t ⟨#[115,117,98,109,105,116,10]⟩ W).mono fun e w' h=>by rw[show(⟨#[115,117,98,109,105,116,10]⟩:ByteArray).data.toList=[115,117,98,109,105,116,10]from rfl,ht.pre]at h;exact h⟩;have SP:ah (Calls Tryz.prog 46 #[.string t,.string ⟨#[32]⟩] wB fun e w'=>e=.returned (.slice (some ⟨wB.heap.size,0,none⟩) 2 2)∧w'=wB.alloc (.cells #[.string ⟨#[114,101,108,101,97,115,101]⟩,.string s] 9)):=⟨(Tryz.strings_Split t ⟨#[32]⟩ mm wB ht.size (ak (hS.below MP.h.old).old HM) (by decide)).mono fun e w' h=>by rw[ht.count,ht.split]at h;exact h⟩;have HC:=MP.h.bg (.cells #[.string ⟨#[114,101,108,101,97,115,101]⟩,.string s] 9);have LK:=dU eX HC 1 rfl 104 9 101 Tryz.underlying104 Tryz.underlying9 .nilFunc (lQ _) ⟨#[114,101,108,101,97,115,101]⟩ true;rw[if_pos rfl]at LK;have S1:=ah.mk (hS.front (show Has w (wB.alloc (.cells #[.string ⟨#[114,101,108,101,97,115,101]⟩,.string s] 9)) [aF w.heap.size (.cells #[.pointer (some ⟨x,0,none⟩)] 23),aF wB.heap.size (.cells #[.string ⟨#[114,101,108,101,97,115,101]⟩,.string s] 9)]from(HC.drop 1).drop 1));have c0:(wB.alloc (.cells #[.string ⟨#[114,101,108,101,97,115,101]⟩,.string s] 9)).cell? ⟨wB.heap.size,0,none⟩=some (.string ⟨#[114,101,108,101,97,115,101]⟩):=by rw[aj (heap_alloc_new wB _)];rfl
 have c1:(wB.alloc (.cells #[.string ⟨#[114,101,108,101,97,115,101]⟩,.string s] 9)).cell? ⟨wB.heap.size,1,none⟩=some (.string s):=by rw[aj (heap_alloc_new wB _)];rfl
 have AC:=ah.mk (jl s hs hn wB.heap.size 1 c1 (by simp));have hi:=fun w=>iw (.int .i64 (val s:Int)) 20 w;have hmm:=@run_makeMap Tryz.prog;have tj:=ht.jobs;have tb:=ht.book;have PP:=ah.mk dK;have GG:=ah.mk G;have uJ:=ah.mk TT;have HV:=ah.mk hv;clear hS dK G HM TT ht hs hn MP HC hv;have wK:ah ((Instr.lookup 104 (.map (some (w.heap.size+1))) (.string ⟨#[114,101,108,101,97,115,101]⟩) true).run Tryz.prog (wB.alloc (.cells #[.string ⟨#[114,101,108,101,97,115,101]⟩,.string s] 9))=.ok (.tuple #[.func (.func 34) #[] #[.pointer (some ⟨w.heap.size,0,none⟩)],.bool true]) (wB.alloc (.cells #[.string ⟨#[114,101,108,101,97,115,101]⟩,.string s] 9))):=⟨by rw[show look (zY x w.heap.size) ⟨#[114,101,108,101,97,115,101]⟩=some (.func (.func 34) #[] #[.pointer (some ⟨w.heap.size,0,none⟩)])from rfl]at LK;exact LK⟩;clear LK;have hneq:∀W,(binOp .neq 9 (.string ⟨#[114,101,108,101,97,115,101]⟩) (.string ⟨#[116,105,99,107]⟩)).run Tryz.prog W=.ok (.bool true) W:=fun _=>by kernel_rfl
 go_enter Tryz.func11,Tryz.ntmps11;go_wp2_with (go_at_call 28;refine(CP.out _).mono ?_;rintro e w' ⟨rfl,hw⟩;obtain rfl:=hw.symm;clear hw;refine ah.out ?_)
 refine ah.mk ?_;go_wp2_with (refine aG rfl 104 _ _ _ rfl rfl rfl rfl MM.out.u0 ?_;refine ah.out ?_)
 refine ah.mk ?_;go_wp2_with (refine aG rfl 104 _ _ _ rfl rfl rfl rfl MM.out.u1 ?_;refine ah.out ?_)
 refine ah.mk ?_;go_wp2_with (refine aG rfl 104 _ _ _ rfl rfl rfl rfl MM.out.u2 ?_;refine ah.out ?_)
 refine ah.mk ?_;go_wp2_with (refine aG rfl 104 _ _ _ rfl rfl rfl rfl MM.out.u3 ?_;refine ah.out ?_)
 refine ah.mk ?_;go_wp2_with (refine aG rfl 104 _ _ _ rfl rfl rfl rfl MM.out.u4 ?_;refine ah.out ?_)
 refine ah.mk ?_;go_wp2_with (refine aG rfl 104 _ _ _ rfl rfl rfl rfl MM.out.u5 ?_;refine ah.out ?_)
 refine ah.mk ?_;go_wp2_with (refine aG rfl 104 _ _ _ rfl rfl rfl rfl MM.out.u6 ?_;refine ah.out ?_)
 refine ah.mk ?_;go_wp2_with (refine aG rfl 105 _ _ _ rfl rfl rfl rfl MM.out.v0 ?_;refine ah.out ?_)
 refine ah.mk ?_;go_wp2_with (refine aG rfl 105 _ _ _ rfl rfl rfl rfl MM.out.v1 ?_;refine ah.out ?_)
 refine ah.mk ?_;go_wp2_with (go_at_call 46;refine SP.out.mono ?_;rintro e w' ⟨rfl,hw⟩;obtain rfl:=hw.symm;clear hw;refine ah.out ?_)
 clear SP CP tj tb b8 b9 vG MM hmm;refine ah.mk ?_;go_wp2_with (refine fH rfl 104 _ _ true rfl rfl rfl wK.out ?_;refine ah.out ?_)
 clear wK;refine ah.mk ?_;go_wp2_with (go_at_call 47;refine AC.out.mono ?_;rintro e wD ⟨A,cA,rfl,hD⟩;have HD:=ah.mk hD;clear hD;refine ah.out ?_)
 obtain⟨g,rfl,_⟩:=dD HD.out 0 rfl rfl (by simp);have cg:wD.cell? ⟨g,0,none⟩=some (.iface 3 (.int .i64 (val s:Int))):=by
  have:=bP HD.out 0 rfl 0 [.iface 3 (.int .i64 (val s:Int))] ig 0 _ rfl;simpa using this
 have S2:=ah.mk (S1.out.below HD.out.old);have bD:wD.cell? ⟨w.heap.size,0,none⟩=some (.pointer (some ⟨x,0,none⟩)):=by rw[aj S2.out.blk0];rfl
 have FC:=ah.mk (OT S2.out PP.out GG.out dB hk (val s) HV.out w.heap.size bD);clear AC c0 c1 S1 HD S2;refine ah.mk ?_;go_wp2_with (go_at_call 34;refine FC.out.mono ?_;rintro e wE ⟨r,jo,bk2,rfl,ht,hs3⟩;have S3:=ah.mk hs3;have HT:=ah.mk ht;clear hs3 ht;refine ah.out ?_)
 clear FC cg bD;have bE:wE.cell? ⟨w.heap.size,0,none⟩=some (.pointer (some ⟨x,0,none⟩)):=by rw[aj S3.out.blk0];rfl
 have cE:wE.cell? ⟨wB.heap.size,0,none⟩=some (.string ⟨#[114,101,108,101,97,115,101]⟩):=by rw[aj S3.out.DY];rfl
 by_cases hr:r=0
 ·subst hr;have SC:=ah.mk (fK S3.out PP.out (HT.out.2.sane GG.out).1 dB (by omega));refine ah.mk ?_;go_wp2_with (go_at_call 49;refine SC.out.mono ?_;rintro e wF ⟨rfl,wX,ht,hs3⟩;have S4:=ah.mk hs3;have HT2:=ah.mk ht;clear hs3 ht;refine ah.out ?_)
  have TC:=ah.mk (dS 0 ⟨by decide,by decide⟩ (uJ.out _ S4.out.old));refine ah.mk ?_;go_wp2_with (go_at_call 27;refine TC.out.mono ?_;rintro e wG ⟨rfl,hb⟩;have HG:=ah.mk hb;clear hb)
  first|go_ret2|go_ret|skip
  rw[←HQ.out];exact⟨0,wX,bk2,rfl,⟨⟨by decide,by decide⟩,HT.out.2.trans (HT2.out.went _)⟩,(S4.out.below HG.out).drop1.drop1⟩
 ·have e0:(r==0)=false:=by simpa using hr
  have TC:=ah.mk (dS r HT.out.1 (uJ.out _ S3.out.old));clear hr;refine ah.mk ?_;go_wp2_with (go_at_call 27;refine TC.out.mono ?_;rintro e wG ⟨rfl,hb⟩;have HG:=ah.mk hb;clear hb)
  first|go_ret2|go_ret|skip
  rw[←HQ.out];exact⟨r,jo,bk2,rfl,HT.out,(S3.out.below HG.out).drop1.drop1⟩
set_option maxRecDepth 1000000 in
theorem OW {x:Nat}{pol:Int}{now:Nat}{js:List J}{bk:List Ch}{fl:List Int}{k:Nat}(hS:dL M w0 w x pol now js bk fl k)(dK:1≤pol∧pol≤4)(G:dJ now js bk)(dB:now≤10000)(hk:k≤900)
 {mm:Int} (HM:w0.cell? ⟨0,0,none⟩=some (.int .i64 mm)) (TT:∀W,Below w0.heap.size w0 W→Tab W) (t s:ByteArray) (ht:Says t [⟨#[99,97,110,99,101,108]⟩,s]) (hs:pz s) (hn:numeral s=true) (hv:val s≤1000) :
 Calls Tryz.prog 11 #[.pointer (some ⟨x,0,none⟩),.string t] w fun e w'=>∃(r:Int) (bG:List J) (bk':List Ch),e=.returned (.string (nD r))∧(code r∧gV now js bk bG bk')∧dL M w0 w' x pol now bG bk' fl k:=by
 refine named fun R HQ=>?_;obtain⟨w3,w4,w5,w6,w7,w8,w9,wA,wB,MP⟩:=jC w x;have MM:=ah.mk MP;have b8:=MP.b8;have b9:=MP.b9;have vG:=MP.vG;have CP:ah (∀W,Calls Tryz.prog 28 #[.string t,.string ⟨#[115,117,98,109,105,116,10]⟩] W fun e w'=>e=.returned (.tuple #[.string ⟨(Lib.trimPrefix t.data.toList [115,117,98,109,105,116,10]).toArray⟩,.bool false])∧w'=W):=⟨fun W=>(Tryz.strings_CutPrefix t ⟨#[115,117,98,109,105,116,10]⟩ W).mono fun e w' h=>by rw[show(⟨#[115,117,98,109,105,116,10]⟩:ByteArray).data.toList=[115,117,98,109,105,116,10]from rfl,ht.pre]at h;exact h⟩;have SP:ah (Calls Tryz.prog 46 #[.string t,.string ⟨#[32]⟩] wB fun e w'=>e=.returned (.slice (some ⟨wB.heap.size,0,none⟩) 2 2)∧w'=wB.alloc (.cells #[.string ⟨#[99,97,110,99,101,108]⟩,.string s] 9)):=⟨(Tryz.strings_Split t ⟨#[32]⟩ mm wB ht.size (ak (hS.below MP.h.old).old HM) (by decide)).mono fun e w' h=>by rw[ht.count,ht.split]at h;exact h⟩;have HC:=MP.h.bg (.cells #[.string ⟨#[99,97,110,99,101,108]⟩,.string s] 9);have LK:=dU eX HC 1 rfl 104 9 101 Tryz.underlying104 Tryz.underlying9 .nilFunc (lQ _) ⟨#[99,97,110,99,101,108]⟩ true;rw[if_pos rfl]at LK;have S1:=ah.mk (hS.front (show Has w (wB.alloc (.cells #[.string ⟨#[99,97,110,99,101,108]⟩,.string s] 9)) [aF w.heap.size (.cells #[.pointer (some ⟨x,0,none⟩)] 23),aF wB.heap.size (.cells #[.string ⟨#[99,97,110,99,101,108]⟩,.string s] 9)]from(HC.drop 1).drop 1));have c0:(wB.alloc (.cells #[.string ⟨#[99,97,110,99,101,108]⟩,.string s] 9)).cell? ⟨wB.heap.size,0,none⟩=some (.string ⟨#[99,97,110,99,101,108]⟩):=by rw[aj (heap_alloc_new wB _)];rfl
 have c1:(wB.alloc (.cells #[.string ⟨#[99,97,110,99,101,108]⟩,.string s] 9)).cell? ⟨wB.heap.size,1,none⟩=some (.string s):=by rw[aj (heap_alloc_new wB _)];rfl
 have AC:=ah.mk (jl s hs hn wB.heap.size 1 c1 (by simp));have hi:=fun w=>iw (.int .i64 (val s:Int)) 20 w;have hmm:=@run_makeMap Tryz.prog;have tj:=ht.jobs;have tb:=ht.book;have PP:=ah.mk dK;have GG:=ah.mk G;have uJ:=ah.mk TT;have HV:=ah.mk hv;clear hS dK G HM TT ht hs hn MP HC hv;have wK:ah ((Instr.lookup 104 (.map (some (w.heap.size+1))) (.string ⟨#[99,97,110,99,101,108]⟩) true).run Tryz.prog (wB.alloc (.cells #[.string ⟨#[99,97,110,99,101,108]⟩,.string s] 9))=.ok (.tuple #[.func (.func 36) #[] #[.pointer (some ⟨w.heap.size,0,none⟩)],.bool true]) (wB.alloc (.cells #[.string ⟨#[99,97,110,99,101,108]⟩,.string s] 9))):=⟨by rw[show look (zY x w.heap.size) ⟨#[99,97,110,99,101,108]⟩=some (.func (.func 36) #[] #[.pointer (some ⟨w.heap.size,0,none⟩)])from rfl]at LK;exact LK⟩;clear LK;have hneq:∀W,(binOp .neq 9 (.string ⟨#[99,97,110,99,101,108]⟩) (.string ⟨#[116,105,99,107]⟩)).run Tryz.prog W=.ok (.bool true) W:=fun _=>by kernel_rfl
 go_enter Tryz.func11,Tryz.ntmps11;go_wp2_with (go_at_call 28;refine(CP.out _).mono ?_;rintro e w' ⟨rfl,hw⟩;obtain rfl:=hw.symm;clear hw;refine ah.out ?_)
 refine ah.mk ?_;go_wp2_with (refine aG rfl 104 _ _ _ rfl rfl rfl rfl MM.out.u0 ?_;refine ah.out ?_)
 refine ah.mk ?_;go_wp2_with (refine aG rfl 104 _ _ _ rfl rfl rfl rfl MM.out.u1 ?_;refine ah.out ?_)
 refine ah.mk ?_;go_wp2_with (refine aG rfl 104 _ _ _ rfl rfl rfl rfl MM.out.u2 ?_;refine ah.out ?_)
 refine ah.mk ?_;go_wp2_with (refine aG rfl 104 _ _ _ rfl rfl rfl rfl MM.out.u3 ?_;refine ah.out ?_)
 refine ah.mk ?_;go_wp2_with (refine aG rfl 104 _ _ _ rfl rfl rfl rfl MM.out.u4 ?_;refine ah.out ?_)
 refine ah.mk ?_;go_wp2_with (refine aG rfl 104 _ _ _ rfl rfl rfl rfl MM.out.u5 ?_;refine ah.out ?_)
 refine ah.mk ?_;go_wp2_with (refine aG rfl 104 _ _ _ rfl rfl rfl rfl MM.out.u6 ?_;refine ah.out ?_)
 refine ah.mk ?_;go_wp2_with (refine aG rfl 105 _ _ _ rfl rfl rfl rfl MM.out.v0 ?_;refine ah.out ?_)
 refine ah.mk ?_;go_wp2_with (refine aG rfl 105 _ _ _ rfl rfl rfl rfl MM.out.v1 ?_;refine ah.out ?_)
 refine ah.mk ?_;go_wp2_with (go_at_call 46;refine SP.out.mono ?_;rintro e w' ⟨rfl,hw⟩;obtain rfl:=hw.symm;clear hw;refine ah.out ?_)
 clear SP CP tj tb b8 b9 vG MM hmm;refine ah.mk ?_;go_wp2_with (refine fH rfl 104 _ _ true rfl rfl rfl wK.out ?_;refine ah.out ?_)
 clear wK;refine ah.mk ?_;go_wp2_with (go_at_call 47;refine AC.out.mono ?_;rintro e wD ⟨A,cA,rfl,hD⟩;have HD:=ah.mk hD;clear hD;refine ah.out ?_)
 obtain⟨g,rfl,_⟩:=dD HD.out 0 rfl rfl (by simp);have cg:wD.cell? ⟨g,0,none⟩=some (.iface 3 (.int .i64 (val s:Int))):=by
  have:=bP HD.out 0 rfl 0 [.iface 3 (.int .i64 (val s:Int))] ig 0 _ rfl;simpa using this
 have S2:=ah.mk (S1.out.below HD.out.old);have bD:wD.cell? ⟨w.heap.size,0,none⟩=some (.pointer (some ⟨x,0,none⟩)):=by rw[aj S2.out.blk0];rfl
 have FC:=ah.mk (Rl S2.out PP.out GG.out dB hk (val s) HV.out w.heap.size bD);clear AC c0 c1 S1 HD S2;refine ah.mk ?_;go_wp2_with (go_at_call 36;refine FC.out.mono ?_;rintro e wE ⟨r,jo,bk2,rfl,ht,hs3⟩;have S3:=ah.mk hs3;have HT:=ah.mk ht;clear hs3 ht;refine ah.out ?_)
 clear FC cg bD;have bE:wE.cell? ⟨w.heap.size,0,none⟩=some (.pointer (some ⟨x,0,none⟩)):=by rw[aj S3.out.blk0];rfl
 have cE:wE.cell? ⟨wB.heap.size,0,none⟩=some (.string ⟨#[99,97,110,99,101,108]⟩):=by rw[aj S3.out.DY];rfl
 by_cases hr:r=0
 ·subst hr;have SC:=ah.mk (fK S3.out PP.out (HT.out.2.sane GG.out).1 dB (by omega));refine ah.mk ?_;go_wp2_with (go_at_call 49;refine SC.out.mono ?_;rintro e wF ⟨rfl,wX,ht,hs3⟩;have S4:=ah.mk hs3;have HT2:=ah.mk ht;clear hs3 ht;refine ah.out ?_)
  have TC:=ah.mk (dS 0 ⟨by decide,by decide⟩ (uJ.out _ S4.out.old));refine ah.mk ?_;go_wp2_with (go_at_call 27;refine TC.out.mono ?_;rintro e wG ⟨rfl,hb⟩;have HG:=ah.mk hb;clear hb)
  first|go_ret2|go_ret|skip
  rw[←HQ.out];exact⟨0,wX,bk2,rfl,⟨⟨by decide,by decide⟩,HT.out.2.trans (HT2.out.went _)⟩,(S4.out.below HG.out).drop1.drop1⟩
 ·have e0:(r==0)=false:=by simpa using hr
  have TC:=ah.mk (dS r HT.out.1 (uJ.out _ S3.out.old));clear hr;refine ah.mk ?_;go_wp2_with (go_at_call 27;refine TC.out.mono ?_;rintro e wG ⟨rfl,hb⟩;have HG:=ah.mk hb;clear hb)
  first|go_ret2|go_ret|skip
  rw[←HQ.out];exact⟨r,jo,bk2,rfl,HT.out,(S3.out.below HG.out).drop1.drop1⟩
set_option maxRecDepth 1000000 in
theorem KH {x:Nat}{pol:Int}{now:Nat}{js:List J}{bk:List Ch}{fl:List Int}{k:Nat}(hS:dL M w0 w x pol now js bk fl k)(dK:1≤pol∧pol≤4)(G:dJ now js bk)(dB:now≤10000)(hk:k≤900)
 {mm:Int} (HM:w0.cell? ⟨0,0,none⟩=some (.int .i64 mm)) (TT:∀W,Below w0.heap.size w0 W→Tab W) (t s:ByteArray) (ht:Says t [⟨#[114,101,113,117,101,117,101]⟩,s]) (hs:pz s) (hn:numeral s=true) (hv:val s≤1000) :
 Calls Tryz.prog 11 #[.pointer (some ⟨x,0,none⟩),.string t] w fun e w'=>∃(r:Int) (bG:List J) (bk':List Ch),e=.returned (.string (nD r))∧(code r∧gV now js bk bG bk')∧dL M w0 w' x pol now bG bk' fl k:=by
 refine named fun R HQ=>?_;obtain⟨w3,w4,w5,w6,w7,w8,w9,wA,wB,MP⟩:=jC w x;have MM:=ah.mk MP;have b8:=MP.b8;have b9:=MP.b9;have vG:=MP.vG;have CP:ah (∀W,Calls Tryz.prog 28 #[.string t,.string ⟨#[115,117,98,109,105,116,10]⟩] W fun e w'=>e=.returned (.tuple #[.string ⟨(Lib.trimPrefix t.data.toList [115,117,98,109,105,116,10]).toArray⟩,.bool false])∧w'=W):=⟨fun W=>(Tryz.strings_CutPrefix t ⟨#[115,117,98,109,105,116,10]⟩ W).mono fun e w' h=>by rw[show(⟨#[115,117,98,109,105,116,10]⟩:ByteArray).data.toList=[115,117,98,109,105,116,10]from rfl,ht.pre]at h;exact h⟩;have SP:ah (Calls Tryz.prog 46 #[.string t,.string ⟨#[32]⟩] wB fun e w'=>e=.returned (.slice (some ⟨wB.heap.size,0,none⟩) 2 2)∧w'=wB.alloc (.cells #[.string ⟨#[114,101,113,117,101,117,101]⟩,.string s] 9)):=⟨(Tryz.strings_Split t ⟨#[32]⟩ mm wB ht.size (ak (hS.below MP.h.old).old HM) (by decide)).mono fun e w' h=>by rw[ht.count,ht.split]at h;exact h⟩;have HC:=MP.h.bg (.cells #[.string ⟨#[114,101,113,117,101,117,101]⟩,.string s] 9);have LK:=dU eX HC 1 rfl 104 9 101 Tryz.underlying104 Tryz.underlying9 .nilFunc (lQ _) ⟨#[114,101,113,117,101,117,101]⟩ true;rw[if_pos rfl]at LK;have S1:=ah.mk (hS.front (show Has w (wB.alloc (.cells #[.string ⟨#[114,101,113,117,101,117,101]⟩,.string s] 9)) [aF w.heap.size (.cells #[.pointer (some ⟨x,0,none⟩)] 23),aF wB.heap.size (.cells #[.string ⟨#[114,101,113,117,101,117,101]⟩,.string s] 9)]from(HC.drop 1).drop 1));have c0:(wB.alloc (.cells #[.string ⟨#[114,101,113,117,101,117,101]⟩,.string s] 9)).cell? ⟨wB.heap.size,0,none⟩=some (.string ⟨#[114,101,113,117,101,117,101]⟩):=by rw[aj (heap_alloc_new wB _)];rfl
 have c1:(wB.alloc (.cells #[.string ⟨#[114,101,113,117,101,117,101]⟩,.string s] 9)).cell? ⟨wB.heap.size,1,none⟩=some (.string s):=by rw[aj (heap_alloc_new wB _)];rfl
 have AC:=ah.mk (jl s hs hn wB.heap.size 1 c1 (by simp));have hi:=fun w=>iw (.int .i64 (val s:Int)) 20 w;have hmm:=@run_makeMap Tryz.prog;have tj:=ht.jobs;have tb:=ht.book;have PP:=ah.mk dK;have GG:=ah.mk G;have uJ:=ah.mk TT;have HV:=ah.mk hv;clear hS dK G HM TT ht hs hn MP HC hv;have wK:ah ((Instr.lookup 104 (.map (some (w.heap.size+1))) (.string ⟨#[114,101,113,117,101,117,101]⟩) true).run Tryz.prog (wB.alloc (.cells #[.string ⟨#[114,101,113,117,101,117,101]⟩,.string s] 9))=.ok (.tuple #[.func (.func 38) #[] #[.pointer (some ⟨w.heap.size,0,none⟩)],.bool true]) (wB.alloc (.cells #[.string ⟨#[114,101,113,117,101,117,101]⟩,.string s] 9))):=⟨by rw[show look (zY x w.heap.size) ⟨#[114,101,113,117,101,117,101]⟩=some (.func (.func 38) #[] #[.pointer (some ⟨w.heap.size,0,none⟩)])from rfl]at LK;exact LK⟩;clear LK;have hneq:∀W,(binOp .neq 9 (.string ⟨#[114,101,113,117,101,117,101]⟩) (.string ⟨#[116,105,99,107]⟩)).run Tryz.prog W=.ok (.bool true) W:=fun _=>by kernel_rfl
 go_enter Tryz.func11,Tryz.ntmps11;go_wp2_with (go_at_call 28;refine(CP.out _).mono ?_;rintro e w' ⟨rfl,hw⟩;obtain rfl:=hw.symm;clear hw;refine ah.out ?_)
 refine ah.mk ?_;go_wp2_with (refine aG rfl 104 _ _ _ rfl rfl rfl rfl MM.out.u0 ?_;refine ah.out ?_)
 refine ah.mk ?_;go_wp2_with (refine aG rfl 104 _ _ _ rfl rfl rfl rfl MM.out.u1 ?_;refine ah.out ?_)
 refine ah.mk ?_;go_wp2_with (refine aG rfl 104 _ _ _ rfl rfl rfl rfl MM.out.u2 ?_;refine ah.out ?_)
 refine ah.mk ?_;go_wp2_with (refine aG rfl 104 _ _ _ rfl rfl rfl rfl MM.out.u3 ?_;refine ah.out ?_)
 refine ah.mk ?_;go_wp2_with (refine aG rfl 104 _ _ _ rfl rfl rfl rfl MM.out.u4 ?_;refine ah.out ?_)
 refine ah.mk ?_;go_wp2_with (refine aG rfl 104 _ _ _ rfl rfl rfl rfl MM.out.u5 ?_;refine ah.out ?_)
 refine ah.mk ?_;go_wp2_with (refine aG rfl 104 _ _ _ rfl rfl rfl rfl MM.out.u6 ?_;refine ah.out ?_)
 refine ah.mk ?_;go_wp2_with (refine aG rfl 105 _ _ _ rfl rfl rfl rfl MM.out.v0 ?_;refine ah.out ?_)
 refine ah.mk ?_;go_wp2_with (refine aG rfl 105 _ _ _ rfl rfl rfl rfl MM.out.v1 ?_;refine ah.out ?_)
 refine ah.mk ?_;go_wp2_with (go_at_call 46;refine SP.out.mono ?_;rintro e w' ⟨rfl,hw⟩;obtain rfl:=hw.symm;clear hw;refine ah.out ?_)
 clear SP CP tj tb b8 b9 vG MM hmm;refine ah.mk ?_;go_wp2_with (refine fH rfl 104 _ _ true rfl rfl rfl wK.out ?_;refine ah.out ?_)
 clear wK;refine ah.mk ?_;go_wp2_with (go_at_call 47;refine AC.out.mono ?_;rintro e wD ⟨A,cA,rfl,hD⟩;have HD:=ah.mk hD;clear hD;refine ah.out ?_)
 obtain⟨g,rfl,_⟩:=dD HD.out 0 rfl rfl (by simp);have cg:wD.cell? ⟨g,0,none⟩=some (.iface 3 (.int .i64 (val s:Int))):=by
  have:=bP HD.out 0 rfl 0 [.iface 3 (.int .i64 (val s:Int))] ig 0 _ rfl;simpa using this
 have S2:=ah.mk (S1.out.below HD.out.old);have bD:wD.cell? ⟨w.heap.size,0,none⟩=some (.pointer (some ⟨x,0,none⟩)):=by rw[aj S2.out.blk0];rfl
 have FC:=ah.mk (OU S2.out PP.out GG.out dB hk (val s) HV.out w.heap.size bD);clear AC c0 c1 S1 HD S2;refine ah.mk ?_;go_wp2_with (go_at_call 38;refine FC.out.mono ?_;rintro e wE ⟨r,jo,bk2,rfl,ht,hs3⟩;have S3:=ah.mk hs3;have HT:=ah.mk ht;clear hs3 ht;refine ah.out ?_)
 clear FC cg bD;have bE:wE.cell? ⟨w.heap.size,0,none⟩=some (.pointer (some ⟨x,0,none⟩)):=by rw[aj S3.out.blk0];rfl
 have cE:wE.cell? ⟨wB.heap.size,0,none⟩=some (.string ⟨#[114,101,113,117,101,117,101]⟩):=by rw[aj S3.out.DY];rfl
 by_cases hr:r=0
 ·subst hr;have SC:=ah.mk (fK S3.out PP.out (HT.out.2.sane GG.out).1 dB (by omega));refine ah.mk ?_;go_wp2_with (go_at_call 49;refine SC.out.mono ?_;rintro e wF ⟨rfl,wX,ht,hs3⟩;have S4:=ah.mk hs3;have HT2:=ah.mk ht;clear hs3 ht;refine ah.out ?_)
  have TC:=ah.mk (dS 0 ⟨by decide,by decide⟩ (uJ.out _ S4.out.old));refine ah.mk ?_;go_wp2_with (go_at_call 27;refine TC.out.mono ?_;rintro e wG ⟨rfl,hb⟩;have HG:=ah.mk hb;clear hb)
  first|go_ret2|go_ret|skip
  rw[←HQ.out];exact⟨0,wX,bk2,rfl,⟨⟨by decide,by decide⟩,HT.out.2.trans (HT2.out.went _)⟩,(S4.out.below HG.out).drop1.drop1⟩
 ·have e0:(r==0)=false:=by simpa using hr
  have TC:=ah.mk (dS r HT.out.1 (uJ.out _ S3.out.old));clear hr;refine ah.mk ?_;go_wp2_with (go_at_call 27;refine TC.out.mono ?_;rintro e wG ⟨rfl,hb⟩;have HG:=ah.mk hb;clear hb)
  first|go_ret2|go_ret|skip
  rw[←HQ.out];exact⟨r,jo,bk2,rfl,HT.out,(S3.out.below HG.out).drop1.drop1⟩
set_option maxRecDepth 1000000 in
theorem do_done {x:Nat}{pol:Int}{now:Nat}{js:List J}{bk:List Ch}{fl:List Int}{k:Nat}(hS:dL M w0 w x pol now js bk fl k)(dK:1≤pol∧pol≤4)(G:dJ now js bk)(dB:now≤10000)(hk:k≤900)
 {mm:Int} (HM:w0.cell? ⟨0,0,none⟩=some (.int .i64 mm)) (TT:∀W,Below w0.heap.size w0 W→Tab W) (t s:ByteArray) (ht:Says t [⟨#[100,111,110,101]⟩,s]) (hs:pz s) (hn:numeral s=true) (hv:val s≤1000) :
 Calls Tryz.prog 11 #[.pointer (some ⟨x,0,none⟩),.string t] w fun e w'=>∃(r:Int) (bG:List J) (bk':List Ch),e=.returned (.string (nD r))∧(code r∧gV now js bk bG bk')∧dL M w0 w' x pol now bG bk' fl k:=by
 refine named fun R HQ=>?_;obtain⟨w3,w4,w5,w6,w7,w8,w9,wA,wB,MP⟩:=jC w x;have MM:=ah.mk MP;have b8:=MP.b8;have b9:=MP.b9;have vG:=MP.vG;have CP:ah (∀W,Calls Tryz.prog 28 #[.string t,.string ⟨#[115,117,98,109,105,116,10]⟩] W fun e w'=>e=.returned (.tuple #[.string ⟨(Lib.trimPrefix t.data.toList [115,117,98,109,105,116,10]).toArray⟩,.bool false])∧w'=W):=⟨fun W=>(Tryz.strings_CutPrefix t ⟨#[115,117,98,109,105,116,10]⟩ W).mono fun e w' h=>by rw[show(⟨#[115,117,98,109,105,116,10]⟩:ByteArray).data.toList=[115,117,98,109,105,116,10]from rfl,ht.pre]at h;exact h⟩;have SP:ah (Calls Tryz.prog 46 #[.string t,.string ⟨#[32]⟩] wB fun e w'=>e=.returned (.slice (some ⟨wB.heap.size,0,none⟩) 2 2)∧w'=wB.alloc (.cells #[.string ⟨#[100,111,110,101]⟩,.string s] 9)):=⟨(Tryz.strings_Split t ⟨#[32]⟩ mm wB ht.size (ak (hS.below MP.h.old).old HM) (by decide)).mono fun e w' h=>by rw[ht.count,ht.split]at h;exact h⟩;have HC:=MP.h.bg (.cells #[.string ⟨#[100,111,110,101]⟩,.string s] 9);have LK:=dU eX HC 1 rfl 104 9 101 Tryz.underlying104 Tryz.underlying9 .nilFunc (lQ _) ⟨#[100,111,110,101]⟩ true;rw[if_pos rfl]at LK;have S1:=ah.mk (hS.front (show Has w (wB.alloc (.cells #[.string ⟨#[100,111,110,101]⟩,.string s] 9)) [aF w.heap.size (.cells #[.pointer (some ⟨x,0,none⟩)] 23),aF wB.heap.size (.cells #[.string ⟨#[100,111,110,101]⟩,.string s] 9)]from(HC.drop 1).drop 1));have c0:(wB.alloc (.cells #[.string ⟨#[100,111,110,101]⟩,.string s] 9)).cell? ⟨wB.heap.size,0,none⟩=some (.string ⟨#[100,111,110,101]⟩):=by rw[aj (heap_alloc_new wB _)];rfl
 have c1:(wB.alloc (.cells #[.string ⟨#[100,111,110,101]⟩,.string s] 9)).cell? ⟨wB.heap.size,1,none⟩=some (.string s):=by rw[aj (heap_alloc_new wB _)];rfl
 have AC:=ah.mk (jl s hs hn wB.heap.size 1 c1 (by simp));have hi:=fun w=>iw (.int .i64 (val s:Int)) 20 w;have hmm:=@run_makeMap Tryz.prog;have tj:=ht.jobs;have tb:=ht.book;have PP:=ah.mk dK;have GG:=ah.mk G;have uJ:=ah.mk TT;have HV:=ah.mk hv;clear hS dK G HM TT ht hs hn MP HC hv;have wK:ah ((Instr.lookup 104 (.map (some (w.heap.size+1))) (.string ⟨#[100,111,110,101]⟩) true).run Tryz.prog (wB.alloc (.cells #[.string ⟨#[100,111,110,101]⟩,.string s] 9))=.ok (.tuple #[.func (.func 39) #[] #[.pointer (some ⟨w.heap.size,0,none⟩)],.bool true]) (wB.alloc (.cells #[.string ⟨#[100,111,110,101]⟩,.string s] 9))):=⟨by rw[show look (zY x w.heap.size) ⟨#[100,111,110,101]⟩=some (.func (.func 39) #[] #[.pointer (some ⟨w.heap.size,0,none⟩)])from rfl]at LK;exact LK⟩;clear LK;have hneq:∀W,(binOp .neq 9 (.string ⟨#[100,111,110,101]⟩) (.string ⟨#[116,105,99,107]⟩)).run Tryz.prog W=.ok (.bool true) W:=fun _=>by kernel_rfl
 go_enter Tryz.func11,Tryz.ntmps11;go_wp2_with (go_at_call 28;refine(CP.out _).mono ?_;rintro e w' ⟨rfl,hw⟩;obtain rfl:=hw.symm;clear hw;refine ah.out ?_)
 refine ah.mk ?_;go_wp2_with (refine aG rfl 104 _ _ _ rfl rfl rfl rfl MM.out.u0 ?_;refine ah.out ?_)
 refine ah.mk ?_;go_wp2_with (refine aG rfl 104 _ _ _ rfl rfl rfl rfl MM.out.u1 ?_;refine ah.out ?_)
 refine ah.mk ?_;go_wp2_with (refine aG rfl 104 _ _ _ rfl rfl rfl rfl MM.out.u2 ?_;refine ah.out ?_)
 refine ah.mk ?_;go_wp2_with (refine aG rfl 104 _ _ _ rfl rfl rfl rfl MM.out.u3 ?_;refine ah.out ?_)
 refine ah.mk ?_;go_wp2_with (refine aG rfl 104 _ _ _ rfl rfl rfl rfl MM.out.u4 ?_;refine ah.out ?_)
 refine ah.mk ?_;go_wp2_with (refine aG rfl 104 _ _ _ rfl rfl rfl rfl MM.out.u5 ?_;refine ah.out ?_)
 refine ah.mk ?_;go_wp2_with (refine aG rfl 104 _ _ _ rfl rfl rfl rfl MM.out.u6 ?_;refine ah.out ?_)
 refine ah.mk ?_;go_wp2_with (refine aG rfl 105 _ _ _ rfl rfl rfl rfl MM.out.v0 ?_;refine ah.out ?_)
 refine ah.mk ?_;go_wp2_with (refine aG rfl 105 _ _ _ rfl rfl rfl rfl MM.out.v1 ?_;refine ah.out ?_)
 refine ah.mk ?_;go_wp2_with (go_at_call 46;refine SP.out.mono ?_;rintro e w' ⟨rfl,hw⟩;obtain rfl:=hw.symm;clear hw;refine ah.out ?_)
 clear SP CP tj tb b8 b9 vG MM hmm;refine ah.mk ?_;go_wp2_with (refine fH rfl 104 _ _ true rfl rfl rfl wK.out ?_;refine ah.out ?_)
 clear wK;refine ah.mk ?_;go_wp2_with (go_at_call 47;refine AC.out.mono ?_;rintro e wD ⟨A,cA,rfl,hD⟩;have HD:=ah.mk hD;clear hD;refine ah.out ?_)
 obtain⟨g,rfl,_⟩:=dD HD.out 0 rfl rfl (by simp);have cg:wD.cell? ⟨g,0,none⟩=some (.iface 3 (.int .i64 (val s:Int))):=by
  have:=bP HD.out 0 rfl 0 [.iface 3 (.int .i64 (val s:Int))] ig 0 _ rfl;simpa using this
 have S2:=ah.mk (S1.out.below HD.out.old);have bD:wD.cell? ⟨w.heap.size,0,none⟩=some (.pointer (some ⟨x,0,none⟩)):=by rw[aj S2.out.blk0];rfl
 have FC:=ah.mk (Wp S2.out PP.out GG.out dB hk (val s) HV.out w.heap.size bD);clear AC c0 c1 S1 HD S2;refine ah.mk ?_;go_wp2_with (go_at_call 39;refine FC.out.mono ?_;rintro e wE ⟨r,jo,bk2,rfl,ht,hs3⟩;have S3:=ah.mk hs3;have HT:=ah.mk ht;clear hs3 ht;refine ah.out ?_)
 clear FC cg bD;have bE:wE.cell? ⟨w.heap.size,0,none⟩=some (.pointer (some ⟨x,0,none⟩)):=by rw[aj S3.out.blk0];rfl
 have cE:wE.cell? ⟨wB.heap.size,0,none⟩=some (.string ⟨#[100,111,110,101]⟩):=by rw[aj S3.out.DY];rfl
 by_cases hr:r=0
 ·subst hr;have SC:=ah.mk (fK S3.out PP.out (HT.out.2.sane GG.out).1 dB (by omega));refine ah.mk ?_;go_wp2_with (go_at_call 49;refine SC.out.mono ?_;rintro e wF ⟨rfl,wX,ht,hs3⟩;have S4:=ah.mk hs3;have HT2:=ah.mk ht;clear hs3 ht;refine ah.out ?_)
  have TC:=ah.mk (dS 0 ⟨by decide,by decide⟩ (uJ.out _ S4.out.old));refine ah.mk ?_;go_wp2_with (go_at_call 27;refine TC.out.mono ?_;rintro e wG ⟨rfl,hb⟩;have HG:=ah.mk hb;clear hb)
  first|go_ret2|go_ret|skip
  rw[←HQ.out];exact⟨0,wX,bk2,rfl,⟨⟨by decide,by decide⟩,HT.out.2.trans (HT2.out.went _)⟩,(S4.out.below HG.out).drop1.drop1⟩
 ·have e0:(r==0)=false:=by simpa using hr
  have TC:=ah.mk (dS r HT.out.1 (uJ.out _ S3.out.old));clear hr;refine ah.mk ?_;go_wp2_with (go_at_call 27;refine TC.out.mono ?_;rintro e wG ⟨rfl,hb⟩;have HG:=ah.mk hb;clear hb)
  first|go_ret2|go_ret|skip
  rw[←HQ.out];exact⟨r,jo,bk2,rfl,HT.out,(S3.out.below HG.out).drop1.drop1⟩
set_option maxRecDepth 1000000 in
theorem OX {x:Nat}{pol:Int}{now:Nat}{js:List J}{bk:List Ch}{fl:List Int}{k:Nat}(hS:dL M w0 w x pol now js bk fl k)(dK:1≤pol∧pol≤4)(G:dJ now js bk)(dB:now≤10000)(hk:k≤900)
 {mm:Int} (HM:w0.cell? ⟨0,0,none⟩=some (.int .i64 mm)) (TT:∀W,Below w0.heap.size w0 W→Tab W) (t s:ByteArray) (ht:Says t [⟨#[102,97,105,108,101,100]⟩,s]) (hs:pz s) (hn:numeral s=true) (hv:val s≤1000) :
 Calls Tryz.prog 11 #[.pointer (some ⟨x,0,none⟩),.string t] w fun e w'=>∃(r:Int) (bG:List J) (bk':List Ch),e=.returned (.string (nD r))∧(code r∧gV now js bk bG bk')∧dL M w0 w' x pol now bG bk' fl k:=by
 refine named fun R HQ=>?_;obtain⟨w3,w4,w5,w6,w7,w8,w9,wA,wB,MP⟩:=jC w x;have MM:=ah.mk MP;have b8:=MP.b8;have b9:=MP.b9;have vG:=MP.vG;have CP:ah (∀W,Calls Tryz.prog 28 #[.string t,.string ⟨#[115,117,98,109,105,116,10]⟩] W fun e w'=>e=.returned (.tuple #[.string ⟨(Lib.trimPrefix t.data.toList [115,117,98,109,105,116,10]).toArray⟩,.bool false])∧w'=W):=⟨fun W=>(Tryz.strings_CutPrefix t ⟨#[115,117,98,109,105,116,10]⟩ W).mono fun e w' h=>by rw[show(⟨#[115,117,98,109,105,116,10]⟩:ByteArray).data.toList=[115,117,98,109,105,116,10]from rfl,ht.pre]at h;exact h⟩;have SP:ah (Calls Tryz.prog 46 #[.string t,.string ⟨#[32]⟩] wB fun e w'=>e=.returned (.slice (some ⟨wB.heap.size,0,none⟩) 2 2)∧w'=wB.alloc (.cells #[.string ⟨#[102,97,105,108,101,100]⟩,.string s] 9)):=⟨(Tryz.strings_Split t ⟨#[32]⟩ mm wB ht.size (ak (hS.below MP.h.old).old HM) (by decide)).mono fun e w' h=>by rw[ht.count,ht.split]at h;exact h⟩;have HC:=MP.h.bg (.cells #[.string ⟨#[102,97,105,108,101,100]⟩,.string s] 9);have LK:=dU eX HC 1 rfl 104 9 101 Tryz.underlying104 Tryz.underlying9 .nilFunc (lQ _) ⟨#[102,97,105,108,101,100]⟩ true;rw[if_pos rfl]at LK;have S1:=ah.mk (hS.front (show Has w (wB.alloc (.cells #[.string ⟨#[102,97,105,108,101,100]⟩,.string s] 9)) [aF w.heap.size (.cells #[.pointer (some ⟨x,0,none⟩)] 23),aF wB.heap.size (.cells #[.string ⟨#[102,97,105,108,101,100]⟩,.string s] 9)]from(HC.drop 1).drop 1));have c0:(wB.alloc (.cells #[.string ⟨#[102,97,105,108,101,100]⟩,.string s] 9)).cell? ⟨wB.heap.size,0,none⟩=some (.string ⟨#[102,97,105,108,101,100]⟩):=by rw[aj (heap_alloc_new wB _)];rfl
 have c1:(wB.alloc (.cells #[.string ⟨#[102,97,105,108,101,100]⟩,.string s] 9)).cell? ⟨wB.heap.size,1,none⟩=some (.string s):=by rw[aj (heap_alloc_new wB _)];rfl
 have AC:=ah.mk (jl s hs hn wB.heap.size 1 c1 (by simp));have hi:=fun w=>iw (.int .i64 (val s:Int)) 20 w;have hmm:=@run_makeMap Tryz.prog;have tj:=ht.jobs;have tb:=ht.book;have PP:=ah.mk dK;have GG:=ah.mk G;have uJ:=ah.mk TT;have HV:=ah.mk hv;clear hS dK G HM TT ht hs hn MP HC hv;have wK:ah ((Instr.lookup 104 (.map (some (w.heap.size+1))) (.string ⟨#[102,97,105,108,101,100]⟩) true).run Tryz.prog (wB.alloc (.cells #[.string ⟨#[102,97,105,108,101,100]⟩,.string s] 9))=.ok (.tuple #[.func (.func 41) #[] #[.pointer (some ⟨w.heap.size,0,none⟩)],.bool true]) (wB.alloc (.cells #[.string ⟨#[102,97,105,108,101,100]⟩,.string s] 9))):=⟨by rw[show look (zY x w.heap.size) ⟨#[102,97,105,108,101,100]⟩=some (.func (.func 41) #[] #[.pointer (some ⟨w.heap.size,0,none⟩)])from rfl]at LK;exact LK⟩;clear LK;have hneq:∀W,(binOp .neq 9 (.string ⟨#[102,97,105,108,101,100]⟩) (.string ⟨#[116,105,99,107]⟩)).run Tryz.prog W=.ok (.bool true) W:=fun _=>by kernel_rfl
 go_enter Tryz.func11,Tryz.ntmps11;go_wp2_with (go_at_call 28;refine(CP.out _).mono ?_;rintro e w' ⟨rfl,hw⟩;obtain rfl:=hw.symm;clear hw;refine ah.out ?_)
 refine ah.mk ?_;go_wp2_with (refine aG rfl 104 _ _ _ rfl rfl rfl rfl MM.out.u0 ?_;refine ah.out ?_)
 refine ah.mk ?_;go_wp2_with (refine aG rfl 104 _ _ _ rfl rfl rfl rfl MM.out.u1 ?_;refine ah.out ?_)
 refine ah.mk ?_;go_wp2_with (refine aG rfl 104 _ _ _ rfl rfl rfl rfl MM.out.u2 ?_;refine ah.out ?_)
 refine ah.mk ?_;go_wp2_with (refine aG rfl 104 _ _ _ rfl rfl rfl rfl MM.out.u3 ?_;refine ah.out ?_)
 refine ah.mk ?_;go_wp2_with (refine aG rfl 104 _ _ _ rfl rfl rfl rfl MM.out.u4 ?_;refine ah.out ?_)
 refine ah.mk ?_;go_wp2_with (refine aG rfl 104 _ _ _ rfl rfl rfl rfl MM.out.u5 ?_;refine ah.out ?_)
 refine ah.mk ?_;go_wp2_with (refine aG rfl 104 _ _ _ rfl rfl rfl rfl MM.out.u6 ?_;refine ah.out ?_)
 refine ah.mk ?_;go_wp2_with (refine aG rfl 105 _ _ _ rfl rfl rfl rfl MM.out.v0 ?_;refine ah.out ?_)
 refine ah.mk ?_;go_wp2_with (refine aG rfl 105 _ _ _ rfl rfl rfl rfl MM.out.v1 ?_;refine ah.out ?_)
 refine ah.mk ?_;go_wp2_with (go_at_call 46;refine SP.out.mono ?_;rintro e w' ⟨rfl,hw⟩;obtain rfl:=hw.symm;clear hw;refine ah.out ?_)
 clear SP CP tj tb b8 b9 vG MM hmm;refine ah.mk ?_;go_wp2_with (refine fH rfl 104 _ _ true rfl rfl rfl wK.out ?_;refine ah.out ?_)
 clear wK;refine ah.mk ?_;go_wp2_with (go_at_call 47;refine AC.out.mono ?_;rintro e wD ⟨A,cA,rfl,hD⟩;have HD:=ah.mk hD;clear hD;refine ah.out ?_)
 obtain⟨g,rfl,_⟩:=dD HD.out 0 rfl rfl (by simp);have cg:wD.cell? ⟨g,0,none⟩=some (.iface 3 (.int .i64 (val s:Int))):=by
  have:=bP HD.out 0 rfl 0 [.iface 3 (.int .i64 (val s:Int))] ig 0 _ rfl;simpa using this
 have S2:=ah.mk (S1.out.below HD.out.old);have bD:wD.cell? ⟨w.heap.size,0,none⟩=some (.pointer (some ⟨x,0,none⟩)):=by rw[aj S2.out.blk0];rfl
 have FC:=ah.mk (Rn S2.out PP.out GG.out dB hk (val s) HV.out w.heap.size bD);clear AC c0 c1 S1 HD S2;refine ah.mk ?_;go_wp2_with (go_at_call 41;refine FC.out.mono ?_;rintro e wE ⟨r,jo,bk2,rfl,ht,hs3⟩;have S3:=ah.mk hs3;have HT:=ah.mk ht;clear hs3 ht;refine ah.out ?_)
 clear FC cg bD;have bE:wE.cell? ⟨w.heap.size,0,none⟩=some (.pointer (some ⟨x,0,none⟩)):=by rw[aj S3.out.blk0];rfl
 have cE:wE.cell? ⟨wB.heap.size,0,none⟩=some (.string ⟨#[102,97,105,108,101,100]⟩):=by rw[aj S3.out.DY];rfl
 by_cases hr:r=0
 ·subst hr;have SC:=ah.mk (fK S3.out PP.out (HT.out.2.sane GG.out).1 dB (by omega));refine ah.mk ?_;go_wp2_with (go_at_call 49;refine SC.out.mono ?_;rintro e wF ⟨rfl,wX,ht,hs3⟩;have S4:=ah.mk hs3;have HT2:=ah.mk ht;clear hs3 ht;refine ah.out ?_)
  have TC:=ah.mk (dS 0 ⟨by decide,by decide⟩ (uJ.out _ S4.out.old));refine ah.mk ?_;go_wp2_with (go_at_call 27;refine TC.out.mono ?_;rintro e wG ⟨rfl,hb⟩;have HG:=ah.mk hb;clear hb)
  first|go_ret2|go_ret|skip
  rw[←HQ.out];exact⟨0,wX,bk2,rfl,⟨⟨by decide,by decide⟩,HT.out.2.trans (HT2.out.went _)⟩,(S4.out.below HG.out).drop1.drop1⟩
 ·have e0:(r==0)=false:=by simpa using hr
  have TC:=ah.mk (dS r HT.out.1 (uJ.out _ S3.out.old));clear hr;refine ah.mk ?_;go_wp2_with (go_at_call 27;refine TC.out.mono ?_;rintro e wG ⟨rfl,hb⟩;have HG:=ah.mk hb;clear hb)
  first|go_ret2|go_ret|skip
  rw[←HQ.out];exact⟨r,jo,bk2,rfl,HT.out,(S3.out.below HG.out).drop1.drop1⟩
end
end
section
open Go.RowKit Go.ChangeMaps
theorem Ny (js:List J)(s:Spec)(now:Int):Az (js++[J.new js.length s now])=Az js:=by
 simp[Az,J.new,J.on]
theorem Hy (js:List J)(bk:List Ch)(k:Nat)(s:Spec)(now:Int):most (js++[J.new js.length s now]) bk k=most js bk k:=by
 unfold most;rw[Ny]
theorem RI (js:List J)(s:Spec)(now t:Int):pays (js++[J.new js.length s now]) t=pays js t:=by
 simp[pays,J.new,J.pay]
theorem dJ.new {now:Int}{js:List J}{bk:List Ch}(G:dJ now js bk)(s:Spec)(hs:s.ok)(hlen:js.length≤400):dJ now (js++[J.new js.length s now]) bk:=by
 have h0:=G.uP;refine⟨G.uP,G.Qd,by simp;omega,fun k j hk=>?_,G.VA,?_⟩
 ·by_cases h:k<js.length
  ·rw[List.getElem?_append_left h]at hk;exact G.jobs k j hk
  ·rw[List.getElem?_append_right (by omega)]at hk;have hk0:k-js.length=0:=by
    have:=(List.getElem?_eq_some_iff.1 hk).1;simp at this;omega
   rw[hk0]at hk;simp only[List.getElem?_cons_zero,Option.some.injEq]at hk;subst hk;obtain rfl:k=js.length:=by omega
   exact⟨rfl,hs,by simp[J.new],by simp[J.new],h0,Int.le_refl _,by simp[J.new],h0,by simp[J.new],h0,by simp[J.new],by simp[J.new],fun _=>by simp[J.new],fun e=>by simp[J.new]at e,fun e=>by simp[J.new]at e,by simp[J.new]⟩
 ·rw[Ny,G.book];simp[vP,J.new]
section
variable {w0 w:World}{M:List bV}
set_option maxRecDepth 1000000 in
theorem Ei {x:Nat}{pol:Int}{now:Nat}{js:List J}{bk:List Ch}{fl:List Int}{k:Nat}(hS:dL M w0 w x pol now js bk fl k)(dK:1≤pol∧pol≤4)(G:dJ now js bk)(dB:now≤10000)(hk:k≤900)(hlen:js.length≤400)
 {mm:Int} (HM:w0.cell? ⟨0,0,none⟩=some (.int .i64 mm)) (TT:∀W,Below w0.heap.size w0 W→Tab W) (s:Spec) (hs:s.ok) :
 Calls Tryz.prog 29 #[.pointer (some ⟨x,0,none⟩),.string (lb (dV s.account.data.toList s.qos.data.toList s.size s.limit s.gX))] w fun e w' =>
  (e=.returned (.string (nD 5))∧dL M w0 w' x pol now js bk fl k)∨(e=.returned (.string (⟨#[111,107]⟩++(⟨#[32]⟩++⟨(Lib.itoa ((js.length+1:Nat):Int)).toArray⟩)))∧∃bG,Turned now (js++[J.new js.length s now]) bG∧dL M w0 w' x pol now bG bk fl k):=by
 refine named fun R HQ=>?_;obtain⟨a,y,m,rfl,lG,hy,hm,H⟩:=hS;have Iy:small s.account:=by
  rcases hs.1 with h|h<;>rw[h]
  ·exact jk
  ·exact jO
 have Iz:small s.qos:=by
  rcases hs.2.1 with h|h<;>rw[h]
  ·exact eF [110,111,114,109,97,108] rfl (by decide) (by decide)
  ·exact eF [104,105,103,104] rfl (by decide) (by decide)
 have PC:ah (Calls Tryz.prog 59 #[.string (lb (dV s.account.data.toList s.qos.data.toList s.size s.limit s.gX))] w fun e w'=>e=.returned (.tuple #[.agg s.cells,.int .i64 0,.int .i64 0])∧Below w.heap.size w w'):=⟨by
  have h:=Ee (w:=w) s.account.data.toList s.qos.data.toList (by rw[o8];exact Iy) (by rw[o8];exact Iz) s.size s.limit hs.2.2.1 hs.2.2.2.1 hs.2.2.2.2.1 (by have:=hs.2.2.2.2.2;omega) s.gX (ak H.old HM);rw[o8,o8]at h;exact h⟩
 obtain⟨T,hT⟩:∃T,T=lb (dV s.account.data.toList s.qos.data.toList s.size s.limit s.gX):=⟨_,rfl⟩;rw[←hT]at PC;rw[←hT];have HH:=ah.mk H;have OK:=ah.mk (And.intro lG (And.intro hy hm));have GG:=ah.mk (And.intro G (And.intro dK (And.intro dB (And.intro hk (And.intro hlen hs)))));have uJ:=ah.mk TT;have hone:=ah.mk s.one;have PK:=uN s;have g1:wrap64 ((js.length:Int)+1)=(js.length:Int)+1:=wrap_in (by omega) (by omega);have g1w:IntKind.i64.wrap ((js.length:Int)+1)=(js.length:Int)+1:=(eu _).trans g1;clear hT H lG hy hm G dK dB hk hs Iy Iz TT HM hlen;go_enter Tryz.func29,Tryz.ntmps29;go_wp2_with (go_at_call 59;refine PC.out.mono ?_;rintro e w1 ⟨rfl,hb⟩;have H1:=ah.mk (HH.out.below hb);clear hb;refine ah.out ?_)
 clear PC HH;have H2:ah (Has w0 (w1.alloc (.cells s.cells 51)) (CL a pol now js bk y m++aF w1.heap.size (.cells s.cells 51)::M)):=⟨(H1.out.bg (.cells s.cells 51)).ins (CL a pol now js bk y m) M⟩;refine ah.mk ?_;go_wp2_with (refine aB w1.heap.size rfl rfl 51 (.tmp 5) (.tmp 15) rfl s.cells rfl rfl 51 _ PK rfl hone.out ?_;refine ah.out ?_)
 obtain⟨w2,hw2⟩:∃v,v=w1.alloc (.cells s.cells 51):=⟨_,rfl⟩;obtain⟨sb,hsb⟩:∃v,v=w1.heap.size:=⟨_,rfl⟩;rw[←hw2,←hsb]at H2;rw[←hw2,←hsb];clear hw2 hsb H1;refine ah.mk ?_;go_wp2_with fail
 have SG:ah (∀W,Has w0 W (CL a pol now js bk y m++aF sb (.cells s.cells 51)::M)→W.cell? ⟨a.x,13,none⟩=some (.pointer (some ⟨a.p,0,none⟩))∧W.cell? ⟨a.x,12,none⟩=some (.int .i64 (now:Int))∧W.rangeAt sb 0 s.cells.toList∧True):=⟨fun W HW=>⟨by rw[aj (HW.blk 0 rfl)];rfl,by rw[aj (HW.blk 0 rfl)];rfl,aX (HW.blk 14 rfl) 0 _ fun i v h=>by rw[Nat.zero_add];simpa using h,trivial⟩⟩;have HG:=SG.out _ H2.out.drew;have NC:=ah.mk (O7 H2.out.drew s GG.out.2.2.2.2.2 GG.out.1.uP GG.out.1.Qd GG.out.2.2.2.2.1);refine aK (fun W=>W.cell? ⟨a.x,13,none⟩=some (.pointer (some ⟨a.p,0,none⟩))∧W.cell? ⟨a.x,12,none⟩=some (.int .i64 (now:Int))∧W.rangeAt sb 0 s.cells.toList∧True) 14 (by kernel_rfl) (by kernel_rfl) ?_;refine aZ 0 HG ?_;refine aZ 1 HG ?_;refine aZ 2 HG ?_;refine aZ 3 HG ?_;refine Yy (v:=.agg s.cells) 4 HG (hk:=rfl) (fun W hW=>run_load 51 _ rfl sb 0 rfl s.cells _ hW.2.2.1 Tryz.underlying51 rfl PK) ?_;refine aZ 5 HG ?_;refine aZ 6 HG ?_;refine aZ 7 HG ?_;refine aZ 8 HG ?_;refine aS (k:=9) rfl (by kernel_rfl) (by kernel_rfl) (fun K hK=>?_);rw[if_pos (by rfl)];go_simp;go_at_call 60;refine NC.out.mono ?_;clear NC;rintro e w5 (⟨A,c,A5,c5,rfl,h5⟩|⟨rfl,h5⟩)
 ·have H5:=ah.mk h5;have HG:w5.cell? ⟨a.x,13,none⟩=some (.pointer (some ⟨a.p,0,none⟩))∧w5.cell? ⟨a.x,12,none⟩=some (.int .i64 (now:Int))∧w5.rangeAt sb 0 s.cells.toList∧True:=⟨by rw[aj (h5.blk 0 rfl)];rfl,by rw[aj (h5.blk 0 rfl)];rfl,aX (h5.blk 15 rfl) 0 _ fun i v h=>by rw[Nat.zero_add];simpa using h,trivial⟩;refine hK _ _ HG ?_;clear hK K SG h5;try simp only[Act.put,List.getElem_toArray,List.getElem_cons_zero,List.getElem_cons_succ,List.setIfInBounds_toArray,List.set_cons_zero,List.set_cons_succ]
  refine aZ 10 HG ?_;refine aZ 11 HG ?_;refine aZ 12 HG ?_;refine aZ 13 HG ?_;refine aQ (by kernel_rfl) ?_;simp only[List.drop_succ_cons,List.drop_zero];clear HG H2;obtain⟨g,hg,_⟩:=dD H5.out 14 rfl rfl (by simp);subst hg;have c0:w5.cell? ⟨g,0,none⟩=some (.int .u32 ((js.length+1:Nat):Int)):=bW H5.out 14 rfl rfl kS 0 (js.length+1) rfl 0 _ rfl;rw[show((js.length+1:Nat):Int)=(js.length:Int)+1 from rfl]at c0;have IT:=ah.mk (Tryz.strconv_Itoa ((js.length:Int)+1) (by omega) (by have:=GG.out.2.2.2.2.1;omega) w5 (uJ.out _ H5.out.old));go_wp2_with fail
  refine wp_loop_rounds 2 ?_;rw[rounds_succ];have hl:=GX (r:=(js.length:Int)+1) ⟨by omega,by have:=GG.out.2.2.2.2.1;omega⟩;have hl1:¬9223372036854775807<1+(Lib.itoa ((js.length:Int)+1)).length:=by omega
  have hl2:¬9223372036854775807<2+(1+(Lib.itoa ((js.length:Int)+1)).length):=by omega
  go_wp2_with (go_at_call 57;refine IT.out.mono ?_;rintro e w6 ⟨rfl,q,os,hw⟩;have B6:ah (Below w5.heap.size w5 w6):=⟨by rw[hw];exact⟨rfl,rfl,rfl,by show w5.heap.size≤(w5.heap++os).size;rw[Array.size_append];omega,fun j hj=>Array.getElem?_append_left hj⟩⟩;clear hw;refine ah.out ?_)
  clear IT c0;have S6:ah (dL (aT 43 1 fM (.slice (some ⟨g,0,none⟩) 1 c) [js.length + 1]::aF sb (.cells s.cells 51)::M) w0 w6 a.x pol now (js++[J.new js.length s now]) bk fl k):=⟨⟨{ a with jA:=A5,jc:=c5},y,m,rfl,OK.out.1,by rw[Hy];exact OK.out.2.1,by rw[Hy];exact OK.out.2.2,H5.out.below B6.out⟩⟩;have SC:=ah.mk (fK S6.out GG.out.2.1 (GG.out.1.new s GG.out.2.2.2.2.2 GG.out.2.2.2.2.1) GG.out.2.2.1 (by have:=GG.out.2.2.2.1;omega));clear S6;refine ah.mk ?_;go_wp2_with fail
  rw[rounds_succ];go_wp2_with (go_at_call 49;refine SC.out.mono ?_;rintro e w7 ⟨rfl,bG,ht,h7⟩;have H7:=ah.mk (And.intro ht h7);clear ht h7)
  first|go_ret2|go_ret|skip
  rw[←HQ.out];exact .inr ⟨rfl,bG,H7.out.1,H7.out.2.drop1.drop1⟩
 ·have H5:=ah.mk h5;have HG:=SG.out _ h5;refine hK _ _ HG ?_;clear hK K SG h5;try simp only[Act.put,List.getElem_toArray,List.getElem_cons_zero,List.getElem_cons_succ,List.setIfInBounds_toArray,List.set_cons_zero,List.set_cons_succ]
  refine aZ 10 HG ?_;refine aZ 11 HG ?_;refine aZ 12 HG ?_;refine aZ 13 HG ?_;refine aQ (by kernel_rfl) ?_;simp only[List.drop_succ_cons,List.drop_zero];clear HG H2;have TC:=ah.mk (dS (w:=w5) 5 ⟨by decide,by decide⟩ (uJ.out _ H5.out.old));go_wp2_with (go_at_call 27;refine TC.out.mono ?_;rintro e w6 ⟨rfl,hb⟩;have H6:=ah.mk (H5.out.below hb);clear hb)
  first|go_ret2|go_ret|skip
  rw[←HQ.out];exact .inl ⟨rfl,a,y,m,rfl,OK.out.1,OK.out.2.1,OK.out.2.2,Has.cut (CL a pol now js bk y m) M H6.out⟩
end
end
section
open Go.RowKit Go.ChangeMaps
section
variable {w0 w:World}{M:List bV}
set_option maxRecDepth 1000000 in
theorem O8 {x:Nat}{pol:Int}{now:Nat}{js:List J}{bk:List Ch}{fl:List Int}{k:Nat}(hS:dL M w0 w x pol now js bk fl k)(dK:1≤pol∧pol≤4)(G:dJ now js bk)(dB:now≤10000)(hk:k≤900)(hlen:js.length≤400)
 {mm:Int} (HM:w0.cell? ⟨0,0,none⟩=some (.int .i64 mm)) (TT:∀W,Below w0.heap.size w0 W→Tab W) (s:Spec) (hs:s.ok) :
 Calls Tryz.prog 11 #[.pointer (some ⟨x,0,none⟩),.string (lb ([115,117,98,109,105,116,10]++dV s.account.data.toList s.qos.data.toList s.size s.limit s.gX))] w fun e w' =>
  (e=.returned (.string (nD 5))∧dL M w0 w' x pol now js bk fl k)∨(e=.returned (.string (⟨#[111,107]⟩++(⟨#[32]⟩++⟨(Lib.itoa ((js.length+1:Nat):Int)).toArray⟩)))∧∃bG,Turned now (js++[J.new js.length s now]) bG∧dL M w0 w' x pol now bG bk fl k):=by
 refine named fun R HQ=>?_;have SC:=ah.mk (Ei (hS.below (au (Below.refl _ _) (.cells #[.pointer (some ⟨x,0,none⟩)] 23))) dK G dB hk hlen HM TT s hs);obtain⟨l,hl⟩:∃l,l=dV s.account.data.toList s.qos.data.toList s.size s.limit s.gX:=⟨_,rfl⟩;rw[←hl]at SC;rw[←hl];have CP:ah (∀W,Calls Tryz.prog 28 #[.string (lb ([115,117,98,109,105,116,10]++l)),.string ⟨#[115,117,98,109,105,116,10]⟩] W fun e w'=>e=.returned (.tuple #[.string (lb l),.bool true])∧w'=W):=⟨fun W=>(Tryz.strings_CutPrefix (lb ([115,117,98,109,105,116,10]++l)) ⟨#[115,117,98,109,105,116,10]⟩ W).mono fun e w' h=>by
  rw[fQ,show(⟨#[115,117,98,109,105,116,10]⟩:ByteArray).data.toList=[115,117,98,109,105,116,10]from rfl,(qO _ _).1,(qO _ _).2]at h;exact h⟩
 obtain⟨T,hT⟩:∃T,T=lb ([115,117,98,109,105,116,10]++l):=⟨_,rfl⟩;obtain⟨U,hU⟩:∃U,U=lb l:=⟨_,rfl⟩;rw[←hT,←hU]at CP;rw[←hU]at SC;rw[←hT];clear hl hT hU hS G dB hk hlen HM TT hs dK;go_enter Tryz.func11,Tryz.ntmps11;go_wp2_with (go_at_call 28;refine(CP.out _).mono ?_;rintro e w' ⟨rfl,hw⟩;obtain rfl:=hw.symm;clear hw;refine ah.out ?_)
 refine ah.mk ?_;go_wp2_with (go_at_call 29;refine SC.out.mono ?_;rintro e w2 h;have HX:=ah.mk h;clear h;refine ah.out ?_)
 ·rcases HX.out with h|h
  ·have h2:=h.1;injection h2 with h2;subst h2;refine ah.mk ?_;go_wp2_with fail
   first|go_ret2|go_ret|skip
   rw[←HQ.out];exact .inl ⟨rfl,h.2⟩
  ·have h2:=h.1;injection h2 with h2;subst h2;refine ah.mk ?_;go_wp2_with fail
   first|go_ret2|go_ret|skip
   rw[←HQ.out];exact .inr ⟨rfl,h.2⟩
 all_goals (rcases HX.out with h|h<;>cases h.1)
end
end
end Go.Proofs.YtandhagfhppgaaaGreatDoor
