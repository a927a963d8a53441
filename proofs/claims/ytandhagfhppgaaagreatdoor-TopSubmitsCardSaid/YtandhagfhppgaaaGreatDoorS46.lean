/- Part 46 of a proof: contracts of the functions that the law reaches. No condition. -/
import Derived.Test.YtandhagfhppgaaaGreatDoorS16
import Derived.Test.YtandhagfhppgaaaGreatDoorS18
import Derived.Test.YtandhagfhppgaaaGreatDoorS26
import Derived.Test.YtandhagfhppgaaaGreatDoorS30
import Derived.Test.YtandhagfhppgaaaGreatDoorS42
import Derived.Test.YtandhagfhppgaaaGreatDoorS43
set_option linter.all false
set_option maxRecDepth 100000
set_option maxHeartbeats 16000000
namespace Go.Proofs.YtandhagfhppgaaaGreatDoor
section
open Go.RowKit Go.ChangeMaps
structure Says (t:ByteArray)(ws:List ByteArray):Prop where
 pre:Lib.hasPrefix t.data.toList [115,117,98,109,105,116,10]=false
 jobs:(t.toList==[106,111,98,115])=false
 book:(t.toList==[98,111,111,107])=false
 size:t.size<4294967281
 count:Lib.countB t ⟨#[32]⟩+1=ws.length
 split:Lib.splitB ⟨#[32]⟩ 0 (Lib.countB t ⟨#[32]⟩) t=ws
section
variable {w0 w w1:World}{M:List bW}
theorem dF.front {K:List bW}{x:Nat}{pol now:Int}{js:List J}{bk:List Ch}{fl:List Int}{k:Nat}(h:dF M w0 w x pol now js bk fl k)(hk:Has w w1 K):dF (K++M) w0 w1 x pol now js bk fl k:=by
 obtain⟨a,y,m,h1,h2,h3,h4,h5⟩:=h;refine⟨a,y,m,h1,h2,h3,h4,(h5.more hk).perm ?_⟩;rw[List.append_assoc];exact List.perm_append_comm.append_left _
theorem dF.old {x:Nat}{pol now:Int}{js:List J}{bk:List Ch}{fl:List Int}{k:Nat}(h:dF M w0 w x pol now js bk fl k):Below w0.heap.size w0 w:=by
 obtain⟨a,y,m,h1,h2,h3,h4,h5⟩:=h;exact h5.old
theorem dF.blk0 {b:Nat}{o:Obj}{x:Nat}{pol now:Int}{js:List J}{bk:List Ch}{fl:List Int}{k:Nat}(h:dF (aF b o::M) w0 w x pol now js bk fl k):w.heap[b]?=some o:=by
 obtain⟨a,y,m,h1,h2,h3,h4,h5⟩:=h;exact h5.blk 14 rfl
theorem dF.Dz {b:Nat}{o:Obj}{X:bW}{x:Nat}{pol now:Int}{js:List J}{bk:List Ch}{fl:List Int}{k:Nat}(h:dF (X::aF b o::M) w0 w x pol now js bk fl k):w.heap[b]?=some o:=by
 obtain⟨a,y,m,h1,h2,h3,h4,h5⟩:=h;exact h5.blk 15 rfl
set_option maxRecDepth 1000000 in
theorem Ui {x:Nat}{pol:Int}{now:Nat}{js:List J}{bk:List Ch}{fl:List Int}{k:Nat}(hS:dF M w0 w x pol now js bk fl k)(dP:1≤pol∧pol≤4)(G:dL now js bk)(dB:now≤10000)(hk:k≤900)
 {mm:Int} (HM:w0.cell? ⟨0,0,none⟩=some (.int .i64 mm)) (TT:∀W,Below w0.heap.size w0 W→Tab W) (t s:ByteArray) (ht:Says t [⟨#[104,111,108,100]⟩,s]) (hs:oO s) (hn:numeral s=true) (hv:val s≤1000) :
 Calls Tryz.prog 11 #[.pointer (some ⟨x,0,none⟩),.string t] w fun e w'=>∃(r:Int) (bI:List J) (bk':List Ch),e=.returned (.string (iO r))∧(code r∧ig now js bk bI bk')∧dF M w0 w' x pol now bI bk' fl k:=by
 refine named fun R HQ=>?_;obtain⟨w3,w4,w5,w6,w7,w8,w9,wA,wB,MP⟩:=jo w x;have MM:=ah.mk MP;have b8:=MP.b8;have b9:=MP.b9;have uY:=MP.uY;have CP:ah (∀W,Calls Tryz.prog 28 #[.string t,.string ⟨#[115,117,98,109,105,116,10]⟩] W fun e w'=>e=.returned (.tuple #[.string ⟨(Lib.trimPrefix t.data.toList [115,117,98,109,105,116,10]).toArray⟩,.bool false])∧w'=W):=⟨fun W=>(Tryz.strings_CutPrefix t ⟨#[115,117,98,109,105,116,10]⟩ W).mono fun e w' h=>by rw[show(⟨#[115,117,98,109,105,116,10]⟩:ByteArray).data.toList=[115,117,98,109,105,116,10]from rfl,ht.pre]at h;exact h⟩;have SP:ah (Calls Tryz.prog 46 #[.string t,.string ⟨#[32]⟩] wB fun e w'=>e=.returned (.slice (some ⟨wB.heap.size,0,none⟩) 2 2)∧w'=wB.alloc (.cells #[.string ⟨#[104,111,108,100]⟩,.string s] 9)):=⟨(Tryz.strings_Split t ⟨#[32]⟩ mm wB ht.size (ak (hS.below MP.h.old).old HM) (by decide)).mono fun e w' h=>by rw[ht.count,ht.split]at h;exact h⟩;have HC:=MP.h.aZ (.cells #[.string ⟨#[104,111,108,100]⟩,.string s] 9);have LK:=dR eG HC 1 rfl 104 9 101 Tryz.underlying104 Tryz.underlying9 .nilFunc (lC _) ⟨#[104,111,108,100]⟩ true;rw[if_pos rfl]at LK;have S1:=ah.mk (hS.front (show Has w (wB.alloc (.cells #[.string ⟨#[104,111,108,100]⟩,.string s] 9)) [aF w.heap.size (.cells #[.pointer (some ⟨x,0,none⟩)] 23),aF wB.heap.size (.cells #[.string ⟨#[104,111,108,100]⟩,.string s] 9)]from(HC.drop 1).drop 1));have c0:(wB.alloc (.cells #[.string ⟨#[104,111,108,100]⟩,.string s] 9)).cell? ⟨wB.heap.size,0,none⟩=some (.string ⟨#[104,111,108,100]⟩):=by rw[aj (heap_alloc_new wB _)];rfl
 have c1:(wB.alloc (.cells #[.string ⟨#[104,111,108,100]⟩,.string s] 9)).cell? ⟨wB.heap.size,1,none⟩=some (.string s):=by rw[aj (heap_alloc_new wB _)];rfl
 have AC:=ah.mk (iZ s hs hn wB.heap.size 1 c1 (by simp));have hi:=fun w=>gJ (.int .i64 (val s:Int)) 20 w;have hmm:=@run_makeMap Tryz.prog;have tj:=ht.jobs;have tb:=ht.book;have PP:=ah.mk dP;have GG:=ah.mk G;have rQ:=ah.mk TT;have HV:=ah.mk hv;clear hS dP G HM TT ht hs hn MP HC hv;have vX:ah ((Instr.lookup 104 (.map (some (w.heap.size+1))) (.string ⟨#[104,111,108,100]⟩) true).run Tryz.prog (wB.alloc (.cells #[.string ⟨#[104,111,108,100]⟩,.string s] 9))=.ok (.tuple #[.func (.func 32) #[] #[.pointer (some ⟨w.heap.size,0,none⟩)],.bool true]) (wB.alloc (.cells #[.string ⟨#[104,111,108,100]⟩,.string s] 9))):=⟨by rw[show look (zQ x w.heap.size) ⟨#[104,111,108,100]⟩=some (.func (.func 32) #[] #[.pointer (some ⟨w.heap.size,0,none⟩)])from rfl]at LK;exact LK⟩;clear LK;have hneq:∀W,(binOp .neq 9 (.string ⟨#[104,111,108,100]⟩) (.string ⟨#[116,105,99,107]⟩)).run Tryz.prog W=.ok (.bool true) W:=fun _=>by kernel_rfl
 go_enter Tryz.func11,Tryz.ntmps11;go_wp2_with (go_at_call 28;refine(CP.out _).mono ?_;rintro e w' ⟨rfl,hw⟩;obtain rfl:=hw.symm;clear hw;refine ah.out ?_)
 refine ah.mk ?_;go_wp2_with (refine aG rfl 104 _ _ _ rfl rfl rfl rfl MM.out.u0 ?_;refine ah.out ?_)
 refine ah.mk ?_;go_wp2_with (refine aG rfl 104 _ _ _ rfl rfl rfl rfl MM.out.u1 ?_;refine ah.out ?_)
 refine ah.mk ?_;go_wp2_with (refine aG rfl 104 _ _ _ rfl rfl rfl rfl MM.out.u2 ?_;refine ah.out ?_)
 refine ah.mk ?_;go_wp2_with (refine aG rfl 104 _ _ _ rfl rfl rfl rfl MM.out.u3 ?_;refine ah.out ?_)
 refine ah.mk ?_;go_wp2_with (refine aG rfl 104 _ _ _ rfl rfl rfl rfl MM.out.u4 ?_;refine ah.out ?_)
 refine ah.mk ?_;go_wp2_with (refine aG rfl 104 _ _ _ rfl rfl rfl rfl MM.out.u5 ?_;refine ah.out ?_)
 refine ah.mk ?_;go_wp2_with (refine aG rfl 104 _ _ _ rfl rfl rfl rfl MM.out.u6 ?_;refine ah.out ?_)
 refine ah.mk ?_;go_wp2_with (refine aG rfl 105 _ _ _ rfl rfl rfl rfl MM.out.v0 ?_;refine ah.out ?_)
 refine ah.mk ?_;go_wp2_with (refine aG rfl 105 _ _ _ rfl rfl rfl rfl MM.out.v1 ?_;refine ah.out ?_)
 refine ah.mk ?_;go_wp2_with (go_at_call 46;refine SP.out.mono ?_;rintro e w' ⟨rfl,hw⟩;obtain rfl:=hw.symm;clear hw;refine ah.out ?_)
 clear SP CP tj tb b8 b9 uY MM hmm;refine ah.mk ?_;go_wp2_with (refine fH rfl 104 _ _ true rfl rfl rfl vX.out ?_;refine ah.out ?_)
 clear vX;refine ah.mk ?_;go_wp2_with (go_at_call 47;refine AC.out.mono ?_;rintro e wD ⟨A,cA,rfl,hD⟩;have HD:=ah.mk hD;clear hD;refine ah.out ?_)
 obtain⟨g,rfl,_⟩:=dG HD.out 0 rfl rfl (by simp);have cg:wD.cell? ⟨g,0,none⟩=some (.iface 3 (.int .i64 (val s:Int))):=by
  have:=bM HD.out 0 rfl 0 [.iface 3 (.int .i64 (val s:Int))] gZ 0 _ rfl;simpa using this
 have S2:=ah.mk (S1.out.below HD.out.old);have bD:wD.cell? ⟨w.heap.size,0,none⟩=some (.pointer (some ⟨x,0,none⟩)):=by rw[aj S2.out.blk0];rfl
 have FC:=ah.mk (V4 S2.out PP.out GG.out dB hk (val s) HV.out w.heap.size bD);clear AC c0 c1 S1 HD S2;refine ah.mk ?_;go_wp2_with (go_at_call 32;refine FC.out.mono ?_;rintro e wE ⟨r,jH,bk2,rfl,ht,hs3⟩;have S3:=ah.mk hs3;have HT:=ah.mk ht;clear hs3 ht;refine ah.out ?_)
 clear FC cg bD;have bE:wE.cell? ⟨w.heap.size,0,none⟩=some (.pointer (some ⟨x,0,none⟩)):=by rw[aj S3.out.blk0];rfl
 have cE:wE.cell? ⟨wB.heap.size,0,none⟩=some (.string ⟨#[104,111,108,100]⟩):=by rw[aj S3.out.Dz];rfl
 by_cases hr:r=0
 ·subst hr;have SC:=ah.mk (fK S3.out PP.out (HT.out.2.sane GG.out).1 dB (by omega));refine ah.mk ?_;go_wp2_with (go_at_call 49;refine SC.out.mono ?_;rintro e wF ⟨rfl,wJ,ht,hs3⟩;have S4:=ah.mk hs3;have HT2:=ah.mk ht;clear hs3 ht;refine ah.out ?_)
  have TC:=ah.mk (dQ 0 ⟨by decide,by decide⟩ (rQ.out _ S4.out.old));refine ah.mk ?_;go_wp2_with (go_at_call 27;refine TC.out.mono ?_;rintro e wG ⟨rfl,hb⟩;have HG:=ah.mk hb;clear hb)
  first|go_ret2|go_ret|skip
  rw[←HQ.out];exact⟨0,wJ,bk2,rfl,⟨⟨by decide,by decide⟩,HT.out.2.trans (HT2.out.went _)⟩,(S4.out.below HG.out).drop1.drop1⟩
 ·have e0:(r==0)=false:=by simpa using hr
  have TC:=ah.mk (dQ r HT.out.1 (rQ.out _ S3.out.old));clear hr;refine ah.mk ?_;go_wp2_with (go_at_call 27;refine TC.out.mono ?_;rintro e wG ⟨rfl,hb⟩;have HG:=ah.mk hb;clear hb)
  first|go_ret2|go_ret|skip
  rw[←HQ.out];exact⟨r,jH,bk2,rfl,HT.out,(S3.out.below HG.out).drop1.drop1⟩
set_option maxRecDepth 1000000 in
theorem Kt {x:Nat}{pol:Int}{now:Nat}{js:List J}{bk:List Ch}{fl:List Int}{k:Nat}(hS:dF M w0 w x pol now js bk fl k)(dP:1≤pol∧pol≤4)(G:dL now js bk)(dB:now≤10000)(hk:k≤900)
 {mm:Int} (HM:w0.cell? ⟨0,0,none⟩=some (.int .i64 mm)) (TT:∀W,Below w0.heap.size w0 W→Tab W) (t s:ByteArray) (ht:Says t [⟨#[114,101,108,101,97,115,101]⟩,s]) (hs:oO s) (hn:numeral s=true) (hv:val s≤1000) :
 Calls Tryz.prog 11 #[.pointer (some ⟨x,0,none⟩),.string t] w fun e w'=>∃(r:Int) (bI:List J) (bk':List Ch),e=.returned (.string (iO r))∧(code r∧ig now js bk bI bk')∧dF M w0 w' x pol now bI bk' fl k:=by
 refine named fun R HQ=>?_;obtain⟨w3,w4,w5,w6,w7,w8,w9,wA,wB,MP⟩:=jo w x;have MM:=ah.mk MP;have b8:=MP.b8;have b9:=MP.b9;have uY:=MP.uY;have CP:ah (∀W,Calls Tryz.prog 28 #[.string t,.string ⟨#[115,117,98,109,105,116,10]⟩] W fun e w'=>e=.returned (.tuple #[.string ⟨(Lib.trimPrefix t.data.toList [115,117,98,109,105,116,10]).toArray⟩,.bool false])∧w'=W):=⟨fun W=>(Tryz.strings_CutPrefix t ⟨#[115,117,98,109,105,116,10]⟩ W).mono fun e w' h=>by rw[show(⟨#[115,117,98,109,105,116,10]⟩:ByteArray).data.toList=[115,117,98,109,105,116,10]from rfl,ht.pre]at h;exact h⟩;have SP:ah (Calls Tryz.prog 46 #[.string t,.string ⟨#[32]⟩] wB fun e w'=>e=.returned (.slice (some ⟨wB.heap.size,0,none⟩) 2 2)∧w'=wB.alloc (.cells #[.string ⟨#[114,101,108,101,97,115,101]⟩,.string s] 9)):=⟨(Tryz.strings_Split t ⟨#[32]⟩ mm wB ht.size (ak (hS.below MP.h.old).old HM) (by decide)).mono fun e w' h=>by rw[ht.count,ht.split]at h;exact h⟩;have HC:=MP.h.aZ (.cells #[.string ⟨#[114,101,108,101,97,115,101]⟩,.string s] 9);have LK:=dR eG HC 1 rfl 104 9 101 Tryz.underlying104 Tryz.underlying9 .nilFunc (lC _) ⟨#[114,101,108,101,97,115,101]⟩ true;rw[if_pos rfl]at LK;have S1:=ah.mk (hS.front (show Has w (wB.alloc (.cells #[.string ⟨#[114,101,108,101,97,115,101]⟩,.string s] 9)) [aF w.heap.size (.cells #[.pointer (some ⟨x,0,none⟩)] 23),aF wB.heap.size (.cells #[.string ⟨#[114,101,108,101,97,115,101]⟩,.string s] 9)]from(HC.drop 1).drop 1));have c0:(wB.alloc (.cells #[.string ⟨#[114,101,108,101,97,115,101]⟩,.string s] 9)).cell? ⟨wB.heap.size,0,none⟩=some (.string ⟨#[114,101,108,101,97,115,101]⟩):=by rw[aj (heap_alloc_new wB _)];rfl
 have c1:(wB.alloc (.cells #[.string ⟨#[114,101,108,101,97,115,101]⟩,.string s] 9)).cell? ⟨wB.heap.size,1,none⟩=some (.string s):=by rw[aj (heap_alloc_new wB _)];rfl
 have AC:=ah.mk (iZ s hs hn wB.heap.size 1 c1 (by simp));have hi:=fun w=>gJ (.int .i64 (val s:Int)) 20 w;have hmm:=@run_makeMap Tryz.prog;have tj:=ht.jobs;have tb:=ht.book;have PP:=ah.mk dP;have GG:=ah.mk G;have rQ:=ah.mk TT;have HV:=ah.mk hv;clear hS dP G HM TT ht hs hn MP HC hv;have vX:ah ((Instr.lookup 104 (.map (some (w.heap.size+1))) (.string ⟨#[114,101,108,101,97,115,101]⟩) true).run Tryz.prog (wB.alloc (.cells #[.string ⟨#[114,101,108,101,97,115,101]⟩,.string s] 9))=.ok (.tuple #[.func (.func 34) #[] #[.pointer (some ⟨w.heap.size,0,none⟩)],.bool true]) (wB.alloc (.cells #[.string ⟨#[114,101,108,101,97,115,101]⟩,.string s] 9))):=⟨by rw[show look (zQ x w.heap.size) ⟨#[114,101,108,101,97,115,101]⟩=some (.func (.func 34) #[] #[.pointer (some ⟨w.heap.size,0,none⟩)])from rfl]at LK;exact LK⟩;clear LK;have hneq:∀W,(binOp .neq 9 (.string ⟨#[114,101,108,101,97,115,101]⟩) (.string ⟨#[116,105,99,107]⟩)).run Tryz.prog W=.ok (.bool true) W:=fun _=>by kernel_rfl
 go_enter Tryz.func11,Tryz.ntmps11;go_wp2_with (go_at_call 28;refine(CP.out _).mono ?_;rintro e w' ⟨rfl,hw⟩;obtain rfl:=hw.symm;clear hw;refine ah.out ?_)
 refine ah.mk ?_;go_wp2_with (refine aG rfl 104 _ _ _ rfl rfl rfl rfl MM.out.u0 ?_;refine ah.out ?_)
 refine ah.mk ?_;go_wp2_with (refine aG rfl 104 _ _ _ rfl rfl rfl rfl MM.out.u1 ?_;refine ah.out ?_)
 refine ah.mk ?_;go_wp2_with (refine aG rfl 104 _ _ _ rfl rfl rfl rfl MM.out.u2 ?_;refine ah.out ?_)
 refine ah.mk ?_;go_wp2_with (refine aG rfl 104 _ _ _ rfl rfl rfl rfl MM.out.u3 ?_;refine ah.out ?_)
 refine ah.mk ?_;go_wp2_with (refine aG rfl 104 _ _ _ rfl rfl rfl rfl MM.out.u4 ?_;refine ah.out ?_)
 refine ah.mk ?_;go_wp2_with (refine aG rfl 104 _ _ _ rfl rfl rfl rfl MM.out.u5 ?_;refine ah.out ?_)
 refine ah.mk ?_;go_wp2_with (refine aG rfl 104 _ _ _ rfl rfl rfl rfl MM.out.u6 ?_;refine ah.out ?_)
 refine ah.mk ?_;go_wp2_with (refine aG rfl 105 _ _ _ rfl rfl rfl rfl MM.out.v0 ?_;refine ah.out ?_)
 refine ah.mk ?_;go_wp2_with (refine aG rfl 105 _ _ _ rfl rfl rfl rfl MM.out.v1 ?_;refine ah.out ?_)
 refine ah.mk ?_;go_wp2_with (go_at_call 46;refine SP.out.mono ?_;rintro e w' ⟨rfl,hw⟩;obtain rfl:=hw.symm;clear hw;refine ah.out ?_)
 clear SP CP tj tb b8 b9 uY MM hmm;refine ah.mk ?_;go_wp2_with (refine fH rfl 104 _ _ true rfl rfl rfl vX.out ?_;refine ah.out ?_)
 clear vX;refine ah.mk ?_;go_wp2_with (go_at_call 47;refine AC.out.mono ?_;rintro e wD ⟨A,cA,rfl,hD⟩;have HD:=ah.mk hD;clear hD;refine ah.out ?_)
 obtain⟨g,rfl,_⟩:=dG HD.out 0 rfl rfl (by simp);have cg:wD.cell? ⟨g,0,none⟩=some (.iface 3 (.int .i64 (val s:Int))):=by
  have:=bM HD.out 0 rfl 0 [.iface 3 (.int .i64 (val s:Int))] gZ 0 _ rfl;simpa using this
 have S2:=ah.mk (S1.out.below HD.out.old);have bD:wD.cell? ⟨w.heap.size,0,none⟩=some (.pointer (some ⟨x,0,none⟩)):=by rw[aj S2.out.blk0];rfl
 have FC:=ah.mk (Oy S2.out PP.out GG.out dB hk (val s) HV.out w.heap.size bD);clear AC c0 c1 S1 HD S2;refine ah.mk ?_;go_wp2_with (go_at_call 34;refine FC.out.mono ?_;rintro e wE ⟨r,jH,bk2,rfl,ht,hs3⟩;have S3:=ah.mk hs3;have HT:=ah.mk ht;clear hs3 ht;refine ah.out ?_)
 clear FC cg bD;have bE:wE.cell? ⟨w.heap.size,0,none⟩=some (.pointer (some ⟨x,0,none⟩)):=by rw[aj S3.out.blk0];rfl
 have cE:wE.cell? ⟨wB.heap.size,0,none⟩=some (.string ⟨#[114,101,108,101,97,115,101]⟩):=by rw[aj S3.out.Dz];rfl
 by_cases hr:r=0
 ·subst hr;have SC:=ah.mk (fK S3.out PP.out (HT.out.2.sane GG.out).1 dB (by omega));refine ah.mk ?_;go_wp2_with (go_at_call 49;refine SC.out.mono ?_;rintro e wF ⟨rfl,wJ,ht,hs3⟩;have S4:=ah.mk hs3;have HT2:=ah.mk ht;clear hs3 ht;refine ah.out ?_)
  have TC:=ah.mk (dQ 0 ⟨by decide,by decide⟩ (rQ.out _ S4.out.old));refine ah.mk ?_;go_wp2_with (go_at_call 27;refine TC.out.mono ?_;rintro e wG ⟨rfl,hb⟩;have HG:=ah.mk hb;clear hb)
  first|go_ret2|go_ret|skip
  rw[←HQ.out];exact⟨0,wJ,bk2,rfl,⟨⟨by decide,by decide⟩,HT.out.2.trans (HT2.out.went _)⟩,(S4.out.below HG.out).drop1.drop1⟩
 ·have e0:(r==0)=false:=by simpa using hr
  have TC:=ah.mk (dQ r HT.out.1 (rQ.out _ S3.out.old));clear hr;refine ah.mk ?_;go_wp2_with (go_at_call 27;refine TC.out.mono ?_;rintro e wG ⟨rfl,hb⟩;have HG:=ah.mk hb;clear hb)
  first|go_ret2|go_ret|skip
  rw[←HQ.out];exact⟨r,jH,bk2,rfl,HT.out,(S3.out.below HG.out).drop1.drop1⟩
set_option maxRecDepth 1000000 in
theorem OA {x:Nat}{pol:Int}{now:Nat}{js:List J}{bk:List Ch}{fl:List Int}{k:Nat}(hS:dF M w0 w x pol now js bk fl k)(dP:1≤pol∧pol≤4)(G:dL now js bk)(dB:now≤10000)(hk:k≤900)
 {mm:Int} (HM:w0.cell? ⟨0,0,none⟩=some (.int .i64 mm)) (TT:∀W,Below w0.heap.size w0 W→Tab W) (t s:ByteArray) (ht:Says t [⟨#[99,97,110,99,101,108]⟩,s]) (hs:oO s) (hn:numeral s=true) (hv:val s≤1000) :
 Calls Tryz.prog 11 #[.pointer (some ⟨x,0,none⟩),.string t] w fun e w'=>∃(r:Int) (bI:List J) (bk':List Ch),e=.returned (.string (iO r))∧(code r∧ig now js bk bI bk')∧dF M w0 w' x pol now bI bk' fl k:=by
 refine named fun R HQ=>?_;obtain⟨w3,w4,w5,w6,w7,w8,w9,wA,wB,MP⟩:=jo w x;have MM:=ah.mk MP;have b8:=MP.b8;have b9:=MP.b9;have uY:=MP.uY;have CP:ah (∀W,Calls Tryz.prog 28 #[.string t,.string ⟨#[115,117,98,109,105,116,10]⟩] W fun e w'=>e=.returned (.tuple #[.string ⟨(Lib.trimPrefix t.data.toList [115,117,98,109,105,116,10]).toArray⟩,.bool false])∧w'=W):=⟨fun W=>(Tryz.strings_CutPrefix t ⟨#[115,117,98,109,105,116,10]⟩ W).mono fun e w' h=>by rw[show(⟨#[115,117,98,109,105,116,10]⟩:ByteArray).data.toList=[115,117,98,109,105,116,10]from rfl,ht.pre]at h;exact h⟩;have SP:ah (Calls Tryz.prog 46 #[.string t,.string ⟨#[32]⟩] wB fun e w'=>e=.returned (.slice (some ⟨wB.heap.size,0,none⟩) 2 2)∧w'=wB.alloc (.cells #[.string ⟨#[99,97,110,99,101,108]⟩,.string s] 9)):=⟨(Tryz.strings_Split t ⟨#[32]⟩ mm wB ht.size (ak (hS.below MP.h.old).old HM) (by decide)).mono fun e w' h=>by rw[ht.count,ht.split]at h;exact h⟩;have HC:=MP.h.aZ (.cells #[.string ⟨#[99,97,110,99,101,108]⟩,.string s] 9);have LK:=dR eG HC 1 rfl 104 9 101 Tryz.underlying104 Tryz.underlying9 .nilFunc (lC _) ⟨#[99,97,110,99,101,108]⟩ true;rw[if_pos rfl]at LK;have S1:=ah.mk (hS.front (show Has w (wB.alloc (.cells #[.string ⟨#[99,97,110,99,101,108]⟩,.string s] 9)) [aF w.heap.size (.cells #[.pointer (some ⟨x,0,none⟩)] 23),aF wB.heap.size (.cells #[.string ⟨#[99,97,110,99,101,108]⟩,.string s] 9)]from(HC.drop 1).drop 1));have c0:(wB.alloc (.cells #[.string ⟨#[99,97,110,99,101,108]⟩,.string s] 9)).cell? ⟨wB.heap.size,0,none⟩=some (.string ⟨#[99,97,110,99,101,108]⟩):=by rw[aj (heap_alloc_new wB _)];rfl
 have c1:(wB.alloc (.cells #[.string ⟨#[99,97,110,99,101,108]⟩,.string s] 9)).cell? ⟨wB.heap.size,1,none⟩=some (.string s):=by rw[aj (heap_alloc_new wB _)];rfl
 have AC:=ah.mk (iZ s hs hn wB.heap.size 1 c1 (by simp));have hi:=fun w=>gJ (.int .i64 (val s:Int)) 20 w;have hmm:=@run_makeMap Tryz.prog;have tj:=ht.jobs;have tb:=ht.book;have PP:=ah.mk dP;have GG:=ah.mk G;have rQ:=ah.mk TT;have HV:=ah.mk hv;clear hS dP G HM TT ht hs hn MP HC hv;have vX:ah ((Instr.lookup 104 (.map (some (w.heap.size+1))) (.string ⟨#[99,97,110,99,101,108]⟩) true).run Tryz.prog (wB.alloc (.cells #[.string ⟨#[99,97,110,99,101,108]⟩,.string s] 9))=.ok (.tuple #[.func (.func 36) #[] #[.pointer (some ⟨w.heap.size,0,none⟩)],.bool true]) (wB.alloc (.cells #[.string ⟨#[99,97,110,99,101,108]⟩,.string s] 9))):=⟨by rw[show look (zQ x w.heap.size) ⟨#[99,97,110,99,101,108]⟩=some (.func (.func 36) #[] #[.pointer (some ⟨w.heap.size,0,none⟩)])from rfl]at LK;exact LK⟩;clear LK;have hneq:∀W,(binOp .neq 9 (.string ⟨#[99,97,110,99,101,108]⟩) (.string ⟨#[116,105,99,107]⟩)).run Tryz.prog W=.ok (.bool true) W:=fun _=>by kernel_rfl
 go_enter Tryz.func11,Tryz.ntmps11;go_wp2_with (go_at_call 28;refine(CP.out _).mono ?_;rintro e w' ⟨rfl,hw⟩;obtain rfl:=hw.symm;clear hw;refine ah.out ?_)
 refine ah.mk ?_;go_wp2_with (refine aG rfl 104 _ _ _ rfl rfl rfl rfl MM.out.u0 ?_;refine ah.out ?_)
 refine ah.mk ?_;go_wp2_with (refine aG rfl 104 _ _ _ rfl rfl rfl rfl MM.out.u1 ?_;refine ah.out ?_)
 refine ah.mk ?_;go_wp2_with (refine aG rfl 104 _ _ _ rfl rfl rfl rfl MM.out.u2 ?_;refine ah.out ?_)
 refine ah.mk ?_;go_wp2_with (refine aG rfl 104 _ _ _ rfl rfl rfl rfl MM.out.u3 ?_;refine ah.out ?_)
 refine ah.mk ?_;go_wp2_with (refine aG rfl 104 _ _ _ rfl rfl rfl rfl MM.out.u4 ?_;refine ah.out ?_)
 refine ah.mk ?_;go_wp2_with (refine aG rfl 104 _ _ _ rfl rfl rfl rfl MM.out.u5 ?_;refine ah.out ?_)
 refine ah.mk ?_;go_wp2_with (refine aG rfl 104 _ _ _ rfl rfl rfl rfl MM.out.u6 ?_;refine ah.out ?_)
 refine ah.mk ?_;go_wp2_with (refine aG rfl 105 _ _ _ rfl rfl rfl rfl MM.out.v0 ?_;refine ah.out ?_)
 refine ah.mk ?_;go_wp2_with (refine aG rfl 105 _ _ _ rfl rfl rfl rfl MM.out.v1 ?_;refine ah.out ?_)
 refine ah.mk ?_;go_wp2_with (go_at_call 46;refine SP.out.mono ?_;rintro e w' ⟨rfl,hw⟩;obtain rfl:=hw.symm;clear hw;refine ah.out ?_)
 clear SP CP tj tb b8 b9 uY MM hmm;refine ah.mk ?_;go_wp2_with (refine fH rfl 104 _ _ true rfl rfl rfl vX.out ?_;refine ah.out ?_)
 clear vX;refine ah.mk ?_;go_wp2_with (go_at_call 47;refine AC.out.mono ?_;rintro e wD ⟨A,cA,rfl,hD⟩;have HD:=ah.mk hD;clear hD;refine ah.out ?_)
 obtain⟨g,rfl,_⟩:=dG HD.out 0 rfl rfl (by simp);have cg:wD.cell? ⟨g,0,none⟩=some (.iface 3 (.int .i64 (val s:Int))):=by
  have:=bM HD.out 0 rfl 0 [.iface 3 (.int .i64 (val s:Int))] gZ 0 _ rfl;simpa using this
 have S2:=ah.mk (S1.out.below HD.out.old);have bD:wD.cell? ⟨w.heap.size,0,none⟩=some (.pointer (some ⟨x,0,none⟩)):=by rw[aj S2.out.blk0];rfl
 have FC:=ah.mk (QT S2.out PP.out GG.out dB hk (val s) HV.out w.heap.size bD);clear AC c0 c1 S1 HD S2;refine ah.mk ?_;go_wp2_with (go_at_call 36;refine FC.out.mono ?_;rintro e wE ⟨r,jH,bk2,rfl,ht,hs3⟩;have S3:=ah.mk hs3;have HT:=ah.mk ht;clear hs3 ht;refine ah.out ?_)
 clear FC cg bD;have bE:wE.cell? ⟨w.heap.size,0,none⟩=some (.pointer (some ⟨x,0,none⟩)):=by rw[aj S3.out.blk0];rfl
 have cE:wE.cell? ⟨wB.heap.size,0,none⟩=some (.string ⟨#[99,97,110,99,101,108]⟩):=by rw[aj S3.out.Dz];rfl
 by_cases hr:r=0
 ·subst hr;have SC:=ah.mk (fK S3.out PP.out (HT.out.2.sane GG.out).1 dB (by omega));refine ah.mk ?_;go_wp2_with (go_at_call 49;refine SC.out.mono ?_;rintro e wF ⟨rfl,wJ,ht,hs3⟩;have S4:=ah.mk hs3;have HT2:=ah.mk ht;clear hs3 ht;refine ah.out ?_)
  have TC:=ah.mk (dQ 0 ⟨by decide,by decide⟩ (rQ.out _ S4.out.old));refine ah.mk ?_;go_wp2_with (go_at_call 27;refine TC.out.mono ?_;rintro e wG ⟨rfl,hb⟩;have HG:=ah.mk hb;clear hb)
  first|go_ret2|go_ret|skip
  rw[←HQ.out];exact⟨0,wJ,bk2,rfl,⟨⟨by decide,by decide⟩,HT.out.2.trans (HT2.out.went _)⟩,(S4.out.below HG.out).drop1.drop1⟩
 ·have e0:(r==0)=false:=by simpa using hr
  have TC:=ah.mk (dQ r HT.out.1 (rQ.out _ S3.out.old));clear hr;refine ah.mk ?_;go_wp2_with (go_at_call 27;refine TC.out.mono ?_;rintro e wG ⟨rfl,hb⟩;have HG:=ah.mk hb;clear hb)
  first|go_ret2|go_ret|skip
  rw[←HQ.out];exact⟨r,jH,bk2,rfl,HT.out,(S3.out.below HG.out).drop1.drop1⟩
set_option maxRecDepth 1000000 in
theorem Ku {x:Nat}{pol:Int}{now:Nat}{js:List J}{bk:List Ch}{fl:List Int}{k:Nat}(hS:dF M w0 w x pol now js bk fl k)(dP:1≤pol∧pol≤4)(G:dL now js bk)(dB:now≤10000)(hk:k≤900)
 {mm:Int} (HM:w0.cell? ⟨0,0,none⟩=some (.int .i64 mm)) (TT:∀W,Below w0.heap.size w0 W→Tab W) (t s:ByteArray) (ht:Says t [⟨#[114,101,113,117,101,117,101]⟩,s]) (hs:oO s) (hn:numeral s=true) (hv:val s≤1000) :
 Calls Tryz.prog 11 #[.pointer (some ⟨x,0,none⟩),.string t] w fun e w'=>∃(r:Int) (bI:List J) (bk':List Ch),e=.returned (.string (iO r))∧(code r∧ig now js bk bI bk')∧dF M w0 w' x pol now bI bk' fl k:=by
 refine named fun R HQ=>?_;obtain⟨w3,w4,w5,w6,w7,w8,w9,wA,wB,MP⟩:=jo w x;have MM:=ah.mk MP;have b8:=MP.b8;have b9:=MP.b9;have uY:=MP.uY;have CP:ah (∀W,Calls Tryz.prog 28 #[.string t,.string ⟨#[115,117,98,109,105,116,10]⟩] W fun e w'=>e=.returned (.tuple #[.string ⟨(Lib.trimPrefix t.data.toList [115,117,98,109,105,116,10]).toArray⟩,.bool false])∧w'=W):=⟨fun W=>(Tryz.strings_CutPrefix t ⟨#[115,117,98,109,105,116,10]⟩ W).mono fun e w' h=>by rw[show(⟨#[115,117,98,109,105,116,10]⟩:ByteArray).data.toList=[115,117,98,109,105,116,10]from rfl,ht.pre]at h;exact h⟩;have SP:ah (Calls Tryz.prog 46 #[.string t,.string ⟨#[32]⟩] wB fun e w'=>e=.returned (.slice (some ⟨wB.heap.size,0,none⟩) 2 2)∧w'=wB.alloc (.cells #[.string ⟨#[114,101,113,117,101,117,101]⟩,.string s] 9)):=⟨(Tryz.strings_Split t ⟨#[32]⟩ mm wB ht.size (ak (hS.below MP.h.old).old HM) (by decide)).mono fun e w' h=>by rw[ht.count,ht.split]at h;exact h⟩;have HC:=MP.h.aZ (.cells #[.string ⟨#[114,101,113,117,101,117,101]⟩,.string s] 9);have LK:=dR eG HC 1 rfl 104 9 101 Tryz.underlying104 Tryz.underlying9 .nilFunc (lC _) ⟨#[114,101,113,117,101,117,101]⟩ true;rw[if_pos rfl]at LK;have S1:=ah.mk (hS.front (show Has w (wB.alloc (.cells #[.string ⟨#[114,101,113,117,101,117,101]⟩,.string s] 9)) [aF w.heap.size (.cells #[.pointer (some ⟨x,0,none⟩)] 23),aF wB.heap.size (.cells #[.string ⟨#[114,101,113,117,101,117,101]⟩,.string s] 9)]from(HC.drop 1).drop 1));have c0:(wB.alloc (.cells #[.string ⟨#[114,101,113,117,101,117,101]⟩,.string s] 9)).cell? ⟨wB.heap.size,0,none⟩=some (.string ⟨#[114,101,113,117,101,117,101]⟩):=by rw[aj (heap_alloc_new wB _)];rfl
 have c1:(wB.alloc (.cells #[.string ⟨#[114,101,113,117,101,117,101]⟩,.string s] 9)).cell? ⟨wB.heap.size,1,none⟩=some (.string s):=by rw[aj (heap_alloc_new wB _)];rfl
 have AC:=ah.mk (iZ s hs hn wB.heap.size 1 c1 (by simp));have hi:=fun w=>gJ (.int .i64 (val s:Int)) 20 w;have hmm:=@run_makeMap Tryz.prog;have tj:=ht.jobs;have tb:=ht.book;have PP:=ah.mk dP;have GG:=ah.mk G;have rQ:=ah.mk TT;have HV:=ah.mk hv;clear hS dP G HM TT ht hs hn MP HC hv;have vX:ah ((Instr.lookup 104 (.map (some (w.heap.size+1))) (.string ⟨#[114,101,113,117,101,117,101]⟩) true).run Tryz.prog (wB.alloc (.cells #[.string ⟨#[114,101,113,117,101,117,101]⟩,.string s] 9))=.ok (.tuple #[.func (.func 38) #[] #[.pointer (some ⟨w.heap.size,0,none⟩)],.bool true]) (wB.alloc (.cells #[.string ⟨#[114,101,113,117,101,117,101]⟩,.string s] 9))):=⟨by rw[show look (zQ x w.heap.size) ⟨#[114,101,113,117,101,117,101]⟩=some (.func (.func 38) #[] #[.pointer (some ⟨w.heap.size,0,none⟩)])from rfl]at LK;exact LK⟩;clear LK;have hneq:∀W,(binOp .neq 9 (.string ⟨#[114,101,113,117,101,117,101]⟩) (.string ⟨#[116,105,99,107]⟩)).run Tryz.prog W=.ok (.bool true) W:=fun _=>by kernel_rfl
 go_enter Tryz.func11,Tryz.ntmps11;go_wp2_with (go_at_call 28;refine(CP.out _).mono ?_;rintro e w' ⟨rfl,hw⟩;obtain rfl:=hw.symm;clear hw;refine ah.out ?_)
 refine ah.mk ?_;go_wp2_with (refine aG rfl 104 _ _ _ rfl rfl rfl rfl MM.out.u0 ?_;refine ah.out ?_)
 refine ah.mk ?_;go_wp2_with (refine aG rfl 104 _ _ _ rfl rfl rfl rfl MM.out.u1 ?_;refine ah.out ?_)
 refine ah.mk ?_;go_wp2_with (refine aG rfl 104 _ _ _ rfl rfl rfl rfl MM.out.u2 ?_;refine ah.out ?_)
 refine ah.mk ?_;go_wp2_with (refine aG rfl 104 _ _ _ rfl rfl rfl rfl MM.out.u3 ?_;refine ah.out ?_)
 refine ah.mk ?_;go_wp2_with (refine aG rfl 104 _ _ _ rfl rfl rfl rfl MM.out.u4 ?_;refine ah.out ?_)
 refine ah.mk ?_;go_wp2_with (refine aG rfl 104 _ _ _ rfl rfl rfl rfl MM.out.u5 ?_;refine ah.out ?_)
 refine ah.mk ?_;go_wp2_with (refine aG rfl 104 _ _ _ rfl rfl rfl rfl MM.out.u6 ?_;refine ah.out ?_)
 refine ah.mk ?_;go_wp2_with (refine aG rfl 105 _ _ _ rfl rfl rfl rfl MM.out.v0 ?_;refine ah.out ?_)
 refine ah.mk ?_;go_wp2_with (refine aG rfl 105 _ _ _ rfl rfl rfl rfl MM.out.v1 ?_;refine ah.out ?_)
 refine ah.mk ?_;go_wp2_with (go_at_call 46;refine SP.out.mono ?_;rintro e w' ⟨rfl,hw⟩;obtain rfl:=hw.symm;clear hw;refine ah.out ?_)
 clear SP CP tj tb b8 b9 uY MM hmm;refine ah.mk ?_;go_wp2_with (refine fH rfl 104 _ _ true rfl rfl rfl vX.out ?_;refine ah.out ?_)
 clear vX;refine ah.mk ?_;go_wp2_with (go_at_call 47;refine AC.out.mono ?_;rintro e wD ⟨A,cA,rfl,hD⟩;have HD:=ah.mk hD;clear hD;refine ah.out ?_)
 obtain⟨g,rfl,_⟩:=dG HD.out 0 rfl rfl (by simp);have cg:wD.cell? ⟨g,0,none⟩=some (.iface 3 (.int .i64 (val s:Int))):=by
  have:=bM HD.out 0 rfl 0 [.iface 3 (.int .i64 (val s:Int))] gZ 0 _ rfl;simpa using this
 have S2:=ah.mk (S1.out.below HD.out.old);have bD:wD.cell? ⟨w.heap.size,0,none⟩=some (.pointer (some ⟨x,0,none⟩)):=by rw[aj S2.out.blk0];rfl
 have FC:=ah.mk (Oz S2.out PP.out GG.out dB hk (val s) HV.out w.heap.size bD);clear AC c0 c1 S1 HD S2;refine ah.mk ?_;go_wp2_with (go_at_call 38;refine FC.out.mono ?_;rintro e wE ⟨r,jH,bk2,rfl,ht,hs3⟩;have S3:=ah.mk hs3;have HT:=ah.mk ht;clear hs3 ht;refine ah.out ?_)
 clear FC cg bD;have bE:wE.cell? ⟨w.heap.size,0,none⟩=some (.pointer (some ⟨x,0,none⟩)):=by rw[aj S3.out.blk0];rfl
 have cE:wE.cell? ⟨wB.heap.size,0,none⟩=some (.string ⟨#[114,101,113,117,101,117,101]⟩):=by rw[aj S3.out.Dz];rfl
 by_cases hr:r=0
 ·subst hr;have SC:=ah.mk (fK S3.out PP.out (HT.out.2.sane GG.out).1 dB (by omega));refine ah.mk ?_;go_wp2_with (go_at_call 49;refine SC.out.mono ?_;rintro e wF ⟨rfl,wJ,ht,hs3⟩;have S4:=ah.mk hs3;have HT2:=ah.mk ht;clear hs3 ht;refine ah.out ?_)
  have TC:=ah.mk (dQ 0 ⟨by decide,by decide⟩ (rQ.out _ S4.out.old));refine ah.mk ?_;go_wp2_with (go_at_call 27;refine TC.out.mono ?_;rintro e wG ⟨rfl,hb⟩;have HG:=ah.mk hb;clear hb)
  first|go_ret2|go_ret|skip
  rw[←HQ.out];exact⟨0,wJ,bk2,rfl,⟨⟨by decide,by decide⟩,HT.out.2.trans (HT2.out.went _)⟩,(S4.out.below HG.out).drop1.drop1⟩
 ·have e0:(r==0)=false:=by simpa using hr
  have TC:=ah.mk (dQ r HT.out.1 (rQ.out _ S3.out.old));clear hr;refine ah.mk ?_;go_wp2_with (go_at_call 27;refine TC.out.mono ?_;rintro e wG ⟨rfl,hb⟩;have HG:=ah.mk hb;clear hb)
  first|go_ret2|go_ret|skip
  rw[←HQ.out];exact⟨r,jH,bk2,rfl,HT.out,(S3.out.below HG.out).drop1.drop1⟩
set_option maxRecDepth 1000000 in
theorem do_done {x:Nat}{pol:Int}{now:Nat}{js:List J}{bk:List Ch}{fl:List Int}{k:Nat}(hS:dF M w0 w x pol now js bk fl k)(dP:1≤pol∧pol≤4)(G:dL now js bk)(dB:now≤10000)(hk:k≤900)
 {mm:Int} (HM:w0.cell? ⟨0,0,none⟩=some (.int .i64 mm)) (TT:∀W,Below w0.heap.size w0 W→Tab W) (t s:ByteArray) (ht:Says t [⟨#[100,111,110,101]⟩,s]) (hs:oO s) (hn:numeral s=true) (hv:val s≤1000) :
 Calls Tryz.prog 11 #[.pointer (some ⟨x,0,none⟩),.string t] w fun e w'=>∃(r:Int) (bI:List J) (bk':List Ch),e=.returned (.string (iO r))∧(code r∧ig now js bk bI bk')∧dF M w0 w' x pol now bI bk' fl k:=by
 refine named fun R HQ=>?_;obtain⟨w3,w4,w5,w6,w7,w8,w9,wA,wB,MP⟩:=jo w x;have MM:=ah.mk MP;have b8:=MP.b8;have b9:=MP.b9;have uY:=MP.uY;have CP:ah (∀W,Calls Tryz.prog 28 #[.string t,.string ⟨#[115,117,98,109,105,116,10]⟩] W fun e w'=>e=.returned (.tuple #[.string ⟨(Lib.trimPrefix t.data.toList [115,117,98,109,105,116,10]).toArray⟩,.bool false])∧w'=W):=⟨fun W=>(Tryz.strings_CutPrefix t ⟨#[115,117,98,109,105,116,10]⟩ W).mono fun e w' h=>by rw[show(⟨#[115,117,98,109,105,116,10]⟩:ByteArray).data.toList=[115,117,98,109,105,116,10]from rfl,ht.pre]at h;exact h⟩;have SP:ah (Calls Tryz.prog 46 #[.string t,.string ⟨#[32]⟩] wB fun e w'=>e=.returned (.slice (some ⟨wB.heap.size,0,none⟩) 2 2)∧w'=wB.alloc (.cells #[.string ⟨#[100,111,110,101]⟩,.string s] 9)):=⟨(Tryz.strings_Split t ⟨#[32]⟩ mm wB ht.size (ak (hS.below MP.h.old).old HM) (by decide)).mono fun e w' h=>by rw[ht.count,ht.split]at h;exact h⟩;have HC:=MP.h.aZ (.cells #[.string ⟨#[100,111,110,101]⟩,.string s] 9);have LK:=dR eG HC 1 rfl 104 9 101 Tryz.underlying104 Tryz.underlying9 .nilFunc (lC _) ⟨#[100,111,110,101]⟩ true;rw[if_pos rfl]at LK;have S1:=ah.mk (hS.front (show Has w (wB.alloc (.cells #[.string ⟨#[100,111,110,101]⟩,.string s] 9)) [aF w.heap.size (.cells #[.pointer (some ⟨x,0,none⟩)] 23),aF wB.heap.size (.cells #[.string ⟨#[100,111,110,101]⟩,.string s] 9)]from(HC.drop 1).drop 1));have c0:(wB.alloc (.cells #[.string ⟨#[100,111,110,101]⟩,.string s] 9)).cell? ⟨wB.heap.size,0,none⟩=some (.string ⟨#[100,111,110,101]⟩):=by rw[aj (heap_alloc_new wB _)];rfl
 have c1:(wB.alloc (.cells #[.string ⟨#[100,111,110,101]⟩,.string s] 9)).cell? ⟨wB.heap.size,1,none⟩=some (.string s):=by rw[aj (heap_alloc_new wB _)];rfl
 have AC:=ah.mk (iZ s hs hn wB.heap.size 1 c1 (by simp));have hi:=fun w=>gJ (.int .i64 (val s:Int)) 20 w;have hmm:=@run_makeMap Tryz.prog;have tj:=ht.jobs;have tb:=ht.book;have PP:=ah.mk dP;have GG:=ah.mk G;have rQ:=ah.mk TT;have HV:=ah.mk hv;clear hS dP G HM TT ht hs hn MP HC hv;have vX:ah ((Instr.lookup 104 (.map (some (w.heap.size+1))) (.string ⟨#[100,111,110,101]⟩) true).run Tryz.prog (wB.alloc (.cells #[.string ⟨#[100,111,110,101]⟩,.string s] 9))=.ok (.tuple #[.func (.func 39) #[] #[.pointer (some ⟨w.heap.size,0,none⟩)],.bool true]) (wB.alloc (.cells #[.string ⟨#[100,111,110,101]⟩,.string s] 9))):=⟨by rw[show look (zQ x w.heap.size) ⟨#[100,111,110,101]⟩=some (.func (.func 39) #[] #[.pointer (some ⟨w.heap.size,0,none⟩)])from rfl]at LK;exact LK⟩;clear LK;have hneq:∀W,(binOp .neq 9 (.string ⟨#[100,111,110,101]⟩) (.string ⟨#[116,105,99,107]⟩)).run Tryz.prog W=.ok (.bool true) W:=fun _=>by kernel_rfl
 go_enter Tryz.func11,Tryz.ntmps11;go_wp2_with (go_at_call 28;refine(CP.out _).mono ?_;rintro e w' ⟨rfl,hw⟩;obtain rfl:=hw.symm;clear hw;refine ah.out ?_)
 refine ah.mk ?_;go_wp2_with (refine aG rfl 104 _ _ _ rfl rfl rfl rfl MM.out.u0 ?_;refine ah.out ?_)
 refine ah.mk ?_;go_wp2_with (refine aG rfl 104 _ _ _ rfl rfl rfl rfl MM.out.u1 ?_;refine ah.out ?_)
 refine ah.mk ?_;go_wp2_with (refine aG rfl 104 _ _ _ rfl rfl rfl rfl MM.out.u2 ?_;refine ah.out ?_)
 refine ah.mk ?_;go_wp2_with (refine aG rfl 104 _ _ _ rfl rfl rfl rfl MM.out.u3 ?_;refine ah.out ?_)
 refine ah.mk ?_;go_wp2_with (refine aG rfl 104 _ _ _ rfl rfl rfl rfl MM.out.u4 ?_;refine ah.out ?_)
 refine ah.mk ?_;go_wp2_with (refine aG rfl 104 _ _ _ rfl rfl rfl rfl MM.out.u5 ?_;refine ah.out ?_)
 refine ah.mk ?_;go_wp2_with (refine aG rfl 104 _ _ _ rfl rfl rfl rfl MM.out.u6 ?_;refine ah.out ?_)
 refine ah.mk ?_;go_wp2_with (refine aG rfl 105 _ _ _ rfl rfl rfl rfl MM.out.v0 ?_;refine ah.out ?_)
 refine ah.mk ?_;go_wp2_with (refine aG rfl 105 _ _ _ rfl rfl rfl rfl MM.out.v1 ?_;refine ah.out ?_)
 refine ah.mk ?_;go_wp2_with (go_at_call 46;refine SP.out.mono ?_;rintro e w' ⟨rfl,hw⟩;obtain rfl:=hw.symm;clear hw;refine ah.out ?_)
 clear SP CP tj tb b8 b9 uY MM hmm;refine ah.mk ?_;go_wp2_with (refine fH rfl 104 _ _ true rfl rfl rfl vX.out ?_;refine ah.out ?_)
 clear vX;refine ah.mk ?_;go_wp2_with (go_at_call 47;refine AC.out.mono ?_;rintro e wD ⟨A,cA,rfl,hD⟩;have HD:=ah.mk hD;clear hD;refine ah.out ?_)
 obtain⟨g,rfl,_⟩:=dG HD.out 0 rfl rfl (by simp);have cg:wD.cell? ⟨g,0,none⟩=some (.iface 3 (.int .i64 (val s:Int))):=by
  have:=bM HD.out 0 rfl 0 [.iface 3 (.int .i64 (val s:Int))] gZ 0 _ rfl;simpa using this
 have S2:=ah.mk (S1.out.below HD.out.old);have bD:wD.cell? ⟨w.heap.size,0,none⟩=some (.pointer (some ⟨x,0,none⟩)):=by rw[aj S2.out.blk0];rfl
 have FC:=ah.mk (V5 S2.out PP.out GG.out dB hk (val s) HV.out w.heap.size bD);clear AC c0 c1 S1 HD S2;refine ah.mk ?_;go_wp2_with (go_at_call 39;refine FC.out.mono ?_;rintro e wE ⟨r,jH,bk2,rfl,ht,hs3⟩;have S3:=ah.mk hs3;have HT:=ah.mk ht;clear hs3 ht;refine ah.out ?_)
 clear FC cg bD;have bE:wE.cell? ⟨w.heap.size,0,none⟩=some (.pointer (some ⟨x,0,none⟩)):=by rw[aj S3.out.blk0];rfl
 have cE:wE.cell? ⟨wB.heap.size,0,none⟩=some (.string ⟨#[100,111,110,101]⟩):=by rw[aj S3.out.Dz];rfl
 by_cases hr:r=0
 ·subst hr;have SC:=ah.mk (fK S3.out PP.out (HT.out.2.sane GG.out).1 dB (by omega));refine ah.mk ?_;go_wp2_with (go_at_call 49;refine SC.out.mono ?_;rintro e wF ⟨rfl,wJ,ht,hs3⟩;have S4:=ah.mk hs3;have HT2:=ah.mk ht;clear hs3 ht;refine ah.out ?_)
  have TC:=ah.mk (dQ 0 ⟨by decide,by decide⟩ (rQ.out _ S4.out.old));refine ah.mk ?_;go_wp2_with (go_at_call 27;refine TC.out.mono ?_;rintro e wG ⟨rfl,hb⟩;have HG:=ah.mk hb;clear hb)
  first|go_ret2|go_ret|skip
  rw[←HQ.out];exact⟨0,wJ,bk2,rfl,⟨⟨by decide,by decide⟩,HT.out.2.trans (HT2.out.went _)⟩,(S4.out.below HG.out).drop1.drop1⟩
 ·have e0:(r==0)=false:=by simpa using hr
  have TC:=ah.mk (dQ r HT.out.1 (rQ.out _ S3.out.old));clear hr;refine ah.mk ?_;go_wp2_with (go_at_call 27;refine TC.out.mono ?_;rintro e wG ⟨rfl,hb⟩;have HG:=ah.mk hb;clear hb)
  first|go_ret2|go_ret|skip
  rw[←HQ.out];exact⟨r,jH,bk2,rfl,HT.out,(S3.out.below HG.out).drop1.drop1⟩
set_option maxRecDepth 1000000 in
theorem OB {x:Nat}{pol:Int}{now:Nat}{js:List J}{bk:List Ch}{fl:List Int}{k:Nat}(hS:dF M w0 w x pol now js bk fl k)(dP:1≤pol∧pol≤4)(G:dL now js bk)(dB:now≤10000)(hk:k≤900)
 {mm:Int} (HM:w0.cell? ⟨0,0,none⟩=some (.int .i64 mm)) (TT:∀W,Below w0.heap.size w0 W→Tab W) (t s:ByteArray) (ht:Says t [⟨#[102,97,105,108,101,100]⟩,s]) (hs:oO s) (hn:numeral s=true) (hv:val s≤1000) :
 Calls Tryz.prog 11 #[.pointer (some ⟨x,0,none⟩),.string t] w fun e w'=>∃(r:Int) (bI:List J) (bk':List Ch),e=.returned (.string (iO r))∧(code r∧ig now js bk bI bk')∧dF M w0 w' x pol now bI bk' fl k:=by
 refine named fun R HQ=>?_;obtain⟨w3,w4,w5,w6,w7,w8,w9,wA,wB,MP⟩:=jo w x;have MM:=ah.mk MP;have b8:=MP.b8;have b9:=MP.b9;have uY:=MP.uY;have CP:ah (∀W,Calls Tryz.prog 28 #[.string t,.string ⟨#[115,117,98,109,105,116,10]⟩] W fun e w'=>e=.returned (.tuple #[.string ⟨(Lib.trimPrefix t.data.toList [115,117,98,109,105,116,10]).toArray⟩,.bool false])∧w'=W):=⟨fun W=>(Tryz.strings_CutPrefix t ⟨#[115,117,98,109,105,116,10]⟩ W).mono fun e w' h=>by rw[show(⟨#[115,117,98,109,105,116,10]⟩:ByteArray).data.toList=[115,117,98,109,105,116,10]from rfl,ht.pre]at h;exact h⟩;have SP:ah (Calls Tryz.prog 46 #[.string t,.string ⟨#[32]⟩] wB fun e w'=>e=.returned (.slice (some ⟨wB.heap.size,0,none⟩) 2 2)∧w'=wB.alloc (.cells #[.string ⟨#[102,97,105,108,101,100]⟩,.string s] 9)):=⟨(Tryz.strings_Split t ⟨#[32]⟩ mm wB ht.size (ak (hS.below MP.h.old).old HM) (by decide)).mono fun e w' h=>by rw[ht.count,ht.split]at h;exact h⟩;have HC:=MP.h.aZ (.cells #[.string ⟨#[102,97,105,108,101,100]⟩,.string s] 9);have LK:=dR eG HC 1 rfl 104 9 101 Tryz.underlying104 Tryz.underlying9 .nilFunc (lC _) ⟨#[102,97,105,108,101,100]⟩ true;rw[if_pos rfl]at LK;have S1:=ah.mk (hS.front (show Has w (wB.alloc (.cells #[.string ⟨#[102,97,105,108,101,100]⟩,.string s] 9)) [aF w.heap.size (.cells #[.pointer (some ⟨x,0,none⟩)] 23),aF wB.heap.size (.cells #[.string ⟨#[102,97,105,108,101,100]⟩,.string s] 9)]from(HC.drop 1).drop 1));have c0:(wB.alloc (.cells #[.string ⟨#[102,97,105,108,101,100]⟩,.string s] 9)).cell? ⟨wB.heap.size,0,none⟩=some (.string ⟨#[102,97,105,108,101,100]⟩):=by rw[aj (heap_alloc_new wB _)];rfl
 have c1:(wB.alloc (.cells #[.string ⟨#[102,97,105,108,101,100]⟩,.string s] 9)).cell? ⟨wB.heap.size,1,none⟩=some (.string s):=by rw[aj (heap_alloc_new wB _)];rfl
 have AC:=ah.mk (iZ s hs hn wB.heap.size 1 c1 (by simp));have hi:=fun w=>gJ (.int .i64 (val s:Int)) 20 w;have hmm:=@run_makeMap Tryz.prog;have tj:=ht.jobs;have tb:=ht.book;have PP:=ah.mk dP;have GG:=ah.mk G;have rQ:=ah.mk TT;have HV:=ah.mk hv;clear hS dP G HM TT ht hs hn MP HC hv;have vX:ah ((Instr.lookup 104 (.map (some (w.heap.size+1))) (.string ⟨#[102,97,105,108,101,100]⟩) true).run Tryz.prog (wB.alloc (.cells #[.string ⟨#[102,97,105,108,101,100]⟩,.string s] 9))=.ok (.tuple #[.func (.func 41) #[] #[.pointer (some ⟨w.heap.size,0,none⟩)],.bool true]) (wB.alloc (.cells #[.string ⟨#[102,97,105,108,101,100]⟩,.string s] 9))):=⟨by rw[show look (zQ x w.heap.size) ⟨#[102,97,105,108,101,100]⟩=some (.func (.func 41) #[] #[.pointer (some ⟨w.heap.size,0,none⟩)])from rfl]at LK;exact LK⟩;clear LK;have hneq:∀W,(binOp .neq 9 (.string ⟨#[102,97,105,108,101,100]⟩) (.string ⟨#[116,105,99,107]⟩)).run Tryz.prog W=.ok (.bool true) W:=fun _=>by kernel_rfl
 go_enter Tryz.func11,Tryz.ntmps11;go_wp2_with (go_at_call 28;refine(CP.out _).mono ?_;rintro e w' ⟨rfl,hw⟩;obtain rfl:=hw.symm;clear hw;refine ah.out ?_)
 refine ah.mk ?_;go_wp2_with (refine aG rfl 104 _ _ _ rfl rfl rfl rfl MM.out.u0 ?_;refine ah.out ?_)
 refine ah.mk ?_;go_wp2_with (refine aG rfl 104 _ _ _ rfl rfl rfl rfl MM.out.u1 ?_;refine ah.out ?_)
 refine ah.mk ?_;go_wp2_with (refine aG rfl 104 _ _ _ rfl rfl rfl rfl MM.out.u2 ?_;refine ah.out ?_)
 refine ah.mk ?_;go_wp2_with (refine aG rfl 104 _ _ _ rfl rfl rfl rfl MM.out.u3 ?_;refine ah.out ?_)
 refine ah.mk ?_;go_wp2_with (refine aG rfl 104 _ _ _ rfl rfl rfl rfl MM.out.u4 ?_;refine ah.out ?_)
 refine ah.mk ?_;go_wp2_with (refine aG rfl 104 _ _ _ rfl rfl rfl rfl MM.out.u5 ?_;refine ah.out ?_)
 refine ah.mk ?_;go_wp2_with (refine aG rfl 104 _ _ _ rfl rfl rfl rfl MM.out.u6 ?_;refine ah.out ?_)
 refine ah.mk ?_;go_wp2_with (refine aG rfl 105 _ _ _ rfl rfl rfl rfl MM.out.v0 ?_;refine ah.out ?_)
 refine ah.mk ?_;go_wp2_with (refine aG rfl 105 _ _ _ rfl rfl rfl rfl MM.out.v1 ?_;refine ah.out ?_)
 refine ah.mk ?_;go_wp2_with (go_at_call 46;refine SP.out.mono ?_;rintro e w' ⟨rfl,hw⟩;obtain rfl:=hw.symm;clear hw;refine ah.out ?_)
 clear SP CP tj tb b8 b9 uY MM hmm;refine ah.mk ?_;go_wp2_with (refine fH rfl 104 _ _ true rfl rfl rfl vX.out ?_;refine ah.out ?_)
 clear vX;refine ah.mk ?_;go_wp2_with (go_at_call 47;refine AC.out.mono ?_;rintro e wD ⟨A,cA,rfl,hD⟩;have HD:=ah.mk hD;clear hD;refine ah.out ?_)
 obtain⟨g,rfl,_⟩:=dG HD.out 0 rfl rfl (by simp);have cg:wD.cell? ⟨g,0,none⟩=some (.iface 3 (.int .i64 (val s:Int))):=by
  have:=bM HD.out 0 rfl 0 [.iface 3 (.int .i64 (val s:Int))] gZ 0 _ rfl;simpa using this
 have S2:=ah.mk (S1.out.below HD.out.old);have bD:wD.cell? ⟨w.heap.size,0,none⟩=some (.pointer (some ⟨x,0,none⟩)):=by rw[aj S2.out.blk0];rfl
 have FC:=ah.mk (QU S2.out PP.out GG.out dB hk (val s) HV.out w.heap.size bD);clear AC c0 c1 S1 HD S2;refine ah.mk ?_;go_wp2_with (go_at_call 41;refine FC.out.mono ?_;rintro e wE ⟨r,jH,bk2,rfl,ht,hs3⟩;have S3:=ah.mk hs3;have HT:=ah.mk ht;clear hs3 ht;refine ah.out ?_)
 clear FC cg bD;have bE:wE.cell? ⟨w.heap.size,0,none⟩=some (.pointer (some ⟨x,0,none⟩)):=by rw[aj S3.out.blk0];rfl
 have cE:wE.cell? ⟨wB.heap.size,0,none⟩=some (.string ⟨#[102,97,105,108,101,100]⟩):=by rw[aj S3.out.Dz];rfl
 by_cases hr:r=0
 ·subst hr;have SC:=ah.mk (fK S3.out PP.out (HT.out.2.sane GG.out).1 dB (by omega));refine ah.mk ?_;go_wp2_with (go_at_call 49;refine SC.out.mono ?_;rintro e wF ⟨rfl,wJ,ht,hs3⟩;have S4:=ah.mk hs3;have HT2:=ah.mk ht;clear hs3 ht;refine ah.out ?_)
  have TC:=ah.mk (dQ 0 ⟨by decide,by decide⟩ (rQ.out _ S4.out.old));refine ah.mk ?_;go_wp2_with (go_at_call 27;refine TC.out.mono ?_;rintro e wG ⟨rfl,hb⟩;have HG:=ah.mk hb;clear hb)
  first|go_ret2|go_ret|skip
  rw[←HQ.out];exact⟨0,wJ,bk2,rfl,⟨⟨by decide,by decide⟩,HT.out.2.trans (HT2.out.went _)⟩,(S4.out.below HG.out).drop1.drop1⟩
 ·have e0:(r==0)=false:=by simpa using hr
  have TC:=ah.mk (dQ r HT.out.1 (rQ.out _ S3.out.old));clear hr;refine ah.mk ?_;go_wp2_with (go_at_call 27;refine TC.out.mono ?_;rintro e wG ⟨rfl,hb⟩;have HG:=ah.mk hb;clear hb)
  first|go_ret2|go_ret|skip
  rw[←HQ.out];exact⟨r,jH,bk2,rfl,HT.out,(S3.out.below HG.out).drop1.drop1⟩
end
end
section
open Go.RowKit Go.ChangeMaps
def V7:List ByteArray:=[⟨#[]⟩,⟨#[119,97,105,116,105,110,103]⟩,⟨#[104,101,108,100]⟩,⟨#[114,117,110,110,105,110,103]⟩,⟨#[115,117,115,112,101,110,100,101,100]⟩,⟨#[100,111,110,101]⟩,⟨#[102,97,105,108,101,100]⟩,⟨#[99,97,110,99,101,108,108,101,100]⟩,⟨#[108,97,116,101]⟩,⟨#[110,101,118,101,114]⟩]
def oC:Array Value:=#[.string ⟨#[]⟩,.string ⟨#[119,97,105,116,105,110,103]⟩,.string ⟨#[104,101,108,100]⟩,.string ⟨#[114,117,110,110,105,110,103]⟩,.string ⟨#[115,117,115,112,101,110,100,101,100]⟩,.string ⟨#[100,111,110,101]⟩,.string ⟨#[102,97,105,108,101,100]⟩,.string ⟨#[99,97,110,99,101,108,108,101,100]⟩,.string ⟨#[108,97,116,101]⟩,.string ⟨#[110,101,118,101,114]⟩]
def Nb (n:Nat):ByteArray:=(V7[n]?).getD ⟨#[]⟩
theorem QX (n:Nat)(h:n<10):oC[n]?=some (.string (Nb n)):=by
 rcases(by omega:n=0∨n=1∨n=2∨n=3∨n=4∨n=5∨n=6∨n=7∨n=8∨n=9)with rfl|rfl|rfl|rfl|rfl|rfl|rfl|rfl|rfl|rfl<;>rfl
theorem Kw (n:Nat)(h:n<10):(Nb n).size≤9:=by
 rcases(by omega:n=0∨n=1∨n=2∨n=3∨n=4∨n=5∨n=6∨n=7∨n=8∨n=9)with rfl|rfl|rfl|rfl|rfl|rfl|rfl|rfl|rfl|rfl<;>exact Nat.le_of_ble_eq_true rfl
def jT (j:J):ByteArray:=Gx [mY (j.id:Int),gW,Nb j.how.toNat,mY j.ran]
theorem rJ (j:J)(now:Int)(k:Nat)(h:j.ok now k)(hn:now≤1000000)(hk:k≤1000):(jT j).size≤100:=by
 have a1:=h.id;have a2:=h.Nw;have a3:=h.Nv;have a4:=h.rY;have a5:=h.ran;have s1:=iC (n:=(j.id:Int)) (by omega) (by omega);have s2:=iC (n:=j.ran) (by omega) (by omega);have s3:=Kw j.how.toNat (by omega);unfold jT;rw[yO];simp only[List.map_cons,List.map_nil,List.sum_cons,List.sum_nil,List.length_cons,List.length_nil];rw[show gW.size=1 from rfl];omega
section
variable {w0 w:World}{M:List bW}
set_option maxRecDepth 1000000 in
theorem Gz {x:Nat}{pol:Int}{now:Nat}{js:List J}{bk:List Ch}{fl:List Int}{k:Nat}(hS:dF M w0 w x pol now js bk fl k)(G:dL now js bk)(TT:∀W,Below w0.heap.size w0 W→Tab W):Calls Tryz.prog 30 #[.pointer (some ⟨x,0,none⟩)] w fun e w'=>e=.returned (.string (fM jT js))∧dF M w0 w' x pol now js bk fl k:=by
 refine named fun R HQ=>?_;obtain⟨a,y,m,rfl,ku,hy,hm,H⟩:=hS;obtain⟨n,hnl⟩:∃n,n=js.length:=⟨_,rfl⟩;have hn:n≤500:=by rw[hnl];exact G.len
 have HF:=ah.mk (And.intro ku (And.intro hy hm));have HG:=ah.mk (And.intro G TT);have HN:=Lib.hid hnl;have H1:ah (Has w0 (w.alloc (.cells oC 135)) ((CL a pol now js bk y m++M)++[aF w.heap.size (.cells oC 135)])):=⟨H.aZ (.cells oC 135)⟩;have AC:=ah.mk (jV (n:=js.length) H1.out 0 1 2 rfl rfl rfl rfl rfl (by omega));rw[←hnl]at AC;have hz:∀k≤n,¬9223372036854775807<(fM jT (js.take k)).size+1000:=fun k hk=>by
  have h:=mZ (f:=jT) (B:=100) (l:=js.take k) fun j hj=>by
   obtain⟨i,hi⟩:=List.getElem?_of_mem (List.mem_of_mem_take hj);exact rJ j now i (G.jobs i j hi) G.qQ (by have:=(List.getElem?_eq_some_iff.1 hi).1;omega)
  rw[List.length_take]at h;omega
 have HZ:=ah.mk hz;have HT:ah (fM jT (js.take 0)=⟨#[111,107]⟩):=⟨rfl⟩;clear hz hnl H G TT hy hm ku;obtain⟨wb,hwb⟩:∃wb,wb=w.heap.size:=⟨_,rfl⟩;obtain⟨W1,hW1⟩:∃W1,W1=w.alloc (.cells oC 135):=⟨_,rfl⟩;have HW1:=ah.mk (And.intro hwb hW1);rw[←hwb,←hW1]at H1 AC;clear hwb hW1;go_enter Tryz.func30,Tryz.ntmps30;go_wp2_with (go_at_call 61;rw[←HW1.out.1];change Calls _ _ _ (w.alloc (.cells oC 135)) _;rw[←HW1.out.2];refine AC.out.mono ?_;rintro e w1 ⟨A1,c1,rfl,h1⟩;have H2:=ah.mk h1;clear h1;refine ah.out ?_)
 have RA:ah (bU w1 26 qP (.slice A1 n c1) js):=⟨fF H2.out _ (aT _ _)⟩;have WBK:ah (w1.heap[wb]?=some (.cells oC 135)):=⟨H2.out.blk _ (eH (aT _ _) _)⟩;have TA:ah (∀W,Below w1.heap.size w1 W→Tab W):=⟨fun W h=>HG.out.2 W (ay H2.out.old H2.out.old.size h)⟩;clear AC H1;refine ah.mk ?_;go_wp2_with fail
 go_loopw [4,11] (fun o i wr=>∃(k:Nat),o=.string (fM jT (js.take k))∧i=.int .i64 k∧k≤n∧ah (Below w1.heap.size w1 wr)) (fun _ i _=>n-(intOf i).toNat)
 case atStart=>exact⟨0,by rw[HT.out],rfl,Nat.zero_le _,⟨Below.refl _ _⟩⟩
 case round =>
  obtain⟨k,rfl,rfl,hk,BW⟩:=hrel;by_cases hlt:k<n
  ·obtain⟨j,hx⟩:∃j,js[k]?=some j:=⟨_,List.getElem?_eq_getElem (by rw[←HN.out];exact hlt)⟩;have JO:=HG.out.1.jobs k j hx;have TK:ah (fM jT (js.take (k+1))=fM jT (js.take k)++(⟨#[10]⟩++jT j)):=⟨by rw[←yQ,List.take_add_one,hx];rfl⟩;have JS:=rJ j now k JO HG.out.1.qQ (by omega);obtain⟨hw,Nu⟩:∃hw:Nat,j.how=hw:=⟨j.how.toNat,by have:=JO.Nv;omega⟩;have hw10:(hw:Int)<10:=by have:=JO.Nw;omega
   have hw0:(0:Int)≤(hw:Int):=by omega
   obtain⟨S1,hS1⟩:∃S,S=mY (j.id:Int):=⟨_,rfl⟩;obtain⟨S2,hS2⟩:∃S,S=mY j.ran:=⟨_,rfl⟩;obtain⟨S3,hS3⟩:∃S,S=Nb hw:=⟨_,rfl⟩;obtain⟨XQ,YG⟩:∃J,J=Gx [S1,gW,S3,S2]:=⟨_,rfl⟩;have hJL:jT j=XQ:=by rw[YG,hS1,hS2,hS3];unfold jT;rw[Nu];rfl
   rw[hJL]at TK JS;have z1:¬9223372036854775807<1+XQ.size:=by omega
   have z2:¬9223372036854775807<(fM jT (js.take k)).size+(1+XQ.size):=by have:=HZ.out k hk;omega
   have I1:ah (∀W,Below w1.heap.size w1 W→Calls Tryz.prog 57 #[.int .i64 (j.id:Int)] W fun e w'=>e=.returned (.string S1)∧Below W.heap.size W w'):=⟨fun W h=>by rw[hS1];exact kC _ (by omega) (by have:=JO.id;omega) (TA.out W h)⟩;have I2:ah (∀W,Below w1.heap.size w1 W→Calls Tryz.prog 57 #[.int .i64 j.ran] W fun e w'=>e=.returned (.string S2)∧Below W.heap.size W w'):=⟨fun W h=>by rw[hS2];exact kC _ JO.rY (by have:=JO.ran;have:=HG.out.1.qQ;omega) (TA.out W h)⟩;have ZN:IntKind.i64.wrap (j.id:Int)=(j.id:Int):=(kV _).trans (wrap_in (by omega) (by have:=JO.id;omega));have ZO:ah ((Lib.join ([S1,gW,S3,S2].map (·.data.toList)) (⟨#[32]⟩:ByteArray).data.toList).length≤140737488355328):=⟨by
    have : (Lib.join ([S1,gW,S3,S2].map (·.data.toList)) (⟨#[32]⟩:ByteArray).data.toList).length=XQ.size:=by rw[YG];rfl
    omega⟩
   obtain⟨b,hA,hxr⟩:=(RA.out.below BW.out).get k j hx;subst hA;have R1:ah (wr.rangeAt b (k*26) j.cells.toList):=⟨hxr⟩;have YH:=eP j;obtain⟨V,hV⟩:∃V,V=wr.alloc (.cells j.cells 55):=⟨_,rfl⟩;have BV:ah (Below w1.heap.size w1 V):=⟨by rw[hV];exact au BW.out _⟩;have hh:V.heap[wr.heap.size]?=some (.cells j.cells 55):=by rw[hV];exact heap_alloc_new _ _
   have c0:∀g:GW V,g.W.cell? ⟨wr.heap.size,0,none⟩=some (.int .u32 (j.id:Int)):=fun g=>g.cell (by rw[aj hh];rfl);have c3:∀g:GW V,g.W.cell? ⟨wr.heap.size,3,none⟩=some (.string gW):=fun g=>g.cell (by rw[aj hh];rfl);have c19:∀g:GW V,g.W.cell? ⟨wr.heap.size,19,none⟩=some (.int .i64 (hw:Int)):=fun g=>g.cell (by rw[aj hh,←Nu];rfl);have c23:∀g:GW V,g.W.cell? ⟨wr.heap.size,23,none⟩=some (.int .i64 j.ran):=fun g=>g.cell (by rw[aj hh];rfl);have cw:∀g:GW V,g.W.cell? ⟨wb,hw,none⟩=some (.string S3):=fun g=>g.cell (ak BV.out (by rw[aj WBK.out,hS3];exact QX hw (by omega)));obtain⟨L,hL⟩:∃L,L=fM jT (js.take k):=⟨_,rfl⟩;rw[←hL]at TK z2;rw[←hL];have YI:=ah.mk YG;clear hL JS hxr hx hJL hS1 hS2 hS3 YG Nu JO;go_wp2_with (first|(refine aB wr.heap.size rfl rfl 55 (.tmp 6) (.tmp 14) rfl j.cells rfl rfl 55 _ YH rfl j.one ?_;refine ah.out ?_)|(refine aI rfl 55 (.tmp 13) rfl b (k*26) rfl j.cells _ R1.out Tryz.underlying55 rfl YH ?_))
   rw[←hV];clear hV hh;refine ah.mk ?_;go_wp2_with fail
   have HG:∃g:GW V,V.drew=g.W:=⟨⟨V.drew,aC (Below.refl _ _) 1⟩,rfl⟩;refine aK (fun W=>∃g:GW V,W=g.W) 19 (by kernel_rfl) (by kernel_rfl) ?_;refine tk 0 HG ?_;refine tk 1 HG ?_;refine tk 2 HG ?_;refine tk 3 HG ?_;refine tk 5 HG ?_;refine tk 6 HG ?_;refine tk 7 HG ?_;refine tk 8 HG ?_;refine tk 9 HG ?_;refine tk 10 HG ?_;refine tk 11 HG ?_;refine tk 12 HG ?_;refine tk 13 HG ?_;refine aP (k:=4) rfl (by kernel_rfl) (by kernel_rfl) (fun K hK=>?_);rw[if_pos (by rfl)];go_simp;go_at_call 57;refine(I1.out _ (ay BV.out BV.out.size (aC (Below.refl _ _) 1))).mono ?_;rintro e w6 ⟨rfl,hb⟩;have B6:Below V.heap.size V w6:=ay (aC (Below.refl _ _) 1) (Nat.le_refl _) hb;have HG:∃g:GW V,w6=g.W:=⟨⟨w6,B6⟩,rfl⟩;have YJ:=ah.mk B6;refine hK _ _ HG ?_;clear hK K hb B6;try simp only[Act.put,List.getElem_toArray,List.getElem_cons_zero,List.getElem_cons_succ,List.setIfInBounds_toArray,List.set_cons_zero,List.set_cons_succ]
   refine aP (k:=14) rfl (by kernel_rfl) (by kernel_rfl) (fun K hK=>?_);rw[if_pos (by rfl)];go_simp;go_at_call 57;refine(I2.out _ (ay BV.out BV.out.size YJ.out)).mono ?_;rintro e u ⟨rfl,hb⟩;have B7:Below V.heap.size V u:=ay YJ.out YJ.out.size hb;have HG:∃g:GW V,u=g.W:=⟨⟨u,B7⟩,rfl⟩;have ZQ:=ah.mk B7;have B4:ah (Below w1.heap.size w1 u):=⟨ay BV.out BV.out.size B7⟩;refine hK _ _ HG ?_;clear hK K hb B7 YJ;try simp only[Act.put,List.getElem_toArray,List.getElem_cons_zero,List.getElem_cons_succ,List.setIfInBounds_toArray,List.set_cons_zero,List.set_cons_succ]
   have HG:∃g:GW V,u.alloc (.cells #[.string S1,.string gW,.string S3,.string S2] 9)=g.W:=⟨⟨_,au ZQ.out _⟩,rfl⟩;refine aP (k:=15) rfl (by kernel_rfl) (by kernel_rfl) (fun K hK=>?_);rw[if_pos (by rfl)];go_simp;refine hK _ _ HG ?_;clear hK K;try simp only[Act.put,List.getElem_toArray,List.getElem_cons_zero,List.getElem_cons_succ,List.setIfInBounds_toArray,List.set_cons_zero,List.set_cons_succ]
   have JC:ah (Calls Tryz.prog 62 #[.slice (some ⟨u.heap.size,0,none⟩) 4 4,.string ⟨#[32]⟩] (u.alloc (.cells #[.string S1,.string gW,.string S3,.string S2] 9)) fun e w'=>e=.returned (.string XQ)∧(∃g:GW V,w'=g.W)∧Below w1.heap.size w1 w'):=⟨by
    refine(Tryz.strings_Join u.heap.size 0 4 [S1,gW,S3,S2] ⟨#[32]⟩ (u.alloc (.cells #[.string S1,.string gW,.string S3,.string S2] 9)) ?_ ?_ (by simp) (by simp) ZO.out).mono ?_
    ·intro j x hj;rw[aj (heap_alloc_new u _)];rcases j with _|_|_|_|j<;>simp at hj;all_goals (try(subst hj;rfl))
    ·simp
    ·rintro e w' ⟨rfl,hb⟩;exact⟨by rw[YI.out];rfl,⟨⟨w',ay (au ZQ.out _) (by have:=ZQ.out.size;simp;omega) hb⟩,rfl⟩,ay (au B4.out _) (by have:=B4.out.size;simp;omega) hb⟩⟩
   refine aP (k:=16) rfl (by kernel_rfl) (by kernel_rfl) (fun K hK=>?_);rw[if_pos (by rfl)];go_simp;go_at_call 62;refine JC.out.mono ?_;rintro e w5 ⟨rfl,HG,hb⟩;have H5:=ah.mk hb;refine hK _ _ HG ?_;clear hK K hb;try simp only[Act.put,List.getElem_toArray,List.getElem_cons_zero,List.getElem_cons_succ,List.setIfInBounds_toArray,List.set_cons_zero,List.set_cons_succ]
   refine tk 17 HG ?_;refine tk 18 HG ?_;refine aO (by kernel_rfl) ?_;simp only[List.drop_succ_cons,List.drop_zero];clear HG c0 c3 c19 c23 cw;go_wp2_with fail
   go_roundw
   case rel=>exact⟨k+1,by rw[TK.out],by go_num,by omega,H5⟩
   case measure=>simp[intOf];omega
  ·have h1:¬(k:Int)<(n:Int):=by omega
   go_wp2_with fail
   first|go_ret2|go_ret|skip
   rw[←HQ.out];have hkn:k=n:=by omega
   exact⟨by rw[hkn,HN.out,List.take_length],a,y,m,rfl,HF.out.1,HF.out.2.1,HF.out.2.2,Has.first (M:=[_]) (Has.first (M:=[_]) (H2.out.below BW.out))⟩
end
end
section
open Go.RowKit Go.ChangeMaps
section
variable {w0 w:World}{M:List bW}
theorem QY (W:World):Calls Tryz.prog 28 #[.string ⟨#[106,111,98,115]⟩,.string ⟨#[115,117,98,109,105,116,10]⟩] W fun e w'=>e=.returned (.tuple #[.string ⟨#[106,111,98,115]⟩,.bool false])∧w'=W :=
 (Tryz.strings_CutPrefix ⟨#[106,111,98,115]⟩ ⟨#[115,117,98,109,105,116,10]⟩ W).mono fun e w' h=>by
  rw[show Lib.hasPrefix (⟨#[106,111,98,115]⟩:ByteArray).data.toList (⟨#[115,117,98,109,105,116,10]⟩:ByteArray).data.toList=false from rfl,show Lib.trimPrefix (⟨#[106,111,98,115]⟩:ByteArray).data.toList (⟨#[115,117,98,109,105,116,10]⟩:ByteArray).data.toList=[106,111,98,115]from rfl]at h;exact h
theorem QZ (W:World):Calls Tryz.prog 28 #[.string ⟨#[98,111,111,107]⟩,.string ⟨#[115,117,98,109,105,116,10]⟩] W fun e w'=>e=.returned (.tuple #[.string ⟨#[98,111,111,107]⟩,.bool false])∧w'=W :=
 (Tryz.strings_CutPrefix ⟨#[98,111,111,107]⟩ ⟨#[115,117,98,109,105,116,10]⟩ W).mono fun e w' h=>by
  rw[show Lib.hasPrefix (⟨#[98,111,111,107]⟩:ByteArray).data.toList (⟨#[115,117,98,109,105,116,10]⟩:ByteArray).data.toList=false from rfl,show Lib.trimPrefix (⟨#[98,111,111,107]⟩:ByteArray).data.toList (⟨#[115,117,98,109,105,116,10]⟩:ByteArray).data.toList=[98,111,111,107]from rfl]at h;exact h
set_option maxRecDepth 1000000 in
theorem Uj {x:Nat}{pol:Int}{now:Nat}{js:List J}{bk:List Ch}{fl:List Int}{k:Nat}(hS:dF M w0 w x pol now js bk fl k)(G:dL now js bk)(TT:∀W,Below w0.heap.size w0 W→Tab W):Calls Tryz.prog 11 #[.pointer (some ⟨x,0,none⟩),.string ⟨#[106,111,98,115]⟩] w fun e w'=>e=.returned (.string (fM jT js))∧dF M w0 w' x pol now js bk fl k:=by
 refine named fun R HQ=>?_;have LC:=ah.mk (Gz (hS.below (au (Below.refl _ _) (.cells #[.pointer (some ⟨x,0,none⟩)] 23))) G TT);have b1:((⟨#[106,111,98,115]⟩:ByteArray).toList==[106,111,98,115])=true:=by rw[ByteArray.toList_eq];rfl
 clear hS G TT;go_enter Tryz.func11,Tryz.ntmps11;go_wp2_with (go_at_call 28;refine(QY _).mono ?_;rintro e w' ⟨rfl,hw⟩;obtain rfl:=hw.symm;clear hw;refine ah.out ?_)
 refine ah.mk ?_;go_wp2_with (go_at_call 30;refine LC.out.mono ?_;rintro e w2 ⟨rfl,h⟩;have H2:=ah.mk h;clear h)
 first|go_ret2|go_ret|skip
 rw[←HQ.out];exact⟨rfl,H2.out⟩
set_option maxRecDepth 1000000 in
theorem Uk {x:Nat}{pol:Int}{now:Nat}{js:List J}{bk:List Ch}{fl:List Int}{k:Nat}(hS:dF M w0 w x pol now js bk fl k)(G:dL now js bk)(TT:∀W,Below w0.heap.size w0 W→Tab W):Calls Tryz.prog 11 #[.pointer (some ⟨x,0,none⟩),.string ⟨#[98,111,111,107]⟩] w fun e w'=>e=.returned (.string (fM iD bk))∧dF M w0 w' x pol now js bk fl k:=by
 refine named fun R HQ=>?_;have S1:=ah.mk (hS.below (au (Below.refl _ _) (.cells #[.pointer (some ⟨x,0,none⟩)] 23)));have zS:Below w0.heap.size w0 (w.alloc (.cells #[.pointer (some ⟨x,0,none⟩)] 23)):=by
  obtain⟨a,y,m,h1,h2,h3,h4,h5⟩:=S1.out;exact h5.old
 have LC:=ah.mk (DJ S1.out G fun W h=>TT W (ay zS zS.size h));clear hS G TT zS;go_enter Tryz.func11,Tryz.ntmps11;go_wp2_with (go_at_call 28;refine(QZ _).mono ?_;rintro e w' ⟨rfl,hw⟩;obtain rfl:=hw.symm;clear hw;refine ah.out ?_)
 refine ah.mk ?_;go_wp2_with (go_at_call 31;refine LC.out.mono ?_;rintro e w2 ⟨rfl,h⟩;have H2:=ah.mk (S1.out.below h);clear h)
 first|go_ret2|go_ret|skip
 rw[←HQ.out];exact⟨rfl,H2.out⟩
end
end
end Go.Proofs.YtandhagfhppgaaaGreatDoor
