/- Part 52 of a proof: contracts of the functions that the law reaches. No condition. -/
import Derived.Test.YtandhagfhppgaaaGreatDoorS8
import Derived.Test.YtandhagfhppgaaaGreatDoorS16
import Derived.Test.YtandhagfhppgaaaGreatDoorS38
import Derived.Test.YtandhagfhppgaaaGreatDoorS45
import Derived.Test.YtandhagfhppgaaaGreatDoorS46
import Derived.Test.YtandhagfhppgaaaGreatDoorS48
import Derived.Test.YtandhagfhppgaaaGreatDoorS49
import Derived.Test.YtandhagfhppgaaaGreatDoorS50
import Derived.Test.YtandhagfhppgaaaGreatDoorS51
import Derived.Test.YtandhagfhppgaaaGreatDoorCards
import Derived.Test.YtandhagfhppgaaaGreatDoorTie
set_option linter.all false
set_option maxRecDepth 100000
set_option maxHeartbeats 16000000
namespace Go.Proofs.YtandhagfhppgaaaGreatDoor
section
open Go.RowKit Go.ChangeMaps
section
variable {w0 w w1:World}{M:List bW}
set_option maxRecDepth 1000000 in
theorem Nj {x:Nat}{pol:Int}{now:Nat}{js:List J}{bk:List Ch}{fl:List Int}{k:Nat}(hS:dF M w0 w x pol now js bk fl k)(dP:1≤pol∧pol≤4)(G:dL now js bk)(hk:k≤900)
 {mm:Int} (HM:w0.cell? ⟨0,0,none⟩=some (.int .i64 mm)) (TT:∀W,Below w0.heap.size w0 W→Tab W) (t s:ByteArray) (ht:Says t [⟨#[116,105,99,107]⟩,s]) (hs:oO s) (hn:numeral s=true) (hv:1≤val s∧val s≤20) (dB:now+val s≤10000) :
 Calls Tryz.prog 11 #[.pointer (some ⟨x,0,none⟩),.string t] w fun e w'=>e=.returned (.string (iO 0))∧∃(bI:List J) (bk':List Ch),Many now js bk (val s) bI bk'∧dF M w0 w' x pol ((now+val s:Nat):Int) bI bk' fl k:=by
 refine named fun R HQ=>?_;obtain⟨w3,w4,w5,w6,w7,w8,w9,wA,wB,MP⟩:=jo w x;have MM:=ah.mk MP;have b8:=MP.b8;have b9:=MP.b9;have uY:=MP.uY;have CP:ah (∀W,Calls Tryz.prog 28 #[.string t,.string ⟨#[115,117,98,109,105,116,10]⟩] W fun e w'=>e=.returned (.tuple #[.string ⟨(Lib.trimPrefix t.data.toList [115,117,98,109,105,116,10]).toArray⟩,.bool false])∧w'=W):=⟨fun W=>(Tryz.strings_CutPrefix t ⟨#[115,117,98,109,105,116,10]⟩ W).mono fun e w' h=>by rw[show(⟨#[115,117,98,109,105,116,10]⟩:ByteArray).data.toList=[115,117,98,109,105,116,10]from rfl,ht.pre]at h;exact h⟩;have SP:ah (Calls Tryz.prog 46 #[.string t,.string ⟨#[32]⟩] wB fun e w'=>e=.returned (.slice (some ⟨wB.heap.size,0,none⟩) 2 2)∧w'=wB.alloc (.cells #[.string ⟨#[116,105,99,107]⟩,.string s] 9)):=⟨(Tryz.strings_Split t ⟨#[32]⟩ mm wB ht.size (ak (hS.below MP.h.old).old HM) (by decide)).mono fun e w' h=>by rw[ht.count,ht.split]at h;exact h⟩;have HC:=MP.h.aZ (.cells #[.string ⟨#[116,105,99,107]⟩,.string s] 9);have LK:=dR eG HC 1 rfl 104 9 101 Tryz.underlying104 Tryz.underlying9 .nilFunc (lC _) ⟨#[116,105,99,107]⟩ true;rw[if_pos rfl]at LK;have S1:=ah.mk (hS.front (show Has w (wB.alloc (.cells #[.string ⟨#[116,105,99,107]⟩,.string s] 9)) [aF w.heap.size (.cells #[.pointer (some ⟨x,0,none⟩)] 23),aF wB.heap.size (.cells #[.string ⟨#[116,105,99,107]⟩,.string s] 9)]from(HC.drop 1).drop 1));have c0:(wB.alloc (.cells #[.string ⟨#[116,105,99,107]⟩,.string s] 9)).cell? ⟨wB.heap.size,0,none⟩=some (.string ⟨#[116,105,99,107]⟩):=by rw[aj (heap_alloc_new wB _)];rfl
 have c1:(wB.alloc (.cells #[.string ⟨#[116,105,99,107]⟩,.string s] 9)).cell? ⟨wB.heap.size,1,none⟩=some (.string s):=by rw[aj (heap_alloc_new wB _)];rfl
 have AC:=ah.mk (iZ s hs hn wB.heap.size 1 c1 (by simp));have hi:=fun w=>gJ (.int .i64 (val s:Int)) 20 w;have hmm:=@run_makeMap Tryz.prog;have tj:=ht.jobs;have tb:=ht.book;have PP:=ah.mk dP;have GG:=ah.mk G;have rQ:=ah.mk TT;have HV:=ah.mk hv;clear hS dP G HM TT ht hs hn MP HC hv;have vX:ah ((Instr.lookup 104 (.map (some (w.heap.size+1))) (.string ⟨#[116,105,99,107]⟩) true).run Tryz.prog (wB.alloc (.cells #[.string ⟨#[116,105,99,107]⟩,.string s] 9))=.ok (.tuple #[.func (.func 42) #[.pointer (some ⟨x,0,none⟩)] #[],.bool true]) (wB.alloc (.cells #[.string ⟨#[116,105,99,107]⟩,.string s] 9))):=⟨by rw[show look (zQ x w.heap.size) ⟨#[116,105,99,107]⟩=some (.func (.func 42) #[.pointer (some ⟨x,0,none⟩)] #[])from rfl]at LK;exact LK⟩;clear LK;have hneq:∀W,(binOp .neq 9 (.string ⟨#[116,105,99,107]⟩) (.string ⟨#[116,105,99,107]⟩)).run Tryz.prog W=.ok (.bool false) W:=fun _=>by kernel_rfl
 go_enter Tryz.func11,Tryz.ntmps11;go_wp2_with (go_at_call 28;refine(CP.out _).mono ?_;rintro e w' ⟨rfl,hw⟩;obtain rfl:=hw.symm;clear hw;refine ah.out ?_)
 refine ah.mk ?_;go_wp2_with (refine aG rfl 104 _ _ _ rfl rfl rfl rfl MM.out.u0 ?_;refine ah.out ?_)
 refine ah.mk ?_;go_wp2_with (refine aG rfl 104 _ _ _ rfl rfl rfl rfl MM.out.u1 ?_;refine ah.out ?_)
 refine ah.mk ?_;go_wp2_with (refine aG rfl 104 _ _ _ rfl rfl rfl rfl MM.out.u2 ?_;refine ah.out ?_)
 refine ah.mk ?_;go_wp2_with (refine aG rfl 104 _ _ _ rfl rfl rfl rfl MM.out.u3 ?_;refine ah.out ?_)
 refine ah.mk ?_;go_wp2_with (refine aG rfl 104 _ _ _ rfl rfl rfl rfl MM.out.u4 ?_;refine ah.out ?_)
 refine ah.mk ?_;go_wp2_with (refine aG rfl 104 _ _ _ rfl rfl rfl rfl MM.out.u5 ?_;refine ah.out ?_)
 refine ah.mk ?_;go_wp2_with (refine aG rfl 104 _ _ _ rfl rfl rfl rfl MM.out.u6 ?_;refine ah.out ?_)
 refine ah.mk ?_;go_wp2_with (refine aG rfl 105 _ _ _ rfl rfl rfl rfl MM.out.v0 ?_;refine ah.out ?_)
 refine ah.mk ?_;go_wp2_with (refine aG rfl 105 _ _ _ rfl rfl rfl rfl MM.out.v1 ?_;refine ah.out ?_)
 refine ah.mk ?_;go_wp2_with (go_at_call 46;refine SP.out.mono ?_;rintro e w' ⟨rfl,hw⟩;obtain rfl:=hw.symm;clear hw;refine ah.out ?_)
 clear SP CP tj tb b8 b9 uY MM hmm;refine ah.mk ?_;go_wp2_with (refine fH rfl 104 _ _ true rfl rfl rfl vX.out ?_;refine ah.out ?_)
 clear vX;refine ah.mk ?_;go_wp2_with (go_at_call 47;refine AC.out.mono ?_;rintro e wD ⟨A,cA,rfl,hD⟩;have HD:=ah.mk hD;clear hD;refine ah.out ?_)
 obtain⟨g,rfl,_⟩:=dG HD.out 0 rfl rfl (by simp);have cg:wD.cell? ⟨g,0,none⟩=some (.iface 3 (.int .i64 (val s:Int))):=by
  have:=bM HD.out 0 rfl 0 [.iface 3 (.int .i64 (val s:Int))] gZ 0 _ rfl;simpa using this
 have S2:=ah.mk (S1.out.below HD.out.old);have bD:wD.cell? ⟨w.heap.size,0,none⟩=some (.pointer (some ⟨x,0,none⟩)):=by rw[aj S2.out.blk0];rfl
 have FC:=ah.mk (Gt S2.out PP.out GG.out (val s) HV.out.1 HV.out.2 dB (by omega));clear AC c0 c1 S1 HD S2 dB;refine ah.mk ?_;go_wp2_with (go_at_call 42;refine FC.out.mono ?_;rintro e wE ⟨rfl,jH,bk2,ht,hs3⟩;have S3:=ah.mk hs3;have HT:=ah.mk ht;clear hs3 ht;refine ah.out ?_)
 clear FC cg bD;have bE:wE.cell? ⟨w.heap.size,0,none⟩=some (.pointer (some ⟨x,0,none⟩)):=by rw[aj S3.out.blk0];rfl
 have cE:wE.cell? ⟨wB.heap.size,0,none⟩=some (.string ⟨#[116,105,99,107]⟩):=by rw[aj S3.out.Dz];rfl
 have TC:=ah.mk (dQ 0 ⟨by decide,by decide⟩ (rQ.out _ S3.out.old));refine ah.mk ?_;go_wp2_with (go_at_call 27;refine TC.out.mono ?_;rintro e wG ⟨rfl,hb⟩;have HG:=ah.mk hb;clear hb)
 first|go_ret2|go_ret|skip
 rw[←HQ.out];exact⟨rfl,jH,bk2,HT.out,(S3.out.below HG.out).drop1.drop1⟩
end
end
section
open Go.RowKit Go.ChangeMaps
section
def Keeps (T:ByteArray):Prop:=∀(w0 w:World) (M:List bW) (x:Nat) (pol:Int) (now:Nat) (js:List J) (bk:List Ch) (fl:List Int) (k:Nat) (mm:Int),dF M w0 w x pol now js bk fl k→(1≤pol∧pol≤4)→dL now js bk→now≤10000→k≤900→js.length≤400→w0.cell? ⟨0,0,none⟩=some (.int .i64 mm)→(∀W,Below w0.heap.size w0 W→Tab W)→
 Calls Tryz.prog 11 #[.pointer (some ⟨x,0,none⟩),.string T] w fun e w'=>∃(s:ByteArray) (bI:List J) (bk':List Ch) (y5:List Int) (k':Nat),e=.returned (.string s)∧k'≤k+1∧dL now bI bk'∧paid bk'+pays bI now=paid bk+pays js now∧bI.length≤js.length+1∧dF M w0 w' x pol now bI bk' y5 k'
theorem lN {T:ByteArray}(h:∀(w0 w:World) (M:List bW) (x:Nat) (pol:Int) (now:Nat) (js:List J) (bk:List Ch) (fl:List Int) (k:Nat) (mm:Int),dF M w0 w x pol now js bk fl k→(1≤pol∧pol≤4)→dL now js bk→now≤10000→k≤900→w0.cell? ⟨0,0,none⟩=some (.int .i64 mm)→(∀W,Below w0.heap.size w0 W→Tab W)→
 Calls Tryz.prog 11 #[.pointer (some ⟨x,0,none⟩),.string T] w fun e w'=>∃(r:Int) (bI:List J) (bk':List Ch),e=.returned (.string (iO r))∧(code r∧ig now js bk bI bk')∧dF M w0 w' x pol now bI bk' fl k):Keeps T:=fun w0 w M x pol now js bk fl k mm hS hp G hn hk hl HM TT =>
 (h w0 w M x pol now js bk fl k mm hS hp G hn hk HM TT).mono fun e w' ⟨r,bI,bk',he,hw,hs⟩=>by
  obtain⟨g1,g2,g3⟩:=hw.2.sane G;exact⟨_,bI,bk',fl,k,he,by omega,g1,g2,by omega,hs⟩
theorem BF {T:ByteArray}(h:∀(w0 w:World) (M:List bW) (x:Nat) (pol:Int) (now:Nat) (js:List J) (bk:List Ch) (fl:List Int) (k:Nat) (mm:Int),dF M w0 w x pol now js bk fl k→(1≤pol∧pol≤4)→dL now js bk→now≤10000→k≤900→w0.cell? ⟨0,0,none⟩=some (.int .i64 mm)→(∀W,Below w0.heap.size w0 W→Tab W)→
 Calls Tryz.prog 11 #[.pointer (some ⟨x,0,none⟩),.string T] w fun e w'=>∃(r:Int) (bI:List J) (bk':List Ch) (y5:List Int),e=.returned (.string (iO r))∧(code r∧ig now js bk bI bk')∧dF M w0 w' x pol now bI bk' y5 (k+1)):Keeps T:=fun w0 w M x pol now js bk fl k mm hS hp G hn hk hl HM TT =>
 (h w0 w M x pol now js bk fl k mm hS hp G hn hk HM TT).mono fun e w' ⟨r,bI,bk',y5,he,hw,hs⟩=>by
  obtain⟨g1,g2,g3⟩:=hw.2.sane G;exact⟨_,bI,bk',y5,k+1,he,by omega,g1,g2,by omega,hs⟩
theorem oD (s:Spec)(hs:s.ok):Keeps (lb ([115,117,98,109,105,116,10]++dH s.account.data.toList s.qos.data.toList s.size s.limit s.gV)):=fun w0 w M x pol now js bk fl k mm hS hp G hn hk hl HM TT =>
 (Bq hS hp G hn hk hl HM TT s hs).mono fun e w' h=>by
  rcases h with⟨he,h⟩|⟨he,bI,ht,h⟩
  ·exact⟨_,js,bk,fl,k,he,by omega,G,rfl,by omega,h⟩
  ·obtain⟨g1,g2,g3⟩:=(ht.went bk).sane (G.new s hs hl);rw[Rt]at g2;exact⟨_,bI,bk,fl,k,he,by omega,g1,g2,by rw[g3];simp,h⟩
theorem UD:∀n:Fin 12,((⟨#[100,111,110,101,32]⟩++dD n).toList==[116,105,99,107,32,49])=false:=by
 intro n;rw[ByteArray.toList_eq];revert n
 decide
theorem Lj (n:Nat)(h:n<12):Keeps (⟨#[100,111,110,101,32]⟩++dD n):=lN fun w0 w M x pol now js bk fl k mm hS hp G hn hk HM TT =>
 do_done hS hp G hn hk HM TT _ _ (OW (n:=n) (by omega)) (jd (by omega)) (kG (by omega)) (by rw[jS (by omega)];omega)
theorem OZ:∀n:Fin 12,((⟨#[102,97,105,108,101,100,32]⟩++dD n).toList==[116,105,99,107,32,49])=false:=by
 intro n;rw[ByteArray.toList_eq];revert n
 decide
theorem En (n:Nat)(h:n<12):Keeps (⟨#[102,97,105,108,101,100,32]⟩++dD n):=lN fun w0 w M x pol now js bk fl k mm hS hp G hn hk HM TT =>
 OB hS hp G hn hk HM TT _ _ (Ht (n:=n) (by omega)) (jd (by omega)) (kG (by omega)) (by rw[jS (by omega)];omega)
theorem O1:∀n:Fin 12,((⟨#[99,97,110,99,101,108,32]⟩++dD n).toList==[116,105,99,107,32,49])=false:=by
 intro n;rw[ByteArray.toList_eq];revert n
 decide
theorem Eo (n:Nat)(h:n<12):Keeps (⟨#[99,97,110,99,101,108,32]⟩++dD n):=lN fun w0 w M x pol now js bk fl k mm hS hp G hn hk HM TT =>
 OA hS hp G hn hk HM TT _ _ (Hr (n:=n) (by omega)) (jd (by omega)) (kG (by omega)) (by rw[jS (by omega)];omega)
theorem Ll:∀n:Fin 12,((⟨#[114,101,113,117,101,117,101,32]⟩++dD n).toList==[116,105,99,107,32,49])=false:=by
 intro n;rw[ByteArray.toList_eq];revert n
 decide
theorem zX (n:Nat)(h:n<12):Keeps (⟨#[114,101,113,117,101,117,101,32]⟩++dD n):=lN fun w0 w M x pol now js bk fl k mm hS hp G hn hk HM TT =>
 Ku hS hp G hn hk HM TT _ _ (Ef (n:=n) (by omega)) (jd (by omega)) (kG (by omega)) (by rw[jS (by omega)];omega)
theorem UE:∀n:Fin 8,((⟨#[100,111,119,110,32,109,97,105,110,32]⟩++dD n).toList==[116,105,99,107,32,49])=false:=by
 intro n;rw[ByteArray.toList_eq];revert n
 decide
theorem Lm (n:Nat)(h:n<8):Keeps (⟨#[100,111,119,110,32,109,97,105,110,32]⟩++dD n):=BF fun w0 w M x pol now js bk fl k mm hS hp G hn hk HM TT =>
 Ut hS hp G hn hk HM TT _ _ (OX (n:=n) (by omega)) (jd (by omega)) (kG (by omega)) (by rw[jS (by omega)];omega)
theorem Yk:∀n:Fin 8,((⟨#[117,112,32,109,97,105,110,32]⟩++dD n).toList==[116,105,99,107,32,49])=false:=by
 intro n;rw[ByteArray.toList_eq];revert n
 decide
theorem RH (n:Nat)(h:n<8):Keeps (⟨#[117,112,32,109,97,105,110,32]⟩++dD n):=BF fun w0 w M x pol now js bk fl k mm hS hp G hn hk HM TT =>
 Yi hS hp G hn hk HM TT _ _ (Uo (n:=n) (by omega)) (jd (by omega)) (kG (by omega)) (by rw[jS (by omega)];omega)
theorem UF:∀n:Fin 12,((⟨#[104,111,108,100,32]⟩++dD n).toList==[116,105,99,107,32,49])=false:=by
 intro n;rw[ByteArray.toList_eq];revert n
 decide
theorem Lp (n:Nat)(h:n<12):Keeps (⟨#[104,111,108,100,32]⟩++dD n):=lN fun w0 w M x pol now js bk fl k mm hS hp G hn hk HM TT =>
 Ui hS hp G hn hk HM TT _ _ (OU (n:=n) (by omega)) (jd (by omega)) (kG (by omega)) (by rw[jS (by omega)];omega)
theorem Lr:∀n:Fin 12,((⟨#[114,101,108,101,97,115,101,32]⟩++dD n).toList==[116,105,99,107,32,49])=false:=by
 intro n;rw[ByteArray.toList_eq];revert n
 decide
theorem zY (n:Nat)(h:n<12):Keeps (⟨#[114,101,108,101,97,115,101,32]⟩++dD n):=lN fun w0 w M x pol now js bk fl k mm hS hp G hn hk HM TT =>
 Kt hS hp G hn hk HM TT _ _ (Ed (n:=n) (by omega)) (jd (by omega)) (kG (by omega)) (by rw[jS (by omega)];omega)
theorem Ls (kd nn sz lim:Int)(ac hi rq:Bool):∃T:ByteArray,(∀w,Calls Tryz.prog 8 #[.agg #[.int .i64 kd,.int .i64 nn,.int .i64 sz,.int .i64 lim,.bool ac,.bool hi,.bool rq]] w fun e w'=>e=.returned (.string T)∧Below w.heap.size w w')∧(kd≠3→kd≠4→(T.toList==[116,105,99,107,32,49])=false∧Keeps T):=by
 have hone:∀kd':Int,(#[.int .i64 kd',.int .i64 nn,.int .i64 sz,.int .i64 lim,.bool ac,.bool hi,.bool rq]:Array Value).all (·.oneCell')=true:=fun kd'=>by simp[Value.oneCell']
 by_cases h0:kd=0
 ·subst h0;exact⟨_,fun w=>Hz nn sz lim ac hi rq,fun _ _=>⟨kY _ _ rfl,oD (moveSpec sz lim ac hi rq) (gG sz lim ac hi rq)⟩⟩
 by_cases h1:kd=1
 ·subst h1;exact⟨_,fun w=>Ia nn sz lim ac hi rq,fun _ _=>⟨kY _ _ rfl,oD (moveSpec sz lim ac hi rq) (gG sz lim ac hi rq)⟩⟩
 by_cases h2:kd=2
 ·subst h2;exact⟨_,fun w=>Ib nn sz lim ac hi rq,fun _ _=>⟨kY _ _ rfl,oD (moveSpec sz lim ac hi rq) (gG sz lim ac hi rq)⟩⟩
 by_cases h3:kd=3
 ·subst h3;exact⟨_,fun w=>Bj nn _ _ _ _ _ (hone 3),fun h=>absurd rfl h⟩
 by_cases h4:kd=4
 ·subst h4;exact⟨_,fun w=>yR nn _ _ _ _ _ (hone 4),fun _ h=>absurd rfl h⟩
 by_cases h5:kd=5
 ·subst h5;have hc:=bY nn (n:=12) (by decide);exact⟨_,fun w=>Q5 nn _ _ _ _ _ (hone 5),fun _ _=>⟨UD ⟨_,hc⟩,Lj _ hc⟩⟩
 by_cases h6:kd=6
 ·subst h6;have hc:=bY nn (n:=12) (by decide);exact⟨_,fun w=>Kz nn _ _ _ _ _ (hone 6),fun _ _=>⟨OZ ⟨_,hc⟩,En _ hc⟩⟩
 by_cases h7:kd=7
 ·subst h7;have hc:=bY nn (n:=12) (by decide);exact⟨_,fun w=>KA nn _ _ _ _ _ (hone 7),fun _ _=>⟨O1 ⟨_,hc⟩,Eo _ hc⟩⟩
 by_cases h8:kd=8
 ·subst h8;have hc:=bY nn (n:=12) (by decide);exact⟨_,fun w=>GH nn _ _ _ _ _ (hone 8),fun _ _=>⟨Ll ⟨_,hc⟩,zX _ hc⟩⟩
 by_cases h9:kd=9
 ·subst h9;have hc:=bY nn (n:=8) (by decide);exact⟨_,fun w=>Q7 nn _ _ _ _ _ (hone 9),fun _ _=>⟨UE ⟨_,hc⟩,Lm _ hc⟩⟩
 by_cases h10:kd=10
 ·subst h10;have hc:=bY nn (n:=8) (by decide);exact⟨_,fun w=>V8 nn _ _ _ _ _ (hone 10),fun _ _=>⟨Yk ⟨_,hc⟩,RH _ hc⟩⟩
 by_cases h11:kd=11
 ·subst h11;have hc:=bY nn (n:=12) (by decide);exact⟨_,fun w=>Q8 nn _ _ _ _ _ (hone 11),fun _ _=>⟨UF ⟨_,hc⟩,Lp _ hc⟩⟩
 have hc:=bY nn (n:=12) (by decide);have hb:∀n:Int,kd≠n→(kd==n)=false:=fun n h=>by simpa using h
 exact⟨_,fun w=>GI kd (hb _ h0) (hb _ h1) (hb _ h2) (hb _ h3) (hb _ h4) (hb _ h5) (hb _ h6) (hb _ h7) (hb _ h8) (hb _ h9) (hb _ h10) (hb _ h11) nn _ _ _ _ _ (hone kd),fun _ _=>⟨Lr ⟨_,hc⟩,zY _ hc⟩⟩
end
end
section
open Go.RowKit Go.ChangeMaps
structure Mv where
 kind:Int
 nn:Int
 sz:Int
 lim:Int
 ac:Bool
 hi:Bool
 rq:Bool
instance :Inhabited Mv:=⟨⟨0,0,0,0,false,false,false⟩⟩
def Mv.cells (m:Mv):Array Value:=#[.int .i64 m.kind,.int .i64 m.nn,.int .i64 m.sz,.int .i64 m.lim,.bool m.ac,.bool m.hi,.bool m.rq]
def RI (w:World)(ad:Addr)(m:Mv):Prop:=∀j v,m.cells.toList[j]?=some v→w.cell? (ad.add j)=some v
theorem RI.below {w w1:World}{ad:Addr}{m:Mv}(h:RI w ad m)(hb:Below w.heap.size w w1):RI w1 ad m:=fun j v hv=>ak hb (h j v hv)
def YK (w:World)(A:Option Addr)(l:List Mv):Prop:=l.length≤9223372036854775807∧∀i m,l[i]?=some m→∃ad,A=some ad∧RI w (ad.add (i*7)) m
theorem wO {P:Program}(w:World)(ad:Addr)(ty:TypeId)(cs:List Value)(d:TypeDesc)(hc:∀j v,cs[j]?=some v→w.cell? (ad.add j)=some v)
 (hu:P.underlying ty=some d) (hd:d.isRow=true) (hi:(P.info? ty).map (·.size)=some cs.length):(loadVar ty ad).run P w=.ok (.agg cs.toArray) w:=by
 have hl:(loadCells ad cs.length).run P w=.ok cs.toArray w:=run_loadCells_list (P:=P) w ad cs hc;cases hq:P.info? ty with
 |none=>simp[hq]at hi
 |some i =>
  have hs:i.size=cs.length:=by simpa[hq]using hi
  have hagg:(isAgg ty).run P w=.ok true w:=by
   unfold isAgg;rw[Sem.run_bind,run_underlying hu w];cases d<;>simp_all
  simp[loadVar,Sem.run_bind,hagg,sizeOf,typeInfo,hq,hs,hl]
theorem zZ {P:Program}{ops:Array Oper}{rest:List Oper}{op:Oper}{a:Act}{w:World}{Q:Exit→Act→World→Prop}(hgd:op.guard=none)(ty:TypeId)(x:Operand)(ho:op.op=.load ty x)(ad:Addr)(hx:a.eval x=.pointer (some ad))(cs:Array Value)(d:TypeDesc)(hc:∀j v,cs.toList[j]?=some v→w.cell? (ad.add j)=some v)
 (hu:P.underlying ty=some d) (hd:d.isRow=true) (hi:(P.info? ty).map (·.size)=some cs.size) (h:wpList P ops Q rest (a.put op.dst (.agg cs)) w):wpList P ops Q (op::rest) a w :=
 wpList_plain hgd fun _ hK=>by
  unfold Oper.wp execOp;simp only[ho,hx,Instr.loadAt,Instr.sureAddr,Sem.run_bind,Sem.run_pure,Result.andThen_ok,wO w ad ty cs.toList d hc hu hd (by simpa using hi)];exact hK _ _ (by simpa using h)
section
variable {w0 w:World}{M:List bW}
theorem Ic {x:Nat}{pol now:Int}{js:List J}{bk:List Ch}{fl:List Int}{k:Nat}(hS:dF M w0 w x pol now js bk fl k)(hn:js.length≤500):Calls Tryz.prog 9 #[.pointer (some ⟨x,0,none⟩)] w fun e w'=>∃A1 c1,e=.returned (.slice A1 js.length c1)∧dF (M++[aS (.slice A1 js.length c1) js]) w0 w' x pol now js bk fl k:=by
 obtain⟨a,y,m,rfl,h2,h3,h4,H⟩:=hS;exact(IJ H 0 1 2 rfl rfl rfl rfl rfl hn).mono fun e w' ⟨A1,c1,he,h⟩=>⟨A1,c1,he,a,y,m,rfl,h2,h3,h4,by rw[←List.append_assoc];exact h⟩
theorem dF.nowAt {x:Nat}{pol now:Int}{js:List J}{bk:List Ch}{fl:List Int}{k:Nat}(h:dF M w0 w x pol now js bk fl k):w.cell? ⟨x,12,none⟩=some (.int .i64 now):=by
 obtain⟨a,y,m,rfl,h2,h3,h4,h5⟩:=h;rw[aj (h5.blk 0 rfl)];rfl
end
end
section
open Go.RowKit Go.ChangeMaps
def sp:ByteArray:=⟨#[32]⟩
def nl:ByteArray:=⟨#[10]⟩
def dg (v:Int):ByteArray:=oN v.toNat
def Lu (o:ByteArray)(l:List Int):ByteArray:=l.foldl (fun o v=>(o++sp)++dg v) o
def O4 (o:ByteArray)(l:List J):ByteArray:=l.foldl (fun o j=>((((((o++sp)++dg j.since)++sp)++dg j.started)++sp)++dg j.start)) o
def LG (now:Nat)(js:List J)(bk:List Ch)(fl:List Int):ByteArray:=O4 (Lu ((((fM jT js++nl)++fM iD bk)++nl)++oN now) fl) js
theorem UG (o:ByteArray)(l:List Int)(v:Int):Lu o (l++[v])=(Lu o l++sp)++dg v:=by
 unfold Lu;rw[List.foldl_append];rfl
theorem UH (o:ByteArray)(l:List J)(j:J):O4 o (l++[j])=(((((O4 o l++sp)++dg j.since)++sp)++dg j.started)++sp)++dg j.start:=by
 unfold O4;rw[List.foldl_append];rfl
theorem ny {v:Int}(h:v≤1000000):(dg v).size≤13:=uQ 12 _ (by omega)
theorem Ie:∀(l:List Int) (o:ByteArray),(∀v∈l,v≤1000000)→(Lu o l).size≤o.size+14*l.length:=by
 intro l;induction l with
 |nil=>intro o _;simp[Lu]
 |cons v l ih =>
  intro o h;have h1:=ih ((o++sp)++dg v) fun y hy=>h y (List.mem_cons_of_mem _ hy);have h2:=ny (h v List.mem_cons_self);rw[ByteArray.size_append,ByteArray.size_append,show sp.size=1 from rfl]at h1;rw[List.length_cons];show(Lu ((o++sp)++dg v) l).size≤_
  omega
theorem RN:∀(l:List J) (o:ByteArray),(∀j∈l,j.since≤1000000∧j.started≤1000000∧j.start≤1000000)→(O4 o l).size≤o.size+42*l.length:=by
 intro l;induction l with
 |nil=>intro o _;simp[O4]
 |cons j l ih =>
  intro o h;have h1:=ih ((((((o++sp)++dg j.since)++sp)++dg j.started)++sp)++dg j.start) fun y hy=>h y (List.mem_cons_of_mem _ hy);obtain⟨a1,a2,a3⟩:=h j List.mem_cons_self;have h2:=ny a1;have h3:=ny a2;have h4:=ny a3;simp only[ByteArray.size_append]at h1;rw[show sp.size=1 from rfl]at h1;rw[List.length_cons];show(O4 ((((((o++sp)++dg j.since)++sp)++dg j.started)++sp)++dg j.start) l).size≤_
  omega
section
variable {w0 w:World}{M:List bW}
theorem uo (v:Int)(h0:0≤v)(h1:v≤1000000):Calls Tryz.prog 20 #[.int .i64 v] w fun e w'=>e=.returned (.string (dg v))∧Below w.heap.size w w':=by
 obtain⟨n,rfl⟩:∃n:Nat,v=n:=⟨v.toNat,by omega⟩;exact yE n (by omega) w
theorem dF.Wv {x:Nat}{pol now:Int}{js:List J}{bk:List Ch}{fl:List Int}{k:Nat}(h:dF M w0 w x pol now js bk fl k):(∀v∈fl,0≤v∧v≤7)∧fl.length≤k:=by
 obtain⟨a,y,m,h1,h2,h3,h4,h5⟩:=h;exact⟨by rw[←h2];exact h3.fail,by rw[←h2];exact h3.wu⟩
theorem dF.Wx {K:List bW}{x:Nat}{pol now:Int}{js:List J}{bk:List Ch}{fl:List Int}{k:Nat}(h:dF (M++K) w0 w x pol now js bk fl k):dF M w0 w x pol now js bk fl k:=by
 obtain⟨a,y,m,h1,h2,h3,h4,h5⟩:=h;exact⟨a,y,m,h1,h2,h3,h4,by rw[←List.append_assoc]at h5;exact h5.first⟩
theorem dF.RV {x:Nat}{pol now:Int}{js:List J}{bk:List Ch}{fl:List Int}{k:Nat}{v:Value}{l:List J}(h:dF (M++[aS v l]) w0 w x pol now js bk fl k):bU w 26 qP v l:=by
 obtain⟨a,y,m,h1,h2,h3,h4,h5⟩:=h;rw[←List.append_assoc]at h5;exact fF h5 _ (aT _ _)
theorem RY {v:Int}(h:0≤v)(W:World):(Builtin.max_ #[3,3] 3 #[.int .i64 v,.int .i64 0]).run Tryz.prog W=.ok (.int .i64 v) W:=max_le (by rw[if_neg (by omega)]) W
set_option maxRecDepth 1000000 in
theorem Ig {x:Nat}{pol:Int}{now:Nat}{js:List J}{bk:List Ch}{fl:List Int}{k:Nat}(hS:dF M w0 w x pol now js bk fl k)(G:dL now js bk)(hk:k≤1000)(TT:∀W,Below w0.heap.size w0 W→Tab W):Calls Tryz.prog 16 #[.pointer (some ⟨x,0,none⟩)] w fun e w'=>e=.returned (.string (LG now js bk fl))∧dF M w0 w' x pol now js bk fl k:=by
 refine named fun R HQ=>?_;obtain⟨SJ,YL⟩:∃S,S=fM jT js:=⟨_,rfl⟩;obtain⟨SB,YM⟩:∃S,S=fM iD bk:=⟨_,rfl⟩;obtain⟨D0,hD0⟩:∃S,S=oN now:=⟨_,rfl⟩;have s1:SJ.size≤2+101*500:=by
  have h:=mZ (f:=jT) (B:=100) (l:=js) fun j hj=>by
   obtain⟨i,hi⟩:=List.getElem?_of_mem hj;exact rJ j now i (G.jobs i j hi) G.qQ (by have:=(List.getElem?_eq_some_iff.1 hi).1;have:=G.len;omega)
  have:=G.len;rw[YL];omega
 have s2:SB.size≤2+151*1500:=by
  have h:=mZ (f:=iD) (B:=150) (l:=bk) fun c hc=>ql c now (G.UW c hc) G.qQ;have:=G.few;rw[YM];omega
 have s3:D0.size≤13:=by rw[hD0];exact uQ 12 _ (by have:=G.qQ;omega)
 have n0:(0:Int)≤(now:Int):=by omega
 have n1:(now:Int)≤1000000:=G.qQ;have hmax:=RY n0;have z1:¬9223372036854775807<SJ.size+1:=by omega
 have z2:¬9223372036854775807<SJ.size+1+SB.size:=by omega
 have z3:¬9223372036854775807<SJ.size+1+SB.size+1:=by omega
 have z4:¬9223372036854775807<SJ.size+1+SB.size+1+D0.size:=by omega
 have DJC:ah (∀W,dF M w0 W x pol now js bk fl k→Calls Tryz.prog 11 #[.pointer (some ⟨x,0,none⟩),.string ⟨#[106,111,98,115]⟩] W fun e w'=>e=.returned (.string SJ)∧dF M w0 w' x pol now js bk fl k):=⟨fun W h=>by rw[YL];exact Uj h G TT⟩;have DB:ah (∀W,dF M w0 W x pol now js bk fl k→Calls Tryz.prog 11 #[.pointer (some ⟨x,0,none⟩),.string ⟨#[98,111,111,107]⟩] W fun e w'=>e=.returned (.string SB)∧dF M w0 w' x pol now js bk fl k):=⟨fun W h=>by rw[YM];exact Uk h G TT⟩;have DNC:ah (∀W,Calls Tryz.prog 20 #[.int .i64 (now:Int)] W fun e w'=>e=.returned (.string D0)∧Below W.heap.size W w'):=⟨fun W=>by rw[hD0];exact yE now (by omega) W⟩;have WY:=ah.mk hS.Wv;have GG:=ah.mk (And.intro G hk);have HS:=ah.mk hS;obtain⟨zS,YN⟩:∃O,O=(((SJ++nl)++SB)++nl)++D0:=⟨_,rfl⟩;have szO:zS.size≤300000:=by
  rw[YN];simp only[ByteArray.size_append];rw[show nl.size=1 from rfl];omega
 have hOF:LG now js bk fl=O4 (Lu zS fl) js:=by rw[YN,YL,YM,hD0];rfl
 rw[hOF]at HQ;have HO:=ah.mk YN;have SO:=ah.mk szO;clear YL YM hD0 hS G TT s1 s2 s3 hk hOF YN szO n0 n1;go_enter Tryz.func16,Tryz.ntmps16;go_wp2_with (go_at_call 11;refine(DJC.out _ HS.out).mono ?_;rintro e w1 ⟨rfl,h⟩;have H1:=ah.mk h;clear h;refine ah.out ?_)
 refine ah.mk ?_;go_wp2_with (go_at_call 11;refine(DB.out _ H1.out).mono ?_;rintro e w2 ⟨rfl,h⟩;have H2:=ah.mk h;clear h;refine ah.out ?_)
 have N2:=H2.out.nowAt;refine ah.mk ?_;go_wp2_with (first|(go_at_call 20;refine(DNC.out _).mono ?_;rintro e w3 ⟨rfl,hb⟩;have H3:=ah.mk (H2.out.below hb);clear hb;refine ah.out ?_)|(go_at_call 13;refine(uF _ N2).mono ?_;rintro e w' ⟨rfl,hw⟩;obtain rfl:=hw.symm;clear hw))
 clear H1 H2 N2 DJC DB DNC hmax z1 z2 z3 HS;have FC:=ah.mk (zJ H3.out GG.out.2);refine ah.mk ?_;go_wp2_with (go_at_call 52;refine FC.out.mono ?_;rintro e w4 ⟨A,c,rfl,h⟩;have H4:=ah.mk h;clear h;refine ah.out ?_)
 have S4:=ah.mk (H3.out.below H4.out.old);have ZW:ah (bU w4 1 encI (.slice A fl.length c) fl):=⟨bK H4.out 0 rfl bJ⟩;clear FC H3 H4;obtain⟨nf,hnf⟩:∃n,n=fl.length:=⟨_,rfl⟩;have ZX:nf≤1000:=by rw[hnf];have:=WY.out.2;have:=GG.out.2;omega
 rw[←hnf]at ZW ⊢;have HNF:=Lib.hid hnf;clear hnf;have e0:((((SJ++⟨#[10]⟩)++SB)++⟨#[10]⟩)++D0:ByteArray)=zS:=HO.out.symm;refine ah.mk ?_;simp only[e0];clear e0;go_wp2_with fail
 go_loopw [3,5] (fun o i wr=>∃(k1:Nat),o=.string (Lu zS (fl.take k1))∧i=.int .i64 k1∧k1≤nf∧ah (Below w4.heap.size w4 wr)) (fun _ i _=>nf-(intOf i).toNat)
 case atStart=>exact⟨0,rfl,rfl,Nat.zero_le _,⟨Below.refl _ _⟩⟩
 case round =>
  obtain⟨k1,rfl,rfl,hk1,BW⟩:=hrel;by_cases hlt:k1<nf
  ·obtain⟨v,hx⟩:∃v,fl[k1]?=some v:=⟨_,List.getElem?_eq_getElem (by rw[←HNF.out];exact hlt)⟩;have hv:=WY.out.1 v (List.mem_of_getElem? hx);have TK:ah (Lu zS (fl.take (k1+1))=(Lu zS (fl.take k1)++sp)++dg v):=⟨by rw[←UG,List.take_add_one,hx];rfl⟩;have Yl:(Lu zS (fl.take k1)).size≤320000:=by
    have h:=Ie (fl.take k1) zS fun v hv=>by have:=WY.out.1 v (List.mem_of_mem_take hv);omega
    have h2:=SO.out;have h3:=GG.out.2;have h4:=WY.out.2;rw[List.length_take]at h;omega
   have szD:=ny (v:=v) (by omega);have DC:=ah.mk fun W=>uo (w:=W) v hv.1 (by omega);have hmx:=RY hv.1;obtain⟨D,hD⟩:∃D,D=dg v:=⟨_,rfl⟩;obtain⟨F,hF⟩:∃F,F=Lu zS (fl.take k1):=⟨_,rfl⟩;rw[←hD,←hF]at TK;rw[←hD]at DC szD;rw[←hF]at Yl ⊢;have z1:¬9223372036854775807<F.size+1:=by omega
   have z2:¬9223372036854775807<F.size+1+D.size:=by omega
   obtain⟨g,hA,hxr⟩:=(ZW.out.below BW.out).get k1 v hx;subst hA;have c0:wr.cell? ⟨g,k1,none⟩=some (.int .i64 v):=by have:=hxr 0 _ rfl;simpa using this
   clear hD hF Yl szD hxr hx hv;go_wp2_with (go_at_call 20;refine(DC.out _).mono ?_;rintro e w5 ⟨rfl,hb⟩;have H5:ah (Below w4.heap.size w4 w5):=⟨ay BW.out BW.out.size hb⟩;clear hb)
   go_roundw
   case rel=>exact⟨k1+1,by rw[TK.out];rfl,by go_num,by omega,H5⟩
   case measure=>simp[intOf];omega
  ·have hkn:k1=nf:=by omega
   have h1:¬(k1:Int)<(nf:Int):=by omega
   obtain⟨F,hF⟩:∃F,F=Lu zS (fl.take k1):=⟨_,rfl⟩;have HF:ah (F=Lu zS fl):=⟨by rw[hF,hkn,HNF.out,List.take_length]⟩;have Yl:F.size≤320000:=by
    have h:=Ie (fl.take k1) zS fun v hv=>by have:=WY.out.1 v (List.mem_of_mem_take hv);omega
    have h2:=SO.out;have h3:=GG.out.2;have h4:=WY.out.2;rw[List.length_take]at h;rw[hF];omega
   have SF:=ah.mk Yl;rw[←hF];clear hF Yl hkn;obtain⟨w5,hw5⟩:∃v,v=wr:=⟨_,rfl⟩;subst hw5;have S5:=ah.mk (S4.out.below BW.out);have JC:=ah.mk (Ic S5.out GG.out.1.len);clear S4 ZW BW;go_wp2_with (go_at_call 9;refine JC.out.mono ?_;rintro e w6 ⟨A6,c6,rfl,h⟩;have H6:ah (dF (M++[aS (.slice A6 js.length c6) js]) w0 w6 x pol (now:Int) js bk fl k):=⟨h⟩;clear h;refine ah.out ?_)
   have RJ:ah (bU w6 26 qP (.slice A6 js.length c6) js):=⟨H6.out.RV⟩;have S7:ah (dF M w0 w6 x pol now js bk fl k):=⟨H6.out.Wx⟩;have JO:ah (∀(i:Nat) (j:J),js[i]?=some j→(0≤j.since∧j.since≤1000000)∧(0≤j.started∧j.started≤1000000)∧0≤j.start∧j.start≤1000000):=⟨fun i j h=>by
    have o:=GG.out.1.jobs i j h;have n1:=GG.out.1.qQ;have o1:=o.pq;have o2:=o.since;have o3:=o.fV;have o4:=o.started;have o5:=o.place;omega⟩
   have JS:ah (∀k2,(O4 F (js.take k2)).size≤350000):=⟨fun k2=>by
    have h:=RN (js.take k2) F fun j hj=>by
     obtain⟨i,hi⟩:=List.getElem?_of_mem (List.mem_of_mem_take hj);have:=JO.out i j hi;omega
    have h1:=SF.out;have h2:=GG.out.1.len;rw[List.length_take]at h;omega⟩
   obtain⟨nj,YO⟩:∃n,n=js.length:=⟨_,rfl⟩;have hj500:nj≤500:=by rw[YO];exact GG.out.1.len
   rw[←YO]at RJ ⊢;have HNJ:=Lib.hid YO;clear YO H6 JC S5;refine ah.mk ?_;go_wp2_with fail
   go_loopw [3,7] (fun o i wr=>∃(k2:Nat),o=.string (O4 F (js.take k2))∧i=.int .i64 k2∧k2≤nj∧ah (Below w6.heap.size w6 wr)) (fun _ i _=>nj-(intOf i).toNat)
   case atStart=>exact⟨0,rfl,rfl,Nat.zero_le _,⟨Below.refl _ _⟩⟩
   case round =>
    obtain⟨k2,rfl,rfl,hk2,BW⟩:=hrel;by_cases hlt:k2<nj
    ·obtain⟨j,hx⟩:∃j,js[k2]?=some j:=⟨_,List.getElem?_eq_getElem (by rw[←HNJ.out];exact hlt)⟩;have TK:ah (O4 F (js.take (k2+1))=(((((O4 F (js.take k2)++sp)++dg j.since)++sp)++dg j.started)++sp)++dg j.start):=⟨by rw[←UH,List.take_add_one,hx];rfl⟩;obtain⟨⟨a1,a2⟩,⟨b1,b2⟩,d1,d2⟩:=JO.out k2 j hx;have Ym:=ny a2;have Yn:=ny b2;have Yo:=ny d2;have szG:=JS.out k2;have C1:=ah.mk fun W=>uo (w:=W) _ a1 a2;have C2:=ah.mk fun W=>uo (w:=W) _ b1 b2;have C3:=ah.mk fun W=>uo (w:=W) _ d1 d2;have m1:=RY a1;have m2:=RY b1;have m3:=RY d1;obtain⟨b,hA,hxr⟩:=(RJ.out.below BW.out).get k2 j hx;subst hA;have c1:∀g:GW wr,g.W.cell? ⟨b,k2*26+20,none⟩=some (.int .i64 j.since):=fun g=>g.cell (hxr 20 _ rfl);have c2:∀g:GW wr,g.W.cell? ⟨b,k2*26+21,none⟩=some (.int .i64 j.started):=fun g=>g.cell (hxr 21 _ rfl);have c3:∀g:GW wr,g.W.cell? ⟨b,k2*26+24,none⟩=some (.int .i64 j.start):=fun g=>g.cell (hxr 24 _ rfl);obtain⟨D1,hD1⟩:∃D,D=dg j.since:=⟨_,rfl⟩;obtain⟨D2,hD2⟩:∃D,D=dg j.started:=⟨_,rfl⟩;obtain⟨D3,hD3⟩:∃D,D=dg j.start:=⟨_,rfl⟩;obtain⟨v1,hv1⟩:∃v,v=j.since:=⟨_,rfl⟩;obtain⟨v2,hv2⟩:∃v,v=j.started:=⟨_,rfl⟩;obtain⟨v3,hv3⟩:∃v,v=j.start:=⟨_,rfl⟩;obtain⟨G1,hG1⟩:∃F1,F1=O4 F (js.take k2):=⟨_,rfl⟩;rw[←hD1,←hD2,←hD3,←hG1]at TK;rw[←hD1]at C1 Ym;rw[←hD2]at C2 Yn;rw[←hD3]at C3 Yo;rw[←hv1]at C1 m1 c1;rw[←hv2]at C2 m2 c2;rw[←hv3]at C3 m3 c3;rw[←hG1]at szG ⊢;have z1:¬9223372036854775807<G1.size+1:=by omega
     have z2:¬9223372036854775807<G1.size+1+D1.size:=by omega
     have z3:¬9223372036854775807<G1.size+1+D1.size+1:=by omega
     have z4:¬9223372036854775807<G1.size+1+D1.size+1+D2.size:=by omega
     have z5:¬9223372036854775807<G1.size+1+D1.size+1+D2.size+1:=by omega
     have z6:¬9223372036854775807<G1.size+1+D1.size+1+D2.size+1+D3.size:=by omega
     clear hD1 hD2 hD3 hv1 hv2 hv3 hG1 Ym Yn Yo szG hxr hx a1 a2 b1 b2 d1 d2;go_wp2_with fail
     refine bZ (by kernel_rfl) (by kernel_rfl) ?_;repeat (go_big_quiet_step (first|(go_at_call 20;with_reducible exact GW.calls (C1.out _))|(go_at_call 20;with_reducible exact GW.calls (C2.out _))|(go_at_call 20;with_reducible exact GW.calls (C3.out _))))
     refine wpQuiet_nil ?_;intro _ hw';obtain⟨g2,rfl⟩:=hw';have H8:ah (Below w6.heap.size w6 g2.W):=⟨ay BW.out BW.out.size g2.h⟩;clear c1 c2 c3;go_wp2_with fail
     go_roundw
     case rel=>exact⟨k2+1,by rw[TK.out];rfl,by go_num,by omega,H8⟩
     case measure=>simp[intOf];omega
    ·have h1:¬(k2:Int)<(nj:Int):=by omega
     go_wp2_with fail
     first|go_ret2|go_ret|skip
     rw[←HQ.out];have hkn:k2=nj:=by omega
     exact⟨by rw[hkn,HNJ.out,List.take_length,HF.out],S7.out.below BW.out⟩
end
end
section
open Go.RowKit Go.ChangeMaps
def RZ (T:ByteArray):Prop:=∀(w0 w:World) (M:List bW) (x:Nat) (pol:Int) (now:Nat) (js:List J) (bk:List Ch) (fl:List Int) (k:Nat) (mm:Int),dF M w0 w x pol now js bk fl k→(1≤pol∧pol≤4)→dL now js bk→now≤9000→k≤900→js.length≤400→w0.cell? ⟨0,0,none⟩=some (.int .i64 mm)→(∀W,Below w0.heap.size w0 W→Tab W)→
 Calls Tryz.prog 11 #[.pointer (some ⟨x,0,none⟩),.string T] w fun e w'=>∃(s:ByteArray) (now':Nat) (bI:List J) (bk':List Ch) (y5:List Int) (k':Nat),e=.returned (.string s)∧(now'≤now+20∧k'≤k+1∧bI.length≤js.length+1)∧dL now' bI bk'∧dF M w0 w' x pol now' bI bk' y5 k'
theorem LH {T:ByteArray}(h:Keeps T):RZ T:=fun w0 w M x pol now js bk fl k mm hS hp G hn hk hl HM TT =>
 (h w0 w M x pol now js bk fl k mm hS hp G (by omega) hk hl HM TT).mono fun e w' ⟨s,bI,bk',y5,k',he,h1,h2,_,h4,h5⟩=>⟨s,now,bI,bk',y5,k',he,⟨by omega,h1,h4⟩,h2,h5⟩
theorem BH {n:Nat}(h1:1≤n)(h2:n≤20):RZ (⟨#[116,105,99,107,32]⟩++dD n):=fun w0 w M x pol now js bk fl k mm hS hp G hn hk hl HM TT=>by
 have hv:val (dD n)=n:=jS (by omega);have h:=Nj hS hp G hk HM TT _ _ (Bv (n:=n) (by omega)) (jd (by omega)) (kG (by omega)) (by rw[hv];exact⟨h1,h2⟩) (by rw[hv];omega);rw[hv]at h;refine h.mono fun e w' ⟨he,bI,bk',hm,hs⟩=>?_;obtain⟨g1,g2⟩:=hm.sane G n (by omega);exact⟨_,now+n,bI,bk',fl,k,he,⟨by omega,by omega,by omega⟩,g1,hs⟩
theorem O5 (kd nn sz lim:Int)(ac hi rq:Bool):∃T:ByteArray,(∀w,Calls Tryz.prog 8 #[.agg (Mv.cells ⟨kd,nn,sz,lim,ac,hi,rq⟩)] w fun e w'=>e=.returned (.string T)∧Below w.heap.size w w')∧RZ T:=by
 have hone:∀kd':Int,(#[.int .i64 kd',.int .i64 nn,.int .i64 sz,.int .i64 lim,.bool ac,.bool hi,.bool rq]:Array Value).all (·.oneCell')=true:=fun kd'=>by simp[Value.oneCell']
 have hc:=bY nn (n:=20) (by decide);by_cases h3:kd=3
 ·subst h3;exact⟨_,fun w=>Bj nn _ _ _ _ _ (hone 3),BH (by omega) (by omega)⟩
 by_cases h4:kd=4
 ·subst h4;exact⟨_,fun w=>yR nn _ _ _ _ _ (hone 4),BH (by omega) (by omega)⟩
 obtain⟨T,hT,hK⟩:=Ls kd nn sz lim ac hi rq;exact⟨T,hT,LH (hK h3 h4).2⟩
section
variable {w:World}
set_option maxRecDepth 1000000 in
theorem Ep (pol:Int)(HP:1≤pol∧pol≤4)(l:List Mv)(A:Option Addr)(cap:Nat)(hA:YK w A l){mm:Int}(HM:w.cell? ⟨0,0,none⟩=some (.int .i64 mm))(TT:∀W,Below w.heap.size w W→Tab W) :
 Calls Tryz.prog 14 #[.int .i64 pol,.slice A l.length cap] w fun e w'=>∃(x now:Nat) (js:List J) (bk:List Ch) (fl:List Int) (k:Nat),e=.returned (.pointer (some ⟨x,0,none⟩))∧(now≤400∧k≤20∧js.length≤20)∧dL now js bk∧dF [] w w' x pol now js bk fl k:=by
 refine named fun R HQ=>?_;have CC:=ah.mk fun W=>Hq (w:=W) pol;have HMV:=ah.mk hA;have HH:=ah.mk (And.intro HM TT);have ZY:=ah.mk HP;clear hA HM TT HP;go_enter Tryz.func14,Tryz.ntmps14;go_wp2_with (go_at_call 6;refine(CC.out _).mono ?_;rintro e w1 ⟨pb,cb,ab,rfl,h1⟩;have H1:=ah.mk h1;clear h1;refine ah.out ?_)
 have NC:=ah.mk (KX (pc:=1) (cc:=2) (ac:=2) H1.out ZY.out.1 ZY.out.2);clear CC;refine ah.mk ?_;go_wp2_with (go_at_call 5;refine NC.out.mono ?_;rintro e w2 ⟨x,rfl,h2⟩;have S2:=ah.mk h2.stM;clear h2;refine ah.out ?_)
 clear NC H1;refine ah.mk ?_;go_wp2_with fail
 go_loopw [7] (fun s7 wr=>∃(i now:Nat) (js:List J) (bk:List Ch) (fl:List Int) (k:Nat),s7=.int .i64 (i:Int)∧i≤20∧now≤20*i∧k≤i∧js.length≤i∧ah (dL now js bk∧dF [] w wr x pol now js bk fl k)) (fun s7 _=>20-(intOf s7).toNat)
 case atStart=>exact⟨0,0,[],[],[],0,rfl,by decide,by decide,by decide,by simp,⟨⟨by decide,by decide,by simp,fun k j h=>by simp at h,fun c h=>by simp at h,by simp[Ae,vF]⟩,S2.out⟩⟩
 case round =>
  clear S2;obtain⟨i,now,js,bk,fl,k,rfl,hi,dB,hk,hjl,HB⟩:=hrel;by_cases hlt:i<l.length∧i<20
  ·obtain⟨mv,hmv⟩:∃mv,l[i]?=some mv:=⟨_,List.getElem?_eq_getElem hlt.1⟩;obtain⟨ad,hA,hat⟩:=HMV.out.2 i mv hmv;subst hA;obtain⟨kd,nn,sz,lim,ac,hh,rq⟩:=mv;obtain⟨T,hT,hK⟩:=O5 kd nn sz lim ac hh rq;have hold:=HB.out.2.old;have AT:=ah.mk (hat.below hold);have i1:(i:Int)<l.length:=by omega
   have i2:(i:Int)<20:=by omega
   have i0:¬(i:Int)<0:=by omega
   have h40:(Tryz.prog.info? 40).map (·.size)=some (Mv.cells ⟨kd,nn,sz,lim,ac,hh,rq⟩).size:=by rw[show(Mv.cells ⟨kd,nn,sz,lim,ac,hh,rq⟩).size=7 from rfl];kernel_rfl
   have CM:=ah.mk hT;have KK:=ah.mk hK;clear hT hK hat hmv hold;go_wp2_with (first|(go_at_call 11;refine ah.out ?_)|(refine zZ rfl 40 (.tmp 33) rfl (ad.add (i*7)) rfl (Mv.cells ⟨kd,nn,sz,lim,ac,hh,rq⟩) _ AT.out Tryz.underlying40 rfl h40 ?_)|(go_at_call 8;refine(CM.out _).mono ?_;rintro e w3 ⟨rfl,hb⟩;have S3:=ah.mk (HB.out.2.below hb);clear hb))
   have DC:=ah.mk (KK.out w w3 [] x pol now js bk fl k _ S3.out ZY.out HB.out.1 (by omega) (by omega) (by omega) HH.out.1 HH.out.2);clear KK CM AT;refine ah.mk ?_;go_wp2_with (go_at_call 11;refine DC.out.mono ?_;rintro e w4 ⟨s,now',bI,bk',y5,k',rfl,hb,hg,hs⟩;have S4:=ah.mk (And.intro hb (And.intro hg hs));clear hb hg hs)
   clear S3 DC;go_roundw
   case rel=>exact⟨i+1,now',bI,bk',y5,k',by go_num,by omega,by have:=S4.out.1.1;omega,by have:=S4.out.1.2.1;omega,by have:=S4.out.1.2.2;omega,⟨S4.out.2⟩⟩
   case measure=>simp[intOf];omega
  ·have FIN:ah (now≤400∧k≤20∧js.length≤20):=⟨by omega⟩;by_cases Em:i<l.length
   ·have I1:=ah.mk Em;have i1:(i:Int)<l.length:=by omega
    have i2:¬(i:Int)<20:=by omega
    clear Em hlt;go_wp2_with fail
    first|go_ret2|go_ret|skip
    rw[←HQ.out];exact⟨x,now,js,bk,fl,k,rfl,FIN.out,HB.out.1,HB.out.2⟩
   ·have I1:=ah.mk Em;have i1:¬(i:Int)<l.length:=by omega
    clear Em hlt;go_wp2_with fail
    first|go_ret2|go_ret|skip
    rw[←HQ.out];exact⟨x,now,js,bk,fl,k,rfl,FIN.out,HB.out.1,HB.out.2⟩
end
end
section
open Go.ChangeShapes Go.WideShapes Go.ChangeAt Go.RowKit Go.Deep
theorem Yt:ownKnob Tryz.prog.godebug=none:=by kernel_rfl
theorem laidOut:laidOutB Tryz.prog=true:=by kernel_rfl
theorem aae:∀(cs:List Value),cs.length=7→∃a b c d e f g,cs=[a,b,c,d,e,f,g]
 |[a,b,c,d,e,f,g],_=>⟨a,b,c,d,e,f,g,rfl⟩
section
variable {H:Type}{enc:TypeId×Value→H}{w:World}{base:Nat}{held:Bool}{fuel:Nat}{x:DataW H×List MemPlace}
theorem Ik {a:Option Addr}{len cap:Nat}(h:DataW.trod enc Tryz.prog w base (fun _=>true) held fuel 22 [.slice a len cap]=some x):∃l:List Mv,len=l.length∧YK w a l:=by
 have e3:Tryz.prog.cellsOf 3=1:=by kernel_rfl
 have e4:Tryz.prog.cellsOf 4=1:=by kernel_rfl
 have e38:Tryz.prog.cellsOf 38=5:=by kernel_rfl
 have e40:Tryz.prog.cellsOf 40=7:=by kernel_rfl
 rcases open_slice Tryz.underlying22 h with⟨hcs,_⟩|⟨a',len',cap',m,n,D,Pl,hcs,hb,hl,hm,hmm,_,hx⟩
 ·simp at hcs;obtain⟨rfl,rfl,rfl⟩:=hcs;exact⟨[],rfl,by simp,fun i x hi=>by simp at hi⟩
 ·simp at hcs;obtain⟨rfl,rfl,rfl⟩:=hcs;simp at hmm;subst hmm;have each:∀i,∃y:Mv,i<m→RI w (a'.add (i*7)) y:=fun i=>by
   by_cases hi:i<m
   ·obtain⟨cs',h1,h2⟩:=hx i hi;rw[e40]at h1;obtain⟨_,hlen,hcell⟩:=World.cells?_some h1;obtain⟨y0,y1,y2,n',_,_,g0,g1,g2⟩:=trod_struct3 Tryz.underlying40 h2;obtain⟨v0,v1,v2,v3,v4,v5,v6,rfl⟩:=aae cs' hlen;simp[e3,e38]at g0 g1 g2;obtain⟨k,q0,_,_⟩:=DataW.trod_int Tryz.underlying3 g0;obtain⟨nn,q1,_,_⟩:=DataW.trod_int Tryz.underlying3 g1;obtain⟨xs,n2,_,_,_,hl5,hf⟩:=DataW.trod_struct Tryz.underlying38 g2;match xs,hl5 with
    |[z0,z1,z2,z3,z4],_ =>
     have f0:=hf 0 _ rfl;have f1:=hf 1 _ rfl;have f2:=hf 2 _ rfl;have f3:=hf 3 _ rfl;have f4:=hf 4 _ rfl;simp[e3,e4]at f0 f1 f2 f3 f4;obtain⟨sz,q2,_,_⟩:=DataW.trod_int Tryz.underlying3 f0;obtain⟨lim,q3,_,_⟩:=DataW.trod_int Tryz.underlying3 f1;obtain⟨ac,q4,_⟩:=DataW.trod_bool Tryz.underlying4 f2;obtain⟨hi',q5,_⟩:=DataW.trod_bool Tryz.underlying4 f3;obtain⟨rq,q6,_⟩:=DataW.trod_bool Tryz.underlying4 f4;simp at q0 q1 q2 q3 q4 q5 q6;refine⟨⟨k,nn,sz,lim,ac,hi',rq⟩,fun _ j v hv=>?_⟩;rw[hcell j (by have:=(List.getElem?_eq_some_iff.1 hv).1;simpa[Mv.cells]using this)];rw[←hv,q0,q1,q2,q3,q4,q5,q6];rfl
   ·exact⟨default,fun hh=>absurd hh hi⟩
  refine⟨(List.range len).map fun i=>(each i).choose,by simp,by simp;unfold maxLen at hm;omega,fun i y hi=>⟨a',rfl,?_⟩⟩;have hil:i<len:=by
   have:=(List.getElem?_eq_some_iff.1 hi).1;simpa using this
  rw[List.getElem?_map,List.getElem?_range hil]at hi;simp only[Option.map_some,Option.some.injEq]at hi;rw[←hi];exact(each i).choose_spec (by omega)
end
theorem WJ:Tryz.prog.globalNamed "internal/strconv.uint64pow10" = some 1:=by kernel_rfl
theorem aaf:(Tryz.prog.globals[1]?).map (·.type)=some 337:=by kernel_rfl
theorem aag:Rows.laid_internal_strconv_uint64pow10 (H:=Unit)=Lib.tabData .u64 Lib.pow10Tab:=by kernel_rfl
theorem aah:Tryz.prog.cellsOf 281=1:=by kernel_rfl
theorem aai:Tryz.prog.cellsOf 337=20:=by kernel_rfl
theorem Il {W:World}(h:laidMetH Tryz.prog Rows.topChargesRow.laid W):Tab W:=by
 rw[MakeChecks.laidMetH_plain _ _ _ (by kernel_rfl)]at h;obtain⟨g,t,cs,fuel,p,hg,ht,hv,hd⟩:=Lib.laidMet.reads (n:= "internal/strconv.uint64pow10") (d:=Rows.laid_internal_strconv_uint64pow10) h (.tail _ (.tail _ (.head _)));obtain rfl:=Option.some.inj (WJ.symm.trans hg);obtain rfl:=Option.some.inj (aaf.symm.trans ht);rw[aag]at hd;show W.var? _ _=_
 rw[hv,←Lib.cells_of_tab Tryz.underlying337 Tryz.underlying281 aah aai hd]
theorem LM {P:Program}{w w':World}{n:String}{g B:Nat}{cs:Array Value}(h:w.var? P n=some cs)(hg:P.globalNamed n=some g)(hb:Below B w w')(hlt:g<B):w'.var? P n=some cs:=by
 unfold World.var? at h ⊢;rw[hg]at h ⊢;simp only[Option.bind_some]at h ⊢;rw[hb.block g hlt];exact h
theorem Sz {w:World}{a:Addr}{v:Value}(h:w.cell? a=some v):a.block<w.heap.size:=by
 unfold World.cell? at h;split at h
 ·rename_i hh
  exact(Array.getElem?_eq_some_iff.1 hh).1
 ·cases h
theorem tab_below {W W':World}(h:Tab W)(hb:Below W.heap.size W W'):Tab W' :=
 LM h WJ hb (by
  have:=Lib.TabIs.cell h WJ 0 (by decide);exact Sz this)
theorem Pg {W:World}(h:W.ShapedOpen Tryz.prog):∃m,W.cell? ⟨0,0,none⟩=some (.int .i64 m):=
 cell_of_shapedOpen_int (t:=3) (zero:=#[.int .i64 0]) h (of_decide_eq_true (by kernel_rfl)) (by kernel_rfl) rfl (by kernel_rfl) (by kernel_rfl) Tryz.underlying3
end
end Go.Proofs.YtandhagfhppgaaaGreatDoor
