/- Part 48 of a proof: contracts of the functions that the law reaches. No condition. -/
import Derived.Test.YtandhagfhppgaaaGreatDoorS35
import Derived.Test.YtandhagfhppgaaaGreatDoorS45
import Derived.Test.YtandhagfhppgaaaGreatDoorS46
import Derived.Test.YtandhagfhppgaaaGreatDoorS47
set_option linter.all false
set_option maxRecDepth 100000
set_option maxHeartbeats 16000000
namespace Go.Proofs.YtandhagfhppgaaaGreatDoor
section
open Go.RowKit
theorem Ec:∀n:Fin 21,((dD n).data.toList.all (fun b=>decide (48≤b.toNat)&&decide (b.toNat≤57))=true∧1≤(dD n).size∧(dD n).size≤4)∧numeral (dD n)=true∧val (dD n)=n:=by decide
theorem jd {n:Nat}(h:n<21):oO (dD n):=by
 have hh:=(Ec ⟨n,h⟩).1;refine⟨fun j b hb=>?_,hh.2.1,hh.2.2⟩;have:=List.all_eq_true.1 hh.1 b (List.mem_iff_getElem?.2 ⟨j,hb⟩);simpa using this
theorem kG {n:Nat}(h:n<21):numeral (dD n)=true:=(Ec ⟨n,h⟩).2.1
theorem jS {n:Nat}(h:n<21):val (dD n)=n:=(Ec ⟨n,h⟩).2.2
theorem Says.mk' {t:ByteArray}{ws:List ByteArray}(h:Lib.hasPrefix t.data.toList [115,117,98,109,105,116,10]=false∧(t.data.toList==[106,111,98,115])=false∧(t.data.toList==[98,111,111,107])=false∧t.size<4294967281∧Lib.countB t ⟨#[32]⟩+1=ws.length∧Lib.splitB ⟨#[32]⟩ 0 (Lib.countB t ⟨#[32]⟩) t=ws):Says t ws :=
 ⟨h.1,by rw[ByteArray.toList_eq];exact h.2.1,by rw[ByteArray.toList_eq];exact h.2.2.1,h.2.2.2.1,h.2.2.2.2.1,h.2.2.2.2.2⟩
theorem KY:∀n:Fin 21,Lib.hasPrefix (⟨#[104,111,108,100,32]⟩++dD n).data.toList [115,117,98,109,105,116,10]=false∧((⟨#[104,111,108,100,32]⟩++dD n).data.toList==[106,111,98,115])=false∧((⟨#[104,111,108,100,32]⟩++dD n).data.toList==[98,111,111,107])=false∧(⟨#[104,111,108,100,32]⟩++dD n).size<4294967281∧Lib.countB (⟨#[104,111,108,100,32]⟩++dD n) ⟨#[32]⟩+1=([⟨#[104,111,108,100]⟩,dD n]:List ByteArray).length∧Lib.splitB ⟨#[32]⟩ 0 (Lib.countB (⟨#[104,111,108,100,32]⟩++dD n) ⟨#[32]⟩) (⟨#[104,111,108,100,32]⟩++dD n)=[⟨#[104,111,108,100]⟩,dD n]:=by decide
theorem OU {n:Nat}(h:n<21):Says (⟨#[104,111,108,100,32]⟩++dD n) [⟨#[104,111,108,100]⟩,dD n]:=.mk' (KY ⟨n,h⟩)
theorem zV:∀n:Fin 21,Lib.hasPrefix (⟨#[114,101,108,101,97,115,101,32]⟩++dD n).data.toList [115,117,98,109,105,116,10]=false∧((⟨#[114,101,108,101,97,115,101,32]⟩++dD n).data.toList==[106,111,98,115])=false∧((⟨#[114,101,108,101,97,115,101,32]⟩++dD n).data.toList==[98,111,111,107])=false∧(⟨#[114,101,108,101,97,115,101,32]⟩++dD n).size<4294967281∧Lib.countB (⟨#[114,101,108,101,97,115,101,32]⟩++dD n) ⟨#[32]⟩+1=([⟨#[114,101,108,101,97,115,101]⟩,dD n]:List ByteArray).length∧Lib.splitB ⟨#[32]⟩ 0 (Lib.countB (⟨#[114,101,108,101,97,115,101,32]⟩++dD n) ⟨#[32]⟩) (⟨#[114,101,108,101,97,115,101,32]⟩++dD n)=[⟨#[114,101,108,101,97,115,101]⟩,dD n]:=by decide
theorem Ed {n:Nat}(h:n<21):Says (⟨#[114,101,108,101,97,115,101,32]⟩++dD n) [⟨#[114,101,108,101,97,115,101]⟩,dD n]:=.mk' (zV ⟨n,h⟩)
theorem Ee:∀n:Fin 21,Lib.hasPrefix (⟨#[99,97,110,99,101,108,32]⟩++dD n).data.toList [115,117,98,109,105,116,10]=false∧((⟨#[99,97,110,99,101,108,32]⟩++dD n).data.toList==[106,111,98,115])=false∧((⟨#[99,97,110,99,101,108,32]⟩++dD n).data.toList==[98,111,111,107])=false∧(⟨#[99,97,110,99,101,108,32]⟩++dD n).size<4294967281∧Lib.countB (⟨#[99,97,110,99,101,108,32]⟩++dD n) ⟨#[32]⟩+1=([⟨#[99,97,110,99,101,108]⟩,dD n]:List ByteArray).length∧Lib.splitB ⟨#[32]⟩ 0 (Lib.countB (⟨#[99,97,110,99,101,108,32]⟩++dD n) ⟨#[32]⟩) (⟨#[99,97,110,99,101,108,32]⟩++dD n)=[⟨#[99,97,110,99,101,108]⟩,dD n]:=by decide
theorem Hr {n:Nat}(h:n<21):Says (⟨#[99,97,110,99,101,108,32]⟩++dD n) [⟨#[99,97,110,99,101,108]⟩,dD n]:=.mk' (Ee ⟨n,h⟩)
theorem zW:∀n:Fin 21,Lib.hasPrefix (⟨#[114,101,113,117,101,117,101,32]⟩++dD n).data.toList [115,117,98,109,105,116,10]=false∧((⟨#[114,101,113,117,101,117,101,32]⟩++dD n).data.toList==[106,111,98,115])=false∧((⟨#[114,101,113,117,101,117,101,32]⟩++dD n).data.toList==[98,111,111,107])=false∧(⟨#[114,101,113,117,101,117,101,32]⟩++dD n).size<4294967281∧Lib.countB (⟨#[114,101,113,117,101,117,101,32]⟩++dD n) ⟨#[32]⟩+1=([⟨#[114,101,113,117,101,117,101]⟩,dD n]:List ByteArray).length∧Lib.splitB ⟨#[32]⟩ 0 (Lib.countB (⟨#[114,101,113,117,101,117,101,32]⟩++dD n) ⟨#[32]⟩) (⟨#[114,101,113,117,101,117,101,32]⟩++dD n)=[⟨#[114,101,113,117,101,117,101]⟩,dD n]:=by decide
theorem Ef {n:Nat}(h:n<21):Says (⟨#[114,101,113,117,101,117,101,32]⟩++dD n) [⟨#[114,101,113,117,101,117,101]⟩,dD n]:=.mk' (zW ⟨n,h⟩)
theorem KZ:∀n:Fin 21,Lib.hasPrefix (⟨#[100,111,110,101,32]⟩++dD n).data.toList [115,117,98,109,105,116,10]=false∧((⟨#[100,111,110,101,32]⟩++dD n).data.toList==[106,111,98,115])=false∧((⟨#[100,111,110,101,32]⟩++dD n).data.toList==[98,111,111,107])=false∧(⟨#[100,111,110,101,32]⟩++dD n).size<4294967281∧Lib.countB (⟨#[100,111,110,101,32]⟩++dD n) ⟨#[32]⟩+1=([⟨#[100,111,110,101]⟩,dD n]:List ByteArray).length∧Lib.splitB ⟨#[32]⟩ 0 (Lib.countB (⟨#[100,111,110,101,32]⟩++dD n) ⟨#[32]⟩) (⟨#[100,111,110,101,32]⟩++dD n)=[⟨#[100,111,110,101]⟩,dD n]:=by decide
theorem OW {n:Nat}(h:n<21):Says (⟨#[100,111,110,101,32]⟩++dD n) [⟨#[100,111,110,101]⟩,dD n]:=.mk' (KZ ⟨n,h⟩)
theorem Eh:∀n:Fin 21,Lib.hasPrefix (⟨#[102,97,105,108,101,100,32]⟩++dD n).data.toList [115,117,98,109,105,116,10]=false∧((⟨#[102,97,105,108,101,100,32]⟩++dD n).data.toList==[106,111,98,115])=false∧((⟨#[102,97,105,108,101,100,32]⟩++dD n).data.toList==[98,111,111,107])=false∧(⟨#[102,97,105,108,101,100,32]⟩++dD n).size<4294967281∧Lib.countB (⟨#[102,97,105,108,101,100,32]⟩++dD n) ⟨#[32]⟩+1=([⟨#[102,97,105,108,101,100]⟩,dD n]:List ByteArray).length∧Lib.splitB ⟨#[32]⟩ 0 (Lib.countB (⟨#[102,97,105,108,101,100,32]⟩++dD n) ⟨#[32]⟩) (⟨#[102,97,105,108,101,100,32]⟩++dD n)=[⟨#[102,97,105,108,101,100]⟩,dD n]:=by decide
theorem Ht {n:Nat}(h:n<21):Says (⟨#[102,97,105,108,101,100,32]⟩++dD n) [⟨#[102,97,105,108,101,100]⟩,dD n]:=.mk' (Eh ⟨n,h⟩)
theorem La:∀n:Fin 21,Lib.hasPrefix (⟨#[116,105,99,107,32]⟩++dD n).data.toList [115,117,98,109,105,116,10]=false∧((⟨#[116,105,99,107,32]⟩++dD n).data.toList==[106,111,98,115])=false∧((⟨#[116,105,99,107,32]⟩++dD n).data.toList==[98,111,111,107])=false∧(⟨#[116,105,99,107,32]⟩++dD n).size<4294967281∧Lib.countB (⟨#[116,105,99,107,32]⟩++dD n) ⟨#[32]⟩+1=([⟨#[116,105,99,107]⟩,dD n]:List ByteArray).length∧Lib.splitB ⟨#[32]⟩ 0 (Lib.countB (⟨#[116,105,99,107,32]⟩++dD n) ⟨#[32]⟩) (⟨#[116,105,99,107,32]⟩++dD n)=[⟨#[116,105,99,107]⟩,dD n]:=by decide
theorem Bv {n:Nat}(h:n<21):Says (⟨#[116,105,99,107,32]⟩++dD n) [⟨#[116,105,99,107]⟩,dD n]:=.mk' (La ⟨n,h⟩)
theorem Lc:∀n:Fin 8,Lib.hasPrefix (⟨#[100,111,119,110,32,109,97,105,110,32]⟩++dD n).data.toList [115,117,98,109,105,116,10]=false∧((⟨#[100,111,119,110,32,109,97,105,110,32]⟩++dD n).data.toList==[106,111,98,115])=false∧((⟨#[100,111,119,110,32,109,97,105,110,32]⟩++dD n).data.toList==[98,111,111,107])=false∧(⟨#[100,111,119,110,32,109,97,105,110,32]⟩++dD n).size<4294967281∧Lib.countB (⟨#[100,111,119,110,32,109,97,105,110,32]⟩++dD n) ⟨#[32]⟩+1=([⟨#[100,111,119,110]⟩,aQ,dD n]:List ByteArray).length∧Lib.splitB ⟨#[32]⟩ 0 (Lib.countB (⟨#[100,111,119,110,32,109,97,105,110,32]⟩++dD n) ⟨#[32]⟩) (⟨#[100,111,119,110,32,109,97,105,110,32]⟩++dD n)=[⟨#[100,111,119,110]⟩,aQ,dD n]:=by decide
theorem OX {n:Nat}(h:n<8):Says (⟨#[100,111,119,110,32,109,97,105,110,32]⟩++dD n) [⟨#[100,111,119,110]⟩,aQ,dD n]:=.mk' (Lc ⟨n,h⟩)
theorem Rz:∀n:Fin 8,Lib.hasPrefix (⟨#[117,112,32,109,97,105,110,32]⟩++dD n).data.toList [115,117,98,109,105,116,10]=false∧((⟨#[117,112,32,109,97,105,110,32]⟩++dD n).data.toList==[106,111,98,115])=false∧((⟨#[117,112,32,109,97,105,110,32]⟩++dD n).data.toList==[98,111,111,107])=false∧(⟨#[117,112,32,109,97,105,110,32]⟩++dD n).size<4294967281∧Lib.countB (⟨#[117,112,32,109,97,105,110,32]⟩++dD n) ⟨#[32]⟩+1=([⟨#[117,112]⟩,aQ,dD n]:List ByteArray).length∧Lib.splitB ⟨#[32]⟩ 0 (Lib.countB (⟨#[117,112,32,109,97,105,110,32]⟩++dD n) ⟨#[32]⟩) (⟨#[117,112,32,109,97,105,110,32]⟩++dD n)=[⟨#[117,112]⟩,aQ,dD n]:=by decide
theorem Uo {n:Nat}(h:n<8):Says (⟨#[117,112,32,109,97,105,110,32]⟩++dD n) [⟨#[117,112]⟩,aQ,dD n]:=.mk' (Rz ⟨n,h⟩)
end
section
open Go.RowKit Go.ChangeMaps
def wP:List UInt8:=mM [115,105,122,101] [48]
def kQ:List (List UInt8):=[wP]
section
variable {w0 w:World}
set_option maxRecDepth 1000000 in
theorem Ih:Calls Tryz.prog 220 #[.iface 3 (.int .i64 0),.int .i64 0,.int .i64 1,.int .i64 1024] w fun e w'=>e=.returned (.tuple #[.nilIface,.int .i64 90])∧w'=w:=by
 refine named fun R HQ=>?_;have hi:=fun w=>gJ (.int .i64 0) 20 w;go_enter Tryz.func220,Tryz.ntmps220;go_wp2_with fail
 first|go_ret2|go_ret|skip
 rw[←HQ.out];exact⟨rfl,rfl⟩
set_option maxRecDepth 1000000 in
theorem Si:Calls Tryz.prog 161 #[.string ⟨#[115,105,122,101]⟩,.string ⟨#[48]⟩] w fun e w'=>e=.returned (.tuple #[.nilIface,.int .i64 90])∧Below w.heap.size w w':=by
 refine named fun R HQ=>?_;have q0:∀W,(binOp .eql 9 (.string ⟨#[115,105,122,101]⟩) (.string ⟨#[115,105,122,101]⟩)).run Tryz.prog W=.ok (.bool true) W:=fun _=>by kernel_rfl
 have Z4:=yU (w:=w) (dD 0) (jd (by omega));rw[jS (n:=0) (by omega)]at Z4;have NC:ah (Calls Tryz.prog 219 #[.string ⟨#[48]⟩,.int .i64 7,.bool false] w fun e w'=>e=.returned (.tuple #[.iface 3 (.int .i64 0),.int .i64 0])∧Below w.heap.size w w'):=⟨Z4⟩;clear Z4;go_enter Tryz.func161,Tryz.ntmps161;go_wp2_with (first|(go_at_call 219;refine NC.out.mono ?_;rintro e w2 ⟨rfl,hb⟩;have H2:=ah.mk hb;clear hb)|(go_at_call 220;refine Ih.mono ?_;rintro e w' ⟨rfl,hw⟩;obtain rfl:=hw.symm;clear hw))
 first|go_ret2|go_ret|skip
 rw[←HQ.out];exact⟨rfl,H2.out⟩
set_option maxRecDepth 1000000 in
theorem UJ {sb mb:Nat}(cs:Array Value)(l:List (ByteArray×Value))
 (H:Has w0 w [aF sb (.cells cs 51 (0,0)),mapA mb Value.string l]) (hl:look l (lb [115,105,122,101])=some (.bool true)) {mm:Int} (HM:w0.cell? ⟨0,0,none⟩=some (.int .i64 mm)) :
 Calls Tryz.prog 106 #[.pointer (some ⟨sb,0,none⟩),.map (some mb),.string (lb wP)] w fun e w'=>e=.returned (.int .i64 90)∧Has w0 w' [aF sb (.cells cs 51 (0,0)),mapA mb Value.string (del l (lb [115,105,122,101]))]:=by
 refine named fun R HQ=>?_;have CP:ah (∀W,Calls Tryz.prog 28 #[.string (lb (wP)),.string ⟨#[35,83,66,65,84,67,72,32,45,45]⟩] W fun e w'=>e=.returned (.tuple #[.string (lb ([115,105,122,101]++61::[48])),.bool true])∧w'=W):=⟨fun W=>(Tryz.strings_CutPrefix (lb (wP)) ⟨#[35,83,66,65,84,67,72,32,45,45]⟩ W).mono fun e w' h=>by
  rw[dY,show(⟨#[35,83,66,65,84,67,72,32,45,45]⟩:ByteArray).data.toList=[35,83,66,65,84,67,72,32,45,45]from rfl,show wP=[35,83,66,65,84,67,72,32,45,45]++([115,105,122,101]++61::[48])from rfl,(kF _ _).1,(kF _ _).2]at h;exact h⟩
 have CT:ah (Calls Tryz.prog 103 #[.string (lb ([115,105,122,101]++61::[48])),.string ⟨#[61]⟩] w fun e w'=>e=.returned (.tuple #[.string (lb [115,105,122,101]),.string (lb [48]),.bool true])∧Below w.heap.size w w'):=⟨(Tryz.strings_Cut (lb ([115,105,122,101]++61::[48])) ⟨#[61]⟩ mm w (by rw[eY];decide) (ak H.old HM)).mono fun e w' h=>by
  obtain⟨h,n,rfl⟩:=h;rw[dY,show(⟨#[61]⟩:ByteArray).data.toList=[61]from rfl,nR 61 _ _ (by decide)]at h;exact⟨h,aC (Below.refl _ _) n⟩⟩
 have HL:=ah.mk hl;have XZ:ah (∀W,Below w0.heap.size w0 W→Calls Tryz.prog 161 #[.string (lb [115,105,122,101]),.string (lb [48])] W fun e w'=>e=.returned (.tuple #[.nilIface,.int .i64 90])∧Below W.heap.size W w'):=⟨fun W _=>Si⟩;have hh:((lb [115,105,122,101]).toList==[104,111,108,100])=false:=by rw[ByteArray.toList_eq];rfl
 have hr:((lb [115,105,122,101]).toList==[114,101,113,117,101,117,101])=false:=by rw[ByteArray.toList_eq];rfl
 have HH:=ah.mk H;obtain⟨K,hK⟩:∃K,K=lb [115,105,122,101]:=⟨_,rfl⟩;obtain⟨V,hV⟩:∃V,V=lb [48]:=⟨_,rfl⟩;obtain⟨T,hT⟩:∃T,T=lb (wP):=⟨_,rfl⟩;obtain⟨U,hU⟩:∃U,U=lb ([115,105,122,101]++61::[48]):=⟨_,rfl⟩;rw[←hT,←hU]at CP;rw[←hK,←hV,←hU]at CT;rw[←hK]at HL hh hr;rw[←hK,←hV]at XZ;rw[←hT];have HK:=ah.mk hK;clear hK hV hT hU hl H HM;go_enter Tryz.func106,Tryz.ntmps106;go_wp2_with (go_at_call 28;refine(CP.out _).mono ?_;rintro e w' ⟨rfl,hw⟩;obtain rfl:=hw.symm;clear hw;refine ah.out ?_)
 refine ah.mk ?_;go_wp2_with (go_at_call 103;refine CT.out.mono ?_;rintro e w1 ⟨rfl,hb⟩;have H1:=ah.mk (HH.out.below hb);clear hb;refine ah.out ?_)
 have LK:=dR eG H1.out 1 rfl 180 9 4 Tryz.underlying180 Tryz.underlying9 (.bool false) (by kernel_rfl) K false;rw[HL.out]at LK;have U9:=ah.mk LK;obtain⟨w2,hd,h2⟩:=DU eG H1.out 1 rfl 180 9 4 0 Tryz.underlying180 Tryz.underlying9 K (.bool true) HL.out;have H2:=ah.mk h2;clear CP CT LK h2;refine ah.mk ?_;go_wp2_with (first|(refine rO (by rfl) 180 (.tmp 35) (.tmp 36) false rfl rfl rfl U9.out ?_;clear U9)|(go_at_call 161;refine ah.out ?_))
 clear H1 hd;refine ah.mk ?_;go_wp2_with (go_at_call 161;refine(XZ.out _ H2.out.old).mono ?_;rintro e w3 ⟨rfl,hb⟩;have H3:=ah.mk (H2.out.below hb);clear hb)
 first|go_ret2|go_ret|skip
 rw[←HQ.out,←HK.out];exact⟨rfl,H3.out⟩
set_option maxRecDepth 1000000 in
theorem O7 {mm:Int}(HM:w.cell? ⟨0,0,none⟩=some (.int .i64 mm)):Calls Tryz.prog 59 #[.string (lb ([35,33,106,111,98]++10::textOf kQ))] w fun e w'=>e=.returned (.tuple #[.agg eX,.int .i64 2,.int .i64 90])∧Below w.heap.size w w':=by
 refine named fun R HQ=>?_;have CT:ah (∀W,Below w.heap.size w W→Calls Tryz.prog 103 #[.string (lb ([35,33,106,111,98]++10::textOf kQ)),.string ⟨#[10]⟩] W fun e w'=>e=.returned (.tuple #[.string (lb [35,33,106,111,98]),.string (lb (textOf kQ)),.bool true])∧Below W.heap.size W w'):=⟨fun W hb=>(Tryz.strings_Cut (lb ([35,33,106,111,98]++10::textOf kQ)) ⟨#[10]⟩ mm W (by rw[eY];decide) (ak hb HM)).mono fun e w' h=>by
  obtain⟨h,n,rfl⟩:=h;rw[dY,show(⟨#[10]⟩:ByteArray).data.toList=[10]from rfl,nR 10 _ _ (by decide)]at h;exact⟨h,aC (Below.refl _ _) n⟩⟩
 have hT:¬(4096:Int)<(lb ([35,33,106,111,98]++10::textOf kQ)).size:=by rw[eY];decide
 obtain⟨T,Wq⟩:∃T,T=lb ([35,33,106,111,98]++10::textOf kQ):=⟨_,rfl⟩;obtain⟨A,hA⟩:∃A,A=lb [35,33,106,111,98]:=⟨_,rfl⟩;have hA2:(A.toList==[35,33,106,111,98])=true:=by rw[hA,ByteArray.toList_eq,dY];rfl
 rw[←Wq]at CT hT;rw[←hA]at CT;rw[←Wq];have X8:=ah.mk HM;have hmm:=@run_makeMap Tryz.prog;clear HM Wq hA;go_enter Tryz.func59,Tryz.ntmps59;go_wp2_with (go_at_call 103;refine(CT.out _ (au (Below.refl _ _) _)).mono ?_;rintro e w1 ⟨rfl,hb⟩;have H1:ah (Has (w.alloc (.cells eX 51)) w1 []):=⟨(Has.start _).below hb⟩;clear hb;refine ah.out ?_)
 clear CT;have H2:ah (Has (w.alloc (.cells eX 51)) ((w1.alloc (.cells (bH ⟨#[106,111,98]⟩ aU bC 1 3600 false) 51)).alloc (.map #[] 0)) [aF w1.heap.size (.cells (bH ⟨#[106,111,98]⟩ aU bC 1 3600 false) 51),mapA (w1.heap.size+1) Value.string (oK 0)]):=⟨by
  have h:=(H1.out.aZ (.cells (bH ⟨#[106,111,98]⟩ aU bC 1 3600 false) 51)).jW Value.string;rw[show(w1.alloc (.cells (bH ⟨#[106,111,98]⟩ aU bC 1 3600 false) 51)).heap.size=w1.heap.size+1 by simp]at h;exact h⟩
 obtain⟨wA,hwA⟩:∃v,v=w.alloc (.cells eX 51):=⟨_,rfl⟩;have WA:=ah.mk hwA;rw[←hwA]at H2;clear hwA;obtain⟨sb,hsb⟩:∃v,v=w1.heap.size:=⟨_,rfl⟩;obtain⟨mb,hmb⟩:∃v,v=w1.heap.size+1:=⟨_,rfl⟩;obtain⟨rb,hrb⟩:∃v,v=w.heap.size:=⟨_,rfl⟩;rw[←hmb,←hsb]at H2;obtain⟨kb,hkb⟩:∃v,v=((w1.alloc (.cells (bH ⟨#[106,111,98]⟩ aU bC 1 3600 false) 51)).alloc (.map #[] 0)).heap.size:=⟨_,rfl⟩;have HKB:=ah.mk hkb;have H3:=ah.mk (H2.out.aZ (.cells (keysL.map Value.string).toArray 9));rw[←hkb]at H3;have HS:=ah.mk (And.intro hsb (And.intro hmb hrb));have KC:ah (∀(W:World) (kb:Nat),kb=W.heap.size→Calls Tryz.prog 104 #[] W fun e w'=>e=.returned (.slice (some ⟨kb,0,none⟩) 12 12)∧w'=W.alloc (.cells (keysL.map Value.string).toArray 9)):=⟨fun W kb h=>by rw[h];exact wo⟩;clear hsb hmb hrb hkb H2 H1;refine ah.mk ?_;go_wp2_with (go_at_call 104;refine(KC.out _ kb HKB.out).mono ?_;rintro e w4 ⟨rfl,hw4⟩;have H4:ah (Has wA w4 [aF sb (.cells (bH ⟨#[106,111,98]⟩ aU bC 1 3600 false) 51),mapA mb Value.string (oK 0),aF kb (.cells (keysL.map Value.string).toArray 9)]):=⟨by rw[hw4];exact H3.out⟩;clear hw4;refine ah.out ?_)
 obtain⟨hsb,hmb,hrb⟩:=HS.out;rw[←hmb,←hsb,←hrb];have HR:=ah.mk hrb;clear H3 KC HKB HS hsb hmb hrb;refine ah.mk ?_;go_wp2_with fail
 go_loopw [39] (fun i wr=>∃p:Nat,i=.int .i64 (p:Int)∧p≤12∧ah (Has wA wr [aF sb (.cells (bH ⟨#[106,111,98]⟩ aU bC 1 3600 false) 51),mapA mb Value.string (oK p),aF kb (.cells (keysL.map Value.string).toArray 9)])) (fun i _=>12-(intOf i).toNat)
 case atStart=>exact⟨0,rfl,by decide,⟨H4.out⟩⟩
 case round =>
  clear H4;obtain⟨p,rfl,hp,HB⟩:=hrel;have w1:wrap64 ((p:Int)+1)=(p:Int)+1:=wrap_in (by omega) (by omega);by_cases hlt:p<12
  ·obtain⟨kk,hkk⟩:∃kk,keysL[p]?=some kk:=⟨_,List.getElem?_eq_getElem (by show p<12;exact hlt)⟩;have c0:wr.cell? ⟨kb,p,none⟩=some (.string kk):=by
    rw[aj (HB.out.blk 2 rfl)];simp[hkk]
   have e1:(p:Int)<12:=by omega
   obtain⟨w5,xB,h5⟩:=run_store (P:=Tryz.prog) eG HB.out 1 rfl 180 9 4 Tryz.underlying180 Tryz.underlying9 kk (.bool true);have H5:=ah.mk h5;have HK:=ah.mk (yX p kk hkk);clear h5 hkk HB;go_wp2_with fail
   go_roundw
   case rel=>exact⟨p+1,rfl,by omega,⟨by rw[HK.out];exact H5.out⟩⟩
   case measure=>simp[intOf];omega
  ·obtain rfl:p=12:=by omega
   have H4:=ah.mk (HB.out.drop 2);clear HB;have PH:ah (∀W,Calls Tryz.prog 105 #[.string (lb (textOf kQ)),.string ⟨#[35]⟩] W fun e w'=>e=.returned (.bool true)∧w'=W):=⟨fun W=>(Tryz.strings_HasPrefix (lb (textOf kQ)) ⟨#[35]⟩ W).mono fun e w' h=>by rw[dY]at h;exact h⟩;have PS:ah (∀W,Calls Tryz.prog 105 #[.string (lb wP),.string ⟨#[35,83,66,65,84,67,72]⟩] W fun e w'=>e=.returned (.bool true)∧w'=W):=⟨fun W=>(Tryz.strings_HasPrefix (lb wP) ⟨#[35,83,66,65,84,67,72]⟩ W).mono fun e w' h=>by rw[dY]at h;exact h⟩;have hM:=ak (ay (B:=w.heap.size) (au (Below.refl _ _) (.cells eX 51)) (by simp) (by have h:=H4.out.old;rw[WA.out]at h;exact h)) X8.out;have CT:ah (Calls Tryz.prog 103 #[.string (lb (textOf kQ)),.string ⟨#[10]⟩] wr fun e w'=>e=.returned (.tuple #[.string (lb wP),.string (lb []),.bool true])∧Below wr.heap.size wr w'):=⟨(Tryz.strings_Cut (lb (textOf kQ)) ⟨#[10]⟩ mm wr (by rw[eY];decide) hM).mono fun e w' h=>by
    obtain⟨h,n,rfl⟩:=h;rw[dY,show textOf kQ=wP++10::[]from rfl,show(⟨#[10]⟩:ByteArray).data.toList=[10]from rfl,nR 10 _ _ (by decide)]at h;exact⟨h,aC (Below.refl _ _) n⟩⟩
   have OC:ah (∀W,Below wr.heap.size wr W→Calls Tryz.prog 106 #[.pointer (some ⟨sb,0,none⟩),.map (some mb),.string (lb wP)] W fun e w'=>e=.returned (.int .i64 90)∧Has wA w' [aF sb (.cells (bH ⟨#[106,111,98]⟩ aU bC 1 3600 false) 51 (0,0)),mapA mb Value.string (del (oK 12) (lb [115,105,122,101]))]):=⟨fun W hb=>UJ _ _ (H4.out.below hb) (by kernel_rfl) (by rw[WA.out];exact ak (au (Below.refl _ _) (.cells eX 51)) X8.out)⟩;obtain⟨U,hU⟩:∃U,U=lb (textOf kQ):=⟨_,rfl⟩;obtain⟨N,hN⟩:∃N,N=lb wP:=⟨_,rfl⟩;rw[←hU]at PH CT;rw[←hN]at CT PS OC;rw[←hU];clear hU hN hM H4;go_wp2_with fail
   refine wp_loop_rounds 1 ?_;rw[rounds_succ];go_wp2_with (first|(go_at_call 106;have _t:=HC.out;clear _t;refine(OC.out _ HC.out).mono ?_;rintro e w5 ⟨rfl,h5⟩;have H5:=ah.mk h5;clear h5;refine ah.out ?_)|(go_at_call 105;have _t:=HC.out;clear _t;refine(PS.out _).mono ?_;rintro e w' ⟨rfl,hw⟩;obtain rfl:=hw.symm;clear hw)|(go_at_call 103;refine CT.out.mono ?_;rintro e w4 ⟨rfl,hb⟩;have HC:=ah.mk hb;clear hb)|(go_at_call 105;refine(PH.out _).mono ?_;rintro e w' ⟨rfl,hw⟩;obtain rfl:=hw.symm;clear hw))
   have Hf:(Tryz.prog.info? 51).map (·.size)=some eX.size:=by rw[show eX.size=15 from rfl];kernel_rfl
   have Wy:eX.all (·.oneCell')=true:=by simp[eX,Value.oneCell']
   have BR:ah (w5.heap[rb]?=some (.cells eX 51 (0,0))):=⟨by
    have h:=H5.out.old.block rb (by rw[WA.out,HR.out];simp);rw[h,WA.out,HR.out];exact heap_alloc_new w _⟩
   refine ah.mk ?_;go_wp2_with (refine aY rfl 51 (.tmp 2) (.tmp 67) rfl rb eX rfl rfl 51 _ BR.out Hf (by rfl) Wy ?_;refine ah.out ?_)
   refine ah.mk ?_;go_wp2_with fail
   try simp only[Exit.inBlock,Exit.then]
   refine qZ rfl rfl rb eX 51 (0,0) _ rfl (setRow_heap _ rb _ eX 51 (0,0) BR.out) Tryz.underlying51 rfl Hf ?_;rw[←HQ.out];refine⟨rfl,below_setRow (ay (B:=w.heap.size) (au (Below.refl _ _) (.cells eX 51)) (by simp) ?_) (by rw[HR.out];exact Nat.le_refl _) _⟩;have h:=H5.out.old;rw[WA.out]at h;exact h
end
section
variable {w0 w:World}{M:List bW}
set_option maxRecDepth 1000000 in
theorem LJ {x:Nat}{mm:Int}(HM:w.cell? ⟨0,0,none⟩=some (.int .i64 mm))(TT:∀W,Below w.heap.size w W→Tab W):Calls Tryz.prog 29 #[.pointer (some ⟨x,0,none⟩),.string (lb ([35,33,106,111,98]++10::textOf kQ))] w fun e w'=>e=.returned (.string (iO 90))∧Below w.heap.size w w':=by
 refine named fun R HQ=>?_;have PC:=ah.mk (O7 HM);obtain⟨T,hT⟩:∃T,T=lb ([35,33,106,111,98]++10::textOf kQ):=⟨_,rfl⟩;rw[←hT]at PC ⊢;have rQ:=ah.mk TT;have Hf:(Tryz.prog.info? 51).map (·.size)=some eX.size:=by rw[show eX.size=15 from rfl];kernel_rfl
 have Wy:eX.all (·.oneCell')=true:=by simp[eX,Value.oneCell']
 clear hT TT HM;go_enter Tryz.func29,Tryz.ntmps29;go_wp2_with (go_at_call 59;refine PC.out.mono ?_;rintro e w1 ⟨rfl,hb⟩;have H1:=ah.mk hb;clear hb;refine ah.out ?_)
 have H2:=ah.mk (au H1.out (.cells eX 51));have TC:=ah.mk (dQ (w:=w1.alloc (.cells eX 51)) 90 ⟨by decide,by decide⟩ (rQ.out _ H2.out));refine ah.mk ?_;go_wp2_with (first|(go_at_call 27;refine TC.out.mono ?_;rintro e w6 ⟨rfl,hb⟩;have H6:=ah.mk (ay H2.out H2.out.size hb);clear hb)|(refine aB w1.heap.size rfl rfl 51 (.tmp 5) (.tmp 15) rfl eX rfl rfl 51 _ Hf rfl Wy ?_))
 first|go_ret2|go_ret|skip
 rw[←HQ.out];exact⟨rfl,H6.out⟩
set_option maxRecDepth 1000000 in
theorem WB {x:Nat}{pol now:Int}{js:List J}{bk:List Ch}{fl:List Int}{k:Nat}(hS:dF M w0 w x pol now js bk fl k)
 {mm:Int} (HM:w0.cell? ⟨0,0,none⟩=some (.int .i64 mm)) (TT:∀W,Below w0.heap.size w0 W→Tab W) :
 Calls Tryz.prog 11 #[.pointer (some ⟨x,0,none⟩),.string (lb ([115,117,98,109,105,116,10]++([35,33,106,111,98]++10::textOf kQ)))] w fun e w'=>e=.returned (.string (iO 90))∧dF M w0 w' x pol now js bk fl k:=by
 refine named fun R HQ=>?_;have S1:=ah.mk (hS.below (au (Below.refl _ _) (.cells #[.pointer (some ⟨x,0,none⟩)] 23)));have zS:=S1.out.old;have SC:=ah.mk (LJ (w:=w.alloc (.cells #[.pointer (some ⟨x,0,none⟩)] 23)) (x:=x) (ak zS HM) fun W h=>TT W (ay zS zS.size h));obtain⟨l,hl⟩:∃l,l=[35,33,106,111,98]++10::textOf kQ:=⟨_,rfl⟩;rw[←hl]at SC;rw[←hl];have CP:ah (∀W,Calls Tryz.prog 28 #[.string (lb ([115,117,98,109,105,116,10]++l)),.string ⟨#[115,117,98,109,105,116,10]⟩] W fun e w'=>e=.returned (.tuple #[.string (lb l),.bool true])∧w'=W):=⟨fun W=>(Tryz.strings_CutPrefix (lb ([115,117,98,109,105,116,10]++l)) ⟨#[115,117,98,109,105,116,10]⟩ W).mono fun e w' h=>by
  rw[dY,show(⟨#[115,117,98,109,105,116,10]⟩:ByteArray).data.toList=[115,117,98,109,105,116,10]from rfl,(kF _ _).1,(kF _ _).2]at h;exact h⟩
 obtain⟨T,hT⟩:∃T,T=lb ([115,117,98,109,105,116,10]++l):=⟨_,rfl⟩;obtain⟨U,hU⟩:∃U,U=lb l:=⟨_,rfl⟩;rw[←hT,←hU]at CP;rw[←hU]at SC;rw[←hT];clear hl hT hU hS HM TT zS;go_enter Tryz.func11,Tryz.ntmps11;go_wp2_with (go_at_call 28;refine(CP.out _).mono ?_;rintro e w' ⟨rfl,hw⟩;obtain rfl:=hw.symm;clear hw;refine ah.out ?_)
 refine ah.mk ?_;go_wp2_with (go_at_call 29;refine SC.out.mono ?_;rintro e w2 ⟨rfl,hb⟩;have H2:=ah.mk (S1.out.below hb);clear hb)
 first|go_ret2|go_ret|skip
 rw[←HQ.out];exact⟨rfl,H2.out⟩
end
end
end Go.Proofs.YtandhagfhppgaaaGreatDoor
