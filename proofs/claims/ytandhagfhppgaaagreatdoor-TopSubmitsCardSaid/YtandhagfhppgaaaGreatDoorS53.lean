/- What is said is done: a submitted job runs in the least block, in time, or waits; a refused script changes nothing; no job is lost or doubled. No condition. -/
import Derived.Test.YtandhagfhppgaaaGreatDoorS3
import Derived.Test.YtandhagfhppgaaaGreatDoorS4
import Derived.Test.YtandhagfhppgaaaGreatDoorS6
import Derived.Test.YtandhagfhppgaaaGreatDoorS16
import Derived.Test.YtandhagfhppgaaaGreatDoorS45
import Derived.Test.YtandhagfhppgaaaGreatDoorS48
import Derived.Test.YtandhagfhppgaaaGreatDoorS49
import Derived.Test.YtandhagfhppgaaaGreatDoorS52
set_option linter.all false
set_option maxRecDepth 100000
set_option maxHeartbeats 16000000
namespace Go.Proofs.YtandhagfhppgaaaGreatDoor
section
open Go.RowKit Go.ChangeMaps
def uw (now:Int)(s:Spec)(j:J):Prop:=j.s=s∧j.since=now∧(j.how=1∧j.runs=0∨(j.how=3∨j.how=4)∧j.runs=1∧j.started=now∧j.order=(ord s.size:Nat)∧∃b:Nat,j.start=b∧b%2^ord s.size=0)
theorem uw.turned {now:Int}{s:Spec}{js bI:List J}(h:Turned now js bI)(i:Nat){j:J}(hj:js[i]?=some j)(hf:uw now s j):bI.length=js.length∧∃j',bI[i]?=some j'∧uw now s j':=by
 have key:∀ {l:List J} (i':Nat) (u v:J),l[i']?=some u→(uw now s u→uw now s v)→(l.length=js.length∧∃j',l[i]?=some j'∧uw now s j')→(l.set i' v).length=js.length∧∃j',(l.set i' v)[i]?=some j'∧uw now s j':=by
  intro l i' u v hu hv ⟨h1,j',h2,h3⟩;refine⟨by rw[List.length_set];exact h1,?_⟩;by_cases he:i'=i
  ·subst he;rw[hu]at h2;cases h2;exact⟨v,by rw[List.getElem?_set_self (List.getElem?_eq_some_iff.1 hu).1],hv h3⟩
  ·exact⟨j',by rw[List.getElem?_set_ne he];exact h2,h3⟩
 induction h with
 |refl=>exact⟨rfl,j,hj,hf⟩
 |start i' u b hu hw hs hd _ ih =>
  refine key i' u _ hu (fun h=>?_) ih;obtain⟨h1,h2,h3⟩:=h;rcases h3 with⟨_,h4⟩|⟨h4,_⟩
  ·refine⟨h1,h2,.inr ⟨.inl rfl,?_,rfl,by rw[←h1];rfl,b,rfl,by rw[←h1];exact hd⟩⟩;show u.runs+1=1
   omega
  ·omega
 |suspend i' u hu hw _ ih =>
  refine key i' u _ hu (fun h=>?_) ih;obtain⟨h1,h2,h3⟩:=h;obtain⟨e1,e2,e3,e4,e5,e6,e7,e8⟩:=J.gQ u now;rcases h3 with⟨h4,_⟩|⟨_,h4,h5,h6,b,h7,h8⟩
  ·omega
  ·exact⟨e2.trans h1,e4.trans h2,.inr ⟨.inr rfl,e6.trans h4,e5.trans h5,e8.trans h6,b,e7.trans h7,h8⟩⟩
 |resume i' u hu hw _ ih =>
  refine key i' u _ hu (fun h=>?_) ih;obtain⟨h1,h2,h3⟩:=h;rcases h3 with⟨h4,_⟩|⟨_,h4,h5,h6,b,h7,h8⟩
  ·omega
  ·exact⟨h1,h2,.inr ⟨.inl rfl,h4,rfl,h6,b,h7,h8⟩⟩
theorem O8 {now:Int}{s:Spec}{js bI:List J}(h:Turned now (js++[J.new js.length s now]) bI):bI.length=js.length+1∧∃j,bI[js.length]?=some j∧uw now s j:=by
 have:=uw.turned h js.length (aT _ _) ⟨rfl,rfl,.inl ⟨rfl,rfl⟩⟩;rw[List.length_append]at this;exact this
theorem Nl (u:Nat)(h:u<10):Lib.decDigits u=[UInt8.ofNat (48+u)]:=by
 rw[Lib.decDigits,dif_pos (by simpa using h)]
theorem UK (u:Nat)(h:¬u<10):Lib.decDigits u=Lib.decDigits (u/10)++[UInt8.ofNat (48+u%10)]:=by
 rw[Lib.decDigits,dif_neg (by simpa using h)]
theorem Sj (u:Nat):Lib.itoa (u:Int)=Lib.decDigits u:=by
 unfold Lib.itoa;rw[if_neg (by omega)];rfl
theorem y9 {m:Nat}(h:m<100):(⟨(Lib.itoa (m:Int)).toArray⟩:ByteArray)=dD m:=by
 rw[Sj];by_cases h10:m<10
 ·rw[Nl m h10,dD,if_pos h10]
 ·rw[UK m h10,Nl _ (by omega),dD,if_neg h10];rfl
theorem UL {m:Nat}(h:m<22):((⟨#[111,107]⟩:ByteArray)++((⟨#[32]⟩:ByteArray)++⟨(Lib.itoa ((m:Nat):Int)).toArray⟩))=(⟨#[111,107,32]⟩:ByteArray)++dD m:=by
 rw[y9 (by omega),←ByteArray.append_assoc];rfl
theorem Sm:([115,117,98,109,105,116,10]++([35,33,106,111,98]++10::textOf kQ):List UInt8)=[115,117,98,109,105,116,10,35,33,106,111,98,10,35,83,66,65,84,67,72,32,45,45,115,105,122,101,61,48,10]:=by decide
theorem Ii {S:ByteArray}{l:List UInt8}(h:S=⟨l.toArray⟩):(S.toList==l)=true:=by
 rw[h,ByteArray.toList_eq,beq_iff_eq]
theorem WE {S:ByteArray}{l:List UInt8}(h:S≠⟨l.toArray⟩):(S.toList==l)=false:=by
 simp only[beq_eq_false_iff_ne,ne_eq];intro e;rw[ByteArray.toList_eq]at e;exact h (ByteArray.ext (by rw[←e]))
theorem UM (D:ByteArray):((⟨#[111,107,32]⟩:ByteArray)++D)≠⟨#[101,114,114,111,114,32,53]⟩:=by
 intro h;have:=congrArg (fun b:ByteArray=>b.data.toList.head?) h;simp at this
theorem told5:iO 5=⟨#[101,114,114,111,114,32,53]⟩:=by
 unfold iO;rw[if_neg (by decide),show(⟨(Lib.itoa 5).toArray⟩:ByteArray)=dD 5 from y9 (m:=5) (by decide)];rfl
theorem WG:iO 90=⟨#[101,114,114,111,114,32,57,48]⟩:=by
 unfold iO;rw[if_neg (by decide),show(⟨(Lib.itoa 90).toArray⟩:ByteArray)=dD 90 from y9 (m:=90) (by decide)];rfl
theorem GW.same {P:Program}{w:World}{g:GW w}{f:FuncId}{xs:Array Value}{v:Value}(h:Calls P f xs g.W fun e w'=>e=.returned v∧w'=g.W):Calls P f xs g.W fun e w''=>e=.returned v∧∃g':GW w,w''=g'.W :=
 h.mono fun e w' ⟨he,hw⟩=>⟨he,g,hw⟩
theorem O9 {n:Int}(h0:0≤n)(h1:n≤4294967295):IntKind.u32.wrap n=n:=by
 unfold IntKind.wrap;simp[IntKind.signed,IntKind.bits];omega
theorem Ij (sz lim:Int)(ac hi rq:Bool):(lb (dH (moveSpec sz lim ac hi rq).account.data.toList (moveSpec sz lim ac hi rq).qos.data.toList (moveSpec sz lim ac hi rq).size (moveSpec sz lim ac hi rq).limit rq)).size≤400:=by
 have hs:=gG sz lim ac hi rq;have Eu:small (moveSpec sz lim ac hi rq).account:=by
  rcases hs.1 with h|h<;>rw[h]
  ·exact iK
  ·exact jh
 have Ew:small (moveSpec sz lim ac hi rq).qos:=by
  rcases hs.2.1 with h|h<;>rw[h]
  ·exact dW [110,111,114,109,97,108] rfl (by decide) (by decide)
  ·exact dW [104,105,103,104] rfl (by decide) (by decide)
 have:=mP (moveSpec sz lim ac hi rq).account.data.toList (moveSpec sz lim ac hi rq).qos.data.toList (by rw[ni];exact Eu) (by rw[ni];exact Ew) (moveSpec sz lim ac hi rq).size (moveSpec sz lim ac hi rq).limit rq;rw[eY];unfold dH;simp only[List.length_append,List.length_cons,List.length_nil];omega
section
variable {w0 w:World}{M:List bW}
theorem dF.beside {K:List bW}{w1:World}{x:Nat}{pol now:Int}{js:List J}{bk:List Ch}{fl:List Int}{k:Nat}(h:dF [] w0 w x pol now js bk fl k)(hk:Has w w1 K):dF K w0 w1 x pol now js bk fl k:=by
 obtain⟨a,y,m,h1,h2,h3,h4,h5⟩:=h;rw[List.append_nil]at h5;exact⟨a,y,m,h1,h2,h3,h4,h5.more hk⟩
theorem dF.Sr {x:Nat}{pol now:Int}{js:List J}{bk:List Ch}{fl:List Int}{k:Nat}{b:Nat}{o:Obj}(h:dF (aF b o::M) w0 w x pol now js bk fl k):w.heap[b]?=some o:=by
 obtain⟨a,y,m,h1,h2,h3,h4,h5⟩:=h;exact h5.blk 14 rfl
theorem dF.zf {x:Nat}{pol now:Int}{js:List J}{bk:List Ch}{fl:List Int}{k:Nat}(h:dF M w0 w x pol now js bk fl k):Calls Tryz.prog 15 #[.pointer (some ⟨x,0,none⟩)] w fun e w'=>e=.returned (.int .i64 (js.length:Int))∧w'=w:=by
 obtain⟨a,y,m,rfl,h2,h3,h4,H⟩:=h;exact oZ (by rw[aj (H.blk 0 rfl)];rfl) (show w.cell? ⟨a.p,12,none⟩=some (.slice a.jA js.length a.jc) by rw[aj (H.blk 1 rfl)];rfl)
theorem dF.Z5 {x:Nat}{pol now:Int}{js:List J}{bk:List Ch}{fl:List Int}{k:Nat}(h:dF M w0 w x pol now js bk fl k)(i:Nat)(j:J)(hj:js[i]?=some j)(hn:js.length≤1000):Calls Tryz.prog 18 #[.pointer (some ⟨x,0,none⟩),.int .u32 ((i:Int)+1)] w fun e w'=>e=.returned (.tuple #[.agg j.cells,.bool true])∧Below w.heap.size w w':=by
 obtain⟨a,y,m,rfl,h2,h3,h4,H⟩:=h;obtain⟨g,hg,hr⟩:=(fF H 2 rfl).get i j hj;have hi:=(List.getElem?_eq_some_iff.1 hj).1;exact ru (p:=a.p) (g:=g) (n:=js.length) (c:=a.jc) (by rw[aj (H.blk 0 rfl)];rfl) (by rw[aj (H.blk 1 rfl),←hg];rfl) i j hi hn hr
end
end
section
open Go.RowKit Go.ChangeMaps
section
variable {w:World}
set_option maxRecDepth 1000000 in
theorem Aa (policy:Int)(l:List Mv)(A:Option Addr)(cap:Nat)(hA:YK w A l)(sz lim:Int)(ac hi rq:Bool){mm:Int}(HM:w.cell? ⟨0,0,none⟩=some (.int .i64 mm))(TT:∀W,Below w.heap.size w W→Tab W) :
 Calls Tryz.prog 4 #[.int .i64 policy,.slice A l.length cap,.agg #[.int .i64 sz,.int .i64 lim,.bool ac,.bool hi,.bool rq]] w fun e w'=>e=.returned (.bool true)∧Below w.heap.size w w':=by
 refine named fun R HQ=>?_;have hpl:=bY policy (n:=4) (by decide);have p1:wrap64 (1+(bV policy 4:Int))=1+(bV policy 4:Int):=wrap_in (by omega) (by omega);obtain⟨pol,dP⟩:∃pol:Int,pol=1+(bV policy 4:Int):=⟨_,rfl⟩;rw[←dP]at p1;have HP:ah (1≤pol∧pol≤4):=⟨by omega⟩;have e1:1+(bV policy 4:Int)=pol:=dP.symm;have MC:=ah.mk fun W=>cO (w:=W) policy 4 (by decide) (by decide);obtain⟨wB,hwB⟩:∃v,v=w.alloc (.cells #[.int .i64 sz,.int .i64 lim,.bool ac,.bool hi,.bool rq] 38):=⟨_,rfl⟩;have BB:Below w.heap.size w wB:=by rw[hwB];exact au (Below.refl _ _) _
 have hB:wB.heap[w.heap.size]?=some (.cells #[.int .i64 sz,.int .i64 lim,.bool ac,.bool hi,.bool rq] 38):=by rw[hwB];exact heap_alloc_new _ _
 obtain⟨jb,hjb⟩:∃b,b=w.heap.size:=⟨_,rfl⟩;rw[←hjb]at hB;have BX:ah (∀W,Below wB.heap.size wB W→W.cell? ⟨jb,0,none⟩=some (.int .i64 sz)∧W.cell? ⟨jb,1,none⟩=some (.int .i64 lim)∧W.cell? ⟨jb,2,none⟩=some (.bool ac)∧W.cell? ⟨jb,3,none⟩=some (.bool hi)∧W.cell? ⟨jb,4,none⟩=some (.bool rq)):=⟨fun W h=>by
  have h2:=nY h hB;refine⟨?_,?_,?_,?_,?_⟩<;>rw[aj h2]<;>rfl⟩
 have Va:=ah.mk BB;have YP:=ah.mk (ak BB HM);have Yp:ah (∀W,Below wB.heap.size wB W→Tab W):=⟨fun W h=>TT W (ay BB BB.size h)⟩;have PC:=ah.mk (Ep (w:=wB) pol HP.out l A cap ⟨hA.1,fun i m h=>by obtain⟨ad,h1,h2⟩:=hA.2 i m h;exact⟨ad,h1,h2.below BB⟩⟩ YP.out Yp.out);have YI:=ah.mk (And.intro hjb hwB);clear hpl dP hA HM TT BB hB hjb hwB;go_enter Tryz.func4,Tryz.ntmps4;go_wp2_with (first|(go_at_call 14;refine ah.out ?_)|(go_at_call 7;refine(MC.out _).mono ?_;rintro e w' ⟨rfl,hw⟩;obtain rfl:=hw.symm;clear hw))
 rw[←YI.out.2,←YI.out.1];clear MC p1 e1;refine ah.mk ?_;go_wp2_with (go_at_call 14;refine PC.out.mono ?_;rintro e w1 ⟨x,now,js,bk,fl,k,rfl,h1,h2,h3⟩;have B1:=ah.mk h1;have GG:=ah.mk h2;have S1:=ah.mk h3;clear h1 h2 h3;refine ah.out ?_)
 clear PC;obtain⟨ST,hST⟩:∃S,S=LG now js bk fl:=⟨_,rfl⟩;have SC:ah (∀W,dF [] wB W x pol now js bk fl k→Calls Tryz.prog 16 #[.pointer (some ⟨x,0,none⟩)] W fun e w'=>e=.returned (.string ST)∧dF [] wB w' x pol now js bk fl k):=⟨fun W h=>by rw[hST];exact Ig h GG.out (by have:=B1.out.2.1;omega) Yp.out⟩;clear hST;obtain⟨n,hn⟩:∃n,n=js.length:=⟨_,rfl⟩;have HN:=ah.mk hn;have n20:n≤20:=by rw[hn];exact B1.out.2.2
 have NC:ah (∀W,dF [] wB W x pol now js bk fl k→Calls Tryz.prog 15 #[.pointer (some ⟨x,0,none⟩)] W fun e w'=>e=.returned (.int .i64 (n:Int))∧w'=W):=⟨fun W h=>by rw[hn];exact h.zf⟩;clear hn;refine ah.mk ?_;go_wp2_with (first|(go_at_call 16;refine(SC.out _ S1.out).mono ?_;rintro e w2 ⟨rfl,h⟩;have S2:=ah.mk h;clear h;refine ah.out ?_)|(go_at_call 15;refine(NC.out _ S1.out).mono ?_;rintro e w' ⟨rfl,hw⟩;obtain rfl:=hw.symm;clear hw))
 clear S1;obtain⟨E9,Z7⟩:∃E,E=iO 90:=⟨_,rfl⟩;have LC:ah (Calls Tryz.prog 11 #[.pointer (some ⟨x,0,none⟩),.string ⟨#[115,117,98,109,105,116,10,35,33,106,111,98,10,35,83,66,65,84,67,72,32,45,45,115,105,122,101,61,48,10]⟩] w2 fun e w'=>e=.returned (.string E9)∧dF [] wB w' x pol now js bk fl k):=⟨by
  have h:=WB S2.out YP.out Yp.out;rw[Sm,←Z7]at h;exact h⟩
 have q9:(E9.toList==[101,114,114,111,114,32,57,48])=true:=Ii (Z7.trans WG);clear Z7;refine ah.mk ?_;go_wp2_with (first|(go_at_call 16;have _t:=S3.out;clear _t;refine(SC.out _ S3.out).mono ?_;rintro e w4 ⟨rfl,h⟩;have S4:=ah.mk h;clear h;refine ah.out ?_)|(go_at_call 11;refine LC.out.mono ?_;rintro e w3 ⟨rfl,h⟩;have S3:=ah.mk h;clear h))
 clear S2 S3 LC q9;have YQ:=ah.mk fun W=>lD (w:=W) sz lim ac hi rq;have YR:=ah.mk (Ij sz lim ac hi rq);have FIN:=ah.mk (nD [115,117,98,109,105,116,10] (dH (moveSpec sz lim ac hi rq).account.data.toList (moveSpec sz lim ac hi rq).qos.data.toList (moveSpec sz lim ac hi rq).size (moveSpec sz lim ac hi rq).limit rq));obtain⟨T,hT⟩:∃T,T=lb (dH (moveSpec sz lim ac hi rq).account.data.toList (moveSpec sz lim ac hi rq).qos.data.toList (moveSpec sz lim ac hi rq).size (moveSpec sz lim ac hi rq).limit rq):=⟨_,rfl⟩;have DS:ah (∀W,dF [] wB W x pol now js bk fl k→Calls Tryz.prog 11 #[.pointer (some ⟨x,0,none⟩),.string (⟨#[115,117,98,109,105,116,10]⟩++T)] W fun e w'=>(e=.returned (.string (iO 5))∧dF [] wB w' x pol now js bk fl k)∨(e=.returned (.string (⟨#[111,107,32]⟩++dD (n+1)))∧∃bI,Turned now (js++[J.new js.length (moveSpec sz lim ac hi rq) now]) bI∧dF [] wB w' x pol now bI bk fl k)):=⟨fun W h=>by
  have h2:=Bq h HP.out GG.out (by have:=B1.out.1;omega) (by have:=B1.out.2.1;omega) (by have:=B1.out.2.2;omega) YP.out Yp.out (moveSpec sz lim ac hi rq) (gG sz lim ac hi rq);rw[UL (by have:=B1.out.2.2;omega),←HN.out]at h2;rw[hT];have:=FIN.out;rw[show(⟨#[115,117,98,109,105,116,10]⟩:ByteArray)=lb [115,117,98,109,105,116,10]from rfl,this];rw[←HN.out];exact h2⟩
 rw[←hT]at YQ YR;clear hT FIN;have hsz:¬9223372036854775807<7+T.size:=by have:=YR.out;omega
 obtain⟨c0,c1,c2,c3,c4⟩:=BX.out _ S4.out.old;refine ah.mk ?_;go_wp2_with (first|(go_at_call 11;refine ah.out ?_)|(go_at_call 17;refine(YQ.out _).mono ?_;rintro e w5 ⟨rfl,hb⟩;have S5:=ah.mk (S4.out.below hb);clear hb))
 refine ah.mk ?_;go_at_call 11;refine(DS.out _ S5.out).mono ?_;rintro e w6 (⟨rfl,h⟩|⟨rfl,bI,ht,h⟩)
 ·have S6:=ah.mk h;clear h DS S5 YQ YR hsz c0 c1 c2 c3 c4 S4;obtain⟨EE5,Z8⟩:∃E,E=iO 5:=⟨_,rfl⟩;rw[←Z8];have q5:(EE5.toList==[101,114,114,111,114,32,53])=true:=Ii (Z8.trans told5);clear Z8;go_wp2_with (first|(go_at_call 15;have _t:=S7.out;clear _t;refine(NC.out _ S7.out).mono ?_;rintro e w' ⟨rfl,hw⟩;obtain rfl:=hw.symm;clear hw)|(go_at_call 16;refine(SC.out _ S6.out).mono ?_;rintro e w7 ⟨rfl,h⟩;have S7:=ah.mk h;clear h))
  first|go_ret2|go_ret|skip
  rw[←HQ.out];exact⟨rfl,ay Va.out Va.out.size S7.out.old⟩
 have S6:=ah.mk h;obtain⟨hlen,j,hj,hf⟩:=O8 ht;have GJ:=ah.mk ((ht.went bk).sane (GG.out.new (moveSpec sz lim ac hi rq) (gG sz lim ac hi rq) (by have:=B1.out.2.2;omega))).1;rw[←HN.out]at hlen hj;clear h ht DS S5 YQ YR hsz c0 c1 c2 c3 c4 S4 SC NC;obtain⟨D,hD⟩:∃D,D=dD (n+1):=⟨_,rfl⟩;obtain⟨AT,YS⟩:∃S,S=(⟨#[111,107,32]⟩:ByteArray)++D:=⟨_,rfl⟩;have D20:ah (∀W,Calls Tryz.prog 20 #[.int .i64 ((n:Int)+1)] W fun e w'=>e=.returned (.string D)∧Below W.heap.size W w'):=⟨fun W=>by rw[hD];exact bG (n+1) (by omega)⟩;have zDD:¬9223372036854775807<3+D.size:=by have:=iw (n+1);rw[hD];omega
 rw[←hD,←YS];have q5:(AT.toList==[101,114,114,111,114,32,53])=false:=WE (by rw[YS];exact UM _);have HAT:=ah.mk YS;clear hD YS;have v1:wrap64 ((n:Int)+1)=(n:Int)+1:=wrap_in (by omega) (by omega);have v2:IntKind.i64.wrap ((n:Int)+1)=(n:Int)+1:=(kV _).trans v1;have v3:IntKind.u32.wrap ((n:Int)+1)=(n:Int)+1:=O9 (by omega) (by omega);have JC:=ah.mk (S6.out.Z5 n j hj (by omega));have YH:=eP j;have HF:=ah.mk (And.intro hlen hf);clear hj hlen hf;go_wp2_with (first|(refine aB w7.heap.size rfl rfl 55 (.tmp 11) (.tmp 58) rfl j.cells rfl rfl 55 _ YH rfl j.one ?_;refine ah.out ?_)|(go_at_call 18;refine JC.out.mono ?_;rintro e w7 ⟨rfl,hb⟩;have S7:=ah.mk (S6.out.below hb);clear hb))
 obtain⟨Ey,YT⟩:∃b,b=w7.heap.size:=⟨_,rfl⟩;obtain⟨w8,hw8⟩:∃v,v=w7.alloc (.cells j.cells 55):=⟨_,rfl⟩;rw[←YT,←hw8];have S8:ah (dF [aF Ey (.cells j.cells 55)] wB w8 x pol now bI bk fl k):=⟨by rw[hw8,YT];exact S7.out.beside ((Has.start w7).aZ (.cells j.cells 55))⟩;have hh:w8.heap[Ey]?=some (.cells j.cells 55):=by rw[hw8,YT];exact heap_alloc_new _ _
 have NC:ah (∀W,dF [aF Ey (.cells j.cells 55)] wB W x pol now bI bk fl k→Calls Tryz.prog 15 #[.pointer (some ⟨x,0,none⟩)] W fun e w'=>e=.returned (.int .i64 ((n:Int)+1))∧w'=W):=⟨fun W h=>by have:=h.zf;rw[HF.out.1]at this;exact this⟩;have UN:ah (∀W,Below w8.heap.size w8 W→W.heap[Ey]?=some (.cells j.cells 55)):=⟨fun W h=>nY h hh⟩;clear YT hw8 hh S6 S7 JC q5 v3;obtain⟨c0,c1,c2,c3,c4⟩:=BX.out _ S8.out.old;have M8:=ah.mk fun W=>cO (w:=W) sz 8 (by decide) (by decide);have QN:=bY sz (n:=8) (by decide);obtain⟨Xa,hsz1⟩:∃m:Nat,m=1+bV sz 8:=⟨_,rfl⟩;have p8:wrap64 (1+(bV sz 8:Int))=(Xa:Int):=by rw[hsz1];exact(wrap_in (by omega) (by omega)).trans (by omega)
 have p8w:IntKind.i64.wrap (1+(bV sz 8:Int))=(Xa:Int):=(kV _).trans p8;obtain⟨z,hz⟩:∃z,z=2^ord Xa:=⟨_,rfl⟩;obtain⟨q,hq⟩:∃q,q=ord Xa:=⟨_,rfl⟩;have UP:ah (∀W,Calls Tryz.prog 19 #[.int .i64 (Xa:Int)] W fun e w'=>e=.returned (.tuple #[.int .i64 (z:Int),.int .i64 (q:Int)])∧w'=W):=⟨fun W=>by rw[hz,hq];exact Om Xa (by omega) (by omega) W⟩;have Z9:ah (q=ord (moveSpec sz lim ac hi rq).size∧z=2^ord (moveSpec sz lim ac hi rq).size):=⟨by rw[hq,hz,hsz1];exact⟨rfl,rfl⟩⟩;clear hsz1 hz hq QN;refine ah.mk ?_;go_wp2_with (first|(go_at_call 19;refine(UP.out _).mono ?_;rintro e w' ⟨rfl,hw⟩;obtain rfl:=hw.symm;clear hw;refine ah.out ?_)|(go_at_call 7;refine(M8.out _).mono ?_;rintro e w' ⟨rfl,hw⟩;obtain rfl:=hw.symm;clear hw))
 clear M8 UP p8 p8w c0 c1 c2 c3 c4;have M20:=ah.mk fun W=>cO (w:=W) lim 20 (by decide) (by decide);have aac:=bY lim (n:=20) (by decide);obtain⟨l1,hl1⟩:∃m:Nat,m=1+bV lim 20:=⟨_,rfl⟩;have p20:wrap64 (1+(bV lim 20:Int))=(l1:Int):=by rw[hl1];exact(wrap_in (by omega) (by omega)).trans (by omega)
 have aad:IntKind.i64.wrap (1+(bV lim 20:Int))=(l1:Int):=(kV _).trans p20;have c20:∀g:GW w8,g.W.cell? ⟨Ey,20,none⟩=some (.int .i64 (now:Int)):=fun g=>by rw[aj (UN.out _ g.h),←HF.out.2.2.1];rfl
 have c8:∀g:GW w8,g.W.cell? ⟨Ey,8,none⟩=some (.int .i64 (l1:Int)):=fun g=>by
  have e:(j.s.limit:Int)=(l1:Int):=by rw[HF.out.2.1,hl1];rfl
  rw[aj (UN.out _ g.h),←e];rfl
 have cl:∀g:GW w8,g.W.cell? ⟨jb,1,none⟩=some (.int .i64 lim):=fun g=>(BX.out _ (ay S8.out.old S8.out.old.size g.h)).2.1;have NC8:ah (∀g:GW w8,Calls Tryz.prog 15 #[.pointer (some ⟨x,0,none⟩)] g.W fun e w'=>e=.returned (.int .i64 ((n:Int)+1))∧w'=g.W):=⟨fun g=>NC.out _ (S8.out.below g.h)⟩;have NW8:ah (∀g:GW w8,Calls Tryz.prog 13 #[.pointer (some ⟨x,0,none⟩)] g.W fun e w'=>e=.returned (.int .i64 (now:Int))∧w'=g.W):=⟨fun g=>uF _ (S8.out.below g.h).nowAt⟩;have hAD:((⟨#[111,107,32]⟩:ByteArray)++D)=AT:=HAT.out.symm;clear hl1 aac;refine ah.mk ?_;go_wp2_with fail
 refine bZ (by kernel_rfl) (by kernel_rfl) ?_;repeat (go_big_quiet_step (first
  |(go_at_call 20;with_reducible exact GW.calls (D20.out _))|(go_at_call 15;with_reducible exact GW.same (NC8.out _))|(go_at_call 13;with_reducible exact GW.same (NW8.out _))|(go_at_call 7;with_reducible exact GW.same (M20.out _))))
 refine wpQuiet_nil ?_;intro _ hw';obtain⟨g1,rfl⟩:=hw';have S9:=ah.mk (S8.out.below g1.h);have B9:ah (Below w8.heap.size w8 g1.W):=⟨g1.h⟩;clear c20 c8 cl hAD NC8 NW8 M20 p20 aad D20 HAT zDD S8;obtain⟨w9,hw9⟩:∃v,v=g1.W:=⟨_,rfl⟩;rw[←hw9]at S9 B9 ⊢;clear hw9;have Xb:ah (∀g:GW w9,Calls Tryz.prog 13 #[.pointer (some ⟨x,0,none⟩)] g.W fun e w'=>e=.returned (.int .i64 (now:Int))∧w'=g.W):=⟨fun g=>uF _ (S9.out.below g.h).nowAt⟩;have TK:ah (∀W,dF [aF Ey (.cells j.cells 55)] wB W x pol now bI bk fl k→Calls Tryz.prog 11 #[.pointer (some ⟨x,0,none⟩),.string ⟨#[116,105,99,107,32,51]⟩] W fun e w'=>e=.returned (.string (iO 0))∧∃(WI:List J) (Xc:List Ch) (UO:Int),WI.length=n+1∧dF [aF Ey (.cells j.cells 55)] wB w' x pol UO WI Xc fl k):=⟨fun W h=>by
  have ht:Says ⟨#[116,105,99,107,32,51]⟩ [⟨#[116,105,99,107]⟩,dD 3]:=by
   have:=Bv (n:=3) (by decide);rwa [show(⟨#[116,105,99,107,32]⟩++dD 3:ByteArray)=⟨#[116,105,99,107,32,51]⟩from by decide]at this
  have hv:val (dD 3)=3:=jS (by decide);have h1:=Nj h HP.out GJ.out (by have:=B1.out.2.1;omega) YP.out Yp.out _ _ ht (jd (by decide)) (kG (by decide)) (by rw[hv];exact⟨by decide,by decide⟩) (by rw[hv];have:=B1.out.1;omega);rw[hv]at h1;refine h1.mono fun e w' ⟨he,WI,Xc,hm,hs⟩=>⟨he,WI,Xc,_,?_,hs⟩;rw[(hm.sane GJ.out 3 (by have:=B1.out.1;omega)).2];exact HF.out.1⟩
 have hcase:(j.how=1)∨(j.how=3∧j.runs=1∧j.started=now∧j.order=(ord (moveSpec sz lim ac hi rq).size:Nat)∧∃b:Nat,j.start=b∧b%2^ord (moveSpec sz lim ac hi rq).size=0)∨j.how=4:=by
  rcases HF.out.2.2.2 with h|⟨h|h,h2⟩
  ·exact .inl h.1
  ·exact .inr (.inl ⟨h,h2⟩)
  ·exact .inr (.inr h)
 go_wp2_with fail
 rcases hcase with iE|⟨iE,hrest⟩|iE
 ·have Sv:=ah.mk iE;have c19:∀g:GW w9,g.W.cell? ⟨Ey,19,none⟩=some (.int .i64 1):=fun g=>by rw[aj (UN.out _ (ay B9.out B9.out.size g.h)),←iE];rfl
  clear iE;refine bZ (by kernel_rfl) (by kernel_rfl) ?_;repeat (go_big_quiet_step ((go_at_call 13;with_reducible exact GW.same (Xb.out _))))
  refine wpQuiet_nil ?_;intro _ hw';obtain⟨g2,rfl⟩:=hw';have Vb:=ah.mk (S9.out.below g2.h);clear c19  Xb;obtain⟨wA,hwA⟩:∃v,v=g2.W:=⟨_,rfl⟩;rw[←hwA]at Vb ⊢;clear hwA g2;have TC:=ah.mk (TK.out wA Vb.out);go_wp2_with (go_at_call 11;refine TC.out.mono ?_;rintro e Yq ⟨rfl,WI,Xc,UO,Vd,hC⟩;have SCC:=ah.mk hC;have Yr:=ah.mk Vd;clear hC Vd;refine ah.out ?_)
  have Vl:Yq.cell? ⟨Ey,19,none⟩=some (.int .i64 1):=by rw[aj SCC.out.Sr,←Sv.out];rfl
  refine ah.mk ?_;go_wp2_with (go_at_call 15;refine SCC.out.zf.mono ?_;rintro e w' ⟨rfl,hw⟩;rw[Yr.out];obtain rfl:=hw.symm;clear hw)
  first|go_ret2|go_ret|skip
  rw[←HQ.out];exact⟨rfl,ay Va.out Va.out.size SCC.out.old⟩
 ·have Sv:=ah.mk iE;have c19:∀g:GW w9,g.W.cell? ⟨Ey,19,none⟩=some (.int .i64 3):=fun g=>by rw[aj (UN.out _ (ay B9.out B9.out.size g.h)),←iE];rfl
  obtain⟨hr1,hst,hor,sb,hsb,hmd⟩:=hrest;have c21:∀g:GW w9,g.W.cell? ⟨Ey,21,none⟩=some (.int .i64 (now:Int)):=fun g=>by rw[aj (UN.out _ (ay B9.out B9.out.size g.h)),←hst];rfl
  have Yx:∀g:GW w9,g.W.cell? ⟨Ey,22,none⟩=some (.int .i64 1):=fun g=>by rw[aj (UN.out _ (ay B9.out B9.out.size g.h)),←hr1];rfl
  have c24:∀g:GW w9,g.W.cell? ⟨Ey,24,none⟩=some (.int .i64 (sb:Int)):=fun g=>by rw[aj (UN.out _ (ay B9.out B9.out.size g.h)),←hsb];rfl
  have c25:∀g:GW w9,g.W.cell? ⟨Ey,25,none⟩=some (.int .i64 (q:Int)):=fun g=>by rw[aj (UN.out _ (ay B9.out B9.out.size g.h)),Z9.out.1,←hor];rfl
  have hmod:Int.tmod (sb:Int) (z:Int)=0:=by
   have : Int.tmod (sb:Int) (z:Int)=((sb%z:Nat):Int):=(Int.ofNat_tmod sb z).symm;rw[this,Z9.out.2,hmd];rfl
  have hpos:¬(z:Int)=0:=by
   have : 0<2^ord (moveSpec sz lim ac hi rq).size:=Nat.pos_of_ne_zero (by simp);have:=Z9.out.2;omega
  clear hr1 hst hor hsb hmd;clear iE;refine bZ (by kernel_rfl) (by kernel_rfl) ?_;repeat (go_big_quiet_step ((go_at_call 13;with_reducible exact GW.same (Xb.out _))))
  refine wpQuiet_nil ?_;intro _ hw';obtain⟨g2,rfl⟩:=hw';have Vb:=ah.mk (S9.out.below g2.h);clear c19 c21 Yx c24 c25 Xb;obtain⟨wA,hwA⟩:∃v,v=g2.W:=⟨_,rfl⟩;rw[←hwA]at Vb ⊢;clear hwA g2;have TC:=ah.mk (TK.out wA Vb.out);go_wp2_with (go_at_call 11;refine TC.out.mono ?_;rintro e Yq ⟨rfl,WI,Xc,UO,Vd,hC⟩;have SCC:=ah.mk hC;have Yr:=ah.mk Vd;clear hC Vd;refine ah.out ?_)
  have Vl:Yq.cell? ⟨Ey,19,none⟩=some (.int .i64 3):=by rw[aj SCC.out.Sr,←Sv.out];rfl
  refine ah.mk ?_;go_wp2_with (go_at_call 15;refine SCC.out.zf.mono ?_;rintro e w' ⟨rfl,hw⟩;rw[Yr.out];obtain rfl:=hw.symm;clear hw)
  first|go_ret2|go_ret|skip
  rw[←HQ.out];exact⟨rfl,ay Va.out Va.out.size SCC.out.old⟩
 ·have Sv:=ah.mk iE;have c19:∀g:GW w9,g.W.cell? ⟨Ey,19,none⟩=some (.int .i64 4):=fun g=>by rw[aj (UN.out _ (ay B9.out B9.out.size g.h)),←iE];rfl
  clear iE;refine bZ (by kernel_rfl) (by kernel_rfl) ?_;repeat (go_big_quiet_step ((go_at_call 13;with_reducible exact GW.same (Xb.out _))))
  refine wpQuiet_nil ?_;intro _ hw';obtain⟨g2,rfl⟩:=hw';have Vb:=ah.mk (S9.out.below g2.h);clear c19  Xb;obtain⟨wA,hwA⟩:∃v,v=g2.W:=⟨_,rfl⟩;rw[←hwA]at Vb ⊢;clear hwA g2;have TC:=ah.mk (TK.out wA Vb.out);go_wp2_with (go_at_call 11;refine TC.out.mono ?_;rintro e Yq ⟨rfl,WI,Xc,UO,Vd,hC⟩;have SCC:=ah.mk hC;have Yr:=ah.mk Vd;clear hC Vd;refine ah.out ?_)
  have Vl:Yq.cell? ⟨Ey,19,none⟩=some (.int .i64 4):=by rw[aj SCC.out.Sr,←Sv.out];rfl
  refine ah.mk ?_;go_wp2_with (go_at_call 15;refine SCC.out.zf.mono ?_;rintro e w' ⟨rfl,hw⟩;rw[Yr.out];obtain rfl:=hw.symm;clear hw)
  first|go_ret2|go_ret|skip
  rw[←HQ.out];exact⟨rfl,ay Va.out Va.out.size SCC.out.old⟩
end
end
section
open Go.ChangeShapes Go.WideShapes Go.ChangeAt Go.RowKit Go.Deep
theorem aaj:∀(cs:List Value),cs.length=5→∃a b c d e,cs=[a,b,c,d,e]
 |[a,b,c,d,e],_=>⟨a,b,c,d,e,rfl⟩
theorem Io {H:Type}{enc:TypeId×Value→H}{w:World}{base:Nat}{held:Bool}{fuel:Nat}{x:DataW H×List MemPlace}{cs:List Value}(hl:cs.length=5)(h:DataW.trod enc Tryz.prog w base (fun _=>true) held fuel 38 cs=some x):∃(sz lim:Int) (ac hi rq:Bool),cs=[.int .i64 sz,.int .i64 lim,.bool ac,.bool hi,.bool rq]:=by
 have e3:Tryz.prog.cellsOf 3=1:=by kernel_rfl
 have e4:Tryz.prog.cellsOf 4=1:=by kernel_rfl
 obtain⟨v2,v3,v4,v5,v6,rfl⟩:=aaj cs hl;obtain⟨xs,n2,_,_,_,hl5,hf⟩:=DataW.trod_struct Tryz.underlying38 h;match xs,hl5 with
 |[z0,z1,z2,z3,z4],_ =>
  have f0:=hf 0 _ rfl;have f1:=hf 1 _ rfl;have f2:=hf 2 _ rfl;have f3:=hf 3 _ rfl;have f4:=hf 4 _ rfl;simp[e3,e4]at f0 f1 f2 f3 f4;obtain⟨sz,q2,_,_⟩:=DataW.trod_int Tryz.underlying3 f0;obtain⟨lim,q3,_,_⟩:=DataW.trod_int Tryz.underlying3 f1;obtain⟨ac,q4,_⟩:=DataW.trod_bool Tryz.underlying4 f2;obtain⟨hi',q5,_⟩:=DataW.trod_bool Tryz.underlying4 f3;obtain⟨rq,q6,_⟩:=DataW.trod_bool Tryz.underlying4 f4;simp at q2 q3 q4 q5 q6;exact⟨sz,lim,ac,hi',rq,by rw[q2,q3,q4,q5,q6]⟩
theorem Es {W:World}(h:laidMetH Tryz.prog Rows.topSubmitsRow.laid W):Tab W:=Il h
namespace topSubmits
open Go.ChangeShapes Go.WideShapes Go.ChangeAt Go.RowKit
open Go.ChangeMaps (open_string shut_string)
theorem lifted (os:Os)(started:os.Started)(H:Type)(enc:TypeId×Value→H) :
 ReturnsInHanded {} Tryz.checked os 4 .any (fun w args=>(Rows.topSubmitsSpec.pre enc Tryz.prog Tryz.f4 Rows.topSubmitsRow.domain false w args∧laidMetH Tryz.prog Rows.topSubmitsRow.laid w)∧sizedMet enc Tryz.prog Tryz.f4 (OpenSpec.ofChange Rows.topSubmitsSpec) false w args)
  (Rows.topSubmitsSpec.post enc Tryz.prog Tryz.f4 false true false false):=by
 refine returnsInHanded_of_calls (C:=Tryz.checked) Yt started (by kernel_rfl)
  (ChangeSpec.witness_shaped (enc:=enc) (C:=Tryz.checked) (os:=os) (fn:=Tryz.f4) (s:=Rows.topSubmitsSpec) (conds:=Rows.topSubmitsRow.domain) (apart:=false) (X:=fun w _=>laidMetH Tryz.prog Rows.topSubmitsRow.laid w) false (World.laidAll Tryz.prog os Rows.topSubmitsRow.laid) #[.int .i64 0,.slice none 0 0,.agg #[.int .i64 0,.int .i64 0,.bool false,.bool false,.bool false]] 8 (World.laidAll_os _ _ _)
   (World.shaped_of_ZipB (by kernel_rfl) (by kernel_rfl)) (by kernel_rfl) (by kernel_rfl) (by kernel_rfl)
   (by rw[MakeChecks.laidMetH_plain _ _ _ (by kernel_rfl)];exact laidMet_laidAll _ (by kernel_rfl) (by kernel_rfl))) ?_
 intro w0 tape i0 _ hsh _ hok hpre _;obtain⟨_,_,_,fn',hfn',_,_,_,_,hval0⟩:=hok;obtain rfl:fn'=Tryz.f4:=Option.some.inj (hfn'.symm.trans Tryz.func4);obtain⟨⟨⟨ds,gs,before,hw0,_⟩,hx⟩,_⟩:=hpre;have hw1:=DataW.Whole.of_heap (w':=w0.forCall tape i0) (by rfl) hw0;have hL:laidMetH Tryz.prog Rows.topSubmitsRow.laid (w0.forCall tape i0):=hx.of_heap (by rfl);suffices HS:Calls Tryz.prog 4 i0.args (w0.forCall tape i0) fun e W'=>∃v,e=.returned v∧Rows.topSubmitsSpec.post enc Tryz.prog Tryz.f4 false true false false (w0.forCall tape i0) i0.args v W' by
  refine HS.mono fun e W' ⟨v,he,hp⟩=>?_;subst he;exact ChangeSpec.post_blind hp
 generalize w0.forCall tape i0=W at hsh hval0 hw1 hL ⊢
 generalize i0.args=args at hval0 hw1 ⊢
 have hval:∀(j:Nat) t v,Tryz.f4.params[j]?=some t→args[j]?=some v→Value.okWide Tryz.prog W .any _ t v:=hval0;have hW':=hw1;obtain⟨p,q,hA0,hV,rfl,hfz,hnd⟩:=hw1;have hA:DataW.TrodAll enc Tryz.prog W 0 (fun _=>true) true Tryz.f4.params.toList args.toList ds p:=hA0;rw[Tryz.params4]at hA hval;obtain⟨v0,vs0,d0,ds0,p0,q0,hargs,rfl,rfl,h0,r0⟩:=trodAll_cons hA;obtain⟨v1,vs1,d1,ds1,p1,q1,rfl,rfl,rfl,h1,r1⟩:=trodAll_cons r0;obtain⟨v2,vs2,d2,ds2,p2,q2,rfl,rfl,rfl,h2,r2⟩:=trodAll_cons r1;obtain⟨rfl,rfl,rfl⟩:=trodAll_nil r2;obtain rfl:args=#[v0,v1,v2]:=by cases args;simp_all
 obtain⟨rfl,rfl⟩:=trodVars_none hV;obtain⟨a0,rfl,rfl,rfl,w0⟩:=open_int Tryz.underlying3 (hval 0 3 v0 rfl rfl) h0;obtain⟨a1,len1,cap1,rfl⟩:=okWide_slice Tryz.underlying22 (hval 1 22 v1 rfl rfl);obtain⟨cs,rfl,hcs⟩:=okWide_struct Tryz.underlying38 (hval 2 38 v2 rfl rfl);have k1:=h1;have lt1:∀x∈p1,x.block<W.heap.size:=by obtain⟨m,hm⟩:=k1;exact DataW.trod_lt m _ _ _ hm
 have k2:=h2;have lt2:∀x∈p2,x.block<W.heap.size:=by obtain⟨m,hm⟩:=k2;exact DataW.trod_lt m _ _ _ hm
 obtain⟨x1,e1,b1⟩:∃x:List Mv,len1=x.length∧YK W a1 x:=by
  obtain⟨fuel,hf⟩:=h1;exact Ik (by simpa[Value.cells]using hf)
 have e38:Tryz.prog.cellsOf 38=5:=by kernel_rfl
 obtain⟨sz,lim,ac,hi,rq,ecs⟩:∃(sz lim:Int) (ac hi rq:Bool),cs=#[.int .i64 sz,.int .i64 lim,.bool ac,.bool hi,.bool rq]:=by
  obtain⟨fuel,hf⟩:=h2;obtain⟨sz,lim,ac,hi,rq,e⟩:=Io (cs:=cs.toList) (by rw[←e38,←hcs];rfl) (by simpa[Value.cells]using hf);exact⟨sz,lim,ac,hi,rq,by cases cs;simpa using e⟩
 subst e1 ecs;clear hA0 hval0;obtain⟨mm,HM⟩:=Pg hsh;have TT:=Es hL;refine(Aa a0 x1 a1 cap1 b1 sz lim ac hi rq HM fun W2 hb=>tab_below TT hb).mono fun e W' ⟨he,bel⟩=>?_;subst he;exact⟨_,rfl,_,_,_,[],_,[],hW',trodAll_mk1 (shut_bool Tryz.underlying4 _),(trodAll_cons_mk (shut_int Tryz.underlying3 w0) (trodAll_cons_mk (Below.trod laidOut (by kernel_rfl) (of_decide_eq_true (by kernel_rfl)) k1 bel lt1) (trodAll_cons_mk (Below.trod laidOut (by kernel_rfl) (of_decide_eq_true (by kernel_rfl)) k2 bel lt2) trodAll_mk0))),rfl,bel.frame _,fun h=>by cases h⟩
theorem over:Rows.TopSubmitsSaid :=
 OpenClaim.holds_of_wide 4 Tryz.f4 rfl rfl rfl rfl rfl rfl rfl ⟨rfl,rfl,rfl,rfl,rfl⟩ rfl rfl rfl rfl rfl UQ Tryz.func4 SH
  (of_decide_eq_true (by kernel_rfl)) (by unfold Func.isWrapper;first|(rw[if_pos (by decide +kernel)];kernel_rfl)|(rw[if_neg (by decide +kernel)];exact⟨rfl,rfl⟩))
  (fun os started H enc _=>lifted os started H enc)
end topSubmits
end
section
theorem topSubmits_holds:Rows.TopSubmitsCardSaid :=
 Claim7.holds_tied_plain_at .later [] [.data,.data,.data,.data,.pinned] true (true,"a9414e422898caab89ed97ee7844babe24d4d94e6468459f9858390815273d3f") true topSubmits.over (fun _ h=>by cases h) YU (fun _ h=>by cases h) topSubmits_row_tie rfl ⟨rfl,rfl⟩ Xd rfl
  (fun f fn hf hfn=>by
   obtain rfl:f=4:=(Option.some.inj (UQ.symm.trans hf)).symm;obtain rfl:fn=Tryz.f4:=(Option.some.inj (Tryz.func4.symm.trans hfn)).symm;exact⟨Ve,fun j t ht=>by
    rw[Tryz.params4]at ht;have hm:t∈[3,22,38]:=by simpa using Array.mem_of_getElem? ht
    exact(show Tryz.prog.wantsStandIn t=false by simpa using List.all_eq_true.1 Vf t hm)⟩)
  Xe
#print axioms topSubmits_holds
end
end Go.Proofs.YtandhagfhppgaaaGreatDoor
