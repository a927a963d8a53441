/- No second is lost: under whichever policy, what was charged and what those that run have run is together what running jobs held. No condition. -/
import Derived.Test.YtandhagfhppgaaaGreatDoorK3
import Derived.Test.YtandhagfhppgaaaGreatDoorK4
import Derived.Test.YtandhagfhppgaaaGreatDoorK5
import Derived.Test.YtandhagfhppgaaaGreatDoorG47
set_option linter.all false
set_option maxRecDepth 100000
set_option maxHeartbeats 16000000
namespace Go.Proofs.YtandhagfhppgaaaGreatDoor
section
open Go.RowKit Go.ChangeMaps
section
variable {w:World}
set_option maxRecDepth 1000000 in
theorem Aj (policy:Int)(l:List Mv)(A:Option Addr)(cap:Nat)(hA:ZE w A l){mm:Int}(HM:w.cell? ⟨0,0,none⟩=some (.int .i64 mm))(TT:∀W,Below w.heap.size w W→Tab W) :
 Calls Tryz.prog 3 #[.int .i64 policy,.slice A l.length cap] w fun e w'=>e=.returned (.bool true)∧Below w.heap.size w w':=by
 refine named fun R HQ=>?_;have MC:=ah.mk (cZ (w:=w) policy 4 (by decide) (by decide));have hpl:=dh policy (n:=4) (by decide);have p1:wrap64 (1+(cu policy 4:Int))=1+(cu policy 4:Int):=wrap_in (by omega) (by omega);obtain⟨pol,dK⟩:∃pol:Int,pol=1+(cu policy 4:Int):=⟨_,rfl⟩;rw[←dK]at p1;have HP:ah (1≤pol∧pol≤4):=⟨by omega⟩;have CC:=ah.mk fun W=>Hz (w:=W) pol;have HMV:=ah.mk hA;have HH:=ah.mk (And.intro HM TT);have HPOL:=ah.mk dK;have e1:1+(cu policy 4:Int)=pol:=dK.symm;have MC2:=MC;clear hpl dK hA HM TT MC2;go_enter Tryz.func3,Tryz.ntmps3;go_wp2_with (first|(go_at_call 7;refine MC.out.mono ?_;rintro e w' ⟨rfl,hw⟩;obtain rfl:=hw.symm;clear hw)|(go_at_call 6;refine(CC.out _).mono ?_;rintro e w1 ⟨pb,cb,ab,rfl,h1⟩;have H1:=ah.mk h1;clear h1;refine ah.out ?_))
 have NC:=ah.mk (Lj (pc:=1) (cc:=2) (ac:=2) H1.out HP.out.1 HP.out.2);clear CC MC;refine ah.mk ?_;go_wp2_with (go_at_call 5;refine NC.out.mono ?_;rintro e w2 ⟨x,rfl,h2⟩;have S2:=ah.mk h2.stM;clear h2;refine ah.out ?_)
 clear NC H1 e1 p1;refine ah.mk ?_;go_wp2_with fail
 go_loopw [7,8] (fun s7 s8 wr=>∃(i:Nat) (tot:Int) (now:Nat) (js:List J) (bk:List Ch) (fl:List Int) (k:Nat),s7=.int .i64 tot∧s8=.int .i64 (i:Int)∧i≤20∧now≤20*i∧k≤i∧js.length≤i∧0≤tot∧tot≤200*(now:Int)∧ah (tot=paid bk+pays js now∧dJ now js bk∧dL [] w wr x pol now js bk fl k)) (fun _ s8 _=>20-(intOf s8).toNat)
 case atStart=>exact⟨0,0,0,[],[],[],0,rfl,rfl,by decide,by decide,by decide,by simp,by decide,by decide,⟨by simp[paid,pays],⟨by decide,by decide,by simp,fun k j h=>by simp at h,fun c h=>by simp at h,by simp[Az,vP]⟩,S2.out⟩⟩
 case round =>
  clear S2;obtain⟨i,tot,now,js,bk,fl,k,rfl,rfl,hi,dB,hk,hjl,ht0,ht1,HB⟩:=hrel;have WI:=ah.mk (wrap_in (n:=(i:Int)+1) (by omega) (by omega));by_cases hlt:i<l.length∧i<20
  ·obtain⟨mv,hmv⟩:∃mv,l[i]?=some mv:=⟨_,List.getElem?_eq_getElem hlt.1⟩;obtain⟨ad,hA,hat⟩:=HMV.out.2 i mv hmv;subst hA;obtain⟨kd,nn,sz,lim,ac,hh,rq⟩:=mv;obtain⟨T,hT,hK⟩:=LV kd nn sz lim ac hh rq;have Yl:=ah.mk fun(W:World) (hb:Below w.heap.size w W)=>hat.below hb;have hold:=HB.out.2.2.old;have AT:=ah.mk (Yl.out _ hold);have i1:(i:Int)<l.length:=by omega
   have i2:(i:Int)<20:=by omega
   have i0:¬(i:Int)<0:=by omega
   have h40:(Tryz.prog.info? 40).map (·.size)=some (Mv.cells ⟨kd,nn,sz,lim,ac,hh,rq⟩).size:=by rw[show(Mv.cells ⟨kd,nn,sz,lim,ac,hh,rq⟩).size=7 from rfl];kernel_rfl
   have CM:=ah.mk hT;have KK:=ah.mk hK;clear hT hK hat hmv hold;go_wp2_with (first|(refine Ai rfl 40 (.tmp 46) rfl (ad.add (i*7)) rfl (Mv.cells ⟨kd,nn,sz,lim,ac,hh,rq⟩) _ AT.out Tryz.underlying40 rfl h40 ?_)|(go_at_call 8;refine(CM.out _).mono ?_;rintro e w3 ⟨rfl,hb⟩;have S3:=ah.mk (HB.out.2.2.below hb);clear hb;refine ah.out ?_))
   have at3:=Yl.out _ S3.out.old;have k0:w3.cell? (ad.add (i*7))=some (.int .i64 kd):=by have:=at3 0 _ rfl;simpa[Addr.add]using this
   have k1:w3.cell? ⟨(ad.add (i*7)).block,(ad.add (i*7)).off+1,none⟩=some (.int .i64 nn):=by have:=at3 1 _ rfl;simpa[Addr.add]using this
   have GT:=ah.mk (And.intro HB.out.1 HB.out.2.1);clear at3 AT CM HB;by_cases hk3:kd=3∨kd=4
   ·have g3:(kd==3)=true∨((kd==3)=false∧(kd==4)=true):=by rcases hk3 with h|h<;>subst h<;>simp
    have MN:=ah.mk fun W=>cZ (w:=W) nn 20 (by decide) (by decide);have ZG:=dh nn (n:=20) (by decide);obtain⟨n20,Ym⟩:∃z,z=cu nn 20:=⟨_,rfl⟩;rw[←Ym]at MN ZG;clear Ym;have wn:wrap64 (1+(n20:Int))=1+(n20:Int):=wrap_in (by omega) (by omega);refine ah.mk ?_;rcases g3 with g3|⟨g3,g4⟩
    ·go_wp2_with (go_at_call 7;refine(MN.out _).mono ?_;rintro e w' ⟨rfl,hw⟩;obtain rfl:=hw.symm;clear hw)
     have B3:=ah.mk S3.out;clear S3 k0 k1 MN wn;go_loopw [7,11] (fun s7 s11 wr=>∃(c:Nat) (tt:Int) (bG:List J) (bk':List Ch),s7=.int .i64 tt∧s11=.int .i64 (c:Int)∧c≤1+n20∧bG.length≤i∧0≤tt∧tt≤200*((now+c:Nat):Int)∧ah (tt=paid bk'+pays bG ((now+c:Nat):Int)∧dJ ((now+c:Nat):Int) bG bk'∧dL [] w wr x pol ((now+c:Nat):Int) bG bk' fl k)) (fun _ s11 _=>25-(intOf s11).toNat)
     case atStart =>
      refine⟨0,tot,js,bk,rfl,rfl,Nat.zero_le _,hjl,ht0,?_,⟨?_,?_,?_⟩⟩<;>rw[Nat.add_zero]
      ·exact ht1
      ·exact GT.out.1
      ·exact GT.out.2
      ·exact B3.out
     case round =>
      clear B3;obtain⟨c,tt,l7,bk1,rfl,rfl,hc,WE,hu0,hu1,HC⟩:=hrel;have WC:=ah.mk (wrap_in (n:=(c:Int)+1) (by omega) (by omega));by_cases hlc:c<1+n20
      ·have i3:=lc1 hlc;have JC:=ah.mk (kY HC.out.2.2 (by omega));go_wp2_with (go_at_call 9;refine JC.out.mono ?_;rintro e w4 ⟨A4,c4,rfl,h4⟩;have S4:ah (dL [aO (.slice A4 l7.length c4) l7] w w4 x pol ((now+c:Nat):Int) l7 bk1 fl k):=⟨h4⟩;clear h4)
       clear JC;have RJ:=ah.mk S4.out.ED;go_loopw [7,13] (fun s7 s13 wq=>∃(a:Nat) (ld:Int),s7=.int .i64 (tt+ld)∧s13=.int .i64 (a:Int)∧a≤l7.length∧0≤ld∧ld≤8*(a:Int)∧wq=w4∧ah (ld=loads (l7.take a))) (fun _ s13 _=>500-(intOf s13).toNat)
       case atStart=>exact⟨0,0,by simp,rfl,Nat.zero_le _,by decide,by decide,rfl,⟨by simp[loads]⟩⟩
       case round =>
        obtain⟨a,ld,rfl,rfl,ha,hl0,hl1,rfl,HL⟩:=hrel;have WA:=ah.mk (wrap_in (n:=(a:Int)+1) (by omega) (by omega));by_cases hla:a<l7.length
        ·obtain⟨j,hj⟩:∃j,l7[a]?=some j:=⟨_,List.getElem?_eq_getElem hla⟩;obtain⟨g,WG,hr⟩:=RJ.out.get a j hj;have hw:=hr 19 _ rfl;have ho:=hr 25 _ rfl;have JO:=ah.mk (HC.out.2.1.jobs a j hj);have HJ:=ah.mk hj;have ia:(a:Int)<l7.length:=by omega
         clear hr hj;subst WG;by_cases hh3:j.how=3
         ·have b3:(j.how==3)=true:=by simpa using hh3
          obtain⟨q,hq⟩:∃q,q=ord j.s.size:=⟨_,rfl⟩;have hor:j.order=(q:Int):=by rw[hq];exact(JO.out.block (.inl hh3)).1
          have hq3:q≤3:=by rw[hq];exact(jh JO.out.spec.2.2.1 JO.out.spec.2.2.2.1).1
          rw[hor]at ho;have SZ:=ah.mk fun W=>kN (w:=W) q hq3;obtain⟨z,hz⟩:∃z:Nat,z=2^q:=⟨_,rfl⟩;have Yn:z≤8:=by rw[hz];rcases(by omega:q=0∨q=1∨q=2∨q=3)with h|h|h|h<;>rw[h]<;>decide
          have WJ:ah (j.load=(z:Int)):=⟨by unfold J.load;rw[if_pos hh3,hor,hz,show((q:Nat):Int).toNat=q from rfl];simp⟩;rw[←hz]at SZ;have wz:=wrap_in (n:=tt+ld+(z:Int)) (by omega) (by omega);have wz2:=(eu _).trans wz;clear hz hq hor hh3 hq3;have wa:=WA.out;have Am:=(eu _).trans wa;go_wp2_with (go_at_call 10;refine(SZ.out _).mono ?_;rintro e w' ⟨rfl,hw'⟩;obtain rfl:=hw'.symm;clear hw')
          go_roundw
          case rel=>clear wa wz Am wz2;exact⟨a+1,ld+z,by rw[←Int.add_assoc],rfl,by omega,by omega,by omega,by first|rfl|trivial,⟨by rw[oO HJ.out,←HL.out,WJ.out]⟩⟩
          case measure=>(try clear wa Am);(try clear wz wz2);(try clear wc SA);(try clear wi Ik);simp[intOf];omega
         ·have b3:(j.how==3)=false:=by simpa using hh3
          have WJ:ah (j.load=0):=⟨by unfold J.load;rw[if_neg hh3]⟩;clear hh3;have wa:=WA.out;have Am:=(eu _).trans wa;go_wp2_with fail
          go_roundw
          case rel=>clear wa Am;exact⟨a+1,ld,rfl,rfl,by omega,by omega,by omega,by first|rfl|trivial,⟨by rw[oO HJ.out,←HL.out,WJ.out];omega⟩⟩
          case measure=>(try clear wa Am);(try clear wz wz2);(try clear wc SA);(try clear wi Ik);simp[intOf];omega
        ·obtain rfl:a=l7.length:=by omega
         have TC:=ah.mk (wM S4.out HP.out HC.out.2.1 (by omega) (by omega) HH.out.1 HH.out.2);have HL2:ah (ld=loads l7):=⟨by rw[HL.out,List.take_length]⟩;clear HL;have wc:=WC.out;have SA:=(eu _).trans wc;go_wp2_with (go_at_call 11;refine TC.out.mono ?_;rintro e w5 ⟨sx,jo,bk2,rfl,g5,SH,l5,s5⟩;have S5:=ah.mk (And.intro g5 (And.intro SH (And.intro l5 s5.drop1)));clear g5 SH l5 s5)
         go_roundw
         case rel=>clear wc SA;exact⟨c+1,tt+ld,jo,bk2,rfl,rfl,by omega,by rw[S5.out.2.2.1];exact WE,by omega,by omega,⟨by rw[HC.out.1,HL2.out];exact S5.out.2.1.symm,S5.out.1,S5.out.2.2.2⟩⟩
         case measure=>(try clear wa Am);(try clear wz wz2);(try clear wc SA);(try clear wi Ik);simp[intOf];omega
      ·have i3:=lc2 hlc;have wi:=WI.out;have Ik:=(eu _).trans wi;go_wp2_with fail
       go_roundw
       case rel=>clear wi Ik;exact⟨i+1,tt,now+c,l7,bk1,fl,k,rfl,rfl,by omega,by omega,by omega,by omega,hu0,hu1,HC⟩
       case measure=>(try clear wa Am);(try clear wz wz2);(try clear wc SA);(try clear wi Ik);simp[intOf];omega
    ·go_wp2_with (go_at_call 7;refine(MN.out _).mono ?_;rintro e w' ⟨rfl,hw⟩;obtain rfl:=hw.symm;clear hw)
     have B3:=ah.mk S3.out;clear S3 k0 k1 MN wn;go_loopw [7,11] (fun s7 s11 wr=>∃(c:Nat) (tt:Int) (bG:List J) (bk':List Ch),s7=.int .i64 tt∧s11=.int .i64 (c:Int)∧c≤1+n20∧bG.length≤i∧0≤tt∧tt≤200*((now+c:Nat):Int)∧ah (tt=paid bk'+pays bG ((now+c:Nat):Int)∧dJ ((now+c:Nat):Int) bG bk'∧dL [] w wr x pol ((now+c:Nat):Int) bG bk' fl k)) (fun _ s11 _=>25-(intOf s11).toNat)
     case atStart =>
      refine⟨0,tot,js,bk,rfl,rfl,Nat.zero_le _,hjl,ht0,?_,⟨?_,?_,?_⟩⟩<;>rw[Nat.add_zero]
      ·exact ht1
      ·exact GT.out.1
      ·exact GT.out.2
      ·exact B3.out
     case round =>
      clear B3;obtain⟨c,tt,l7,bk1,rfl,rfl,hc,WE,hu0,hu1,HC⟩:=hrel;have WC:=ah.mk (wrap_in (n:=(c:Int)+1) (by omega) (by omega));by_cases hlc:c<1+n20
      ·have i3:=lc1 hlc;have JC:=ah.mk (kY HC.out.2.2 (by omega));go_wp2_with (go_at_call 9;refine JC.out.mono ?_;rintro e w4 ⟨A4,c4,rfl,h4⟩;have S4:ah (dL [aO (.slice A4 l7.length c4) l7] w w4 x pol ((now+c:Nat):Int) l7 bk1 fl k):=⟨h4⟩;clear h4)
       clear JC;have RJ:=ah.mk S4.out.ED;go_loopw [7,13] (fun s7 s13 wq=>∃(a:Nat) (ld:Int),s7=.int .i64 (tt+ld)∧s13=.int .i64 (a:Int)∧a≤l7.length∧0≤ld∧ld≤8*(a:Int)∧wq=w4∧ah (ld=loads (l7.take a))) (fun _ s13 _=>500-(intOf s13).toNat)
       case atStart=>exact⟨0,0,by simp,rfl,Nat.zero_le _,by decide,by decide,rfl,⟨by simp[loads]⟩⟩
       case round =>
        obtain⟨a,ld,rfl,rfl,ha,hl0,hl1,rfl,HL⟩:=hrel;have WA:=ah.mk (wrap_in (n:=(a:Int)+1) (by omega) (by omega));by_cases hla:a<l7.length
        ·obtain⟨j,hj⟩:∃j,l7[a]?=some j:=⟨_,List.getElem?_eq_getElem hla⟩;obtain⟨g,WG,hr⟩:=RJ.out.get a j hj;have hw:=hr 19 _ rfl;have ho:=hr 25 _ rfl;have JO:=ah.mk (HC.out.2.1.jobs a j hj);have HJ:=ah.mk hj;have ia:(a:Int)<l7.length:=by omega
         clear hr hj;subst WG;by_cases hh3:j.how=3
         ·have b3:(j.how==3)=true:=by simpa using hh3
          obtain⟨q,hq⟩:∃q,q=ord j.s.size:=⟨_,rfl⟩;have hor:j.order=(q:Int):=by rw[hq];exact(JO.out.block (.inl hh3)).1
          have hq3:q≤3:=by rw[hq];exact(jh JO.out.spec.2.2.1 JO.out.spec.2.2.2.1).1
          rw[hor]at ho;have SZ:=ah.mk fun W=>kN (w:=W) q hq3;obtain⟨z,hz⟩:∃z:Nat,z=2^q:=⟨_,rfl⟩;have Yn:z≤8:=by rw[hz];rcases(by omega:q=0∨q=1∨q=2∨q=3)with h|h|h|h<;>rw[h]<;>decide
          have WJ:ah (j.load=(z:Int)):=⟨by unfold J.load;rw[if_pos hh3,hor,hz,show((q:Nat):Int).toNat=q from rfl];simp⟩;rw[←hz]at SZ;have wz:=wrap_in (n:=tt+ld+(z:Int)) (by omega) (by omega);have wz2:=(eu _).trans wz;clear hz hq hor hh3 hq3;have wa:=WA.out;have Am:=(eu _).trans wa;go_wp2_with (go_at_call 10;refine(SZ.out _).mono ?_;rintro e w' ⟨rfl,hw'⟩;obtain rfl:=hw'.symm;clear hw')
          go_roundw
          case rel=>clear wa wz Am wz2;exact⟨a+1,ld+z,by rw[←Int.add_assoc],rfl,by omega,by omega,by omega,by first|rfl|trivial,⟨by rw[oO HJ.out,←HL.out,WJ.out]⟩⟩
          case measure=>(try clear wa Am);(try clear wz wz2);(try clear wc SA);(try clear wi Ik);simp[intOf];omega
         ·have b3:(j.how==3)=false:=by simpa using hh3
          have WJ:ah (j.load=0):=⟨by unfold J.load;rw[if_neg hh3]⟩;clear hh3;have wa:=WA.out;have Am:=(eu _).trans wa;go_wp2_with fail
          go_roundw
          case rel=>clear wa Am;exact⟨a+1,ld,rfl,rfl,by omega,by omega,by omega,by first|rfl|trivial,⟨by rw[oO HJ.out,←HL.out,WJ.out];omega⟩⟩
          case measure=>(try clear wa Am);(try clear wz wz2);(try clear wc SA);(try clear wi Ik);simp[intOf];omega
        ·obtain rfl:a=l7.length:=by omega
         have TC:=ah.mk (wM S4.out HP.out HC.out.2.1 (by omega) (by omega) HH.out.1 HH.out.2);have HL2:ah (ld=loads l7):=⟨by rw[HL.out,List.take_length]⟩;clear HL;have wc:=WC.out;have SA:=(eu _).trans wc;go_wp2_with (go_at_call 11;refine TC.out.mono ?_;rintro e w5 ⟨sx,jo,bk2,rfl,g5,SH,l5,s5⟩;have S5:=ah.mk (And.intro g5 (And.intro SH (And.intro l5 s5.drop1)));clear g5 SH l5 s5)
         go_roundw
         case rel=>clear wc SA;exact⟨c+1,tt+ld,jo,bk2,rfl,rfl,by omega,by rw[S5.out.2.2.1];exact WE,by omega,by omega,⟨by rw[HC.out.1,HL2.out];exact S5.out.2.1.symm,S5.out.1,S5.out.2.2.2⟩⟩
         case measure=>(try clear wa Am);(try clear wz wz2);(try clear wc SA);(try clear wi Ik);simp[intOf];omega
      ·have i3:=lc2 hlc;have wi:=WI.out;have Ik:=(eu _).trans wi;go_wp2_with fail
       go_roundw
       case rel=>clear wi Ik;exact⟨i+1,tt,now+c,l7,bk1,fl,k,rfl,rfl,by omega,by omega,by omega,by omega,hu0,hu1,HC⟩
       case measure=>(try clear wa Am);(try clear wz wz2);(try clear wc SA);(try clear wi Ik);simp[intOf];omega
   ·have hkk:=KK.out (fun h=>hk3 (.inl h)) (fun h=>hk3 (.inr h));have hne:=hkk.1;have KT:=ah.mk hkk.2;have b3:(kd==3)=false:=by simpa using fun h=>hk3 (.inl h)
    have b4:(kd==4)=false:=by simpa using fun h=>hk3 (.inr h)
    have JC:=ah.mk (kY S3.out (by omega));clear hkk KK hk3;refine ah.mk ?_;go_wp2_with fail
    clear k0 k1 b3 b4 S3;refine wp_loop_rounds 2 ?_;rw[rounds_succ];by_cases h0:0<js.length
    ·have i4:(0:Int)<js.length:=by omega
     clear h0;go_wp2_with (go_at_call 9;refine JC.out.mono ?_;rintro e w4 ⟨A4,c4,rfl,h4⟩;have S4:ah (dL [aO (.slice A4 js.length c4) js] w w4 x pol (now:Int) js bk fl k):=⟨h4⟩;clear h4)
     clear JC;refine wp_loop_rounds 1 ?_;rw[rounds_succ];have DC:=ah.mk (KT.out _ _ _ _ _ _ _ _ _ _ _ S4.out HP.out GT.out.2 (by omega) (by omega) (by omega) HH.out.1 HH.out.2);go_wp2_with (go_at_call 11;refine DC.out.mono ?_;rintro e w5 ⟨sx,jo,bk2,Af,k2,rfl,hk2,g5,SH,l5,s5⟩;have S5:=ah.mk (And.intro hk2 (And.intro g5 (And.intro SH (And.intro l5 s5.drop1))));clear hk2 g5 SH l5 s5;refine ah.out ?_)
     clear S4 DC i4;have hk2:=S5.out.1;have hl2:=S5.out.2.2.2.1;refine ah.mk ?_;go_wp2_with fail
     rw[rounds_succ];have wi:=WI.out;have Ik:=(eu _).trans wi;go_wp2_with fail
     go_roundw
     case rel=>clear wi Ik;exact⟨i+1,tot,now,jo,bk2,Af,k2,rfl,rfl,by omega,by omega,by omega,by omega,ht0,ht1,⟨by rw[GT.out.1];exact S5.out.2.2.1.symm,S5.out.2.1,S5.out.2.2.2.2⟩⟩
     case measure=>clear wi Ik;simp[intOf];omega
    ·have i4:¬(0:Int)<js.length:=by omega
     clear h0;go_wp2_with (go_at_call 9;refine JC.out.mono ?_;rintro e w4 ⟨A4,c4,rfl,h4⟩;have S4:ah (dL [aO (.slice A4 js.length c4) js] w w4 x pol (now:Int) js bk fl k):=⟨h4⟩;clear h4)
     clear JC;refine wp_loop_rounds 1 ?_;rw[rounds_succ];have DC:=ah.mk (KT.out _ _ _ _ _ _ _ _ _ _ _ S4.out HP.out GT.out.2 (by omega) (by omega) (by omega) HH.out.1 HH.out.2);go_wp2_with (go_at_call 11;refine DC.out.mono ?_;rintro e w5 ⟨sx,jo,bk2,Af,k2,rfl,hk2,g5,SH,l5,s5⟩;have S5:=ah.mk (And.intro hk2 (And.intro g5 (And.intro SH (And.intro l5 s5.drop1))));clear hk2 g5 SH l5 s5;refine ah.out ?_)
     clear S4 DC i4;have hk2:=S5.out.1;have hl2:=S5.out.2.2.2.1;refine ah.mk ?_;go_wp2_with fail
     rw[rounds_succ];have wi:=WI.out;have Ik:=(eu _).trans wi;go_wp2_with fail
     go_roundw
     case rel=>clear wi Ik;exact⟨i+1,tot,now,jo,bk2,Af,k2,rfl,rfl,by omega,by omega,by omega,by omega,ht0,ht1,⟨by rw[GT.out.1];exact S5.out.2.2.1.symm,S5.out.2.1,S5.out.2.2.2.2⟩⟩
     case measure=>clear wi Ik;simp[intOf];omega
  ·by_cases Ew:i<l.length
   ·have I1:=ah.mk Ew;have i1:(i:Int)<l.length:=by omega
    have i2:¬(i:Int)<20:=by omega
    clear Ew hlt;have BC:=ah.mk (wO HB.out.2.2 (by have:=HB.out.2.1.few;omega));go_wp2_with (go_at_call 12;refine BC.out.mono ?_;rintro e w3 ⟨A3,c3,rfl,h3⟩;have S3:ah (dL [oP (.slice A3 bk.length c3) bk] w w3 x pol (now:Int) js bk fl k):=⟨h3⟩;clear h3)
    have GT:=ah.mk (And.intro HB.out.1 HB.out.2.1);have hfew:bk.length≤1500:=HB.out.2.1.few;have hn4:now≤400:=by omega
    clear BC HB I1 WI;go_loopw [14,16] (fun s14 s16 wq=>∃(a:Nat) (ld:Int),s14=.int .i64 ld∧s16=.int .i64 (a:Int)∧a≤bk.length∧0≤ld∧ld≤3200*(a:Int)∧ah (ld=paid (bk.take a)∧dL [oP (.slice A3 bk.length c3) bk] w wq x pol (now:Int) js bk fl k)) (fun _ s16 _=>1600-(intOf s16).toNat)
    case atStart=>exact⟨0,0,rfl,rfl,Nat.zero_le _,by decide,by decide,⟨by simp[paid],S3.out⟩⟩
    case round =>
     clear S3;obtain⟨a,ld,rfl,rfl,ha,hl0,hl1,HL⟩:=hrel;by_cases hla:a<bk.length
     ·obtain⟨ch,hch⟩:∃ch,bk[a]?=some ch:=⟨_,List.getElem?_eq_getElem hla⟩;obtain⟨g,hA3,hr⟩:=HL.out.2.Sz.get a ch hch;have hw:=hr 2 _ rfl;have hs:=hr 3 _ rfl;have CO:=GT.out.2.VA ch (List.mem_iff_getElem?.2 ⟨a,hch⟩);have HC:=ah.mk hch;have ia:(a:Int)<bk.length:=by omega
      clear hr hch;subst hA3;obtain⟨wk,hwk⟩:∃z:Int,z=(ch.workers:Int):=⟨_,rfl⟩;obtain⟨sc,hsc⟩:∃z:Int,z=ch.seconds:=⟨_,rfl⟩;have q1:0≤wk*sc∧wk*sc≤3200:=by
       have h1:=CO.workers;have h2:=CO.pV;have h3:=CO.seconds;have h4:0≤wk∧wk≤8:=by omega
       have h5:0≤sc∧sc≤400:=by omega
       exact⟨Int.mul_nonneg h4.1 h5.1,Int.le_trans (Int.mul_le_mul h4.2 h5.2 h5.1 (by decide)) (by decide)⟩
      have MV:ah (wk*sc=(ch.workers:Int)*ch.seconds):=⟨by rw[hwk,hsc]⟩;rw[show((ch.workers:Nat):Int)=wk from hwk.symm]at hw;rw[show ch.seconds=sc from hsc.symm]at hs;obtain⟨pr,hpr⟩:∃z:Int,z=wk*sc:=⟨_,rfl⟩;rw[←hpr]at q1 MV;have P1:wrap64 (wk*sc)=pr:=by rw[←hpr];exact wrap_in (by omega) (by omega)
      have Il:=(eu _).trans P1;have P2:=wrap_in (n:=ld+pr) (by omega) (by omega);have Io:=(eu _).trans P2;have wa:=wrap_in (n:=(a:Int)+1) (by omega) (by omega);have Am:=(eu _).trans wa;clear hwk hsc hpr CO;have hH:=ah.mk hw;go_wp2_with fail
      go_quiet (fail)
      go_wp2_with fail
      go_roundw
      case rel=>clear wa Am P1 Il P2 Io;exact⟨a+1,ld+pr,rfl,rfl,by omega,by omega,by omega,⟨by rw[Ci HC.out,←HL.out.1,MV.out],HL.out.2.below (aC (Below.refl _ _) _)⟩⟩
      case measure=>clear wa Am P1 Il P2 Io;simp[intOf];omega
     ·obtain rfl:a=bk.length:=by omega
      have ZH:ah (ld=paid bk):=⟨by rw[HL.out.1,List.take_length]⟩;have JC:=ah.mk (kY HL.out.2.drop1 (by omega));clear HL;go_wp2_with (go_at_call 9;refine JC.out.mono ?_;rintro e w4 ⟨A4,c4,rfl,h4⟩;have S4:ah (dL [aO (.slice A4 js.length c4) js] w w4 x pol (now:Int) js bk fl k):=⟨h4⟩;clear h4)
      clear JC;go_loopw [14,18] (fun s14 WM wq=>∃(b:Nat) (pl:Int),s14=.int .i64 (ld+pl)∧WM=.int .i64 (b:Int)∧b≤js.length∧0≤pl∧pl≤3200*(b:Int)∧ah (pl=pays (js.take b) now∧dL [aO (.slice A4 js.length c4) js] w wq x pol (now:Int) js bk fl k)) (fun _ WM _=>600-(intOf WM).toNat)
      case atStart=>exact⟨0,0,by simp,rfl,Nat.zero_le _,by decide,by decide,⟨by simp[pays],S4.out⟩⟩
      case round =>
       clear S4;obtain⟨b,pl,rfl,rfl,hb,hp0,hp1,HL⟩:=hrel;by_cases hlb:b<js.length
       ·obtain⟨j,hj⟩:∃j,js[b]?=some j:=⟨_,List.getElem?_eq_getElem hlb⟩;have LW:ah (∀W,dL [aO (.slice A4 js.length c4) js] w W x pol (now:Int) js bk fl k→∃g,A4=some ⟨g,0,none⟩∧W.rangeAt g (b*26) (qW j)):=⟨fun W h=>h.ED.get b j hj⟩;obtain⟨g,WG,hr⟩:=LW.out _ HL.out.2;have JO:=ah.mk (GT.out.2.jobs b j hj);have HJ:=ah.mk hj;have ib:(b:Int)<js.length:=by omega
        clear hj;subst WG;have GJ:ah (∀W,dL [aO (.slice (some ⟨g,0,none⟩) js.length c4) js] w W x pol (now:Int) js bk fl k→W.cell? ⟨g,b*26+19,none⟩=some (.int .i64 j.how)∧W.cell? ⟨g,b*26+21,none⟩=some (.int .i64 j.started)∧W.cell? ⟨g,b*26+23,none⟩=some (.int .i64 j.ran)∧W.cell? ⟨g,b*26+25,none⟩=some (.int .i64 j.order)):=⟨fun W h=>by
         obtain⟨g2,h2,h3⟩:=LW.out W h;cases h2;exact⟨h3 19 _ rfl,h3 21 _ rfl,h3 23 _ rfl,h3 25 _ rfl⟩⟩
        clear hr LW;obtain⟨m19,m21,m23,WQ⟩:=GJ.out _ HL.out.2;have wb:=ah.mk (wrap_in (n:=(b:Int)+1) (by omega) (by omega));by_cases h3:j.how=3
        ·have b3:(j.how==3)=true:=by simpa using h3
         obtain⟨q,hq⟩:∃q,q=ord j.s.size:=⟨_,rfl⟩;have hor:j.order=(q:Int):=by rw[hq];exact(JO.out.block (.inl h3)).1
         have hq3:q≤3:=by rw[hq];exact(jh JO.out.spec.2.2.1 JO.out.spec.2.2.2.1).1
         have SZ:=ah.mk fun W=>kN (w:=W) q hq3;obtain⟨z,hz⟩:∃z:Nat,z=2^q:=⟨_,rfl⟩;have Yn:z≤8:=by rw[hz];rcases(by omega:q=0∨q=1∨q=2∨q=3)with h|h|h|h<;>rw[h]<;>decide
         rw[←hz]at SZ;obtain⟨rn,hrn⟩:∃v:Int,v=j.ran:=⟨_,rfl⟩;obtain⟨st,hst⟩:∃v:Int,v=j.started:=⟨_,rfl⟩;have r0:=JO.out.pU;have r1:=JO.out.run h3;have r2:=JO.out.started;have r3:=JO.out.fE;rw[←hrn]at r0 r1;rw[←hst]at r1 r2 r3;obtain⟨pr,hpr⟩:∃v:Int,v=(rn+(now:Int)-st)*(z:Int):=⟨_,rfl⟩;have q1:0≤pr∧pr≤3200:=by
          rw[hpr];exact⟨Int.mul_nonneg (by omega) (by omega),Int.le_trans (Int.mul_le_mul (show rn+(now:Int)-st≤400 by omega) (show(z:Int)≤8 by omega) (by omega) (by decide)) (by decide)⟩
         have SI:ah (j.pay now=pr):=⟨by
          unfold J.pay;rw[if_pos h3,hor,hpr,hrn,hst,hz,show((q:Nat):Int).toNat=q from rfl,show j.ran+((now:Int)-j.started)=j.ran+(now:Int)-j.started by omega];simp⟩
         have P0:=wrap_in (n:=rn+(now:Int)) (by omega) (by omega);have P3:=wrap_in (n:=rn+(now:Int)-st) (by omega) (by omega);have P1:wrap64 ((rn+(now:Int)-st)*(z:Int))=pr:=by rw[←hpr];exact wrap_in (by omega) (by omega)
         have P2:wrap64 (ld+pl+pr)=ld+pl+pr:=wrap_in (by omega) (by omega);have Yo:=(eu _).trans P0;have Yp:=(eu _).trans P3;have Il:=(eu _).trans P1;have Io:=(eu _).trans P2;rw[show j.started=st from hst.symm]at m21;rw[show j.ran=rn from hrn.symm]at m23;rw[hor]at WQ;have Yq:ah (∀W,dL [aO (.slice (some ⟨g,0,none⟩) js.length c4) js] w W x pol (now:Int) js bk fl k→W.cell? ⟨g,b*26+19,none⟩=some (.int .i64 j.how)∧W.cell? ⟨g,b*26+21,none⟩=some (.int .i64 st)∧W.cell? ⟨g,b*26+25,none⟩=some (.int .i64 (q:Int))):=⟨fun W h=>⟨(GJ.out W h).1,by rw[hst];exact(GJ.out W h).2.1,by rw[←hor];exact(GJ.out W h).2.2.2⟩⟩;clear hz hq hor hq3 hrn hst hpr r0 r1 r2 r3 GJ h3;go_wp2_with fail
         have H5:=ah.mk (HL.out.2.below (aC (Below.refl _ _) 1));have NW:=ah.mk (Au (now:Int) H5.out.nowAt);have HG:(World.drew _).cell? ⟨g,b*26+21,none⟩=some (.int .i64 st)∧True:=⟨(Yq.out _ H5.out).2.1,trivial⟩;clear m19 m21 m23 WQ;refine aK (fun W=>W.cell? ⟨g,b*26+21,none⟩=some (.int .i64 st)∧True) 9 (by kernel_rfl) (by kernel_rfl) ?_;refine aZ 0 HG ?_;refine aZ 1 HG ?_;refine aZ 4 HG ?_;refine aZ 5 HG ?_;refine aZ 6 HG ?_;refine aZ 7 HG ?_;refine aZ 8 HG ?_;refine aS (k:=2) rfl (by kernel_rfl) (by kernel_rfl) (fun K hK=>?_);rw[if_pos (by rfl)];go_simp;go_at_call 13;refine NW.out.mono ?_;rintro e w' ⟨rfl,hw'⟩;obtain rfl:=hw'.symm;refine hK _ _ HG ?_;clear hK K hw';try simp only[Act.put,List.getElem_toArray,List.getElem_cons_zero,List.getElem_cons_succ,List.setIfInBounds_toArray,List.set_cons_zero,List.set_cons_succ]
         refine aZ 3 HG ?_;refine aQ (by kernel_rfl) ?_;simp only[List.drop_succ_cons,List.drop_zero];clear HG;obtain⟨n19,n21,n25⟩:=Yq.out _ H5.out;have zl:=wb.out;have Ip:=(eu _).trans zl;go_wp2_with (go_at_call 10;refine(SZ.out _).mono ?_;rintro e w' ⟨rfl,hw'⟩;obtain rfl:=hw'.symm;clear hw')
         go_roundw
         case rel=>clear zl Ip P0 Yo P1 Il P2 Io P3 Yp;exact⟨b+1,pl+pr,by rw[←Int.add_assoc],rfl,by omega,by omega,by omega,⟨by rw[mD _ HJ.out,←HL.out.1,SI.out],H5.out⟩⟩
         case measure=>clear zl Ip P0 Yo P1 Il P2 Io P3 Yp;simp[intOf];omega
        ·have b3:(j.how==3)=false:=by simpa using h3
         by_cases h4:j.how=4
         ·have b4:(j.how==4)=true:=by simpa using h4
          obtain⟨q,hq⟩:∃q,q=ord j.s.size:=⟨_,rfl⟩;have hor:j.order=(q:Int):=by rw[hq];exact(JO.out.block (.inr h4)).1
          have hq3:q≤3:=by rw[hq];exact(jh JO.out.spec.2.2.1 JO.out.spec.2.2.2.1).1
          have SZ:=ah.mk fun W=>kN (w:=W) q hq3;obtain⟨z,hz⟩:∃z:Nat,z=2^q:=⟨_,rfl⟩;have Yn:z≤8:=by rw[hz];rcases(by omega:q=0∨q=1∨q=2∨q=3)with h|h|h|h<;>rw[h]<;>decide
          rw[←hz]at SZ;obtain⟨rn,hrn⟩:∃v:Int,v=j.ran:=⟨_,rfl⟩;have r0:=JO.out.pU;have r1:=JO.out.ran;rw[←hrn]at r0 r1;obtain⟨pr,hpr⟩:∃v:Int,v=rn*(z:Int):=⟨_,rfl⟩;have q1:0≤pr∧pr≤3200:=by
           rw[hpr];exact⟨Int.mul_nonneg (by omega) (by omega),Int.le_trans (Int.mul_le_mul (show rn≤400 by omega) (show(z:Int)≤8 by omega) (by omega) (by decide)) (by decide)⟩
          have SI:ah (j.pay now=pr):=⟨by
           unfold J.pay;rw[if_neg h3,if_pos h4,hor,hpr,hrn,hz,show((q:Nat):Int).toNat=q from rfl];simp⟩
          have P1:wrap64 (rn*(z:Int))=pr:=by rw[←hpr];exact wrap_in (by omega) (by omega)
          have P2:wrap64 (ld+pl+pr)=ld+pl+pr:=wrap_in (by omega) (by omega);have Il:=(eu _).trans P1;have Io:=(eu _).trans P2;rw[show j.ran=rn from hrn.symm]at m23;rw[hor]at WQ;clear hz hq hor hq3 hrn hpr r0 r1 GJ h3 h4;have zl:=wb.out;have Ip:=(eu _).trans zl;go_wp2_with (go_at_call 10;refine(SZ.out _).mono ?_;rintro e w' ⟨rfl,hw'⟩;obtain rfl:=hw'.symm;clear hw')
          go_roundw
          case rel=>clear zl Ip P1 Il P2 Io;exact⟨b+1,pl+pr,by rw[←Int.add_assoc],rfl,by omega,by omega,by omega,⟨by rw[mD _ HJ.out,←HL.out.1,SI.out],HL.out.2⟩⟩
          case measure=>clear zl Ip P1 Il P2 Io;simp[intOf];omega
         ·have b4:(j.how==4)=false:=by simpa using h4
          have SI:ah (j.pay now=0):=⟨by unfold J.pay;rw[if_neg h3,if_neg h4]⟩;clear GJ h3 h4;have zl:=wb.out;have Ip:=(eu _).trans zl;go_wp2_with fail
          go_roundw
          case rel=>clear zl Ip;exact⟨b+1,pl,rfl,rfl,by omega,by omega,by omega,⟨by rw[mD _ HJ.out,←HL.out.1,SI.out];omega,HL.out.2⟩⟩
          case measure=>clear zl Ip;simp[intOf];omega
       ·obtain rfl:b=js.length:=by omega
        have heq:ld+pl=tot:=by rw[GT.out.1,ZH.out,HL.out.1,List.take_length]
        have hee:(ld+pl==tot)=true:=by simpa using heq
        have BF:=ah.mk HL.out.2.old;clear heq HL;go_wp2_with fail
        first|go_ret2|go_ret|skip
        rw[←HQ.out];exact⟨by simp[hee],BF.out⟩
   ·have I1:=ah.mk Ew;have i1:¬(i:Int)<l.length:=by omega
    clear Ew hlt;have BC:=ah.mk (wO HB.out.2.2 (by have:=HB.out.2.1.few;omega));go_wp2_with (go_at_call 12;refine BC.out.mono ?_;rintro e w3 ⟨A3,c3,rfl,h3⟩;have S3:ah (dL [oP (.slice A3 bk.length c3) bk] w w3 x pol (now:Int) js bk fl k):=⟨h3⟩;clear h3)
    have GT:=ah.mk (And.intro HB.out.1 HB.out.2.1);have hfew:bk.length≤1500:=HB.out.2.1.few;have hn4:now≤400:=by omega
    clear BC HB I1 WI;go_loopw [14,16] (fun s14 s16 wq=>∃(a:Nat) (ld:Int),s14=.int .i64 ld∧s16=.int .i64 (a:Int)∧a≤bk.length∧0≤ld∧ld≤3200*(a:Int)∧ah (ld=paid (bk.take a)∧dL [oP (.slice A3 bk.length c3) bk] w wq x pol (now:Int) js bk fl k)) (fun _ s16 _=>1600-(intOf s16).toNat)
    case atStart=>exact⟨0,0,rfl,rfl,Nat.zero_le _,by decide,by decide,⟨by simp[paid],S3.out⟩⟩
    case round =>
     clear S3;obtain⟨a,ld,rfl,rfl,ha,hl0,hl1,HL⟩:=hrel;by_cases hla:a<bk.length
     ·obtain⟨ch,hch⟩:∃ch,bk[a]?=some ch:=⟨_,List.getElem?_eq_getElem hla⟩;obtain⟨g,hA3,hr⟩:=HL.out.2.Sz.get a ch hch;have hw:=hr 2 _ rfl;have hs:=hr 3 _ rfl;have CO:=GT.out.2.VA ch (List.mem_iff_getElem?.2 ⟨a,hch⟩);have HC:=ah.mk hch;have ia:(a:Int)<bk.length:=by omega
      clear hr hch;subst hA3;obtain⟨wk,hwk⟩:∃z:Int,z=(ch.workers:Int):=⟨_,rfl⟩;obtain⟨sc,hsc⟩:∃z:Int,z=ch.seconds:=⟨_,rfl⟩;have q1:0≤wk*sc∧wk*sc≤3200:=by
       have h1:=CO.workers;have h2:=CO.pV;have h3:=CO.seconds;have h4:0≤wk∧wk≤8:=by omega
       have h5:0≤sc∧sc≤400:=by omega
       exact⟨Int.mul_nonneg h4.1 h5.1,Int.le_trans (Int.mul_le_mul h4.2 h5.2 h5.1 (by decide)) (by decide)⟩
      have MV:ah (wk*sc=(ch.workers:Int)*ch.seconds):=⟨by rw[hwk,hsc]⟩;rw[show((ch.workers:Nat):Int)=wk from hwk.symm]at hw;rw[show ch.seconds=sc from hsc.symm]at hs;obtain⟨pr,hpr⟩:∃z:Int,z=wk*sc:=⟨_,rfl⟩;rw[←hpr]at q1 MV;have P1:wrap64 (wk*sc)=pr:=by rw[←hpr];exact wrap_in (by omega) (by omega)
      have Il:=(eu _).trans P1;have P2:=wrap_in (n:=ld+pr) (by omega) (by omega);have Io:=(eu _).trans P2;have wa:=wrap_in (n:=(a:Int)+1) (by omega) (by omega);have Am:=(eu _).trans wa;clear hwk hsc hpr CO;have hH:=ah.mk hw;go_wp2_with fail
      go_quiet (fail)
      go_wp2_with fail
      go_roundw
      case rel=>clear wa Am P1 Il P2 Io;exact⟨a+1,ld+pr,rfl,rfl,by omega,by omega,by omega,⟨by rw[Ci HC.out,←HL.out.1,MV.out],HL.out.2.below (aC (Below.refl _ _) _)⟩⟩
      case measure=>clear wa Am P1 Il P2 Io;simp[intOf];omega
     ·obtain rfl:a=bk.length:=by omega
      have ZH:ah (ld=paid bk):=⟨by rw[HL.out.1,List.take_length]⟩;have JC:=ah.mk (kY HL.out.2.drop1 (by omega));clear HL;go_wp2_with (go_at_call 9;refine JC.out.mono ?_;rintro e w4 ⟨A4,c4,rfl,h4⟩;have S4:ah (dL [aO (.slice A4 js.length c4) js] w w4 x pol (now:Int) js bk fl k):=⟨h4⟩;clear h4)
      clear JC;go_loopw [14,18] (fun s14 WM wq=>∃(b:Nat) (pl:Int),s14=.int .i64 (ld+pl)∧WM=.int .i64 (b:Int)∧b≤js.length∧0≤pl∧pl≤3200*(b:Int)∧ah (pl=pays (js.take b) now∧dL [aO (.slice A4 js.length c4) js] w wq x pol (now:Int) js bk fl k)) (fun _ WM _=>600-(intOf WM).toNat)
      case atStart=>exact⟨0,0,by simp,rfl,Nat.zero_le _,by decide,by decide,⟨by simp[pays],S4.out⟩⟩
      case round =>
       clear S4;obtain⟨b,pl,rfl,rfl,hb,hp0,hp1,HL⟩:=hrel;by_cases hlb:b<js.length
       ·obtain⟨j,hj⟩:∃j,js[b]?=some j:=⟨_,List.getElem?_eq_getElem hlb⟩;have LW:ah (∀W,dL [aO (.slice A4 js.length c4) js] w W x pol (now:Int) js bk fl k→∃g,A4=some ⟨g,0,none⟩∧W.rangeAt g (b*26) (qW j)):=⟨fun W h=>h.ED.get b j hj⟩;obtain⟨g,WG,hr⟩:=LW.out _ HL.out.2;have JO:=ah.mk (GT.out.2.jobs b j hj);have HJ:=ah.mk hj;have ib:(b:Int)<js.length:=by omega
        clear hj;subst WG;have GJ:ah (∀W,dL [aO (.slice (some ⟨g,0,none⟩) js.length c4) js] w W x pol (now:Int) js bk fl k→W.cell? ⟨g,b*26+19,none⟩=some (.int .i64 j.how)∧W.cell? ⟨g,b*26+21,none⟩=some (.int .i64 j.started)∧W.cell? ⟨g,b*26+23,none⟩=some (.int .i64 j.ran)∧W.cell? ⟨g,b*26+25,none⟩=some (.int .i64 j.order)):=⟨fun W h=>by
         obtain⟨g2,h2,h3⟩:=LW.out W h;cases h2;exact⟨h3 19 _ rfl,h3 21 _ rfl,h3 23 _ rfl,h3 25 _ rfl⟩⟩
        clear hr LW;obtain⟨m19,m21,m23,WQ⟩:=GJ.out _ HL.out.2;have wb:=ah.mk (wrap_in (n:=(b:Int)+1) (by omega) (by omega));by_cases h3:j.how=3
        ·have b3:(j.how==3)=true:=by simpa using h3
         obtain⟨q,hq⟩:∃q,q=ord j.s.size:=⟨_,rfl⟩;have hor:j.order=(q:Int):=by rw[hq];exact(JO.out.block (.inl h3)).1
         have hq3:q≤3:=by rw[hq];exact(jh JO.out.spec.2.2.1 JO.out.spec.2.2.2.1).1
         have SZ:=ah.mk fun W=>kN (w:=W) q hq3;obtain⟨z,hz⟩:∃z:Nat,z=2^q:=⟨_,rfl⟩;have Yn:z≤8:=by rw[hz];rcases(by omega:q=0∨q=1∨q=2∨q=3)with h|h|h|h<;>rw[h]<;>decide
         rw[←hz]at SZ;obtain⟨rn,hrn⟩:∃v:Int,v=j.ran:=⟨_,rfl⟩;obtain⟨st,hst⟩:∃v:Int,v=j.started:=⟨_,rfl⟩;have r0:=JO.out.pU;have r1:=JO.out.run h3;have r2:=JO.out.started;have r3:=JO.out.fE;rw[←hrn]at r0 r1;rw[←hst]at r1 r2 r3;obtain⟨pr,hpr⟩:∃v:Int,v=(rn+(now:Int)-st)*(z:Int):=⟨_,rfl⟩;have q1:0≤pr∧pr≤3200:=by
          rw[hpr];exact⟨Int.mul_nonneg (by omega) (by omega),Int.le_trans (Int.mul_le_mul (show rn+(now:Int)-st≤400 by omega) (show(z:Int)≤8 by omega) (by omega) (by decide)) (by decide)⟩
         have SI:ah (j.pay now=pr):=⟨by
          unfold J.pay;rw[if_pos h3,hor,hpr,hrn,hst,hz,show((q:Nat):Int).toNat=q from rfl,show j.ran+((now:Int)-j.started)=j.ran+(now:Int)-j.started by omega];simp⟩
         have P0:=wrap_in (n:=rn+(now:Int)) (by omega) (by omega);have P3:=wrap_in (n:=rn+(now:Int)-st) (by omega) (by omega);have P1:wrap64 ((rn+(now:Int)-st)*(z:Int))=pr:=by rw[←hpr];exact wrap_in (by omega) (by omega)
         have P2:wrap64 (ld+pl+pr)=ld+pl+pr:=wrap_in (by omega) (by omega);have Yo:=(eu _).trans P0;have Yp:=(eu _).trans P3;have Il:=(eu _).trans P1;have Io:=(eu _).trans P2;rw[show j.started=st from hst.symm]at m21;rw[show j.ran=rn from hrn.symm]at m23;rw[hor]at WQ;have Yq:ah (∀W,dL [aO (.slice (some ⟨g,0,none⟩) js.length c4) js] w W x pol (now:Int) js bk fl k→W.cell? ⟨g,b*26+19,none⟩=some (.int .i64 j.how)∧W.cell? ⟨g,b*26+21,none⟩=some (.int .i64 st)∧W.cell? ⟨g,b*26+25,none⟩=some (.int .i64 (q:Int))):=⟨fun W h=>⟨(GJ.out W h).1,by rw[hst];exact(GJ.out W h).2.1,by rw[←hor];exact(GJ.out W h).2.2.2⟩⟩;clear hz hq hor hq3 hrn hst hpr r0 r1 r2 r3 GJ h3;go_wp2_with fail
         have H5:=ah.mk (HL.out.2.below (aC (Below.refl _ _) 1));have NW:=ah.mk (Au (now:Int) H5.out.nowAt);have HG:(World.drew _).cell? ⟨g,b*26+21,none⟩=some (.int .i64 st)∧True:=⟨(Yq.out _ H5.out).2.1,trivial⟩;clear m19 m21 m23 WQ;refine aK (fun W=>W.cell? ⟨g,b*26+21,none⟩=some (.int .i64 st)∧True) 9 (by kernel_rfl) (by kernel_rfl) ?_;refine aZ 0 HG ?_;refine aZ 1 HG ?_;refine aZ 4 HG ?_;refine aZ 5 HG ?_;refine aZ 6 HG ?_;refine aZ 7 HG ?_;refine aZ 8 HG ?_;refine aS (k:=2) rfl (by kernel_rfl) (by kernel_rfl) (fun K hK=>?_);rw[if_pos (by rfl)];go_simp;go_at_call 13;refine NW.out.mono ?_;rintro e w' ⟨rfl,hw'⟩;obtain rfl:=hw'.symm;refine hK _ _ HG ?_;clear hK K hw';try simp only[Act.put,List.getElem_toArray,List.getElem_cons_zero,List.getElem_cons_succ,List.setIfInBounds_toArray,List.set_cons_zero,List.set_cons_succ]
         refine aZ 3 HG ?_;refine aQ (by kernel_rfl) ?_;simp only[List.drop_succ_cons,List.drop_zero];clear HG;obtain⟨n19,n21,n25⟩:=Yq.out _ H5.out;have zl:=wb.out;have Ip:=(eu _).trans zl;go_wp2_with (go_at_call 10;refine(SZ.out _).mono ?_;rintro e w' ⟨rfl,hw'⟩;obtain rfl:=hw'.symm;clear hw')
         go_roundw
         case rel=>clear zl Ip P0 Yo P1 Il P2 Io P3 Yp;exact⟨b+1,pl+pr,by rw[←Int.add_assoc],rfl,by omega,by omega,by omega,⟨by rw[mD _ HJ.out,←HL.out.1,SI.out],H5.out⟩⟩
         case measure=>clear zl Ip P0 Yo P1 Il P2 Io P3 Yp;simp[intOf];omega
        ·have b3:(j.how==3)=false:=by simpa using h3
         by_cases h4:j.how=4
         ·have b4:(j.how==4)=true:=by simpa using h4
          obtain⟨q,hq⟩:∃q,q=ord j.s.size:=⟨_,rfl⟩;have hor:j.order=(q:Int):=by rw[hq];exact(JO.out.block (.inr h4)).1
          have hq3:q≤3:=by rw[hq];exact(jh JO.out.spec.2.2.1 JO.out.spec.2.2.2.1).1
          have SZ:=ah.mk fun W=>kN (w:=W) q hq3;obtain⟨z,hz⟩:∃z:Nat,z=2^q:=⟨_,rfl⟩;have Yn:z≤8:=by rw[hz];rcases(by omega:q=0∨q=1∨q=2∨q=3)with h|h|h|h<;>rw[h]<;>decide
          rw[←hz]at SZ;obtain⟨rn,hrn⟩:∃v:Int,v=j.ran:=⟨_,rfl⟩;have r0:=JO.out.pU;have r1:=JO.out.ran;rw[←hrn]at r0 r1;obtain⟨pr,hpr⟩:∃v:Int,v=rn*(z:Int):=⟨_,rfl⟩;have q1:0≤pr∧pr≤3200:=by
           rw[hpr];exact⟨Int.mul_nonneg (by omega) (by omega),Int.le_trans (Int.mul_le_mul (show rn≤400 by omega) (show(z:Int)≤8 by omega) (by omega) (by decide)) (by decide)⟩
          have SI:ah (j.pay now=pr):=⟨by
           unfold J.pay;rw[if_neg h3,if_pos h4,hor,hpr,hrn,hz,show((q:Nat):Int).toNat=q from rfl];simp⟩
          have P1:wrap64 (rn*(z:Int))=pr:=by rw[←hpr];exact wrap_in (by omega) (by omega)
          have P2:wrap64 (ld+pl+pr)=ld+pl+pr:=wrap_in (by omega) (by omega);have Il:=(eu _).trans P1;have Io:=(eu _).trans P2;rw[show j.ran=rn from hrn.symm]at m23;rw[hor]at WQ;clear hz hq hor hq3 hrn hpr r0 r1 GJ h3 h4;have zl:=wb.out;have Ip:=(eu _).trans zl;go_wp2_with (go_at_call 10;refine(SZ.out _).mono ?_;rintro e w' ⟨rfl,hw'⟩;obtain rfl:=hw'.symm;clear hw')
          go_roundw
          case rel=>clear zl Ip P1 Il P2 Io;exact⟨b+1,pl+pr,by rw[←Int.add_assoc],rfl,by omega,by omega,by omega,⟨by rw[mD _ HJ.out,←HL.out.1,SI.out],HL.out.2⟩⟩
          case measure=>clear zl Ip P1 Il P2 Io;simp[intOf];omega
         ·have b4:(j.how==4)=false:=by simpa using h4
          have SI:ah (j.pay now=0):=⟨by unfold J.pay;rw[if_neg h3,if_neg h4]⟩;clear GJ h3 h4;have zl:=wb.out;have Ip:=(eu _).trans zl;go_wp2_with fail
          go_roundw
          case rel=>clear zl Ip;exact⟨b+1,pl,rfl,rfl,by omega,by omega,by omega,⟨by rw[mD _ HJ.out,←HL.out.1,SI.out];omega,HL.out.2⟩⟩
          case measure=>clear zl Ip;simp[intOf];omega
       ·obtain rfl:b=js.length:=by omega
        have heq:ld+pl=tot:=by rw[GT.out.1,ZH.out,HL.out.1,List.take_length]
        have hee:(ld+pl==tot)=true:=by simpa using heq
        have BF:=ah.mk HL.out.2.old;clear heq HL;go_wp2_with fail
        first|go_ret2|go_ret|skip
        rw[←HQ.out];exact⟨by simp[hee],BF.out⟩
end
end
section
namespace topCharges
open Go.ChangeShapes Go.WideShapes Go.ChangeAt Go.RowKit
open Go.ChangeMaps (open_string shut_string)
theorem lifted (os:Os)(started:os.Started)(H:Type)(enc:TypeId×Value→H) :
 ReturnsInHanded {} Tryz.checked os 3 .any (fun w args=>(Rows.topChargesSpec.pre enc Tryz.prog Tryz.f3 Rows.topChargesRow.domain false w args∧laidMetH Tryz.prog Rows.topChargesRow.laid w)∧sizedMet enc Tryz.prog Tryz.f3 (OpenSpec.ofChange Rows.topChargesSpec) false w args)
  (Rows.topChargesSpec.post enc Tryz.prog Tryz.f3 false true false false):=by
 refine returnsInHanded_of_calls (C:=Tryz.checked) Yr started (by kernel_rfl)
  (ChangeSpec.witness_shaped (enc:=enc) (C:=Tryz.checked) (os:=os) (fn:=Tryz.f3) (s:=Rows.topChargesSpec) (conds:=Rows.topChargesRow.domain) (apart:=false) (X:=fun w _=>laidMetH Tryz.prog Rows.topChargesRow.laid w) false (World.laidAll Tryz.prog os Rows.topChargesRow.laid) #[.int .i64 0,.slice none 0 0] 8 (World.laidAll_os _ _ _)
   (World.shaped_of_ZipB (by kernel_rfl) (by kernel_rfl)) (by kernel_rfl) (by kernel_rfl) (by kernel_rfl)
   (by rw[MakeChecks.laidMetH_plain _ _ _ (by kernel_rfl)];exact laidMet_laidAll _ (by kernel_rfl) (by kernel_rfl))) ?_
 intro w0 tape i0 _ hsh _ hok hpre _;obtain⟨_,_,_,fn',hfn',_,_,_,_,hval0⟩:=hok;obtain rfl:fn'=Tryz.f3:=Option.some.inj (hfn'.symm.trans Tryz.func3);obtain⟨⟨⟨ds,gs,before,hw0,_⟩,hx⟩,_⟩:=hpre;have hw1:=DataW.Whole.of_heap (w':=w0.forCall tape i0) (by rfl) hw0;have hL:laidMetH Tryz.prog Rows.topChargesRow.laid (w0.forCall tape i0):=hx.of_heap (by rfl);suffices HS:Calls Tryz.prog 3 i0.args (w0.forCall tape i0) fun e W'=>∃v,e=.returned v∧Rows.topChargesSpec.post enc Tryz.prog Tryz.f3 false true false false (w0.forCall tape i0) i0.args v W' by
  refine HS.mono fun e W' ⟨v,he,hp⟩=>?_;subst he;exact ChangeSpec.post_blind hp
 generalize w0.forCall tape i0=W at hsh hval0 hw1 hL ⊢
 generalize i0.args=args at hval0 hw1 ⊢
 have hval:∀(j:Nat) t v,Tryz.f3.params[j]?=some t→args[j]?=some v→Value.okWide Tryz.prog W .any _ t v:=hval0;have hW':=hw1;obtain⟨p,q,hA0,hV,rfl,hfz,hnd⟩:=hw1;have hA:DataW.TrodAll enc Tryz.prog W 0 (fun _=>true) true Tryz.f3.params.toList args.toList ds p:=hA0;rw[Tryz.params3]at hA hval;obtain⟨v0,vs0,d0,ds0,p0,q0,hargs,rfl,rfl,h0,r0⟩:=trodAll_cons hA;obtain⟨v1,vs1,d1,ds1,p1,q1,rfl,rfl,rfl,h1,r1⟩:=trodAll_cons r0;obtain⟨rfl,rfl,rfl⟩:=trodAll_nil r1;obtain rfl:args=#[v0,v1]:=by cases args;simp_all
 obtain⟨rfl,rfl⟩:=trodVars_none hV;obtain⟨a0,rfl,rfl,rfl,w0⟩:=open_int Tryz.underlying3 (hval 0 3 v0 rfl rfl) h0;obtain⟨a1,len1,cap1,rfl⟩:=okWide_slice Tryz.underlying22 (hval 1 22 v1 rfl rfl);have k1:=h1;have lt1:∀x∈p1,x.block<W.heap.size:=by obtain⟨m,hm⟩:=k1;exact DataW.trod_lt m _ _ _ hm
 obtain⟨x1,e1,b1⟩:∃x:List Mv,len1=x.length∧ZE W a1 x:=by
  obtain⟨fuel,hf⟩:=h1;exact Iq (by simpa[Value.cells]using hf)
 subst e1;clear hA0 hval0;obtain⟨mm,HM⟩:=Py hsh;have TT:=Ir hL;refine(Aj a0 x1 a1 cap1 b1 HM fun W2 hb=>tab_below TT hb).mono fun e W' ⟨he,bel⟩=>?_;subst he;exact⟨_,rfl,_,_,_,[],_,[],hW',trodAll_mk1 (shut_bool Tryz.underlying4 _),(trodAll_cons_mk (shut_int Tryz.underlying3 w0) (trodAll_cons_mk (Below.trod laidOut (by kernel_rfl) (of_decide_eq_true (by kernel_rfl)) k1 bel lt1) trodAll_mk0)),rfl,bel.frame _,fun h=>by cases h⟩
theorem over:Rows.TopChargesSaid :=
 OpenClaim.holds_of_wide 3 Tryz.f3 rfl rfl rfl rfl rfl rfl rfl ⟨rfl,rfl,rfl,rfl,rfl⟩ rfl rfl rfl rfl rfl fname Tryz.func3 closed
  (of_decide_eq_true (by kernel_rfl)) (by unfold Func.isWrapper;first|(rw[if_pos (by decide +kernel)];kernel_rfl)|(rw[if_neg (by decide +kernel)];exact⟨rfl,rfl⟩))
  (fun os started H enc _=>lifted os started H enc)
end topCharges
end
section
theorem topCharges_holds:Rows.TopChargesCardSaid :=
 Claim7.holds_tied_plain_at .later [] [.data,.data,.data,.data,.pinned] true (true,"a9414e422898caab89ed97ee7844babe24d4d94e6468459f9858390815273d3f") true topCharges.over (fun _ h=>by cases h) YB (fun _ h=>by cases h) topCharges_row_tie rfl ⟨rfl,rfl⟩ Xb rfl
  (fun f fn hf hfn=>by
   obtain rfl:f=3:=(Option.some.inj (fname.symm.trans hf)).symm;obtain rfl:fn=Tryz.f3:=(Option.some.inj (Tryz.func3.symm.trans hfn)).symm;exact⟨Vd,fun j t ht=>by
    rw[Tryz.params3]at ht;have hm:t∈[3,22]:=by simpa using Array.mem_of_getElem? ht
    exact(show Tryz.prog.wantsStandIn t=false by simpa using List.all_eq_true.1 Ve t hm)⟩)
  Xc
#print axioms topCharges_holds
end
end Go.Proofs.YtandhagfhppgaaaGreatDoor
