/- Part 50 of a proof: contracts of the functions that the law reaches. No condition. -/
import Derived.Test.YtandhagfhppgaaaGreatDoorS15
import Derived.Test.YtandhagfhppgaaaGreatDoorS43
import Derived.Test.YtandhagfhppgaaaGreatDoorS46
set_option linter.all false
set_option maxRecDepth 100000
set_option maxHeartbeats 16000000
namespace Go.Proofs.YtandhagfhppgaaaGreatDoor
section
open Go.RowKit Go.ChangeMaps
theorem J.Ld (j:J):j.cells[16]?=some (.bool j.s.gV):=rfl
theorem uZ (js:List J)(bk:List Ch)(k:Nat):most js bk (k+1)=most js bk k+8:=by unfold most;omega
section
variable {w0 w:World}{M:List bW}
theorem Ur {a:qR}{pol now:Int}{js:List J}{bk:List Ch}{y:Yd}{m:Mx}{N F:Nat}(H:Has w0 w (CL a pol now js bk y m++M))(hy:y.ok N F)(hN:N≤700000)(hF:F≤100000)(x:Nat)(hx:x≤7) :
 Calls Tryz.prog 73 #[.pointer (some ⟨a.yb,0,none⟩),.int .i64 (x:Int)] w fun e w'=>∃r:Int,e=.returned (.int .i64 r)∧∃y':Yd,(code r∧y'.ok (N+3) (F+1))∧Has w0 w' (CL a pol now js bk y' m++M):=by
 obtain⟨RR,hop,hback⟩:=H.opened 12 (y.star a.yb) rfl;exact(JB hop hy hN hF x hx).mono fun e w' ⟨r,h1,y',h2,h3⟩=>⟨r,h1,y',h2,hback (y'.star a.yb) w' h3⟩
theorem Us {a:qR}{pol now:Int}{js:List J}{bk:List Ch}{y:Yd}{m:Mx}{N F:Nat}(H:Has w0 w (CL a pol now js bk y m++M))(hy:y.ok N F)(hN:N≤700000)(hF:F≤100000)(x:Nat)(hx:x≤7) :
 Calls Tryz.prog 45 #[.pointer (some ⟨a.yb,0,none⟩),.int .i64 (x:Int)] w fun e w'=>∃r:Int,e=.returned (.int .i64 r)∧∃y':Yd,(code r∧y'.ok (N+1) F)∧Has w0 w' (CL a pol now js bk y' m++M):=by
 obtain⟨RR,hop,hback⟩:=H.opened 12 (y.star a.yb) rfl;exact(JD hop hy hN hF x hx).mono fun e w' ⟨r,h1,y',h2,h3⟩=>⟨r,h1,y',h2,hback (y'.star a.yb) w' h3⟩
theorem down_calls {x:Nat}{pol:Int}{now:Nat}{js:List J}{bk:List Ch}{fl:List Int}{k:Nat}(hS:dF M w0 w x pol now js bk fl k)(dP:1≤pol∧pol≤4)(G:dL now js bk)(dB:now≤10000)(hk:k≤900)(wk:Nat)(hw:wk≤7) :
 Calls Tryz.prog 43 #[.pointer (some ⟨x,0,none⟩),.int .i64 0,.int .i64 (wk:Int)] w fun e w'=>∃(r:Int) (bI:List J) (bk':List Ch) (y5:List Int),e=.returned (.int .i64 r)∧(code r∧ig now js bk bI bk')∧dF M w0 w' x pol now bI bk' y5 (k+1):=by
 refine named fun R HQ=>?_;have hlen:=G.len;have GG:=ah.mk G;have HP:=ah.mk dP;obtain⟨a,y,m,rfl,ku,hy,hm,H⟩:=hS;have hN:=lu G k (by omega);have FC:=ah.mk (Ur H hy (by omega) (by omega) wk hw);have f14:w.cell? ⟨a.x,14,none⟩=some (.slice (some ⟨a.yr,0,none⟩) 1 a.PU):=by rw[aj (H.blk 0 rfl)];rfl
 have Qx:=pY H;have OK:=ah.mk hm;clear H ku hy hm G dP;go_enter Tryz.func43,Tryz.ntmps43;go_wp2_with (go_at_call 73;refine FC.out.mono ?_;rintro e w2 ⟨r,rfl,y2,⟨cr,ok2⟩,h2⟩;have CR:=ah.mk cr;clear cr;have S2:ah (dF M w0 w2 a.x pol now js bk y2.failed (k+1)):=⟨a,y2,m,rfl,rfl,ok2.mono (by rw[uZ];omega) (Nat.le_refl _),OK.out.mono (by rw[uZ];omega),h2⟩;have H2:=ah.mk h2;have HO:ah (y2.ok (most js bk (k+1)) (k+1)∧m.ok (most js bk (k+1))):=⟨ok2.mono (by rw[uZ];omega) (Nat.le_refl _),OK.out.mono (by rw[uZ];omega)⟩;clear h2 ok2;refine ah.out ?_)
 clear FC f14 Qx OK;by_cases hr:r=0
 ·subst hr;have AC:=ah.mk (jV H2.out 0 1 2 rfl rfl rfl rfl rfl (by omega));refine ah.mk ?_;go_wp2_with (go_at_call 61;refine AC.out.mono ?_;rintro e w3 ⟨A3,c3,rfl,h3⟩;have H3:=ah.mk h3;clear h3;refine ah.out ?_)
  obtain⟨Hu,Yf⟩:∃v,v=y2.failed:=⟨_,rfl⟩;have S3:ah (dF (aS (.slice A3 js.length c3) js::M) w0 w3 a.x pol now js bk Hu (k+1)):=⟨a,y2,m,rfl,Yf.symm,HO.out.1,HO.out.2,H3.out.ins (CL a pol now js bk y2 m) M⟩;clear AC H2 S2 H3 HO Yf;refine ah.mk ?_;go_wp2_with fail
  go_loopw [25] (fun i wr=>∃p:Nat,i=.int .i64 (p:Int)∧p≤js.length∧ah (∃bI bk',ig now js bk bI bk'∧dF (aS (.slice A3 js.length c3) js::M) w0 wr a.x pol now bI bk' Hu (k+1))) (fun i _=>js.length-(intOf i).toNat)
  case atStart=>exact⟨0,rfl,Nat.zero_le _,⟨js,bk,.refl,S3.out⟩⟩
  case round =>
   clear S3;obtain⟨p,rfl,hp,HB⟩:=hrel;obtain⟨bI,bk',ht,S3⟩:=HB.out;have HT:=ah.mk ht;have G3:=ah.mk (ht.sane GG.out).1;have S3:=ah.mk S3;clear HB ht;have w1:wrap64 ((p:Int)+1)=(p:Int)+1:=wrap_in (by omega) (by omega);by_cases hlt:p<js.length
   ·obtain⟨j,hj⟩:∃j,js[p]?=some j:=⟨_,List.getElem?_eq_getElem hlt⟩;obtain⟨b,y3,m3,hbx,ku,hy,hm,H3⟩:=S3.out;obtain⟨g,hA,hjr⟩:=(fF H3 14 rfl).get p j hj;subst hA;have RJ:ah (wr.rangeAt g (p*26) j.cells.toList):=⟨hjr⟩;have JO:=ah.mk (GG.out.jobs p j hj);have e1:(p:Int)<js.length:=by omega
    have j55:=eP j;have S5:ah (dF (aF wr.heap.size (.cells j.cells 55)::aS (.slice (some ⟨g,0,none⟩) js.length c3) js::M) w0 (wr.alloc (.cells j.cells 55)) a.x pol now bI bk' Hu (k+1)):=⟨b,y3,m3,hbx,ku,hy,hm,(H3.aZ (.cells j.cells 55)).ins (CL b pol now bI bk' y3 m3) _⟩;clear hj hjr H3 hbx ku hy hm;go_wp2_with (first|(refine aI rfl 55 (.tmp 27) rfl g (p*26) rfl j.cells _ RJ.out Tryz.underlying55 rfl j55 ?_)|(refine aB wr.heap.size rfl rfl 55 (.tmp 9) (.tmp 28) rfl j.cells rfl rfl 55 _ j55 rfl j.one ?_;refine ah.out ?_))
    obtain⟨W5,oM⟩:∃v,v=wr.alloc (.cells j.cells 55):=⟨_,rfl⟩;obtain⟨NJ,wH⟩:∃v,v=wr.heap.size:=⟨_,rfl⟩;rw[←oM,←wH]at S5 ⊢;clear oM wH RJ S3;have CJ:∀W,dF (aF NJ (.cells j.cells 55)::aS (.slice (some ⟨g,0,none⟩) js.length c3) js::M) w0 W a.x pol now bI bk' Hu (k+1)→W.heap[NJ]?=some (.cells j.cells 55):=fun W h=>by
     obtain⟨b,y3,m3,_,_,_,_,h3⟩:=h;exact h3.blk 14 rfl
    have RX:ah (∀W,Below W5.heap.size W5 W→W.rangeAt NJ 0 j.cells.toList):=⟨fun W h=>aX (CJ W (S5.out.below h)) 0 _ fun i v h=>by simpa using h⟩;have v18:W5.cell? ⟨NJ,18,none⟩=some (.int .i64 0):=by rw[aj (CJ _ S5.out)];exact j.tN
    have ST:=ah.mk fun W=>jv (w:=W) j;obtain⟨st,hst⟩:∃v,v=(j.how==3||j.how==4):=⟨_,rfl⟩;rw[←hst]at ST;cases st
    ·clear hst;refine ah.mk ?_;go_wp2_with (first|(go_at_call 68;refine(ST.out _).mono ?_;rintro e w6 ⟨rfl,hb⟩;have S6:=ah.mk (S5.out.below hb);clear hb)|(refine iy (by rfl) 55 (.tmp 9) rfl NJ 0 rfl j.cells _ (RX.out _ (Below.refl _ _)) Tryz.underlying55 rfl j55 ?_))
     go_roundw
     case rel=>exact⟨p+1,rfl,by omega,⟨bI,bk',HT.out,S6.out.drop1⟩⟩
     case measure=>simp[intOf];omega
    ·have hon:j.how=3∨j.how=4:=by have:=hst.symm;simpa using this
     obtain⟨ho,s,hs,hs7,_⟩:=JO.out.block hon;have oP:=JO.out.spec;obtain⟨q,hq⟩:∃q,q=ord j.s.size:=⟨_,rfl⟩;have hq3:q≤3:=by rw[hq];exact(lU oP.2.2.1 oP.2.2.2.1).1
     have IC:=ah.mk fun W=>AA s q (wk:Int) hs7 hq3 W;have c24:j.cells[24]?=some (.int .i64 (s:Int)):=by rw[←hs];exact j.tJ
     have c25:j.cells[25]?=some (.int .i64 (q:Int)):=by rw[hq,←ho];exact j.l9
     have Yg:ah (∀W,Below W5.heap.size W5 W→W.cell? ⟨NJ,24,none⟩=some (.int .i64 (s:Int))∧W.cell? ⟨NJ,25,none⟩=some (.int .i64 (q:Int))∧W.cell? ⟨NJ,16,none⟩=some (.bool j.s.gV)∧W.cell? ⟨NJ,0,none⟩=some (.int .u32 ((p:Int)+1))):=⟨fun W h=>by
      have h5:=CJ W (S5.out.below h);exact⟨by rw[aj h5];exact c24,by rw[aj h5];exact c25,by rw[aj h5];exact j.Ld,by rw[aj h5,j.o7,JO.out.id];rfl⟩⟩
     clear hst hon ho hs oP hq c24 c25 CJ;refine ah.mk ?_;go_wp2_with (first|(go_at_call 74;refine(IC.out _).mono ?_;rintro e w7 ⟨bb,rfl,hb⟩;have B7:=ah.mk (ay B6.out B6.out.size hb);clear hb u24 u25;refine ah.out ?_)|(go_at_call 68;refine(ST.out _).mono ?_;rintro e w6 ⟨rfl,hb⟩;have B6:=ah.mk hb;have u24:=(Yg.out _ hb).1;have u25:=(Yg.out _ hb).2.1;clear hb)|(refine iy (by rfl) 55 (.tmp 9) rfl NJ 0 rfl j.cells _ (RX.out _ (Below.refl _ _)) Tryz.underlying55 rfl j55 ?_))
     have S7:=ah.mk (S5.out.below B7.out);have u16:=(Yg.out _ B7.out).2.2.1;have u0:=(Yg.out _ B7.out).2.2.2;have O0:=ah.mk (mJ S7.out HP.out G3.out dB (by omega) (p+1) (by omega) 0 (.inl rfl));have O6:=ah.mk fun(W:World) (jH:List J) (bk2:List Ch) (h:dF (aF NJ (.cells j.cells 55)::aS (.slice (some ⟨g,0,none⟩) js.length c3) js::M) w0 W a.x pol now jH bk2 Hu (k+1)) (h2:ig now js bk jH bk2)=>mJ h HP.out (h2.sane GG.out).1 dB (by omega) (p+1) (by omega) 6 (.inr (.inr (.inl rfl)));have VN:ah (∀(W:World) (jH:List J) (bk2:List Ch),dF (aF NJ (.cells j.cells 55)::aS (.slice (some ⟨g,0,none⟩) js.length c3) js::M) w0 W a.x pol now jH bk2 Hu (k+1)→W.cell? ⟨NJ,0,none⟩=some (.int .u32 ((p:Int)+1))):=⟨fun W jH bk2 h=>by
      obtain⟨b,y3,m3,_,_,_,_,h3⟩:=h;rw[aj (h3.blk 14 rfl),j.o7,JO.out.id];rfl⟩
     clear v18 B7 Yg S5 RX IC ST;cases bb
     ·refine ah.mk ?_;go_wp2_with fail
      go_roundw
      case rel=>exact⟨p+1,rfl,by omega,⟨bI,bk',HT.out,S7.out.drop1⟩⟩
      case measure=>simp[intOf];omega
     ·cases hrq:j.s.gV
      ·rw[hrq]at u16;refine ah.mk ?_;go_wp2_with (go_at_call 37;refine(O6.out _ _ _ S7.out HT.out).mono ?_;rintro e w8 ⟨r8,jH,bk2,rfl,ht2,hs2⟩;have S8:=ah.mk hs2;have HT2:=ah.mk (HT.out.trans ht2.2);clear hs2 ht2)
       go_roundw
       case rel=>exact⟨p+1,rfl,by omega,⟨jH,bk2,HT2.out,S8.out.drop1⟩⟩
       case measure=>simp[intOf];omega
      ·rw[hrq]at u16;refine ah.mk ?_;go_wp2_with (go_at_call 37;refine O0.out.mono ?_;rintro e w8 ⟨r8,jH,bk2,rfl,ht2,hs2⟩;have S8:=ah.mk hs2;have HT2:=ah.mk (HT.out.trans ht2.2);clear hs2 ht2;refine ah.out ?_)
       have u8:=VN.out _ _ _ S8.out;clear O0 u16 u0;by_cases ZV:r8=0
       ·subst ZV;refine ah.mk ?_;go_wp2_with fail
        go_roundw
        case rel=>exact⟨p+1,rfl,by omega,⟨jH,bk2,HT2.out,S8.out.drop1⟩⟩
        case measure=>simp[intOf];omega
       ·have hz:(r8 != 0)=true:=by simpa using ZV
        clear ZV;refine ah.mk ?_;go_wp2_with (go_at_call 37;refine(O6.out _ _ _ S8.out HT2.out).mono ?_;rintro e w9 ⟨r9,wJ,bk3,rfl,ht3,hs3⟩;have S9:=ah.mk hs3;have HT3:=ah.mk (HT2.out.trans ht3.2);clear hs3 ht3)
        go_roundw
        case rel=>exact⟨p+1,rfl,by omega,⟨wJ,bk3,HT3.out,S9.out.drop1⟩⟩
        case measure=>simp[intOf];omega
   ·have e1:¬(p:Int)<js.length:=by omega
    go_wp2_with fail
    first|go_ret|skip
    rw[←HQ.out];exact⟨0,bI,bk',Hu,rfl,⟨⟨by decide,by decide⟩,HT.out⟩,S3.out.drop1⟩
 ·have hz:(r != 0)=true:=by simpa using hr
  clear hr H2;refine ah.mk ?_;go_wp2_with fail
  first|go_ret|skip
  rw[←HQ.out];exact⟨r,js,bk,_,rfl,⟨CR.out,.refl⟩,S2.out⟩
end
end
section
open Go.RowKit Go.ChangeMaps
section
variable {w0 w:World}{M:List bW}
theorem Ei (b:Nat)(h:w.cell? ⟨b,0,none⟩=some (.string aQ)) :
 Calls Tryz.prog 83 #[.agg fU,.pointer (some ⟨b,0,none⟩)] w fun e w'=>e=.returned (.bool true)∧Below w.heap.size w w':=by
 have hb:∀o,(w.alloc o).cell? ⟨b,0,none⟩=some (.string aQ):=fun o=>ak (au (Below.refl _ _) _) h;have hs:=Ad;unfold fU;clear h;go_enter Tryz.func83,Tryz.ntmps83;go_wp2_with fail
 go_ret;exact⟨by simp,au (Below.refl _ _) _⟩
theorem Nk (b pr c:Nat)(h:w.cell? ⟨b,0,none⟩=some (.string aQ))(hp:w.rangeAt pr 0 fU.toList) :
 Calls Tryz.prog 82 #[.slice (some ⟨pr,0,none⟩) 1 c,.func (.func 83) #[] #[.pointer (some ⟨b,0,none⟩)]] w fun e w'=>e=.returned (.int .i64 0)∧Below w.heap.size w w':=by
 have H:=ah.mk (And.intro h hp);clear h hp;go_enter Tryz.func82,Tryz.ntmps82;go_wp2_with fail
 refine wp_loop_rounds 1 ?_;rw[rounds_succ];go_wp2_with (first|(go_at_call 83;refine(Ei b H.out.1).mono ?_;rintro e w2 ⟨rfl,hb⟩;have H2:=ah.mk hb;clear hb)|(refine aI rfl 78 (.tmp 14) rfl pr 0 rfl fU _ H.out.2 Tryz.underlying78 rfl (by rw[show fU.size=4 from rfl];kernel_rfl) ?_))
 go_ret;exact⟨rfl,H2.out⟩
theorem Hw {x:Nat}{pol:Int}{now:Nat}{js:List J}{bk:List Ch}{fl:List Int}{k:Nat}(hS:dF M w0 w x pol now js bk fl k)(dP:1≤pol∧pol≤4)(G:dL now js bk)(dB:now≤10000)(hk:k≤900)(wk:Nat)(hw:wk≤7) :
 Calls Tryz.prog 48 #[.pointer (some ⟨x,0,none⟩),.iface 9 (.string aQ),.iface 3 (.int .i64 (wk:Int)),.func (.func 43) #[.pointer (some ⟨x,0,none⟩)] #[]] w fun e w'=>∃(r:Int) (bI:List J) (bk':List Ch) (y5:List Int),e=.returned (.int .i64 r)∧(code r∧ig now js bk bI bk')∧dF M w0 w' x pol now bI bk' y5 (k+1):=by
 refine named fun R HQ=>?_;have DC:=ah.mk fun(W:World) (h:Below w.heap.size w W)=>down_calls (hS.below h) dP G dB hk wk hw;obtain⟨a,y,m,rfl,ku,hy,hm,H⟩:=hS;have f5:∀o,(w.alloc o).cell? ⟨a.x,9,none⟩=some (.slice (some ⟨a.xp,0,none⟩) 1 a.NG):=fun o=>ak (au (Below.refl _ _) _) (by rw[aj (H.blk 0 rfl)];rfl);have IX:=ah.mk (Nk (w:=w.alloc (.cells #[.string aQ] 9)) w.heap.size a.xp a.NG (by rw[aj (heap_alloc_new w _)];rfl) (fun i v hv=>ak (au (Below.refl _ _) _) (bM H 4 rfl 0 fU.toList (fun k v hk=>by rw[Nat.zero_add];exact hk) i v hv)));have hs:=fun w=>Gu (.string aQ) 20 w;have hi:=fun w=>gJ (.int .i64 (wk:Int)) 20 w;clear H ku hy hm G dP;go_enter Tryz.func48,Tryz.ntmps48;go_wp2_with (first|(go_at_call 43;have _t:=H2.out;clear _t;refine(DC.out _ H2.out).mono ?_;rintro e w3 ⟨r,jH,bk2,Hu,rfl,ht,hs3⟩;have S3:=ah.mk (And.intro ht hs3);clear ht hs3)|(go_at_call 82;refine IX.out.mono ?_;rintro e w2 ⟨rfl,hb⟩;have H2:=ah.mk (ay (au (Below.refl _ _) _) (by simp) hb:Below w.heap.size w w2);clear hb))
 rw[←HQ.out];exact⟨r,jH,bk2,Hu,rfl,S3.out.1,S3.out.2⟩
theorem Le {x:Nat}{pol:Int}{now:Nat}{js:List J}{bk:List Ch}{fl:List Int}{k:Nat}(hS:dF M w0 w x pol now js bk fl k)(G:dL now js bk)(hk:k≤900)(wk:Nat)(hw:wk≤7)(bx:Nat)(hb:w.cell? ⟨bx,0,none⟩=some (.pointer (some ⟨x,0,none⟩))) :
 Calls Tryz.prog 44 #[.int .i64 0,.int .i64 (wk:Int),.pointer (some ⟨bx,0,none⟩)] w fun e w'=>∃(r:Int) (y5:List Int),e=.returned (.int .i64 r)∧code r∧dF M w0 w' x pol now js bk y5 (k+1):=by
 refine named fun R HQ=>?_;have hlen:=G.len;obtain⟨a,y,m,rfl,ku,hy,hm,H⟩:=hS;have hN:=lu G k (by omega);have HC:=ah.mk (Us H hy (by omega) (by omega) wk hw);have f14:w.cell? ⟨a.x,14,none⟩=some (.slice (some ⟨a.yr,0,none⟩) 1 a.PU):=by rw[aj (H.blk 0 rfl)];rfl
 have Qx:=pY H;have OK:=ah.mk hm;clear H ku hy hm G;go_enter Tryz.func44,Tryz.ntmps44;go_wp2_with (go_at_call 45;refine HC.out.mono ?_;rintro e w2 ⟨r,rfl,y2,⟨cr,ok2⟩,h2⟩;have S2:=ah.mk (And.intro cr (⟨a,y2,m,rfl,rfl,ok2.mono (by rw[uZ];omega) (by omega),OK.out.mono (by rw[uZ];omega),h2⟩:dF M w0 w2 a.x pol now js bk y2.failed (k+1)));clear h2 ok2 cr)
 rw[←HQ.out];exact⟨r,y2.failed,rfl,S2.out.1,S2.out.2⟩
theorem OY {x:Nat}{pol:Int}{now:Nat}{js:List J}{bk:List Ch}{fl:List Int}{k:Nat}(hS:dF M w0 w x pol now js bk fl k)(G:dL now js bk)(hk:k≤900)(wk:Nat)(hw:wk≤7)(bx:Nat)(hb:w.cell? ⟨bx,0,none⟩=some (.pointer (some ⟨x,0,none⟩))) :
 Calls Tryz.prog 48 #[.pointer (some ⟨x,0,none⟩),.iface 9 (.string aQ),.iface 3 (.int .i64 (wk:Int)),.func (.func 44) #[] #[.pointer (some ⟨bx,0,none⟩)]] w fun e w'=>∃(r:Int) (y5:List Int),e=.returned (.int .i64 r)∧code r∧dF M w0 w' x pol now js bk y5 (k+1):=by
 refine named fun R HQ=>?_;have DC:=ah.mk fun(W:World) (h:Below w.heap.size w W)=>Le (hS.below h) G hk wk hw bx (ak h hb);obtain⟨a,y,m,rfl,ku,hy,hm,H⟩:=hS;have f5:∀o,(w.alloc o).cell? ⟨a.x,9,none⟩=some (.slice (some ⟨a.xp,0,none⟩) 1 a.NG):=fun o=>ak (au (Below.refl _ _) _) (by rw[aj (H.blk 0 rfl)];rfl);have IX:=ah.mk (Nk (w:=w.alloc (.cells #[.string aQ] 9)) w.heap.size a.xp a.NG (by rw[aj (heap_alloc_new w _)];rfl) (fun i v hv=>ak (au (Below.refl _ _) _) (bM H 4 rfl 0 fU.toList (fun k v hk=>by rw[Nat.zero_add];exact hk) i v hv)));have hs:=fun w=>Gu (.string aQ) 20 w;have hi:=fun w=>gJ (.int .i64 (wk:Int)) 20 w;clear H ku hy hm G hb;go_enter Tryz.func48,Tryz.ntmps48;go_wp2_with (first|(go_at_call 44;have _t:=H2.out;clear _t;refine(DC.out _ H2.out).mono ?_;rintro e w3 ⟨r,Hu,rfl,cr,hs3⟩;have S3:=ah.mk (And.intro cr hs3);clear cr;clear hs3)|(go_at_call 82;refine IX.out.mono ?_;rintro e w2 ⟨rfl,hb⟩;have H2:=ah.mk (ay (au (Below.refl _ _) _) (by simp) hb:Below w.heap.size w w2);clear hb))
 rw[←HQ.out];exact⟨r,Hu,rfl,S3.out.1,S3.out.2⟩
end
end
section
open Go.RowKit Go.ChangeMaps
section
variable {w0 w w1:World}{M:List bW}
set_option maxRecDepth 1000000 in
theorem Ut {x:Nat}{pol:Int}{now:Nat}{js:List J}{bk:List Ch}{fl:List Int}{k:Nat}(hS:dF M w0 w x pol now js bk fl k)(dP:1≤pol∧pol≤4)(G:dL now js bk)(dB:now≤10000)(hk:k≤900)
 {mm:Int} (HM:w0.cell? ⟨0,0,none⟩=some (.int .i64 mm)) (TT:∀W,Below w0.heap.size w0 W→Tab W) (t s:ByteArray) (ht:Says t [⟨#[100,111,119,110]⟩,aQ,s]) (hs:oO s) (hn:numeral s=true) (hv:val s≤7) :
 Calls Tryz.prog 11 #[.pointer (some ⟨x,0,none⟩),.string t] w fun e w'=>∃(r:Int) (bI:List J) (bk':List Ch) (y5:List Int),e=.returned (.string (iO r))∧(code r∧ig now js bk bI bk')∧dF M w0 w' x pol now bI bk' y5 (k+1):=by
 refine named fun R HQ=>?_;obtain⟨w3,w4,w5,w6,w7,w8,w9,wA,wB,MP⟩:=jo w x;have MM:=ah.mk MP;have b8:=MP.b8;have b9:=MP.b9;have uY:=MP.uY;have CP:ah (∀W,Calls Tryz.prog 28 #[.string t,.string ⟨#[115,117,98,109,105,116,10]⟩] W fun e w'=>e=.returned (.tuple #[.string ⟨(Lib.trimPrefix t.data.toList [115,117,98,109,105,116,10]).toArray⟩,.bool false])∧w'=W):=⟨fun W=>(Tryz.strings_CutPrefix t ⟨#[115,117,98,109,105,116,10]⟩ W).mono fun e w' h=>by rw[show(⟨#[115,117,98,109,105,116,10]⟩:ByteArray).data.toList=[115,117,98,109,105,116,10]from rfl,ht.pre]at h;exact h⟩;have SP:ah (Calls Tryz.prog 46 #[.string t,.string ⟨#[32]⟩] wB fun e w'=>e=.returned (.slice (some ⟨wB.heap.size,0,none⟩) 3 3)∧w'=wB.alloc (.cells #[.string ⟨#[100,111,119,110]⟩,.string aQ,.string s] 9)):=⟨(Tryz.strings_Split t ⟨#[32]⟩ mm wB ht.size (ak (hS.below MP.h.old).old HM) (by decide)).mono fun e w' h=>by rw[ht.count,ht.split]at h;exact h⟩;have HC:=MP.h.aZ (.cells #[.string ⟨#[100,111,119,110]⟩,.string aQ,.string s] 9);have LK:=dR eG HC 1 rfl 104 9 101 Tryz.underlying104 Tryz.underlying9 .nilFunc (lC _) ⟨#[100,111,119,110]⟩ true;rw[if_pos rfl]at LK;have S1:=ah.mk (hS.front (show Has w (wB.alloc (.cells #[.string ⟨#[100,111,119,110]⟩,.string aQ,.string s] 9)) [aF w.heap.size (.cells #[.pointer (some ⟨x,0,none⟩)] 23),aF wB.heap.size (.cells #[.string ⟨#[100,111,119,110]⟩,.string aQ,.string s] 9)]from(HC.drop 1).drop 1));have c0:(wB.alloc (.cells #[.string ⟨#[100,111,119,110]⟩,.string aQ,.string s] 9)).cell? ⟨wB.heap.size,0,none⟩=some (.string ⟨#[100,111,119,110]⟩):=by rw[aj (heap_alloc_new wB _)];rfl
 have Uu:=dR eG HC 2 rfl 105 9 103 Tryz.underlying105 Tryz.underlying9 .nilFunc (Na _) ⟨#[100,111,119,110]⟩ true;rw[if_pos rfl]at Uu;have c1:(wB.alloc (.cells #[.string ⟨#[100,111,119,110]⟩,.string aQ,.string s] 9)).cell? ⟨wB.heap.size,1,none⟩=some (.string aQ):=by rw[aj (heap_alloc_new wB _)];rfl
 have c2:(wB.alloc (.cells #[.string ⟨#[100,111,119,110]⟩,.string aQ,.string s] 9)).cell? ⟨wB.heap.size,2,none⟩=some (.string s):=by rw[aj (heap_alloc_new wB _)];rfl
 have AC:=ah.mk (vW aQ s hs hn wB.heap.size 2 c1 c2 (by simp));have hi:=fun w=>gJ (.int .i64 (val s:Int)) 20 w;have hmm:=@run_makeMap Tryz.prog;have tj:=ht.jobs;have tb:=ht.book;have PP:=ah.mk dP;have GG:=ah.mk G;have rQ:=ah.mk TT;have HV:=ah.mk hv;clear hS dP G HM TT ht hs hn MP HC hv;have vX:ah ((Instr.lookup 104 (.map (some (w.heap.size+1))) (.string ⟨#[100,111,119,110]⟩) true).run Tryz.prog (wB.alloc (.cells #[.string ⟨#[100,111,119,110]⟩,.string aQ,.string s] 9))=.ok (.tuple #[.nilFunc,.bool false]) (wB.alloc (.cells #[.string ⟨#[100,111,119,110]⟩,.string aQ,.string s] 9))):=⟨by rw[show look (zQ x w.heap.size) ⟨#[100,111,119,110]⟩=none from rfl]at LK;exact LK⟩;have Yh:ah ((Instr.lookup 105 (.map (some w9.heap.size)) (.string ⟨#[100,111,119,110]⟩) true).run Tryz.prog (wB.alloc (.cells #[.string ⟨#[100,111,119,110]⟩,.string aQ,.string s] 9))=.ok (.tuple #[.func (.func 43) #[.pointer (some ⟨x,0,none⟩)] #[],.bool true]) (wB.alloc (.cells #[.string ⟨#[100,111,119,110]⟩,.string aQ,.string s] 9))):=⟨by rw[show look (V6 x w.heap.size) ⟨#[100,111,119,110]⟩=some (.func (.func 43) #[.pointer (some ⟨x,0,none⟩)] #[])from rfl]at Uu;exact Uu⟩;clear Uu;clear LK;have hneq:∀W,(binOp .neq 9 (.string ⟨#[100,111,119,110]⟩) (.string ⟨#[116,105,99,107]⟩)).run Tryz.prog W=.ok (.bool true) W:=fun _=>by kernel_rfl
 go_enter Tryz.func11,Tryz.ntmps11;go_wp2_with (go_at_call 28;refine(CP.out _).mono ?_;rintro e w' ⟨rfl,hw⟩;obtain rfl:=hw.symm;clear hw;refine ah.out ?_)
 refine ah.mk ?_;go_wp2_with (refine aG rfl 104 _ _ _ rfl rfl rfl rfl MM.out.u0 ?_;refine ah.out ?_)
 refine ah.mk ?_;go_wp2_with (refine aG rfl 104 _ _ _ rfl rfl rfl rfl MM.out.u1 ?_;refine ah.out ?_)
 refine ah.mk ?_;go_wp2_with (refine aG rfl 104 _ _ _ rfl rfl rfl rfl MM.out.u2 ?_;refine ah.out ?_)
 refine ah.mk ?_;go_wp2_with (refine aG rfl 104 _ _ _ rfl rfl rfl rfl MM.out.u3 ?_;refine ah.out ?_)
 refine ah.mk ?_;go_wp2_with (refine aG rfl 104 _ _ _ rfl rfl rfl rfl MM.out.u4 ?_;refine ah.out ?_)
 refine ah.mk ?_;go_wp2_with (refine aG rfl 104 _ _ _ rfl rfl rfl rfl MM.out.u5 ?_;refine ah.out ?_)
 refine ah.mk ?_;go_wp2_with (refine aG rfl 104 _ _ _ rfl rfl rfl rfl MM.out.u6 ?_;refine ah.out ?_)
 refine ah.mk ?_;go_wp2_with (refine aG rfl 105 _ _ _ rfl rfl rfl rfl MM.out.v0 ?_;refine ah.out ?_)
 refine ah.mk ?_;go_wp2_with (refine aG rfl 105 _ _ _ rfl rfl rfl rfl MM.out.v1 ?_;refine ah.out ?_)
 refine ah.mk ?_;go_wp2_with (go_at_call 46;refine SP.out.mono ?_;rintro e w' ⟨rfl,hw⟩;obtain rfl:=hw.symm;clear hw;refine ah.out ?_)
 clear SP CP tj tb b8 b9 uY MM hmm;refine ah.mk ?_;go_wp2_with (refine fH rfl 104 _ _ true rfl rfl rfl vX.out ?_;refine ah.out ?_)
 clear vX;refine ah.mk ?_;go_wp2_with (refine fH rfl 105 _ _ true rfl rfl rfl Yh.out ?_;refine ah.out ?_)
 clear Yh;refine ah.mk ?_;go_wp2_with (go_at_call 47;refine AC.out.mono ?_;rintro e wD ⟨A,cA,rfl,hD⟩;have HD:=ah.mk hD;clear hD;refine ah.out ?_)
 obtain⟨g,rfl,_⟩:=dG HD.out 0 rfl rfl (by simp);have cg:wD.drew.cell? ⟨g,0,none⟩=some (.iface 9 (.string aQ)):=by
  have:=bM HD.out.drew 0 rfl 0 [.iface 9 (.string aQ),.iface 3 (.int .i64 (val s:Int))] gZ 0 _ rfl;simpa using this
 have ch:wD.drew.cell? ⟨g,1,none⟩=some (.iface 3 (.int .i64 (val s:Int))):=by
  have:=bM HD.out.drew 0 rfl 0 [.iface 9 (.string aQ),.iface 3 (.int .i64 (val s:Int))] gZ 1 _ rfl;simpa using this
 have S2:=ah.mk (S1.out.below HD.out.old);have bD:wD.drew.cell? ⟨w.heap.size,0,none⟩=some (.pointer (some ⟨x,0,none⟩)):=by rw[aj (show dF (_::_) w0 wD.drew x pol now js bk fl k from S2.out.below (aC (Below.refl _ _) 1)).blk0];rfl
 have FC:ah (Calls Tryz.prog 48 #[.pointer (some ⟨x,0,none⟩),.iface 9 (.string aQ),.iface 3 (.int .i64 (val s:Int)),.func (.func 43) #[.pointer (some ⟨x,0,none⟩)] #[]] wD.drew _):=ah.mk (Hw (S2.out.below (aC (Below.refl _ _) 1)) PP.out GG.out dB hk (val s) HV.out);have HG:wD.drew.cell? ⟨w.heap.size,0,none⟩=some (.pointer (some ⟨x,0,none⟩))∧wD.drew.cell? ⟨g,0,none⟩=some (.iface 9 (.string aQ))∧wD.drew.cell? ⟨g,1,none⟩=some (.iface 3 (.int .i64 (val s:Int)))∧True:=⟨bD,cg,ch,trivial⟩;clear AC c0 c1 c2 S1 HD S2 bD cg ch;refine ah.mk ?_;go_wp2_with fail
 refine aK (fun W=>W.cell? ⟨w.heap.size,0,none⟩=some (.pointer (some ⟨x,0,none⟩))∧W.cell? ⟨g,0,none⟩=some (.iface 9 (.string aQ))∧W.cell? ⟨g,1,none⟩=some (.iface 3 (.int .i64 (val s:Int)))∧True) 8 (by kernel_rfl) (by kernel_rfl) ?_;refine bg 0 HG ?_;refine bg 1 HG ?_;refine bg 2 HG ?_;refine bg 3 HG ?_;refine bg 4 HG ?_;refine bg 5 HG ?_;refine bg 6 HG ?_;refine bg 7 HG ?_;refine aO (by kernel_rfl) ?_;simp only[List.drop_succ_cons,List.drop_zero];clear HG;go_wp2_with (go_at_call 48;refine FC.out.mono ?_;rintro e wE ⟨r,jH,bk2,Hu,rfl,ht,hs3⟩;have S3:=ah.mk hs3;have HT:=ah.mk ht;clear hs3 ht;refine ah.out ?_)
 clear FC;have bE:wE.cell? ⟨w.heap.size,0,none⟩=some (.pointer (some ⟨x,0,none⟩)):=by rw[aj S3.out.blk0];rfl
 have cE:wE.cell? ⟨wB.heap.size,0,none⟩=some (.string ⟨#[100,111,119,110]⟩):=by rw[aj S3.out.Dz];rfl
 by_cases hr:r=0
 ·subst hr;have SC:=ah.mk (fK S3.out PP.out (HT.out.2.sane GG.out).1 dB (by omega));refine ah.mk ?_;go_wp2_with (go_at_call 49;refine SC.out.mono ?_;rintro e wF ⟨rfl,wJ,ht,hs3⟩;have S4:=ah.mk hs3;have HT2:=ah.mk ht;clear hs3 ht;refine ah.out ?_)
  have TC:=ah.mk (dQ 0 ⟨by decide,by decide⟩ (rQ.out _ S4.out.old));refine ah.mk ?_;go_wp2_with (go_at_call 27;refine TC.out.mono ?_;rintro e wG ⟨rfl,hb⟩;have HG:=ah.mk hb;clear hb)
  first|go_ret2|go_ret|skip
  rw[←HQ.out];exact⟨0,wJ,bk2,Hu,rfl,⟨⟨by decide,by decide⟩,HT.out.2.trans (HT2.out.went _)⟩,(S4.out.below HG.out).drop1.drop1⟩
 ·have e0:(r==0)=false:=by simpa using hr
  have TC:=ah.mk (dQ r HT.out.1 (rQ.out _ S3.out.old));clear hr;refine ah.mk ?_;go_wp2_with (go_at_call 27;refine TC.out.mono ?_;rintro e wG ⟨rfl,hb⟩;have HG:=ah.mk hb;clear hb)
  first|go_ret2|go_ret|skip
  rw[←HQ.out];exact⟨r,jH,bk2,Hu,rfl,HT.out,(S3.out.below HG.out).drop1.drop1⟩
set_option maxRecDepth 1000000 in
theorem Yi {x:Nat}{pol:Int}{now:Nat}{js:List J}{bk:List Ch}{fl:List Int}{k:Nat}(hS:dF M w0 w x pol now js bk fl k)(dP:1≤pol∧pol≤4)(G:dL now js bk)(dB:now≤10000)(hk:k≤900)
 {mm:Int} (HM:w0.cell? ⟨0,0,none⟩=some (.int .i64 mm)) (TT:∀W,Below w0.heap.size w0 W→Tab W) (t s:ByteArray) (ht:Says t [⟨#[117,112]⟩,aQ,s]) (hs:oO s) (hn:numeral s=true) (hv:val s≤7) :
 Calls Tryz.prog 11 #[.pointer (some ⟨x,0,none⟩),.string t] w fun e w'=>∃(r:Int) (bI:List J) (bk':List Ch) (y5:List Int),e=.returned (.string (iO r))∧(code r∧ig now js bk bI bk')∧dF M w0 w' x pol now bI bk' y5 (k+1):=by
 refine named fun R HQ=>?_;obtain⟨w3,w4,w5,w6,w7,w8,w9,wA,wB,MP⟩:=jo w x;have MM:=ah.mk MP;have b8:=MP.b8;have b9:=MP.b9;have uY:=MP.uY;have CP:ah (∀W,Calls Tryz.prog 28 #[.string t,.string ⟨#[115,117,98,109,105,116,10]⟩] W fun e w'=>e=.returned (.tuple #[.string ⟨(Lib.trimPrefix t.data.toList [115,117,98,109,105,116,10]).toArray⟩,.bool false])∧w'=W):=⟨fun W=>(Tryz.strings_CutPrefix t ⟨#[115,117,98,109,105,116,10]⟩ W).mono fun e w' h=>by rw[show(⟨#[115,117,98,109,105,116,10]⟩:ByteArray).data.toList=[115,117,98,109,105,116,10]from rfl,ht.pre]at h;exact h⟩;have SP:ah (Calls Tryz.prog 46 #[.string t,.string ⟨#[32]⟩] wB fun e w'=>e=.returned (.slice (some ⟨wB.heap.size,0,none⟩) 3 3)∧w'=wB.alloc (.cells #[.string ⟨#[117,112]⟩,.string aQ,.string s] 9)):=⟨(Tryz.strings_Split t ⟨#[32]⟩ mm wB ht.size (ak (hS.below MP.h.old).old HM) (by decide)).mono fun e w' h=>by rw[ht.count,ht.split]at h;exact h⟩;have HC:=MP.h.aZ (.cells #[.string ⟨#[117,112]⟩,.string aQ,.string s] 9);have LK:=dR eG HC 1 rfl 104 9 101 Tryz.underlying104 Tryz.underlying9 .nilFunc (lC _) ⟨#[117,112]⟩ true;rw[if_pos rfl]at LK;have S1:=ah.mk (hS.front (show Has w (wB.alloc (.cells #[.string ⟨#[117,112]⟩,.string aQ,.string s] 9)) [aF w.heap.size (.cells #[.pointer (some ⟨x,0,none⟩)] 23),aF wB.heap.size (.cells #[.string ⟨#[117,112]⟩,.string aQ,.string s] 9)]from(HC.drop 1).drop 1));have c0:(wB.alloc (.cells #[.string ⟨#[117,112]⟩,.string aQ,.string s] 9)).cell? ⟨wB.heap.size,0,none⟩=some (.string ⟨#[117,112]⟩):=by rw[aj (heap_alloc_new wB _)];rfl
 have Uu:=dR eG HC 2 rfl 105 9 103 Tryz.underlying105 Tryz.underlying9 .nilFunc (Na _) ⟨#[117,112]⟩ true;rw[if_pos rfl]at Uu;have c1:(wB.alloc (.cells #[.string ⟨#[117,112]⟩,.string aQ,.string s] 9)).cell? ⟨wB.heap.size,1,none⟩=some (.string aQ):=by rw[aj (heap_alloc_new wB _)];rfl
 have c2:(wB.alloc (.cells #[.string ⟨#[117,112]⟩,.string aQ,.string s] 9)).cell? ⟨wB.heap.size,2,none⟩=some (.string s):=by rw[aj (heap_alloc_new wB _)];rfl
 have AC:=ah.mk (vW aQ s hs hn wB.heap.size 2 c1 c2 (by simp));have hi:=fun w=>gJ (.int .i64 (val s:Int)) 20 w;have hmm:=@run_makeMap Tryz.prog;have tj:=ht.jobs;have tb:=ht.book;have PP:=ah.mk dP;have GG:=ah.mk G;have rQ:=ah.mk TT;have HV:=ah.mk hv;clear hS dP G HM TT ht hs hn MP HC hv;have vX:ah ((Instr.lookup 104 (.map (some (w.heap.size+1))) (.string ⟨#[117,112]⟩) true).run Tryz.prog (wB.alloc (.cells #[.string ⟨#[117,112]⟩,.string aQ,.string s] 9))=.ok (.tuple #[.nilFunc,.bool false]) (wB.alloc (.cells #[.string ⟨#[117,112]⟩,.string aQ,.string s] 9))):=⟨by rw[show look (zQ x w.heap.size) ⟨#[117,112]⟩=none from rfl]at LK;exact LK⟩;have Yh:ah ((Instr.lookup 105 (.map (some w9.heap.size)) (.string ⟨#[117,112]⟩) true).run Tryz.prog (wB.alloc (.cells #[.string ⟨#[117,112]⟩,.string aQ,.string s] 9))=.ok (.tuple #[.func (.func 44) #[] #[.pointer (some ⟨w.heap.size,0,none⟩)],.bool true]) (wB.alloc (.cells #[.string ⟨#[117,112]⟩,.string aQ,.string s] 9))):=⟨by rw[show look (V6 x w.heap.size) ⟨#[117,112]⟩=some (.func (.func 44) #[] #[.pointer (some ⟨w.heap.size,0,none⟩)])from rfl]at Uu;exact Uu⟩;clear Uu;clear LK;have hneq:∀W,(binOp .neq 9 (.string ⟨#[117,112]⟩) (.string ⟨#[116,105,99,107]⟩)).run Tryz.prog W=.ok (.bool true) W:=fun _=>by kernel_rfl
 go_enter Tryz.func11,Tryz.ntmps11;go_wp2_with (go_at_call 28;refine(CP.out _).mono ?_;rintro e w' ⟨rfl,hw⟩;obtain rfl:=hw.symm;clear hw;refine ah.out ?_)
 refine ah.mk ?_;go_wp2_with (refine aG rfl 104 _ _ _ rfl rfl rfl rfl MM.out.u0 ?_;refine ah.out ?_)
 refine ah.mk ?_;go_wp2_with (refine aG rfl 104 _ _ _ rfl rfl rfl rfl MM.out.u1 ?_;refine ah.out ?_)
 refine ah.mk ?_;go_wp2_with (refine aG rfl 104 _ _ _ rfl rfl rfl rfl MM.out.u2 ?_;refine ah.out ?_)
 refine ah.mk ?_;go_wp2_with (refine aG rfl 104 _ _ _ rfl rfl rfl rfl MM.out.u3 ?_;refine ah.out ?_)
 refine ah.mk ?_;go_wp2_with (refine aG rfl 104 _ _ _ rfl rfl rfl rfl MM.out.u4 ?_;refine ah.out ?_)
 refine ah.mk ?_;go_wp2_with (refine aG rfl 104 _ _ _ rfl rfl rfl rfl MM.out.u5 ?_;refine ah.out ?_)
 refine ah.mk ?_;go_wp2_with (refine aG rfl 104 _ _ _ rfl rfl rfl rfl MM.out.u6 ?_;refine ah.out ?_)
 refine ah.mk ?_;go_wp2_with (refine aG rfl 105 _ _ _ rfl rfl rfl rfl MM.out.v0 ?_;refine ah.out ?_)
 refine ah.mk ?_;go_wp2_with (refine aG rfl 105 _ _ _ rfl rfl rfl rfl MM.out.v1 ?_;refine ah.out ?_)
 refine ah.mk ?_;go_wp2_with (go_at_call 46;refine SP.out.mono ?_;rintro e w' ⟨rfl,hw⟩;obtain rfl:=hw.symm;clear hw;refine ah.out ?_)
 clear SP CP tj tb b8 b9 uY MM hmm;refine ah.mk ?_;go_wp2_with (refine fH rfl 104 _ _ true rfl rfl rfl vX.out ?_;refine ah.out ?_)
 clear vX;refine ah.mk ?_;go_wp2_with (refine fH rfl 105 _ _ true rfl rfl rfl Yh.out ?_;refine ah.out ?_)
 clear Yh;refine ah.mk ?_;go_wp2_with (go_at_call 47;refine AC.out.mono ?_;rintro e wD ⟨A,cA,rfl,hD⟩;have HD:=ah.mk hD;clear hD;refine ah.out ?_)
 obtain⟨g,rfl,_⟩:=dG HD.out 0 rfl rfl (by simp);have cg:wD.drew.cell? ⟨g,0,none⟩=some (.iface 9 (.string aQ)):=by
  have:=bM HD.out.drew 0 rfl 0 [.iface 9 (.string aQ),.iface 3 (.int .i64 (val s:Int))] gZ 0 _ rfl;simpa using this
 have ch:wD.drew.cell? ⟨g,1,none⟩=some (.iface 3 (.int .i64 (val s:Int))):=by
  have:=bM HD.out.drew 0 rfl 0 [.iface 9 (.string aQ),.iface 3 (.int .i64 (val s:Int))] gZ 1 _ rfl;simpa using this
 have S2:=ah.mk (S1.out.below HD.out.old);have bD:wD.drew.cell? ⟨w.heap.size,0,none⟩=some (.pointer (some ⟨x,0,none⟩)):=by rw[aj (show dF (_::_) w0 wD.drew x pol now js bk fl k from S2.out.below (aC (Below.refl _ _) 1)).blk0];rfl
 have FC:ah (Calls Tryz.prog 48 #[.pointer (some ⟨x,0,none⟩),.iface 9 (.string aQ),.iface 3 (.int .i64 (val s:Int)),.func (.func 44) #[] #[.pointer (some ⟨w.heap.size,0,none⟩)]] wD.drew _):=ah.mk (OY (S2.out.below (aC (Below.refl _ _) 1)) GG.out hk (val s) HV.out w.heap.size bD);have HG:wD.drew.cell? ⟨w.heap.size,0,none⟩=some (.pointer (some ⟨x,0,none⟩))∧wD.drew.cell? ⟨g,0,none⟩=some (.iface 9 (.string aQ))∧wD.drew.cell? ⟨g,1,none⟩=some (.iface 3 (.int .i64 (val s:Int)))∧True:=⟨bD,cg,ch,trivial⟩;clear AC c0 c1 c2 S1 HD S2 bD cg ch;refine ah.mk ?_;go_wp2_with fail
 refine aK (fun W=>W.cell? ⟨w.heap.size,0,none⟩=some (.pointer (some ⟨x,0,none⟩))∧W.cell? ⟨g,0,none⟩=some (.iface 9 (.string aQ))∧W.cell? ⟨g,1,none⟩=some (.iface 3 (.int .i64 (val s:Int)))∧True) 8 (by kernel_rfl) (by kernel_rfl) ?_;refine bg 0 HG ?_;refine bg 1 HG ?_;refine bg 2 HG ?_;refine bg 3 HG ?_;refine bg 4 HG ?_;refine bg 5 HG ?_;refine bg 6 HG ?_;refine bg 7 HG ?_;refine aO (by kernel_rfl) ?_;simp only[List.drop_succ_cons,List.drop_zero];clear HG;go_wp2_with (go_at_call 48;refine FC.out.mono ?_;rintro e wE ⟨r,Hu,rfl,cr,hs3⟩;have S3:=ah.mk hs3;have HT:=ah.mk (And.intro cr (ig.refl (now:=(now:Int)) (js:=js) (bk:=bk)));clear hs3 cr;refine ah.out ?_)
 clear FC;have bE:wE.cell? ⟨w.heap.size,0,none⟩=some (.pointer (some ⟨x,0,none⟩)):=by rw[aj S3.out.blk0];rfl
 have cE:wE.cell? ⟨wB.heap.size,0,none⟩=some (.string ⟨#[117,112]⟩):=by rw[aj S3.out.Dz];rfl
 by_cases hr:r=0
 ·subst hr;have SC:=ah.mk (fK S3.out PP.out (HT.out.2.sane GG.out).1 dB (by omega));refine ah.mk ?_;go_wp2_with (go_at_call 49;refine SC.out.mono ?_;rintro e wF ⟨rfl,wJ,ht,hs3⟩;have S4:=ah.mk hs3;have HT2:=ah.mk ht;clear hs3 ht;refine ah.out ?_)
  have TC:=ah.mk (dQ 0 ⟨by decide,by decide⟩ (rQ.out _ S4.out.old));refine ah.mk ?_;go_wp2_with (go_at_call 27;refine TC.out.mono ?_;rintro e wG ⟨rfl,hb⟩;have HG:=ah.mk hb;clear hb)
  first|go_ret2|go_ret|skip
  rw[←HQ.out];exact⟨0,wJ,bk,Hu,rfl,⟨⟨by decide,by decide⟩,HT.out.2.trans (HT2.out.went _)⟩,(S4.out.below HG.out).drop1.drop1⟩
 ·have e0:(r==0)=false:=by simpa using hr
  have TC:=ah.mk (dQ r HT.out.1 (rQ.out _ S3.out.old));clear hr;refine ah.mk ?_;go_wp2_with (go_at_call 27;refine TC.out.mono ?_;rintro e wG ⟨rfl,hb⟩;have HG:=ah.mk hb;clear hb)
  first|go_ret2|go_ret|skip
  rw[←HQ.out];exact⟨r,js,bk,Hu,rfl,HT.out,(S3.out.below HG.out).drop1.drop1⟩
end
end
end Go.Proofs.YtandhagfhppgaaaGreatDoor
