/- Part 32 of a proof: contracts of the functions that the law reaches. No condition. -/
import Derived.Test.YtandhagfhppgaaaGreatDoorS18
import Derived.Test.YtandhagfhppgaaaGreatDoorS24
import Derived.Test.YtandhagfhppgaaaGreatDoorS26
import Derived.Test.YtandhagfhppgaaaGreatDoorS30
set_option linter.all false
set_option maxRecDepth 100000
set_option maxHeartbeats 16000000
namespace Go.Proofs.YtandhagfhppgaaaGreatDoor
section
open Go.RowKit
section
variable {w:World}
theorem Oj {fA bA wA:Option Addr}{fn fc bn bc wn wc:Nat}{fl:List Int}{ts:List Tk}{ws:List Wa}(hf:bU w 1 encI (.slice fA fn fc) fl)(hb:w.ownsRow 0 292 4 (.slice bA bn bc) bn (ts.flatMap jX))(hbn:bn=ts.length)(hw:bU w 3 oI (.slice wA wn wc) ws)
 (hok:∀t∈ts,t.ok) (hws:∀x∈ws,x.ok) (h1:fn≤1000) (h2:bn≤500) (h3:wn≤300) (now:Int) (hn0:0≤now) (hn1:now≤1000000) :
 Calls Tryz.prog 249 #[.agg (dK fA bA fn fc bn bc),.slice wA wn wc,.int .i64 now,.agg (rE 252 253)] w fun e w'=>∃(A2:Option Addr) (n2 c2:Nat) (r:Int) (sl:List Sl),e=.returned (.tuple #[.slice A2 n2 c2,.int .i64 r])∧(∀x∈sl,x.of ws)∧Has w w' [aV 233 4 dJ (.slice A2 n2 c2) sl]∧n2=sl.length:=by
 refine named fun R HQ=>?_;have hrb:bU w 4 jX (.slice bA bn bc) ts:=rX hbn jP hb;have CK:=ah.mk fun(W:World) (h:Below w.heap.size w W)=>nZ (w:=W) (hf.below h) (hrb.below h) hok h1 (by omega);have XB:=ah.mk fun(L:List bW) (W:World) (h:Below w.heap.size w W) (H:Has w W L)=>oq H (own_below hb h) (by omega) (Dj ts);have EA:=ah.mk fun(W:World) (h:Below w.heap.size w W) (q:Nat) (hq:q≤3) (fr ln:Int)=>iF (w:=W) (hf.below h) (hrb.below h) hok h1 (by omega) q hq fr ln;have HF:=ah.mk hf;have HW:=ah.mk hw;have WL:=ah.mk hw.len;have U3:=ah.mk hws;have Qn:=ah.mk (And.intro hok hbn);have H0:=ah.mk (((Has.start w).aZ (.cells (dK fA bA fn fc bn bc) 230)).aZ (.cells (rE 252 253) 331));have q1:¬now<0:=by omega
 have q2:¬(1099511627776:Int)<now:=by omega
 have q3:¬(300:Int)<wn:=by omega
 clear hf hb hbn hw hok hws hrb;unfold dK rE;unfold dK rE at H0;go_enter Tryz.func249,Tryz.ntmps249;go_wp2_with (go_at_call 294;refine(CK.out _ H0.out.old).mono ?_;rintro e w1 ⟨r,rfl,hb1⟩;have H1:=ah.mk (H0.out.up hb1);clear hb1;refine ah.out ?_)
 by_cases hr0:r=0
 ·subst hr0;clear H0;refine ah.mk ?_;go_wp2_with fail
  go_loopw [42] (fun i wr=>∃(k:Nat),i=.int .i64 k∧k≤wn∧ah (Has w wr [aF w.heap.size (.cells #[.int .i64 3,.slice fA fn fc,.slice bA bn bc] 230),aF (w.heap.size+1) (.cells #[.func (.func 252) #[] #[],.func (.func 253) #[] #[]] 331)])) (fun i _=>wn-(intOf i).toNat)
  case atStart=>exact⟨0,rfl,Nat.zero_le _,⟨by have:=H1.out;simpa using this⟩⟩
  case round =>
   clear H1;obtain⟨k,rfl,hk,HS⟩:=hrel;by_cases hlt:k<wn
   ·obtain⟨x,hx⟩:∃y,ws[k]?=some y:=⟨_,List.getElem?_eq_getElem (by rw[←WL.out];exact hlt)⟩;obtain⟨gb,hA,gK⟩:=(HW.out.below HS.out.old).get k x hx;have R1:ah (wr.rangeAt gb (k*3) x.cells.toList):=⟨gK⟩;have xk:=U3.out x (List.mem_of_getElem? hx);have H5:=ah.mk ((HS.out.aZ (.cells x.cells 225)).drop 2);obtain⟨ln,hln⟩:∃v,v=x.len:=⟨_,rfl⟩;obtain⟨q,hq⟩:∃v,v=x.q:=⟨_,rfl⟩;have k1:x.cells[1]?=some (.int .i64 (q:Int)):=by rw[hq];rfl
    have k2:x.cells[2]?=some (.int .i64 ln):=by rw[hln];rfl
    have pU:=Au x;have p1:¬(q:Int)<0:=by omega
    have p2:¬ln<1:=by rw[hln];have:=xk.len1;omega
    have p3:¬(1099511627776:Int)<ln:=by rw[hln];have:=xk.len;omega
    subst hA;clear gK hx hln hq xk;go_wp2_with (first|(refine aB wr.heap.size rfl rfl 225 (.tmp 11) (.tmp 45) rfl x.cells rfl rfl 225 _ pU rfl x.one ?_)|(refine aI rfl 225 (.tmp 44) rfl gb (k*3) rfl x.cells _ R1.out Tryz.underlying225 rfl pU ?_))
    go_roundw
    case rel=>exact⟨k+1,by go_num,by omega,H5⟩
    case measure=>simp[intOf];omega
   ·obtain rfl:wn=k:=by omega
    have c0:wr.cell? ⟨w.heap.size,0,none⟩=some (.int .i64 3):=by rw[aj (HS.out.blk 0 rfl)];rfl
    have c1:wr.cell? ⟨w.heap.size,1,none⟩=some (.slice fA fn fc):=by rw[aj (HS.out.blk 0 rfl)];rfl
    have c2:wr.cell? ⟨w.heap.size,2,none⟩=some (.slice bA bn bc):=by rw[aj (HS.out.blk 0 rfl)];rfl
    have c3:∀o,(wr.alloc o).cell? ⟨w.heap.size,2,none⟩=some (.slice bA bn bc):=fun o=>ak (au (Below.refl _ _) _) c2;have H2:=ah.mk (HS.out.aZ (.cells #[.int .i64 3,.slice fA fn fc,.slice bA bn bc] 230));have C2:=ah.mk (XB.out _ _ H2.out.old H2.out);obtain⟨N2,U4⟩:∃N2,N2=wr.heap.size:=⟨_,rfl⟩;have NW:=ah.mk U4;clear U4;go_wp2_with (go_at_call 295;refine C2.out.mono ?_;rintro e w3 ⟨A1,c1',rfl,h3⟩;have H3:=ah.mk h3;clear h3;refine ah.out ?_)
    have d2:w3.cell? ⟨w.heap.size,2,none⟩=some (.slice bA bn bc):=by rw[aj (H3.out.blk 0 rfl)];rfl
    have f2:w3.frozen? ⟨w.heap.size,2,none⟩=false:=aJ (H3.out.blk 0 rfl) _;have H4:ah (Has w (w3.setCell ⟨w.heap.size,2,none⟩ (.slice A1 bn c1')) (sV w.heap.size N2 252 253 fA bA fn fc bn bc A1 bn c1' ts none 0 0 [])):=⟨by
     have h:=(H3.out.put 0 rfl 2 (.slice A1 bn c1') #[.int .i64 3,.slice fA fn fc,.slice A1 bn c1'] rfl).nilRow 233 4 dJ;have e:ts.length=bn:=Qn.out.2.symm;unfold sV aV;rw[e];rw[←NW.out]at h;exact h⟩
    rw[←NW.out];clear c0 c1 c2 c3 H2 C2 HS H3 NW;refine ah.mk ?_;go_wp2_with fail
    go_loopw [12,14,67] (fun v g i wr=>∃(k wt m m3 c1 c3:Nat) (A1 A3:Option Addr) (sl:List Sl) (ts':List Tk),v=.slice A1 m c1∧g=.int .i64 wt∧i=.int .i64 k∧k≤wn∧m≤k∧m3≤bn+k∧wt≤k∧ah (m=sl.length∧m3=ts'.length∧(∀t∈ts',t.ok)∧∀x∈sl,x.of ws)∧ah (Has w wr (sV w.heap.size N2 252 253 fA bA fn fc bn bc A3 m3 c3 ts' A1 m c1 sl))) (fun _ _ i _=>wn-(intOf i).toNat)
    case atStart=>exact⟨0,0,0,bn,0,c1',none,A1,[],ts,rfl,rfl,rfl,Nat.zero_le _,Nat.le_refl _,Nat.le_refl _,Nat.le_refl _,⟨rfl,Qn.out.2,Qn.out.1,fun x hx=>by cases hx⟩,H4⟩
    case round =>
     clear H4;obtain⟨k,wt,m,m3,c1,c3,A1,A3,sl,ts',rfl,rfl,rfl,hk,hm,hm3,hwt,HP,HS⟩:=hrel;by_cases hlt:k<wn
     ·obtain⟨x,hx⟩:∃y,ws[k]?=some y:=⟨_,List.getElem?_eq_getElem (by rw[←WL.out];exact hlt)⟩;obtain⟨gb,hA,gK⟩:=(HW.out.below HS.out.old).get k x hx;have R1:ah (wr.rangeAt gb (k*3) x.cells.toList):=⟨gK⟩;have xk:=U3.out x (List.mem_of_getElem? hx);obtain⟨ln,hln⟩:∃v,v=x.len:=⟨_,rfl⟩;obtain⟨q,hq⟩:∃v,v=x.q:=⟨_,rfl⟩;obtain⟨pV,hid⟩:∃v,v=x.id:=⟨_,rfl⟩;have HX:ah (x∈ws∧x.id=pV∧x.q=q∧q≤3):=⟨List.mem_of_getElem? hx,hid.symm,hq.symm,by rw[hq];exact xk.q⟩;have H5:=ah.mk (HS.out.aZ (.cells x.cells 225));have pU:=Au x;have p3:¬(3:Int)<q:=by have:=xk.q;omega
      subst hA;have k0:x.cells[0]?=some (.int .u32 (pV:Int)):=by rw[hid];rfl
      have k1:x.cells[1]?=some (.int .i64 (q:Int)):=by rw[hq];rfl
      have k2:x.cells[2]?=some (.int .i64 ln):=by rw[hln];rfl
      clear gK hx xk hq hid hln;go_wp2_with (first|(refine aB wr.heap.size rfl rfl 225 (.tmp 16) (.tmp 70) rfl x.cells rfl rfl 225 _ pU rfl x.one ?_;refine ah.out ?_)|(refine aI rfl 225 (.tmp 69) rfl gb (k*3) rfl x.cells _ R1.out Tryz.underlying225 rfl pU ?_))
      obtain⟨W5,oM⟩:∃W5,W5=wr.alloc (.cells x.cells 225):=⟨_,rfl⟩;rw[←oM]at H5 ⊢;have MI:ah (Below w.heap.size w W5):=⟨H5.out.old⟩;clear oM R1;have s0:∀g:GW W5,g.W.cell? ⟨w.heap.size,0,none⟩=some (.int .i64 3):=fun g=>g.cell (by rw[aj (H5.out.blk 0 rfl)];rfl);have s1:∀g:GW W5,g.W.cell? ⟨w.heap.size,1,none⟩=some (.slice fA fn fc):=fun g=>g.cell (by rw[aj (H5.out.blk 0 rfl)];rfl);have s2:∀g:GW W5,g.W.cell? ⟨w.heap.size,2,none⟩=some (.slice A3 m3 c3):=fun g=>g.cell (by rw[aj (H5.out.blk 0 rfl)];rfl);have U5:∀g:GW W5,g.W.cell? ⟨w.heap.size+1,0,none⟩=some (.func (.func 252) #[] #[]):=fun g=>g.cell (by rw[aj (H5.out.blk 1 rfl)];rfl);have pc1:∀g:GW W5,g.W.cell? ⟨w.heap.size+1,1,none⟩=some (.func (.func 253) #[] #[]):=fun g=>g.cell (by rw[aj (H5.out.blk 1 rfl)];rfl);have t0:∀g:GW W5,g.W.cell? ⟨N2,0,none⟩=some (.int .i64 3):=fun g=>g.cell (by rw[aj (H5.out.blk 2 rfl)];rfl);have t1:∀g:GW W5,g.W.cell? ⟨N2,1,none⟩=some (.slice fA fn fc):=fun g=>g.cell (by rw[aj (H5.out.blk 2 rfl)];rfl);have t2:∀g:GW W5,g.W.cell? ⟨N2,2,none⟩=some (.slice bA bn bc):=fun g=>g.cell (by rw[aj (H5.out.blk 2 rfl)];rfl);have u0:∀g:GW W5,g.W.cell? ⟨wr.heap.size,0,none⟩=some (.int .u32 (pV:Int)):=fun g=>g.cell (by rw[aj (H5.out.blk 5 rfl)];exact k0);have u1:∀g:GW W5,g.W.cell? ⟨wr.heap.size,1,none⟩=some (.int .i64 (q:Int)):=fun g=>g.cell (by rw[aj (H5.out.blk 5 rfl)];exact k1);have u2:∀g:GW W5,g.W.cell? ⟨wr.heap.size,2,none⟩=some (.int .i64 ln):=fun g=>g.cell (by rw[aj (H5.out.blk 5 rfl)];exact k2);have FN:=ah.mk fun(g:GW W5) (t1 t2:Int)=>oh (w:=g.W) ((HF.out.below MI.out).below g.h) ((bK H5.out 3 rfl jP).below g.h) HP.out.2.2.1 (by omega) (by omega) q HX.out.2.2.2 t1 t2;have EB:=ah.mk fun(g:GW W5) (t1 t2:Int)=>iF (w:=g.W) ((HF.out.below MI.out).below g.h) ((bK H5.out 3 rfl jP).below g.h) HP.out.2.2.1 (by omega) (by omega) q HX.out.2.2.2 t1 t2;have EC:=ah.mk fun(g:GW W5) (t1 t2:Int)=>EA.out g.W (ay MI.out MI.out.size g.h) q HX.out.2.2.2 t1 t2;obtain⟨g5,hg5⟩:∃g5:GW W5,W5=g5.W:=⟨GW.self W5,rfl⟩;rw[hg5];clear hg5;refine ah.mk ?_;go_wp2_with (go_at_call 296;refine(EC.out g5 _ _).mono ?_;rintro e w9 ⟨t,s,r,rfl,hs,hb'⟩;obtain⟨g9,TB⟩:∃g9:GW W5,w9=g9.W:=⟨g5.on hb',rfl⟩;subst TB;clear hb' hs;refine ah.out ?_)
      by_cases hr:r=0
      ·subst hr;refine ah.mk ?_;go_wp2_with (go_at_call 297;refine(FN.out g9 _ _).mono ?_;rintro e w10 ⟨s,b,rfl,hs,hb'⟩;obtain⟨g10,Qo⟩:∃g10:GW W5,w10=g10.W:=⟨g9.on hb',rfl⟩;subst Qo;have HZ:=ah.mk hs;clear hb' hs;refine ah.out ?_)
       cases b
       ·refine ah.mk ?_;go_wp2_with (go_at_call 252;refine(Qm _ _).mono ?_;rintro e w' ⟨bp,rfl,hw⟩;obtain rfl:=hw.symm;clear hw;refine ah.out ?_)
        cases bp
        ·refine ah.mk ?_;have qX:=ah.mk ((H5.out.up g10.h).drop 5);go_wp2_with (go_at_call 253;refine(yc _ _).mono ?_;rintro e w' ⟨bo,rfl,hw⟩;obtain rfl:=hw.symm;clear hw;refine ah.out ?_)
         cases bo
         ·refine ah.mk ?_;go_wp2_with fail
          first|go_ret2|skip
          rw[←HQ.out];exact⟨A1,m,c1,0,sl,rfl,HP.out.2.2.2,qX.out.pick 4 _ rfl,HP.out.1⟩
         ·refine ah.mk ?_;go_wp2_with fail
          go_roundw
          case rel=>exact⟨k+1,wt+1,m,m3,c1,c3,A1,A3,sl,ts',rfl,by go_num,by go_num,by omega,by omega,by omega,by omega,HP,qX⟩
          case measure=>simp[intOf];omega
        ·refine ah.mk ?_;go_wp2_with (first|(refine aB g11.W.heap.size rfl rfl 53 (.tmp 23) (.tmp 125) rfl #[.int .i64 (s3:Int),.int .i64 (q:Int)] rfl rfl 53 _ (jQ _ _) rfl (by simp[Value.oneCell']) ?_;refine ah.out ?_)|(go_at_call 296;refine(EB.out g10 _ _).mono ?_;rintro e TD ⟨at_,s3,r3,rfl,hs,hb'⟩;obtain⟨g11,Qp⟩:∃g11:GW W5,TD=g11.W:=⟨g10.on hb',rfl⟩;subst Qp;have HZ3:=ah.mk hs;clear hb' hs))
         have H6:=ah.mk ((H5.out.up g11.h).aZ (.cells #[.int .i64 (s3:Int),.int .i64 (q:Int)] 53));obtain⟨NB,jw⟩:∃NB,NB=g11.W.heap.size:=⟨_,rfl⟩;obtain⟨W6,vM⟩:∃W6,W6=g11.W.alloc (.cells #[.int .i64 (s3:Int),.int .i64 (q:Int)] 53):=⟨_,rfl⟩;rw[←jw,←vM]at H6 ⊢;clear vM jw FN EB EC s0 s1 s2 U5 pc1 t0 t1 t2 u0 u1 u2 H5;have v0:W6.cell? ⟨wr.heap.size,0,none⟩=some (.int .u32 (pV:Int)):=by rw[aj (H6.out.blk 5 rfl)];exact k0
         have v1:W6.cell? ⟨NB,0,none⟩=some (.int .i64 (s3:Int)):=by rw[aj (H6.out.blk 6 rfl)];rfl
         have v2:W6.cell? ⟨NB,1,none⟩=some (.int .i64 (q:Int)):=by rw[aj (H6.out.blk 6 rfl)];rfl
         refine ah.mk ?_;go_wp2_with (at_builtin;refine dn 226 (.tmp 126) (.tmp 132) rfl rfl H6.out 4 rfl m HP.out.1 Tryz.underlying226 qE (by decide) (by omega) rfl rfl (⟨pV,s3,q,at_⟩:Sl) _ rfl rfl (by simp[Value.oneCell']) ?_;intro A5 c5 w7 h7;have H7:=ah.mk h7;clear h7;refine ah.out ?_)
         clear v0 v1 v2 H6;have v0:w7.cell? ⟨w.heap.size,2,none⟩=some (.slice A3 m3 c3):=by rw[aj (H7.out.blk 0 rfl)];rfl
         have v1:w7.cell? ⟨NB,0,none⟩=some (.int .i64 (s3:Int)):=by rw[aj (H7.out.blk 6 rfl)];rfl
         have v2:w7.cell? ⟨NB,1,none⟩=some (.int .i64 (q:Int)):=by rw[aj (H7.out.blk 6 rfl)];rfl
         have v3:w7.cell? ⟨wr.heap.size,2,none⟩=some (.int .i64 ln):=by rw[aj (H7.out.blk 5 rfl)];exact k2
         refine ah.mk ?_;go_wp2_with (at_builtin;refine dn 228 (.tmp 135) (.tmp 143) rfl rfl H7.out 3 rfl m3 HP.out.2.1 Tryz.underlying228 lq (by decide) (by omega) rfl rfl (⟨s3,q,at_,_⟩:Tk) _ rfl rfl (by simp[Value.oneCell']) ?_;intro A6 c6 w8 h8;have H8:=ah.mk h8;clear h8;refine ah.out ?_)
         clear v0 v1 v2 v3 H7;have z0:w8.cell? ⟨w.heap.size,2,none⟩=some (.slice A3 m3 c3):=by rw[aj (H8.out.blk 0 rfl)];rfl
         have z1:w8.frozen? ⟨w.heap.size,2,none⟩=false:=aJ (H8.out.blk 0 rfl) _;have H9:=ah.mk ((H8.out.put 0 rfl 2 (.slice A6 (m3+1) c6) #[.int .i64 3,.slice fA fn fc,.slice A6 (m3+1) c6] rfl));have z2:(w8.setCell ⟨w.heap.size,2,none⟩ (.slice A6 (m3+1) c6)).cell? ⟨w.heap.size+1,1,none⟩=some (.func (.func 253) #[] #[]):=by rw[aj (H9.out.blk 1 rfl)];rfl
         have qX:=ah.mk ((H9.out.drop 6).drop 5);refine ah.mk ?_;go_wp2_with (go_at_call 253;refine(yc _ _).mono ?_;rintro e w' ⟨bo,rfl,hw⟩;obtain rfl:=hw.symm;clear hw;refine ah.out ?_)
         have sZ:ah (m+1=(sl++[(⟨pV,s3,q,at_⟩:Sl)]).length∧∀x∈sl++[(⟨pV,s3,q,at_⟩:Sl)],x.of ws):=⟨by have:=HP.out.1;simp;omega,fun y hy=>by
          rcases List.mem_append.1 hy with h|h
          ·exact HP.out.2.2.2 y h
          ·obtain rfl:=List.mem_singleton.1 h;exact⟨⟨x,HX.out.1,HX.out.2.1,HX.out.2.2.1⟩,HZ3.out.1,HZ3.out.2⟩⟩
         cases bo
         ·refine ah.mk ?_;go_wp2_with fail
          first|go_ret2|skip
          rw[←HQ.out];exact⟨A5,m+1,c5,0,_,rfl,sZ.out.2,qX.out.pick 4 _ rfl,sZ.out.1⟩
         ·refine ah.mk ?_;go_wp2_with fail
          go_roundw
          case rel=>exact⟨k+1,wt+1,m+1,m3+1,c5,c6,A5,A6,_,_,rfl,by go_num,by go_num,by omega,by omega,by omega,by omega,⟨sZ.out.1,by have:=HP.out.2.1;simp;omega,fun t ht=>by
           rcases List.mem_append.1 ht with h|h
           ·exact HP.out.2.2.1 t h
           ·obtain rfl:=List.mem_singleton.1 h;exact⟨HZ3.out.1,HX.out.2.2.2,HZ3.out.2⟩,sZ.out.2⟩,qX⟩
          case measure=>simp[intOf];omega
       ·refine ah.mk ?_;go_wp2_with (refine aB g10.W.heap.size rfl rfl 53 (.tmp 23) (.tmp 125) rfl #[.int .i64 (s:Int),.int .i64 (q:Int)] rfl rfl 53 _ (jQ _ _) rfl (by simp[Value.oneCell']) ?_;refine ah.out ?_)
        have H6:=ah.mk ((H5.out.up g10.h).aZ (.cells #[.int .i64 (s:Int),.int .i64 (q:Int)] 53));obtain⟨NB,jw⟩:∃NB,NB=g10.W.heap.size:=⟨_,rfl⟩;obtain⟨W6,vM⟩:∃W6,W6=g10.W.alloc (.cells #[.int .i64 (s:Int),.int .i64 (q:Int)] 53):=⟨_,rfl⟩;rw[←jw,←vM]at H6 ⊢;clear vM jw FN EB EC s0 s1 s2 U5 pc1 t0 t1 t2 u0 u1 u2 H5;have v0:W6.cell? ⟨wr.heap.size,0,none⟩=some (.int .u32 (pV:Int)):=by rw[aj (H6.out.blk 5 rfl)];exact k0
        have v1:W6.cell? ⟨NB,0,none⟩=some (.int .i64 (s:Int)):=by rw[aj (H6.out.blk 6 rfl)];rfl
        have v2:W6.cell? ⟨NB,1,none⟩=some (.int .i64 (q:Int)):=by rw[aj (H6.out.blk 6 rfl)];rfl
        refine ah.mk ?_;go_wp2_with (at_builtin;refine dn 226 (.tmp 126) (.tmp 132) rfl rfl H6.out 4 rfl m HP.out.1 Tryz.underlying226 qE (by decide) (by omega) rfl rfl (⟨pV,s,q,now⟩:Sl) _ rfl rfl (by simp[Value.oneCell']) ?_;intro A5 c5 w7 h7;have H7:=ah.mk h7;clear h7;refine ah.out ?_)
        clear v0 v1 v2 H6;have v0:w7.cell? ⟨w.heap.size,2,none⟩=some (.slice A3 m3 c3):=by rw[aj (H7.out.blk 0 rfl)];rfl
        have v1:w7.cell? ⟨NB,0,none⟩=some (.int .i64 (s:Int)):=by rw[aj (H7.out.blk 6 rfl)];rfl
        have v2:w7.cell? ⟨NB,1,none⟩=some (.int .i64 (q:Int)):=by rw[aj (H7.out.blk 6 rfl)];rfl
        have v3:w7.cell? ⟨wr.heap.size,2,none⟩=some (.int .i64 ln):=by rw[aj (H7.out.blk 5 rfl)];exact k2
        refine ah.mk ?_;go_wp2_with (at_builtin;refine dn 228 (.tmp 135) (.tmp 143) rfl rfl H7.out 3 rfl m3 HP.out.2.1 Tryz.underlying228 lq (by decide) (by omega) rfl rfl (⟨s,q,now,_⟩:Tk) _ rfl rfl (by simp[Value.oneCell']) ?_;intro A6 c6 w8 h8;have H8:=ah.mk h8;clear h8;refine ah.out ?_)
        clear v0 v1 v2 v3 H7;have z0:w8.cell? ⟨w.heap.size,2,none⟩=some (.slice A3 m3 c3):=by rw[aj (H8.out.blk 0 rfl)];rfl
        have z1:w8.frozen? ⟨w.heap.size,2,none⟩=false:=aJ (H8.out.blk 0 rfl) _;have H9:=ah.mk ((H8.out.put 0 rfl 2 (.slice A6 (m3+1) c6) #[.int .i64 3,.slice fA fn fc,.slice A6 (m3+1) c6] rfl));have z2:(w8.setCell ⟨w.heap.size,2,none⟩ (.slice A6 (m3+1) c6)).cell? ⟨w.heap.size+1,1,none⟩=some (.func (.func 253) #[] #[]):=by rw[aj (H9.out.blk 1 rfl)];rfl
        have qX:=ah.mk ((H9.out.drop 6).drop 5);refine ah.mk ?_;go_wp2_with (go_at_call 253;refine(yc _ _).mono ?_;rintro e w' ⟨bo,rfl,hw⟩;obtain rfl:=hw.symm;clear hw;refine ah.out ?_)
        have sZ:ah (m+1=(sl++[(⟨pV,s,q,now⟩:Sl)]).length∧∀x∈sl++[(⟨pV,s,q,now⟩:Sl)],x.of ws):=⟨by have:=HP.out.1;simp;omega,fun y hy=>by
         rcases List.mem_append.1 hy with h|h
         ·exact HP.out.2.2.2 y h
         ·obtain rfl:=List.mem_singleton.1 h;exact⟨⟨x,HX.out.1,HX.out.2.1,HX.out.2.2.1⟩,HZ.out.1,HZ.out.2⟩⟩
        cases bo
        ·refine ah.mk ?_;go_wp2_with fail
         first|go_ret2|skip
         rw[←HQ.out];exact⟨A5,m+1,c5,0,_,rfl,sZ.out.2,qX.out.pick 4 _ rfl,sZ.out.1⟩
        ·refine ah.mk ?_;go_wp2_with fail
         go_roundw
         case rel=>exact⟨k+1,wt,m+1,m3+1,c5,c6,A5,A6,_,_,rfl,rfl,by go_num,by omega,by omega,by omega,by omega,⟨sZ.out.1,by have:=HP.out.2.1;simp;omega,fun t ht=>by
          rcases List.mem_append.1 ht with h|h
          ·exact HP.out.2.2.1 t h
          ·obtain rfl:=List.mem_singleton.1 h;exact⟨HZ.out.1,HX.out.2.2.2,HZ.out.2⟩,sZ.out.2⟩,qX⟩
         case measure=>simp[intOf];omega
      ·have hz:(r != 0)=true:=by simpa using hr
       have qX:=ah.mk ((H5.out.up g9.h).drop 5);clear hr;refine ah.mk ?_;go_wp2_with fail
       go_roundw
       case rel=>exact⟨k+1,wt,m,m3,c1,c3,A1,A3,sl,ts',rfl,rfl,by go_num,by omega,by omega,by omega,by omega,HP,qX⟩
       case measure=>simp[intOf];omega
     ·go_wp2_with fail
      first|go_ret2|skip
      rw[←HQ.out];exact⟨A1,m,c1,0,sl,rfl,HP.out.2.2.2,HS.out.pick 4 _ rfl,HP.out.1⟩
 ·have hz:(r != 0)=true:=by simpa using hr0
  clear hr0 q1 q2 q3;refine ah.mk ?_;go_wp2_with fail
  first|go_ret2|skip
  rw[←HQ.out];exact⟨none,0,0,2,[],rfl,(fun x hx=>by cases hx),((H1.out.drop 1).drop 0).nilRow 233 4 dJ,rfl⟩
end
end
section
open Go.RowKit
section
variable {w:World}
theorem JE {fA bA wA:Option Addr}{fn fc bn bc wn wc:Nat}{fl:List Int}{ts:List Tk}{ws:List Wa}(hf:bU w 1 encI (.slice fA fn fc) fl)(hb:w.ownsRow 0 292 4 (.slice bA bn bc) bn (ts.flatMap jX))(hbn:bn=ts.length)(hw:bU w 3 oI (.slice wA wn wc) ws)
 (hok:∀t∈ts,t.ok) (hws:∀x∈ws,x.ok) (h1:fn≤1000) (h2:bn≤500) (h3:wn≤300) (now:Int) (hn0:0≤now) (hn1:now≤1000000) :
 Calls Tryz.prog 206 #[.agg (dK fA bA fn fc bn bc),.slice wA wn wc,.int .i64 now] w fun e w'=>∃(A2:Option Addr) (n2 c2:Nat) (r:Int) (sl:List Sl),e=.returned (.tuple #[.slice A2 n2 c2,.int .i64 r])∧(∀x∈sl,x.of ws)∧Has w w' [aV 233 4 dJ (.slice A2 n2 c2) sl]∧n2=sl.length:=by
 refine named fun R HQ=>?_;have hbl:=au (Below.refl w.heap.size w) (.cells (dK fA bA fn fc bn bc) 230);have PL:=ah.mk (Oc (w:=w.alloc (.cells (dK fA bA fn fc bn bc) 230)) (hf.below hbl) (own_below hb hbl) hbn (hw.below hbl) hok hws h1 h2 h3 now hn0 hn1);have HB:=ah.mk hbl;clear hf hb hbn hw hok hws hbl;unfold dK rE at PL;unfold dK;unfold dK at HB;go_enter Tryz.func206,Tryz.ntmps206;go_wp2_with (go_at_call 249;refine PL.out.mono ?_;rintro e w2 ⟨A2,n2,c2,r,sl,rfl,hsl,h2,hn2⟩;have H2:=ah.mk ((((Has.start w).below HB.out).more h2));have HS:=ah.mk (And.intro hsl hn2);clear h2 hsl hn2)
 first|go_ret2|skip
 rw[←HQ.out];exact⟨A2,n2,c2,r,sl,rfl,HS.out.1,H2.out,HS.out.2⟩
theorem JF {fA bA wA:Option Addr}{fn fc bn bc wn wc:Nat}{fl:List Int}{ts:List Tk}{ws:List Wa}(hf:bU w 1 encI (.slice fA fn fc) fl)(hb:w.ownsRow 0 292 4 (.slice bA bn bc) bn (ts.flatMap jX))(hbn:bn=ts.length)(hw:bU w 3 oI (.slice wA wn wc) ws)
 (hok:∀t∈ts,t.ok) (hws:∀x∈ws,x.ok) (h1:fn≤1000) (h2:bn≤500) (h3:wn≤300) (now:Int) (hn0:0≤now) (hn1:now≤1000000) :
 Calls Tryz.prog 207 #[.agg (dK fA bA fn fc bn bc),.slice wA wn wc,.int .i64 now] w fun e w'=>∃(A2:Option Addr) (n2 c2:Nat) (r:Int) (sl:List Sl),e=.returned (.tuple #[.slice A2 n2 c2,.int .i64 r])∧(∀x∈sl,x.of ws)∧Has w w' [aV 233 4 dJ (.slice A2 n2 c2) sl]∧n2=sl.length:=by
 refine named fun R HQ=>?_;have hbl:=au (Below.refl w.heap.size w) (.cells (dK fA bA fn fc bn bc) 230);have PL:=ah.mk (Oj (w:=w.alloc (.cells (dK fA bA fn fc bn bc) 230)) (hf.below hbl) (own_below hb hbl) hbn (hw.below hbl) hok hws h1 h2 h3 now hn0 hn1);have HB:=ah.mk hbl;clear hf hb hbn hw hok hws hbl;unfold dK rE at PL;unfold dK;unfold dK at HB;go_enter Tryz.func207,Tryz.ntmps207;go_wp2_with (go_at_call 249;refine PL.out.mono ?_;rintro e w2 ⟨A2,n2,c2,r,sl,rfl,hsl,h2,hn2⟩;have H2:=ah.mk ((((Has.start w).below HB.out).more h2));have HS:=ah.mk (And.intro hsl hn2);clear h2 hsl hn2)
 first|go_ret2|skip
 rw[←HQ.out];exact⟨A2,n2,c2,r,sl,rfl,HS.out.1,H2.out,HS.out.2⟩
theorem JG {fA bA wA:Option Addr}{fn fc bn bc wn wc:Nat}{fl:List Int}{ts:List Tk}{ws:List Wa}(hf:bU w 1 encI (.slice fA fn fc) fl)(hb:w.ownsRow 0 292 4 (.slice bA bn bc) bn (ts.flatMap jX))(hbn:bn=ts.length)(hw:bU w 3 oI (.slice wA wn wc) ws)
 (hok:∀t∈ts,t.ok) (hws:∀x∈ws,x.ok) (h1:fn≤1000) (h2:bn≤500) (h3:wn≤300) (now:Int) (hn0:0≤now) (hn1:now≤1000000) :
 Calls Tryz.prog 208 #[.agg (dK fA bA fn fc bn bc),.slice wA wn wc,.int .i64 now] w fun e w'=>∃(A2:Option Addr) (n2 c2:Nat) (r:Int) (sl:List Sl),e=.returned (.tuple #[.slice A2 n2 c2,.int .i64 r])∧(∀x∈sl,x.of ws)∧Has w w' [aV 233 4 dJ (.slice A2 n2 c2) sl]∧n2=sl.length:=by
 refine named fun R HQ=>?_;have hbl:=au (Below.refl w.heap.size w) (.cells (dK fA bA fn fc bn bc) 230);have PL:=ah.mk (Oi (w:=w.alloc (.cells (dK fA bA fn fc bn bc) 230)) (hf.below hbl) (own_below hb hbl) hbn (hw.below hbl) hok hws h1 h2 h3 now hn0 hn1);have HB:=ah.mk hbl;clear hf hb hbn hw hok hws hbl;unfold dK rE at PL;unfold dK;unfold dK at HB;go_enter Tryz.func208,Tryz.ntmps208;go_wp2_with (go_at_call 249;refine PL.out.mono ?_;rintro e w2 ⟨A2,n2,c2,r,sl,rfl,hsl,h2,hn2⟩;have H2:=ah.mk ((((Has.start w).below HB.out).more h2));have HS:=ah.mk (And.intro hsl hn2);clear h2 hsl hn2)
 first|go_ret2|skip
 rw[←HQ.out];exact⟨A2,n2,c2,r,sl,rfl,HS.out.1,H2.out,HS.out.2⟩
theorem vU {a:qR}{pol:Int}{now:Nat}{bk:List Ch}(hC:jq w a pol now bk)(dP:pol=1∨pol=2∨pol=3){fA bA wA:Option Addr}{fn fc bn bc wn wc:Nat}{fl:List Int}{ts:List Tk}{ws:List Wa}(hf:bU w 1 encI (.slice fA fn fc) fl)(hb:w.ownsRow 0 292 4 (.slice bA bn bc) bn (ts.flatMap jX))(hbn:bn=ts.length)(hw:bU w 3 oI (.slice wA wn wc) ws)
 (hok:∀t∈ts,t.ok) (hws:∀x∈ws,x.ok) (h1:fn≤1000) (h2:bn≤500) (h3:wn≤300) (dB:(now:Int)≤1000000) :
 Calls Tryz.prog 144 #[.pointer (some ⟨a.x,0,none⟩),.agg (dK fA bA fn fc bn bc),.slice wA wn wc] w fun e w'=>∃(A2:Option Addr) (n2 c2:Nat) (sl:List Sl),e=.returned (.slice A2 n2 c2)∧(∀x∈sl,x.of ws)∧Has w w' [aV 233 4 dJ (.slice A2 n2 c2) sl]∧n2=sl.length:=by
 refine named fun R HQ=>?_;have ZF:ah (∀W,(zeroValue 288).run Tryz.prog W=.ok _ W):=⟨fun W=>rfl⟩;rcases dP with rfl|rfl|rfl
 ·have PL:=ah.mk fun(W:World) (h:Below w.heap.size w W)=>JE (w:=W) (hf.below h) (own_below hb h) hbn (hw.below h) hok hws h1 h2 h3 (now:Int) (by omega) dB;have XC:ah (∀W,Below w.heap.size w W→W.cell? ⟨a.x,0,none⟩=some (.int .i64 1)∧W.cell? ⟨a.x,12,none⟩=some (.int .i64 (now:Int))):=⟨fun W h=>⟨ak h (hC.cell 0 _ rfl),ak h (hC.cell 12 _ rfl)⟩⟩;have H0:=ah.mk ((Has.start w).aZ (.cells (dK fA bA fn fc bn bc) 230));have H1:=ah.mk (H0.out.jW (Value.int .i64));obtain⟨w1,hr1,g1⟩:=run_store (gI .i64) H1.out 1 rfl 289 3 288 Tryz.underlying289 Tryz.underlying3 1 (.func (.func 206) #[] #[]);obtain⟨w2,hr2,g2⟩:=run_store (gI .i64) g1 1 rfl 289 3 288 Tryz.underlying289 Tryz.underlying3 2 (.func (.func 207) #[] #[]);obtain⟨w3,hr3,g3⟩:=run_store (gI .i64) g2 1 rfl 289 3 288 Tryz.underlying289 Tryz.underlying3 3 (.func (.func 208) #[] #[]);have hlk:=dR (gI .i64) g3 1 rfl 289 3 288 Tryz.underlying289 Tryz.underlying3 _ (ZF.out w3) 1 false;have hz:(w.alloc (.cells (dK fA bA fn fc bn bc) 230)).heap.size=w.heap.size+1:=by simp
  rw[hz]at hr1 hr2 hr3 hlk;replace hlk:(Instr.lookup 289 (.map (some (w.heap.size+1))) (.int .i64 1) false).run Tryz.prog w3=.ok (.func (.func 206) #[] #[]) w3:=hlk
  have G3:=ah.mk g3;have f0:=(XC.out w3 G3.out.old).1;clear g1 g2 g3 hC hf hb hbn hw hok hws hz;unfold dK at *;have hmm:=@run_makeMap Tryz.prog;go_enter Tryz.func144,Tryz.ntmps144;go_wp2_with fail
  obtain⟨Kp,fD⟩:∃Kp:Nat→Prop,Kp=fun k=>k<w3.heap.size:=⟨_,rfl⟩;have f12:∀g:KW w3 Kp,g.W.cell? ⟨a.x,12,none⟩=some (.int .i64 (now:Int)):=fun g=>g.cell (by rw[fD];exact World.block_lt_of_cell? _ _ (XC.out w3 G3.out.old).2) (XC.out w3 G3.out.old).2;have l0:w.heap.size<w3.heap.size:=(Array.getElem?_eq_some_iff.1 (G3.out.blk 0 rfl)).1;have e0:∀g:KW w3 Kp,g.W.cell? ⟨w.heap.size,0,none⟩=some (.int .i64 3):=fun g=>g.cell (by rw[fD];exact l0) (by rw[aj (G3.out.blk 0 rfl)];rfl);have e1:∀g:KW w3 Kp,g.W.cell? ⟨w.heap.size,1,none⟩=some (.slice fA fn fc):=fun g=>g.cell (by rw[fD];exact l0) (by rw[aj (G3.out.blk 0 rfl)];rfl);have e2:∀g:KW w3 Kp,g.W.cell? ⟨w.heap.size,2,none⟩=some (.slice bA bn bc):=fun g=>g.cell (by rw[fD];exact l0) (by rw[aj (G3.out.blk 0 rfl)];rfl);have yh:=ah.mk fD;clear fD l0;refine aK (fun W=>∃g:KW w3 Kp,W=g.W) 12 (by kernel_rfl) (by kernel_rfl) ?_;have HB0:ah (∀k,Kp k→w3.drew.heap[k]?=w3.heap[k]?):=⟨fun _ _=>rfl⟩;have HG:∃g:KW w3 Kp,w3.drew=g.W:=⟨⟨_,HB0.out⟩,rfl⟩;refine tk 0 HG ?_;refine tk 1 HG ?_;refine tk 2 HG ?_;refine tk 3 HG ?_;refine tk 4 HG ?_;refine tk 5 HG ?_;refine tk 6 HG ?_;refine aP (k:=7) rfl (by kernel_rfl) (by kernel_rfl) (fun KK gB=>?_);rw[if_pos (by rfl)];go_simp;go_at_call 206;refine(PL.out w3.drew (aC G3.out.old 1)).mono ?_;rintro e w5 ⟨A2,n2,c2,r,sl,rfl,hsl,h5,hn2⟩;have hk':∀k,Kp k→w5.heap[k]?=w3.heap[k]?:=fun k hk=>by rw[yh.out]at hk;exact h5.old.block k hk
  have H5:=ah.mk (((Has.start w).below (aC G3.out.old 1)).more h5);have HS:=ah.mk (And.intro hsl hn2);clear hsl h5 hn2;refine gB _ _ ⟨⟨_,hk'⟩,rfl⟩ ?_;have HB1:=ah.mk hk';clear gB KK HG;have HG:∃g:KW w3 Kp,w5=g.W:=⟨⟨_,HB1.out⟩,rfl⟩;clear hk';try simp only[Act.put,List.setIfInBounds_toArray,List.set_cons_zero,List.set_cons_succ]
  refine tk 8 HG ?_;refine tk 9 HG ?_;refine tk 10 HG ?_;refine tk 11 HG ?_;refine aO (by kernel_rfl) ?_;simp only[List.drop_succ_cons,List.drop_zero];clear f12 e0 e1 e2;go_wp2_with fail
  first|go_ret|skip
  rw[←HQ.out];exact⟨A2,n2,c2,sl,rfl,HS.out.1,H5.out,HS.out.2⟩
 ·have PL:=ah.mk fun(W:World) (h:Below w.heap.size w W)=>JF (w:=W) (hf.below h) (own_below hb h) hbn (hw.below h) hok hws h1 h2 h3 (now:Int) (by omega) dB;have XC:ah (∀W,Below w.heap.size w W→W.cell? ⟨a.x,0,none⟩=some (.int .i64 2)∧W.cell? ⟨a.x,12,none⟩=some (.int .i64 (now:Int))):=⟨fun W h=>⟨ak h (hC.cell 0 _ rfl),ak h (hC.cell 12 _ rfl)⟩⟩;have H0:=ah.mk ((Has.start w).aZ (.cells (dK fA bA fn fc bn bc) 230));have H1:=ah.mk (H0.out.jW (Value.int .i64));obtain⟨w1,hr1,g1⟩:=run_store (gI .i64) H1.out 1 rfl 289 3 288 Tryz.underlying289 Tryz.underlying3 1 (.func (.func 206) #[] #[]);obtain⟨w2,hr2,g2⟩:=run_store (gI .i64) g1 1 rfl 289 3 288 Tryz.underlying289 Tryz.underlying3 2 (.func (.func 207) #[] #[]);obtain⟨w3,hr3,g3⟩:=run_store (gI .i64) g2 1 rfl 289 3 288 Tryz.underlying289 Tryz.underlying3 3 (.func (.func 208) #[] #[]);have hlk:=dR (gI .i64) g3 1 rfl 289 3 288 Tryz.underlying289 Tryz.underlying3 _ (ZF.out w3) 2 false;have hz:(w.alloc (.cells (dK fA bA fn fc bn bc) 230)).heap.size=w.heap.size+1:=by simp
  rw[hz]at hr1 hr2 hr3 hlk;replace hlk:(Instr.lookup 289 (.map (some (w.heap.size+1))) (.int .i64 2) false).run Tryz.prog w3=.ok (.func (.func 207) #[] #[]) w3:=hlk
  have G3:=ah.mk g3;have f0:=(XC.out w3 G3.out.old).1;clear g1 g2 g3 hC hf hb hbn hw hok hws hz;unfold dK at *;have hmm:=@run_makeMap Tryz.prog;go_enter Tryz.func144,Tryz.ntmps144;go_wp2_with fail
  obtain⟨Kp,fD⟩:∃Kp:Nat→Prop,Kp=fun k=>k<w3.heap.size:=⟨_,rfl⟩;have f12:∀g:KW w3 Kp,g.W.cell? ⟨a.x,12,none⟩=some (.int .i64 (now:Int)):=fun g=>g.cell (by rw[fD];exact World.block_lt_of_cell? _ _ (XC.out w3 G3.out.old).2) (XC.out w3 G3.out.old).2;have l0:w.heap.size<w3.heap.size:=(Array.getElem?_eq_some_iff.1 (G3.out.blk 0 rfl)).1;have e0:∀g:KW w3 Kp,g.W.cell? ⟨w.heap.size,0,none⟩=some (.int .i64 3):=fun g=>g.cell (by rw[fD];exact l0) (by rw[aj (G3.out.blk 0 rfl)];rfl);have e1:∀g:KW w3 Kp,g.W.cell? ⟨w.heap.size,1,none⟩=some (.slice fA fn fc):=fun g=>g.cell (by rw[fD];exact l0) (by rw[aj (G3.out.blk 0 rfl)];rfl);have e2:∀g:KW w3 Kp,g.W.cell? ⟨w.heap.size,2,none⟩=some (.slice bA bn bc):=fun g=>g.cell (by rw[fD];exact l0) (by rw[aj (G3.out.blk 0 rfl)];rfl);have yh:=ah.mk fD;clear fD l0;refine aK (fun W=>∃g:KW w3 Kp,W=g.W) 12 (by kernel_rfl) (by kernel_rfl) ?_;have HB0:ah (∀k,Kp k→w3.drew.heap[k]?=w3.heap[k]?):=⟨fun _ _=>rfl⟩;have HG:∃g:KW w3 Kp,w3.drew=g.W:=⟨⟨_,HB0.out⟩,rfl⟩;refine tk 0 HG ?_;refine tk 1 HG ?_;refine tk 2 HG ?_;refine tk 3 HG ?_;refine tk 4 HG ?_;refine tk 5 HG ?_;refine tk 6 HG ?_;refine aP (k:=7) rfl (by kernel_rfl) (by kernel_rfl) (fun KK gB=>?_);rw[if_pos (by rfl)];go_simp;go_at_call 207;refine(PL.out w3.drew (aC G3.out.old 1)).mono ?_;rintro e w5 ⟨A2,n2,c2,r,sl,rfl,hsl,h5,hn2⟩;have hk':∀k,Kp k→w5.heap[k]?=w3.heap[k]?:=fun k hk=>by rw[yh.out]at hk;exact h5.old.block k hk
  have H5:=ah.mk (((Has.start w).below (aC G3.out.old 1)).more h5);have HS:=ah.mk (And.intro hsl hn2);clear hsl h5 hn2;refine gB _ _ ⟨⟨_,hk'⟩,rfl⟩ ?_;have HB1:=ah.mk hk';clear gB KK HG;have HG:∃g:KW w3 Kp,w5=g.W:=⟨⟨_,HB1.out⟩,rfl⟩;clear hk';try simp only[Act.put,List.setIfInBounds_toArray,List.set_cons_zero,List.set_cons_succ]
  refine tk 8 HG ?_;refine tk 9 HG ?_;refine tk 10 HG ?_;refine tk 11 HG ?_;refine aO (by kernel_rfl) ?_;simp only[List.drop_succ_cons,List.drop_zero];clear f12 e0 e1 e2;go_wp2_with fail
  first|go_ret|skip
  rw[←HQ.out];exact⟨A2,n2,c2,sl,rfl,HS.out.1,H5.out,HS.out.2⟩
 ·have PL:=ah.mk fun(W:World) (h:Below w.heap.size w W)=>JG (w:=W) (hf.below h) (own_below hb h) hbn (hw.below h) hok hws h1 h2 h3 (now:Int) (by omega) dB;have XC:ah (∀W,Below w.heap.size w W→W.cell? ⟨a.x,0,none⟩=some (.int .i64 3)∧W.cell? ⟨a.x,12,none⟩=some (.int .i64 (now:Int))):=⟨fun W h=>⟨ak h (hC.cell 0 _ rfl),ak h (hC.cell 12 _ rfl)⟩⟩;have H0:=ah.mk ((Has.start w).aZ (.cells (dK fA bA fn fc bn bc) 230));have H1:=ah.mk (H0.out.jW (Value.int .i64));obtain⟨w1,hr1,g1⟩:=run_store (gI .i64) H1.out 1 rfl 289 3 288 Tryz.underlying289 Tryz.underlying3 1 (.func (.func 206) #[] #[]);obtain⟨w2,hr2,g2⟩:=run_store (gI .i64) g1 1 rfl 289 3 288 Tryz.underlying289 Tryz.underlying3 2 (.func (.func 207) #[] #[]);obtain⟨w3,hr3,g3⟩:=run_store (gI .i64) g2 1 rfl 289 3 288 Tryz.underlying289 Tryz.underlying3 3 (.func (.func 208) #[] #[]);have hlk:=dR (gI .i64) g3 1 rfl 289 3 288 Tryz.underlying289 Tryz.underlying3 _ (ZF.out w3) 3 false;have hz:(w.alloc (.cells (dK fA bA fn fc bn bc) 230)).heap.size=w.heap.size+1:=by simp
  rw[hz]at hr1 hr2 hr3 hlk;replace hlk:(Instr.lookup 289 (.map (some (w.heap.size+1))) (.int .i64 3) false).run Tryz.prog w3=.ok (.func (.func 208) #[] #[]) w3:=hlk
  have G3:=ah.mk g3;have f0:=(XC.out w3 G3.out.old).1;clear g1 g2 g3 hC hf hb hbn hw hok hws hz;unfold dK at *;have hmm:=@run_makeMap Tryz.prog;go_enter Tryz.func144,Tryz.ntmps144;go_wp2_with fail
  obtain⟨Kp,fD⟩:∃Kp:Nat→Prop,Kp=fun k=>k<w3.heap.size:=⟨_,rfl⟩;have f12:∀g:KW w3 Kp,g.W.cell? ⟨a.x,12,none⟩=some (.int .i64 (now:Int)):=fun g=>g.cell (by rw[fD];exact World.block_lt_of_cell? _ _ (XC.out w3 G3.out.old).2) (XC.out w3 G3.out.old).2;have l0:w.heap.size<w3.heap.size:=(Array.getElem?_eq_some_iff.1 (G3.out.blk 0 rfl)).1;have e0:∀g:KW w3 Kp,g.W.cell? ⟨w.heap.size,0,none⟩=some (.int .i64 3):=fun g=>g.cell (by rw[fD];exact l0) (by rw[aj (G3.out.blk 0 rfl)];rfl);have e1:∀g:KW w3 Kp,g.W.cell? ⟨w.heap.size,1,none⟩=some (.slice fA fn fc):=fun g=>g.cell (by rw[fD];exact l0) (by rw[aj (G3.out.blk 0 rfl)];rfl);have e2:∀g:KW w3 Kp,g.W.cell? ⟨w.heap.size,2,none⟩=some (.slice bA bn bc):=fun g=>g.cell (by rw[fD];exact l0) (by rw[aj (G3.out.blk 0 rfl)];rfl);have yh:=ah.mk fD;clear fD l0;refine aK (fun W=>∃g:KW w3 Kp,W=g.W) 12 (by kernel_rfl) (by kernel_rfl) ?_;have HB0:ah (∀k,Kp k→w3.drew.heap[k]?=w3.heap[k]?):=⟨fun _ _=>rfl⟩;have HG:∃g:KW w3 Kp,w3.drew=g.W:=⟨⟨_,HB0.out⟩,rfl⟩;refine tk 0 HG ?_;refine tk 1 HG ?_;refine tk 2 HG ?_;refine tk 3 HG ?_;refine tk 4 HG ?_;refine tk 5 HG ?_;refine tk 6 HG ?_;refine aP (k:=7) rfl (by kernel_rfl) (by kernel_rfl) (fun KK gB=>?_);rw[if_pos (by rfl)];go_simp;go_at_call 208;refine(PL.out w3.drew (aC G3.out.old 1)).mono ?_;rintro e w5 ⟨A2,n2,c2,r,sl,rfl,hsl,h5,hn2⟩;have hk':∀k,Kp k→w5.heap[k]?=w3.heap[k]?:=fun k hk=>by rw[yh.out]at hk;exact h5.old.block k hk
  have H5:=ah.mk (((Has.start w).below (aC G3.out.old 1)).more h5);have HS:=ah.mk (And.intro hsl hn2);clear hsl h5 hn2;refine gB _ _ ⟨⟨_,hk'⟩,rfl⟩ ?_;have HB1:=ah.mk hk';clear gB KK HG;have HG:∃g:KW w3 Kp,w5=g.W:=⟨⟨_,HB1.out⟩,rfl⟩;clear hk';try simp only[Act.put,List.setIfInBounds_toArray,List.set_cons_zero,List.set_cons_succ]
  refine tk 8 HG ?_;refine tk 9 HG ?_;refine tk 10 HG ?_;refine tk 11 HG ?_;refine aO (by kernel_rfl) ?_;simp only[List.drop_succ_cons,List.drop_zero];clear f12 e0 e1 e2;go_wp2_with fail
  first|go_ret|skip
  rw[←HQ.out];exact⟨A2,n2,c2,sl,rfl,HS.out.1,H5.out,HS.out.2⟩
end
end
end Go.Proofs.YtandhagfhppgaaaGreatDoor
