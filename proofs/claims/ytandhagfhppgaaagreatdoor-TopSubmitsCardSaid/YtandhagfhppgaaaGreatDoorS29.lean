/- Part 29 of a proof: contracts of the functions that the law reaches. No condition. -/
import Derived.Test.YtandhagfhppgaaaGreatDoorS18
import Derived.Test.YtandhagfhppgaaaGreatDoorS28
set_option linter.all false
set_option maxRecDepth 100000
set_option maxHeartbeats 16000000
namespace Go.Proofs.YtandhagfhppgaaaGreatDoor
section
open Go.RowKit
theorem AP (a b c:Value):(Tryz.prog.info? 230).map (·.size)=some (#[a,b,c]:Array Value).size:=by rw[show(#[a,b,c]:Array Value).size=3 from rfl];kernel_rfl
theorem J.tJ (j:J):j.cells[24]?=some (.int .i64 j.start):=rfl
theorem J.l9 (j:J):j.cells[25]?=some (.int .i64 j.order):=rfl
theorem J.mg (j:J):j.cells[21]?=some (.int .i64 j.started):=rfl
theorem J.tK (j:J):j.cells[8]?=some (.int .i64 j.s.limit):=rfl
theorem J.tN (j:J):j.cells[18]?=some (.int .i64 0):=rfl
section
variable {w0 w:World}
theorem vT {a:qR}{pol:Int}{now:Nat}{bk:List Ch}{y:Yd}{M:List bW}{N F:Nat}{A:Option Addr}{n c:Nat}{js:List J}(hC:jq w a pol now bk)(gK:w.cell? ⟨a.yr,0,none⟩=some (.pointer (some ⟨a.yb,0,none⟩)))(H:Has w0 w (y.star a.yb++M))(ok:y.ok N F)(hF:F≤1000)(hr:bU w 26 qP (.slice A n c) js)(G:dL now js bk) :
 Calls Tryz.prog 145 #[.pointer (some ⟨a.x,0,none⟩),.int .i64 0,.slice A n c] w fun e w'=>∃(fA bA:Option Addr) (fn fc bn bc:Nat) (ts:List Tk),e=.returned (.agg (dK fA bA fn fc bn bc))∧(fn=y.failed.length∧bn=ts.length∧bn≤n∧∀t∈ts,t.ok)∧Has w w' [aV 3 1 encI (.slice fA fn fc) y.failed,aV 292 4 jX (.slice bA bn bc) ts]:=by
 refine named fun R HQ=>?_;have jr:=ah.mk hr.len;have hn5:n≤500:=by have:=hr.len;have:=G.len;omega
 have HR:=ah.mk hr;have HC:=ah.mk hC;have HJ:=ah.mk G.jobs;have dB:now≤1000000:=by have:=G.qQ;omega
 have YA:ah (Has w (w.alloc (.cells #[.int .i64 0,.slice none 0 0,.slice none 0 0] 230)) [aF w.heap.size (.cells #[.int .i64 0,.slice none 0 0,.slice none 0 0] 230)]):=⟨(Has.start w).aZ _⟩;have FC:=ah.mk fun(W:World) (h:Below w.heap.size w W)=>ou (H.below h) ok (by omega);go_enter Tryz.func145,Tryz.ntmps145;go_wp2_with fail
 obtain⟨NA,hNA⟩:∃NA,NA=w.heap.size:=⟨_,rfl⟩;obtain⟨W0,hW0⟩:∃W0,W0=w.alloc (.cells #[.int .i64 0,.slice none 0 0,.slice none 0 0] 230):=⟨_,rfl⟩;rw[←hW0,←hNA]at YA ⊢;have B0:ah (Below w.heap.size w W0):=⟨YA.out.old⟩;have x3:∀g:GW W0,g.W.cell? ⟨a.x,14,none⟩=some (.slice (some ⟨a.yr,0,none⟩) 1 a.PU):=fun g=>g.cell (ak B0.out (hC.cell 14 _ rfl));have x9:∀g:GW W0,g.W.cell? ⟨a.x,9,none⟩=some (.slice (some ⟨a.xp,0,none⟩) 1 a.NG):=fun g=>g.cell (ak B0.out (hC.cell 9 _ rfl));have xp1:∀g:GW W0,g.W.cell? ⟨a.xp,1,none⟩=some (.int .i64 3):=fun g=>g.cell (ak B0.out (by have:=hC.part 1 _ rfl;simpa using this));have Qx:∀g:GW W0,g.W.cell? ⟨a.yr,0,none⟩=some (.pointer (some ⟨a.yb,0,none⟩)):=fun g=>g.cell (ak B0.out gK);clear hW0 hNA hC gK H ok hr G;refine aK (fun W=>∃g:GW W0,W=g.W) 19 (by kernel_rfl) (by kernel_rfl) ?_;have HB1:=ah.mk (show Below W0.heap.size W0 W0.drew from aC (Below.refl _ W0) 1);have HG:∃g:GW W0,W0.drew=g.W:=⟨⟨_,HB1.out⟩,rfl⟩;refine tk 0 HG ?_;refine tk 1 HG ?_;refine tk 2 HG ?_;refine tk 3 HG ?_;refine tk 4 HG ?_;refine tk 5 HG ?_;refine tk 6 HG ?_;refine tk 7 HG ?_;refine tk 8 HG ?_;refine tk 9 HG ?_;refine tk 10 HG ?_;refine tk 11 HG ?_;refine tk 12 HG ?_;refine tk 13 HG ?_;refine tk 14 HG ?_;refine tk 15 HG ?_;refine ji (k:=16) (k2:=18) rfl rfl (by kernel_rfl) (by kernel_rfl) (by kernel_rfl) (fun KK gB=>?_) (fun KK gB=>?_)
 ·rw[if_pos (by rfl)];go_simp;go_at_call 89;refine(FC.out W0.drew (ay B0.out B0.out.size HB1.out)).mono ?_;rintro e w2 ⟨fA,fn,fc,rfl,hfn,h2⟩;have H2:=ah.mk h2;have Zq:=ah.mk hfn;clear h2 hfn;have HG2:∃g:GW W0,w2=g.W:=⟨⟨w2,ay HB1.out (HB1.out).size H2.out.old⟩,rfl⟩;refine gB _ _ HG2 ?_;clear gB KK HG;have HG:=HG2;try simp only[Act.put,List.setIfInBounds_toArray,List.set_cons_zero,List.set_cons_succ]
  refine tk 17 HG ?_;refine aP (k:=18) rfl (by kernel_rfl) (by kernel_rfl) (fun KK gB=>?_);rw[if_pos (by rfl)];go_simp;obtain⟨g2,hg2⟩:=HG;have BG:=ah.mk (show Below W0.heap.size W0 w2 by rw[hg2];exact g2.h);clear g2 hg2;refine gB _ _ ⟨⟨w2.alloc (.cells #[.int .i64 0,.slice none 0 0,.slice none 0 0] 230),ay BG.out BG.out.size (au (Below.refl _ _) _)⟩,rfl⟩ ?_;clear gB KK;try simp only[Act.put,List.setIfInBounds_toArray,List.set_cons_zero,List.set_cons_succ]
  refine aO (by kernel_rfl) ?_;simp only[List.drop_succ_cons,List.drop_zero];have H3:ah (Has w (w2.alloc (.cells #[.int .i64 3,.slice fA fn fc,.slice none 0 0] 230)) [aF NA (.cells #[.int .i64 0,.slice none 0 0,.slice none 0 0] 230),aV 3 1 encI (.slice fA fn fc) y.failed,aF w2.heap.size (.cells #[.int .i64 3,.slice fA fn fc,.slice none 0 0] 230)]):=⟨(YA.out.drew.more H2.out).aZ _⟩;go_wp2_with (refine aB w2.heap.size rfl rfl 230 (.tmp 7) (.tmp 27) rfl #[.int .i64 3,.slice fA fn fc,.slice none 0 0] rfl rfl 230 _ (AP _ _ _) rfl (by simp[Value.oneCell']) ?_;refine ah.out ?_)
  obtain⟨NT,U7⟩:∃NT,NT=w2.heap.size:=⟨_,rfl⟩;obtain⟨W3,hW3⟩:∃W3,W3=w2.alloc (.cells #[.int .i64 3,.slice fA fn fc,.slice none 0 0] 230):=⟨_,rfl⟩;rw[←hW3,←U7]at H3;rw[←hW3,←U7];clear hW3 U7;refine ah.mk ?_;have H4:ah (Has w W3 [aF NA (.cells #[.int .i64 0,.slice none 0 0,.slice none 0 0] 230),aV 3 1 encI (.slice fA fn fc) y.failed,aF NT (.cells #[.int .i64 3,.slice fA fn fc,.slice none 0 0] 230),aV 292 4 jX (.slice none 0 0) []]):=⟨H3.out.nilRow 292 4 jX⟩;clear H3 x3 x9 xp1 Qx FC;go_wp2_with fail
  go_loopw [30] (fun i wr=>∃(k m c3:Nat) (A3:Option Addr) (ts:List Tk),i=.int .i64 k∧k≤n∧m≤k∧ah (m=ts.length∧∀t∈ts,t.ok)∧ah (Has w wr [aF NA (.cells #[.int .i64 0,.slice none 0 0,.slice none 0 0] 230),aV 3 1 encI (.slice fA fn fc) y.failed,aF NT (.cells #[.int .i64 3,.slice fA fn fc,.slice A3 m c3] 230),aV 292 4 jX (.slice A3 m c3) ts])) (fun i _=>n-(intOf i).toNat)
  case atStart=>exact⟨0,0,0,none,[],rfl,Nat.zero_le _,Nat.le_refl _,⟨rfl,fun t h=>by cases h⟩,H4⟩
  case round =>
   clear H4;obtain⟨k,m,c3,A3,ts,rfl,hk,hmk,HP,HS⟩:=hrel;by_cases hlt:k<n
   ·obtain⟨x,hx⟩:∃x,js[k]?=some x:=⟨_,List.getElem?_eq_getElem (by rw[←jr.out];exact hlt)⟩;obtain⟨gj,hA,hxr⟩:=(HR.out.below HS.out.old).get k x hx;have R1:ah (wr.rangeAt gj (k*26) x.cells.toList):=⟨hxr⟩;have XO:=ah.mk (HJ.out k x hx);have H5:=ah.mk (HS.out.aZ (.cells x.cells 55));have j55:=eP x;have ST:=ah.mk fun W=>jv (w:=W) x;subst hA;obtain⟨st,hst⟩:∃v,v=(x.how==3||x.how==4):=⟨_,rfl⟩;rw[←hst]at ST;have HST:=ah.mk hst;have xc:=x.tN;clear hxr hx hst;have RJ:ah ((wr.alloc (.cells x.cells 55)).rangeAt wr.heap.size 0 x.cells.toList):=⟨aX (H5.out.blk 4 rfl) 0 _ fun i v h=>by simpa using h⟩;go_wp2_with (first|(go_at_call 68;refine(ST.out _).mono ?_;rintro e w9 ⟨rfl,hb'⟩;have H9:=ah.mk (H5.out.up hb');clear hb';refine ah.out ?_)|(refine iy (by rfl) 55 (.tmp 9) rfl wr.heap.size 0 rfl x.cells _ RJ.out Tryz.underlying55 rfl j55 ?_)|(refine aB wr.heap.size rfl rfl 55 (.tmp 9) (.tmp 33) rfl x.cells rfl rfl 55 _ j55 rfl x.one ?_)|(refine aI rfl 55 (.tmp 32) rfl gj (k*26) rfl x.cells _ R1.out Tryz.underlying55 rfl j55 ?_))
    cases st
    ·have vN:=ah.mk (H9.out.drop 4);refine ah.mk ?_;go_wp2_with fail
     go_roundw
     case rel=>exact⟨k+1,m,c3,A3,ts,by go_num,by omega,by omega,HP,vN⟩
     case measure=>simp[intOf];omega
    ·obtain⟨NJ,wH⟩:∃NJ,NJ=wr.heap.size:=⟨_,rfl⟩;rw[←wH]at H9 ⊢;obtain⟨ho,s,hs,hs7,hsm⟩:=XO.out.block (by have:=HST.out;simp at this;exact this);obtain⟨q,hq⟩:∃q:Nat,q=ord x.s.size:=⟨_,rfl⟩;have hspec:=XO.out.spec;have hq3:q≤3:=by rw[hq];exact(lU hspec.2.2.1 hspec.2.2.2.1).1
     have VT:ah ((⟨s,q,0,0⟩:Tk).ok):=⟨⟨hs7,hq3,by rw[hq];exact hsm⟩⟩;obtain⟨sd,hsd⟩:∃v,v=x.started:=⟨_,rfl⟩;obtain⟨lim,hlim⟩:∃v,v=x.s.limit:=⟨_,rfl⟩;have VU:lim≤20:=by rw[hlim];exact hspec.2.2.2.2.2
     have hd0:0≤sd:=by rw[hsd];exact XO.out.fV
     have hd1:sd≤now:=by rw[hsd];exact XO.out.started
     obtain⟨sl,hsl⟩:∃v:Int,v=sd+lim:=⟨_,rfl⟩;obtain⟨n1,hn1⟩:∃v:Int,v=(now:Int)+1:=⟨_,rfl⟩;obtain⟨mx,hmx⟩:∃v:Int,v=if sl<n1 then n1 else sl:=⟨_,rfl⟩
     have hmax:=fun W=>max_le hmx W;have w1:IntKind.i64.wrap (sd+(lim:Int))=sl:=by rw[IntKind.wrap_i64,hsl];omega
     have w2:IntKind.i64.wrap ((now:Int)+1)=n1:=by rw[IntKind.wrap_i64,hn1];omega
     have q24:x.cells[24]?=some (.int .i64 (s:Int)):=by rw[x.tJ,hs]
     have Zr:x.cells[25]?=some (.int .i64 (q:Int)):=by rw[x.l9,ho,hq]
     have Zt:x.cells[21]?=some (.int .i64 sd):=by rw[x.mg,hsd]
     have q8:x.cells[8]?=some (.int .i64 (lim:Int)):=by rw[x.tK,hlim]
     clear wH ho hs hsm hq hspec hsd hlim hsl hn1 hmx hd0 hd1 VU;obtain⟨Kp,fD⟩:∃Kp:Nat→Prop,Kp=fun k=>k=NT∨k=NJ∨k=a.x:=⟨_,rfl⟩;have KB:ah (w9.heap[NT]?=some (.cells #[.int .i64 3,.slice fA fn fc,.slice A3 m c3] 230)∧w9.heap[NJ]?=some (.cells x.cells 55)∧w9.heap[a.x]?=some (.cells (IG a pol now bk.length) 88)):=⟨H9.out.blk 2 rfl,H9.out.blk 4 rfl,(HC.out.below H9.out.old).blk⟩;have k1:Kp NT:=by rw[fD];exact .inl rfl
     have k2:Kp NJ:=by rw[fD];exact .inr (.inl rfl)
     have k3:Kp a.x:=by rw[fD];exact .inr (.inr rfl)
     have wV:ah (∀k,Kp k→k<w9.drew.heap.size):=⟨fun k hk=>by rw[fD]at hk;rcases hk with rfl|rfl|rfl;exact(Array.getElem?_eq_some_iff.1 KB.out.1).1;exact(Array.getElem?_eq_some_iff.1 KB.out.2.1).1;exact(Array.getElem?_eq_some_iff.1 KB.out.2.2).1⟩;have t2:∀g:KW w9 Kp,g.W.cell? ⟨NT,2,none⟩=some (.slice A3 m c3):=fun g=>g.cell k1 (by rw[aj KB.out.1];rfl);have u24:∀g:KW w9 Kp,g.W.cell? ⟨NJ,24,none⟩=some (.int .i64 (s:Int)):=fun g=>g.cell k2 (by rw[aj KB.out.2.1];exact q24);have u25:∀g:KW w9 Kp,g.W.cell? ⟨NJ,25,none⟩=some (.int .i64 (q:Int)):=fun g=>g.cell k2 (by rw[aj KB.out.2.1];exact Zr);have u21:∀g:KW w9 Kp,g.W.cell? ⟨NJ,21,none⟩=some (.int .i64 sd):=fun g=>g.cell k2 (by rw[aj KB.out.2.1];exact Zt);have u8:∀g:KW w9 Kp,g.W.cell? ⟨NJ,8,none⟩=some (.int .i64 (lim:Int)):=fun g=>g.cell k2 (by rw[aj KB.out.2.1];exact q8);have xn:∀g:KW w9 Kp,g.W.cell? ⟨a.x,12,none⟩=some (.int .i64 (now:Int)):=fun g=>g.cell k3 (by rw[aj KB.out.2.2];rfl);clear fD;refine ah.mk ?_;go_wp2_with fail
     refine aK (fun W=>∃g:KW w9 Kp,W=g.W) 20 (by kernel_rfl) (by kernel_rfl) ?_;have HB0:ah (∀k,Kp k→w9.drew.heap[k]?=w9.heap[k]?):=⟨fun _ _=>rfl⟩;have HG:∃g:KW w9 Kp,w9.drew=g.W:=⟨⟨_,HB0.out⟩,rfl⟩;refine tk 0 HG ?_;refine tk 1 HG ?_;refine tk 2 HG ?_;refine tk 3 HG ?_;refine tk 4 HG ?_;refine tk 5 HG ?_;refine tk 6 HG ?_;refine tk 7 HG ?_;refine tk 8 HG ?_;refine tk 9 HG ?_;refine tk 10 HG ?_;refine tk 11 HG ?_;refine tk 12 HG ?_;refine tk 13 HG ?_;refine tk 14 HG ?_;refine tk 15 HG ?_;refine tk 16 HG ?_;refine tk 17 HG ?_;refine tk 18 HG ?_;refine aP (k:=19) rfl (by kernel_rfl) (by kernel_rfl) (fun KK gB=>?_);rw[if_pos (by rfl)];go_simp;have HB1:ah (∀k,Kp k→(w9.drew.alloc (.cells #[.int .i64 (s:Int),.int .i64 (q:Int),.int .i64 sd,.int .i64 mx] 292)).heap[k]?=w9.heap[k]?):=⟨fun k hk=>heap_alloc_old _ _ (wV.out k hk)⟩;refine gB _ _ ⟨⟨_,HB1.out⟩,rfl⟩ ?_;clear gB KK HG;have HG:∃g:KW w9 Kp,w9.drew.alloc (.cells #[.int .i64 (s:Int),.int .i64 (q:Int),.int .i64 sd,.int .i64 mx] 292)=g.W:=⟨⟨_,HB1.out⟩,rfl⟩;try simp only[Act.put,List.setIfInBounds_toArray,List.set_cons_zero,List.set_cons_succ]
     refine aO (by kernel_rfl) ?_;simp only[List.drop_succ_cons,List.drop_zero];change wpList _ _ _ _ _ (w9.drew.alloc (.cells #[.int .i64 (s:Int),.int .i64 (q:Int),.int .i64 sd,.int .i64 mx] 292));clear w1 w2 t2 u24 u25 u21 u8 xn hmax;go_wp2_with (at_builtin;refine dn 228 (.tmp 43) (.tmp 61) rfl rfl H9.out.drew 3 rfl m HP.out.1 Tryz.underlying228 lq (by decide) (by omega) rfl rfl (⟨s,q,sd,mx⟩:Tk) _ rfl rfl (by simp[Value.oneCell']) ?_;intro A5 c5 w5 h5;have H7:=ah.mk h5;clear h5;refine ah.out ?_)
     have z0:w5.cell? ⟨NT,2,none⟩=some (.slice A3 m c3):=by rw[aj (H7.out.blk 2 rfl)];rfl
     have z1:w5.frozen? ⟨NT,2,none⟩=false:=aJ (H7.out.blk 2 rfl) _;have H8:=ah.mk ((H7.out.put 2 rfl 2 (.slice A5 (m+1) c5) #[.int .i64 3,.slice fA fn fc,.slice A5 (m+1) c5] rfl).drop 4);refine ah.mk ?_;go_wp2_with fail
     go_roundw
     case rel=>exact⟨k+1,m+1,c5,A5,ts++[(⟨s,q,sd,mx⟩:Tk)],by go_num,by omega,by omega,⟨by have:=HP.out.1;simp;omega,fun t ht=>by
      rcases List.mem_append.1 ht with h|h
      ·exact HP.out.2 t h
      ·obtain rfl:=List.mem_singleton.1 h;exact⟨VT.out.s,VT.out.q,VT.out.al⟩⟩,H8⟩
     case measure=>simp[intOf];omega
   ·obtain rfl:n=k:=by omega
    have EB:ah (wr.heap[NA]?=some (.cells #[.int .i64 0,.slice none 0 0,.slice none 0 0] 230)):=⟨HS.out.blk 0 rfl⟩;have d0:wr.cell? ⟨NT,0,none⟩=some (.int .i64 3):=by rw[aj (HS.out.blk 2 rfl)];rfl
    have d1:wr.cell? ⟨NT,1,none⟩=some (.slice fA fn fc):=by rw[aj (HS.out.blk 2 rfl)];rfl
    have d2:wr.cell? ⟨NT,2,none⟩=some (.slice A3 m c3):=by rw[aj (HS.out.blk 2 rfl)];rfl
    have H9:ah (Has w (wr.setRow NA #[.int .i64 3,.slice fA fn fc,.slice A3 m c3]) [aV 3 1 encI (.slice fA fn fc) y.failed,aV 292 4 jX (.slice A3 m c3) ts]):=⟨by
     have h:=HS.out.putRow 0 rfl #[.int .i64 3,.slice fA fn fc,.slice A3 m c3];exact(h.drop 2).drop 0⟩
    go_wp2_with (refine aY rfl 230 (.tmp 6) (.tmp 65) rfl NA #[.int .i64 3,.slice fA fn fc,.slice A3 m c3] rfl rfl 230 _ EB.out (AP _ _ _) rfl (by simp[Value.oneCell']) ?_)
    try simp only[Exit.inBlock,Exit.then]
    refine bodyPost_ret (results_cell_row rfl _ _ NA 230 #[.int .i64 3,.slice fA fn fc,.slice A3 m c3] (0,0) _ rfl (setRow_heap _ _ _ _ _ _ EB.out) Tryz.underlying230 rfl (AP _ _ _)) rfl ?_;rw[←HQ.out];exact⟨fA,A3,fn,fc,m,c3,ts,rfl,⟨Zq.out,HP.out.1,hmk,HP.out.2⟩,H9.out⟩
 ·rw[if_pos (by rfl)];go_simp;have HB2:=ah.mk (au HB1.out (.cells #[.int .i64 0,.slice none 0 0,.slice none 0 0] 230));have HG2:∃g:GW W0,W0.drew.alloc (.cells #[.int .i64 0,.slice none 0 0,.slice none 0 0] 230)=g.W:=⟨⟨_,HB2.out⟩,rfl⟩;refine gB _ _ HG2 ?_;clear gB KK HG;have HG:=HG2;clear HG2;try simp only[Act.put,List.setIfInBounds_toArray,List.set_cons_zero,List.set_cons_succ]
  refine aP (k:=16) rfl (by kernel_rfl) (by kernel_rfl) (fun KK gB=>?_);rw[if_pos (by rfl)];go_simp;go_at_call 89;refine(FC.out (W0.drew.alloc (.cells #[.int .i64 0,.slice none 0 0,.slice none 0 0] 230)) (ay B0.out B0.out.size HB2.out)).mono ?_;rintro e w2 ⟨fA,fn,fc,rfl,hfn,h2⟩;have H2:=ah.mk h2;have Zq:=ah.mk hfn;clear h2 hfn;have HG2:∃g:GW W0,w2=g.W:=⟨⟨w2,ay HB2.out (HB2.out).size H2.out.old⟩,rfl⟩;refine gB _ _ HG2 ?_;clear gB KK HG;have HG:=HG2;try simp only[Act.put,List.setIfInBounds_toArray,List.set_cons_zero,List.set_cons_succ]
  refine tk 17 HG ?_;refine aO (by kernel_rfl) ?_;simp only[List.drop_succ_cons,List.drop_zero];have Zu:=ah.mk ((YA.out.drew.aZ (.cells #[.int .i64 0,.slice none 0 0,.slice none 0 0] 230)).more H2.out);obtain⟨NT,U7⟩:∃NT,NT=W0.heap.size:=⟨_,rfl⟩;have H3:ah (Has w (w2.setRow NT #[.int .i64 3,.slice fA fn fc,.slice none 0 0]) [aF NA (.cells #[.int .i64 0,.slice none 0 0,.slice none 0 0] 230),aF NT (.cells #[.int .i64 3,.slice fA fn fc,.slice none 0 0] 230),aV 3 1 encI (.slice fA fn fc) y.failed]):=⟨by rw[U7];exact Zu.out.putRow 1 rfl _⟩;have EB:ah (w2.heap[NT]?=some (.cells #[.int .i64 0,.slice none 0 0,.slice none 0 0] 230)):=⟨by rw[U7];exact Zu.out.blk 1 rfl⟩;have HNT:=ah.mk U7;clear U7 Zu;rw[←HNT.out];go_wp2_with (refine aY rfl 230 (.tmp 7) (.tmp 27) rfl NT #[.int .i64 3,.slice fA fn fc,.slice none 0 0] rfl rfl 230 _ EB.out (AP _ _ _) rfl (by simp[Value.oneCell']) ?_;refine ah.out ?_)
  obtain⟨W3,hW3⟩:∃W3,W3=w2.setRow NT #[.int .i64 3,.slice fA fn fc,.slice none 0 0]:=⟨_,rfl⟩;rw[←hW3]at H3 ⊢;clear hW3 HNT EB;refine ah.mk ?_;have H4:ah (Has w W3 [aF NA (.cells #[.int .i64 0,.slice none 0 0,.slice none 0 0] 230),aF NT (.cells #[.int .i64 3,.slice fA fn fc,.slice none 0 0] 230),aV 3 1 encI (.slice fA fn fc) y.failed,aV 292 4 jX (.slice none 0 0) []]):=⟨H3.out.nilRow 292 4 jX⟩;clear H3 x3 x9 xp1 Qx FC;go_wp2_with fail
  go_loopw [30] (fun i wr=>∃(k m c3:Nat) (A3:Option Addr) (ts:List Tk),i=.int .i64 k∧k≤n∧m≤k∧ah (m=ts.length∧∀t∈ts,t.ok)∧ah (Has w wr [aF NA (.cells #[.int .i64 0,.slice none 0 0,.slice none 0 0] 230),aF NT (.cells #[.int .i64 3,.slice fA fn fc,.slice A3 m c3] 230),aV 3 1 encI (.slice fA fn fc) y.failed,aV 292 4 jX (.slice A3 m c3) ts])) (fun i _=>n-(intOf i).toNat)
  case atStart=>exact⟨0,0,0,none,[],rfl,Nat.zero_le _,Nat.le_refl _,⟨rfl,fun t h=>by cases h⟩,H4⟩
  case round =>
   clear H4;obtain⟨k,m,c3,A3,ts,rfl,hk,hmk,HP,HS⟩:=hrel;by_cases hlt:k<n
   ·obtain⟨x,hx⟩:∃x,js[k]?=some x:=⟨_,List.getElem?_eq_getElem (by rw[←jr.out];exact hlt)⟩;obtain⟨gj,hA,hxr⟩:=(HR.out.below HS.out.old).get k x hx;have R1:ah (wr.rangeAt gj (k*26) x.cells.toList):=⟨hxr⟩;have XO:=ah.mk (HJ.out k x hx);have H5:=ah.mk (HS.out.aZ (.cells x.cells 55));have j55:=eP x;have ST:=ah.mk fun W=>jv (w:=W) x;subst hA;obtain⟨st,hst⟩:∃v,v=(x.how==3||x.how==4):=⟨_,rfl⟩;rw[←hst]at ST;have HST:=ah.mk hst;have xc:=x.tN;clear hxr hx hst;have RJ:ah ((wr.alloc (.cells x.cells 55)).rangeAt wr.heap.size 0 x.cells.toList):=⟨aX (H5.out.blk 4 rfl) 0 _ fun i v h=>by simpa using h⟩;go_wp2_with (first|(go_at_call 68;refine(ST.out _).mono ?_;rintro e w9 ⟨rfl,hb'⟩;have H9:=ah.mk (H5.out.up hb');clear hb';refine ah.out ?_)|(refine iy (by rfl) 55 (.tmp 9) rfl wr.heap.size 0 rfl x.cells _ RJ.out Tryz.underlying55 rfl j55 ?_)|(refine aB wr.heap.size rfl rfl 55 (.tmp 9) (.tmp 33) rfl x.cells rfl rfl 55 _ j55 rfl x.one ?_)|(refine aI rfl 55 (.tmp 32) rfl gj (k*26) rfl x.cells _ R1.out Tryz.underlying55 rfl j55 ?_))
    cases st
    ·have vN:=ah.mk (H9.out.drop 4);refine ah.mk ?_;go_wp2_with fail
     go_roundw
     case rel=>exact⟨k+1,m,c3,A3,ts,by go_num,by omega,by omega,HP,vN⟩
     case measure=>simp[intOf];omega
    ·obtain⟨NJ,wH⟩:∃NJ,NJ=wr.heap.size:=⟨_,rfl⟩;rw[←wH]at H9 ⊢;obtain⟨ho,s,hs,hs7,hsm⟩:=XO.out.block (by have:=HST.out;simp at this;exact this);obtain⟨q,hq⟩:∃q:Nat,q=ord x.s.size:=⟨_,rfl⟩;have hspec:=XO.out.spec;have hq3:q≤3:=by rw[hq];exact(lU hspec.2.2.1 hspec.2.2.2.1).1
     have VT:ah ((⟨s,q,0,0⟩:Tk).ok):=⟨⟨hs7,hq3,by rw[hq];exact hsm⟩⟩;obtain⟨sd,hsd⟩:∃v,v=x.started:=⟨_,rfl⟩;obtain⟨lim,hlim⟩:∃v,v=x.s.limit:=⟨_,rfl⟩;have VU:lim≤20:=by rw[hlim];exact hspec.2.2.2.2.2
     have hd0:0≤sd:=by rw[hsd];exact XO.out.fV
     have hd1:sd≤now:=by rw[hsd];exact XO.out.started
     obtain⟨sl,hsl⟩:∃v:Int,v=sd+lim:=⟨_,rfl⟩;obtain⟨n1,hn1⟩:∃v:Int,v=(now:Int)+1:=⟨_,rfl⟩;obtain⟨mx,hmx⟩:∃v:Int,v=if sl<n1 then n1 else sl:=⟨_,rfl⟩
     have hmax:=fun W=>max_le hmx W;have w1:IntKind.i64.wrap (sd+(lim:Int))=sl:=by rw[IntKind.wrap_i64,hsl];omega
     have w2:IntKind.i64.wrap ((now:Int)+1)=n1:=by rw[IntKind.wrap_i64,hn1];omega
     have q24:x.cells[24]?=some (.int .i64 (s:Int)):=by rw[x.tJ,hs]
     have Zr:x.cells[25]?=some (.int .i64 (q:Int)):=by rw[x.l9,ho,hq]
     have Zt:x.cells[21]?=some (.int .i64 sd):=by rw[x.mg,hsd]
     have q8:x.cells[8]?=some (.int .i64 (lim:Int)):=by rw[x.tK,hlim]
     clear wH ho hs hsm hq hspec hsd hlim hsl hn1 hmx hd0 hd1 VU;obtain⟨Kp,fD⟩:∃Kp:Nat→Prop,Kp=fun k=>k=NT∨k=NJ∨k=a.x:=⟨_,rfl⟩;have KB:ah (w9.heap[NT]?=some (.cells #[.int .i64 3,.slice fA fn fc,.slice A3 m c3] 230)∧w9.heap[NJ]?=some (.cells x.cells 55)∧w9.heap[a.x]?=some (.cells (IG a pol now bk.length) 88)):=⟨H9.out.blk 1 rfl,H9.out.blk 4 rfl,(HC.out.below H9.out.old).blk⟩;have k1:Kp NT:=by rw[fD];exact .inl rfl
     have k2:Kp NJ:=by rw[fD];exact .inr (.inl rfl)
     have k3:Kp a.x:=by rw[fD];exact .inr (.inr rfl)
     have wV:ah (∀k,Kp k→k<w9.drew.heap.size):=⟨fun k hk=>by rw[fD]at hk;rcases hk with rfl|rfl|rfl;exact(Array.getElem?_eq_some_iff.1 KB.out.1).1;exact(Array.getElem?_eq_some_iff.1 KB.out.2.1).1;exact(Array.getElem?_eq_some_iff.1 KB.out.2.2).1⟩;have t2:∀g:KW w9 Kp,g.W.cell? ⟨NT,2,none⟩=some (.slice A3 m c3):=fun g=>g.cell k1 (by rw[aj KB.out.1];rfl);have u24:∀g:KW w9 Kp,g.W.cell? ⟨NJ,24,none⟩=some (.int .i64 (s:Int)):=fun g=>g.cell k2 (by rw[aj KB.out.2.1];exact q24);have u25:∀g:KW w9 Kp,g.W.cell? ⟨NJ,25,none⟩=some (.int .i64 (q:Int)):=fun g=>g.cell k2 (by rw[aj KB.out.2.1];exact Zr);have u21:∀g:KW w9 Kp,g.W.cell? ⟨NJ,21,none⟩=some (.int .i64 sd):=fun g=>g.cell k2 (by rw[aj KB.out.2.1];exact Zt);have u8:∀g:KW w9 Kp,g.W.cell? ⟨NJ,8,none⟩=some (.int .i64 (lim:Int)):=fun g=>g.cell k2 (by rw[aj KB.out.2.1];exact q8);have xn:∀g:KW w9 Kp,g.W.cell? ⟨a.x,12,none⟩=some (.int .i64 (now:Int)):=fun g=>g.cell k3 (by rw[aj KB.out.2.2];rfl);clear fD;refine ah.mk ?_;go_wp2_with fail
     refine aK (fun W=>∃g:KW w9 Kp,W=g.W) 20 (by kernel_rfl) (by kernel_rfl) ?_;have HB0:ah (∀k,Kp k→w9.drew.heap[k]?=w9.heap[k]?):=⟨fun _ _=>rfl⟩;have HG:∃g:KW w9 Kp,w9.drew=g.W:=⟨⟨_,HB0.out⟩,rfl⟩;refine tk 0 HG ?_;refine tk 1 HG ?_;refine tk 2 HG ?_;refine tk 3 HG ?_;refine tk 4 HG ?_;refine tk 5 HG ?_;refine tk 6 HG ?_;refine tk 7 HG ?_;refine tk 8 HG ?_;refine tk 9 HG ?_;refine tk 10 HG ?_;refine tk 11 HG ?_;refine tk 12 HG ?_;refine tk 13 HG ?_;refine tk 14 HG ?_;refine tk 15 HG ?_;refine tk 16 HG ?_;refine tk 17 HG ?_;refine tk 18 HG ?_;refine aP (k:=19) rfl (by kernel_rfl) (by kernel_rfl) (fun KK gB=>?_);rw[if_pos (by rfl)];go_simp;have HB1:ah (∀k,Kp k→(w9.drew.alloc (.cells #[.int .i64 (s:Int),.int .i64 (q:Int),.int .i64 sd,.int .i64 mx] 292)).heap[k]?=w9.heap[k]?):=⟨fun k hk=>heap_alloc_old _ _ (wV.out k hk)⟩;refine gB _ _ ⟨⟨_,HB1.out⟩,rfl⟩ ?_;clear gB KK HG;have HG:∃g:KW w9 Kp,w9.drew.alloc (.cells #[.int .i64 (s:Int),.int .i64 (q:Int),.int .i64 sd,.int .i64 mx] 292)=g.W:=⟨⟨_,HB1.out⟩,rfl⟩;try simp only[Act.put,List.setIfInBounds_toArray,List.set_cons_zero,List.set_cons_succ]
     refine aO (by kernel_rfl) ?_;simp only[List.drop_succ_cons,List.drop_zero];change wpList _ _ _ _ _ (w9.drew.alloc (.cells #[.int .i64 (s:Int),.int .i64 (q:Int),.int .i64 sd,.int .i64 mx] 292));clear w1 w2 t2 u24 u25 u21 u8 xn hmax;go_wp2_with (at_builtin;refine dn 228 (.tmp 43) (.tmp 61) rfl rfl H9.out.drew 3 rfl m HP.out.1 Tryz.underlying228 lq (by decide) (by omega) rfl rfl (⟨s,q,sd,mx⟩:Tk) _ rfl rfl (by simp[Value.oneCell']) ?_;intro A5 c5 w5 h5;have H7:=ah.mk h5;clear h5;refine ah.out ?_)
     have z0:w5.cell? ⟨NT,2,none⟩=some (.slice A3 m c3):=by rw[aj (H7.out.blk 1 rfl)];rfl
     have z1:w5.frozen? ⟨NT,2,none⟩=false:=aJ (H7.out.blk 1 rfl) _;have H8:=ah.mk ((H7.out.put 1 rfl 2 (.slice A5 (m+1) c5) #[.int .i64 3,.slice fA fn fc,.slice A5 (m+1) c5] rfl).drop 4);refine ah.mk ?_;go_wp2_with fail
     go_roundw
     case rel=>exact⟨k+1,m+1,c5,A5,ts++[(⟨s,q,sd,mx⟩:Tk)],by go_num,by omega,by omega,⟨by have:=HP.out.1;simp;omega,fun t ht=>by
      rcases List.mem_append.1 ht with h|h
      ·exact HP.out.2 t h
      ·obtain rfl:=List.mem_singleton.1 h;exact⟨VT.out.s,VT.out.q,VT.out.al⟩⟩,H8⟩
     case measure=>simp[intOf];omega
   ·obtain rfl:n=k:=by omega
    have EB:ah (wr.heap[NA]?=some (.cells #[.int .i64 0,.slice none 0 0,.slice none 0 0] 230)):=⟨HS.out.blk 0 rfl⟩;have d0:wr.cell? ⟨NT,0,none⟩=some (.int .i64 3):=by rw[aj (HS.out.blk 1 rfl)];rfl
    have d1:wr.cell? ⟨NT,1,none⟩=some (.slice fA fn fc):=by rw[aj (HS.out.blk 1 rfl)];rfl
    have d2:wr.cell? ⟨NT,2,none⟩=some (.slice A3 m c3):=by rw[aj (HS.out.blk 1 rfl)];rfl
    have H9:ah (Has w (wr.setRow NA #[.int .i64 3,.slice fA fn fc,.slice A3 m c3]) [aV 3 1 encI (.slice fA fn fc) y.failed,aV 292 4 jX (.slice A3 m c3) ts]):=⟨by
     have h:=HS.out.putRow 0 rfl #[.int .i64 3,.slice fA fn fc,.slice A3 m c3];exact(h.drop 1).drop 0⟩
    go_wp2_with (refine aY rfl 230 (.tmp 6) (.tmp 65) rfl NA #[.int .i64 3,.slice fA fn fc,.slice A3 m c3] rfl rfl 230 _ EB.out (AP _ _ _) rfl (by simp[Value.oneCell']) ?_)
    try simp only[Exit.inBlock,Exit.then]
    refine bodyPost_ret (results_cell_row rfl _ _ NA 230 #[.int .i64 3,.slice fA fn fc,.slice A3 m c3] (0,0) _ rfl (setRow_heap _ _ _ _ _ _ EB.out) Tryz.underlying230 rfl (AP _ _ _)) rfl ?_;rw[←HQ.out];exact⟨fA,A3,fn,fc,m,c3,ts,rfl,⟨Zq.out,HP.out.1,hmk,HP.out.2⟩,H9.out⟩
end
end
end Go.Proofs.YtandhagfhppgaaaGreatDoor
