/- Part 24 of a proof: contracts of the functions that the law reaches. No condition. -/
import Derived.Test.YtandhagfhppgaaaGreatDoorS21
import Derived.Test.YtandhagfhppgaaaGreatDoorS23
set_option linter.all false
set_option maxRecDepth 100000
set_option maxHeartbeats 16000000
namespace Go.Proofs.YtandhagfhppgaaaGreatDoor
section
open Go.RowKit
structure Wa where
 id:Nat
 q:Nat
 len:Int
def Wa.cells (x:Wa):Array Value:=#[.int .u32 (x.id:Int),.int .i64 (x.q:Int),.int .i64 x.len]
def oI (x:Wa):List Value:=x.cells.toList
theorem Ar (x:Wa):(oI x).length=3:=rfl
structure Wa.ok (x:Wa):Prop where
 q:x.q≤3
 len1:1≤x.len
 len:x.len≤1000
theorem Wa.one (x:Wa):x.cells.all (·.oneCell')=true:=by simp[Wa.cells,Value.oneCell']
theorem Au (x:Wa):(Tryz.prog.info? 225).map (·.size)=some x.cells.size:=by rw[show x.cells.size=3 from rfl];kernel_rfl
structure Sl where
 id:Nat
 s:Nat
 q:Nat
 at_:Int
def dJ (x:Sl):List Value:=[.int .u32 (x.id:Int),.int .i64 (x.s:Int),.int .i64 (x.q:Int),.int .i64 x.at_]
theorem Aw (x:Sl):(dJ x).length=4:=rfl
def Sl.of (x:Sl)(ws:List Wa):Prop:=(∃u∈ws,u.id=x.id∧u.q=x.q)∧x.s≤7∧x.s%2^x.q=0
theorem qE:∃i0 z,Tryz.prog.info? 233=some i0∧i0.zero=some z∧i0.size=4∧i0.bytes≤1000∧z.cells.size=4:=fZ (by kernel_rfl)
theorem jQ (a b:Value):(Tryz.prog.info? 53).map (·.size)=some (#[a,b]:Array Value).size:=by rw[show(#[a,b]:Array Value).size=2 from rfl];kernel_rfl
def sV (N0 N2 p o:Nat)(fA bA:Option Addr)(fn fc bn bc:Nat)(A3:Option Addr)(m3 c3:Nat)(ts:List Tk)(A1:Option Addr)(m c1:Nat)(sl:List Sl):List bW :=
 [aF N0 (.cells #[.int .i64 3,.slice fA fn fc,.slice A3 m3 c3] 230),aF (N0+1) (.cells #[.func (.func p) #[] #[],.func (.func o) #[] #[]] 331),aF N2 (.cells #[.int .i64 3,.slice fA fn fc,.slice bA bn bc] 230),aV 292 4 jX (.slice A3 m3 c3) ts,aV 233 4 dJ (.slice A1 m c1) sl]
def rE (f1 f2:Nat):Array Value:=#[.func (.func f1) #[] #[],.func (.func f2) #[] #[]]
def dK (fA bA:Option Addr)(fn fc bn bc:Nat):Array Value:=#[.int .i64 3,.slice fA fn fc,.slice bA bn bc]
section
variable {w0 w:World}{L:List bW}
theorem Has.pick (H:Has w0 w L)(i:Nat)(X:bW)(hi:L[i]?=some X):Has w0 w [X]:=by
 obtain⟨R,_,h,_⟩:=H.one i X hi;exact h.drop 1
theorem own_below {w w1:World}{e:TypeId}{sz n:Nat}{v:Value}{xs:List Value}(h:w.ownsRow 0 e sz v n xs)(hb:Below w.heap.size w w1):w1.ownsRow 0 e sz v n xs :=
 EL h fun k hk=>hb.block k (xg h k hk)
theorem oq (H0:Has w0 w L){n c:Nat}{A:Option Addr}{xs:List Value}(hrow:w.ownsRow 0 292 4 (.slice A n c) n xs)(hn:n≤1000000)(h1:∀u∈xs,u.oneCell'=true) :
 Calls Tryz.prog 295 #[.slice A n c] w fun e w'=>∃A1 c1,e=.returned (.slice A1 n c1)∧Has w0 w' (L++[rowA 292 4 (.slice A1 n c1) n xs]):=by
 rcases hrow.2 with⟨hv,h0⟩|⟨g,cap,cur,hv,hb,hh,hnc,hm,hs,ht⟩
 ·cases hv;have hx:xs=[]:=List.eq_nil_of_length_eq_zero (by rw[hrow.1]);subst hx;have HN:=ah.mk (H0.iU 292 4);have hnil:∀W,(binOp .eql 228 (.slice none 0 0) (.slice none 0 0)).run Tryz.prog W=.ok (.bool true) W:=fun _=>rfl;clear hrow H0;go_enter Tryz.func295,Tryz.ntmps295;go_wp2_with fail
  go_ret;exact⟨none,0,rfl,HN.out⟩
 ·injection hv with e1 e2 e3;subst e1 e3;obtain⟨A1,c1,w1,hr,h2⟩:=lF H0 hrow 228 228 Tryz.underlying228 lq (by decide) hn h1;have HR:=ah.mk hr;have H2:=ah.mk h2;clear hr h2;have hnil:∀W,(binOp .eql 228 (.slice (some ⟨g,0,none⟩) n c) (.slice none 0 0)).run Tryz.prog W=.ok (.bool false) W:=fun _=>rfl;clear hrow H0 hh ht h1 e2 hb hs;go_enter Tryz.func295,Tryz.ntmps295;go_wp2_with (at_builtin;refine step_append rfl 228 (.tmp 5) (.tmp 6) rfl rfl rfl HR.out ?_)
  go_ret;exact⟨A1,c1,rfl,H2.out⟩
theorem Dj (ts:List Tk):∀u∈ts.flatMap jX,u.oneCell'=true:=by
 intro u hu;obtain⟨x,_,hx⟩:=List.mem_flatMap.1 hu;simp[jX,Tk.cells]at hx;rcases hx with rfl|rfl|rfl|rfl<;>rfl
end
section
variable {w:World}
theorem Ql (x:Int)(w:World):Calls Tryz.prog 250 #[.int .i64 x] w fun e w'=>∃b:Bool,e=.returned (.bool b)∧w'=w:=by
 refine named fun R HQ=>?_;go_enter Tryz.func250,Tryz.ntmps250;go_wp2_with fail
 first|go_ret|skip
 rw[←HQ.out];exact⟨_,rfl,rfl⟩
theorem xZ (x:Int)(w:World):Calls Tryz.prog 251 #[.int .i64 x] w fun e w'=>∃b:Bool,e=.returned (.bool b)∧w'=w:=by
 refine named fun R HQ=>?_;go_enter Tryz.func251,Tryz.ntmps251;go_wp2_with fail
 first|go_ret|skip
 rw[←HQ.out];exact⟨_,rfl,rfl⟩
theorem Qm (x:Int)(w:World):Calls Tryz.prog 252 #[.int .i64 x] w fun e w'=>∃b:Bool,e=.returned (.bool b)∧w'=w:=by
 refine named fun R HQ=>?_;go_enter Tryz.func252,Tryz.ntmps252;go_wp2_with fail
 first|go_ret|skip
 rw[←HQ.out];exact⟨_,rfl,rfl⟩
theorem yc (x:Int)(w:World):Calls Tryz.prog 253 #[.int .i64 x] w fun e w'=>∃b:Bool,e=.returned (.bool b)∧w'=w:=by
 refine named fun R HQ=>?_;go_enter Tryz.func253,Tryz.ntmps253;go_wp2_with fail
 first|go_ret|skip
 rw[←HQ.out];exact⟨_,rfl,rfl⟩
theorem sW (x:Int)(w:World):Calls Tryz.prog 254 #[.int .i64 x] w fun e w'=>∃b:Bool,e=.returned (.bool b)∧w'=w:=by
 refine named fun R HQ=>?_;go_enter Tryz.func254,Tryz.ntmps254;go_wp2_with fail
 first|go_ret|skip
 rw[←HQ.out];exact⟨_,rfl,rfl⟩
theorem Oc {fA bA wA:Option Addr}{fn fc bn bc wn wc:Nat}{fl:List Int}{ts:List Tk}{ws:List Wa}(hf:bU w 1 encI (.slice fA fn fc) fl)(hb:w.ownsRow 0 292 4 (.slice bA bn bc) bn (ts.flatMap jX))(hbn:bn=ts.length)(hw:bU w 3 oI (.slice wA wn wc) ws)
 (hok:∀t∈ts,t.ok) (hws:∀x∈ws,x.ok) (h1:fn≤1000) (h2:bn≤500) (h3:wn≤300) (now:Int) (hn0:0≤now) (hn1:now≤1000000) :
 Calls Tryz.prog 249 #[.agg (dK fA bA fn fc bn bc),.slice wA wn wc,.int .i64 now,.agg (rE 250 251)] w fun e w'=>∃(A2:Option Addr) (n2 c2:Nat) (r:Int) (sl:List Sl),e=.returned (.tuple #[.slice A2 n2 c2,.int .i64 r])∧(∀x∈sl,x.of ws)∧Has w w' [aV 233 4 dJ (.slice A2 n2 c2) sl]∧n2=sl.length:=by
 refine named fun R HQ=>?_;have hrb:bU w 4 jX (.slice bA bn bc) ts:=rX hbn jP hb;have CK:=ah.mk fun(W:World) (h:Below w.heap.size w W)=>nZ (w:=W) (hf.below h) (hrb.below h) hok h1 (by omega);have XB:=ah.mk fun(L:List bW) (W:World) (h:Below w.heap.size w W) (H:Has w W L)=>oq H (own_below hb h) (by omega) (Dj ts);have EA:=ah.mk fun(W:World) (h:Below w.heap.size w W) (q:Nat) (hq:q≤3) (fr ln:Int)=>iF (w:=W) (hf.below h) (hrb.below h) hok h1 (by omega) q hq fr ln;have HF:=ah.mk hf;have HW:=ah.mk hw;have WL:=ah.mk hw.len;have U3:=ah.mk hws;have Qn:=ah.mk (And.intro hok hbn);have H0:=ah.mk (((Has.start w).aZ (.cells (dK fA bA fn fc bn bc) 230)).aZ (.cells (rE 250 251) 331));have q1:¬now<0:=by omega
 have q2:¬(1099511627776:Int)<now:=by omega
 have q3:¬(300:Int)<wn:=by omega
 clear hf hb hbn hw hok hws hrb;unfold dK rE;unfold dK rE at H0;go_enter Tryz.func249,Tryz.ntmps249;go_wp2_with (go_at_call 294;refine(CK.out _ H0.out.old).mono ?_;rintro e w1 ⟨r,rfl,hb1⟩;have H1:=ah.mk (H0.out.up hb1);clear hb1;refine ah.out ?_)
 by_cases hr0:r=0
 ·subst hr0;clear H0;refine ah.mk ?_;go_wp2_with fail
  go_loopw [42] (fun i wr=>∃(k:Nat),i=.int .i64 k∧k≤wn∧ah (Has w wr [aF w.heap.size (.cells #[.int .i64 3,.slice fA fn fc,.slice bA bn bc] 230),aF (w.heap.size+1) (.cells #[.func (.func 250) #[] #[],.func (.func 251) #[] #[]] 331)])) (fun i _=>wn-(intOf i).toNat)
  case atStart=>exact⟨0,rfl,Nat.zero_le _,⟨by have:=H1.out;simpa using this⟩⟩
  case round =>
   clear H1;obtain⟨k,rfl,hk,HS⟩:=hrel;by_cases hlt:k<wn
   ·obtain⟨x,hx⟩:∃y,ws[k]?=some y:=⟨_,List.getElem?_eq_getElem (by rw[←WL.out];exact hlt)⟩;obtain⟨gb,hA,gK⟩:=(HW.out.below HS.out.old).get k x hx;have R1:ah (wr.rangeAt gb (k*3) x.cells.toList):=⟨gK⟩;have xk:=U3.out x (List.mem_of_getElem? hx);have H5:=ah.mk ((HS.out.aZ (.cells x.cells 225)).drop 2);obtain⟨ln,hln⟩:∃v,v=x.len:=⟨_,rfl⟩;obtain⟨q,hq⟩:∃v,v=x.q:=⟨_,rfl⟩;have k1:x.cells[1]?=some (.int .i64 (q:Int)):=by rw[hq];rfl
    have k2:x.cells[2]?=some (.int .i64 ln):=by rw[hln];rfl
    have pU:=Au x;have p1:¬(q:Int)<0:=by omega
    have p2:¬ln<1:=by rw[hln];have:=xk.len1;omega
    have p3:¬(1099511627776:Int)<ln:=by rw[hln];have:=xk.len;omega
    subst hA;clear gK hx hln hq xk;go_wp2_with (first|(refine aB wr.heap.size rfl rfl 225 (.tmp 11) (.tmp 45) rfl x.cells rfl rfl 225 _ pU rfl x.one ?_)|(refine aI rfl 225 (.tmp 44) rfl gb (k*3) rfl x.cells _ R1.out Tryz.underlying225 rfl pU ?_))
    go_roundw
    case rel=>exact⟨k+1,by go_num,by omega,H5⟩
    case measure=>simp[intOf];omega
   ·obtain rfl:wn=k:=by omega
    have c0:wr.cell? ⟨w.heap.size,0,none⟩=some (.int .i64 3):=by rw[aj (HS.out.blk 0 rfl)];rfl
    have c1:wr.cell? ⟨w.heap.size,1,none⟩=some (.slice fA fn fc):=by rw[aj (HS.out.blk 0 rfl)];rfl
    have c2:wr.cell? ⟨w.heap.size,2,none⟩=some (.slice bA bn bc):=by rw[aj (HS.out.blk 0 rfl)];rfl
    have c3:∀o,(wr.alloc o).cell? ⟨w.heap.size,2,none⟩=some (.slice bA bn bc):=fun o=>ak (au (Below.refl _ _) _) c2;have H2:=ah.mk (HS.out.aZ (.cells #[.int .i64 3,.slice fA fn fc,.slice bA bn bc] 230));have C2:=ah.mk (XB.out _ _ H2.out.old H2.out);obtain⟨N2,U4⟩:∃N2,N2=wr.heap.size:=⟨_,rfl⟩;have NW:=ah.mk U4;clear U4;go_wp2_with (go_at_call 295;refine C2.out.mono ?_;rintro e w3 ⟨A1,c1',rfl,h3⟩;have H3:=ah.mk h3;clear h3;refine ah.out ?_)
    have d2:w3.cell? ⟨w.heap.size,2,none⟩=some (.slice bA bn bc):=by rw[aj (H3.out.blk 0 rfl)];rfl
    have f2:w3.frozen? ⟨w.heap.size,2,none⟩=false:=aJ (H3.out.blk 0 rfl) _;have H4:ah (Has w (w3.setCell ⟨w.heap.size,2,none⟩ (.slice A1 bn c1')) (sV w.heap.size N2 250 251 fA bA fn fc bn bc A1 bn c1' ts none 0 0 [])):=⟨by
     have h:=(H3.out.put 0 rfl 2 (.slice A1 bn c1') #[.int .i64 3,.slice fA fn fc,.slice A1 bn c1'] rfl).nilRow 233 4 dJ;have e:ts.length=bn:=Qn.out.2.symm;unfold sV aV;rw[e];rw[←NW.out]at h;exact h⟩
    rw[←NW.out];clear c0 c1 c2 c3 H2 C2 HS H3 NW;refine ah.mk ?_;go_wp2_with fail
    go_loopw [12,14,67] (fun v g i wr=>∃(k wt m m3 c1 c3:Nat) (A1 A3:Option Addr) (sl:List Sl) (ts':List Tk),v=.slice A1 m c1∧g=.int .i64 wt∧i=.int .i64 k∧k≤wn∧m≤k∧m3≤bn+k∧wt≤k∧ah (m=sl.length∧m3=ts'.length∧(∀t∈ts',t.ok)∧∀x∈sl,x.of ws)∧ah (Has w wr (sV w.heap.size N2 250 251 fA bA fn fc bn bc A3 m3 c3 ts' A1 m c1 sl))) (fun _ _ i _=>wn-(intOf i).toNat)
    case atStart=>exact⟨0,0,0,bn,0,c1',none,A1,[],ts,rfl,rfl,rfl,Nat.zero_le _,Nat.le_refl _,Nat.le_refl _,Nat.le_refl _,⟨rfl,Qn.out.2,Qn.out.1,fun x hx=>by cases hx⟩,H4⟩
    case round =>
     clear H4;obtain⟨k,wt,m,m3,c1,c3,A1,A3,sl,ts',rfl,rfl,rfl,hk,hm,hm3,hwt,HP,HS⟩:=hrel;by_cases hlt:k<wn
     ·obtain⟨x,hx⟩:∃y,ws[k]?=some y:=⟨_,List.getElem?_eq_getElem (by rw[←WL.out];exact hlt)⟩;obtain⟨gb,hA,gK⟩:=(HW.out.below HS.out.old).get k x hx;have R1:ah (wr.rangeAt gb (k*3) x.cells.toList):=⟨gK⟩;have xk:=U3.out x (List.mem_of_getElem? hx);obtain⟨ln,hln⟩:∃v,v=x.len:=⟨_,rfl⟩;obtain⟨q,hq⟩:∃v,v=x.q:=⟨_,rfl⟩;obtain⟨pV,hid⟩:∃v,v=x.id:=⟨_,rfl⟩;have HX:ah (x∈ws∧x.id=pV∧x.q=q∧q≤3):=⟨List.mem_of_getElem? hx,hid.symm,hq.symm,by rw[hq];exact xk.q⟩;have H5:=ah.mk (HS.out.aZ (.cells x.cells 225));have pU:=Au x;have p3:¬(3:Int)<q:=by have:=xk.q;omega
      subst hA;have k0:x.cells[0]?=some (.int .u32 (pV:Int)):=by rw[hid];rfl
      have k1:x.cells[1]?=some (.int .i64 (q:Int)):=by rw[hq];rfl
      have k2:x.cells[2]?=some (.int .i64 ln):=by rw[hln];rfl
      clear gK hx xk hq hid hln;go_wp2_with (first|(refine aB wr.heap.size rfl rfl 225 (.tmp 16) (.tmp 70) rfl x.cells rfl rfl 225 _ pU rfl x.one ?_;refine ah.out ?_)|(refine aI rfl 225 (.tmp 69) rfl gb (k*3) rfl x.cells _ R1.out Tryz.underlying225 rfl pU ?_))
      obtain⟨W5,oM⟩:∃W5,W5=wr.alloc (.cells x.cells 225):=⟨_,rfl⟩;rw[←oM]at H5 ⊢;have MI:ah (Below w.heap.size w W5):=⟨H5.out.old⟩;clear oM R1;have s0:∀g:GW W5,g.W.cell? ⟨w.heap.size,0,none⟩=some (.int .i64 3):=fun g=>g.cell (by rw[aj (H5.out.blk 0 rfl)];rfl);have s1:∀g:GW W5,g.W.cell? ⟨w.heap.size,1,none⟩=some (.slice fA fn fc):=fun g=>g.cell (by rw[aj (H5.out.blk 0 rfl)];rfl);have s2:∀g:GW W5,g.W.cell? ⟨w.heap.size,2,none⟩=some (.slice A3 m3 c3):=fun g=>g.cell (by rw[aj (H5.out.blk 0 rfl)];rfl);have U5:∀g:GW W5,g.W.cell? ⟨w.heap.size+1,0,none⟩=some (.func (.func 250) #[] #[]):=fun g=>g.cell (by rw[aj (H5.out.blk 1 rfl)];rfl);have pc1:∀g:GW W5,g.W.cell? ⟨w.heap.size+1,1,none⟩=some (.func (.func 251) #[] #[]):=fun g=>g.cell (by rw[aj (H5.out.blk 1 rfl)];rfl);have t0:∀g:GW W5,g.W.cell? ⟨N2,0,none⟩=some (.int .i64 3):=fun g=>g.cell (by rw[aj (H5.out.blk 2 rfl)];rfl);have t1:∀g:GW W5,g.W.cell? ⟨N2,1,none⟩=some (.slice fA fn fc):=fun g=>g.cell (by rw[aj (H5.out.blk 2 rfl)];rfl);have t2:∀g:GW W5,g.W.cell? ⟨N2,2,none⟩=some (.slice bA bn bc):=fun g=>g.cell (by rw[aj (H5.out.blk 2 rfl)];rfl);have u0:∀g:GW W5,g.W.cell? ⟨wr.heap.size,0,none⟩=some (.int .u32 (pV:Int)):=fun g=>g.cell (by rw[aj (H5.out.blk 5 rfl)];exact k0);have u1:∀g:GW W5,g.W.cell? ⟨wr.heap.size,1,none⟩=some (.int .i64 (q:Int)):=fun g=>g.cell (by rw[aj (H5.out.blk 5 rfl)];exact k1);have u2:∀g:GW W5,g.W.cell? ⟨wr.heap.size,2,none⟩=some (.int .i64 ln):=fun g=>g.cell (by rw[aj (H5.out.blk 5 rfl)];exact k2);have FN:=ah.mk fun(g:GW W5) (t1 t2:Int)=>oh (w:=g.W) ((HF.out.below MI.out).below g.h) ((bK H5.out 3 rfl jP).below g.h) HP.out.2.2.1 (by omega) (by omega) q HX.out.2.2.2 t1 t2;have EB:=ah.mk fun(g:GW W5) (t1 t2:Int)=>iF (w:=g.W) ((HF.out.below MI.out).below g.h) ((bK H5.out 3 rfl jP).below g.h) HP.out.2.2.1 (by omega) (by omega) q HX.out.2.2.2 t1 t2;have EC:=ah.mk fun(g:GW W5) (t1 t2:Int)=>EA.out g.W (ay MI.out MI.out.size g.h) q HX.out.2.2.2 t1 t2;obtain⟨g5,hg5⟩:∃g5:GW W5,W5=g5.W:=⟨GW.self W5,rfl⟩;rw[hg5];clear hg5;refine ah.mk ?_;go_wp2_with (go_at_call 296;refine(EC.out g5 _ _).mono ?_;rintro e w9 ⟨t,s,r,rfl,hs,hb'⟩;obtain⟨g9,TB⟩:∃g9:GW W5,w9=g9.W:=⟨g5.on hb',rfl⟩;subst TB;clear hb' hs;refine ah.out ?_)
      by_cases hr:r=0
      ·subst hr;refine ah.mk ?_;go_wp2_with (go_at_call 297;refine(FN.out g9 _ _).mono ?_;rintro e w10 ⟨s,b,rfl,hs,hb'⟩;obtain⟨g10,Qo⟩:∃g10:GW W5,w10=g10.W:=⟨g9.on hb',rfl⟩;subst Qo;have HZ:=ah.mk hs;clear hb' hs;refine ah.out ?_)
       cases b
       ·refine ah.mk ?_;go_wp2_with (go_at_call 250;refine(Ql _ _).mono ?_;rintro e w' ⟨bp,rfl,hw⟩;obtain rfl:=hw.symm;clear hw;refine ah.out ?_)
        cases bp
        ·refine ah.mk ?_;have qX:=ah.mk ((H5.out.up g10.h).drop 5);go_wp2_with (go_at_call 251;refine(xZ _ _).mono ?_;rintro e w' ⟨bo,rfl,hw⟩;obtain rfl:=hw.symm;clear hw;refine ah.out ?_)
         cases bo
         ·refine ah.mk ?_;go_wp2_with fail
          first|go_ret2|skip
          rw[←HQ.out];exact⟨A1,m,c1,0,sl,rfl,HP.out.2.2.2,qX.out.pick 4 _ rfl,HP.out.1⟩
         ·refine ah.mk ?_;go_wp2_with fail
          go_roundw
          case rel=>exact⟨k+1,wt+1,m,m3,c1,c3,A1,A3,sl,ts',rfl,by go_num,by go_num,by omega,by omega,by omega,by omega,HP,qX⟩
          case measure=>simp[intOf];omega
        ·refine ah.mk ?_;go_wp2_with (first|(refine aB g11.W.heap.size rfl rfl 53 (.tmp 23) (.tmp 125) rfl #[.int .i64 (s3:Int),.int .i64 (q:Int)] rfl rfl 53 _ (jQ _ _) rfl (by simp[Value.oneCell']) ?_;refine ah.out ?_)|(go_at_call 296;refine(EB.out g10 _ _).mono ?_;rintro e TD ⟨at_,s3,r3,rfl,hs,hb'⟩;obtain⟨g11,Qp⟩:∃g11:GW W5,TD=g11.W:=⟨g10.on hb',rfl⟩;subst Qp;have HZ3:=ah.mk hs;clear hb' hs))
         have H6:=ah.mk ((H5.out.up g11.h).aZ (.cells #[.int .i64 (s3:Int),.int .i64 (q:Int)] 53));obtain⟨NB,jw⟩:∃NB,NB=g11.W.heap.size:=⟨_,rfl⟩;obtain⟨W6,vM⟩:∃W6,W6=g11.W.alloc (.cells #[.int .i64 (s3:Int),.int .i64 (q:Int)] 53):=⟨_,rfl⟩;rw[←jw,←vM]at H6 ⊢;clear vM jw FN EB EC s0 s1 s2 U5 pc1 t0 t1 t2 u0 u1 u2 H5;have v0:W6.cell? ⟨wr.heap.size,0,none⟩=some (.int .u32 (pV:Int)):=by rw[aj (H6.out.blk 5 rfl)];exact k0
         have v1:W6.cell? ⟨NB,0,none⟩=some (.int .i64 (s3:Int)):=by rw[aj (H6.out.blk 6 rfl)];rfl
         have v2:W6.cell? ⟨NB,1,none⟩=some (.int .i64 (q:Int)):=by rw[aj (H6.out.blk 6 rfl)];rfl
         refine ah.mk ?_;go_wp2_with (at_builtin;refine dn 226 (.tmp 126) (.tmp 132) rfl rfl H6.out 4 rfl m HP.out.1 Tryz.underlying226 qE (by decide) (by omega) rfl rfl (⟨pV,s3,q,at_⟩:Sl) _ rfl rfl (by simp[Value.oneCell']) ?_;intro A5 c5 w7 h7;have H7:=ah.mk h7;clear h7;refine ah.out ?_)
         clear v0 v1 v2 H6;have v0:w7.cell? ⟨w.heap.size,2,none⟩=some (.slice A3 m3 c3):=by rw[aj (H7.out.blk 0 rfl)];rfl
         have v1:w7.cell? ⟨NB,0,none⟩=some (.int .i64 (s3:Int)):=by rw[aj (H7.out.blk 6 rfl)];rfl
         have v2:w7.cell? ⟨NB,1,none⟩=some (.int .i64 (q:Int)):=by rw[aj (H7.out.blk 6 rfl)];rfl
         have v3:w7.cell? ⟨wr.heap.size,2,none⟩=some (.int .i64 ln):=by rw[aj (H7.out.blk 5 rfl)];exact k2
         refine ah.mk ?_;go_wp2_with (at_builtin;refine dn 228 (.tmp 135) (.tmp 143) rfl rfl H7.out 3 rfl m3 HP.out.2.1 Tryz.underlying228 lq (by decide) (by omega) rfl rfl (⟨s3,q,at_,_⟩:Tk) _ rfl rfl (by simp[Value.oneCell']) ?_;intro A6 c6 w8 h8;have H8:=ah.mk h8;clear h8;refine ah.out ?_)
         clear v0 v1 v2 v3 H7;have z0:w8.cell? ⟨w.heap.size,2,none⟩=some (.slice A3 m3 c3):=by rw[aj (H8.out.blk 0 rfl)];rfl
         have z1:w8.frozen? ⟨w.heap.size,2,none⟩=false:=aJ (H8.out.blk 0 rfl) _;have H9:=ah.mk ((H8.out.put 0 rfl 2 (.slice A6 (m3+1) c6) #[.int .i64 3,.slice fA fn fc,.slice A6 (m3+1) c6] rfl));have z2:(w8.setCell ⟨w.heap.size,2,none⟩ (.slice A6 (m3+1) c6)).cell? ⟨w.heap.size+1,1,none⟩=some (.func (.func 251) #[] #[]):=by rw[aj (H9.out.blk 1 rfl)];rfl
         have qX:=ah.mk ((H9.out.drop 6).drop 5);refine ah.mk ?_;go_wp2_with (go_at_call 251;refine(xZ _ _).mono ?_;rintro e w' ⟨bo,rfl,hw⟩;obtain rfl:=hw.symm;clear hw;refine ah.out ?_)
         have sZ:ah (m+1=(sl++[(⟨pV,s3,q,at_⟩:Sl)]).length∧∀x∈sl++[(⟨pV,s3,q,at_⟩:Sl)],x.of ws):=⟨by have:=HP.out.1;simp;omega,fun y hy=>by
          rcases List.mem_append.1 hy with h|h
          ·exact HP.out.2.2.2 y h
          ·obtain rfl:=List.mem_singleton.1 h;exact⟨⟨x,HX.out.1,HX.out.2.1,HX.out.2.2.1⟩,HZ3.out.1,HZ3.out.2⟩⟩
         cases bo
         ·refine ah.mk ?_;go_wp2_with fail
          first|go_ret2|skip
          rw[←HQ.out];exact⟨A5,m+1,c5,0,_,rfl,sZ.out.2,qX.out.pick 4 _ rfl,sZ.out.1⟩
         ·refine ah.mk ?_;go_wp2_with fail
          go_roundw
          case rel=>exact⟨k+1,wt+1,m+1,m3+1,c5,c6,A5,A6,_,_,rfl,by go_num,by go_num,by omega,by omega,by omega,by omega,⟨sZ.out.1,by have:=HP.out.2.1;simp;omega,fun t ht=>by
           rcases List.mem_append.1 ht with h|h
           ·exact HP.out.2.2.1 t h
           ·obtain rfl:=List.mem_singleton.1 h;exact⟨HZ3.out.1,HX.out.2.2.2,HZ3.out.2⟩,sZ.out.2⟩,qX⟩
          case measure=>simp[intOf];omega
       ·refine ah.mk ?_;go_wp2_with (refine aB g10.W.heap.size rfl rfl 53 (.tmp 23) (.tmp 125) rfl #[.int .i64 (s:Int),.int .i64 (q:Int)] rfl rfl 53 _ (jQ _ _) rfl (by simp[Value.oneCell']) ?_;refine ah.out ?_)
        have H6:=ah.mk ((H5.out.up g10.h).aZ (.cells #[.int .i64 (s:Int),.int .i64 (q:Int)] 53));obtain⟨NB,jw⟩:∃NB,NB=g10.W.heap.size:=⟨_,rfl⟩;obtain⟨W6,vM⟩:∃W6,W6=g10.W.alloc (.cells #[.int .i64 (s:Int),.int .i64 (q:Int)] 53):=⟨_,rfl⟩;rw[←jw,←vM]at H6 ⊢;clear vM jw FN EB EC s0 s1 s2 U5 pc1 t0 t1 t2 u0 u1 u2 H5;have v0:W6.cell? ⟨wr.heap.size,0,none⟩=some (.int .u32 (pV:Int)):=by rw[aj (H6.out.blk 5 rfl)];exact k0
        have v1:W6.cell? ⟨NB,0,none⟩=some (.int .i64 (s:Int)):=by rw[aj (H6.out.blk 6 rfl)];rfl
        have v2:W6.cell? ⟨NB,1,none⟩=some (.int .i64 (q:Int)):=by rw[aj (H6.out.blk 6 rfl)];rfl
        refine ah.mk ?_;go_wp2_with (at_builtin;refine dn 226 (.tmp 126) (.tmp 132) rfl rfl H6.out 4 rfl m HP.out.1 Tryz.underlying226 qE (by decide) (by omega) rfl rfl (⟨pV,s,q,now⟩:Sl) _ rfl rfl (by simp[Value.oneCell']) ?_;intro A5 c5 w7 h7;have H7:=ah.mk h7;clear h7;refine ah.out ?_)
        clear v0 v1 v2 H6;have v0:w7.cell? ⟨w.heap.size,2,none⟩=some (.slice A3 m3 c3):=by rw[aj (H7.out.blk 0 rfl)];rfl
        have v1:w7.cell? ⟨NB,0,none⟩=some (.int .i64 (s:Int)):=by rw[aj (H7.out.blk 6 rfl)];rfl
        have v2:w7.cell? ⟨NB,1,none⟩=some (.int .i64 (q:Int)):=by rw[aj (H7.out.blk 6 rfl)];rfl
        have v3:w7.cell? ⟨wr.heap.size,2,none⟩=some (.int .i64 ln):=by rw[aj (H7.out.blk 5 rfl)];exact k2
        refine ah.mk ?_;go_wp2_with (at_builtin;refine dn 228 (.tmp 135) (.tmp 143) rfl rfl H7.out 3 rfl m3 HP.out.2.1 Tryz.underlying228 lq (by decide) (by omega) rfl rfl (⟨s,q,now,_⟩:Tk) _ rfl rfl (by simp[Value.oneCell']) ?_;intro A6 c6 w8 h8;have H8:=ah.mk h8;clear h8;refine ah.out ?_)
        clear v0 v1 v2 v3 H7;have z0:w8.cell? ⟨w.heap.size,2,none⟩=some (.slice A3 m3 c3):=by rw[aj (H8.out.blk 0 rfl)];rfl
        have z1:w8.frozen? ⟨w.heap.size,2,none⟩=false:=aJ (H8.out.blk 0 rfl) _;have H9:=ah.mk ((H8.out.put 0 rfl 2 (.slice A6 (m3+1) c6) #[.int .i64 3,.slice fA fn fc,.slice A6 (m3+1) c6] rfl));have z2:(w8.setCell ⟨w.heap.size,2,none⟩ (.slice A6 (m3+1) c6)).cell? ⟨w.heap.size+1,1,none⟩=some (.func (.func 251) #[] #[]):=by rw[aj (H9.out.blk 1 rfl)];rfl
        have qX:=ah.mk ((H9.out.drop 6).drop 5);refine ah.mk ?_;go_wp2_with (go_at_call 251;refine(xZ _ _).mono ?_;rintro e w' ⟨bo,rfl,hw⟩;obtain rfl:=hw.symm;clear hw;refine ah.out ?_)
        have sZ:ah (m+1=(sl++[(⟨pV,s,q,now⟩:Sl)]).length∧∀x∈sl++[(⟨pV,s,q,now⟩:Sl)],x.of ws):=⟨by have:=HP.out.1;simp;omega,fun y hy=>by
         rcases List.mem_append.1 hy with h|h
         ·exact HP.out.2.2.2 y h
         ·obtain rfl:=List.mem_singleton.1 h;exact⟨⟨x,HX.out.1,HX.out.2.1,HX.out.2.2.1⟩,HZ.out.1,HZ.out.2⟩⟩
        cases bo
        ·refine ah.mk ?_;go_wp2_with fail
         first|go_ret2|skip
         rw[←HQ.out];exact⟨A5,m+1,c5,0,_,rfl,sZ.out.2,qX.out.pick 4 _ rfl,sZ.out.1⟩
        ·refine ah.mk ?_;go_wp2_with fail
         go_roundw
         case rel=>exact⟨k+1,wt,m+1,m3+1,c5,c6,A5,A6,_,_,rfl,rfl,by go_num,by omega,by omega,by omega,by omega,⟨sZ.out.1,by have:=HP.out.2.1;simp;omega,fun t ht=>by
          rcases List.mem_append.1 ht with h|h
          ·exact HP.out.2.2.1 t h
          ·obtain rfl:=List.mem_singleton.1 h;exact⟨HZ.out.1,HX.out.2.2.2,HZ.out.2⟩,sZ.out.2⟩,qX⟩
         case measure=>simp[intOf];omega
      ·have hz:(r != 0)=true:=by simpa using hr
       have qX:=ah.mk ((H5.out.up g9.h).drop 5);clear hr;refine ah.mk ?_;go_wp2_with fail
       go_roundw
       case rel=>exact⟨k+1,wt,m,m3,c1,c3,A1,A3,sl,ts',rfl,rfl,by go_num,by omega,by omega,by omega,by omega,HP,qX⟩
       case measure=>simp[intOf];omega
     ·go_wp2_with fail
      first|go_ret2|skip
      rw[←HQ.out];exact⟨A1,m,c1,0,sl,rfl,HP.out.2.2.2,HS.out.pick 4 _ rfl,HP.out.1⟩
 ·have hz:(r != 0)=true:=by simpa using hr0
  clear hr0 q1 q2 q3;refine ah.mk ?_;go_wp2_with fail
  first|go_ret2|skip
  rw[←HQ.out];exact⟨none,0,0,2,[],rfl,(fun x hx=>by cases hx),((H1.out.drop 1).drop 0).nilRow 233 4 dJ,rfl⟩
end
end
end Go.Proofs.YtandhagfhppgaaaGreatDoor
