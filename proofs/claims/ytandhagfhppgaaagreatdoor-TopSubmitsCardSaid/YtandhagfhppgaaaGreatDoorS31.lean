/- Part 31 of a proof: contracts of the functions that the law reaches. No condition. -/
import Derived.Test.YtandhagfhppgaaaGreatDoorS17
import Derived.Test.YtandhagfhppgaaaGreatDoorS18
set_option linter.all false
set_option maxRecDepth 100000
set_option maxHeartbeats 16000000
namespace Go.Proofs.YtandhagfhppgaaaGreatDoor
section
open Go.RowKit
section
variable {w:World}
theorem Jf (w:World):Calls Tryz.prog 276 #[.slice none 0 0] w fun e w'=>e=.returned (.int .i64 2)∧w'=w:=by
 refine named fun R HQ=>?_;have CO:=ah.mk fun x W=>Tryz.slices_Contains_int_empty none 0 x W;go_enter Tryz.func276,Tryz.ntmps276;go_wp2_with (go_at_call 115;refine(CO.out _ _).mono ?_;rintro e w' ⟨rfl,hw⟩;obtain rfl:=hw.symm;clear hw)
 first|go_ret|skip
 rw[←HQ.out];exact⟨rfl,rfl⟩
theorem Dh (w:World):Calls Tryz.prog 166 #[.agg #[.bool false,.slice none 0 0]] w fun e w'=>e=.returned (.int .i64 0)∧Below w.heap.size w w':=by
 refine named fun R HQ=>?_;go_enter Tryz.func166,Tryz.ntmps166;go_wp2_with fail
 refine wp_loop_rounds 1 ?_;rw[rounds_succ];go_wp2_with fail
 first|go_ret|skip
 rw[←HQ.out];exact⟨rfl,au (Below.refl _ _) _⟩
theorem Jg (v:Value)(b:Bool)(w:World):Calls Tryz.prog 236 #[.agg #[.bool false,.slice none 0 0],v,.bool b] w fun e w'=>e=.returned (.int .i64 2)∧Below w.heap.size w w':=by
 refine named fun R HQ=>?_;have DC:=ah.mk Dh;have AC:=ah.mk Jf;have B0:=ah.mk (au (Below.refl w.heap.size w) (.cells #[.bool false,.slice none 0 0] 49));have hb:(w.alloc (.cells #[.bool false,.slice none 0 0] 49)).heap[w.heap.size]?=some (.cells #[.bool false,.slice none 0 0] 49):=heap_alloc_new _ _;have D0:ah ((w.alloc (.cells #[.bool false,.slice none 0 0] 49)).cell? ⟨w.heap.size,0,none⟩=some (.bool false)):=⟨by rw[aj hb];rfl⟩;have D1:ah ((w.alloc (.cells #[.bool false,.slice none 0 0] 49)).cell? ⟨w.heap.size,1,none⟩=some (.slice none 0 0)):=⟨by rw[aj hb];rfl⟩;clear hb;go_enter Tryz.func236,Tryz.ntmps236;go_wp2_with (go_at_call 166;refine(DC.out _).mono ?_;rintro e w2 ⟨rfl,hb⟩;have d0:w2.cell? ⟨w.heap.size,0,none⟩=some (.bool false):=ak hb D0.out;have d1:w2.cell? ⟨w.heap.size,1,none⟩=some (.slice none 0 0):=ak hb D1.out;have B2:=ah.mk (ay B0.out B0.out.size hb);clear hb)
 refine wp_loop_rounds 1 ?_;rw[rounds_succ];go_wp2_with (go_at_call 276;refine(AC.out _).mono ?_;rintro e w' ⟨rfl,hw⟩;obtain rfl:=hw.symm;clear hw)
 first|go_ret|skip
 rw[←HQ.out];exact⟨rfl,B2.out⟩
theorem J.Qb (j:J):j.cells[1]?=some (.int .u32 0):=rfl
theorem J.Ti (j:J):j.cells[10]?=some (.int .i64 0):=rfl
theorem J.VF (j:J):j.cells[11]?=some (.bool false):=rfl
theorem J.VG (j:J):j.cells[12]?=some (.slice none 0 0):=rfl
theorem J.Qc (j:J):j.cells[14]?=some (.int .i64 0):=rfl
theorem Jh (v:Value)(j:J)(w:World):Calls Tryz.prog 238 #[v,.agg j.cells] w fun e w'=>e=.returned (.bool true)∧Below w.heap.size w w':=by
 refine named fun R HQ=>?_;have B0:=ah.mk (au (Below.refl w.heap.size w) (.cells j.cells 55));have j1:=j.Qb;have j10:=j.Ti;go_enter Tryz.func238,Tryz.ntmps238;go_wp2_with fail
 first|go_ret|skip
 rw[←HQ.out];exact⟨rfl,B0.out⟩
def zD (j:J):Int:=if zC j.how=1 then(if j.how=2 then 1 else 2)else 0
theorem N7 {g n c:Nat}{js:List J}(v:Value)(j:J)(now:Nat)(hr:bU w 26 qP (.slice (some ⟨g,0,none⟩) n c) js)(hn:n≤1000)(hn1:1≤n) :
 Calls Tryz.prog 191 #[.slice (some ⟨g,0,none⟩) n c,v,.agg j.cells,.int .i64 now] w fun e w'=>e=.returned (.int .i64 (zD j))∧Below w.heap.size w w':=by
 refine named fun R HQ=>?_;have HC:=ah.mk (Mc j);have DS:=ah.mk (Jg v);have RC:=ah.mk (Jh (.slice (some ⟨g,0,none⟩) n c) j);obtain⟨W0,hW⟩:∃W0,W0=w.alloc (.cells j.cells 55):=⟨_,rfl⟩;have B:=ah.mk (show Below w.heap.size w W0 by rw[hW];exact au (Below.refl w.heap.size w) _);have hb:W0.heap[w.heap.size]?=some (.cells j.cells 55):=by rw[hW];exact heap_alloc_new _ _
 have RX:ah (∀g:GW W0,g.W.rangeAt w.heap.size 0 j.cells.toList):=⟨fun g=>bQ (aX hb 0 j.cells.toList (fun i v h=>by simpa using h)) g.h⟩;have AL:ah (∀k:GW W0,Calls Tryz.prog 237 #[.slice (some ⟨g,0,none⟩) n c,.agg j.cells] k.W fun e w'=>e=.returned (.bool (!js.any (kS j)))∧Below k.W.heap.size k.W w'):=⟨fun k=>FM j ((hr.below B.out).below k.h) hn hn1⟩;have C5:ah (∀k:GW W0,k.W.cell? ⟨w.heap.size,19,none⟩=some (.int .i64 j.how)∧k.W.cell? ⟨w.heap.size,11,none⟩=some (.bool false)∧k.W.cell? ⟨w.heap.size,12,none⟩=some (.slice none 0 0)∧k.W.cell? ⟨w.heap.size,14,none⟩=some (.int .i64 0)):=⟨fun k=>⟨k.cell (by rw[aj hb];exact j.lT),k.cell (by rw[aj hb];exact j.VF),k.cell (by rw[aj hb];exact j.VG),k.cell (by rw[aj hb];exact j.Qc)⟩⟩;have j55:=eP j;have n0:¬((now:Int)<0):=by omega
 obtain⟨u,hu⟩:∃u,u=zC j.how:=⟨_,rfl⟩;rw[←hu]at HC;have g0:ah (∃k:GW W0,W0=k.W):=⟨⟨⟨W0,Below.refl _ _⟩,rfl⟩⟩;clear hr hn1 hb;by_cases h1:u=1
 ·obtain⟨q,hq⟩:∃q,q=j.how:=⟨_,rfl⟩;rw[←hq]at C5;have hs:zD j=if q=2 then 1 else 2:=by unfold zD;rw[←hu,if_pos h1,hq]
  rw[hs]at HQ;subst h1;clear hu hq hs;have main:∀b:Bool,(q==2)=b→Calls Tryz.prog 191 #[.slice (some ⟨g,0,none⟩) n c,v,.agg j.cells,.int .i64 now] w R:=by
   intro b hb2;subst hW;cases b with
   |_ =>
    go_enter Tryz.func191,Tryz.ntmps191;go_wp2_with (first|(go_at_call 235;have _t:=g0.out;clear _t;refine(HC.out _).mono ?_;rintro e w2 ⟨rfl,hb⟩;have B2:=ah.mk hb;clear hb g0;refine ah.out ?_)|(refine aI rfl 55 (.tmp 6) rfl w.heap.size 0 rfl j.cells _ (RX.out ⟨_,Below.refl _ _⟩) Tryz.underlying55 rfl j55 ?_))
    obtain⟨k2,hk2⟩:∃k:GW (w.alloc (.cells j.cells 55)),w2=k.W:=⟨⟨w2,B2.out⟩,rfl⟩;subst hk2;have d11:∀k:GW k2.W,k.W.cell? ⟨w.heap.size,11,none⟩=some (.bool false):=fun k=>(C5.out (k2.on k.h)).2.1;have d12:∀k:GW k2.W,k.W.cell? ⟨w.heap.size,12,none⟩=some (.slice none 0 0):=fun k=>(C5.out (k2.on k.h)).2.2.1;have Y9:ah (∀W,(∃g:GW k2.W,W=g.W)→W.rangeAt w.heap.size 0 j.cells.toList):=⟨fun W ⟨k,e⟩=>by subst e;exact RX.out (k2.on k.h)⟩;have AL2:ah (∀k:GW k2.W,Calls Tryz.prog 237 #[.slice (some ⟨g,0,none⟩) n c,.agg j.cells] k.W fun e w'=>e=.returned (.bool (!js.any (kS j)))∧Below k.W.heap.size k.W w'):=⟨fun k=>AL.out (k2.on k.h)⟩;refine ah.mk ?_;go_wp2_with fail
    refine bZ (by kernel_rfl) (by kernel_rfl) ?_;repeat (first|(refine gU (by rfl) 55 _ rfl w.heap.size 0 rfl j.cells _ Y9.out Tryz.underlying55 rfl j55 _ rfl ?_;simp only[Act.put,List.setIfInBounds_toArray,List.set_cons_succ,List.set_cons_zero])|go_big_quiet_step (first|((go_at_call 237;exact GW.calls (AL2.out _)))|((go_at_call 236;exact GW.calls (DS.out _ _)))))
    refine wpQuiet_nil ?_;intro _ hw';obtain⟨g1,rfl⟩:=hw';have B3:=ah.mk (ay B.out B.out.size (ay B2.out B2.out.size g1.h));have e19:=(C5.out (k2.on g1.h)).1;have e14:=(C5.out (k2.on g1.h)).2.2.2;have RX3:=ah.mk (RX.out (k2.on g1.h));simp only[GW.on]at e19 e14 RX3;go_wp2_with (first|(go_at_call 238;refine(RC.out _).mono ?_;rintro e w4 ⟨rfl,hb⟩;have B4:=ah.mk (ay B3.out B3.out.size hb);clear hb)|(refine iy (by rfl) 55 (.tmp 6) rfl w.heap.size 0 rfl j.cells _ RX3.out Tryz.underlying55 rfl j55 ?_))
    first|go_ret|skip
    rw[←HQ.out];simp only[beq_iff_eq,beq_eq_false_iff_ne,ne_eq]at hb2;simp only[hb2,if_true,if_false];exact⟨rfl,by first|exact B4.out|exact B3.out⟩
  exact main _ rfl
 ·have hs:zD j=0:=by unfold zD;rw[←hu,if_neg h1]
  rw[hs]at HQ;have h2:(u != 1)=true:=by simpa using h1
  clear hu hs;subst hW;go_enter Tryz.func191,Tryz.ntmps191;go_wp2_with (first|(go_at_call 235;refine(HC.out _).mono ?_;rintro e w2 ⟨rfl,hb⟩;have B2:=ah.mk (ay B.out B.out.size hb);clear hb)|(refine aI rfl 55 (.tmp 6) rfl w.heap.size 0 rfl j.cells _ (RX.out ⟨_,Below.refl _ _⟩) Tryz.underlying55 rfl j55 ?_))
  first|go_ret|skip
  rw[←HQ.out];exact⟨rfl,B2.out⟩
end
end
section
open Go.RowKit
section
variable {w:World}
theorem Am {A:Option Addr}{n c:Nat}{js:List J}(now:Nat)(q:Int)(hr:bU w 26 qP (.slice A n c) js)(hok:∀k j,js[k]?=some j→j.id=k+1∧1≤j.how∧j.how≤9)(hn:n≤1000) :
 Calls Tryz.prog 137 #[.slice A n c,.int .i64 now,.int .i64 q] w fun e w'=>∃(A2:Option Addr) (n2 c2:Nat) (ids:List Nat),e=.returned (.slice A2 n2 c2)∧(∀i∈ids,∃j∈js,j.id=i∧zD j=q)∧Has w w' [aV 43 1 fO (.slice A2 n2 c2) ids]∧n2=ids.length∧n2≤n:=by
 refine named fun R HQ=>?_;have hnl:n=js.length:=hr.len;have CK:=ah.mk (CZ hr hok hn);have WH:=ah.mk fun W (hb:Below w.heap.size w W)=>Dc (w:=W) (hr.below hb) hok hn;have SY:=ah.mk fun(g:Nat) (e:A=some ⟨g,0,none⟩) (h1:1≤n) (v:Value) (j:J) W (hb:Below w.heap.size w W)=>N7 (w:=W) (g:=g) (n:=n) (c:=c) (js:=js) v j now (e▸hr.below hb) hn h1;have HR:=ah.mk hr;have HL:=ah.mk hnl;clear hr hok hnl;go_enter Tryz.func137,Tryz.ntmps137;go_wp2_with (first|(go_at_call 190;have _t:=B2.out;clear _t;refine(WH.out _ B2.out).mono ?_;rintro e w3 ⟨A3,c3,rfl,hb⟩;have B3:=ah.mk (ay B2.out B2.out.size hb);clear hb)|(go_at_call 189;have _t:=CK.out;clear _t;refine CK.out.mono ?_;rintro e w2 ⟨rfl,hb⟩;have B2:=ah.mk hb;clear hb CK))
 have HH0:ah (Has w w3 [aV 43 1 fO (.slice none 0 0) []]):=⟨((Has.start w).below B3.out).nilRow 43 1 fO⟩;go_loopw [7,18] (fun v i wr=>∃(k m:Nat) (A1:Option Addr) (c1:Nat) (l:List Nat),v=.slice A1 m c1∧i=.int .i64 k∧k≤n∧m≤k∧ah (m=l.length∧∀i∈l,∃j∈js,j.id=i∧zD j=q)∧ah (Has w wr [aV 43 1 fO (.slice A1 m c1) l])) (fun _ i _=>n-(intOf i).toNat)
 case atStart=>exact⟨0,0,none,0,[],rfl,rfl,Nat.zero_le _,Nat.zero_le _,⟨rfl,fun i h=>by cases h⟩,HH0⟩
 case round =>
  clear HH0;obtain⟨k,m,A1,c1,l,rfl,rfl,hk,hmk,HM,HB⟩:=hrel;by_cases hlt:k<n
  ·obtain⟨x,hx⟩:∃x,js[k]?=some x:=⟨_,List.getElem?_eq_getElem (by rw[←HL.out];exact hlt)⟩;obtain⟨b,hA2,hxr⟩:=(HR.out.below HB.out.old).get k x hx;have R1:ah (wr.rangeAt b (k*26) x.cells.toList):=⟨hxr⟩;have HX:=ah.mk (List.mem_of_getElem? hx);have HB1:ah (Has w (wr.alloc (.cells x.cells 55)) ([aV 43 1 fO (.slice A1 m c1) l]++[aF wr.heap.size (.cells x.cells 55)])):=ah.mk (HB.out.aZ (.cells x.cells 55));have SX:=ah.mk (SY.out b hA2 (by omega) (.slice A3 n c3) x);subst hA2;have j55:=eP x;clear hxr hx;obtain⟨s,hs⟩:∃s,s=zD x:=⟨_,rfl⟩;rw[←hs]at SX;have HS:=ah.mk hs;clear hs;cases ht:(s==q)with
    |false =>
     go_wp2_with (first|(go_at_call 191;refine(SX.out _ HB1.out.old).mono ?_;rintro e w9 ⟨rfl,hb'⟩;have H9:=ah.mk ((HB1.out.up hb').drop 1);clear hb')|(refine aI rfl 55 (.tmp 10) rfl wr.heap.size 0 rfl x.cells _ (aX (HB1.out.blk 1 rfl) 0 _ (fun i v h=>by simpa using h)) Tryz.underlying55 rfl j55 ?_)|(refine aB wr.heap.size rfl rfl 55 (.tmp 10) (.tmp 21) rfl x.cells rfl rfl 55 _ j55 rfl x.one ?_)|(refine aI rfl 55 (.tmp 20) rfl b (k*26) rfl x.cells _ R1.out Tryz.underlying55 rfl j55 ?_))
     go_roundw
     case rel=>exact⟨k+1,m,A1,c1,l,by go_num,by go_num,by omega,by omega,HM,⟨H9.out⟩⟩
     case measure=>simp[intOf];omega
    |true =>
     go_wp2_with (first|(at_builtin;have _t:=H9.out;clear _t;refine dn 132 (.tmp 29) (.tmp 32) rfl rfl H9.out 0 rfl m HM.out.1 Tryz.underlying132 Ci (by decide) (by omega) rfl rfl (x.id:Nat) _ rfl rfl (by simp[Value.oneCell']) ?_;intro A5 c5 w5 h5;have H5:=ah.mk (h5.drop 1);clear h5)|(go_at_call 191;refine(SX.out _ HB1.out.old).mono ?_;rintro e w9 ⟨rfl,hb'⟩;have H9:=ah.mk (HB1.out.up hb');have x9:w9.cell? ⟨wr.heap.size,0,none⟩=some (.int .u32 (x.id:Int)):=(by rw[aj (H9.out.blk 1 rfl)];exact x.o7);clear hb')|(refine aI rfl 55 (.tmp 10) rfl wr.heap.size 0 rfl x.cells _ (aX (HB1.out.blk 1 rfl) 0 _ (fun i v h=>by simpa using h)) Tryz.underlying55 rfl j55 ?_)|(refine aB wr.heap.size rfl rfl 55 (.tmp 10) (.tmp 21) rfl x.cells rfl rfl 55 _ j55 rfl x.one ?_)|(refine aI rfl 55 (.tmp 20) rfl b (k*26) rfl x.cells _ R1.out Tryz.underlying55 rfl j55 ?_))
     go_roundw
     case rel =>
      refine⟨k+1,m+1,A5,c5,l++[x.id],by go_num,by go_num,by omega,by omega,⟨by have:=HM.out.1;simp;omega,fun i hi=>?_⟩,⟨H5.out⟩⟩;rcases List.mem_append.1 hi with h|h
      ·exact HM.out.2 i h
      ·obtain rfl:i=x.id:=List.mem_singleton.1 h;exact⟨x,HX.out,rfl,by rw[←HS.out];simpa using ht⟩
     case measure=>simp[intOf];omega
  ·obtain rfl:k=n:=by omega
   go_wp2_with fail
   first|go_ret|skip
   rw[←HQ.out];exact⟨A1,m,c1,l,rfl,HM.out.2,HB.out,HM.out.1,hmk⟩
theorem FP {A:Option Addr}{n c:Nat}{js:List J}(now:Nat)(hr:bU w 26 qP (.slice A n c) js)(hok:∀k j,js[k]?=some j→j.id=k+1∧1≤j.how∧j.how≤9)(hn:n≤1000) :
 Calls Tryz.prog 194 #[.slice A n c,.int .i64 now] w fun e w'=>∃(A2:Option Addr) (n2 c2:Nat) (ids:List Nat),e=.returned (.slice A2 n2 c2)∧(∀i∈ids,∃j∈js,j.id=i∧j.how=1)∧Has w w' [aV 43 1 fO (.slice A2 n2 c2) ids]∧n2=ids.length∧n2≤n:=by
 refine named fun R HQ=>?_;have hm:∀j∈js,1≤j.how∧j.how≤9:=fun j hj=>by
  obtain⟨k,hk,e⟩:=List.getElem_of_mem hj;exact(hok k j (by rw[←e];exact List.getElem?_eq_getElem hk)).2
 have WO:=ah.mk (Am now 2 hr hok hn);have HM:=ah.mk hm;clear hr hok hm;go_enter Tryz.func194,Tryz.ntmps194;go_wp2_with (go_at_call 137;refine WO.out.mono ?_;rintro e w2 ⟨A2,n2,c2,ids,rfl,h1,h2,h3,h4⟩;have H1:=ah.mk h1;have H2:=ah.mk h2;have H3:=ah.mk (And.intro h3 h4);clear h1 h2 h3 h4)
 first|go_ret|skip
 rw[←HQ.out];refine⟨A2,n2,c2,ids,rfl,fun i hi=>?_,H2.out,H3.out⟩;obtain⟨j,hj,h1,h2⟩:=H1.out i hi;refine⟨j,hj,h1,?_⟩;obtain⟨a,b⟩:=HM.out j hj;unfold zD at h2;split at h2
 ·rename_i hw
  split at h2
  ·cases h2
  ·unfold zC Je at hw;rw[if_pos ⟨a,b⟩]at hw;split at hw
   ·omega
   ·split at hw
    ·cases hw
    ·split at hw<;>cases hw
 ·cases h2
theorem sO {A:Option Addr}{n c:Nat}{js:List J}(hr:bU w 26 qP (.slice A n c) js)(hok:∀k j,js[k]?=some j→j.id=k+1∧1≤j.how∧j.how≤9)(hn:n≤1000) :
 Calls Tryz.prog 84 #[.slice A n c] w fun e w'=>∃(A2:Option Addr) (c2:Nat),e=.returned (.slice A2 0 c2)∧Below w.heap.size w w':=by
 refine named fun R HQ=>?_;have WO:=ah.mk (Am 0 3 hr hok hn);clear hr hok;go_enter Tryz.func84,Tryz.ntmps84;go_wp2_with (go_at_call 137;refine WO.out.mono ?_;rintro e w2 ⟨A2,n2,c2,ids,rfl,h1,h2,h3,h4⟩;have H1:=ah.mk h1;have H2:=ah.mk h2;have H3:=ah.mk h3;clear h1 h2 h3 h4)
 first|go_ret|skip
 rw[←HQ.out];cases ids with
 |nil =>
  have:=H3.out;subst this;exact⟨A2,c2,rfl,H2.out.old⟩
 |cons i l =>
  obtain⟨j,hj,_,h⟩:=H1.out i List.mem_cons_self;unfold zD at h;split at h
  ·split at h<;>cases h
  ·cases h
end
end
section
open Go.RowKit
theorem Ji (q:ByteArray)(hq:q=bC∨q=dZ):∃i:Nat,i≤1∧∀(w:World) (b pr c:Nat),w.cell? ⟨b,6,none⟩=some (.string q)→w.rangeAt pr 0 dV.toList→w.rangeAt pr 3 fQ.toList →
 Calls Tryz.prog 169 #[.slice (some ⟨pr,0,none⟩) 2 c,.func (.func 197) #[] #[.pointer (some ⟨b,0,none⟩)]] w fun e w'=>e=.returned (.int .i64 (i:Int))∧Below w.heap.size w w':=by
 rcases hq with rfl|rfl
 ·exact⟨0,by decide,fun w b pr c h1 h2 h3=>zF b pr c h1 h2 h3⟩
 ·exact⟨1,by decide,fun w b pr c h1 h2 h3=>zG b pr c h1 h2 h3⟩
theorem Qd (q:ByteArray)(hq:q=aU∨q=bP):∃i:Nat,i≤1∧∀(w:World) (b pr c:Nat),w.cell? ⟨b,4,none⟩=some (.string q)→w.rangeAt pr 0 acc0.toList→w.rangeAt pr 3 jg.toList →
 Calls Tryz.prog 195 #[.slice (some ⟨pr,0,none⟩) 2 c,.func (.func 196) #[] #[.pointer (some ⟨b,0,none⟩)]] w fun e w'=>e=.returned (.int .i64 (i:Int))∧Below w.heap.size w w':=by
 rcases hq with rfl|rfl
 ·exact⟨0,by decide,fun w b pr c h1 h2 h3=>FQ b pr c h1 h2 h3⟩
 ·exact⟨1,by decide,fun w b pr c h1 h2 h3=>FU b pr c h1 h2 h3⟩
theorem Me (x:Array Value)(h:x.size=3):(Tryz.prog.info? 84).map (·.size)=some x.size:=by rw[h];kernel_rfl
theorem Tt:∃i0 z,Tryz.prog.info? 277=some i0∧i0.zero=some z∧i0.size=7∧i0.bytes≤1000∧z.cells.size=7:=fZ (by kernel_rfl)
section
variable {w:World}
theorem sQ {a:qR}{pol:Int}{now:Nat}{bk:List Ch}{A:Option Addr}{n c:Nat}{js:List J}(hC:jq w a pol now bk)(hr:bU w 26 qP (.slice A n c) js)(G:dL now js bk)(dB:now≤10000) :
 Calls Tryz.prog 138 #[.pointer (some ⟨a.x,0,none⟩),.int .i64 0,.slice A n c] w fun e w'=>∃(A2:Option Addr) (n2 c2:Nat) (ks:List Ky),e=.returned (.slice A2 n2 c2)∧(∀k∈ks,∃j∈js,j.id=k.id∧j.how=1)∧Has w w' [aV 218 3 dw (.slice A2 n2 c2) ks]∧n2=ks.length∧n2≤n:=by
 refine named fun R HQ=>?_;have HC:=ah.mk hC;have HR:=ah.mk hr;have Ph:=ah.mk G;have HN:=ah.mk dB;have HK:=ah.mk G.UW;have HL:=ah.mk G.few;have hnl:n=js.length:=hr.len;have hn5:n≤500:=by have:=G.len;omega
 have jr:=ah.mk hnl;have e11:∀g:GW w,g.W.cell? ⟨a.x,11,none⟩=some (.slice (some ⟨a.xa,0,none⟩) 2 a.U0):=fun g=>g.cell (hC.cell 11 _ rfl);have H0:∀g:GW w,ah (Has w g.W [aV 3 1 encI (.slice none 0 0) []]):=fun g=>⟨((Has.start w).below g.h).nilRow 3 1 encI⟩;clear hC hr G dB hnl;refine GW.start (w:=w) (Q:=fun W=>Calls Tryz.prog 138 #[.pointer (some ⟨a.x,0,none⟩),.int .i64 0,.slice A n c] W R) ?_;intro g0;have H0:=H0 g0;go_enter Tryz.func138,Tryz.ntmps138;go_wp2_with fail
 refine wp_loop_rounds 3 ?_;rw[rounds_succ];have Zc:ah (Has w (g0.W.alloc (.cells acc0 84)) [aV 3 1 encI (.slice none 0 0) [],aF g0.W.heap.size (.cells acc0 84)]):=⟨H0.out.aZ _⟩;go_wp2_with (first|(refine aB g0.W.heap.size rfl rfl 84 (.tmp 9) (.tmp 33) rfl acc0 rfl rfl 84 _ (Me _ rfl) rfl (by simp[acc0,Value.oneCell']) ?_;refine ah.out ?_)|(refine aI rfl 84 (.tmp 32) rfl a.xa 0 rfl acc0 _ (bQ (HC.out.acc.1) g0.h) Tryz.underlying84 rfl (Me _ rfl) ?_))
 obtain⟨W0,hW0⟩:∃W0,W0=g0.W.alloc (.cells acc0 84):=⟨_,rfl⟩;rw[←hW0]at Zc ⊢;have B02:=ah.mk (show Below w.heap.size w W0 by rw[hW0];exact au g0.h _);clear hW0;have Xv:=HC.out.below B02.out;have f1:∀g:GW W0,g.W.cell? ⟨a.x,1,none⟩=some (.int .i64 50):=fun g=>g.cell (Xv.cell 1 _ rfl);have f12:∀g:GW W0,g.W.cell? ⟨a.x,12,none⟩=some (.int .i64 now):=fun g=>g.cell (Xv.cell 12 _ rfl);have f16:∀g:GW W0,g.W.cell? ⟨a.x,16,none⟩=some (.slice a.bA bk.length a.bc):=fun g=>g.cell (Xv.cell 16 _ rfl);have fb:∀g:GW W0,g.W.cell? ⟨g0.W.heap.size,0,none⟩=some (.string aU):=fun g=>g.cell (by rw[aj (Zc.out.blk 1 rfl)];rfl);have US:=ah.mk fun(W:World) (h:Below W0.heap.size W0 W)=>vJ (w:=W) now aU HK.out HN.out HL.out (Xv.book.below h);clear Xv;refine ah.mk ?_;go_wp2_with fail
 refine aK (fun W=>∃g:GW W0,W=g.W) 20 (by kernel_rfl) (by kernel_rfl) ?_;have HB0:=ah.mk (show Below W0.heap.size W0 W0.drew from aC (Below.refl _ W0) 1);have HG:∃g:GW W0,W0.drew=g.W:=⟨⟨_,HB0.out⟩,rfl⟩;refine tk 0 HG ?_;refine tk 1 HG ?_;refine tk 2 HG ?_;refine tk 3 HG ?_;refine tk 4 HG ?_;refine tk 5 HG ?_;refine tk 6 HG ?_;refine tk 7 HG ?_;refine tk 8 HG ?_;refine tk 9 HG ?_;refine tk 10 HG ?_;refine tk 11 HG ?_;refine tk 12 HG ?_;refine tk 13 HG ?_;refine tk 14 HG ?_;refine aP (k:=15) rfl (by kernel_rfl) (by kernel_rfl) (fun K hK=>?_);rw[if_pos (by rfl)];go_simp;refine(US.out _ HB0.out).mono ?_;rintro e w1 ⟨u0,⟨⟨r0,rfl⟩,hu0⟩,hb'⟩;have HU0:=ah.mk hu0;have H04:=ah.mk ((Zc.out.below (ay HB0.out HB0.out.size hb')).drop 1);clear hu0;refine hK _ _ ⟨⟨_,ay HB0.out HB0.out.size hb'⟩,rfl⟩ ?_;have HB1:=ah.mk (ay HB0.out HB0.out.size hb');clear hK K HG;have HG:∃g:GW W0,w1=g.W:=⟨⟨_,HB1.out⟩,rfl⟩;clear hb';try simp only[Act.put,List.setIfInBounds_toArray,List.set_cons_zero,List.set_cons_succ]
 refine tk 16 HG ?_;refine tk 17 HG ?_;refine tk 18 HG ?_;refine tk 19 HG ?_;refine aO (by kernel_rfl) ?_;simp only[List.drop_succ_cons,List.drop_zero];clear HG HB0 HB1 US f1 f12 f16 fb;go_wp2_with (at_builtin;refine dn 44 (.tmp 53) (.tmp 55) rfl rfl H04.out 0 rfl 0 rfl Tryz.underlying44 info3 (by decide) (by decide) rfl rfl (u0:Int) _ rfl rfl (by simp[Value.oneCell']) ?_;intro A1 c1 v1 h5;have H1:=ah.mk h5;clear h5;refine ah.out ?_)
 obtain⟨g1,hg1⟩:∃g:GW w,v1=g.W:=⟨⟨_,H1.out.old⟩,rfl⟩;subst hg1;refine ah.mk ?_;go_wp2_with fail
 rw[rounds_succ];have B11:ah (Has w (g1.W.alloc (.cells jg 84)) [aV 3 1 encI (.slice A1 1 c1) [(u0:Int)],aF g1.W.heap.size (.cells jg 84)]):=⟨H1.out.aZ _⟩;go_wp2_with (first|(refine aB g1.W.heap.size rfl rfl 84 (.tmp 9) (.tmp 33) rfl jg rfl rfl 84 _ (Me _ rfl) rfl (by simp[jg,Value.oneCell']) ?_;refine ah.out ?_)|(refine aI rfl 84 (.tmp 32) rfl a.xa 3 rfl jg _ (bQ (HC.out.acc.2) g1.h) Tryz.underlying84 rfl (Me _ rfl) ?_))
 obtain⟨W1,hW1⟩:∃W0,W0=g1.W.alloc (.cells jg 84):=⟨_,rfl⟩;rw[←hW1]at B11 ⊢;have B12:=ah.mk (show Below w.heap.size w W1 by rw[hW1];exact au g1.h _);clear hW1;have C13:=HC.out.below B12.out;have f1:∀g:GW W1,g.W.cell? ⟨a.x,1,none⟩=some (.int .i64 50):=fun g=>g.cell (C13.cell 1 _ rfl);have f12:∀g:GW W1,g.W.cell? ⟨a.x,12,none⟩=some (.int .i64 now):=fun g=>g.cell (C13.cell 12 _ rfl);have f16:∀g:GW W1,g.W.cell? ⟨a.x,16,none⟩=some (.slice a.bA bk.length a.bc):=fun g=>g.cell (C13.cell 16 _ rfl);have fb:∀g:GW W1,g.W.cell? ⟨g1.W.heap.size,0,none⟩=some (.string bP):=fun g=>g.cell (by rw[aj (B11.out.blk 1 rfl)];rfl);have US:=ah.mk fun(W:World) (h:Below W1.heap.size W1 W)=>vJ (w:=W) now bP HK.out HN.out HL.out (C13.book.below h);clear C13;refine ah.mk ?_;go_wp2_with fail
 refine aK (fun W=>∃g:GW W1,W=g.W) 20 (by kernel_rfl) (by kernel_rfl) ?_;have HB0:=ah.mk (show Below W1.heap.size W1 W1.drew from aC (Below.refl _ W1) 1);have HG:∃g:GW W1,W1.drew=g.W:=⟨⟨_,HB0.out⟩,rfl⟩;refine tk 0 HG ?_;refine tk 1 HG ?_;refine tk 2 HG ?_;refine tk 3 HG ?_;refine tk 4 HG ?_;refine tk 5 HG ?_;refine tk 6 HG ?_;refine tk 7 HG ?_;refine tk 8 HG ?_;refine tk 9 HG ?_;refine tk 10 HG ?_;refine tk 11 HG ?_;refine tk 12 HG ?_;refine tk 13 HG ?_;refine tk 14 HG ?_;refine aP (k:=15) rfl (by kernel_rfl) (by kernel_rfl) (fun K hK=>?_);rw[if_pos (by rfl)];go_simp;refine(US.out _ HB0.out).mono ?_;rintro e w2 ⟨u1,⟨⟨r1,rfl⟩,hu1⟩,hb'⟩;have HU1:=ah.mk hu1;have H14:=ah.mk ((B11.out.below (ay HB0.out HB0.out.size hb')).drop 1);clear hu1;refine hK _ _ ⟨⟨_,ay HB0.out HB0.out.size hb'⟩,rfl⟩ ?_;have HB1:=ah.mk (ay HB0.out HB0.out.size hb');clear hK K HG;have HG:∃g:GW W1,w2=g.W:=⟨⟨_,HB1.out⟩,rfl⟩;clear hb';try simp only[Act.put,List.setIfInBounds_toArray,List.set_cons_zero,List.set_cons_succ]
 refine tk 16 HG ?_;refine tk 17 HG ?_;refine tk 18 HG ?_;refine tk 19 HG ?_;refine aO (by kernel_rfl) ?_;simp only[List.drop_succ_cons,List.drop_zero];clear HG HB0 HB1 US f1 f12 f16 fb;go_wp2_with (at_builtin;refine dn 44 (.tmp 53) (.tmp 55) rfl rfl H14.out 0 rfl 1 rfl Tryz.underlying44 info3 (by decide) (by decide) rfl rfl (u1:Int) _ rfl rfl (by simp[Value.oneCell']) ?_;intro A2 c2 v2 h5;have H2:=ah.mk h5;clear h5;refine ah.out ?_)
 obtain⟨g2,hg2⟩:∃g:GW w,v2=g.W:=⟨⟨_,H2.out.old⟩,rfl⟩;subst hg2;refine ah.mk ?_;go_wp2_with fail
 rw[rounds_succ];obtain⟨og,hog,_⟩:=dG H2.out 0 rfl rfl (by decide);subst hog;have o0:g2.W.cell? ⟨og,0,none⟩=some (.int .i64 (u0:Int)):=cu H2.out 0 rfl rfl bJ 0 (u0:Int) rfl 0 _ rfl;have o1:g2.W.cell? ⟨og,1,none⟩=some (.int .i64 (u1:Int)):=cu H2.out 0 rfl rfl bJ 1 (u1:Int) rfl 0 _ rfl;have FC:=ah.mk (zy (w:=g2.W) (ag:=a.xa) (ac:=a.U0) (og:=og) (oc:=c2) u0 u1 (by have:=HU0.out;omega) (by have:=HU1.out;omega) (HC.out.below g2.h).acc o0 o1);clear o0 o1;go_wp2_with (go_at_call 193;refine FC.out.mono ?_;rintro e w3 ⟨fg,fc,rfl,p,q,hw⟩;have H3:=ah.mk (((H2.out.drop 0).more hw));clear hw;refine ah.out ?_)
 obtain⟨g3,hg3⟩:∃g:GW w,w3=g.W:=⟨⟨_,H3.out.old⟩,rfl⟩;subst hg3;have f12:g3.W.cell? ⟨a.x,12,none⟩=some (.int .i64 now):=(HC.out.below g3.h).cell 12 _ rfl;have RD:=ah.mk (FP (w:=g3.W) (js:=js) (A:=A) (n:=n) (c:=c) now (HR.out.below g3.h) (fun k j hk=>⟨(Ph.out.jobs k j hk).id,(Ph.out.jobs k j hk).Nv,(Ph.out.jobs k j hk).Nw⟩) (by omega));clear FC H0 H1 e11;refine ah.mk ?_;go_wp2_with (go_at_call 194;refine RD.out.mono ?_;rintro e w4 ⟨A5,n2,c5,ids,rfl,Xw,hw,hn2,hn3⟩;have H4:=ah.mk ((H3.out.more hw).nilRow 277 7 FI);have HI:=ah.mk Xw;have HI2:=ah.mk hn2;clear hw Xw hn2)
 go_loopw [14,75] (fun v i wr=>∃(k:Nat) (A1:Option Addr) (c1:Nat) (l:List Ak),v=.slice A1 k c1∧i=.int .i64 k∧k≤n2∧ah (k=l.length∧∀x∈l,x.ok∧∃j∈js,j.id=x.id∧j.how=1)∧ah (Has w wr [aV 3 1 encI (.slice (some ⟨fg,0,none⟩) 2 fc) [p,q],aV 43 1 fO (.slice A5 n2 c5) ids,aV 277 7 FI (.slice A1 k c1) l])) (fun _ i _=>n2-(intOf i).toNat)
 case atStart=>exact⟨0,none,0,[],rfl,rfl,Nat.zero_le _,⟨rfl,fun x h=>by cases h⟩,H4⟩
 case round =>
  clear H4 RD H3 f12;obtain⟨k,A1,c1,l,rfl,rfl,hk,HM,HS⟩:=hrel;by_cases hlt:k<n2
  ·obtain⟨id,hid⟩:∃x,ids[k]?=some x:=⟨_,List.getElem?_eq_getElem (by rw[←HI2.out];exact hlt)⟩;obtain⟨j,hj,hji,hjh⟩:=HI.out id (List.mem_of_getElem? hid);obtain⟨k2,hk2,hjk⟩:=List.getElem_of_mem hj;have VH:js[k2]?=some j:=by rw[←hjk];exact List.getElem?_eq_getElem hk2
   have OK:=ah.mk (Ph.out.jobs k2 j VH);have Jj:id=k2+1:=by rw[←hji];exact OK.out.id
   obtain⟨ib,hib,_⟩:=dG HS.out 1 rfl HI2.out.symm (by omega);subst hib;have ci:wr.cell? ⟨ib,k,none⟩=some (.int .u32 ((k2:Int)+1)):=by
    have:=cu HS.out 1 rfl HI2.out kJ k id hid 0 _ rfl;rw[Jj]at this;simpa using this
   have hk2n:(k2:Int)<n:=by have:=jr.out;omega
   obtain⟨b,hA2,hxr⟩:=(HR.out.below HS.out.old).get k2 j VH;have R1:ah (wr.rangeAt b (k2*26) j.cells.toList):=⟨hxr⟩;obtain⟨sn,hsn⟩:∃sn:Nat,j.since=sn:=⟨j.since.toNat,by have:=OK.out.pq;omega⟩;obtain⟨i1,hi1,JA⟩:=Qd j.s.account OK.out.spec.1;obtain⟨i2,hi2,JC⟩:=Ji j.s.qos OK.out.spec.2.1;have UP:=ah.mk fun W z q hz hq=>nI j.s.size OK.out.spec.2.2.1 OK.out.spec.2.2.2.1 z q hz hq W;obtain⟨z,hz⟩:∃z,z=2^ord j.s.size:=⟨_,rfl⟩;obtain⟨qo,hqo⟩:∃q,q=ord j.s.size:=⟨_,rfl⟩;have UZ:=ah.mk fun W=>UP.out W z qo hz hqo;have HZ:ah (1≤z∧z≤8):=⟨by
    rw[hz];have:=(lU OK.out.spec.2.2.1 OK.out.spec.2.2.2.1).1;exact⟨Nat.one_le_two_pow,Nat.le_trans (Nat.pow_le_pow_right (by decide) this) (by decide)⟩⟩
   have JJ:=ah.mk (And.intro hj (And.intro hji hjh));have HID:=ah.mk Jj;obtain⟨f,hf⟩:∃f:Int,[(p:Int),q][i1]?=some f:=⟨_,List.getElem?_eq_getElem (by simp;omega)⟩;have HX:ah (Has w (wr.alloc (.cells j.cells 55)) ([aV 3 1 encI (.slice (some ⟨fg,0,none⟩) 2 fc) [p,q],aV 43 1 fO (.slice (some ⟨ib,0,none⟩) n2 c5) ids,aV 277 7 FI (.slice A1 k c1) l]++[aF wr.heap.size (.cells j.cells 55)])):=⟨HS.out.aZ _⟩;have JAX:=ah.mk (JA (wr.alloc (.cells j.cells 55)) wr.heap.size a.xa a.U0 (by rw[aj (HX.out.blk 3 rfl)];exact j.jB) (HC.out.below HX.out.old).acc.1 (HC.out.below HX.out.old).acc.2);have JCX:=ah.mk fun(W:World) (h:Below (wr.alloc (.cells j.cells 55)).heap.size (wr.alloc (.cells j.cells 55)) W)=>JC W wr.heap.size a.xq a.UY (ak h (by rw[aj (HX.out.blk 3 rfl)];rfl)) (bQ (HC.out.below HX.out.old).Za h) (bQ (HC.out.below HX.out.old).Zb h);have j18:j.cells[18]?=some (.int .i64 0):=rfl;have j7:j.cells[7]?=some (.int .i64 (j.s.size:Int)):=rfl;have fa:∀o,(wr.alloc o).cell? ⟨a.x,11,none⟩=some (.slice (some ⟨a.xa,0,none⟩) 2 a.U0):=fun o=>ak (au (Below.refl _ _) _) ((HC.out.below HS.out.old).cell 11 _ rfl);have f10:ah ((wr.alloc (.cells j.cells 55)).cell? ⟨a.x,10,none⟩=some (.slice (some ⟨a.xq,0,none⟩) 2 a.UY)):=⟨(HC.out.below HX.out.old).cell 10 _ rfl⟩;have j55:=eP j;have hi1':(i1:Int)<2:=by omega
   have hi2':(i2:Int)<2:=by omega
   subst hA2;clear hxr hjk hj hji hjh Jj hid VH hk2 hz hqo JA JC UP hi1 hi2;go_wp2_with (first|(go_at_call 169;have _t:=Xx;clear _t;refine(JCX.out _ B6.out).mono ?_;rintro e w7 ⟨rfl,hb⟩;have B7:=ah.mk (ay B6.out B6.out.size hb);clear hb;refine ah.out ?_)|(go_at_call 195;refine JAX.out.mono ?_;rintro e w6 ⟨rfl,hb⟩;have Xx:w6.cell? ⟨a.x,10,none⟩=some (.slice (some ⟨a.xq,0,none⟩) 2 a.UY):=ak hb f10.out;have B6:=ah.mk hb;clear hb)|(go_at_call 139;refine(UZ.out _).mono ?_;rintro e w' ⟨rfl,hw⟩;obtain rfl:=hw.symm;clear hw)|(refine aB wr.heap.size rfl rfl 55 (.tmp 17) (.tmp 83) rfl j.cells rfl rfl 55 _ j55 rfl j.one ?_)|(refine aI rfl 55 (.tmp 82) rfl b (k2*26) rfl j.cells _ R1.out Tryz.underlying55 rfl j55 ?_))
   have H7:=ah.mk (HX.out.below B7.out);have C7:=HC.out.below H7.out.old;have f20:∀g:GW w7,g.W.cell? ⟨wr.heap.size,20,none⟩=some (.int .i64 (sn:Int)):=fun g=>g.cell (by rw[aj (H7.out.blk 3 rfl),←hsn];rfl);have f13:∀g:GW w7,g.W.cell? ⟨wr.heap.size,13,none⟩=some (.int .i64 0):=fun g=>g.cell (by rw[aj (H7.out.blk 3 rfl)];rfl);have Zd:∀g:GW w7,g.W.cell? ⟨a.x,10,none⟩=some (.slice (some ⟨a.xq,0,none⟩) 2 a.UY):=fun g=>g.cell (C7.cell 10 _ rfl);have f9:∀g:GW w7,g.W.cell? ⟨a.x,9,none⟩=some (.slice (some ⟨a.xp,0,none⟩) 1 a.NG):=fun g=>g.cell (C7.cell 9 _ rfl);have fq:∀g:GW w7,g.W.cell? ⟨a.xq,i2*3+1,none⟩=some (.int .i64 0):=fun g=>g.cell (by
    rcases(by omega:i2=0∨i2=1)with e|e
    ·subst e;exact C7.Za 1 _ rfl
    ·subst e;exact C7.Zb 1 _ rfl)
   have fp:∀g:GW w7,g.W.cell? ⟨a.xp,2,none⟩=some (.int .i64 0):=fun g=>g.cell (C7.part 2 _ rfl);have ff:∀g:GW w7,g.W.cell? ⟨fg,i1,none⟩=some (.int .i64 f):=fun g=>g.cell (by
    have:=cu H7.out 0 rfl rfl bJ i1 f hf 0 _ rfl;simpa using this)
   clear C7 hf hsn ci fa f10 j18 j7 Xx JAX JCX;refine ah.mk ?_;go_wp2_with fail
   refine aK (fun W=>∃g:GW w7,W=g.W) 32 (by kernel_rfl) (by kernel_rfl) ?_;have HB0:=ah.mk (show Below w7.heap.size w7 w7.drew from aC (Below.refl _ w7) 1);have HG:∃g:GW w7,w7.drew=g.W:=⟨⟨_,HB0.out⟩,rfl⟩;refine tk 0 HG ?_;refine tk 1 HG ?_;refine tk 2 HG ?_;refine tk 3 HG ?_;refine tk 4 HG ?_;refine tk 5 HG ?_;refine tk 6 HG ?_;refine tk 7 HG ?_;refine tk 8 HG ?_;refine tk 9 HG ?_;refine tk 10 HG ?_;refine tk 11 HG ?_;refine tk 12 HG ?_;refine tk 13 HG ?_;refine tk 14 HG ?_;refine tk 15 HG ?_;refine tk 16 HG ?_;refine tk 17 HG ?_;refine tk 18 HG ?_;refine tk 19 HG ?_;refine tk 20 HG ?_;refine tk 21 HG ?_;refine tk 22 HG ?_;refine tk 23 HG ?_;refine tk 24 HG ?_;refine tk 25 HG ?_;refine tk 26 HG ?_;refine tk 27 HG ?_;refine tk 28 HG ?_;refine tk 29 HG ?_;refine tk 30 HG ?_;refine aP (k:=31) rfl (by kernel_rfl) (by kernel_rfl) (fun K hK=>?_);rw[if_pos (by rfl)];go_simp;refine hK _ _ ⟨⟨_,au HB0.out _⟩,rfl⟩ ?_;clear hK K HG;try simp only[Act.put,List.setIfInBounds_toArray,List.set_cons_zero,List.set_cons_succ]
   refine aO (by kernel_rfl) ?_;simp only[List.drop_succ_cons,List.drop_zero];clear f20 f13 Zd f9 fq fp ff;go_wp2_with (at_builtin;refine dn 273 (.tmp 109) (.tmp 140) rfl rfl (H7.out.below HB0.out) 2 rfl k HM.out.1 Tryz.underlying273 Tt (by decide) (by omega) rfl rfl (⟨k2+1,sn,z,f⟩:Ak) _ rfl rfl (by simp[Value.oneCell']) ?_;intro A9 c9 w9 h9;have H9:=ah.mk (h9.drop 3);clear h9)
   go_roundw
   case rel =>
    refine⟨k+1,A9,c9,l++[(⟨k2+1,sn,z,f⟩:Ak)],by go_num,by go_num,by omega,⟨by have:=HM.out.1;simp;omega,fun x hx=>?_⟩,⟨H9.out⟩⟩;rcases List.mem_append.1 hx with h|h
    ·exact HM.out.2 x h
    ·obtain rfl:x=_:=List.mem_singleton.1 h;exact⟨⟨by simp,HZ.out.1,HZ.out.2⟩,j,JJ.out.1,by rw[JJ.out.2.1];exact HID.out,JJ.out.2.2⟩
   case measure=>simp[intOf];omega
  ·obtain rfl:k=n2:=by omega
   have C8:=HC.out.below HS.out.old;have q4:∀g:GW wr,g.W.cell? ⟨a.x,4,none⟩=some (.int .i64 0):=fun g=>g.cell (C8.cell 4 _ rfl);have q5:∀g:GW wr,g.W.cell? ⟨a.x,5,none⟩=some (.int .i64 0):=fun g=>g.cell (C8.cell 5 _ rfl);have q6:∀g:GW wr,g.W.cell? ⟨a.x,6,none⟩=some (.int .i64 0):=fun g=>g.cell (C8.cell 6 _ rfl);have q7:∀g:GW wr,g.W.cell? ⟨a.x,7,none⟩=some (.int .i64 0):=fun g=>g.cell (C8.cell 7 _ rfl);have q8:∀g:GW wr,g.W.cell? ⟨a.x,8,none⟩=some (.int .i64 0):=fun g=>g.cell (C8.cell 8 _ rfl);have q12:∀g:GW wr,g.W.cell? ⟨a.x,12,none⟩=some (.int .i64 now):=fun g=>g.cell (C8.cell 12 _ rfl);have q9:∀g:GW wr,g.W.cell? ⟨a.x,9,none⟩=some (.slice (some ⟨a.xp,0,none⟩) 1 a.NG):=fun g=>g.cell (C8.cell 9 _ rfl);have qp:∀g:GW wr,g.W.cell? ⟨a.xp,1,none⟩=some (.int .i64 3):=fun g=>g.cell (C8.part 1 _ rfl);have RA:=bK HS.out 2 rfl NV;have KC:=ah.mk fun(W:World) (h:Below wr.heap.size wr W)=>Jd (w:=W) (A:=A1) (n:=k) (c:=c1) (VD:=l) now (RA.below h) (fun x hx=>(HM.out.2 x hx).1) (by omega) (by have:=HN.out;omega);clear C8 RA;go_wp2_with fail
   refine aK (fun W=>∃g:GW wr,W=g.W) 25 (by kernel_rfl) (by kernel_rfl) ?_;have HB0:=ah.mk (show Below wr.heap.size wr wr.drew from aC (Below.refl _ wr) 1);have HG:∃g:GW wr,wr.drew=g.W:=⟨⟨_,HB0.out⟩,rfl⟩;refine tk 0 HG ?_;refine tk 1 HG ?_;refine tk 2 HG ?_;refine tk 3 HG ?_;refine tk 4 HG ?_;refine tk 5 HG ?_;refine tk 6 HG ?_;refine tk 7 HG ?_;refine tk 8 HG ?_;refine tk 9 HG ?_;refine tk 10 HG ?_;refine tk 11 HG ?_;refine tk 12 HG ?_;refine tk 13 HG ?_;refine tk 14 HG ?_;refine tk 15 HG ?_;refine tk 16 HG ?_;refine tk 17 HG ?_;refine tk 18 HG ?_;refine tk 19 HG ?_;refine aP (k:=20) rfl (by kernel_rfl) (by kernel_rfl) (fun K hK=>?_);rw[if_pos (by rfl)];go_simp;refine(KC.out _ HB0.out).mono ?_;rintro e w9 ⟨A7,n7,c7,r7,ks,rfl,hks,h9,hn9⟩;have H9:=ah.mk ((((Has.start w).below HS.out.old).below HB0.out).more h9);have hb':=h9.old;have Ze:=ah.mk (And.intro hks hn9);clear hks h9 hn9;refine hK _ _ ⟨⟨_,ay HB0.out HB0.out.size hb'⟩,rfl⟩ ?_;have HB1:=ah.mk (ay HB0.out HB0.out.size hb');clear hK K HG;have HG:∃g:GW wr,w9=g.W:=⟨⟨_,HB1.out⟩,rfl⟩;clear hb';try simp only[Act.put,List.setIfInBounds_toArray,List.set_cons_zero,List.set_cons_succ]
   refine tk 21 HG ?_;refine tk 22 HG ?_;refine tk 23 HG ?_;refine tk 24 HG ?_;refine aO (by kernel_rfl) ?_;simp only[List.drop_succ_cons,List.drop_zero];go_wp2_with fail
   first|go_ret|skip
   rw[←HQ.out];refine⟨A7,n7,c7,ks,rfl,fun x hx=>?_,H9.out,Ze.out.2.1,by have:=Ze.out.2.2;omega⟩;obtain⟨y,hy,e⟩:=Ze.out.1 x hx;obtain⟨_,j,hj,h1,h2⟩:=HM.out.2 y hy;exact⟨j,hj,h1.trans e,h2⟩
end
end
end Go.Proofs.YtandhagfhppgaaaGreatDoor
