/- Part 37 of a proof: contracts of the functions that the law reaches. No condition. -/
import Derived.Test.YtandhagfhppgaaaGreatDoorG14
import Derived.Test.YtandhagfhppgaaaGreatDoorG21
import Derived.Test.YtandhagfhppgaaaGreatDoorG22
import Derived.Test.YtandhagfhppgaaaGreatDoorG23
import Derived.Test.YtandhagfhppgaaaGreatDoorG24
import Derived.Test.YtandhagfhppgaaaGreatDoorG28
import Derived.Test.YtandhagfhppgaaaGreatDoorG30
import Derived.Test.YtandhagfhppgaaaGreatDoorG31
set_option linter.all false
set_option maxRecDepth 100000
set_option maxHeartbeats 16000000
namespace Go.Proofs.YtandhagfhppgaaaGreatDoor
section
open Go.RowKit
def yX:Ce:=⟨0,0,0,0⟩
theorem BO:(gu yX).toArray=#[.int .u32 0,.int .i64 0,.int .i64 0,.int .i64 0]:=rfl
theorem yY:(#[.int .u32 0,.int .i64 0,.int .i64 0,.int .i64 0]:Array Value).all (·.oneCell')=true:=by simp[Value.oneCell']
section
variable {w0 w:World}{M:List bV}
def Placed (w0:World)(m:Mx)(b N id q:Nat)(M:List bV)(e:Ending)(w':World):Prop :=
 ∃(c:Ce) (r:Int) (m':Mx),e=.returned (.tuple #[.agg (gu c).toArray,.int .i64 r])∧m'.ok (N+1)∧Has w0 w' (m'.star b++M)∧(r≠0→m'=m)∧(r=0→c.order=(q:Int)∧(∃s:Nat,c.start=(s:Int)∧s≤7∧s%2^q=0)∧∃x∈m'.cells,x.id=id)
theorem Mx.ok.more {m:Mx}{N:Nat}(h:m.ok N):m.ok (N+1):=⟨h.cells,Nat.le_succ_of_le h.few,h.N8,h.N9⟩
theorem vw {m:Mx}{b:Nat}{X:bV}:m.star b++(M++[X])=m.star b++M++[X]:=(List.append_assoc _ _ _).symm
theorem BP {m:Mx}{b:Nat}{X:bV}{K:List bV}:(m.star b++(M++X::K))[2+M.length]?=some X:=by
 rw[List.getElem?_append_right (by simp[Mx.star]),List.getElem?_append_right (by simp[Mx.star])];simp[Mx.star]
theorem kQ {m:Mx}{b:Nat}{K:List bV}(i:Nat):(m.star b++(M++K))[2+M.length+i]?=K[i]?:=by
 rw[List.getElem?_append_right (by simp[Mx.star];omega),List.getElem?_append_right (by simp[Mx.star];omega)];simp only[Mx.star,List.length_cons,List.length_nil];congr 1
 omega
theorem OO {m:Mx}{b:Nat}{K:List bV}{X:bV}(i:Nat)(H:Has w0 w ((m.star b++(M++K)).set (2+M.length+i) X)):Has w0 w (m.star b++M):=by
 have e:(m.star b++(M++K)).set (2+M.length+i) X=(m.star b++M)++K.set i X:=by
  rw[←List.append_assoc,List.set_append_right _ _ (by simp[Mx.star];omega)];simp only[Mx.star,List.length_append,List.length_cons,List.length_nil];congr 2
  omega
 rw[e]at H;exact H.first
theorem GI {m:Mx}{b N:Nat}(H:Has w0 w (m.star b++M))(hm:m.ok N)(hN:N≤900000)(id:Nat)(hid:1≤id)(q:Nat)(hq:q≤3) :
 Calls Tryz.prog 140 #[.pointer (some ⟨b,0,none⟩),.int .u32 (id:Int),.int .i64 (q:Int)] w fun e w'=>Placed w0 m b N id q M e w':=by
 refine named fun R HQ=>?_;have HM:=ah.mk hm;have hfew:=hm.few;have H0:ah (Has w0 (w.alloc (.cells #[.int .u32 0,.int .i64 0,.int .i64 0,.int .i64 0] 203)) (m.star b++(M++[aF w.heap.size (.cells #[.int .u32 0,.int .i64 0,.int .i64 0,.int .i64 0] 203)]))):=⟨by rw[vw];exact H.bg _⟩;have AT:=ah.mk (BM id H0.out (by omega));have f0:(w.alloc (.cells #[.int .u32 0,.int .i64 0,.int .i64 0,.int .i64 0] 203)).cell? ⟨b,0,none⟩=some (.int .i64 3):=by rw[aj (H0.out.blk 0 iU)];rfl
 have q3:¬(3:Int)<(q:Int):=by omega
 have i0:((id:Int)==0)=false:=by simp;omega
 have q0:¬(q:Int)<0:=by omega
 obtain⟨z,hz⟩:∃z:Nat,z=2^q:=⟨_,rfl⟩;have s1:wrap64 ((2:Int)^min q 64)=(z:Int):=by
  rw[hz];rcases(by omega:q=0∨q=1∨q=2∨q=3)with h|h|h|h<;>rw[h]<;>kernel_rfl
 clear H hm;go_enter Tryz.func140,Tryz.ntmps140;go_wp2_with (go_at_call 118;refine AT.out.mono ?_;rintro e w2 ⟨k,rfl,hk,hb⟩;have H2:=ah.mk (H0.out.below hb);clear hb hk;refine ah.out ?_)
 by_cases hk0:(0:Int)≤k
 ·have BX:=ah.mk (H2.out.blk _ BP);have i203:=BK yX;rw[BO]at i203;refine ah.mk ?_;go_wp2_with (refine lg rfl 203 (.tmp 6) (.tmp 38) rfl w.heap.size 0 #[.int .u32 0,.int .i64 0,.int .i64 0,.int .i64 0] rfl rfl 203 _ BX.out (fun i v h=>by simpa using h) i203 yY ?_)
  try simp only[Exit.inBlock,Exit.then]
  refine dY rfl rfl w.heap.size _ 203 (0,0) _ rfl BX.out Tryz.underlying203 rfl i203 ?_;rw[←HQ.out];exact⟨yX,30,m,rfl,HM.out.more,Has.first (by have:=H2.out;rw[vw]at this;exact this),fun _=>rfl,fun h=>by cases h⟩
 ·refine ah.mk ?_;go_wp2_with fail
  clear f0 i0 q0 q3 hk0 AT;go_loopw [39] (fun i wr=>∃r:Nat,i=.int .i64 (r:Int)∧r≤16∧ah (Has w0 wr (m.star b++(M++[aF w.heap.size (.cells #[.int .u32 0,.int .i64 0,.int .i64 0,.int .i64 0] 203)])))) (fun i _=>16-(intOf i).toNat)
  case atStart=>exact⟨0,rfl,by omega,H2⟩
  case round =>
   clear H2;obtain⟨r,rfl,hr,H2⟩:=hrel;obtain⟨V0,hV0⟩:∃v,v=wr:=⟨_,rfl⟩;subst hV0;by_cases hlt:r<16
   ·have MR:=ah.mk (Kv H2.out HM.out.cells (by omega) (r:Int));have e1:(r:Int)<16:=by omega
    go_wp2_with (first|(have _t:=H3.out;clear _t;have oJ:=jB k1;refine aB (w:=w3) w3.heap.size rfl rfl 283 (.tmp 9) (.tmp 44) rfl (aW k1) rfl rfl 283 _ oJ rfl (kW k1) ?_;refine ah.out ?_)|(go_at_call 200;refine MR.out.mono ?_;rintro e w3 ⟨k1,rfl,hk1,hb⟩;have H3:=ah.mk ((H2.out.below hb).bg (.cells (aW k1) 283));have HK:=ah.mk hk1;clear hb hk1))
    obtain⟨g9,Ub⟩:∃v,v=w3.heap.size:=⟨_,rfl⟩;have H4:ah (Has w0 (w3.alloc (.cells (aW k1) 283)) (m.star b++(M++[aF w.heap.size (.cells #[.int .u32 0,.int .i64 0,.int .i64 0,.int .i64 0] 203),aF g9 (.cells (aW k1) 283)]))):=⟨by rw[Ub];have:=H3.out;rw[List.append_assoc,List.append_assoc]at this;exact this⟩;obtain⟨V,hV⟩:∃v,v=w3.alloc (.cells (aW k1) 283):=⟨_,rfl⟩;rw[←hV]at H4;rw[←hV,←Ub];clear hV Ub H3 MR e1;have z8:z≤8:=by rw[hz];exact(fP hq).2
    have z1:1≤z:=by rw[hz];exact(fP hq).1
    have HZ:=ah.mk hz;have HR:=ah.mk hlt;have s2:wrap64 ((2:Int)^q)=(z:Int):=by
     rw[hz];rcases(by omega:q=0∨q=1∨q=2∨q=3)with h|h|h|h<;>rw[h]<;>kernel_rfl
    clear hz hr oJ;refine ah.mk ?_;go_wp2_with fail
    go_loopw [10] (fun i wr=>∃s:Nat,i=.int .i64 (s:Int)∧s≤8∧ah (s%z=0)∧ah (Has w0 wr (m.star b++(M++[aF w.heap.size (.cells #[.int .u32 0,.int .i64 0,.int .i64 0,.int .i64 0] 203),aF g9 (.cells (aW k1) 283)])))) (fun i _=>8-(intOf i).toNat)
    case atStart=>exact⟨0,rfl,by omega,⟨Nat.zero_mod _⟩,H4⟩
    case round =>
     clear H4;obtain⟨s,rfl,hs,HS,H4⟩:=hrel;have f0:wr.cell? ⟨b,0,none⟩=some (.int .i64 3):=by rw[aj (H4.out.blk 0 iU)];rfl
     by_cases hlt:s<8
     ·have e1:(s:Int)<8:=by omega
      have hsz:s+z≤8:=by
       have h1:=HS.out;have h2:=HZ.out;rcases(by omega:q=0∨q=1∨q=2∨q=3)with h|h|h|h<;>rw[h]at h2<;>simp at h2<;>subst h2<;>omega
      have H5:=ah.mk (H4.out.bg (.cells #[.int .i64 (s:Int),.int .i64 (q:Int)] 53));have CF:=uZ k1 s q HK.out hq (by rw[←HZ.out];exact hsz);obtain⟨k2,hk2⟩:∃k2,k2=mk s (2^q):=⟨_,rfl⟩;have OF:=ah.mk fun V=>vg s q (by rw[←HZ.out];exact hsz) hq V;rw[←hk2]at CF OF;obtain⟨k3,hk3⟩:∃k3,k3=k1&&&k2:=⟨_,rfl⟩;rw[←hk3]at CF;have MC:=ah.mk fun V=>uy k1 k2 k3 CF.1 V;obtain⟨bm,hbm⟩:∃bm,bm=decide (k3≠0):=⟨_,rfl⟩;rw[←hbm]at MC;clear CF hk2 hk3 hbm;go_wp2_with fail
      obtain⟨W,hW⟩:∃W,W=wr.alloc (.cells #[.int .i64 (s:Int),.int .i64 (q:Int)] 53):=⟨_,rfl⟩;obtain⟨NB,jH⟩:∃v,v=wr.heap.size:=⟨_,rfl⟩;have H6:ah (Has w0 W (m.star b++(M++[aF w.heap.size (.cells #[.int .u32 0,.int .i64 0,.int .i64 0,.int .i64 0] 203),aF g9 (.cells (aW k1) 283),aF NB (.cells #[.int .i64 (s:Int),.int .i64 (q:Int)] 53)]))):=⟨by rw[hW,jH];have:=H5.out;rw[List.append_assoc,List.append_assoc]at this;exact this⟩;rw[←hW,←jH];clear hW jH H5 H4 f0;have RQ:=ah.mk (QX (H6.out.blk _ (kQ 1)));have g2:∀g:GW W,g.W.cell? ⟨NB,0,none⟩=some (.int .i64 (s:Int)):=fun g=>g.cell (by rw[aj (H6.out.blk _ (kQ 2))];rfl);have g3:∀g:GW W,g.W.cell? ⟨NB,1,none⟩=some (.int .i64 (q:Int)):=fun g=>g.cell (by rw[aj (H6.out.blk _ (kQ 2))];rfl);have oJ:=jB k1;refine eG (by kernel_rfl) (by kernel_rfl) ?_;repeat (first|(refine gW (by rfl) 283 _ rfl g9 0 rfl (aW k1) _ RQ.out Tryz.underlying283 rfl oJ _ rfl ?_;simp only[Act.put,List.setIfInBounds_toArray,List.set_cons_succ,List.set_cons_zero])|go_big_quiet_step (first|((go_at_call 201;exact GW.calls (MC.out _)))|((go_at_call 202;exact GW.calls (OF.out _)))))
      refine wpQuiet_nil ?_;intro _ hw';obtain⟨gg,rfl⟩:=hw';obtain⟨V1,hV1⟩:∃V1,V1=gg.W:=⟨_,rfl⟩;have H7:ah (Has w0 V1 (m.star b++(M++[aF w.heap.size (.cells #[.int .u32 0,.int .i64 0,.int .i64 0,.int .i64 0] 203),aF g9 (.cells (aW k1) 283),aF NB (.cells #[.int .i64 (s:Int),.int .i64 (q:Int)] 53)]))):=⟨by rw[hV1];exact H6.out.below gg.h⟩;rw[←hV1];clear hV1 H6 g2 g3 RQ MC OF oJ;have f2:V1.cell? ⟨NB,0,none⟩=some (.int .i64 (s:Int)):=by rw[aj (H7.out.blk _ (kQ 2))];rfl
      have f3:V1.cell? ⟨NB,1,none⟩=some (.int .i64 (q:Int)):=by rw[aj (H7.out.blk _ (kQ 2))];rfl
      have w1:wrap64 ((s:Int)+z)=((s+z:Nat):Int):=by rw[wrap_in (by omega) (by omega)];rfl
      cases bm
      ·have H8:=ah.mk (H7.out.bg (.cells #[.int .u32 (id:Int),.int .i64 (r:Int),.int .i64 (s:Int),.int .i64 (q:Int)] 203));go_wp2_with fail
       obtain⟨W5,pq⟩:∃v,v=V1.alloc (.cells #[.int .u32 (id:Int),.int .i64 (r:Int),.int .i64 (s:Int),.int .i64 (q:Int)] 203):=⟨_,rfl⟩;obtain⟨NC,Bg⟩:∃v,v=V1.heap.size:=⟨_,rfl⟩;have H9:ah (Has w0 W5 (m.star b++(M++[aF w.heap.size (.cells #[.int .u32 0,.int .i64 0,.int .i64 0,.int .i64 0] 203),aF g9 (.cells (aW k1) 283),aF NB (.cells #[.int .i64 (s:Int),.int .i64 (q:Int)] 53),aF NC (.cells #[.int .u32 (id:Int),.int .i64 (r:Int),.int .i64 (s:Int),.int .i64 (q:Int)] 203)]))):=⟨by rw[pq,Bg];have:=H8.out;rw[List.append_assoc,List.append_assoc]at this;exact this⟩;rw[←pq,←Bg];clear pq Bg H8 H7 f2 f3;obtain⟨A,cc,hv⟩:=ny H9.out;obtain⟨n,hn⟩:∃n,n=m.cells.length:=⟨_,rfl⟩;have HV:ah (m.cv=.slice A n cc):=⟨by rw[hn];exact hv⟩;have jF:=ah.mk hn;have c1:W5.cell? ⟨b,1,none⟩=some (.slice A n cc):=by rw[aj (H9.out.blk 0 iU),←HV.out];rfl
       have BC:=ah.mk (H9.out.blk _ (kQ 3));clear hv hn;obtain⟨Kp,fC⟩:∃Kp:Nat→Prop,Kp=fun k=>k=b∨k=NC:=⟨_,rfl⟩;have k1':Kp b:=by rw[fC];exact .inl rfl
       have k2':Kp NC:=by rw[fC];exact .inr rfl
       have yJ:=ah.mk fC;have xC:ah (∀k,Kp k→k<W5.drew.heap.size):=⟨fun k hk=>by
        rw[fC]at hk;rcases hk with h|h
        ·rw[h];exact(Array.getElem?_eq_some_iff.1 (H9.out.blk 0 iU)).1
        ·rw[h];exact(Array.getElem?_eq_some_iff.1 BC.out).1⟩
       have x1:∀g:KW W5 Kp,g.W.cell? ⟨b,1,none⟩=some (.slice A n cc):=fun g=>g.cell k1' c1;have y0:∀g:KW W5 Kp,g.W.cell? ⟨NC,0,none⟩=some (.int .u32 (id:Int)):=fun g=>g.cell k2' (by rw[aj BC.out];rfl);have y1:∀g:KW W5 Kp,g.W.cell? ⟨NC,1,none⟩=some (.int .i64 (r:Int)):=fun g=>g.cell k2' (by rw[aj BC.out];rfl);have y2:∀g:KW W5 Kp,g.W.cell? ⟨NC,2,none⟩=some (.int .i64 (s:Int)):=fun g=>g.cell k2' (by rw[aj BC.out];rfl);have y3:∀g:KW W5 Kp,g.W.cell? ⟨NC,3,none⟩=some (.int .i64 (q:Int)):=fun g=>g.cell k2' (by rw[aj BC.out];rfl);clear fC k1' k2' c1;refine aK (fun W=>∃g:KW W5 Kp,W=g.W) 8 (by kernel_rfl) (by kernel_rfl) ?_;have HB0:ah (∀k,Kp k→W5.drew.heap[k]?=W5.heap[k]?):=⟨fun _ _=>rfl⟩;have HG:∃g:KW W5 Kp,W5.drew=g.W:=⟨⟨_,HB0.out⟩,rfl⟩;refine tk 0 HG ?_;refine tk 1 HG ?_;refine tk 2 HG ?_;refine tk 3 HG ?_;refine tk 4 HG ?_;refine tk 5 HG ?_;refine aS (k:=6) rfl (by kernel_rfl) (by kernel_rfl) (fun KK gG=>?_);rw[if_pos (by rfl)];go_simp;have HB1:ah (∀k,Kp k→(W5.drew.alloc (.cells #[.int .u32 (id:Int),.int .i64 (r:Int),.int .i64 (s:Int),.int .i64 (q:Int)] 203)).heap[k]?=W5.heap[k]?):=⟨fun k hk=>heap_alloc_old _ _ (xC.out k hk)⟩;refine gG _ _ ⟨⟨_,HB1.out⟩,rfl⟩ ?_;clear gG KK HG;have HG:∃g:KW W5 Kp,W5.drew.alloc (.cells #[.int .u32 (id:Int),.int .i64 (r:Int),.int .i64 (s:Int),.int .i64 (q:Int)] 203)=g.W:=⟨⟨_,HB1.out⟩,rfl⟩;try simp only[Act.put,List.getElem_toArray,List.getElem_cons_zero,List.getElem_cons_succ,List.setIfInBounds_toArray,List.set_cons_zero,List.set_cons_succ]
       refine aS (k:=7) rfl (by kernel_rfl) (by kernel_rfl) (fun KK gG=>?_);rw[if_pos (by rfl)];change Oper.wp Tryz.prog _ _ (W5.drew.alloc (.cells #[.int .u32 (id:Int),.int .i64 (r:Int),.int .i64 (s:Int),.int .i64 (q:Int)] 203)) _ _;refine qM 127 (.tmp 72) (.tmp 74) rfl H9.out.drew 1 (by rw[←HV.out];rfl) n jF.out Tryz.underlying127 ML (by decide) (by have:=jF.out;omega) rfl rfl (⟨id,r,s,q⟩:Ce) _ rfl rfl (by simp[Value.oneCell']) ?_;intro A5 c5 w7 h7;have vW:=ah.mk h7;clear h7;have hk7:∀k,Kp k→w7.heap[k]?=W5.heap[k]?:=fun k hk=>by
        rw[yJ.out]at hk;rcases hk with h|h
        ·rw[h];exact(vW.out.blk 0 rfl).trans (H9.out.blk 0 iU).symm
        ·rw[h];exact(vW.out.blk (2+M.length+3) (by rw[List.getElem?_set_ne (by omega)];exact kQ 3)).trans BC.out.symm
       refine gG _ _ ⟨⟨w7,hk7⟩,rfl⟩ ?_;clear gG KK HG hk7;refine aQ (by kernel_rfl) ?_;simp only[List.drop_succ_cons,List.drop_zero];clear HB0 HB1 x1 y0 y1 y2 y3 xC;have z0:w7.cell? ⟨b,1,none⟩=some (.slice A n cc):=by rw[aj (vW.out.blk 0 rfl),←HV.out];rfl
       have z1:w7.frozen? ⟨b,1,none⟩=false:=aI (vW.out.blk 0 rfl) _;have DV:=ah.mk (uz vW.out);have U9:ah ((m.setCells (.slice A5 (n+1) c5) (m.cells++[⟨id,r,s,q⟩])).ok (N+1)):=⟨HM.out.setCells _ (fun x hx=>by
        rcases List.mem_append.1 hx with h|h
        ·exact HM.out.cells x h
        ·obtain rfl:=List.mem_singleton.1 h;exact⟨by show(0:Int)≤(r:Int);omega,by show(r:Int)≤15;omega,q,s,rfl,rfl,hq,by rw[←HZ.out];exact hsz⟩) (by rw[List.length_append,List.length_singleton];have:=HM.out.few;omega)⟩
       have MS:=ah.mk (GH DV.out (Nat.le_trans U9.out.few (by omega)));clear vW H9;go_wp2_with (go_at_call 203;refine MS.out.mono ?_;rintro e w8 ⟨rfl,l,hl1,hl2,h⟩;have PI:=ah.mk h;have HL:=ah.mk (And.intro hl1 hl2);clear h hl1 hl2;refine ah.out ?_)
       have YA:=ah.mk (PI.out.blk (2+M.length+3) (kQ 3));have BZ:=ah.mk (PI.out.blk (2+M.length+0) (kQ 0));have v0:w8.cell? ⟨NC,0,none⟩=some (.int .u32 (id:Int)):=by rw[aj YA.out];rfl
       have v1:w8.cell? ⟨NC,1,none⟩=some (.int .i64 (r:Int)):=by rw[aj YA.out];rfl
       have v2:w8.cell? ⟨NC,2,none⟩=some (.int .i64 (s:Int)):=by rw[aj YA.out];rfl
       have v3:w8.cell? ⟨NC,3,none⟩=some (.int .i64 (q:Int)):=by rw[aj YA.out];rfl
       have i203:=BK ⟨id,r,s,q⟩;have Zm:(#[.int .u32 (id:Int),.int .i64 (r:Int),.int .i64 (s:Int),.int .i64 (q:Int)]:Array Value).all (·.oneCell')=true:=by simp[Value.oneCell']
       unfold gu at i203;clear z0 z1 MS DV;refine ah.mk ?_;go_wp2_with (refine aY rfl 203 (.tmp 6) (.tmp 80) rfl w.heap.size #[.int .u32 (id:Int),.int .i64 (r:Int),.int .i64 (s:Int),.int .i64 (q:Int)] rfl rfl 203 _ BZ.out i203 rfl Zm ?_)
       have hg:=setRow_heap w8 w.heap.size _ #[.int .u32 (id:Int),.int .i64 (r:Int),.int .i64 (s:Int),.int .i64 (q:Int)] 203 (0,0) BZ.out;try simp only[Exit.inBlock,Exit.then]
       refine dY rfl rfl w.heap.size _ 203 (0,0) _ rfl hg Tryz.underlying203 rfl i203 ?_;rw[←HQ.out];have eP:=U9.out.setCells (.slice A5 (n+1) c5) (l:=l) (fun x hx=>U9.out.cells x ((HL.out.1 x).1 hx)) (K:=N+1) (by rw[HL.out.2];exact U9.out.few);refine⟨⟨id,r,s,q⟩,0,_,rfl,eP,?_,fun h=>absurd rfl h,fun _=>⟨rfl,⟨s,rfl,by omega,by rw[←HZ.out];exact HS.out⟩,⟨id,r,s,q⟩,(HL.out.1 _).2 (List.mem_append_right _ (List.mem_singleton.2 rfl)),rfl⟩⟩;have:=PI.out.putRow (2+M.length+0) (kQ 0) #[.int .u32 (id:Int),.int .i64 (r:Int),.int .i64 (s:Int),.int .i64 (q:Int)];exact OO 0 this
      ·go_wp2_with fail
       go_roundw
       case rel =>
        refine⟨s+z,rfl,hsz,⟨by have:=HS.out;rw[Nat.add_mod_right];exact this⟩,⟨Has.first (M:=[aF NB (.cells #[.int .i64 (s:Int),.int .i64 (q:Int)] 53)]) ?_⟩⟩;have:=H7.out;simp only[List.append_assoc,List.cons_append,List.nil_append];exact this
       case measure=>simp[intOf];omega
     ·have e1:¬(s:Int)<8:=by omega
      go_wp2_with fail
      go_roundw
      case rel =>
       refine⟨r+1,rfl,by omega,⟨Has.first (M:=[aF g9 (.cells (aW k1) 283)]) ?_⟩⟩;have:=H4.out;simp only[List.append_assoc,List.cons_append,List.nil_append];exact this
      case measure=>simp[intOf];omega
   ·have e1:¬(r:Int)<16:=by omega
    have BX:=ah.mk (H2.out.blk _ BP);have i203:=BK yX;rw[BO]at i203;go_wp2_with (refine lg rfl 203 (.tmp 6) (.tmp 82) rfl w.heap.size 0 #[.int .u32 0,.int .i64 0,.int .i64 0,.int .i64 0] rfl rfl 203 _ BX.out (fun i v h=>by simpa using h) i203 yY ?_)
    try simp only[Exit.inBlock,Exit.then]
    refine dY rfl rfl w.heap.size _ 203 (0,0) _ rfl BX.out Tryz.underlying203 rfl i203 ?_;rw[←HQ.out];exact⟨yX,5,m,rfl,HM.out.more,Has.first (by have:=H2.out;rw[vw]at this;exact this),fun _=>rfl,fun h=>by cases h⟩
end
end
section
open Go.RowKit
theorem Star.perm {w:World}{l l':List bV}(h:l.Perm l'):∀F,Star l w F→Star l' w F:=by
 induction h with
 |nil=>exact fun F h=>h
 |cons X h ih=>exact fun F ⟨G,H,a,b,c,d⟩=>⟨G,H,a,ih H b,c,d⟩
 |swap X Y l =>
  intro F ⟨G,H,a,⟨G2,H2,a2,b2,c2,d2⟩,c,d⟩;refine⟨G2,fun k=>G k∨H2 k,a2,⟨G,H2,a,b2,fun k hg hh=>c k hg (d2 k (.inr hh)),fun k h=>h⟩,fun k hg hh=>?_,fun k h=>?_⟩
  ·rcases hh with hh|hh
   ·exact c k hh (d2 k (.inl hg))
   ·exact c2 k hg hh
  ·rcases h with h|h|h
   ·exact d k (.inr (d2 k (.inl h)))
   ·exact d k (.inl h)
   ·exact d k (.inr (d2 k (.inr h)))
 |trans _ _ ih1 ih2=>exact fun F h=>ih2 F (ih1 F h)
section
variable {w0 w:World}{A B:List bV}{X Y:bV}
theorem Has.perm {l l':List bV}(h:l.Perm l')(H:Has w0 w l):Has w0 w l':=by
 obtain⟨⟨F,h1,h2⟩,h3⟩:=H;exact⟨⟨F,Star.perm h F h1,h2⟩,h3⟩
theorem Has.ins (A B:List bV)(H:Has w0 w (A++B++[X])):Has w0 w (A++X::B):=by
 refine H.perm ?_;rw[List.append_assoc];exact List.Perm.append_left A (List.perm_append_comm (l₁:=B) (l₂:=[X]))
theorem Has.cut (A B:List bV)(H:Has w0 w (A++X::B)):Has w0 w (A++B):=by
 have h:(A++X::B).Perm (A++B++[X]):=by
  rw[List.append_assoc];exact List.Perm.append_left A (List.perm_append_comm (l₁:=[X]) (l₂:=B))
 exact(H.perm h).first
end
def dL (M:List bV)(w0 w:World)(x:Nat)(pol now:Int)(js:List J)(bk:List Ch)(fl:List Int)(k:Nat):Prop :=
 ∃(a:qX) (y:Yd) (m:Mx),a.x=x∧y.failed=fl∧y.ok (most js bk k) k∧m.ok (most js bk k)∧Has w0 w (CL a pol now js bk y m++M)
section
variable {M:List bV}{w0 w w1:World}{x:Nat}{pol now:Int}{js:List J}{bk:List Ch}{fl:List Int}{k:Nat}
theorem dL.below (h:dL M w0 w x pol now js bk fl k)(hb:Below w.heap.size w w1):dL M w0 w1 x pol now js bk fl k:=by
 obtain⟨a,y,m,h1,h2,h3,h4,h5⟩:=h;exact⟨a,y,m,h1,h2,h3,h4,h5.below hb⟩
theorem dL.st (h:dL M w0 w x pol now js bk fl k):St w0 w x pol now js bk fl k:=by
 obtain⟨a,y,m,h1,h2,h3,h4,h5⟩:=h;exact⟨a,y,m,h1,h2,h3,h4,h5.first⟩
theorem St.stM (h:St w0 w x pol now js bk fl k):dL [] w0 w x pol now js bk fl k:=by
 obtain⟨a,y,m,h1,h2,h3,h4,h5⟩:=h;exact⟨a,y,m,h1,h2,h3,h4,by rw[List.append_nil];exact h5⟩
theorem dL.more {K:List bV}(h:dL M w0 w x pol now js bk fl k)(hk:Has w w1 K):dL (M++K) w0 w1 x pol now js bk fl k:=by
 obtain⟨a,y,m,h1,h2,h3,h4,h5⟩:=h;exact⟨a,y,m,h1,h2,h3,h4,by rw[←List.append_assoc];exact h5.more hk⟩
theorem dL.get (h:dL M w0 w x pol now js bk fl k):∃L:List bV,L.length=14∧Has w0 w (L++M):=by
 obtain⟨a,y,m,h1,h2,h3,h4,h5⟩:=h;exact⟨_,rfl,h5⟩
end
end
section
open Go.RowKit Go.ChangeMaps
section
variable {w0 w:World}
def Gone (M:List bV)(w0:World)(a:qX)(now:Int)(js:List J)(bk:List Ch)(y:Yd)(N bm:Nat)(e:Ending)(w':World):Prop :=
 ∃(b:Bool) (bG:List J) (m':Mx) (l':List (Int×Value)),e=.returned (.bool b)∧aad l'∧(b=false→bG=js∧m'.ok N)∧
  (b=true→m'.ok (N+1)∧∃(i:Nat) (j:J) (s:Nat),js[i]?=some j∧j.how=1∧s≤7∧s%2^ord j.s.size=0∧bG=js.set i { (j.go now s (ord j.s.size:Nat))with how:=3})∧Has w0 w' (CL a 4 now bG bk y m'++mapA bm (Value.int .u32) l'::M)
theorem Q5 (c:Ce):(gu c).toArray.all (·.oneCell')=true:=by simp[gu,Value.oneCell']
theorem kX {a:qX}{pol now:Int}{js:List J}{bk:List Ch}{y:Yd}{m:Mx}{M:List bV}(H:Has w0 w (CL a pol now js bk y m++M)):w.cell? ⟨a.x,15,none⟩=some (.slice (some ⟨a.mr,0,none⟩) 1 a.TI)∧w.cell? ⟨a.mr,0,none⟩=some (.pointer (some ⟨a.mb,0,none⟩)):=
 ⟨by rw[aj (H.blk 0 rfl)];rfl,by
  have:=bP H 11 rfl 0 [.pointer (some ⟨a.mb,0,none⟩)] ig 0 _ rfl;simpa using this⟩
theorem Q7 {a:qX}{pol now:Int}{js:List J}{bk:List Ch}{y:Yd}{m:Mx}{M:List bV}{N:Nat}(H:Has w0 w (CL a pol now js bk y m++M))(hm:m.ok N)(hN:N≤900000)(i q:Nat)(hq:q≤3) :
 Calls Tryz.prog 140 #[.pointer (some ⟨a.mb,0,none⟩),.int .u32 ((i:Int)+1),.int .i64 (q:Int)] w fun e w'=>∃(c:Ce) (r:Int) (m':Mx),e=.returned (.tuple #[.agg (gu c).toArray,.int .i64 r])∧m'.ok (N+1)∧Has w0 w' (CL a pol now js bk y m'++M)∧(r≠0→m'=m)∧(r=0→c.order=(q:Int)∧(∃s:Nat,c.start=(s:Int)∧s≤7∧s%2^q=0)∧∃x∈m'.cells,x.id=i+1):=by
 obtain⟨RR,hop,hback⟩:=H.opened 13 (m.star a.mb) rfl;have h:=GI hop hm hN (i+1) (by omega) q hq;rw[show((i+1:Nat):Int)=(i:Int)+1 from rfl]at h;exact h.mono fun e w' ⟨c,r,m',h1,h2,h3,h4,h5⟩=>⟨c,r,m',h1,h2,hback (m'.star a.mb) w' h3,h4,h5⟩
theorem OQ {a:qX}{pol now:Int}{js:List J}{bk:List Ch}{y:Yd}{m:Mx}{M:List bV}{N k:Nat}(H:Has w0 w (CL a pol now js bk y m++M))(hy:y.ok N k)(hk:k≤100000) :
 Calls Tryz.prog 89 #[.pointer (some ⟨a.yb,0,none⟩)] w fun e w'=>∃(A:Option Addr) (n c:Nat),e=.returned (.slice A n c)∧n=y.failed.length∧Has w w' [aT 3 1 encI (.slice A n c) y.failed]:=by
 obtain⟨RR,hop,hback⟩:=H.opened 12 (y.star a.yb) rfl;exact uh hop hy hk
theorem BQ {a:qX}{pol now:Int}{js:List J}{bk:List Ch}{y:Yd}{m:Mx}{M:List bV}{N:Nat}(H:Has w0 w (CL a pol now js bk y m++M))(hm:m.ok N)(hN:N≤900000)(i:Nat) :
 Calls Tryz.prog 70 #[.pointer (some ⟨a.mb,0,none⟩),.int .u32 ((i:Int)+1)] w fun e w'=>∃(r:Int) (m':Mx),e=.returned (.int .i64 r)∧(m'.ok N∧((∃x∈m.cells,x.id=i+1)→m'.cells.length+1=m.cells.length))∧Has w0 w' (CL a pol now js bk y m'++M):=by
 obtain⟨RR,hop,hback⟩:=H.opened 13 (m.star a.mb) rfl;have h:=DT hop hm (Nat.le_trans hN (by decide)) (i+1);rw[show((i+1:Nat):Int)=(i:Int)+1 from rfl]at h;exact h.mono fun e w' ⟨r,m',h1,h2,h3⟩=>⟨r,m',h1,h2,hback (m'.star a.mb) w' h3⟩
theorem zU {M:List bV}{a:qX}{y:Yd}{m:Mx}{now:Nat}{js:List J}{bk:List Ch}{N k bm:Nat}{l:List (Int×Value)}(H:Has w0 w (CL a 4 now js bk y m++mapA bm (Value.int .u32) l::M))(hl:aad l)(hy:y.ok N k)(hm:m.ok N)(hN:N≤800000)(hk:k≤1000)(G:dJ now js bk)(dB:now≤10000) :
 Calls Tryz.prog 86 #[.pointer (some ⟨a.x,0,none⟩),.int .i64 0,.map (some bm)] w fun e w'=>Gone M w0 a now js bk y N bm e w':=by
 refine named fun R HQ=>?_;have hlen:=G.len;have AC:=ah.mk (lU H 0 1 2 rfl rfl rfl rfl rfl (by omega));have OK:=ah.mk (And.intro hy hm);have GG:=ah.mk G;clear hy G;go_enter Tryz.func86,Tryz.ntmps86;go_wp2_with (go_at_call 61;refine AC.out.mono ?_;rintro e w1 ⟨A1,c1,rfl,h1⟩;have H1:ah (Has w0 w1 (CL a 4 now js bk y m++mapA bm (Value.int .u32) l::aO (.slice A1 js.length c1) js::M)):=⟨h1.ins (CL a 4 now js bk y m++[mapA bm (Value.int .u32) l]) M⟩;clear h1;refine ah.out ?_)
 have C1:=ah.mk (jD.of (M:=mapA bm (Value.int .u32) l::aO (.slice A1 js.length c1) js::M) H1.out);have R1:=ah.mk (gI H1.out 15 rfl);have RK:=ah.mk (tH C1.out R1.out GG.out dB);refine ah.mk ?_;go_wp2_with (go_at_call 138;refine RK.out.mono ?_;rintro e w2 ⟨A2,n2,c2,ks,rfl,hks,h2,hn2,Zn⟩;have H2:ah (Has w0 w2 (GL a now js bk y m bm l (.slice A1 js.length c1) (.slice A2 n2 c2) ks M)):=⟨Has.ins (CL a 4 now js bk y m++[mapA bm (Value.int .u32) l,aO (.slice A1 js.length c1) js]) M (H1.out.more h2)⟩;have HK:=ah.mk (And.intro hks hn2);clear h2 hks hn2)
 clear RK AC R1 C1 H1;go_loopw [21] (fun i wr=>∃(p:Nat),i=.int .i64 p∧p≤n2∧ah (∃m' l',aad l'∧m'.ok N∧Has w0 wr (GL a now js bk y m' bm l' (.slice A1 js.length c1) (.slice A2 n2 c2) ks M))) (fun i _=>n2-(intOf i).toNat)
 case atStart=>exact⟨0,rfl,Nat.zero_le _,⟨m,l,hl,hm,H2.out⟩⟩
 case round =>
  clear H2 hl hm;obtain⟨p,rfl,hp,HB⟩:=hrel;obtain⟨m,l,hl,hm,H2⟩:=HB.out;have H2:=ah.mk H2;have HM:=ah.mk (And.intro hl hm);clear HB hm;by_cases hlt:p<n2
  ·obtain⟨x,hx⟩:∃x,ks[p]?=some x:=⟨_,List.getElem?_eq_getElem (by rw[←HK.out.2];exact hlt)⟩;obtain⟨j,hj,hji,hjh⟩:=HK.out.1 x (List.mem_of_getElem? hx);obtain⟨i,hi,Q8⟩:=List.getElem_of_mem hj;have hij:js[i]?=some j:=by rw[←Q8];exact List.getElem?_eq_getElem hi
   have JO:=ah.mk (GG.out.jobs i j hij);have HJ:=ah.mk (And.intro hij hjh);have Q9:x.id=i+1:=by rw[←hji];exact JO.out.id
   obtain⟨gk,hA,hxr⟩:=(bI H2.out 16 rfl pY).get p x hx;obtain⟨gj,hA1,hjr⟩:=(gI H2.out 15 rfl).get i j hij;subst hA;subst hA1;have RX:ah (wr.rangeAt gk (p*3) (dn x).toArray.toList):=⟨by simpa using hxr⟩;have H4:=ah.mk (H2.out.bg (.cells (dn x).toArray 218));obtain⟨q,hq⟩:∃q,q=ord j.s.size:=⟨_,rfl⟩;obtain⟨z,hz⟩:∃z,z=2^ord j.s.size:=⟨_,rfl⟩;obtain⟨sz,hsz⟩:∃v,v=j.s.size:=⟨_,rfl⟩;have pF:=JO.out.spec;have UP:=ah.mk fun W=>nS (w:=W) j.s.size pF.2.2.1 pF.2.2.2.1 z q hz hq;rw[←hsz]at UP;have Zo:=ah.mk hq;have hq3:q≤3:=by rw[hq];exact(jh pF.2.2.1 pF.2.2.2.1).1
   have x2:(dn x).toArray[2]?=some (.int .u32 ((i:Int)+1)):=by show some (Value.int .u32 (x.id:Int))=_;rw[Q9];rfl
   have j7:∀o,(wr.alloc o).cell? ⟨gj,i*26+7,none⟩=some (.int .i64 (sz:Int)):=fun o=>ak (au (Below.refl _ _) _) (by rw[hsz];exact hjr 7 _ j.Gt);have hk3:=Jh x;have wi:IntKind.u32.wrap ((i:Int)+1-1)=i:=by rw[IntKind.wrap_u32];omega
   obtain⟨bb,hbb⟩:=yP hl ((i:Int)+1);have LK:∀o,(Instr.lookup 162 (.map (some bm)) (.int .u32 ((i:Int)+1)) false).run Tryz.prog (wr.alloc o)=.ok (.bool bb) (wr.alloc o):=fun o=>by
    have:=dU (gJ .u32) (H2.out.alloc o) 14 rfl 162 43 4 Tryz.underlying162 Tryz.underlying43 (.bool false) rfl ((i:Int)+1) false;rw[hbb]at this;exact this
   clear hxr hjr hx hj hji Q8 hij Q9 hq hz hsz pF hjh hl hbb;cases bb
   ·go_wp2_with (first|(go_at_call 139;refine(UP.out _).mono ?_;rintro e w' ⟨rfl,hw⟩;obtain rfl:=hw.symm;clear hw)|(refine aJ rfl 218 (.tmp 23) rfl gk (p*3) rfl (dn x).toArray _ RX.out Tryz.underlying218 rfl hk3 ?_)|(refine aB wr.heap.size rfl rfl 218 (.tmp 9) (.tmp 24) rfl (dn x).toArray rfl rfl 218 _ hk3 rfl (sZ x) ?_))
    obtain⟨W5,pq⟩:∃v,v=wr.alloc (.cells (dn x).toArray 218):=⟨_,rfl⟩;obtain⟨NK,Zp⟩:∃v,v=wr.heap.size:=⟨_,rfl⟩;have H5:ah (Has w0 W5 (GL a now js bk y m bm l (.slice (some ⟨gj,0,none⟩) js.length c1) (.slice (some ⟨gk,0,none⟩) n2 c2) ks (aF NK (.cells (dn x).toArray 218)::M))):=⟨by rw[pq,Zp];exact Has.ins (CL a 4 now js bk y m++[mapA bm (Value.int .u32) l,aO (.slice (some ⟨gj,0,none⟩) js.length c1) js,aT 218 3 dn (.slice (some ⟨gk,0,none⟩) n2 c2) ks]) M H4.out⟩;rw[←pq,←Zp];clear pq Zp H4 H2 LK j7 RX hk3 wi;have SF:ah (∀(W:World) (m':Mx) (K:List bV),Has w0 W (GL a now js bk y m' bm l (.slice (some ⟨gj,0,none⟩) js.length c1) (.slice (some ⟨gk,0,none⟩) n2 c2) ks (aF NK (.cells (dn x).toArray 218)::K))→(W.cell? ⟨a.x,15,none⟩=some (.slice (some ⟨a.mr,0,none⟩) 1 a.TI)∧W.cell? ⟨a.mr,0,none⟩=some (.pointer (some ⟨a.mb,0,none⟩))∧W.cell? ⟨NK,2,none⟩=some (.int .u32 ((i:Int)+1))∧True)):=⟨fun W m' K h=>by
     have h1:Has w0 W (CL a 4 now js bk y m'++(mapA bm (Value.int .u32) l::aO (.slice (some ⟨gj,0,none⟩) js.length c1) js::aT 218 3 dn (.slice (some ⟨gk,0,none⟩) n2 c2) ks::aF NK (.cells (dn x).toArray 218)::K)):=h;exact⟨(kX h1).1,(kX h1).2,by rw[aj (h1.blk 17 rfl)];exact x2,trivial⟩⟩
    have PL:=ah.mk fun W (K:List bV) (h:Has w0 W (GL a now js bk y m bm l (.slice (some ⟨gj,0,none⟩) js.length c1) (.slice (some ⟨gk,0,none⟩) n2 c2) ks K))=>Q7 (M:=mapA bm (Value.int .u32) l::aO (.slice (some ⟨gj,0,none⟩) js.length c1) js::aT 218 3 dn (.slice (some ⟨gk,0,none⟩) n2 c2) ks::K) h HM.out.2 (by omega) i q hq3;clear x2;refine aK (fun W=>W.cell? ⟨a.x,15,none⟩=some (.slice (some ⟨a.mr,0,none⟩) 1 a.TI)∧W.cell? ⟨a.mr,0,none⟩=some (.pointer (some ⟨a.mb,0,none⟩))∧W.cell? ⟨NK,2,none⟩=some (.int .u32 ((i:Int)+1))∧True) 16 (by kernel_rfl) (by kernel_rfl) ?_;have HG:=SF.out W5.drew m M H5.out.drew;refine aZ 0 HG ?_;refine aZ 1 HG ?_;refine aZ 2 HG ?_;refine aZ 3 HG ?_;refine aZ 4 HG ?_;refine aZ 5 HG ?_;refine aZ 6 HG ?_;refine aZ 7 HG ?_;refine aZ 8 HG ?_;refine aZ 9 HG ?_;refine kJ (k:=10) (k2:=14) rfl rfl (by kernel_rfl) (by kernel_rfl) (by kernel_rfl) (fun K hK=>?_) (fun K hK=>?_);rw[if_pos (by rfl)];go_simp;go_at_call 140;refine(PL.out _ _ H5.out.drew).mono ?_;rintro e w8 ⟨c,r,m2,rfl,ok2,h8,hr1,hr2⟩;refine hK _ _ (SF.out w8 m2 M h8) ?_;clear HG;have HG:=SF.out w8 m2 M h8;clear hK K;try simp only[Act.put,List.getElem_toArray,List.getElem_cons_zero,List.getElem_cons_succ,List.setIfInBounds_toArray,List.set_cons_zero,List.set_cons_succ]
    refine aZ 11 HG ?_;refine aZ 12 HG ?_;refine aZ 13 HG ?_;refine aS (k:=14) rfl (by kernel_rfl) (by kernel_rfl) (fun K hK=>?_);rw[if_pos (by rfl)];go_simp;have h9:Has w0 (w8.alloc (.cells #[.int .u32 0,.int .i64 0,.int .i64 0,.int .i64 0] 203)) (GL a now js bk y m2 bm l (.slice (some ⟨gj,0,none⟩) js.length c1) (.slice (some ⟨gk,0,none⟩) n2 c2) ks (aF NK (.cells (dn x).toArray 218)::aF w8.heap.size (.cells #[.int .u32 0,.int .i64 0,.int .i64 0,.int .i64 0] 203)::M)):=
     Has.ins (CL a 4 now js bk y m2++[mapA bm (Value.int .u32) l,aO (.slice (some ⟨gj,0,none⟩) js.length c1) js,aT 218 3 dn (.slice (some ⟨gk,0,none⟩) n2 c2) ks]++[aF NK (.cells (dn x).toArray 218)]) M (h8.bg (.cells #[.int .u32 0,.int .i64 0,.int .i64 0,.int .i64 0] 203))
    refine hK _ _ (SF.out _ m2 _ h9) ?_;clear hK K HG;try simp only[Act.put,List.getElem_toArray,List.getElem_cons_zero,List.getElem_cons_succ,List.setIfInBounds_toArray,List.set_cons_zero,List.set_cons_succ]
    refine aS (k:=15) rfl (by kernel_rfl) (by kernel_rfl) (fun K hK=>?_);rw[if_pos (by rfl)];have h10:=h9.putRow 18 rfl (gu c).toArray;refine wp_store_row 203 (.tmp 12) (.tmp 53) rfl w8.heap.size (gu c).toArray rfl rfl 203 _ (h9.blk 18 rfl) (BK c) rfl (Q5 c) ?_;refine hK _ _ (SF.out _ m2 _ h10) ?_;obtain⟨NC,Bg⟩:∃v,v=w8.heap.size:=⟨_,rfl⟩;obtain⟨W9,WY⟩:∃v,v=(w8.alloc (.cells #[.int .u32 0,.int .i64 0,.int .i64 0,.int .i64 0] 203)).setRow w8.heap.size (gu c).toArray:=⟨_,rfl⟩;rw[←WY,←Bg]at h10 ⊢;have H9:=ah.mk h10;have HR:=ah.mk (And.intro ok2 (And.intro hr1 hr2));clear WY Bg h10 h9 h8 ok2 hr1 hr2 hK K;try simp only[Act.put,List.getElem_toArray,List.getElem_cons_zero,List.getElem_cons_succ,List.setIfInBounds_toArray,List.set_cons_zero,List.set_cons_succ]
    refine aQ (by kernel_rfl) ?_;simp only[List.drop_succ_cons,List.drop_zero];rotate_left
    rw[if_pos (by rfl)];go_simp;have h7:Has w0 (W5.drew.alloc (.cells #[.int .u32 0,.int .i64 0,.int .i64 0,.int .i64 0] 203)) (GL a now js bk y m bm l (.slice (some ⟨gj,0,none⟩) js.length c1) (.slice (some ⟨gk,0,none⟩) n2 c2) ks (aF NK (.cells (dn x).toArray 218)::aF W5.heap.size (.cells #[.int .u32 0,.int .i64 0,.int .i64 0,.int .i64 0] 203)::M)):=
     Has.ins (CL a 4 now js bk y m++[mapA bm (Value.int .u32) l,aO (.slice (some ⟨gj,0,none⟩) js.length c1) js,aT 218 3 dn (.slice (some ⟨gk,0,none⟩) n2 c2) ks]++[aF NK (.cells (dn x).toArray 218)]) M (H5.out.drew.bg (.cells #[.int .u32 0,.int .i64 0,.int .i64 0,.int .i64 0] 203))
    refine hK _ _ (SF.out _ m _ h7) ?_;clear hK K HG;try simp only[Act.put,List.getElem_toArray,List.getElem_cons_zero,List.getElem_cons_succ,List.setIfInBounds_toArray,List.set_cons_zero,List.set_cons_succ]
    refine aS (k:=10) rfl (by kernel_rfl) (by kernel_rfl) (fun K hK=>?_);rw[if_pos (by rfl)];go_simp;go_at_call 140;refine(PL.out _ _ h7).mono ?_;rintro e w8 ⟨c,r,m2,rfl,ok2,h9,hr1,hr2⟩;refine hK _ _ (SF.out _ m2 _ h9) ?_;have HG:=SF.out w8 m2 _ h9;clear hK K;try simp only[Act.put,List.getElem_toArray,List.getElem_cons_zero,List.getElem_cons_succ,List.setIfInBounds_toArray,List.set_cons_zero,List.set_cons_succ]
    refine aZ 11 HG ?_;refine aZ 12 HG ?_;refine aZ 13 HG ?_;refine aS (k:=15) rfl (by kernel_rfl) (by kernel_rfl) (fun K hK=>?_);rw[if_pos (by rfl)];have h10:=h9.putRow 18 rfl (gu c).toArray;refine wp_store_row 203 (.tmp 12) (.tmp 53) rfl W5.heap.size (gu c).toArray rfl rfl 203 _ (h9.blk 18 rfl) (BK c) rfl (Q5 c) ?_;refine hK _ _ (SF.out _ m2 _ h10) ?_;obtain⟨NC,Bg⟩:∃v,v=W5.heap.size:=⟨_,rfl⟩;obtain⟨W9,WY⟩:∃v,v=w8.setRow W5.heap.size (gu c).toArray:=⟨_,rfl⟩;rw[←Bg]at h10 WY ⊢;rw[←WY]at h10 ⊢;have H9:=ah.mk h10;have HR:=ah.mk (And.intro ok2 (And.intro hr1 hr2));clear WY Bg h10 h9 h7 ok2 hr1 hr2 hK K HG;try simp only[Act.put,List.getElem_toArray,List.getElem_cons_zero,List.getElem_cons_succ,List.setIfInBounds_toArray,List.set_cons_zero,List.set_cons_succ]
    refine aQ (by kernel_rfl) ?_;simp only[List.drop_succ_cons,List.drop_zero];all_goals
     clear PL;by_cases hr:r=0
     ·obtain⟨ho,⟨s,hs,hs7,hsd⟩,hin⟩:=HR.out.2.2 hr;obtain⟨ci,cr,cs,co⟩:=c;simp only at ho hs;subst ho hs hr;have eP:=ah.mk HR.out.1;have Zq:=ah.mk (And.intro hsd hin);clear HR hsd hin;have C9:=ah.mk (jD.of (M:=mapA bm (Value.int .u32) l::aO (.slice (some ⟨gj,0,none⟩) js.length c1) js::aT 218 3 dn (.slice (some ⟨gk,0,none⟩) n2 c2) ks::aF NK (.cells (dn x).toArray 218)::aF NC (.cells (gu ⟨ci,cr,(s:Int),(q:Int)⟩).toArray 203)::M) H9.out);have x14:W9.cell? ⟨a.x,14,none⟩=some (.slice (some ⟨a.yr,0,none⟩) 1 a.SL):=C9.out.cell 14 _ rfl;have QN:W9.cell? ⟨a.yr,0,none⟩=some (.pointer (some ⟨a.yb,0,none⟩)):=rF (M:=mapA bm (Value.int .u32) l::aO (.slice (some ⟨gj,0,none⟩) js.length c1) js::aT 218 3 dn (.slice (some ⟨gk,0,none⟩) n2 c2) ks::aF NK (.cells (dn x).toArray 218)::aF NC (.cells (gu ⟨ci,cr,(s:Int),(q:Int)⟩).toArray 203)::M) H9.out;have FC:=ah.mk (OQ (M:=mapA bm (Value.int .u32) l::aO (.slice (some ⟨gj,0,none⟩) js.length c1) js::aT 218 3 dn (.slice (some ⟨gk,0,none⟩) n2 c2) ks::aF NK (.cells (dn x).toArray 218)::aF NC (.cells (gu ⟨ci,cr,(s:Int),(q:Int)⟩).toArray 203)::M) H9.out OK.out.1 (by omega));have BC:=ah.mk (H9.out.blk 18 rfl);have CT:ah (∀(W:World) (A:Option Addr) (n c:Nat),Has W9 W [aT 3 1 encI (.slice A n c) y.failed]→n=y.failed.length→Calls Tryz.prog 141 #[.slice A n c,.func (.func 142) #[] #[.pointer (some ⟨NC,0,none⟩)]] W fun e w'=>∃b:Bool,e=.returned (.bool b)∧Below W.heap.size W w'):=⟨fun W A n c h hn=>QL (bI h 0 rfl bH) (by have:=OK.out.1.xX;omega) fun v V hV=>QK s q v hs7 hq3 (ak hV (ak h.old (by rw[aj BC.out];rfl))) (ak hV (ak h.old (by rw[aj BC.out];rfl)))⟩;go_wp2_with (first|(go_at_call 141;have _t:=HF.out;clear _t;refine(CT.out _ _ _ _ HF.out.1 HF.out.2).mono ?_;rintro e Uc ⟨bb,rfl,hb⟩;have DV:=ah.mk ((H9.out.below HF.out.1.old).below hb);clear hb;refine ah.out ?_)|(go_at_call 89;refine FC.out.mono ?_;rintro e w10 ⟨A4,n4,c4,rfl,hn4,h4⟩;have HF:=ah.mk (And.intro h4 hn4);clear h4 hn4))
      clear FC CT x14 QN;cases bb
      ·have Rf:=ah.mk (jD.of (M:=mapA bm (Value.int .u32) l::aO (.slice (some ⟨gj,0,none⟩) js.length c1) js::aT 218 3 dn (.slice (some ⟨gk,0,none⟩) n2 c2) ks::aF NK (.cells (dn x).toArray 218)::aF NC (.cells (gu ⟨ci,cr,(s:Int),(q:Int)⟩).toArray 203)::M) DV.out);obtain⟨g0,qw⟩:=jy (M:=mapA bm (Value.int .u32) l::aO (.slice (some ⟨gj,0,none⟩) js.length c1) js::aT 218 3 dn (.slice (some ⟨gk,0,none⟩) n2 c2) ks::aF NK (.cells (dn x).toArray 218)::aF NC (.cells (gu ⟨ci,cr,(s:Int),(q:Int)⟩).toArray 203)::M) DV.out HJ.out.1;have HA:=ah.mk qw;have ST:ah (Calls Tryz.prog 143 #[.pointer (some ⟨a.p,0,none⟩),.int .u32 ((i:Int)+1),.int .i64 (now:Int),.agg #[.int .i64 (s:Int),.int .i64 (q:Int)]] Uc.drew fun e w'=>e=.returned (.int .i64 0)∧Has w0 w' (CL a 4 now (js.set i { (j.go now s (ord j.s.size:Nat))with how:=3}) bk y m2++(mapA bm (Value.int .u32) l::aO (.slice (some ⟨gj,0,none⟩) js.length c1) js::aT 218 3 dn (.slice (some ⟨gk,0,none⟩) n2 c2) ks::aF NK (.cells (dn x).toArray 218)::aF NC (.cells (gu ⟨ci,cr,(s:Int),(q:Int)⟩).toArray 203)::M))):=⟨by
        have hsd:s%2^ord j.s.size=0:=by rw[←Zo.out];exact Zq.out.1
        have pF:=JO.out.spec;have ST0:=pO DV.out.drew 1 2 (g:=g0) (n:=js.length) (c:=a.jc) rfl (by rw[←qw];rfl) (by rw[←qw];rfl) (by omega) i j HJ.out.1 (now:Int) JO.out.since JO.out.started (by omega) JO.out.oQ (by have:=JO.out.oU;omega) pF.2.2.1 pF.2.2.2.1 s hs7 hsd;rw[←Zo.out]at ST0 ⊢;refine ST0.mono fun e w' h=>h.elim (fun h=>⟨h.2.1,?_⟩) (fun h=>absurd HJ.out.2 h.1);rw[mZ,qw];exact h.2.2⟩
       have SG:∀W,Has w0 W (CL a 4 now js bk y m2++(mapA bm (Value.int .u32) l::aO (.slice (some ⟨gj,0,none⟩) js.length c1) js::aT 218 3 dn (.slice (some ⟨gk,0,none⟩) n2 c2) ks::aF NK (.cells (dn x).toArray 218)::aF NC (.cells (gu ⟨ci,cr,(s:Int),(q:Int)⟩).toArray 203)::M))→(W.cell? ⟨a.x,13,none⟩=some (.pointer (some ⟨a.p,0,none⟩))∧W.cell? ⟨a.x,12,none⟩=some (.int .i64 (now:Int))∧W.cell? ⟨NK,2,none⟩=some (.int .u32 ((i:Int)+1))∧W.cell? ⟨NC,2,none⟩=some (.int .i64 (s:Int))∧W.cell? ⟨NC,3,none⟩=some (.int .i64 (q:Int))∧True):=fun W h=>⟨by rw[aj (h.blk 0 rfl)];rfl,by rw[aj (h.blk 0 rfl)];rfl,(SF.out W m2 _ h).2.2.1,by rw[aj (h.blk 18 rfl)];rfl,by rw[aj (h.blk 18 rfl)];rfl,trivial⟩;have HG:=SG Uc.drew DV.out.drew;clear SG SF Rf BC C9 qw;refine ah.mk ?_;go_wp2_with fail
       refine aK (fun W=>W.cell? ⟨a.x,13,none⟩=some (.pointer (some ⟨a.p,0,none⟩))∧W.cell? ⟨a.x,12,none⟩=some (.int .i64 (now:Int))∧W.cell? ⟨NK,2,none⟩=some (.int .u32 ((i:Int)+1))∧W.cell? ⟨NC,2,none⟩=some (.int .i64 (s:Int))∧W.cell? ⟨NC,3,none⟩=some (.int .i64 (q:Int))∧True) 12 (by kernel_rfl) (by kernel_rfl) ?_;refine aZ 0 HG ?_;refine aZ 1 HG ?_;refine aZ 2 HG ?_;refine aZ 3 HG ?_;refine aZ 4 HG ?_;refine aZ 5 HG ?_;refine aZ 6 HG ?_;refine aZ 7 HG ?_;refine aZ 8 HG ?_;refine aZ 9 HG ?_;refine aZ 10 HG ?_;refine aZ 11 HG ?_;refine aQ (by kernel_rfl) ?_;simp only[List.drop_succ_cons,List.drop_zero];clear HG;go_wp2_with (go_at_call 143;refine ST.out.mono ?_;rintro e w12 ⟨rfl,h12⟩;have PI:=ah.mk h12;clear h12)
       first|go_ret|skip
       rw[←HQ.out];exact⟨true,_,m2,l,rfl,HM.out.1,(fun h=>Bool.noConfusion h),fun _=>⟨eP.out,i,j,s,HJ.out.1,HJ.out.2,hs7,by rw[←Zo.out];exact Zq.out.1,rfl⟩,Has.cut (CL a 4 now (js.set i { (j.go now s (ord j.s.size:Nat))with how:=3}) bk y m2++[mapA bm (Value.int .u32) l]++[]) M (Has.cut (CL a 4 now (js.set i { (j.go now s (ord j.s.size:Nat))with how:=3}) bk y m2++[mapA bm (Value.int .u32) l]++[aO (.slice (some ⟨gj,0,none⟩) js.length c1) js]) M (Has.cut (CL a 4 now (js.set i { (j.go now s (ord j.s.size:Nat))with how:=3}) bk y m2++[mapA bm (Value.int .u32) l]++[aO (.slice (some ⟨gj,0,none⟩) js.length c1) js,aT 218 3 dn (.slice (some ⟨gk,0,none⟩) n2 c2) ks]) M (Has.cut (CL a 4 now (js.set i { (j.go now s (ord j.s.size:Nat))with how:=3}) bk y m2++[mapA bm (Value.int .u32) l]++[aO (.slice (some ⟨gj,0,none⟩) js.length c1) js,aT 218 3 dn (.slice (some ⟨gk,0,none⟩) n2 c2) ks,aF NK (.cells (dn x).toArray 218)]) M (PI.out))))⟩
      ·have HG:=SF.out Uc.drew m2 (aF NC (.cells (gu ⟨ci,cr,(s:Int),(q:Int)⟩).toArray 203)::M) DV.out.drew;have RM:=ah.mk (BQ (M:=mapA bm (Value.int .u32) l::aO (.slice (some ⟨gj,0,none⟩) js.length c1) js::aT 218 3 dn (.slice (some ⟨gk,0,none⟩) n2 c2) ks::aF NK (.cells (dn x).toArray 218)::aF NC (.cells (gu ⟨ci,cr,(s:Int),(q:Int)⟩).toArray 203)::M) DV.out.drew eP.out (by omega) i);refine ah.mk ?_;go_wp2_with fail
       refine aK (fun W=>W.cell? ⟨a.x,15,none⟩=some (.slice (some ⟨a.mr,0,none⟩) 1 a.TI)∧W.cell? ⟨a.mr,0,none⟩=some (.pointer (some ⟨a.mb,0,none⟩))∧W.cell? ⟨NK,2,none⟩=some (.int .u32 ((i:Int)+1))∧True) 9 (by kernel_rfl) (by kernel_rfl) ?_;refine aZ 0 HG ?_;refine aZ 1 HG ?_;refine aZ 2 HG ?_;refine aZ 3 HG ?_;refine aZ 4 HG ?_;refine aZ 5 HG ?_;refine aZ 6 HG ?_;refine aZ 7 HG ?_;refine aZ 8 HG ?_;refine aQ (by kernel_rfl) ?_;simp only[List.drop_succ_cons,List.drop_zero];clear HG;go_wp2_with (go_at_call 70;refine RM.out.mono ?_;rintro e w12 ⟨r,m3,rfl,⟨OA,hlen3⟩,h12⟩;have PI:=ah.mk h12;have lX:ah (m3.ok N):=⟨⟨OA.cells,by have:=hlen3 Zq.out.2;have:=eP.out.few;omega,OA.N8,OA.N9⟩⟩;clear h12 OA hlen3;refine ah.out ?_)
       obtain⟨w13,hr13,h13⟩:=run_store (P:=Tryz.prog) (gJ .u32) PI.out 14 rfl 162 43 4 Tryz.underlying162 Tryz.underlying43 ((i:Int)+1) (.bool true);have H13:=ah.mk h13;have k2:w12.cell? ⟨NK,2,none⟩=some (.int .u32 ((i:Int)+1)):=(SF.out w12 m3 (aF NC (.cells (gu ⟨ci,cr,(s:Int),(q:Int)⟩).toArray 203)::M) PI.out).2.2.1;clear h13 RM SF C9 BC;refine ah.mk ?_;go_wp2_with fail
       go_roundw
       case rel=>exact⟨p+1,by go_num,by omega,⟨m3,store l ((i:Int)+1) (.bool true),wC HM.out.1 _ _,lX.out,Has.cut (CL a 4 now js bk y m3++[mapA bm (Value.int .u32) (store l ((i:Int)+1) (.bool true)),aO (.slice (some ⟨gj,0,none⟩) js.length c1) js,aT 218 3 dn (.slice (some ⟨gk,0,none⟩) n2 c2) ks]) M (Has.cut (CL a 4 now js bk y m3++[mapA bm (Value.int .u32) (store l ((i:Int)+1) (.bool true)),aO (.slice (some ⟨gj,0,none⟩) js.length c1) js,aT 218 3 dn (.slice (some ⟨gk,0,none⟩) n2 c2) ks]++[aF NK (.cells (dn x).toArray 218)]) M H13.out)⟩⟩
       case measure=>simp[intOf];omega
     ·have hz:(r != 0)=true:=by simpa using hr
      have e2:=HR.out.2.1 hr;subst e2;clear hr HR;go_wp2_with fail
      go_roundw
      case rel=>exact⟨p+1,by go_num,by omega,⟨m2,l,HM.out.1,HM.out.2,Has.cut (CL a 4 now js bk y m2++[mapA bm (Value.int .u32) l,aO (.slice (some ⟨gj,0,none⟩) js.length c1) js,aT 218 3 dn (.slice (some ⟨gk,0,none⟩) n2 c2) ks]) M (Has.cut (CL a 4 now js bk y m2++[mapA bm (Value.int .u32) l,aO (.slice (some ⟨gj,0,none⟩) js.length c1) js,aT 218 3 dn (.slice (some ⟨gk,0,none⟩) n2 c2) ks]++[aF NK (.cells (dn x).toArray 218)]) M H9.out)⟩⟩
      case measure=>simp[intOf];omega
   ·go_wp2_with (first|(refine aJ rfl 218 (.tmp 23) rfl gk (p*3) rfl (dn x).toArray _ RX.out Tryz.underlying218 rfl hk3 ?_)|(refine aB wr.heap.size rfl rfl 218 (.tmp 9) (.tmp 24) rfl (dn x).toArray rfl rfl 218 _ hk3 rfl (sZ x) ?_))
    go_roundw
    case rel=>exact⟨p+1,by go_num,by omega,⟨m,l,HM.out.1,HM.out.2,Has.first (M:=[_]) H4.out⟩⟩
    case measure=>simp[intOf];omega
  ·go_wp2_with fail
   first|go_ret|skip
   rw[←HQ.out];exact⟨false,js,m,l,rfl,HM.out.1,fun _=>⟨rfl,HM.out.2⟩,(fun h=>Bool.noConfusion h),Has.cut (CL a 4 now js bk y m++[mapA bm (Value.int .u32) l]) M (Has.cut (CL a 4 now js bk y m++[mapA bm (Value.int .u32) l,aO (.slice A1 js.length c1) js]) M H2.out)⟩
end
end
section
open Go.RowKit Go.ChangeMaps
section
variable {w:World}
set_option maxRecDepth 1000000 in
theorem KI (s:ByteArray)(i:Nat)(hi:i<s.size)(hz:s.size≤1000)(c:Nat)(hc:(s[i]'hi).toNat=c)(ha:c<128):Calls Tryz.prog 213 #[.string s,.int .i64 (i:Int)] w fun e w'=>e=.returned (.tuple #[.int .i64 (c:Int),.int .i64 1])∧w'=w:=by
 refine named fun R HQ=>?_;have h1:(c:Int)<128:=by omega
 have h4:wrap64 (c:Int)=c:=wrap_in (by omega) (by omega);have h5:¬(i:Int)<0:=by omega
 have h6:(i:Int)<s.size:=by omega
 clear ha;go_enter Tryz.func213,Tryz.ntmps213;go_wp2_with fail
 first|go_ret2|go_ret|skip
 rw[←HQ.out];exact⟨rfl,rfl⟩
set_option maxRecDepth 1000000 in
theorem GZ (s:ByteArray)(hs:small s):Calls Tryz.prog 151 #[.string s] w fun e w'=>e=.returned (.bool true)∧w'=w:=by
 refine named fun R HQ=>?_;have HA:=ah.mk hs;have hsz:s.size≤32:=hs.2.2;have hs1:1≤s.size:=hs.2.1;have s1:(1:Int)≤s.size:=by omega
 have s2:(s.size:Int)≤32:=by omega
 clear hs;go_enter Tryz.func151,Tryz.ntmps151;go_wp2_with fail
 go_loopg [3,4] s.size (fun g v3 v4 wx=>∃i:Nat,i+g=s.size∧v3=.int .i64 (i:Int)∧v4=.int .i64 (i:Int)∧wx=w)
 case atStart=>exact⟨0,by omega,rfl,rfl,rfl⟩
 case round =>
  obtain⟨i,hig,rfl,rfl,rfl⟩:=hrel;cases gk with
  |zero =>
   obtain rfl:i=s.size:=by omega
   go_wp2_with fail
   first|go_ret2|go_ret|skip
   rw[←HQ.out];exact⟨by simp,rfl⟩
  |succ g =>
   have hi:i<s.size:=by omega
   have hlt:(i:Int)<s.size:=by omega
   have hb:=HA.out.1 i _ (Lib.data_getElem? s i hi);obtain⟨c,hc⟩:∃c:Nat,c=(s[i]'hi).toNat:=⟨_,rfl⟩;have RC:=ah.mk (KI (w:=wr) s i hi (by omega) c hc.symm (by omega));rw[←hc]at hb;have h1:(48:Int)≤c:=by omega
   have h2:¬(c:Int)≤57:=by omega
   have h3:(65:Int)≤c:=by omega
   have h4:¬(c:Int)≤90:=by omega
   have h5:(97:Int)≤c:=by omega
   have h6:(c:Int)≤122:=by omega
   have w1:wrap64 ((i:Int)+1)=(i:Int)+1:=wrap_in (by omega) (by omega);clear hb hc;go_wp2_with (go_at_call 213;refine RC.out.mono ?_;rintro e w' ⟨rfl,hw⟩;obtain rfl:=hw.symm;clear hw)
   go_roundg g
   case measure=>omega
   case rel=>exact⟨i+1,by omega,rfl,rfl,rfl⟩
end
end
section
open Go.RowKit Go.ChangeMaps
section
variable {w:World}
set_option maxRecDepth 1000000 in
theorem KJ:Calls Tryz.prog 152 #[.agg #[.bool false,.slice none 0 0]] w fun e w'=>e=.returned (.int .i64 0)∧Below w.heap.size w w':=by
 refine named fun R HQ=>?_;go_enter Tryz.func152,Tryz.ntmps152;go_wp2_with fail
 refine wp_loop_rounds 1 ?_;rw[rounds_succ];go_wp2_with fail
 first|go_ret2|go_ret|skip
 rw[←HQ.out];exact⟨rfl,au (Below.refl _ _) _⟩
set_option maxRecDepth 1000000 in
theorem KN:Calls Tryz.prog 153 #[.agg #[.slice none 0 0,.int .i64 0]] w fun e w'=>e=.returned (.int .i64 2)∧Below w.heap.size w w':=by
 refine named fun R HQ=>?_;go_enter Tryz.func153,Tryz.ntmps153;go_wp2_with fail
 first|go_ret2|go_ret|skip
 rw[←HQ.out];exact⟨rfl,au (Below.refl _ _) _⟩
end
end
section
open Go.RowKit Go.ChangeMaps
section
variable {w:World}
set_option maxRecDepth 1000000 in
theorem DZ (s:Spec)(h0:small jT)(ha:small s.account)(hm:small aP)(hq:small s.qos)(h1:1≤s.size)(h2:s.size≤8)(h3:1≤s.limit)(h4:s.limit≤20):Calls Tryz.prog 90 #[.agg s.cells] w fun e w'=>e=.returned (.int .i64 0)∧Below w.heap.size w w':=by
 refine named fun R HQ=>?_;obtain⟨a,q,sz,lim,rq⟩:=s;simp only at ha hq h1 h2 h3 h4;have NC:=ah.mk fun(W:World) (t:ByteArray) (ht:small t)=>GZ (w:=W) t ht;have HS:=ah.mk (And.intro h0 (And.intro ha (And.intro hm hq)));have e1:¬(sz:Int)<1:=by omega
 have e2:¬(1024:Int)<sz:=by omega
 have e3:¬(lim:Int)<1:=by omega
 have e4:¬(1073741824:Int)<lim:=by omega
 have DC:=ah.mk fun W=>KJ (w:=W);have AC:=ah.mk fun W=>KN (w:=W);have C0:ah (∀W,Below (w.alloc (.cells (Spec.cells ⟨a,q,sz,lim,rq⟩) 51)).heap.size (w.alloc (.cells (Spec.cells ⟨a,q,sz,lim,rq⟩) 51)) W→W.cell? ⟨w.heap.size,4,none⟩=some (.int .i64 sz)∧W.cell? ⟨w.heap.size,5,none⟩=some (.int .i64 lim)∧W.cell? ⟨w.heap.size,6,none⟩=some (.slice none 0 0)∧W.cell? ⟨w.heap.size,7,none⟩=some (.int .i64 0)∧W.cell? ⟨w.heap.size,10,none⟩=some (.int .i64 0)∧W.cell? ⟨w.heap.size,11,none⟩=some (.int .i64 0)∧W.cell? ⟨w.heap.size,14,none⟩=some (.string bY)):=⟨fun W h=>by
  refine⟨?_,?_,?_,?_,?_,?_,?_⟩;all_goals exact ak h (by rw[aj (heap_alloc_new w _)];rfl)⟩
 have BW:=ah.mk (au (Below.refl w.heap.size w) (.cells (Spec.cells ⟨a,q,sz,lim,rq⟩) 51));unfold Spec.cells bY at *;clear h0 ha hm hq h1 h2 h3 h4;go_enter Tryz.func90,Tryz.ntmps90;go_wp2_with (go_at_call 151;refine(NC.out _ _ HS.out.1).mono ?_;rintro e w' ⟨rfl,hw⟩;obtain rfl:=hw.symm;clear hw;refine ah.out ?_)
 refine ah.mk ?_;go_wp2_with (go_at_call 151;refine(NC.out _ _ HS.out.2.1).mono ?_;rintro e w' ⟨rfl,hw⟩;obtain rfl:=hw.symm;clear hw;refine ah.out ?_)
 refine ah.mk ?_;go_wp2_with (go_at_call 151;refine(NC.out _ _ HS.out.2.2.1).mono ?_;rintro e w' ⟨rfl,hw⟩;obtain rfl:=hw.symm;clear hw;refine ah.out ?_)
 refine ah.mk ?_;go_wp2_with (go_at_call 151;refine(NC.out _ _ HS.out.2.2.2).mono ?_;rintro e w' ⟨rfl,hw⟩;obtain rfl:=hw.symm;clear hw;refine ah.out ?_)
 refine ah.mk ?_;clear NC HS;go_wp2_with (go_at_call 152;refine(DC.out _).mono ?_;rintro e w2 ⟨rfl,hb⟩;obtain⟨c1,c2,c3,c4,c5,c6,c7⟩:=C0.out _ hb;have H2:=ah.mk hb;clear hb;refine ah.out ?_)
 refine ah.mk ?_;go_wp2_with (go_at_call 153;refine(AC.out _).mono ?_;rintro e w3 ⟨rfl,hb⟩;have B3:=ay H2.out H2.out.size hb;obtain⟨d1,d2,d3,d4,d5,d6,d7⟩:=C0.out _ B3;have H3:=ah.mk (ay BW.out (by simp) B3:Below w.heap.size w w3);clear hb B3;refine ah.out ?_)
 clear c1 c2 c3 c4 c5 c6 c7 AC DC C0;refine ah.mk ?_;go_wp2_with fail
 first|go_ret2|go_ret|skip
 rw[←HQ.out];exact⟨rfl,H3.out⟩
end
end
end Go.Proofs.YtandhagfhppgaaaGreatDoor
