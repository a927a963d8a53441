/- Part 38 of a proof: contracts of the functions that the law reaches. No condition. -/
import Derived.Test.YtandhagfhppgaaaGreatDoorG12
import Derived.Test.YtandhagfhppgaaaGreatDoorG14
import Derived.Test.YtandhagfhppgaaaGreatDoorG22
import Derived.Test.YtandhagfhppgaaaGreatDoorG23
import Derived.Test.YtandhagfhppgaaaGreatDoorG24
import Derived.Test.YtandhagfhppgaaaGreatDoorG25
import Derived.Test.YtandhagfhppgaaaGreatDoorG27
import Derived.Test.YtandhagfhppgaaaGreatDoorG28
import Derived.Test.YtandhagfhppgaaaGreatDoorG29
set_option linter.all false
set_option maxRecDepth 100000
set_option maxHeartbeats 16000000
namespace Go.Proofs.YtandhagfhppgaaaGreatDoor
section
open Go.RowKit
section
variable {w0 w:World}{M:List bV}{y:Yd}{b N F:Nat}
theorem uf (H:Has w0 w (y.star b++M))(ok:y.ok N F)(hN:N≤800000)(s q:Nat)(hs:s≤7)(hq:q≤3)(ha:s%2^q=0) :
 Calls Tryz.prog 146 #[.pointer (some ⟨b,0,none⟩),.agg #[.int .i64 (s:Int),.int .i64 (q:Int)]] w fun e w'=>∃r:Int,e=.returned (.int .i64 r)∧∃y':Yd,y'.ok (N+4) F∧y'.failed=y.failed∧Has w0 w' (y'.star b++M):=by
 refine named fun R HQ=>?_;have H1:ah (Has w0 (w.alloc (.cells #[.int .i64 (s:Int),.int .i64 (q:Int)] 53)) (y.star b++(M++[aF w.heap.size (.cells #[.int .i64 (s:Int),.int .i64 (q:Int)] 53)]))):=⟨by rw[←List.append_assoc];exact H.bg _⟩;have OK:=ah.mk ok;have HA:=ah.mk ha;obtain⟨z,hz⟩:∃z:Nat,z=2^q:=⟨_,rfl⟩;have bz:=fP hq;have SZ:=ah.mk fun W=>iJ q hq W;have S3:ah (∀W,Calls Tryz.prog 130 #[.int .i64 3] W fun e w'=>e=.returned (.int .i64 8)∧w'=W):=⟨fun W=>iJ 3 (by decide) W⟩;rw[←hz]at SZ bz ha;have d3:Int.tmod (s:Int) (z:Int)=0:=by
  rw[Int.tmod_eq_emod_of_nonneg (by omega)];exact_mod_cast ha
 have hz0:¬(z:Int)=0:=by omega
 have p1:decide ((q:Int)<0)=false:=decide_eq_false (by omega);have p2:decide ((3:Int)<q)=false:=decide_eq_false (by omega);have p3:decide ((s:Int)<0)=false:=decide_eq_false (by omega);have p4:decide ((8:Int)≤s)=false:=decide_eq_false (by omega);obtain⟨NB,jH⟩:∃NB,NB=w.heap.size:=⟨_,rfl⟩;obtain⟨V,hV⟩:∃V,V=w.alloc (.cells #[.int .i64 (s:Int),.int .i64 (q:Int)] 53):=⟨_,rfl⟩;have VX:=ah.mk (And.intro jH hV);clear H ok ha hz bz jH hV;go_enter Tryz.func146,Tryz.ntmps146;go_wp2_with fail
 rw[←VX.out.2,←VX.out.1]at H1 ⊢;clear VX;have b0:V.cell? ⟨NB,0,none⟩=some (.int .i64 (s:Int)):=by rw[aj (H1.out.blk (14+M.length) (aH (aU _ _) OK.out.len))];rfl
 have b1:V.cell? ⟨NB,1,none⟩=some (.int .i64 (q:Int)):=by rw[aj (H1.out.blk (14+M.length) (aH (aU _ _) OK.out.len))];rfl
 have y0:V.cell? ⟨b,0,none⟩=some (.int .i64 3):=by rw[aj (H1.out.blk 0 bC)];rfl
 go_quiet (first|(go_at_call 130;exact Calls.quiet_of_same (S3.out _))|(go_at_call 130;exact Calls.quiet_of_same (SZ.out _)))
 have H2:=ah.mk (H1.out.drewN nq);have AR:=ah.mk (tZ H2.out OK.out (by omega) s q hs hq);go_wp2_with (go_at_call 128;refine AR.out.mono ?_;rintro e w3 ⟨p,o,f,rfl,hf,h3⟩;have H3:=ah.mk (H2.out.below h3);have HF:=ah.mk hf;have B3:=ah.mk h3;clear h3 hf;refine ah.out ?_)
 clear b0 b1 y0 AR d3 hz0 p1 p2 p3 p4 SZ S3;have H4:ah (Has w0 (w3.alloc (.cells #[.int .i64 (p:Int),.int .i64 (o:Int)] 53)) (y.star b++(M++[aF NB (.cells #[.int .i64 (s:Int),.int .i64 (q:Int)] 53)]++[aF w3.heap.size (.cells #[.int .i64 (p:Int),.int .i64 (o:Int)] 53)]))):=⟨by
  have h:=H3.out.bg (.cells #[.int .i64 (p:Int),.int .i64 (o:Int)] 53);rw[List.append_assoc]at h;exact h⟩
 refine ah.mk ?_;go_wp2_with (refine aB w3.heap.size rfl rfl 53 (.tmp 5) (.tmp 51) rfl #[.int .i64 (p:Int),.int .i64 (o:Int)] rfl rfl 53 _ (kC _ _) rfl (by simp[Value.oneCell']) ?_;refine ah.out ?_)
 obtain⟨NC,Bg⟩:∃NC,NC=w3.heap.size:=⟨_,rfl⟩;obtain⟨W4,U5⟩:∃W4,W4=w3.alloc (.cells #[.int .i64 (p:Int),.int .i64 (o:Int)] 53):=⟨_,rfl⟩;rw[←U5,←Bg]at H4;rw[←U5,←Bg];clear U5 Bg;cases f
 ·refine ah.mk ?_;go_wp2_with fail
  first|go_ret|skip
  rw[←HQ.out];refine⟨_,rfl,y,OK.out.mono (by omega) (Nat.le_refl _),rfl,?_⟩;exact Has.first (M:=[_,_]) (by simpa[List.append_assoc]using H4.out)
 ·obtain⟨hqo,ho3,hpo,v,l,hfr,hbs⟩:=HF.out rfl;have SP:=ah.mk (vZ H4.out OK.out (by omega) s q p o hs hqo ho3 hpo HA.out hfr hbs);have b0:W4.cell? ⟨NB,0,none⟩=some (.int .i64 (s:Int)):=by rw[aj (H4.out.blk (14+M.length) (aH (gZ _ _ _) OK.out.len))];rfl
  have b1:W4.cell? ⟨NB,1,none⟩=some (.int .i64 (q:Int)):=by rw[aj (H4.out.blk (14+M.length) (aH (gZ _ _ _) OK.out.len))];rfl
  have c0:W4.cell? ⟨NC,0,none⟩=some (.int .i64 (p:Int)):=by rw[aj (H4.out.blk (14+(M.length+1)) (aH (kE _ _ _) OK.out.len))];rfl
  have c1:W4.cell? ⟨NC,1,none⟩=some (.int .i64 (o:Int)):=by rw[aj (H4.out.blk (14+(M.length+1)) (aH (kE _ _ _) OK.out.len))];rfl
  clear hqo hpo hfr hbs HF;refine ah.mk ?_;go_wp2_with (go_at_call 129;refine SP.out.mono ?_;rintro e w5 ⟨rfl,y2,ok2,hsm,h5⟩;have H5:=ah.mk h5;have eP:=ah.mk (And.intro ok2 hsm);clear h5 ok2 hsm;refine ah.out ?_)
  clear b0 b1 c0 c1 SP;have HO:=ah.mk (Gp H5.out eP.out.1 (by omega) s q hs hq HA.out);have b0:w5.cell? ⟨NB,0,none⟩=some (.int .i64 (s:Int)):=by rw[aj (H5.out.blk (14+M.length) (aH (gZ _ _ _) eP.out.1.len))];rfl
  have b1:w5.cell? ⟨NB,1,none⟩=some (.int .i64 (q:Int)):=by rw[aj (H5.out.blk (14+M.length) (aH (gZ _ _ _) eP.out.1.len))];rfl
  refine ah.mk ?_;go_wp2_with (go_at_call 209;refine HO.out.mono ?_;rintro e w6 ⟨rfl,y3,OA,hsm,h6⟩;have H6:=ah.mk h6;have lX:=ah.mk (And.intro OA hsm);clear h6 OA hsm)
  first|go_ret|skip
  rw[←HQ.out];refine⟨_,rfl,y3,lX.out.1,lX.out.2.trans eP.out.2.2,?_⟩;exact Has.first (M:=[_,_]) (by simpa[List.append_assoc]using H6.out)
end
section
variable {w0:World}{b F:Nat}
theorem VY (s q:Nat)(hs:s≤7)(hq:q+1≤3)(ha:s%2^(q+1)=0):s%2^q=0∧s+2^q≤7∧(s+2^q)%2^q=0:=by
 rcases(by omega:q=0∨q=1∨q=2)with rfl|rfl|rfl<;>rcases(by omega:s=0∨s=1∨s=2∨s=3∨s=4∨s=5∨s=6∨s=7)with rfl|rfl|rfl|rfl|rfl|rfl|rfl|rfl<;>first|decide|(exfalso;revert ha;decide)
theorem JG (q:Nat):∀ {w:World} {M:List bV} {y:Yd} {N:Nat} (s:Nat),q≤3→Has w0 w (y.star b++M)→y.ok N F→N+2^q≤800000→F≤100000→s≤7→s%2^q=0 →
 Calls Tryz.prog 124 #[.pointer (some ⟨b,0,none⟩),.agg #[.int .i64 (s:Int),.int .i64 (q:Int)]] w fun e w'=>e=.returned (.tuple #[])∧∃y':Yd,y'.ok (N+2^q) F∧y'.same y∧Has w0 w' (y'.star b++M):=by
 induction q with
 |zero =>
  intro w M y N s hq H ok hN XG hs ha;refine named fun R HQ=>?_;have H1:ah (Has w0 (w.alloc (.cells #[.int .i64 (s:Int),.int .i64 0] 53)) (y.star b++(M++[aF w.heap.size (.cells #[.int .i64 (s:Int),.int .i64 0] 53)]))):=⟨by rw[←List.append_assoc];exact H.bg _⟩;have OK:=ah.mk ok;have HA:=ah.mk ha;obtain⟨A,c,qL⟩:=fB H1.out 2 gB;obtain⟨n,hn⟩:∃n,n=y.failed.length:=⟨_,rfl⟩;rw[←hn]at qL;have TV:=ah.mk qL;have jF:ah (n=y.failed.length∧n≤F):=⟨hn,by rw[hn];exact ok.xX⟩;have b0:(w.alloc (.cells #[.int .i64 (s:Int),.int .i64 0] 53)).cell? ⟨w.heap.size,0,none⟩=some (.int .i64 (s:Int)):=by rw[aj (H1.out.blk (14+M.length) (aH (aU _ _) OK.out.len))];rfl
  have b1:(w.alloc (.cells #[.int .i64 (s:Int),.int .i64 0] 53)).cell? ⟨w.heap.size,1,none⟩=some (.int .i64 0):=by rw[aj (H1.out.blk (14+M.length) (aH (aU _ _) OK.out.len))];rfl
  have y1:(w.alloc (.cells #[.int .i64 (s:Int),.int .i64 0] 53)).cell? ⟨b,13,none⟩=some (.slice A n c):=by rw[aj (H1.out.blk 0 bC),Yd.jw OK.out.len,TV.out]
  have CO:=ah.mk (Gi (g:=w.heap.size) (bI H1.out 2 (by rw[←TV.out];exact gB) bH) (by have:=jF.out;omega) fun x W hb=>Gh s 0 x hs (by omega) (ak hb b0) (ak hb b1));clear H ok ha qL hn;go_enter Tryz.func124,Tryz.ntmps124;go_wp2_with (go_at_call 141;refine CO.out.mono ?_;rintro e w3 ⟨bb,rfl,h3⟩;have H3:=ah.mk (H1.out.below h3);clear h3;refine ah.out ?_)
  obtain⟨NB,jH⟩:∃NB,NB=w.heap.size:=⟨_,rfl⟩;rw[←jH]at H3 ⊢;clear jH;clear b0 b1 y1 CO;have b0:w3.cell? ⟨NB,0,none⟩=some (.int .i64 (s:Int)):=by rw[aj (H3.out.blk (14+M.length) (aH (aU _ _) OK.out.len))];rfl
  have b1:w3.cell? ⟨NB,1,none⟩=some (.int .i64 0):=by rw[aj (H3.out.blk (14+M.length) (aH (aU _ _) OK.out.len))];rfl
  have y1:w3.cell? ⟨b,13,none⟩=some (.slice A n c):=by rw[aj (H3.out.blk 0 bC),Yd.jw OK.out.len,TV.out]
  cases bb
  ·have LA:=ah.mk (show Calls Tryz.prog 79 #[.pointer (some ⟨b,0,none⟩),.agg #[.int .i64 (s:Int),.int .i64 0]] w3 _ from uX H3.out OK.out (by omega) s 0 hs (by omega) HA.out);refine ah.mk ?_;go_wp2_with (go_at_call 79;refine LA.out.mono ?_;rintro e w5 ⟨rfl,y2,ok2,hsm,h5⟩;have H5:=ah.mk h5;have eP:=ah.mk (And.intro ok2 hsm);clear h5 ok2 hsm)
   first|go_end0|skip
   rw[←HQ.out];exact⟨rfl,y2,eP.out.1,eP.out.2,Has.first (M:=[_]) (by rw[List.append_assoc];exact H5.out)⟩
  ·refine ah.mk ?_;go_wp2_with fail
   first|go_end0|skip
   rw[←HQ.out];exact⟨rfl,y,OK.out.mono (by omega) (Nat.le_refl _),Yd.same.refl _,Has.first (M:=[_]) (by rw[List.append_assoc];exact H3.out)⟩
 |succ q ih =>
  intro w M y N s hq H ok hN XG hs ha;refine named fun R HQ=>?_;have H1:ah (Has w0 (w.alloc (.cells #[.int .i64 (s:Int),.int .i64 ((q:Int)+1)] 53)) (y.star b++(M++[aF w.heap.size (.cells #[.int .i64 (s:Int),.int .i64 ((q:Int)+1)] 53)]))):=⟨by rw[←List.append_assoc];exact H.bg _⟩;have OK:=ah.mk ok;have HA:=ah.mk ha;obtain⟨A,c,qL⟩:=fB H1.out 2 gB;obtain⟨n,hn⟩:∃n,n=y.failed.length:=⟨_,rfl⟩;rw[←hn]at qL;have TV:=ah.mk qL;have jF:ah (n=y.failed.length∧n≤F):=⟨hn,by rw[hn];exact ok.xX⟩;have b0:(w.alloc (.cells #[.int .i64 (s:Int),.int .i64 ((q:Int)+1)] 53)).cell? ⟨w.heap.size,0,none⟩=some (.int .i64 (s:Int)):=by rw[aj (H1.out.blk (14+M.length) (aH (aU _ _) OK.out.len))];rfl
  have b1:(w.alloc (.cells #[.int .i64 (s:Int),.int .i64 ((q:Int)+1)] 53)).cell? ⟨w.heap.size,1,none⟩=some (.int .i64 ((q:Int)+1)):=by rw[aj (H1.out.blk (14+M.length) (aH (aU _ _) OK.out.len))];rfl
  have y1:(w.alloc (.cells #[.int .i64 (s:Int),.int .i64 ((q:Int)+1)] 53)).cell? ⟨b,13,none⟩=some (.slice A n c):=by rw[aj (H1.out.blk 0 bC),Yd.jw OK.out.len,TV.out]
  have CO:=ah.mk (Gi (g:=w.heap.size) (bI H1.out 2 (by rw[←TV.out];exact gB) bH) (by have:=jF.out;omega) fun x W hb=>Gh s (q+1) x hs (by omega) (ak hb b0) (ak hb b1));clear H ok ha qL hn;go_enter Tryz.func124,Tryz.ntmps124;go_wp2_with (go_at_call 141;refine CO.out.mono ?_;rintro e w3 ⟨bb,rfl,h3⟩;have H3:=ah.mk (H1.out.below h3);clear h3;refine ah.out ?_)
  obtain⟨NB,jH⟩:∃NB,NB=w.heap.size:=⟨_,rfl⟩;rw[←jH]at H3 ⊢;clear jH;clear b0 b1 y1 CO;have b0:w3.cell? ⟨NB,0,none⟩=some (.int .i64 (s:Int)):=by rw[aj (H3.out.blk (14+M.length) (aH (aU _ _) OK.out.len))];rfl
  have b1:w3.cell? ⟨NB,1,none⟩=some (.int .i64 ((q:Int)+1)):=by rw[aj (H3.out.blk (14+M.length) (aH (aU _ _) OK.out.len))];rfl
  have y1:w3.cell? ⟨b,13,none⟩=some (.slice A n c):=by rw[aj (H3.out.blk 0 bC),Yd.jw OK.out.len,TV.out]
  cases bb
  ·have LA:=ah.mk (show Calls Tryz.prog 79 #[.pointer (some ⟨b,0,none⟩),.agg #[.int .i64 (s:Int),.int .i64 ((q:Int)+1)]] w3 _ from uX H3.out OK.out (Nat.le_trans (Nat.le_add_right N (2^(q+1))) (by omega)) s (q+1) hs hq HA.out);refine ah.mk ?_;go_wp2_with (go_at_call 79;refine LA.out.mono ?_;rintro e w5 ⟨rfl,y2,ok2,hsm,h5⟩;have H5:=ah.mk h5;have eP:=ah.mk (And.intro ok2 hsm);clear h5 ok2 hsm)
   first|go_end0|skip
   rw[←HQ.out];exact⟨rfl,y2,eP.out.1.mono (by have:=Nat.one_le_two_pow (n:=q+1);omega) (Nat.le_refl _),eP.out.2,Has.first (M:=[_]) (by rw[List.append_assoc];exact H5.out)⟩
  ·have hqz:(((q:Int)+1)==0)=false:=by simp;omega
   have hqz2:¬(((q:Nat):Int)+1=0):=by omega
   have f1:w3.frozen? ⟨NB,1,none⟩=false:=aI (H3.out.blk (14+M.length) (aH (aU _ _) OK.out.len)) _;have H4:ah (Has w0 (w3.setCell ⟨NB,1,none⟩ (.int .i64 (q:Int))) (y.star b++(M++[aF NB (.cells #[.int .i64 (s:Int),.int .i64 (q:Int)] 53)]))):=⟨by
    have h:=H3.out.put (14+M.length) (aH (aU _ _) OK.out.len) 1 (.int .i64 (q:Int)) #[.int .i64 (s:Int),.int .i64 (q:Int)] rfl;rw[ql OK.out.len]at h;simpa using h⟩
   obtain⟨h1,h2,h3⟩:=VY s q hs hq HA.out;have HH:=ah.mk (And.intro h1 (And.intro h2 h3));have Y9:=ah.mk (ih s (by omega) H4.out OK.out (by rw[Nat.pow_succ]at hN;omega) XG hs h1);have e0:(w3.setCell ⟨NB,1,none⟩ (.int .i64 (q:Int))).cell? ⟨NB,0,none⟩=some (.int .i64 (s:Int)):=by rw[aj (H4.out.blk (14+M.length) (aH (aU _ _) OK.out.len))];rfl
   have e1:(w3.setCell ⟨NB,1,none⟩ (.int .i64 (q:Int))).cell? ⟨NB,1,none⟩=some (.int .i64 (q:Int)):=by rw[aj (H4.out.blk (14+M.length) (aH (aU _ _) OK.out.len))];rfl
   clear h1 h3;refine ah.mk ?_;go_wp2_with (go_at_call 124;have _t:=Y9.out;clear _t;refine Y9.out.mono ?_;rintro e w5 ⟨rfl,y2,ok2,hsm,h5⟩;have H5:=ah.mk h5;have eP:=ah.mk (And.intro ok2 hsm);clear h5 ok2 hsm Y9;refine ah.out ?_)
   clear e0 e1 f1 b0 b1 y1 H4;obtain⟨z,hz⟩:∃z:Nat,z=2^q:=⟨_,rfl⟩;obtain⟨hf,VW⟩:∃hf:Nat,hf=s+z:=⟨_,rfl⟩;have SZ:=ah.mk fun W=>iJ q (by omega) W;rw[←hz]at SZ;have HB2:ah (hf≤7∧hf%2^q=0):=⟨by rw[VW,hz];exact⟨HH.out.2.1,HH.out.2.2⟩⟩;have WZ:ah (IntKind.i64.wrap ((s:Int)+(z:Int))=(hf:Int)):=⟨by rw[IntKind.wrap_i64,VW];have:=HH.out.2.1;omega⟩;have hp3:2^q≤4:=by rcases(by omega:q=0∨q=1∨q=2)with rfl|rfl|rfl<;>decide
   have HP:=ah.mk hp3;clear hz VW h2 hp3;refine ah.mk ?_;go_wp2_with fail
   obtain⟨Kp,fC⟩:∃Kp:Nat→Prop,Kp=fun k=>k=NB:=⟨_,rfl⟩;have KB:ah (w5.heap[NB]?=some (.cells #[.int .i64 (s:Int),.int .i64 (q:Int)] 53)):=⟨H5.out.blk (14+M.length) (aH (aU _ _) eP.out.1.len)⟩;have kn:Kp NB:=by rw[fC]
   have b0:∀g:KW w5 Kp,g.W.cell? ⟨NB,0,none⟩=some (.int .i64 (s:Int)):=fun g=>g.cell kn (by rw[aj KB.out];rfl);have b1:∀g:KW w5 Kp,g.W.cell? ⟨NB,1,none⟩=some (.int .i64 (q:Int)):=fun g=>g.cell kn (by rw[aj KB.out];rfl);clear fC;have IH2:=ah.mk (ih hf (by omega) H5.out.drew eP.out.1 (by rw[Nat.pow_succ]at hN;omega) XG HB2.out.1 HB2.out.2);have wz:=WZ.out;refine aK (fun W=>∃g:KW w5 Kp,W=g.W) 10 (by kernel_rfl) (by kernel_rfl) ?_;have HB0:ah (∀k,Kp k→w5.drew.heap[k]?=w5.heap[k]?):=⟨fun _ _=>rfl⟩;have HG:∃g:KW w5 Kp,w5.drew=g.W:=⟨⟨_,HB0.out⟩,rfl⟩;refine tk 0 HG ?_;refine tk 1 HG ?_;refine tk 2 HG ?_;refine tk 3 HG ?_;refine tk 4 HG ?_;refine tk 7 HG ?_;refine tk 8 HG ?_;refine aS (k:=5) rfl (by kernel_rfl) (by kernel_rfl) (fun KK gG=>?_);rw[if_pos (by rfl)];go_simp;go_at_call 130;refine(SZ.out _).mono ?_;rintro e w6 ⟨rfl,hw⟩;have hk':∀k,Kp k→w6.heap[k]?=w5.heap[k]?:=fun k hk=>by rw[hw];rfl
   have YS:=ah.mk hw;clear hw;refine gG _ _ ⟨⟨_,hk'⟩,rfl⟩ ?_;have HB1:=ah.mk hk';clear gG KK HG;have HG:∃g:KW w5 Kp,w6=g.W:=⟨⟨_,HB1.out⟩,rfl⟩;clear hk';try simp only[Act.put,List.setIfInBounds_toArray,List.set_cons_zero,List.set_cons_succ]
   refine tk 6 HG ?_;refine tk 9 HG ?_;refine aQ (by kernel_rfl) ?_;simp only[List.drop_succ_cons,List.drop_zero];rw[YS.out];go_wp2_with (go_at_call 124;refine IH2.out.mono ?_;rintro e w7 ⟨rfl,y3,OA,hsm,h7⟩;have H7:=ah.mk h7;have lX:=ah.mk (And.intro OA hsm);clear h7 OA hsm)
   first|go_end0|skip
   rw[←HQ.out];exact⟨rfl,y3,lX.out.1.mono (by rw[Nat.pow_succ];omega) (Nat.le_refl _),lX.out.2.trans eP.out.2,Has.first (M:=[_]) (by rw[List.append_assoc];exact H7.out)⟩
end
section
variable {w0 w:World}{M:List bV}{y:Yd}{b N F:Nat}
theorem JH (H:Has w0 w (y.star b++M))(ok:y.ok N F)(hN:N≤700000)(XG:F≤100000)(x:Int) :
 Calls Tryz.prog 71 #[.pointer (some ⟨b,0,none⟩),.int .i64 x] w fun e w'=>∃r:Int,e=.returned (.int .i64 r)∧∃y':Yd,y'.ok (N+8) F∧y'.failed=y.failed∧Has w0 w' (y'.star b++M):=by
 refine named fun R HQ=>?_;have OK:=ah.mk ok;have H1:=ah.mk H;obtain⟨A,c,qL⟩:=fB H1.out 1 jK;obtain⟨n,hn⟩:∃n,n=y.taken.length:=⟨_,rfl⟩;rw[←hn]at qL;have TV:=ah.mk qL;have jF:ah (n=y.taken.length∧n≤N):=⟨hn,by rw[hn];exact ok.N7⟩;have Za:n≤1000000:=by have:=jF.out;omega
 clear H ok qL hn;have y1:w.cell? ⟨b,12,none⟩=some (.slice A n c):=by rw[aj (H1.out.blk 0 bC),Yd.nZ OK.out.len,TV.out]
 have TK:ah ((y.star b++M)[1]?=some (aT 53 2 pX (.slice A n c) y.taken)):=⟨by rw[←TV.out];exact jK⟩;have BS:=ah.mk (Bh (w:=w) x (bI H1.out 1 TK.out mO) (by have:=jF.out;omega));go_enter Tryz.func71,Tryz.ntmps71;go_wp2_with (go_at_call 121;refine BS.out.mono ?_;rintro e w3 ⟨i,bb,rfl,hi,h3⟩;have H3:=ah.mk (H1.out.below h3);have HI:=ah.mk hi;clear h3 hi;refine ah.out ?_)
 clear y1 BS;cases bb
 ·refine ah.mk ?_;go_wp2_with fail
  first|go_ret|skip
  rw[←HQ.out];exact⟨_,rfl,y,OK.out.mono (by omega) (Nat.le_refl _),rfl,H3.out⟩
 ·have hin:i<n:=HI.out.2 rfl;obtain⟨t,ht⟩:∃t,y.taken[i]?=some t:=⟨_,List.getElem?_eq_getElem (by rw[←jF.out.1];exact hin)⟩;obtain⟨s,q,e1,e2,hs,hq,ha⟩:=OK.out.taken t (List.mem_of_getElem? ht);have HA:=ah.mk ha;have TK3:ah ((y.star b++M)[1]?=some (aT 53 2 pX (.slice A n c) y.taken)):=TK;obtain⟨g,hA,gQ⟩:=(bI H3.out 1 TK3.out mO).get i t ht;have c0:w3.cell? ⟨g,i*2,none⟩=some (.int .i64 (s:Int)):=by have:=gQ 0 _ rfl;rw[←e1];simpa using this
  have c1:w3.cell? ⟨g,i*2+1,none⟩=some (.int .i64 (q:Int)):=by have:=gQ 1 _ rfl;rw[←e2];exact this
  have hin':(i:Int)<n:=by omega
  have DL:=ah.mk (Y4 ((H3.out.bg (.cells #[.int .i64 (s:Int),.int .i64 (q:Int)] 53))) 1 (by rw[List.getElem?_append_left (by rw[QJ];omega)];exact TK3.out) jF.out.1 i hin);subst hA;have y1:w3.cell? ⟨b,12,none⟩=some (.slice (some ⟨g,0,none⟩) n c):=by rw[aj (H3.out.blk 0 bC),Yd.nZ OK.out.len,TV.out]
  have y2:(w3.alloc (.cells #[.int .i64 (s:Int),.int .i64 (q:Int)] 53)).cell? ⟨b,12,none⟩=some (.slice (some ⟨g,0,none⟩) n c):=ak (au (Below.refl _ _) _) y1;clear ht e1 e2 ha gQ;refine ah.mk ?_;go_wp2_with (first|(go_at_call 123;refine DL.out.mono ?_;rintro e w5 ⟨rfl,h5⟩;have H5:=ah.mk h5;clear h5;refine ah.out ?_)|(refine aB w3.heap.size rfl rfl 53 (.tmp 7) (.tmp 27) rfl #[.int .i64 (s:Int),.int .i64 (q:Int)] rfl rfl 53 _ (kC _ _) rfl (by simp[Value.oneCell']) ?_))
  obtain⟨NB,jH⟩:∃NB,NB=w3.heap.size:=⟨_,rfl⟩;rw[←jH]at H5 ⊢;have z0:w5.cell? ⟨b,12,none⟩=some (.slice (some ⟨g,0,none⟩) n c):=by rw[aj (H5.out.blk 0 (by rw[List.getElem?_set_ne (by omega)];rfl)),Yd.nZ OK.out.len,TV.out]
  have z1:w5.frozen? ⟨b,12,none⟩=false:=aI (H5.out.blk 0 (by rw[List.getElem?_set_ne (by omega)];rfl)) _;have H6:ah (Has w0 (w5.setCell ⟨b,12,none⟩ (.slice (some ⟨g,0,none⟩) (n-1) c)) ((y.kU (.slice (some ⟨g,0,none⟩) (n-1) c) (y.taken.eraseIdx i)).star b++(M++[aF NB (.cells #[.int .i64 (s:Int),.int .i64 (q:Int)] 53)]))):=⟨by
   have h:=H5.out;rw[List.append_assoc]at h;exact qm OK.out.len h⟩
  have Zb:ah ((y.kU (.slice (some ⟨g,0,none⟩) (n-1) c) (y.taken.eraseIdx i)).ok N F):=⟨OK.out.takes (by have:=List.length_eraseIdx_le y.taken i;have:=jF.out;omega) (Nat.le_refl _) fun x hx=>OK.out.taken x (List.mem_of_mem_eraseIdx hx)⟩;have OP:=ah.mk (JG q s hq H6.out Zb.out (by have:=(fP hq).2;omega) XG hs HA.out);have e0:(w5.setCell ⟨b,12,none⟩ (.slice (some ⟨g,0,none⟩) (n-1) c)).cell? ⟨NB,0,none⟩=some (.int .i64 (s:Int)):=by rw[aj (H6.out.blk (14+M.length) (aH (aU _ _) Zb.out.len))];rfl
  have e1:(w5.setCell ⟨b,12,none⟩ (.slice (some ⟨g,0,none⟩) (n-1) c)).cell? ⟨NB,1,none⟩=some (.int .i64 (q:Int)):=by rw[aj (H6.out.blk (14+M.length) (aH (aU _ _) Zb.out.len))];rfl
  have hp3:ah (2^q≤8):=⟨(fP hq).2⟩;clear jH y1 y2 c0 c1;refine ah.mk ?_;go_wp2_with (go_at_call 124;refine OP.out.mono ?_;rintro e w7 ⟨rfl,y3,OA,hsm,h7⟩;have H7:=ah.mk h7;have lX:=ah.mk (And.intro OA hsm);clear h7 OA hsm)
  first|go_ret|skip
  rw[←HQ.out];exact⟨_,rfl,y3,lX.out.1.mono (by have:=hp3.out;omega) (Nat.le_refl _),lX.out.2.2,Has.first (M:=[_]) (by rw[List.append_assoc];exact H7.out)⟩
end
end
section
open Go.RowKit
theorem xE {js:List J}{bk:List Ch}{k i:Nat}{j j':J}(hij:js[i]?=some j)(h0:j.on=false)(h1:j'.on=true):most (js.set i j') bk k=most js bk k+8:=by
 have h:=uQ hij j';rw[h0,h1]at h;simp only[Bool.false_eq_true,if_false,if_true,Nat.add_zero]at h;unfold most;omega
section
variable {w0 w:World}
end
end
section
open Go.RowKit Go.ChangeMaps
section
variable {P:Program}{w0 w:World}{L:List bV}
theorem yK {κ:Type}[BEq κ][LawfulBEq κ]{ke:κ→Value}(H:Has w0 w L)(i:Nat){b:Nat}{l:List (κ×Value)}(hi:L[i]?=some (mapA b ke l))(t k e ty:TypeId)(ht:P.underlying t=some (.map k e)) :
 ∃v w',(Builtin.clear_ #[t] ty #[.map (some b)]).run P w=.ok v w'∧Has w0 w' (L.set i (mapA b ke [])):=by
 obtain⟨F,⟨⟨es,cl,hb,hm⟩,hF⟩,h3,hgo⟩:=H.get i _ hi;have hend:∀c,Has w0 (setBlock w b (.map #[] c)) (L.set i (mapA b ke [])):=fun c =>
  hgo _ _ ⟨F,⟨⟨#[],c,by rw[heap_setBlock_same hb],rfl⟩,hF⟩,⟨rfl,rfl,rfl,by simp[setBlock],fun k hk hn=>heap_setBlock_other hb _ fun e=>hn (e▸hF)⟩,fun k hk=>⟨.inl hk,by simp[setBlock];exact(h3 k hk).2⟩⟩
 refine⟨.tuple #[],_,?_,hend cl⟩;simp[Builtin.clear_,run_underlying ht,MapKept.run_getObj_map hb,MapKept.run_setObj_map _ hb,Result.andThen,setBlock]
end
def waits (js:List J):Nat:=(js.map fun j=>if j.how=1 then 1 else 0).sum
open Classical in
noncomputable def Gu (x:Nat) (w:World):Nat :=
 match w.cell? ⟨x,13,none⟩with
 |some (.pointer (some q))=>(match w.cell? ⟨q.block,12,none⟩with
  |some (.slice (some g) n _)=>((List.range n).map fun k=>if w.cell? ⟨g.block,k*26+19,none⟩=some (.int .i64 1)then 1 else 0).sum
  |_=>0)
 |_=>0
theorem OE (js:List J)(f:Nat→Nat)(h:∀k j,js[k]?=some j→f k=if j.how=1 then 1 else 0):((List.range js.length).map f).sum=waits js:=by
 have e:(List.range js.length).map f=js.map fun j=>if j.how=1 then 1 else 0:=by
  apply List.ext_getElem?;intro k;rw[List.getElem?_map,List.getElem?_map];by_cases hk:k<js.length
  ·rw[List.getElem?_range hk,List.getElem?_eq_getElem hk];simp only[Option.map_some];rw[h k _ (List.getElem?_eq_getElem hk)]
  ·rw[List.getElem?_eq_none (by simp;omega),List.getElem?_eq_none (by omega)];rfl
 unfold waits;rw[e]
theorem uw {w0 w:World}{x:Nat}{pol now:Int}{js:List J}{bk:List Ch}{fl:List Int}{k:Nat}(hS:St w0 w x pol now js bk fl k):Gu x w=waits js:=by
 obtain⟨a,y,m,rfl,_,_,_,H⟩:=hS;have h13:w.cell? ⟨a.x,13,none⟩=some (.pointer (some ⟨a.p,0,none⟩)):=by rw[aj (H.blk 0 rfl)];rfl
 have h12:w.cell? ⟨a.p,12,none⟩=some (.slice a.jA js.length a.jc):=by rw[aj (H.blk 1 rfl)];rfl
 have HR:=gI H 2 rfl;unfold Gu;rw[h13];simp only;rw[h12];cases hA:a.jA with
 |none =>
  simp only;cases js with
  |nil=>rfl
  |cons j l =>
   obtain⟨g,hg,_⟩:=HR.get 0 j rfl;rw[hA]at hg;cases hg
 |some g =>
  simp only;refine(OE js _ fun k j hk=>?_);obtain⟨g',hg,hr⟩:=HR.get k j hk;rw[hA]at hg;cases hg;have hc:=hr 19 _ j.mM;simp only at hc ⊢;rw[hc];by_cases h1:j.how=1
  ·rw[if_pos (by rw[h1]),if_pos h1]
  ·rw[if_neg (by intro e;injection e with e;injection e with _ e;exact h1 e),if_neg h1]
theorem Bl {js:List J}{k:Nat}{j:J}(h:js[k]?=some j)(j':J):waits (js.set k j')+(if j.how=1 then 1 else 0)=waits js+(if j'.how=1 then 1 else 0):=xW _ js k j j' h
inductive oh (now:Int):List J→List J→Prop
 |refl (js:List J):oh now js js
 |step {js bG:List J} (i:Nat) (j:J) (s:Nat) (hj:bG[i]?=some j) (hw:j.how=1) (hs:s≤7) (hd:s%2^ord j.s.size=0) (h:oh now js bG):oh now js (bG.set i { (j.go now s (ord j.s.size:Nat))with how:=3})
theorem oh.sane {now:Int}{js bG:List J}{bk:List Ch}(h:oh now js bG)(G:dJ now js bk):dJ now bG bk∧pays bG now=pays js now∧bG.length=js.length:=by
 induction h with
 |refl=>exact⟨G,rfl,rfl⟩
 |step i j s hj hw hs hd h ih =>
  obtain⟨G',hp,hl⟩:=ih;refine⟨G'.set hj _ ((G'.jobs i j hj).start hw G'.uP s hs hd) ?_,(Di hj _ (AB hw _ _)).trans hp,by rw[List.length_set];exact hl⟩;have e0:j.on=false:=by simp[J.on,hw]
  rw[e0];show(j.runs+1+if false=true then(1:Int)else 0)=j.runs+(if true=true then(1:Int)else 0)
  simp
theorem yL {P:Program}{ops:Array Oper}{rest:List Oper}{o:Oper}{a:Act}{w:World}{Q:Exit→Act→World→Prop}(hgd:o.guard=none)(d:Operand)(t:TypeId)
 (ho:o.op=.call { callee:=.builtin .clear,args:=#[d],argTypes:=#[t]}) (v:Value) (hd:a.eval d=v) {v':Value} {w':World}
 (hr:(Builtin.clear_ #[t] o.type #[v]).run P w=.ok v' w') (h:wpList P ops Q rest (a.put o.dst v') w'):wpList P ops Q (o::rest) a w :=
 wpList_plain hgd fun _ hK=>by
  unfold Oper.wp execOp;simp only[ho,resolve,invoke,builtin,Sem.run_bind,Sem.run_pure,Result.andThen_ok,List.map_toArray,List.map_cons,List.map_nil,hd,hr];exact hK _ _ h
theorem St.DJ {w0 w:World}{x:Nat}{pol now:Int}{js:List J}{bk:List Ch}{fl:List Int}{k:Nat}(hS:St w0 w x pol now js bk fl k):w.cell? ⟨x,0,none⟩=some (.int .i64 pol):=by
 obtain⟨a,y,m,rfl,_,_,_,H⟩:=hS;rw[aj (H.blk 0 rfl)];rfl
section
variable {w0 w:World}
end
end
section
open Go.RowKit
inductive gV (now:Int) (js:List J) (bk:List Ch):List J→List Ch→Prop
 |refl:gV now js bk js bk
 |start {bG:List J} {bk':List Ch} (i:Nat) (j:J) (s:Nat) (hj:bG[i]?=some j) (hw:j.how=1) (hs:s≤7) (hd:s%2^ord j.s.size=0) (h:gV now js bk bG bk'):gV now js bk (bG.set i { (j.go now s (ord j.s.size:Nat))with how:=3}) bk'
 |suspend {bG:List J} {bk':List Ch} (i:Nat) (j:J) (hj:bG[i]?=some j) (hw:j.how=3) (h:gV now js bk bG bk'):gV now js bk (bG.set i { j.till now with how:=4}) bk'
 |resume {bG:List J} {bk':List Ch} (i:Nat) (j:J) (hj:bG[i]?=some j) (hw:j.how=4) (h:gV now js bk bG bk'):gV now js bk (bG.set i { { j with started:=now} with how:=3}) bk'
 |over {bG:List J} {bk':List Ch} (i:Nat) (j:J) (d:Int) (hj:bG[i]?=some j) (hd:ways d) (hon:j.on=true) (hr:d=0→j.runs≤2) (h:gV now js bk bG bk'):gV now js bk (bG.set i (j.over now d)) (bk'++[j.ji now d])
 |cancel {bG:List J} {bk':List Ch} (i:Nat) (j:J) (hj:bG[i]?=some j) (hw:j.how=1∨j.how=2) (h:gV now js bk bG bk'):gV now js bk (bG.set i (j.over now 7)) bk'
 |hold {bG:List J} {bk':List Ch} (i:Nat) (j:J) (hj:bG[i]?=some j) (hw:j.how=1) (h:gV now js bk bG bk'):gV now js bk (bG.set i { j with how:=2}) bk'
 |release {bG:List J} {bk':List Ch} (i:Nat) (j:J) (hj:bG[i]?=some j) (hw:j.how=2) (h:gV now js bk bG bk'):gV now js bk (bG.set i { { j with since:=now} with how:=1}) bk'
theorem gV.trans {now:Int}{a b c:List J}{x y z:List Ch}(h:gV now a x b y)(k:gV now b y c z):gV now a x c z:=by
 induction k with
 |refl=>exact h
 |start i j s hj hw hs hd _ ih=>exact .start i j s hj hw hs hd ih
 |suspend i j hj hw _ ih=>exact .suspend i j hj hw ih
 |resume i j hj hw _ ih=>exact .resume i j hj hw ih
 |over i j d hj hd hon hr _ ih=>exact .over i j d hj hd hon hr ih
 |cancel i j hj hw _ ih=>exact .cancel i j hj hw ih
 |hold i j hj hw _ ih=>exact .hold i j hj hw ih
 |release i j hj hw _ ih=>exact .release i j hj hw ih
theorem oh.went {now:Int}{js bG:List J}(h:oh now js bG)(bk:List Ch):gV now js bk bG bk:=by
 induction h with
 |refl=>exact .refl
 |step i j s hj hw hs hd _ ih=>exact .start i j s hj hw hs hd ih
theorem gV.sane {now:Int}{js bG:List J}{bk bk':List Ch}(h:gV now js bk bG bk')(G:dJ now js bk):dJ now bG bk'∧paid bk'+pays bG now=paid bk+pays js now∧bG.length=js.length:=by
 have keep:∀ {bG:List J} {bk':List Ch} {i:Nat} {j j':J},bG[i]?=some j→(dJ now bG bk'∧paid bk'+pays bG now=paid bk+pays js now∧bG.length=js.length)→(dJ now bG bk'→j'.ok now i)→j'.runs+(if j.on then 1 else 0)=j.runs+(if j'.on then 1 else 0)→j'.pay now=j.pay now →
  dJ now (bG.set i j') bk'∧paid bk'+pays (bG.set i j') now=paid bk+pays js now∧(bG.set i j').length=js.length:=by
  intro bG bk' i j j' hj ih hok hr hp;obtain⟨G',h2,hl⟩:=ih;exact⟨G'.set hj _ (hok G') hr,by rw[Di hj _ hp];exact h2,by rw[List.length_set];exact hl⟩
 induction h with
 |refl=>exact⟨G,rfl,rfl⟩
 |start i j s hj hw hs hd h ih =>
  refine keep hj ih (fun G'=>(G'.jobs i j hj).start hw G'.uP s hs hd) ?_ (AB hw _ _);have e0:j.on=false:=by simp[J.on,hw]
  rw[e0];show(j.runs+1+if false=true then(1:Int)else 0)=j.runs+(if true=true then(1:Int)else 0)
  simp
 |suspend i j hj hw h ih =>
  refine keep hj ih (fun G'=>(G'.jobs i j hj).suspend hw) ?_ (E5 hw);have e0:j.on=true:=by simp[J.on,hw]
  have e1:({ j.till now with how:=4}:J).runs=j.runs:=(j.iE now).2.2.2.2.2.1;rw[e0,e1];rfl
 |resume i j hj hw h ih =>
  refine keep hj ih (fun G'=>(G'.jobs i j hj).resume hw G'.uP) ?_ (Jb hw);have e0:j.on=true:=by simp[J.on,hw]
  rw[e0];rfl
 |over i j d hj hd hon hr h ih =>
  obtain⟨G',h2,hl⟩:=ih;have:=G'.over hj hd hon hr;exact⟨this.1,by rw[this.2];exact h2,by rw[List.length_set];exact hl⟩
 |cancel i j hj hw h ih =>
  obtain⟨G',h2,hl⟩:=ih;have:=G'.cancel hj hw;exact⟨this.1,by rw[this.2];exact h2,by rw[List.length_set];exact hl⟩
 |hold i j hj hw h ih =>
  have e0:j.on=false:=by simp[J.on,hw]
  refine keep hj ih (fun G'=>(G'.jobs i j hj).hold hw) ?_ ?_
  ·rw[e0];rfl
  ·rw[oz e0,oz rfl]
 |release i j hj hw h ih =>
  have e0:j.on=false:=by simp[J.on,hw]
  refine keep hj ih (fun G'=>(G'.jobs i j hj).release hw G'.uP) ?_ ?_
  ·rw[e0];rfl
  ·rw[oz e0,oz rfl]
inductive Turned (now:Int) (js:List J):List J→Prop
 |refl:Turned now js js
 |start {bG:List J} (i:Nat) (j:J) (s:Nat) (hj:bG[i]?=some j) (hw:j.how=1) (hs:s≤7) (hd:s%2^ord j.s.size=0) (h:Turned now js bG):Turned now js (bG.set i { (j.go now s (ord j.s.size:Nat))with how:=3})
 |suspend {bG:List J} (i:Nat) (j:J) (hj:bG[i]?=some j) (hw:j.how=3) (h:Turned now js bG):Turned now js (bG.set i { j.till now with how:=4})
 |resume {bG:List J} (i:Nat) (j:J) (hj:bG[i]?=some j) (hw:j.how=4) (h:Turned now js bG):Turned now js (bG.set i { { j with started:=now} with how:=3})
theorem Turned.went {now:Int}{js bG:List J}(h:Turned now js bG)(bk:List Ch):gV now js bk bG bk:=by
 induction h with
 |refl=>exact .refl
 |start i j s hj hw hs hd _ ih=>exact .start i j s hj hw hs hd ih
 |suspend i j hj hw _ ih=>exact .suspend i j hj hw ih
 |resume i j hj hw _ ih=>exact .resume i j hj hw ih
theorem Turned.trans {now:Int}{a b c:List J}(h:Turned now a b)(k:Turned now b c):Turned now a c:=by
 induction k with
 |refl=>exact h
 |start i j s hj hw hs hd _ ih=>exact .start i j s hj hw hs hd ih
 |suspend i j hj hw _ ih=>exact .suspend i j hj hw ih
 |resume i j hj hw _ ih=>exact .resume i j hj hw ih
theorem oh.turned {now:Int}{js bG:List J}(h:oh now js bG):Turned now js bG:=by
 induction h with
 |refl=>exact .refl
 |step i j s hj hw hs hd _ ih=>exact .start i j s hj hw hs hd ih
theorem dJ.ticks {now:Int}{js:List J}{bk:List Ch}(G:dJ now js bk)(h:now<1000000):dJ (now+1) js bk∧paid bk+pays js (now+1)=paid bk+pays js now+loads js :=
 ⟨G.tick h,by rw[AA];omega⟩
end
end Go.Proofs.YtandhagfhppgaaaGreatDoor
