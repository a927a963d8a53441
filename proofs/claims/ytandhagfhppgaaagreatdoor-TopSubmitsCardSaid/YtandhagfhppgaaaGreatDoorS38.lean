/- Part 38 of a proof: contracts of the functions that the law reaches. No condition. -/
import Derived.Test.YtandhagfhppgaaaGreatDoorS7
import Derived.Test.YtandhagfhppgaaaGreatDoorS16
import Derived.Test.YtandhagfhppgaaaGreatDoorS18
import Derived.Test.YtandhagfhppgaaaGreatDoorS26
import Derived.Test.YtandhagfhppgaaaGreatDoorS27
import Derived.Test.YtandhagfhppgaaaGreatDoorS28
import Derived.Test.YtandhagfhppgaaaGreatDoorS29
import Derived.Test.YtandhagfhppgaaaGreatDoorS31
import Derived.Test.YtandhagfhppgaaaGreatDoorS32
set_option linter.all false
set_option maxRecDepth 100000
set_option maxHeartbeats 16000000
namespace Go.Proofs.YtandhagfhppgaaaGreatDoor
section
open Go.RowKit
section
variable {w0 w:World}{M:List bW}{y:Yd}{b N F:Nat}
theorem tH (H:Has w0 w (y.star b++M))(ok:y.ok N F)(hN:N≤800000)(s q:Nat)(hs:s≤7)(hq:q≤3)(ha:s%2^q=0) :
 Calls Tryz.prog 146 #[.pointer (some ⟨b,0,none⟩),.agg #[.int .i64 (s:Int),.int .i64 (q:Int)]] w fun e w'=>∃r:Int,e=.returned (.int .i64 r)∧∃y':Yd,y'.ok (N+4) F∧y'.failed=y.failed∧Has w0 w' (y'.star b++M):=by
 refine named fun R HQ=>?_;have H1:ah (Has w0 (w.alloc (.cells #[.int .i64 (s:Int),.int .i64 (q:Int)] 53)) (y.star b++(M++[aF w.heap.size (.cells #[.int .i64 (s:Int),.int .i64 (q:Int)] 53)]))):=⟨by rw[←List.append_assoc];exact H.aZ _⟩;have OK:=ah.mk ok;have HA:=ah.mk ha;obtain⟨z,hz⟩:∃z:Nat,z=2^q:=⟨_,rfl⟩;have bz:=fP hq;have SZ:=ah.mk fun W=>iI q hq W;have S3:ah (∀W,Calls Tryz.prog 130 #[.int .i64 3] W fun e w'=>e=.returned (.int .i64 8)∧w'=W):=⟨fun W=>iI 3 (by decide) W⟩;rw[←hz]at SZ bz ha;have d3:Int.tmod (s:Int) (z:Int)=0:=by
  rw[Int.tmod_eq_emod_of_nonneg (by omega)];exact_mod_cast ha
 have hz0:¬(z:Int)=0:=by omega
 have p1:decide ((q:Int)<0)=false:=decide_eq_false (by omega);have p2:decide ((3:Int)<q)=false:=decide_eq_false (by omega);have p3:decide ((s:Int)<0)=false:=decide_eq_false (by omega);have p4:decide ((8:Int)≤s)=false:=decide_eq_false (by omega);obtain⟨NB,jw⟩:∃NB,NB=w.heap.size:=⟨_,rfl⟩;obtain⟨V,hV⟩:∃V,V=w.alloc (.cells #[.int .i64 (s:Int),.int .i64 (q:Int)] 53):=⟨_,rfl⟩;have VQ:=ah.mk (And.intro jw hV);clear H ok ha hz bz jw hV;go_enter Tryz.func146,Tryz.ntmps146;go_wp2_with fail
 rw[←VQ.out.2,←VQ.out.1]at H1 ⊢;clear VQ;have b0:V.cell? ⟨NB,0,none⟩=some (.int .i64 (s:Int)):=by rw[aj (H1.out.blk (14+M.length) (aH (aT _ _) OK.out.len))];rfl
 have b1:V.cell? ⟨NB,1,none⟩=some (.int .i64 (q:Int)):=by rw[aj (H1.out.blk (14+M.length) (aH (aT _ _) OK.out.len))];rfl
 have y0:V.cell? ⟨b,0,none⟩=some (.int .i64 3):=by rw[aj (H1.out.blk 0 bF)];rfl
 go_quiet (first|(go_at_call 130;exact Calls.quiet_of_same (S3.out _))|(go_at_call 130;exact Calls.quiet_of_same (SZ.out _)))
 have H2:=ah.mk (H1.out.drewN nq);have AR:=ah.mk (tC H2.out OK.out (by omega) s q hs hq);go_wp2_with (go_at_call 128;refine AR.out.mono ?_;rintro e w3 ⟨p,o,f,rfl,hf,h3⟩;have H3:=ah.mk (H2.out.below h3);have HF:=ah.mk hf;have B3:=ah.mk h3;clear h3 hf;refine ah.out ?_)
 clear b0 b1 y0 AR d3 hz0 p1 p2 p3 p4 SZ S3;have H4:ah (Has w0 (w3.alloc (.cells #[.int .i64 (p:Int),.int .i64 (o:Int)] 53)) (y.star b++(M++[aF NB (.cells #[.int .i64 (s:Int),.int .i64 (q:Int)] 53)]++[aF w3.heap.size (.cells #[.int .i64 (p:Int),.int .i64 (o:Int)] 53)]))):=⟨by
  have h:=H3.out.aZ (.cells #[.int .i64 (p:Int),.int .i64 (o:Int)] 53);rw[List.append_assoc]at h;exact h⟩
 refine ah.mk ?_;go_wp2_with (refine aB w3.heap.size rfl rfl 53 (.tmp 5) (.tmp 51) rfl #[.int .i64 (p:Int),.int .i64 (o:Int)] rfl rfl 53 _ (jQ _ _) rfl (by simp[Value.oneCell']) ?_;refine ah.out ?_)
 obtain⟨NC,AB⟩:∃NC,NC=w3.heap.size:=⟨_,rfl⟩;obtain⟨W4,U1⟩:∃W4,W4=w3.alloc (.cells #[.int .i64 (p:Int),.int .i64 (o:Int)] 53):=⟨_,rfl⟩;rw[←U1,←AB]at H4;rw[←U1,←AB];clear U1 AB;cases f
 ·refine ah.mk ?_;go_wp2_with fail
  first|go_ret|skip
  rw[←HQ.out];refine⟨_,rfl,y,OK.out.mono (by omega) (Nat.le_refl _),rfl,?_⟩;exact Has.first (M:=[_,_]) (by simpa[List.append_assoc]using H4.out)
 ·obtain⟨hqo,ho3,hpo,v,l,hfr,hbs⟩:=HF.out rfl;have SP:=ah.mk (vS H4.out OK.out (by omega) s q p o hs hqo ho3 hpo HA.out hfr hbs);have b0:W4.cell? ⟨NB,0,none⟩=some (.int .i64 (s:Int)):=by rw[aj (H4.out.blk (14+M.length) (aH (gY _ _ _) OK.out.len))];rfl
  have b1:W4.cell? ⟨NB,1,none⟩=some (.int .i64 (q:Int)):=by rw[aj (H4.out.blk (14+M.length) (aH (gY _ _ _) OK.out.len))];rfl
  have c0:W4.cell? ⟨NC,0,none⟩=some (.int .i64 (p:Int)):=by rw[aj (H4.out.blk (14+(M.length+1)) (aH (jR _ _ _) OK.out.len))];rfl
  have c1:W4.cell? ⟨NC,1,none⟩=some (.int .i64 (o:Int)):=by rw[aj (H4.out.blk (14+(M.length+1)) (aH (jR _ _ _) OK.out.len))];rfl
  clear hqo hpo hfr hbs HF;refine ah.mk ?_;go_wp2_with (go_at_call 129;refine SP.out.mono ?_;rintro e w5 ⟨rfl,y2,ok2,hsm,h5⟩;have H5:=ah.mk h5;have eU:=ah.mk (And.intro ok2 hsm);clear h5 ok2 hsm;refine ah.out ?_)
  clear b0 b1 c0 c1 SP;have HO:=ah.mk (Gg H5.out eU.out.1 (by omega) s q hs hq HA.out);have b0:w5.cell? ⟨NB,0,none⟩=some (.int .i64 (s:Int)):=by rw[aj (H5.out.blk (14+M.length) (aH (gY _ _ _) eU.out.1.len))];rfl
  have b1:w5.cell? ⟨NB,1,none⟩=some (.int .i64 (q:Int)):=by rw[aj (H5.out.blk (14+M.length) (aH (gY _ _ _) eU.out.1.len))];rfl
  refine ah.mk ?_;go_wp2_with (go_at_call 209;refine HO.out.mono ?_;rintro e w6 ⟨rfl,y3,Oh,hsm,h6⟩;have H6:=ah.mk h6;have lI:=ah.mk (And.intro Oh hsm);clear h6 Oh hsm)
  first|go_ret|skip
  rw[←HQ.out];refine⟨_,rfl,y3,lI.out.1,lI.out.2.trans eU.out.2.2,?_⟩;exact Has.first (M:=[_,_]) (by simpa[List.append_assoc]using H6.out)
end
section
variable {w0:World}{b F:Nat}
theorem VR (s q:Nat)(hs:s≤7)(hq:q+1≤3)(ha:s%2^(q+1)=0):s%2^q=0∧s+2^q≤7∧(s+2^q)%2^q=0:=by
 rcases(by omega:q=0∨q=1∨q=2)with rfl|rfl|rfl<;>rcases(by omega:s=0∨s=1∨s=2∨s=3∨s=4∨s=5∨s=6∨s=7)with rfl|rfl|rfl|rfl|rfl|rfl|rfl|rfl<;>first|decide|(exfalso;revert ha;decide)
theorem Jw (q:Nat):∀ {w:World} {M:List bW} {y:Yd} {N:Nat} (s:Nat),q≤3→Has w0 w (y.star b++M)→y.ok N F→N+2^q≤800000→F≤100000→s≤7→s%2^q=0 →
 Calls Tryz.prog 124 #[.pointer (some ⟨b,0,none⟩),.agg #[.int .i64 (s:Int),.int .i64 (q:Int)]] w fun e w'=>e=.returned (.tuple #[])∧∃y':Yd,y'.ok (N+2^q) F∧y'.same y∧Has w0 w' (y'.star b++M):=by
 induction q with
 |zero =>
  intro w M y N s hq H ok hN XE hs ha;refine named fun R HQ=>?_;have H1:ah (Has w0 (w.alloc (.cells #[.int .i64 (s:Int),.int .i64 0] 53)) (y.star b++(M++[aF w.heap.size (.cells #[.int .i64 (s:Int),.int .i64 0] 53)]))):=⟨by rw[←List.append_assoc];exact H.aZ _⟩;have OK:=ah.mk ok;have HA:=ah.mk ha;obtain⟨A,c,qI⟩:=fB H1.out 2 gy;obtain⟨n,hn⟩:∃n,n=y.failed.length:=⟨_,rfl⟩;rw[←hn]at qI;have TV:=ah.mk qI;have jr:ah (n=y.failed.length∧n≤F):=⟨hn,by rw[hn];exact ok.wu⟩;have b0:(w.alloc (.cells #[.int .i64 (s:Int),.int .i64 0] 53)).cell? ⟨w.heap.size,0,none⟩=some (.int .i64 (s:Int)):=by rw[aj (H1.out.blk (14+M.length) (aH (aT _ _) OK.out.len))];rfl
  have b1:(w.alloc (.cells #[.int .i64 (s:Int),.int .i64 0] 53)).cell? ⟨w.heap.size,1,none⟩=some (.int .i64 0):=by rw[aj (H1.out.blk (14+M.length) (aH (aT _ _) OK.out.len))];rfl
  have y1:(w.alloc (.cells #[.int .i64 (s:Int),.int .i64 0] 53)).cell? ⟨b,13,none⟩=some (.slice A n c):=by rw[aj (H1.out.blk 0 bF),Yd.jk OK.out.len,TV.out]
  have CO:=ah.mk (F6 (g:=w.heap.size) (bK H1.out 2 (by rw[←TV.out];exact gy) bJ) (by have:=jr.out;omega) fun x W hb=>F5 s 0 x hs (by omega) (ak hb b0) (ak hb b1));clear H ok ha qI hn;go_enter Tryz.func124,Tryz.ntmps124;go_wp2_with (go_at_call 141;refine CO.out.mono ?_;rintro e w3 ⟨bb,rfl,h3⟩;have H3:=ah.mk (H1.out.below h3);clear h3;refine ah.out ?_)
  obtain⟨NB,jw⟩:∃NB,NB=w.heap.size:=⟨_,rfl⟩;rw[←jw]at H3 ⊢;clear jw;clear b0 b1 y1 CO;have b0:w3.cell? ⟨NB,0,none⟩=some (.int .i64 (s:Int)):=by rw[aj (H3.out.blk (14+M.length) (aH (aT _ _) OK.out.len))];rfl
  have b1:w3.cell? ⟨NB,1,none⟩=some (.int .i64 0):=by rw[aj (H3.out.blk (14+M.length) (aH (aT _ _) OK.out.len))];rfl
  have y1:w3.cell? ⟨b,13,none⟩=some (.slice A n c):=by rw[aj (H3.out.blk 0 bF),Yd.jk OK.out.len,TV.out]
  cases bb
  ·have LA:=ah.mk (show Calls Tryz.prog 79 #[.pointer (some ⟨b,0,none⟩),.agg #[.int .i64 (s:Int),.int .i64 0]] w3 _ from uO H3.out OK.out (by omega) s 0 hs (by omega) HA.out);refine ah.mk ?_;go_wp2_with (go_at_call 79;refine LA.out.mono ?_;rintro e w5 ⟨rfl,y2,ok2,hsm,h5⟩;have H5:=ah.mk h5;have eU:=ah.mk (And.intro ok2 hsm);clear h5 ok2 hsm)
   first|go_end0|skip
   rw[←HQ.out];exact⟨rfl,y2,eU.out.1,eU.out.2,Has.first (M:=[_]) (by rw[List.append_assoc];exact H5.out)⟩
  ·refine ah.mk ?_;go_wp2_with fail
   first|go_end0|skip
   rw[←HQ.out];exact⟨rfl,y,OK.out.mono (by omega) (Nat.le_refl _),Yd.same.refl _,Has.first (M:=[_]) (by rw[List.append_assoc];exact H3.out)⟩
 |succ q ih =>
  intro w M y N s hq H ok hN XE hs ha;refine named fun R HQ=>?_;have H1:ah (Has w0 (w.alloc (.cells #[.int .i64 (s:Int),.int .i64 ((q:Int)+1)] 53)) (y.star b++(M++[aF w.heap.size (.cells #[.int .i64 (s:Int),.int .i64 ((q:Int)+1)] 53)]))):=⟨by rw[←List.append_assoc];exact H.aZ _⟩;have OK:=ah.mk ok;have HA:=ah.mk ha;obtain⟨A,c,qI⟩:=fB H1.out 2 gy;obtain⟨n,hn⟩:∃n,n=y.failed.length:=⟨_,rfl⟩;rw[←hn]at qI;have TV:=ah.mk qI;have jr:ah (n=y.failed.length∧n≤F):=⟨hn,by rw[hn];exact ok.wu⟩;have b0:(w.alloc (.cells #[.int .i64 (s:Int),.int .i64 ((q:Int)+1)] 53)).cell? ⟨w.heap.size,0,none⟩=some (.int .i64 (s:Int)):=by rw[aj (H1.out.blk (14+M.length) (aH (aT _ _) OK.out.len))];rfl
  have b1:(w.alloc (.cells #[.int .i64 (s:Int),.int .i64 ((q:Int)+1)] 53)).cell? ⟨w.heap.size,1,none⟩=some (.int .i64 ((q:Int)+1)):=by rw[aj (H1.out.blk (14+M.length) (aH (aT _ _) OK.out.len))];rfl
  have y1:(w.alloc (.cells #[.int .i64 (s:Int),.int .i64 ((q:Int)+1)] 53)).cell? ⟨b,13,none⟩=some (.slice A n c):=by rw[aj (H1.out.blk 0 bF),Yd.jk OK.out.len,TV.out]
  have CO:=ah.mk (F6 (g:=w.heap.size) (bK H1.out 2 (by rw[←TV.out];exact gy) bJ) (by have:=jr.out;omega) fun x W hb=>F5 s (q+1) x hs (by omega) (ak hb b0) (ak hb b1));clear H ok ha qI hn;go_enter Tryz.func124,Tryz.ntmps124;go_wp2_with (go_at_call 141;refine CO.out.mono ?_;rintro e w3 ⟨bb,rfl,h3⟩;have H3:=ah.mk (H1.out.below h3);clear h3;refine ah.out ?_)
  obtain⟨NB,jw⟩:∃NB,NB=w.heap.size:=⟨_,rfl⟩;rw[←jw]at H3 ⊢;clear jw;clear b0 b1 y1 CO;have b0:w3.cell? ⟨NB,0,none⟩=some (.int .i64 (s:Int)):=by rw[aj (H3.out.blk (14+M.length) (aH (aT _ _) OK.out.len))];rfl
  have b1:w3.cell? ⟨NB,1,none⟩=some (.int .i64 ((q:Int)+1)):=by rw[aj (H3.out.blk (14+M.length) (aH (aT _ _) OK.out.len))];rfl
  have y1:w3.cell? ⟨b,13,none⟩=some (.slice A n c):=by rw[aj (H3.out.blk 0 bF),Yd.jk OK.out.len,TV.out]
  cases bb
  ·have LA:=ah.mk (show Calls Tryz.prog 79 #[.pointer (some ⟨b,0,none⟩),.agg #[.int .i64 (s:Int),.int .i64 ((q:Int)+1)]] w3 _ from uO H3.out OK.out (Nat.le_trans (Nat.le_add_right N (2^(q+1))) (by omega)) s (q+1) hs hq HA.out);refine ah.mk ?_;go_wp2_with (go_at_call 79;refine LA.out.mono ?_;rintro e w5 ⟨rfl,y2,ok2,hsm,h5⟩;have H5:=ah.mk h5;have eU:=ah.mk (And.intro ok2 hsm);clear h5 ok2 hsm)
   first|go_end0|skip
   rw[←HQ.out];exact⟨rfl,y2,eU.out.1.mono (by have:=Nat.one_le_two_pow (n:=q+1);omega) (Nat.le_refl _),eU.out.2,Has.first (M:=[_]) (by rw[List.append_assoc];exact H5.out)⟩
  ·have hqz:(((q:Int)+1)==0)=false:=by simp;omega
   have hqz2:¬(((q:Nat):Int)+1=0):=by omega
   have f1:w3.frozen? ⟨NB,1,none⟩=false:=aJ (H3.out.blk (14+M.length) (aH (aT _ _) OK.out.len)) _;have H4:ah (Has w0 (w3.setCell ⟨NB,1,none⟩ (.int .i64 (q:Int))) (y.star b++(M++[aF NB (.cells #[.int .i64 (s:Int),.int .i64 (q:Int)] 53)]))):=⟨by
    have h:=H3.out.put (14+M.length) (aH (aT _ _) OK.out.len) 1 (.int .i64 (q:Int)) #[.int .i64 (s:Int),.int .i64 (q:Int)] rfl;rw[pW OK.out.len]at h;simpa using h⟩
   obtain⟨h1,h2,h3⟩:=VR s q hs hq HA.out;have HH:=ah.mk (And.intro h1 (And.intro h2 h3));have Zl:=ah.mk (ih s (by omega) H4.out OK.out (by rw[Nat.pow_succ]at hN;omega) XE hs h1);have e0:(w3.setCell ⟨NB,1,none⟩ (.int .i64 (q:Int))).cell? ⟨NB,0,none⟩=some (.int .i64 (s:Int)):=by rw[aj (H4.out.blk (14+M.length) (aH (aT _ _) OK.out.len))];rfl
   have e1:(w3.setCell ⟨NB,1,none⟩ (.int .i64 (q:Int))).cell? ⟨NB,1,none⟩=some (.int .i64 (q:Int)):=by rw[aj (H4.out.blk (14+M.length) (aH (aT _ _) OK.out.len))];rfl
   clear h1 h3;refine ah.mk ?_;go_wp2_with (go_at_call 124;have _t:=Zl.out;clear _t;refine Zl.out.mono ?_;rintro e w5 ⟨rfl,y2,ok2,hsm,h5⟩;have H5:=ah.mk h5;have eU:=ah.mk (And.intro ok2 hsm);clear h5 ok2 hsm Zl;refine ah.out ?_)
   clear e0 e1 f1 b0 b1 y1 H4;obtain⟨z,hz⟩:∃z:Nat,z=2^q:=⟨_,rfl⟩;obtain⟨hf,VP⟩:∃hf:Nat,hf=s+z:=⟨_,rfl⟩;have SZ:=ah.mk fun W=>iI q (by omega) W;rw[←hz]at SZ;have HB2:ah (hf≤7∧hf%2^q=0):=⟨by rw[VP,hz];exact⟨HH.out.2.1,HH.out.2.2⟩⟩;have WZ:ah (IntKind.i64.wrap ((s:Int)+(z:Int))=(hf:Int)):=⟨by rw[IntKind.wrap_i64,VP];have:=HH.out.2.1;omega⟩;have hp3:2^q≤4:=by rcases(by omega:q=0∨q=1∨q=2)with rfl|rfl|rfl<;>decide
   have HP:=ah.mk hp3;clear hz VP h2 hp3;refine ah.mk ?_;go_wp2_with fail
   obtain⟨Kp,fD⟩:∃Kp:Nat→Prop,Kp=fun k=>k=NB:=⟨_,rfl⟩;have KB:ah (w5.heap[NB]?=some (.cells #[.int .i64 (s:Int),.int .i64 (q:Int)] 53)):=⟨H5.out.blk (14+M.length) (aH (aT _ _) eU.out.1.len)⟩;have kn:Kp NB:=by rw[fD]
   have b0:∀g:KW w5 Kp,g.W.cell? ⟨NB,0,none⟩=some (.int .i64 (s:Int)):=fun g=>g.cell kn (by rw[aj KB.out];rfl);have b1:∀g:KW w5 Kp,g.W.cell? ⟨NB,1,none⟩=some (.int .i64 (q:Int)):=fun g=>g.cell kn (by rw[aj KB.out];rfl);clear fD;have IH2:=ah.mk (ih hf (by omega) H5.out.drew eU.out.1 (by rw[Nat.pow_succ]at hN;omega) XE HB2.out.1 HB2.out.2);have wz:=WZ.out;refine aK (fun W=>∃g:KW w5 Kp,W=g.W) 10 (by kernel_rfl) (by kernel_rfl) ?_;have HB0:ah (∀k,Kp k→w5.drew.heap[k]?=w5.heap[k]?):=⟨fun _ _=>rfl⟩;have HG:∃g:KW w5 Kp,w5.drew=g.W:=⟨⟨_,HB0.out⟩,rfl⟩;refine tk 0 HG ?_;refine tk 1 HG ?_;refine tk 2 HG ?_;refine tk 3 HG ?_;refine tk 4 HG ?_;refine tk 7 HG ?_;refine tk 8 HG ?_;refine aP (k:=5) rfl (by kernel_rfl) (by kernel_rfl) (fun KK gB=>?_);rw[if_pos (by rfl)];go_simp;go_at_call 130;refine(SZ.out _).mono ?_;rintro e w6 ⟨rfl,hw⟩;have hk':∀k,Kp k→w6.heap[k]?=w5.heap[k]?:=fun k hk=>by rw[hw];rfl
   have Y7:=ah.mk hw;clear hw;refine gB _ _ ⟨⟨_,hk'⟩,rfl⟩ ?_;have HB1:=ah.mk hk';clear gB KK HG;have HG:∃g:KW w5 Kp,w6=g.W:=⟨⟨_,HB1.out⟩,rfl⟩;clear hk';try simp only[Act.put,List.setIfInBounds_toArray,List.set_cons_zero,List.set_cons_succ]
   refine tk 6 HG ?_;refine tk 9 HG ?_;refine aO (by kernel_rfl) ?_;simp only[List.drop_succ_cons,List.drop_zero];rw[Y7.out];go_wp2_with (go_at_call 124;refine IH2.out.mono ?_;rintro e w7 ⟨rfl,y3,Oh,hsm,h7⟩;have H7:=ah.mk h7;have lI:=ah.mk (And.intro Oh hsm);clear h7 Oh hsm)
   first|go_end0|skip
   rw[←HQ.out];exact⟨rfl,y3,lI.out.1.mono (by rw[Nat.pow_succ];omega) (Nat.le_refl _),lI.out.2.trans eU.out.2,Has.first (M:=[_]) (by rw[List.append_assoc];exact H7.out)⟩
end
section
variable {w0 w:World}{M:List bW}{y:Yd}{b N F:Nat}
theorem Jy (H:Has w0 w (y.star b++M))(ok:y.ok N F)(hN:N≤700000)(XE:F≤100000)(x:Int) :
 Calls Tryz.prog 71 #[.pointer (some ⟨b,0,none⟩),.int .i64 x] w fun e w'=>∃r:Int,e=.returned (.int .i64 r)∧∃y':Yd,y'.ok (N+8) F∧y'.failed=y.failed∧Has w0 w' (y'.star b++M):=by
 refine named fun R HQ=>?_;have OK:=ah.mk ok;have H1:=ah.mk H;obtain⟨A,c,qI⟩:=fB H1.out 1 jC;obtain⟨n,hn⟩:∃n,n=y.taken.length:=⟨_,rfl⟩;rw[←hn]at qI;have TV:=ah.mk qI;have jr:ah (n=y.taken.length∧n≤N):=⟨hn,by rw[hn];exact ok.Ny⟩;have Zm:n≤1000000:=by have:=jr.out;omega
 clear H ok qI hn;have y1:w.cell? ⟨b,12,none⟩=some (.slice A n c):=by rw[aj (H1.out.blk 0 bF),Yd.nP OK.out.len,TV.out]
 have TK:ah ((y.star b++M)[1]?=some (aV 53 2 pJ (.slice A n c) y.taken)):=⟨by rw[←TV.out];exact jC⟩;have BS:=ah.mk (AO (w:=w) x (bK H1.out 1 TK.out lV) (by have:=jr.out;omega));go_enter Tryz.func71,Tryz.ntmps71;go_wp2_with (go_at_call 121;refine BS.out.mono ?_;rintro e w3 ⟨i,bb,rfl,hi,h3⟩;have H3:=ah.mk (H1.out.below h3);have HI:=ah.mk hi;clear h3 hi;refine ah.out ?_)
 clear y1 BS;cases bb
 ·refine ah.mk ?_;go_wp2_with fail
  first|go_ret|skip
  rw[←HQ.out];exact⟨_,rfl,y,OK.out.mono (by omega) (Nat.le_refl _),rfl,H3.out⟩
 ·have hin:i<n:=HI.out.2 rfl;obtain⟨t,ht⟩:∃t,y.taken[i]?=some t:=⟨_,List.getElem?_eq_getElem (by rw[←jr.out.1];exact hin)⟩;obtain⟨s,q,e1,e2,hs,hq,ha⟩:=OK.out.taken t (List.mem_of_getElem? ht);have HA:=ah.mk ha;have TK3:ah ((y.star b++M)[1]?=some (aV 53 2 pJ (.slice A n c) y.taken)):=TK;obtain⟨g,hA,gK⟩:=(bK H3.out 1 TK3.out lV).get i t ht;have c0:w3.cell? ⟨g,i*2,none⟩=some (.int .i64 (s:Int)):=by have:=gK 0 _ rfl;rw[←e1];simpa using this
  have c1:w3.cell? ⟨g,i*2+1,none⟩=some (.int .i64 (q:Int)):=by have:=gK 1 _ rfl;rw[←e2];exact this
  have hin':(i:Int)<n:=by omega
  have DL:=ah.mk (Zg ((H3.out.aZ (.cells #[.int .i64 (s:Int),.int .i64 (q:Int)] 53))) 1 (by rw[List.getElem?_append_left (by rw[Qs];omega)];exact TK3.out) jr.out.1 i hin);subst hA;have y1:w3.cell? ⟨b,12,none⟩=some (.slice (some ⟨g,0,none⟩) n c):=by rw[aj (H3.out.blk 0 bF),Yd.nP OK.out.len,TV.out]
  have y2:(w3.alloc (.cells #[.int .i64 (s:Int),.int .i64 (q:Int)] 53)).cell? ⟨b,12,none⟩=some (.slice (some ⟨g,0,none⟩) n c):=ak (au (Below.refl _ _) _) y1;clear ht e1 e2 ha gK;refine ah.mk ?_;go_wp2_with (first|(go_at_call 123;refine DL.out.mono ?_;rintro e w5 ⟨rfl,h5⟩;have H5:=ah.mk h5;clear h5;refine ah.out ?_)|(refine aB w3.heap.size rfl rfl 53 (.tmp 7) (.tmp 27) rfl #[.int .i64 (s:Int),.int .i64 (q:Int)] rfl rfl 53 _ (jQ _ _) rfl (by simp[Value.oneCell']) ?_))
  obtain⟨NB,jw⟩:∃NB,NB=w3.heap.size:=⟨_,rfl⟩;rw[←jw]at H5 ⊢;have z0:w5.cell? ⟨b,12,none⟩=some (.slice (some ⟨g,0,none⟩) n c):=by rw[aj (H5.out.blk 0 (by rw[List.getElem?_set_ne (by omega)];rfl)),Yd.nP OK.out.len,TV.out]
  have z1:w5.frozen? ⟨b,12,none⟩=false:=aJ (H5.out.blk 0 (by rw[List.getElem?_set_ne (by omega)];rfl)) _;have H6:ah (Has w0 (w5.setCell ⟨b,12,none⟩ (.slice (some ⟨g,0,none⟩) (n-1) c)) ((y.kL (.slice (some ⟨g,0,none⟩) (n-1) c) (y.taken.eraseIdx i)).star b++(M++[aF NB (.cells #[.int .i64 (s:Int),.int .i64 (q:Int)] 53)]))):=⟨by
   have h:=H5.out;rw[List.append_assoc]at h;exact pX OK.out.len h⟩
  have Zn:ah ((y.kL (.slice (some ⟨g,0,none⟩) (n-1) c) (y.taken.eraseIdx i)).ok N F):=⟨OK.out.takes (by have:=List.length_eraseIdx_le y.taken i;have:=jr.out;omega) (Nat.le_refl _) fun x hx=>OK.out.taken x (List.mem_of_mem_eraseIdx hx)⟩;have OP:=ah.mk (Jw q s hq H6.out Zn.out (by have:=(fP hq).2;omega) XE hs HA.out);have e0:(w5.setCell ⟨b,12,none⟩ (.slice (some ⟨g,0,none⟩) (n-1) c)).cell? ⟨NB,0,none⟩=some (.int .i64 (s:Int)):=by rw[aj (H6.out.blk (14+M.length) (aH (aT _ _) Zn.out.len))];rfl
  have e1:(w5.setCell ⟨b,12,none⟩ (.slice (some ⟨g,0,none⟩) (n-1) c)).cell? ⟨NB,1,none⟩=some (.int .i64 (q:Int)):=by rw[aj (H6.out.blk (14+M.length) (aH (aT _ _) Zn.out.len))];rfl
  have hp3:ah (2^q≤8):=⟨(fP hq).2⟩;clear jw y1 y2 c0 c1;refine ah.mk ?_;go_wp2_with (go_at_call 124;refine OP.out.mono ?_;rintro e w7 ⟨rfl,y3,Oh,hsm,h7⟩;have H7:=ah.mk h7;have lI:=ah.mk (And.intro Oh hsm);clear h7 Oh hsm)
  first|go_ret|skip
  rw[←HQ.out];exact⟨_,rfl,y3,lI.out.1.mono (by have:=hp3.out;omega) (Nat.le_refl _),lI.out.2.2,Has.first (M:=[_]) (by rw[List.append_assoc];exact H7.out)⟩
end
end
section
open Go.RowKit
theorem wW {js:List J}{bk:List Ch}{k i:Nat}{j j':J}(hij:js[i]?=some j)(h0:j.on=false)(h1:j'.on=true):most (js.set i j') bk k=most js bk k+8:=by
 have h:=uI hij j';rw[h0,h1]at h;simp only[Bool.false_eq_true,if_false,if_true,Nat.add_zero]at h;unfold most;omega
end
section
open Go.RowKit Go.ChangeMaps
section
variable {P:Program}{w0 w:World}{L:List bW}
theorem yj {κ:Type}[BEq κ][LawfulBEq κ]{ke:κ→Value}(H:Has w0 w L)(i:Nat){b:Nat}{l:List (κ×Value)}(hi:L[i]?=some (mapA b ke l))(t k e ty:TypeId)(ht:P.underlying t=some (.map k e)) :
 ∃v w',(Builtin.clear_ #[t] ty #[.map (some b)]).run P w=.ok v w'∧Has w0 w' (L.set i (mapA b ke [])):=by
 obtain⟨F,⟨⟨es,cl,hb,hm⟩,hF⟩,h3,hgo⟩:=H.get i _ hi;have hend:∀c,Has w0 (setBlock w b (.map #[] c)) (L.set i (mapA b ke [])):=fun c =>
  hgo _ _ ⟨F,⟨⟨#[],c,by rw[heap_setBlock_same hb],rfl⟩,hF⟩,⟨rfl,rfl,rfl,by simp[setBlock],fun k hk hn=>heap_setBlock_other hb _ fun e=>hn (e▸hF)⟩,fun k hk=>⟨.inl hk,by simp[setBlock];exact(h3 k hk).2⟩⟩
 refine⟨.tuple #[],_,?_,hend cl⟩;simp[Builtin.clear_,run_underlying ht,MapKept.run_getObj_map hb,MapKept.run_setObj_map _ hb,Result.andThen,setBlock]
end
def waits (js:List J):Nat:=(js.map fun j=>if j.how=1 then 1 else 0).sum
open Classical in
noncomputable def Gl (x:Nat) (w:World):Nat :=
 match w.cell? ⟨x,13,none⟩with
 |some (.pointer (some q))=>(match w.cell? ⟨q.block,12,none⟩with
  |some (.slice (some g) n _)=>((List.range n).map fun k=>if w.cell? ⟨g.block,k*26+19,none⟩=some (.int .i64 1)then 1 else 0).sum
  |_=>0)
 |_=>0
theorem Ol (js:List J)(f:Nat→Nat)(h:∀k j,js[k]?=some j→f k=if j.how=1 then 1 else 0):((List.range js.length).map f).sum=waits js:=by
 have e:(List.range js.length).map f=js.map fun j=>if j.how=1 then 1 else 0:=by
  apply List.ext_getElem?;intro k;rw[List.getElem?_map,List.getElem?_map];by_cases hk:k<js.length
  ·rw[List.getElem?_range hk,List.getElem?_eq_getElem hk];simp only[Option.map_some];rw[h k _ (List.getElem?_eq_getElem hk)]
  ·rw[List.getElem?_eq_none (by simp;omega),List.getElem?_eq_none (by omega)];rfl
 unfold waits;rw[e]
theorem tV {w0 w:World}{x:Nat}{pol now:Int}{js:List J}{bk:List Ch}{fl:List Int}{k:Nat}(hS:St w0 w x pol now js bk fl k):Gl x w=waits js:=by
 obtain⟨a,y,m,rfl,_,_,_,H⟩:=hS;have h13:w.cell? ⟨a.x,13,none⟩=some (.pointer (some ⟨a.p,0,none⟩)):=by rw[aj (H.blk 0 rfl)];rfl
 have h12:w.cell? ⟨a.p,12,none⟩=some (.slice a.jA js.length a.jc):=by rw[aj (H.blk 1 rfl)];rfl
 have HR:=fF H 2 rfl;unfold Gl;rw[h13];simp only;rw[h12];cases hA:a.jA with
 |none =>
  simp only;cases js with
  |nil=>rfl
  |cons j l =>
   obtain⟨g,hg,_⟩:=HR.get 0 j rfl;rw[hA]at hg;cases hg
 |some g =>
  simp only;refine(Ol js _ fun k j hk=>?_);obtain⟨g',hg,hr⟩:=HR.get k j hk;rw[hA]at hg;cases hg;have hc:=hr 19 _ j.lT;simp only at hc ⊢;rw[hc];by_cases h1:j.how=1
  ·rw[if_pos (by rw[h1]),if_pos h1]
  ·rw[if_neg (by intro e;injection e with e;injection e with _ e;exact h1 e),if_neg h1]
theorem AQ {js:List J}{k:Nat}{j:J}(h:js[k]?=some j)(j':J):waits (js.set k j')+(if j.how=1 then 1 else 0)=waits js+(if j'.how=1 then 1 else 0):=xC _ js k j j' h
inductive qc (now:Int):List J→List J→Prop
 |refl (js:List J):qc now js js
 |step {js bI:List J} (i:Nat) (j:J) (s:Nat) (hj:bI[i]?=some j) (hw:j.how=1) (hs:s≤7) (hd:s%2^ord j.s.size=0) (h:qc now js bI):qc now js (bI.set i { (j.go now s (ord j.s.size:Nat))with how:=3})
theorem qc.sane {now:Int}{js bI:List J}{bk:List Ch}(h:qc now js bI)(G:dL now js bk):dL now bI bk∧pays bI now=pays js now∧bI.length=js.length:=by
 induction h with
 |refl=>exact⟨G,rfl,rfl⟩
 |step i j s hj hw hs hd h ih =>
  obtain⟨G',hp,hl⟩:=ih;refine⟨G'.set hj _ ((G'.jobs i j hj).start hw G'.uH s hs hd) ?_,(CG hj _ (Af hw _ _)).trans hp,by rw[List.length_set];exact hl⟩;have e0:j.on=false:=by simp[J.on,hw]
  rw[e0];show(j.runs+1+if false=true then(1:Int)else 0)=j.runs+(if true=true then(1:Int)else 0)
  simp
theorem yu {P:Program}{ops:Array Oper}{rest:List Oper}{o:Oper}{a:Act}{w:World}{Q:Exit→Act→World→Prop}(hgd:o.guard=none)(d:Operand)(t:TypeId)
 (ho:o.op=.call { callee:=.builtin .clear,args:=#[d],argTypes:=#[t]}) (v:Value) (hd:a.eval d=v) {v':Value} {w':World}
 (hr:(Builtin.clear_ #[t] o.type #[v]).run P w=.ok v' w') (h:wpList P ops Q rest (a.put o.dst v') w'):wpList P ops Q (o::rest) a w :=
 wpList_plain hgd fun _ hK=>by
  unfold Oper.wp execOp;simp only[ho,resolve,invoke,builtin,Sem.run_bind,Sem.run_pure,Result.andThen_ok,List.map_toArray,List.map_cons,List.map_nil,hd,hr];exact hK _ _ h
theorem St.Dn {w0 w:World}{x:Nat}{pol now:Int}{js:List J}{bk:List Ch}{fl:List Int}{k:Nat}(hS:St w0 w x pol now js bk fl k):w.cell? ⟨x,0,none⟩=some (.int .i64 pol):=by
 obtain⟨a,y,m,rfl,_,_,_,H⟩:=hS;rw[aj (H.blk 0 rfl)];rfl
end
section
open Go.RowKit
section
variable {w0 w:World}{L:List bW}
theorem zH (H0:Has w0 w L)(it ij:Nat){p g n c:Nat}{tcs:Array Value}{js:List J}(hit:L[it]?=some (aF p (.cells tcs 122)))(hj:L[ij]?=some (aS (.slice (some ⟨g,0,none⟩) n c) js))(hc:tcs[12]?=some (.slice (some ⟨g,0,none⟩) n c))(hn:n≤1000)
 (k:Nat) (j:J) (hk:js[k]?=some j) (now:Int) (h1:j.since≤now) (h2:j.started≤now) (h3:now≤1099511627776) :
 Calls Tryz.prog 35 #[.pointer (some ⟨p,0,none⟩),.int .u32 ((k:Int)+1),.int .i64 now] w fun e w'=>((j.how=2)∧e=.returned (.int .i64 0)∧Has w0 w' (L.set ij (aS (.slice (some ⟨g,0,none⟩) n c) (js.set k { { j with since:=now} with how:=1}))))∨(¬(j.how=2)∧e=.returned (.int .i64 130)∧Has w0 w' L):=by
 have HA:=H0.alloc (.cells #[.int .i64 2] 3);have hz:∀i,i<([2]:List Int).length→(w.alloc (.cells #[.int .i64 2] 3)).cell? ⟨w.heap.size,0+i,none⟩=some (.int .i64 (([2]:List Int).getD i 0)):=fun i hi=>by
  rw[aj (heap_alloc_new w _)];rcases(by simp at hi;omega:i=0)with rfl<;>simp
 have YES:=fun hy=>ah.mk (BQ (cf:=1) HA it ij hit hj hc hn k j hk now h1 h2 h3 [2] (by decide) hz 1 hy);have NO:=fun hy=>ah.mk (kZ (cf:=1) HA it ij hit hj hc hn k j hk now h1 h2 h3 (.func (.func 65) #[] #[]) [2] (by decide) hz 1 hy);by_cases hy:([2]:List Int).contains j.how=true
 ·have Y:=YES hy;have hy2:j.how=2:=by simpa using hy
  clear YES NO hz HA H0 hit hj hc hk hy;go_enter Tryz.func35,Tryz.ntmps35;go_wp2_with (first|(go_at_call 64;refine Y.out.mono ?_;rintro e w2 ⟨rfl,hs⟩;have H2:=ah.mk hs;clear hs))
  go_ret;exact .inl ⟨hy2,rfl,H2.out⟩
 ·have hy1:([2]:List Int).contains j.how=false:=by simpa using hy
  have Y:=NO hy1;have hy2:¬(j.how=2):=by simpa using hy1
  clear YES NO hz HA H0 hit hj hc hk hy hy1;go_enter Tryz.func35,Tryz.ntmps35;go_wp2_with (first|(go_at_call 64;refine Y.out.mono ?_;rintro e w2 ⟨rfl,hs⟩;have H2:=ah.mk hs;clear hs))
  go_ret;exact .inr ⟨hy2,rfl,H2.out⟩
theorem zI (H0:Has w0 w L)(it ij:Nat){p g n c:Nat}{tcs:Array Value}{js:List J}(hit:L[it]?=some (aF p (.cells tcs 122)))(hj:L[ij]?=some (aS (.slice (some ⟨g,0,none⟩) n c) js))(hc:tcs[12]?=some (.slice (some ⟨g,0,none⟩) n c))(hn:n≤1000)
 (k:Nat) (j:J) (hk:js[k]?=some j) (now:Int) (h1:j.since≤now) (h2:j.started≤now) (h3:now≤1099511627776) (p1:0≤j.started) (p4:0≤j.ran) (p5:j.ran≤1099511627776) :
 Calls Tryz.prog 148 #[.pointer (some ⟨p,0,none⟩),.int .u32 ((k:Int)+1),.int .i64 now] w fun e w'=>((j.how=3)∧e=.returned (.int .i64 0)∧Has w0 w' (L.set ij (aS (.slice (some ⟨g,0,none⟩) n c) (js.set k { (j.till now)with how:=4}))))∨(¬(j.how=3)∧e=.returned (.int .i64 130)∧Has w0 w' L):=by
 have HA:=H0.alloc (.cells #[.int .i64 3] 3);have hz:∀i,i<([3]:List Int).length→(w.alloc (.cells #[.int .i64 3] 3)).cell? ⟨w.heap.size,0+i,none⟩=some (.int .i64 (([3]:List Int).getD i 0)):=fun i hi=>by
  rw[aj (heap_alloc_new w _)];rcases(by simp at hi;omega:i=0)with rfl<;>simp
 have YES:=fun hy=>ah.mk (oW (cf:=1) HA it ij hit hj hc hn k j hk now h1 h2 h3 p1 p4 p5 [3] (by decide) hz 4 hy);have NO:=fun hy=>ah.mk (kZ (cf:=1) HA it ij hit hj hc hn k j hk now h1 h2 h3 (.func (.func 116) #[] #[]) [3] (by decide) hz 4 hy);by_cases hy:([3]:List Int).contains j.how=true
 ·have Y:=YES hy;have hy2:j.how=3:=by simpa using hy
  clear YES NO hz HA H0 hit hj hc hk hy;go_enter Tryz.func148,Tryz.ntmps148;go_wp2_with (first|(go_at_call 64;refine Y.out.mono ?_;rintro e w2 ⟨rfl,hs⟩;have H2:=ah.mk hs;clear hs))
  go_ret;exact .inl ⟨hy2,rfl,H2.out⟩
 ·have hy1:([3]:List Int).contains j.how=false:=by simpa using hy
  have Y:=NO hy1;have hy2:¬(j.how=3):=by simpa using hy1
  clear YES NO hz HA H0 hit hj hc hk hy hy1;go_enter Tryz.func148,Tryz.ntmps148;go_wp2_with (first|(go_at_call 64;refine Y.out.mono ?_;rintro e w2 ⟨rfl,hs⟩;have H2:=ah.mk hs;clear hs))
  go_ret;exact .inr ⟨hy2,rfl,H2.out⟩
theorem Dp (H0:Has w0 w L)(it ij:Nat){p g n c:Nat}{tcs:Array Value}{js:List J}(hit:L[it]?=some (aF p (.cells tcs 122)))(hj:L[ij]?=some (aS (.slice (some ⟨g,0,none⟩) n c) js))(hc:tcs[12]?=some (.slice (some ⟨g,0,none⟩) n c))(hn:n≤1000)
 (k:Nat) (j:J) (hk:js[k]?=some j) (now:Int) (h1:j.since≤now) (h2:j.started≤now) (h3:now≤1099511627776) :
 Calls Tryz.prog 149 #[.pointer (some ⟨p,0,none⟩),.int .u32 ((k:Int)+1),.int .i64 now] w fun e w'=>((j.how=4)∧e=.returned (.int .i64 0)∧Has w0 w' (L.set ij (aS (.slice (some ⟨g,0,none⟩) n c) (js.set k { { j with started:=now} with how:=3}))))∨(¬(j.how=4)∧e=.returned (.int .i64 130)∧Has w0 w' L):=by
 have HA:=H0.alloc (.cells #[.int .i64 4] 3);have hz:∀i,i<([4]:List Int).length→(w.alloc (.cells #[.int .i64 4] 3)).cell? ⟨w.heap.size,0+i,none⟩=some (.int .i64 (([4]:List Int).getD i 0)):=fun i hi=>by
  rw[aj (heap_alloc_new w _)];rcases(by simp at hi;omega:i=0)with rfl<;>simp
 have YES:=fun hy=>ah.mk (EO (cf:=1) HA it ij hit hj hc hn k j hk now h1 h2 h3 [4] (by decide) hz 3 hy);have NO:=fun hy=>ah.mk (kZ (cf:=1) HA it ij hit hj hc hn k j hk now h1 h2 h3 (.func (.func 212) #[] #[]) [4] (by decide) hz 3 hy);by_cases hy:([4]:List Int).contains j.how=true
 ·have Y:=YES hy;have hy2:j.how=4:=by simpa using hy
  clear YES NO hz HA H0 hit hj hc hk hy;go_enter Tryz.func149,Tryz.ntmps149;go_wp2_with (first|(go_at_call 64;refine Y.out.mono ?_;rintro e w2 ⟨rfl,hs⟩;have H2:=ah.mk hs;clear hs))
  go_ret;exact .inl ⟨hy2,rfl,H2.out⟩
 ·have hy1:([4]:List Int).contains j.how=false:=by simpa using hy
  have Y:=NO hy1;have hy2:¬(j.how=4):=by simpa using hy1
  clear YES NO hz HA H0 hit hj hc hk hy hy1;go_enter Tryz.func149,Tryz.ntmps149;go_wp2_with (first|(go_at_call 64;refine Y.out.mono ?_;rintro e w2 ⟨rfl,hs⟩;have H2:=ah.mk hs;clear hs))
  go_ret;exact .inr ⟨hy2,rfl,H2.out⟩
theorem yw (H0:Has w0 w L)(it ij:Nat){p g n c:Nat}{tcs:Array Value}{js:List J}(hit:L[it]?=some (aF p (.cells tcs 122)))(hj:L[ij]?=some (aS (.slice (some ⟨g,0,none⟩) n c) js))(hc:tcs[12]?=some (.slice (some ⟨g,0,none⟩) n c))(hn:n≤1000)
 (k:Nat) (j:J) (hk:js[k]?=some j) (now:Int) (h1:j.since≤now) (h2:j.started≤now) (h3:now≤1099511627776) (p1:0≤j.started) (p4:0≤j.ran) (p5:j.ran≤1099511627776) :
 Calls Tryz.prog 66 #[.pointer (some ⟨p,0,none⟩),.int .u32 ((k:Int)+1),.int .i64 now,.int .i64 5] w fun e w'=>((j.how=3∨j.how=4)∧e=.returned (.int .i64 0)∧Has w0 w' (L.set ij (aS (.slice (some ⟨g,0,none⟩) n c) (js.set k { (j.till now)with how:=5}))))∨(¬(j.how=3∨j.how=4)∧e=.returned (.int .i64 130)∧Has w0 w' L):=by
 have HA:=H0.alloc (.cells #[.int .i64 3,.int .i64 4] 3);have hz:∀i,i<([3,4]:List Int).length→(w.alloc (.cells #[.int .i64 3,.int .i64 4] 3)).cell? ⟨w.heap.size,0+i,none⟩=some (.int .i64 (([3,4]:List Int).getD i 0)):=fun i hi=>by
  rw[aj (heap_alloc_new w _)];rcases(by simp at hi;omega:i=0∨i=1)with rfl|rfl<;>simp
 have IY:ah ((w.alloc (.cells #[.int .i64 3,.int .i64 4] 3)).cell? ⟨p,12,none⟩=some (.slice (some ⟨g,0,none⟩) n c)):=ah.mk (ak (au (Below.refl _ _) _) (by rw[aj (Has.blk H0 it hit) 12];exact hc));have KL:=ah.mk (show k<n by
  obtain⟨A,c',e⟩:=iW H0 ij hj;injection e with _ e2 _;rw[e2];exact(List.getElem?_eq_some_iff.1 hk).1)
 have YES:=fun hy=>ah.mk (oW (cf:=2) HA it ij hit hj hc hn k j hk now h1 h2 h3 p1 p4 p5 [3,4] (by decide) hz 5 hy);have NO:=fun hy=>ah.mk (kZ (cf:=2) HA it ij hit hj hc hn k j hk now h1 h2 h3 (.func (.func 116) #[] #[]) [3,4] (by decide) hz 5 hy);by_cases hy:([3,4]:List Int).contains j.how=true
 ·have Y:=YES hy;have hy2:j.how=3∨j.how=4:=by simpa using hy
  clear YES NO hz HA H0 hit hj hc hk hy;go_enter Tryz.func66,Tryz.ntmps66;go_wp2_with (first|(go_at_call 95;refine(eF k IY.out KL.out hn).mono ?_;rintro e w' ⟨rfl,hw⟩;obtain rfl:=hw.symm;clear hw)|(go_at_call 64;refine Y.out.mono ?_;rintro e w2 ⟨rfl,hs⟩;have H2:=ah.mk hs;clear hs))
  go_ret;exact .inl ⟨hy2,rfl,H2.out⟩
 ·have hy1:([3,4]:List Int).contains j.how=false:=by simpa using hy
  have Y:=NO hy1;have hy2:¬(j.how=3∨j.how=4):=by simpa using hy1
  clear YES NO hz HA H0 hit hj hc hk hy hy1;go_enter Tryz.func66,Tryz.ntmps66;go_wp2_with (first|(go_at_call 95;refine(eF k IY.out KL.out hn).mono ?_;rintro e w' ⟨rfl,hw⟩;obtain rfl:=hw.symm;clear hw)|(go_at_call 64;refine Y.out.mono ?_;rintro e w2 ⟨rfl,hs⟩;have H2:=ah.mk hs;clear hs))
  go_ret;exact .inr ⟨hy2,rfl,H2.out⟩
theorem uP (H0:Has w0 w L)(it ij:Nat){p g n c:Nat}{tcs:Array Value}{js:List J}(hit:L[it]?=some (aF p (.cells tcs 122)))(hj:L[ij]?=some (aS (.slice (some ⟨g,0,none⟩) n c) js))(hc:tcs[12]?=some (.slice (some ⟨g,0,none⟩) n c))(hn:n≤1000)
 (k:Nat) (j:J) (hk:js[k]?=some j) (now:Int) (h1:j.since≤now) (h2:j.started≤now) (h3:now≤1099511627776) (p1:0≤j.started) (p4:0≤j.ran) (p5:j.ran≤1099511627776) :
 Calls Tryz.prog 66 #[.pointer (some ⟨p,0,none⟩),.int .u32 ((k:Int)+1),.int .i64 now,.int .i64 6] w fun e w'=>((j.how=3∨j.how=4)∧e=.returned (.int .i64 0)∧Has w0 w' (L.set ij (aS (.slice (some ⟨g,0,none⟩) n c) (js.set k { (j.till now)with how:=6}))))∨(¬(j.how=3∨j.how=4)∧e=.returned (.int .i64 130)∧Has w0 w' L):=by
 have HA:=H0.alloc (.cells #[.int .i64 3,.int .i64 4] 3);have hz:∀i,i<([3,4]:List Int).length→(w.alloc (.cells #[.int .i64 3,.int .i64 4] 3)).cell? ⟨w.heap.size,0+i,none⟩=some (.int .i64 (([3,4]:List Int).getD i 0)):=fun i hi=>by
  rw[aj (heap_alloc_new w _)];rcases(by simp at hi;omega:i=0∨i=1)with rfl|rfl<;>simp
 have IY:ah ((w.alloc (.cells #[.int .i64 3,.int .i64 4] 3)).cell? ⟨p,12,none⟩=some (.slice (some ⟨g,0,none⟩) n c)):=ah.mk (ak (au (Below.refl _ _) _) (by rw[aj (Has.blk H0 it hit) 12];exact hc));have KL:=ah.mk (show k<n by
  obtain⟨A,c',e⟩:=iW H0 ij hj;injection e with _ e2 _;rw[e2];exact(List.getElem?_eq_some_iff.1 hk).1)
 have YES:=fun hy=>ah.mk (oW (cf:=2) HA it ij hit hj hc hn k j hk now h1 h2 h3 p1 p4 p5 [3,4] (by decide) hz 6 hy);have NO:=fun hy=>ah.mk (kZ (cf:=2) HA it ij hit hj hc hn k j hk now h1 h2 h3 (.func (.func 116) #[] #[]) [3,4] (by decide) hz 6 hy);by_cases hy:([3,4]:List Int).contains j.how=true
 ·have Y:=YES hy;have hy2:j.how=3∨j.how=4:=by simpa using hy
  clear YES NO hz HA H0 hit hj hc hk hy;go_enter Tryz.func66,Tryz.ntmps66;go_wp2_with (first|(go_at_call 95;refine(eF k IY.out KL.out hn).mono ?_;rintro e w' ⟨rfl,hw⟩;obtain rfl:=hw.symm;clear hw)|(go_at_call 64;refine Y.out.mono ?_;rintro e w2 ⟨rfl,hs⟩;have H2:=ah.mk hs;clear hs))
  go_ret;exact .inl ⟨hy2,rfl,H2.out⟩
 ·have hy1:([3,4]:List Int).contains j.how=false:=by simpa using hy
  have Y:=NO hy1;have hy2:¬(j.how=3∨j.how=4):=by simpa using hy1
  clear YES NO hz HA H0 hit hj hc hk hy hy1;go_enter Tryz.func66,Tryz.ntmps66;go_wp2_with (first|(go_at_call 95;refine(eF k IY.out KL.out hn).mono ?_;rintro e w' ⟨rfl,hw⟩;obtain rfl:=hw.symm;clear hw)|(go_at_call 64;refine Y.out.mono ?_;rintro e w2 ⟨rfl,hs⟩;have H2:=ah.mk hs;clear hs))
  go_ret;exact .inr ⟨hy2,rfl,H2.out⟩
theorem yx (H0:Has w0 w L)(it ij:Nat){p g n c:Nat}{tcs:Array Value}{js:List J}(hit:L[it]?=some (aF p (.cells tcs 122)))(hj:L[ij]?=some (aS (.slice (some ⟨g,0,none⟩) n c) js))(hc:tcs[12]?=some (.slice (some ⟨g,0,none⟩) n c))(hn:n≤1000)
 (k:Nat) (j:J) (hk:js[k]?=some j) (now:Int) (h1:j.since≤now) (h2:j.started≤now) (h3:now≤1099511627776) (p1:0≤j.started) (p4:0≤j.ran) (p5:j.ran≤1099511627776) :
 Calls Tryz.prog 66 #[.pointer (some ⟨p,0,none⟩),.int .u32 ((k:Int)+1),.int .i64 now,.int .i64 8] w fun e w'=>((j.how=3∨j.how=4)∧e=.returned (.int .i64 0)∧Has w0 w' (L.set ij (aS (.slice (some ⟨g,0,none⟩) n c) (js.set k { (j.till now)with how:=8}))))∨(¬(j.how=3∨j.how=4)∧e=.returned (.int .i64 130)∧Has w0 w' L):=by
 have HA:=H0.alloc (.cells #[.int .i64 3,.int .i64 4] 3);have hz:∀i,i<([3,4]:List Int).length→(w.alloc (.cells #[.int .i64 3,.int .i64 4] 3)).cell? ⟨w.heap.size,0+i,none⟩=some (.int .i64 (([3,4]:List Int).getD i 0)):=fun i hi=>by
  rw[aj (heap_alloc_new w _)];rcases(by simp at hi;omega:i=0∨i=1)with rfl|rfl<;>simp
 have IY:ah ((w.alloc (.cells #[.int .i64 3,.int .i64 4] 3)).cell? ⟨p,12,none⟩=some (.slice (some ⟨g,0,none⟩) n c)):=ah.mk (ak (au (Below.refl _ _) _) (by rw[aj (Has.blk H0 it hit) 12];exact hc));have KL:=ah.mk (show k<n by
  obtain⟨A,c',e⟩:=iW H0 ij hj;injection e with _ e2 _;rw[e2];exact(List.getElem?_eq_some_iff.1 hk).1)
 have YES:=fun hy=>ah.mk (oW (cf:=2) HA it ij hit hj hc hn k j hk now h1 h2 h3 p1 p4 p5 [3,4] (by decide) hz 8 hy);have NO:=fun hy=>ah.mk (kZ (cf:=2) HA it ij hit hj hc hn k j hk now h1 h2 h3 (.func (.func 116) #[] #[]) [3,4] (by decide) hz 8 hy);by_cases hy:([3,4]:List Int).contains j.how=true
 ·have Y:=YES hy;have hy2:j.how=3∨j.how=4:=by simpa using hy
  clear YES NO hz HA H0 hit hj hc hk hy;go_enter Tryz.func66,Tryz.ntmps66;go_wp2_with (first|(go_at_call 95;refine(eF k IY.out KL.out hn).mono ?_;rintro e w' ⟨rfl,hw⟩;obtain rfl:=hw.symm;clear hw)|(go_at_call 64;refine Y.out.mono ?_;rintro e w2 ⟨rfl,hs⟩;have H2:=ah.mk hs;clear hs))
  go_ret;exact .inl ⟨hy2,rfl,H2.out⟩
 ·have hy1:([3,4]:List Int).contains j.how=false:=by simpa using hy
  have Y:=NO hy1;have hy2:¬(j.how=3∨j.how=4):=by simpa using hy1
  clear YES NO hz HA H0 hit hj hc hk hy hy1;go_enter Tryz.func66,Tryz.ntmps66;go_wp2_with (first|(go_at_call 95;refine(eF k IY.out KL.out hn).mono ?_;rintro e w' ⟨rfl,hw⟩;obtain rfl:=hw.symm;clear hw)|(go_at_call 64;refine Y.out.mono ?_;rintro e w2 ⟨rfl,hs⟩;have H2:=ah.mk hs;clear hs))
  go_ret;exact .inr ⟨hy2,rfl,H2.out⟩
end
end
section
open Go.RowKit
def J.over (j:J)(now d:Int):J:=if d=0 then { j.back now with how:=1} else { j.till now with how:=d}
def J.iY (j:J)(now d:Int):Ch:=⟨j.id,j.s.account,2^ord j.s.size,(j.till now).ran,d,now⟩
def J.can (j:J)(d:Int):Prop:=(j.on=true∧(d=0→j.runs≤2))∨(d=7∧(j.how=1∨j.how=2))
def ways (d:Int):Prop:=d=0∨d=5∨d=6∨d=7∨d=8
theorem J.mF (j:J)(now d:Int)(h:ways d):(j.over now d).on=false:=by
 unfold J.over;rcases h with rfl|rfl|rfl|rfl|rfl<;>rfl
theorem J.AU (j:J)(now d:Int):(j.over now d).runs=j.runs:=by
 unfold J.over;split
 ·rfl
 ·exact(j.gQ now).2.2.2.2.2.1
theorem J.ok.over {now d:Int}{k:Nat}{j:J}(h:j.ok now k)(hd:ways d)(hn:0≤now)(hr:d=0→j.runs≤2):(j.over now d).ok now k:=by
 unfold J.over;split
 ·rename_i e
  exact h.gV (hr e) hn
 ·rename_i e
  exact h.ended d (by rcases hd with h|h|h|h|h<;>omega) (by rcases hd with h|h|h|h|h<;>omega)
theorem J.ok.iY {now d:Int}{k:Nat}{j:J}(h:j.ok now k)(hd:ways d)(hn:0≤now)(hk:k<500):(j.iY now d).ok now:=by
 have ho:=lU h.spec.2.2.1 h.spec.2.2.2.1;have hp:=fP ho.1;exact⟨by show 1≤j.id;rw[h.id];omega,by show j.id≤500;rw[h.id];omega,h.spec.1,hp.1,hp.2,h.till.1,h.till.2,hd,hn,Int.le_refl _⟩
theorem dL.over {now d:Int}{js:List J}{bk:List Ch}(G:dL now js bk){k:Nat}{j:J}(hk:js[k]?=some j)(hd:ways d)(hon:j.on=true)(hr:d=0→j.runs≤2) :
 dL now (js.set k (j.over now d)) (bk++[j.iY now d])∧paid (bk++[j.iY now d])+pays (js.set k (j.over now d)) now=paid bk+pays js now:=by
 have hlt:=(List.getElem?_eq_some_iff.1 hk).1;have hlen:=G.len;have J0:=G.jobs k j hk;refine⟨G.iY hk _ _ (J0.over hd G.uH hr) hon (j.mF now d hd) (j.AU now d) (J0.iY hd G.uH (by omega)),?_⟩;rw[PO,EU hk,nU (j.mF now d hd),PN hon];have hb:=J0.block (by simpa[J.on]using hon);have e:j.order.toNat=ord j.s.size:=by rw[hb.1];simp
 rw[e];show paid bk+((2^ord j.s.size:Nat):Int)*(j.till now).ran+_=_
 omega
theorem dL.cancel {now:Int}{js:List J}{bk:List Ch}(G:dL now js bk){k:Nat}{j:J}(hk:js[k]?=some j)(hw:j.how=1∨j.how=2) :
 dL now (js.set k (j.over now 7)) bk∧pays (js.set k (j.over now 7)) now=pays js now:=by
 have hoff:j.on=false:=by rcases hw with h|h<;>simp[J.on,h]
 have ho:=j.mF now 7 (.inr (.inr (.inr (.inl rfl))));refine⟨G.set hk _ ((G.jobs k j hk).over (.inr (.inr (.inr (.inl rfl)))) G.uH fun h=>by omega) ?_,CG hk _ (by rw[nU hoff,nU ho])⟩;rw[hoff,ho,j.AU]
theorem AV {js:List J}{bk:List Ch}{k i:Nat}{j j':J}(c:Ch)(hij:js[i]?=some j)(h0:j.on=true)(h1:j'.on=false):most (js.set i j') (bk++[c]) k=most js bk k+16:=by
 have h:=uI hij j';rw[h0,h1]at h;simp only[Bool.false_eq_true,if_false,if_true,Nat.add_zero]at h;unfold most;rw[List.length_append,List.length_singleton];omega
theorem lK {js:List J}{bk:List Ch}{k i:Nat}{j j':J}(hij:js[i]?=some j)(h:j'.on=j.on):most (js.set i j') bk k=most js bk k:=by
 have h:=uI hij j';rename_i e
 rw[e]at h;unfold most;omega
section
variable {w0 w:World}{L:List bW}
theorem AX (H0:Has w0 w L)(it ij:Nat){p g n c:Nat}{tcs:Array Value}{js:List J}(hit:L[it]?=some (aF p (.cells tcs 122)))(hj:L[ij]?=some (aS (.slice (some ⟨g,0,none⟩) n c) js))(hc:tcs[12]?=some (.slice (some ⟨g,0,none⟩) n c))(hn:n≤1000)
 (k:Nat) (j:J) (hk:js[k]?=some j) (now d:Int) (h1:j.since≤now) (h2:j.started≤now) (h3:now≤1099511627776) (p1:0≤j.started) (p4:0≤j.ran) (p5:j.ran≤1099511627776) (hd:d=5∨d=6∨d=7∨d=8) :
 Calls Tryz.prog 66 #[.pointer (some ⟨p,0,none⟩),.int .u32 ((k:Int)+1),.int .i64 now,.int .i64 d] w fun e w'=>(j.can d∧e=.returned (.int .i64 0)∧Has w0 w' (L.set ij (aS (.slice (some ⟨g,0,none⟩) n c) (js.set k (j.over now d)))))∨(¬j.can d∧e=.returned (.int .i64 130)∧Has w0 w' L):=by
 have on:j.on=true↔(j.how=3∨j.how=4):=by simp[J.on]
 have c5:∀d:Int,d≠0→d≠7→((j.how=3∨j.how=4)↔j.can d):=fun d h0 h7=>⟨fun h=>.inl ⟨on.2 h,fun e=>absurd e h0⟩,fun h=>h.elim (fun h=>on.1 h.1) fun h=>absurd h.1 h7⟩;have c7:(j.how=3∨j.how=4∨j.how=1∨j.how=2)↔j.can 7:=by
  constructor
  ·intro h;rcases h with h|h|h|h
   ·exact .inl ⟨on.2 (.inl h),fun e=>by cases e⟩
   ·exact .inl ⟨on.2 (.inr h),fun e=>by cases e⟩
   ·exact .inr ⟨rfl,.inl h⟩
   ·exact .inr ⟨rfl,.inr h⟩
  ·intro h;rcases h with h|⟨_,h⟩
   ·rcases on.1 h.1 with h|h
    ·exact .inl h
    ·exact .inr (.inl h)
   ·rcases h with h|h
    ·exact .inr (.inr (.inl h))
    ·exact .inr (.inr (.inr h))
 rcases hd with rfl|rfl|rfl|rfl
 ·refine(yw H0 it ij hit hj hc hn k j hk now h1 h2 h3 p1 p4 p5).mono fun e w' h=>?_;rw[c5 5 (by decide) (by decide)]at h;exact h
 ·refine(uP H0 it ij hit hj hc hn k j hk now h1 h2 h3 p1 p4 p5).mono fun e w' h=>?_;rw[c5 6 (by decide) (by decide)]at h;exact h
 ·refine(qO H0 it ij hit hj hc hn k j hk now h1 h2 h3 p1 p4 p5).mono fun e w' h=>?_;rw[c7]at h;exact h
 ·refine(yx H0 it ij hit hj hc hn k j hk now h1 h2 h3 p1 p4 p5).mono fun e w' h=>?_;rw[c5 8 (by decide) (by decide)]at h;exact h
theorem yA (H0:Has w0 w L)(it ij:Nat){p g n c:Nat}{tcs:Array Value}{js:List J}(hit:L[it]?=some (aF p (.cells tcs 122)))(hj:L[ij]?=some (aS (.slice (some ⟨g,0,none⟩) n c) js))(hc:tcs[12]?=some (.slice (some ⟨g,0,none⟩) n c))(hn:n≤1000)
 (k:Nat) (j:J) (hk:js[k]?=some j) (now:Int) (h1:j.since≤now) (h2:j.started≤now) (h3:now≤1099511627776) (hq:tcs[3]?=some (.int .i64 2)) :
 Calls Tryz.prog 67 #[.pointer (some ⟨p,0,none⟩),.int .u32 ((k:Int)+1),.int .i64 now] w fun e w'=>(j.can 0∧e=.returned (.int .i64 0)∧Has w0 w' (L.set ij (aS (.slice (some ⟨g,0,none⟩) n c) (js.set k (j.over now 0)))))∨(¬j.can 0∧∃r:Int,bad r∧e=.returned (.int .i64 r)∧Has w0 w' L):=by
 have on:j.on=true↔(j.how=3∨j.how=4):=by simp[J.on]
 refine(zx H0 it ij hit hj hc hn k j hk now h1 h2 h3 hq).mono fun e w' h=>?_;rcases h with⟨a,b,c,d⟩|⟨a,b,c,d⟩|⟨a,c,d⟩
 ·exact .inl ⟨.inl ⟨on.2 a,fun _=>by omega⟩,c,d⟩
 ·refine .inr ⟨fun h=>?_,5,⟨by decide,by decide,by decide⟩,c,d⟩;rcases h with h|h
  ·have:=h.2 rfl;omega
  ·exact absurd h.1 (by decide)
 ·refine .inr ⟨fun h=>?_,130,⟨by decide,by decide,by decide⟩,c,d⟩;rcases h with h|h
  ·exact a (on.1 h.1)
  ·exact absurd h.1 (by decide)
end
end
section
open Go.RowKit
inductive ig (now:Int) (js:List J) (bk:List Ch):List J→List Ch→Prop
 |refl:ig now js bk js bk
 |start {bI:List J} {bk':List Ch} (i:Nat) (j:J) (s:Nat) (hj:bI[i]?=some j) (hw:j.how=1) (hs:s≤7) (hd:s%2^ord j.s.size=0) (h:ig now js bk bI bk'):ig now js bk (bI.set i { (j.go now s (ord j.s.size:Nat))with how:=3}) bk'
 |suspend {bI:List J} {bk':List Ch} (i:Nat) (j:J) (hj:bI[i]?=some j) (hw:j.how=3) (h:ig now js bk bI bk'):ig now js bk (bI.set i { j.till now with how:=4}) bk'
 |resume {bI:List J} {bk':List Ch} (i:Nat) (j:J) (hj:bI[i]?=some j) (hw:j.how=4) (h:ig now js bk bI bk'):ig now js bk (bI.set i { { j with started:=now} with how:=3}) bk'
 |over {bI:List J} {bk':List Ch} (i:Nat) (j:J) (d:Int) (hj:bI[i]?=some j) (hd:ways d) (hon:j.on=true) (hr:d=0→j.runs≤2) (h:ig now js bk bI bk'):ig now js bk (bI.set i (j.over now d)) (bk'++[j.iY now d])
 |cancel {bI:List J} {bk':List Ch} (i:Nat) (j:J) (hj:bI[i]?=some j) (hw:j.how=1∨j.how=2) (h:ig now js bk bI bk'):ig now js bk (bI.set i (j.over now 7)) bk'
 |hold {bI:List J} {bk':List Ch} (i:Nat) (j:J) (hj:bI[i]?=some j) (hw:j.how=1) (h:ig now js bk bI bk'):ig now js bk (bI.set i { j with how:=2}) bk'
 |release {bI:List J} {bk':List Ch} (i:Nat) (j:J) (hj:bI[i]?=some j) (hw:j.how=2) (h:ig now js bk bI bk'):ig now js bk (bI.set i { { j with since:=now} with how:=1}) bk'
theorem ig.trans {now:Int}{a b c:List J}{x y z:List Ch}(h:ig now a x b y)(k:ig now b y c z):ig now a x c z:=by
 induction k with
 |refl=>exact h
 |start i j s hj hw hs hd _ ih=>exact .start i j s hj hw hs hd ih
 |suspend i j hj hw _ ih=>exact .suspend i j hj hw ih
 |resume i j hj hw _ ih=>exact .resume i j hj hw ih
 |over i j d hj hd hon hr _ ih=>exact .over i j d hj hd hon hr ih
 |cancel i j hj hw _ ih=>exact .cancel i j hj hw ih
 |hold i j hj hw _ ih=>exact .hold i j hj hw ih
 |release i j hj hw _ ih=>exact .release i j hj hw ih
theorem ig.sane {now:Int}{js bI:List J}{bk bk':List Ch}(h:ig now js bk bI bk')(G:dL now js bk):dL now bI bk'∧paid bk'+pays bI now=paid bk+pays js now∧bI.length=js.length:=by
 have keep:∀ {bI:List J} {bk':List Ch} {i:Nat} {j j':J},bI[i]?=some j→(dL now bI bk'∧paid bk'+pays bI now=paid bk+pays js now∧bI.length=js.length)→(dL now bI bk'→j'.ok now i)→j'.runs+(if j.on then 1 else 0)=j.runs+(if j'.on then 1 else 0)→j'.pay now=j.pay now →
  dL now (bI.set i j') bk'∧paid bk'+pays (bI.set i j') now=paid bk+pays js now∧(bI.set i j').length=js.length:=by
  intro bI bk' i j j' hj ih hok hr hp;obtain⟨G',h2,hl⟩:=ih;exact⟨G'.set hj _ (hok G') hr,by rw[CG hj _ hp];exact h2,by rw[List.length_set];exact hl⟩
 induction h with
 |refl=>exact⟨G,rfl,rfl⟩
 |start i j s hj hw hs hd h ih =>
  refine keep hj ih (fun G'=>(G'.jobs i j hj).start hw G'.uH s hs hd) ?_ (Af hw _ _);have e0:j.on=false:=by simp[J.on,hw]
  rw[e0];show(j.runs+1+if false=true then(1:Int)else 0)=j.runs+(if true=true then(1:Int)else 0)
  simp
 |suspend i j hj hw h ih =>
  refine keep hj ih (fun G'=>(G'.jobs i j hj).suspend hw) ?_ (EX hw);have e0:j.on=true:=by simp[J.on,hw]
  have e1:({ j.till now with how:=4}:J).runs=j.runs:=(j.gQ now).2.2.2.2.2.1;rw[e0,e1];rfl
 |resume i j hj hw h ih =>
  refine keep hj ih (fun G'=>(G'.jobs i j hj).resume hw G'.uH) ?_ (IZ hw);have e0:j.on=true:=by simp[J.on,hw]
  rw[e0];rfl
 |over i j d hj hd hon hr h ih =>
  obtain⟨G',h2,hl⟩:=ih;have:=G'.over hj hd hon hr;exact⟨this.1,by rw[this.2];exact h2,by rw[List.length_set];exact hl⟩
 |cancel i j hj hw h ih =>
  obtain⟨G',h2,hl⟩:=ih;have:=G'.cancel hj hw;exact⟨this.1,by rw[this.2];exact h2,by rw[List.length_set];exact hl⟩
 |hold i j hj hw h ih =>
  have e0:j.on=false:=by simp[J.on,hw]
  refine keep hj ih (fun G'=>(G'.jobs i j hj).hold hw) ?_ ?_
  ·rw[e0];rfl
  ·rw[nU e0,nU rfl]
 |release i j hj hw h ih =>
  have e0:j.on=false:=by simp[J.on,hw]
  refine keep hj ih (fun G'=>(G'.jobs i j hj).release hw G'.uH) ?_ ?_
  ·rw[e0];rfl
  ·rw[nU e0,nU rfl]
inductive Turned (now:Int) (js:List J):List J→Prop
 |refl:Turned now js js
 |start {bI:List J} (i:Nat) (j:J) (s:Nat) (hj:bI[i]?=some j) (hw:j.how=1) (hs:s≤7) (hd:s%2^ord j.s.size=0) (h:Turned now js bI):Turned now js (bI.set i { (j.go now s (ord j.s.size:Nat))with how:=3})
 |suspend {bI:List J} (i:Nat) (j:J) (hj:bI[i]?=some j) (hw:j.how=3) (h:Turned now js bI):Turned now js (bI.set i { j.till now with how:=4})
 |resume {bI:List J} (i:Nat) (j:J) (hj:bI[i]?=some j) (hw:j.how=4) (h:Turned now js bI):Turned now js (bI.set i { { j with started:=now} with how:=3})
theorem Turned.went {now:Int}{js bI:List J}(h:Turned now js bI)(bk:List Ch):ig now js bk bI bk:=by
 induction h with
 |refl=>exact .refl
 |start i j s hj hw hs hd _ ih=>exact .start i j s hj hw hs hd ih
 |suspend i j hj hw _ ih=>exact .suspend i j hj hw ih
 |resume i j hj hw _ ih=>exact .resume i j hj hw ih
theorem Turned.trans {now:Int}{a b c:List J}(h:Turned now a b)(k:Turned now b c):Turned now a c:=by
 induction k with
 |refl=>exact h
 |start i j s hj hw hs hd _ ih=>exact .start i j s hj hw hs hd ih
 |suspend i j hj hw _ ih=>exact .suspend i j hj hw ih
 |resume i j hj hw _ ih=>exact .resume i j hj hw ih
theorem qc.turned {now:Int}{js bI:List J}(h:qc now js bI):Turned now js bI:=by
 induction h with
 |refl=>exact .refl
 |step i j s hj hw hs hd _ ih=>exact .start i j s hj hw hs hd ih
end
end Go.Proofs.YtandhagfhppgaaaGreatDoor
