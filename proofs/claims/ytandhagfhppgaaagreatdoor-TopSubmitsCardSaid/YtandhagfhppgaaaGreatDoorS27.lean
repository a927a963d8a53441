/- Part 27 of a proof: contracts of the functions that the law reaches. No condition. -/
import Derived.Test.YtandhagfhppgaaaGreatDoorS18
import Derived.Test.YtandhagfhppgaaaGreatDoorS25
set_option linter.all false
set_option maxRecDepth 100000
set_option maxHeartbeats 16000000
namespace Go.Proofs.YtandhagfhppgaaaGreatDoor
section
open Go.RowKit
def beside (s q:Nat):Nat:=if s/2^q%2=0 then s+2^q else s-2^q
theorem Qw (s q z:Nat)(hs:s≤7)(hq:q≤2)(hz:z=2^q):bits .xor .i64 (s:Int) (z:Int)=(beside s q:Int):=by
 subst hz;rcases(by omega:q=0∨q=1∨q=2)with rfl|rfl|rfl<;>rcases(by omega:s=0∨s=1∨s=2∨s=3∨s=4∨s=5∨s=6∨s=7)with rfl|rfl|rfl|rfl|rfl|rfl|rfl|rfl<;>kernel_rfl
theorem Og (s q:Nat)(hs:s≤7)(hq:q≤2)(ha:s%2^q=0):min s (beside s q)≤7∧min s (beside s q)%2^(q+1)=0:=by
 unfold beside;rcases(by omega:q=0∨q=1∨q=2)with rfl|rfl|rfl<;>rcases(by omega:s=0∨s=1∨s=2∨s=3∨s=4∨s=5∨s=6∨s=7)with rfl|rfl|rfl|rfl|rfl|rfl|rfl|rfl<;>first|decide|(exfalso;revert ha;decide)
theorem TJ (a b m:Nat)(h:m=min a b)(W:World):(Builtin.min_ #[3,3] 3 #[.int .i64 (a:Int),.int .i64 (b:Int)]).run Tryz.prog W=.ok (.int .i64 (m:Int)) W:=by
 subst h;by_cases hh:(b:Int)<a
 ·simp[Builtin.min_,Builtin.min2,hh,Nat.min_eq_right (show b≤a by omega)]
 ·simp[Builtin.min_,Builtin.min2,hh,Nat.min_eq_left (show a≤b by omega)]
section
variable {w0 w:World}{M:List bW}{y:Yd}{b N F:Nat}
theorem uO (H:Has w0 w (y.star b++M))(ok:y.ok N F)(hN:N≤900000)(s q:Nat)(hs:s≤7)(hq:q≤3)(ha:s%2^q=0) :
 Calls Tryz.prog 79 #[.pointer (some ⟨b,0,none⟩),.agg #[.int .i64 (s:Int),.int .i64 (q:Int)]] w fun e w'=>e=.returned (.tuple #[])∧∃y':Yd,y'.ok (N+1) F∧y'.same y∧Has w0 w' (y'.star b++M):=by
 refine named fun R HQ=>?_;have H1:ah (Has w0 (w.alloc (.cells #[.int .i64 (s:Int),.int .i64 (q:Int)] 53)) (y.star b++(M++[aF w.heap.size (.cells #[.int .i64 (s:Int),.int .i64 (q:Int)] 53)]))):=⟨by rw[←List.append_assoc];exact H.aZ _⟩;have OK:=ah.mk ok;have HA:=ah.mk ha;obtain⟨NB,jw⟩:∃NB,NB=w.heap.size:=⟨_,rfl⟩;have SZ:=ah.mk fun(o:Nat) (ho:o≤3) W=>iI o ho W;have WU:=ah.mk jw;clear H ok ha jw;go_enter Tryz.func79,Tryz.ntmps79;go_wp2_with fail
 rw[←WU.out]at H1 ⊢;clear WU;go_loopw [] (fun wr=>∃(s q:Nat) (y2:Yd),s≤7∧q≤3∧ah (s%2^q=0)∧ah (y2.ok N F∧y2.same y)∧ah (Has w0 wr (y2.star b++(M++[aF NB (.cells #[.int .i64 (s:Int),.int .i64 (q:Int)] 53)])))) (fun wr=>3-(intOf ((wr.cell? ⟨NB,1,none⟩).getD undef)).toNat)
 case atStart=>exact⟨s,q,y,hs,hq,HA,⟨OK.out,rfl,rfl⟩,H1⟩
 case round =>
  clear H1 HA OK hs hq;obtain⟨s,q,y2,hs,hq,HA,eU,H2⟩:=hrel;have b0:wr.cell? ⟨NB,0,none⟩=some (.int .i64 (s:Int)):=by rw[aj (H2.out.blk (14+M.length) (aH (aT _ _) eU.out.1.len))];rfl
  have b1:wr.cell? ⟨NB,1,none⟩=some (.int .i64 (q:Int)):=by rw[aj (H2.out.blk (14+M.length) (aH (aT _ _) eU.out.1.len))];rfl
  have y0:wr.cell? ⟨b,0,none⟩=some (.int .i64 3):=by rw[aj (H2.out.blk 0 bF)];rfl
  have MS:ah (3-(intOf ((wr.cell? ⟨NB,1,none⟩).getD undef)).toNat=3-q):=⟨by rw[b1];simp[intOf]⟩;by_cases h3:q<3
  ·have h3':(q:Int)<3:=by omega
   go_wp2_with fail
   go_quiet (fail)
   obtain⟨V1,hV⟩:∃V,V=wr.drewN nq:=⟨_,rfl⟩;have H3:=ah.mk (H2.out.drewN nq);rw[←hV]at H3 ⊢;clear hV b0 b1 y0 H2;have b0:V1.cell? ⟨NB,0,none⟩=some (.int .i64 (s:Int)):=by rw[aj (H3.out.blk (14+M.length) (aH (aT _ _) eU.out.1.len))];rfl
   have b1:V1.cell? ⟨NB,1,none⟩=some (.int .i64 (q:Int)):=by rw[aj (H3.out.blk (14+M.length) (aH (aT _ _) eU.out.1.len))];rfl
   have y0:V1.cell? ⟨b,0,none⟩=some (.int .i64 3):=by rw[aj (H3.out.blk 0 bF)];rfl
   obtain⟨z,hz⟩:∃z:Nat,z=2^q:=⟨_,rfl⟩;obtain⟨o,ho⟩:∃o:Nat,o=beside s q:=⟨_,rfl⟩;have xr:=Qw s q z hs (by omega) hz;rw[←ho]at xr;have SO:=ah.mk fun W=>SZ.out q hq W;rw[←hz]at SO;obtain⟨m,hm⟩:∃m:Nat,m=min s o:=⟨_,rfl⟩;have mr:=fun W=>TJ s o m hm W;have HM:ah (m≤7∧m%2^(q+1)=0):=⟨by rw[hm,ho];exact Og s q hs (by omega) HA.out⟩;clear hz ho hm;obtain⟨_,_,v,l,hf,Dl⟩:=eU.out.1.free (show q≤10 by omega);obtain⟨A,c,rfl⟩:=fB H3.out (3+q) (dX hf);obtain⟨n,hn⟩:∃n,n=l.length:=⟨_,rfl⟩;rw[←hn]at hf;have qH:=ah.mk hf;have jr:=ah.mk (And.intro hn Dl);have VO:=Ju (show q≤3 by omega);clear hf hn Dl;have y1:V1.cell? ⟨b,1+q,none⟩=some (.slice A n c):=by rw[aj (H3.out.blk 0 bF)];exact Yd.free_at qH.out
   go_wp2_with fail
   go_quiet ((go_at_call 130;exact Calls.quiet_of_same (SO.out _)))
   obtain⟨V2,hV⟩:∃V,V=V1.drewN nq:=⟨_,rfl⟩;have H4:=ah.mk (H3.out.drewN nq);rw[←hV]at H4 ⊢;clear hV b0 b1 y0 y1 H3;have b0:V2.cell? ⟨NB,0,none⟩=some (.int .i64 (s:Int)):=by rw[aj (H4.out.blk (14+M.length) (aH (aT _ _) eU.out.1.len))];rfl
   have b1:V2.cell? ⟨NB,1,none⟩=some (.int .i64 (q:Int)):=by rw[aj (H4.out.blk (14+M.length) (aH (aT _ _) eU.out.1.len))];rfl
   have y0:V2.cell? ⟨b,0,none⟩=some (.int .i64 3):=by rw[aj (H4.out.blk 0 bF)];rfl
   have y1:V2.cell? ⟨b,1+q,none⟩=some (.slice A n c):=by rw[aj (H4.out.blk 0 bF)];exact Yd.free_at qH.out
   have uy:=ah.mk fun q'=>jO (w:=V2.drewN q') (o:Int) ((bK H4.out (3+q) (dX qH.out) bJ).below (aC (Below.refl _ _) q')) (by have:=jr.out;omega);obtain⟨kk,hkk⟩:∃kk,kk=bs l (o:Int):=⟨_,rfl⟩;obtain⟨hb,hhb⟩:∃hb,hb=kX l (o:Int):=⟨_,rfl⟩;have HKK:ah (kk≤n∧(hb=true→kk<n)):=⟨by have h1:=Ap l (o:Int);have h2:=jr.out.1;exact⟨by omega,fun h=>by rw[hhb]at h;have:=xQ h;omega⟩⟩;rw[←hkk,←hhb]at uy;clear hkk hhb;go_wp2_with fail
   go_quiet ((go_at_call 76;exact Calls.quiet_of_same (uy.out _)))
   obtain⟨V3,hV⟩:∃V,V=V2.drewN nq:=⟨_,rfl⟩;have H5:=ah.mk (H4.out.drewN nq);rw[←hV]at H5 ⊢;clear hV b0 b1 y0 y1 H4;have b0:V3.cell? ⟨NB,0,none⟩=some (.int .i64 (s:Int)):=by rw[aj (H5.out.blk (14+M.length) (aH (aT _ _) eU.out.1.len))];rfl
   have b1:V3.cell? ⟨NB,1,none⟩=some (.int .i64 (q:Int)):=by rw[aj (H5.out.blk (14+M.length) (aH (aT _ _) eU.out.1.len))];rfl
   have y0:V3.cell? ⟨b,0,none⟩=some (.int .i64 3):=by rw[aj (H5.out.blk 0 bF)];rfl
   have y1:V3.cell? ⟨b,1+q,none⟩=some (.slice A n c):=by rw[aj (H5.out.blk 0 bF)];exact Yd.free_at qH.out
   cases hb
   ·clear qH jr VO y1 HKK uy xr mr HM SO;go_wp2_with fail
    obtain⟨_,_,v,l,hf,Dl⟩:=eU.out.1.free (show q≤10 by omega);obtain⟨A,c,rfl⟩:=fB H5.out (3+q) (dX hf);obtain⟨n,hn⟩:∃n,n=l.length:=⟨_,rfl⟩;rw[←hn]at hf;have qH:=ah.mk hf;have jr:=ah.mk (And.intro hn Dl);have VO:=Ju (show q≤3 by omega);clear hf hn Dl;have y1:V3.cell? ⟨b,1+q,none⟩=some (.slice A n c):=by rw[aj (H5.out.blk 0 bF)];exact Yd.free_at qH.out
    have uy:=ah.mk fun q'=>jO (w:=V3.drewN q') (s:Int) ((bK H5.out (3+q) (dX qH.out) bJ).below (aC (Below.refl _ _) q')) (by have:=jr.out;omega);obtain⟨kk,hkk⟩:∃kk,kk=bs l (s:Int):=⟨_,rfl⟩;obtain⟨hb,hhb⟩:∃hb,hb=kX l (s:Int):=⟨_,rfl⟩;have HKK:ah (kk≤n∧(hb=true→kk<n)):=⟨by have h1:=Ap l (s:Int);have h2:=jr.out.1;exact⟨by omega,fun h=>by rw[hhb]at h;have:=xQ h;omega⟩⟩;rw[←hkk,←hhb]at uy;clear hkk hhb;go_wp2_with fail
    go_quiet ((go_at_call 76;exact Calls.quiet_of_same (uy.out _)))
    obtain⟨V9,hV⟩:∃V,V=V3.drewN nq:=⟨_,rfl⟩;have H9:=ah.mk (H5.out.drewN nq);rw[←hV]at H9 ⊢;clear hV b0 b1 y0 y1 H5;have b0:V9.cell? ⟨NB,0,none⟩=some (.int .i64 (s:Int)):=by rw[aj (H9.out.blk (14+M.length) (aH (aT _ _) eU.out.1.len))];rfl
    have b1:V9.cell? ⟨NB,1,none⟩=some (.int .i64 (q:Int)):=by rw[aj (H9.out.blk (14+M.length) (aH (aT _ _) eU.out.1.len))];rfl
    have y0:V9.cell? ⟨b,0,none⟩=some (.int .i64 3):=by rw[aj (H9.out.blk 0 bF)];rfl
    have y1:V9.cell? ⟨b,1+q,none⟩=some (.slice A n c):=by rw[aj (H9.out.blk 0 bF)];exact Yd.free_at qH.out
    go_wp2_with fail
    have MJ:ah (kk≤n):=⟨HKK.out.1⟩;obtain⟨Kp,fD⟩:∃Kp:Nat→Prop,Kp=fun k=>k=b∨k=NB:=⟨_,rfl⟩;have KB:ah (V9.heap[b]?=some (.cells _ 126)∧V9.heap[NB]?=some (.cells #[.int .i64 (s:Int),.int .i64 (q:Int)] 53)):=⟨H9.out.blk 0 bF,H9.out.blk (14+M.length) (aH (aT _ _) eU.out.1.len)⟩;have yh:=ah.mk fD;have kb:Kp b:=by rw[fD];exact .inl rfl
    have kn:Kp NB:=by rw[fD];exact .inr rfl
    have wV:ah (∀k,Kp k→k<V9.drew.heap.size):=⟨fun k hk=>by rw[fD]at hk;rcases hk with rfl|rfl;exact(Array.getElem?_eq_some_iff.1 KB.out.1).1;exact(Array.getElem?_eq_some_iff.1 KB.out.2).1⟩;clear b0 b1 y0 y1;have b0:∀g:KW V9 Kp,g.W.cell? ⟨NB,0,none⟩=some (.int .i64 (s:Int)):=fun g=>g.cell kn (by rw[aj KB.out.2];rfl);have b1:∀g:KW V9 Kp,g.W.cell? ⟨NB,1,none⟩=some (.int .i64 (q:Int)):=fun g=>g.cell kn (by rw[aj KB.out.2];rfl);have y1:∀g:KW V9 Kp,g.W.cell? ⟨b,1+q,none⟩=some (.slice A n c):=fun g=>g.cell kb (by rw[aj KB.out.1];exact Yd.free_at qH.out);have MK:=ah.mk ((H9.out.drew).aZ (.cells #[.int .i64 (s:Int)] 3));rw[List.append_assoc]at MK;have DI:=ah.mk (Qq MK.out (3+q) (14+(M.length+1)) (s:Int) (dX qH.out) (aH (jR _ _ _) eU.out.1.len) (by omega) jr.out.1 kk MJ.out (by have:=jr.out;omega));clear fD;refine aK (fun W=>∃g:KW V9 Kp,W=g.W) 18 (by kernel_rfl) (by kernel_rfl) ?_;have HB0:ah (∀k,Kp k→V9.drew.heap[k]?=V9.heap[k]?):=⟨fun _ _=>rfl⟩;have HG:∃g:KW V9 Kp,V9.drew=g.W:=⟨⟨_,HB0.out⟩,rfl⟩;refine tk 0 HG ?_;refine tk 1 HG ?_;refine tk 2 HG ?_;refine tk 3 HG ?_;refine tk 4 HG ?_;refine tk 5 HG ?_;refine tk 6 HG ?_;refine tk 7 HG ?_;refine tk 8 HG ?_;refine tk 9 HG ?_;refine tk 10 HG ?_;refine tk 11 HG ?_;refine tk 12 HG ?_;refine tk 15 HG ?_;refine tk 16 HG ?_;refine aP (k:=13) rfl (by kernel_rfl) (by kernel_rfl) (fun KK gB=>?_);rw[if_pos (by rfl)];go_simp;have HB1:ah (∀k,Kp k→(V9.drew.alloc (.cells #[.int .i64 (s:Int)] 3)).heap[k]?=V9.heap[k]?):=⟨fun k hk=>heap_alloc_old _ _ (wV.out k hk)⟩;refine gB _ _ ⟨⟨_,HB1.out⟩,rfl⟩ ?_;clear gB KK HG;have HG:∃g:KW V9 Kp,V9.drew.alloc (.cells #[.int .i64 (s:Int)] 3)=g.W:=⟨⟨_,HB1.out⟩,rfl⟩;try simp only[Act.put,List.setIfInBounds_toArray,List.set_cons_zero,List.set_cons_succ]
    refine aP (k:=14) rfl (by kernel_rfl) (by kernel_rfl) (fun KK gB=>?_);rw[if_pos (by rfl)];go_simp;go_at_call 127;refine DI.out.mono ?_;rintro e w3 ⟨A1,c1,rfl,h3⟩;have hk':∀k,Kp k→w3.heap[k]?=V9.heap[k]?:=fun k hk=>by
     rw[yh.out]at hk;rcases hk with rfl|rfl
     ·rw[KB.out.1];exact h3.blk 0 (by rw[List.getElem?_set_ne (by omega)];exact bF)
     ·rw[KB.out.2];exact h3.blk (14+M.length) (by rw[List.getElem?_set_ne (by omega)];exact aH (gY _ _ _) eU.out.1.len)
    have H3:=ah.mk h3;clear h3;refine gB _ _ ⟨⟨_,hk'⟩,rfl⟩ ?_;have HB2:=ah.mk hk';clear gB KK HG;have HG:∃g:KW V9 Kp,w3=g.W:=⟨⟨_,HB2.out⟩,rfl⟩;clear hk';try simp only[Act.put,List.setIfInBounds_toArray,List.set_cons_zero,List.set_cons_succ]
    refine tk 17 HG ?_;refine aO (by kernel_rfl) ?_;simp only[List.drop_succ_cons,List.drop_zero];have z0:w3.cell? ⟨b,1+q,none⟩=some (.slice A n c):=y1 ⟨w3,HB2.out⟩;have z1:w3.frozen? ⟨b,1+q,none⟩=false:=aJ ((HB2.out b kb).trans KB.out.1) _;clear b0 b1 y1;go_wp2_with fail
    first|go_end0|skip
    rw[←HQ.out];refine⟨rfl,y2.gX q (.slice A1 (n+1) c1) (l.take kk++(s:Int)::l.drop kk),eU.out.1.put (by have:=jr.out;have:=MJ.out;simp;omega) (Nat.le_succ _),eU.out.2,?_⟩;have h:=iQ (by rw[eU.out.1.len];omega) H3.out;exact Has.first (M:=[_,_]) (by simpa[List.append_assoc]using h)
   ·have MJ:ah (kk<n):=⟨HKK.out.2 rfl⟩;go_wp2_with fail
    obtain⟨Kp,fD⟩:∃Kp:Nat→Prop,Kp=fun k=>k=b∨k=NB:=⟨_,rfl⟩;have KB:ah (V3.heap[b]?=some (.cells _ 126)∧V3.heap[NB]?=some (.cells #[.int .i64 (s:Int),.int .i64 (q:Int)] 53)):=⟨H5.out.blk 0 bF,H5.out.blk (14+M.length) (aH (aT _ _) eU.out.1.len)⟩;have yh:=ah.mk fD;have kb:Kp b:=by rw[fD];exact .inl rfl
    have kn:Kp NB:=by rw[fD];exact .inr rfl
    have wV:ah (∀k,Kp k→k<V3.drew.heap.size):=⟨fun k hk=>by rw[fD]at hk;rcases hk with rfl|rfl;exact(Array.getElem?_eq_some_iff.1 KB.out.1).1;exact(Array.getElem?_eq_some_iff.1 KB.out.2).1⟩;clear b0 b1 y0 y1;have b0:∀g:KW V3 Kp,g.W.cell? ⟨NB,0,none⟩=some (.int .i64 (s:Int)):=fun g=>g.cell kn (by rw[aj KB.out.2];rfl);have b1:∀g:KW V3 Kp,g.W.cell? ⟨NB,1,none⟩=some (.int .i64 (q:Int)):=fun g=>g.cell kn (by rw[aj KB.out.2];rfl);have y1:∀g:KW V3 Kp,g.W.cell? ⟨b,1+q,none⟩=some (.slice A n c):=fun g=>g.cell kb (by rw[aj KB.out.1];exact Yd.free_at qH.out);have WK:ah (IntKind.i64.wrap ((kk:Int)+1)=(kk:Int)+1):=⟨by rw[IntKind.wrap_i64];have:=jr.out;have:=MJ.out;omega⟩;have DI:=ah.mk (VL H5.out.drew (3+q) (dX qH.out) jr.out.1 kk MJ.out);clear fD;refine aK (fun W=>∃g:KW V3 Kp,W=g.W) 17 (by kernel_rfl) (by kernel_rfl) ?_;have HB0:ah (∀k,Kp k→V3.drew.heap[k]?=V3.heap[k]?):=⟨fun _ _=>rfl⟩;have HG:∃g:KW V3 Kp,V3.drew=g.W:=⟨⟨_,HB0.out⟩,rfl⟩;refine tk 0 HG ?_;refine tk 1 HG ?_;refine tk 2 HG ?_;refine tk 3 HG ?_;refine tk 4 HG ?_;refine tk 5 HG ?_;refine tk 6 HG ?_;refine tk 7 HG ?_;refine tk 8 HG ?_;refine tk 9 HG ?_;refine tk 10 HG ?_;refine tk 11 HG ?_;refine tk 12 HG ?_;refine tk 14 HG ?_;refine tk 15 HG ?_;refine aP (k:=13) rfl (by kernel_rfl) (by kernel_rfl) (fun KK gB=>?_);rw[if_pos (by rfl)];go_simp;rw[WK.out];go_at_call 77;refine DI.out.mono ?_;rintro e w3 ⟨rfl,h3⟩;have hk':∀k,Kp k→w3.heap[k]?=V3.heap[k]?:=fun k hk=>by
     rw[yh.out]at hk;rcases hk with rfl|rfl
     ·rw[KB.out.1];exact h3.blk 0 (by rw[List.getElem?_set_ne (by omega)];exact bF)
     ·rw[KB.out.2];exact h3.blk (14+M.length) (by rw[List.getElem?_set_ne (by omega)];exact aH (aT _ _) eU.out.1.len)
    have H3:=ah.mk h3;clear h3;refine gB _ _ ⟨⟨_,hk'⟩,rfl⟩ ?_;have HB1:=ah.mk hk';clear gB KK HG;have HG:∃g:KW V3 Kp,w3=g.W:=⟨⟨_,HB1.out⟩,rfl⟩;clear hk';try simp only[Act.put,List.setIfInBounds_toArray,List.set_cons_zero,List.set_cons_succ]
    refine tk 16 HG ?_;refine aO (by kernel_rfl) ?_;simp only[List.drop_succ_cons,List.drop_zero];have z0:w3.cell? ⟨b,1+q,none⟩=some (.slice A n c):=y1 ⟨w3,HB1.out⟩;have z1:w3.frozen? ⟨b,1+q,none⟩=false:=aJ ((HB1.out b kb).trans KB.out.1) _;clear b0 b1 y1;have H6:=ah.mk (iQ (by rw[eU.out.1.len];omega) H3.out);have lI:ah ((y2.gX q (.slice A (n-1) c) (l.eraseIdx kk)).ok N F∧(y2.gX q (.slice A (n-1) c) (l.eraseIdx kk)).same y):=⟨eU.out.1.put (by have:=List.length_eraseIdx_le l kk;have:=jr.out;omega) (Nat.le_refl _),eU.out.2⟩;have e0:(w3.setCell ⟨b,1+q,none⟩ (.slice A (n-1) c)).cell? ⟨NB,0,none⟩=some (.int .i64 (s:Int)):=by rw[aj (H6.out.blk (14+M.length) (aH (aT _ _) lI.out.1.len))];rfl
    have e1:(w3.setCell ⟨b,1+q,none⟩ (.slice A (n-1) c)).cell? ⟨NB,1,none⟩=some (.int .i64 (q:Int)):=by rw[aj (H6.out.blk (14+M.length) (aH (aT _ _) lI.out.1.len))];rfl
    have EB:ah ((w3.setCell ⟨b,1+q,none⟩ (.slice A (n-1) c)).heap[NB]?=some (.cells #[.int .i64 (s:Int),.int .i64 (q:Int)] 53)):=⟨H6.out.blk (14+M.length) (aH (aT _ _) lI.out.1.len)⟩;have H7:=ah.mk (H6.out.putRow (14+M.length) (aH (aT _ _) lI.out.1.len) #[.int .i64 (m:Int),.int .i64 ((q+1:Nat):Int)]);go_wp2_with (refine aY rfl 53 (.tmp 3) (.tmp 60) rfl NB #[.int .i64 (m:Int),.int .i64 ((q+1:Nat):Int)] rfl rfl 53 _ EB.out (jQ _ _) rfl (by simp[Value.oneCell']) ?_)
    try simp only[Exit.inBlock,Exit.then]
    refine⟨?_,?measure⟩
    (repeat apply Exists.intro)
    refine⟨?rel,rfl⟩
    case rel=>exact⟨m,q+1,_,HM.out.1,by omega,⟨HM.out.2⟩,lI,⟨by have h:=H7.out;rw[pW (M:=M++[_]) lI.out.1.len]at h;simpa using h⟩⟩
    case measure=>rw[MS.out,show((w3.setCell ⟨b,1+q,none⟩ (.slice A (n-1) c)).setRow NB #[.int .i64 (m:Int),.int .i64 ((q+1:Nat):Int)]).cell? ⟨NB,1,none⟩=some (.int .i64 ((q+1:Nat):Int))from by rw[aj (H7.out.blk (14+M.length) (aN (aH (aT _ _) lI.out.1.len)))];rfl];simp[intOf];omega
  ·obtain rfl:q=3:=by omega
   go_wp2_with fail
   go_quiet (fail)
   obtain⟨V1,hV⟩:∃V,V=wr.drewN nq:=⟨_,rfl⟩;have H3:=ah.mk (H2.out.drewN nq);rw[←hV]at H3 ⊢;clear hV b0 b1 y0 H2;have b0:V1.cell? ⟨NB,0,none⟩=some (.int .i64 (s:Int)):=by rw[aj (H3.out.blk (14+M.length) (aH (aT _ _) eU.out.1.len))];rfl
   have b1:V1.cell? ⟨NB,1,none⟩=some (.int .i64 ((3:Nat):Int)):=by rw[aj (H3.out.blk (14+M.length) (aH (aT _ _) eU.out.1.len))];rfl
   have y0:V1.cell? ⟨b,0,none⟩=some (.int .i64 3):=by rw[aj (H3.out.blk 0 bF)];rfl
   go_wp2_with fail
   obtain⟨_,_,v,l,hf,Dl⟩:=eU.out.1.free (show 3≤10 by omega);obtain⟨A,c,rfl⟩:=fB H3.out (3+3) (dX hf);obtain⟨n,hn⟩:∃n,n=l.length:=⟨_,rfl⟩;rw[←hn]at hf;have qH:=ah.mk hf;have jr:=ah.mk (And.intro hn Dl);have VO:=Ju (show 3≤3 by omega);clear hf hn Dl;have y1:V1.cell? ⟨b,1+3,none⟩=some (.slice A n c):=by rw[aj (H3.out.blk 0 bF)];exact Yd.free_at qH.out
   have uy:=ah.mk fun q'=>jO (w:=V1.drewN q') (s:Int) ((bK H3.out (3+3) (dX qH.out) bJ).below (aC (Below.refl _ _) q')) (by have:=jr.out;omega);obtain⟨kk,hkk⟩:∃kk,kk=bs l (s:Int):=⟨_,rfl⟩;obtain⟨hb,hhb⟩:∃hb,hb=kX l (s:Int):=⟨_,rfl⟩;have HKK:ah (kk≤n∧(hb=true→kk<n)):=⟨by have h1:=Ap l (s:Int);have h2:=jr.out.1;exact⟨by omega,fun h=>by rw[hhb]at h;have:=xQ h;omega⟩⟩;rw[←hkk,←hhb]at uy;clear hkk hhb;go_wp2_with fail
   go_quiet ((go_at_call 76;exact Calls.quiet_of_same (uy.out _)))
   obtain⟨V9,hV⟩:∃V,V=V1.drewN nq:=⟨_,rfl⟩;have H9:=ah.mk (H3.out.drewN nq);rw[←hV]at H9 ⊢;clear hV b0 b1 y0 y1 H3;have b0:V9.cell? ⟨NB,0,none⟩=some (.int .i64 (s:Int)):=by rw[aj (H9.out.blk (14+M.length) (aH (aT _ _) eU.out.1.len))];rfl
   have b1:V9.cell? ⟨NB,1,none⟩=some (.int .i64 (3:Int)):=by rw[aj (H9.out.blk (14+M.length) (aH (aT _ _) eU.out.1.len))];rfl
   have y0:V9.cell? ⟨b,0,none⟩=some (.int .i64 3):=by rw[aj (H9.out.blk 0 bF)];rfl
   have y1:V9.cell? ⟨b,1+3,none⟩=some (.slice A n c):=by rw[aj (H9.out.blk 0 bF)];exact Yd.free_at qH.out
   go_wp2_with fail
   have MJ:ah (kk≤n):=⟨HKK.out.1⟩;obtain⟨Kp,fD⟩:∃Kp:Nat→Prop,Kp=fun k=>k=b∨k=NB:=⟨_,rfl⟩;have KB:ah (V9.heap[b]?=some (.cells _ 126)∧V9.heap[NB]?=some (.cells #[.int .i64 (s:Int),.int .i64 (3:Int)] 53)):=⟨H9.out.blk 0 bF,H9.out.blk (14+M.length) (aH (aT _ _) eU.out.1.len)⟩;have yh:=ah.mk fD;have kb:Kp b:=by rw[fD];exact .inl rfl
   have kn:Kp NB:=by rw[fD];exact .inr rfl
   have wV:ah (∀k,Kp k→k<V9.drew.heap.size):=⟨fun k hk=>by rw[fD]at hk;rcases hk with rfl|rfl;exact(Array.getElem?_eq_some_iff.1 KB.out.1).1;exact(Array.getElem?_eq_some_iff.1 KB.out.2).1⟩;clear b0 b1 y0 y1;have b0:∀g:KW V9 Kp,g.W.cell? ⟨NB,0,none⟩=some (.int .i64 (s:Int)):=fun g=>g.cell kn (by rw[aj KB.out.2];rfl);have b1:∀g:KW V9 Kp,g.W.cell? ⟨NB,1,none⟩=some (.int .i64 (3:Int)):=fun g=>g.cell kn (by rw[aj KB.out.2];rfl);have y1:∀g:KW V9 Kp,g.W.cell? ⟨b,1+3,none⟩=some (.slice A n c):=fun g=>g.cell kb (by rw[aj KB.out.1];exact Yd.free_at qH.out);have MK:=ah.mk ((H9.out.drew).aZ (.cells #[.int .i64 (s:Int)] 3));rw[List.append_assoc]at MK;have DI:=ah.mk (Qq MK.out (3+3) (14+(M.length+1)) (s:Int) (dX qH.out) (aH (jR _ _ _) eU.out.1.len) (by omega) jr.out.1 kk MJ.out (by have:=jr.out;omega));clear fD;refine aK (fun W=>∃g:KW V9 Kp,W=g.W) 18 (by kernel_rfl) (by kernel_rfl) ?_;have HB0:ah (∀k,Kp k→V9.drew.heap[k]?=V9.heap[k]?):=⟨fun _ _=>rfl⟩;have HG:∃g:KW V9 Kp,V9.drew=g.W:=⟨⟨_,HB0.out⟩,rfl⟩;refine tk 0 HG ?_;refine tk 1 HG ?_;refine tk 2 HG ?_;refine tk 3 HG ?_;refine tk 4 HG ?_;refine tk 5 HG ?_;refine tk 6 HG ?_;refine tk 7 HG ?_;refine tk 8 HG ?_;refine tk 9 HG ?_;refine tk 10 HG ?_;refine tk 11 HG ?_;refine tk 12 HG ?_;refine tk 15 HG ?_;refine tk 16 HG ?_;refine aP (k:=13) rfl (by kernel_rfl) (by kernel_rfl) (fun KK gB=>?_);rw[if_pos (by rfl)];go_simp;have HB1:ah (∀k,Kp k→(V9.drew.alloc (.cells #[.int .i64 (s:Int)] 3)).heap[k]?=V9.heap[k]?):=⟨fun k hk=>heap_alloc_old _ _ (wV.out k hk)⟩;refine gB _ _ ⟨⟨_,HB1.out⟩,rfl⟩ ?_;clear gB KK HG;have HG:∃g:KW V9 Kp,V9.drew.alloc (.cells #[.int .i64 (s:Int)] 3)=g.W:=⟨⟨_,HB1.out⟩,rfl⟩;try simp only[Act.put,List.setIfInBounds_toArray,List.set_cons_zero,List.set_cons_succ]
   refine aP (k:=14) rfl (by kernel_rfl) (by kernel_rfl) (fun KK gB=>?_);rw[if_pos (by rfl)];go_simp;go_at_call 127;refine DI.out.mono ?_;rintro e w3 ⟨A1,c1,rfl,h3⟩;have hk':∀k,Kp k→w3.heap[k]?=V9.heap[k]?:=fun k hk=>by
    rw[yh.out]at hk;rcases hk with rfl|rfl
    ·rw[KB.out.1];exact h3.blk 0 (by rw[List.getElem?_set_ne (by omega)];exact bF)
    ·rw[KB.out.2];exact h3.blk (14+M.length) (by rw[List.getElem?_set_ne (by omega)];exact aH (gY _ _ _) eU.out.1.len)
   have H3:=ah.mk h3;clear h3;refine gB _ _ ⟨⟨_,hk'⟩,rfl⟩ ?_;have HB2:=ah.mk hk';clear gB KK HG;have HG:∃g:KW V9 Kp,w3=g.W:=⟨⟨_,HB2.out⟩,rfl⟩;clear hk';try simp only[Act.put,List.setIfInBounds_toArray,List.set_cons_zero,List.set_cons_succ]
   refine tk 17 HG ?_;refine aO (by kernel_rfl) ?_;simp only[List.drop_succ_cons,List.drop_zero];have z0:w3.cell? ⟨b,1+3,none⟩=some (.slice A n c):=y1 ⟨w3,HB2.out⟩;have z1:w3.frozen? ⟨b,1+3,none⟩=false:=aJ ((HB2.out b kb).trans KB.out.1) _;clear b0 b1 y1;go_wp2_with fail
   first|go_end0|skip
   rw[←HQ.out];refine⟨rfl,y2.gX 3 (.slice A1 (n+1) c1) (l.take kk++(s:Int)::l.drop kk),eU.out.1.put (by have:=jr.out;have:=MJ.out;simp;omega) (Nat.le_succ _),eU.out.2,?_⟩;have h:=iQ (by rw[eU.out.1.len];omega) H3.out;exact Has.first (M:=[_,_]) (by simpa[List.append_assoc]using h)
end
end
section
open Go.RowKit
section
variable {P:Program}{ops:Array Oper}{md:Region.Mode}{S:World→Prop}{Q:Exit→Act→World→Prop}{n:Nat}{tl:List Oper}
theorem bg (k:Nat){m:Nat}{ok:Oper}{v:Value}{up:Array Bool}{a:Act}{w:World}{a':Act}(hS:S w)(h:jM P md ops Q S n tl m (up.setIfInBounds k true) a' w)
 (hk:ops[k]?=some ok:=by rfl) (hs:Region.noSelect ops=true:=by kernel_rfl) (hb:jL md ops n=true:=by kernel_rfl) (hi:sN md ops n up=true:=by kernel_rfl) (hkn:Nat.blt k n=true:=by kernel_rfl) (hf:Region.free md ops up k=true:=by kernel_rfl) (hr:(Region.ready md ops up).contains k=true:=by kernel_rfl)
 (hQ:∀c a w,Q (.panic c) (a.put ok.dst v) w→Q (.panic c) a w:=by exact fun _ _ _ h=>h) (hw:Region.wanted ok (yielded ops a.tmps)=true:=by rfl)
 (hy:∀W,S W→(execOp a.eval ok).run P W=.ok (.value v) W:=by(intro W hS;(try(rcases hS with⟨h1,hS⟩));(try(rcases hS with⟨h2,hS⟩));(try(rcases hS with⟨h3,hS⟩));(try(rcases hS with⟨h4,hS⟩));(try(rcases hS with⟨h5,hS⟩));(try(rcases hS with⟨h6,hS⟩));(try(rcases hS with⟨h7,hS⟩));(try(rcases hS with⟨h8,hS⟩));go_simp;try with_reducible rfl))
 (ha:a.put ok.dst v=a':=by(first|(simp only[Act.put,List.getElem_toArray,List.getElem_cons_zero,List.getElem_cons_succ,List.setIfInBounds_toArray,List.set_cons_zero,List.set_cons_succ];rfl)|rfl)):jM P md ops Q S n tl (m+1) up a w :=
 dA hk hs hb hi hkn hf hr hQ hw hy hS a' ha h
theorem YB (k:Nat){m:Nat}{ok:Oper}{v:Value}{up:Array Bool}{a:Act}{w:World}{a':Act}(hS:S w)(hy:∀W,S W→(execOp a.eval ok).run P W=.ok (.value v) W)(h:jM P md ops Q S n tl m (up.setIfInBounds k true) a' w)
 (hk:ops[k]?=some ok:=by rfl) (hs:Region.noSelect ops=true:=by kernel_rfl) (hb:jL md ops n=true:=by kernel_rfl) (hi:sN md ops n up=true:=by kernel_rfl) (hkn:Nat.blt k n=true:=by kernel_rfl) (hf:Region.free md ops up k=true:=by kernel_rfl) (hr:(Region.ready md ops up).contains k=true:=by kernel_rfl)
 (hQ:∀c a w,Q (.panic c) (a.put ok.dst v) w→Q (.panic c) a w:=by exact fun _ _ _ h=>h) (hw:Region.wanted ok (yielded ops a.tmps)=true:=by rfl)
 (ha:a.put ok.dst v=a':=by(first|(simp only[Act.put,List.getElem_toArray,List.getElem_cons_zero,List.getElem_cons_succ,List.setIfInBounds_toArray,List.set_cons_zero,List.set_cons_succ];rfl)|rfl)):jM P md ops Q S n tl (m+1) up a w :=
 dA hk hs hb hi hkn hf hr hQ hw hy hS a' ha h
end
def GL (a:qR)(now:Int)(js:List J)(bk:List Ch)(y:Yd)(m:Mx)(bm:Nat)(l:List (Int×Value))(vj vk:Value)(ks:List Ky)(M:List bW):List bW:=CL a 4 now js bk y m++mapA bm (Value.int .u32) l::aS vj js::aV 218 3 dw vk ks::M
def qg (l:List (Int×Value)):Prop:=∀p∈l,∃b:Bool,p.2=.bool b
theorem yB {l:List (Int×Value)}(h:qg l)(i:Int):∃b:Bool,(look l i).getD (.bool false)=.bool b:=by
 induction l with
 |nil=>exact⟨false,rfl⟩
 |cons p l ih =>
  unfold look;split
  ·exact h p List.mem_cons_self
  ·exact ih fun q hq=>h q (List.mem_cons_of_mem _ hq)
theorem vV {l:List (Int×Value)}(h:qg l)(i:Int)(b:Bool):qg (store l i (.bool b)):=by
 induction l with
 |nil=>intro p hp;rw[store,List.mem_singleton]at hp;exact⟨b,by rw[hp]⟩
 |cons p l ih =>
  unfold store;split
  ·intro q hq;rcases List.mem_cons.1 hq with e|e
   ·exact⟨b,by rw[e]⟩
   ·exact h q (List.mem_cons_of_mem _ e)
  ·intro q hq;rcases List.mem_cons.1 hq with e|e
   ·exact h q (by rw[e];exact List.mem_cons_self)
   ·exact ih (fun r hr=>h r (List.mem_cons_of_mem _ hr)) q e
end
section
open Go.RowKit
section
variable {P:Program}{ops:Array Oper}{md:Region.Mode}{bar:Nat}{F:World→Prop}{Q:Exit→Act→World→Prop}{n:Nat}{tl:List Oper}
def kP (P:Program)(md:Region.Mode)(ops:Array Oper)(Q:Exit→Act→World→Prop)(bar:Nat)(F:World→Prop)(n:Nat)(tl:List Oper):Nat→Array Bool→Act→World→Prop
 |0,up,a,w=>Region.seqB md ops tl.length n up=true∧wpList P ops Q tl a w
 |m+1,up,a,w=>Region.ready md ops up≠[]∧∀j∈Region.ready md ops up,j<n∧wpOp P ops Q j (fun a' w'=>((up.setIfInBounds j true).getD bar false=false→F w')∧kP P md ops Q bar F n tl m (up.setIfInBounds j true) a' w') a w
theorem OE (ht:∀j,tl[j]?=ops[n+j]?)(m:Nat):∀(up:Array Bool) (a:Act) (w:World),kP P md ops Q bar F n tl m up a w→wpAny P md ops Q (m+tl.length) up a w:=by
 induction m with
 |zero=>intro up a w h;rw[Nat.zero_add];exact wpAny_of_seq tl n up a w ht h.1 h.2
 |succ m ih =>
  intro up a w h;rw[Nat.add_right_comm];exact⟨fun e=>absurd e h.1,fun j hj=>wpOp_mono (fun a' w' h'=>ih _ a' w' h'.2) (h.2 j hj).2⟩
theorem Nc {up:Array Bool}{k:Nat}(hbk:bar≠k):(up.setIfInBounds k true).getD bar false=up.getD bar false:=by
 rw[Array.getD_eq_getD_getElem?,Array.getD_eq_getD_getElem?,Array.getElem?_setIfInBounds_ne (Ne.symm hbk)]
theorem vZ {k:Nat}{ok ob:Oper}{v:Value}(hk:ops[k]?=some ok)(hob:ops[bar]?=some ob)(hbk:bar≠k)(hsel:∀(j:Nat) (o:Oper) cs b,ops[j]?=some o→o.op≠.select cs b)(hb:jL md ops n=true)(hkn:k<n)(hQ:∀c a w,Q (.panic c) (a.put ok.dst v) w→Q (.panic c) a w) :
 ∀(m:Nat) (up:Array Bool) (a:Act) (w:World),HeadInv md ops n up→(∀j oj,ops[j]?=some oj→j≠k→up.getD j true=false→(∀e∈oj.after,Region.binds md e=true→e.on≠k)→ok.apart ops oj=true)→
  k∈Region.ready md ops up→YieldsIf P ops (fun W=>∃u:Array Bool,HeadInv md ops n u∧u.getD k true=false∧(u.getD bar false=false→F W)) ok v a→(up.getD bar false=false→F w)→kP P md ops Q bar F n tl m (up.setIfInBounds k true) (a.put ok.dst v) w→kP P md ops Q bar F n tl (m+1) up a w
 |m,up,a,w,inv,hap,hr,hy,hS,H=>by
  have hun:=(mem_ready.1 hr).1;refine⟨List.ne_nil_of_mem hr,fun j hj=>?_⟩;have hjn:j<n:=xP hb inv hkn hun hj;refine⟨hjn,?_⟩;by_cases e:j=k
  ·subst e;exact hy.wpOp hk ⟨up,inv,hun,hS⟩ ⟨fun h=>hS (by rwa [Nc hbk]at h),H⟩
  ·match m,H with
   |0,H=>exact absurd (seqB_ready H.1 j (ready_mono hj e)) (by omega)
   |m+1,H =>
    obtain⟨U2,oj,hoj,hall⟩:=mem_ready.1 hj;have free:∀x∈oj.after,Region.binds md x=true→x.on≠k:=fun x hx hbd e'=>by
     have:=hall x hx hbd;rw[e',getD_both hun]at this;cases this
    have step:=wpOp_putIf hoj (hap j oj hoj e U2 free) (fun cs b=>hsel k ok cs b hk) (fun cs b=>hsel j oj cs b hoj) hQ hy (H.2 j (ready_mono hj e)).2;refine wpOp_mono (fun a' w' h'=>?_) step;have hS':(up.setIfInBounds j true).getD bar false=false→F w':=fun h=>h'.2.1 (by
     rw[Array.setIfInBounds_comm _ _ (Ne.symm e),Nc hbk];exact h)
    refine⟨hS',vZ hk hob hbk hsel hb hkn hQ m _ a' w' (inv.set hj hjn) (fun i oi hi hik hiu=>hap i oi hi hik ?_) (ready_mono hr (Ne.symm e)) h'.1 hS' ?_⟩
    ·rcases Decidable.em (j=i)with rfl|hji
     ·exact U2
     ·rwa [getD_set_ne true hji]at hiu
    ·rw[Array.setIfInBounds_comm _ _ e];exact h'.2.2
def Wi (md:Region.Mode)(ops:Array Oper)(bar k:Nat):Bool:=match ops[bar]? with | some o=>o.after.any fun e=>Region.binds md e&&e.on==k|none=>false
theorem yS {k m:Nat}{ok:Oper}{v:Value}{up:Array Bool}{a:Act}{w:World}(hS:up.getD bar false=false→F w)(hk:ops[k]?=some ok)(hbk:(bar != k)=true)(hs:Region.noSelect ops=true)(hb:jL md ops n=true)(hi:sN md ops n up=true)(hkn:Nat.blt k n=true)(hf:Region.free md ops up k=true)(hr:(Region.ready md ops up).contains k=true)
 (hQ:∀c a w,Q (.panic c) (a.put ok.dst v) w→Q (.panic c) a w) (hw:Region.wanted ok (yielded ops a.tmps)=true) (hy:(∀W,(execOp a.eval ok).run P W=.ok (.value v) W)∨(Wi md ops bar k=true∧∀W,F W→(execOp a.eval ok).run P W=.ok (.value v) W)) (hob:(ops[bar]?).isSome=true)
 (a':Act) (ha:a.put ok.dst v=a') (h:kP P md ops Q bar F n tl m (up.setIfInBounds k true) a' w):kP P md ops Q bar F n tl (m+1) up a w:=by
 subst ha;obtain⟨ob,hob⟩:=Option.isSome_iff_exists.1 hob;refine vZ hk hob (by simpa using hbk) (Region.noSelect_spec hs) hb (by simpa[Nat.blt_eq]using hkn) hQ m up a w (Aj hi) (Region.free_spec hk hf) (by simpa using hr) (.inl ⟨hw,fun W ⟨u,inv,hun,hF⟩=>?_⟩) hS h;rcases hy with hy|⟨hbar,hy⟩
 ·exact hy W
 ·refine hy W (hF ?_);unfold Wi at hbar;rw[hob]at hbar;simp only at hbar;obtain⟨i,hi,he⟩:=Array.any_eq_true.1 hbar;simp only[Bool.and_eq_true,beq_iff_eq]at he;cases hc:u.getD bar false with
  |false=>rfl
  |true =>
   have:=inv.closed bar ob hob hc _ (Array.getElem_mem hi) he.1;rw[he.2,getD_both hun]at this;cases this
theorem iT {k m:Nat}{ok:Oper}{up:Array Bool}{a:Act}{w:World}(hk:ops[k]?=some ok)(hr:Region.ready md ops up=[k])(hkn:Nat.blt k n=true)
 (h:∀K:Act→World→Prop,(∀a' w',((up.setIfInBounds k true).getD bar false=false→F w')→kP P md ops Q bar F n tl m (up.setIfInBounds k true) a' w'→K a' w')→if Region.wanted ok (yielded ops a.tmps)=true then ok.wp P a w K Q else K (a.put ok.dst undef) w):kP P md ops Q bar F n tl (m+1) up a w :=
 ⟨by rw[hr];simp,fun j hj=>by
  rw[hr]at hj;obtain rfl:j=k:=by simpa using hj
  exact⟨by simpa[Nat.blt_eq]using hkn,wpOp_step hk fun K hK=>h K fun a' w' h1 h2=>hK a' w' ⟨h1,h2⟩⟩⟩
theorem Bo {k k2 m:Nat}{ok ok2:Oper}{up:Array Bool}{a:Act}{w:World}(hk:ops[k]?=some ok)(hk2:ops[k2]?=some ok2)(hr:Region.ready md ops up=[k,k2])(hkn:Nat.blt k n=true)(hkn2:Nat.blt k2 n=true)
 (h:∀K:Act→World→Prop,(∀a' w',((up.setIfInBounds k true).getD bar false=false→F w')→kP P md ops Q bar F n tl m (up.setIfInBounds k true) a' w'→K a' w')→if Region.wanted ok (yielded ops a.tmps)=true then ok.wp P a w K Q else K (a.put ok.dst undef) w)
 (h2:∀K:Act→World→Prop,(∀a' w',((up.setIfInBounds k2 true).getD bar false=false→F w')→kP P md ops Q bar F n tl m (up.setIfInBounds k2 true) a' w'→K a' w')→if Region.wanted ok2 (yielded ops a.tmps)=true then ok2.wp P a w K Q else K (a.put ok2.dst undef) w):kP P md ops Q bar F n tl (m+1) up a w :=
 ⟨by rw[hr];simp,fun j hj=>by
  rw[hr]at hj;rcases List.mem_cons.1 hj with rfl|hj
  ·exact⟨by simpa[Nat.blt_eq]using hkn,wpOp_step hk fun K hK=>h K fun a' w' h1 h2=>hK a' w' ⟨h1,h2⟩⟩
  ·obtain rfl:j=k2:=by simpa using hj
   exact⟨by simpa[Nat.blt_eq]using hkn2,wpOp_step hk2 fun K hK=>h2 K fun a' w' h1 h2=>hK a' w' ⟨h1,h2⟩⟩⟩
theorem rM {up:Array Bool}{a:Act}{w:World}(hq:Region.seqB md ops tl.length n up=true)(h:wpList P ops Q tl a w):kP P md ops Q bar F n tl 0 up a w:=⟨hq,h⟩
theorem wL {id:Nat}{a:Act}{w:World}{l:List Oper}(bar:Nat)(F:World→Prop)(n:Nat)(hn:Nat.ble n l.length=true)(hm:P.follows .mixedOrders=true)
 (h:kP P .any l.toArray Q bar F n (l.drop n) n (Array.replicate l.length false) a w.drew):(Code.region id l.toArray true).wp P Q a w:=by
 have hn':n≤l.length:=by simpa[Nat.ble_eq]using hn
 have:=OE (fun j=>by simp[List.getElem?_drop]) n _ a _ h;rw[List.length_drop,show n+(l.length-n)=l.toArray.size by simp;omega]at this;exact wp_region_any hm this
theorem Ir (k:Nat){m:Nat}{ok:Oper}{v:Value}{up:Array Bool}{a:Act}{w:World}{a':Act}(hS:up.getD bar false=false→F w)(h:kP P md ops Q bar F n tl m (up.setIfInBounds k true) a' w)
 (hk:ops[k]?=some ok:=by rfl) (hbk:(bar != k)=true:=by rfl) (hs:Region.noSelect ops=true:=by kernel_rfl) (hb:jL md ops n=true:=by kernel_rfl) (hi:sN md ops n up=true:=by kernel_rfl) (hkn:Nat.blt k n=true:=by kernel_rfl) (hf:Region.free md ops up k=true:=by kernel_rfl) (hr:(Region.ready md ops up).contains k=true:=by kernel_rfl)
 (hQ:∀c a w,Q (.panic c) (a.put ok.dst v) w→Q (.panic c) a w:=by exact fun _ _ _ h=>h) (hw:Region.wanted ok (yielded ops a.tmps)=true:=by rfl)
 (hy:∀W,(execOp a.eval ok).run P W=.ok (.value v) W:=by(intro W;go_simp;try with_reducible rfl)) (hob:(ops[bar]?).isSome=true:=by kernel_rfl)
 (ha:a.put ok.dst v=a':=by(first|(simp only[Act.put,List.getElem_toArray,List.getElem_cons_zero,List.getElem_cons_succ,List.setIfInBounds_toArray,List.set_cons_zero,List.set_cons_succ];rfl)|rfl)):kP P md ops Q bar F n tl (m+1) up a w :=
 yS hS hk hbk hs hb hi hkn hf hr hQ hw (.inl hy) hob a' ha h
theorem XR (k:Nat){m:Nat}{ok:Oper}{v:Value}{up:Array Bool}{a:Act}{w:World}{a':Act}(hS:up.getD bar false=false→F w)(hk:ops[k]?=some ok)(hy:∀W,F W→(execOp a.eval ok).run P W=.ok (.value v) W)(h:kP P md ops Q bar F n tl m (up.setIfInBounds k true) a' w)
 (hbk:(bar != k)=true:=by rfl) (hs:Region.noSelect ops=true:=by kernel_rfl) (hb:jL md ops n=true:=by kernel_rfl) (hi:sN md ops n up=true:=by kernel_rfl) (hkn:Nat.blt k n=true:=by kernel_rfl) (hf:Region.free md ops up k=true:=by kernel_rfl) (hr:(Region.ready md ops up).contains k=true:=by kernel_rfl)
 (hQ:∀c a w,Q (.panic c) (a.put ok.dst v) w→Q (.panic c) a w:=by exact fun _ _ _ h=>h) (hw:Region.wanted ok (yielded ops a.tmps)=true:=by rfl)
 (hbar:Wi md ops bar k=true:=by kernel_rfl) (hob:(ops[bar]?).isSome=true:=by kernel_rfl)
 (ha:a.put ok.dst v=a':=by(first|(simp only[Act.put,List.getElem_toArray,List.getElem_cons_zero,List.getElem_cons_succ,List.setIfInBounds_toArray,List.set_cons_zero,List.set_cons_succ];rfl)|rfl)):kP P md ops Q bar F n tl (m+1) up a w :=
 yS hS hk hbk hs hb hi hkn hf hr hQ hw (.inr ⟨hbar,hy⟩) hob a' ha h
end
end
end Go.Proofs.YtandhagfhppgaaaGreatDoor
