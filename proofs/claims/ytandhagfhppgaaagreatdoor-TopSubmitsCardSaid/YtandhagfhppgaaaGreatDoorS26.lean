/- Part 26 of a proof: contracts of the functions that the law reaches. No condition. -/
import Derived.Test.YtandhagfhppgaaaGreatDoorS15
import Derived.Test.YtandhagfhppgaaaGreatDoorS18
import Derived.Test.YtandhagfhppgaaaGreatDoorS25
set_option linter.all false
set_option maxRecDepth 100000
set_option maxHeartbeats 16000000
namespace Go.Proofs.YtandhagfhppgaaaGreatDoor
section
open Go.RowKit
theorem Yd.ok.mono {y:Yd}{N N' F F':Nat}(h:y.ok N F)(hN:N≤N')(hF:F≤F'):y.ok N' F' :=
 ⟨h.len,fun f hf=>Nat.le_trans (h.few f hf) hN,h.taken,Nat.le_trans h.Ny hN,h.fail,Nat.le_trans h.wu hF⟩
theorem XD {P:Program}{c:Code}{Q:Exit→Act→World→Prop}{a:Act}{w:World}(A:Act)(W:World)(hr:c.wp P (fun e a2 w2=>e=Exit.normal∧a2=A∧w2=W) a w)(hq:Q .normal A W):c.wp P Q a w :=
 Code.wp_mono (fun e a2 w2 ⟨h1,h2,h3⟩=>by rw[h1,h2,h3];exact hq) hr
theorem TL (s r p:Nat)(hs:s≤7)(hr:r≤2)(hp:p=s/2^(r+1)*2^(r+1)):p+2^r≤7∧(p+2^r≤s→p+2^r=s/2^r*2^r)∧(¬p+2^r≤s→p=s/2^r*2^r):=by
 subst hp;rcases(by omega:r=0∨r=1∨r=2)with rfl|rfl|rfl<;>rcases(by omega:s=0∨s=1∨s=2∨s=3∨s=4∨s=5∨s=6∨s=7)with rfl|rfl|rfl|rfl|rfl|rfl|rfl|rfl<;>decide
theorem jG {α:Type}(l:List α)(x z u:α):(l++[x]++[z]++[u])[l.length]?=some x:=by simp
theorem lJ {α:Type}(l:List α)(x z u:α):(l++[x]++[z]++[u])[l.length + 1]?=some z:=by simp
theorem iR {α:Type}(l:List α)(x z u:α):(l++[x]++[z]++[u])[l.length+2]?=some u:=by simp
theorem F8 {α:Type}(l:List α)(x z u v:α):(l++[x]++[z]++[u]++[v])[l.length+2]?=some u:=by simp
theorem F9 {α:Type}(l:List α)(x z u v:α):(l++[x]++[z]++[u]++[v])[l.length+3]?=some v:=by simp
section
variable {w0 w:World}{M:List bW}{y:Yd}{b N F:Nat}
theorem vS (H:Has w0 w (y.star b++M))(ok:y.ok N F)(hN:N≤900000)(s q p o:Nat)(hs:s≤7)(hq:q≤o)(ho:o≤3)(hp:p=s/2^o*2^o)(ha:s%2^q=0){v:Value}{l:List Int}(hf:y.free[o]?=some (v,l))(hhas:kX l p=true) :
 Calls Tryz.prog 129 #[.pointer (some ⟨b,0,none⟩),.agg #[.int .i64 (p:Int),.int .i64 (o:Int)],.agg #[.int .i64 (s:Int),.int .i64 (q:Int)]] w fun e w'=>e=.returned (.tuple #[])∧∃y':Yd,y'.ok (N+3) F∧y'.same y∧Has w0 w' (y'.star b++M):=by
 refine named fun R HQ=>?_;have H1:ah (Has w0 ((w.alloc (.cells #[.int .i64 (p:Int),.int .i64 (o:Int)] 53)).alloc (.cells #[.int .i64 (s:Int),.int .i64 (q:Int)] 53)) (y.star b++(M++[aF w.heap.size (.cells #[.int .i64 (p:Int),.int .i64 (o:Int)] 53)]++[aF (w.heap.size+1) (.cells #[.int .i64 (s:Int),.int .i64 (q:Int)] 53)]))):=⟨by
  have h:=(H.aZ (.cells #[.int .i64 (p:Int),.int .i64 (o:Int)] 53)).aZ (.cells #[.int .i64 (s:Int),.int .i64 (q:Int)] 53);simpa[List.append_assoc]using h⟩
 have LI:=ah.mk (Jv H1.out ok (by omega) p o ho hf hhas);have HP:=ah.mk hp;have HA:=ah.mk ha;have SZ:=ah.mk fun(o:Nat) (ho:o≤3) W=>iI o ho W;obtain⟨NB,jw⟩:∃NB,NB=w.heap.size:=⟨_,rfl⟩;obtain⟨NC,AB⟩:∃NC,NC=w.heap.size+1:=⟨_,rfl⟩;have WU:=ah.mk (And.intro jw AB);clear H ok ha jw AB hf hhas hp;go_enter Tryz.func129,Tryz.ntmps129;go_wp2_with (go_at_call 183;refine LI.out.mono ?_;rintro e w1 ⟨rfl,y1,ok1,hsm,h⟩;have H2:=ah.mk h;have U6:=ah.mk (And.intro ok1 hsm);clear h ok1 hsm)
 rw[←WU.out.2,←WU.out.1]at H2 ⊢;clear WU LI H1;go_loopw [] (fun wr=>∃(p r:Nat) (y2:Yd),q≤r∧r≤o∧ah (p=s/2^r*2^r)∧ah (y2.ok (N+(o-r)) F∧y2.same y)∧ah (Has w0 wr (y2.star b++(M++[aF NB (.cells #[.int .i64 (p:Int),.int .i64 (r:Int)] 53)]++[aF NC (.cells #[.int .i64 (s:Int),.int .i64 (q:Int)] 53)])))) (fun wr=>(intOf ((wr.cell? ⟨NB,1,none⟩).getD undef)).toNat)
 case atStart=>exact⟨p,o,y1,hq,Nat.le_refl _,HP,⟨by rw[Nat.sub_self];exact U6.out.1,U6.out.2⟩,H2⟩
 case round =>
  clear H2 HP U6 y1;obtain⟨p,r0,y2,hqr,hro,HP,eU,H2⟩:=hrel;have b0:wr.cell? ⟨NB,0,none⟩=some (.int .i64 ((p:Nat):Int)):=by rw[aj (H2.out.blk (14+M.length) (aH (gY _ _ _) eU.out.1.len))];rfl
  have b1:wr.cell? ⟨NB,1,none⟩=some (.int .i64 ((r0:Nat):Int)):=by rw[aj (H2.out.blk (14+M.length) (aH (gY _ _ _) eU.out.1.len))];rfl
  have c0:wr.cell? ⟨NC,0,none⟩=some (.int .i64 ((s:Nat):Int)):=by rw[aj (H2.out.blk (14+(M.length+1)) (aH (jR _ _ _) eU.out.1.len))];rfl
  have c1:wr.cell? ⟨NC,1,none⟩=some (.int .i64 ((q:Nat):Int)):=by rw[aj (H2.out.blk (14+(M.length+1)) (aH (jR _ _ _) eU.out.1.len))];rfl
  have MS:ah ((intOf ((wr.cell? ⟨NB,1,none⟩).getD undef)).toNat=r0):=⟨by rw[b1];simp[intOf]⟩;by_cases hrq:r0=q
  ·have hps:p=s:=by rw[HP.out,hrq];have:=Nat.div_add_mod s (2^q);rw[HA.out]at this;rw[Nat.mul_comm];omega
   subst hps;subst hrq;go_wp2_with fail
   first|go_end0|skip
   rw[←HQ.out];refine⟨rfl,y2,eU.out.1.mono (by omega) (Nat.le_refl _),eU.out.2,?_⟩;exact Has.first (M:=[_,_]) (by simpa[List.append_assoc]using H2.out)
  ·obtain⟨r,rfl⟩:∃r,r0=r+1:=⟨r0-1,by omega⟩;have hne:((r:Int)+1==(q:Int))=false:=by simp;omega
   have hne2:¬((r:Int)+1=(q:Int)):=by omega
   have f1:wr.frozen? ⟨NB,1,none⟩=false:=aJ (H2.out.blk (14+M.length) (aH (gY _ _ _) eU.out.1.len)) _;have H3:=ah.mk (H2.out.put (14+M.length) (aH (gY _ _ _) eU.out.1.len) 1 (.int .i64 (r:Int)) #[.int .i64 (p:Int),.int .i64 (r:Int)] rfl);have H4:ah (Has w0 (wr.setCell ⟨NB,1,none⟩ (.int .i64 (r:Int))) (y2.star b++(M++[aF NB (.cells #[.int .i64 (p:Int),.int .i64 (r:Int)] 53)]++[aF NC (.cells #[.int .i64 (s:Int),.int .i64 (q:Int)] 53)]))):=⟨by have h:=H3.out;rw[pW eU.out.1.len]at h;simpa using h⟩;go_wp2_with fail
   obtain⟨W1,hW1⟩:∃W1,W1=wr.setCell ⟨NB,1,none⟩ (.int .i64 (r:Int)):=⟨_,rfl⟩;rw[←hW1]at H4 ⊢;clear hW1 H3 H2 b0 b1 c0 c1 f1;obtain⟨z,hz⟩:∃z:Nat,z=2^r:=⟨_,rfl⟩;have hh:=TL s r p hs (by omega) HP.out;have SR:=ah.mk fun W=>SZ.out r (by omega) W;obtain⟨hf,VP⟩:∃hf:Nat,hf=p+z:=⟨_,rfl⟩;rw[show p+2^r=hf by rw[VP,hz]]at hh;rw[←hz]at SR;have HH:=ah.mk hh;have hz7:hf≤7:=hh.1;have wz:IntKind.i64.wrap ((p:Int)+(z:Int))=(hf:Int):=by rw[IntKind.wrap_i64,VP];omega
   clear hz hh VP;obtain⟨Kp,fD⟩:∃Kp:Nat→Prop,Kp=fun k=>k=NB:=⟨_,rfl⟩;have KB:ah (W1.heap[NB]?=some (.cells #[.int .i64 (p:Int),.int .i64 (r:Int)] 53)):=⟨H4.out.blk (14+M.length) (aH (gY _ _ _) eU.out.1.len)⟩;have kn:Kp NB:=by rw[fD]
   have wV:ah (∀k,Kp k→k<W1.drew.heap.size):=⟨fun k hk=>by rw[fD]at hk;subst hk;exact(Array.getElem?_eq_some_iff.1 KB.out).1⟩;have b0:∀g:KW W1 Kp,g.W.cell? ⟨NB,0,none⟩=some (.int .i64 (p:Int)):=fun g=>g.cell kn (by rw[aj KB.out];rfl);have b1:∀g:KW W1 Kp,g.W.cell? ⟨NB,1,none⟩=some (.int .i64 (r:Int)):=fun g=>g.cell kn (by rw[aj KB.out];rfl);clear fD;apply XD (W:=W1.drew.alloc (.cells #[.int .i64 (hf:Int),.int .i64 (r:Int)] 53))
   case hr =>
    refine aK (fun W=>∃g:KW W1 Kp,W=g.W) 10 (by kernel_rfl) (by kernel_rfl) ?_;have HG:∃g:KW W1 Kp,W1.drew=g.W:=⟨⟨W1.drew,fun _ _=>rfl⟩,rfl⟩;refine dA (k:=0) rfl (by kernel_rfl) (by kernel_rfl) (by kernel_rfl) (by kernel_rfl) (by kernel_rfl) (by kernel_rfl) (fun _ _ _ h=>by cases h.1) (by rfl) (by rintro W ⟨g,rfl⟩;go_simp;try with_reducible rfl) HG _ rfl ?_;try simp only[Act.put,List.setIfInBounds_toArray,List.set_cons_zero,List.set_cons_succ]
    refine dA (k:=1) rfl (by kernel_rfl) (by kernel_rfl) (by kernel_rfl) (by kernel_rfl) (by kernel_rfl) (by kernel_rfl) (fun _ _ _ h=>by cases h.1) (by rfl) (by rintro W ⟨g,rfl⟩;go_simp;try with_reducible rfl) HG _ rfl ?_;try simp only[Act.put,List.setIfInBounds_toArray,List.set_cons_zero,List.set_cons_succ]
    refine dA (k:=2) rfl (by kernel_rfl) (by kernel_rfl) (by kernel_rfl) (by kernel_rfl) (by kernel_rfl) (by kernel_rfl) (fun _ _ _ h=>by cases h.1) (by rfl) (by rintro W ⟨g,rfl⟩;go_simp;try with_reducible rfl) HG _ rfl ?_;try simp only[Act.put,List.setIfInBounds_toArray,List.set_cons_zero,List.set_cons_succ]
    refine dA (k:=3) rfl (by kernel_rfl) (by kernel_rfl) (by kernel_rfl) (by kernel_rfl) (by kernel_rfl) (by kernel_rfl) (fun _ _ _ h=>by cases h.1) (by rfl) (by rintro W ⟨g,rfl⟩;go_simp;try with_reducible rfl) HG _ rfl ?_;try simp only[Act.put,List.setIfInBounds_toArray,List.set_cons_zero,List.set_cons_succ]
    refine dA (k:=6) rfl (by kernel_rfl) (by kernel_rfl) (by kernel_rfl) (by kernel_rfl) (by kernel_rfl) (by kernel_rfl) (fun _ _ _ h=>by cases h.1) (by rfl) (by rintro W ⟨g,rfl⟩;go_simp;try with_reducible rfl) HG _ rfl ?_;try simp only[Act.put,List.setIfInBounds_toArray,List.set_cons_zero,List.set_cons_succ]
    refine dA (k:=7) rfl (by kernel_rfl) (by kernel_rfl) (by kernel_rfl) (by kernel_rfl) (by kernel_rfl) (by kernel_rfl) (fun _ _ _ h=>by cases h.1) (by rfl) (by rintro W ⟨g,rfl⟩;go_simp;try with_reducible rfl) HG _ rfl ?_;try simp only[Act.put,List.setIfInBounds_toArray,List.set_cons_zero,List.set_cons_succ]
    refine ji (k:=4) (k2:=9) rfl rfl (by kernel_rfl) (by kernel_rfl) (by kernel_rfl) (fun KK gB=>?_) (fun KK gB=>?_)
    ·rw[if_pos (by rfl)];go_simp;go_at_call 130;refine(SR.out _).mono ?_;rintro e w5 ⟨rfl,hw⟩;obtain rfl:=hw.symm;clear hw;refine gB _ _ HG ?_;clear gB KK;try simp only[Act.put,List.setIfInBounds_toArray,List.set_cons_zero,List.set_cons_succ]
     refine dA (k:=5) rfl (by kernel_rfl) (by kernel_rfl) (by kernel_rfl) (by kernel_rfl) (by kernel_rfl) (by kernel_rfl) (fun _ _ _ h=>by cases h.1) (by rfl) (by rintro W ⟨g,rfl⟩;go_simp;try with_reducible rfl) HG _ rfl ?_;try simp only[Act.put,List.setIfInBounds_toArray,List.set_cons_zero,List.set_cons_succ]
     refine dA (k:=8) rfl (by kernel_rfl) (by kernel_rfl) (by kernel_rfl) (by kernel_rfl) (by kernel_rfl) (by kernel_rfl) (fun _ _ _ h=>by cases h.1) (by rfl) (by rintro W ⟨g,rfl⟩;go_simp;try with_reducible rfl) HG _ rfl ?_;try simp only[Act.put,List.setIfInBounds_toArray,List.set_cons_zero,List.set_cons_succ]
     refine aP (k:=9) rfl (by kernel_rfl) (by kernel_rfl) (fun KK gB=>?_);rw[if_pos (by rfl)];go_simp;have HG2:∃g:KW W1 Kp,W1.drew.alloc _=g.W:=⟨⟨W1.drew.alloc (.cells #[.int .i64 0,.int .i64 0] 53),fun k hk=>heap_alloc_old _ _ (wV.out k hk)⟩,rfl⟩;refine gB _ _ HG2 ?_;clear gB KK HG;try simp only[Act.put,List.setIfInBounds_toArray,List.set_cons_zero,List.set_cons_succ]
     refine aO (by kernel_rfl) ?_;simp only[List.drop_succ_cons,List.drop_zero];change wpList _ _ _ _ _ (W1.drew.alloc (.cells #[.int .i64 0,.int .i64 0] 53));refine aB (w:=W1.drew) W1.heap.size rfl ?_ 53 (.tmp 6) (.tmp 27) ?_ #[.int .i64 (hf:Int),.int .i64 (r:Int)] ?_ ?_ 53 _ (jQ _ _) rfl (by simp[Value.oneCell']) ?_
     ·rfl
     ·rfl
     ·rfl
     ·rfl
     exact⟨rfl,rfl,rfl⟩
    ·rw[if_pos (by rfl)];go_simp;have HG2:∃g:KW W1 Kp,W1.drew.alloc _=g.W:=⟨⟨W1.drew.alloc (.cells #[.int .i64 0,.int .i64 0] 53),fun k hk=>heap_alloc_old _ _ (wV.out k hk)⟩,rfl⟩;refine gB _ _ HG2 ?_;clear gB KK HG;try simp only[Act.put,List.setIfInBounds_toArray,List.set_cons_zero,List.set_cons_succ]
     have HG:=HG2;refine aP (k:=4) rfl (by kernel_rfl) (by kernel_rfl) (fun KK gB=>?_);rw[if_pos (by rfl)];go_simp;go_at_call 130;refine(SR.out _).mono ?_;rintro e w5 ⟨rfl,hw⟩;obtain rfl:=hw.symm;clear hw;refine gB _ _ HG ?_;clear gB KK;try simp only[Act.put,List.setIfInBounds_toArray,List.set_cons_zero,List.set_cons_succ]
     refine dA (k:=5) rfl (by kernel_rfl) (by kernel_rfl) (by kernel_rfl) (by kernel_rfl) (by kernel_rfl) (by kernel_rfl) (fun _ _ _ h=>by cases h.1) (by rfl) (by rintro W ⟨g,rfl⟩;go_simp;try with_reducible rfl) HG _ rfl ?_;try simp only[Act.put,List.setIfInBounds_toArray,List.set_cons_zero,List.set_cons_succ]
     refine dA (k:=8) rfl (by kernel_rfl) (by kernel_rfl) (by kernel_rfl) (by kernel_rfl) (by kernel_rfl) (by kernel_rfl) (fun _ _ _ h=>by cases h.1) (by rfl) (by rintro W ⟨g,rfl⟩;go_simp;try with_reducible rfl) HG _ rfl ?_;try simp only[Act.put,List.setIfInBounds_toArray,List.set_cons_zero,List.set_cons_succ]
     refine aO (by kernel_rfl) ?_;simp only[List.drop_succ_cons,List.drop_zero];change wpList _ _ _ _ _ (W1.drew.alloc (.cells #[.int .i64 0,.int .i64 0] 53));refine aB (w:=W1.drew) W1.heap.size rfl ?_ 53 (.tmp 6) (.tmp 27) ?_ #[.int .i64 (hf:Int),.int .i64 (r:Int)] ?_ ?_ 53 _ (jQ _ _) rfl (by simp[Value.oneCell']) ?_
     ·rfl
     ·rfl
     ·rfl
     ·rfl
     exact⟨rfl,rfl,rfl⟩
   case hq =>
    clear b0 b1 kn wV KB wz;have H5:ah (Has w0 (W1.drew.alloc (.cells #[.int .i64 (hf:Int),.int .i64 (r:Int)] 53)) (y2.star b++(M++[aF NB (.cells #[.int .i64 (p:Int),.int .i64 (r:Int)] 53)]++[aF NC (.cells #[.int .i64 (s:Int),.int .i64 (q:Int)] 53)]++[aF W1.heap.size (.cells #[.int .i64 (hf:Int),.int .i64 (r:Int)] 53)]))):=⟨by
     have h:=H4.out.drew.aZ (.cells #[.int .i64 (hf:Int),.int .i64 (r:Int)] 53);rw[List.append_assoc]at h;exact h⟩
    obtain⟨NH,Zj⟩:∃NH,NH=W1.heap.size:=⟨_,rfl⟩;obtain⟨W2,hW2⟩:∃W2,W2=W1.drew.alloc (.cells #[.int .i64 (hf:Int),.int .i64 (r:Int)] 53):=⟨_,rfl⟩;rw[←Zj,←hW2]at H5;try rw[←Zj]
    rw[←hW2];clear Zj hW2 H4;have b0:W2.cell? ⟨NB,0,none⟩=some (.int .i64 ((p:Nat):Int)):=by rw[aj (H5.out.blk (14+M.length) (aH (jG _ _ _ _) eU.out.1.len))];rfl
    have b1:W2.cell? ⟨NB,1,none⟩=some (.int .i64 ((r:Nat):Int)):=by rw[aj (H5.out.blk (14+M.length) (aH (jG _ _ _ _) eU.out.1.len))];rfl
    have c0:W2.cell? ⟨NC,0,none⟩=some (.int .i64 ((s:Nat):Int)):=by rw[aj (H5.out.blk (14+(M.length+1)) (aH (lJ _ _ _ _) eU.out.1.len))];rfl
    have c1:W2.cell? ⟨NC,1,none⟩=some (.int .i64 ((q:Nat):Int)):=by rw[aj (H5.out.blk (14+(M.length+1)) (aH (lJ _ _ _ _) eU.out.1.len))];rfl
    have d0:W2.cell? ⟨NH,0,none⟩=some (.int .i64 ((hf:Nat):Int)):=by rw[aj (H5.out.blk (14+(M.length+2)) (aH (iR _ _ _ _) eU.out.1.len))];rfl
    have d1:W2.cell? ⟨NH,1,none⟩=some (.int .i64 ((r:Nat):Int)):=by rw[aj (H5.out.blk (14+(M.length+2)) (aH (iR _ _ _ _) eU.out.1.len))];rfl
    by_cases hsw:hf≤s
    ·have Zk:(hf:Int)≤(s:Int):=by omega
     have EB:ah (W2.heap[NB]?=some (.cells #[.int .i64 (p:Int),.int .i64 (r:Int)] 53)):=⟨(H5.out.blk (14+M.length) (aH (jG _ _ _ _) eU.out.1.len))⟩;have H6:=ah.mk (H5.out.putRow (14+M.length) (aH (jG _ _ _ _) eU.out.1.len) #[.int .i64 (hf:Int),.int .i64 (r:Int)]);have EH:ah ((W2.setRow NB #[.int .i64 (hf:Int),.int .i64 (r:Int)]).heap[NH]?=some (.cells #[.int .i64 (hf:Int),.int .i64 (r:Int)] 53)):=⟨H6.out.blk (14+(M.length+2)) (by rw[List.getElem?_set_ne (by omega)];exact aH (iR _ _ _ _) eU.out.1.len)⟩;have H7:=ah.mk (H6.out.putRow (14+(M.length+2)) (by rw[List.getElem?_set_ne (by omega)];exact aH (iR _ _ _ _) eU.out.1.len) #[.int .i64 (p:Int),.int .i64 (r:Int)]);have H8:ah (Has w0 ((W2.setRow NB #[.int .i64 (hf:Int),.int .i64 (r:Int)]).setRow NH #[.int .i64 (p:Int),.int .i64 (r:Int)]) (y2.star b++(M++[aF NB (.cells #[.int .i64 (hf:Int),.int .i64 (r:Int)] 53)]++[aF NC (.cells #[.int .i64 (s:Int),.int .i64 (q:Int)] 53)]++[aF NH (.cells #[.int .i64 (p:Int),.int .i64 (r:Int)] 53)]))):=⟨by
      have h:=H7.out;rw[pW eU.out.1.len,pW eU.out.1.len]at h;simpa[List.append_assoc]using h⟩
     go_wp2_with (first|(refine aY rfl 53 (.tmp 4) (.tmp 33) rfl NB #[.int .i64 (hf:Int),.int .i64 (r:Int)] rfl rfl 53 _ EB.out (jQ _ _) rfl (by simp[Value.oneCell']) ?_)|(refine aY rfl 53 (.tmp 6) (.tmp 34) rfl NH #[.int .i64 (p:Int),.int .i64 (r:Int)] rfl rfl 53 _ EH.out (jQ _ _) rfl (by simp[Value.oneCell']) ?_;refine ah.out ?_))
     obtain⟨W3,hW3⟩:∃W3,W3=((W2.setRow NB #[.int .i64 (hf:Int),.int .i64 (r:Int)]).setRow NH #[.int .i64 (p:Int),.int .i64 (r:Int)]):=⟨_,rfl⟩;rw[←hW3]at H8 ⊢;clear hW3 H7 EH H6 EB H5 b0 b1 c0 c1 d0 d1;refine ah.mk ?_;have b0:W3.cell? ⟨NB,0,none⟩=some (.int .i64 ((hf:Nat):Int)):=by rw[aj (H8.out.blk (14+M.length) (aH (jG _ _ _ _) eU.out.1.len))];rfl
     have b1:W3.cell? ⟨NB,1,none⟩=some (.int .i64 ((r:Nat):Int)):=by rw[aj (H8.out.blk (14+M.length) (aH (jG _ _ _ _) eU.out.1.len))];rfl
     have c0:W3.cell? ⟨NC,0,none⟩=some (.int .i64 ((s:Nat):Int)):=by rw[aj (H8.out.blk (14+(M.length+1)) (aH (lJ _ _ _ _) eU.out.1.len))];rfl
     have c1:W3.cell? ⟨NC,1,none⟩=some (.int .i64 ((q:Nat):Int)):=by rw[aj (H8.out.blk (14+(M.length+1)) (aH (lJ _ _ _ _) eU.out.1.len))];rfl
     have d0:W3.cell? ⟨NH,0,none⟩=some (.int .i64 ((p:Nat):Int)):=by rw[aj (H8.out.blk (14+(M.length+2)) (aH (iR _ _ _ _) eU.out.1.len))];rfl
     have d1:W3.cell? ⟨NH,1,none⟩=some (.int .i64 ((r:Nat):Int)):=by rw[aj (H8.out.blk (14+(M.length+2)) (aH (iR _ _ _ _) eU.out.1.len))];rfl
     obtain⟨_,_,v,l,hf,Dl⟩:=eU.out.1.free (show r≤10 by omega);obtain⟨A,c,rfl⟩:=fB H8.out (3+r) (dX hf);obtain⟨n,hn⟩:∃n,n=l.length:=⟨_,rfl⟩;rw[←hn]at hf;have qH:=ah.mk hf;have jr:=ah.mk (And.intro hn Dl);have VO:=Ju (show r≤3 by omega);clear hf hn Dl;have y1:W3.cell? ⟨b,1+r,none⟩=some (.slice A n c):=by rw[aj (H8.out.blk 0 bF)];exact Yd.free_at qH.out
     have uy:=ah.mk fun q'=>jO (w:=W3.drewN q') ((p:Nat):Int) ((bK H8.out (3+r) (dX qH.out) bJ).below (aC (Below.refl _ _) q')) (by have:=jr.out;omega);obtain⟨kk,hkk⟩:∃kk,kk=bs l ((p:Nat):Int):=⟨_,rfl⟩;obtain⟨hb,hhb⟩:∃hb,hb=kX l ((p:Nat):Int):=⟨_,rfl⟩;have HKK:ah (kk≤n∧(hb=true→kk<n)):=⟨by have h1:=Ap l ((p:Nat):Int);have h2:=jr.out.1;exact⟨by omega,fun h=>by rw[hhb]at h;have:=xQ h;omega⟩⟩;rw[←hkk,←hhb]at uy;clear hkk hhb;go_wp2_with fail
     go_quiet ((go_at_call 76;exact Calls.quiet_of_same (uy.out _)))
     obtain⟨V9,hV⟩:∃V,V=W3.drewN nq:=⟨_,rfl⟩;have H9:=ah.mk (H8.out.drewN nq);rw[←hV]at H9 ⊢;clear hV b0 b1 c0 c1 d0 d1 y1 H8;go_wp2_with fail
     have MJ:ah (kk≤n):=⟨HKK.out.1⟩;obtain⟨Kp,fD⟩:∃Kp:Nat→Prop,Kp=fun k=>k=b∨k=NH:=⟨_,rfl⟩;have KB:ah (V9.heap[b]?=some (.cells _ 126)∧V9.heap[NH]?=some (.cells #[.int .i64 ((p:Nat):Int),.int .i64 (r:Int)] 53)):=⟨H9.out.blk 0 bF,(H9.out.blk (14+(M.length+2)) (aH (iR _ _ _ _) eU.out.1.len))⟩;have yh:=ah.mk fD;have kb:Kp b:=by rw[fD];exact .inl rfl
     have kn:Kp NH:=by rw[fD];exact .inr rfl
     have wV:ah (∀k,Kp k→k<V9.drew.heap.size):=⟨fun k hk=>by rw[fD]at hk;rcases hk with rfl|rfl;exact(Array.getElem?_eq_some_iff.1 KB.out.1).1;exact(Array.getElem?_eq_some_iff.1 KB.out.2).1⟩;have d0:∀g:KW V9 Kp,g.W.cell? ⟨NH,0,none⟩=some (.int .i64 ((p:Nat):Int)):=fun g=>g.cell kn (by rw[aj KB.out.2];rfl);have d1:∀g:KW V9 Kp,g.W.cell? ⟨NH,1,none⟩=some (.int .i64 (r:Int)):=fun g=>g.cell kn (by rw[aj KB.out.2];rfl);have y1:∀g:KW V9 Kp,g.W.cell? ⟨b,1+r,none⟩=some (.slice A n c):=fun g=>g.cell kb (by rw[aj KB.out.1];exact Yd.free_at qH.out);have MK:=ah.mk ((H9.out.drew).aZ (.cells #[.int .i64 ((p:Nat):Int)] 3));rw[List.append_assoc]at MK;have DI:=ah.mk (Qq MK.out (3+r) (14+(M.length+3)) ((p:Nat):Int) (dX qH.out) (aH (F9 _ _ _ _ _) eU.out.1.len) (by omega) jr.out.1 kk MJ.out (by have:=jr.out;omega));clear fD;refine aK (fun W=>∃g:KW V9 Kp,W=g.W) 18 (by kernel_rfl) (by kernel_rfl) ?_;have HB0:ah (∀k,Kp k→V9.drew.heap[k]?=V9.heap[k]?):=⟨fun _ _=>rfl⟩;have HG:∃g:KW V9 Kp,V9.drew=g.W:=⟨⟨_,HB0.out⟩,rfl⟩;refine tk 0 HG ?_;refine tk 1 HG ?_;refine tk 2 HG ?_;refine tk 3 HG ?_;refine tk 4 HG ?_;refine tk 5 HG ?_;refine tk 6 HG ?_;refine tk 7 HG ?_;refine tk 8 HG ?_;refine tk 9 HG ?_;refine tk 10 HG ?_;refine tk 11 HG ?_;refine tk 12 HG ?_;refine tk 15 HG ?_;refine tk 16 HG ?_;refine aP (k:=13) rfl (by kernel_rfl) (by kernel_rfl) (fun KK gB=>?_);rw[if_pos (by rfl)];go_simp;have HB1:ah (∀k,Kp k→(V9.drew.alloc (.cells #[.int .i64 ((p:Nat):Int)] 3)).heap[k]?=V9.heap[k]?):=⟨fun k hk=>heap_alloc_old _ _ (wV.out k hk)⟩;refine gB _ _ ⟨⟨_,HB1.out⟩,rfl⟩ ?_;clear gB KK HG;have HG:∃g:KW V9 Kp,V9.drew.alloc (.cells #[.int .i64 ((p:Nat):Int)] 3)=g.W:=⟨⟨_,HB1.out⟩,rfl⟩;try simp only[Act.put,List.setIfInBounds_toArray,List.set_cons_zero,List.set_cons_succ]
     refine aP (k:=14) rfl (by kernel_rfl) (by kernel_rfl) (fun KK gB=>?_);rw[if_pos (by rfl)];go_simp;go_at_call 127;refine DI.out.mono ?_;rintro e w3 ⟨A1,c1,rfl,h3⟩;have hk':∀k,Kp k→w3.heap[k]?=V9.heap[k]?:=fun k hk=>by
      rw[yh.out]at hk;rcases hk with rfl|rfl
      ·rw[KB.out.1];exact h3.blk 0 (by rw[List.getElem?_set_ne (by omega)];exact bF)
      ·rw[KB.out.2];exact h3.blk (14+(M.length+2)) (by rw[List.getElem?_set_ne (by omega)];exact aH (F8 _ _ _ _ _) eU.out.1.len)
     have H3:=ah.mk h3;clear h3;refine gB _ _ ⟨⟨_,hk'⟩,rfl⟩ ?_;have HB2:=ah.mk hk';clear gB KK HG;have HG:∃g:KW V9 Kp,w3=g.W:=⟨⟨_,HB2.out⟩,rfl⟩;clear hk';try simp only[Act.put,List.setIfInBounds_toArray,List.set_cons_zero,List.set_cons_succ]
     refine tk 17 HG ?_;refine aO (by kernel_rfl) ?_;simp only[List.drop_succ_cons,List.drop_zero];have z0:w3.cell? ⟨b,1+r,none⟩=some (.slice A n c):=y1 ⟨w3,HB2.out⟩;have z1:w3.frozen? ⟨b,1+r,none⟩=false:=aJ ((HB2.out b kb).trans KB.out.1) _;clear d0 d1 y1;go_wp2_with fail
     have H6:=ah.mk (iQ (by rw[eU.out.1.len];omega) H3.out);have lI:ah ((y2.gX r (.slice A1 (n+1) c1) (l.take kk++((p:Nat):Int)::l.drop kk)).ok (N+(o-r)) F∧(y2.gX r (.slice A1 (n+1) c1) (l.take kk++((p:Nat):Int)::l.drop kk)).same y):=⟨eU.out.1.put (by have:=jr.out;have:=MJ.out;simp;omega) (by omega),eU.out.2⟩;have H7:ah (Has w0 (w3.setCell ⟨b,1+r,none⟩ (.slice A1 (n+1) c1)) ((y2.gX r (.slice A1 (n+1) c1) (l.take kk++((p:Nat):Int)::l.drop kk)).star b++(M++[aF NB (.cells #[.int .i64 ((hf:Nat):Int),.int .i64 (r:Int)] 53)]++[aF NC (.cells #[.int .i64 (s:Int),.int .i64 (q:Int)] 53)]))):=⟨by
      have h:=H6.out;exact Has.first (M:=[_,_]) (by simpa[List.append_assoc]using h)⟩
     go_roundw
     case rel=>exact⟨hf,r,_,by omega,by omega,⟨HH.out.2.1 hsw⟩,lI,H7⟩
     case measure=>rw[MS.out,show(w3.setCell ⟨b,1+r,none⟩ (.slice A1 (n+1) c1)).cell? ⟨NB,1,none⟩=some (.int .i64 (r:Int))from by rw[aj (H7.out.blk (14+M.length) (aH (gY _ _ _) lI.out.1.len))];rfl];simp[intOf]
    ·have Zk:decide ((hf:Int)≤(s:Int))=false:=decide_eq_false (by omega);go_wp2_with fail
     clear b0 b1 c0 c1 d0 d1;have b0:W2.cell? ⟨NB,0,none⟩=some (.int .i64 ((p:Nat):Int)):=by rw[aj (H5.out.blk (14+M.length) (aH (jG _ _ _ _) eU.out.1.len))];rfl
     have b1:W2.cell? ⟨NB,1,none⟩=some (.int .i64 ((r:Nat):Int)):=by rw[aj (H5.out.blk (14+M.length) (aH (jG _ _ _ _) eU.out.1.len))];rfl
     have c0:W2.cell? ⟨NC,0,none⟩=some (.int .i64 ((s:Nat):Int)):=by rw[aj (H5.out.blk (14+(M.length+1)) (aH (lJ _ _ _ _) eU.out.1.len))];rfl
     have c1:W2.cell? ⟨NC,1,none⟩=some (.int .i64 ((q:Nat):Int)):=by rw[aj (H5.out.blk (14+(M.length+1)) (aH (lJ _ _ _ _) eU.out.1.len))];rfl
     have d0:W2.cell? ⟨NH,0,none⟩=some (.int .i64 ((hf:Nat):Int)):=by rw[aj (H5.out.blk (14+(M.length+2)) (aH (iR _ _ _ _) eU.out.1.len))];rfl
     have d1:W2.cell? ⟨NH,1,none⟩=some (.int .i64 ((r:Nat):Int)):=by rw[aj (H5.out.blk (14+(M.length+2)) (aH (iR _ _ _ _) eU.out.1.len))];rfl
     obtain⟨_,_,v,l,hf,Dl⟩:=eU.out.1.free (show r≤10 by omega);obtain⟨A,c,rfl⟩:=fB H5.out (3+r) (dX hf);obtain⟨n,hn⟩:∃n,n=l.length:=⟨_,rfl⟩;rw[←hn]at hf;have qH:=ah.mk hf;have jr:=ah.mk (And.intro hn Dl);have VO:=Ju (show r≤3 by omega);clear hf hn Dl;have y1:W2.cell? ⟨b,1+r,none⟩=some (.slice A n c):=by rw[aj (H5.out.blk 0 bF)];exact Yd.free_at qH.out
     have uy:=ah.mk fun q'=>jO (w:=W2.drewN q') ((hf:Nat):Int) ((bK H5.out (3+r) (dX qH.out) bJ).below (aC (Below.refl _ _) q')) (by have:=jr.out;omega);obtain⟨kk,hkk⟩:∃kk,kk=bs l ((hf:Nat):Int):=⟨_,rfl⟩;obtain⟨hb,hhb⟩:∃hb,hb=kX l ((hf:Nat):Int):=⟨_,rfl⟩;have HKK:ah (kk≤n∧(hb=true→kk<n)):=⟨by have h1:=Ap l ((hf:Nat):Int);have h2:=jr.out.1;exact⟨by omega,fun h=>by rw[hhb]at h;have:=xQ h;omega⟩⟩;rw[←hkk,←hhb]at uy;clear hkk hhb;go_wp2_with fail
     go_quiet ((go_at_call 76;exact Calls.quiet_of_same (uy.out _)))
     obtain⟨V9,hV⟩:∃V,V=W2.drewN nq:=⟨_,rfl⟩;have H9:=ah.mk (H5.out.drewN nq);rw[←hV]at H9 ⊢;clear hV b0 b1 c0 c1 d0 d1 y1 H5;go_wp2_with fail
     have MJ:ah (kk≤n):=⟨HKK.out.1⟩;obtain⟨Kp,fD⟩:∃Kp:Nat→Prop,Kp=fun k=>k=b∨k=NH:=⟨_,rfl⟩;have KB:ah (V9.heap[b]?=some (.cells _ 126)∧V9.heap[NH]?=some (.cells #[.int .i64 ((hf:Nat):Int),.int .i64 (r:Int)] 53)):=⟨H9.out.blk 0 bF,(H9.out.blk (14+(M.length+2)) (aH (iR _ _ _ _) eU.out.1.len))⟩;have yh:=ah.mk fD;have kb:Kp b:=by rw[fD];exact .inl rfl
     have kn:Kp NH:=by rw[fD];exact .inr rfl
     have wV:ah (∀k,Kp k→k<V9.drew.heap.size):=⟨fun k hk=>by rw[fD]at hk;rcases hk with rfl|rfl;exact(Array.getElem?_eq_some_iff.1 KB.out.1).1;exact(Array.getElem?_eq_some_iff.1 KB.out.2).1⟩;have d0:∀g:KW V9 Kp,g.W.cell? ⟨NH,0,none⟩=some (.int .i64 ((hf:Nat):Int)):=fun g=>g.cell kn (by rw[aj KB.out.2];rfl);have d1:∀g:KW V9 Kp,g.W.cell? ⟨NH,1,none⟩=some (.int .i64 (r:Int)):=fun g=>g.cell kn (by rw[aj KB.out.2];rfl);have y1:∀g:KW V9 Kp,g.W.cell? ⟨b,1+r,none⟩=some (.slice A n c):=fun g=>g.cell kb (by rw[aj KB.out.1];exact Yd.free_at qH.out);have MK:=ah.mk ((H9.out.drew).aZ (.cells #[.int .i64 ((hf:Nat):Int)] 3));rw[List.append_assoc]at MK;have DI:=ah.mk (Qq MK.out (3+r) (14+(M.length+3)) ((hf:Nat):Int) (dX qH.out) (aH (F9 _ _ _ _ _) eU.out.1.len) (by omega) jr.out.1 kk MJ.out (by have:=jr.out;omega));clear fD;refine aK (fun W=>∃g:KW V9 Kp,W=g.W) 18 (by kernel_rfl) (by kernel_rfl) ?_;have HB0:ah (∀k,Kp k→V9.drew.heap[k]?=V9.heap[k]?):=⟨fun _ _=>rfl⟩;have HG:∃g:KW V9 Kp,V9.drew=g.W:=⟨⟨_,HB0.out⟩,rfl⟩;refine tk 0 HG ?_;refine tk 1 HG ?_;refine tk 2 HG ?_;refine tk 3 HG ?_;refine tk 4 HG ?_;refine tk 5 HG ?_;refine tk 6 HG ?_;refine tk 7 HG ?_;refine tk 8 HG ?_;refine tk 9 HG ?_;refine tk 10 HG ?_;refine tk 11 HG ?_;refine tk 12 HG ?_;refine tk 15 HG ?_;refine tk 16 HG ?_;refine aP (k:=13) rfl (by kernel_rfl) (by kernel_rfl) (fun KK gB=>?_);rw[if_pos (by rfl)];go_simp;have HB1:ah (∀k,Kp k→(V9.drew.alloc (.cells #[.int .i64 ((hf:Nat):Int)] 3)).heap[k]?=V9.heap[k]?):=⟨fun k hk=>heap_alloc_old _ _ (wV.out k hk)⟩;refine gB _ _ ⟨⟨_,HB1.out⟩,rfl⟩ ?_;clear gB KK HG;have HG:∃g:KW V9 Kp,V9.drew.alloc (.cells #[.int .i64 ((hf:Nat):Int)] 3)=g.W:=⟨⟨_,HB1.out⟩,rfl⟩;try simp only[Act.put,List.setIfInBounds_toArray,List.set_cons_zero,List.set_cons_succ]
     refine aP (k:=14) rfl (by kernel_rfl) (by kernel_rfl) (fun KK gB=>?_);rw[if_pos (by rfl)];go_simp;go_at_call 127;refine DI.out.mono ?_;rintro e w3 ⟨A1,c1,rfl,h3⟩;have hk':∀k,Kp k→w3.heap[k]?=V9.heap[k]?:=fun k hk=>by
      rw[yh.out]at hk;rcases hk with rfl|rfl
      ·rw[KB.out.1];exact h3.blk 0 (by rw[List.getElem?_set_ne (by omega)];exact bF)
      ·rw[KB.out.2];exact h3.blk (14+(M.length+2)) (by rw[List.getElem?_set_ne (by omega)];exact aH (F8 _ _ _ _ _) eU.out.1.len)
     have H3:=ah.mk h3;clear h3;refine gB _ _ ⟨⟨_,hk'⟩,rfl⟩ ?_;have HB2:=ah.mk hk';clear gB KK HG;have HG:∃g:KW V9 Kp,w3=g.W:=⟨⟨_,HB2.out⟩,rfl⟩;clear hk';try simp only[Act.put,List.setIfInBounds_toArray,List.set_cons_zero,List.set_cons_succ]
     refine tk 17 HG ?_;refine aO (by kernel_rfl) ?_;simp only[List.drop_succ_cons,List.drop_zero];have z0:w3.cell? ⟨b,1+r,none⟩=some (.slice A n c):=y1 ⟨w3,HB2.out⟩;have z1:w3.frozen? ⟨b,1+r,none⟩=false:=aJ ((HB2.out b kb).trans KB.out.1) _;clear d0 d1 y1;go_wp2_with fail
     have H6:=ah.mk (iQ (by rw[eU.out.1.len];omega) H3.out);have lI:ah ((y2.gX r (.slice A1 (n+1) c1) (l.take kk++((hf:Nat):Int)::l.drop kk)).ok (N+(o-r)) F∧(y2.gX r (.slice A1 (n+1) c1) (l.take kk++((hf:Nat):Int)::l.drop kk)).same y):=⟨eU.out.1.put (by have:=jr.out;have:=MJ.out;simp;omega) (by omega),eU.out.2⟩;have H7:ah (Has w0 (w3.setCell ⟨b,1+r,none⟩ (.slice A1 (n+1) c1)) ((y2.gX r (.slice A1 (n+1) c1) (l.take kk++((hf:Nat):Int)::l.drop kk)).star b++(M++[aF NB (.cells #[.int .i64 ((p:Nat):Int),.int .i64 (r:Int)] 53)]++[aF NC (.cells #[.int .i64 (s:Int),.int .i64 (q:Int)] 53)]))):=⟨by
      have h:=H6.out;exact Has.first (M:=[_,_]) (by simpa[List.append_assoc]using h)⟩
     go_roundw
     case rel=>exact⟨p,r,_,by omega,by omega,⟨HH.out.2.2 hsw⟩,lI,H7⟩
     case measure=>rw[MS.out,show(w3.setCell ⟨b,1+r,none⟩ (.slice A1 (n+1) c1)).cell? ⟨NB,1,none⟩=some (.int .i64 (r:Int))from by rw[aj (H7.out.blk (14+M.length) (aH (gY _ _ _) lI.out.1.len))];rfl];simp[intOf]
end
end
section
open Go.RowKit
theorem Mx.ok.mono {m:Mx}{N N':Nat}(h:m.ok N)(hN:N≤N'):m.ok N':=⟨h.cells,Nat.le_trans h.few hN,h.Nz,h.ND⟩
theorem VW (js:List J):Ae js≤js.length:=by
 induction js with
 |nil=>simp[Ae]
 |cons j l ih =>
  have e:Ae (j::l)=(if j.on then 1 else 0)+Ae l:=rfl;rw[e,List.length_cons];split<;>omega
theorem lu {now:Int}{js:List J}{bk:List Ch}(G:dL now js bk)(k:Nat)(hk:k≤1000):most js bk k≤100000:=by
 have h1:=G.few;have h2:=VW js;have h3:=G.len;unfold most;omega
theorem ML {xs ys:List Value}:∀(k:Nat) (v:Value),xs[k]?=some v→(xs++ys)[0+k]?=some v:=by
 intro k v h;rw[Nat.zero_add,List.getElem?_append_left (List.getElem?_eq_some_iff.1 h).1];exact h
theorem Gi {xs ys:List Value}{n:Nat}(hn:xs.length=n):∀(k:Nat) (v:Value),ys[k]?=some v→(xs++ys)[n+k]?=some v:=by
 intro k v h;subst hn;rw[List.getElem?_append_right (Nat.le_add_right _ _),Nat.add_sub_cancel_left];exact h
theorem gZ {xs:List Value}:∀(k:Nat) (v:Value),xs[k]?=some v→xs[0+k]?=some v:=by
 intro k v h;rw[Nat.zero_add];exact h
section
variable {w0 w:World}{L:List bW}
theorem bM {e:TypeId}{sz g n cap:Nat}{xs:List Value}(H:Has w0 w L)(i:Nat)(hi:L[i]?=some (rowA e sz (.slice (some ⟨g,0,none⟩) n cap) n xs))(o:Nat)(ys:List Value)(hy:∀(k:Nat) (v:Value),ys[k]?=some v→xs[o+k]?=some v):w.rangeAt g o ys:=by
 obtain⟨cur,hb,_,_,_,ht,_⟩:=nN H i hi;refine aX hb o ys fun k v hk=>?_;have h:=hy k v hk;rw[←ht,List.getElem?_take]at h;split at h
 ·simpa using h
 ·cases h
theorem jq.of {a:qR}{pol:Int}{now:Nat}{js:List J}{bk:List Ch}{y:Yd}{m:Mx}{M:List bW}(H:Has w0 w (CL a pol now js bk y m++M)):jq w a pol now bk :=
 ⟨H.blk 0 rfl,⟨bM H 6 rfl 0 _ ML,bM H 6 rfl 3 _ (Gi rfl)⟩,bM H 5 rfl 0 _ ML,bM H 5 rfl 3 _ (Gi rfl),bM H 4 rfl 0 _ gZ,H.read 3 (enc:=vI) rfl rfl NP⟩
theorem pY {a:qR}{pol:Int}{now:Nat}{js:List J}{bk:List Ch}{y:Yd}{m:Mx}{M:List bW}(H:Has w0 w (CL a pol now js bk y m++M)):w.cell? ⟨a.yr,0,none⟩=some (.pointer (some ⟨a.yb,0,none⟩)):=by
 have:=bM H 10 rfl 0 [.pointer (some ⟨a.yb,0,none⟩)] gZ 0 _ rfl;simpa using this
theorem mD (a:qR)(pol now:Int)(js:List J)(bk:List Ch)(y:Yd)(m:Mx)(i:Nat)(j:J):CL a pol now (js.set i j) bk y m=(CL a pol now js bk y m).set 2 (aS (.slice a.jA js.length a.jc) (js.set i j)):=by
 unfold CL;rw[List.length_set];rfl
theorem jl {a:qR}{pol now:Int}{js:List J}{bk:List Ch}{y:Yd}{m:Mx}{M:List bW}(H:Has w0 w (CL a pol now js bk y m++M)){k:Nat}{j:J}(hk:js[k]?=some j):∃g,a.jA=some ⟨g,0,none⟩:=by
 have hlt:=(List.getElem?_eq_some_iff.1 hk).1;obtain⟨g,cap,cur,hv,_⟩:=pR (e:=55) (sz:=26) (v:=.slice a.jA js.length a.jc) (n:=js.length) (xs:=qU js) H 2 rfl (by omega);injection hv with e1 e2 e3;exact⟨g,e1⟩
theorem bU.take {α:Type}{sz:Nat}{enc:α→List Value}{A:Option Addr}{n c:Nat}{l:List α}(h:bU w sz enc (.slice A n c) l)(m c2:Nat)(hm:m≤n):bU w sz enc (.slice A m c2) (l.take m):=by
 have hn:=h.len;obtain⟨A',c',hv,h2⟩:=h;injection hv with e1 e2 e3;refine⟨A,c2,by rw[List.length_take];congr 1;omega,fun k x hk=>?_⟩;rw[List.getElem?_take]at hk;split at hk
 ·rw[e1];exact h2 k x hk
 ·cases hk
end
def Wa.wait (js:List J)(u:Wa):Prop:=u.ok∧∃(i:Nat) (j:J),js[i]?=some j∧j.how=1∧u.id=i+1∧u.q=ord j.s.size
theorem TM:∃i0 z,Tryz.prog.info? 225=some i0∧i0.zero=some z∧i0.size=3∧i0.bytes≤1000∧z.cells.size=3:=fZ (by kernel_rfl)
theorem U8 (x:Sl):(Tryz.prog.info? 233).map (·.size)=some (dJ x).toArray.size:=by rw[show(dJ x).toArray.size=4 from rfl];kernel_rfl
theorem Qy (x:Sl):(dJ x).toArray.all (·.oneCell')=true:=by simp[dJ,Value.oneCell']
theorem J.Gj (j:J):j.cells[7]?=some (.int .i64 (j.s.size:Int)):=rfl
end
section
open Go.RowKit Go.ChangeMaps
def Uh (v:Value):List Value:=[v]
theorem Kr:∃i0 z,Tryz.prog.info? 20=some i0∧i0.zero=some z∧i0.size=1∧i0.bytes≤1000∧z.cells.size=1:=fZ (by kernel_rfl)
theorem QV {w0 W:World}{L:List bW}(H:Has w0 W L)(i k:Nat)(s:ByteArray)(pos:Nat)(hi:L[i]?=some (aF k (.stringIter s pos)))(h:pos<s.size)(ha:(s[pos]'h).toNat<128)(c:Nat)(hc:(s[pos]'h).toNat=c) :
 ∃w1,(∀ty,(Instr.next (.pointer (some ⟨k,0,none⟩)) true ty).run Tryz.prog W=.ok (.tuple #[.bool true,.int .i64 (pos:Int),.int .i32 (c:Int)]) w1)∧Has w0 w1 (L.set i (aF k (.stringIter s (pos+1)))):=by
 subst hc;obtain⟨F,h1,h2,h3⟩:=H.get i _ hi;have hk:W.heap[k]?=some (.stringIter s pos):=h1.1;have hlt:k<W.heap.size:=by rw[Array.getElem?_eq_some_iff]at hk;exact hk.1
 refine⟨{ W with heap:=W.heap.setIfInBounds k (.stringIter s (pos+1))},fun ty=>?_,h3 _ _ ⟨F,⟨?_,h1.2⟩,⟨rfl,rfl,rfl,by simp,fun q _ hq=>?_⟩,fun q hq=>⟨.inl hq,by simpa using(h2 q hq).2⟩⟩⟩
 ·simp only[Instr.next,getObj,setObj,Sem.run_bind,Sem.run,hk,Result.andThen,h,if_true,decode_ascii s pos h ha];simp[goInt]
 ·simp[hlt]
 ·have hn:¬k=q:=fun e=>hq (by rw[←e];exact h1.2);simp[Array.getElem?_setIfInBounds,hn]
theorem Gv {W:World}(k:Nat)(s:ByteArray)(pos:Nat)(ty:TypeId)(hk:W.heap[k]?=some (.stringIter s pos))(h:¬pos<s.size) :
 (Instr.next (.pointer (some ⟨k,0,none⟩)) true ty).run Tryz.prog W=.ok (.tuple #[.bool false]) W:=by
 simp[Instr.next,getObj,Sem.run,hk,h]
section
variable {w:World}
set_option maxRecDepth 1000000 in
theorem iZ (s:ByteArray)(hs:oO s)(hn:numeral s=true)(b c:Nat)(hb:w.cell? ⟨b,1,none⟩=some (.string s))(hl:b<w.heap.size) :
 Calls Tryz.prog 47 #[.slice (some ⟨b,1,none⟩) 1 c,.string ⟨#[35]⟩] w fun e w'=>∃A c',e=.returned (.tuple #[.slice A 1 c',.bool true])∧Has w w' [aV 20 1 Uh (.slice A 1 c') [.iface 3 (.int .i64 (val s:Int))]]:=by
 refine named fun R HQ=>?_;have NC:=ah.mk fun(W:World)=>uf (w:=W) s hs;have HN:=ah.mk hn;have hb2:∀t p,(w.iter t p).cell? ⟨b,1,none⟩=some (.string s):=fun t p=>ak (au (Below.refl _ _) _) hb;have n0:∀ty,(Instr.next (.pointer (some ⟨w.heap.size,0,none⟩)) true ty).run Tryz.prog (w.iter ⟨#[35]⟩ 0)=.ok (.tuple #[.bool true,.int .i64 0,.int .i32 35]) (w.iter ⟨#[35]⟩ 1):=fun ty=>run_next_ascii (P:=Tryz.prog) w ⟨#[35]⟩ 0 ty (by decide) (by decide);clear hs hn hb;go_enter Tryz.func47,Tryz.ntmps47;go_wp2_with fail
 refine wp_loop_rounds 2 ?_;rw[rounds_succ];go_wp2_with (first|(at_builtin;have _t:=H2.out;clear _t;refine dn 109 (.tmp 42) (.tmp 44) rfl rfl H2.out 1 rfl 0 rfl Tryz.underlying109 Kr (by decide) (by decide) rfl rfl (.iface 3 (.int .i64 (val s:Int)):Value) _ rfl rfl (by simp[Value.oneCell']) ?_;intro A5 c5 w5 h5;have H5:=ah.mk h5;have hx:=fun ty=>Gv (W:=w5) w.heap.size ⟨#[35]⟩ 1 ty (h5.blk 0 rfl) (by decide);clear h5)|(go_at_call 81;refine(NC.out _).mono ?_;rw[HN.out];rintro e w2 ⟨rfl,hb'⟩;have H2:=ah.mk ((((Has.start w).aZ (.stringIter ⟨#[35]⟩ 1)).below hb').nilRow 20 1 Uh);clear hb'))
 rw[rounds_succ];go_wp2_with fail
 first|go_ret2|go_ret|skip
 rw[←HQ.out];exact⟨A5,c5,rfl,H5.out.drop 0⟩
set_option maxRecDepth 1000000 in
theorem vW (u s:ByteArray)(hs:oO s)(hn:numeral s=true)(b c:Nat)(hb:w.cell? ⟨b,1,none⟩=some (.string u))(hb2:w.cell? ⟨b,2,none⟩=some (.string s))(hl:b<w.heap.size) :
 Calls Tryz.prog 47 #[.slice (some ⟨b,1,none⟩) 2 c,.string ⟨#[64,35]⟩] w fun e w'=>∃A c',e=.returned (.tuple #[.slice A 2 c',.bool true])∧Has w w' [aV 20 1 Uh (.slice A 2 c') [.iface 9 (.string u),.iface 3 (.int .i64 (val s:Int))]]:=by
 refine named fun R HQ=>?_;have NC:=ah.mk fun(W:World)=>uf (w:=W) s hs;have HN:=ah.mk hn;have hb1:∀t p,(w.iter t p).cell? ⟨b,1,none⟩=some (.string u):=fun t p=>ak (au (Below.refl _ _) _) hb;have n0:∀ty,(Instr.next (.pointer (some ⟨w.heap.size,0,none⟩)) true ty).run Tryz.prog (w.iter ⟨#[64,35]⟩ 0)=.ok (.tuple #[.bool true,.int .i64 0,.int .i32 64]) (w.iter ⟨#[64,35]⟩ 1):=fun ty=>run_next_ascii (P:=Tryz.prog) w ⟨#[64,35]⟩ 0 ty (by decide) (by decide);have H0:=ah.mk (((Has.start w).aZ (.stringIter ⟨#[64,35]⟩ 1)).nilRow 20 1 Uh);have B2:ah (∀W,Below w.heap.size w W→W.cell? ⟨b,2,none⟩=some (.string s)):=⟨fun W h=>ak h hb2⟩;clear hs hn hb hb2;go_enter Tryz.func47,Tryz.ntmps47;go_wp2_with fail
 refine wp_loop_rounds 3 ?_;rw[rounds_succ];go_wp2_with (at_builtin;refine dn 109 (.tmp 24) (.tmp 30) rfl rfl H0.out 1 rfl 0 rfl Tryz.underlying109 Kr (by decide) (by decide) rfl rfl (.iface 9 (.string u):Value) _ rfl rfl (by simp[Value.oneCell']) ?_;intro A5 c5 w5 h5;have H5:=ah.mk h5;clear h5;refine ah.out ?_)
 obtain⟨w6,hx,h6⟩:=QV H5.out 0 w.heap.size ⟨#[64,35]⟩ 1 rfl (by decide) (by decide) 35 rfl;have hb3:=B2.out _ h6.old;have H6:=ah.mk h6;clear h6 n0 hb1 H5 H0 B2;refine ah.mk ?_;go_wp2_with fail
 rw[rounds_succ];go_wp2_with (first|(at_builtin;have _t:=H7.out;clear _t;refine dn 109 (.tmp 42) (.tmp 44) rfl rfl H7.out 1 rfl 1 rfl Tryz.underlying109 Kr (by decide) (by decide) rfl rfl (.iface 3 (.int .i64 (val s:Int)):Value) _ rfl rfl (by simp[Value.oneCell']) ?_;intro A8 c8 w8 h8;have H8:=ah.mk h8;have hx8:=fun ty=>Gv (W:=w8) w.heap.size ⟨#[64,35]⟩ 2 ty (h8.blk 0 rfl) (by decide);clear h8)|(go_at_call 81;refine(NC.out _).mono ?_;rw[HN.out];rintro e w7 ⟨rfl,hb'⟩;have H7:=ah.mk (H6.out.below hb');clear hb'))
 rw[rounds_succ];go_wp2_with fail
 first|go_ret2|go_ret|skip
 rw[←HQ.out];exact⟨A8,c8,rfl,H8.out.drop 0⟩
end
end
end Go.Proofs.YtandhagfhppgaaaGreatDoor
