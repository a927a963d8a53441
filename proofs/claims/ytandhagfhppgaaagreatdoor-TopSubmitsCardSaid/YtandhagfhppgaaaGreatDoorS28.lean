/- Part 28 of a proof: contracts of the functions that the law reaches. No condition. -/
import Derived.Test.YtandhagfhppgaaaGreatDoorS18
import Derived.Test.YtandhagfhppgaaaGreatDoorS26
import Derived.Test.YtandhagfhppgaaaGreatDoorS27
set_option linter.all false
set_option maxRecDepth 100000
set_option maxHeartbeats 16000000
namespace Go.Proofs.YtandhagfhppgaaaGreatDoor
section
open Go.RowKit
section
variable {w:World}
theorem qY (a o x:Int)(w:World):Calls Tryz.prog 122 #[.agg #[.int .i64 a,.int .i64 o],.int .i64 x] w fun e w'=>∃r:Int,e=.returned (.int .i64 r)∧Below w.heap.size w w':=by
 refine named fun R HQ=>?_;have CC:=ah.mk fun W=>Tryz.cmp_Compare_int a x W;have B:=ah.mk (au (Below.refl w.heap.size w) (.cells #[.int .i64 a,.int .i64 o] 53));go_enter Tryz.func122,Tryz.ntmps122;go_wp2_with (go_at_call 179;refine(CC.out _).mono ?_;rintro e w' ⟨rfl,hw⟩;obtain rfl:=hw.symm;clear hw)
 first|go_ret|skip
 rw[←HQ.out];exact⟨_,rfl,B.out⟩
theorem AO {A:Option Addr}{n c:Nat}{l:List Bk}(x:Int)(hr:bU w 2 pJ (.slice A n c) l)(hn:n≤1000000) :
 Calls Tryz.prog 121 #[.slice A n c,.int .i64 x,.func (.func 122) #[] #[]] w fun e w'=>∃(i:Nat) (b:Bool),e=.returned (.tuple #[.int .i64 i,.bool b])∧(i≤n∧(b=true→i<n))∧Below w.heap.size w w':=by
 refine named fun R HQ=>?_;have HR:=ah.mk hr;have HL:=ah.mk hr.len;have B0:=ah.mk (Below.refl w.heap.size w);clear hr;go_enter Tryz.func121,Tryz.ntmps121;go_wp2_with fail
 go_loopw [9,10] (fun i j wr=>∃(k m:Nat),i=.int .i64 k∧j=.int .i64 m∧k≤m∧m≤n∧ah (Below w.heap.size w wr)) (fun i j _=>(intOf j).toNat-(intOf i).toNat)
 case atStart=>exact⟨0,n,rfl,rfl,Nat.zero_le _,Nat.le_refl _,B0⟩
 case round =>
  clear B0;obtain⟨k,m,rfl,rfl,hk,hm,HB⟩:=hrel;by_cases hlt:k<m
  ·obtain⟨h,hh⟩:∃h,h=(k+m)/2:=⟨_,rfl⟩;obtain⟨y,hy⟩:∃y,l[h]?=some y:=⟨_,List.getElem?_eq_getElem (by rw[←HL.out];omega)⟩;obtain⟨g,hA,gK⟩:=(HR.out.below HB.out).get h y hy;have c0:wr.cell? ⟨g,h*2,none⟩=some (.int .i64 y.start):=by have:=gK 0 _ rfl;simpa using this
   have c1:wr.cell? ⟨g,h*2+1,none⟩=some (.int .i64 y.order):=gK 1 _ rfl;have hhn:(h:Int)<n:=by omega
   have hmid:((k:Int)+m)/2=h:=by omega
   have HH:=ah.mk hh;obtain⟨ys,hys⟩:∃v,v=y.start:=⟨_,rfl⟩;obtain⟨yo,hyo⟩:∃v,v=y.order:=⟨_,rfl⟩;rw[←hys]at c0;rw[←hyo]at c1;subst hA;clear hy gK hh hys hyo;go_wp2_with (go_at_call 122;refine(qY _ _ _ _).mono ?_;rintro e w2 ⟨r,rfl,hb⟩;have H2:=ah.mk (ay HB.out HB.out.size hb);clear hb;refine ah.out ?_)
   cases hd:decide (r<0)
   ·refine ah.mk ?_;go_wp2_with fail
    go_roundw
    case rel=>exact⟨k,h,rfl,rfl,by have:=HH.out;omega,by omega,H2⟩
    case measure=>have:=HH.out;simp[intOf];omega
   ·refine ah.mk ?_;go_wp2_with fail
    go_roundw
    case rel=>exact⟨h+1,m,by go_num,rfl,by have:=HH.out;omega,by omega,H2⟩
    case measure=>have:=HH.out;simp[intOf];omega
  ·obtain rfl:k=m:=by omega
   by_cases hkn:k<n
   ·obtain⟨y,hy⟩:∃y,l[k]?=some y:=⟨_,List.getElem?_eq_getElem (by rw[←HL.out];omega)⟩;obtain⟨g,hA,gK⟩:=(HR.out.below HB.out).get k y hy;have c0:wr.cell? ⟨g,k*2,none⟩=some (.int .i64 y.start):=by have:=gK 0 _ rfl;simpa using this
    have c1:wr.cell? ⟨g,k*2+1,none⟩=some (.int .i64 y.order):=gK 1 _ rfl;have hhn:(k:Int)<n:=by omega
    obtain⟨ys,hys⟩:∃v,v=y.start:=⟨_,rfl⟩;obtain⟨yo,hyo⟩:∃v,v=y.order:=⟨_,rfl⟩;rw[←hys]at c0;rw[←hyo]at c1;subst hA;clear hy gK hlt hys hyo;go_wp2_with (go_at_call 122;refine(qY _ _ _ _).mono ?_;rintro e w2 ⟨r,rfl,hb⟩;have H2:=ah.mk (ay HB.out HB.out.size hb);clear hb)
    first|go_ret2|skip
    rw[←HQ.out];exact⟨k,_,rfl,⟨hm,fun _=>hkn⟩,H2.out⟩
   ·have hkn2:¬(k:Int)<n:=by omega
    go_wp2_with fail
    first|go_ret2|skip
    rw[←HQ.out];exact⟨k,false,rfl,⟨hm,fun h=>by cases h⟩,HB.out⟩
end
section
variable {w0 w:World}{M:List bW}{y:Yd}{b N F:Nat}
theorem Gf (H:Has w0 w (y.star b++M))(x:Int):Calls Tryz.prog 75 #[.pointer (some ⟨b,0,none⟩),.int .i64 x] w fun e w'=>e=.returned (.bool (decide (0≤x∧x<8)))∧w'=w:=by
 refine named fun R HQ=>?_;have y0:w.cell? ⟨b,0,none⟩=some (.int .i64 3):=by rw[aj (H.blk 0 bF)];rfl
 have S3:ah (∀W,Calls Tryz.prog 130 #[.int .i64 3] W fun e w'=>e=.returned (.int .i64 8)∧w'=W):=⟨fun W=>iI 3 (by decide) W⟩;clear H;by_cases h0:0≤x
 ·by_cases h8:x<8
  ·go_enter Tryz.func75,Tryz.ntmps75;go_wp2_with (go_at_call 130;refine(S3.out _).mono ?_;rintro e w' ⟨rfl,hw⟩;obtain rfl:=hw.symm;clear hw)
   first|go_ret|skip
   rw[←HQ.out];exact⟨by simp[h0,h8],rfl⟩
  ·have hd:decide (x<8)=false:=decide_eq_false h8;go_enter Tryz.func75,Tryz.ntmps75;go_wp2_with (go_at_call 130;refine(S3.out _).mono ?_;rintro e w' ⟨rfl,hw⟩;obtain rfl:=hw.symm;clear hw)
   first|go_ret|skip
   rw[←HQ.out];exact⟨by simp[h0,h8],rfl⟩
 ·have hd:decide (0≤x)=false:=decide_eq_false h0;go_enter Tryz.func75,Tryz.ntmps75;go_wp2_with (go_at_call 130;refine(S3.out _).mono ?_;rintro e w' ⟨rfl,hw⟩;obtain rfl:=hw.symm;clear hw)
  first|go_ret|skip
  rw[←HQ.out];exact⟨by simp;omega,rfl⟩
end
end
section
open Go.RowKit
theorem Yd.ok.takes {y:Yd}{N N' F:Nat}{v:Value}{l:List Bk}(h:y.ok N F)(hl:l.length≤N')(hN:N≤N')(hb:∀x∈l,x.ok):(y.kL v l).ok N' F :=
 ⟨h.len,fun f hf=>Nat.le_trans (h.few f hf) hN,hb,hl,h.fail,h.wu⟩
theorem Yd.ok.fails {y:Yd}{N F F':Nat}{v:Value}{l:List Int}(h:y.ok N F)(hl:l.length≤F')(hb:∀x∈l,0≤x∧x≤7):(y.jY v l).ok N F' :=
 ⟨h.len,h.few,h.taken,h.Ny,hb,hl⟩
section
variable {w0 w:World}{M:List bW}{y:Yd}{b N F:Nat}
theorem Gg (H:Has w0 w (y.star b++M))(ok:y.ok N F)(hN:N≤900000)(s q:Nat)(hs:s≤7)(hq:q≤3)(ha:s%2^q=0) :
 Calls Tryz.prog 209 #[.pointer (some ⟨b,0,none⟩),.agg #[.int .i64 (s:Int),.int .i64 (q:Int)]] w fun e w'=>e=.returned (.tuple #[])∧∃y':Yd,y'.ok (N+1) F∧y'.failed=y.failed∧Has w0 w' (y'.star b++M):=by
 refine named fun R HQ=>?_;have H1:ah (Has w0 (w.alloc (.cells #[.int .i64 (s:Int),.int .i64 (q:Int)] 53)) (y.star b++(M++[aF w.heap.size (.cells #[.int .i64 (s:Int),.int .i64 (q:Int)] 53)]))):=⟨by rw[←List.append_assoc];exact H.aZ _⟩;have OK:=ah.mk ok;have HBK:ah ((⟨(s:Int),(q:Int)⟩:Bk).ok):=⟨⟨s,q,rfl,rfl,hs,hq,ha⟩⟩;obtain⟨A,c,qI⟩:=fB H1.out 1 jC;obtain⟨n,hn⟩:∃n,n=y.taken.length:=⟨_,rfl⟩;rw[←hn]at qI;have TV:=ah.mk qI;have jr:ah (n=y.taken.length∧n≤N):=⟨hn,by rw[hn];exact ok.Ny⟩;obtain⟨NB,jw⟩:∃NB,NB=w.heap.size:=⟨_,rfl⟩;obtain⟨V,hV⟩:∃V,V=w.alloc (.cells #[.int .i64 (s:Int),.int .i64 (q:Int)] 53):=⟨_,rfl⟩;have VQ:=ah.mk (And.intro jw hV);clear H ok ha jw qI hn hV;go_enter Tryz.func209,Tryz.ntmps209;go_wp2_with fail
 rw[←VQ.out.2,←VQ.out.1]at H1 ⊢;clear VQ;obtain⟨Kp,fD⟩:∃Kp:Nat→Prop,Kp=fun k=>k=b∨k=NB:=⟨_,rfl⟩;have KB:ah (V.heap[b]?=some (.cells _ 126)∧V.heap[NB]?=some (.cells #[.int .i64 (s:Int),.int .i64 (q:Int)] 53)):=⟨H1.out.blk 0 bF,H1.out.blk (14+M.length) (aH (aT _ _) OK.out.len)⟩;have yh:=ah.mk fD;have kb:Kp b:=by rw[fD];exact .inl rfl
 have kn:Kp NB:=by rw[fD];exact .inr rfl
 have wV:ah (∀k,Kp k→k<V.drew.heap.size):=⟨fun k hk=>by rw[fD]at hk;rcases hk with rfl|rfl;exact(Array.getElem?_eq_some_iff.1 KB.out.1).1;exact(Array.getElem?_eq_some_iff.1 KB.out.2).1⟩;have b0:∀g:KW V Kp,g.W.cell? ⟨NB,0,none⟩=some (.int .i64 (s:Int)):=fun g=>g.cell kn (by rw[aj KB.out.2];rfl);have b1:∀g:KW V Kp,g.W.cell? ⟨NB,1,none⟩=some (.int .i64 (q:Int)):=fun g=>g.cell kn (by rw[aj KB.out.2];rfl);have y1:∀g:KW V Kp,g.W.cell? ⟨b,12,none⟩=some (.slice A n c):=fun g=>g.cell kb (by rw[aj KB.out.1];rw[Yd.nP OK.out.len,TV.out]);clear fD;have TK:ah ((y.star b++(M++[aF NB (.cells #[.int .i64 (s:Int),.int .i64 (q:Int)] 53)]))[1]?=some (aV 53 2 pJ (.slice A n c) y.taken)):=⟨by rw[←TV.out];exact jC⟩;have BS:=ah.mk (AO (w:=V.drew) (s:Int) ((bK H1.out 1 TK.out lV).below (aC (Below.refl _ _) 1)) (by have:=jr.out;omega));refine aK (fun W=>∃g:KW V Kp,W=g.W) 11 (by kernel_rfl) (by kernel_rfl) ?_;have HB0:ah (∀k,Kp k→V.drew.heap[k]?=V.heap[k]?):=⟨fun _ _=>rfl⟩;have HG:∃g:KW V Kp,V.drew=g.W:=⟨⟨_,HB0.out⟩,rfl⟩;refine tk 0 HG ?_;refine tk 1 HG ?_;refine tk 2 HG ?_;refine tk 3 HG ?_;refine tk 4 HG ?_;refine tk 5 HG ?_;refine aP (k:=6) rfl (by kernel_rfl) (by kernel_rfl) (fun KK gB=>?_);rw[if_pos (by rfl)];go_simp;go_at_call 121;refine BS.out.mono ?_;rintro e w3 ⟨i,bb,rfl,hi,h3⟩;have H3:=ah.mk (H1.out.drew.below h3);have HI:=ah.mk hi;have hk':∀k,Kp k→w3.heap[k]?=V.heap[k]?:=fun k hk=>h3.block k (wV.out k hk);clear h3 hi;refine gB _ _ ⟨⟨_,hk'⟩,rfl⟩ ?_;have HB1:=ah.mk hk';clear gB KK HG;have HG:∃g:KW V Kp,w3=g.W:=⟨⟨_,HB1.out⟩,rfl⟩;clear hk';try simp only[Act.put,List.setIfInBounds_toArray,List.set_cons_zero,List.set_cons_succ]
 refine tk 7 HG ?_;refine tk 8 HG ?_;refine tk 9 HG ?_;refine tk 10 HG ?_;refine aO (by kernel_rfl) ?_;simp only[List.drop_succ_cons,List.drop_zero];go_wp2_with fail
 clear b0 b1 y1 HG HB0 HB1 KB yh kb kn wV BS;clear Kp;obtain⟨Kp,fD⟩:∃Kp:Nat→Prop,Kp=fun k=>k=b∨k=NB:=⟨_,rfl⟩;have KB:ah (w3.heap[b]?=some (.cells _ 126)∧w3.heap[NB]?=some (.cells #[.int .i64 (s:Int),.int .i64 (q:Int)] 53)):=⟨H3.out.blk 0 bF,H3.out.blk (14+M.length) (aH (aT _ _) OK.out.len)⟩;have yh:=ah.mk fD;have kb:Kp b:=by rw[fD];exact .inl rfl
 have kn:Kp NB:=by rw[fD];exact .inr rfl
 have wV:ah (∀k,Kp k→k<w3.drew.heap.size):=⟨fun k hk=>by rw[fD]at hk;rcases hk with rfl|rfl;exact(Array.getElem?_eq_some_iff.1 KB.out.1).1;exact(Array.getElem?_eq_some_iff.1 KB.out.2).1⟩;have b0:∀g:KW w3 Kp,g.W.cell? ⟨NB,0,none⟩=some (.int .i64 (s:Int)):=fun g=>g.cell kn (by rw[aj KB.out.2];rfl);have b1:∀g:KW w3 Kp,g.W.cell? ⟨NB,1,none⟩=some (.int .i64 (q:Int)):=fun g=>g.cell kn (by rw[aj KB.out.2];rfl);have y1:∀g:KW w3 Kp,g.W.cell? ⟨b,12,none⟩=some (.slice A n c):=fun g=>g.cell kb (by rw[aj KB.out.1];rw[Yd.nP OK.out.len,TV.out]);clear fD;have MK:=ah.mk (H3.out.drew.aZ (.cells #[.int .i64 (s:Int),.int .i64 (q:Int)] 53));rw[List.append_assoc]at MK;have DI:=ah.mk (Zi MK.out 1 (14+(M.length+1)) ⟨(s:Int),(q:Int)⟩ (by rw[←TV.out];exact jC) (aH (jR _ _ _) OK.out.len) (by omega) jr.out.1 i HI.out.1 (by have:=jr.out;omega));refine aK (fun W=>∃g:KW w3 Kp,W=g.W) 11 (by kernel_rfl) (by kernel_rfl) ?_;have HB0:ah (∀k,Kp k→w3.drew.heap[k]?=w3.heap[k]?):=⟨fun _ _=>rfl⟩;have HG:∃g:KW w3 Kp,w3.drew=g.W:=⟨⟨_,HB0.out⟩,rfl⟩;refine tk 0 HG ?_;refine tk 1 HG ?_;refine tk 2 HG ?_;refine tk 3 HG ?_;refine tk 4 HG ?_;refine tk 5 HG ?_;refine tk 6 HG ?_;refine aP (k:=7) rfl (by kernel_rfl) (by kernel_rfl) (fun KK gB=>?_);rw[if_pos (by rfl)];go_simp;have HB1:ah (∀k,Kp k→(w3.drew.alloc (.cells #[.int .i64 (s:Int),.int .i64 (q:Int)] 53)).heap[k]?=w3.heap[k]?):=⟨fun k hk=>heap_alloc_old _ _ (wV.out k hk)⟩;refine gB _ _ ⟨⟨_,HB1.out⟩,rfl⟩ ?_;clear gB KK HG;have HG:∃g:KW w3 Kp,w3.drew.alloc (.cells #[.int .i64 (s:Int),.int .i64 (q:Int)] 53)=g.W:=⟨⟨_,HB1.out⟩,rfl⟩;try simp only[Act.put,List.setIfInBounds_toArray,List.set_cons_zero,List.set_cons_succ]
 refine aP (k:=8) rfl (by kernel_rfl) (by kernel_rfl) (fun KK gB=>?_);rw[if_pos (by rfl)];go_simp;go_at_call 255;refine DI.out.mono ?_;rintro e w5 ⟨A1,c1,rfl,h3⟩;have hk':∀k,Kp k→w5.heap[k]?=w3.heap[k]?:=fun k hk=>by
  rw[yh.out]at hk;rcases hk with rfl|rfl
  ·rw[KB.out.1];exact h3.blk 0 (by rw[List.getElem?_set_ne (by omega)];exact bF)
  ·rw[KB.out.2];exact h3.blk (14+M.length) (by rw[List.getElem?_set_ne (by omega)];exact aH (gY _ _ _) OK.out.len)
 have H5:=ah.mk h3;clear h3;refine gB _ _ ⟨⟨_,hk'⟩,rfl⟩ ?_;have HB2:=ah.mk hk';clear gB KK HG;have HG:∃g:KW w3 Kp,w5=g.W:=⟨⟨_,HB2.out⟩,rfl⟩;clear hk';try simp only[Act.put,List.setIfInBounds_toArray,List.set_cons_zero,List.set_cons_succ]
 refine tk 9 HG ?_;refine tk 10 HG ?_;refine aO (by kernel_rfl) ?_;simp only[List.drop_succ_cons,List.drop_zero];have z0:w5.cell? ⟨b,12,none⟩=some (.slice A n c):=y1 ⟨w5,HB2.out⟩;have z1:w5.frozen? ⟨b,12,none⟩=false:=aJ ((HB2.out b kb).trans KB.out.1) _;clear b0 b1 y1;go_wp2_with fail
 first|go_end0|skip
 rw[←HQ.out];refine⟨rfl,y.kL (.slice A1 (n+1) c1) (y.taken.take i++⟨(s:Int),(q:Int)⟩::y.taken.drop i),OK.out.takes (by have:=jr.out;have:=HI.out;simp;omega) (by omega) (fun x hx=>?_),rfl,?_⟩
 ·rcases List.mem_append.1 hx with h|h
  ·exact OK.out.taken x (List.mem_of_mem_take h)
  ·rcases List.mem_cons.1 h with rfl|h
   ·exact HBK.out
   ·exact OK.out.taken x (List.mem_of_mem_drop h)
 ·have h:=pX OK.out.len H5.out;exact Has.first (M:=[_,_]) (by simpa[List.append_assoc]using h)
end
end
section
open Go.RowKit
abbrev code (r:Int):Prop:=0≤r∧r≤1000
abbrev bad (r:Int):Prop:=r≠0∧code r
section
variable {w0 w:World}{M:List bW}{y:Yd}{b N F:Nat}
theorem Gh {L:List bW}(H0:Has w0 w L){n c:Nat}{A:Option Addr}{xs:List Value}(hrow:w.ownsRow 0 3 1 (.slice A n c) n xs)(hn:n≤1000000)(h1:∀u∈xs,u.oneCell'=true) :
 Calls Tryz.prog 150 #[.slice A n c] w fun e w'=>∃A1 c1,e=.returned (.slice A1 n c1)∧Has w0 w' (L++[rowA 3 1 (.slice A1 n c1) n xs]):=by
 rcases hrow.2 with⟨hv,h0⟩|⟨g,cap,cur,hv,hb,hh,hnc,hm,hs,ht⟩
 ·cases hv;have hx:xs=[]:=List.eq_nil_of_length_eq_zero (by rw[hrow.1]);subst hx;have HN:=ah.mk (H0.iU 3 1);have hnil:∀W,(binOp .eql 44 (.slice none 0 0) (.slice none 0 0)).run Tryz.prog W=.ok (.bool true) W:=fun _=>rfl;clear hrow H0;go_enter Tryz.func150,Tryz.ntmps150;go_wp2_with fail
  go_ret;exact⟨none,0,rfl,HN.out⟩
 ·injection hv with e1 e2 e3;subst e1 e3;obtain⟨A1,c1,w1,hr,h2⟩:=lF H0 hrow 44 44 Tryz.underlying44 info3 (by decide) hn h1;have HR:=ah.mk hr;have H2:=ah.mk h2;clear hr h2;have hnil:∀W,(binOp .eql 44 (.slice (some ⟨g,0,none⟩) n c) (.slice none 0 0)).run Tryz.prog W=.ok (.bool false) W:=fun _=>rfl;clear hrow H0 hh ht h1 e2 hb hs;go_enter Tryz.func150,Tryz.ntmps150;go_wp2_with (at_builtin;refine step_append rfl 44 (.tmp 5) (.tmp 6) rfl rfl rfl HR.out ?_)
  go_ret;exact⟨A1,c1,rfl,H2.out⟩
theorem ou (H:Has w0 w (y.star b++M))(ok:y.ok N F)(hF:F≤100000) :
 Calls Tryz.prog 89 #[.pointer (some ⟨b,0,none⟩)] w fun e w'=>∃(A:Option Addr) (n c:Nat),e=.returned (.slice A n c)∧n=y.failed.length∧Has w w' [aV 3 1 encI (.slice A n c) y.failed]:=by
 refine named fun R HQ=>?_;obtain⟨A,c,qI⟩:=fB H 2 gy;obtain⟨n,hn⟩:∃n,n=y.failed.length:=⟨_,rfl⟩;rw[←hn]at qI;have y1:w.cell? ⟨b,13,none⟩=some (.slice A n c):=by rw[aj (H.blk 0 bF),Yd.jk ok.len,qI]
 have hrow:=H.row 2 (e:=3) (sz:=1) (v:=y.lv) (n:=y.failed.length) (xs:=y.failed.flatMap encI) gy;rw[qI,←hn]at hrow;have CL:=ah.mk (Gh (Has.start w) hrow (by rw[hn];have:=ok.wu;omega) (tu yg _));have HN:=ah.mk hn;clear hrow qI hn H ok;go_enter Tryz.func89,Tryz.ntmps89;go_wp2_with (go_at_call 150;refine CL.out.mono ?_;rintro e w2 ⟨A1,c1,rfl,h2⟩;have H2:=ah.mk h2;clear h2)
 first|go_ret|skip
 rw[←HQ.out];refine⟨A1,n,c1,rfl,HN.out,?_⟩;have:=H2.out;unfold aV;rw[←HN.out];exact this
theorem Jz (H:Has w0 w (y.star b++M))(ok:y.ok N F)(hN:N≤1000000)(x:Int) :
 Calls Tryz.prog 78 #[.pointer (some ⟨b,0,none⟩),.int .i64 x] w fun e w'=>∃(u v:Int) (f:Bool),e=.returned (.tuple #[.agg #[.int .i64 u,.int .i64 v],.bool f])∧Below w.heap.size w w':=by
 refine named fun R HQ=>?_;have OK:=ah.mk ok;obtain⟨A,c,qI⟩:=fB H 1 jC;obtain⟨n,hn⟩:∃n,n=y.taken.length:=⟨_,rfl⟩;rw[←hn]at qI;have TV:=ah.mk qI;have jr:ah (n=y.taken.length∧n≤N):=⟨hn,by rw[hn];exact ok.Ny⟩;have Zm:n≤1000000:=by have:=jr.out;omega
 have TK:ah ((y.star b++M)[1]?=some (aV 53 2 pJ (.slice A n c) y.taken)):=⟨by rw[←TV.out];exact jC⟩;have RD:=ah.mk (bK H 1 TK.out lV);have H1:ah (Has w0 (w.alloc (.cells #[.int .i64 0,.int .i64 0] 53)) ((y.star b++M)++[aF w.heap.size (.cells #[.int .i64 0,.int .i64 0] 53)])):=⟨H.aZ _⟩;have y1:(w.alloc (.cells #[.int .i64 0,.int .i64 0] 53)).cell? ⟨b,12,none⟩=some (.slice A n c):=ak (au (Below.refl _ _) _) (by rw[aj (H.blk 0 bF),Yd.nP OK.out.len,TV.out]);have HB0:ah (Has w (w.alloc (.cells #[.int .i64 0,.int .i64 0] 53)) [aF w.heap.size (.cells #[.int .i64 0,.int .i64 0] 53)]):=⟨(Has.start w).aZ _⟩;clear H ok qI hn H1;go_enter Tryz.func78,Tryz.ntmps78;go_wp2_with fail
 go_loopw [16] (fun i wr=>∃k:Nat,i=.int .i64 k∧k≤n∧ah (Has w wr [aF w.heap.size (.cells #[.int .i64 0,.int .i64 0] 53)])) (fun i _=>n-(intOf i).toNat)
 case atStart=>exact⟨0,rfl,Nat.zero_le _,HB0⟩
 case round =>
  clear HB0 y1;obtain⟨k,rfl,hk,HS⟩:=hrel;by_cases hlt:k<n
  ·obtain⟨t,ht⟩:∃t,y.taken[k]?=some t:=⟨_,List.getElem?_eq_getElem (by rw[←jr.out.1];exact hlt)⟩;obtain⟨s,q,e1,e2,hs,hq,ha⟩:=OK.out.taken t (List.mem_of_getElem? ht);obtain⟨g,hA,gK⟩:=(RD.out.below HS.out.old).get k t ht;have c0:wr.cell? ⟨g,k*2,none⟩=some (.int .i64 (s:Int)):=by have:=gK 0 _ rfl;rw[←e1];simpa using this
   have c1:wr.cell? ⟨g,k*2+1,none⟩=some (.int .i64 (q:Int)):=by have:=gK 1 _ rfl;rw[←e2];exact this
   have H5:=ah.mk (HS.out.aZ (.cells #[.int .i64 (s:Int),.int .i64 (q:Int)] 53));have BI:=ah.mk fun W=>Az s q x hs hq W;subst hA;clear ht e1 e2 ha gK;go_wp2_with (first|(go_at_call 133;refine(BI.out _).mono ?_;rintro e w5 ⟨bb,rfl,hb⟩;have H6:=ah.mk (H5.out.below hb);clear hb;refine ah.out ?_)|(refine aB wr.heap.size rfl rfl 53 (.tmp 7) (.tmp 19) rfl #[.int .i64 (s:Int),.int .i64 (q:Int)] rfl rfl 53 _ (jQ _ _) rfl (by simp[Value.oneCell']) ?_))
   cases bb
   ·have H7:=ah.mk (H6.out.drop 1);refine ah.mk ?_;go_wp2_with fail
    go_roundw
    case rel=>exact⟨k+1,by go_num,by omega,H7⟩
    case measure=>simp[intOf];omega
   ·have EB:ah (w5.heap[w.heap.size]?=some (.cells #[.int .i64 0,.int .i64 0] 53)):=⟨H6.out.blk 0 rfl⟩;have d0:w5.cell? ⟨wr.heap.size,0,none⟩=some (.int .i64 (s:Int)):=by rw[aj (H6.out.blk 1 rfl)];rfl
    have d1:w5.cell? ⟨wr.heap.size,1,none⟩=some (.int .i64 (q:Int)):=by rw[aj (H6.out.blk 1 rfl)];rfl
    refine ah.mk ?_;go_wp2_with (refine aY rfl 53 (.tmp 4) (.tmp 23) rfl w.heap.size #[.int .i64 (s:Int),.int .i64 (q:Int)] rfl rfl 53 _ EB.out (jQ _ _) rfl (by simp[Value.oneCell']) ?_)
    try simp only[Exit.inBlock,Exit.then]
    refine eu rfl rfl w.heap.size #[.int .i64 (s:Int),.int .i64 (q:Int)] 53 (0,0) _ rfl (setRow_heap _ _ _ _ _ _ EB.out) Tryz.underlying53 rfl (jQ _ _) ?_;rw[←HQ.out];exact⟨s,q,true,rfl,below_setRow H6.out.old (Nat.le_refl _) _⟩
  ·have EB:ah (wr.heap[w.heap.size]?=some (.cells #[.int .i64 0,.int .i64 0] 53)):=⟨HS.out.blk 0 rfl⟩;go_wp2_with (refine aY rfl 53 (.tmp 4) (.tmp 25) rfl w.heap.size #[.int .i64 0,.int .i64 0] rfl rfl 53 _ EB.out (jQ _ _) rfl (by simp[Value.oneCell']) ?_)
   try simp only[Exit.inBlock,Exit.then]
   refine eu rfl rfl w.heap.size #[.int .i64 0,.int .i64 0] 53 (0,0) _ rfl (setRow_heap _ _ _ _ _ _ EB.out) Tryz.underlying53 rfl (jQ _ _) ?_;rw[←HQ.out];exact⟨0,0,false,rfl,below_setRow HS.out.old (Nat.le_refl _) _⟩
theorem JB (H:Has w0 w (y.star b++M))(ok:y.ok N F)(hN:N≤700000)(hF:F≤100000)(x:Nat)(hx:x≤7) :
 Calls Tryz.prog 73 #[.pointer (some ⟨b,0,none⟩),.int .i64 (x:Int)] w fun e w'=>∃r:Int,e=.returned (.int .i64 r)∧∃y':Yd,(code r∧y'.ok (N+3) (F+1))∧Has w0 w' (y'.star b++M):=by
 refine named fun R HQ=>?_;have OK:=ah.mk ok;have H1:=ah.mk H;obtain⟨A,c,qI⟩:=fB H 2 gy;obtain⟨n,hn⟩:∃n,n=y.failed.length:=⟨_,rfl⟩;rw[←hn]at qI;have TV:=ah.mk qI;have jr:ah (n=y.failed.length∧n≤F):=⟨hn,by rw[hn];exact ok.wu⟩;have Zm:n≤1000000:=by have:=jr.out;omega
 have TK:ah (∀M',(y.star b++M')[2]?=some (aV 3 1 encI (.slice A n c) y.failed)):=⟨fun M'=>by rw[←TV.out];exact gy⟩;have y1:w.cell? ⟨b,13,none⟩=some (.slice A n c):=by rw[aj (H.blk 0 bF),Yd.jk ok.len,qI]
 have IS:ah (Calls Tryz.prog 75 #[.pointer (some ⟨b,0,none⟩),.int .i64 (x:Int)] w fun e w'=>e=.returned (.bool true)∧w'=w):=⟨by
  have h:=Gf H (x:Int);rwa [show decide (0≤(x:Int)∧(x:Int)<8)=true from decide_eq_true ⟨by omega,by omega⟩]at h⟩
 have uy:=ah.mk (jO (w:=w) (x:Int) (bK H 2 (TK.out M) bJ) (by omega));obtain⟨kk,hkk⟩:∃kk,kk=bs y.failed (x:Int):=⟨_,rfl⟩;obtain⟨hb,hhb⟩:∃hb,hb=kX y.failed (x:Int):=⟨_,rfl⟩;have HKK:ah (kk≤n):=⟨by have h1:=Ap y.failed (x:Int);omega⟩;rw[←hkk,←hhb]at uy;have y2:∀o,(w.alloc o).cell? ⟨b,13,none⟩=some (.slice A n c):=fun o=>ak (au (Below.refl _ _) _) y1;have H2:ah (Has w0 (w.alloc (.cells #[.int .i64 (x:Int)] 3)) (y.star b++(M++[aF w.heap.size (.cells #[.int .i64 (x:Int)] 3)]))):=⟨by rw[←List.append_assoc];exact H.aZ _⟩;have IN:=ah.mk (Qq H2.out 2 (14+M.length) (x:Int) (TK.out _) (aH (aT _ _) ok.len) (by omega) jr.out.1 kk HKK.out (by omega));clear H ok qI hn hkk hhb;cases hb
 ·go_enter Tryz.func73,Tryz.ntmps73;go_wp2_with (first|(go_at_call 127;refine IN.out.mono ?_;rintro e w3 ⟨A1,c1,rfl,h3⟩;have H3:=ah.mk h3;clear h3;refine ah.out ?_)|(go_at_call 76;refine uy.out.mono ?_;rintro e w' ⟨rfl,hw⟩;obtain rfl:=hw.symm;clear hw)|(go_at_call 75;refine IS.out.mono ?_;rintro e w' ⟨rfl,hw⟩;obtain rfl:=hw.symm;clear hw))
  have z0:w3.cell? ⟨b,13,none⟩=some (.slice A n c):=by rw[aj (H3.out.blk 0 (by rw[List.getElem?_set_ne (by omega)];rfl)),Yd.jk OK.out.len,TV.out]
  have z1:w3.frozen? ⟨b,13,none⟩=false:=aJ (H3.out.blk 0 (by rw[List.getElem?_set_ne (by omega)];rfl)) _;obtain⟨y3,hy3⟩:∃y3,y3=y.jY (.slice A1 (n+1) c1) (y.failed.take kk++(x:Int)::y.failed.drop kk):=⟨_,rfl⟩;have lI:ah (y3.ok N (F+1)):=⟨by
   rw[hy3];refine OK.out.fails (by have:=jr.out;have:=HKK.out;simp;omega) fun t ht=>?_;rcases List.mem_append.1 ht with h|h
   ·exact OK.out.fail t (List.mem_of_mem_take h)
   ·rcases List.mem_cons.1 h with rfl|h
    ·exact⟨by omega,by omega⟩
    ·exact OK.out.fail t (List.mem_of_mem_drop h)⟩
  have H4:ah (Has w0 (w3.setCell ⟨b,13,none⟩ (.slice A1 (n+1) c1)) (y3.star b++M)):=⟨by
   rw[hy3];exact Has.first (M:=[_]) (by rw[List.append_assoc];exact oJ OK.out.len H3.out)⟩
  clear hy3 IS uy IN y1 y2 H2 H3 jr TK TV HKK;have hsz:(w3.setCell ⟨b,13,none⟩ (.slice A1 (n+1) c1)).heap.size=w3.heap.size:=by simp[World.setCell]
  have Zo:=ah.mk hsz;clear hsz;refine ah.mk ?_;go_wp2_with (refine aB (w:=w3.setCell ⟨b,13,none⟩ (.slice A1 (n+1) c1)) w3.heap.size Zo.out rfl 53 (.tmp 7) (.tmp 40) rfl #[.int .i64 (x:Int),.int .i64 0] rfl rfl 53 _ (jQ _ _) rfl (by simp[Value.oneCell']) ?_;refine ah.out ?_)
  have H5:=ah.mk (H4.out.aZ (.cells #[.int .i64 (x:Int),.int .i64 0] 53));rw[List.append_assoc,Zo.out]at H5;obtain⟨NB,jw⟩:∃NB,NB=w3.heap.size:=⟨_,rfl⟩;obtain⟨W5,oM⟩:∃W5,W5=(w3.setCell ⟨b,13,none⟩ (.slice A1 (n+1) c1)).alloc (.cells #[.int .i64 (x:Int),.int .i64 0] 53):=⟨_,rfl⟩;rw[←oM,←jw]at H5;rw[←oM,←jw];clear oM jw H4 z0 z1 Zo;have AR:=ah.mk (show Calls Tryz.prog 128 #[.pointer (some ⟨b,0,none⟩),.agg #[.int .i64 (x:Int),.int .i64 0]] W5 _ from tC H5.out lI.out (by omega) x 0 hx (by omega));have b0:W5.cell? ⟨NB,0,none⟩=some (.int .i64 (x:Int)):=by rw[aj (H5.out.blk (14+M.length) (aH (aT _ _) lI.out.len))];rfl
  have b1:W5.cell? ⟨NB,1,none⟩=some (.int .i64 0):=by rw[aj (H5.out.blk (14+M.length) (aH (aT _ _) lI.out.len))];rfl
  refine ah.mk ?_;go_wp2_with (go_at_call 128;refine AR.out.mono ?_;rintro e w6 ⟨p,o,f,rfl,hf,h6⟩;have H6:=ah.mk (H5.out.below h6);have HF:=ah.mk hf;clear h6 hf;refine ah.out ?_)
  clear b0 b1 AR H5;have H7:=ah.mk (H6.out.aZ (.cells #[.int .i64 (p:Int),.int .i64 (o:Int)] 53));rw[List.append_assoc]at H7;refine ah.mk ?_;go_wp2_with (refine aB w6.heap.size rfl rfl 53 (.tmp 8) (.tmp 45) rfl #[.int .i64 (p:Int),.int .i64 (o:Int)] rfl rfl 53 _ (jQ _ _) rfl (by simp[Value.oneCell']) ?_;refine ah.out ?_)
  obtain⟨NC,AB⟩:∃NC,NC=w6.heap.size:=⟨_,rfl⟩;obtain⟨W7,Iq⟩:∃W7,W7=w6.alloc (.cells #[.int .i64 (p:Int),.int .i64 (o:Int)] 53):=⟨_,rfl⟩;rw[←Iq,←AB]at H7;rw[←Iq,←AB];clear Iq AB H6;cases f
  ·refine ah.mk ?_;go_wp2_with fail
   first|go_ret|skip
   rw[←HQ.out];refine⟨_,rfl,y3,⟨⟨by decide,by decide⟩,lI.out.mono (by omega) (Nat.le_refl _)⟩,?_⟩;exact Has.first (M:=[_,_]) (by simpa[List.append_assoc]using H7.out)
  ·obtain⟨hqo,ho3,hpo,v,l,hfr,hbs⟩:=HF.out rfl;have SP:=ah.mk (show Calls Tryz.prog 129 #[.pointer (some ⟨b,0,none⟩),.agg #[.int .i64 (p:Int),.int .i64 (o:Int)],.agg #[.int .i64 (x:Int),.int .i64 0]] W7 _ from vS H7.out lI.out (by omega) x 0 p o hx hqo ho3 hpo (Nat.mod_one _) hfr hbs);have b0:W7.cell? ⟨NB,0,none⟩=some (.int .i64 (x:Int)):=by rw[aj (H7.out.blk (14+M.length) (aH (gY _ _ _) lI.out.len))];rfl
   have b1:W7.cell? ⟨NB,1,none⟩=some (.int .i64 0):=by rw[aj (H7.out.blk (14+M.length) (aH (gY _ _ _) lI.out.len))];rfl
   have c0:W7.cell? ⟨NC,0,none⟩=some (.int .i64 (p:Int)):=by rw[aj (H7.out.blk (14+(M.length+1)) (aH (jR _ _ _) lI.out.len))];rfl
   have c1:W7.cell? ⟨NC,1,none⟩=some (.int .i64 (o:Int)):=by rw[aj (H7.out.blk (14+(M.length+1)) (aH (jR _ _ _) lI.out.len))];rfl
   clear hqo hpo hfr hbs HF;refine ah.mk ?_;go_wp2_with (go_at_call 129;refine SP.out.mono ?_;rintro e w8 ⟨rfl,y4,XF,hsm,h8⟩;have H8:=ah.mk h8;have Zp:=ah.mk XF;clear h8 XF hsm)
   first|go_ret|skip
   rw[←HQ.out];refine⟨_,rfl,y4,⟨⟨by decide,by decide⟩,Zp.out⟩,?_⟩;exact Has.first (M:=[_,_]) (by simpa[List.append_assoc]using H8.out)
 ·go_enter Tryz.func73,Tryz.ntmps73;go_wp2_with (first|(go_at_call 76;refine uy.out.mono ?_;rintro e w' ⟨rfl,hw⟩;obtain rfl:=hw.symm;clear hw)|(go_at_call 75;refine IS.out.mono ?_;rintro e w' ⟨rfl,hw⟩;obtain rfl:=hw.symm;clear hw))
  first|go_ret|skip
  rw[←HQ.out];exact⟨_,rfl,y,⟨⟨by decide,by decide⟩,OK.out.mono (by omega) (by omega)⟩,H1.out⟩
theorem JD (H:Has w0 w (y.star b++M))(ok:y.ok N F)(hN:N≤700000)(hF:F≤100000)(x:Nat)(hx:x≤7) :
 Calls Tryz.prog 45 #[.pointer (some ⟨b,0,none⟩),.int .i64 (x:Int)] w fun e w'=>∃r:Int,e=.returned (.int .i64 r)∧∃y':Yd,(code r∧y'.ok (N+1) F)∧Has w0 w' (y'.star b++M):=by
 refine named fun R HQ=>?_;have OK:=ah.mk ok;have H1:=ah.mk H;obtain⟨A,c,qI⟩:=fB H 2 gy;obtain⟨n,hn⟩:∃n,n=y.failed.length:=⟨_,rfl⟩;rw[←hn]at qI;have TV:=ah.mk qI;have jr:ah (n=y.failed.length∧n≤F):=⟨hn,by rw[hn];exact ok.wu⟩;have Zm:n≤1000000:=by have:=jr.out;omega
 have TK:ah (∀M',(y.star b++M')[2]?=some (aV 3 1 encI (.slice A n c) y.failed)):=⟨fun M'=>by rw[←TV.out];exact gy⟩;have y1:w.cell? ⟨b,13,none⟩=some (.slice A n c):=by rw[aj (H.blk 0 bF),Yd.jk ok.len,qI]
 have IS:ah (Calls Tryz.prog 75 #[.pointer (some ⟨b,0,none⟩),.int .i64 (x:Int)] w fun e w'=>e=.returned (.bool true)∧w'=w):=⟨by
  have h:=Gf H (x:Int);rwa [show decide (0≤(x:Int)∧(x:Int)<8)=true from decide_eq_true ⟨by omega,by omega⟩]at h⟩
 have uy:=ah.mk (jO (w:=w) (x:Int) (bK H 2 (TK.out M) bJ) (by omega));obtain⟨kk,hkk⟩:∃kk,kk=bs y.failed (x:Int):=⟨_,rfl⟩;obtain⟨hb,hhb⟩:∃hb,hb=kX y.failed (x:Int):=⟨_,rfl⟩;have HKK:ah (hb=true→kk<n):=⟨fun h=>by rw[hhb]at h;have:=xQ h;omega⟩;rw[←hkk,←hhb]at uy;clear H ok qI hn hkk hhb;cases hb
 ·go_enter Tryz.func45,Tryz.ntmps45;go_wp2_with (first|(go_at_call 76;refine uy.out.mono ?_;rintro e w' ⟨rfl,hw⟩;obtain rfl:=hw.symm;clear hw)|(go_at_call 75;refine IS.out.mono ?_;rintro e w' ⟨rfl,hw⟩;obtain rfl:=hw.symm;clear hw))
  first|go_ret|skip
  rw[←HQ.out];exact⟨_,rfl,y,⟨⟨by decide,by decide⟩,OK.out.mono (by omega) (by omega)⟩,H1.out⟩
 ·have hk1:kk<n:=HKK.out rfl;have DI:=ah.mk (VL H1.out 2 (TK.out M) jr.out.1 kk hk1);go_enter Tryz.func45,Tryz.ntmps45;go_wp2_with (first|(go_at_call 77;refine DI.out.mono ?_;rintro e w3 ⟨rfl,h3⟩;have H3:=ah.mk h3;clear h3;refine ah.out ?_)|(go_at_call 76;refine uy.out.mono ?_;rintro e w' ⟨rfl,hw⟩;obtain rfl:=hw.symm;clear hw)|(go_at_call 75;refine IS.out.mono ?_;rintro e w' ⟨rfl,hw⟩;obtain rfl:=hw.symm;clear hw))
  have z0:w3.cell? ⟨b,13,none⟩=some (.slice A n c):=by rw[aj (H3.out.blk 0 (by rw[List.getElem?_set_ne (by omega)];rfl)),Yd.jk OK.out.len,TV.out]
  have z1:w3.frozen? ⟨b,13,none⟩=false:=aJ (H3.out.blk 0 (by rw[List.getElem?_set_ne (by omega)];rfl)) _;obtain⟨y3,hy3⟩:∃y3,y3=y.jY (.slice A (n-1) c) (y.failed.eraseIdx kk):=⟨_,rfl⟩;have lI:ah (y3.ok N F):=⟨by
   rw[hy3];exact OK.out.fails (by have:=List.length_eraseIdx_le y.failed kk;have:=jr.out;omega) fun t ht=>OK.out.fail t (List.mem_of_mem_eraseIdx ht)⟩
  have H4:ah (Has w0 (w3.setCell ⟨b,13,none⟩ (.slice A (n-1) c)) (y3.star b++M)):=⟨by
   rw[hy3];exact oJ OK.out.len H3.out⟩
  clear hy3 IS uy DI y1 H3 jr TK TV HKK;have HE:=ah.mk (Jz H4.out lI.out (by omega) (x:Int));refine ah.mk ?_;go_wp2_with (go_at_call 78;refine HE.out.mono ?_;rintro e w6 ⟨u,v,f,rfl,h6⟩;have H6:=ah.mk (H4.out.below h6);clear h6;refine ah.out ?_)
  clear HE z0 z1 H4;have H7:=ah.mk (H6.out.aZ (.cells #[.int .i64 u,.int .i64 v] 53));rw[List.append_assoc]at H7;refine ah.mk ?_;go_wp2_with (refine aB w6.heap.size rfl rfl 53 (.tmp 7) (.tmp 43) rfl #[.int .i64 u,.int .i64 v] rfl rfl 53 _ (jQ _ _) rfl (by simp[Value.oneCell']) ?_;refine ah.out ?_)
  obtain⟨W7,Iq⟩:∃W7,W7=w6.alloc (.cells #[.int .i64 u,.int .i64 v] 53):=⟨_,rfl⟩;rw[←Iq]at H7 ⊢;clear Iq H6;cases f
  ·have LA:=ah.mk (show Calls Tryz.prog 79 #[.pointer (some ⟨b,0,none⟩),.agg #[.int .i64 (x:Int),.int .i64 0]] W7 _ from uO H7.out lI.out (by omega) x 0 hx (by omega) (Nat.mod_one _));refine ah.mk ?_;go_wp2_with (go_at_call 79;refine LA.out.mono ?_;rintro e w8 ⟨rfl,y4,XF,hsm,h8⟩;have H8:=ah.mk h8;have Zp:=ah.mk XF;clear h8 XF hsm)
   first|go_ret|skip
   rw[←HQ.out];refine⟨_,rfl,y4,⟨⟨by decide,by decide⟩,Zp.out⟩,?_⟩;exact Has.first (M:=[_]) (by simpa[List.append_assoc]using H8.out)
  ·refine ah.mk ?_;go_wp2_with fail
   first|go_ret|skip
   rw[←HQ.out];refine⟨_,rfl,y3,⟨⟨by decide,by decide⟩,lI.out.mono (by omega) (by omega)⟩,?_⟩;exact Has.first (M:=[_]) (by simpa[List.append_assoc]using H7.out)
end
end
end Go.Proofs.YtandhagfhppgaaaGreatDoor
