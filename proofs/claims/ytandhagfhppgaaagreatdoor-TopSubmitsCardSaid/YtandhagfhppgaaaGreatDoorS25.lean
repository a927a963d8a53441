/- Part 25 of a proof: contracts of the functions that the law reaches. No condition. -/
import Derived.Test.YtandhagfhppgaaaGreatDoorS11
import Derived.Test.YtandhagfhppgaaaGreatDoorS18
import Derived.Test.YtandhagfhppgaaaGreatDoorS22
import Derived.Test.YtandhagfhppgaaaGreatDoorS24
set_option linter.all false
set_option maxRecDepth 100000
set_option maxHeartbeats 16000000
namespace Go.Proofs.YtandhagfhppgaaaGreatDoor
section
open Go.RowKit
theorem qF {α:Type}{sz:Nat}{enc:α→List Value}(hs:∀x,(enc x).length=sz):∀(l:List α) (k:Nat),(l.flatMap enc).take (k*sz)=(l.take k).flatMap enc
 |[],k=>by simp
 |x::l,0=>by simp
 |x::l,k+1=>by
  rw[List.flatMap_cons,List.take_succ_cons,List.flatMap_cons,←qF hs l k,show(k+1)*sz=(enc x).length+k*sz by rw[hs,Nat.add_mul];omega,List.take_length_add_append]
theorem qG {α:Type}{sz:Nat}{enc:α→List Value}(hs:∀x,(enc x).length=sz):∀(l:List α) (k:Nat),(l.flatMap enc).drop (k*sz)=(l.drop k).flatMap enc
 |[],k=>by simp
 |x::l,0=>by simp
 |x::l,k+1=>by
  rw[List.flatMap_cons,List.drop_succ_cons,←qG hs l k,show(k+1)*sz=(enc x).length+k*sz by rw[hs,Nat.add_mul];omega,List.drop_length_add_append]
theorem tu {α:Type}{enc:α→List Value}(h:∀x,∀u∈enc x,u.oneCell'=true)(l:List α):∀u∈l.flatMap enc,u.oneCell'=true:=by
 intro u hu;obtain⟨x,_,hx⟩:=List.mem_flatMap.1 hu;exact h x u hx
theorem yg (x:Int):∀u∈encI x,u.oneCell'=true:=by intro u hu;simp[encI]at hu;rw[hu];rfl
theorem FY (x:Bk):∀u∈pJ x,u.oneCell'=true:=by intro u hu;simp[pJ]at hu;rcases hu with rfl|rfl<;>rfl
theorem FZ (x:Ce):∀u∈gq x,u.oneCell'=true:=by intro u hu;simp[gq]at hu;rcases hu with rfl|rfl|rfl|rfl<;>rfl
section
variable {w0 w:World}{L:List bW}
theorem Dk {α:Type}{enc:α→List Value}{e sz F:Nat}(he:∀x,(enc x).length=sz)
 (hc:∀ {g n c:Nat} {xs:List Value} (i:Nat),L[i]?=some (rowA e sz (.slice (some ⟨g,0,none⟩) n c) n xs)→∀k,k<n→(∀u∈xs,u.oneCell'=true)→
  Calls Tryz.prog F #[.slice (some ⟨g,0,none⟩) n c,.int .i64 (k:Int),.int .i64 ((k:Int)+1)] w fun e' w'=>e'=.returned (.slice (some ⟨g,0,none⟩) (n-1) c)∧Has w0 w' (L.set i (rowA e sz (.slice (some ⟨g,0,none⟩) (n-1) c) (n-1) (xs.take (k*sz)++xs.drop ((k+1)*sz)))))
 (h1:∀x,∀u∈enc x,u.oneCell'=true) (H:Has w0 w L) (i:Nat) {A:Option Addr} {n c:Nat} {l:List α} (hi:L[i]?=some (aV e sz enc (.slice A n c) l)) (hn:n=l.length) (k:Nat) (hk:k<n) :
 Calls Tryz.prog F #[.slice A n c,.int .i64 (k:Int),.int .i64 ((k:Int)+1)] w fun e' w'=>e'=.returned (.slice A (n-1) c)∧Has w0 w' (L.set i (aV e sz enc (.slice A (n-1) c) (l.eraseIdx k))):=by
 obtain⟨g,rfl,_⟩:=dG H i hi hn.symm (by omega);subst hn;refine(hc i hi k hk (tu h1 l)).mono fun e' w' ⟨h2,h3⟩=>⟨h2,?_⟩;unfold aV;rw[List.length_eraseIdx_of_lt hk,List.eraseIdx_eq_take_drop_succ,List.flatMap_append,←qF he,←qG he];exact h3
theorem VL (H:Has w0 w L)(i:Nat){A:Option Addr}{n c:Nat}{l:List Int}(hi:L[i]?=some (aV 3 1 encI (.slice A n c) l))(hn:n=l.length)(k:Nat)(hk:k<n) :
 Calls Tryz.prog 77 #[.slice A n c,.int .i64 (k:Int),.int .i64 ((k:Int)+1)] w fun e w'=>e=.returned (.slice A (n-1) c)∧Has w0 w' (L.set i (aV 3 1 encI (.slice A (n-1) c) (l.eraseIdx k))):=
 Dk bJ (fun i hi k hk h1=>Qi H i hi k hk h1) yg H i hi hn k hk
theorem Zg (H:Has w0 w L)(i:Nat){A:Option Addr}{n c:Nat}{l:List Bk}(hi:L[i]?=some (aV 53 2 pJ (.slice A n c) l))(hn:n=l.length)(k:Nat)(hk:k<n) :
 Calls Tryz.prog 123 #[.slice A n c,.int .i64 (k:Int),.int .i64 ((k:Int)+1)] w fun e w'=>e=.returned (.slice A (n-1) c)∧Has w0 w' (L.set i (aV 53 2 pJ (.slice A (n-1) c) (l.eraseIdx k))):=
 Dk lV (fun i hi k hk h1=>Jp H i hi k hk h1) FY H i hi hn k hk
theorem Zh (H:Has w0 w L)(i:Nat){A:Option Addr}{n c:Nat}{l:List Ce}(hi:L[i]?=some (aV 203 4 gq (.slice A n c) l))(hn:n=l.length)(k:Nat)(hk:k<n) :
 Calls Tryz.prog 119 #[.slice A n c,.int .i64 (k:Int),.int .i64 ((k:Int)+1)] w fun e w'=>e=.returned (.slice A (n-1) c)∧Has w0 w' (L.set i (aV 203 4 gq (.slice A (n-1) c) (l.eraseIdx k))):=
 Dk lW (fun i hi k hk h1=>Ob H i hi k hk h1) FZ H i hi hn k hk
theorem Qq (H:Has w0 w L)(i j:Nat){A:Option Addr}{n c vb:Nat}{l:List Int}(x:Int)(hi:L[i]?=some (aV 3 1 encI (.slice A n c) l))(hj:L[j]?=some (aF vb (.cells #[.int .i64 x] 3 (0,0))))(hij:i≠j)(hn:n=l.length)(k:Nat)(hk:k≤n)(hn2:n≤1000000) :
 Calls Tryz.prog 127 #[.slice A n c,.int .i64 (k:Int),.slice (some ⟨vb,0,none⟩) 1 1] w fun e w'=>∃A1 c1,e=.returned (.slice A1 (n+1) c1)∧Has w0 w' (L.set i (aV 3 1 encI (.slice A1 (n+1) c1) (l.take k++x::l.drop k))):=by
 subst hn;refine(Qk H i j hi hj hij rfl (tu yg l) (by intro u hu;simp at hu;rw[hu];rfl) k hk hn2).mono fun e w' ⟨A1,c1,h2,h3⟩=>⟨A1,c1,h2,?_⟩;unfold aV;rw[show(l.take k++x::l.drop k).length=l.length+1 by simp;omega,List.flatMap_append,List.flatMap_cons,←qF bJ,←qG bJ];simpa[encI]using h3
theorem Zi (H:Has w0 w L)(i j:Nat){A:Option Addr}{n c vb:Nat}{l:List Bk}(x:Bk)(hi:L[i]?=some (aV 53 2 pJ (.slice A n c) l))(hj:L[j]?=some (aF vb (.cells #[.int .i64 x.start,.int .i64 x.order] 53 (0,0))))(hij:i≠j)(hn:n=l.length)(k:Nat)(hk:k≤n)(hn2:n≤1000000) :
 Calls Tryz.prog 255 #[.slice A n c,.int .i64 (k:Int),.slice (some ⟨vb,0,none⟩) 1 1] w fun e w'=>∃A1 c1,e=.returned (.slice A1 (n+1) c1)∧Has w0 w' (L.set i (aV 53 2 pJ (.slice A1 (n+1) c1) (l.take k++x::l.drop k))):=by
 subst hn;refine(Jr H i j hi hj hij rfl (tu FY l) (by intro u hu;simp at hu;rcases hu with rfl|rfl<;>rfl) k hk hn2).mono fun e w' ⟨A1,c1,h2,h3⟩=>⟨A1,c1,h2,?_⟩;unfold aV;rw[show(l.take k++x::l.drop k).length=l.length+1 by simp;omega,List.flatMap_append,List.flatMap_cons,←qF lV,←qG lV];simpa[pJ]using h3
structure KW (w:World)(K:Nat→Prop) where
 W:World
 h:∀k,K k→W.heap[k]?=w.heap[k]?
theorem KW.cell {w:World}{K:Nat→Prop}(g:KW w K){b k:Nat}{v:Value}(hb:K b)(h:w.cell? ⟨b,k,none⟩=some v):g.W.cell? ⟨b,k,none⟩=some v :=
 (World.cell?_of_block (a:=⟨b,k,none⟩) (g.h b hb)).trans h
def Yd.gX (y:Yd)(o:Nat)(v:Value)(l:List Int):Yd:={ y with free:=y.free.set o (v,l)}
def Yd.kL (y:Yd)(v:Value)(l:List Bk):Yd:={ y with tv:=v,taken:=l}
def Yd.jY (y:Yd)(v:Value)(l:List Int):Yd:={ y with lv:=v,failed:=l}
theorem Yd.free_at {y:Yd}{o:Nat}{v:Value}{l:List Int}(h:y.free[o]?=some (v,l)):y.cells[1+o]?=some v:=by
 have hlt:=(List.getElem?_eq_some_iff.1 h).1;unfold Yd.cells;rw[List.getElem?_toArray,show 1+o=o+1 by omega,List.getElem?_cons_succ,List.getElem?_append_left (by simpa using hlt),List.getElem?_map,h];rfl
theorem Yd.nP {y:Yd}(h:y.free.length=11):y.cells[12]?=some y.tv:=by
 unfold Yd.cells;rw[List.getElem?_toArray,List.getElem?_cons_succ,List.getElem?_append_right (by simp[h])];simp[h]
theorem Yd.jk {y:Yd}(h:y.free.length=11):y.cells[13]?=some y.lv:=by
 unfold Yd.cells;rw[List.getElem?_toArray,List.getElem?_cons_succ,List.getElem?_append_right (by simp[h])];simp[h]
theorem Yd.Qr (y:Yd){o:Nat}(v:Value)(l:List Int)(h:o<y.free.length):y.cells.setIfInBounds (1+o) v=(y.gX o v l).cells:=by
 unfold Yd.cells Yd.gX;rw[List.setIfInBounds_toArray,show 1+o=o+1 by omega,List.set_cons_succ,List.set_append_left _ _ (by simpa using h),List.map_set]
theorem Yd.Oe (y:Yd)(v:Value)(l:List Bk)(h:y.free.length=11):y.cells.setIfInBounds 12 v=(y.kL v l).cells:=by
 unfold Yd.cells Yd.kL;rw[List.setIfInBounds_toArray,List.set_cons_succ,List.set_append_right _ _ (by simp[h])];simp[h]
theorem Yd.Jt (y:Yd)(v:Value)(l:List Int)(h:y.free.length=11):y.cells.setIfInBounds 13 v=(y.jY v l).cells:=by
 unfold Yd.cells Yd.jY;rw[List.setIfInBounds_toArray,List.set_cons_succ,List.set_append_right _ _ (by simp[h])];simp[h]
section
variable {y:Yd}{b:Nat}{M:List bW}
theorem bF:(y.star b++M)[0]?=some (aF b (.cells y.cells 126)):=rfl
theorem jC:(y.star b++M)[1]?=some (aV 53 2 pJ y.tv y.taken):=rfl
theorem gy:(y.star b++M)[2]?=some (aV 3 1 encI y.lv y.failed):=rfl
theorem dX {o:Nat}{v:Value}{l:List Int}(h:y.free[o]?=some (v,l)):(y.star b++M)[3+o]?=some (aV 3 1 encI v l):=by
 have hlt:=(List.getElem?_eq_some_iff.1 h).1;unfold Yd.star;simp only[List.cons_append];rw[show 3+o=o+1+1+1 by omega,List.getElem?_cons_succ,List.getElem?_cons_succ,List.getElem?_cons_succ,List.getElem?_append_left (by simpa using hlt),List.getElem?_map,h];rfl
theorem Qs:(y.star b++M).length=3+y.free.length+M.length:=by simp[Yd.star];omega
theorem aH {i:Nat}{X:bW}(h:M[i]?=some X)(hl:y.free.length=11):(y.star b++M)[14+i]?=some X:=by
 have e:(y.star b).length=14:=by simp[Yd.star,hl]
 rw[List.getElem?_append_right (by omega),e,show 14+i-14=i by omega];exact h
theorem pW {i:Nat}{X:bW}(hl:y.free.length=11):(y.star b++M).set (14+i) X=y.star b++M.set i X:=by
 have e:(y.star b).length=14:=by simp[Yd.star,hl]
 rw[List.set_append_right _ _ (by omega),e,show 14+i-14=i by omega]
theorem iQ {w1:World}{o:Nat}{v':Value}{l':List Int}(h:o<y.free.length)(H:Has w0 w1 ((y.star b++M).set (3+o) (aV 3 1 encI v' l'))):Has w0 (w1.setCell ⟨b,1+o,none⟩ v') ((y.gX o v' l').star b++M):=by
 have e:(y.star b++M).set (3+o) (aV 3 1 encI v' l')=aF b (.cells y.cells 126)::LZ y.tv y.taken::EY y.lv y.failed::((y.free.set o (v',l')).map (fun f=>EY f.1 f.2)++M):=by
  unfold Yd.star;simp only[List.cons_append];rw[show 3+o=o+1+1+1 by omega,List.set_cons_succ,List.set_cons_succ,List.set_cons_succ,List.set_append_left _ _ (by simpa using h),List.map_set];rfl
 rw[e]at H;exact H.put 0 rfl (1+o) v' (y.gX o v' l').cells (y.Qr v' l' h)
theorem pX {w1:World}{v':Value}{l':List Bk}(h:y.free.length=11)(H:Has w0 w1 ((y.star b++M).set 1 (aV 53 2 pJ v' l'))):Has w0 (w1.setCell ⟨b,12,none⟩ v') ((y.kL v' l').star b++M):=
 H.put 0 rfl 12 v' (y.kL v' l').cells (y.Oe v' l' h)
theorem oJ {w1:World}{v':Value}{l':List Int}(h:y.free.length=11)(H:Has w0 w1 ((y.star b++M).set 2 (aV 3 1 encI v' l'))):Has w0 (w1.setCell ⟨b,13,none⟩ v') ((y.jY v' l').star b++M):=
 H.put 0 rfl 13 v' (y.jY v' l').cells (y.Jt v' l' h)
end
theorem Yd.ok.free {y:Yd}{N F o:Nat}(h:y.ok N F)(ho:o≤10):∃(A:Option Addr) (c:Nat) (v:Value) (l:List Int),y.free[o]?=some (v,l)∧l.length≤N:=by
 have hlt:o<y.free.length:=by rw[h.len];omega
 refine⟨none,0,(y.free[o]).1,(y.free[o]).2,List.getElem?_eq_getElem hlt,h.few _ (List.getElem_mem _)⟩
theorem Yd.ok.put {y:Yd}{N N' F o:Nat}{v:Value}{l:List Int}(h:y.ok N F)(hl:l.length≤N')(hN:N≤N'):(y.gX o v l).ok N' F :=
 ⟨by simp[Yd.gX,h.len],fun f hf=>by
  rcases List.mem_or_eq_of_mem_set hf with h1|h1
  ·exact Nat.le_trans (h.few f h1) hN
  ·rw[h1];exact hl,h.taken,Nat.le_trans h.Ny hN,h.fail,h.wu⟩
end
end
section
open Go.RowKit
def Yd.same (y' y:Yd):Prop:=y'.taken=y.taken∧y'.failed=y.failed
theorem Yd.same.refl (y:Yd):y.same y:=⟨rfl,rfl⟩
theorem Yd.same.trans {a b c:Yd}(h:a.same b)(k:b.same c):a.same c:=⟨h.1.trans k.1,h.2.trans k.2⟩
theorem Ju {o:Nat}(h:o≤3):(o:Int)<11:=by omega
section
variable {w0 w:World}{M:List bW}{y:Yd}{b N F:Nat}
theorem Jv (H:Has w0 w (y.star b++M))(ok:y.ok N F)(hN:N≤1000000)(s o:Nat)(ho:o≤3){v:Value}{l:List Int}(hf:y.free[o]?=some (v,l))(hhas:kX l s=true) :
 Calls Tryz.prog 183 #[.pointer (some ⟨b,0,none⟩),.agg #[.int .i64 (s:Int),.int .i64 (o:Int)]] w fun e w'=>e=.returned (.tuple #[])∧∃y':Yd,y'.ok N F∧y'.same y∧Has w0 w' (y'.star b++M):=by
 refine named fun R HQ=>?_;obtain⟨A,c,rfl⟩:=fB H (3+o) (dX hf);obtain⟨n,hn⟩:∃n,n=l.length:=⟨_,rfl⟩;rw[←hn]at hf;have hol:o<y.free.length:=by rw[ok.len];omega
 have Dl:l.length≤N:=ok.few _ (List.mem_of_getElem? hf);obtain⟨k,hk⟩:∃k,k=bs l s:=⟨_,rfl⟩;have hkn:k<n:=by rw[hk,hn];exact xQ hhas
 have H1:ah (Has w0 (w.alloc (.cells #[.int .i64 (s:Int),.int .i64 (o:Int)] 53)) (y.star b++(M++[aF w.heap.size (.cells #[.int .i64 (s:Int),.int .i64 (o:Int)] 53)]))):=⟨by rw[←List.append_assoc];exact H.aZ _⟩;have BS:=ah.mk fun(W:World) (hb:Below (w.alloc (.cells #[.int .i64 (s:Int),.int .i64 (o:Int)] 53)).heap.size (w.alloc (.cells #[.int .i64 (s:Int),.int .i64 (o:Int)] 53)) W)=>(jO (w:=W) (s:Int) ((bK H1.out (3+o) (dX hf) bJ).below hb) (by omega));rw[←hk,hhas]at BS;have OK:=ah.mk (And.intro ok (And.intro hol (And.intro Dl hn)));have VO:=Ju ho;have qH:=ah.mk hf;have c1:(w.alloc (.cells #[.int .i64 (s:Int),.int .i64 (o:Int)] 53)).cell? ⟨b,1+o,none⟩=some (.slice A n c):=by rw[aj (H1.out.blk 0 bF)];exact Yd.free_at hf
 have uy:=ah.mk fun q=>BS.out ((w.alloc (.cells #[.int .i64 (s:Int),.int .i64 (o:Int)] 53)).drewN q) (aC (Below.refl _ _) q);clear H ok hf hhas hn hk Dl hol BS;go_enter Tryz.func183,Tryz.ntmps183;go_wp2_with fail
 go_quiet ((go_at_call 76;exact Calls.quiet_of_same (uy.out _)))
 go_wp2_with fail
 obtain⟨V,hV⟩:∃V,V=(w.alloc (.cells #[.int .i64 (s:Int),.int .i64 (o:Int)] 53)).drewN nq:=⟨_,rfl⟩;obtain⟨NB,jw⟩:∃NB,NB=w.heap.size:=⟨_,rfl⟩;have H2:ah (Has w0 V (y.star b++(M++[aF NB (.cells #[.int .i64 (s:Int),.int .i64 (o:Int)] 53)]))):=⟨by rw[hV,jw];exact H1.out.drewN _⟩;rw[←hV,←jw];clear hV jw H1 c1 uy;obtain⟨Kp,fD⟩:∃Kp:Nat→Prop,Kp=fun k=>k=b∨k=NB:=⟨_,rfl⟩;have KB:ah (V.heap[b]?=some (.cells y.cells 126)∧V.heap[NB]?=some (.cells #[.int .i64 (s:Int),.int .i64 (o:Int)] 53)):=⟨H2.out.blk 0 bF,H2.out.blk (14+M.length) (aH (aT _ _) OK.out.1.len)⟩;have yh:=ah.mk fD;have kb:Kp b:=by rw[fD];exact .inl rfl
 have kn:Kp NB:=by rw[fD];exact .inr rfl
 have b0:∀g:KW V Kp,g.W.cell? ⟨NB,0,none⟩=some (.int .i64 (s:Int)):=fun g=>g.cell kn (by rw[aj KB.out.2];rfl);have b1:∀g:KW V Kp,g.W.cell? ⟨NB,1,none⟩=some (.int .i64 (o:Int)):=fun g=>g.cell kn (by rw[aj KB.out.2];rfl);have y1:∀g:KW V Kp,g.W.cell? ⟨b,1+o,none⟩=some (.slice A n c):=fun g=>g.cell kb (by rw[aj KB.out.1];exact Yd.free_at qH.out);have WK:ah (IntKind.i64.wrap ((k:Int)+1)=(k:Int)+1):=⟨by rw[IntKind.wrap_i64];have:=OK.out;omega⟩;have DI:=ah.mk (VL H2.out.drew (3+o) (dX qH.out) OK.out.2.2.2 k hkn);clear fD;refine aK (fun W=>∃g:KW V Kp,W=g.W) 17 (by kernel_rfl) (by kernel_rfl) ?_;have HB0:ah (∀k,Kp k→V.drew.heap[k]?=V.heap[k]?):=⟨fun _ _=>rfl⟩;have HG:∃g:KW V Kp,V.drew=g.W:=⟨⟨_,HB0.out⟩,rfl⟩;refine tk 0 HG ?_;refine tk 1 HG ?_;refine tk 2 HG ?_;refine tk 3 HG ?_;refine tk 4 HG ?_;refine tk 5 HG ?_;refine tk 6 HG ?_;refine tk 7 HG ?_;refine tk 8 HG ?_;refine tk 9 HG ?_;refine tk 10 HG ?_;refine tk 11 HG ?_;refine tk 12 HG ?_;refine tk 14 HG ?_;refine tk 15 HG ?_;refine aP (k:=13) rfl (by kernel_rfl) (by kernel_rfl) (fun KK gB=>?_);rw[if_pos (by rfl)];go_simp;rw[WK.out];go_at_call 77;refine DI.out.mono ?_;rintro e w3 ⟨rfl,h3⟩;have hk':∀k,Kp k→w3.heap[k]?=V.heap[k]?:=fun k hk=>by
  rw[yh.out]at hk;rcases hk with rfl|rfl
  ·rw[KB.out.1];exact h3.blk 0 (by rw[List.getElem?_set_ne (by omega)];exact bF)
  ·rw[KB.out.2];exact h3.blk (14+M.length) (by rw[List.getElem?_set_ne (by omega)];exact aH (aT _ _) OK.out.1.len)
 have H3:=ah.mk h3;clear h3;refine gB _ _ ⟨⟨_,hk'⟩,rfl⟩ ?_;have HB1:=ah.mk hk';clear gB KK HG;have HG:∃g:KW V Kp,w3=g.W:=⟨⟨_,HB1.out⟩,rfl⟩;clear hk';try simp only[Act.put,List.setIfInBounds_toArray,List.set_cons_zero,List.set_cons_succ]
 refine tk 16 HG ?_;refine aO (by kernel_rfl) ?_;simp only[List.drop_succ_cons,List.drop_zero];have z0:w3.cell? ⟨b,1+o,none⟩=some (.slice A n c):=y1 ⟨w3,HB1.out⟩;have z1:w3.frozen? ⟨b,1+o,none⟩=false:=aJ ((HB1.out b kb).trans KB.out.1) _;go_wp2_with fail
 first|go_end0|skip
 rw[←HQ.out];refine⟨rfl,y.gX o (.slice A (n-1) c) (l.eraseIdx k),OK.out.1.put (by have:=List.length_eraseIdx_le l k;have:=OK.out.2.2.1;omega) (Nat.le_refl _),⟨rfl,rfl⟩,?_⟩;have h:=iQ OK.out.2.1 H3.out;rw[←List.append_assoc]at h;exact h.first
end
end
section
open Go.RowKit
theorem TF (q:Nat)(hq:q≤3)(W:World):(binOp .shl 3 (.int .i64 1) (.int .i64 (q:Int))).run Tryz.prog W=.ok (.int .i64 ((2^q:Nat):Int)) W:=by
 rcases(by omega:q=0∨q=1∨q=2∨q=3)with rfl|rfl|rfl|rfl<;>kernel_rfl
section
variable {w:World}
theorem Az (s q:Nat)(x:Int)(hs:s≤7)(hq:q≤3)(w:World) :
 Calls Tryz.prog 133 #[.agg #[.int .i64 (s:Int),.int .i64 (q:Int)],.int .i64 x] w fun e w'=>∃b:Bool,e=.returned (.bool b)∧Below w.heap.size w w':=by
 refine named fun R HQ=>?_;obtain⟨z,hz⟩:∃z:Nat,z=2^q:=⟨_,rfl⟩;have bz:=fP hq;have S1:=ah.mk fun W=>iI q hq W;rw[←hz]at S1 bz;have B:=ah.mk (au (Below.refl w.heap.size w) (.cells #[.int .i64 (s:Int),.int .i64 (q:Int)] 53));have w1:wrap64 ((s:Int)+z)=(s:Int)+z:=wrap_in (by omega) (by omega);clear hz bz hs hq;cases hd:decide ((s:Int)≤x)
 ·go_enter Tryz.func133,Tryz.ntmps133;go_wp2_with fail
  go_quiet ((go_at_call 130;exact Calls.quiet_of_same (S1.out _)))
  go_wp2_with fail
  first|go_ret|skip
  rw[←HQ.out];exact⟨_,rfl,aC B.out _⟩
 ·go_enter Tryz.func133,Tryz.ntmps133;go_wp2_with fail
  go_quiet ((go_at_call 130;exact Calls.quiet_of_same (S1.out _)))
  go_wp2_with fail
  first|go_ret|skip
  rw[←HQ.out];exact⟨_,rfl,aC B.out _⟩
theorem AA (s q:Nat)(x:Int)(hs:s≤7)(hq:q≤3)(w:World) :
 Calls Tryz.prog 74 #[.agg #[.int .i64 (s:Int),.int .i64 (q:Int)],.int .i64 x] w fun e w'=>∃b:Bool,e=.returned (.bool b)∧Below w.heap.size w w':=by
 refine named fun R HQ=>?_;obtain⟨z,hz⟩:∃z:Nat,z=2^q:=⟨_,rfl⟩;have bz:=fP hq;have S1:=fun W=>TF q hq W;rw[←hz]at S1 bz;have B:=ah.mk (au (Below.refl w.heap.size w) (.cells #[.int .i64 (s:Int),.int .i64 (q:Int)] 53));have w1:wrap64 ((s:Int)+z)=(s:Int)+z:=wrap_in (by omega) (by omega);clear hz bz hs hq;cases hd:decide ((s:Int)≤x)
 ·go_enter Tryz.func74,Tryz.ntmps74;go_wp2_with fail
  try go_quiet (fail)
  try go_wp2_with fail
  first|go_ret|skip
  rw[←HQ.out];exact⟨_,rfl,aC B.out _⟩
 ·go_enter Tryz.func74,Tryz.ntmps74;go_wp2_with fail
  try go_quiet (fail)
  try go_wp2_with fail
  first|go_ret|skip
  rw[←HQ.out];exact⟨_,rfl,aC B.out _⟩
theorem F5 {g:Nat}(s q:Nat)(x:Int)(hs:s≤7)(hq:q≤3)(c0:w.cell? ⟨g,0,none⟩=some (.int .i64 (s:Int)))(c1:w.cell? ⟨g,1,none⟩=some (.int .i64 (q:Int))) :
 Calls Tryz.prog 180 #[.int .i64 x,.pointer (some ⟨g,0,none⟩)] w fun e w'=>∃b:Bool,e=.returned (.bool b)∧Below w.heap.size w w':=by
 refine named fun R HQ=>?_;have BI:=ah.mk fun W=>Az s q x hs hq W;clear hs hq;go_enter Tryz.func180,Tryz.ntmps180;go_wp2_with (go_at_call 133;refine(BI.out _).mono ?_;rintro e w' ⟨b,rfl,hb⟩;have HB:=ah.mk hb;clear hb)
 first|go_ret|skip
 rw[←HQ.out];exact⟨b,rfl,HB.out⟩
theorem Qu {g:Nat}(s q:Nat)(x:Int)(hs:s≤7)(hq:q≤3)(c0:w.cell? ⟨g,2,none⟩=some (.int .i64 (s:Int)))(c1:w.cell? ⟨g,3,none⟩=some (.int .i64 (q:Int))) :
 Calls Tryz.prog 142 #[.int .i64 x,.pointer (some ⟨g,0,none⟩)] w fun e w'=>∃b:Bool,e=.returned (.bool b)∧Below w.heap.size w w':=by
 refine named fun R HQ=>?_;have BI:=ah.mk fun W=>AA s q x hs hq W;clear hs hq;go_enter Tryz.func142,Tryz.ntmps142;go_wp2_with (go_at_call 74;refine(BI.out _).mono ?_;rintro e w' ⟨b,rfl,hb⟩;have HB:=ah.mk hb;clear hb)
 first|go_ret|skip
 rw[←HQ.out];exact⟨b,rfl,HB.out⟩
theorem TG {A:Option Addr}{n c g:Nat}{l:List Int}(hr:bU w 1 encI (.slice A n c) l)(hn:n≤1000000)(hc:∀(x:Int) (W:World),Below w.heap.size w W→Calls Tryz.prog 180 #[.int .i64 x,.pointer (some ⟨g,0,none⟩)] W fun e w'=>∃b:Bool,e=.returned (.bool b)∧Below W.heap.size W w') :
 Calls Tryz.prog 204 #[.slice A n c,.func (.func 180) #[] #[.pointer (some ⟨g,0,none⟩)]] w fun e w'=>∃i:Int,e=.returned (.int .i64 i)∧Below w.heap.size w w':=by
 refine named fun R HQ=>?_;have HR:=ah.mk hr;have HL:=ah.mk hr.len;have HC:=ah.mk hc;have B0:=ah.mk (Below.refl w.heap.size w);clear hr hc;go_enter Tryz.func204,Tryz.ntmps204;go_wp2_with fail
 go_loopw [8] (fun i wr=>∃k:Nat,i=.int .i64 k∧k≤n∧ah (Below w.heap.size w wr)) (fun i _=>n-(intOf i).toNat)
 case atStart=>exact⟨0,rfl,Nat.zero_le _,B0⟩
 case round =>
  clear B0;obtain⟨k,rfl,hk,HB⟩:=hrel;by_cases hlt:k<n
  ·obtain⟨y,hy⟩:∃y,l[k]?=some y:=⟨_,List.getElem?_eq_getElem (by rw[←HL.out];exact hlt)⟩;obtain⟨g2,hA,gK⟩:=(HR.out.below HB.out).get k y hy;have c1:wr.cell? ⟨g2,k,none⟩=some (.int .i64 y):=by have:=gK 0 _ rfl;simpa using this
   subst hA;clear hy gK;go_wp2_with (go_at_call 180;refine(HC.out y wr HB.out).mono ?_;rintro e w2 ⟨b,rfl,hb⟩;have H2:=ah.mk (ay HB.out HB.out.size hb);clear hb;refine ah.out ?_)
   cases b
   ·refine ah.mk ?_;go_wp2_with fail
    go_roundw
    case rel=>exact⟨k+1,by go_num,by omega,H2⟩
    case measure=>simp[intOf];omega
   ·refine ah.mk ?_;go_wp2_with fail
    first|go_ret|skip
    rw[←HQ.out];exact⟨_,rfl,H2.out⟩
  ·go_wp2_with fail
   first|go_ret|skip
   rw[←HQ.out];exact⟨_,rfl,HB.out⟩
theorem F6 {A:Option Addr}{n c g:Nat}{l:List Int}(hr:bU w 1 encI (.slice A n c) l)(hn:n≤1000000)(hc:∀(x:Int) (W:World),Below w.heap.size w W→Calls Tryz.prog 180 #[.int .i64 x,.pointer (some ⟨g,0,none⟩)] W fun e w'=>∃b:Bool,e=.returned (.bool b)∧Below W.heap.size W w') :
 Calls Tryz.prog 141 #[.slice A n c,.func (.func 180) #[] #[.pointer (some ⟨g,0,none⟩)]] w fun e w'=>∃b:Bool,e=.returned (.bool b)∧Below w.heap.size w w':=by
 refine named fun R HQ=>?_;have IX:=ah.mk (TG hr hn hc);clear hr hc;go_enter Tryz.func141,Tryz.ntmps141;go_wp2_with (go_at_call 204;refine IX.out.mono ?_;rintro e w2 ⟨i,rfl,hb⟩;have H2:=ah.mk hb;clear hb)
 first|go_ret|skip
 rw[←HQ.out];exact⟨_,rfl,H2.out⟩
theorem TI {A:Option Addr}{n c g:Nat}{l:List Int}(hr:bU w 1 encI (.slice A n c) l)(hn:n≤1000000)(hc:∀(x:Int) (W:World),Below w.heap.size w W→Calls Tryz.prog 142 #[.int .i64 x,.pointer (some ⟨g,0,none⟩)] W fun e w'=>∃b:Bool,e=.returned (.bool b)∧Below W.heap.size W w') :
 Calls Tryz.prog 204 #[.slice A n c,.func (.func 142) #[] #[.pointer (some ⟨g,0,none⟩)]] w fun e w'=>∃i:Int,e=.returned (.int .i64 i)∧Below w.heap.size w w':=by
 refine named fun R HQ=>?_;have HR:=ah.mk hr;have HL:=ah.mk hr.len;have HC:=ah.mk hc;have B0:=ah.mk (Below.refl w.heap.size w);clear hr hc;go_enter Tryz.func204,Tryz.ntmps204;go_wp2_with fail
 go_loopw [8] (fun i wr=>∃k:Nat,i=.int .i64 k∧k≤n∧ah (Below w.heap.size w wr)) (fun i _=>n-(intOf i).toNat)
 case atStart=>exact⟨0,rfl,Nat.zero_le _,B0⟩
 case round =>
  clear B0;obtain⟨k,rfl,hk,HB⟩:=hrel;by_cases hlt:k<n
  ·obtain⟨y,hy⟩:∃y,l[k]?=some y:=⟨_,List.getElem?_eq_getElem (by rw[←HL.out];exact hlt)⟩;obtain⟨g2,hA,gK⟩:=(HR.out.below HB.out).get k y hy;have c1:wr.cell? ⟨g2,k,none⟩=some (.int .i64 y):=by have:=gK 0 _ rfl;simpa using this
   subst hA;clear hy gK;go_wp2_with (go_at_call 142;refine(HC.out y wr HB.out).mono ?_;rintro e w2 ⟨b,rfl,hb⟩;have H2:=ah.mk (ay HB.out HB.out.size hb);clear hb;refine ah.out ?_)
   cases b
   ·refine ah.mk ?_;go_wp2_with fail
    go_roundw
    case rel=>exact⟨k+1,by go_num,by omega,H2⟩
    case measure=>simp[intOf];omega
   ·refine ah.mk ?_;go_wp2_with fail
    first|go_ret|skip
    rw[←HQ.out];exact⟨_,rfl,H2.out⟩
  ·go_wp2_with fail
   first|go_ret|skip
   rw[←HQ.out];exact⟨_,rfl,HB.out⟩
theorem Qv {A:Option Addr}{n c g:Nat}{l:List Int}(hr:bU w 1 encI (.slice A n c) l)(hn:n≤1000000)(hc:∀(x:Int) (W:World),Below w.heap.size w W→Calls Tryz.prog 142 #[.int .i64 x,.pointer (some ⟨g,0,none⟩)] W fun e w'=>∃b:Bool,e=.returned (.bool b)∧Below W.heap.size W w') :
 Calls Tryz.prog 141 #[.slice A n c,.func (.func 142) #[] #[.pointer (some ⟨g,0,none⟩)]] w fun e w'=>∃b:Bool,e=.returned (.bool b)∧Below w.heap.size w w':=by
 refine named fun R HQ=>?_;have IX:=ah.mk (TI hr hn hc);clear hr hc;go_enter Tryz.func141,Tryz.ntmps141;go_wp2_with (go_at_call 204;refine IX.out.mono ?_;rintro e w2 ⟨i,rfl,hb⟩;have H2:=ah.mk hb;clear hb)
 first|go_ret|skip
 rw[←HQ.out];exact⟨_,rfl,H2.out⟩
theorem F7 (s o z:Nat)(hs:s≤7)(ho:o≤3)(hz:z=2^o):bits .andNot .i64 (s:Int) ((z:Int)-1)=((s/2^o*2^o:Nat):Int):=by
 subst hz;rcases(by omega:o=0∨o=1∨o=2∨o=3)with rfl|rfl|rfl|rfl<;>rcases(by omega:s=0∨s=1∨s=2∨s=3∨s=4∨s=5∨s=6∨s=7)with rfl|rfl|rfl|rfl|rfl|rfl|rfl|rfl<;>kernel_rfl
end
theorem gY {α:Type}(l:List α)(x z:α):(l++[x]++[z])[l.length]?=some x:=by simp
theorem jR {α:Type}(l:List α)(x z:α):(l++[x]++[z])[l.length + 1]?=some z:=by simp
section
variable {w0 w:World}{M:List bW}{y:Yd}{b N F:Nat}
theorem tC (H:Has w0 w (y.star b++M))(ok:y.ok N F)(hN:N≤1000000)(s q:Nat)(hs:s≤7)(hq:q≤3) :
 Calls Tryz.prog 128 #[.pointer (some ⟨b,0,none⟩),.agg #[.int .i64 (s:Int),.int .i64 (q:Int)]] w fun e w'=>∃(p o:Nat) (f:Bool),e=.returned (.tuple #[.agg #[.int .i64 (p:Int),.int .i64 (o:Int)],.bool f])∧(f=true→q≤o∧o≤3∧p=s/2^o*2^o∧∃v l,y.free[o]?=some (v,l)∧kX l p=true)∧Below w.heap.size w w':=by
 refine named fun R HQ=>?_;have OK:=ah.mk ok;have H1:ah (Has w0 ((w.alloc (.cells #[.int .i64 (s:Int),.int .i64 (q:Int)] 53)).alloc (.cells #[.int .i64 0,.int .i64 0] 53)) (y.star b++(M++[aF w.heap.size (.cells #[.int .i64 (s:Int),.int .i64 (q:Int)] 53)]++[aF (w.heap.size+1) (.cells #[.int .i64 0,.int .i64 0] 53)]))):=⟨by
  have h:=(H.aZ (.cells #[.int .i64 (s:Int),.int .i64 (q:Int)] 53)).aZ (.cells #[.int .i64 0,.int .i64 0] 53);simpa[List.append_assoc]using h⟩
 have SZ:=ah.mk fun(o:Nat) (ho:o≤3) W=>iI o ho W;clear H ok;go_enter Tryz.func128,Tryz.ntmps128;go_wp2_with fail
 obtain⟨V,hV⟩:∃V,V=(w.alloc (.cells #[.int .i64 (s:Int),.int .i64 (q:Int)] 53)).alloc (.cells #[.int .i64 0,.int .i64 0] 53):=⟨_,rfl⟩;have BV:ah (Below w.heap.size w V):=⟨by rw[hV];exact au (au (Below.refl _ _) _) _⟩;obtain⟨NB,jw⟩:∃NB,NB=w.heap.size:=⟨_,rfl⟩;rw[←hV,←jw]at H1;rw[←hV,←jw];have BN:ah (w.heap.size≤NB):=⟨by omega⟩;clear hV jw;have BV0:=ah.mk (Below.refl V.heap.size V);go_loopw [6] (fun i wr=>∃o:Nat,i=.int .i64 o∧q≤o∧o≤4∧ah (Below V.heap.size V wr)) (fun i _=>4-(intOf i).toNat)
 case atStart=>exact⟨q,rfl,Nat.le_refl _,by omega,BV0⟩
 case round =>
  clear BV0;obtain⟨o,rfl,ho,ho4,HB⟩:=hrel;have HH:=ah.mk (H1.out.below HB.out);have y0:wr.cell? ⟨b,0,none⟩=some (.int .i64 3):=by rw[aj (HH.out.blk 0 bF)];rfl
  by_cases h3:o≤3
  ·have h3':(o:Int)≤3:=by omega
   obtain⟨z,hz⟩:∃z:Nat,z=2^o:=⟨_,rfl⟩;obtain⟨p,hp⟩:∃p:Nat,p=s/2^o*2^o:=⟨_,rfl⟩;have an:=F7 s o z hs h3 hz;rw[←hp]at an;have SO:=ah.mk fun W=>SZ.out o h3 W;rw[←hz]at SO;have bz:=fP h3;rw[←hz]at bz;have wz:wrap64 ((z:Int)-1)=(z:Int)-1:=wrap_in (by omega) (by omega);obtain⟨_,_,v,l,hf,Dl⟩:=OK.out.free (show o≤10 by omega);obtain⟨A,c,rfl⟩:=fB H1.out (3+o) (dX hf);obtain⟨n,hn⟩:∃n,n=l.length:=⟨_,rfl⟩;rw[←hn]at hf;have qH:=ah.mk hf;have jr:=ah.mk hn;have HP:=ah.mk hp;have VO:=Ju h3;have s0:wr.cell? ⟨NB,0,none⟩=some (.int .i64 (s:Int)):=by rw[aj (HH.out.blk (14+M.length) (aH (gY _ _ _) OK.out.len))];rfl
   have y1:wr.cell? ⟨b,1+o,none⟩=some (.slice A n c):=by rw[aj (HH.out.blk 0 bF)];exact Yd.free_at hf
   have BS:=ah.mk fun(W:World) (hb:Below wr.heap.size wr W)=>(jO (w:=W) (p:Int) ((bK HH.out (3+o) (dX hf) bJ).below hb) (by omega));have QB:=ah.mk fun q=>BS.out (wr.drewN q) (aC (Below.refl _ _) q);obtain⟨hb,hhb⟩:∃hb,hb=kX l (p:Int):=⟨_,rfl⟩;obtain⟨kk,hkk⟩:∃kk,kk=bs l (p:Int):=⟨_,rfl⟩;rw[←hhb,←hkk]at QB;have HHB:=ah.mk hhb;clear hz hf hn hp bz Dl BS hhb hkk SZ;go_wp2_with fail
   go_quiet ((go_at_call 130;exact Calls.quiet_of_same (SO.out _)))
   go_wp2_with (go_at_call 76;refine(QB.out _).mono ?_;rintro e w' ⟨rfl,hw⟩;obtain rfl:=hw.symm;clear hw;refine ah.out ?_)
   cases hb
   ·refine ah.mk ?_;go_wp2_with fail
    go_roundw
    case rel=>exact⟨o+1,by go_num,by omega,by omega,⟨aC HB.out _⟩⟩
    case measure=>simp[intOf];omega
   ·have HB2:ah (((wr.drewN nq).heap[NB + 1]?=some (.cells #[.int .i64 0,.int .i64 0] 53))):=⟨HH.out.blk (14+(M.length+1)) (aH (jR _ _ _) OK.out.len)⟩;refine ah.mk ?_;go_wp2_with (refine aY rfl 53 (.tmp 4) (.tmp 40) rfl (NB+1) #[.int .i64 (p:Int),.int .i64 (o:Int)] rfl rfl 53 _ HB2.out (jQ _ _) rfl (by simp[Value.oneCell']) ?_)
    try simp only[Exit.inBlock,Exit.then]
    refine eu rfl rfl (NB+1) #[.int .i64 (p:Int),.int .i64 (o:Int)] 53 (0,0) _ rfl (setRow_heap _ _ _ _ _ _ HB2.out) Tryz.underlying53 rfl (jQ _ _) ?_;rw[←HQ.out];exact⟨p,o,true,rfl,fun _=>⟨ho,h3,HP.out,_,l,qH.out,HHB.out.symm⟩,below_setRow (ay BV.out BV.out.size (aC HB.out _)) (by have:=BN.out;omega) _⟩
  ·have h3':decide ((o:Int)≤3)=false:=decide_eq_false (by omega);have HB2:ah ((wr.heap[NB + 1]?=some (.cells #[.int .i64 0,.int .i64 0] 53))):=⟨HH.out.blk (14+(M.length+1)) (aH (jR _ _ _) OK.out.len)⟩;go_wp2_with (refine aY rfl 53 (.tmp 4) (.tmp 41) rfl (NB+1) #[.int .i64 0,.int .i64 0] rfl rfl 53 _ HB2.out (jQ _ _) rfl (by simp[Value.oneCell']) ?_)
   try simp only[Exit.inBlock,Exit.then]
   refine eu rfl rfl (NB+1) #[.int .i64 0,.int .i64 0] 53 (0,0) _ rfl (setRow_heap _ _ _ _ _ _ HB2.out) Tryz.underlying53 rfl (jQ _ _) ?_;rw[←HQ.out];exact⟨0,0,false,rfl,(fun h=>by cases h),below_setRow (ay BV.out BV.out.size HB.out) (by have:=BN.out;omega) _⟩
end
end
end Go.Proofs.YtandhagfhppgaaaGreatDoor
