/- Part 36 of a proof: contracts of the functions that the law reaches. No condition. -/
import Derived.Shelf.SlSortCmp.WholeK
import Derived.Test.YtandhagfhppgaaaGreatDoorS11
import Derived.Test.YtandhagfhppgaaaGreatDoorS12
import Derived.Test.YtandhagfhppgaaaGreatDoorS18
import Derived.Test.YtandhagfhppgaaaGreatDoorS19
import Derived.Test.YtandhagfhppgaaaGreatDoorS25
import Derived.Test.YtandhagfhppgaaaGreatDoorS26
import Derived.Test.YtandhagfhppgaaaGreatDoorS33
set_option linter.all false
set_option maxRecDepth 100000
set_option maxHeartbeats 16000000
namespace Go.Proofs.YtandhagfhppgaaaGreatDoor
section
open Go.RowKit
section
variable {w0 w:World}{M:List bW}
theorem iM {m:Mx}{b:Nat}:(m.star b++M)[0]?=some (aF b (.cells m.arr 129)):=rfl
theorem yH {m:Mx}{b:Nat}:(m.star b++M)[1]?=some (aV 203 4 gq m.cv m.cells):=rfl
theorem mG {m:Mx}{b:Nat}(H:Has w0 w (m.star b++M)):∃A c,m.cv=.slice A m.cells.length c:=fB H 1 yH
def Mx.rows (m:Mx):Nat:=if m.cells.length=0 then 0 else(m.cells[m.cells.length-1]?.map fun y=>y.row.toNat+1).getD 0
theorem Mx.ok.rows {m:Mx}{N:Nat}(h:m.ok N):m.rows≤16:=by
 unfold Mx.rows;split
 ·omega
 ·rw[List.getElem?_eq_getElem (by omega)];have:=h.cells _ (List.getElem_mem (show m.cells.length-1<m.cells.length by omega));have h1:=this.2.1;simp;omega
theorem rF {m:Mx}{b:Nat}(H:Has w0 w (m.star b++M))(hok:∀x∈m.cells,x.ok)(hfew:m.cells.length≤1000000) :
 Calls Tryz.prog 120 #[.pointer (some ⟨b,0,none⟩)] w fun e w'=>e=.returned (.int .i64 (m.rows:Int))∧Below w.heap.size w w':=by
 refine named fun R HQ=>?_;obtain⟨A,c,hv⟩:=mG H;have hr:=bK H 1 yH lW;have c1:w.cell? ⟨b,1,none⟩=some (.slice A m.cells.length c):=by rw[aj (H.blk 0 iM),←hv];rfl
 rw[hv]at hr;obtain⟨r,hrr⟩:∃r,r=m.rows:=⟨_,rfl⟩;rw[←hrr]at HQ;unfold Mx.rows at hrr;obtain⟨cells,hcs⟩:∃l,l=m.cells:=⟨_,rfl⟩;rw[←hcs]at c1 hr hok hfew hrr;obtain⟨n,hl⟩:∃n,n=cells.length:=⟨_,rfl⟩;rw[←hl]at c1 hr hfew hrr;by_cases h0:n=0
 ·subst h0;rw[if_pos rfl]at hrr;rw[hrr]at HQ;clear H hr hok hl hcs hv hrr;go_enter Tryz.func120,Tryz.ntmps120;go_wp2_with fail
  first|go_ret|skip
  rw[←HQ.out];exact⟨rfl,Below.refl _ _⟩
 ·obtain⟨y,hy⟩:∃y,cells[n-1]?=some y:=⟨_,List.getElem?_eq_getElem (by omega)⟩;obtain⟨g,rfl,gK⟩:=hr.get (n-1) y hy;have ho:=hok y (List.mem_of_getElem? hy);obtain⟨YD,hrw⟩:∃r:Nat,y.row=r:=⟨y.row.toNat,by have:=ho.1;omega⟩;rw[if_neg h0,hy,Option.map_some,Option.getD_some,hrw]at hrr;rw[hrr]at HQ;obtain⟨k,rfl⟩:∃k,n=k+1:=⟨n-1,by omega⟩;have d1:w.cell? ⟨g,k*4+1,none⟩=some (.int .i64 (YD:Int)):=by rw[←hrw];exact gK 1 _ rfl
  have hz:((k:Int)+1==0)=false:=by simp;omega
  have hb15:YD≤15:=by have:=ho.2.1;omega
  have w1:wrap64 ((YD:Int)+1)=YD+1:=wrap_in (by omega) (by omega);clear H hr hok hl hy gK ho hrw h0 hcs hv hrr;go_enter Tryz.func120,Tryz.ntmps120;go_wp2_with fail
  go_quiet (fail)
  go_wp2_with fail
  first|go_ret|skip
  rw[←HQ.out];exact⟨rfl,aC (Below.refl _ _) _⟩
def Mx.kU (m:Mx)(a:Int):Mx:={ m with active:=a}
theorem rG {m:Mx}{b:Nat}(H:Has w0 w (m.star b++M))(a:Int):Has w0 (w.setCell ⟨b,2,none⟩ (.int .i64 a)) ((m.kU a).star b++M):=
 H.put 0 iM 2 _ (m.kU a).arr rfl
theorem Mx.ok.kU {m:Mx}{N:Nat}(h:m.ok N)(a:Int)(h0:0≤a)(h1:a≤16):(m.kU a).ok N:=⟨h.cells,h.few,h0,h1⟩
theorem JL {m:Mx}{b N:Nat}(H:Has w0 w (m.star b++M))(hm:m.ok N)(hN:N≤1000000) :
 Calls Tryz.prog 126 #[.pointer (some ⟨b,0,none⟩)] w fun e w'=>e=.returned (.tuple #[])∧∃a:Int,(m.kU a).ok N∧Has w0 w' ((m.kU a).star b++M):=by
 refine named fun R HQ=>?_;obtain⟨a,ha⟩:∃a:Nat,m.active=a:=⟨m.active.toNat,by have:=hm.Nz;omega⟩;have ha16:a≤16:=by have:=hm.ND;omega
 have c2:w.cell? ⟨b,2,none⟩=some (.int .i64 a):=by rw[aj (H.blk 0 iM),←ha];rfl
 have c3:w.frozen? ⟨b,2,none⟩=false:=aJ (H.blk 0 iM) _;have w1:wrap64 ((a:Int)+1)=(a:Int)+1:=wrap_in (by omega) (by omega);have H1:=ah.mk (rG H ((a:Int)+1));have VX:=hm.rows;have RC:ah (∀g:GW (w.setCell ⟨b,2,none⟩ (.int .i64 ((a:Int)+1))),Calls Tryz.prog 120 #[.pointer (some ⟨b,0,none⟩)] g.W fun e w'=>e=.returned (.int .i64 (m.rows:Int))∧Below g.W.heap.size g.W w'):=⟨fun g=>rF (m:=m.kU ((a:Int)+1)) (H1.out.below g.h) hm.cells (Nat.le_trans hm.few hN)⟩;obtain⟨r,hr⟩:∃r,r=m.rows:=⟨_,rfl⟩;rw[←hr]at RC VX;have g2:∀g:GW (w.setCell ⟨b,2,none⟩ (.int .i64 ((a:Int)+1))),g.W.cell? ⟨b,2,none⟩=some (.int .i64 ((a:Int)+1)):=fun g=>g.cell (by rw[aj (H1.out.blk 0 iM)];rfl);have hsz:w.heap.size=(w.setCell ⟨b,2,none⟩ (.int .i64 ((a:Int)+1))).heap.size:=by simp[World.setCell]
 have HM:=ah.mk hm;clear H hm hr ha;go_enter Tryz.func126,Tryz.ntmps126;go_wp2_with fail
 refine bZ (by kernel_rfl) (by kernel_rfl) ?_;repeat (go_big_quiet_step ((go_at_call 120;exact GW.calls (RC.out _))))
 refine wpQuiet_nil ?_;intro _ hw';obtain⟨g1,rfl⟩:=hw';have H2:=ah.mk (H1.out.below g1.h);by_cases hlt:a+1<r
 ·have e1:¬(r:Int)≤(a:Int)+1:=by omega
  clear c2 c3 g2;go_wp2_with fail
  first|go_end0|go_ret|skip
  rw[←HQ.out];exact⟨rfl,(a:Int)+1,HM.out.kU _ (by omega) (by omega),H2.out⟩
 ·have e1:(r:Int)≤(a:Int)+1:=by omega
  have z2:g1.W.cell? ⟨b,2,none⟩=some (.int .i64 ((a:Int)+1)):=g2 g1;have z3:g1.W.frozen? ⟨b,2,none⟩=false:=aJ (H2.out.blk 0 iM) _;clear c2 c3 g2;go_wp2_with fail
  first|go_end0|go_ret|skip
  rw[←HQ.out];exact⟨rfl,0,HM.out.kU _ (by omega) (by omega),rG H2.out 0⟩
theorem Oo (x:Ce)(id:Nat){p:Nat}(c0:w.cell? ⟨p,0,none⟩=some (.int .u32 (id:Int))) :
 Calls Tryz.prog 178 #[.agg (gq x).toArray,.pointer (some ⟨p,0,none⟩)] w fun e w'=>e=.returned (.bool ((x.id:Int)==(id:Int)))∧Below w.heap.size w w':=by
 refine named fun R HQ=>?_;have B:=ah.mk (au (Below.refl w.heap.size w) (.cells (gq x).toArray 203));have k0:∀o,(w.alloc o).cell? ⟨p,0,none⟩=some (.int .u32 (id:Int)):=fun o=>ak (au (Below.refl _ _) _) c0;obtain⟨i,r,s,o⟩:=x;unfold gq at B;unfold gq;clear c0;go_enter Tryz.func178,Tryz.ntmps178;go_wp2_with fail
 first|go_ret|skip
 rw[←HQ.out];exact⟨by simp,B.out⟩
theorem Ba (x:Ce):(Tryz.prog.info? 203).map (·.size)=some (gq x).toArray.size:=by rw[show(gq x).toArray.size=4 from rfl];kernel_rfl
theorem Oq {A:Option Addr}{n c p:Nat}{l:List Ce}(id:Nat)(hr:bU w 4 gq (.slice A n c) l)(hn:n≤1000000)(c0:w.cell? ⟨p,0,none⟩=some (.int .u32 (id:Int))) :
 Calls Tryz.prog 177 #[.slice A n c,.func (.func 178) #[] #[.pointer (some ⟨p,0,none⟩)]] w fun e w'=>∃k:Int,e=.returned (.int .i64 k)∧((-1≤k∧k<n)∧(k = -1→∀x∈l,x.id≠id))∧Below w.heap.size w w':=by
 refine named fun R HQ=>?_;have HR:=ah.mk hr;have HL:=ah.mk hr.len;have C0:=ah.mk c0;have B0:=ah.mk (Below.refl w.heap.size w);clear hr c0;go_enter Tryz.func177,Tryz.ntmps177;go_wp2_with fail
 go_loopw [8] (fun i wr=>∃k:Nat,i=.int .i64 k∧k≤n∧ah (∀x∈l.take k,x.id≠id)∧ah (Below w.heap.size w wr)) (fun i _=>n-(intOf i).toNat)
 case atStart=>exact⟨0,rfl,Nat.zero_le _,⟨fun x hx=>by simp at hx⟩,B0⟩
 case round =>
  clear B0;obtain⟨k,rfl,hk,HT,HB⟩:=hrel;by_cases hlt:k<n
  ·obtain⟨y,hy⟩:∃y,l[k]?=some y:=⟨_,List.getElem?_eq_getElem (by rw[←HL.out];exact hlt)⟩;obtain⟨g,hA,gK⟩:=(HR.out.below HB.out).get k y hy;subst hA;have HY:=ah.mk hy;have RX:=ah.mk gK;obtain⟨bb,hbb⟩:∃b,b=((y.id:Int)==(id:Int)):=⟨_,rfl⟩;have IC:=ah.mk (Oo (w:=wr) y id (ak HB.out C0.out));rw[←hbb]at IC;have HBB:=ah.mk hbb;clear hbb;have i203:=Ba y;have e1:(k:Int)<n:=by omega
   obtain⟨cs,hcs⟩:∃cs,cs=(gq y).toArray:=⟨_,rfl⟩;have Y9:ah (wr.rangeAt g (k*4) cs.toList):=⟨by rw[hcs];exact RX.out⟩;rw[←hcs]at IC i203;clear hy gK RX hcs;go_wp2_with (first|(go_at_call 178;refine IC.out.mono ?_;rintro e w2 ⟨rfl,hb⟩;have H2:=ah.mk (ay HB.out HB.out.size hb);clear hb;refine ah.out ?_)|(refine aI rfl 203 (.tmp 14) rfl g (k*4) rfl cs _ Y9.out Tryz.underlying203 rfl i203 ?_))
   cases bb
   ·refine ah.mk ?_;go_wp2_with fail
    go_roundw
    case rel=>exact⟨k+1,rfl,by omega,⟨fun x hx=>by
     rw[nH HY.out]at hx;rcases List.mem_append.1 hx with h|h
     ·exact HT.out x h
     ·obtain rfl:=List.mem_singleton.1 h;intro e;have:=HBB.out;rw[e]at this;simp at this⟩,H2⟩
    case measure=>simp[intOf];omega
   ·refine ah.mk ?_;go_wp2_with fail
    first|go_ret|skip
    rw[←HQ.out];exact⟨k,rfl,⟨by omega,fun h=>by omega⟩,H2.out⟩
  ·have e1:¬(k:Int)<n:=by omega
   go_wp2_with fail
   first|go_ret|skip
   rw[←HQ.out];exact⟨-1,rfl,⟨by omega,fun _ x hx=>HT.out x (by rw[List.take_of_length_le (by have:=HL.out;omega)];exact hx)⟩,HB.out⟩
theorem Bc {m:Mx}{b:Nat}(id:Nat)(H:Has w0 w (m.star b++M))(hfew:m.cells.length≤1000000) :
 Calls Tryz.prog 118 #[.pointer (some ⟨b,0,none⟩),.int .u32 (id:Int)] w fun e w'=>∃k:Int,e=.returned (.int .i64 k)∧((-1≤k∧k<m.cells.length)∧(k = -1→∀x∈m.cells,x.id≠id))∧Below w.heap.size w w':=by
 refine named fun R HQ=>?_;obtain⟨A,c,hv⟩:=mG H;have hr:=bK H 1 yH lW;have k1:∀o,(w.alloc o).cell? ⟨b,1,none⟩=some (.slice A m.cells.length c):=fun o=>ak (au (Below.refl _ _) _) (by rw[aj (H.blk 0 iM),←hv];rfl);rw[hv]at hr;have B:=au (Below.refl w.heap.size w) (.cells #[.int .u32 (id:Int)] 43);have IC:=ah.mk (Oq (p:=w.heap.size) id (hr.below B) hfew (by rw[aj (heap_alloc_new _ _)];rfl));have BB:=ah.mk B;clear H hr B hfew hv;go_enter Tryz.func118,Tryz.ntmps118;go_wp2_with (go_at_call 177;refine IC.out.mono ?_;rintro e w2 ⟨k,rfl,hk,hb⟩;have H2:=ah.mk (ay BB.out BB.out.size hb);have HK:=ah.mk hk;clear hb hk)
 first|go_ret|skip
 rw[←HQ.out];exact⟨k,rfl,HK.out,H2.out⟩
def Mx.setCells (m:Mx)(v:Value)(l:List Ce):Mx:={ m with cv:=v,cells:=l}
theorem tZ {m:Mx}{b:Nat}{v:Value}{l:List Ce}(H:Has w0 w ((m.star b++M).set 1 (aV 203 4 gq v l))):Has w0 (w.setCell ⟨b,1,none⟩ v) ((m.setCells v l).star b++M):=
 H.put 0 rfl 1 v (m.setCells v l).arr rfl
theorem Mx.ok.setCells {m:Mx}{N K:Nat}(h:m.ok N)(v:Value){l:List Ce}(hl:∀x∈l,x.ok)(hk:l.length≤K):(m.setCells v l).ok K:=⟨hl,hk,h.Nz,h.ND⟩
theorem Du {m:Mx}{b N:Nat}(H:Has w0 w (m.star b++M))(hm:m.ok N)(hN:N≤1000000)(id:Nat) :
 Calls Tryz.prog 70 #[.pointer (some ⟨b,0,none⟩),.int .u32 (id:Int)] w fun e w'=>∃(r:Int) (m':Mx),e=.returned (.int .i64 r)∧(m'.ok N∧((∃x∈m.cells,x.id=id)→m'.cells.length+1=m.cells.length))∧Has w0 w' (m'.star b++M):=by
 refine named fun R HQ=>?_;have HH:=ah.mk H;have HM:=ah.mk hm;have AC:=ah.mk (Bc id H (Nat.le_trans hm.few hN));clear H hm;go_enter Tryz.func70,Tryz.ntmps70;go_wp2_with (go_at_call 118;refine AC.out.mono ?_;rintro e w2 ⟨k,rfl,hk,hb⟩;have H2:=ah.mk (HH.out.below hb);have HK:=ah.mk hk;clear hb hk;refine ah.out ?_)
 clear AC;by_cases h0:k<0
 ·refine ah.mk ?_;go_wp2_with fail
  first|go_ret|skip
  rw[←HQ.out];exact⟨4,m,rfl,⟨HM.out,fun⟨x,h1,h2⟩=>absurd h2 (HK.out.2 (by have:=HK.out.1.1;omega) x h1)⟩,H2.out⟩
 ·obtain⟨q,rfl⟩:∃q:Nat,k=q:=⟨k.toNat,by omega⟩;obtain⟨A,c,hv⟩:=mG H2.out;have c1:w2.cell? ⟨b,1,none⟩=some (.slice A m.cells.length c):=by rw[aj (H2.out.blk 0 iM),←hv];rfl
  have hq:q<m.cells.length:=by have:=HK.out.1.2;omega
  have DC:=ah.mk (Zh (A:=A) (n:=m.cells.length) (c:=c) H2.out 1 (by rw[←hv];rfl) rfl q hq);have hv2:=ah.mk hv;clear hv;have hfew:m.cells.length≤N:=HM.out.few;have w1:wrap64 ((q:Int)+1)=(q:Int)+1:=wrap_in (by omega) (by omega);have g0:¬((q:Int)<0):=by omega
  refine ah.mk ?_;go_wp2_with (go_at_call 119;refine DC.out.mono ?_;rintro e w3 ⟨rfl,h3⟩;have H3:=ah.mk h3;clear h3;refine ah.out ?_)
  have z1:w3.cell? ⟨b,1,none⟩=some (.slice A m.cells.length c):=by rw[aj (H3.out.blk 0 rfl),←hv2.out];rfl
  have z2:w3.frozen? ⟨b,1,none⟩=false:=aJ (H3.out.blk 0 rfl) _;obtain⟨m2,hm2⟩:∃m2,m2=m.setCells (.slice A (m.cells.length-1) c) (m.cells.eraseIdx q):=⟨_,rfl⟩;have H4:ah (Has w0 (w3.setCell ⟨b,1,none⟩ (.slice A (m.cells.length-1) c)) (m2.star b++M)):=⟨by rw[hm2];exact tZ H3.out⟩;have eU:ah (m2.ok N):=⟨by rw[hm2];exact HM.out.setCells _ (fun x hx=>HM.out.cells x (List.mem_of_mem_eraseIdx hx)) (Nat.le_trans (List.length_eraseIdx_le _ _) HM.out.few)⟩;have LN2:ah (m2.cells.length+1=m.cells.length):=⟨by rw[hm2];show(m.cells.eraseIdx q).length+1=_;rw[List.length_eraseIdx_of_lt hq];omega⟩;obtain⟨a,ha⟩:∃a:Int,a=m2.active:=⟨_,rfl⟩;have RC:ah (∀g:GW (w3.setCell ⟨b,1,none⟩ (.slice A (m.cells.length-1) c)),Calls Tryz.prog 120 #[.pointer (some ⟨b,0,none⟩)] g.W fun e w'=>e=.returned (.int .i64 (m2.rows:Int))∧Below g.W.heap.size g.W w'):=⟨fun g=>rF (H4.out.below g.h) eU.out.cells (Nat.le_trans eU.out.few hN)⟩;obtain⟨r,hr⟩:∃r,r=m2.rows:=⟨_,rfl⟩;rw[←hr]at RC;have g2:∀g:GW (w3.setCell ⟨b,1,none⟩ (.slice A (m.cells.length-1) c)),g.W.cell? ⟨b,2,none⟩=some (.int .i64 a):=fun g=>g.cell (by rw[aj (H4.out.blk 0 iM),ha];rfl);clear c1 hm2 hr ha;refine ah.mk ?_;go_wp2_with fail
  refine bZ (by kernel_rfl) (by kernel_rfl) ?_;repeat (go_big_quiet_step ((go_at_call 120;exact GW.calls (RC.out _))))
  refine wpQuiet_nil ?_;intro _ hw';obtain⟨g1,rfl⟩:=hw';have H5:=ah.mk (H4.out.below g1.h);by_cases hlt:a<(r:Int)
  ·have e1:¬(r:Int)≤a:=by omega
   clear z1 z2 g2;go_wp2_with fail
   first|go_end0|go_ret|skip
   rw[←HQ.out];exact⟨0,m2,rfl,⟨eU.out,fun _=>LN2.out⟩,H5.out⟩
  ·have e1:(r:Int)≤a:=by omega
   have y2:g1.W.cell? ⟨b,2,none⟩=some (.int .i64 a):=g2 g1;have y3:g1.W.frozen? ⟨b,2,none⟩=false:=aJ (H5.out.blk 0 iM) _;clear z1 z2 g2;go_wp2_with fail
   first|go_end0|go_ret|skip
   rw[←HQ.out];exact⟨0,m2.kU 0,rfl,⟨eU.out.kU _ (by omega) (by omega),fun _=>LN2.out⟩,rG H5.out 0⟩
end
end
section
open Go.RowKit
theorem yI {α:Type}{L:List α}{i:Nat}{X:α}(hi:L[i]?=some X):L.set i X=L:=List.ext_getElem? fun q=>by
 rw[List.getElem?_set];split
 ·rename_i e
  subst e;split
  ·exact hi.symm
  ·rename_i h2
   rw[List.getElem?_eq_none (by omega)]at hi;cases hi
 ·rfl
section
variable {w0 w:World}{L:List bW}
theorem MO {α:Type}{enc:α→List Value}{e sz:Nat}(hs:∀x,(enc x).length=sz)(H:Has w0 w L)(i:Nat){g c n:Nat}{l:List α}(hi:L[i]?=some (aV e sz enc (.slice (some ⟨g,0,none⟩) n c) l))(k:Nat)(x x':α)(hk:l[k]?=some x)(f:Nat)(hf:f<sz)(u:Value)(he:(enc x).set f u=enc x') :
 Has w0 (w.setCell ⟨g,k*sz+f,none⟩ u) (L.set i (aV e sz enc (.slice (some ⟨g,0,none⟩) n c) (l.set k x'))):=by
 obtain⟨F,⟨h1,h2⟩,h3,hgo⟩:=H.get i _ hi;have hF:F g:=h2 g rfl;refine hgo _ _ ⟨F,⟨⟨?_,?_⟩,h2⟩,(Touch.lQ (qy w g (k*sz+f) u)).mono fun q _ e=>by cases e;exact hF,fun q hq=>⟨.inl hq,?_⟩⟩
 ·rw[kH hs]
 ·rcases h1.2 with⟨h0,_⟩|⟨g',cap,cur,hv,hb,hh,hn,hc,hs',ht⟩
  ·cases h0
  ·injection hv with e1 e2 e3;injection e1 with e1;injection e1 with e1;subst e1;refine .inr ⟨g,cap,cur.setIfInBounds (k*sz+f) u,by rw[e3,List.length_set,e2],hb,BK hh _ _,by simpa using hn,hc,by simpa using hs',?_⟩;rw[List.length_set,Array.toList_setIfInBounds,List.take_set,ht];exact xu hs l k x x' f u hk hf he
 ·rw[show(w.setCell ⟨g,_,none⟩ u).heap.size=w.heap.size by simp[World.setCell]];exact(h3 q hq).2
theorem JM {α:Type}{enc:α→List Value}{e sz:Nat}(H:Has w0 w L)(i:Nat){g c n:Nat}{l:List α}(hi:L[i]?=some (aV e sz enc (.slice (some ⟨g,0,none⟩) n c) l))(k:Nat):w.frozen? ⟨g,k,none⟩=false:=by
 rcases(H.row i hi).2 with⟨h0,_⟩|⟨g',cap,cur,hv,_,hh,_⟩
 ·cases h0
 ·injection hv with e1 e2 e3;injection e1 with e1;injection e1 with e1;subst e1;exact aJ hh k
theorem JQ (x y:Int)(w:World):Calls Tryz.prog 306 #[.int .u32 x,.int .u32 y] w fun e w'=>e=.returned (.bool (decide (x<y)))∧w'=w:=by
 go_enter Tryz.func306,Tryz.ntmps306;go_wp2_with (go_at_call 343;refine(qB _ _).mono ?_;rintro e w' ⟨rfl,hw⟩;obtain rfl:=hw.symm;clear hw)
 go_ret;exact⟨rfl,rfl⟩
theorem Dv (H:Has w0 w L)(i:Nat){g n c:Nat}{l:List Nat}(hi:L[i]?=some (aV 43 1 fO (.slice (some ⟨g,0,none⟩) n c) l))(hn:n=l.length)(hn2:n≤12) :
 Calls Tryz.prog 300 #[.slice (some ⟨g,0,none⟩) n c,.int .i64 0,.int .i64 n] w fun e w'=>e=.returned (.tuple #[])∧∃l':List Nat,l'.length=n∧Has w0 w' (L.set i (aV 43 1 fO (.slice (some ⟨g,0,none⟩) n c) l')):=by
 refine named fun R HQ=>?_;have HI:=ah.mk (List.getElem?_eq_some_iff.1 hi).1;have H0:ah (∃l':List Nat,l'.length=n∧Has w0 w (L.set i (aV 43 1 fO (.slice (some ⟨g,0,none⟩) n c) l'))):=⟨l,hn.symm,by rw[yI hi];exact H⟩;have LS:=ah.mk JQ;clear H hi hn;go_enter Tryz.func300,Tryz.ntmps300;go_wp2_with fail
 go_loopw [6] (fun i' wr=>∃a:Nat,i'=.int .i64 (a:Int)∧1≤a∧ah (∃l':List Nat,l'.length=n∧Has w0 wr (L.set i (aV 43 1 fO (.slice (some ⟨g,0,none⟩) n c) l')))) (fun i' _=>13-(intOf i').toNat)
 case atStart=>exact⟨1,rfl,by omega,H0⟩
 case round =>
  clear H0;obtain⟨a,rfl,ha,HB⟩:=hrel;by_cases hlt:a<n
  ·have e1:(a:Int)<n:=by omega
   obtain⟨V,hV⟩:∃V,V=wr:=⟨_,rfl⟩;subst hV;go_wp2_with fail
   go_loopw [7] (fun j' wr=>∃b:Nat,j'=.int .i64 (b:Int)∧b≤a∧ah (∃l':List Nat,l'.length=n∧Has w0 wr (L.set i (aV 43 1 fO (.slice (some ⟨g,0,none⟩) n c) l')))) (fun j' _=>(intOf j').toNat)
   case atStart=>exact⟨a,rfl,Nat.le_refl _,HB⟩
   case round =>
    clear HB;obtain⟨b,rfl,hb,HB⟩:=hrel;obtain⟨l',hl',H⟩:=HB.out;by_cases h0:0<b
    ·obtain⟨x,hx⟩:∃x,l'[b]?=some x:=⟨_,List.getElem?_eq_getElem (by omega)⟩;obtain⟨d,rfl⟩:∃d,b=d+1:=⟨b-1,by omega⟩;obtain⟨y,hy⟩:∃y,l'[d]?=some y:=⟨_,List.getElem?_eq_getElem (by omega)⟩;have cx:wr.cell? ⟨g,d+1,none⟩=some (.int .u32 (x:Int)):=by
      have:=cu H i (List.getElem?_set_self HI.out) hl'.symm kJ (d+1) x hx 0 _ rfl;simpa using this
     have cy:wr.cell? ⟨g,d,none⟩=some (.int .u32 (y:Int)):=by
      have:=cu H i (List.getElem?_set_self HI.out) hl'.symm kJ d y hy 0 _ rfl;simpa using this
     have fz:∀k,wr.frozen? ⟨g,k,none⟩=false:=JM H i (List.getElem?_set_self HI.out);have eb:(0:Int)<(d:Int)+1:=by omega
     have edn:(d:Int)+1<n:=by omega
     have edn2:(d:Int)<n:=by omega
     have w1:wrap64 ((d:Int)+1-1)=d:=by rw[show(d:Int)+1-1=d by omega];exact wrap_in (by omega) (by omega)
     go_wp2_with fail
     go_quiet ((go_at_call 306;exact Calls.quiet_of_same (LS.out _ _ _)))
     cases hd:decide (x<y)
     ·go_wp2_with fail
      go_roundw
      case rel=>exact⟨a+1,rfl,by omega,⟨l',hl',H.drewN _⟩⟩
      case measure=>simp[intOf];omega
     ·go_wp2_with fail
      go_region
      all_goals
       go_wp2_with fail
       go_roundw
       case rel =>
        have h1:=MO kJ (H.drewN (nq+1)) i (List.getElem?_set_self HI.out) (d+1) x y hx 0 (by omega) (.int .u32 (y:Int)) rfl;have hd2:(l'.set (d+1) y)[d]?=some y:=by rw[List.getElem?_set_ne (by omega)];exact hy
        have h2:=MO kJ h1 i (by rw[List.getElem?_set_self (by simpa using HI.out)]) d y x hd2 0 (by omega) (.int .u32 (x:Int)) rfl;refine⟨d,rfl,by omega,⟨(l'.set (d+1) y).set d x,by simpa using hl',?_⟩⟩;simpa using h2
       case measure=>simp[intOf]
    ·obtain rfl:b=0:=by omega
     go_wp2_with fail
     go_quiet (fail)
     go_wp2_with fail
     go_roundw
     case rel=>exact⟨a+1,rfl,by omega,⟨l',hl',H.drewN _⟩⟩
     case measure=>simp[intOf];omega
  ·have e1:¬(a:Int)<n:=by omega
   go_wp2_with fail
   first|go_end0|go_ret|skip
   rw[←HQ.out];exact⟨rfl,HB.out⟩
theorem TY (A:Option Addr)(c:Nat):Calls Tryz.prog 300 #[.slice A 0 c,.int .i64 0,.int .i64 0] w fun e w'=>e=.returned (.tuple #[])∧w'=w:=by
 refine named fun R HQ=>?_;go_enter Tryz.func300,Tryz.ntmps300;go_wp2_with fail
 refine wp_loop_rounds 1 ?_;rw[rounds_succ];go_wp2_with fail
 first|go_end0|go_ret|skip
 rw[←HQ.out];exact⟨rfl,rfl⟩
theorem Ot {A:Option Addr}{n c:Nat}{Q:World→Prop}(XH:Calls Tryz.prog 300 #[.slice A n c,.int .i64 0,.int .i64 n] w fun e w'=>e=.returned (.tuple #[])∧Q w')(hn2:n≤12)(k:Int) :
 Calls Tryz.prog 256 #[.slice A n c,.int .i64 0,.int .i64 n,.int .i64 k] w fun e w'=>e=.returned (.tuple #[])∧Q w':=by
 refine named fun R HQ=>?_;have IS:=ah.mk XH;have w1:wrap64 ((n:Int))=n:=wrap_in (by omega) (by omega);have e1:(n:Int)≤12:=by omega
 clear XH;go_enter Tryz.func256,Tryz.ntmps256;go_wp2_with fail
 refine wp_loop_rounds 1 ?_;rw[rounds_succ];go_wp2_with (go_at_call 300;refine IS.out.mono ?_;rintro e w2 ⟨rfl,h⟩;have H2:=ah.mk h;clear h)
 first|go_end0|go_ret|skip
 rw[←HQ.out];exact⟨rfl,H2.out⟩
theorem MQ {A:Option Addr}{n c:Nat}{Q:World→Prop}(XH:Calls Tryz.prog 300 #[.slice A n c,.int .i64 0,.int .i64 n] w fun e w'=>e=.returned (.tuple #[])∧Q w')(hn2:n≤12) :
 Calls Tryz.prog 211 #[.slice A n c] w fun e w'=>e=.returned (.tuple #[])∧Q w':=by
 refine named fun R HQ=>?_;have PD:=ah.mk (Ot XH hn2);have BL:=ah.mk (fun W=>Tryz.bits_Len (n:Int) W (by omega) (by omega));have w1:IntKind.u64.wrap (n:Int)=n:=by rw[IntKind.wrap_u64];omega
 clear XH;go_enter Tryz.func211,Tryz.ntmps211;go_wp2_with (first|(go_at_call 256;refine(PD.out _).mono ?_;rintro e w2 ⟨rfl,h⟩;have H2:=ah.mk h;clear h)|(go_at_call 257;refine(BL.out _).mono ?_;rintro e w' ⟨rfl,hw⟩;obtain rfl:=hw.symm;clear hw))
 first|go_end0|go_ret|skip
 rw[←HQ.out];exact⟨rfl,H2.out⟩
theorem Gm (H:Has w0 w L)(i:Nat){A:Option Addr}{n c:Nat}{l:List Nat}(hi:L[i]?=some (aV 43 1 fO (.slice A n c) l))(hn:n=l.length)(hn2:n≤12) :
 Calls Tryz.prog 211 #[.slice A n c] w fun e w'=>e=.returned (.tuple #[])∧∃l':List Nat,l'.length=n∧Has w0 w' (L.set i (aV 43 1 fO (.slice A n c) l')):=by
 by_cases h0:n=0
 ·subst h0;refine MQ ((TY A c).mono fun e w' ⟨h1,h2⟩=>⟨h1,l,hn.symm,?_⟩) hn2;rw[h2,yI hi];exact H
 ·obtain⟨g,rfl,_⟩:=dG H i hi hn.symm (by omega);exact MQ (Dv H i hi hn hn2) hn2
end
end
section
open Go.RowKit Go.Sort Go.Lib Go.Shelf
instance :Inhabited Ce:=⟨⟨0,0,0,0⟩⟩
def WV (x y:Ce):Int:=zk (Lib.compareInt x.row y.row) (Lib.compareInt x.start y.start)
theorem JU (x y:Ce):WV x y<0↔x.row<y.row∨(x.row=y.row∧x.start<y.start):=by
 unfold WV zk Lib.compareInt;repeat' split
 all_goals omega
theorem Zx:SWO (ltOf WV) where
 irrefl x:=by simp only[ltOf,decide_eq_false_iff_not,JU];omega
 trans x y z h1 h2:=by simp only[ltOf,decide_eq_true_eq,JU]at *;omega
 ntrans x y z h1 h2:=by simp only[ltOf,decide_eq_false_iff_not,JU]at *;omega
section
variable {w:World}
theorem Ou {g c:Nat}(x y:Int)(c0:w.cell? ⟨g,0,none⟩=some (.int .i64 x))(c1:w.cell? ⟨g,1,none⟩=some (.int .i64 y)) :
 Calls Tryz.prog 248 #[.slice (some ⟨g,0,none⟩) 2 c] w fun e w'=>e=.returned (.int .i64 (zk x y))∧w'=w:=by
 refine named fun R HQ=>?_;by_cases hx:x=0
 ·subst hx;by_cases hy:y=0
  ·subst hy;go_enter Tryz.func248,Tryz.ntmps248;go_wp2_with fail
   refine wp_loop_rounds 3 ?_;iterate 3
    rw[rounds_succ];go_wp2_with fail
   first|go_ret|skip
   rw[←HQ.out];exact⟨rfl,rfl⟩
  ·have hy2:(y != 0)=true:=by simpa using hy
   have e:zk 0 y=y:=rfl;rw[e]at HQ;clear hy e;go_enter Tryz.func248,Tryz.ntmps248;go_wp2_with fail
   refine wp_loop_rounds 2 ?_;iterate 2
    rw[rounds_succ];go_wp2_with fail
   first|go_ret|skip
   rw[←HQ.out];exact⟨rfl,rfl⟩
 ·have hx2:(x != 0)=true:=by simpa using hx
  have e:zk x y=x:=by unfold zk;rw[if_neg hx]
  rw[e]at HQ;clear hx e;go_enter Tryz.func248,Tryz.ntmps248;go_wp2_with fail
  refine wp_loop_rounds 1 ?_;rw[rounds_succ];go_wp2_with fail
  first|go_ret|skip
  rw[←HQ.out];exact⟨rfl,rfl⟩
theorem JV (x y:Ce)(W:World):Calls Tryz.prog 247 #[.agg (gq x).toArray,.agg (gq y).toArray] W fun e w'=>e=.returned (.int .i64 (WV x y))∧∃q os',w'=Sort.grow (W.drewN q) os':=by
 refine named fun R HQ=>?_;obtain⟨xi,xr,xs,xo⟩:=x;obtain⟨yi,yr,ys,yo⟩:=y;have C1:=ah.mk fun V=>Tryz.cmp_Compare_int xr yr V;have C2:=ah.mk fun V=>Tryz.cmp_Compare_int xs ys V;unfold WV at HQ;simp only at HQ;obtain⟨a,ha⟩:∃a,a=Lib.compareInt xr yr:=⟨_,rfl⟩;obtain⟨b,hb⟩:∃b,b=Lib.compareInt xs ys:=⟨_,rfl⟩;rw[←ha]at C1 HQ;rw[←hb]at C2 HQ;clear ha hb;unfold gq;simp only;go_enter Tryz.func247,Tryz.ntmps247;go_wp2_with fail
 obtain⟨V,hV⟩:∃V,V=(W.alloc (.cells #[.int .u32 xi,.int .i64 xr,.int .i64 xs,.int .i64 xo] 203)).alloc (.cells #[.int .u32 yi,.int .i64 yr,.int .i64 ys,.int .i64 yo] 203):=⟨_,rfl⟩;rw[←hV];have d1:V.cell? ⟨W.heap.size,1,none⟩=some (.int .i64 xr):=by rw[hV,aj ((heap_alloc_old _ _ (by simp)).trans (heap_alloc_new _ _))];rfl
 have d2:V.cell? ⟨W.heap.size,2,none⟩=some (.int .i64 xs):=by rw[hV,aj ((heap_alloc_old _ _ (by simp)).trans (heap_alloc_new _ _))];rfl
 have e1:V.cell? ⟨W.heap.size+1,1,none⟩=some (.int .i64 yr):=by rw[hV,aj (heap_alloc2_new _ _ _)];rfl
 have e2:V.cell? ⟨W.heap.size+1,2,none⟩=some (.int .i64 ys):=by rw[hV,aj (heap_alloc2_new _ _ _)];rfl
 have HV:=ah.mk hV;clear hV;refine wp_region_still_tail 12 (by kernel_rfl) (by kernel_rfl) ?_;simp only[List.take_succ_cons,List.take_zero,List.drop_succ_cons,List.drop_zero];repeat still_step
 still_call (C1.out _)
 repeat still_step
 still_call (C2.out _)
 repeat still_step
 refine wpStill_nil ?_;change wpList _ _ _ _ _ (World.drew V);have OC:ah (∀cp,Calls Tryz.prog 248 #[.slice (some ⟨V.heap.size,0,none⟩) 2 cp] (V.drew.alloc (.cells #[.int .i64 a,.int .i64 b] 3)) fun e w'=>e=.returned (.int .i64 (zk a b))∧w'=V.drew.alloc (.cells #[.int .i64 a,.int .i64 b] 3)):=⟨fun cp=>Ou a b (by rw[show V.heap.size=V.drew.heap.size from rfl,aj (heap_alloc_new _ _)];rfl) (by rw[show V.heap.size=V.drew.heap.size from rfl,aj (heap_alloc_new _ _)];rfl)⟩;go_wp2_with (go_at_call 248;refine(OC.out _).mono ?_;rintro e w' ⟨rfl,hw⟩;have HF:=ah.mk hw;clear hw)
 first|go_ret|skip
 rw[←HQ.out];have hw:w'=(((W.alloc (.cells #[.int .u32 xi,.int .i64 xr,.int .i64 xs,.int .i64 xo] 203)).alloc (.cells #[.int .u32 yi,.int .i64 yr,.int .i64 ys,.int .i64 yo] 203)).drew).alloc (.cells #[.int .i64 a,.int .i64 b] 3):=by rw[HF.out,HV.out]
 exact⟨rfl,1,_,hw.trans (P9 W _ _ _)⟩
end
section
variable {w0 w:World}{L M:List bW}
theorem wI (H:Has w0 w L)(i:Nat){A:Option Addr}{n c:Nat}{ks:List Ce}(hi:L[i]?=some (aV 203 4 gq (.slice A n c) ks))(hn:n=ks.length)(hn2:n≤1000000) :
 Calls Tryz.prog 246 #[.slice A n c,.func (.func 247) #[] #[]] w fun e w'=>e=.returned (.tuple #[])∧∃ks':List Ce,(∀k,k∈ks'↔k∈ks)∧ks'.length=n∧Has w0 w' (L.set i (aV 203 4 gq (.slice A n c) ks')):=by
 rcases Nat.eq_zero_or_pos n with h0|h0
 ·subst h0;have hks:ks=[]:=List.eq_nil_of_length_eq_zero hn.symm;subst hks;have hcon:=AnyF.slices_SortFunc_none Tryz.Ah A c (.func (.func 247) #[] #[]) w;change Calls Tryz.prog 246 _ _ _ at hcon;refine hcon.mono fun e w' ⟨he,hw⟩=>⟨he,[],fun k=>Iff.rfl,rfl,?_⟩;rw[hw,yI hi];exact H
 ·obtain⟨g,rfl,_⟩:=dG H i hi hn.symm h0;obtain⟨hH,hb,hgo⟩:=Fz (enc:=gq) (by decide) lW H i hi hn;have eg:∀args w,(callFunc 247 args).run Tryz.prog w=.ok (.enter 247 args) w:=enters_of Tryz.func247 (by kernel_rfl) rfl;have hcon:=AnyQ.slices_SortFunc Tryz.Ah 4 Tryz.isAgg203 Tryz.sizeOf203 gq lW (fun x v hv=>FZ x v hv) WV Zx 247 #[] g 0 c ks.toArray w eg (fun m os dk hs x y=>JV x y _) hH hb (by simp;omega);change Calls Tryz.prog 246 _ _ _ at hcon;rw[show ks.toArray.size=n by simp[hn]]at hcon;refine hcon.mono fun e w' ⟨he,d',m,os,hp,_,hw⟩=>?_;rw[show n=ks.toArray.size by simp[hn]]at hp;obtain⟨hp1,hp2⟩:=L8 hp;refine⟨he,d'.toList,fun k=>by simpa using hp1.mem_iff (a:=k),by simpa[hn]using hp2,?_⟩;rw[hw];exact hgo d'.toList m os (by simpa using hp2)
theorem Mx.zK (m:Mx)(l:List Ce){b:Nat}:(m.star b++M).set 1 (aV 203 4 gq m.cv l)=(m.setCells m.cv l).star b++M:=rfl
theorem Gn {m:Mx}{b:Nat}(H:Has w0 w (m.star b++M))(hfew:m.cells.length≤1000000) :
 Calls Tryz.prog 203 #[.pointer (some ⟨b,0,none⟩)] w fun e w'=>e=.returned (.tuple #[])∧∃l:List Ce,(∀k,k∈l↔k∈m.cells)∧l.length=m.cells.length∧Has w0 w' ((m.setCells m.cv l).star b++M):=by
 refine named fun R HQ=>?_;obtain⟨A,c,hv⟩:=mG H;have c1:w.cell? ⟨b,1,none⟩=some (.slice A m.cells.length c):=by rw[aj (H.blk 0 iM),←hv];rfl
 have SC:=ah.mk (wI (A:=A) (n:=m.cells.length) (c:=c) H 1 (by rw[←hv];rfl) rfl hfew);have HV:=ah.mk hv;clear H hv hfew;go_enter Tryz.func203,Tryz.ntmps203;go_wp2_with (go_at_call 246;refine SC.out.mono ?_;rintro e w2 ⟨rfl,ks,hk,hl,h⟩;have H2:=ah.mk h;have HK:=ah.mk (And.intro hk hl);clear h hk hl)
 first|go_end0|go_ret|skip
 rw[←HQ.out];refine⟨rfl,ks,HK.out.1,HK.out.2,?_⟩;rw[←Mx.zK,HV.out];exact H2.out
end
end
section
open Go.RowKit
section
variable {w0 w:World}{M:List bW}
theorem QD {w:World}{b:Nat}{t:TypeId}{cs:Array Value}(h:w.heap[b]?=some (.cells cs t (0,0))):∀W,(∃g:GW w,W=g.W)→W.rangeAt b 0 cs.toList:=fun W ⟨g,e⟩=>by
 subst e;exact bQ (aX h 0 cs.toList (fun i v h=>by simpa using h)) g.h
theorem JW {m:Mx}{b:Nat}(H:Has w0 w (m.star b++M))(hok:∀x∈m.cells,x.ok)(hfew:m.cells.length≤1000000)(r:Int) :
 Calls Tryz.prog 200 #[.pointer (some ⟨b,0,none⟩),.int .i64 r] w fun e w'=>∃k:Nat,e=.returned (.agg (aW k))∧k<256∧Below w.heap.size w w':=by
 refine named fun R HQ=>?_;obtain⟨A,c,hv⟩:=mG H;have c1:∀o o2,((w.alloc o).alloc o2).cell? ⟨b,1,none⟩=some (.slice A m.cells.length c):=fun o o2=>ak (au (au (Below.refl _ _) _) _) (by rw[aj (H.blk 0 iM),←hv];rfl);have hr:=bK H 1 yH lW;rw[hv]at hr;have HR:=ah.mk hr;obtain⟨cells,hcs⟩:∃l,l=m.cells:=⟨_,rfl⟩;rw[←hcs]at c1 HR hok hfew;obtain⟨n,hl⟩:∃n,n=cells.length:=⟨_,rfl⟩;rw[←hl]at c1 HR hfew;have HL:=ah.mk hl;have HO:=ah.mk hok;have H0:=ah.mk (((Has.start w).aZ (.cells (aW 0) 283)).aZ (.cells (aW 0) 283));have hz1:(w.alloc (.cells (aW 0) 283)).heap.size=w.heap.size+1:=by simp
 rw[hz1]at H0;clear H hr hok hcs hl hv hz1;go_enter Tryz.func200,Tryz.ntmps200;go_wp2_with fail
 clear c1;go_loopw [13] (fun i wr=>∃k:Nat,i=.int .i64 (k:Int)∧k≤n∧ah (∃q,q<256∧Has w wr [aF w.heap.size (.cells (aW 0) 283),aF (w.heap.size+1) (.cells (aW q) 283)])) (fun i _=>n-(intOf i).toNat)
 case atStart=>exact⟨0,rfl,Nat.zero_le _,⟨0,by omega,H0.out⟩⟩
 case round =>
  clear H0;obtain⟨k,rfl,hk,HB⟩:=hrel;obtain⟨q,hq,HB⟩:=HB.out;have HB:=ah.mk HB;have QE:=ah.mk hq;clear hq;by_cases hlt:k<n
  ·obtain⟨y,hy⟩:∃y,cells[k]?=some y:=⟨_,List.getElem?_eq_getElem (by have:=HL.out;omega)⟩;obtain⟨g,hA,gK⟩:=(HR.out.below HB.out.old).get k y hy;subst hA;obtain⟨yo,ys,h1,h2,h3,h4⟩:=(HO.out y (List.mem_of_getElem? hy)).2.2;obtain⟨yi,yr,y1,y2⟩:=y;simp only at h1 h2;subst h1 h2;have RX:=ah.mk gK;have H1:=ah.mk (HB.out.aZ (.cells (gq ⟨yi,yr,(ys:Int),(yo:Int)⟩).toArray 203));unfold gq at RX H1;have e1:(k:Int)<n:=by omega
   clear hy gK;have HS:=ah.mk (And.intro h3 h4);clear h3 h4;have lx:wr.rangeAt g (k*4) [.int .u32 yi,.int .i64 yr,.int .i64 (ys:Int),.int .i64 (yo:Int)]:=RX.out;have l0:wr.cell? ⟨g,k*4,none⟩=some (.int .u32 yi):=by have:=lx 0 _ rfl;simpa using this
   have l1:wr.cell? ⟨g,k*4+1,none⟩=some (.int .i64 yr):=lx 1 _ rfl;have l2:wr.cell? ⟨g,k*4+2,none⟩=some (.int .i64 (ys:Int)):=lx 2 _ rfl;have l3:wr.cell? ⟨g,k*4+3,none⟩=some (.int .i64 (yo:Int)):=lx 3 _ rfl;clear lx RX;by_cases hrr:yr=r
   ·have e2:(yr==r)=true:=by simpa using hrr
    clear hrr;go_wp2_with fail
    obtain⟨W,hW⟩:∃W,W=wr.alloc (.cells #[.int .u32 yi,.int .i64 yr,.int .i64 (ys:Int),.int .i64 (yo:Int)] 203):=⟨_,rfl⟩;obtain⟨NB,jw⟩:∃v,v=wr.heap.size:=⟨_,rfl⟩;have H2:ah (Has w W [aF w.heap.size (.cells (aW 0) 283),aF (w.heap.size+1) (.cells (aW q) 283),aF NB (.cells #[.int .u32 yi,.int .i64 yr,.int .i64 (ys:Int),.int .i64 (yo:Int)] 203)]):=⟨by rw[hW,jw];exact H1.out⟩;rw[←hW,←jw];clear hW jw H1 l0 l1 l2 l3 HB;have CF:=uS q ys yo QE.out HS.out.1 HS.out.2;obtain⟨k2,hk2⟩:∃k2,k2=mk ys (2^yo):=⟨_,rfl⟩;have OF:=ah.mk fun V=>uT ys yo HS.out.2 HS.out.1 V;rw[←hk2]at CF OF;obtain⟨k3,hk3⟩:∃k3,k3=q|||k2:=⟨_,rfl⟩;rw[←hk3]at CF;have OR:=ah.mk fun V=>AZ q k2 k3 CF.2.1 V;have Zy:=ah.mk CF.2.2.1;have g2:∀g:GW W,g.W.cell? ⟨NB,2,none⟩=some (.int .i64 (ys:Int)):=fun g=>g.cell (by rw[aj (H2.out.blk 2 rfl)];rfl);have g3:∀g:GW W,g.W.cell? ⟨NB,3,none⟩=some (.int .i64 (yo:Int)):=fun g=>g.cell (by rw[aj (H2.out.blk 2 rfl)];rfl);have RQ:=ah.mk (QD (H2.out.blk 1 rfl));have oz:=jm q;have XI:=jm k3;clear CF hk2 hk3 e2;refine kW 5 (by kernel_rfl) (by kernel_rfl) ?_;simp only[List.take_succ_cons,List.take_zero,List.drop_succ_cons,List.drop_zero];repeat (first|(refine gU (by rfl) 283 _ rfl (w.heap.size+1) 0 rfl (aW q) _ RQ.out Tryz.underlying283 rfl oz _ rfl ?_;simp only[Act.put,List.setIfInBounds_toArray,List.set_cons_succ,List.set_cons_zero])|go_big_quiet_step (first|((go_at_call 210;exact GW.calls (OR.out _)))|((go_at_call 202;exact GW.calls (OF.out _)))))
    refine wpQuiet_nil ?_;intro _ hw';obtain⟨g1,rfl⟩:=hw';have H3:=ah.mk (H2.out.below g1.h);have BX:=ah.mk (H3.out.blk 1 rfl);clear g2 g3;go_wp2_with (refine aY rfl 283 (.tmp 5) (.tmp 25) rfl (w.heap.size+1) (aW k3) rfl rfl 283 _ BX.out XI rfl (kM k3) ?_)
    go_roundw
    case rel=>exact⟨k+1,rfl,by omega,⟨k3,Zy.out,Has.first (M:=[_]) (H3.out.putRow 1 rfl (aW k3))⟩⟩
    case measure=>simp[intOf];omega
   ·have e2:(yr==r)=false:=by simpa using hrr
    clear hrr;go_wp2_with fail
    go_roundw
    case rel=>exact⟨k+1,rfl,by omega,⟨q,QE.out,Has.first (M:=[_]) H1.out⟩⟩
    case measure=>simp[intOf];omega
  ·have e1:¬(k:Int)<n:=by omega
   have RX:ah (wr.rangeAt (w.heap.size+1) 0 (aW q).toList):=⟨aX (HB.out.blk 1 rfl) 0 _ fun i v h=>by simpa using h⟩;have BX:=ah.mk (HB.out.blk 0 rfl);have oz:=jm q;go_wp2_with (first|(refine aY rfl 283 (.tmp 4) (.tmp 27) rfl w.heap.size (aW q) rfl rfl 283 _ BX.out oz rfl (kM q) ?_)|(refine aI rfl 283 (.tmp 5) rfl (w.heap.size+1) 0 rfl (aW q) _ RX.out Tryz.underlying283 rfl oz ?_))
   have hg:=setRow_heap wr w.heap.size _ (aW q) 283 (0,0) BX.out;refine bodyPost_ret (results_cell_row rfl _ _ w.heap.size 283 (aW q) (0,0) _ (by rfl) hg Tryz.underlying283 rfl (by kernel_rfl)) rfl ?_;rw[←HQ.out];exact⟨q,rfl,QE.out,below_setRow HB.out.old (Nat.le_refl _) _⟩
end
end
section
open Go.RowKit
def yK:Ce:=⟨0,0,0,0⟩
theorem Bd:(gq yK).toArray=#[.int .u32 0,.int .i64 0,.int .i64 0,.int .i64 0]:=rfl
theorem yL:(#[.int .u32 0,.int .i64 0,.int .i64 0,.int .i64 0]:Array Value).all (·.oneCell')=true:=by simp[Value.oneCell']
section
variable {w0 w:World}{M:List bW}
def Placed (w0:World)(m:Mx)(b N id q:Nat)(M:List bW)(e:Ending)(w':World):Prop :=
 ∃(c:Ce) (r:Int) (m':Mx),e=.returned (.tuple #[.agg (gq c).toArray,.int .i64 r])∧m'.ok (N+1)∧Has w0 w' (m'.star b++M)∧(r≠0→m'=m)∧(r=0→c.order=(q:Int)∧(∃s:Nat,c.start=(s:Int)∧s≤7∧s%2^q=0)∧∃x∈m'.cells,x.id=id)
theorem Mx.ok.more {m:Mx}{N:Nat}(h:m.ok N):m.ok (N+1):=⟨h.cells,Nat.le_succ_of_le h.few,h.Nz,h.ND⟩
theorem uU {m:Mx}{b:Nat}{X:bW}:m.star b++(M++[X])=m.star b++M++[X]:=(List.append_assoc _ _ _).symm
theorem Bf {m:Mx}{b:Nat}{X:bW}{K:List bW}:(m.star b++(M++X::K))[2+M.length]?=some X:=by
 rw[List.getElem?_append_right (by simp[Mx.star]),List.getElem?_append_right (by simp[Mx.star])];simp[Mx.star]
theorem kE {m:Mx}{b:Nat}{K:List bW}(i:Nat):(m.star b++(M++K))[2+M.length+i]?=K[i]?:=by
 rw[List.getElem?_append_right (by simp[Mx.star];omega),List.getElem?_append_right (by simp[Mx.star];omega)];simp only[Mx.star,List.length_cons,List.length_nil];congr 1
 omega
theorem Ov {m:Mx}{b:Nat}{K:List bW}{X:bW}(i:Nat)(H:Has w0 w ((m.star b++(M++K)).set (2+M.length+i) X)):Has w0 w (m.star b++M):=by
 have e:(m.star b++(M++K)).set (2+M.length+i) X=(m.star b++M)++K.set i X:=by
  rw[←List.append_assoc,List.set_append_right _ _ (by simp[Mx.star];omega)];simp only[Mx.star,List.length_append,List.length_cons,List.length_nil];congr 2
  omega
 rw[e]at H;exact H.first
theorem Gp {m:Mx}{b N:Nat}(H:Has w0 w (m.star b++M))(hm:m.ok N)(hN:N≤900000)(id:Nat)(hid:1≤id)(q:Nat)(hq:q≤3) :
 Calls Tryz.prog 140 #[.pointer (some ⟨b,0,none⟩),.int .u32 (id:Int),.int .i64 (q:Int)] w fun e w'=>Placed w0 m b N id q M e w':=by
 refine named fun R HQ=>?_;have HM:=ah.mk hm;have hfew:=hm.few;have H0:ah (Has w0 (w.alloc (.cells #[.int .u32 0,.int .i64 0,.int .i64 0,.int .i64 0] 203)) (m.star b++(M++[aF w.heap.size (.cells #[.int .u32 0,.int .i64 0,.int .i64 0,.int .i64 0] 203)]))):=⟨by rw[uU];exact H.aZ _⟩;have AT:=ah.mk (Bc id H0.out (by omega));have f0:(w.alloc (.cells #[.int .u32 0,.int .i64 0,.int .i64 0,.int .i64 0] 203)).cell? ⟨b,0,none⟩=some (.int .i64 3):=by rw[aj (H0.out.blk 0 iM)];rfl
 have q3:¬(3:Int)<(q:Int):=by omega
 have i0:((id:Int)==0)=false:=by simp;omega
 have q0:¬(q:Int)<0:=by omega
 obtain⟨z,hz⟩:∃z:Nat,z=2^q:=⟨_,rfl⟩;have s1:wrap64 ((2:Int)^min q 64)=(z:Int):=by
  rw[hz];rcases(by omega:q=0∨q=1∨q=2∨q=3)with h|h|h|h<;>rw[h]<;>kernel_rfl
 clear H hm;go_enter Tryz.func140,Tryz.ntmps140;go_wp2_with (go_at_call 118;refine AT.out.mono ?_;rintro e w2 ⟨k,rfl,hk,hb⟩;have H2:=ah.mk (H0.out.below hb);clear hb hk;refine ah.out ?_)
 by_cases hk0:(0:Int)≤k
 ·have BX:=ah.mk (H2.out.blk _ Bf);have i203:=Ba yK;rw[Bd]at i203;refine ah.mk ?_;go_wp2_with (refine kR rfl 203 (.tmp 6) (.tmp 38) rfl w.heap.size 0 #[.int .u32 0,.int .i64 0,.int .i64 0,.int .i64 0] rfl rfl 203 _ BX.out (fun i v h=>by simpa using h) i203 yL ?_)
  try simp only[Exit.inBlock,Exit.then]
  refine eu rfl rfl w.heap.size _ 203 (0,0) _ rfl BX.out Tryz.underlying203 rfl i203 ?_;rw[←HQ.out];exact⟨yK,30,m,rfl,HM.out.more,Has.first (by have:=H2.out;rw[uU]at this;exact this),fun _=>rfl,fun h=>by cases h⟩
 ·refine ah.mk ?_;go_wp2_with fail
  clear f0 i0 q0 q3 hk0 AT;go_loopw [39] (fun i wr=>∃r:Nat,i=.int .i64 (r:Int)∧r≤16∧ah (Has w0 wr (m.star b++(M++[aF w.heap.size (.cells #[.int .u32 0,.int .i64 0,.int .i64 0,.int .i64 0] 203)])))) (fun i _=>16-(intOf i).toNat)
  case atStart=>exact⟨0,rfl,by omega,H2⟩
  case round =>
   clear H2;obtain⟨r,rfl,hr,H2⟩:=hrel;obtain⟨V0,hV0⟩:∃v,v=wr:=⟨_,rfl⟩;subst hV0;by_cases hlt:r<16
   ·have MR:=ah.mk (JW H2.out HM.out.cells (by omega) (r:Int));have e1:(r:Int)<16:=by omega
    go_wp2_with (first|(have _t:=H3.out;clear _t;have oz:=jm k1;refine aB (w:=w3) w3.heap.size rfl rfl 283 (.tmp 9) (.tmp 44) rfl (aW k1) rfl rfl 283 _ oz rfl (kM k1) ?_;refine ah.out ?_)|(go_at_call 200;refine MR.out.mono ?_;rintro e w3 ⟨k1,rfl,hk1,hb⟩;have H3:=ah.mk ((H2.out.below hb).aZ (.cells (aW k1) 283));have HK:=ah.mk hk1;clear hb hk1))
    obtain⟨g9,TB⟩:∃v,v=w3.heap.size:=⟨_,rfl⟩;have H4:ah (Has w0 (w3.alloc (.cells (aW k1) 283)) (m.star b++(M++[aF w.heap.size (.cells #[.int .u32 0,.int .i64 0,.int .i64 0,.int .i64 0] 203),aF g9 (.cells (aW k1) 283)]))):=⟨by rw[TB];have:=H3.out;rw[List.append_assoc,List.append_assoc]at this;exact this⟩;obtain⟨V,hV⟩:∃v,v=w3.alloc (.cells (aW k1) 283):=⟨_,rfl⟩;rw[←hV]at H4;rw[←hV,←TB];clear hV TB H3 MR e1;have z8:z≤8:=by rw[hz];exact(fP hq).2
    have z1:1≤z:=by rw[hz];exact(fP hq).1
    have HZ:=ah.mk hz;have HR:=ah.mk hlt;have s2:wrap64 ((2:Int)^q)=(z:Int):=by
     rw[hz];rcases(by omega:q=0∨q=1∨q=2∨q=3)with h|h|h|h<;>rw[h]<;>kernel_rfl
    clear hz hr oz;refine ah.mk ?_;go_wp2_with fail
    go_loopw [10] (fun i wr=>∃s:Nat,i=.int .i64 (s:Int)∧s≤8∧ah (s%z=0)∧ah (Has w0 wr (m.star b++(M++[aF w.heap.size (.cells #[.int .u32 0,.int .i64 0,.int .i64 0,.int .i64 0] 203),aF g9 (.cells (aW k1) 283)])))) (fun i _=>8-(intOf i).toNat)
    case atStart=>exact⟨0,rfl,by omega,⟨Nat.zero_mod _⟩,H4⟩
    case round =>
     clear H4;obtain⟨s,rfl,hs,HS,H4⟩:=hrel;have f0:wr.cell? ⟨b,0,none⟩=some (.int .i64 3):=by rw[aj (H4.out.blk 0 iM)];rfl
     by_cases hlt:s<8
     ·have e1:(s:Int)<8:=by omega
      have hsz:s+z≤8:=by
       have h1:=HS.out;have h2:=HZ.out;rcases(by omega:q=0∨q=1∨q=2∨q=3)with h|h|h|h<;>rw[h]at h2<;>simp at h2<;>subst h2<;>omega
      have H5:=ah.mk (H4.out.aZ (.cells #[.int .i64 (s:Int),.int .i64 (q:Int)] 53));have CF:=uS k1 s q HK.out hq (by rw[←HZ.out];exact hsz);obtain⟨k2,hk2⟩:∃k2,k2=mk s (2^q):=⟨_,rfl⟩;have OF:=ah.mk fun V=>uT s q (by rw[←HZ.out];exact hsz) hq V;rw[←hk2]at CF OF;obtain⟨k3,hk3⟩:∃k3,k3=k1&&&k2:=⟨_,rfl⟩;rw[←hk3]at CF;have MC:=ah.mk fun V=>tY k1 k2 k3 CF.1 V;obtain⟨bm,hbm⟩:∃bm,bm=decide (k3≠0):=⟨_,rfl⟩;rw[←hbm]at MC;clear CF hk2 hk3 hbm;go_wp2_with fail
      obtain⟨W,hW⟩:∃W,W=wr.alloc (.cells #[.int .i64 (s:Int),.int .i64 (q:Int)] 53):=⟨_,rfl⟩;obtain⟨NB,jw⟩:∃v,v=wr.heap.size:=⟨_,rfl⟩;have H6:ah (Has w0 W (m.star b++(M++[aF w.heap.size (.cells #[.int .u32 0,.int .i64 0,.int .i64 0,.int .i64 0] 203),aF g9 (.cells (aW k1) 283),aF NB (.cells #[.int .i64 (s:Int),.int .i64 (q:Int)] 53)]))):=⟨by rw[hW,jw];have:=H5.out;rw[List.append_assoc,List.append_assoc]at this;exact this⟩;rw[←hW,←jw];clear hW jw H5 H4 f0;have RQ:=ah.mk (QD (H6.out.blk _ (kE 1)));have g2:∀g:GW W,g.W.cell? ⟨NB,0,none⟩=some (.int .i64 (s:Int)):=fun g=>g.cell (by rw[aj (H6.out.blk _ (kE 2))];rfl);have g3:∀g:GW W,g.W.cell? ⟨NB,1,none⟩=some (.int .i64 (q:Int)):=fun g=>g.cell (by rw[aj (H6.out.blk _ (kE 2))];rfl);have oz:=jm k1;refine bZ (by kernel_rfl) (by kernel_rfl) ?_;repeat (first|(refine gU (by rfl) 283 _ rfl g9 0 rfl (aW k1) _ RQ.out Tryz.underlying283 rfl oz _ rfl ?_;simp only[Act.put,List.setIfInBounds_toArray,List.set_cons_succ,List.set_cons_zero])|go_big_quiet_step (first|((go_at_call 201;exact GW.calls (MC.out _)))|((go_at_call 202;exact GW.calls (OF.out _)))))
      refine wpQuiet_nil ?_;intro _ hw';obtain⟨gg,rfl⟩:=hw';obtain⟨V1,hV1⟩:∃V1,V1=gg.W:=⟨_,rfl⟩;have H7:ah (Has w0 V1 (m.star b++(M++[aF w.heap.size (.cells #[.int .u32 0,.int .i64 0,.int .i64 0,.int .i64 0] 203),aF g9 (.cells (aW k1) 283),aF NB (.cells #[.int .i64 (s:Int),.int .i64 (q:Int)] 53)]))):=⟨by rw[hV1];exact H6.out.below gg.h⟩;rw[←hV1];clear hV1 H6 g2 g3 RQ MC OF oz;have f2:V1.cell? ⟨NB,0,none⟩=some (.int .i64 (s:Int)):=by rw[aj (H7.out.blk _ (kE 2))];rfl
      have f3:V1.cell? ⟨NB,1,none⟩=some (.int .i64 (q:Int)):=by rw[aj (H7.out.blk _ (kE 2))];rfl
      have w1:wrap64 ((s:Int)+z)=((s+z:Nat):Int):=by rw[wrap_in (by omega) (by omega)];rfl
      cases bm
      ·have H8:=ah.mk (H7.out.aZ (.cells #[.int .u32 (id:Int),.int .i64 (r:Int),.int .i64 (s:Int),.int .i64 (q:Int)] 203));go_wp2_with fail
       obtain⟨W5,oM⟩:∃v,v=V1.alloc (.cells #[.int .u32 (id:Int),.int .i64 (r:Int),.int .i64 (s:Int),.int .i64 (q:Int)] 203):=⟨_,rfl⟩;obtain⟨NC,AB⟩:∃v,v=V1.heap.size:=⟨_,rfl⟩;have H9:ah (Has w0 W5 (m.star b++(M++[aF w.heap.size (.cells #[.int .u32 0,.int .i64 0,.int .i64 0,.int .i64 0] 203),aF g9 (.cells (aW k1) 283),aF NB (.cells #[.int .i64 (s:Int),.int .i64 (q:Int)] 53),aF NC (.cells #[.int .u32 (id:Int),.int .i64 (r:Int),.int .i64 (s:Int),.int .i64 (q:Int)] 203)]))):=⟨by rw[oM,AB];have:=H8.out;rw[List.append_assoc,List.append_assoc]at this;exact this⟩;rw[←oM,←AB];clear oM AB H8 H7 f2 f3;obtain⟨A,cc,hv⟩:=mG H9.out;obtain⟨n,hn⟩:∃n,n=m.cells.length:=⟨_,rfl⟩;have HV:ah (m.cv=.slice A n cc):=⟨by rw[hn];exact hv⟩;have jr:=ah.mk hn;have c1:W5.cell? ⟨b,1,none⟩=some (.slice A n cc):=by rw[aj (H9.out.blk 0 iM),←HV.out];rfl
       have BC:=ah.mk (H9.out.blk _ (kE 3));clear hv hn;obtain⟨Kp,fD⟩:∃Kp:Nat→Prop,Kp=fun k=>k=b∨k=NC:=⟨_,rfl⟩;have k1':Kp b:=by rw[fD];exact .inl rfl
       have k2':Kp NC:=by rw[fD];exact .inr rfl
       have yh:=ah.mk fD;have wV:ah (∀k,Kp k→k<W5.drew.heap.size):=⟨fun k hk=>by
        rw[fD]at hk;rcases hk with h|h
        ·rw[h];exact(Array.getElem?_eq_some_iff.1 (H9.out.blk 0 iM)).1
        ·rw[h];exact(Array.getElem?_eq_some_iff.1 BC.out).1⟩
       have x1:∀g:KW W5 Kp,g.W.cell? ⟨b,1,none⟩=some (.slice A n cc):=fun g=>g.cell k1' c1;have y0:∀g:KW W5 Kp,g.W.cell? ⟨NC,0,none⟩=some (.int .u32 (id:Int)):=fun g=>g.cell k2' (by rw[aj BC.out];rfl);have y1:∀g:KW W5 Kp,g.W.cell? ⟨NC,1,none⟩=some (.int .i64 (r:Int)):=fun g=>g.cell k2' (by rw[aj BC.out];rfl);have y2:∀g:KW W5 Kp,g.W.cell? ⟨NC,2,none⟩=some (.int .i64 (s:Int)):=fun g=>g.cell k2' (by rw[aj BC.out];rfl);have y3:∀g:KW W5 Kp,g.W.cell? ⟨NC,3,none⟩=some (.int .i64 (q:Int)):=fun g=>g.cell k2' (by rw[aj BC.out];rfl);clear fD k1' k2' c1;refine aK (fun W=>∃g:KW W5 Kp,W=g.W) 8 (by kernel_rfl) (by kernel_rfl) ?_;have HB0:ah (∀k,Kp k→W5.drew.heap[k]?=W5.heap[k]?):=⟨fun _ _=>rfl⟩;have HG:∃g:KW W5 Kp,W5.drew=g.W:=⟨⟨_,HB0.out⟩,rfl⟩;refine tk 0 HG ?_;refine tk 1 HG ?_;refine tk 2 HG ?_;refine tk 3 HG ?_;refine tk 4 HG ?_;refine tk 5 HG ?_;refine aP (k:=6) rfl (by kernel_rfl) (by kernel_rfl) (fun KK gB=>?_);rw[if_pos (by rfl)];go_simp;have HB1:ah (∀k,Kp k→(W5.drew.alloc (.cells #[.int .u32 (id:Int),.int .i64 (r:Int),.int .i64 (s:Int),.int .i64 (q:Int)] 203)).heap[k]?=W5.heap[k]?):=⟨fun k hk=>heap_alloc_old _ _ (wV.out k hk)⟩;refine gB _ _ ⟨⟨_,HB1.out⟩,rfl⟩ ?_;clear gB KK HG;have HG:∃g:KW W5 Kp,W5.drew.alloc (.cells #[.int .u32 (id:Int),.int .i64 (r:Int),.int .i64 (s:Int),.int .i64 (q:Int)] 203)=g.W:=⟨⟨_,HB1.out⟩,rfl⟩;try simp only[Act.put,List.getElem_toArray,List.getElem_cons_zero,List.getElem_cons_succ,List.setIfInBounds_toArray,List.set_cons_zero,List.set_cons_succ]
       refine aP (k:=7) rfl (by kernel_rfl) (by kernel_rfl) (fun KK gB=>?_);rw[if_pos (by rfl)];change Oper.wp Tryz.prog _ _ (W5.drew.alloc (.cells #[.int .u32 (id:Int),.int .i64 (r:Int),.int .i64 (s:Int),.int .i64 (q:Int)] 203)) _ _;refine qJ 127 (.tmp 72) (.tmp 74) rfl H9.out.drew 1 (by rw[←HV.out];rfl) n jr.out Tryz.underlying127 MF (by decide) (by have:=jr.out;omega) rfl rfl (⟨id,r,s,q⟩:Ce) _ rfl rfl (by simp[Value.oneCell']) ?_;intro A5 c5 w7 h7;have vN:=ah.mk h7;clear h7;have hk7:∀k,Kp k→w7.heap[k]?=W5.heap[k]?:=fun k hk=>by
        rw[yh.out]at hk;rcases hk with h|h
        ·rw[h];exact(vN.out.blk 0 rfl).trans (H9.out.blk 0 iM).symm
        ·rw[h];exact(vN.out.blk (2+M.length+3) (by rw[List.getElem?_set_ne (by omega)];exact kE 3)).trans BC.out.symm
       refine gB _ _ ⟨⟨w7,hk7⟩,rfl⟩ ?_;clear gB KK HG hk7;refine aO (by kernel_rfl) ?_;simp only[List.drop_succ_cons,List.drop_zero];clear HB0 HB1 x1 y0 y1 y2 y3 wV;have z0:w7.cell? ⟨b,1,none⟩=some (.slice A n cc):=by rw[aj (vN.out.blk 0 rfl),←HV.out];rfl
       have z1:w7.frozen? ⟨b,1,none⟩=false:=aJ (vN.out.blk 0 rfl) _;have Dw:=ah.mk (tZ vN.out);have U6:ah ((m.setCells (.slice A5 (n+1) c5) (m.cells++[⟨id,r,s,q⟩])).ok (N+1)):=⟨HM.out.setCells _ (fun x hx=>by
        rcases List.mem_append.1 hx with h|h
        ·exact HM.out.cells x h
        ·obtain rfl:=List.mem_singleton.1 h;exact⟨by show(0:Int)≤(r:Int);omega,by show(r:Int)≤15;omega,q,s,rfl,rfl,hq,by rw[←HZ.out];exact hsz⟩) (by rw[List.length_append,List.length_singleton];have:=HM.out.few;omega)⟩
       have MS:=ah.mk (Gn Dw.out (Nat.le_trans U6.out.few (by omega)));clear vN H9;go_wp2_with (go_at_call 203;refine MS.out.mono ?_;rintro e w8 ⟨rfl,l,hl1,hl2,h⟩;have Pm:=ah.mk h;have HL:=ah.mk (And.intro hl1 hl2);clear h hl1 hl2;refine ah.out ?_)
       have YE:=ah.mk (Pm.out.blk (2+M.length+3) (kE 3));have BZ:=ah.mk (Pm.out.blk (2+M.length+0) (kE 0));have v0:w8.cell? ⟨NC,0,none⟩=some (.int .u32 (id:Int)):=by rw[aj YE.out];rfl
       have v1:w8.cell? ⟨NC,1,none⟩=some (.int .i64 (r:Int)):=by rw[aj YE.out];rfl
       have v2:w8.cell? ⟨NC,2,none⟩=some (.int .i64 (s:Int)):=by rw[aj YE.out];rfl
       have v3:w8.cell? ⟨NC,3,none⟩=some (.int .i64 (q:Int)):=by rw[aj YE.out];rfl
       have i203:=Ba ⟨id,r,s,q⟩;have Zz:(#[.int .u32 (id:Int),.int .i64 (r:Int),.int .i64 (s:Int),.int .i64 (q:Int)]:Array Value).all (·.oneCell')=true:=by simp[Value.oneCell']
       unfold gq at i203;clear z0 z1 MS Dw;refine ah.mk ?_;go_wp2_with (refine aY rfl 203 (.tmp 6) (.tmp 80) rfl w.heap.size #[.int .u32 (id:Int),.int .i64 (r:Int),.int .i64 (s:Int),.int .i64 (q:Int)] rfl rfl 203 _ BZ.out i203 rfl Zz ?_)
       have hg:=setRow_heap w8 w.heap.size _ #[.int .u32 (id:Int),.int .i64 (r:Int),.int .i64 (s:Int),.int .i64 (q:Int)] 203 (0,0) BZ.out;try simp only[Exit.inBlock,Exit.then]
       refine eu rfl rfl w.heap.size _ 203 (0,0) _ rfl hg Tryz.underlying203 rfl i203 ?_;rw[←HQ.out];have eU:=U6.out.setCells (.slice A5 (n+1) c5) (l:=l) (fun x hx=>U6.out.cells x ((HL.out.1 x).1 hx)) (K:=N+1) (by rw[HL.out.2];exact U6.out.few);refine⟨⟨id,r,s,q⟩,0,_,rfl,eU,?_,fun h=>absurd rfl h,fun _=>⟨rfl,⟨s,rfl,by omega,by rw[←HZ.out];exact HS.out⟩,⟨id,r,s,q⟩,(HL.out.1 _).2 (List.mem_append_right _ (List.mem_singleton.2 rfl)),rfl⟩⟩;have:=Pm.out.putRow (2+M.length+0) (kE 0) #[.int .u32 (id:Int),.int .i64 (r:Int),.int .i64 (s:Int),.int .i64 (q:Int)];exact Ov 0 this
      ·go_wp2_with fail
       go_roundw
       case rel =>
        refine⟨s+z,rfl,hsz,⟨by have:=HS.out;rw[Nat.add_mod_right];exact this⟩,⟨Has.first (M:=[aF NB (.cells #[.int .i64 (s:Int),.int .i64 (q:Int)] 53)]) ?_⟩⟩;have:=H7.out;simp only[List.append_assoc,List.cons_append,List.nil_append];exact this
       case measure=>simp[intOf];omega
     ·have e1:¬(s:Int)<8:=by omega
      go_wp2_with fail
      go_roundw
      case rel =>
       refine⟨r+1,rfl,by omega,⟨Has.first (M:=[aF g9 (.cells (aW k1) 283)]) ?_⟩⟩;have:=H4.out;simp only[List.append_assoc,List.cons_append,List.nil_append];exact this
      case measure=>simp[intOf];omega
   ·have e1:¬(r:Int)<16:=by omega
    have BX:=ah.mk (H2.out.blk _ Bf);have i203:=Ba yK;rw[Bd]at i203;go_wp2_with (refine kR rfl 203 (.tmp 6) (.tmp 82) rfl w.heap.size 0 #[.int .u32 0,.int .i64 0,.int .i64 0,.int .i64 0] rfl rfl 203 _ BX.out (fun i v h=>by simpa using h) i203 yL ?_)
    try simp only[Exit.inBlock,Exit.then]
    refine eu rfl rfl w.heap.size _ 203 (0,0) _ rfl BX.out Tryz.underlying203 rfl i203 ?_;rw[←HQ.out];exact⟨yK,5,m,rfl,HM.out.more,Has.first (by have:=H2.out;rw[uU]at this;exact this),fun _=>rfl,fun h=>by cases h⟩
end
end
end Go.Proofs.YtandhagfhppgaaaGreatDoor
