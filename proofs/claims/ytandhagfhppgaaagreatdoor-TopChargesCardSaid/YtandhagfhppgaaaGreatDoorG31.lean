/- Part 36 of a proof: contracts of the functions that the law reaches. No condition. -/
import Derived.Shelf.SlSortCmp.WholeK
import Derived.Test.YtandhagfhppgaaaGreatDoorG8
import Derived.Test.YtandhagfhppgaaaGreatDoorG12
import Derived.Test.YtandhagfhppgaaaGreatDoorG14
import Derived.Test.YtandhagfhppgaaaGreatDoorG15
import Derived.Test.YtandhagfhppgaaaGreatDoorG21
set_option linter.all false
set_option maxRecDepth 100000
set_option maxHeartbeats 16000000
namespace Go.Proofs.YtandhagfhppgaaaGreatDoor
section
open Go.RowKit
theorem Mx.kD (m:Mx):m.arr[0]?=some (.int .i64 3):=rfl
section
variable {w0 w:World}{M:List bV}
theorem iU {m:Mx}{b:Nat}:(m.star b++M)[0]?=some (aF b (.cells m.arr 129)):=rfl
theorem yT {m:Mx}{b:Nat}:(m.star b++M)[1]?=some (aT 203 4 gu m.cv m.cells):=rfl
theorem ny {m:Mx}{b:Nat}(H:Has w0 w (m.star b++M)):∃A c,m.cv=.slice A m.cells.length c:=fB H 1 yT
def Mx.rows (m:Mx):Nat:=if m.cells.length=0 then 0 else(m.cells[m.cells.length-1]?.map fun y=>y.row.toNat+1).getD 0
theorem Mx.ok.rows {m:Mx}{N:Nat}(h:m.ok N):m.rows≤16:=by
 unfold Mx.rows;split
 ·omega
 ·rw[List.getElem?_eq_getElem (by omega)];have:=h.cells _ (List.getElem_mem (show m.cells.length-1<m.cells.length by omega));have h1:=this.2.1;simp;omega
theorem rU {m:Mx}{b:Nat}(H:Has w0 w (m.star b++M))(hok:∀x∈m.cells,x.ok)(hfew:m.cells.length≤1000000) :
 Calls Tryz.prog 120 #[.pointer (some ⟨b,0,none⟩)] w fun e w'=>e=.returned (.int .i64 (m.rows:Int))∧Below w.heap.size w w':=by
 refine named fun R HQ=>?_;obtain⟨A,c,hv⟩:=ny H;have hr:=bI H 1 yT mP;have c1:w.cell? ⟨b,1,none⟩=some (.slice A m.cells.length c):=by rw[aj (H.blk 0 iU),←hv];rfl
 rw[hv]at hr;obtain⟨r,hrr⟩:∃r,r=m.rows:=⟨_,rfl⟩;rw[←hrr]at HQ;unfold Mx.rows at hrr;obtain⟨cells,hcs⟩:∃l,l=m.cells:=⟨_,rfl⟩;rw[←hcs]at c1 hr hok hfew hrr;obtain⟨n,hl⟩:∃n,n=cells.length:=⟨_,rfl⟩;rw[←hl]at c1 hr hfew hrr;by_cases h0:n=0
 ·subst h0;rw[if_pos rfl]at hrr;rw[hrr]at HQ;clear H hr hok hl hcs hv hrr;go_enter Tryz.func120,Tryz.ntmps120;go_wp2_with fail
  first|go_ret|skip
  rw[←HQ.out];exact⟨rfl,Below.refl _ _⟩
 ·obtain⟨y,hy⟩:∃y,cells[n-1]?=some y:=⟨_,List.getElem?_eq_getElem (by omega)⟩;obtain⟨g,rfl,gQ⟩:=hr.get (n-1) y hy;have ho:=hok y (List.mem_of_getElem? hy);obtain⟨Yz,hrw⟩:∃r:Nat,y.row=r:=⟨y.row.toNat,by have:=ho.1;omega⟩;rw[if_neg h0,hy,Option.map_some,Option.getD_some,hrw]at hrr;rw[hrr]at HQ;obtain⟨k,rfl⟩:∃k,n=k+1:=⟨n-1,by omega⟩;have d1:w.cell? ⟨g,k*4+1,none⟩=some (.int .i64 (Yz:Int)):=by rw[←hrw];exact gQ 1 _ rfl
  have hz:((k:Int)+1==0)=false:=by simp;omega
  have hb15:Yz≤15:=by have:=ho.2.1;omega
  have w1:wrap64 ((Yz:Int)+1)=Yz+1:=wrap_in (by omega) (by omega);clear H hr hok hl hy gQ ho hrw h0 hcs hv hrr;go_enter Tryz.func120,Tryz.ntmps120;go_wp2_with fail
  go_quiet (fail)
  go_wp2_with fail
  first|go_ret|skip
  rw[←HQ.out];exact⟨rfl,aC (Below.refl _ _) _⟩
def Mx.lD (m:Mx)(a:Int):Mx:={ m with active:=a}
theorem rV {m:Mx}{b:Nat}(H:Has w0 w (m.star b++M))(a:Int):Has w0 (w.setCell ⟨b,2,none⟩ (.int .i64 a)) ((m.lD a).star b++M):=
 H.put 0 iU 2 _ (m.lD a).arr rfl
theorem Mx.ok.lD {m:Mx}{N:Nat}(h:m.ok N)(a:Int)(h0:0≤a)(h1:a≤16):(m.lD a).ok N:=⟨h.cells,h.few,h0,h1⟩
theorem JZ {m:Mx}{b N:Nat}(H:Has w0 w (m.star b++M))(hm:m.ok N)(hN:N≤1000000) :
 Calls Tryz.prog 126 #[.pointer (some ⟨b,0,none⟩)] w fun e w'=>e=.returned (.tuple #[])∧∃a:Int,(m.lD a).ok N∧Has w0 w' ((m.lD a).star b++M):=by
 refine named fun R HQ=>?_;obtain⟨a,ha⟩:∃a:Nat,m.active=a:=⟨m.active.toNat,by have:=hm.N8;omega⟩;have ha16:a≤16:=by have:=hm.N9;omega
 have c2:w.cell? ⟨b,2,none⟩=some (.int .i64 a):=by rw[aj (H.blk 0 iU),←ha];rfl
 have c3:w.frozen? ⟨b,2,none⟩=false:=aI (H.blk 0 iU) _;have w1:wrap64 ((a:Int)+1)=(a:Int)+1:=wrap_in (by omega) (by omega);have H1:=ah.mk (rV H ((a:Int)+1));have V8:=hm.rows;have RC:ah (∀g:GW (w.setCell ⟨b,2,none⟩ (.int .i64 ((a:Int)+1))),Calls Tryz.prog 120 #[.pointer (some ⟨b,0,none⟩)] g.W fun e w'=>e=.returned (.int .i64 (m.rows:Int))∧Below g.W.heap.size g.W w'):=⟨fun g=>rU (m:=m.lD ((a:Int)+1)) (H1.out.below g.h) hm.cells (Nat.le_trans hm.few hN)⟩;obtain⟨r,hr⟩:∃r,r=m.rows:=⟨_,rfl⟩;rw[←hr]at RC V8;have g2:∀g:GW (w.setCell ⟨b,2,none⟩ (.int .i64 ((a:Int)+1))),g.W.cell? ⟨b,2,none⟩=some (.int .i64 ((a:Int)+1)):=fun g=>g.cell (by rw[aj (H1.out.blk 0 iU)];rfl);have hsz:w.heap.size=(w.setCell ⟨b,2,none⟩ (.int .i64 ((a:Int)+1))).heap.size:=by simp[World.setCell]
 have HM:=ah.mk hm;clear H hm hr ha;go_enter Tryz.func126,Tryz.ntmps126;go_wp2_with fail
 refine eG (by kernel_rfl) (by kernel_rfl) ?_;repeat (go_big_quiet_step ((go_at_call 120;exact GW.calls (RC.out _))))
 refine wpQuiet_nil ?_;intro _ hw';obtain⟨g1,rfl⟩:=hw';have H2:=ah.mk (H1.out.below g1.h);by_cases hlt:a+1<r
 ·have e1:¬(r:Int)≤(a:Int)+1:=by omega
  clear c2 c3 g2;go_wp2_with fail
  first|go_end0|go_ret|skip
  rw[←HQ.out];exact⟨rfl,(a:Int)+1,HM.out.lD _ (by omega) (by omega),H2.out⟩
 ·have e1:(r:Int)≤(a:Int)+1:=by omega
  have z2:g1.W.cell? ⟨b,2,none⟩=some (.int .i64 ((a:Int)+1)):=g2 g1;have z3:g1.W.frozen? ⟨b,2,none⟩=false:=aI (H2.out.blk 0 iU) _;clear c2 c3 g2;go_wp2_with fail
  first|go_end0|go_ret|skip
  rw[←HQ.out];exact⟨rfl,0,HM.out.lD _ (by omega) (by omega),rV H2.out 0⟩
theorem OI (x:Ce)(id:Nat){p:Nat}(c0:w.cell? ⟨p,0,none⟩=some (.int .u32 (id:Int))) :
 Calls Tryz.prog 178 #[.agg (gu x).toArray,.pointer (some ⟨p,0,none⟩)] w fun e w'=>e=.returned (.bool ((x.id:Int)==(id:Int)))∧Below w.heap.size w w':=by
 refine named fun R HQ=>?_;have B:=ah.mk (au (Below.refl w.heap.size w) (.cells (gu x).toArray 203));have k0:∀o,(w.alloc o).cell? ⟨p,0,none⟩=some (.int .u32 (id:Int)):=fun o=>ak (au (Below.refl _ _) _) c0;obtain⟨i,r,s,o⟩:=x;unfold gu at B;unfold gu;clear c0;go_enter Tryz.func178,Tryz.ntmps178;go_wp2_with fail
 first|go_ret|skip
 rw[←HQ.out];exact⟨by simp,B.out⟩
theorem BK (x:Ce):(Tryz.prog.info? 203).map (·.size)=some (gu x).toArray.size:=by rw[show(gu x).toArray.size=4 from rfl];kernel_rfl
theorem OJ {A:Option Addr}{n c p:Nat}{l:List Ce}(id:Nat)(hr:bM w 4 gu (.slice A n c) l)(hn:n≤1000000)(c0:w.cell? ⟨p,0,none⟩=some (.int .u32 (id:Int))) :
 Calls Tryz.prog 177 #[.slice A n c,.func (.func 178) #[] #[.pointer (some ⟨p,0,none⟩)]] w fun e w'=>∃k:Int,e=.returned (.int .i64 k)∧((-1≤k∧k<n)∧(k = -1→∀x∈l,x.id≠id))∧Below w.heap.size w w':=by
 refine named fun R HQ=>?_;have HR:=ah.mk hr;have HL:=ah.mk hr.len;have C0:=ah.mk c0;have B0:=ah.mk (Below.refl w.heap.size w);clear hr c0;go_enter Tryz.func177,Tryz.ntmps177;go_wp2_with fail
 go_loopw [8] (fun i wr=>∃k:Nat,i=.int .i64 k∧k≤n∧ah (∀x∈l.take k,x.id≠id)∧ah (Below w.heap.size w wr)) (fun i _=>n-(intOf i).toNat)
 case atStart=>exact⟨0,rfl,Nat.zero_le _,⟨fun x hx=>by simp at hx⟩,B0⟩
 case round =>
  clear B0;obtain⟨k,rfl,hk,HT,HB⟩:=hrel;by_cases hlt:k<n
  ·obtain⟨y,hy⟩:∃y,l[k]?=some y:=⟨_,List.getElem?_eq_getElem (by rw[←HL.out];exact hlt)⟩;obtain⟨g,hA,gQ⟩:=(HR.out.below HB.out).get k y hy;subst hA;have HY:=ah.mk hy;have RX:=ah.mk gQ;obtain⟨bb,hbb⟩:∃b,b=((y.id:Int)==(id:Int)):=⟨_,rfl⟩;have IC:=ah.mk (OI (w:=wr) y id (ak HB.out C0.out));rw[←hbb]at IC;have HBB:=ah.mk hbb;clear hbb;have i203:=BK y;have e1:(k:Int)<n:=by omega
   obtain⟨cs,hcs⟩:∃cs,cs=(gu y).toArray:=⟨_,rfl⟩;have YU:ah (wr.rangeAt g (k*4) cs.toList):=⟨by rw[hcs];exact RX.out⟩;rw[←hcs]at IC i203;clear hy gQ RX hcs;go_wp2_with (first|(go_at_call 178;refine IC.out.mono ?_;rintro e w2 ⟨rfl,hb⟩;have H2:=ah.mk (ay HB.out HB.out.size hb);clear hb;refine ah.out ?_)|(refine aJ rfl 203 (.tmp 14) rfl g (k*4) rfl cs _ YU.out Tryz.underlying203 rfl i203 ?_))
   cases bb
   ·refine ah.mk ?_;go_wp2_with fail
    go_roundw
    case rel=>exact⟨k+1,rfl,by omega,⟨fun x hx=>by
     rw[jL HY.out]at hx;rcases List.mem_append.1 hx with h|h
     ·exact HT.out x h
     ·obtain rfl:=List.mem_singleton.1 h;intro e;have:=HBB.out;rw[e]at this;simp at this⟩,H2⟩
    case measure=>simp[intOf];omega
   ·refine ah.mk ?_;go_wp2_with fail
    first|go_ret|skip
    rw[←HQ.out];exact⟨k,rfl,⟨by omega,fun h=>by omega⟩,H2.out⟩
  ·have e1:¬(k:Int)<n:=by omega
   go_wp2_with fail
   first|go_ret|skip
   rw[←HQ.out];exact⟨-1,rfl,⟨by omega,fun _ x hx=>HT.out x (by rw[List.take_of_length_le (by have:=HL.out;omega)];exact hx)⟩,HB.out⟩
theorem BM {m:Mx}{b:Nat}(id:Nat)(H:Has w0 w (m.star b++M))(hfew:m.cells.length≤1000000) :
 Calls Tryz.prog 118 #[.pointer (some ⟨b,0,none⟩),.int .u32 (id:Int)] w fun e w'=>∃k:Int,e=.returned (.int .i64 k)∧((-1≤k∧k<m.cells.length)∧(k = -1→∀x∈m.cells,x.id≠id))∧Below w.heap.size w w':=by
 refine named fun R HQ=>?_;obtain⟨A,c,hv⟩:=ny H;have hr:=bI H 1 yT mP;have k1:∀o,(w.alloc o).cell? ⟨b,1,none⟩=some (.slice A m.cells.length c):=fun o=>ak (au (Below.refl _ _) _) (by rw[aj (H.blk 0 iU),←hv];rfl);rw[hv]at hr;have B:=au (Below.refl w.heap.size w) (.cells #[.int .u32 (id:Int)] 43);have IC:=ah.mk (OJ (p:=w.heap.size) id (hr.below B) hfew (by rw[aj (heap_alloc_new _ _)];rfl));have BB:=ah.mk B;clear H hr B hfew hv;go_enter Tryz.func118,Tryz.ntmps118;go_wp2_with (go_at_call 177;refine IC.out.mono ?_;rintro e w2 ⟨k,rfl,hk,hb⟩;have H2:=ah.mk (ay BB.out BB.out.size hb);have HK:=ah.mk hk;clear hb hk)
 first|go_ret|skip
 rw[←HQ.out];exact⟨k,rfl,HK.out,H2.out⟩
def Mx.setCells (m:Mx)(v:Value)(l:List Ce):Mx:={ m with cv:=v,cells:=l}
theorem uz {m:Mx}{b:Nat}{v:Value}{l:List Ce}(H:Has w0 w ((m.star b++M).set 1 (aT 203 4 gu v l))):Has w0 (w.setCell ⟨b,1,none⟩ v) ((m.setCells v l).star b++M):=
 H.put 0 rfl 1 v (m.setCells v l).arr rfl
theorem Mx.ok.setCells {m:Mx}{N K:Nat}(h:m.ok N)(v:Value){l:List Ce}(hl:∀x∈l,x.ok)(hk:l.length≤K):(m.setCells v l).ok K:=⟨hl,hk,h.N8,h.N9⟩
theorem DT {m:Mx}{b N:Nat}(H:Has w0 w (m.star b++M))(hm:m.ok N)(hN:N≤1000000)(id:Nat) :
 Calls Tryz.prog 70 #[.pointer (some ⟨b,0,none⟩),.int .u32 (id:Int)] w fun e w'=>∃(r:Int) (m':Mx),e=.returned (.int .i64 r)∧(m'.ok N∧((∃x∈m.cells,x.id=id)→m'.cells.length+1=m.cells.length))∧Has w0 w' (m'.star b++M):=by
 refine named fun R HQ=>?_;have HH:=ah.mk H;have HM:=ah.mk hm;have AC:=ah.mk (BM id H (Nat.le_trans hm.few hN));clear H hm;go_enter Tryz.func70,Tryz.ntmps70;go_wp2_with (go_at_call 118;refine AC.out.mono ?_;rintro e w2 ⟨k,rfl,hk,hb⟩;have H2:=ah.mk (HH.out.below hb);have HK:=ah.mk hk;clear hb hk;refine ah.out ?_)
 clear AC;by_cases h0:k<0
 ·refine ah.mk ?_;go_wp2_with fail
  first|go_ret|skip
  rw[←HQ.out];exact⟨4,m,rfl,⟨HM.out,fun⟨x,h1,h2⟩=>absurd h2 (HK.out.2 (by have:=HK.out.1.1;omega) x h1)⟩,H2.out⟩
 ·obtain⟨q,rfl⟩:∃q:Nat,k=q:=⟨k.toNat,by omega⟩;obtain⟨A,c,hv⟩:=ny H2.out;have c1:w2.cell? ⟨b,1,none⟩=some (.slice A m.cells.length c):=by rw[aj (H2.out.blk 0 iU),←hv];rfl
  have hq:q<m.cells.length:=by have:=HK.out.1.2;omega
  have DC:=ah.mk (Y5 (A:=A) (n:=m.cells.length) (c:=c) H2.out 1 (by rw[←hv];rfl) rfl q hq);have hv2:=ah.mk hv;clear hv;have hfew:m.cells.length≤N:=HM.out.few;have w1:wrap64 ((q:Int)+1)=(q:Int)+1:=wrap_in (by omega) (by omega);have g0:¬((q:Int)<0):=by omega
  refine ah.mk ?_;go_wp2_with (go_at_call 119;refine DC.out.mono ?_;rintro e w3 ⟨rfl,h3⟩;have H3:=ah.mk h3;clear h3;refine ah.out ?_)
  have z1:w3.cell? ⟨b,1,none⟩=some (.slice A m.cells.length c):=by rw[aj (H3.out.blk 0 rfl),←hv2.out];rfl
  have z2:w3.frozen? ⟨b,1,none⟩=false:=aI (H3.out.blk 0 rfl) _;obtain⟨m2,hm2⟩:∃m2,m2=m.setCells (.slice A (m.cells.length-1) c) (m.cells.eraseIdx q):=⟨_,rfl⟩;have H4:ah (Has w0 (w3.setCell ⟨b,1,none⟩ (.slice A (m.cells.length-1) c)) (m2.star b++M)):=⟨by rw[hm2];exact uz H3.out⟩;have eP:ah (m2.ok N):=⟨by rw[hm2];exact HM.out.setCells _ (fun x hx=>HM.out.cells x (List.mem_of_mem_eraseIdx hx)) (Nat.le_trans (List.length_eraseIdx_le _ _) HM.out.few)⟩;have LN2:ah (m2.cells.length+1=m.cells.length):=⟨by rw[hm2];show(m.cells.eraseIdx q).length+1=_;rw[List.length_eraseIdx_of_lt hq];omega⟩;obtain⟨a,ha⟩:∃a:Int,a=m2.active:=⟨_,rfl⟩;have RC:ah (∀g:GW (w3.setCell ⟨b,1,none⟩ (.slice A (m.cells.length-1) c)),Calls Tryz.prog 120 #[.pointer (some ⟨b,0,none⟩)] g.W fun e w'=>e=.returned (.int .i64 (m2.rows:Int))∧Below g.W.heap.size g.W w'):=⟨fun g=>rU (H4.out.below g.h) eP.out.cells (Nat.le_trans eP.out.few hN)⟩;obtain⟨r,hr⟩:∃r,r=m2.rows:=⟨_,rfl⟩;rw[←hr]at RC;have g2:∀g:GW (w3.setCell ⟨b,1,none⟩ (.slice A (m.cells.length-1) c)),g.W.cell? ⟨b,2,none⟩=some (.int .i64 a):=fun g=>g.cell (by rw[aj (H4.out.blk 0 iU),ha];rfl);clear c1 hm2 hr ha;refine ah.mk ?_;go_wp2_with fail
  refine eG (by kernel_rfl) (by kernel_rfl) ?_;repeat (go_big_quiet_step ((go_at_call 120;exact GW.calls (RC.out _))))
  refine wpQuiet_nil ?_;intro _ hw';obtain⟨g1,rfl⟩:=hw';have H5:=ah.mk (H4.out.below g1.h);by_cases hlt:a<(r:Int)
  ·have e1:¬(r:Int)≤a:=by omega
   clear z1 z2 g2;go_wp2_with fail
   first|go_end0|go_ret|skip
   rw[←HQ.out];exact⟨0,m2,rfl,⟨eP.out,fun _=>LN2.out⟩,H5.out⟩
  ·have e1:(r:Int)≤a:=by omega
   have y2:g1.W.cell? ⟨b,2,none⟩=some (.int .i64 a):=g2 g1;have y3:g1.W.frozen? ⟨b,2,none⟩=false:=aI (H5.out.blk 0 iU) _;clear z1 z2 g2;go_wp2_with fail
   first|go_end0|go_ret|skip
   rw[←HQ.out];exact⟨0,m2.lD 0,rfl,⟨eP.out.lD _ (by omega) (by omega),fun _=>LN2.out⟩,rV H5.out 0⟩
end
end
section
open Go.RowKit
theorem yU {α:Type}{L:List α}{i:Nat}{X:α}(hi:L[i]?=some X):L.set i X=L:=List.ext_getElem? fun q=>by
 rw[List.getElem?_set];split
 ·rename_i e
  subst e;split
  ·exact hi.symm
  ·rename_i h2
   rw[List.getElem?_eq_none (by omega)]at hi;cases hi
 ·rfl
section
variable {w0 w:World}{L:List bV}
theorem Nl {α:Type}{enc:α→List Value}{e sz:Nat}(hs:∀x,(enc x).length=sz)(H:Has w0 w L)(i:Nat){g c n:Nat}{l:List α}(hi:L[i]?=some (aT e sz enc (.slice (some ⟨g,0,none⟩) n c) l))(k:Nat)(x x':α)(hk:l[k]?=some x)(f:Nat)(hf:f<sz)(u:Value)(he:(enc x).set f u=enc x') :
 Has w0 (w.setCell ⟨g,k*sz+f,none⟩ u) (L.set i (aT e sz enc (.slice (some ⟨g,0,none⟩) n c) (l.set k x'))):=by
 obtain⟨F,⟨h1,h2⟩,h3,hgo⟩:=H.get i _ hi;have hF:F g:=h2 g rfl;refine hgo _ _ ⟨F,⟨⟨?_,?_⟩,h2⟩,(Touch.jS (qC w g (k*sz+f) u)).mono fun q _ e=>by cases e;exact hF,fun q hq=>⟨.inl hq,?_⟩⟩
 ·rw[kR hs]
 ·rcases h1.2 with⟨h0,_⟩|⟨g',cap,cur,hv,hb,hh,hn,hc,hs',ht⟩
  ·cases h0
  ·injection hv with e1 e2 e3;injection e1 with e1;injection e1 with e1;subst e1;refine .inr ⟨g,cap,cur.setIfInBounds (k*sz+f) u,by rw[e3,List.length_set,e2],hb,xg hh _ _,by simpa using hn,hc,by simpa using hs',?_⟩;rw[List.length_set,Array.toList_setIfInBounds,List.take_set,ht];exact xP hs l k x x' f u hk hf he
 ·rw[show(w.setCell ⟨g,_,none⟩ u).heap.size=w.heap.size by simp[World.setCell]];exact(h3 q hq).2
theorem Ko {α:Type}{enc:α→List Value}{e sz:Nat}(H:Has w0 w L)(i:Nat){g c n:Nat}{l:List α}(hi:L[i]?=some (aT e sz enc (.slice (some ⟨g,0,none⟩) n c) l))(k:Nat):w.frozen? ⟨g,k,none⟩=false:=by
 rcases(H.row i hi).2 with⟨h0,_⟩|⟨g',cap,cur,hv,_,hh,_⟩
 ·cases h0
 ·injection hv with e1 e2 e3;injection e1 with e1;injection e1 with e1;subst e1;exact aI hh k
theorem Kq (x y:Int)(w:World):Calls Tryz.prog 306 #[.int .u32 x,.int .u32 y] w fun e w'=>e=.returned (.bool (decide (x<y)))∧w'=w:=by
 go_enter Tryz.func306,Tryz.ntmps306;go_wp2_with (go_at_call 343;refine(qF _ _).mono ?_;rintro e w' ⟨rfl,hw⟩;obtain rfl:=hw.symm;clear hw)
 go_ret;exact⟨rfl,rfl⟩
theorem DU (H:Has w0 w L)(i:Nat){g n c:Nat}{l:List Nat}(hi:L[i]?=some (aT 43 1 fM (.slice (some ⟨g,0,none⟩) n c) l))(hn:n=l.length)(hn2:n≤12) :
 Calls Tryz.prog 300 #[.slice (some ⟨g,0,none⟩) n c,.int .i64 0,.int .i64 n] w fun e w'=>e=.returned (.tuple #[])∧∃l':List Nat,l'.length=n∧Has w0 w' (L.set i (aT 43 1 fM (.slice (some ⟨g,0,none⟩) n c) l')):=by
 refine named fun R HQ=>?_;have HI:=ah.mk (List.getElem?_eq_some_iff.1 hi).1;have H0:ah (∃l':List Nat,l'.length=n∧Has w0 w (L.set i (aT 43 1 fM (.slice (some ⟨g,0,none⟩) n c) l'))):=⟨l,hn.symm,by rw[yU hi];exact H⟩;have LS:=ah.mk Kq;clear H hi hn;go_enter Tryz.func300,Tryz.ntmps300;go_wp2_with fail
 go_loopw [6] (fun i' wr=>∃a:Nat,i'=.int .i64 (a:Int)∧1≤a∧ah (∃l':List Nat,l'.length=n∧Has w0 wr (L.set i (aT 43 1 fM (.slice (some ⟨g,0,none⟩) n c) l')))) (fun i' _=>13-(intOf i').toNat)
 case atStart=>exact⟨1,rfl,by omega,H0⟩
 case round =>
  clear H0;obtain⟨a,rfl,ha,HB⟩:=hrel;by_cases hlt:a<n
  ·have e1:(a:Int)<n:=by omega
   obtain⟨V,hV⟩:∃V,V=wr:=⟨_,rfl⟩;subst hV;go_wp2_with fail
   go_loopw [7] (fun j' wr=>∃b:Nat,j'=.int .i64 (b:Int)∧b≤a∧ah (∃l':List Nat,l'.length=n∧Has w0 wr (L.set i (aT 43 1 fM (.slice (some ⟨g,0,none⟩) n c) l')))) (fun j' _=>(intOf j').toNat)
   case atStart=>exact⟨a,rfl,Nat.le_refl _,HB⟩
   case round =>
    clear HB;obtain⟨b,rfl,hb,HB⟩:=hrel;obtain⟨l',hl',H⟩:=HB.out;by_cases h0:0<b
    ·obtain⟨x,hx⟩:∃x,l'[b]?=some x:=⟨_,List.getElem?_eq_getElem (by omega)⟩;obtain⟨d,rfl⟩:∃d,b=d+1:=⟨b-1,by omega⟩;obtain⟨y,hy⟩:∃y,l'[d]?=some y:=⟨_,List.getElem?_eq_getElem (by omega)⟩;have cx:wr.cell? ⟨g,d+1,none⟩=some (.int .u32 (x:Int)):=by
      have:=bW H i (List.getElem?_set_self HI.out) hl'.symm kS (d+1) x hx 0 _ rfl;simpa using this
     have cy:wr.cell? ⟨g,d,none⟩=some (.int .u32 (y:Int)):=by
      have:=bW H i (List.getElem?_set_self HI.out) hl'.symm kS d y hy 0 _ rfl;simpa using this
     have fz:∀k,wr.frozen? ⟨g,k,none⟩=false:=Ko H i (List.getElem?_set_self HI.out);have eb:(0:Int)<(d:Int)+1:=by omega
     have edn:(d:Int)+1<n:=by omega
     have edn2:(d:Int)<n:=by omega
     have w1:wrap64 ((d:Int)+1-1)=d:=by rw[show(d:Int)+1-1=d by omega];exact wrap_in (by omega) (by omega)
     go_wp2_with fail
     go_quiet ((go_at_call 306;exact Calls.quiet_of_same (LS.out _ _ _)))
     cases hd:decide (x<y)
     ·go_wp2_with fail
      go_roundw
      case rel=>exact⟨a+1,rfl,by omega,⟨l',hl',H.drewN _⟩⟩
      case measure=>simp[intOf];omega
     ·go_wp2_with fail
      go_region
      all_goals
       go_wp2_with fail
       go_roundw
       case rel =>
        have h1:=Nl kS (H.drewN (nq+1)) i (List.getElem?_set_self HI.out) (d+1) x y hx 0 (by omega) (.int .u32 (y:Int)) rfl;have hd2:(l'.set (d+1) y)[d]?=some y:=by rw[List.getElem?_set_ne (by omega)];exact hy
        have h2:=Nl kS h1 i (by rw[List.getElem?_set_self (by simpa using HI.out)]) d y x hd2 0 (by omega) (.int .u32 (x:Int)) rfl;refine⟨d,rfl,by omega,⟨(l'.set (d+1) y).set d x,by simpa using hl',?_⟩⟩;simpa using h2
       case measure=>simp[intOf]
    ·obtain rfl:b=0:=by omega
     go_wp2_with fail
     go_quiet (fail)
     go_wp2_with fail
     go_roundw
     case rel=>exact⟨a+1,rfl,by omega,⟨l',hl',H.drewN _⟩⟩
     case measure=>simp[intOf];omega
  ·have e1:¬(a:Int)<n:=by omega
   go_wp2_with fail
   first|go_end0|go_ret|skip
   rw[←HQ.out];exact⟨rfl,HB.out⟩
theorem Un (A:Option Addr)(c:Nat):Calls Tryz.prog 300 #[.slice A 0 c,.int .i64 0,.int .i64 0] w fun e w'=>e=.returned (.tuple #[])∧w'=w:=by
 refine named fun R HQ=>?_;go_enter Tryz.func300,Tryz.ntmps300;go_wp2_with fail
 refine wp_loop_rounds 1 ?_;rw[rounds_succ];go_wp2_with fail
 first|go_end0|go_ret|skip
 rw[←HQ.out];exact⟨rfl,rfl⟩
theorem OL {A:Option Addr}{n c:Nat}{Q:World→Prop}(XK:Calls Tryz.prog 300 #[.slice A n c,.int .i64 0,.int .i64 n] w fun e w'=>e=.returned (.tuple #[])∧Q w')(hn2:n≤12)(k:Int) :
 Calls Tryz.prog 256 #[.slice A n c,.int .i64 0,.int .i64 n,.int .i64 k] w fun e w'=>e=.returned (.tuple #[])∧Q w':=by
 refine named fun R HQ=>?_;have IS:=ah.mk XK;have w1:wrap64 ((n:Int))=n:=wrap_in (by omega) (by omega);have e1:(n:Int)≤12:=by omega
 clear XK;go_enter Tryz.func256,Tryz.ntmps256;go_wp2_with fail
 refine wp_loop_rounds 1 ?_;rw[rounds_succ];go_wp2_with (go_at_call 300;refine IS.out.mono ?_;rintro e w2 ⟨rfl,h⟩;have H2:=ah.mk h;clear h)
 first|go_end0|go_ret|skip
 rw[←HQ.out];exact⟨rfl,H2.out⟩
theorem Np {A:Option Addr}{n c:Nat}{Q:World→Prop}(XK:Calls Tryz.prog 300 #[.slice A n c,.int .i64 0,.int .i64 n] w fun e w'=>e=.returned (.tuple #[])∧Q w')(hn2:n≤12) :
 Calls Tryz.prog 211 #[.slice A n c] w fun e w'=>e=.returned (.tuple #[])∧Q w':=by
 refine named fun R HQ=>?_;have PD:=ah.mk (OL XK hn2);have BL:=ah.mk (fun W=>Tryz.bits_Len (n:Int) W (by omega) (by omega));have w1:IntKind.u64.wrap (n:Int)=n:=by rw[IntKind.wrap_u64];omega
 clear XK;go_enter Tryz.func211,Tryz.ntmps211;go_wp2_with (first|(go_at_call 256;refine(PD.out _).mono ?_;rintro e w2 ⟨rfl,h⟩;have H2:=ah.mk h;clear h)|(go_at_call 257;refine(BL.out _).mono ?_;rintro e w' ⟨rfl,hw⟩;obtain rfl:=hw.symm;clear hw))
 first|go_end0|go_ret|skip
 rw[←HQ.out];exact⟨rfl,H2.out⟩
theorem Gz (H:Has w0 w L)(i:Nat){A:Option Addr}{n c:Nat}{l:List Nat}(hi:L[i]?=some (aT 43 1 fM (.slice A n c) l))(hn:n=l.length)(hn2:n≤12) :
 Calls Tryz.prog 211 #[.slice A n c] w fun e w'=>e=.returned (.tuple #[])∧∃l':List Nat,l'.length=n∧Has w0 w' (L.set i (aT 43 1 fM (.slice A n c) l')):=by
 by_cases h0:n=0
 ·subst h0;refine Np ((Un A c).mono fun e w' ⟨h1,h2⟩=>⟨h1,l,hn.symm,?_⟩) hn2;rw[h2,yU hi];exact H
 ·obtain⟨g,rfl,_⟩:=dD H i hi hn.symm (by omega);exact Np (DU H i hi hn hn2) hn2
end
end
section
open Go.RowKit Go.Sort Go.Lib Go.Shelf
instance :Inhabited Ce:=⟨⟨0,0,0,0⟩⟩
def WX (x y:Ce):Int:=zu (Lib.compareInt x.row y.row) (Lib.compareInt x.start y.start)
theorem Kt (x y:Ce):WX x y<0↔x.row<y.row∨(x.row=y.row∧x.start<y.start):=by
 unfold WX zu Lib.compareInt;repeat' split
 all_goals omega
theorem Zk:SWO (ltOf WX) where
 irrefl x:=by simp only[ltOf,decide_eq_false_iff_not,Kt];omega
 trans x y z h1 h2:=by simp only[ltOf,decide_eq_true_eq,Kt]at *;omega
 ntrans x y z h1 h2:=by simp only[ltOf,decide_eq_false_iff_not,Kt]at *;omega
section
variable {w:World}
theorem OM {g c:Nat}(x y:Int)(c0:w.cell? ⟨g,0,none⟩=some (.int .i64 x))(c1:w.cell? ⟨g,1,none⟩=some (.int .i64 y)) :
 Calls Tryz.prog 248 #[.slice (some ⟨g,0,none⟩) 2 c] w fun e w'=>e=.returned (.int .i64 (zu x y))∧w'=w:=by
 refine named fun R HQ=>?_;by_cases hx:x=0
 ·subst hx;by_cases hy:y=0
  ·subst hy;go_enter Tryz.func248,Tryz.ntmps248;go_wp2_with fail
   refine wp_loop_rounds 3 ?_;iterate 3
    rw[rounds_succ];go_wp2_with fail
   first|go_ret|skip
   rw[←HQ.out];exact⟨rfl,rfl⟩
  ·have hy2:(y != 0)=true:=by simpa using hy
   have e:zu 0 y=y:=rfl;rw[e]at HQ;clear hy e;go_enter Tryz.func248,Tryz.ntmps248;go_wp2_with fail
   refine wp_loop_rounds 2 ?_;iterate 2
    rw[rounds_succ];go_wp2_with fail
   first|go_ret|skip
   rw[←HQ.out];exact⟨rfl,rfl⟩
 ·have hx2:(x != 0)=true:=by simpa using hx
  have e:zu x y=x:=by unfold zu;rw[if_neg hx]
  rw[e]at HQ;clear hx e;go_enter Tryz.func248,Tryz.ntmps248;go_wp2_with fail
  refine wp_loop_rounds 1 ?_;rw[rounds_succ];go_wp2_with fail
  first|go_ret|skip
  rw[←HQ.out];exact⟨rfl,rfl⟩
theorem Ku (x y:Ce)(W:World):Calls Tryz.prog 247 #[.agg (gu x).toArray,.agg (gu y).toArray] W fun e w'=>e=.returned (.int .i64 (WX x y))∧∃q os',w'=Sort.grow (W.drewN q) os':=by
 refine named fun R HQ=>?_;obtain⟨xi,xr,xs,xo⟩:=x;obtain⟨yi,yr,ys,yo⟩:=y;have C1:=ah.mk fun V=>Tryz.cmp_Compare_int xr yr V;have C2:=ah.mk fun V=>Tryz.cmp_Compare_int xs ys V;unfold WX at HQ;simp only at HQ;obtain⟨a,ha⟩:∃a,a=Lib.compareInt xr yr:=⟨_,rfl⟩;obtain⟨b,hb⟩:∃b,b=Lib.compareInt xs ys:=⟨_,rfl⟩;rw[←ha]at C1 HQ;rw[←hb]at C2 HQ;clear ha hb;unfold gu;simp only;go_enter Tryz.func247,Tryz.ntmps247;go_wp2_with fail
 obtain⟨V,hV⟩:∃V,V=(W.alloc (.cells #[.int .u32 xi,.int .i64 xr,.int .i64 xs,.int .i64 xo] 203)).alloc (.cells #[.int .u32 yi,.int .i64 yr,.int .i64 ys,.int .i64 yo] 203):=⟨_,rfl⟩;rw[←hV];have d1:V.cell? ⟨W.heap.size,1,none⟩=some (.int .i64 xr):=by rw[hV,aj ((heap_alloc_old _ _ (by simp)).trans (heap_alloc_new _ _))];rfl
 have d2:V.cell? ⟨W.heap.size,2,none⟩=some (.int .i64 xs):=by rw[hV,aj ((heap_alloc_old _ _ (by simp)).trans (heap_alloc_new _ _))];rfl
 have e1:V.cell? ⟨W.heap.size+1,1,none⟩=some (.int .i64 yr):=by rw[hV,aj (heap_alloc2_new _ _ _)];rfl
 have e2:V.cell? ⟨W.heap.size+1,2,none⟩=some (.int .i64 ys):=by rw[hV,aj (heap_alloc2_new _ _ _)];rfl
 have HV:=ah.mk hV;clear hV;refine wp_region_still_tail 12 (by kernel_rfl) (by kernel_rfl) ?_;simp only[List.take_succ_cons,List.take_zero,List.drop_succ_cons,List.drop_zero];repeat still_step
 still_call (C1.out _)
 repeat still_step
 still_call (C2.out _)
 repeat still_step
 refine wpStill_nil ?_;change wpList _ _ _ _ _ (World.drew V);have OC:ah (∀cp,Calls Tryz.prog 248 #[.slice (some ⟨V.heap.size,0,none⟩) 2 cp] (V.drew.alloc (.cells #[.int .i64 a,.int .i64 b] 3)) fun e w'=>e=.returned (.int .i64 (zu a b))∧w'=V.drew.alloc (.cells #[.int .i64 a,.int .i64 b] 3)):=⟨fun cp=>OM a b (by rw[show V.heap.size=V.drew.heap.size from rfl,aj (heap_alloc_new _ _)];rfl) (by rw[show V.heap.size=V.drew.heap.size from rfl,aj (heap_alloc_new _ _)];rfl)⟩;go_wp2_with (go_at_call 248;refine(OC.out _).mono ?_;rintro e w' ⟨rfl,hw⟩;have HF:=ah.mk hw;clear hw)
 first|go_ret|skip
 rw[←HQ.out];have hw:w'=(((W.alloc (.cells #[.int .u32 xi,.int .i64 xr,.int .i64 xs,.int .i64 xo] 203)).alloc (.cells #[.int .u32 yi,.int .i64 yr,.int .i64 ys,.int .i64 yo] 203)).drew).alloc (.cells #[.int .i64 a,.int .i64 b] 3):=by rw[HF.out,HV.out]
 exact⟨rfl,1,_,hw.trans (Qp W _ _ _)⟩
end
section
variable {w0 w:World}{L M:List bV}
theorem wW (H:Has w0 w L)(i:Nat){A:Option Addr}{n c:Nat}{ks:List Ce}(hi:L[i]?=some (aT 203 4 gu (.slice A n c) ks))(hn:n=ks.length)(hn2:n≤1000000) :
 Calls Tryz.prog 246 #[.slice A n c,.func (.func 247) #[] #[]] w fun e w'=>e=.returned (.tuple #[])∧∃ks':List Ce,(∀k,k∈ks'↔k∈ks)∧ks'.length=n∧Has w0 w' (L.set i (aT 203 4 gu (.slice A n c) ks')):=by
 rcases Nat.eq_zero_or_pos n with h0|h0
 ·subst h0;have hks:ks=[]:=List.eq_nil_of_length_eq_zero hn.symm;subst hks;have hcon:=AnyF.slices_SortFunc_none Tryz.AP A c (.func (.func 247) #[] #[]) w;change Calls Tryz.prog 246 _ _ _ at hcon;refine hcon.mono fun e w' ⟨he,hw⟩=>⟨he,[],fun k=>Iff.rfl,rfl,?_⟩;rw[hw,yU hi];exact H
 ·obtain⟨g,rfl,_⟩:=dD H i hi hn.symm h0;obtain⟨hH,hb,hgo⟩:=FP (enc:=gu) (by decide) mP H i hi hn;have eg:∀args w,(callFunc 247 args).run Tryz.prog w=.ok (.enter 247 args) w:=enters_of Tryz.func247 (by kernel_rfl) rfl;have hcon:=AnyQ.slices_SortFunc Tryz.AP 4 Tryz.isAgg203 Tryz.sizeOf203 gu mP (fun x v hv=>Gg x v hv) WX Zk 247 #[] g 0 c ks.toArray w eg (fun m os dk hs x y=>Ku x y _) hH hb (by simp;omega);change Calls Tryz.prog 246 _ _ _ at hcon;rw[show ks.toArray.size=n by simp[hn]]at hcon;refine hcon.mono fun e w' ⟨he,d',m,os,hp,_,hw⟩=>?_;rw[show n=ks.toArray.size by simp[hn]]at hp;obtain⟨hp1,hp2⟩:=MF hp;refine⟨he,d'.toList,fun k=>by simpa using hp1.mem_iff (a:=k),by simpa[hn]using hp2,?_⟩;rw[hw];exact hgo d'.toList m os (by simpa using hp2)
theorem Mx.iy (m:Mx)(l:List Ce){b:Nat}:(m.star b++M).set 1 (aT 203 4 gu m.cv l)=(m.setCells m.cv l).star b++M:=rfl
theorem GH {m:Mx}{b:Nat}(H:Has w0 w (m.star b++M))(hfew:m.cells.length≤1000000) :
 Calls Tryz.prog 203 #[.pointer (some ⟨b,0,none⟩)] w fun e w'=>e=.returned (.tuple #[])∧∃l:List Ce,(∀k,k∈l↔k∈m.cells)∧l.length=m.cells.length∧Has w0 w' ((m.setCells m.cv l).star b++M):=by
 refine named fun R HQ=>?_;obtain⟨A,c,hv⟩:=ny H;have c1:w.cell? ⟨b,1,none⟩=some (.slice A m.cells.length c):=by rw[aj (H.blk 0 iU),←hv];rfl
 have SC:=ah.mk (wW (A:=A) (n:=m.cells.length) (c:=c) H 1 (by rw[←hv];rfl) rfl hfew);have HV:=ah.mk hv;clear H hv hfew;go_enter Tryz.func203,Tryz.ntmps203;go_wp2_with (go_at_call 246;refine SC.out.mono ?_;rintro e w2 ⟨rfl,ks,hk,hl,h⟩;have H2:=ah.mk h;have HK:=ah.mk (And.intro hk hl);clear h hk hl)
 first|go_end0|go_ret|skip
 rw[←HQ.out];refine⟨rfl,ks,HK.out.1,HK.out.2,?_⟩;rw[←Mx.iy,HV.out];exact H2.out
end
end
section
open Go.RowKit
section
variable {w0 w:World}{M:List bV}
theorem QX {w:World}{b:Nat}{t:TypeId}{cs:Array Value}(h:w.heap[b]?=some (.cells cs t (0,0))):∀W,(∃g:GW w,W=g.W)→W.rangeAt b 0 cs.toList:=fun W ⟨g,e⟩=>by
 subst e;exact bT (aX h 0 cs.toList (fun i v h=>by simpa using h)) g.h
theorem Kv {m:Mx}{b:Nat}(H:Has w0 w (m.star b++M))(hok:∀x∈m.cells,x.ok)(hfew:m.cells.length≤1000000)(r:Int) :
 Calls Tryz.prog 200 #[.pointer (some ⟨b,0,none⟩),.int .i64 r] w fun e w'=>∃k:Nat,e=.returned (.agg (aW k))∧k<256∧Below w.heap.size w w':=by
 refine named fun R HQ=>?_;obtain⟨A,c,hv⟩:=ny H;have c1:∀o o2,((w.alloc o).alloc o2).cell? ⟨b,1,none⟩=some (.slice A m.cells.length c):=fun o o2=>ak (au (au (Below.refl _ _) _) _) (by rw[aj (H.blk 0 iU),←hv];rfl);have hr:=bI H 1 yT mP;rw[hv]at hr;have HR:=ah.mk hr;obtain⟨cells,hcs⟩:∃l,l=m.cells:=⟨_,rfl⟩;rw[←hcs]at c1 HR hok hfew;obtain⟨n,hl⟩:∃n,n=cells.length:=⟨_,rfl⟩;rw[←hl]at c1 HR hfew;have HL:=ah.mk hl;have HO:=ah.mk hok;have H0:=ah.mk (((Has.start w).bg (.cells (aW 0) 283)).bg (.cells (aW 0) 283));have hz1:(w.alloc (.cells (aW 0) 283)).heap.size=w.heap.size+1:=by simp
 rw[hz1]at H0;clear H hr hok hcs hl hv hz1;go_enter Tryz.func200,Tryz.ntmps200;go_wp2_with fail
 clear c1;go_loopw [13] (fun i wr=>∃k:Nat,i=.int .i64 (k:Int)∧k≤n∧ah (∃q,q<256∧Has w wr [aF w.heap.size (.cells (aW 0) 283),aF (w.heap.size+1) (.cells (aW q) 283)])) (fun i _=>n-(intOf i).toNat)
 case atStart=>exact⟨0,rfl,Nat.zero_le _,⟨0,by omega,H0.out⟩⟩
 case round =>
  clear H0;obtain⟨k,rfl,hk,HB⟩:=hrel;obtain⟨q,hq,HB⟩:=HB.out;have HB:=ah.mk HB;have QY:=ah.mk hq;clear hq;by_cases hlt:k<n
  ·obtain⟨y,hy⟩:∃y,cells[k]?=some y:=⟨_,List.getElem?_eq_getElem (by have:=HL.out;omega)⟩;obtain⟨g,hA,gQ⟩:=(HR.out.below HB.out.old).get k y hy;subst hA;obtain⟨yo,ys,h1,h2,h3,h4⟩:=(HO.out y (List.mem_of_getElem? hy)).2.2;obtain⟨yi,yr,y1,y2⟩:=y;simp only at h1 h2;subst h1 h2;have RX:=ah.mk gQ;have H1:=ah.mk (HB.out.bg (.cells (gu ⟨yi,yr,(ys:Int),(yo:Int)⟩).toArray 203));unfold gu at RX H1;have e1:(k:Int)<n:=by omega
   clear hy gQ;have HS:=ah.mk (And.intro h3 h4);clear h3 h4;have lx:wr.rangeAt g (k*4) [.int .u32 yi,.int .i64 yr,.int .i64 (ys:Int),.int .i64 (yo:Int)]:=RX.out;have l0:wr.cell? ⟨g,k*4,none⟩=some (.int .u32 yi):=by have:=lx 0 _ rfl;simpa using this
   have l1:wr.cell? ⟨g,k*4+1,none⟩=some (.int .i64 yr):=lx 1 _ rfl;have l2:wr.cell? ⟨g,k*4+2,none⟩=some (.int .i64 (ys:Int)):=lx 2 _ rfl;have l3:wr.cell? ⟨g,k*4+3,none⟩=some (.int .i64 (yo:Int)):=lx 3 _ rfl;clear lx RX;by_cases hrr:yr=r
   ·have e2:(yr==r)=true:=by simpa using hrr
    clear hrr;go_wp2_with fail
    obtain⟨W,hW⟩:∃W,W=wr.alloc (.cells #[.int .u32 yi,.int .i64 yr,.int .i64 (ys:Int),.int .i64 (yo:Int)] 203):=⟨_,rfl⟩;obtain⟨NB,jH⟩:∃v,v=wr.heap.size:=⟨_,rfl⟩;have H2:ah (Has w W [aF w.heap.size (.cells (aW 0) 283),aF (w.heap.size+1) (.cells (aW q) 283),aF NB (.cells #[.int .u32 yi,.int .i64 yr,.int .i64 (ys:Int),.int .i64 (yo:Int)] 203)]):=⟨by rw[hW,jH];exact H1.out⟩;rw[←hW,←jH];clear hW jH H1 l0 l1 l2 l3 HB;have CF:=uZ q ys yo QY.out HS.out.1 HS.out.2;obtain⟨k2,hk2⟩:∃k2,k2=mk ys (2^yo):=⟨_,rfl⟩;have OF:=ah.mk fun V=>vg ys yo HS.out.2 HS.out.1 V;rw[←hk2]at CF OF;obtain⟨k3,hk3⟩:∃k3,k3=q|||k2:=⟨_,rfl⟩;rw[←hk3]at CF;have OR:=ah.mk fun V=>BJ q k2 k3 CF.2.1 V;have Zl:=ah.mk CF.2.2.1;have g2:∀g:GW W,g.W.cell? ⟨NB,2,none⟩=some (.int .i64 (ys:Int)):=fun g=>g.cell (by rw[aj (H2.out.blk 2 rfl)];rfl);have g3:∀g:GW W,g.W.cell? ⟨NB,3,none⟩=some (.int .i64 (yo:Int)):=fun g=>g.cell (by rw[aj (H2.out.blk 2 rfl)];rfl);have RQ:=ah.mk (QX (H2.out.blk 1 rfl));have oJ:=jB q;have XL:=jB k3;clear CF hk2 hk3 e2;refine qY 5 (by kernel_rfl) (by kernel_rfl) ?_;simp only[List.take_succ_cons,List.take_zero,List.drop_succ_cons,List.drop_zero];repeat (first|(refine gW (by rfl) 283 _ rfl (w.heap.size+1) 0 rfl (aW q) _ RQ.out Tryz.underlying283 rfl oJ _ rfl ?_;simp only[Act.put,List.setIfInBounds_toArray,List.set_cons_succ,List.set_cons_zero])|go_big_quiet_step (first|((go_at_call 210;exact GW.calls (OR.out _)))|((go_at_call 202;exact GW.calls (OF.out _)))))
    refine wpQuiet_nil ?_;intro _ hw';obtain⟨g1,rfl⟩:=hw';have H3:=ah.mk (H2.out.below g1.h);have BX:=ah.mk (H3.out.blk 1 rfl);clear g2 g3;go_wp2_with (refine aY rfl 283 (.tmp 5) (.tmp 25) rfl (w.heap.size+1) (aW k3) rfl rfl 283 _ BX.out XL rfl (kW k3) ?_)
    go_roundw
    case rel=>exact⟨k+1,rfl,by omega,⟨k3,Zl.out,Has.first (M:=[_]) (H3.out.putRow 1 rfl (aW k3))⟩⟩
    case measure=>simp[intOf];omega
   ·have e2:(yr==r)=false:=by simpa using hrr
    clear hrr;go_wp2_with fail
    go_roundw
    case rel=>exact⟨k+1,rfl,by omega,⟨q,QY.out,Has.first (M:=[_]) H1.out⟩⟩
    case measure=>simp[intOf];omega
  ·have e1:¬(k:Int)<n:=by omega
   have RX:ah (wr.rangeAt (w.heap.size+1) 0 (aW q).toList):=⟨aX (HB.out.blk 1 rfl) 0 _ fun i v h=>by simpa using h⟩;have BX:=ah.mk (HB.out.blk 0 rfl);have oJ:=jB q;go_wp2_with (first|(refine aY rfl 283 (.tmp 4) (.tmp 27) rfl w.heap.size (aW q) rfl rfl 283 _ BX.out oJ rfl (kW q) ?_)|(refine aJ rfl 283 (.tmp 5) rfl (w.heap.size+1) 0 rfl (aW q) _ RX.out Tryz.underlying283 rfl oJ ?_))
   have hg:=setRow_heap wr w.heap.size _ (aW q) 283 (0,0) BX.out;refine bodyPost_ret (results_cell_row rfl _ _ w.heap.size 283 (aW q) (0,0) _ (by rfl) hg Tryz.underlying283 rfl (by kernel_rfl)) rfl ?_;rw[←HQ.out];exact⟨q,rfl,QY.out,below_setRow HB.out.old (Nat.le_refl _) _⟩
end
end
end Go.Proofs.YtandhagfhppgaaaGreatDoor
