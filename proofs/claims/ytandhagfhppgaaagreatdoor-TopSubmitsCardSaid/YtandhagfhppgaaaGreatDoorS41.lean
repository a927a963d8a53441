/- Part 41 of a proof: contracts of the functions that the law reaches. No condition. -/
import Derived.Test.YtandhagfhppgaaaGreatDoorS18
import Derived.Test.YtandhagfhppgaaaGreatDoorS26
import Derived.Test.YtandhagfhppgaaaGreatDoorS36
import Derived.Test.YtandhagfhppgaaaGreatDoorS37
import Derived.Test.YtandhagfhppgaaaGreatDoorS38
import Derived.Test.YtandhagfhppgaaaGreatDoorS39
set_option linter.all false
set_option maxRecDepth 100000
set_option maxHeartbeats 16000000
namespace Go.Proofs.YtandhagfhppgaaaGreatDoor
section
open Go.RowKit
section
variable {w0 w:World}{M:List bW}
theorem JR {m:Mx}{b N:Nat}(H:Has w0 w (m.star b++M))(hm:m.ok N)(hN:N≤900000) :
 Calls Tryz.prog 147 #[.pointer (some ⟨b,0,none⟩)] w fun e w'=>∃(A:Option Addr) (n c:Nat) (ids:List Nat),e=.returned (.slice A n c)∧(n=ids.length∧n≤12)∧Has w w' [aV 43 1 fO (.slice A n c) ids]:=by
 refine named fun R HQ=>?_;have HM:=ah.mk hm;have hfew:=hm.few;obtain⟨rr,hrr⟩:∃r,r=m.rows:=⟨_,rfl⟩;have VX:=hm.rows;rw[←hrr]at VX;have HS:=ah.mk H;have H0:ah (Has w (w.alloc (.cells (aW 0) 283)) [aV 43 1 fO (.slice none 0 0) [],aF w.heap.size (.cells (aW 0) 283)]):=⟨((Has.start w).nilRow 43 1 fO).aZ (.cells (aW 0) 283)⟩;have RC:=ah.mk (rF (HS.out.below H0.out.old) hm.cells (by omega));rw[←hrr]at RC;clear H hm hrr;go_enter Tryz.func147,Tryz.ntmps147;go_wp2_with (go_at_call 120;refine RC.out.mono ?_;rintro e w2 ⟨rfl,hb⟩;have H2:=ah.mk (H0.out.below hb);clear hb)
 clear RC H0;go_loopw [16,3] (fun i v wr=>∃(k n c:Nat) (A:Option Addr),i=.int .i64 (k:Int)∧v=.slice A n c∧k≤rr∧ah (∃(q:Nat) (ids:List Nat),q<256∧n=ids.length∧n≤yF q∧Has w wr [aV 43 1 fO (.slice A n c) ids,aF w.heap.size (.cells (aW q) 283)])) (fun i v _=>rr-(intOf i).toNat)
 case atStart=>exact⟨0,0,0,none,rfl,rfl,Nat.zero_le _,⟨0,[],by omega,rfl,by simp[yF],H2.out⟩⟩
 case round =>
  clear H2;obtain⟨k,n,c,A,rfl,rfl,hk,HB⟩:=hrel;obtain⟨V0,hV0⟩:∃v,v=wr:=⟨_,rfl⟩;subst hV0;by_cases hlt:k<rr
  ·obtain⟨q0,Zv,hq0,hn0,hp0,H2⟩:=HB.out;clear hp0;obtain⟨a,ha⟩:∃a:Nat,m.active=a:=⟨m.active.toNat,by have:=HM.out.Nz;omega⟩;have ha16:a≤16:=by have:=HM.out.ND;omega
   obtain⟨A1,cc,hv⟩:=mG HS.out;obtain⟨N1,hN1⟩:∃n,n=m.cells.length:=⟨_,rfl⟩;rw[←hN1]at hv hfew;have c1:V0.cell? ⟨b,1,none⟩=some (.slice A1 N1 cc):=by rw[aj ((HS.out.below H2.old).blk 0 iM),←hv];rfl
   have c2:V0.cell? ⟨b,2,none⟩=some (.int .i64 (a:Int)):=by rw[aj ((HS.out.below H2.old).blk 0 iM),←ha];rfl
   have e1:(k:Int)<rr:=by omega
   have w1:wrap64 ((a:Int)+k)=(a:Int)+k:=wrap_in (by omega) (by omega);have HV:=ah.mk (And.intro hv hN1);have HB0:=ah.mk H2;have rz:(rr:Int)≠0:=Int.natCast_ne_zero.2 (Nat.ne_of_gt (Nat.lt_of_le_of_lt (Nat.zero_le _) hlt));obtain⟨row,hrow⟩:∃row:Nat,row=(a+k)%rr:=⟨_,rfl⟩;clear H2 hv hN1 ha hq0 hn0 hrow;go_wp2_with fail
   clear c1 c2;go_loopw [32,3] (fun i v wr=>∃(d n c:Nat) (A:Option Addr),i=.int .i64 (d:Int)∧v=.slice A n c∧d≤N1∧ah (∃(q:Nat) (ids:List Nat),q<256∧n=ids.length∧n≤yF q∧Has w wr [aV 43 1 fO (.slice A n c) ids,aF w.heap.size (.cells (aW q) 283)])) (fun i v _=>N1-(intOf i).toNat)
   case atStart=>exact⟨0,n,c,A,rfl,rfl,Nat.zero_le _,HB⟩
   case round =>
    clear HB HB0;obtain⟨d,n,c,A,rfl,rfl,hd,HB⟩:=hrel;by_cases hlt2:d<N1
    ·have e2:(d:Int)<N1:=by omega
     obtain⟨q,ids,hq,hn,hp,H2⟩:=HB.out;have QC:=ah.mk (And.intro hq (And.intro hn hp));clear hq hn hp;obtain⟨y,hy⟩:∃y,m.cells[d]?=some y:=⟨_,List.getElem?_eq_getElem (by have:=HV.out.2;omega)⟩;have hrd:=bK (HS.out.below H2.old) 1 yH lW;rw[HV.out.1]at hrd;obtain⟨g,hA,gK⟩:=hrd.get d y hy;subst hA;obtain⟨yo,ys,h1,h2,h3,h4⟩:=(HM.out.cells y (List.mem_of_getElem? hy)).2.2;obtain⟨yi,yr,y1,y2⟩:=y;simp only at h1 h2;subst h1 h2;have lx:wr.rangeAt g (d*4) [.int .u32 yi,.int .i64 yr,.int .i64 (ys:Int),.int .i64 (yo:Int)]:=gK;have l0:wr.cell? ⟨g,d*4,none⟩=some (.int .u32 yi):=by have:=lx 0 _ rfl;simpa using this
     have l1:wr.cell? ⟨g,d*4+1,none⟩=some (.int .i64 yr):=lx 1 _ rfl;have l2:wr.cell? ⟨g,d*4+2,none⟩=some (.int .i64 (ys:Int)):=lx 2 _ rfl;have l3:wr.cell? ⟨g,d*4+3,none⟩=some (.int .i64 (yo:Int)):=lx 3 _ rfl;have H3:=ah.mk (H2.aZ (.cells #[.int .u32 (yi:Int),.int .i64 yr,.int .i64 (ys:Int),.int .i64 (yo:Int)] 203));have HB1:=ah.mk H2;have CF:=uS q ys yo QC.out.1 h3 h4;have OF:=ah.mk fun V=>uT ys yo h4 h3 V;obtain⟨x,hx⟩:∃x,x=mk ys (2^yo):=⟨_,rfl⟩;rw[←hx]at CF OF;obtain⟨x1,hx1⟩:∃v,v=q&&&x:=⟨_,rfl⟩;obtain⟨x2,hx2⟩:∃v,v=q|||x:=⟨_,rfl⟩;rw[←hx1,←hx2]at CF;have MC:=ah.mk fun V=>tY q x x1 CF.1 V;have OC:=ah.mk fun V=>AZ q x x2 CF.2.1 V;obtain⟨bm,hbm⟩:∃bm,bm=decide (x1≠0):=⟨_,rfl⟩;rw[←hbm]at MC;have HC:=ah.mk (show(bm=false→yF q+1≤yF x2)∧x2<256 from⟨fun h=>CF.2.2.2 (by rw[h]at hbm;simpa using hbm.symm),CF.2.2.1⟩);have iq:=jm q;have ix:=jm x;have ix2:=jm x2;clear hy hrd gK lx H2 CF hx hx1 hx2 hbm h3 h4 HB;go_wp2_with (first|(have _t:=H4.out;clear _t;refine aB (w:=w4) w4.heap.size rfl rfl 283 (.tmp 10) (.tmp 38) rfl (aW x) rfl rfl 283 _ ix rfl (kM x) ?_;refine ah.out ?_)|(go_at_call 202;refine(OF.out _).mono ?_;rintro e w4 ⟨rfl,hb⟩;have H4:=ah.mk (H3.out.below hb);clear hb))
     obtain⟨NB,jw⟩:∃v,v=wr.heap.size:=⟨_,rfl⟩;obtain⟨NX,Zw⟩:∃v,v=w4.heap.size:=⟨_,rfl⟩;obtain⟨W5,oM⟩:∃v,v=w4.alloc (.cells (aW x) 283):=⟨_,rfl⟩;have H5:ah (Has w W5 ([aV 43 1 fO (.slice A n c) ids,aF w.heap.size (.cells (aW q) 283),aF NB (.cells #[.int .u32 (yi:Int),.int .i64 yr,.int .i64 (ys:Int),.int .i64 (yo:Int)] 203),aF NX (.cells (aW x) 283)])):=⟨by rw[oM,jw,Zw];have:=H4.out.aZ (.cells (aW x) 283);simp only[List.append_assoc,List.cons_append,List.nil_append]at this;exact this⟩;rw[←oM,←jw,←Zw];clear oM jw Zw H3 H4 HB1 l0 l1 l2 l3 OF;have v0:W5.cell? ⟨NB,0,none⟩=some (.int .u32 (yi:Int)):=by rw[aj (H5.out.blk 2 rfl)];rfl
     have v1:W5.cell? ⟨NB,1,none⟩=some (.int .i64 yr):=by rw[aj (H5.out.blk 2 rfl)];rfl
     have RB:ah (W5.rangeAt w.heap.size 0 (aW q).toList):=⟨aX (H5.out.blk 1 rfl) 0 _ fun i v h=>by simpa using h⟩;have RX:ah (W5.rangeAt NX 0 (aW x).toList):=⟨aX (H5.out.blk 3 rfl) 0 _ fun i v h=>by simpa using h⟩;have back:ah (∀W,Has w W ([aV 43 1 fO (.slice A n c) ids,aF w.heap.size (.cells (aW q) 283),aF NB (.cells #[.int .u32 (yi:Int),.int .i64 yr,.int .i64 (ys:Int),.int .i64 (yo:Int)] 203),aF NX (.cells (aW x) 283)])→Has w W ([aV 43 1 fO (.slice A n c) ids,aF w.heap.size (.cells (aW q) 283)])):=⟨fun W h=>Has.first (M:=[aF NB (.cells #[.int .u32 (yi:Int),.int .i64 yr,.int .i64 (ys:Int),.int .i64 (yo:Int)] 203),aF NX (.cells (aW x) 283)]) (by simp only[List.append_assoc,List.cons_append,List.nil_append];exact h)⟩;cases hd1:(yr==((a:Int)+k)%rr)
     ·refine ah.mk ?_;go_wp2_with fail
      go_roundw
      case rel=>exact⟨d+1,n,c,A,rfl,rfl,by omega,⟨q,ids,QC.out.1,QC.out.2.1,QC.out.2.2,back.out _ H5.out⟩⟩
      case measure=>simp[intOf];omega
     ·refine ah.mk ?_;go_wp2_with (first|(go_at_call 201;refine(MC.out _).mono ?_;rintro e w6 ⟨rfl,hb⟩;have H6:=ah.mk (H5.out.below hb);clear hb;refine ah.out ?_)|(refine iy (by rfl) 283 (.tmp 10) rfl NX 0 rfl (aW x) _ RX.out Tryz.underlying283 rfl ix ?_)|(refine iy (by rfl) 283 (.tmp 4) rfl w.heap.size 0 rfl (aW q) _ RB.out Tryz.underlying283 rfl iq ?_))
      cases bm
      ·have RB6:ah (w6.rangeAt w.heap.size 0 (aW q).toList):=⟨aX (H6.out.blk 1 rfl) 0 _ fun i v h=>by simpa using h⟩;have RX6:ah (w6.rangeAt NX 0 (aW x).toList):=⟨aX (H6.out.blk 3 rfl) 0 _ fun i v h=>by simpa using h⟩;clear v0 v1 RB RX H5 MC;refine ah.mk ?_;go_wp2_with (first|(at_builtin;have _t:=H8.out;clear _t;refine dn 132 (.tmp 52) (.tmp 55) rfl rfl H8.out 0 rfl n QC.out.2.1 Tryz.underlying132 Ci (by decide) (Nat.le_trans (Nat.le_trans QC.out.2.2 (MN q)) (by decide)) rfl rfl (yi:Nat) _ rfl rfl (by simp[Value.oneCell']) ?_;intro A9 c9 w9 h9;have H9:=ah.mk h9;clear h9;refine ah.out ?_)|(have _t:=H7.out;clear _t;refine aY rfl 283 (.tmp 4) (.tmp 51) rfl w.heap.size (aW x2) rfl rfl 283 _ (H7.out.blk 1 rfl) ix2 rfl (kM x2) ?_;have H8p:=H7.out.putRow 1 rfl (aW x2);have H8:=ah.mk H8p;clear H8p H7;obtain⟨w8,hw8⟩:∃v,v=w7.setRow w.heap.size (aW x2):=⟨_,rfl⟩;rw[←hw8]at H8 ⊢;clear hw8;have v8:w8.cell? ⟨NB,0,none⟩=some (.int .u32 (yi:Int)):=by rw[aj (H8.out.blk 2 rfl)];rfl)|(go_at_call 210;refine(OC.out _).mono ?_;rintro e w7 ⟨rfl,hb⟩;have H7:=ah.mk (H6.out.below hb);clear hb)|(refine aI rfl 283 (.tmp 10) rfl NX 0 rfl (aW x) _ RX6.out Tryz.underlying283 rfl ix ?_)|(refine aI rfl 283 (.tmp 4) rfl w.heap.size 0 rfl (aW q) _ RB6.out Tryz.underlying283 rfl iq ?_))
       have HE:ah (Has w w9 ([aV 43 1 fO (.slice A9 (n+1) c9) (ids++[yi]),aF w.heap.size (.cells (aW x2) 283)])):=⟨by
        have:=H9.out;refine Has.first (M:=[aF NB (.cells #[.int .u32 (yi:Int),.int .i64 yr,.int .i64 (ys:Int),.int .i64 (yo:Int)] 203),aF NX (.cells (aW x) 283)]) ?_;simp only[List.append_assoc,List.cons_append,List.nil_append];exact this⟩
       clear H8 H9 H6 v8;refine ah.mk ?_;go_wp2_with fail
       go_roundw
       case rel=>exact⟨d+1,n+1,c9,A9,rfl,rfl,by omega,⟨x2,ids++[yi],HC.out.2,by rw[List.length_append,List.length_singleton,←QC.out.2.1],Nat.le_trans (Nat.succ_le_succ QC.out.2.2) (HC.out.1 trivial),HE.out⟩⟩
       case measure=>simp[intOf];omega
      ·refine ah.mk ?_;go_wp2_with fail
       go_roundw
       case rel=>exact⟨d+1,n,c,A,rfl,rfl,by omega,⟨q,ids,QC.out.1,QC.out.2.1,QC.out.2.2,back.out _ H6.out⟩⟩
       case measure=>simp[intOf];omega
    ·have e2:¬(d:Int)<N1:=by omega
     have w2:wrap64 ((k:Int)+1)=(k:Int)+1:=wrap_in (by omega) (by omega);go_wp2_with fail
     go_roundw
     case rel=>exact⟨k+1,n,c,A,rfl,rfl,by omega,HB⟩
     case measure=>simp[intOf];omega
  ·have e1:¬(k:Int)<rr:=by omega
   obtain⟨q0,Zv,hq0,hn0,hp0,H2⟩:=HB.out;have n8:n≤12:=Nat.le_trans (Nat.le_trans hp0 (MN q0)) (by decide);clear hp0;have SU:=ah.mk (Gm (A:=A) (n:=n) (c:=c) H2 0 rfl hn0 n8);clear H2 HB hq0 hn0;go_wp2_with (go_at_call 211;refine SU.out.mono ?_;rintro e w3 ⟨rfl,l',hl',h⟩;have H3:=ah.mk h;have HL:=ah.mk hl';clear h hl')
   first|go_ret|skip
   rw[←HQ.out];refine⟨A,n,c,l',rfl,⟨HL.out.symm,n8⟩,?_⟩;have:=H3.out;refine Has.first (M:=[aF w.heap.size (.cells (aW q0) 283)]) ?_;simp only[List.append_assoc,List.cons_append,List.nil_append];exact this
end
end
section
open Go.RowKit Go.ChangeMaps
theorem Gq {js:List J}{i:Nat}{j j':J}(hij:js[i]?=some j)(h0:j.on=true)(h1:j'.on=true):Ae (js.set i j')=Ae js:=by
 have h:=uI hij j';rw[h0,h1]at h;simp only[if_true]at h;omega
section
variable {w0 w:World}
theorem Ua {a:qR}{pol now:Int}{js:List J}{bk:List Ch}{y:Yd}{m:Mx}{M:List bW}{N:Nat}(H:Has w0 w (CL a pol now js bk y m++M))(hm:m.ok N)(hN:N≤900000) :
 Calls Tryz.prog 147 #[.pointer (some ⟨a.mb,0,none⟩)] w fun e w'=>∃(A:Option Addr) (n c:Nat) (ids:List Nat),e=.returned (.slice A n c)∧(n=ids.length∧n≤12)∧Has w w' [aV 43 1 fO (.slice A n c) ids]:=by
 obtain⟨RR,hop,hback⟩:=H.opened 13 (m.star a.mb) rfl;exact JR hop hm hN
theorem zM {M:List bW}{a:qR}{y:Yd}{m:Mx}{now:Nat}{js:List J}{bk:List Ch}{N:Nat}(H:Has w0 w (CL a 4 now js bk y m++M))(hm:m.ok N)(hN:N≤800000)(G:dL now js bk)(dB:now≤10000) :
 Calls Tryz.prog 88 #[.pointer (some ⟨a.x,0,none⟩)] w fun e w'=>e=.returned (.tuple #[])∧∃bI,(Turned now js bI∧Ae bI=Ae js)∧Has w0 w' (CL a 4 now bI bk y m++M):=by
 refine named fun R HQ=>?_;have hlen:=G.len;have H1:ah (Has w0 (w.alloc (.map #[] 0)) (CL a 4 now js bk y m++mapA w.heap.size (Value.int .u32) []::M)):=⟨(H.jW (Value.int .u32)).ins (CL a 4 now js bk y m) M⟩;have f15:=(kN (M:=mapA w.heap.size (Value.int .u32) []::M) H1.out).1;have mr0:=(kN (M:=mapA w.heap.size (Value.int .u32) []::M) H1.out).2;have RU:=ah.mk (Ua (M:=mapA w.heap.size (Value.int .u32) []::M) H1.out hm (by omega));have GG:=ah.mk G;have hmm:=@run_makeMap Tryz.prog;clear H hm G;go_enter Tryz.func88,Tryz.ntmps88;go_wp2_with fail
 refine wp_loop_rounds 2 ?_;rw[rounds_succ];go_wp2_with (go_at_call 147;refine RU.out.mono ?_;rintro e w2 ⟨A2,n2,c2,ids,rfl,⟨hn2,hn12⟩,h2⟩;have H2:ah (Has w0 w2 (CL a 4 now js bk y m++mapA w.heap.size (Value.int .u32) []::aV 43 1 fO (.slice A2 n2 c2) ids::M)):=⟨Has.ins (CL a 4 now js bk y m++[mapA w.heap.size (Value.int .u32) []]) M (H1.out.more h2)⟩;have HN:=ah.mk hn2;clear h2 hn2;refine ah.out ?_)
 clear RU H1 f15 mr0;refine ah.mk ?_;go_wp2_with fail
 go_loopw [22] (fun i wr=>∃p:Nat,i=.int .i64 (p:Int)∧p≤n2∧ah (∃l,qg l∧Has w0 wr (CL a 4 now js bk y m++mapA w.heap.size (Value.int .u32) l::aV 43 1 fO (.slice A2 n2 c2) ids::M))) (fun i _=>n2-(intOf i).toNat)
 case atStart=>exact⟨0,rfl,Nat.zero_le _,⟨[],(fun p hp=>absurd hp List.not_mem_nil),H2.out⟩⟩
 case round =>
  clear H2;obtain⟨p,rfl,hp,HB⟩:=hrel;obtain⟨l,hl,H3⟩:=HB.out;by_cases hlt:p<n2
  ·obtain⟨u,hu⟩:∃u,ids[p]?=some u:=⟨_,List.getElem?_eq_getElem (by rw[←HN.out];exact hlt)⟩;obtain⟨g,hA,hur⟩:=(bK H3 15 rfl kJ).get p u hu;subst hA;have e1:(p:Int)<n2:=by omega
   have c0:wr.cell? ⟨g,p,none⟩=some (.int .u32 (u:Int)):=by have:=hur 0 _ rfl;simpa using this
   obtain⟨w4,hr4,h4⟩:=run_store (P:=Tryz.prog) (gI .u32) H3 14 rfl 162 43 4 Tryz.underlying162 Tryz.underlying43 (u:Int) (.bool true);have H4:=ah.mk h4;have HL:=ah.mk hl;have w1:wrap64 ((p:Int)+1)=(p:Int)+1:=wrap_in (by omega) (by omega);clear h4 hl H3 HB hu hur;go_wp2_with fail
   go_roundw
   case rel=>exact⟨p+1,rfl,by omega,⟨store l (u:Int) (.bool true),vV HL.out _ _,H4.out⟩⟩
   case measure=>simp[intOf];omega
  ·have e1:¬(p:Int)<n2:=by omega
   have AC:=ah.mk (jV H3 0 1 2 rfl rfl rfl rfl rfl (by omega));have HL:=ah.mk hl;clear hl H3 HB;go_wp2_with fail
   rw[rounds_succ];go_wp2_with (go_at_call 61;refine AC.out.mono ?_;rintro e w5 ⟨A5,c5,rfl,h5⟩;have H5:ah (Has w0 w5 (CL a 4 now js bk y m++mapA w.heap.size (Value.int .u32) l::aV 43 1 fO (.slice A2 n2 c2) ids::aS (.slice A5 js.length c5) js::M)):=⟨Has.ins (CL a 4 now js bk y m++[mapA w.heap.size (Value.int .u32) l,aV 43 1 fO (.slice A2 n2 c2) ids]) M h5⟩;clear h5)
   clear AC;go_loopw [33] (fun i wr=>∃p:Nat,i=.int .i64 (p:Int)∧p≤js.length∧ah (∃bI,(Turned now js bI∧bI.length=js.length∧(∀q,p≤q→bI[q]?=js[q]?)∧Ae bI=Ae js)∧Has w0 wr (CL a 4 now bI bk y m++mapA w.heap.size (Value.int .u32) l::aV 43 1 fO (.slice A2 n2 c2) ids::aS (.slice A5 js.length c5) js::M))) (fun i _=>js.length-(intOf i).toNat)
   case atStart=>exact⟨0,rfl,Nat.zero_le _,⟨js,⟨.refl,rfl,fun _ _=>rfl,rfl⟩,H5.out⟩⟩
   case round =>
    clear H5;obtain⟨p,rfl,hp,HB⟩:=hrel;obtain⟨bI,ht,H5⟩:=HB.out;have H5:=ah.mk H5;have HT:=ah.mk ht;clear HB ht;have w1:wrap64 ((p:Int)+1)=(p:Int)+1:=wrap_in (by omega) (by omega);by_cases hlt:p<js.length
    ·obtain⟨j,hj⟩:∃j,js[p]?=some j:=⟨_,List.getElem?_eq_getElem hlt⟩;have JO:=ah.mk (GG.out.jobs p j hj);have HJ:=ah.mk (And.intro hj (show bI[p]?=some j by rw[HT.out.2.2.1 p (Nat.le_refl _)];exact hj));obtain⟨gj,hA,hjr⟩:=(fF H5.out 16 rfl).get p j hj;subst hA;have RJ:ah (wr.rangeAt gj (p*26) j.cells.toList):=⟨hjr⟩;have H6:=ah.mk (H5.out.aZ (.cells j.cells 55));have j55:=eP j;have e1:(p:Int)<js.length:=by omega
     obtain⟨bb,hbb⟩:=yB HL.out ((p:Int)+1);clear hj hjr;go_wp2_with (first|(refine aI rfl 55 (.tmp 36) rfl gj (p*26) rfl j.cells _ RJ.out Tryz.underlying55 rfl j55 ?_)|(refine aI rfl 55 (.tmp 35) rfl gj (p*26) rfl j.cells _ RJ.out Tryz.underlying55 rfl j55 ?_)|(refine aB wr.heap.size rfl rfl 55 (.tmp 8) (.tmp 36) rfl j.cells rfl rfl 55 _ j55 rfl j.one ?_;refine ah.out ?_))
     obtain⟨W6,vM⟩:∃v,v=wr.alloc (.cells j.cells 55):=⟨_,rfl⟩;obtain⟨NJ,wH⟩:∃v,v=wr.heap.size:=⟨_,rfl⟩;have H6:ah (Has w0 W6 (CL a 4 now bI bk y m++mapA w.heap.size (Value.int .u32) l::aV 43 1 fO (.slice A2 n2 c2) ids::aS (.slice (some ⟨gj,0,none⟩) js.length c5) js::aF NJ (.cells j.cells 55)::M)):=⟨by rw[vM,wH];exact Has.ins (CL a 4 now bI bk y m++[mapA w.heap.size (Value.int .u32) l,aV 43 1 fO (.slice A2 n2 c2) ids,aS (.slice (some ⟨gj,0,none⟩) js.length c5) js]) M H6.out⟩;rw[←vM,←wH];clear vM wH H5 RJ j55;have v19:W6.cell? ⟨NJ,19,none⟩=some (.int .i64 j.how):=by rw[aj (H6.out.blk 17 rfl)];exact j.lT
     have v0:W6.cell? ⟨NJ,0,none⟩=some (.int .u32 ((p:Int)+1)):=by rw[aj (H6.out.blk 17 rfl),j.o7,JO.out.id];rfl
     have LK:(Instr.lookup 162 (.map (some w.heap.size)) (.int .u32 ((p:Int)+1)) false).run Tryz.prog W6=.ok (.bool bb) W6:=by
      have:=dR (P:=Tryz.prog) (gI .u32) H6.out 14 rfl 162 43 4 Tryz.underlying162 Tryz.underlying43 (.bool false) rfl ((p:Int)+1) false;rw[hbb]at this;exact this
     clear hbb;obtain⟨h,hh⟩:∃v,v=j.how:=⟨_,rfl⟩;rw[←hh]at v19;have HH:=ah.mk hh;clear hh;cases h3:(h==3)
     ·cases h4:(h==4)
      ·refine ah.mk ?_;go_wp2_with fail
       go_roundw
       case rel=>exact⟨p+1,rfl,by omega,⟨bI,⟨HT.out.1,HT.out.2.1,fun q hq=>HT.out.2.2.1 q (by omega),HT.out.2.2.2⟩,Has.cut (CL a 4 now bI bk y m++[mapA w.heap.size (Value.int .u32) l,aV 43 1 fO (.slice A2 n2 c2) ids,aS (.slice (some ⟨gj,0,none⟩) js.length c5) js]) M H6.out⟩⟩
       case measure=>simp[intOf];omega
      ·cases bb
       ·refine ah.mk ?_;go_wp2_with fail
        go_roundw
        case rel=>exact⟨p+1,rfl,by omega,⟨bI,⟨HT.out.1,HT.out.2.1,fun q hq=>HT.out.2.2.1 q (by omega),HT.out.2.2.2⟩,Has.cut (CL a 4 now bI bk y m++[mapA w.heap.size (Value.int .u32) l,aV 43 1 fO (.slice A2 n2 c2) ids,aS (.slice (some ⟨gj,0,none⟩) js.length c5) js]) M H6.out⟩⟩
        case measure=>simp[intOf];omega
       ·skip
        have hw:j.how=4:=HH.out.symm.trans (by simpa using h4);obtain⟨g0,qj⟩:=jl (M:=mapA w.heap.size (Value.int .u32) l::aV 43 1 fO (.slice A2 n2 c2) ids::aS (.slice (some ⟨gj,0,none⟩) js.length c5) js::aF NJ (.cells j.cells 55)::M) H6.out HJ.out.2;have SC:ah (Calls Tryz.prog 149 #[.pointer (some ⟨a.p,0,none⟩),.int .u32 ((p:Int)+1),.int .i64 (now:Int)] W6.drew fun e w'=>e=.returned (.int .i64 0)∧Has w0 w' (CL a 4 now (bI.set p { { j with started:=now} with how:=3}) bk y m++mapA w.heap.size (Value.int .u32) l::aV 43 1 fO (.slice A2 n2 c2) ids::aS (.slice (some ⟨gj,0,none⟩) js.length c5) js::M)):=⟨(Dp H6.out.drew 1 2 (g:=g0) (n:=bI.length) (c:=a.jc) rfl (by rw[←qj];rfl) (by rw[←qj];rfl) (by rw[HT.out.2.1];omega) p j HJ.out.2 (now:Int) JO.out.since JO.out.started (by omega)).mono fun e w' h=>h.elim (fun h=>⟨h.2.1,by rw[mD,qj];exact Has.cut ((CL a 4 now bI bk y m).set 2 (aS (.slice (some ⟨g0,0,none⟩) bI.length a.jc) _)++[mapA w.heap.size (Value.int .u32) l,aV 43 1 fO (.slice A2 n2 c2) ids,aS (.slice (some ⟨gj,0,none⟩) js.length c5) js]) M h.2.2⟩) (fun h=>absurd hw h.1)⟩;have HG:W6.drew.cell? ⟨a.x,13,none⟩=some (.pointer (some ⟨a.p,0,none⟩))∧W6.drew.cell? ⟨a.x,12,none⟩=some (.int .i64 (now:Int))∧W6.drew.cell? ⟨NJ,0,none⟩=some (.int .u32 ((p:Int)+1))∧True:=⟨by rw[aj (H6.out.drew.blk 0 rfl)];rfl,by rw[aj (H6.out.drew.blk 0 rfl)];rfl,v0,trivial⟩;have HW:=ah.mk hw;clear qj hw;refine ah.mk ?_;go_wp2_with fail
        refine aK (fun W=>W.cell? ⟨a.x,13,none⟩=some (.pointer (some ⟨a.p,0,none⟩))∧W.cell? ⟨a.x,12,none⟩=some (.int .i64 (now:Int))∧W.cell? ⟨NJ,0,none⟩=some (.int .u32 ((p:Int)+1))∧True) 10 (by kernel_rfl) (by kernel_rfl) ?_;refine bg 0 HG ?_;refine bg 1 HG ?_;refine bg 2 HG ?_;refine bg 3 HG ?_;refine bg 4 HG ?_;refine bg 5 HG ?_;refine bg 6 HG ?_;refine bg 7 HG ?_;refine bg 8 HG ?_;refine bg 9 HG ?_;refine aO (by kernel_rfl) ?_;simp only[List.drop_succ_cons,List.drop_zero];clear HG v0 v19 LK;go_wp2_with (go_at_call 149;refine SC.out.mono ?_;rintro e w7 ⟨rfl,h7⟩;have H7:=ah.mk h7;clear h7)
        go_roundw
        case rel=>exact⟨p+1,rfl,by omega,⟨_,⟨.resume p j HJ.out.2 HW.out HT.out.1,by rw[List.length_set];exact HT.out.2.1,fun q hq=>by rw[List.getElem?_set_ne (by omega)];exact HT.out.2.2.1 q (by omega),(Gq HJ.out.2 (by simp[J.on,HW.out]) rfl).trans HT.out.2.2.2⟩,H7.out⟩⟩
        case measure=>simp[intOf];omega
     ·cases bb
      ·skip
       have hw:j.how=3:=HH.out.symm.trans (by simpa using h3);obtain⟨g0,qj⟩:=jl (M:=mapA w.heap.size (Value.int .u32) l::aV 43 1 fO (.slice A2 n2 c2) ids::aS (.slice (some ⟨gj,0,none⟩) js.length c5) js::aF NJ (.cells j.cells 55)::M) H6.out HJ.out.2;have SC:ah (Calls Tryz.prog 148 #[.pointer (some ⟨a.p,0,none⟩),.int .u32 ((p:Int)+1),.int .i64 (now:Int)] W6.drew fun e w'=>e=.returned (.int .i64 0)∧Has w0 w' (CL a 4 now (bI.set p { j.till now with how:=4}) bk y m++mapA w.heap.size (Value.int .u32) l::aV 43 1 fO (.slice A2 n2 c2) ids::aS (.slice (some ⟨gj,0,none⟩) js.length c5) js::M)):=⟨(zI H6.out.drew 1 2 (g:=g0) (n:=bI.length) (c:=a.jc) rfl (by rw[←qj];rfl) (by rw[←qj];rfl) (by rw[HT.out.2.1];omega) p j HJ.out.2 (now:Int) JO.out.since JO.out.started (by omega) JO.out.fV JO.out.rY (by have:=JO.out.ran;omega)).mono fun e w' h=>h.elim (fun h=>⟨h.2.1,by rw[mD,qj];exact Has.cut ((CL a 4 now bI bk y m).set 2 (aS (.slice (some ⟨g0,0,none⟩) bI.length a.jc) _)++[mapA w.heap.size (Value.int .u32) l,aV 43 1 fO (.slice A2 n2 c2) ids,aS (.slice (some ⟨gj,0,none⟩) js.length c5) js]) M h.2.2⟩) (fun h=>absurd hw h.1)⟩;have HG:W6.drew.cell? ⟨a.x,13,none⟩=some (.pointer (some ⟨a.p,0,none⟩))∧W6.drew.cell? ⟨a.x,12,none⟩=some (.int .i64 (now:Int))∧W6.drew.cell? ⟨NJ,0,none⟩=some (.int .u32 ((p:Int)+1))∧True:=⟨by rw[aj (H6.out.drew.blk 0 rfl)];rfl,by rw[aj (H6.out.drew.blk 0 rfl)];rfl,v0,trivial⟩;have HW:=ah.mk hw;clear qj hw;refine ah.mk ?_;go_wp2_with fail
       refine aK (fun W=>W.cell? ⟨a.x,13,none⟩=some (.pointer (some ⟨a.p,0,none⟩))∧W.cell? ⟨a.x,12,none⟩=some (.int .i64 (now:Int))∧W.cell? ⟨NJ,0,none⟩=some (.int .u32 ((p:Int)+1))∧True) 10 (by kernel_rfl) (by kernel_rfl) ?_;refine bg 0 HG ?_;refine bg 1 HG ?_;refine bg 2 HG ?_;refine bg 3 HG ?_;refine bg 4 HG ?_;refine bg 5 HG ?_;refine bg 6 HG ?_;refine bg 7 HG ?_;refine bg 8 HG ?_;refine bg 9 HG ?_;refine aO (by kernel_rfl) ?_;simp only[List.drop_succ_cons,List.drop_zero];clear HG v0 v19 LK;go_wp2_with (go_at_call 148;refine SC.out.mono ?_;rintro e w7 ⟨rfl,h7⟩;have H7:=ah.mk h7;clear h7)
       go_roundw
       case rel=>exact⟨p+1,rfl,by omega,⟨_,⟨.suspend p j HJ.out.2 HW.out HT.out.1,by rw[List.length_set];exact HT.out.2.1,fun q hq=>by rw[List.getElem?_set_ne (by omega)];exact HT.out.2.2.1 q (by omega),(Gq HJ.out.2 (by simp[J.on,HW.out]) rfl).trans HT.out.2.2.2⟩,H7.out⟩⟩
       case measure=>simp[intOf];omega
      ·have h4:(h==4)=false:=by rw[show h=3 from by simpa using h3];rfl
       refine ah.mk ?_;go_wp2_with fail
       go_roundw
       case rel=>exact⟨p+1,rfl,by omega,⟨bI,⟨HT.out.1,HT.out.2.1,fun q hq=>HT.out.2.2.1 q (by omega),HT.out.2.2.2⟩,Has.cut (CL a 4 now bI bk y m++[mapA w.heap.size (Value.int .u32) l,aV 43 1 fO (.slice A2 n2 c2) ids,aS (.slice (some ⟨gj,0,none⟩) js.length c5) js]) M H6.out⟩⟩
       case measure=>simp[intOf];omega
    ·have e1:¬(p:Int)<js.length:=by omega
     go_wp2_with fail
     first|go_end0|go_ret|skip
     rw[←HQ.out];exact⟨rfl,bI,⟨HT.out.1,HT.out.2.2.2⟩,Has.cut (CL a 4 now bI bk y m) M (Has.cut (CL a 4 now bI bk y m++[mapA w.heap.size (Value.int .u32) l]) M (Has.cut (CL a 4 now bI bk y m++[mapA w.heap.size (Value.int .u32) l,aV 43 1 fO (.slice A2 n2 c2) ids]) M H5.out))⟩
end
end
section
open Go.RowKit Go.ChangeMaps
section
variable {w0 w:World}
theorem dF.Dn {M:List bW}{x:Nat}{pol now:Int}{js:List J}{bk:List Ch}{fl:List Int}{k:Nat}(h:dF M w0 w x pol now js bk fl k):w.cell? ⟨x,0,none⟩=some (.int .i64 pol):=h.st.Dn
theorem Dy {M:List bW}{x:Nat}{pol:Int}{now:Nat}{js:List J}{bk:List Ch}{fl:List Int}{k:Nat}(hS:dF M w0 w x pol now js bk fl k)(dP:pol=1∨pol=2∨pol=3)(G:dL now js bk)(dB:now≤10000)(hk:k≤1000) :
 Calls Tryz.prog 49 #[.pointer (some ⟨x,0,none⟩)] w fun e w'=>e=.returned (.tuple #[])∧∃bI,qc now js bI∧dF M w0 w' x pol now bI bk fl k:=by
 refine named fun R HQ=>?_;obtain⟨a,y,m,rfl,ku,hy,hm,H⟩:=hS;have hlen:=G.len;have AC:=ah.mk (jV H 0 1 2 rfl rfl rfl rfl rfl (by omega));have OK:=ah.mk (And.intro ku (And.intro hy hm));have GG:=ah.mk G;have SA:(pol==4)=false:=by rcases dP with h|h|h<;>subst h<;>decide
 have HP:=ah.mk (And.intro dP SA);have hmm:=@run_makeMap Tryz.prog;clear ku hy hm H G dP SA;go_enter Tryz.func49,Tryz.ntmps49;go_wp2_with (go_at_call 61;refine AC.out.mono ?_;rintro e w1 ⟨A1,c1,rfl,h1⟩;have H1:ah (Has w0 w1 (CL a pol now js bk y m++aS (.slice A1 js.length c1) js::M)):=⟨h1.ins (CL a pol now js bk y m) M⟩;clear h1;refine ah.out ?_)
 have R1:=ah.mk (fF H1.out 14 rfl);have WN:=ah.mk (sO R1.out (fun k j hk=>⟨(GG.out.jobs k j hk).id,(GG.out.jobs k j hk).Nv,(GG.out.jobs k j hk).Nw⟩) (by omega));refine ah.mk ?_;go_wp2_with (go_at_call 84;refine WN.out.mono ?_;rintro e w2 ⟨A2,c2,rfl,hb⟩;have H2:=ah.mk (H1.out.below hb);clear hb;refine ah.out ?_)
 clear AC WN R1 H1;have H3:ah (Has w0 (w2.alloc (.map #[] 0)) (CL a pol now js bk y m++mapA w2.heap.size (Value.int .u32) []::M)):=⟨((Has.cut (CL a pol now js bk y m) M H2.out).jW (Value.int .u32)).ins (CL a pol now js bk y m) M⟩;have f9:(w2.alloc (.map #[] 0)).cell? ⟨a.x,9,none⟩=some (.slice (some ⟨a.xp,0,none⟩) 1 a.NG):=by rw[aj (H3.out.blk 0 rfl)];rfl
 obtain⟨v4,w4,hr4,h4⟩:=yj (P:=Tryz.prog) H3.out 14 rfl 162 43 4 0 Tryz.underlying162;have CR:=ah.mk hr4;have S4:ah (dF M w0 w4 a.x pol now js bk fl k):=⟨a,y,m,rfl,OK.out.1,OK.out.2.1,OK.out.2.2,Has.cut (CL a pol now js bk y m) M h4⟩;clear hr4 h4 H2 H3 OK;refine ah.mk ?_;go_wp2_with fail
 refine wp_loop_rounds 1 ?_;rw[rounds_succ];go_wp2_with fail
 refine wp_loop_rounds 2 ?_;rw[rounds_succ];go_wp2_with (refine yu rfl _ 162 rfl _ rfl CR.out ?_;dsimp only[Act.put])
 clear f9 CR;go_loopw [] (fun wr=>∃yN,ah (qc now js yN)∧ah (dF M w0 wr a.x pol now yN bk fl k)) (fun wr=>Gl a.x wr)
 case atStart=>exact⟨js,⟨.refl js⟩,S4⟩
 case round =>
  clear S4;obtain⟨yN,HB,S5⟩:=hrel;have GA:=ah.mk fun W (h:dF M w0 W a.x pol now yN bk fl k)=>jE (w:=W) (x:=a.x) pol h.Dn;rw[HP.out.2]at GA;have ST:ah (Calls Tryz.prog 87 #[.pointer (some ⟨a.x,0,none⟩),.int .i64 0] wr fun e w'=>∃b:Bool,e=.returned (.bool b)∧((b=false∧dF M w0 w' a.x pol now yN bk fl k)∨(b=true∧∃jH,qc now js jH∧waits jH<waits yN∧dF M w0 w' a.x pol now jH bk fl k))):=⟨(zN S5.out HP.out.1 (HB.out.sane GG.out).1 dB hk).mono fun e w' h=>by
   rcases h with⟨h1,h2⟩|⟨h1,i,j,s,hj,hw,hs,hd,h2⟩
   ·exact⟨false,h1,.inl ⟨rfl,h2⟩⟩
   ·refine⟨true,h1,.inr ⟨rfl,_,.step i j s hj hw hs hd HB.out,?_,h2⟩⟩;have:=AQ hj ({ (j.go now s (ord j.s.size:Nat))with how:=3}:J);rw[if_pos hw,if_neg (show ¬(3:Int)=1 by decide)]at this;omega⟩
  go_wp2_with (first|(go_at_call 87;refine ST.out.mono ?_;rintro e w5 ⟨b,rfl,hb⟩;have ZH:=ah.mk hb;clear hb;refine ah.out ?_)|(go_at_call 69;refine(GA.out _ S5.out).mono ?_;rintro e w' ⟨rfl,hw⟩;obtain rfl:=hw.symm;clear hw))
  cases b
  ·have S6:ah (dF M w0 w5 a.x pol now yN bk fl k):=⟨by rcases ZH.out with h|h;exact h.2;cases h.1⟩;refine ah.mk ?_;go_wp2_with fail
   rw[rounds_succ];go_wp2_with (go_at_call 69;refine(GA.out _ S6.out).mono ?_;rintro e w' ⟨rfl,hw⟩;obtain rfl:=hw.symm;clear hw)
   first|go_end0|go_ret|skip
   rw[←HQ.out];exact⟨rfl,yN,HB.out,S6.out⟩
  ·have S6:ah (∃jH,qc now js jH∧waits jH<waits yN∧dF M w0 w5 a.x pol now jH bk fl k):=⟨by rcases ZH.out with h|h;cases h.1;exact h.2⟩;obtain⟨jH,hb2,hlt,hs2⟩:=S6.out;have B2:=ah.mk hb2;have S7:=ah.mk hs2;have HL:=ah.mk hlt;clear hb2 hs2 hlt S6 ZH;refine ah.mk ?_;go_wp2_with fail
   go_roundw
   case rel=>exact⟨jH,B2,S7⟩
   case measure=>rw[tV S7.out.st,tV S5.out.st];exact HL.out
end
end
section
open Go.RowKit Go.ChangeMaps
section
variable {w0 w:World}
theorem MV {js bI:List J}{bk:List Ch}{k:Nat}(h:Ae bI=Ae js):most bI bk k=most js bk k:=by unfold most;rw[h]
theorem Gs {M:List bW}{x:Nat}{now:Nat}{js:List J}{bk:List Ch}{fl:List Int}{k:Nat}(hS:dF M w0 w x 4 now js bk fl k)(G:dL now js bk)(dB:now≤10000)(hk:k≤1000) :
 Calls Tryz.prog 49 #[.pointer (some ⟨x,0,none⟩)] w fun e w'=>e=.returned (.tuple #[])∧∃bI,Turned now js bI∧dF M w0 w' x 4 now bI bk fl k:=by
 refine named fun R HQ=>?_;obtain⟨a,y,m,rfl,ku,hy,hm,H⟩:=hS;have hlen:=G.len;have AC:=ah.mk (jV H 0 1 2 rfl rfl rfl rfl rfl (by omega));have OK:=ah.mk (And.intro ku (And.intro hy hm));have GG:=ah.mk G;have hmm:=@run_makeMap Tryz.prog;clear ku hy hm H G;go_enter Tryz.func49,Tryz.ntmps49;go_wp2_with (go_at_call 61;refine AC.out.mono ?_;rintro e w1 ⟨A1,c1,rfl,h1⟩;have H1:ah (Has w0 w1 (CL a 4 now js bk y m++aS (.slice A1 js.length c1) js::M)):=⟨h1.ins (CL a 4 now js bk y m) M⟩;clear h1;refine ah.out ?_)
 have R1:=ah.mk (fF H1.out 14 rfl);have WN:=ah.mk (sO R1.out (fun k j hk=>⟨(GG.out.jobs k j hk).id,(GG.out.jobs k j hk).Nv,(GG.out.jobs k j hk).Nw⟩) (by omega));refine ah.mk ?_;go_wp2_with (go_at_call 84;refine WN.out.mono ?_;rintro e w2 ⟨A2,c2,rfl,hb⟩;have H2:=ah.mk (H1.out.below hb);clear hb;refine ah.out ?_)
 clear AC WN R1 H1;have H3:ah (Has w0 (w2.alloc (.map #[] 0)) (CL a 4 now js bk y m++mapA w2.heap.size (Value.int .u32) []::M)):=⟨((Has.cut (CL a 4 now js bk y m) M H2.out).jW (Value.int .u32)).ins (CL a 4 now js bk y m) M⟩;have f9:(w2.alloc (.map #[] 0)).cell? ⟨a.x,9,none⟩=some (.slice (some ⟨a.xp,0,none⟩) 1 a.NG):=by rw[aj (H3.out.blk 0 rfl)];rfl
 obtain⟨v4,w4,hr4,h4⟩:=yj (P:=Tryz.prog) H3.out 14 rfl 162 43 4 0 Tryz.underlying162;have CR:=ah.mk hr4;obtain⟨bm,hbm⟩:∃v,v=w2.heap.size:=⟨_,rfl⟩;have H4:ah (Has w0 w4 (CL a 4 now js bk y m++mapA w2.heap.size (Value.int .u32) []::M)):=⟨h4⟩;clear hr4 h4 H2 H3 hbm bm;refine ah.mk ?_;go_wp2_with fail
 refine wp_loop_rounds 1 ?_;rw[rounds_succ];go_wp2_with fail
 refine wp_loop_rounds 2 ?_;rw[rounds_succ];go_wp2_with (refine yu rfl _ 162 rfl _ rfl CR.out ?_;dsimp only[Act.put])
 clear f9 CR;go_loopw [] (fun wr=>∃yN m1 l,ah (Turned now js yN∧qg l∧y.ok (most yN bk k) k∧m1.ok (most yN bk k))∧ah (Has w0 wr (CL a 4 now yN bk y m1++mapA w2.heap.size (Value.int .u32) l::M))) (fun wr=>Gl a.x wr)
 case atStart=>exact⟨js,m,[],⟨.refl,(fun p hp=>absurd hp List.not_mem_nil),OK.out.2.1,OK.out.2.2⟩,H4⟩
 case round =>
  clear H4;obtain⟨yN,m1,l,HB,H5⟩:=hrel;have WM:=ah.mk ((HB.out.1.went bk).sane GG.out);have ST:∀W,Has w0 W (CL a 4 now yN bk y m1++mapA w2.heap.size (Value.int .u32) l::M)→dF M w0 W a.x 4 now yN bk fl k:=fun W h=>⟨a,y,m1,rfl,OK.out.1,HB.out.2.2.1,HB.out.2.2.2,Has.cut (CL a 4 now yN bk y m1) M h⟩;have hM1:ah (Gl a.x wr=waits yN):=⟨tV (ST wr H5.out).st⟩;have PL:=ah.mk (zL (M:=M) H5.out HB.out.2.1 HB.out.2.2.1 HB.out.2.2.2 (by have:=lu WM.out.1 k hk;omega) hk WM.out.1 dB);have f0:wr.cell? ⟨a.x,0,none⟩=some (.int .i64 4):=by rw[aj (H5.out.blk 0 rfl)];rfl
  have GA:=ah.mk (jE (w:=wr) (x:=a.x) 4 f0);clear ST f0;go_wp2_with (first|(go_at_call 86;refine PL.out.mono ?_;rintro e w5 ⟨b,jH,m2,l2,rfl,hl2,hbf,hbt,h5⟩;have H6:=ah.mk h5;have ZI:=ah.mk (And.intro hl2 (And.intro hbf hbt));clear h5 hl2 hbf hbt;refine ah.out ?_)|(go_at_call 69;refine GA.out.mono ?_;rintro e w' ⟨rfl,hw⟩;obtain rfl:=hw.symm;clear hw))
  clear PL GA;cases b
  ·obtain⟨e1,ok2⟩:=ZI.out.2.1 rfl;subst e1;have f0:w5.cell? ⟨a.x,0,none⟩=some (.int .i64 4):=by rw[aj (H6.out.blk 0 rfl)];rfl
   have GA:=ah.mk (jE (w:=w5) (x:=a.x) 4 f0);have RO:=ah.mk (zM (Has.cut (CL a 4 now jH bk y m2) M H6.out) ok2 (by have:=lu WM.out.1 k hk;omega) WM.out.1 dB);have eU:=ah.mk ok2;clear f0 ok2;refine ah.mk ?_;go_wp2_with fail
   rw[rounds_succ];go_wp2_with (first|(go_at_call 88;refine RO.out.mono ?_;rintro e w6 ⟨rfl,wJ,hj3,h7⟩;have H7:=ah.mk h7;have ZJ:=ah.mk hj3;clear h7 hj3)|(go_at_call 69;refine GA.out.mono ?_;rintro e w' ⟨rfl,hw⟩;obtain rfl:=hw.symm;clear hw))
   first|go_end0|go_ret|skip
   rw[←HQ.out];exact⟨rfl,wJ,HB.out.1.trans ZJ.out.1,a,y,m2,rfl,OK.out.1,by rw[MV ZJ.out.2];exact HB.out.2.2.1,by rw[MV ZJ.out.2];exact eU.out,H7.out⟩
  ·obtain⟨ok2,i,j,s,hj,hw,hs,hd,e2⟩:=ZI.out.2.2 rfl;have HJ:=ah.mk (And.intro hj (And.intro hw (And.intro hs (And.intro hd e2))));have eU:=ah.mk ok2;clear hj hw hs hd e2 ok2;refine ah.mk ?_;go_wp2_with fail
   go_roundw
   case rel =>
    obtain⟨hj,hw,hs,hd,e2⟩:=HJ.out;have QN:=wW (bk:=bk) (k:=k) hj (by simp[J.on,hw]) (show J.on { (j.go now s (ord j.s.size:Nat))with how:=3}=true from rfl);rw[←e2]at QN;exact⟨jH,m2,l2,⟨by rw[e2];exact .start i j s hj hw hs hd HB.out.1,ZI.out.1,HB.out.2.2.1.mono (by omega) (Nat.le_refl _),eU.out.mono (by omega)⟩,H6⟩
   case measure =>
    obtain⟨hj,hw,hs,hd,e2⟩:=HJ.out;have hS2:dF M w0 w5 a.x 4 now jH bk fl k:=by
     have QN:=wW (bk:=bk) (k:=k) hj (by simp[J.on,hw]) (show J.on { (j.go now s (ord j.s.size:Nat))with how:=3}=true from rfl);rw[←e2]at QN;exact⟨a,y,m2,rfl,OK.out.1,HB.out.2.2.1.mono (by omega) (Nat.le_refl _),eU.out.mono (by omega),Has.cut (CL a 4 now jH bk y m2) M H6.out⟩
    rw[hM1.out,tV hS2.st,e2];have:=AQ hj ({ (j.go now s (ord j.s.size:Nat))with how:=3}:J);rw[if_pos hw,if_neg (show ¬(3:Int)=1 by decide)]at this;exact Nat.lt_of_lt_of_eq (Nat.lt_succ_self _) this
theorem fK {M:List bW}{x:Nat}{pol:Int}{now:Nat}{js:List J}{bk:List Ch}{fl:List Int}{k:Nat}(hS:dF M w0 w x pol now js bk fl k)(dP:1≤pol∧pol≤4)(G:dL now js bk)(dB:now≤10000)(hk:k≤1000) :
 Calls Tryz.prog 49 #[.pointer (some ⟨x,0,none⟩)] w fun e w'=>e=.returned (.tuple #[])∧∃bI,Turned now js bI∧dF M w0 w' x pol now bI bk fl k:=by
 by_cases h4:pol=4
 ·subst h4;exact Gs hS G dB hk
 ·exact(Dy hS (by omega) G dB hk).mono fun e w' ⟨h1,bI,h2,h3⟩=>⟨h1,bI,h2.turned,h3⟩
end
end
end Go.Proofs.YtandhagfhppgaaaGreatDoor
