/- Part 42 of a proof: contracts of the functions that the law reaches. No condition. -/
import Derived.Test.YtandhagfhppgaaaGreatDoorG35
import Derived.Test.YtandhagfhppgaaaGreatDoorG36
set_option linter.all false
set_option maxRecDepth 100000
set_option maxHeartbeats 16000000
namespace Go.Proofs.YtandhagfhppgaaaGreatDoor
section
open Go.RowKit Go.ChangeMaps
theorem Ut (l:List Nat):P7 l=l.flatMap fM:=by
 induction l with
 |nil=>rfl
 |cons x l ih=>rw[List.flatMap_cons,←ih];rfl
theorem Uu (v:Value)(l:List Nat):EU v l=aT 43 1 fM v l:=by unfold EU aT;rw[Ut]
section
variable {w0 w:World}{M:List bV}
theorem KA {x:Nat}{pol:Int}{now:Nat}{js:List J}{bk:List Ch}{fl:List Int}{k:Nat}(hS:dL M w0 w x pol now js bk fl k)(hn:js.length≤1000)(id:Nat)(hid:id=0∨js.length<id)(h2:id≤4294967295)(d:Int) :
 Calls Tryz.prog 37 #[.pointer (some ⟨x,0,none⟩),.int .u32 (id:Int),.int .i64 d] w fun e w'=>e=.returned (.int .i64 4)∧Below w.heap.size w w':=by
 refine named fun R HQ=>?_;obtain⟨a,y,m,rfl,lG,hy,hm,H⟩:=hS;have f13:w.cell? ⟨a.x,13,none⟩=some (.pointer (some ⟨a.p,0,none⟩)):=by rw[aj (H.blk 0 rfl)];rfl
 have GC:=ah.mk (get_none (p:=a.p) (A:=a.jA) (c:=a.jc) id (by rw[aj (H.blk 1 rfl)];rfl) hid hn h2);have z55:=jr;clear lG hy hm H;go_enter Tryz.func37,Tryz.ntmps37;go_wp2_with (first|(refine aB (w:=w1) w1.heap.size rfl rfl 55 (.tmp 7) (.tmp 17) rfl jq rfl rfl 55 _ z55 rfl nK ?_)|(go_at_call 54;refine GC.out.mono ?_;rintro e w1 ⟨rfl,hb⟩;have H1:=ah.mk hb;clear hb))
 first|go_ret2|go_ret|skip
 rw[←HQ.out];exact⟨rfl,au H1.out _⟩
theorem nC {x:Nat}{pol:Int}{now:Nat}{js:List J}{bk:List Ch}{fl:List Int}{k:Nat}(hS:dL M w0 w x pol now js bk fl k)(dK:1≤pol∧pol≤4)(G:dJ now js bk)(dB:now≤10000)(hk:k≤1000)(id:Nat)(hid:id≤4294967295)(d:Int)(hd:ways d) :
 Calls Tryz.prog 37 #[.pointer (some ⟨x,0,none⟩),.int .u32 (id:Int),.int .i64 d] w fun e w'=>∃(r:Int) (bG:List J) (bk':List Ch),e=.returned (.int .i64 r)∧(code r∧gV now js bk bG bk')∧dL M w0 w' x pol now bG bk' fl k:=by
 have hlen:=G.len;by_cases hr:id=0∨js.length<id
 ·exact(KA hS (by omega) id hr hid d).mono fun e w' ⟨h1,h2⟩=>⟨4,js,bk,h1,⟨⟨by decide,by decide⟩,.refl⟩,hS.below h2⟩
 ·obtain⟨i,rfl⟩:∃i,id=i+1:=⟨id-1,by omega⟩;obtain⟨j,hij⟩:∃j,js[i]?=some j:=⟨_,List.getElem?_eq_getElem (by omega)⟩;have fin:∀(e:Ending) (w':World),(∃r:Int,e=.returned (.int .i64 r)∧((r=0∧j.can d∧j.on=true∧dL M w0 w' x pol now (js.set i (j.over now d)) (bk++[j.ji now d]) fl k)∨(r=0∧j.can d∧j.on=false∧dL M w0 w' x pol now (js.set i (j.over now d)) bk fl k)∨(bad r∧¬j.can d∧dL M w0 w' x pol now js bk fl k)))→∃(r:Int) (bG:List J) (bk':List Ch),e=.returned (.int .i64 r)∧(code r∧gV now js bk bG bk')∧dL M w0 w' x pol now bG bk' fl k:=by
   rintro e w' ⟨r,he,h|h|h⟩
   ·obtain⟨rfl,hc,ho,hs⟩:=h;refine⟨0,_,_,he,⟨⟨by decide,by decide⟩,.over i j d hij hd ho (fun e0=>?_) .refl⟩,hs⟩;rcases hc with h|h
    ·exact h.2 e0
    ·rw[e0]at h;exact absurd h.1 (by decide)
   ·obtain⟨rfl,hc,ho,hs⟩:=h;rcases hc with h|⟨h7,hw⟩
    ·rw[h.1]at ho;cases ho
    ·subst h7;exact⟨0,_,_,he,⟨⟨by decide,by decide⟩,.cancel i j hij hw .refl⟩,hs⟩
   ·exact⟨r,js,bk,he,⟨h.1.2,.refl⟩,h.2.2⟩
  rw[show((i+1:Nat):Int)=(i:Int)+1 from rfl];by_cases h4:pol=4
  ·subst h4;exact(Kw hS G dB hk i j hij d hd).mono fun e w' h=>fin e w' h
  ·exact(Kz hS (by simpa using h4) G dB hk i j hij d hd).mono fun e w' h=>fin e w' h
theorem dL.drop1 {X:bV}{x:Nat}{pol now:Int}{js:List J}{bk:List Ch}{fl:List Int}{k:Nat}(h:dL (X::M) w0 w x pol now js bk fl k):dL M w0 w x pol now js bk fl k:=by
 obtain⟨a,y,m,h1,h2,h3,h4,h5⟩:=h;exact⟨a,y,m,h1,h2,h3,h4,Has.cut (CL a pol now js bk y m) M h5⟩
theorem Uw {a:qX}{pol now:Int}{js:List J}{bk:List Ch}{y:Yd}{m:Mx}{N:Nat}(H:Has w0 w (CL a pol now js bk y m++M))(hm:m.ok N)(hN:N≤1000000) :
 Calls Tryz.prog 126 #[.pointer (some ⟨a.mb,0,none⟩)] w fun e w'=>e=.returned (.tuple #[])∧∃m':Mx,m'.ok N∧Has w0 w' (CL a pol now js bk y m'++M):=by
 obtain⟨RR,hop,hback⟩:=H.opened 13 (m.star a.mb) rfl;exact(JZ hop hm hN).mono fun e w' ⟨h1,b,h2,h3⟩=>⟨h1,_,h2,hback ((m.lD b).star a.mb) w' h3⟩
theorem Wj {js:List J}{bk:List Ch}{now:Int}(G:dJ now js bk){how:Int}{u:Nat}(h:u∈ou js how):∃i,u=i+1∧i<js.length:=by
 unfold ou at h;obtain⟨j,hj,rfl⟩:=List.mem_map.1 h;obtain⟨i,hi,e⟩:=List.getElem_of_mem (List.mem_filter.1 hj).1;exact⟨i,(G.jobs i j (by rw[←e];exact List.getElem?_eq_getElem hi)).id,hi⟩
theorem KD {x:Nat}{pol:Int}{now:Nat}{js:List J}{bk:List Ch}{fl:List Int}{k:Nat}(hS:dL M w0 w x pol now js bk fl k)(dK:1≤pol∧pol≤4)(G:dJ now js bk)(nw:Nat)(hnw:nw=now+1)(dB:nw≤10000)(hk:k≤1000) :
 Calls Tryz.prog 72 #[.pointer (some ⟨x,0,none⟩)] w fun e w'=>e=.returned (.tuple #[])∧∃bG bk',gV nw js bk bG bk'∧dL M w0 w' x pol nw bG bk' fl k:=by
 refine named fun R HQ=>?_;have G1:dJ nw js bk:=by have:=G.tick (by omega);rw[hnw];exact this
 have hlen:=G.len;obtain⟨a,y,m,rfl,lG,hy,hm,H⟩:=hS;have f12:w.cell? ⟨a.x,12,none⟩=some (.int .i64 (now:Int)):=by rw[aj (H.blk 0 rfl)];rfl
 have z12:w.frozen? ⟨a.x,12,none⟩=false:=aI (H.blk 0 rfl) _;have w1:wrap64 ((now:Int)+1)=(nw:Int):=by rw[wrap_in (by omega) (by omega),hnw];rfl
 obtain⟨W1,hW1⟩:∃v,v=w.setCell ⟨a.x,12,none⟩ (.int .i64 (nw:Int)):=⟨_,rfl⟩;have H1:ah (Has w0 W1 (CL a pol nw js bk y m++M)):=⟨by rw[hW1];exact H.put 0 rfl 12 (.int .i64 (nw:Int)) (EF a pol nw bk.length) rfl⟩;have LC:=ah.mk (IU H1.out 1 2 rfl rfl rfl (by omega) 3);have f13:w.cell? ⟨a.x,13,none⟩=some (.pointer (some ⟨a.p,0,none⟩)):=by rw[aj (H.blk 0 rfl)];rfl
 have OK:=ah.mk (And.intro lG (And.intro hy hm));have GG:=ah.mk G1;have HP:=ah.mk dK;have HW1:=ah.mk hW1;clear lG hy hm H G G1 hnw dK hW1;go_enter Tryz.func72,Tryz.ntmps72;go_wp2_with (first|(go_at_call 125;rw[←HW1.out];refine LC.out.mono ?_;rintro e w2 ⟨A2,n2,c2,rfl,hn2,h2⟩;rw[Uu]at h2;have H2:ah (Has w0 w2 (CL a pol nw js bk y m++aT 43 1 fM (.slice A2 n2 c2) (ou js 3)::M)):=⟨h2.ins (CL a pol nw js bk y m) M⟩;have HN:=ah.mk hn2;clear h2 hn2 f12 z12 f13))
 clear LC;have hn2:n2≤500:=by rw[HN.out];unfold ou;rw[List.length_map];exact Nat.le_trans (List.length_filter_le _ _) hlen
 go_loopw [21] (fun i wr=>∃p:Nat,i=.int .i64 (p:Int)∧p≤n2∧ah (∃bG bk',gV nw js bk bG bk'∧dL (aT 43 1 fM (.slice A2 n2 c2) (ou js 3)::M) w0 wr a.x pol nw bG bk' fl k)) (fun i _=>n2-(intOf i).toNat)
 case atStart=>exact⟨0,rfl,Nat.zero_le _,⟨js,bk,.refl,a,y,m,rfl,OK.out.1,OK.out.2.1,OK.out.2.2,H2.out⟩⟩
 case round =>
  clear H2;obtain⟨p,rfl,hp,HB⟩:=hrel;obtain⟨bG,bk',ht,S3⟩:=HB.out;have HT:=ah.mk ht;have hs3:=ht.sane GG.out;have G3:=ah.mk hs3.1;have hln:=hs3.2.2;have S3:=ah.mk S3;clear HB ht hs3;by_cases hlt:p<n2
  ·obtain⟨u,hu⟩:∃u,(ou js 3)[p]?=some u:=⟨_,List.getElem?_eq_getElem (by rw[←HN.out];exact hlt)⟩;obtain⟨i,rfl,hi⟩:=Wj GG.out (List.mem_of_getElem? hu);obtain⟨j,hij⟩:∃j,bG[i]?=some j:=⟨_,List.getElem?_eq_getElem (by omega)⟩;obtain⟨b,y3,m3,hbx,lG,hy,hm,H3⟩:=S3.out;obtain⟨g,hA,hur⟩:=(bI H3 14 rfl kS).get p (i+1) hu;subst hA;have c0:wr.cell? ⟨g,p,none⟩=some (.int .u32 ((i:Int)+1)):=by have:=hur 0 _ rfl;simpa using this
   have f13:wr.cell? ⟨a.x,13,none⟩=some (.pointer (some ⟨b.p,0,none⟩)):=by rw[←hbx,aj (H3.blk 0 rfl)];rfl
   have GC:ah (Calls Tryz.prog 54 #[.pointer (some ⟨b.p,0,none⟩),.int .u32 ((i:Int)+1)] wr fun e w'=>e=.returned (.tuple #[.agg j.cells,.bool true])∧Below wr.heap.size wr w'):=⟨by
    obtain⟨g2,hg,hr⟩:=(gI H3 2 rfl).get i j hij;exact nR (p:=b.p) (n:=bG.length) (c:=b.jc) (i+1) j (by rw[aj (H3.blk 1 rfl),←hg];rfl) (by omega) (by omega) (by omega) hr⟩
   have JO:=ah.mk (G3.out.jobs i j hij);have e1:(p:Int)<n2:=by omega
   have w2':wrap64 ((p:Int)+1)=(p:Int)+1:=wrap_in (by omega) (by omega);have j55:=eY j;have HH:=ah.mk H3;have lX:=ah.mk (And.intro hbx (And.intro lG (And.intro hy hm)));clear hu hur H3 hbx lG hy hm hij S3 OK;go_wp2_with (first|(refine aB (w:=w4) w4.heap.size rfl rfl 55 (.tmp 4) (.tmp 32) rfl j.cells rfl rfl 55 _ j55 rfl j.one ?_;refine ah.out ?_)|(go_at_call 54;refine GC.out.mono ?_;rintro e w4 ⟨rfl,hb⟩;have H4:=ah.mk (HH.out.below hb);clear hb))
   clear f13 GC HH c0;obtain⟨W5,pq⟩:∃v,v=w4.alloc (.cells j.cells 55):=⟨_,rfl⟩;obtain⟨NJ,wS⟩:∃v,v=w4.heap.size:=⟨_,rfl⟩;have H5:ah (Has w0 W5 (CL b pol nw bG bk' y3 m3++aF NJ (.cells j.cells 55)::aT 43 1 fM (.slice (some ⟨g,0,none⟩) n2 c2) (ou js 3)::M)):=⟨by rw[pq,wS];exact Has.ins (CL b pol nw bG bk' y3 m3) _ (H4.out.bg (.cells j.cells 55))⟩;rw[←pq,←wS];clear pq wS H4 j55;have S5:ah (dL (aF NJ (.cells j.cells 55)::aT 43 1 fM (.slice (some ⟨g,0,none⟩) n2 c2) (ou js 3)::M) w0 W5 a.x pol nw bG bk' fl k):=⟨b,y3,m3,lX.out.1,lX.out.2.1,lX.out.2.2.1,lX.out.2.2.2,H5.out⟩;obtain⟨ra,hra⟩:∃v,v=j.ran:=⟨_,rfl⟩;obtain⟨sa,hsa⟩:∃v,v=j.started:=⟨_,rfl⟩;obtain⟨lim,hlim⟩:∃v,v=j.s.limit:=⟨_,rfl⟩;have v23:W5.cell? ⟨NJ,23,none⟩=some (.int .i64 ra):=by rw[aj (H5.out.blk 14 rfl),hra];exact j.rW
   have v21:W5.cell? ⟨NJ,21,none⟩=some (.int .i64 sa):=by rw[aj (H5.out.blk 14 rfl),hsa];exact j.mY
   have v8:W5.cell? ⟨NJ,8,none⟩=some (.int .i64 (lim:Int)):=by rw[aj (H5.out.blk 14 rfl),hlim];exact j.um
   have x12:W5.cell? ⟨a.x,12,none⟩=some (.int .i64 (nw:Int)):=by rw[←lX.out.1,aj (H5.out.blk 0 rfl)];rfl
   have b1:=JO.out.fE;have b2:=JO.out.started;have b3:=JO.out.pU;have b4:=JO.out.ran;rw[←hsa]at b1 b2;rw[←hra]at b3 b4;have w3:wrap64 (ra+nw)=ra+nw:=wrap_in (by omega) (by omega);have w4':wrap64 (ra+nw-sa)=ra+nw-sa:=wrap_in (by omega) (by omega);have OV:=ah.mk fun q=>nC (S5.out.below (aC (Below.refl _ _) q)) HP.out G3.out dB hk (i+1) (by omega) 8 (.inr (.inr (.inr (.inr rfl))));clear hra hsa hlim H5 b1 b2 b3 b4;cases hc:decide ((lim:Int)≤ra+nw-sa)
   ·refine ah.mk ?_;go_wp2_with fail
    go_quiet (fail)
    go_wp2_with fail
    go_roundw
    case rel=>exact⟨p+1,rfl,by omega,⟨bG,bk',HT.out,(S5.out.below (aC (Below.refl _ _) _)).drop1⟩⟩
    case measure=>simp[intOf];omega
   ·refine ah.mk ?_;go_wp2_with fail
    go_quiet (fail)
    go_wp2_with (go_at_call 37;refine(OV.out _).mono ?_;rintro e w6 ⟨r,jo,bk2,rfl,ht2,h6⟩;have S6:=ah.mk h6;have HT2:=ah.mk ht2;clear h6 ht2)
    go_roundw
    case rel=>exact⟨p+1,rfl,by omega,⟨jo,bk2,HT.out.trans HT2.out.2,S6.out.drop1⟩⟩
    case measure=>simp[intOf];omega
  ·have e1:¬(p:Int)<n2:=by omega
   have S4:=ah.mk S3.out.drop1;clear S3 OK;have x0:wr.cell? ⟨a.x,0,none⟩=some (.int .i64 pol):=S4.out.DJ;have GA:=ah.mk fun q=>jM (w:=wr.drewN q) (x:=a.x) pol (by simpa using x0);have SE:=ah.mk fun(W:World) (h:dL M w0 W a.x pol nw bG bk' fl k)=>fK h HP.out G3.out dB hk;by_cases SN:pol=4
   ·subst SN;rw[show((4:Int)==4)=true from rfl]at GA;obtain⟨b,y3,m3,hbx,lG,hy,hm,H3⟩:=S4.out;have x12:wr.cell? ⟨a.x,12,none⟩=some (.int .i64 (nw:Int)):=by rw[←hbx,aj (H3.blk 0 rfl)];rfl
    have x2:wr.cell? ⟨a.x,2,none⟩=some (.int .i64 3):=by rw[←hbx,aj (H3.blk 0 rfl)];rfl
    have x15:∀q,(wr.drewN q).cell? ⟨a.x,15,none⟩=some (.slice (some ⟨b.mr,0,none⟩) 1 b.TI):=fun q=>by rw[←hbx];exact(kX (H3.drewN q)).1
    have mr0:∀q,(wr.drewN q).cell? ⟨b.mr,0,none⟩=some (.pointer (some ⟨b.mb,0,none⟩)):=fun q=>(kX (H3.drewN q)).2;have TU:=ah.mk fun q=>Uw (H3.drewN q) hm (by have:=lN G3.out k hk;omega);have lX:=ah.mk (And.intro hbx (And.intro lG hy));clear H3 hbx lG hy hm;by_cases hq0:nw%3=0
    rotate_left
    ·have hq:((nw:Int)%3==0)=false:=by simp;omega
     have hq1:¬(nw:Int)%3=0:=by omega
     have hq2:(nw%3==0)=false:=by simpa using hq0
     go_wp2_with fail
     go_quiet ((go_at_call 69;exact Calls.quiet_of_same (GA.out _)))
     go_wp2_with (go_at_call 49;refine(SE.out _ (S4.out.below (aC (Below.refl _ _) _))).mono ?_;rintro e w6 ⟨rfl,wX,ht3,h6⟩;have S6:=ah.mk h6;have HT3:=ah.mk ht3;clear h6 ht3)
     first|go_end0|go_ret|skip
     rw[←HQ.out];exact⟨rfl,wX,bk',HT.out.trans (HT3.out.went bk'),S6.out⟩
    ·have hq:((nw:Int)%3==0)=true:=by simp;omega
     have hq1:(nw:Int)%3=0:=by omega
     go_wp2_with fail
     go_quiet ((go_at_call 69;exact Calls.quiet_of_same (GA.out _)))
     go_wp2_with fail
     refine wp_loop_rounds 2 ?_;rw[rounds_succ];go_wp2_with (go_at_call 126;refine(TU.out _).mono ?_;rintro e w5 ⟨rfl,m5,ok5,h5⟩;have S5:ah (dL M w0 w5 a.x 4 nw bG bk' fl k):=⟨b,y3,m5,lX.out.1,lX.out.2.1,lX.out.2.2,ok5,h5⟩;clear ok5 h5)
     rw[rounds_succ];go_wp2_with (go_at_call 49;refine(SE.out _ S5.out).mono ?_;rintro e w6 ⟨rfl,wX,ht3,h6⟩;have S6:=ah.mk h6;have HT3:=ah.mk ht3;clear h6 ht3)
     first|go_end0|go_ret|skip
     rw[←HQ.out];exact⟨rfl,wX,bk',HT.out.trans (HT3.out.went bk'),S6.out⟩
   ·have hf:(pol==4)=false:=by simpa using SN
    rw[hf]at GA;go_wp2_with fail
    go_quiet ((go_at_call 69;exact Calls.quiet_of_same (GA.out _)))
    go_wp2_with (go_at_call 49;refine(SE.out _ (S4.out.below (aC (Below.refl _ _) _))).mono ?_;rintro e w6 ⟨rfl,wX,ht3,h6⟩;have S6:=ah.mk h6;have HT3:=ah.mk ht3;clear h6 ht3)
    first|go_end0|go_ret|skip
    rw[←HQ.out];exact⟨rfl,wX,bk',HT.out.trans (HT3.out.went bk'),S6.out⟩
end
end
end Go.Proofs.YtandhagfhppgaaaGreatDoor
