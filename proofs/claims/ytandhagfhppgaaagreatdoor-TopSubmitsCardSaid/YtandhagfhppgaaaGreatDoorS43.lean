/- Part 43 of a proof: contracts of the functions that the law reaches. No condition. -/
import Derived.Test.YtandhagfhppgaaaGreatDoorS40
import Derived.Test.YtandhagfhppgaaaGreatDoorS41
set_option linter.all false
set_option maxRecDepth 100000
set_option maxHeartbeats 16000000
namespace Go.Proofs.YtandhagfhppgaaaGreatDoor
section
open Go.RowKit Go.ChangeMaps
theorem Uc (l:List Nat):Px l=l.flatMap fO:=by
 induction l with
 |nil=>rfl
 |cons x l ih=>rw[List.flatMap_cons,←ih];rfl
theorem Ud (v:Value)(l:List Nat):ER v l=aV 43 1 fO v l:=by unfold ER aV;rw[Uc]
section
variable {w0 w:World}{M:List bW}
theorem JZ {x:Nat}{pol:Int}{now:Nat}{js:List J}{bk:List Ch}{fl:List Int}{k:Nat}(hS:dF M w0 w x pol now js bk fl k)(hn:js.length≤1000)(id:Nat)(hid:id=0∨js.length<id)(h2:id≤4294967295)(d:Int) :
 Calls Tryz.prog 37 #[.pointer (some ⟨x,0,none⟩),.int .u32 (id:Int),.int .i64 d] w fun e w'=>e=.returned (.int .i64 4)∧Below w.heap.size w w':=by
 refine named fun R HQ=>?_;obtain⟨a,y,m,rfl,ku,hy,hm,H⟩:=hS;have f13:w.cell? ⟨a.x,13,none⟩=some (.pointer (some ⟨a.p,0,none⟩)):=by rw[aj (H.blk 0 rfl)];rfl
 have GC:=ah.mk (get_none (p:=a.p) (A:=a.jA) (c:=a.jc) id (by rw[aj (H.blk 1 rfl)];rfl) hid hn h2);have z55:=jf;clear ku hy hm H;go_enter Tryz.func37,Tryz.ntmps37;go_wp2_with (first|(refine aB (w:=w1) w1.heap.size rfl rfl 55 (.tmp 7) (.tmp 17) rfl je rfl rfl 55 _ z55 rfl mW ?_)|(go_at_call 54;refine GC.out.mono ?_;rintro e w1 ⟨rfl,hb⟩;have H1:=ah.mk hb;clear hb))
 first|go_ret2|go_ret|skip
 rw[←HQ.out];exact⟨rfl,au H1.out _⟩
theorem mJ {x:Nat}{pol:Int}{now:Nat}{js:List J}{bk:List Ch}{fl:List Int}{k:Nat}(hS:dF M w0 w x pol now js bk fl k)(dP:1≤pol∧pol≤4)(G:dL now js bk)(dB:now≤10000)(hk:k≤1000)(id:Nat)(hid:id≤4294967295)(d:Int)(hd:ways d) :
 Calls Tryz.prog 37 #[.pointer (some ⟨x,0,none⟩),.int .u32 (id:Int),.int .i64 d] w fun e w'=>∃(r:Int) (bI:List J) (bk':List Ch),e=.returned (.int .i64 r)∧(code r∧ig now js bk bI bk')∧dF M w0 w' x pol now bI bk' fl k:=by
 have hlen:=G.len;by_cases hr:id=0∨js.length<id
 ·exact(JZ hS (by omega) id hr hid d).mono fun e w' ⟨h1,h2⟩=>⟨4,js,bk,h1,⟨⟨by decide,by decide⟩,.refl⟩,hS.below h2⟩
 ·obtain⟨i,rfl⟩:∃i,id=i+1:=⟨id-1,by omega⟩;obtain⟨j,hij⟩:∃j,js[i]?=some j:=⟨_,List.getElem?_eq_getElem (by omega)⟩;have fin:∀(e:Ending) (w':World),(∃r:Int,e=.returned (.int .i64 r)∧((r=0∧j.can d∧j.on=true∧dF M w0 w' x pol now (js.set i (j.over now d)) (bk++[j.iY now d]) fl k)∨(r=0∧j.can d∧j.on=false∧dF M w0 w' x pol now (js.set i (j.over now d)) bk fl k)∨(bad r∧¬j.can d∧dF M w0 w' x pol now js bk fl k)))→∃(r:Int) (bI:List J) (bk':List Ch),e=.returned (.int .i64 r)∧(code r∧ig now js bk bI bk')∧dF M w0 w' x pol now bI bk' fl k:=by
   rintro e w' ⟨r,he,h|h|h⟩
   ·obtain⟨rfl,hc,ho,hs⟩:=h;refine⟨0,_,_,he,⟨⟨by decide,by decide⟩,.over i j d hij hd ho (fun e0=>?_) .refl⟩,hs⟩;rcases hc with h|h
    ·exact h.2 e0
    ·rw[e0]at h;exact absurd h.1 (by decide)
   ·obtain⟨rfl,hc,ho,hs⟩:=h;rcases hc with h|⟨h7,hw⟩
    ·rw[h.1]at ho;cases ho
    ·subst h7;exact⟨0,_,_,he,⟨⟨by decide,by decide⟩,.cancel i j hij hw .refl⟩,hs⟩
   ·exact⟨r,js,bk,he,⟨h.1.2,.refl⟩,h.2.2⟩
  rw[show((i+1:Nat):Int)=(i:Int)+1 from rfl];by_cases h4:pol=4
  ·subst h4;exact(JX hS G dB hk i j hij d hd).mono fun e w' h=>fin e w' h
  ·exact(JY hS (by simpa using h4) G dB hk i j hij d hd).mono fun e w' h=>fin e w' h
theorem dF.drop1 {X:bW}{x:Nat}{pol now:Int}{js:List J}{bk:List Ch}{fl:List Int}{k:Nat}(h:dF (X::M) w0 w x pol now js bk fl k):dF M w0 w x pol now js bk fl k:=by
 obtain⟨a,y,m,h1,h2,h3,h4,h5⟩:=h;exact⟨a,y,m,h1,h2,h3,h4,Has.cut (CL a pol now js bk y m) M h5⟩
theorem Ue {a:qR}{pol now:Int}{js:List J}{bk:List Ch}{y:Yd}{m:Mx}{N:Nat}(H:Has w0 w (CL a pol now js bk y m++M))(hm:m.ok N)(hN:N≤1000000) :
 Calls Tryz.prog 126 #[.pointer (some ⟨a.mb,0,none⟩)] w fun e w'=>e=.returned (.tuple #[])∧∃m':Mx,m'.ok N∧Has w0 w' (CL a pol now js bk y m'++M):=by
 obtain⟨RR,hop,hback⟩:=H.opened 13 (m.star a.mb) rfl;exact(JL hop hm hN).mono fun e w' ⟨h1,b,h2,h3⟩=>⟨h1,_,h2,hback ((m.kU b).star a.mb) w' h3⟩
theorem VZ {js:List J}{bk:List Ch}{now:Int}(G:dL now js bk){how:Int}{u:Nat}(h:u∈nT js how):∃i,u=i+1∧i<js.length:=by
 unfold nT at h;obtain⟨j,hj,rfl⟩:=List.mem_map.1 h;obtain⟨i,hi,e⟩:=List.getElem_of_mem (List.mem_filter.1 hj).1;exact⟨i,(G.jobs i j (by rw[←e];exact List.getElem?_eq_getElem hi)).id,hi⟩
theorem Ko {x:Nat}{pol:Int}{now:Nat}{js:List J}{bk:List Ch}{fl:List Int}{k:Nat}(hS:dF M w0 w x pol now js bk fl k)(dP:1≤pol∧pol≤4)(G:dL now js bk)(nw:Nat)(hnw:nw=now+1)(dB:nw≤10000)(hk:k≤1000) :
 Calls Tryz.prog 72 #[.pointer (some ⟨x,0,none⟩)] w fun e w'=>e=.returned (.tuple #[])∧∃bI bk',ig nw js bk bI bk'∧dF M w0 w' x pol nw bI bk' fl k:=by
 refine named fun R HQ=>?_;have G1:dL nw js bk:=by have:=G.tick (by omega);rw[hnw];exact this
 have hlen:=G.len;obtain⟨a,y,m,rfl,ku,hy,hm,H⟩:=hS;have f12:w.cell? ⟨a.x,12,none⟩=some (.int .i64 (now:Int)):=by rw[aj (H.blk 0 rfl)];rfl
 have z12:w.frozen? ⟨a.x,12,none⟩=false:=aJ (H.blk 0 rfl) _;have w1:wrap64 ((now:Int)+1)=(nw:Int):=by rw[wrap_in (by omega) (by omega),hnw];rfl
 obtain⟨W1,hW1⟩:∃v,v=w.setCell ⟨a.x,12,none⟩ (.int .i64 (nw:Int)):=⟨_,rfl⟩;have H1:ah (Has w0 W1 (CL a pol nw js bk y m++M)):=⟨by rw[hW1];exact H.put 0 rfl 12 (.int .i64 (nw:Int)) (IG a pol nw bk.length) rfl⟩;have LC:=ah.mk (IK H1.out 1 2 rfl rfl rfl (by omega) 3);have f13:w.cell? ⟨a.x,13,none⟩=some (.pointer (some ⟨a.p,0,none⟩)):=by rw[aj (H.blk 0 rfl)];rfl
 have OK:=ah.mk (And.intro ku (And.intro hy hm));have GG:=ah.mk G1;have HP:=ah.mk dP;have HW1:=ah.mk hW1;clear ku hy hm H G G1 hnw dP hW1;go_enter Tryz.func72,Tryz.ntmps72;go_wp2_with (first|(go_at_call 125;rw[←HW1.out];refine LC.out.mono ?_;rintro e w2 ⟨A2,n2,c2,rfl,hn2,h2⟩;rw[Ud]at h2;have H2:ah (Has w0 w2 (CL a pol nw js bk y m++aV 43 1 fO (.slice A2 n2 c2) (nT js 3)::M)):=⟨h2.ins (CL a pol nw js bk y m) M⟩;have HN:=ah.mk hn2;clear h2 hn2 f12 z12 f13))
 clear LC;have hn2:n2≤500:=by rw[HN.out];unfold nT;rw[List.length_map];exact Nat.le_trans (List.length_filter_le _ _) hlen
 go_loopw [21] (fun i wr=>∃p:Nat,i=.int .i64 (p:Int)∧p≤n2∧ah (∃bI bk',ig nw js bk bI bk'∧dF (aV 43 1 fO (.slice A2 n2 c2) (nT js 3)::M) w0 wr a.x pol nw bI bk' fl k)) (fun i _=>n2-(intOf i).toNat)
 case atStart=>exact⟨0,rfl,Nat.zero_le _,⟨js,bk,.refl,a,y,m,rfl,OK.out.1,OK.out.2.1,OK.out.2.2,H2.out⟩⟩
 case round =>
  clear H2;obtain⟨p,rfl,hp,HB⟩:=hrel;obtain⟨bI,bk',ht,S3⟩:=HB.out;have HT:=ah.mk ht;have hs3:=ht.sane GG.out;have G3:=ah.mk hs3.1;have hln:=hs3.2.2;have S3:=ah.mk S3;clear HB ht hs3;by_cases hlt:p<n2
  ·obtain⟨u,hu⟩:∃u,(nT js 3)[p]?=some u:=⟨_,List.getElem?_eq_getElem (by rw[←HN.out];exact hlt)⟩;obtain⟨i,rfl,hi⟩:=VZ GG.out (List.mem_of_getElem? hu);obtain⟨j,hij⟩:∃j,bI[i]?=some j:=⟨_,List.getElem?_eq_getElem (by omega)⟩;obtain⟨b,y3,m3,hbx,ku,hy,hm,H3⟩:=S3.out;obtain⟨g,hA,hur⟩:=(bK H3 14 rfl kJ).get p (i+1) hu;subst hA;have c0:wr.cell? ⟨g,p,none⟩=some (.int .u32 ((i:Int)+1)):=by have:=hur 0 _ rfl;simpa using this
   have f13:wr.cell? ⟨a.x,13,none⟩=some (.pointer (some ⟨b.p,0,none⟩)):=by rw[←hbx,aj (H3.blk 0 rfl)];rfl
   have GC:ah (Calls Tryz.prog 54 #[.pointer (some ⟨b.p,0,none⟩),.int .u32 ((i:Int)+1)] wr fun e w'=>e=.returned (.tuple #[.agg j.cells,.bool true])∧Below wr.heap.size wr w'):=⟨by
    obtain⟨g2,hg,hr⟩:=(fF H3 2 rfl).get i j hij;exact nG (p:=b.p) (n:=bI.length) (c:=b.jc) (i+1) j (by rw[aj (H3.blk 1 rfl),←hg];rfl) (by omega) (by omega) (by omega) hr⟩
   have JO:=ah.mk (G3.out.jobs i j hij);have e1:(p:Int)<n2:=by omega
   have w2':wrap64 ((p:Int)+1)=(p:Int)+1:=wrap_in (by omega) (by omega);have j55:=eP j;have HH:=ah.mk H3;have lI:=ah.mk (And.intro hbx (And.intro ku (And.intro hy hm)));clear hu hur H3 hbx ku hy hm hij S3 OK;go_wp2_with (first|(refine aB (w:=w4) w4.heap.size rfl rfl 55 (.tmp 4) (.tmp 32) rfl j.cells rfl rfl 55 _ j55 rfl j.one ?_;refine ah.out ?_)|(go_at_call 54;refine GC.out.mono ?_;rintro e w4 ⟨rfl,hb⟩;have H4:=ah.mk (HH.out.below hb);clear hb))
   clear f13 GC HH c0;obtain⟨W5,oM⟩:∃v,v=w4.alloc (.cells j.cells 55):=⟨_,rfl⟩;obtain⟨NJ,wH⟩:∃v,v=w4.heap.size:=⟨_,rfl⟩;have H5:ah (Has w0 W5 (CL b pol nw bI bk' y3 m3++aF NJ (.cells j.cells 55)::aV 43 1 fO (.slice (some ⟨g,0,none⟩) n2 c2) (nT js 3)::M)):=⟨by rw[oM,wH];exact Has.ins (CL b pol nw bI bk' y3 m3) _ (H4.out.aZ (.cells j.cells 55))⟩;rw[←oM,←wH];clear oM wH H4 j55;have S5:ah (dF (aF NJ (.cells j.cells 55)::aV 43 1 fO (.slice (some ⟨g,0,none⟩) n2 c2) (nT js 3)::M) w0 W5 a.x pol nw bI bk' fl k):=⟨b,y3,m3,lI.out.1,lI.out.2.1,lI.out.2.2.1,lI.out.2.2.2,H5.out⟩;obtain⟨ra,hra⟩:∃v,v=j.ran:=⟨_,rfl⟩;obtain⟨sa,hsa⟩:∃v,v=j.started:=⟨_,rfl⟩;obtain⟨lim,hlim⟩:∃v,v=j.s.limit:=⟨_,rfl⟩;have v23:W5.cell? ⟨NJ,23,none⟩=some (.int .i64 ra):=by rw[aj (H5.out.blk 14 rfl),hra];exact j.rH
   have v21:W5.cell? ⟨NJ,21,none⟩=some (.int .i64 sa):=by rw[aj (H5.out.blk 14 rfl),hsa];exact j.mg
   have v8:W5.cell? ⟨NJ,8,none⟩=some (.int .i64 (lim:Int)):=by rw[aj (H5.out.blk 14 rfl),hlim];exact j.tK
   have x12:W5.cell? ⟨a.x,12,none⟩=some (.int .i64 (nw:Int)):=by rw[←lI.out.1,aj (H5.out.blk 0 rfl)];rfl
   have b1:=JO.out.fV;have b2:=JO.out.started;have b3:=JO.out.rY;have b4:=JO.out.ran;rw[←hsa]at b1 b2;rw[←hra]at b3 b4;have w3:wrap64 (ra+nw)=ra+nw:=wrap_in (by omega) (by omega);have w4':wrap64 (ra+nw-sa)=ra+nw-sa:=wrap_in (by omega) (by omega);have OV:=ah.mk fun q=>mJ (S5.out.below (aC (Below.refl _ _) q)) HP.out G3.out dB hk (i+1) (by omega) 8 (.inr (.inr (.inr (.inr rfl))));clear hra hsa hlim H5 b1 b2 b3 b4;cases hc:decide ((lim:Int)≤ra+nw-sa)
   ·refine ah.mk ?_;go_wp2_with fail
    go_quiet (fail)
    go_wp2_with fail
    go_roundw
    case rel=>exact⟨p+1,rfl,by omega,⟨bI,bk',HT.out,(S5.out.below (aC (Below.refl _ _) _)).drop1⟩⟩
    case measure=>simp[intOf];omega
   ·refine ah.mk ?_;go_wp2_with fail
    go_quiet (fail)
    go_wp2_with (go_at_call 37;refine(OV.out _).mono ?_;rintro e w6 ⟨r,jH,bk2,rfl,ht2,h6⟩;have S6:=ah.mk h6;have HT2:=ah.mk ht2;clear h6 ht2)
    go_roundw
    case rel=>exact⟨p+1,rfl,by omega,⟨jH,bk2,HT.out.trans HT2.out.2,S6.out.drop1⟩⟩
    case measure=>simp[intOf];omega
  ·have e1:¬(p:Int)<n2:=by omega
   have S4:=ah.mk S3.out.drop1;clear S3 OK;have x0:wr.cell? ⟨a.x,0,none⟩=some (.int .i64 pol):=S4.out.Dn;have GA:=ah.mk fun q=>jE (w:=wr.drewN q) (x:=a.x) pol (by simpa using x0);have SE:=ah.mk fun(W:World) (h:dF M w0 W a.x pol nw bI bk' fl k)=>fK h HP.out G3.out dB hk;by_cases SA:pol=4
   ·subst SA;rw[show((4:Int)==4)=true from rfl]at GA;obtain⟨b,y3,m3,hbx,ku,hy,hm,H3⟩:=S4.out;have x12:wr.cell? ⟨a.x,12,none⟩=some (.int .i64 (nw:Int)):=by rw[←hbx,aj (H3.blk 0 rfl)];rfl
    have x2:wr.cell? ⟨a.x,2,none⟩=some (.int .i64 3):=by rw[←hbx,aj (H3.blk 0 rfl)];rfl
    have x15:∀q,(wr.drewN q).cell? ⟨a.x,15,none⟩=some (.slice (some ⟨b.mr,0,none⟩) 1 b.Tc):=fun q=>by rw[←hbx];exact(kN (H3.drewN q)).1
    have mr0:∀q,(wr.drewN q).cell? ⟨b.mr,0,none⟩=some (.pointer (some ⟨b.mb,0,none⟩)):=fun q=>(kN (H3.drewN q)).2;have TU:=ah.mk fun q=>Ue (H3.drewN q) hm (by have:=lu G3.out k hk;omega);have lI:=ah.mk (And.intro hbx (And.intro ku hy));clear H3 hbx ku hy hm;by_cases hq0:nw%3=0
    rotate_left
    ·have hq:((nw:Int)%3==0)=false:=by simp;omega
     have hq1:¬(nw:Int)%3=0:=by omega
     have hq2:(nw%3==0)=false:=by simpa using hq0
     go_wp2_with fail
     go_quiet ((go_at_call 69;exact Calls.quiet_of_same (GA.out _)))
     go_wp2_with (go_at_call 49;refine(SE.out _ (S4.out.below (aC (Below.refl _ _) _))).mono ?_;rintro e w6 ⟨rfl,wJ,ht3,h6⟩;have S6:=ah.mk h6;have HT3:=ah.mk ht3;clear h6 ht3)
     first|go_end0|go_ret|skip
     rw[←HQ.out];exact⟨rfl,wJ,bk',HT.out.trans (HT3.out.went bk'),S6.out⟩
    ·have hq:((nw:Int)%3==0)=true:=by simp;omega
     have hq1:(nw:Int)%3=0:=by omega
     go_wp2_with fail
     go_quiet ((go_at_call 69;exact Calls.quiet_of_same (GA.out _)))
     go_wp2_with fail
     refine wp_loop_rounds 2 ?_;rw[rounds_succ];go_wp2_with (go_at_call 126;refine(TU.out _).mono ?_;rintro e w5 ⟨rfl,m5,ok5,h5⟩;have S5:ah (dF M w0 w5 a.x 4 nw bI bk' fl k):=⟨b,y3,m5,lI.out.1,lI.out.2.1,lI.out.2.2,ok5,h5⟩;clear ok5 h5)
     rw[rounds_succ];go_wp2_with (go_at_call 49;refine(SE.out _ S5.out).mono ?_;rintro e w6 ⟨rfl,wJ,ht3,h6⟩;have S6:=ah.mk h6;have HT3:=ah.mk ht3;clear h6 ht3)
     first|go_end0|go_ret|skip
     rw[←HQ.out];exact⟨rfl,wJ,bk',HT.out.trans (HT3.out.went bk'),S6.out⟩
   ·have hf:(pol==4)=false:=by simpa using SA
    rw[hf]at GA;go_wp2_with fail
    go_quiet ((go_at_call 69;exact Calls.quiet_of_same (GA.out _)))
    go_wp2_with (go_at_call 49;refine(SE.out _ (S4.out.below (aC (Below.refl _ _) _))).mono ?_;rintro e w6 ⟨rfl,wJ,ht3,h6⟩;have S6:=ah.mk h6;have HT3:=ah.mk ht3;clear h6 ht3)
    first|go_end0|go_ret|skip
    rw[←HQ.out];exact⟨rfl,wJ,bk',HT.out.trans (HT3.out.went bk'),S6.out⟩
end
end
section
open Go.RowKit Go.ChangeMaps
def Many (now:Nat)(js:List J)(bk:List Ch):Nat→List J→List Ch→Prop
 |0,bI,bk'=>bI=js∧bk'=bk
 |p+1,bI,bk'=>∃yN bk1,Many now js bk p yN bk1∧ig ((now+p+1:Nat):Int) yN bk1 bI bk'
theorem Many.sane {now:Nat}{js:List J}{bk:List Ch}(G:dL now js bk):∀(p:Nat) {bI:List J} {bk':List Ch},now+p≤10000→Many now js bk p bI bk'→dL ((now+p:Nat):Int) bI bk'∧bI.length=js.length
 |0,bI,bk',_,⟨e1,e2⟩=>by subst e1 e2;exact⟨G,rfl⟩
 |p+1,bI,bk',hp,⟨yN,bk1,h1,h2⟩=>by
  obtain⟨G1,l1⟩:=Many.sane G p (by omega) h1;have G2:=G1.tick (by omega);have:=h2.sane (by have e:((now+p+1:Nat):Int)=((now+p:Nat):Int)+1:=rfl;rw[e];exact G2);exact⟨this.1,this.2.2.trans l1⟩
section
variable {w0 w:World}{M:List bW}
theorem Gt {x:Nat}{pol:Int}{now:Nat}{js:List J}{bk:List Ch}{fl:List Int}{k:Nat}(hS:dF M w0 w x pol now js bk fl k)(dP:1≤pol∧pol≤4)(G:dL now js bk)(n:Nat)(hn1:1≤n)(hn2:n≤20)(dB:now+n≤10000)(hk:k≤1000) :
 Calls Tryz.prog 42 #[.pointer (some ⟨x,0,none⟩),.int .i64 (n:Int)] w fun e w'=>e=.returned (.int .i64 0)∧∃bI bk',Many now js bk n bI bk'∧dF M w0 w' x pol ((now+n:Nat):Int) bI bk' fl k:=by
 refine named fun R HQ=>?_;have x12:w.cell? ⟨x,12,none⟩=some (.int .i64 (now:Int)):=by
  obtain⟨a,y,m,rfl,_,_,_,H⟩:=hS;rw[aj (H.blk 0 rfl)];rfl
 have HS:=ah.mk hS;have GG:=ah.mk G;have HP:=ah.mk dP;have e1:¬(n:Int)<1:=by omega
 have e2:¬(1000:Int)<n:=by omega
 have w1:wrap64 (1099511627776-(n:Int))=1099511627776-n:=wrap_in (by omega) (by omega);have e3:¬(1099511627776-(n:Int))<now:=by omega
 clear hS G dP;go_enter Tryz.func42,Tryz.ntmps42;go_wp2_with fail
 clear x12 e1 e2 e3 w1;go_loopw [21] (fun i wr=>∃p:Nat,i=.int .i64 (p:Int)∧p≤n∧ah (∃bI bk',Many now js bk p bI bk'∧dF M w0 wr x pol ((now+p:Nat):Int) bI bk' fl k)) (fun i _=>n-(intOf i).toNat)
 case atStart=>exact⟨0,rfl,Nat.zero_le _,⟨js,bk,⟨rfl,rfl⟩,HS.out⟩⟩
 case round =>
  clear HS;obtain⟨p,rfl,hp,HB⟩:=hrel;by_cases hlt:p<n
  ·obtain⟨bI,bk',hm,hs⟩:=HB.out;have TC:=ah.mk (Ko hs HP.out (Many.sane GG.out p (by omega) hm).1 (now+p+1) rfl (by omega) hk);have HM:=ah.mk hm;have e1:(p:Int)<n:=by omega
   have w1:wrap64 ((p:Int)+1)=(p:Int)+1:=wrap_in (by omega) (by omega);clear HB hm hs;go_wp2_with (go_at_call 72;refine TC.out.mono ?_;rintro e w2 ⟨rfl,jH,bk2,h2,h3⟩;have S3:=ah.mk h3;have HW:=ah.mk h2;clear h2 h3)
   go_roundw
   case rel=>exact⟨p+1,rfl,by omega,⟨jH,bk2,⟨bI,bk',HM.out,HW.out⟩,S3.out⟩⟩
   case measure=>simp[intOf];omega
  ·obtain rfl:p=n:=by omega
   have e1:¬(p:Int)<p:=by omega
   go_wp2_with fail
   first|go_ret|skip
   rw[←HQ.out];exact⟨rfl,HB.out⟩
theorem MW {x:Nat}{pol:Int}{now:Nat}{js:List J}{bk:List Ch}{fl:List Int}{k:Nat}(hS:dF M w0 w x pol now js bk fl k)(dP:1≤pol∧pol≤4)(G:dL now js bk)(dB:now≤10000)(hk:k≤1000)(id:Nat)(hid:id≤1000)(d:Int)(hd:ways d) :
 Calls Tryz.prog 40 #[.pointer (some ⟨x,0,none⟩),.int .i64 (id:Int),.int .i64 d] w fun e w'=>∃(r:Int) (bI:List J) (bk':List Ch),e=.returned (.int .i64 r)∧(code r∧ig now js bk bI bk')∧dF M w0 w' x pol now bI bk' fl k:=by
 refine named fun R HQ=>?_;have hlen:=G.len;have HS:=ah.mk hS;have GG:=ah.mk G;have HP:=ah.mk (And.intro dP hd);have w1:IntKind.u32.wrap (id:Int)=id:=by rw[IntKind.wrap_u32];omega
 obtain⟨a,y,m,rfl,ku,hy,hm,H⟩:=hS;by_cases hr:id=0∨js.length<id
 ·have JC:=ah.mk (Pv (A:=a.jA) (c:=a.jc) (by rw[aj (H.blk 0 rfl)];rfl) (by rw[aj (H.blk 1 rfl)];rfl) id hr (by omega) (by omega));have z55:=jf;have OV:=ah.mk fun(W:World) (h:Below w.heap.size w W)=>mJ (HS.out.below h) HP.out.1 GG.out dB hk id (by omega) d HP.out.2;clear H ku hy hm G dP hd;go_enter Tryz.func40,Tryz.ntmps40;go_wp2_with (first|(go_at_call 37;have _t:=H2.out;clear _t;refine(OV.out _ (au H2.out _)).mono ?_;rintro e w3 ⟨r,jH,bk2,rfl,ht,hs⟩;have S3:=ah.mk hs;have HT:=ah.mk ht;clear hs ht)|(have _t:=H2.out;clear _t;refine aB (w:=w2) w2.heap.size rfl rfl 55 (.tmp 7) (.tmp 14) rfl je rfl rfl 55 _ z55 rfl mW ?_)|(go_at_call 18;refine JC.out.mono ?_;rintro e w2 ⟨rfl,hb⟩;have H2:=ah.mk hb;clear hb))
  first|go_ret|skip
  rw[←HQ.out];exact⟨r,jH,bk2,rfl,HT.out,S3.out⟩
 ·obtain⟨i,rfl⟩:∃i,id=i+1:=⟨id-1,by omega⟩;obtain⟨j,hij⟩:∃j,js[i]?=some j:=⟨_,List.getElem?_eq_getElem (by omega)⟩;obtain⟨g,hg,hjr⟩:=(fF H 2 rfl).get i j hij;have JC:=ah.mk (ru (p:=a.p) (g:=g) (n:=js.length) (c:=a.jc) (by rw[aj (H.blk 0 rfl)];rfl) (by rw[aj (H.blk 1 rfl),←hg];rfl) i j (by omega) (by omega) hjr);have OV:=ah.mk fun(W:World) (h:Below w.heap.size w W)=>mJ (HS.out.below h) HP.out.1 GG.out dB hk (i+1) (by omega) d HP.out.2;rw[show((i+1:Nat):Int)=(i:Int)+1 from rfl]at *;have j55:=eP j;have j19:=j.lT;obtain⟨h,hh⟩:∃v,v=j.how:=⟨_,rfl⟩;rw[←hh]at j19;clear H ku hy hm G dP hd hij hg hjr hh;cases h3:(h != 3)
  ·go_enter Tryz.func40,Tryz.ntmps40;go_wp2_with (first|(go_at_call 37;have _t:=H2.out;clear _t;refine(OV.out _ (au H2.out _)).mono ?_;rintro e w3 ⟨r,jH,bk2,rfl,ht,hs⟩;have S3:=ah.mk hs;have HT:=ah.mk ht;clear hs ht)|(have _t:=H2.out;clear _t;refine aB (w:=w2) w2.heap.size rfl rfl 55 (.tmp 7) (.tmp 14) rfl j.cells rfl rfl 55 _ j55 rfl j.one ?_)|(go_at_call 18;refine JC.out.mono ?_;rintro e w2 ⟨rfl,hb⟩;have H2:=ah.mk hb;clear hb))
   first|go_ret|skip
   rw[←HQ.out];exact⟨r,jH,bk2,rfl,HT.out,S3.out⟩
  ·go_enter Tryz.func40,Tryz.ntmps40;go_wp2_with (first|(have _t:=H2.out;clear _t;refine aB (w:=w2) w2.heap.size rfl rfl 55 (.tmp 7) (.tmp 14) rfl j.cells rfl rfl 55 _ j55 rfl j.one ?_)|(go_at_call 18;refine JC.out.mono ?_;rintro e w2 ⟨rfl,hb⟩;have H2:=ah.mk hb;clear hb))
   first|go_ret|skip
   rw[←HQ.out];exact⟨130,js,bk,rfl,⟨⟨by decide,by decide⟩,.refl⟩,HS.out.below (au H2.out _)⟩
end
end
section
open Go.RowKit Go.ChangeMaps
section
variable {w0 w:World}{L:List bW}
theorem Uf (H0:Has w0 w L)(it ij:Nat){p g n c:Nat}{tcs:Array Value}{js:List J}(hit:L[it]?=some (aF p (.cells tcs 122)))(hj:L[ij]?=some (aS (.slice (some ⟨g,0,none⟩) n c) js))(hc:tcs[12]?=some (.slice (some ⟨g,0,none⟩) n c))(hn:n≤1000)
 (k:Nat) (j:J) (hk:js[k]?=some j) (now:Int) (h1:j.since≤now) (hs:j.started≤now) (h3:now≤1099511627776) :
 Calls Tryz.prog 33 #[.pointer (some ⟨p,0,none⟩),.int .u32 ((k:Int)+1)] w fun e w'=>((j.how=1)∧e=.returned (.int .i64 0)∧Has w0 w' (L.set ij (aS (.slice (some ⟨g,0,none⟩) n c) (js.set k { j with how:=2}))))∨(¬(j.how=1)∧e=.returned (.int .i64 130)∧Has w0 w' L):=by
 have HA:=H0.alloc (.cells #[.int .i64 1] 3);have hz:∀i,i<([1]:List Int).length→(w.alloc (.cells #[.int .i64 1] 3)).cell? ⟨w.heap.size,0+i,none⟩=some (.int .i64 (([1]:List Int).getD i 0)):=fun i hi=>by
  rw[aj (heap_alloc_new w _)];rcases(by simp at hi;omega:i=0)with rfl<;>simp
 have YES:=fun hy=>ah.mk (IB (cf:=1) HA it ij hit hj hc hn k j hk now h1 hs h3 [1] (by decide) hz 2 hy);have NO:=fun hy=>ah.mk (zo (cf:=1) HA it ij hit hj hc hn k j hk now h1 hs h3 [1] (by decide) hz 2 hy);by_cases hy:([1]:List Int).contains j.how=true
 ·have Y:=YES hy;have hy2:j.how=1:=by simpa using hy
  clear YES NO hz HA H0 hit hj hc hk hy;go_enter Tryz.func33,Tryz.ntmps33;go_wp2_with (first|(go_at_call 64;refine Y.out.mono ?_;rintro e w2 ⟨rfl,hs⟩;have H2:=ah.mk hs;clear hs))
  go_ret;exact .inl ⟨hy2,rfl,H2.out⟩
 ·have hy1:([1]:List Int).contains j.how=false:=by simpa using hy
  have Y:=NO hy1;have hy2:¬(j.how=1):=by simpa using hy1
  clear YES NO hz HA H0 hit hj hc hk hy hy1;go_enter Tryz.func33,Tryz.ntmps33;go_wp2_with (first|(go_at_call 64;refine Y.out.mono ?_;rintro e w2 ⟨rfl,hs⟩;have H2:=ah.mk hs;clear hs))
  go_ret;exact .inr ⟨hy2,rfl,H2.out⟩
end
section
variable {w0 w:World}{M:List bW}
def Moved (M:List bW)(w0:World)(x:Nat)(pol:Int)(now:Nat)(js:List J)(bk:List Ch)(fl:List Int)(k:Nat)(e:Ending)(w':World):Prop :=
 ∃(r:Int) (bI:List J) (bk':List Ch),e=.returned (.int .i64 r)∧(code r∧ig now js bk bI bk')∧dF M w0 w' x pol now bI bk' fl k
theorem Ug {x:Nat}{pol:Int}{now:Nat}{js:List J}{bk:List Ch}{fl:List Int}{k:Nat}(hS:dF M w0 w x pol now js bk fl k)(G:dL now js bk)(dB:now≤10000)(id:Nat)(hid:id≤1000) :
 ∃p:Nat,w.cell? ⟨x,12,none⟩=some (.int .i64 now)∧w.cell? ⟨x,13,none⟩=some (.pointer (some ⟨p,0,none⟩))∧Calls Tryz.prog 33 #[.pointer (some ⟨p,0,none⟩),.int .u32 (id:Int)] w fun e w'=>Moved M w0 x pol now js bk fl k e w':=by
 have hlen:=G.len;obtain⟨a,y,m,rfl,ku,hy,hm,H⟩:=hS;refine⟨a.p,by rw[aj (H.blk 0 rfl)];rfl,by rw[aj (H.blk 0 rfl)];rfl,?_⟩;by_cases hr:id=0∨js.length<id
 ·exact(Nr (p:=a.p) (A:=a.jA) (n:=js.length) (c:=a.jc) id (by rw[aj (H.blk 1 rfl)];rfl) hr (by omega) (by omega)).mono fun e w' ⟨h1,h2⟩=>⟨4,js,bk,h1,⟨⟨by decide,by decide⟩,.refl⟩,a,y,m,rfl,ku,hy,hm,H.below h2⟩
 ·obtain⟨i,rfl⟩:∃i,id=i+1:=⟨id-1,by omega⟩;obtain⟨j,hij⟩:∃j,js[i]?=some j:=⟨_,List.getElem?_eq_getElem (by omega)⟩;obtain⟨g,hg⟩:=jl H hij;have ok:=G.jobs i j hij;have hcl:=mD a pol now js bk y m i;rw[hg]at hcl;refine(Uf (g:=g) (n:=js.length) (c:=a.jc) (js:=js) H 1 2 rfl (by rw[←hg];rfl) (by rw[←hg];rfl) (by omega) i j hij now ok.since ok.started (by omega)).mono fun e w' h=>?_;rcases h with⟨hw,he,h⟩|⟨hw,he,h⟩
  ·refine⟨0,_,_,he,⟨⟨by decide,by decide⟩,.hold i j hij hw .refl⟩,a,y,m,rfl,ku,?_,?_,?_⟩
   ·rw[lK hij (by unfold J.on;simp[hw])];exact hy
   ·rw[lK hij (by unfold J.on;simp[hw])];exact hm
   ·rw[hcl];exact h
  ·exact⟨130,js,bk,he,⟨⟨by decide,by decide⟩,.refl⟩,a,y,m,rfl,ku,hy,hm,h⟩
theorem Kq {x:Nat}{pol:Int}{now:Nat}{js:List J}{bk:List Ch}{fl:List Int}{k:Nat}(hS:dF M w0 w x pol now js bk fl k)(G:dL now js bk)(dB:now≤10000)(id:Nat)(hid:id≤1000) :
 ∃p:Nat,w.cell? ⟨x,12,none⟩=some (.int .i64 now)∧w.cell? ⟨x,13,none⟩=some (.pointer (some ⟨p,0,none⟩))∧Calls Tryz.prog 35 #[.pointer (some ⟨p,0,none⟩),.int .u32 (id:Int),.int .i64 (now:Int)] w fun e w'=>Moved M w0 x pol now js bk fl k e w':=by
 have hlen:=G.len;obtain⟨a,y,m,rfl,ku,hy,hm,H⟩:=hS;refine⟨a.p,by rw[aj (H.blk 0 rfl)];rfl,by rw[aj (H.blk 0 rfl)];rfl,?_⟩;by_cases hr:id=0∨js.length<id
 ·exact(Cb (p:=a.p) (A:=a.jA) (n:=js.length) (c:=a.jc) id (by rw[aj (H.blk 1 rfl)];rfl) hr (by omega) (by omega) now).mono fun e w' ⟨h1,h2⟩=>⟨4,js,bk,h1,⟨⟨by decide,by decide⟩,.refl⟩,a,y,m,rfl,ku,hy,hm,H.below h2⟩
 ·obtain⟨i,rfl⟩:∃i,id=i+1:=⟨id-1,by omega⟩;obtain⟨j,hij⟩:∃j,js[i]?=some j:=⟨_,List.getElem?_eq_getElem (by omega)⟩;obtain⟨g,hg⟩:=jl H hij;have ok:=G.jobs i j hij;have hcl:=mD a pol now js bk y m i;rw[hg]at hcl;refine(zH (g:=g) (n:=js.length) (c:=a.jc) (js:=js) H 1 2 rfl (by rw[←hg];rfl) (by rw[←hg];rfl) (by omega) i j hij now ok.since ok.started (by omega)).mono fun e w' h=>?_;rcases h with⟨hw,he,h⟩|⟨hw,he,h⟩
  ·refine⟨0,_,_,he,⟨⟨by decide,by decide⟩,.release i j hij hw .refl⟩,a,y,m,rfl,ku,?_,?_,?_⟩
   ·rw[lK hij (by unfold J.on;simp[hw])];exact hy
   ·rw[lK hij (by unfold J.on;simp[hw])];exact hm
   ·rw[hcl];exact h
  ·exact⟨130,js,bk,he,⟨⟨by decide,by decide⟩,.refl⟩,a,y,m,rfl,ku,hy,hm,h⟩
theorem V4 {x:Nat}{pol:Int}{now:Nat}{js:List J}{bk:List Ch}{fl:List Int}{k:Nat}(hS:dF M w0 w x pol now js bk fl k)(dP:1≤pol∧pol≤4)(G:dL now js bk)(dB:now≤10000)(hk:k≤900)(id:Nat)(hid:id≤1000)(bx:Nat)(hb:w.cell? ⟨bx,0,none⟩=some (.pointer (some ⟨x,0,none⟩))) :
 Calls Tryz.prog 32 #[.int .i64 (id:Int),.pointer (some ⟨bx,0,none⟩)] w fun e w'=>Moved M w0 x pol now js bk fl k e w':=by
 refine named fun R HQ=>?_;have hu:IntKind.u32.wrap (id:Int)=id:=by rw[IntKind.wrap_u32];omega
 obtain⟨p,f12,f13,HC⟩:=Ug hS G dB id hid;have HC:=ah.mk HC;clear hS G dP;go_enter Tryz.func32,Tryz.ntmps32;go_wp2_with (go_at_call 33;refine HC.out.mono ?_;rintro e w2 ⟨r,jH,bk2,rfl,ht,hs⟩;have S2:=ah.mk (And.intro ht hs);clear ht hs)
 rw[←HQ.out];exact⟨r,jH,bk2,rfl,S2.out.1,S2.out.2⟩
theorem Oy {x:Nat}{pol:Int}{now:Nat}{js:List J}{bk:List Ch}{fl:List Int}{k:Nat}(hS:dF M w0 w x pol now js bk fl k)(dP:1≤pol∧pol≤4)(G:dL now js bk)(dB:now≤10000)(hk:k≤900)(id:Nat)(hid:id≤1000)(bx:Nat)(hb:w.cell? ⟨bx,0,none⟩=some (.pointer (some ⟨x,0,none⟩))) :
 Calls Tryz.prog 34 #[.int .i64 (id:Int),.pointer (some ⟨bx,0,none⟩)] w fun e w'=>Moved M w0 x pol now js bk fl k e w':=by
 refine named fun R HQ=>?_;have hu:IntKind.u32.wrap (id:Int)=id:=by rw[IntKind.wrap_u32];omega
 have hd:w.drew.cell? ⟨bx,0,none⟩=some (.pointer (some ⟨x,0,none⟩)):=hb;have hSd:dF M w0 w.drew x pol now js bk fl k:=by
  obtain⟨a,y,m,h1,h2,h3,h4,h5⟩:=hS;exact⟨a,y,m,h1,h2,h3,h4,h5.drew⟩
 obtain⟨p,f12,f13,HC⟩:=Kq hSd G dB id hid;have HC:=ah.mk HC;have HG:w.drew.cell? ⟨bx,0,none⟩=some (.pointer (some ⟨x,0,none⟩))∧w.drew.cell? ⟨x,13,none⟩=some (.pointer (some ⟨p,0,none⟩))∧w.drew.cell? ⟨x,12,none⟩=some (.int .i64 (now:Int))∧True:=⟨hd,f13,f12,trivial⟩;clear hS G dP hSd hd hb f12 f13;go_enter Tryz.func34,Tryz.ntmps34;go_wp2_with fail
 refine aK (fun W=>W.cell? ⟨bx,0,none⟩=some (.pointer (some ⟨x,0,none⟩))∧W.cell? ⟨x,13,none⟩=some (.pointer (some ⟨p,0,none⟩))∧W.cell? ⟨x,12,none⟩=some (.int .i64 (now:Int))∧True) 10 (by kernel_rfl) (by kernel_rfl) ?_;refine bg 0 HG ?_;refine bg 1 HG ?_;refine bg 2 HG ?_;refine bg 3 HG ?_;refine bg 4 HG ?_;refine bg 5 HG ?_;refine bg 6 HG ?_;refine bg 7 HG ?_;refine bg 8 HG ?_;refine bg 9 HG ?_;refine aO (by kernel_rfl) ?_;simp only[List.drop_succ_cons,List.drop_zero];clear HG;go_wp2_with (go_at_call 35;refine HC.out.mono ?_;rintro e w2 ⟨r,jH,bk2,rfl,ht,hs⟩;have S2:=ah.mk (And.intro ht hs);clear ht hs)
 rw[←HQ.out];exact⟨r,jH,bk2,rfl,S2.out.1,S2.out.2⟩
theorem QT {x:Nat}{pol:Int}{now:Nat}{js:List J}{bk:List Ch}{fl:List Int}{k:Nat}(hS:dF M w0 w x pol now js bk fl k)(dP:1≤pol∧pol≤4)(G:dL now js bk)(dB:now≤10000)(hk:k≤900)(id:Nat)(hid:id≤1000)(bx:Nat)(hb:w.cell? ⟨bx,0,none⟩=some (.pointer (some ⟨x,0,none⟩))) :
 Calls Tryz.prog 36 #[.int .i64 (id:Int),.pointer (some ⟨bx,0,none⟩)] w fun e w'=>Moved M w0 x pol now js bk fl k e w':=by
 refine named fun R HQ=>?_;have hu:IntKind.u32.wrap (id:Int)=id:=by rw[IntKind.wrap_u32];omega
 have HC:=ah.mk (mJ hS dP G dB (by omega) id (by omega) 7 (by unfold ways;simp));clear hS G dP;go_enter Tryz.func36,Tryz.ntmps36;go_wp2_with (go_at_call 37;refine HC.out.mono ?_;rintro e w2 ⟨r,jH,bk2,rfl,ht,hs⟩;have S2:=ah.mk (And.intro ht hs);clear ht hs)
 rw[←HQ.out];exact⟨r,jH,bk2,rfl,S2.out.1,S2.out.2⟩
theorem Oz {x:Nat}{pol:Int}{now:Nat}{js:List J}{bk:List Ch}{fl:List Int}{k:Nat}(hS:dF M w0 w x pol now js bk fl k)(dP:1≤pol∧pol≤4)(G:dL now js bk)(dB:now≤10000)(hk:k≤900)(id:Nat)(hid:id≤1000)(bx:Nat)(hb:w.cell? ⟨bx,0,none⟩=some (.pointer (some ⟨x,0,none⟩))) :
 Calls Tryz.prog 38 #[.int .i64 (id:Int),.pointer (some ⟨bx,0,none⟩)] w fun e w'=>Moved M w0 x pol now js bk fl k e w':=by
 refine named fun R HQ=>?_;have hu:IntKind.u32.wrap (id:Int)=id:=by rw[IntKind.wrap_u32];omega
 have HC:=ah.mk (mJ hS dP G dB (by omega) id (by omega) 0 (by unfold ways;simp));clear hS G dP;go_enter Tryz.func38,Tryz.ntmps38;go_wp2_with (go_at_call 37;refine HC.out.mono ?_;rintro e w2 ⟨r,jH,bk2,rfl,ht,hs⟩;have S2:=ah.mk (And.intro ht hs);clear ht hs)
 rw[←HQ.out];exact⟨r,jH,bk2,rfl,S2.out.1,S2.out.2⟩
theorem V5 {x:Nat}{pol:Int}{now:Nat}{js:List J}{bk:List Ch}{fl:List Int}{k:Nat}(hS:dF M w0 w x pol now js bk fl k)(dP:1≤pol∧pol≤4)(G:dL now js bk)(dB:now≤10000)(hk:k≤900)(id:Nat)(hid:id≤1000)(bx:Nat)(hb:w.cell? ⟨bx,0,none⟩=some (.pointer (some ⟨x,0,none⟩))) :
 Calls Tryz.prog 39 #[.int .i64 (id:Int),.pointer (some ⟨bx,0,none⟩)] w fun e w'=>Moved M w0 x pol now js bk fl k e w':=by
 refine named fun R HQ=>?_;have hu:IntKind.u32.wrap (id:Int)=id:=by rw[IntKind.wrap_u32];omega
 have HC:=ah.mk (MW hS dP G dB (by omega) id hid 5 (by unfold ways;simp));clear hS G dP;go_enter Tryz.func39,Tryz.ntmps39;go_wp2_with (go_at_call 40;refine HC.out.mono ?_;rintro e w2 ⟨r,jH,bk2,rfl,ht,hs⟩;have S2:=ah.mk (And.intro ht hs);clear ht hs)
 rw[←HQ.out];exact⟨r,jH,bk2,rfl,S2.out.1,S2.out.2⟩
theorem QU {x:Nat}{pol:Int}{now:Nat}{js:List J}{bk:List Ch}{fl:List Int}{k:Nat}(hS:dF M w0 w x pol now js bk fl k)(dP:1≤pol∧pol≤4)(G:dL now js bk)(dB:now≤10000)(hk:k≤900)(id:Nat)(hid:id≤1000)(bx:Nat)(hb:w.cell? ⟨bx,0,none⟩=some (.pointer (some ⟨x,0,none⟩))) :
 Calls Tryz.prog 41 #[.int .i64 (id:Int),.pointer (some ⟨bx,0,none⟩)] w fun e w'=>Moved M w0 x pol now js bk fl k e w':=by
 refine named fun R HQ=>?_;have hu:IntKind.u32.wrap (id:Int)=id:=by rw[IntKind.wrap_u32];omega
 have HC:=ah.mk (MW hS dP G dB (by omega) id hid 6 (by unfold ways;simp));clear hS G dP;go_enter Tryz.func41,Tryz.ntmps41;go_wp2_with (go_at_call 40;refine HC.out.mono ?_;rintro e w2 ⟨r,jH,bk2,rfl,ht,hs⟩;have S2:=ah.mk (And.intro ht hs);clear ht hs)
 rw[←HQ.out];exact⟨r,jH,bk2,rfl,S2.out.1,S2.out.2⟩
end
end
end Go.Proofs.YtandhagfhppgaaaGreatDoor
