/- Part 43 of a proof: contracts of the functions that the law reaches. No condition. -/
import Derived.Test.YtandhagfhppgaaaGreatDoorG37
set_option linter.all false
set_option maxRecDepth 100000
set_option maxHeartbeats 16000000
namespace Go.Proofs.YtandhagfhppgaaaGreatDoor
section
open Go.RowKit Go.ChangeMaps
def Many (now:Nat)(js:List J)(bk:List Ch):Nat→List J→List Ch→Prop
 |0,bG,bk'=>bG=js∧bk'=bk
 |p+1,bG,bk'=>∃l7 bk1,Many now js bk p l7 bk1∧gV ((now+p+1:Nat):Int) l7 bk1 bG bk'
theorem Many.sane {now:Nat}{js:List J}{bk:List Ch}(G:dJ now js bk):∀(p:Nat) {bG:List J} {bk':List Ch},now+p≤10000→Many now js bk p bG bk'→dJ ((now+p:Nat):Int) bG bk'∧bG.length=js.length
 |0,bG,bk',_,⟨e1,e2⟩=>by subst e1 e2;exact⟨G,rfl⟩
 |p+1,bG,bk',hp,⟨l7,bk1,h1,h2⟩=>by
  obtain⟨G1,l1⟩:=Many.sane G p (by omega) h1;have G2:=G1.tick (by omega);have:=h2.sane (by have e:((now+p+1:Nat):Int)=((now+p:Nat):Int)+1:=rfl;rw[e];exact G2);exact⟨this.1,this.2.2.trans l1⟩
section
variable {w0 w:World}{M:List bV}
theorem GR {x:Nat}{pol:Int}{now:Nat}{js:List J}{bk:List Ch}{fl:List Int}{k:Nat}(hS:dL M w0 w x pol now js bk fl k)(dK:1≤pol∧pol≤4)(G:dJ now js bk)(n:Nat)(hn1:1≤n)(hn2:n≤20)(dB:now+n≤10000)(hk:k≤1000) :
 Calls Tryz.prog 42 #[.pointer (some ⟨x,0,none⟩),.int .i64 (n:Int)] w fun e w'=>e=.returned (.int .i64 0)∧∃bG bk',Many now js bk n bG bk'∧dL M w0 w' x pol ((now+n:Nat):Int) bG bk' fl k:=by
 refine named fun R HQ=>?_;have x12:w.cell? ⟨x,12,none⟩=some (.int .i64 (now:Int)):=by
  obtain⟨a,y,m,rfl,_,_,_,H⟩:=hS;rw[aj (H.blk 0 rfl)];rfl
 have HS:=ah.mk hS;have GG:=ah.mk G;have HP:=ah.mk dK;have e1:¬(n:Int)<1:=by omega
 have e2:¬(1000:Int)<n:=by omega
 have w1:wrap64 (1099511627776-(n:Int))=1099511627776-n:=wrap_in (by omega) (by omega);have e3:¬(1099511627776-(n:Int))<now:=by omega
 clear hS G dK;go_enter Tryz.func42,Tryz.ntmps42;go_wp2_with fail
 clear x12 e1 e2 e3 w1;go_loopw [21] (fun i wr=>∃p:Nat,i=.int .i64 (p:Int)∧p≤n∧ah (∃bG bk',Many now js bk p bG bk'∧dL M w0 wr x pol ((now+p:Nat):Int) bG bk' fl k)) (fun i _=>n-(intOf i).toNat)
 case atStart=>exact⟨0,rfl,Nat.zero_le _,⟨js,bk,⟨rfl,rfl⟩,HS.out⟩⟩
 case round =>
  clear HS;obtain⟨p,rfl,hp,HB⟩:=hrel;by_cases hlt:p<n
  ·obtain⟨bG,bk',hm,hs⟩:=HB.out;have TC:=ah.mk (KD hs HP.out (Many.sane GG.out p (by omega) hm).1 (now+p+1) rfl (by omega) hk);have HM:=ah.mk hm;have e1:(p:Int)<n:=by omega
   have w1:wrap64 ((p:Int)+1)=(p:Int)+1:=wrap_in (by omega) (by omega);clear HB hm hs;go_wp2_with (go_at_call 72;refine TC.out.mono ?_;rintro e w2 ⟨rfl,jo,bk2,h2,h3⟩;have S3:=ah.mk h3;have HW:=ah.mk h2;clear h2 h3)
   go_roundw
   case rel=>exact⟨p+1,rfl,by omega,⟨jo,bk2,⟨bG,bk',HM.out,HW.out⟩,S3.out⟩⟩
   case measure=>simp[intOf];omega
  ·obtain rfl:p=n:=by omega
   have e1:¬(p:Int)<p:=by omega
   go_wp2_with fail
   first|go_ret|skip
   rw[←HQ.out];exact⟨rfl,HB.out⟩
theorem Nr {x:Nat}{pol:Int}{now:Nat}{js:List J}{bk:List Ch}{fl:List Int}{k:Nat}(hS:dL M w0 w x pol now js bk fl k)(dK:1≤pol∧pol≤4)(G:dJ now js bk)(dB:now≤10000)(hk:k≤1000)(id:Nat)(hid:id≤1000)(d:Int)(hd:ways d) :
 Calls Tryz.prog 40 #[.pointer (some ⟨x,0,none⟩),.int .i64 (id:Int),.int .i64 d] w fun e w'=>∃(r:Int) (bG:List J) (bk':List Ch),e=.returned (.int .i64 r)∧(code r∧gV now js bk bG bk')∧dL M w0 w' x pol now bG bk' fl k:=by
 refine named fun R HQ=>?_;have hlen:=G.len;have HS:=ah.mk hS;have GG:=ah.mk G;have HP:=ah.mk (And.intro dK hd);have w1:IntKind.u32.wrap (id:Int)=id:=by rw[IntKind.wrap_u32];omega
 obtain⟨a,y,m,rfl,lG,hy,hm,H⟩:=hS;by_cases hr:id=0∨js.length<id
 ·have JC:=ah.mk (P6 (A:=a.jA) (c:=a.jc) (by rw[aj (H.blk 0 rfl)];rfl) (by rw[aj (H.blk 1 rfl)];rfl) id hr (by omega) (by omega));have z55:=jr;have OV:=ah.mk fun(W:World) (h:Below w.heap.size w W)=>nC (HS.out.below h) HP.out.1 GG.out dB hk id (by omega) d HP.out.2;clear H lG hy hm G dK hd;go_enter Tryz.func40,Tryz.ntmps40;go_wp2_with (first|(go_at_call 37;have _t:=H2.out;clear _t;refine(OV.out _ (au H2.out _)).mono ?_;rintro e w3 ⟨r,jo,bk2,rfl,ht,hs⟩;have S3:=ah.mk hs;have HT:=ah.mk ht;clear hs ht)|(have _t:=H2.out;clear _t;refine aB (w:=w2) w2.heap.size rfl rfl 55 (.tmp 7) (.tmp 14) rfl jq rfl rfl 55 _ z55 rfl nK ?_)|(go_at_call 18;refine JC.out.mono ?_;rintro e w2 ⟨rfl,hb⟩;have H2:=ah.mk hb;clear hb))
  first|go_ret|skip
  rw[←HQ.out];exact⟨r,jo,bk2,rfl,HT.out,S3.out⟩
 ·obtain⟨i,rfl⟩:∃i,id=i+1:=⟨id-1,by omega⟩;obtain⟨j,hij⟩:∃j,js[i]?=some j:=⟨_,List.getElem?_eq_getElem (by omega)⟩;obtain⟨g,hg,hjr⟩:=(gI H 2 rfl).get i j hij;have JC:=ah.mk (xU (p:=a.p) (g:=g) (n:=js.length) (c:=a.jc) (by rw[aj (H.blk 0 rfl)];rfl) (by rw[aj (H.blk 1 rfl),←hg];rfl) i j (by omega) (by omega) hjr);have OV:=ah.mk fun(W:World) (h:Below w.heap.size w W)=>nC (HS.out.below h) HP.out.1 GG.out dB hk (i+1) (by omega) d HP.out.2;rw[show((i+1:Nat):Int)=(i:Int)+1 from rfl]at *;have j55:=eY j;have j19:=j.mM;obtain⟨h,hh⟩:∃v,v=j.how:=⟨_,rfl⟩;rw[←hh]at j19;clear H lG hy hm G dK hd hij hg hjr hh;cases h3:(h != 3)
  ·go_enter Tryz.func40,Tryz.ntmps40;go_wp2_with (first|(go_at_call 37;have _t:=H2.out;clear _t;refine(OV.out _ (au H2.out _)).mono ?_;rintro e w3 ⟨r,jo,bk2,rfl,ht,hs⟩;have S3:=ah.mk hs;have HT:=ah.mk ht;clear hs ht)|(have _t:=H2.out;clear _t;refine aB (w:=w2) w2.heap.size rfl rfl 55 (.tmp 7) (.tmp 14) rfl j.cells rfl rfl 55 _ j55 rfl j.one ?_)|(go_at_call 18;refine JC.out.mono ?_;rintro e w2 ⟨rfl,hb⟩;have H2:=ah.mk hb;clear hb))
   first|go_ret|skip
   rw[←HQ.out];exact⟨r,jo,bk2,rfl,HT.out,S3.out⟩
  ·go_enter Tryz.func40,Tryz.ntmps40;go_wp2_with (first|(have _t:=H2.out;clear _t;refine aB (w:=w2) w2.heap.size rfl rfl 55 (.tmp 7) (.tmp 14) rfl j.cells rfl rfl 55 _ j55 rfl j.one ?_)|(go_at_call 18;refine JC.out.mono ?_;rintro e w2 ⟨rfl,hb⟩;have H2:=ah.mk hb;clear hb))
   first|go_ret|skip
   rw[←HQ.out];exact⟨130,js,bk,rfl,⟨⟨by decide,by decide⟩,.refl⟩,HS.out.below (au H2.out _)⟩
end
end
section
open Go.RowKit Go.ChangeMaps
section
variable {w0 w:World}{L:List bV}
theorem Ux (H0:Has w0 w L)(it ij:Nat){p g n c:Nat}{tcs:Array Value}{js:List J}(hit:L[it]?=some (aF p (.cells tcs 122)))(hj:L[ij]?=some (aO (.slice (some ⟨g,0,none⟩) n c) js))(hc:tcs[12]?=some (.slice (some ⟨g,0,none⟩) n c))(hn:n≤1000)
 (k:Nat) (j:J) (hk:js[k]?=some j) (now:Int) (h1:j.since≤now) (hs:j.started≤now) (h3:now≤1099511627776) :
 Calls Tryz.prog 33 #[.pointer (some ⟨p,0,none⟩),.int .u32 ((k:Int)+1)] w fun e w'=>((j.how=1)∧e=.returned (.int .i64 0)∧Has w0 w' (L.set ij (aO (.slice (some ⟨g,0,none⟩) n c) (js.set k { j with how:=2}))))∨(¬(j.how=1)∧e=.returned (.int .i64 130)∧Has w0 w' L):=by
 have HA:=H0.alloc (.cells #[.int .i64 1] 3);have hz:∀i,i<([1]:List Int).length→(w.alloc (.cells #[.int .i64 1] 3)).cell? ⟨w.heap.size,0+i,none⟩=some (.int .i64 (([1]:List Int).getD i 0)):=fun i hi=>by
  rw[aj (heap_alloc_new w _)];rcases(by simp at hi;omega:i=0)with rfl<;>simp
 have YES:=fun hy=>ah.mk (IJ (cf:=1) HA it ij hit hj hc hn k j hk now h1 hs h3 [1] (by decide) hz 2 hy);have NO:=fun hy=>ah.mk (zD (cf:=1) HA it ij hit hj hc hn k j hk now h1 hs h3 [1] (by decide) hz 2 hy);by_cases hy:([1]:List Int).contains j.how=true
 ·have Y:=YES hy;have hy2:j.how=1:=by simpa using hy
  clear YES NO hz HA H0 hit hj hc hk hy;go_enter Tryz.func33,Tryz.ntmps33;go_wp2_with (first|(go_at_call 64;refine Y.out.mono ?_;rintro e w2 ⟨rfl,hs⟩;have H2:=ah.mk hs;clear hs))
  go_ret;exact .inl ⟨hy2,rfl,H2.out⟩
 ·have hy1:([1]:List Int).contains j.how=false:=by simpa using hy
  have Y:=NO hy1;have hy2:¬(j.how=1):=by simpa using hy1
  clear YES NO hz HA H0 hit hj hc hk hy hy1;go_enter Tryz.func33,Tryz.ntmps33;go_wp2_with (first|(go_at_call 64;refine Y.out.mono ?_;rintro e w2 ⟨rfl,hs⟩;have H2:=ah.mk hs;clear hs))
  go_ret;exact .inr ⟨hy2,rfl,H2.out⟩
end
section
variable {w0 w:World}{M:List bV}
def Moved (M:List bV)(w0:World)(x:Nat)(pol:Int)(now:Nat)(js:List J)(bk:List Ch)(fl:List Int)(k:Nat)(e:Ending)(w':World):Prop :=
 ∃(r:Int) (bG:List J) (bk':List Ch),e=.returned (.int .i64 r)∧(code r∧gV now js bk bG bk')∧dL M w0 w' x pol now bG bk' fl k
theorem Uy {x:Nat}{pol:Int}{now:Nat}{js:List J}{bk:List Ch}{fl:List Int}{k:Nat}(hS:dL M w0 w x pol now js bk fl k)(G:dJ now js bk)(dB:now≤10000)(id:Nat)(hid:id≤1000) :
 ∃p:Nat,w.cell? ⟨x,12,none⟩=some (.int .i64 now)∧w.cell? ⟨x,13,none⟩=some (.pointer (some ⟨p,0,none⟩))∧Calls Tryz.prog 33 #[.pointer (some ⟨p,0,none⟩),.int .u32 (id:Int)] w fun e w'=>Moved M w0 x pol now js bk fl k e w':=by
 have hlen:=G.len;obtain⟨a,y,m,rfl,lG,hy,hm,H⟩:=hS;refine⟨a.p,by rw[aj (H.blk 0 rfl)];rfl,by rw[aj (H.blk 0 rfl)];rfl,?_⟩;by_cases hr:id=0∨js.length<id
 ·exact(NV (p:=a.p) (A:=a.jA) (n:=js.length) (c:=a.jc) id (by rw[aj (H.blk 1 rfl)];rfl) hr (by omega) (by omega)).mono fun e w' ⟨h1,h2⟩=>⟨4,js,bk,h1,⟨⟨by decide,by decide⟩,.refl⟩,a,y,m,rfl,lG,hy,hm,H.below h2⟩
 ·obtain⟨i,rfl⟩:∃i,id=i+1:=⟨id-1,by omega⟩;obtain⟨j,hij⟩:∃j,js[i]?=some j:=⟨_,List.getElem?_eq_getElem (by omega)⟩;obtain⟨g,hg⟩:=jy H hij;have ok:=G.jobs i j hij;have hcl:=mZ a pol now js bk y m i;rw[hg]at hcl;refine(Ux (g:=g) (n:=js.length) (c:=a.jc) (js:=js) H 1 2 rfl (by rw[←hg];rfl) (by rw[←hg];rfl) (by omega) i j hij now ok.since ok.started (by omega)).mono fun e w' h=>?_;rcases h with⟨hw,he,h⟩|⟨hw,he,h⟩
  ·refine⟨0,_,_,he,⟨⟨by decide,by decide⟩,.hold i j hij hw .refl⟩,a,y,m,rfl,lG,?_,?_,?_⟩
   ·rw[lZ hij (by unfold J.on;simp[hw])];exact hy
   ·rw[lZ hij (by unfold J.on;simp[hw])];exact hm
   ·rw[hcl];exact h
  ·exact⟨130,js,bk,he,⟨⟨by decide,by decide⟩,.refl⟩,a,y,m,rfl,lG,hy,hm,h⟩
theorem KE {x:Nat}{pol:Int}{now:Nat}{js:List J}{bk:List Ch}{fl:List Int}{k:Nat}(hS:dL M w0 w x pol now js bk fl k)(G:dJ now js bk)(dB:now≤10000)(id:Nat)(hid:id≤1000) :
 ∃p:Nat,w.cell? ⟨x,12,none⟩=some (.int .i64 now)∧w.cell? ⟨x,13,none⟩=some (.pointer (some ⟨p,0,none⟩))∧Calls Tryz.prog 35 #[.pointer (some ⟨p,0,none⟩),.int .u32 (id:Int),.int .i64 (now:Int)] w fun e w'=>Moved M w0 x pol now js bk fl k e w':=by
 have hlen:=G.len;obtain⟨a,y,m,rfl,lG,hy,hm,H⟩:=hS;refine⟨a.p,by rw[aj (H.blk 0 rfl)];rfl,by rw[aj (H.blk 0 rfl)];rfl,?_⟩;by_cases hr:id=0∨js.length<id
 ·exact(CX (p:=a.p) (A:=a.jA) (n:=js.length) (c:=a.jc) id (by rw[aj (H.blk 1 rfl)];rfl) hr (by omega) (by omega) now).mono fun e w' ⟨h1,h2⟩=>⟨4,js,bk,h1,⟨⟨by decide,by decide⟩,.refl⟩,a,y,m,rfl,lG,hy,hm,H.below h2⟩
 ·obtain⟨i,rfl⟩:∃i,id=i+1:=⟨id-1,by omega⟩;obtain⟨j,hij⟩:∃j,js[i]?=some j:=⟨_,List.getElem?_eq_getElem (by omega)⟩;obtain⟨g,hg⟩:=jy H hij;have ok:=G.jobs i j hij;have hcl:=mZ a pol now js bk y m i;rw[hg]at hcl;refine(zS (g:=g) (n:=js.length) (c:=a.jc) (js:=js) H 1 2 rfl (by rw[←hg];rfl) (by rw[←hg];rfl) (by omega) i j hij now ok.since ok.started (by omega)).mono fun e w' h=>?_;rcases h with⟨hw,he,h⟩|⟨hw,he,h⟩
  ·refine⟨0,_,_,he,⟨⟨by decide,by decide⟩,.release i j hij hw .refl⟩,a,y,m,rfl,lG,?_,?_,?_⟩
   ·rw[lZ hij (by unfold J.on;simp[hw])];exact hy
   ·rw[lZ hij (by unfold J.on;simp[hw])];exact hm
   ·rw[hcl];exact h
  ·exact⟨130,js,bk,he,⟨⟨by decide,by decide⟩,.refl⟩,a,y,m,rfl,lG,hy,hm,h⟩
theorem Wn {x:Nat}{pol:Int}{now:Nat}{js:List J}{bk:List Ch}{fl:List Int}{k:Nat}(hS:dL M w0 w x pol now js bk fl k)(dK:1≤pol∧pol≤4)(G:dJ now js bk)(dB:now≤10000)(hk:k≤900)(id:Nat)(hid:id≤1000)(bx:Nat)(hb:w.cell? ⟨bx,0,none⟩=some (.pointer (some ⟨x,0,none⟩))) :
 Calls Tryz.prog 32 #[.int .i64 (id:Int),.pointer (some ⟨bx,0,none⟩)] w fun e w'=>Moved M w0 x pol now js bk fl k e w':=by
 refine named fun R HQ=>?_;have hu:IntKind.u32.wrap (id:Int)=id:=by rw[IntKind.wrap_u32];omega
 obtain⟨p,f12,f13,HC⟩:=Uy hS G dB id hid;have HC:=ah.mk HC;clear hS G dK;go_enter Tryz.func32,Tryz.ntmps32;go_wp2_with (go_at_call 33;refine HC.out.mono ?_;rintro e w2 ⟨r,jo,bk2,rfl,ht,hs⟩;have S2:=ah.mk (And.intro ht hs);clear ht hs)
 rw[←HQ.out];exact⟨r,jo,bk2,rfl,S2.out.1,S2.out.2⟩
theorem OT {x:Nat}{pol:Int}{now:Nat}{js:List J}{bk:List Ch}{fl:List Int}{k:Nat}(hS:dL M w0 w x pol now js bk fl k)(dK:1≤pol∧pol≤4)(G:dJ now js bk)(dB:now≤10000)(hk:k≤900)(id:Nat)(hid:id≤1000)(bx:Nat)(hb:w.cell? ⟨bx,0,none⟩=some (.pointer (some ⟨x,0,none⟩))) :
 Calls Tryz.prog 34 #[.int .i64 (id:Int),.pointer (some ⟨bx,0,none⟩)] w fun e w'=>Moved M w0 x pol now js bk fl k e w':=by
 refine named fun R HQ=>?_;have hu:IntKind.u32.wrap (id:Int)=id:=by rw[IntKind.wrap_u32];omega
 have hd:w.drew.cell? ⟨bx,0,none⟩=some (.pointer (some ⟨x,0,none⟩)):=hb;have hSd:dL M w0 w.drew x pol now js bk fl k:=by
  obtain⟨a,y,m,h1,h2,h3,h4,h5⟩:=hS;exact⟨a,y,m,h1,h2,h3,h4,h5.drew⟩
 obtain⟨p,f12,f13,HC⟩:=KE hSd G dB id hid;have HC:=ah.mk HC;have HG:w.drew.cell? ⟨bx,0,none⟩=some (.pointer (some ⟨x,0,none⟩))∧w.drew.cell? ⟨x,13,none⟩=some (.pointer (some ⟨p,0,none⟩))∧w.drew.cell? ⟨x,12,none⟩=some (.int .i64 (now:Int))∧True:=⟨hd,f13,f12,trivial⟩;clear hS G dK hSd hd hb f12 f13;go_enter Tryz.func34,Tryz.ntmps34;go_wp2_with fail
 refine aK (fun W=>W.cell? ⟨bx,0,none⟩=some (.pointer (some ⟨x,0,none⟩))∧W.cell? ⟨x,13,none⟩=some (.pointer (some ⟨p,0,none⟩))∧W.cell? ⟨x,12,none⟩=some (.int .i64 (now:Int))∧True) 10 (by kernel_rfl) (by kernel_rfl) ?_;refine aZ 0 HG ?_;refine aZ 1 HG ?_;refine aZ 2 HG ?_;refine aZ 3 HG ?_;refine aZ 4 HG ?_;refine aZ 5 HG ?_;refine aZ 6 HG ?_;refine aZ 7 HG ?_;refine aZ 8 HG ?_;refine aZ 9 HG ?_;refine aQ (by kernel_rfl) ?_;simp only[List.drop_succ_cons,List.drop_zero];clear HG;go_wp2_with (go_at_call 35;refine HC.out.mono ?_;rintro e w2 ⟨r,jo,bk2,rfl,ht,hs⟩;have S2:=ah.mk (And.intro ht hs);clear ht hs)
 rw[←HQ.out];exact⟨r,jo,bk2,rfl,S2.out.1,S2.out.2⟩
theorem Rl {x:Nat}{pol:Int}{now:Nat}{js:List J}{bk:List Ch}{fl:List Int}{k:Nat}(hS:dL M w0 w x pol now js bk fl k)(dK:1≤pol∧pol≤4)(G:dJ now js bk)(dB:now≤10000)(hk:k≤900)(id:Nat)(hid:id≤1000)(bx:Nat)(hb:w.cell? ⟨bx,0,none⟩=some (.pointer (some ⟨x,0,none⟩))) :
 Calls Tryz.prog 36 #[.int .i64 (id:Int),.pointer (some ⟨bx,0,none⟩)] w fun e w'=>Moved M w0 x pol now js bk fl k e w':=by
 refine named fun R HQ=>?_;have hu:IntKind.u32.wrap (id:Int)=id:=by rw[IntKind.wrap_u32];omega
 have HC:=ah.mk (nC hS dK G dB (by omega) id (by omega) 7 (by unfold ways;simp));clear hS G dK;go_enter Tryz.func36,Tryz.ntmps36;go_wp2_with (go_at_call 37;refine HC.out.mono ?_;rintro e w2 ⟨r,jo,bk2,rfl,ht,hs⟩;have S2:=ah.mk (And.intro ht hs);clear ht hs)
 rw[←HQ.out];exact⟨r,jo,bk2,rfl,S2.out.1,S2.out.2⟩
theorem OU {x:Nat}{pol:Int}{now:Nat}{js:List J}{bk:List Ch}{fl:List Int}{k:Nat}(hS:dL M w0 w x pol now js bk fl k)(dK:1≤pol∧pol≤4)(G:dJ now js bk)(dB:now≤10000)(hk:k≤900)(id:Nat)(hid:id≤1000)(bx:Nat)(hb:w.cell? ⟨bx,0,none⟩=some (.pointer (some ⟨x,0,none⟩))) :
 Calls Tryz.prog 38 #[.int .i64 (id:Int),.pointer (some ⟨bx,0,none⟩)] w fun e w'=>Moved M w0 x pol now js bk fl k e w':=by
 refine named fun R HQ=>?_;have hu:IntKind.u32.wrap (id:Int)=id:=by rw[IntKind.wrap_u32];omega
 have HC:=ah.mk (nC hS dK G dB (by omega) id (by omega) 0 (by unfold ways;simp));clear hS G dK;go_enter Tryz.func38,Tryz.ntmps38;go_wp2_with (go_at_call 37;refine HC.out.mono ?_;rintro e w2 ⟨r,jo,bk2,rfl,ht,hs⟩;have S2:=ah.mk (And.intro ht hs);clear ht hs)
 rw[←HQ.out];exact⟨r,jo,bk2,rfl,S2.out.1,S2.out.2⟩
theorem Wp {x:Nat}{pol:Int}{now:Nat}{js:List J}{bk:List Ch}{fl:List Int}{k:Nat}(hS:dL M w0 w x pol now js bk fl k)(dK:1≤pol∧pol≤4)(G:dJ now js bk)(dB:now≤10000)(hk:k≤900)(id:Nat)(hid:id≤1000)(bx:Nat)(hb:w.cell? ⟨bx,0,none⟩=some (.pointer (some ⟨x,0,none⟩))) :
 Calls Tryz.prog 39 #[.int .i64 (id:Int),.pointer (some ⟨bx,0,none⟩)] w fun e w'=>Moved M w0 x pol now js bk fl k e w':=by
 refine named fun R HQ=>?_;have hu:IntKind.u32.wrap (id:Int)=id:=by rw[IntKind.wrap_u32];omega
 have HC:=ah.mk (Nr hS dK G dB (by omega) id hid 5 (by unfold ways;simp));clear hS G dK;go_enter Tryz.func39,Tryz.ntmps39;go_wp2_with (go_at_call 40;refine HC.out.mono ?_;rintro e w2 ⟨r,jo,bk2,rfl,ht,hs⟩;have S2:=ah.mk (And.intro ht hs);clear ht hs)
 rw[←HQ.out];exact⟨r,jo,bk2,rfl,S2.out.1,S2.out.2⟩
theorem Rn {x:Nat}{pol:Int}{now:Nat}{js:List J}{bk:List Ch}{fl:List Int}{k:Nat}(hS:dL M w0 w x pol now js bk fl k)(dK:1≤pol∧pol≤4)(G:dJ now js bk)(dB:now≤10000)(hk:k≤900)(id:Nat)(hid:id≤1000)(bx:Nat)(hb:w.cell? ⟨bx,0,none⟩=some (.pointer (some ⟨x,0,none⟩))) :
 Calls Tryz.prog 41 #[.int .i64 (id:Int),.pointer (some ⟨bx,0,none⟩)] w fun e w'=>Moved M w0 x pol now js bk fl k e w':=by
 refine named fun R HQ=>?_;have hu:IntKind.u32.wrap (id:Int)=id:=by rw[IntKind.wrap_u32];omega
 have HC:=ah.mk (Nr hS dK G dB (by omega) id hid 6 (by unfold ways;simp));clear hS G dK;go_enter Tryz.func41,Tryz.ntmps41;go_wp2_with (go_at_call 40;refine HC.out.mono ?_;rintro e w2 ⟨r,jo,bk2,rfl,ht,hs⟩;have S2:=ah.mk (And.intro ht hs);clear ht hs)
 rw[←HQ.out];exact⟨r,jo,bk2,rfl,S2.out.1,S2.out.2⟩
end
end
end Go.Proofs.YtandhagfhppgaaaGreatDoor
