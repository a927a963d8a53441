/- Part 47 of a proof: contracts of the functions that the law reaches. No condition. -/
import Derived.Test.YtandhagfhppgaaaGreatDoorS27
import Derived.Test.YtandhagfhppgaaaGreatDoorS35
import Derived.Test.YtandhagfhppgaaaGreatDoorS41
import Derived.Test.YtandhagfhppgaaaGreatDoorS42
import Derived.Test.YtandhagfhppgaaaGreatDoorS44
import Derived.Test.YtandhagfhppgaaaGreatDoorS45
import Derived.Test.YtandhagfhppgaaaGreatDoorS46
set_option linter.all false
set_option maxRecDepth 100000
set_option maxHeartbeats 16000000
namespace Go.Proofs.YtandhagfhppgaaaGreatDoor
section
open Go.RowKit Go.ChangeMaps
theorem Nh (js:List J)(s:Spec)(now:Int):Ae (js++[J.new js.length s now])=Ae js:=by
 simp[Ae,J.new,J.on]
theorem Ho (js:List J)(bk:List Ch)(k:Nat)(s:Spec)(now:Int):most (js++[J.new js.length s now]) bk k=most js bk k:=by
 unfold most;rw[Nh]
theorem Rt (js:List J)(s:Spec)(now t:Int):pays (js++[J.new js.length s now]) t=pays js t:=by
 simp[pays,J.new,J.pay]
theorem dL.new {now:Int}{js:List J}{bk:List Ch}(G:dL now js bk)(s:Spec)(hs:s.ok)(hlen:js.length≤400):dL now (js++[J.new js.length s now]) bk:=by
 have h0:=G.uH;refine⟨G.uH,G.qQ,by simp;omega,fun k j hk=>?_,G.UW,?_⟩
 ·by_cases h:k<js.length
  ·rw[List.getElem?_append_left h]at hk;exact G.jobs k j hk
  ·rw[List.getElem?_append_right (by omega)]at hk;have hk0:k-js.length=0:=by
    have:=(List.getElem?_eq_some_iff.1 hk).1;simp at this;omega
   rw[hk0]at hk;simp only[List.getElem?_cons_zero,Option.some.injEq]at hk;subst hk;obtain rfl:k=js.length:=by omega
   exact⟨rfl,hs,by simp[J.new],by simp[J.new],h0,Int.le_refl _,by simp[J.new],h0,by simp[J.new],h0,by simp[J.new],by simp[J.new],fun _=>by simp[J.new],fun e=>by simp[J.new]at e,fun e=>by simp[J.new]at e,by simp[J.new]⟩
 ·rw[Nh,G.book];simp[vF,J.new]
section
variable {w0 w:World}{M:List bW}
set_option maxRecDepth 1000000 in
theorem Ea {x:Nat}{pol:Int}{now:Nat}{js:List J}{bk:List Ch}{fl:List Int}{k:Nat}(hS:dF M w0 w x pol now js bk fl k)(dP:1≤pol∧pol≤4)(G:dL now js bk)(dB:now≤10000)(hk:k≤900)(hlen:js.length≤400)
 {mm:Int} (HM:w0.cell? ⟨0,0,none⟩=some (.int .i64 mm)) (TT:∀W,Below w0.heap.size w0 W→Tab W) (s:Spec) (hs:s.ok) :
 Calls Tryz.prog 29 #[.pointer (some ⟨x,0,none⟩),.string (lb (dH s.account.data.toList s.qos.data.toList s.size s.limit s.gV))] w fun e w' =>
  (e=.returned (.string (iO 5))∧dF M w0 w' x pol now js bk fl k)∨(e=.returned (.string (⟨#[111,107]⟩++(⟨#[32]⟩++⟨(Lib.itoa ((js.length+1:Nat):Int)).toArray⟩)))∧∃bI,Turned now (js++[J.new js.length s now]) bI∧dF M w0 w' x pol now bI bk fl k):=by
 refine named fun R HQ=>?_;obtain⟨a,y,m,rfl,ku,hy,hm,H⟩:=hS;have Eu:small s.account:=by
  rcases hs.1 with h|h<;>rw[h]
  ·exact iK
  ·exact jh
 have Ew:small s.qos:=by
  rcases hs.2.1 with h|h<;>rw[h]
  ·exact dW [110,111,114,109,97,108] rfl (by decide) (by decide)
  ·exact dW [104,105,103,104] rfl (by decide) (by decide)
 have PC:ah (Calls Tryz.prog 59 #[.string (lb (dH s.account.data.toList s.qos.data.toList s.size s.limit s.gV))] w fun e w'=>e=.returned (.tuple #[.agg s.cells,.int .i64 0,.int .i64 0])∧Below w.heap.size w w'):=⟨by
  have h:=D7 (w:=w) s.account.data.toList s.qos.data.toList (by rw[ni];exact Eu) (by rw[ni];exact Ew) s.size s.limit hs.2.2.1 hs.2.2.2.1 hs.2.2.2.2.1 (by have:=hs.2.2.2.2.2;omega) s.gV (ak H.old HM);rw[ni,ni]at h;exact h⟩
 obtain⟨T,hT⟩:∃T,T=lb (dH s.account.data.toList s.qos.data.toList s.size s.limit s.gV):=⟨_,rfl⟩;rw[←hT]at PC;rw[←hT];have HH:=ah.mk H;have OK:=ah.mk (And.intro ku (And.intro hy hm));have GG:=ah.mk (And.intro G (And.intro dP (And.intro dB (And.intro hk (And.intro hlen hs)))));have rQ:=ah.mk TT;have hone:=ah.mk s.one;have Po:=uD s;have g1:wrap64 ((js.length:Int)+1)=(js.length:Int)+1:=wrap_in (by omega) (by omega);have ZN:IntKind.i64.wrap ((js.length:Int)+1)=(js.length:Int)+1:=(kV _).trans g1;clear hT H ku hy hm G dP dB hk hs Eu Ew TT HM hlen;go_enter Tryz.func29,Tryz.ntmps29;go_wp2_with (go_at_call 59;refine PC.out.mono ?_;rintro e w1 ⟨rfl,hb⟩;have H1:=ah.mk (HH.out.below hb);clear hb;refine ah.out ?_)
 clear PC HH;have H2:ah (Has w0 (w1.alloc (.cells s.cells 51)) (CL a pol now js bk y m++aF w1.heap.size (.cells s.cells 51)::M)):=⟨(H1.out.aZ (.cells s.cells 51)).ins (CL a pol now js bk y m) M⟩;refine ah.mk ?_;go_wp2_with (refine aB w1.heap.size rfl rfl 51 (.tmp 5) (.tmp 15) rfl s.cells rfl rfl 51 _ Po rfl hone.out ?_;refine ah.out ?_)
 obtain⟨w2,hw2⟩:∃v,v=w1.alloc (.cells s.cells 51):=⟨_,rfl⟩;obtain⟨sb,hsb⟩:∃v,v=w1.heap.size:=⟨_,rfl⟩;rw[←hw2,←hsb]at H2;rw[←hw2,←hsb];clear hw2 hsb H1;refine ah.mk ?_;go_wp2_with fail
 have SG:ah (∀W,Has w0 W (CL a pol now js bk y m++aF sb (.cells s.cells 51)::M)→W.cell? ⟨a.x,13,none⟩=some (.pointer (some ⟨a.p,0,none⟩))∧W.cell? ⟨a.x,12,none⟩=some (.int .i64 (now:Int))∧W.rangeAt sb 0 s.cells.toList∧True):=⟨fun W HW=>⟨by rw[aj (HW.blk 0 rfl)];rfl,by rw[aj (HW.blk 0 rfl)];rfl,aX (HW.blk 14 rfl) 0 _ fun i v h=>by rw[Nat.zero_add];simpa using h,trivial⟩⟩;have HG:=SG.out _ H2.out.drew;have NC:=ah.mk (OM H2.out.drew s GG.out.2.2.2.2.2 GG.out.1.uH GG.out.1.qQ GG.out.2.2.2.2.1);refine aK (fun W=>W.cell? ⟨a.x,13,none⟩=some (.pointer (some ⟨a.p,0,none⟩))∧W.cell? ⟨a.x,12,none⟩=some (.int .i64 (now:Int))∧W.rangeAt sb 0 s.cells.toList∧True) 14 (by kernel_rfl) (by kernel_rfl) ?_;refine bg 0 HG ?_;refine bg 1 HG ?_;refine bg 2 HG ?_;refine bg 3 HG ?_;refine YB (v:=.agg s.cells) 4 HG (hk:=rfl) (fun W hW=>run_load 51 _ rfl sb 0 rfl s.cells _ hW.2.2.1 Tryz.underlying51 rfl Po) ?_;refine bg 5 HG ?_;refine bg 6 HG ?_;refine bg 7 HG ?_;refine bg 8 HG ?_;refine aP (k:=9) rfl (by kernel_rfl) (by kernel_rfl) (fun K hK=>?_);rw[if_pos (by rfl)];go_simp;go_at_call 60;refine NC.out.mono ?_;clear NC;rintro e w5 (⟨A,c,A5,c5,rfl,h5⟩|⟨rfl,h5⟩)
 ·have H5:=ah.mk h5;have HG:w5.cell? ⟨a.x,13,none⟩=some (.pointer (some ⟨a.p,0,none⟩))∧w5.cell? ⟨a.x,12,none⟩=some (.int .i64 (now:Int))∧w5.rangeAt sb 0 s.cells.toList∧True:=⟨by rw[aj (h5.blk 0 rfl)];rfl,by rw[aj (h5.blk 0 rfl)];rfl,aX (h5.blk 15 rfl) 0 _ fun i v h=>by rw[Nat.zero_add];simpa using h,trivial⟩;refine hK _ _ HG ?_;clear hK K SG h5;try simp only[Act.put,List.getElem_toArray,List.getElem_cons_zero,List.getElem_cons_succ,List.setIfInBounds_toArray,List.set_cons_zero,List.set_cons_succ]
  refine bg 10 HG ?_;refine bg 11 HG ?_;refine bg 12 HG ?_;refine bg 13 HG ?_;refine aO (by kernel_rfl) ?_;simp only[List.drop_succ_cons,List.drop_zero];clear HG H2;obtain⟨g,hg,_⟩:=dG H5.out 14 rfl rfl (by simp);subst hg;have c0:w5.cell? ⟨g,0,none⟩=some (.int .u32 ((js.length+1:Nat):Int)):=cu H5.out 14 rfl rfl kJ 0 (js.length+1) rfl 0 _ rfl;rw[show((js.length+1:Nat):Int)=(js.length:Int)+1 from rfl]at c0;have IT:=ah.mk (Tryz.strconv_Itoa ((js.length:Int)+1) (by omega) (by have:=GG.out.2.2.2.2.1;omega) w5 (rQ.out _ H5.out.old));go_wp2_with fail
  refine wp_loop_rounds 2 ?_;rw[rounds_succ];have hl:=Gw (r:=(js.length:Int)+1) ⟨by omega,by have:=GG.out.2.2.2.2.1;omega⟩;have hl1:¬9223372036854775807<1+(Lib.itoa ((js.length:Int)+1)).length:=by omega
  have hl2:¬9223372036854775807<2+(1+(Lib.itoa ((js.length:Int)+1)).length):=by omega
  go_wp2_with (go_at_call 57;refine IT.out.mono ?_;rintro e w6 ⟨rfl,q,os,hw⟩;have B6:ah (Below w5.heap.size w5 w6):=⟨by rw[hw];exact⟨rfl,rfl,rfl,by show w5.heap.size≤(w5.heap++os).size;rw[Array.size_append];omega,fun j hj=>Array.getElem?_append_left hj⟩⟩;clear hw;refine ah.out ?_)
  clear IT c0;have S6:ah (dF (aV 43 1 fO (.slice (some ⟨g,0,none⟩) 1 c) [js.length + 1]::aF sb (.cells s.cells 51)::M) w0 w6 a.x pol now (js++[J.new js.length s now]) bk fl k):=⟨⟨{ a with jA:=A5,jc:=c5},y,m,rfl,OK.out.1,by rw[Ho];exact OK.out.2.1,by rw[Ho];exact OK.out.2.2,H5.out.below B6.out⟩⟩;have SC:=ah.mk (fK S6.out GG.out.2.1 (GG.out.1.new s GG.out.2.2.2.2.2 GG.out.2.2.2.2.1) GG.out.2.2.1 (by have:=GG.out.2.2.2.1;omega));clear S6;refine ah.mk ?_;go_wp2_with fail
  rw[rounds_succ];go_wp2_with (go_at_call 49;refine SC.out.mono ?_;rintro e w7 ⟨rfl,bI,ht,h7⟩;have H7:=ah.mk (And.intro ht h7);clear ht h7)
  first|go_ret2|go_ret|skip
  rw[←HQ.out];exact .inr ⟨rfl,bI,H7.out.1,H7.out.2.drop1.drop1⟩
 ·have H5:=ah.mk h5;have HG:=SG.out _ h5;refine hK _ _ HG ?_;clear hK K SG h5;try simp only[Act.put,List.getElem_toArray,List.getElem_cons_zero,List.getElem_cons_succ,List.setIfInBounds_toArray,List.set_cons_zero,List.set_cons_succ]
  refine bg 10 HG ?_;refine bg 11 HG ?_;refine bg 12 HG ?_;refine bg 13 HG ?_;refine aO (by kernel_rfl) ?_;simp only[List.drop_succ_cons,List.drop_zero];clear HG H2;have TC:=ah.mk (dQ (w:=w5) 5 ⟨by decide,by decide⟩ (rQ.out _ H5.out.old));go_wp2_with (go_at_call 27;refine TC.out.mono ?_;rintro e w6 ⟨rfl,hb⟩;have H6:=ah.mk (H5.out.below hb);clear hb)
  first|go_ret2|go_ret|skip
  rw[←HQ.out];exact .inl ⟨rfl,a,y,m,rfl,OK.out.1,OK.out.2.1,OK.out.2.2,Has.cut (CL a pol now js bk y m) M H6.out⟩
end
end
section
open Go.RowKit Go.ChangeMaps
section
variable {w0 w:World}{M:List bW}
set_option maxRecDepth 1000000 in
theorem Bq {x:Nat}{pol:Int}{now:Nat}{js:List J}{bk:List Ch}{fl:List Int}{k:Nat}(hS:dF M w0 w x pol now js bk fl k)(dP:1≤pol∧pol≤4)(G:dL now js bk)(dB:now≤10000)(hk:k≤900)(hlen:js.length≤400)
 {mm:Int} (HM:w0.cell? ⟨0,0,none⟩=some (.int .i64 mm)) (TT:∀W,Below w0.heap.size w0 W→Tab W) (s:Spec) (hs:s.ok) :
 Calls Tryz.prog 11 #[.pointer (some ⟨x,0,none⟩),.string (lb ([115,117,98,109,105,116,10]++dH s.account.data.toList s.qos.data.toList s.size s.limit s.gV))] w fun e w' =>
  (e=.returned (.string (iO 5))∧dF M w0 w' x pol now js bk fl k)∨(e=.returned (.string (⟨#[111,107]⟩++(⟨#[32]⟩++⟨(Lib.itoa ((js.length+1:Nat):Int)).toArray⟩)))∧∃bI,Turned now (js++[J.new js.length s now]) bI∧dF M w0 w' x pol now bI bk fl k):=by
 refine named fun R HQ=>?_;have SC:=ah.mk (Ea (hS.below (au (Below.refl _ _) (.cells #[.pointer (some ⟨x,0,none⟩)] 23))) dP G dB hk hlen HM TT s hs);obtain⟨l,hl⟩:∃l,l=dH s.account.data.toList s.qos.data.toList s.size s.limit s.gV:=⟨_,rfl⟩;rw[←hl]at SC;rw[←hl];have CP:ah (∀W,Calls Tryz.prog 28 #[.string (lb ([115,117,98,109,105,116,10]++l)),.string ⟨#[115,117,98,109,105,116,10]⟩] W fun e w'=>e=.returned (.tuple #[.string (lb l),.bool true])∧w'=W):=⟨fun W=>(Tryz.strings_CutPrefix (lb ([115,117,98,109,105,116,10]++l)) ⟨#[115,117,98,109,105,116,10]⟩ W).mono fun e w' h=>by
  rw[dY,show(⟨#[115,117,98,109,105,116,10]⟩:ByteArray).data.toList=[115,117,98,109,105,116,10]from rfl,(kF _ _).1,(kF _ _).2]at h;exact h⟩
 obtain⟨T,hT⟩:∃T,T=lb ([115,117,98,109,105,116,10]++l):=⟨_,rfl⟩;obtain⟨U,hU⟩:∃U,U=lb l:=⟨_,rfl⟩;rw[←hT,←hU]at CP;rw[←hU]at SC;rw[←hT];clear hl hT hU hS G dB hk hlen HM TT hs dP;go_enter Tryz.func11,Tryz.ntmps11;go_wp2_with (go_at_call 28;refine(CP.out _).mono ?_;rintro e w' ⟨rfl,hw⟩;obtain rfl:=hw.symm;clear hw;refine ah.out ?_)
 refine ah.mk ?_;go_wp2_with (go_at_call 29;refine SC.out.mono ?_;rintro e w2 h;have HX:=ah.mk h;clear h;refine ah.out ?_)
 ·rcases HX.out with h|h
  ·have h2:=h.1;injection h2 with h2;subst h2;refine ah.mk ?_;go_wp2_with fail
   first|go_ret2|go_ret|skip
   rw[←HQ.out];exact .inl ⟨rfl,h.2⟩
  ·have h2:=h.1;injection h2 with h2;subst h2;refine ah.mk ?_;go_wp2_with fail
   first|go_ret2|go_ret|skip
   rw[←HQ.out];exact .inr ⟨rfl,h.2⟩
 all_goals (rcases HX.out with h|h<;>cases h.1)
end
end
section
open Go.RowKit Go.ChangeMaps
theorem nS (k v:List UInt8):jy (lb k) (lb v)=lb (mM k v++[10]):=by
 unfold jy mM;rw[show(⟨#[35,83,66,65,84,67,72,32,45,45]⟩:ByteArray)=lb [35,83,66,65,84,67,72,32,45,45]from rfl,show(⟨#[61]⟩:ByteArray)=lb [61]from rfl,show(⟨#[10]⟩:ByteArray)=lb [10]from rfl,nD,nD,nD,nD];congr 1
 simp
theorem Wu:∀n:Fin 9,dD n=lb [UInt8.ofNat (48+n)]:=by decide
theorem RF:∀n:Fin 21,Hy n=lb (iG n):=by decide
theorem RG (ac q:List UInt8)(n lim:Nat)(rq:Bool) :
 ((((((⟨#[35,33,106,111,98,10]⟩++jy (lb [106,111,98,45,110,97,109,101]) (lb [106]))++jy (lb [97,99,99,111,117,110,116]) (lb ac))++jy (lb [112,97,114,116,105,116,105,111,110]) (lb [109,97,105,110]))++jy (lb [113,111,115]) (lb q))++jy (lb [115,105,122,101]) (lb [UInt8.ofNat (48+n)]))++jy (lb [116,105,109,101]) (lb (iG lim)))++(if rq then lb [35,83,66,65,84,67,72,32,45,45,114,101,113,117,101,117,101,10]else lb [])=lb (dH ac q n lim rq):=by
 rw[nS,nS,nS,nS,nS,nS,show(⟨#[35,33,106,111,98,10]⟩:ByteArray)=lb [35,33,106,111,98,10]from rfl];cases rq
 ·simp only[Bool.false_eq_true,if_false,nD];congr 1
  simp[dH,mO,textOf]
 ·simp only[if_true,nD];congr 1
  simp[dH,mO,textOf,DX]
section
variable {w:World}
set_option maxRecDepth 1000000 in
theorem Ej (s:Spec)(hs:s.ok):Calls Tryz.prog 53 #[.agg s.cells] w fun e w'=>e=.returned (.tuple #[.string (lb (dH s.account.data.toList s.qos.data.toList s.size s.limit s.gV)),.int .i64 0])∧Below w.heap.size w w':=by
 refine named fun R HQ=>?_;have Eu:small s.account:=by
  rcases hs.1 with h|h<;>rw[h]
  ·exact iK
  ·exact jh
 have Ew:small s.qos:=by
  rcases hs.2.1 with h|h<;>rw[h]
  ·exact dW [110,111,114,109,97,108] rfl (by decide) (by decide)
  ·exact dW [104,105,103,104] rfl (by decide) (by decide)
 have CK:=ah.mk (DK (w:=w.alloc (.cells s.cells 51)) s (dW [106] rfl (by decide) (by decide)) Eu (dW [109,97,105,110] rfl (by decide) (by decide)) Ew hs.2.2.1 hs.2.2.2.1 hs.2.2.2.2.1 hs.2.2.2.2.2);have FIN:ah (∀rq,s.gV=rq→_):=⟨fun rq h=>RG s.account.data.toList s.qos.data.toList s.size s.limit rq⟩;have hone:=s.one;have Po:=uD s;obtain⟨a,q,sz,lim,rq⟩:=s;simp only at Eu Ew FIN;obtain⟨_,_,hz1,hz2,hl1,hl2⟩:=hs;simp only at hz1 hz2 hl1 hl2;rw[ni,ni]at FIN;have DC:=ah.mk fun W=>bG (w:=W) sz (by omega);have TC:=ah.mk fun W=>Lh (w:=W) lim hl1 hl2;have ed:=Wu ⟨sz,by omega⟩;have et:=RF ⟨lim,by omega⟩;simp only at ed et;rw[←ed,←et]at FIN;have dz:=iw sz;have tz:(Hy lim).size≤10:=by rw[et,eY];simp[iG,uh]
 clear ed et;have az:a.size≤32:=Eu.2.2;have qz:q.size≤32:=Ew.2.2;have C1:=ah.mk fun W=>jZ (w:=W) ⟨#[106,111,98,45,110,97,109,101]⟩ gW (by decide) (by decide);obtain⟨l1,Em⟩:∃l,l=jy ⟨#[106,111,98,45,110,97,109,101]⟩ gW:=⟨_,rfl⟩;have s1:l1.size≤60:=by
  rw[Em];unfold jy;simp only[ByteArray.size_append];have h1:(⟨#[106,111,98,45,110,97,109,101]⟩:ByteArray).size≤10:=by decide
  have h2:gW.size≤5:=by decide
  have h3:(⟨#[35,83,66,65,84,67,72,32,45,45]⟩:ByteArray).size=10:=rfl;have h4:(⟨#[61]⟩:ByteArray).size=1:=rfl;have h5:(⟨#[10]⟩:ByteArray).size=1:=rfl;omega
 rw[←Em]at C1;have C2:=ah.mk fun W=>jZ (w:=W) ⟨#[97,99,99,111,117,110,116]⟩ a (by decide) (by omega);obtain⟨l2,Uw⟩:∃l,l=jy ⟨#[97,99,99,111,117,110,116]⟩ a:=⟨_,rfl⟩;have s2:l2.size≤60:=by
  rw[Uw];unfold jy;simp only[ByteArray.size_append];have h1:(⟨#[97,99,99,111,117,110,116]⟩:ByteArray).size≤10:=by decide
  skip
  have h3:(⟨#[35,83,66,65,84,67,72,32,45,45]⟩:ByteArray).size=10:=rfl;have h4:(⟨#[61]⟩:ByteArray).size=1:=rfl;have h5:(⟨#[10]⟩:ByteArray).size=1:=rfl;omega
 rw[←Uw]at C2;have C3:=ah.mk fun W=>jZ (w:=W) ⟨#[112,97,114,116,105,116,105,111,110]⟩ aQ (by decide) (by decide);obtain⟨l3,Ux⟩:∃l,l=jy ⟨#[112,97,114,116,105,116,105,111,110]⟩ aQ:=⟨_,rfl⟩;have s3:l3.size≤60:=by
  rw[Ux];unfold jy;simp only[ByteArray.size_append];have h1:(⟨#[112,97,114,116,105,116,105,111,110]⟩:ByteArray).size≤10:=by decide
  have h2:aQ.size≤5:=by decide
  have h3:(⟨#[35,83,66,65,84,67,72,32,45,45]⟩:ByteArray).size=10:=rfl;have h4:(⟨#[61]⟩:ByteArray).size=1:=rfl;have h5:(⟨#[10]⟩:ByteArray).size=1:=rfl;omega
 rw[←Ux]at C3;have C4:=ah.mk fun W=>jZ (w:=W) ⟨#[113,111,115]⟩ q (by decide) (by omega);obtain⟨l4,Uy⟩:∃l,l=jy ⟨#[113,111,115]⟩ q:=⟨_,rfl⟩;have s4:l4.size≤60:=by
  rw[Uy];unfold jy;simp only[ByteArray.size_append];have h1:(⟨#[113,111,115]⟩:ByteArray).size≤10:=by decide
  skip
  have h3:(⟨#[35,83,66,65,84,67,72,32,45,45]⟩:ByteArray).size=10:=rfl;have h4:(⟨#[61]⟩:ByteArray).size=1:=rfl;have h5:(⟨#[10]⟩:ByteArray).size=1:=rfl;omega
 rw[←Uy]at C4;have C5:=ah.mk fun W=>jZ (w:=W) ⟨#[115,105,122,101]⟩ (dD sz) (by decide) (by omega);obtain⟨l5,Uz⟩:∃l,l=jy ⟨#[115,105,122,101]⟩ (dD sz):=⟨_,rfl⟩;have s5:l5.size≤60:=by
  rw[Uz];unfold jy;simp only[ByteArray.size_append];have h1:(⟨#[115,105,122,101]⟩:ByteArray).size≤10:=by decide
  skip
  have h3:(⟨#[35,83,66,65,84,67,72,32,45,45]⟩:ByteArray).size=10:=rfl;have h4:(⟨#[61]⟩:ByteArray).size=1:=rfl;have h5:(⟨#[10]⟩:ByteArray).size=1:=rfl;omega
 rw[←Uz]at C5;have C6:=ah.mk fun W=>jZ (w:=W) ⟨#[116,105,109,101]⟩ (Hy lim) (by decide) (by omega);obtain⟨l6,UA⟩:∃l,l=jy ⟨#[116,105,109,101]⟩ (Hy lim):=⟨_,rfl⟩;have s6:l6.size≤60:=by
  rw[UA];unfold jy;simp only[ByteArray.size_append];have h1:(⟨#[116,105,109,101]⟩:ByteArray).size≤10:=by decide
  skip
  have h3:(⟨#[35,83,66,65,84,67,72,32,45,45]⟩:ByteArray).size=10:=rfl;have h4:(⟨#[61]⟩:ByteArray).size=1:=rfl;have h5:(⟨#[10]⟩:ByteArray).size=1:=rfl;omega
 rw[←UA]at C6;have HF:ah (∀Yj,rq=Yj→((((((⟨#[35,33,106,111,98,10]⟩++l1)++l2)++l3)++l4)++l5)++l6)++(if Yj then lb [35,83,66,65,84,67,72,32,45,45,114,101,113,117,101,117,101,10]else lb [])=lb (dH a.data.toList q.data.toList sz lim Yj)):=⟨fun Yj h=>by
  rw[Em,Uw,Ux,Uy,Uz,UA];exact FIN.out Yj h⟩
 have z1:¬9223372036854775807<6+l1.size:=by omega
 have z2:¬9223372036854775807<6+l1.size+l2.size:=by omega
 have z3:¬9223372036854775807<6+l1.size+l2.size+l3.size:=by omega
 have z4:¬9223372036854775807<6+l1.size+l2.size+l3.size+l4.size:=by omega
 have z5:¬9223372036854775807<6+l1.size+l2.size+l3.size+l4.size+l5.size:=by omega
 have z6:¬9223372036854775807<6+l1.size+l2.size+l3.size+l4.size+l5.size+l6.size:=by omega
 have z9:¬(4096:Int)<6+l1.size+l2.size+l3.size+l4.size+l5.size+l6.size+18:=by omega
 have z7:¬9223372036854775807<6+l1.size+l2.size+l3.size+l4.size+l5.size+l6.size+18:=by omega
 have z8:¬(4096:Int)<6+l1.size+l2.size+l3.size+l4.size+l5.size+l6.size:=by omega
 have C0:ah (∀W,Below (w.alloc (.cells (Spec.cells ⟨a,q,sz,lim,rq⟩) 51)).heap.size (w.alloc (.cells (Spec.cells ⟨a,q,sz,lim,rq⟩) 51)) W→(W.cell? ⟨w.heap.size,0,none⟩=some (.string gW)∧W.cell? ⟨w.heap.size,1,none⟩=some (.string a)∧W.cell? ⟨w.heap.size,2,none⟩=some (.string aQ)∧W.cell? ⟨w.heap.size,3,none⟩=some (.string q)∧W.cell? ⟨w.heap.size,4,none⟩=some (.int .i64 (sz:Int))∧True)∧W.cell? ⟨w.heap.size,5,none⟩=some (.int .i64 (lim:Int))∧W.cell? ⟨w.heap.size,6,none⟩=some (.slice none 0 0)∧W.cell? ⟨w.heap.size,9,none⟩=some (.slice none 0 0)∧W.cell? ⟨w.heap.size,10,none⟩=some (.int .i64 0)∧W.cell? ⟨w.heap.size,11,none⟩=some (.int .i64 0)∧W.cell? ⟨w.heap.size,12,none⟩=some (.bool false)∧W.cell? ⟨w.heap.size,13,none⟩=some (.bool rq)∧W.cell? ⟨w.heap.size,14,none⟩=some (.string ⟨#[]⟩)):=⟨fun W h=>by
  refine⟨⟨?_,?_,?_,?_,?_,trivial⟩,?_,?_,?_,?_,?_,?_,?_,?_⟩;all_goals exact ak h (by rw[aj (heap_alloc_new w _)];rfl)⟩
 have BW:=ah.mk (au (Below.refl w.heap.size w) (.cells (Spec.cells ⟨a,q,sz,lim,rq⟩) 51));have R1:ah ((w.alloc (.cells (Spec.cells ⟨a,q,sz,lim,rq⟩) 51)).rangeAt w.heap.size 0 (Spec.cells ⟨a,q,sz,lim,rq⟩).toList):=⟨aX (heap_alloc_new w _) 0 _ fun i v h=>by rw[Nat.zero_add];simpa using h⟩;have HO:=ah.mk hone;clear hone Eu Ew hz1 hz2 hl1 hl2 FIN dz tz az qz Em Uw Ux Uy Uz UA s1 s2 s3 s4 s5 s6;go_enter Tryz.func53,Tryz.ntmps53;go_wp2_with (first|(refine aB w.heap.size rfl rfl 51 (.tmp 1) (.tmp 0) rfl _ rfl rfl 51 _ Po rfl HO.out ?_)|(refine aI rfl 51 (.tmp 1) rfl w.heap.size 0 rfl (Spec.cells ⟨a,q,sz,lim,rq⟩) _ R1.out Tryz.underlying51 rfl Po ?_)|(go_at_call 90;refine CK.out.mono ?_;rintro e w2 ⟨rfl,hb⟩;have H2:=ah.mk hb;clear hb;refine ah.out ?_))
 obtain⟨_,c5,_⟩:=C0.out _ H2.out;clear CK R1 HO;refine ah.mk ?_;go_wp2_with (go_at_call 91;refine(TC.out _).mono ?_;rintro e w3 ⟨rfl,hb⟩;have H3:=ah.mk (ay H2.out H2.out.size hb);clear hb;refine ah.out ?_)
 clear c5 TC H2;refine ah.mk ?_;go_wp2_with fail
 have H4:=ah.mk (aC H3.out 1);have HG:w3.drew.cell? ⟨w.heap.size,0,none⟩=some (.string gW)∧w3.drew.cell? ⟨w.heap.size,1,none⟩=some (.string a)∧w3.drew.cell? ⟨w.heap.size,2,none⟩=some (.string aQ)∧w3.drew.cell? ⟨w.heap.size,3,none⟩=some (.string q)∧w3.drew.cell? ⟨w.heap.size,4,none⟩=some (.int .i64 (sz:Int))∧True:=(C0.out _ H4.out).1;refine aK (fun W=>W.cell? ⟨w.heap.size,0,none⟩=some (.string gW)∧W.cell? ⟨w.heap.size,1,none⟩=some (.string a)∧W.cell? ⟨w.heap.size,2,none⟩=some (.string aQ)∧W.cell? ⟨w.heap.size,3,none⟩=some (.string q)∧W.cell? ⟨w.heap.size,4,none⟩=some (.int .i64 (sz:Int))∧True) 24 (by kernel_rfl) (by kernel_rfl) ?_;refine bg 0 HG ?_;refine bg 1 HG ?_;refine bg 4 HG ?_;refine bg 5 HG ?_;refine bg 8 HG ?_;refine bg 9 HG ?_;refine bg 12 HG ?_;refine bg 13 HG ?_;refine bg 16 HG ?_;refine bg 17 HG ?_;refine bg 21 HG ?_;refine aP (k:=2) rfl (by kernel_rfl) (by kernel_rfl) (fun K hK=>?_);rw[if_pos (by rfl)];go_simp;go_at_call 92;refine(C1.out _).mono ?_;rintro e w' ⟨rfl,hw⟩;obtain rfl:=hw.symm;refine hK _ _ HG ?_;clear hK K hw;try simp only[Act.put,List.getElem_toArray,List.getElem_cons_zero,List.getElem_cons_succ,List.setIfInBounds_toArray,List.set_cons_zero,List.set_cons_succ]
 refine bg 3 HG ?_;refine aP (k:=6) rfl (by kernel_rfl) (by kernel_rfl) (fun K hK=>?_);rw[if_pos (by rfl)];go_simp;go_at_call 92;refine(C2.out _).mono ?_;rintro e w' ⟨rfl,hw⟩;obtain rfl:=hw.symm;refine hK _ _ HG ?_;clear hK K hw;try simp only[Act.put,List.getElem_toArray,List.getElem_cons_zero,List.getElem_cons_succ,List.setIfInBounds_toArray,List.set_cons_zero,List.set_cons_succ]
 refine bg 7 HG ?_;refine aP (k:=10) rfl (by kernel_rfl) (by kernel_rfl) (fun K hK=>?_);rw[if_pos (by rfl)];go_simp;go_at_call 92;refine(C3.out _).mono ?_;rintro e w' ⟨rfl,hw⟩;obtain rfl:=hw.symm;refine hK _ _ HG ?_;clear hK K hw;try simp only[Act.put,List.getElem_toArray,List.getElem_cons_zero,List.getElem_cons_succ,List.setIfInBounds_toArray,List.set_cons_zero,List.set_cons_succ]
 refine bg 11 HG ?_;refine aP (k:=14) rfl (by kernel_rfl) (by kernel_rfl) (fun K hK=>?_);rw[if_pos (by rfl)];go_simp;go_at_call 92;refine(C4.out _).mono ?_;rintro e w' ⟨rfl,hw⟩;obtain rfl:=hw.symm;refine hK _ _ HG ?_;clear hK K hw;try simp only[Act.put,List.getElem_toArray,List.getElem_cons_zero,List.getElem_cons_succ,List.setIfInBounds_toArray,List.set_cons_zero,List.set_cons_succ]
 refine bg 15 HG ?_;refine aP (k:=18) rfl (by kernel_rfl) (by kernel_rfl) (fun K hK=>?_);rw[if_pos (by rfl)];go_simp;go_at_call 20;refine(DC.out _).mono ?_;rintro e w5 ⟨rfl,hb⟩;have H5:=ah.mk (ay H4.out H4.out.size hb);have HG:w5.cell? ⟨w.heap.size,0,none⟩=some (.string gW)∧w5.cell? ⟨w.heap.size,1,none⟩=some (.string a)∧w5.cell? ⟨w.heap.size,2,none⟩=some (.string aQ)∧w5.cell? ⟨w.heap.size,3,none⟩=some (.string q)∧w5.cell? ⟨w.heap.size,4,none⟩=some (.int .i64 (sz:Int))∧True:=(C0.out _ H5.out).1;refine hK _ _ HG ?_;clear hK K hb;try simp only[Act.put,List.getElem_toArray,List.getElem_cons_zero,List.getElem_cons_succ,List.setIfInBounds_toArray,List.set_cons_zero,List.set_cons_succ]
 refine aP (k:=19) rfl (by kernel_rfl) (by kernel_rfl) (fun K hK=>?_);rw[if_pos (by rfl)];go_simp;go_at_call 92;refine(C5.out _).mono ?_;rintro e w' ⟨rfl,hw⟩;obtain rfl:=hw.symm;refine hK _ _ HG ?_;clear hK K hw;try simp only[Act.put,List.getElem_toArray,List.getElem_cons_zero,List.getElem_cons_succ,List.setIfInBounds_toArray,List.set_cons_zero,List.set_cons_succ]
 refine bg 20 HG ?_;refine aP (k:=22) rfl (by kernel_rfl) (by kernel_rfl) (fun K hK=>?_);rw[if_pos (by rfl)];go_simp;go_at_call 92;refine(C6.out _).mono ?_;rintro e w' ⟨rfl,hw⟩;obtain rfl:=hw.symm;refine hK _ _ HG ?_;clear hK K hw;try simp only[Act.put,List.getElem_toArray,List.getElem_cons_zero,List.getElem_cons_succ,List.setIfInBounds_toArray,List.set_cons_zero,List.set_cons_succ]
 refine bg 23 HG ?_;refine aO (by kernel_rfl) ?_;simp only[List.drop_succ_cons,List.drop_zero];clear HG;obtain⟨_,_,d6,d9,d10,d11,d12,d13,d14⟩:=C0.out _ H5.out;have HB:=ah.mk (ay BW.out (by simp) H5.out);clear H3 H4 H5 C0 BW C1 C2 C3 C4 C5 C6 DC;have app0:ah (∀z:ByteArray,z++(⟨#[]⟩:ByteArray)=z):=⟨fun z=>by apply ByteArray.ext;simp⟩;cases rq with
 |false =>
  go_wp2_with fail
  first|go_ret2|go_ret|skip
  rw[←HQ.out];exact⟨congrArg (fun z=>Ending.returned (.tuple #[.string z,.int .i64 0])) (HF.out false rfl),HB.out⟩
 |true =>
  go_wp2_with fail
  first|go_ret2|go_ret|skip
  rw[←HQ.out];exact⟨congrArg (fun z=>Ending.returned (.tuple #[.string z,.int .i64 0])) ((app0.out _).trans (HF.out true rfl)),HB.out⟩
end
end
end Go.Proofs.YtandhagfhppgaaaGreatDoor
