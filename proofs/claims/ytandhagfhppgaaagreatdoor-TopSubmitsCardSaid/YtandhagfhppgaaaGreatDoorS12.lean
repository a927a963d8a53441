/- Part 12 of a proof: contracts of the functions that the law reaches. No condition. -/
import Derived.Test.YtandhagfhppgaaaGreatDoorS10
set_option linter.all false
set_option maxRecDepth 100000
set_option maxHeartbeats 16000000
namespace Go.Proofs.YtandhagfhppgaaaGreatDoor
section
open Go.RowKit
section
variable {w0 w:World}{L:List bW}
theorem dG {α:Type}{enc:α→List Value}{e:TypeId}{sz:Nat}{A:Option Addr}{n c:Nat}{l:List α}(H:Has w0 w L)(i:Nat)(hi:L[i]?=some (aV e sz enc (.slice A n c) l))(hl:l.length=n)(h0:0<n):∃g,A=some ⟨g,0,none⟩∧n≤c:=by
 rcases(H.row i hi).2 with⟨_,h⟩|⟨g,cap,cur,hv,_,_,hnc,_⟩
 ·omega
 ·injection hv with e1 e2 e3;exact⟨g,e1,by omega⟩
theorem cu {α:Type}{enc:α→List Value}{e:TypeId}{sz:Nat}{g n c:Nat}{l:List α}(H:Has w0 w L)(i:Nat)(hi:L[i]?=some (aV e sz enc (.slice (some ⟨g,0,none⟩) n c) l))(hn:n=l.length)(hs:∀x,(enc x).length=sz)(k:Nat)(x:α)(hk:l[k]?=some x)(f:Nat)(v:Value)(hf:(enc x)[f]?=some v):w.cell? ⟨g,k*sz+f,none⟩=some v:=by
 subst hn;obtain⟨g',hA,hr⟩:=(bK H i hi hs).get k x hk;cases hA;exact hr f v hf
theorem sD {g c:Nat}(nm:ByteArray)(o pr lim:Int)(hs:small nm)(o1:0≤o)(o2:o≤10)(p1:0≤pr)(p2:pr≤1048576)(l1:1≤lim)(l2:lim≤1073741824)
 (c0:w.cell? ⟨g,0,none⟩=some (.string nm)) (c1:w.cell? ⟨g,1,none⟩=some (.int .i64 o)) (c2:w.cell? ⟨g,2,none⟩=some (.int .i64 pr)) (c3:w.cell? ⟨g,3,none⟩=some (.int .i64 lim)) :
 Calls Tryz.prog 98 #[.slice (some ⟨g,0,none⟩) 1 c] w fun e w'=>e=.returned (.bool true)∧Below w.heap.size w w':=by
 refine named fun R HQ=>?_;have I1:=ah.mk fun W=>iL o 0 10 o1 o2 W;have I2:=ah.mk fun W=>iL pr 0 1048576 p1 p2 W;have I3:=ah.mk fun W=>iL lim 1 1073741824 l1 l2 W;have I4:=ah.mk fun W=>iL 1 1 8 (by decide) (by decide) W;have H1:=((Has.start w).nilRow 9 1 encS).alloc (.cells #[.string nm,.int .i64 o,.int .i64 pr,.int .i64 lim] 78);obtain⟨A1,k1,w3,hr,h3⟩:=nK H1 0 rfl 106 nm (by simp);obtain⟨g3,rfl,hk1⟩:=dG h3 0 rfl rfl (by decide);have NM:=ah.mk (rZ (c:=k1) nm hs (cu h3 0 rfl rfl lX 0 nm rfl 0 _ rfl));simp only[World.size_alloc,List.length_nil,Nat.zero_add]at hr NM;have HR:=ah.mk hr;have H3:=ah.mk h3.old;clear H1 h3 hr hk1 hs o1 o2 p1 p2 l1 l2;go_enter Tryz.func98,Tryz.ntmps98;go_wp2_with fail
 refine wp_loop_rounds 2 ?_;rw[rounds_succ];go_wp2_with (first|(at_builtin;refine step_append rfl 106 (.tmp 28) (.tmp 31) rfl rfl rfl HR.out ?_;clear HR)|(go_at_call 97;have _t:=I1.out;clear _t;refine(I1.out _).mono ?_;rintro e w' ⟨rfl,hw⟩;obtain rfl:=hw.symm;clear hw I1)|(go_at_call 97;have _t:=I2.out;clear _t;refine(I2.out _).mono ?_;rintro e w' ⟨rfl,hw⟩;obtain rfl:=hw.symm;clear hw I2)|(go_at_call 97;have _t:=I3.out;clear _t;refine(I3.out _).mono ?_;rintro e w' ⟨rfl,hw⟩;obtain rfl:=hw.symm;clear hw I3))
 rw[rounds_succ];go_wp2_with (first|(go_at_call 157;refine NM.out.mono ?_;rintro e w2 ⟨rfl,hw⟩;have H5:=ah.mk hw;clear hw)|(go_at_call 97;refine(I4.out _).mono ?_;rintro e w' ⟨rfl,hw⟩;obtain rfl:=hw.symm;clear hw))
 first|go_ret|skip
 rw[←HQ.out];exact⟨rfl,ay H3.out H3.out.size H5.out⟩
theorem xG {g c:Nat}(nm:ByteArray)(pr most:Int)(hs:small nm)(p1:0≤pr)(p2:pr≤1048576)(l1:1≤most)(l2:most≤1048576)
 (c0:w.cell? ⟨g,0,none⟩=some (.string nm)) (c1:w.cell? ⟨g,1,none⟩=some (.int .i64 pr)) (c2:w.cell? ⟨g,2,none⟩=some (.int .i64 most)) :
 Calls Tryz.prog 99 #[.slice (some ⟨g,0,none⟩) 1 c] w fun e w'=>e=.returned (.bool true)∧Below w.heap.size w w':=by
 refine named fun R HQ=>?_;have I1:=ah.mk fun W=>iL pr 0 1048576 p1 p2 W;have I2:=ah.mk fun W=>iL most 1 1048576 l1 l2 W;have I4:=ah.mk fun W=>iL 1 1 8 (by decide) (by decide) W;have H1:=((Has.start w).nilRow 9 1 encS).alloc (.cells #[.string nm,.int .i64 pr,.int .i64 most] 81);obtain⟨A1,k1,w3,hr,h3⟩:=nK H1 0 rfl 106 nm (by simp);obtain⟨g3,rfl,hk1⟩:=dG h3 0 rfl rfl (by decide);have NM:=ah.mk (rZ (c:=k1) nm hs (cu h3 0 rfl rfl lX 0 nm rfl 0 _ rfl));simp only[World.size_alloc,List.length_nil,Nat.zero_add]at hr NM;have HR:=ah.mk hr;have H3:=ah.mk h3.old;clear H1 h3 hr hk1 hs p1 p2 l1 l2;go_enter Tryz.func99,Tryz.ntmps99;go_wp2_with fail
 refine wp_loop_rounds 2 ?_;rw[rounds_succ];go_wp2_with (first|(at_builtin;refine step_append rfl 106 (.tmp 22) (.tmp 25) rfl rfl rfl HR.out ?_;clear HR)|(go_at_call 97;have _t:=I1.out;clear _t;refine(I1.out _).mono ?_;rintro e w' ⟨rfl,hw⟩;obtain rfl:=hw.symm;clear hw I1)|(go_at_call 97;have _t:=I2.out;clear _t;refine(I2.out _).mono ?_;rintro e w' ⟨rfl,hw⟩;obtain rfl:=hw.symm;clear hw I2))
 rw[rounds_succ];go_wp2_with (first|(go_at_call 157;refine NM.out.mono ?_;rintro e w2 ⟨rfl,hw⟩;have H5:=ah.mk hw;clear hw)|(go_at_call 97;refine(I4.out _).mono ?_;rintro e w' ⟨rfl,hw⟩;obtain rfl:=hw.symm;clear hw))
 first|go_ret|skip
 rw[←HQ.out];exact⟨rfl,ay H3.out H3.out.size H5.out⟩
theorem xH {g c:Nat}(nm Vx:ByteArray)(pr most Xn Fb:Int)(hs:small nm)(hs2:small Vx)(hne:Lib.containsS [nm] Vx=false)(p1:0≤pr)(p2:pr≤1048576)(l1:1≤most)(l2:most≤1048576)(p3:0≤Xn)(p4:Xn≤1048576)(l3:1≤Fb)(l4:Fb≤1048576)
 (c0:w.cell? ⟨g,0,none⟩=some (.string nm)) (c1:w.cell? ⟨g,1,none⟩=some (.int .i64 pr)) (c2:w.cell? ⟨g,2,none⟩=some (.int .i64 most)) (c3:w.cell? ⟨g,3,none⟩=some (.string Vx)) (c4:w.cell? ⟨g,4,none⟩=some (.int .i64 Xn)) (c5:w.cell? ⟨g,5,none⟩=some (.int .i64 Fb)) :
 Calls Tryz.prog 99 #[.slice (some ⟨g,0,none⟩) 2 c] w fun e w'=>e=.returned (.bool true)∧Below w.heap.size w w':=by
 refine named fun R HQ=>?_;have I1:=ah.mk fun W=>iL pr 0 1048576 p1 p2 W;have I2:=ah.mk fun W=>iL most 1 1048576 l1 l2 W;have I3:=ah.mk fun W=>iL Xn 0 1048576 p3 p4 W;have I5:=ah.mk fun W=>iL Fb 1 1048576 l3 l4 W;have I4:=ah.mk fun W=>iL 2 1 8 (by decide) (by decide) W;have H1:=((Has.start w).nilRow 9 1 encS).alloc (.cells #[.string nm,.int .i64 pr,.int .i64 most] 81);obtain⟨A1,k1,w3,hr,h3⟩:=nK H1 0 rfl 106 nm (by simp);obtain⟨g3,rfl,hk1⟩:=dG h3 0 rfl rfl (by decide);have H4:=h3.alloc (.cells #[.string Vx,.int .i64 Xn,.int .i64 Fb] 81);obtain⟨A2,k2,w5,hr2,h5⟩:=nK H4 0 rfl 106 Vx (by simp);obtain⟨g5,rfl,hk2⟩:=dG h5 0 rfl rfl (by simp);have NM:=ah.mk (su (c:=k2) nm Vx hs hs2 hne (cu h5 0 rfl rfl lX 0 nm rfl 0 _ rfl) (cu h5 0 rfl rfl lX 1 Vx rfl 0 _ rfl) hk2);simp only[World.size_alloc,List.length_nil,Nat.zero_add]at hr hr2 NM;have K3:ah (∀p v,w.cell? p=some v→w3.cell? p=some v):=⟨fun p v h=>ak h3.old h⟩;have d3:=K3.out _ _ c3;have d4:=K3.out _ _ c4;have d5:=K3.out _ _ c5;have HR:=ah.mk hr;have HR2:=ah.mk hr2;have H3:=ah.mk h5.old;clear H1 h3 hr hk1 hs hs2 hne p1 p2 l1 l2 p3 p4 l3 l4 H4 h5 hr2 hk2 c3 c4 c5;go_enter Tryz.func99,Tryz.ntmps99;go_wp2_with fail
 refine wp_loop_rounds 3 ?_;rw[rounds_succ];go_wp2_with (first|(at_builtin;refine step_append rfl 106 (.tmp 22) (.tmp 25) rfl rfl rfl HR.out ?_;clear HR)|(go_at_call 97;have _t:=I1.out;clear _t;refine(I1.out _).mono ?_;rintro e w' ⟨rfl,hw⟩;obtain rfl:=hw.symm;clear hw I1)|(go_at_call 97;have _t:=I2.out;clear _t;refine(I2.out _).mono ?_;rintro e w' ⟨rfl,hw⟩;obtain rfl:=hw.symm;clear hw I2))
 rw[rounds_succ];go_wp2_with (first|(at_builtin;refine step_append rfl 106 (.tmp 22) (.tmp 25) rfl rfl rfl HR2.out ?_;clear HR2)|(go_at_call 97;have _t:=I3.out;clear _t;refine(I3.out _).mono ?_;rintro e w' ⟨rfl,hw⟩;obtain rfl:=hw.symm;clear hw I3)|(go_at_call 97;have _t:=I5.out;clear _t;refine(I5.out _).mono ?_;rintro e w' ⟨rfl,hw⟩;obtain rfl:=hw.symm;clear hw I5))
 rw[rounds_succ];go_wp2_with (first|(go_at_call 157;refine NM.out.mono ?_;rintro e w2 ⟨rfl,hw⟩;have H5:=ah.mk hw;clear hw)|(go_at_call 97;refine(I4.out _).mono ?_;rintro e w' ⟨rfl,hw⟩;obtain rfl:=hw.symm;clear hw))
 first|go_ret|skip
 rw[←HQ.out];exact⟨rfl,ay H3.out H3.out.size H5.out⟩
theorem P6:Lib.containsS [aU] bP=false:=by decide
theorem NQ:Lib.containsS [aU] aU=true:=by decide
theorem Fe:Lib.containsS [bC] dZ=false:=by decide
theorem oG {g c:Nat}(hp0:w.rangeAt g 0 acc0.toList)(hp1:w.rangeAt g 3 jg.toList) :
 Calls Tryz.prog 100 #[.slice (some ⟨g,0,none⟩) 2 c] w fun e w'=>e=.returned (.bool true)∧Below w.heap.size w w':=by
 refine named fun R HQ=>?_;have c0:w.cell? ⟨g,0,none⟩=some (.string aU):=hp0 0 _ rfl;have c1:w.cell? ⟨g,1,none⟩=some (.string cZ):=hp0 1 _ rfl;have c2:w.cell? ⟨g,2,none⟩=some (.int .i64 1):=hp0 2 _ rfl;have c3:w.cell? ⟨g,3,none⟩=some (.string bP):=hp1 0 _ rfl;have c4:w.cell? ⟨g,4,none⟩=some (.string aU):=hp1 1 _ rfl;have c5:w.cell? ⟨g,5,none⟩=some (.int .i64 1):=hp1 2 _ rfl;have I1:=ah.mk fun W=>iL 1 1 1048576 (by decide) (by decide) W;have I4:=ah.mk fun W=>iL 2 1 50 (by decide) (by decide) W;have H1:=((Has.start w).nilRow 9 1 encS).alloc (.cells #[.string aU,.string cZ,.int .i64 1] 84);obtain⟨A1,k1,w3,hr,h3⟩:=nK H1 0 rfl 106 aU (by simp);obtain⟨g3,rfl,hk1⟩:=dG h3 0 rfl rfl (by decide);have H4:=h3.alloc (.cells #[.string bP,.string aU,.int .i64 1] 84);have CT:ah (Calls Tryz.prog 158 #[.slice (some ⟨g3,0,none⟩) 1 k1,.string aU] (w3.alloc (.cells #[.string bP,.string aU,.int .i64 1] 84)) fun e w'=>e=.returned (.bool true)∧w'=w3.alloc (.cells #[.string bP,.string aU,.int .i64 1] 84)):=⟨by
  have:=Tryz.slices_Contains_string g3 0 1 k1 [aU] aU (w3.alloc (.cells #[.string bP,.string aU,.int .i64 1] 84)) (by simp) (by decide) fun j hj=>by
   obtain rfl:j=0:=by simpa using hj
   exact cu H4 0 rfl rfl lX 0 aU rfl 0 _ rfl
  rw[List.take_of_length_le (by simp),NQ]at this;exact this⟩
 obtain⟨A2,k2,w5,hr2,h5⟩:=nK H4 0 rfl 106 bP (by simp);obtain⟨g5,rfl,hk2⟩:=dG h5 0 rfl rfl (by simp);have NM:=ah.mk (su (c:=k2) aU bP iK jh P6 (cu h5 0 rfl rfl lX 0 aU rfl 0 _ rfl) (cu h5 0 rfl rfl lX 1 bP rfl 0 _ rfl) hk2);simp only[World.size_alloc,List.length_nil,Nat.zero_add]at hr hr2 NM;have K3:ah (∀p v,w.cell? p=some v→w3.cell? p=some v):=⟨fun p v h=>ak h3.old h⟩;have d3:=K3.out _ _ c3;have d4:=K3.out _ _ c4;have d5:=K3.out _ _ c5;have HR:=ah.mk hr;have HR2:=ah.mk hr2;have H3:=ah.mk h5.old;have e0:cZ.toList.isEmpty=true:=by rw[ByteArray.toList_eq];rfl
 have e1:aU.toList.isEmpty=false:=by rw[ByteArray.toList_eq];rfl
 clear H1 h3 hr hk1 H4 h5 hr2 hk2 c3 c4 c5 hp0 hp1;go_enter Tryz.func100,Tryz.ntmps100;go_wp2_with fail
 refine wp_loop_rounds 3 ?_;rw[rounds_succ];go_wp2_with (first|(at_builtin;refine step_append rfl 106 (.tmp 36) (.tmp 39) rfl rfl rfl HR.out ?_;clear HR)|(go_at_call 97;refine(I1.out _).mono ?_;rintro e w' ⟨rfl,hw⟩;obtain rfl:=hw.symm;clear hw))
 rw[rounds_succ];go_wp2_with (first|(at_builtin;refine step_append rfl 106 (.tmp 36) (.tmp 39) rfl rfl rfl HR2.out ?_;clear HR2)|(go_at_call 158;refine CT.out.mono ?_;rintro e w' ⟨rfl,hw⟩;obtain rfl:=hw.symm;clear hw)|(go_at_call 97;refine(I1.out _).mono ?_;rintro e w' ⟨rfl,hw⟩;obtain rfl:=hw.symm;clear hw))
 rw[rounds_succ];go_wp2_with (first|(go_at_call 157;refine NM.out.mono ?_;rintro e w2 ⟨rfl,hw⟩;have H5:=ah.mk hw;clear hw)|(go_at_call 97;refine(I4.out _).mono ?_;rintro e w' ⟨rfl,hw⟩;obtain rfl:=hw.symm;clear hw))
 first|go_ret|skip
 rw[←HQ.out];exact⟨rfl,ay H3.out H3.out.size H5.out⟩
end
end
section
open Go.RowKit
section
variable {w0 w:World}{L:List bW}
theorem Has.putRow (h:Has w0 w L)(i:Nat){b:Nat}{cs:Array Value}{T:TypeId}(hi:L[i]?=some (aF b (.cells cs T (0,0))))(cs':Array Value) :
 Has w0 (w.setRow b cs') (L.set i (aF b (.cells cs' T (0,0)))):=by
 obtain⟨F,h1,h2,h3⟩:=h.get i _ hi;refine h3 _ _ ⟨F,⟨setRow_heap w b cs cs' T (0,0) h1.1,h1.2⟩,⟨rfl,rfl,rfl,by simp[World.setRow],fun k hk hn=>setRow_other w b k cs' fun e=>hn (e▸h1.2)⟩,fun k hk=>⟨.inl hk,?_⟩⟩;rw[setRow_size];exact(h2 k hk).2
theorem Has.up (h:Has w0 w L){w1:World}(hb:Below w.heap.size w w1):Has w0 w1 L:=h.below hb
end
theorem Vy {u k:Nat}(h:u≤k*80000):u≤(k+1)*80000:=Nat.le_trans h (Nat.mul_le_mul_right _ (Nat.le_succ _))
theorem Td {u v m k:Nat}(h:u≤k*80000)(h1:v≤u+m)(h2:m≤80000):v≤(k+1)*80000:=by rw[Nat.succ_mul];exact Nat.le_trans h1 (Nat.add_le_add h h2)
theorem wrap_in {n:Int}(h : -9223372036854775808≤n)(h1:n≤9223372036854775807):wrap64 n=n:=(IntWalk.i64_left n).symm.trans (IntWalk.i64_in n ⟨h,h1⟩)
section
variable {w:World}
theorem vJ {A:Option Addr}{n c:Nat}{bk:List Ch}(now:Nat)(ac:ByteArray)(hb:∀c:Ch,c∈bk→c.ok now)(hn:now≤10000)(hl:bk.length≤1500)(hr:bU w 6 vI (.slice A n c) bk) :
 Calls Tryz.prog 192 #[.slice A n c,.string ac,.int .i64 now,.int .i64 50] w fun e w'=>∃u:Nat,((∃r:Int,e=.returned (.tuple #[.int .i64 u,.int .i64 r]))∧u≤130000000)∧Below w.heap.size w w':=by
 refine named fun R HQ=>?_;have hnl:n=bk.length:=hr.len;have CK:=ah.mk (Fa (now:Int) hb (by omega) hl hr);have HR:=ah.mk hr;have HK:=ah.mk hb;have HN:=ah.mk hn;have HL:=Lib.hid hnl;have hn2:n≤1500:=by omega
 have dB:(now:Int)≤10000:=by omega
 have n0:¬(now:Int)<0:=by omega
 have n1:¬(1099511627776:Int)<now:=by omega
 clear hr hb hn hnl hl;go_enter Tryz.func192,Tryz.ntmps192;have CK2:ah (Calls Tryz.prog 239 #[.slice A n c] w fun e w'=>∃r:Int,(e=.returned (.int .i64 r))∧Below w.heap.size w w'):=⟨CK.out.mono fun e w' ⟨h,hb⟩=>h.elim (fun h=>⟨0,h,hb⟩) fun h=>⟨200,h,hb⟩⟩;clear CK;go_wp2_with (go_at_call 239;refine CK2.out.mono ?_;rintro e w2 ⟨r,rfl,hw⟩;have H2:=ah.mk hw;clear hw;refine ah.out ?_)
 by_cases hr0:r=0
 ·subst hr0;refine ah.mk ?_;have main:∃(m:Nat) (t:Int),(n=0∧decide ((0:Int)<n)=false)∨((0:Int)<n∧(n:Int)-1=m∧(m:Int)<n∧∃b,A=some ⟨b,0,none⟩∧w2.cell? ⟨b,m*6+5,none⟩=some (.int .i64 t)∧¬(now:Int)<t):=by
   rcases Nat.eq_zero_or_pos n with h0|h0
   ·exact⟨0,0,.inl ⟨h0,by rw[h0];rfl⟩⟩
   ·obtain⟨y,hy⟩:∃y,bk[n-1]?=some y:=⟨_,List.getElem?_eq_getElem (by rw[←HL.out];omega)⟩;obtain⟨b,hA,gK⟩:=(HR.out.below H2.out).get (n-1) y hy;have:=(HK.out y (List.mem_of_getElem? hy)).WQ;exact⟨n-1,y.at_,.inr ⟨by omega,by omega,by omega,b,hA,gK 5 _ rfl,by omega⟩⟩
  have HH0:ah (Has w2 (w2.alloc (.cells (fG 0 0) 320)) [aF w2.heap.size (.cells (fG 0 0) 320)]):=⟨(Has.start w2).aZ _⟩;obtain⟨m,t,⟨hn0,hd⟩|⟨h0,hm1,hmn,b,hA,hc5,hle⟩⟩:=main
  ·subst hn0;clear hd;go_wp2_with fail
   go_loopw [50] (fun i wr=>∃(k u t:Nat),i=.int .i64 k∧k≤0∧ah (u≤k*80000)∧ah (Has w2 wr [aF w2.heap.size (.cells (fG u t) 320)])) (fun i _=>0-(intOf i).toNat)
   case atStart=>exact⟨0,0,0,rfl,Nat.zero_le _,ah.mk (by omega),HH0⟩
   case round =>
    clear HH0;obtain⟨k,u,t,rfl,hk,HU,HH⟩:=hrel;obtain rfl:k=0:=by omega
    have CE:ah (∀W,Calls Tryz.prog 240 #[.agg #[.int .i64 ((u:Nat):Int),.int .i64 ((t:Nat):Int)],.int .i64 ((now:Nat):Int),.int .i64 0,.int .i64 50] W fun e w'=>(∃(n' t':Nat) (r:Int),e=.returned (.tuple #[.agg (fG n' t'),.int .i64 r])∧n'≤u+0)∧Below W.heap.size W w'):=⟨fun W=>nV (w:=W) u t now 0 (by have:=HU.out;omega) (by have:=HN.out;omega) (by omega)⟩;have hload:wr.cell? ⟨w2.heap.size,0,none⟩=some (.int .i64 u):=by rw[aj (HH.out.blk 0 rfl)];rfl
    have P7:wr.cell? ⟨w2.heap.size,1,none⟩=some (.int .i64 t):=by rw[aj (HH.out.blk 0 rfl)];rfl
    unfold fG at CE;go_wp2_with (first|(have _t:=H9.out;clear _t;refine aY rfl 320 (.tmp 10) (.tmp 77) rfl w2.heap.size (fG u' t') rfl rfl 320 _ (H9.out.blk 0 rfl) (nJ _ _) rfl (qA _ _) ?_;have HP:=ah.mk (H9.out.putRow 0 rfl (fG u' t'));refine ah.out ?_)|(go_at_call 240;have _t:=CE.out;clear _t;refine(CE.out _).mono ?_;rintro e w9 ⟨⟨u',t',r',rfl,hu'⟩,hb'⟩;have H9:=ah.mk (HH.out.up hb');have Xo:=Lib.hid hu';clear hb' hu'))
    refine ah.mk ?_;have hc0:(w9.setRow w2.heap.size (fG u' t')).cell? ⟨w2.heap.size,0,none⟩=some (.int .i64 u'):=by rw[aj (HP.out.blk 0 rfl)];rfl
    go_wp2_with fail
    first|go_ret2|skip
    rw[←HQ.out];exact⟨u',⟨⟨0,rfl⟩,by have:=Xo.out;have:=HU.out;omega⟩,ay H2.out H2.out.size HP.out.old⟩
  ·have HA:=Lib.hid hA;subst hA;go_wp2_with fail
   go_loopw [50] (fun i wr=>∃(k u t:Nat),i=.int .i64 k∧k≤n∧ah (u≤k*80000)∧ah (Has w2 wr [aF w2.heap.size (.cells (fG u t) 320)])) (fun i _=>n-(intOf i).toNat)
   case atStart=>exact⟨0,0,0,rfl,Nat.zero_le _,ah.mk (by omega),HH0⟩
   case round =>
    clear HH0;obtain⟨k,u,t,rfl,hk,HU,HH⟩:=hrel;have hload:wr.cell? ⟨w2.heap.size,0,none⟩=some (.int .i64 u):=by rw[aj (HH.out.blk 0 rfl)];rfl
    have P7:wr.cell? ⟨w2.heap.size,1,none⟩=some (.int .i64 t):=by rw[aj (HH.out.blk 0 rfl)];rfl
    by_cases hlt:k<n
    ·obtain⟨x,hx⟩:∃x,bk[k]?=some x:=⟨_,List.getElem?_eq_getElem (by rw[←HL.out];exact hlt)⟩;obtain⟨b',hA2,hxr⟩:=((HR.out.below H2.out).below HH.out.old).get k x hx;cases hA2;have R1:ah (wr.rangeAt b (k*6) x.cells.toList):=⟨hxr⟩;have hok:=HK.out x (List.mem_of_getElem? hx);obtain⟨tn,htn⟩:∃tn:Nat,x.at_=tn:=⟨x.at_.toNat,by have:=hok.at0;omega⟩;have Y4:tn≤now:=by have:=hok.WQ;omega
     have hmul:∃mn:Nat,(x.workers:Int)*x.seconds=mn∧mn≤80000:=by
      obtain⟨sn,hsn⟩:∃sn:Nat,x.seconds=sn:=⟨x.seconds.toNat,by have:=hok.pG;omega⟩;refine⟨x.workers*sn,by rw[hsn];simp,?_⟩;have h1:sn≤10000:=by have:=hok.seconds;have:=HN.out;omega
      exact Nat.le_trans (Nat.mul_le_mul hok.workers h1) (by decide)
     obtain⟨mn,Xp,Xq⟩:=hmul;have Ip:=Vw x;have x1:x.cells[1]?=some (.string x.account):=rfl;have x2:x.cells[2]?=some (.int .i64 (x.workers:Int)):=rfl;have x3:x.cells[3]?=some (.int .i64 x.seconds):=rfl;have x5:x.cells[5]?=some (.int .i64 x.at_):=rfl;have CE:ah (∀W,Calls Tryz.prog 240 #[.agg #[.int .i64 ((u:Nat):Int),.int .i64 ((t:Nat):Int)],.int .i64 ((tn:Nat):Int),.int .i64 ((mn:Nat):Int),.int .i64 50] W fun e w'=>(∃(n' t':Nat) (r:Int),e=.returned (.tuple #[.agg (fG n' t'),.int .i64 r])∧n'≤u+mn)∧Below W.heap.size W w'):=⟨fun W=>nV (w:=W) u t tn mn (by have:=HU.out;omega) (by have:=HN.out;omega) (by omega)⟩;have HX:=ah.mk (And.intro htn (show wrap64 ((x.workers:Int)*x.seconds)=(mn:Int) by rw[Xp];exact wrap_in (by omega) (by omega)));have HMN:=ah.mk Xq;clear hxr hok htn Y4 Xp Xq hx;have HHA:=ah.mk (HH.out.alloc (.cells x.cells 61));have ha0:∀o,(wr.alloc o).cell? ⟨w2.heap.size,0,none⟩=some (.int .i64 u):=fun o=>ak (au (Below.refl _ _) _) hload;have ha1:∀o,(wr.alloc o).cell? ⟨w2.heap.size,1,none⟩=some (.int .i64 t):=fun o=>ak (au (Below.refl _ _) _) P7;cases hac:(x.account.toList==ac.toList)with
     |false =>
      go_wp2_with (first|(refine aB wr.heap.size rfl rfl 61 (.tmp 12) (.tmp 53) rfl x.cells rfl rfl 61 _ Ip rfl x.one ?_)|(refine aI rfl 61 (.tmp 52) rfl b (k*6) rfl x.cells _ R1.out Tryz.underlying61 rfl Ip ?_))
      go_roundw
      case rel=>exact⟨k+1,u,t,by go_num,by omega,⟨Vy HU.out⟩,HHA⟩
      case measure=>simp[intOf];omega
     |true =>
      go_wp2_with (first|(have _t:=H9.out;clear _t;refine aY rfl 320 (.tmp 10) (.tmp 69) rfl w2.heap.size (fG u' t') rfl rfl 320 _ (H9.out.blk 0 rfl) (nJ _ _) rfl (qA _ _) ?_;have HP:=ah.mk (H9.out.putRow 0 rfl (fG u' t')))|(go_at_call 240;have _t:=CE.out;clear _t;rw[HX.out.1,HX.out.2];refine(CE.out _).mono ?_;rintro e w9 ⟨⟨u',t',r',rfl,hu'⟩,hb'⟩;have H9:=ah.mk (HHA.out.up hb');have Xo:=ah.mk hu';clear hb' hu')|(refine aB wr.heap.size rfl rfl 61 (.tmp 12) (.tmp 53) rfl x.cells rfl rfl 61 _ Ip rfl x.one ?_)|(refine aI rfl 61 (.tmp 52) rfl b (k*6) rfl x.cells _ R1.out Tryz.underlying61 rfl Ip ?_))
      go_roundw
      case rel=>exact⟨k+1,u',t',by go_num,by omega,⟨Td HU.out Xo.out HMN.out⟩,HP⟩
      case measure=>simp[intOf];omega
    ·obtain rfl:k=n:=by omega
     have CE:ah (∀W,Calls Tryz.prog 240 #[.agg #[.int .i64 ((u:Nat):Int),.int .i64 ((t:Nat):Int)],.int .i64 ((now:Nat):Int),.int .i64 0,.int .i64 50] W fun e w'=>(∃(n' t':Nat) (r:Int),e=.returned (.tuple #[.agg (fG n' t'),.int .i64 r])∧n'≤u+0)∧Below W.heap.size W w'):=⟨fun W=>nV (w:=W) u t now 0 (by have:=HU.out;omega) (by have:=HN.out;omega) (by omega)⟩;go_wp2_with (first|(have _t:=H9.out;clear _t;refine aY rfl 320 (.tmp 10) (.tmp 77) rfl w2.heap.size (fG u' t') rfl rfl 320 _ (H9.out.blk 0 rfl) (nJ _ _) rfl (qA _ _) ?_;have HP:=ah.mk (H9.out.putRow 0 rfl (fG u' t'));refine ah.out ?_)|(go_at_call 240;have _t:=CE.out;clear _t;refine(CE.out _).mono ?_;rintro e w9 ⟨⟨u',t',r',rfl,hu'⟩,hb'⟩;have H9:=ah.mk (HH.out.up hb');have Xo:=Lib.hid hu';clear hb' hu'))
     refine ah.mk ?_;have hc0:(w9.setRow w2.heap.size (fG u' t')).cell? ⟨w2.heap.size,0,none⟩=some (.int .i64 u'):=by rw[aj (HP.out.blk 0 rfl)];rfl
     go_wp2_with fail
     first|go_ret2|skip
     rw[←HQ.out];exact⟨u',⟨⟨0,rfl⟩,by have:=Xo.out;have:=HU.out;omega⟩,ay H2.out H2.out.size HP.out.old⟩
 ·refine ah.mk ?_;have hz:(r != 0)=true:=by simpa using hr0
  clear hr0;go_wp2_with fail
  first|go_ret2|skip
  rw[←HQ.out];exact⟨0,⟨⟨200,rfl⟩,by omega⟩,H2.out⟩
end
end
section
open Go.RowKit
theorem GW.start {w:World}{Q:World→Prop}(h:∀g:GW w,Q g.W):Q w:=h (GW.self w)
section
variable {w:World}
def nC:Array Value:=#[.int .i64 0,.int .i64 0,.int .i64 0,.int .i64 0,.int .i64 0]
def bT (pol half sF req:Int)(pv cv av:Value):Array Value:=#[.int .i64 pol,.int .i64 half,.int .i64 sF,.int .i64 req,.int .i64 0,.int .i64 0,.int .i64 0,.int .i64 0,.int .i64 0,pv,cv,av]
theorem lY (pol half sF req:Int)(pv cv av:Value):(Tryz.prog.info? 33).map (·.size)=some (bT pol half sF req pv cv av).size:=by rw[show(bT pol half sF req pv cv av).size=12 from rfl];kernel_rfl
theorem xI (pol half sF req:Int){pA cA aA:Option Addr}{pn pc cn cc an ac:Nat}(h1:1≤pol)(h2:pol≤4)(h3:1≤half)(h4:half≤4294967296)(h5:1≤sF)(h6:sF≤1073741824)(h7:0≤req)(h8:req≤100)
 (hP:∀g:GW w,Calls Tryz.prog 98 #[.slice pA pn pc] g.W fun e w'=>e=.returned (.bool true)∧Below g.W.heap.size g.W w')
 (hC:∀g:GW w,Calls Tryz.prog 99 #[.slice cA cn cc] g.W fun e w'=>e=.returned (.bool true)∧Below g.W.heap.size g.W w')
 (hA:∀g:GW w,Calls Tryz.prog 100 #[.slice aA an ac] g.W fun e w'=>e=.returned (.bool true)∧Below g.W.heap.size g.W w') :
 Calls Tryz.prog 55 #[.agg (bT pol half sF req (.slice pA pn pc) (.slice cA cn cc) (.slice aA an ac))] w fun e w'=>e=.returned (.int .i64 0)∧Below w.heap.size w w':=by
 refine named fun R HQ=>?_;have I0:=ah.mk fun W=>iL 0 0 1048576 (by decide) (by decide) W;have I1:=ah.mk fun W=>iL pol 1 4 h1 h2 W;have I2:=ah.mk fun W=>iL half 1 4294967296 h3 h4 W;have I3:=ah.mk fun W=>iL sF 1 1073741824 h5 h6 W;have I4:=ah.mk fun W=>iL req 0 100 h7 h8 W;have HP:=ah.mk (And.intro hP (And.intro hC hA));have hx:∀W,(Instr.index 172 (.agg #[.int .i64 0,.int .i64 0,.int .i64 0,.int .i64 0,.int .i64 0]) (.int .i64 0)).run Tryz.prog W=.ok (.int .i64 0) W:=fun W=>by kernel_rfl
 have hx1:∀W,(Instr.index 172 (.agg #[.int .i64 0,.int .i64 0,.int .i64 0,.int .i64 0,.int .i64 0]) (.int .i64 1)).run Tryz.prog W=.ok (.int .i64 0) W:=fun W=>by kernel_rfl
 have hx2:∀W,(Instr.index 172 (.agg #[.int .i64 0,.int .i64 0,.int .i64 0,.int .i64 0,.int .i64 0]) (.int .i64 2)).run Tryz.prog W=.ok (.int .i64 0) W:=fun W=>by kernel_rfl
 have hx3:∀W,(Instr.index 172 (.agg #[.int .i64 0,.int .i64 0,.int .i64 0,.int .i64 0,.int .i64 0]) (.int .i64 3)).run Tryz.prog W=.ok (.int .i64 0) W:=fun W=>by kernel_rfl
 have hx4:∀W,(Instr.index 172 (.agg #[.int .i64 0,.int .i64 0,.int .i64 0,.int .i64 0,.int .i64 0]) (.int .i64 4)).run Tryz.prog W=.ok (.int .i64 0) W:=fun W=>by kernel_rfl
 clear h1 h2 h3 h4 h5 h6 h7 h8 hP hC hA;unfold bT;go_enter Tryz.func55,Tryz.ntmps55;go_wp2_with fail
 refine wp_loop_rounds 6 ?_;iterate 5
  rw[rounds_succ];go_wp2_with (go_at_call 97;refine(I0.out _).mono ?_;rintro e w' ⟨rfl,hw⟩;obtain rfl:=hw.symm;clear hw)
 clear I0 hx hx1 hx2 hx3 hx4;rw[rounds_succ];obtain⟨W0,hW⟩:∃W0,W0=(w.alloc (.cells (bT pol half sF req (.slice pA pn pc) (.slice cA cn cc) (.slice aA an ac)) 33)).alloc (.cells nC 28):=⟨_,rfl⟩;have hh:W0.heap[w.heap.size]?=some (.cells (bT pol half sF req (.slice pA pn pc) (.slice cA cn cc) (.slice aA an ac)) 33):=by rw[hW,heap_alloc_old _ _ (by simp)];exact heap_alloc_new _ _
 have B0:=ah.mk (show Below w.heap.size w W0 by rw[hW];exact au (au (Below.refl _ _) _) _);unfold bT nC at hW;rw[←hW];clear hW;have d0:∀g:GW W0,g.W.cell? ⟨w.heap.size,0,none⟩=some (.int .i64 pol):=fun g=>g.cell (by rw[aj hh];rfl);have d1:∀g:GW W0,g.W.cell? ⟨w.heap.size,1,none⟩=some (.int .i64 half):=fun g=>g.cell (by rw[aj hh];rfl);have d2:∀g:GW W0,g.W.cell? ⟨w.heap.size,2,none⟩=some (.int .i64 sF):=fun g=>g.cell (by rw[aj hh];rfl);have d3:∀g:GW W0,g.W.cell? ⟨w.heap.size,3,none⟩=some (.int .i64 req):=fun g=>g.cell (by rw[aj hh];rfl);have d9:∀g:GW W0,g.W.cell? ⟨w.heap.size,9,none⟩=some (.slice pA pn pc):=fun g=>g.cell (by rw[aj hh];rfl);have d10:∀g:GW W0,g.W.cell? ⟨w.heap.size,10,none⟩=some (.slice cA cn cc):=fun g=>g.cell (by rw[aj hh];rfl);have d11:∀g:GW W0,g.W.cell? ⟨w.heap.size,11,none⟩=some (.slice aA an ac):=fun g=>g.cell (by rw[aj hh];rfl);have up:∀g:GW W0,∃k:GW w,g.W=k.W:=fun g=>⟨⟨g.W,ay B0.out B0.out.size g.h⟩,rfl⟩;have HP2:ah (∀g:GW W0,(Calls Tryz.prog 98 #[.slice pA pn pc] g.W fun e w'=>e=.returned (.bool true)∧∃g':GW W0,w'=g'.W)∧(Calls Tryz.prog 99 #[.slice cA cn cc] g.W fun e w'=>e=.returned (.bool true)∧∃g':GW W0,w'=g'.W)∧(Calls Tryz.prog 100 #[.slice aA an ac] g.W fun e w'=>e=.returned (.bool true)∧∃g':GW W0,w'=g'.W)):=⟨fun g=>by
  obtain⟨k,hk⟩:=up g;refine⟨?_,?_,?_⟩
  ·have:=HP.out.1 k;rw[←hk]at this;exact GW.calls this
  ·have:=HP.out.2.1 k;rw[←hk]at this;exact GW.calls this
  ·have:=HP.out.2.2 k;rw[←hk]at this;exact GW.calls this⟩
 clear up hh;refine GW.start (w:=W0) ?_;intro g0;go_wp2_with (first|(go_at_call 97;have _t:=I1.out;clear _t;refine(I1.out _).mono ?_;rintro e w' ⟨rfl,hw⟩;obtain rfl:=hw.symm;clear hw I1)|(go_at_call 97;have _t:=I2.out;clear _t;refine(I2.out _).mono ?_;rintro e w' ⟨rfl,hw⟩;obtain rfl:=hw.symm;clear hw I2)|(go_at_call 97;have _t:=I3.out;clear _t;refine(I3.out _).mono ?_;rintro e w' ⟨rfl,hw⟩;obtain rfl:=hw.symm;clear hw I3)|(go_at_call 97;have _t:=I4.out;clear _t;refine(I4.out _).mono ?_;rintro e w' ⟨rfl,hw⟩;obtain rfl:=hw.symm;clear hw I4)|(go_at_call 98;refine(HP2.out _).1.mono ?_;rintro e w' ⟨rfl,g1,rfl⟩)|(go_at_call 99;refine(HP2.out _).2.1.mono ?_;rintro e w' ⟨rfl,g2,rfl⟩)|(go_at_call 100;refine(HP2.out _).2.2.mono ?_;rintro e w' ⟨rfl,g3,rfl⟩))
 first|go_ret|skip
 rw[←HQ.out];exact⟨rfl,ay B0.out B0.out.size g3.h⟩
end
end
end Go.Proofs.YtandhagfhppgaaaGreatDoor
