/- Part 15 of a proof: contracts of the functions that the law reaches. No condition. -/
import Derived.Test.YtandhagfhppgaaaGreatDoorS8
import Derived.Test.YtandhagfhppgaaaGreatDoorS10
import Derived.Test.YtandhagfhppgaaaGreatDoorS12
import Derived.Test.YtandhagfhppgaaaGreatDoorS13
set_option linter.all false
set_option maxRecDepth 100000
set_option maxHeartbeats 16000000
namespace Go.Proofs.YtandhagfhppgaaaGreatDoor
section
open Go.RowKit
section
variable {P:Program}{ops:Array Oper}{w:World}{Q:Act→Prop}{a:Act}{o:Oper}{rest:List Oper}
theorem oH (hw:Region.wanted o (yielded ops a.tmps)=true)(t:TypeId)(m x:Operand)(ok:Bool)(ho:o.op=.lookup t m x ok){mv kv v:Value}(hm:a.eval m=mv)(hx:a.eval x=kv)(hr:(Instr.lookup t mv kv ok).run P w=.ok v w)
 (a':Act) (ha:a.put o.dst v=a') (h:wpStill P ops w Q rest a'):wpStill P ops w Q (o::rest) a :=
 wpStill_step fun K hK=>by
  rw[if_pos hw];unfold Oper.still;simp only[execOp,ho,hm,hx,Sem.run_bind,hr,Result.andThen_ok,Sem.run_pure];exact⟨rfl,hK _ (by rw[ha];exact h)⟩
theorem wC {C:World→Prop}(hw:Region.wanted o (yielded ops a.tmps)=true)(t:TypeId)(m x:Operand)(ok:Bool)(ho:o.op=.lookup t m x ok){mv kv v:Value}(hm:a.eval m=mv)(hx:a.eval x=kv)(hr:∀W,C W→(Instr.lookup t mv kv ok).run P W=.ok v W)
 (a':Act) (ha:a.put o.dst v=a') (h:wpQuiet P ops C Q rest a'):wpQuiet P ops C Q (o::rest) a :=
 BigFrame.wpQuiet_want hw fun K hK=>⟨v,fun W hW=>by
  unfold Oper.quietAt;simp only[execOp,ho,hm,hx,Sem.run_bind,hr W hW,Result.andThen_ok,Sem.run_pure];exact⟨rfl,rfl⟩,hK _ (by rw[ha];exact h)⟩
end
section
variable {w0 w:World}{L:List bW}
theorem fC.quiet {P:Program}{f:FuncId}{xs:Array Value}{w:World}{n:Nat}{v:Value}(h:Calls P f xs (w.drewN n) fun e w'=>e=.returned v∧fC (w.drewN n) w'):Calls P f xs (w.drewN n) fun e w''=>e=.returned v∧∃m,w''=w.drewN m :=
 Calls.quiet_of (h.mono fun e w' ⟨he,k⟩=>⟨he,k.out⟩)
theorem Fh {ag ac:Nat}(hA:mX w ag) :
 Calls Tryz.prog 242 #[.slice (some ⟨ag,0,none⟩) 2 ac] w fun e w'=>∃g c,e=.returned (.tuple #[.slice (some ⟨g,0,none⟩) 2 c,.int .i64 0])∧Has w w' [aV 3 1 encI (.slice (some ⟨g,0,none⟩) 2 c) [65536,65536]]:=by
 refine named fun R HQ=>?_;have HA:=ah.mk hA;have hmk:=P8;have hmm:=@run_makeMap Tryz.prog;obtain⟨W1,hW1⟩:∃W1,W1=w.alloc (.cells #[.int .i64 0,.int .i64 0] 3):=⟨_,rfl⟩;have hB:Below w.heap.size w W1:=by rw[hW1];exact au (Below.refl _ _) _
 have RC:=ah.mk (sH (w:=W1) (ac:=ac) (og:=w.heap.size) (oc:=2) 0 0 (by decide) (by decide) (hA.below hB) (by rw[hW1,aj (heap_alloc_new _ _)];rfl) (by rw[hW1,aj (heap_alloc_new _ _)];rfl));have PC:=ah.mk fun(g:GW w)=>sJ (ac:=ac) (hA.on g);have B1:=ah.mk hB;subst hW1;clear hA hB;go_enter Tryz.func242,Tryz.ntmps242;go_wp2_with (first|(go_at_call 283;refine RC.out.mono ?_;rintro e w' ⟨rfl,hw⟩;obtain⟨g1,hg1⟩:∃g1:GW w,w'=g1.W:=⟨⟨w',ay B1.out B1.out.size hw⟩,rfl⟩;subst hg1;clear hw)|(go_at_call 284;refine(PC.out _).mono ?_;rintro e w2 ⟨ug,uc,rfl,hw⟩;have H2:=ah.mk ((Has.start w).below g1.h |>.more hw);clear hw;refine ah.out ?_))
 have H3:=H2.out.jW (Value.int .i64);obtain⟨a0,a1,a2,_⟩:=lG (HA.out.below H3.old);have H4:=H3.aZ (.cells #[.string aU,.string cZ,.int .i64 1] 84);obtain⟨W4,U1⟩:∃W4,W4=(w2.alloc (.map #[] 0)).alloc (.cells #[.string aU,.string cZ,.int .i64 1] 84):=⟨_,rfl⟩;rw[←U1]at H4;have u0:W4.cell? ⟨ug,0,none⟩=some (.int .i64 (-1)):=cu H4 0 rfl rfl bJ 0 (-1:Int) rfl 0 _ rfl;have v0:W4.cell? ⟨w2.heap.size+1,2,none⟩=some (.int .i64 1):=by rw[U1];rw[show w2.heap.size+1=(w2.alloc (.map #[] 0)).heap.size by simp,aj (heap_alloc_new _ _)];rfl
 have k4:(Instr.lookup 365 (.map (some w2.heap.size)) (.int .i64 (-1)) false).run Tryz.prog { W4 with drawn:=W4.drawn+1}=.ok (.int .i64 0) { W4 with drawn:=W4.drawn+1}:=dR (gI .i64) H4.drew 1 rfl 365 3 3 Tryz.underlying365 Tryz.underlying3 (.int .i64 0) (zero3 _) (-1) false;obtain⟨w5,xB,h5⟩:=run_store (gI .i64) H4.drew 1 rfl 365 3 3 Tryz.underlying365 Tryz.underlying3 (-1) (.int .i64 1);obtain⟨_,_,_,b3,b4,b5⟩:=lG (HA.out.below h5.old);have H6:=h5.aZ (.cells #[.string bP,.string aU,.int .i64 1] 84);obtain⟨W6,vM⟩:∃W6,W6=w5.alloc (.cells #[.string bP,.string aU,.int .i64 1] 84):=⟨_,rfl⟩;rw[←vM]at H6;have u1:W6.cell? ⟨ug,1,none⟩=some (.int .i64 0):=cu H6 0 rfl rfl bJ 1 (0:Int) rfl 0 _ rfl;have v1:W6.cell? ⟨w5.heap.size,2,none⟩=some (.int .i64 1):=by rw[vM,aj (heap_alloc_new _ _)];rfl
 have k6:(Instr.lookup 365 (.map (some w2.heap.size)) (.int .i64 0) false).run Tryz.prog { W6 with drawn:=W6.drawn+1}=.ok (.int .i64 0) { W6 with drawn:=W6.drawn+1}:=dR (gI .i64) H6.drew 1 rfl 365 3 3 Tryz.underlying365 Tryz.underlying3 (.int .i64 0) (zero3 _) 0 false;obtain⟨w7,hr7,h7⟩:=run_store (gI .i64) H6.drew 1 rfl 365 3 3 Tryz.underlying365 Tryz.underlying3 0 (.int .i64 1);have K4:=ah.mk k4;have K6:=ah.mk k6;have X5:=ah.mk xB;have X7:=ah.mk hr7;have H7:=ah.mk h7;have H5:=ah.mk h5;have HW4:=ah.mk U1;have Y7:=ah.mk vM;clear k4 k6 xB hr7 h7 h5 H4 H6 H3 U1 vM;unfold cZ aU bP at *;refine ah.mk ?_;go_wp2_with fail
 refine wp_loop_rounds 3 ?_;rw[rounds_succ];go_wp2_with fail
 rw[←HW4.out];go_still_tail 9,(by kernel_rfl)
 refine oH rfl 365 _ _ false rfl rfl rfl K4.out _ rfl ?_;simp only[Act.put,List.setIfInBounds_toArray,List.set_cons_succ,List.set_cons_zero];repeat still_step
 refine wpStill_nil ?_;change wpList _ _ _ _ _ (World.drew W4);go_wp2_with (refine kK rfl 365 _ _ _ rfl rfl rfl rfl X5.out ?_)
 rw[rounds_succ];go_wp2_with fail
 rw[←Y7.out];go_still_tail 9,(by kernel_rfl)
 refine oH rfl 365 _ _ false rfl rfl rfl K6.out _ rfl ?_;simp only[Act.put,List.setIfInBounds_toArray,List.set_cons_succ,List.set_cons_zero];repeat still_step
 refine wpStill_nil ?_;change wpList _ _ _ _ _ (World.drew W6);go_wp2_with (refine kK rfl 365 _ _ _ rfl rfl rfl rfl X7.out ?_)
 rw[rounds_succ];go_wp2_with fail
 have H8:=H7.out.aZ (.cells #[.int .i64 65536] 3);obtain⟨W8,Xr⟩:∃W8,W8=w7.alloc (.cells #[.int .i64 65536] 3):=⟨_,rfl⟩;rw[←Xr]at H8;have p1:W8.cell? ⟨ug,1,none⟩=some (.int .i64 0):=cu H8 0 rfl rfl bJ 1 (0:Int) rfl 0 _ rfl;have p2:W8.cell? ⟨w7.heap.size,0,none⟩=some (.int .i64 65536):=by rw[Xr,aj (heap_alloc_new _ _)];rfl
 obtain⟨_,_,_,_,_,p3⟩:=lG (HA.out.below H8.old);have K8:ah (∀W,(∃n,W=W8.drewN n)→(Instr.lookup 365 (.map (some w2.heap.size)) (.int .i64 0) false).run Tryz.prog W=.ok (.int .i64 1) W):=⟨by
  rintro W ⟨n,rfl⟩;exact dR (gI .i64) (H8.drewN n) 1 rfl 365 3 3 Tryz.underlying365 Tryz.underlying3 (.int .i64 0) (zero3 _) 0 false⟩
 have M8:=ah.mk fun W=>jK (w:=W) 65536 1 1 (by decide) (by decide) (by decide) (by decide) (by decide);have H9:ah (Has w W8 [aV 3 1 encI (.slice (some ⟨w7.heap.size,0,none⟩) 1 1) [65536]]):=⟨by
  have:=nX (enc:=encI) (e:=3) (sz:=1) (cs:=#[.int .i64 65536]) H8 4 rfl [65536] rfl rfl (show 1≤maxLen by decide);exact(((this.drop 0).drop 0).drop 0).drop 0⟩
 rw[←Xr];have HW8:=ah.mk Xr;clear Xr H8;refine wp_loop_rounds 2 ?_;rw[rounds_succ];go_wp2_with fail
 refine wp_region_quiet_lit (by kernel_rfl) (by kernel_rfl) ?_;repeat (go_big_quiet_step (fail))
 refine wC rfl 365 _ _ false rfl rfl rfl K8.out _ rfl ?_;simp only[Act.put,List.setIfInBounds_toArray,List.set_cons_succ,List.set_cons_zero];repeat (go_big_quiet_step ((go_at_call 282;exact fC.quiet (M8.out _))))
 refine wpQuiet_nil ?_;intro _ hw';obtain⟨nq,rfl⟩:=hw';obtain⟨A9,k9,w9,hr9,h9⟩:=xK (H9.out.drewN nq) 0 rfl 44 65536 (by simp);obtain⟨g9,rfl,_⟩:=dG h9 0 rfl rfl (by simp);have X9:=ah.mk hr9;have vN:=ah.mk h9;clear hr9 h9;go_wp2_with (at_builtin;refine step_append rfl 44 (.tmp 70) (.tmp 72) rfl rfl rfl X9.out ?_)
 rw[rounds_succ];go_wp2_with fail
 first|go_ret2|skip
 rw[←HQ.out];exact⟨_,_,rfl,vN.out⟩
end
end
section
open Go.RowKit
section
variable {w0 w W:World}{L:List bW}{ops:Array Oper}{rest:List Oper}{o:Oper}{a:Act}{Q:Exit→Act→World→Prop}
theorem Fj {α:Type}{enc:α→List Value}(t:TypeId)(s x:Operand)(hgd:o.guard=none)(ho:o.op=.call { callee:=.builtin .append,args:=#[s,x],argTypes:=#[t,t]})(H:Has w0 W L)(i:Nat){e:TypeId}{sz:Nat}{v:Value}{l:List α}(hi:L[i]?=some (aV e sz enc v l))(ht:Tryz.prog.underlying t=some (.slice e))
 (hinfo:∃i0 z,Tryz.prog.info? e=some i0∧i0.zero=some z∧i0.size=sz∧i0.bytes≤1000∧z.cells.size=sz) (h0:0<sz) (hn:l.length≤4000000000) (hs:a.eval s=v) (hx:a.eval x=.slice (some ⟨W.heap.size,0,none⟩) 1 1) (y:α) (ys:Array Value) (hys:ys.toList=enc y) (hsz:ys.size=sz) (h1:ys.all (·.oneCell')=true)
 (h:∀A1 c1 w1,Has w0 w1 (L.set i (aV e sz enc (.slice A1 (l.length+1) c1) (l++[y])))→wpList Tryz.prog ops Q rest (a.put o.dst (.slice A1 (l.length+1) c1)) w1):wpList Tryz.prog ops Q (o::rest) a (W.alloc (.cells ys e)):=by
 obtain⟨A1,c1,w1,hr,hh⟩:=wR H i hi t o.type ht hinfo h0 y ys hys hsz h1 hn;exact step_append hgd t s x ho hs hx hr (h A1 c1 w1 hh)
theorem nM (s x:Operand)(hgd:o.guard=none)(ho:o.op=.call { callee:=.builtin .append,args:=#[s,x],argTypes:=#[44,44]})(H:Has w0 W L)(i:Nat){v:Value}{l:List Int}(hi:L[i]?=some (aV 3 1 encI v l))(hn:l.length≤4000000000)(hs:a.eval s=v)(hx:a.eval x=.slice (some ⟨W.heap.size,0,none⟩) 1 1)(y:Int)
 (h:∀A1 c1 w1,Has w0 w1 (L.set i (aV 3 1 encI (.slice A1 (l.length+1) c1) (l++[y])))→wpList Tryz.prog ops Q rest (a.put o.dst (.slice A1 (l.length+1) c1)) w1):wpList Tryz.prog ops Q (o::rest) a (W.alloc (.cells #[.int .i64 y] 3)):=
 Fj 44 s x hgd ho H i hi Tryz.underlying44 info3 (by decide) hn hs hx y _ rfl rfl (by simp[Value.oneCell']) h
end
section
variable {w:World}
theorem zy {ag ac og oc:Nat}(a b:Nat)(ha:a≤1000000000)(hb:b≤1000000000)(hA:mX w ag)(o0:w.cell? ⟨og,0,none⟩=some (.int .i64 a))(o1:w.cell? ⟨og,1,none⟩=some (.int .i64 b)) :
 Calls Tryz.prog 193 #[.slice (some ⟨ag,0,none⟩) 2 ac,.slice (some ⟨og,0,none⟩) 2 oc] w fun e w'=>∃g c,e=.returned (.tuple #[.slice (some ⟨g,0,none⟩) 2 c,.int .i64 0])∧∃p q:Int,Has w w' [aV 3 1 encI (.slice (some ⟨g,0,none⟩) 2 c) [p,q]]:=by
 refine named fun R HQ=>?_;have PC:=ah.mk (CV (ac:=ac) (oc:=oc) a b ha hb hA o0 o1);have HA:=ah.mk hA;clear hA o0 o1 ha hb;go_enter Tryz.func193,Tryz.ntmps193;go_wp2_with (first|(go_at_call 241;refine PC.out.mono ?_;rintro e w2 ⟨pg,pc,rfl,p,q,hp,hq,hw⟩;have H2:=ah.mk hw;have NC:=ah.mk (Fh (ac:=ac) (HA.out.below hw.old));have PQ:=ah.mk (And.intro hp hq);clear hw hp hq)|(go_at_call 242;refine NC.out.mono ?_;rintro e w3 ⟨ng,nc,rfl,hw⟩;have H3:=ah.mk (H2.out.more hw);clear hw;refine ah.out ?_))
 have p0:w3.cell? ⟨pg,0,none⟩=some (.int .i64 p):=cu H3.out 0 rfl rfl bJ 0 (p:Int) rfl 0 _ rfl;have n0:w3.cell? ⟨ng,0,none⟩=some (.int .i64 65536):=cu H3.out 1 rfl rfl bJ 0 (65536:Int) rfl 0 _ rfl;have hp:(p:Int)≤65536:=by have:=PQ.out;omega
 have hq:(q:Int)≤65536:=by have:=PQ.out;omega
 have H4:=ah.mk (H3.out.nilRow 3 1 encI);refine ah.mk ?_;go_wp2_with fail
 refine wp_loop_rounds 3 ?_;rw[rounds_succ];go_wp2_with (at_builtin;refine nM (.tmp 51) (.tmp 53) rfl rfl H4.out 2 rfl (by simp) rfl rfl _ ?_;intro A5 c5 w5 h5;have H5:=ah.mk h5;clear h5;refine ah.out ?_)
 have p1:w5.cell? ⟨pg,1,none⟩=some (.int .i64 q):=cu H5.out 0 rfl rfl bJ 1 (q:Int) rfl 0 _ rfl;have n1:w5.cell? ⟨ng,1,none⟩=some (.int .i64 65536):=cu H5.out 1 rfl rfl bJ 1 (65536:Int) rfl 0 _ rfl;refine ah.mk ?_;go_wp2_with fail
 rw[rounds_succ];go_wp2_with (at_builtin;refine nM (.tmp 51) (.tmp 53) rfl rfl H5.out 2 rfl (by simp) rfl rfl _ ?_;intro A6 c6 w6 h6;obtain⟨g6,hg6,_⟩:=dG h6 2 rfl rfl (by simp);subst hg6;have H6:=ah.mk h6;clear h6)
 rw[rounds_succ];go_wp2_with fail
 first|go_ret2|skip
 rw[←HQ.out];exact⟨_,_,rfl,_,_,(H6.out.drop 0).drop 0⟩
end
end
section
open Go.RowKit Go.ChangeMaps
theorem Gu (v:Value)(xT:TypeId)(w:World):(Instr.typeAssert (.iface 9 v) xT 9 true).run Tryz.prog w=.ok (.tuple #[v,.bool true]) w:=by
 simp[Instr.typeAssert,run_underlying Tryz.underlying9,go_sem,Result.andThen]
theorem gJ (v:Value)(xT:TypeId)(w:World):(Instr.typeAssert (.iface 3 v) xT 3 false).run Tryz.prog w=.ok v w:=by
 simp[Instr.typeAssert,run_underlying Tryz.underlying3,go_sem,Result.andThen]
def oO (s:ByteArray):Prop:=(∀(j:Nat) b,s.data.toList[j]?=some b→48≤b.toNat∧b.toNat≤57)∧1≤s.size∧s.size≤4
def mV:List UInt8→Nat→Nat
 |[],n=>n
 |b::l,n=>mV l (10*n+(b.toNat-48))
theorem uV (l:List UInt8)(b:UInt8):∀n,mV (l++[b]) n=10*mV l n+(b.toNat-48):=by
 induction l with
 |nil=>intro n;rfl
 |cons x l ih=>intro n;exact ih _
theorem MX:∀(l:List UInt8) (n m:Nat),(∀b∈l,b.toNat≤57)→n<10^m→mV l n<10^(m+l.length)
 |[],n,m,_,h=>by simpa[mV]using h
 |b::l,n,m,hb,h=>by
  have:=MX l (10*n+(b.toNat-48)) (m+1) (fun x hx=>hb x (List.mem_cons_of_mem _ hx)) (by
   have:=hb b (List.mem_cons_self ..);rw[Nat.pow_succ];omega)
  rw[List.length_cons,show m+(l.length+1)=m+1+l.length by omega];exact this
def val (s:ByteArray):Nat:=mV s.data.toList 0
def numeral (s:ByteArray):Bool:=s.data.toList==[48]||s.data.toList[0]? != some 48
section
variable {w:World}
theorem uX {s:ByteArray}(h:oO s)(i:Nat):mV (s.data.toList.take i) 0<10000:=by
 have:=MX (s.data.toList.take i) 0 0 (fun b hb=>by
  obtain⟨j,hj⟩:=List.mem_iff_getElem?.1 (List.mem_of_mem_take hb);exact(h.1 j b hj).2) (by decide)
 refine Nat.lt_of_lt_of_le this ?_;rw[Nat.zero_add,List.length_take];have h4:=h.2.2;rw[Lib.size_eq]at h4;exact Nat.pow_le_pow_right (by decide) (by omega:min i s.data.toList.length≤4)
set_option maxRecDepth 1000000 in
theorem uf (s:ByteArray)(hs:oO s):Calls Tryz.prog 81 #[.string s] w fun e w'=>e=.returned (.tuple #[.iface 3 (.int .i64 (val s:Int)),.bool (numeral s)])∧Below w.heap.size w w':=by
 refine named fun R HQ=>?_;have HA:=ah.mk hs;have hsz:s.size≤4:=hs.2.2;have hz:(4294967296:Nat)>s.size:=by omega
 clear hs;go_enter Tryz.func81,Tryz.ntmps81;go_wp2_with fail
 go_loopg [4] s.size (fun g s4 wx=>∃i:Nat,i+g=s.size∧s4=.int .i64 (mV (s.data.toList.take i) 0:Int)∧wx=w.iter s i)
 case atStart=>exact⟨0,by omega,rfl,rfl⟩
 case round =>
  obtain⟨i,hig,rfl,rfl⟩:=hrel;cases gk with
  |zero =>
   obtain rfl:i=s.size:=by omega
   have hnx:=run_next_end (P:=Tryz.prog) w s s.size;go_wp2_with fail
   have hem:s.toList.isEmpty=false:=by
    rw[ByteArray.toList_eq];have h1:=HA.out.2.1;rw[Lib.size_eq]at h1;cases hl:s.data.toList with
    |nil=>rw[hl]at h1;exact absurd h1 (by decide)
    |cons x l=>rfl
   have ZL:=ah.mk (ByteArray.toList_eq s);have h0:(0:Nat)<s.size:=HA.out.2.1;cases h48:(s.toList==[48])
   ·have hnum:numeral s=(((s[0]'h0).toNat:Int) != 48):=by
     unfold numeral;rw[←ZL.out,h48,ZL.out,Lib.data_getElem? s 0 h0,Bool.false_or];rw[Bool.eq_iff_iff,bne_iff_ne,bne_iff_ne];constructor
     ·intro h e;exact h (congrArg some (UInt8.toNat_inj.1 (by rw[show(48:UInt8).toNat=48 from rfl];omega)))
     ·intro h e;injection e with e;rw[e]at h;exact h rfl
    have HN:=ah.mk hnum;clear hnum;go_quiet (fail)
    go_wp2_with fail
    first|go_ret2|go_ret|skip
    rw[←HQ.out];refine⟨?_,aC ?_ _⟩
    ·rw[HN.out];unfold val;rw[List.take_of_length_le (by rw[←Lib.size_eq];omega)];rfl
    ·exact au (Below.refl _ _) _
   ·have hnum:numeral s=true:=by
     unfold numeral;rw[←ZL.out,h48,Bool.true_or]
    have HN:=ah.mk hnum;clear hnum;go_quiet (fail)
    go_wp2_with fail
    first|go_ret2|go_ret|skip
    rw[←HQ.out];refine⟨?_,aC ?_ _⟩
    ·rw[HN.out];unfold val;rw[List.take_of_length_le (by rw[←Lib.size_eq];omega)];rfl
    ·exact au (Below.refl _ _) _
  |succ g =>
   have hi:i<s.size:=by omega
   have hb:=HA.out.1 i _ (Lib.data_getElem? s i hi);have ha:(s[i]'hi).toNat<128:=by omega
   have hnx:=fun ty=>run_next_ascii (P:=Tryz.prog) w s i ty hi ha;have hv:=uX HA.out i;have hv2:mV (s.data.toList.take (i+1)) 0=10*mV (s.data.toList.take i) 0+((s[i]'hi).toNat-48):=by
    rw[List.take_add_one,Lib.data_getElem? s i hi];exact uV _ _ _
   obtain⟨c,hc⟩:∃c:Nat,c=(s[i]'hi).toNat:=⟨_,rfl⟩;obtain⟨v,hv'⟩:∃v:Nat,v=mV (s.data.toList.take i) 0:=⟨_,rfl⟩;rw[←hc]at hnx hb hv2;rw[←hv']at hv hv2;rw[←hv'];have h1:¬((c:Int)<48):=by omega
   have h2:¬((57:Int)<c):=by omega
   have h3:wrap64 (10*(v:Int))=10*(v:Int):=wrap_in (by omega) (by omega);have h4:wrap64 (10*(v:Int)+((c:Int)-48))=10*(v:Int)+((c:Int)-48):=wrap_in (by omega) (by omega);have h5:IntKind.i32.wrap ((c:Int)-48)=(c:Int)-48:=by unfold IntKind.wrap;simp[IntKind.signed,IntKind.bits];omega
   have h6:wrap64 ((c:Int)-48)=(c:Int)-48:=wrap_in (by omega) (by omega);have h9:¬((9:Int)<s.size):=by omega
   clear ha hc hv';go_wp2_with fail
   go_roundg g
   case measure=>omega
   case rel=>exact⟨i+1,by omega,by rw[hv2];simp;omega,rfl⟩
end
end
section
open Go.RowKit
section
variable {w:World}
set_option maxRecDepth 1000000 in
theorem yU (s:ByteArray)(hs:oO s):Calls Tryz.prog 219 #[.string s,.int .i64 7,.bool false] w fun e w'=>e=.returned (.tuple #[.iface 3 (.int .i64 (val s:Int)),.int .i64 0])∧Below w.heap.size w w':=by
 refine named fun R HQ=>?_;have HA:=ah.mk hs;have hsz:s.size≤4:=hs.2.2;have h7:¬(7:Int)<s.size:=by omega
 have hem:s.toList.isEmpty=false:=by
  rw[ByteArray.toList_eq];have h1:=HA.out.2.1;rw[Lib.size_eq]at h1;cases hl:s.data.toList with
  |nil=>rw[hl]at h1;exact absurd h1 (by decide)
  |cons x l=>rfl
 have XT:¬s.toList=[]:=fun e=>by rw[e]at hem;cases hem
 clear hs;go_enter Tryz.func219,Tryz.ntmps219;go_wp2_with fail
 go_loopg [9] s.size (fun g s9 wx=>∃i:Nat,i+g=s.size∧s9=.int .i64 (mV (s.data.toList.take i) 0:Int)∧wx=w.iter s i)
 case atStart=>exact⟨0,by omega,rfl,rfl⟩
 case round =>
  obtain⟨i,hig,rfl,rfl⟩:=hrel;cases gk with
  |zero =>
   obtain rfl:i=s.size:=by omega
   have hnx:=run_next_end (P:=Tryz.prog) w s s.size;go_wp2_with fail
   first|go_ret2|go_ret|skip
   rw[←HQ.out];refine⟨?_,au (Below.refl _ _) _⟩;unfold val;rw[List.take_of_length_le (by rw[←Lib.size_eq];omega)];rfl
  |succ g =>
   have hi:i<s.size:=by omega
   have hb:=HA.out.1 i _ (Lib.data_getElem? s i hi);have ha:(s[i]'hi).toNat<128:=by omega
   have hnx:=fun ty=>run_next_ascii (P:=Tryz.prog) w s i ty hi ha;have hv:=uX HA.out i;have hv2:mV (s.data.toList.take (i+1)) 0=10*mV (s.data.toList.take i) 0+((s[i]'hi).toNat-48):=by
    rw[List.take_add_one,Lib.data_getElem? s i hi];exact uV _ _ _
   obtain⟨c,hc⟩:∃c:Nat,c=(s[i]'hi).toNat:=⟨_,rfl⟩;obtain⟨v,hv'⟩:∃v:Nat,v=mV (s.data.toList.take i) 0:=⟨_,rfl⟩;rw[←hc]at hnx hb hv2;rw[←hv']at hv hv2;rw[←hv'];have h1:¬((c:Int)<48):=by omega
   have h2:¬((57:Int)<c):=by omega
   have h3:wrap64 (10*(v:Int))=10*(v:Int):=wrap_in (by omega) (by omega);have h4:wrap64 (10*(v:Int)+((c:Int)-48))=10*(v:Int)+((c:Int)-48):=wrap_in (by omega) (by omega);have h5:IntKind.i32.wrap ((c:Int)-48)=(c:Int)-48:=by unfold IntKind.wrap;simp[IntKind.signed,IntKind.bits];omega
   have h6:wrap64 ((c:Int)-48)=(c:Int)-48:=wrap_in (by omega) (by omega);clear ha hc hv';go_wp2_with fail
   go_roundg g
   case measure=>omega
   case rel=>exact⟨i+1,by omega,by rw[hv2];simp;omega,rfl⟩
set_option maxRecDepth 1000000 in
theorem zT (n:Int)(h1:1≤n)(h2:n≤1024):Calls Tryz.prog 220 #[.iface 3 (.int .i64 n),.int .i64 0,.int .i64 1,.int .i64 1024] w fun e w'=>e=.returned (.tuple #[.iface 3 (.int .i64 n),.int .i64 0])∧w'=w:=by
 refine named fun R HQ=>?_;have e1:¬n<1:=by omega
 have e2:¬(1024:Int)<n:=by omega
 have hi:=fun w=>gJ (.int .i64 n) 20 w;go_enter Tryz.func220,Tryz.ntmps220;go_wp2_with fail
 first|go_ret2|go_ret|skip
 rw[←HQ.out];exact⟨rfl,rfl⟩
set_option maxRecDepth 1000000 in
theorem GU:Calls Tryz.prog 222 #[.int .i64 0] w fun e w'=>e=.returned (.int .i64 0)∧w'=w:=by
 refine named fun R HQ=>?_;go_enter Tryz.func222,Tryz.ntmps222;go_wp2_with fail
 first|go_ret2|go_ret|skip
 rw[←HQ.out];exact⟨rfl,rfl⟩
set_option maxRecDepth 1000000 in
theorem qm (s:ByteArray)(hs:oO s):Calls Tryz.prog 263 #[.string s] w fun e w'=>e=.returned (.tuple #[.int .i64 (val s:Int),.bool true])∧Below w.heap.size w w':=by
 refine named fun R HQ=>?_;have HA:=ah.mk hs;have hsz:s.size≤4:=hs.2.2;have h7:(s.size:Int)≤6:=by omega
 have hem:s.toList.isEmpty=false:=by
  rw[ByteArray.toList_eq];have h1:=HA.out.2.1;rw[Lib.size_eq]at h1;cases hl:s.data.toList with
  |nil=>rw[hl]at h1;exact absurd h1 (by decide)
  |cons x l=>rfl
 have XT:¬s.toList=[]:=fun e=>by rw[e]at hem;cases hem
 clear hs;go_enter Tryz.func263,Tryz.ntmps263;go_wp2_with fail
 go_loopg [4] s.size (fun g s9 wx=>∃i:Nat,i+g=s.size∧s9=.int .i64 (mV (s.data.toList.take i) 0:Int)∧wx=w.iter s i)
 case atStart=>exact⟨0,by omega,rfl,rfl⟩
 case round =>
  obtain⟨i,hig,rfl,rfl⟩:=hrel;cases gk with
  |zero =>
   obtain rfl:i=s.size:=by omega
   have hnx:=run_next_end (P:=Tryz.prog) w s s.size;go_wp2_with fail
   first|go_ret2|go_ret|skip
   rw[←HQ.out];refine⟨?_,au (Below.refl _ _) _⟩;unfold val;rw[List.take_of_length_le (by rw[←Lib.size_eq];omega)];first|rfl|simp[XT,h7]
  |succ g =>
   have hi:i<s.size:=by omega
   have hb:=HA.out.1 i _ (Lib.data_getElem? s i hi);have ha:(s[i]'hi).toNat<128:=by omega
   have hnx:=fun ty=>run_next_ascii (P:=Tryz.prog) w s i ty hi ha;have hv:=uX HA.out i;have hv2:mV (s.data.toList.take (i+1)) 0=10*mV (s.data.toList.take i) 0+((s[i]'hi).toNat-48):=by
    rw[List.take_add_one,Lib.data_getElem? s i hi];exact uV _ _ _
   obtain⟨c,hc⟩:∃c:Nat,c=(s[i]'hi).toNat:=⟨_,rfl⟩;obtain⟨v,hv'⟩:∃v:Nat,v=mV (s.data.toList.take i) 0:=⟨_,rfl⟩;rw[←hc]at hnx hb hv2;rw[←hv']at hv hv2;rw[←hv'];have h1:¬((c:Int)<48):=by omega
   have h2:¬((57:Int)<c):=by omega
   have h3:wrap64 (10*(v:Int))=10*(v:Int):=wrap_in (by omega) (by omega);have h4:wrap64 (10*(v:Int)+((c:Int)-48))=10*(v:Int)+((c:Int)-48):=wrap_in (by omega) (by omega);have h5:IntKind.i32.wrap ((c:Int)-48)=(c:Int)-48:=by unfold IntKind.wrap;simp[IntKind.signed,IntKind.bits];omega
   have h6:wrap64 ((c:Int)-48)=(c:Int)-48:=wrap_in (by omega) (by omega);clear ha hc hv';go_wp2_with fail
   go_roundg g
   case measure=>omega
   case rel=>exact⟨i+1,by omega,by rw[hv2];simp;omega,rfl⟩
end
end
section
open Go.RowKit Go.ChangeMaps
theorem no_row {α:Type}{enc:α→List Value}{b:Nat}{e:TypeId}{sz:Nat}{w:World}{F:Nat→Prop}(h:(aF b (.cells #[] e (0,0))).P w F):(aV e sz enc (.slice (some ⟨b,0,none⟩) 0 0) []).P w F:=by
 refine⟨⟨by simp,.inr ⟨b,0,#[],rfl,Nat.zero_le _,h.1,Nat.le_refl _,by decide,by simp,by simp⟩⟩,fun k hk=>?_⟩;simp[Value.ownBlock]at hk;rw[←hk];exact h.2
def uh (n:Nat):List UInt8:=[UInt8.ofNat (48+n/10),UInt8.ofNat (48+n%10)]
def iG (n:Nat):List UInt8:=[48,48,58,48,48,58]++uh n
theorem Q9:∀n:Fin 21,((uh n).all (fun b=>decide (48≤b.toNat)&&decide (b.toNat≤57))=true∧mV (uh n) 0=n)∧Lib.countB (lb (iG n)) ⟨#[58]⟩=2∧Lib.splitB ⟨#[58]⟩ 0 2 (lb (iG n))=[lb [48,48],lb [48,48],lb (uh n)]∧(iG n).contains 45=false∧Lib.countByte (iG n) 58=2:=by decide
theorem wZ (l:List UInt8)(h:l.all (fun b=>decide (48≤b.toNat)&&decide (b.toNat≤57))=true)(h1:1≤l.length)(h2:l.length≤4):oO (lb l):=by
 refine⟨fun j b hb=>?_,by rw[eY];exact h1,by rw[eY];exact h2⟩;rw[dY]at hb;simpa using List.all_eq_true.1 h b (List.mem_iff_getElem?.2 ⟨j,hb⟩)
theorem DN (l:List UInt8):val (lb l)=mV l 0:=by unfold val;rw[dY]
section
variable {w:World}
set_option maxRecDepth 1000000 in
theorem DT (n:Nat)(h2:1≤n)(h1:n<21){mm:Int}(HM:w.cell? ⟨0,0,none⟩=some (.int .i64 mm)):Calls Tryz.prog 221 #[.string (lb (iG n))] w fun e w'=>e=.returned (.tuple #[.int .i64 n,.int .i64 0])∧Below w.heap.size w w':=by
 refine named fun R HQ=>?_;obtain⟨⟨hall,hval⟩,hcount,hsplit,hno,hcb⟩:=Q9 ⟨n,h1⟩;simp only at hall hval hcount hsplit hno hcb;have hno':(45:UInt8) ∉ iG n:=by simpa using hno
 have hsz:(lb (iG n)).size<4294967281:=by rw[eY];simp[iG,uh]
 have CP:ah (Calls Tryz.prog 103 #[.string (lb (iG n)),.string ⟨#[45]⟩] w fun e w'=>e=.returned (.tuple #[.string (lb (iG n)),.string ⟨#[]⟩,.bool false])∧Below w.heap.size w w'):=⟨(Tryz.strings_Cut (lb (iG n)) ⟨#[45]⟩ mm w hsz HM).mono fun e w' h=>by
  obtain⟨h,k,rfl⟩:=h;rw[dY,show(⟨#[45]⟩:ByteArray).data.toList=[45]from rfl,GR 45 _ hno']at h;exact⟨h,aC (Below.refl _ _) k⟩⟩
 have T0:ah (∀W,Calls Tryz.prog 263 #[.string ⟨#[48]⟩] W fun e w'=>e=.returned (.tuple #[.int .i64 0,.bool true])∧Below W.heap.size W w'):=⟨fun W=>qm (w:=W) (lb [48]) (wZ _ rfl (by decide) (by decide))⟩;have TZ:ah (∀W,Calls Tryz.prog 263 #[.string (lb [48,48])] W fun e w'=>e=.returned (.tuple #[.int .i64 0,.bool true])∧Below W.heap.size W w'):=⟨fun W=>qm (w:=W) (lb [48,48]) (wZ _ rfl (by decide) (by decide))⟩;have TN:ah (∀W,Calls Tryz.prog 263 #[.string (lb (uh n))] W fun e w'=>e=.returned (.tuple #[.int .i64 n,.bool true])∧Below W.heap.size W w'):=⟨fun W=>by
  have h:=qm (w:=W) (lb (uh n)) (wZ _ hall (by simp[uh]) (by simp[uh]));rw[DN,hval]at h;exact h⟩
 have SP:ah (∀W:World,Below w.heap.size w W→Calls Tryz.prog 46 #[.string (lb (iG n)),.string ⟨#[58]⟩] W fun e w'=>e=.returned (.slice (some ⟨W.heap.size,0,none⟩) 3 3)∧w'=W.alloc (.cells #[.string (lb [48,48]),.string (lb [48,48]),.string (lb (uh n))] 9)):=⟨fun W hb=>(Tryz.strings_Split (lb (iG n)) ⟨#[58]⟩ mm W hsz (ak hb HM) (by decide)).mono fun e w' h=>by rw[hcount,hsplit]at h;exact h⟩;have CC:ah (∀W:World,Calls Tryz.prog 135 #[.string (lb (iG n)),.string ⟨#[58]⟩] W fun e w'=>e=.returned (.int .i64 2)∧w'=W):=⟨fun W=>(Any.strings_Count_one Tryz.lays138 (lb (iG n)) 58 W).mono fun e w' h=>by rw[dY,hcb]at h;exact h⟩;obtain⟨s,hs⟩:∃s,s=lb (uh n):=⟨_,rfl⟩;obtain⟨z,hz⟩:∃z,z=lb [48,48]:=⟨_,rfl⟩;obtain⟨t,ht⟩:∃t,t=lb (iG n):=⟨_,rfl⟩;rw[←hs]at TN SP;rw[←hz]at TZ SP;rw[←ht]at CP SP CC;rw[←ht];have e1:¬(n:Int)<1:=by omega
 have e2:¬(1073741824:Int)<n:=by omega
 have e3:¬(59:Int)<n:=by omega
 have e4:wrap64 (n:Int)=n:=wrap_in (by omega) (by omega);clear hs hz ht hsz hno hno' hall hval hcount hsplit hcb HM h1 h2;go_enter Tryz.func221,Tryz.ntmps221;go_wp2_with (go_at_call 103;refine CP.out.mono ?_;rintro e w1 ⟨rfl,hb⟩;have H1:=ah.mk hb;clear hb;refine ah.out ?_)
 refine ah.mk ?_;go_wp2_with (go_at_call 263;refine(T0.out _).mono ?_;rintro e w2 ⟨rfl,hb⟩;have H2:=ah.mk (ay H1.out H1.out.size hb);clear hb;refine ah.out ?_)
 have B2:=ah.mk (au H2.out (.cells #[] 3));refine ah.mk ?_;go_wp2_with (go_at_call 46;refine(SP.out _ B2.out).mono ?_;rintro e w3 ⟨rfl,rfl⟩;refine ah.out ?_)
 have H3:ah (Has w ((w2.alloc (.cells #[] 3)).alloc (.cells #[.string z,.string z,.string s] 9)) [aV 3 1 encI (.slice (some ⟨w2.heap.size,0,none⟩) 0 0) [],aF (w2.heap.size+1) (.cells #[.string z,.string z,.string s] 9)]):=⟨by
  have h:=((((Has.start w).below H2.out).aZ (.cells #[] 3)).imp 0 _ (aV 3 1 encI (.slice (some ⟨w2.heap.size,0,none⟩) 0 0) []) rfl fun F h=>no_row h).aZ (.cells #[.string z,.string z,.string s] 9);simpa using h⟩
 obtain⟨q,hq⟩:∃q,q=w2.heap.size+1:=⟨_,rfl⟩;obtain⟨w3,hw3⟩:∃w3,w3=(w2.alloc (.cells #[] 3)).alloc (.cells #[.string z,.string z,.string s] 9):=⟨_,rfl⟩;rw[←hw3,←hq]at H3;try simp only[World.size_alloc]
 rw[←hq,←hw3];have c0:w3.cell? ⟨q,0,none⟩=some (.string z):=by rw[aj (H3.out.blk 1 rfl)];rfl
 clear hq hw3 SP B2 T0 CP;refine ah.mk ?_;go_wp2_with fail
 refine wp_loop_rounds 4 ?_;rw[rounds_succ];go_wp2_with (first|(at_builtin;have _t:=H4.out;clear _t;refine nM (.tmp 47) (.tmp 49) rfl rfl H4.out 0 rfl (by simp) rfl rfl _ ?_;intro A5 c5 w5 h5;have H5:=ah.mk h5;clear h5;refine ah.out ?_)|(go_at_call 263;refine(TZ.out _).mono ?_;rintro e w4 ⟨rfl,hb⟩;have H4:=ah.mk (H3.out.below hb);clear hb))
 have c1:w5.cell? ⟨q,1,none⟩=some (.string z):=by rw[aj (H5.out.blk 1 rfl)];rfl
 clear c0 H3 H4;refine ah.mk ?_;go_wp2_with fail
 rw[rounds_succ];go_wp2_with (first|(at_builtin;have _t:=H6.out;clear _t;refine nM (.tmp 47) (.tmp 49) rfl rfl H6.out 0 rfl (by simp) rfl rfl _ ?_;intro A7 c7 w7 h7;have H7:=ah.mk h7;clear h7;refine ah.out ?_)|(go_at_call 263;refine(TZ.out _).mono ?_;rintro e w6 ⟨rfl,hb⟩;have H6:=ah.mk (H5.out.below hb);clear hb))
 have c2:w7.cell? ⟨q,2,none⟩=some (.string s):=by rw[aj (H7.out.blk 1 rfl)];rfl
 clear c1 H5 H6 TZ;refine ah.mk ?_;go_wp2_with fail
 rw[rounds_succ];go_wp2_with (first|(at_builtin;have _t:=H8.out;clear _t;refine nM (.tmp 47) (.tmp 49) rfl rfl H8.out 0 rfl (by simp) rfl rfl _ ?_;intro A9 c9 w9 h9;obtain⟨g,hg,_⟩:=dG h9 0 rfl rfl (by simp);subst hg;have H9:=ah.mk h9;clear h9;refine ah.out ?_)|(go_at_call 263;refine(TN.out _).mono ?_;rintro e w8 ⟨rfl,hb⟩;have H8:=ah.mk (H7.out.below hb);clear hb))
 have d0:w9.cell? ⟨g,0,none⟩=some (.int .i64 0):=cu H9.out 0 rfl rfl bJ 0 (0:Int) rfl 0 _ rfl;have d1:w9.cell? ⟨g,1,none⟩=some (.int .i64 0):=cu H9.out 0 rfl rfl bJ 1 (0:Int) rfl 0 _ rfl;have d2:w9.cell? ⟨g,2,none⟩=some (.int .i64 n):=cu H9.out 0 rfl rfl bJ 2 (n:Int) rfl 0 _ rfl;clear c2 H7 H8 TN;refine ah.mk ?_;go_wp2_with fail
 rw[rounds_succ];go_wp2_with (go_at_call 135;refine(CC.out _).mono ?_;rintro e w' ⟨rfl,hw⟩;obtain rfl:=hw.symm;clear hw)
 go_quiet (fail)
 go_wp2_with fail
 first|go_ret2|go_ret|skip
 rw[←HQ.out];exact⟨rfl,aC H9.out.old _⟩
end
end
end Go.Proofs.YtandhagfhppgaaaGreatDoor
