/- Part 10 of a proof: contracts of the functions that the law reaches. No condition. -/
import Derived.Test.YtandhagfhppgaaaGreatDoorS9
set_option linter.all false
set_option maxRecDepth 100000
set_option maxHeartbeats 16000000
namespace Go.Proofs.YtandhagfhppgaaaGreatDoor
section
open Go.RowKit
section
variable {w:World}
theorem E5 {a b c:World}(h:fC a b)(k:fC b c):fC a c:=by
 obtain⟨m,rfl⟩:=k;exact h.step m
theorem Vu (q:Nat):∃m:Nat,m≤63∧∀W,(Builtin.min_ #[3,3] 3 #[.int .i64 q,.int .i64 63]).run Tryz.prog W=.ok (.int .i64 m) W:=by
 by_cases hh:q≤63
 ·exact⟨q,hh,fun W=>by
   by_cases he:q=63
   ·subst he;simp[Builtin.min_,Builtin.min2]
   ·have : ¬(63:Int)<q:=by omega
    simp[Builtin.min_,Builtin.min2,this]⟩
 ·exact⟨63,Nat.le_refl _,fun W=>by
   have : (63:Int)<q:=by omega
   simp[Builtin.min_,Builtin.min2,this]⟩
theorem E8 (n t:Nat)(hn:n≤1000000000)(ht:t≤1000000) :
 Calls Tryz.prog 279 #[.int .i64 n,.int .i64 t,.int .i64 50] w fun e w'=>∃m:Nat,(e=.returned (.tuple #[.int .i64 m,.int .i64 0])∧m≤n)∧fC w w':=by
 obtain⟨s,hs,hf⟩:=CQ t ht;obtain⟨q,hq⟩:∃q,q=t/50:=⟨_,rfl⟩;rw[←hq]at hf;obtain⟨m,hm,hmin⟩:=Vu q;have FC:=ah.mk (hf w);obtain⟨z,hz⟩:∃z,z=n/2^m:=⟨_,rfl⟩;have hzn:z≤n:=by rw[hz];exact Nat.div_le_self _ _
 have hmul:z*s≤n*65536:=Nat.mul_le_mul hzn hs;have MD:=ah.mk fun W=>jK (w:=W) z s 65536 (by decide) (by decide) (by omega) (by omega) (by omega);have hres:z*s/65536≤n:=by
  have : z*s/65536≤n*65536/65536:=Nat.div_le_div_right hmul;rwa [Nat.mul_div_cancel _ (by decide)]at this
 have HR:=Lib.hid hres;obtain⟨r,hr⟩:∃r,r=z*s/65536:=⟨_,rfl⟩;rw[←hr]at HR MD;have h1:¬(n:Int)<0:=by omega
 have h2:¬(m:Int)<0:=by omega
 have HZ:=Lib.hid (show(n:Int)/2^m=(z:Int) by rw[hz];simp);clear hr hres hmul hzn hz hf hq hs;go_enter Tryz.func279,Tryz.ntmps279;go_wp2_with (first|(go_at_call 282;rw[HZ.out];refine(MD.out _).mono ?_;rintro e w' ⟨rfl,hw⟩;have H2:=ah.mk hw;clear hw)|(go_at_call 318;refine FC.out.mono ?_;rintro e w' ⟨rfl,hw⟩;have H1:=ah.mk hw;clear hw))
 go_ret2;exact⟨r,⟨rfl,HR.out⟩,E5 H1.out H2.out⟩
theorem named {P:Program}{f:Nat}{xs:Array Value}{Q:Ending→World→Prop}(h:∀R,Hid (Q=R)→Calls P f xs w R):Calls P f xs w Q:=h Q (Lib.hid rfl)
def fG (n t:Int):Array Value:=#[.int .i64 n,.int .i64 t]
theorem nJ (n t:Int):(Tryz.prog.info? 320).map (·.size)=some (fG n t).size:=by rw[show(fG n t).size=2 from rfl];kernel_rfl
theorem qA (n t:Int):(fG n t).all (·.oneCell')=true:=by simp[fG,Value.oneCell']
theorem nV (n t now more:Nat)(hn:n≤900000000)(h1:now≤1000000)(hm:more≤100000) :
 Calls Tryz.prog 240 #[.agg (fG n t),.int .i64 now,.int .i64 more,.int .i64 50] w fun e w'=>(∃(n' t':Nat) (r:Int),e=.returned (.tuple #[.agg (fG n' t'),.int .i64 r])∧n'≤n+more)∧Below w.heap.size w w':=by
 refine named fun R HQ=>?_;have h3:¬(n:Int)<0:=by omega
 have h4:¬(t:Int)<0:=by omega
 have h5:¬(1099511627776:Int)<now:=by omega
 have h6:¬(more:Int)<0:=by omega
 unfold fG;by_cases ht:t≤now
 ·obtain⟨d,hd⟩:∃d,d=now-t:=⟨_,rfl⟩;have hdi:(now:Int)-t=d:=by omega
  have h7:¬(now:Int)<t:=by omega
  have AF:=ah.mk fun W=>E8 (w:=W) n d (by omega) (by omega);have HD:=Lib.hid (And.intro hdi (And.intro hn hm));clear hd hdi ht h1 hn hm;go_enter Tryz.func240,Tryz.ntmps240;go_wp2_with (first|(go_at_call 279;rw[HD.out.1];refine(AF.out _).mono ?_;rintro e w' ⟨m,⟨rfl,hmn⟩,hw⟩;have H2:=ah.mk hw;have HM:=Lib.hid hmn;clear hw hmn;refine ah.out ?_))
  have hlt:w.heap.size+1<w'.heap.size:=by have:=H2.out.below.size;simp at this;omega
  have hb:w'.heap[w.heap.size + 1]?=some (.cells #[.int .i64 0,.int .i64 0] 320):=(H2.out.below.block _ (by simp)).trans (heap_alloc2_new w _ _);have HB:ah (∀o,(w'.alloc o).heap[w.heap.size + 1]?=some (.cells #[.int .i64 0,.int .i64 0] 320)):=⟨fun o=>(heap_alloc_old w' o hlt).trans hb⟩;have SM:ah (∀c,Calls Tryz.prog 280 #[.slice (some ⟨w'.heap.size,0,none⟩) 2 c] (w'.alloc (.cells #[.int .i64 m,.int .i64 more] 3)) fun e w2=>e=.returned (.int .i64 ((m+more:Nat):Int))∧w2=w'.alloc (.cells #[.int .i64 m,.int .i64 more] 3)):=⟨fun c=>by
   have:=HD.out.2;have:=HM.out;have hh:=xE (w:=w'.alloc (.cells #[.int .i64 m,.int .i64 more] 3)) (g:=w'.heap.size) (c:=c) (m:Int) (more:Int) (by omega) (by omega) (by omega) (by omega) (by rw[aj (heap_alloc_new w' _)];rfl) (by rw[aj (heap_alloc_new w' _)];rfl);rwa [←Int.natCast_add]at hh⟩
  obtain⟨s,hs⟩:∃s,s=m+more:=⟨_,rfl⟩;rw[←hs]at SM;have HS:=Lib.hid hs;clear hs hb hlt;refine ah.mk ?_;go_wp2_with (first|(refine aY rfl 320 (.tmp 8) (.tmp 55) rfl (w.heap.size+1) (fG s now) rfl rfl 320 _ (HB.out _) (nJ _ _) rfl (qA _ _) ?_)|(go_at_call 280;refine(SM.out _).mono ?_;rintro e w2 ⟨rfl,hw⟩;obtain rfl:=hw.symm;clear hw))
  try simp only[Exit.inBlock,Exit.then]
  have hr:=setRow_heap (w'.alloc (.cells #[.int .i64 m,.int .i64 more] 3)) (w.heap.size+1) _ (fG s now) 320 (0,0) (HB.out _);refine eu rfl rfl (w.heap.size+1) (fG s now) 320 (0,0) _ rfl hr Tryz.underlying320 rfl (nJ _ _) ?_;rw[←HQ.out];refine⟨⟨s,now,0,rfl,?_⟩,?_⟩
  ·rw[HS.out];have:=HM.out;omega
  ·refine below_setRow ?_ (by omega) _;exact au (ay (au (au (Below.refl _ _) _) _) (by simp;omega) H2.out.below) _
 ·have h7:(now:Int)<t:=by omega
  clear h1 hn hm ht;go_enter Tryz.func240,Tryz.ntmps240;go_wp2_with fail
  try simp only[Exit.inBlock,Exit.then]
  refine eu rfl rfl (w.heap.size+1) (fG 0 0) 320 (0,0) _ rfl (heap_alloc2_new w _ _) Tryz.underlying320 rfl (nJ _ _) ?_;rw[←HQ.out];exact⟨⟨0,0,2,rfl,by omega⟩,au (au (Below.refl _ _) _) _⟩
end
end
section
open Go.RowKit
def small (s:ByteArray):Prop:=(∀(j:Nat) b,s.data.toList[j]?=some b→97≤b.toNat∧b.toNat≤122)∧1≤s.size∧s.size≤32
theorem PY {s:ByteArray}(h:small s):s.toList.isEmpty=false:=by
 rw[ByteArray.toList_eq];have h1:=h.2.1;rw[Lib.size_eq]at h1;cases hl:s.data.toList with
 |nil=>rw[hl]at h1;exact absurd h1 (by decide)
 |cons x l=>rfl
theorem PZ (s:ByteArray)(i:Nat)(hi:i<s.size):(s.extract i s.size).data.toList[0]?=some s[i]:=by
 rw[ByteArray.data_extract,Array.getElem?_toList,Array.getElem?_extract,if_pos,Nat.add_zero]
 ·exact Array.getElem?_eq_getElem (xs:=s.data) (i:=i) hi
 ·rw[show s.data.size=s.size from rfl,Nat.min_self];omega
section
variable {w:World}
set_option maxRecDepth 1000000 in
theorem iJ (s:ByteArray)(hs:small s):Calls Tryz.prog 163 #[.string s] w fun e w'=>e=.returned (.bool true)∧Below w.heap.size w w':=by
 refine named fun R HQ=>?_;have HA:=ah.mk hs;have hsz:s.size≤32:=hs.2.2;clear hs;go_enter Tryz.func163,Tryz.ntmps163;go_wp2_with fail
 go_loopg [3] s.size (fun g s3 wx=>∃i:Nat,i+g=s.size∧wx=w.iter s i)
 case atStart=>exact⟨0,by omega,rfl⟩
 case round =>
  obtain⟨i,hig,rfl⟩:=hrel;cases gk with
  |zero =>
   obtain rfl:i=s.size:=by omega
   have hnx:=run_next_end (P:=Tryz.prog) w s s.size;have hne:¬s.toList=[]:=fun e=>by have:=PY HA.out;rw[e]at this;cases this
   have RC:=ah.mk (Tryz.utf8_RuneCountInString_ascii s (w.iter s s.size) (by omega) fun j b hb=>by have:=HA.out.1 j b hb;omega);go_wp2_with (go_at_call 185;refine RC.out.mono ?_;rintro e w2 ⟨rfl,hw⟩;have H2:=ah.mk hw;clear hw)
   first|go_ret|skip
   rw[←HQ.out];have h32:(s.size:Int)≤32:=by omega
   exact⟨by simp[hne,h32],by rw[H2.out];exact au (au (Below.refl _ _) _) _⟩
  |succ g =>
   have hi:i<s.size:=by omega
   have hb:=HA.out.1 i _ (Lib.data_getElem? s i hi);have ha:(s[i]'hi).toNat<128:=by omega
   have hnx:=fun ty=>run_next_ascii (P:=Tryz.prog) w s i ty hi ha;have DR:=ah.mk (Tryz.utf8_DecodeRuneInString_ascii (s.extract i s.size) _ (w.iter s (i+1)) (PZ s i hi) ha);obtain⟨c,hc⟩:∃c:Nat,c=(s[i]'hi).toNat:=⟨_,rfl⟩;rw[←hc]at hnx DR hb;have h1:(97:Int)≤c:=by omega
   have h2:(c:Int)≤122:=by omega
   clear hb ha hc;go_wp2_with (go_at_call 186;refine DR.out.mono ?_;rintro e w2 ⟨rfl,hw⟩;obtain rfl:=hw.symm;clear hw)
   go_roundg g
   case measure=>omega
   case rel=>exact⟨i+1,by omega,rfl⟩
end
end
section
open Go.RowKit
structure GW (w:World) where
 W:World
 h:Below w.heap.size w W
def GW.self (w:World):GW w:=⟨w,Below.refl _ _⟩
instance (w:World):Nonempty (GW w):=⟨GW.self w⟩
theorem GW.cell {w:World}(g:GW w){p:Addr}{v:Value}(h:w.cell? p=some v):g.W.cell? p=some v:=ak g.h h
def GW.on {w:World}(g:GW w){w2:World}(h:Below g.W.heap.size g.W w2):GW w:=⟨w2,ay g.h g.h.size h⟩
section
variable {P:Program}{w:World}
theorem bZ {id:Nat}{Q:Exit→Act→World→Prop}{a:Act}{l:List Oper}(hm:P.follows .mixedOrders=true)(hB:Region.lexB .any l.toArray=true)
 (h:wpQuiet P l.toArray (fun w'=>∃g:GW w,w'=g.W) (fun a'=>∀w',(∃g:GW w,w'=g.W)→Q .normal a' w') l a):(Code.region id l.toArray true).wp P Q a w :=
 wp_region_quiet (C:=fun w'=>∃g:GW w,w'=g.W) hm hB ⟨⟨_,aC (Below.refl _ w) 1⟩,rfl⟩ (by simpa using h)
theorem gU {ops:Array Oper}{rest:List Oper}{o:Oper}{a:Act}{Q:Act→Prop}{C:World→Prop}(hw:Region.wanted o (yielded ops a.tmps)=true)(ty:TypeId)(x:Operand)(ho:o.op=.load ty x)(b k:Nat)(hx:a.eval x=.pointer (some ⟨b,k,none⟩))(cs:Array Value)(d:TypeDesc)
 (hc:∀W,C W→W.rangeAt b k cs.toList) (hu:P.underlying ty=some d) (hd:d.isRow=true) (hi:(P.info? ty).map (·.size)=some cs.size) (a':Act) (ha:a.put o.dst (.agg cs)=a') (h:wpQuiet P ops C Q rest a'):wpQuiet P ops C Q (o::rest) a :=
 BigFrame.wpQuiet_want hw fun K hK=>⟨.agg cs,fun W hW=>by
  have:=run_loadVar_mid (P:=P) W b k ty cs.toList d (hc W hW) hu hd (by simpa using hi);unfold Oper.quietAt;simp only[execOp,ho,hx,Instr.loadAt,Instr.sureAddr,Sem.run_bind,Sem.run_pure,Result.andThen_ok,this];exact⟨rfl,by simp⟩,hK _ (by rw[ha];exact h)⟩
theorem GW.calls {g:GW w}{f:FuncId}{xs:Array Value}{v:Value}(h:Calls P f xs g.W fun e w'=>e=.returned v∧Below g.W.heap.size g.W w'):Calls P f xs g.W fun e w''=>e=.returned v∧∃g':GW w,w''=g'.W :=
 h.mono fun e w' ⟨he,hb⟩=>⟨he,g.on hb,rfl⟩
end
section
variable {w:World}
def CS:Array Value:=#[.string ⟨#[114,101,113,117,101,117,101,100]⟩,.string cZ,.string cZ,.string cZ,.string cZ,.string ⟨#[100,111,110,101]⟩,.string ⟨#[102,97,105,108,101,100]⟩,.string ⟨#[99,97,110,99,101,108,108,101,100]⟩,.string ⟨#[108,97,116,101]⟩]
theorem vG (w:World):Calls Tryz.prog 113 #[] w fun e w'=>e=.returned (.agg CS)∧Below w.heap.size w w':=by
 refine named fun R HQ=>?_;go_enter Tryz.func113,Tryz.ntmps113;go_wp2_with fail
 refine bodyPost_ret (results_cell_row rfl _ _ w.heap.size 196 CS (0,0) _ (by rfl) (heap_alloc_new _ _) Tryz.underlying196 rfl (by kernel_rfl)) rfl ?_;rw[←HQ.out];exact⟨rfl,au (Below.refl _ _) _⟩
theorem P5 {how:Int}(h:how=0∨how=5∨how=6∨how=7∨how=8):∃nm:ByteArray,nm.toList.isEmpty=false∧∀W,(Instr.index 196 (.agg CS) (.int .i64 how)).run Tryz.prog W=.ok (.string nm) W:=by
 rcases h with rfl|rfl|rfl|rfl|rfl
 ·exact⟨⟨#[114,101,113,117,101,117,101,100]⟩,by rw[ByteArray.toList_eq];rfl,fun W=>by kernel_rfl⟩
 ·exact⟨⟨#[100,111,110,101]⟩,by rw[ByteArray.toList_eq];rfl,fun W=>by kernel_rfl⟩
 ·exact⟨⟨#[102,97,105,108,101,100]⟩,by rw[ByteArray.toList_eq];rfl,fun W=>by kernel_rfl⟩
 ·exact⟨⟨#[99,97,110,99,101,108,108,101,100]⟩,by rw[ByteArray.toList_eq];rfl,fun W=>by kernel_rfl⟩
 ·exact⟨⟨#[108,97,116,101]⟩,by rw[ByteArray.toList_eq];rfl,fun W=>by kernel_rfl⟩
theorem iK:small aU:=by
 refine⟨fun j b h=>?_,by decide,by decide⟩;have : ∀x∈aU.data.toList,97≤x.toNat∧x.toNat≤122:=by decide
 exact this b (List.mem_of_getElem? h)
theorem jh:small bP:=by
 refine⟨fun j b h=>?_,by decide,by decide⟩;have : ∀x∈bP.data.toList,97≤x.toNat∧x.toNat≤122:=by decide
 exact this b (List.mem_of_getElem? h)
theorem vH (c:Ch)(now:Int)(hc:c.ok now)(hn:now≤1000000)(w:World):Calls Tryz.prog 112 #[.agg c.cells] w fun e w'=>e=.returned (.bool true)∧Below w.heap.size w w':=by
 refine named fun R HQ=>?_;obtain⟨nm,hne,hix⟩:=P5 hc.how;have hsm:small c.account:=by rcases hc.account with h|h<;>rw[h];exact iK;exact jh
 have q1:(0:Int)≤c.how:=by rcases hc.how with h|h|h|h|h<;>omega
 have q2:c.how<9:=by rcases hc.how with h|h|h|h|h<;>omega
 have q3:(0:Int)<(c.id:Int):=by have:=hc.id1;omega
 have q4:(1:Int)≤(c.workers:Int):=by have:=hc.ET;omega
 have q5:(c.workers:Int)≤1024:=by have:=hc.workers;omega
 have q6:=hc.pG;have q7:c.seconds≤1073741824:=by have:=hc.seconds;omega
 have q8:=hc.at0;have q9:c.at_≤1099511627776:=by have:=hc.WQ;omega
 clear hc hn;obtain⟨id,ac,wk,sec,how,at_⟩:=c;simp only at q1 q2 q3 q4 q5 q6 q7 q8 q9 hsm hix;unfold Ch.cells;simp only;have HN:=ah.mk hsm;clear hsm;go_enter Tryz.func112,Tryz.ntmps112;go_wp2_with fail
 obtain⟨W0,hW⟩:∃W0,W0=w.alloc (.cells #[.int .u32 id,.string ac,.int .i64 wk,.int .i64 sec,.int .i64 how,.int .i64 at_] 61):=⟨_,rfl⟩;rw[←hW];have hh:W0.heap[w.heap.size]?=some (.cells #[.int .u32 id,.string ac,.int .i64 wk,.int .i64 sec,.int .i64 how,.int .i64 at_] 61):=by rw[hW];exact heap_alloc_new _ _
 have hB:Below w.heap.size w W0:=by rw[hW];exact au (Below.refl _ _) _
 have BB:=ah.mk hB;have c0:∀g:GW W0,g.W.cell? ⟨w.heap.size,0,none⟩=some (.int .u32 id):=fun g=>g.cell (by rw[aj hh];rfl);have c1:∀g:GW W0,g.W.cell? ⟨w.heap.size,1,none⟩=some (.string ac):=fun g=>g.cell (by rw[aj hh];rfl);have c2:∀g:GW W0,g.W.cell? ⟨w.heap.size,2,none⟩=some (.int .i64 wk):=fun g=>g.cell (by rw[aj hh];rfl);have c3:∀g:GW W0,g.W.cell? ⟨w.heap.size,3,none⟩=some (.int .i64 sec):=fun g=>g.cell (by rw[aj hh];rfl);have c4:∀g:GW W0,g.W.cell? ⟨w.heap.size,4,none⟩=some (.int .i64 how):=fun g=>g.cell (by rw[aj hh];rfl);have c5:∀g:GW W0,g.W.cell? ⟨w.heap.size,5,none⟩=some (.int .i64 at_):=fun g=>g.cell (by rw[aj hh];rfl);clear hW hh hB;refine bZ (by kernel_rfl) (by kernel_rfl) ?_;repeat (go_big_quiet_step ((go_at_call 113;exact GW.calls (vG _))))
 refine wpQuiet_nil ?_;intro _ hw';obtain⟨g1,rfl⟩:=hw';go_wp2_with (go_at_call 163;refine(iJ ac HN.out).mono ?_;rintro e w2 ⟨rfl,hw⟩;obtain⟨g2,hg2⟩:∃g2:GW W0,w2=g2.W:=⟨g1.on hw,rfl⟩;subst hg2;clear hw)
 first|go_ret|skip
 rw[←HQ.out];exact⟨rfl,ay BB.out BB.out.size g2.h⟩
end
end
section
open Go.RowKit
def vI (c:Ch):List Value:=c.cells.toList
theorem NP (c:Ch):(vI c).length=6:=rfl
theorem Vw (c:Ch):(Tryz.prog.info? 61).map (·.size)=some c.cells.size:=by rw[show c.cells.size=6 from rfl];kernel_rfl
section
variable {w:World}
theorem bU.on {α:Type}{sz:Nat}{enc:α→List Value}{v:Value}{l:List α}(h:bU w sz enc v l)(g:GW w):bU g.W sz enc v l:=h.below g.h
theorem Fa {A:Option Addr}{n c:Nat}{bk:List Ch}(now:Int)(hb:∀c:Ch,c∈bk→c.ok now)(hn:now≤1000000)(hl:bk.length≤1500)(hr:bU w 6 vI (.slice A n c) bk) :
 Calls Tryz.prog 239 #[.slice A n c] w fun e w'=>(e=.returned (.int .i64 0)∨e=.returned (.int .i64 200))∧Below w.heap.size w w':=by
 refine named fun R HQ=>?_;have hnl:n=bk.length:=hr.len;have HR:=ah.mk hr;have HK:=ah.mk hb;have HN:=ah.mk hn;have HL:=Lib.hid hnl;have hn2:n≤1500:=by omega
 clear hr hb hn hnl hl;go_enter Tryz.func239,Tryz.ntmps239;go_wp2_with fail
 go_loopw [10] (fun i wr=>∃(k:Nat),i=.int .i64 k∧k≤n∧∃g:GW w,wr=g.W) (fun i _=>n-(intOf i).toNat)
 case atStart=>exact⟨0,rfl,Nat.zero_le _,GW.self w,rfl⟩
 case round =>
  obtain⟨k,rfl,hk,g,rfl⟩:=hrel;by_cases hlt:k<n
  ·obtain⟨x,hx⟩:∃x,bk[k]?=some x:=⟨_,List.getElem?_eq_getElem (by rw[←HL.out];exact hlt)⟩;have RC:=ah.mk (vH x now (HK.out x (List.mem_of_getElem? hx)) HN.out);obtain⟨b,hA,hxr⟩:=(HR.out.on g).get k x hx;have hA':=hA;subst hA;have R1:ah (g.W.rangeAt b (k*6) x.cells.toList):=⟨hxr⟩;clear hxr hA';have Ip:=Vw x;have LD:ah (∀W0,W0=g.W.alloc (.cells x.cells 61)→∀W,(∃g':GW W0,W=g'.W)→W.rangeAt g.W.heap.size 0 x.cells.toList):=⟨by
    rintro W0 rfl W ⟨g',rfl⟩;exact bQ (aX (heap_alloc_new _ _) 0 _ (fun i v hv=>by simpa using hv)) g'.h⟩
   have C5:ah (∀W0,W0=g.W.alloc (.cells x.cells 61)→∀g':GW W0,g'.W.cell? ⟨g.W.heap.size,5,none⟩=some (.int .i64 x.at_)):=⟨by
    rintro W0 rfl g';exact g'.cell (by rw[aj (heap_alloc_new _ _)];rfl)⟩
   have BB:ah (∀W0,W0=g.W.alloc (.cells x.cells 61)→Below g.W.heap.size g.W W0):=⟨by rintro W0 rfl;exact au (Below.refl _ _) _⟩;cases k with
   |zero =>
    have R0:ah (g.W.rangeAt b 0 x.cells.toList):=⟨by simpa using R1.out⟩;go_wp2_with (first|(refine aB g.W.heap.size rfl rfl 61 (.tmp 4) (.tmp 14) rfl x.cells rfl rfl 61 _ Ip rfl x.one ?_)|(refine aI rfl 61 (.tmp 13) rfl b 0 rfl x.cells _ R0.out Tryz.underlying61 rfl Ip ?_))
    obtain⟨W0,hW⟩:∃W0,W0=g.W.alloc (.cells x.cells 61):=⟨_,rfl⟩;rw[←hW];have HW:=Lib.hid hW;clear hW;refine bZ (by kernel_rfl) (by kernel_rfl) ?_;refine gU rfl 61 (.tmp 4) rfl g.W.heap.size 0 rfl x.cells _ (LD.out _ HW.out) Tryz.underlying61 rfl Ip _ rfl ?_;simp only[Act.put,List.setIfInBounds_toArray,List.set_cons_succ,List.set_cons_zero];repeat (go_big_quiet_step ((go_at_call 112;exact GW.calls (RC.out _))))
    refine wpQuiet_nil ?_;intro _ hw';obtain⟨g1,rfl⟩:=hw';go_wp2_with fail
    go_roundw
    case rel=>exact⟨1,rfl,by omega,g.on (ay (BB.out _ HW.out) (BB.out _ HW.out).size g1.h),rfl⟩
    case measure=>simp[intOf];omega
   |succ j =>
    obtain⟨y,hy⟩:∃y,bk[j]?=some y:=⟨_,List.getElem?_eq_getElem (by rw[←HL.out];omega)⟩;obtain⟨b',hA2,gK⟩:=(HR.out.on g).get j y hy;cases hA2;have C6:ah (∀W0,W0=g.W.alloc (.cells x.cells 61)→∀g':GW W0,g'.W.cell? ⟨b,j*6+5,none⟩=some (.int .i64 y.at_)):=⟨by
     rintro W0 rfl g';exact g'.cell (ak (au (Below.refl _ _) _) (gK 5 _ rfl))⟩
    clear gK;have hj0:(0:Int)<(j:Int)+1:=by omega
    have hjn:(j:Int)<(n:Int):=by omega
    go_wp2_with (first|(refine aB g.W.heap.size rfl rfl 61 (.tmp 4) (.tmp 14) rfl x.cells rfl rfl 61 _ Ip rfl x.one ?_)|(refine aI rfl 61 (.tmp 13) rfl b ((j+1)*6) rfl x.cells _ R1.out Tryz.underlying61 rfl Ip ?_))
    obtain⟨W0,hW⟩:∃W0,W0=g.W.alloc (.cells x.cells 61):=⟨_,rfl⟩;rw[←hW];have HW:=Lib.hid hW;clear hW;have c5:=C5.out W0 HW.out;have c6:=C6.out W0 HW.out;by_cases hc:x.at_<y.at_
    ·refine bZ (by kernel_rfl) (by kernel_rfl) ?_;refine gU rfl 61 (.tmp 4) rfl g.W.heap.size 0 rfl x.cells _ (LD.out _ HW.out) Tryz.underlying61 rfl Ip _ rfl ?_;simp only[Act.put,List.setIfInBounds_toArray,List.set_cons_succ,List.set_cons_zero];repeat (go_big_quiet_step ((go_at_call 112;exact GW.calls (RC.out _))))
     refine wpQuiet_nil ?_;intro _ hw';obtain⟨g1,rfl⟩:=hw';go_wp2_with fail
     first|go_ret|skip
     rw[←HQ.out];exact⟨.inr rfl,ay g.h g.h.size (ay (BB.out _ HW.out) (BB.out _ HW.out).size g1.h)⟩
    ·have hcd:decide (x.at_<y.at_)=false:=decide_eq_false hc;refine bZ (by kernel_rfl) (by kernel_rfl) ?_;refine gU rfl 61 (.tmp 4) rfl g.W.heap.size 0 rfl x.cells _ (LD.out _ HW.out) Tryz.underlying61 rfl Ip _ rfl ?_;simp only[Act.put,List.setIfInBounds_toArray,List.set_cons_succ,List.set_cons_zero];repeat (go_big_quiet_step ((go_at_call 112;exact GW.calls (RC.out _))))
     refine wpQuiet_nil ?_;intro _ hw';obtain⟨g1,rfl⟩:=hw';go_wp2_with fail
     go_roundw
     case rel=>exact⟨j+1+1,by go_num,by omega,g.on (ay (BB.out _ HW.out) (BB.out _ HW.out).size g1.h),rfl⟩
     case measure=>simp[intOf];omega
  ·go_wp2_with fail
   first|go_ret|skip
   rw[←HQ.out];exact⟨.inl rfl,g.h⟩
end
end
section
open Go.RowKit
def aV {α:Type}(e:TypeId)(sz:Nat)(enc:α→List Value)(v:Value)(l:List α):bW:=rowA e sz v l.length (l.flatMap enc)
section
variable {w0 W w:World}{L:List bW}
theorem wR {α:Type}{enc:α→List Value}(H:Has w0 W L)(i:Nat){e:TypeId}{sz:Nat}{v:Value}{l:List α}(hi:L[i]?=some (aV e sz enc v l))(t ty:TypeId)(ht:Tryz.prog.underlying t=some (.slice e))
 (hinfo:∃i0 z,Tryz.prog.info? e=some i0∧i0.zero=some z∧i0.size=sz∧i0.bytes≤1000∧z.cells.size=sz) (h0:0<sz) (x:α) (ys:Array Value) (hys:ys.toList=enc x) (hsz:ys.size=sz) (h1:ys.all (·.oneCell')=true) (hn:l.length≤4000000000) :
 ∃A1 c1 w1,(Builtin.append_ #[t,t] ty #[v,.slice (some ⟨W.heap.size,0,none⟩) 1 1]).run Tryz.prog (W.alloc (.cells ys e))=.ok (.slice A1 (l.length+1) c1) w1∧Has w0 w1 (L.set i (aV e sz enc (.slice A1 (l.length+1) c1) (l++[x]))):=by
 obtain⟨i0,z,a1,a2,a3,a4,a5⟩:=hinfo;obtain⟨A1,c1,w1,h2,h3⟩:=Cc H i hi t ty ht i0 a1 z a2 _ a3 rfl a5 h0 ys hsz h1 hn a4;refine⟨A1,c1,w1,h2,?_⟩;unfold aV;rw[List.length_append,List.flatMap_append,show[x].flatMap enc=ys.toList by simp[hys]];exact h3
theorem Has.nilRow {α:Type}(H:Has w0 W L)(e:TypeId)(sz:Nat)(enc:α→List Value):Has w0 W (L++[aV e sz enc (.slice none 0 0) []]):=H.iU e sz
theorem fB {α:Type}{enc:α→List Value}{e:TypeId}{sz:Nat}(H:Has w0 w L)(i:Nat){v:Value}{l:List α}(hi:L[i]?=some (aV e sz enc v l)):∃A c,v=.slice A l.length c:=jD (H.row i hi)
theorem bK {α:Type}{enc:α→List Value}{e:TypeId}{sz:Nat}(H:Has w0 w L)(i:Nat){v:Value}{l:List α}(hi:L[i]?=some (aV e sz enc v l))(hs:∀x,(enc x).length=sz):bU w sz enc v l:=H.read i hi rfl hs
end
def encS (s:ByteArray):List Value:=[.string s]
theorem lX (s:ByteArray):(encS s).length=1:=rfl
theorem info9:∃i0 z,Tryz.prog.info? 9=some i0∧i0.zero=some z∧i0.size=1∧i0.bytes≤1000∧z.cells.size=1:=fZ (by kernel_rfl)
section
variable {w0 w:World}{L:List bW}
theorem nK {W:World}(H:Has w0 W L)(i:Nat){v:Value}{l:List ByteArray}(hi:L[i]?=some (aV 9 1 encS v l))(ty:TypeId)(s:ByteArray)(hn:l.length≤4000000000) :
 ∃A1 c1 w1,(Builtin.append_ #[106,106] ty #[v,.slice (some ⟨W.heap.size,0,none⟩) 1 1]).run Tryz.prog (W.alloc (.cells #[.string s] 9))=.ok (.slice A1 (l.length+1) c1) w1∧Has w0 w1 (L.set i (aV 9 1 encS (.slice A1 (l.length+1) c1) (l++[s]))):=
 wR H i hi 106 ty Tryz.underlying106 info9 (by decide) s #[.string s] rfl rfl (by simp[Value.oneCell']) hn
theorem iL (n lo hi:Int)(h1:lo≤n)(h2:n≤hi)(w:World):Calls Tryz.prog 97 #[.int .i64 n,.int .i64 lo,.int .i64 hi] w fun e w'=>e=.returned (.bool true)∧w'=w:=by
 refine named fun R HQ=>?_;go_enter Tryz.func97,Tryz.ntmps97;go_wp2_with fail
 first|go_ret|skip
 rw[←HQ.out];exact⟨rfl,rfl⟩
theorem rZ {g c:Nat}(s:ByteArray)(hs:small s)(h0:w.cell? ⟨g,0,none⟩=some (.string s)) :
 Calls Tryz.prog 157 #[.slice (some ⟨g,0,none⟩) 1 c] w fun e w'=>e=.returned (.bool true)∧Below w.heap.size w w':=by
 refine named fun R HQ=>?_;have NM:=ah.mk (iJ (w:=w) s hs);have CO:=ah.mk fun A c x W=>Tryz.slices_Contains_string_empty A c x W;clear hs;go_enter Tryz.func157,Tryz.ntmps157;go_wp2_with fail
 refine wp_loop_rounds 2 ?_;rw[rounds_succ];go_wp2_with (first|(go_at_call 158;refine(CO.out _ _ _ _).mono ?_;rintro e w' ⟨rfl,hw⟩;obtain rfl:=hw.symm;clear hw)|(go_at_call 163;refine NM.out.mono ?_;rintro e w2 ⟨rfl,hw⟩;have H2:=ah.mk hw;clear hw))
 rw[rounds_succ];go_wp2_with fail
 first|go_ret|skip
 rw[←HQ.out];exact⟨rfl,H2.out⟩
theorem su {g c:Nat}(s t:ByteArray)(hs:small s)(ht:small t)(hst:Lib.containsS [s] t=false)(h0:w.cell? ⟨g,0,none⟩=some (.string s))(h1:w.cell? ⟨g,1,none⟩=some (.string t))(hcap:2≤c) :
 Calls Tryz.prog 157 #[.slice (some ⟨g,0,none⟩) 2 c] w fun e w'=>e=.returned (.bool true)∧Below w.heap.size w w':=by
 refine named fun R HQ=>?_;have NM:=ah.mk (iJ (w:=w) s hs);have NT:=ah.mk fun W=>iJ (w:=W) t ht;have CO:=ah.mk fun A c x W=>Tryz.slices_Contains_string_empty A c x W;have CT:ah (∀(k:GW w),Calls Tryz.prog 158 #[.slice (some ⟨g,0,none⟩) 1 c,.string t] k.W fun e w'=>e=.returned (.bool false)∧w'=k.W):=⟨fun k=>by
  have:=Tryz.slices_Contains_string g 0 1 c [s] t k.W (by simp) (by decide) fun j hj=>by
   obtain rfl:j=0:=by simpa using hj
   exact k.cell h0
  rw[List.take_of_length_le (by simp),hst]at this;exact this⟩
 have hc1:(1:Int)≤(c:Int):=by omega
 have k1:∀k:GW w,k.W.cell? ⟨g,1,none⟩=some (.string t):=fun k=>k.cell h1;clear hs ht hst h1;go_enter Tryz.func157,Tryz.ntmps157;go_wp2_with fail
 refine wp_loop_rounds 3 ?_;rw[rounds_succ];go_wp2_with (first|(go_at_call 158;refine(CO.out _ _ _ _).mono ?_;rintro e w' ⟨rfl,hw⟩;obtain rfl:=hw.symm;clear hw)|(go_at_call 163;refine NM.out.mono ?_;rintro e w2 ⟨rfl,hw⟩;obtain⟨g2,hg2⟩:∃g2:GW w,w2=g2.W:=⟨⟨w2,hw⟩,rfl⟩;subst hg2;clear hw))
 rw[rounds_succ];go_wp2_with (first|(go_at_call 158;refine(CT.out _).mono ?_;rintro e w' ⟨rfl,hw⟩;obtain rfl:=hw.symm;clear hw)|(go_at_call 163;refine(NT.out _).mono ?_;rintro e w3 ⟨rfl,hw⟩;obtain⟨g3,hg3⟩:∃g3:GW w,w3=g3.W:=⟨g2.on hw,rfl⟩;subst hg3;clear hw))
 rw[rounds_succ];go_wp2_with fail
 first|go_ret|skip
 rw[←HQ.out];exact⟨rfl,g3.h⟩
end
end
end Go.Proofs.YtandhagfhppgaaaGreatDoor
