/- Part 8 of a proof: contracts of the functions that the law reaches. No condition. -/
import Derived.Test.YtandhagfhppgaaaGreatDoorS6
set_option linter.all false
set_option maxRecDepth 100000
set_option maxHeartbeats 16000000
namespace Go.Proofs.YtandhagfhppgaaaGreatDoor
section
open Go.RowKit
def je:Array Value:=#[.int .u32 0,.int .u32 0,.int .i64 0,.string ⟨#[]⟩,.string ⟨#[]⟩,.string ⟨#[]⟩,.string ⟨#[]⟩,.int .i64 0,.int .i64 0,.slice none 0 0,.int .i64 0,.bool false,.slice none 0 0,.int .i64 0,.int .i64 0,.bool false,.bool false,.string ⟨#[]⟩,.int .i64 0,.int .i64 0,.int .i64 0,.int .i64 0,.int .i64 0,.int .i64 0,.int .i64 0,.int .i64 0]
theorem mW:je.all (·.oneCell')=true:=by simp[je,Value.oneCell']
theorem jf:(Tryz.prog.info? 55).map (·.size)=some je.size:=by rw[show je.size=26 from rfl];kernel_rfl
section
variable {w:World}
theorem UR {p n c:Nat}{A:Option Addr}(id:Nat)(h:w.cell? ⟨p,12,none⟩=some (.slice A n c))(hid:id=0∨n<id)(hn:n≤1000)(h2:id≤4294967295) :
 Calls Tryz.prog 95 #[.pointer (some ⟨p,0,none⟩),.int .u32 id] w fun e w'=>e=.returned (.pointer none)∧w'=w:=by
 rcases hid with rfl|hid
 ·go_enter Tryz.func95,Tryz.ntmps95;go_wp2_with fail
  go_ret;exact⟨rfl,rfl⟩
 ·have h0:¬(id:Int)=0:=by omega
  have h3:(n:Int)<(id:Int):=by omega
  go_enter Tryz.func95,Tryz.ntmps95;go_wp2_with fail
  go_ret;exact⟨rfl,rfl⟩
theorem Ac {p n c:Nat}{A:Option Addr}(id:Nat)(h:w.cell? ⟨p,12,none⟩=some (.slice A n c))(hid:id=0∨n<id)(hn:n≤1000)(h2:id≤4294967295)(now:Int)(timed:Bool)(m:Array Value)(f0 f1 f2:Value)(hm:m=#[f0,f1,f2]) :
 Calls Tryz.prog 64 #[.pointer (some ⟨p,0,none⟩),.int .u32 id,.int .i64 now,.bool timed,.agg m] w fun e w'=>e=.returned (.int .i64 4)∧Below w.heap.size w w':=by
 subst hm;have AT:=ah.mk fun o=>UR (w:=w.alloc o) id (ak (au (Below.refl _ _) _) h) hid hn h2;clear h hid;go_enter Tryz.func64,Tryz.ntmps64;go_wp2_with (go_at_call 95;refine(AT.out _).mono ?_;rintro e w' ⟨rfl,hw⟩;obtain rfl:=hw.symm;clear hw)
 go_ret;exact⟨rfl,au (Below.refl _ _) _⟩
theorem Nr {p n c:Nat}{A:Option Addr}(id:Nat)(h:w.cell? ⟨p,12,none⟩=some (.slice A n c))(hid:id=0∨n<id)(hn:n≤1000)(h2:id≤4294967295) :
 Calls Tryz.prog 33 #[.pointer (some ⟨p,0,none⟩),.int .u32 id] w fun e w'=>e=.returned (.int .i64 4)∧Below w.heap.size w w':=by
 have AT:=ah.mk fun o m f0 f1 f2 hm=>Ac (w:=w.alloc o) id (ak (au (Below.refl _ _) _) h) hid hn h2 0 false m f0 f1 f2 hm;clear h hid;go_enter Tryz.func33,Tryz.ntmps33;go_wp2_with (go_at_call 64;refine(AT.out _ _ _ _ _ rfl).mono ?_;rintro e w2 ⟨rfl,hw⟩;have H:=ah.mk hw;clear hw)
 go_ret;exact⟨rfl,ay (au (Below.refl _ _) _) (by simp) H.out⟩
theorem Cb {p n c:Nat}{A:Option Addr}(id:Nat)(h:w.cell? ⟨p,12,none⟩=some (.slice A n c))(hid:id=0∨n<id)(hn:n≤1000)(h2:id≤4294967295)(now:Int) :
 Calls Tryz.prog 35 #[.pointer (some ⟨p,0,none⟩),.int .u32 id,.int .i64 now] w fun e w'=>e=.returned (.int .i64 4)∧Below w.heap.size w w':=by
 have AT:=ah.mk fun o m f0 f1 f2 hm=>Ac (w:=w.alloc o) id (ak (au (Below.refl _ _) _) h) hid hn h2 now true m f0 f1 f2 hm;clear h hid;go_enter Tryz.func35,Tryz.ntmps35;go_wp2_with (go_at_call 64;refine(AT.out _ _ _ _ _ rfl).mono ?_;rintro e w2 ⟨rfl,hw⟩;have H:=ah.mk hw;clear hw)
 go_ret;exact⟨rfl,ay (au (Below.refl _ _) _) (by simp) H.out⟩
theorem get_none {p n c:Nat}{A:Option Addr}(id:Nat)(h:w.cell? ⟨p,12,none⟩=some (.slice A n c))(hid:id=0∨n<id)(hn:n≤1000)(h2:id≤4294967295) :
 Calls Tryz.prog 54 #[.pointer (some ⟨p,0,none⟩),.int .u32 id] w fun e w'=>e=.returned (.tuple #[.agg je,.bool false])∧Below w.heap.size w w':=by
 have AT:=ah.mk fun o=>UR (w:=w.alloc o) id (ak (au (Below.refl _ _) _) h) hid hn h2;clear h hid;go_enter Tryz.func54,Tryz.ntmps54;go_wp2_with (first|(refine aB w.heap.size rfl rfl 55 (.tmp 4) (.tmp 15) rfl je rfl rfl 55 _ jf rfl mW ?_)|(go_at_call 95;refine(AT.out _).mono ?_;rintro e w' ⟨rfl,hw⟩;obtain rfl:=hw.symm;clear hw))
 try simp only[Exit.inBlock,Exit.then]
 exact eu rfl rfl w.heap.size je 55 (0,0) _ rfl (heap_alloc_new _ _) Tryz.underlying55 rfl jf ⟨rfl,au (Below.refl _ _) _⟩
end
end
section
open Go.RowKit
section
variable {P:Program}{ops:Array Oper}{rest:List Oper}{o:Oper}{a:Act}{Q:Exit→Act→World→Prop}
theorem step_append {W w1:World}{v u v1:Value}(hgd:o.guard=none)(T:TypeId)(s x:Operand)(ho:o.op=.call { callee:=.builtin .append,args:=#[s,x],argTypes:=#[T,T]})(hs:a.eval s=v)(hx:a.eval x=u)
 (hr:(Builtin.append_ #[T,T] o.type #[v,u]).run P W=.ok v1 w1) (h:wpList P ops Q rest (a.put o.dst v1) w1):wpList P ops Q (o::rest) a W:=by
 refine wpList_plain hgd fun _ hK=>?_;unfold Oper.wp execOp;simp only[ho,resolve,invoke,builtin,Sem.run_bind,Sem.run_pure,Result.andThen_ok,List.map_toArray,List.map_cons,List.map_nil,hs,hx,hr];exact hK _ _ h
end
section
variable {w0 W:World}{L:List bW}
theorem Cc (H:Has w0 W L)(i:Nat){e:TypeId}{sz n:Nat}{v:Value}{xs:List Value}(hi:L[i]?=some (rowA e sz v n xs))(t ty:TypeId)(ht:Tryz.prog.underlying t=some (.slice e))(i0:TypeInfo)(hi0:Tryz.prog.info? e=some i0)(z:Value)(hz:i0.zero=some z)(bytes:Nat)
 (hsize:i0.size=sz) (hby:i0.bytes=bytes) (hzs:z.cells.size=sz) (h0:0<sz) (ys:Array Value) (hys:ys.size=sz) (h1:ys.all (·.oneCell')=true) (hn:n≤4000000000) (hb:bytes≤1000) :
 ∃A1 c1 w1,(Builtin.append_ #[t,t] ty #[v,.slice (some ⟨W.heap.size,0,none⟩) 1 1]).run Tryz.prog (W.alloc (.cells ys e))=.ok (.slice A1 (n+1) c1) w1∧Has w0 w1 (L.set i (rowA e sz (.slice A1 (n+1) c1) (n+1) (xs++ys.toList))):=by
 have hbytes:(n+1)*bytes≤140737488355328:=Nat.le_trans (Nat.mul_le_mul (show n+1≤4000000001 by omega) hb) (by decide);have H2:=H.alloc (.cells ys e);obtain⟨F,⟨h2,h3⟩,h4,hgo⟩:=H2.get i _ hi;obtain⟨v1,w1,hr,ho,hg,_,hat⟩:=run_append_own_at (P:=Tryz.prog) (W.alloc (.cells ys e)) 0 t ty e i0 z sz bytes ht hi0 hz hsize hby hzs h0 v n xs h2 ⟨W.heap.size,0,none⟩ 1 1 ys.toList (by simp[hys])
  (fun j u hu=>by rw[Addr.add_mid,aj (heap_alloc_new W _),Nat.zero_add,←Array.getElem?_toList];exact hu)
  (fun u hu=>Array.all_eq_true_iff_forall_mem.1 h1 u (by simpa using hu)) (by simp only[maxLen];omega) hbytes (Nat.zero_le _)
 obtain⟨A1,c1,rfl⟩:=jD ho;refine⟨A1,c1,w1,hr,hgo _ _ ⟨fun k=>F k∨((W.alloc (.cells ys e)).heap.size≤k∧k<w1.heap.size),⟨ho,fun k hk=>?_⟩,(Touch.lQ hg).mono fun k _ e=>h3 k e.symm,fun k hk=>?_⟩⟩
 ·rcases hat with e2|e2
  ·exact .inl (h3 k (by rw[←e2];exact hk))
  ·rw[hk]at e2;cases e2;exact .inr ⟨Nat.le_refl _,xg ho _ hk⟩
 ·rcases hk with hk|hk
  ·exact⟨.inl hk,Nat.lt_of_lt_of_le (h4 k hk).2 hg.size⟩
  ·exact⟨.inr hk.1,hk.2⟩
theorem Has.iU (H:Has w0 W L)(e:TypeId)(sz:Nat):Has w0 W (L++[rowA e sz (.slice none 0 0) 0 []]):=
 H.add (Below.refl _ _) _ (fun _=>False) ⟨SL _ _ _ _,fun k e=>by simp[Value.ownBlock]at e⟩ fun _ h=>h.elim
theorem fZ {P:Program}{e:TypeId}{sz:Nat}(h:(P.info? e).map (fun i=>(i.zero.map fun z=>z.cells.size,i.size,Nat.ble i.bytes 1000))=some (some sz,sz,true)):∃i0 z,P.info? e=some i0∧i0.zero=some z∧i0.size=sz∧i0.bytes≤1000∧z.cells.size=sz:=by
 cases hi:P.info? e with
 |none=>simp[hi]at h
 |some i =>
  simp only[hi,Option.map_some,Option.some.injEq,Prod.mk.injEq]at h;obtain⟨h1,h2,h3⟩:=h;cases hz:i.zero with
  |none=>simp[hz]at h1
  |some z =>
   simp[hz]at h1;exact⟨i,z,rfl,hz,h2,Nat.le_of_ble_eq_true h3,h1⟩
theorem Pq:∃i0 z,Tryz.prog.info? 55=some i0∧i0.zero=some z∧i0.size=26∧i0.bytes≤1000∧z.cells.size=26:=by
 exact fZ (by kernel_rfl)
theorem EP (H:Has w0 W L)(i:Nat){v:Value}{js:List J}(hi:L[i]?=some (aS v js))(ty:TypeId)(j:J)(hn:js.length≤4000000000) :
 ∃A1 c1 w1,(Builtin.append_ #[41,41] ty #[v,.slice (some ⟨W.heap.size,0,none⟩) 1 1]).run Tryz.prog (W.alloc (.cells j.cells 55))=.ok (.slice A1 (js.length+1) c1) w1∧Has w0 w1 (L.set i (aS (.slice A1 (js.length+1) c1) (js++[j]))):=by
 obtain⟨i0,z,a1,a2,a3,a4,a5⟩:=Pq;obtain⟨A1,c1,w1,h1,h2⟩:=Cc H i hi 41 ty Tryz.underlying41 i0 a1 z a2 _ a3 rfl a5 (by decide) j.cells rfl j.one hn a4;refine⟨A1,c1,w1,h1,?_⟩;unfold aS;rw[show qU (js++[j])=qU js++j.cells.toList by simp[qU],List.length_append];exact h2
end
end
section
open Go.RowKit
theorem lF {w0 w:World}{L:List bW}(H:Has w0 w L){e:TypeId}{sz n g c:Nat}{xs:List Value}(hrow:w.ownsRow 0 e sz (.slice (some ⟨g,0,none⟩) n c) n xs)(t ty:TypeId)(ht:Tryz.prog.underlying t=some (.slice e))(hinfo:∃i0 z,Tryz.prog.info? e=some i0∧i0.zero=some z∧i0.size=sz∧i0.bytes≤1000∧z.cells.size=sz)(h0:0<sz)(hn:n≤1000000)(h1:∀u∈xs,u.oneCell'=true) :
 ∃A1 c1 w1,(Builtin.append_ #[t,t] ty #[.slice (some ⟨w.heap.size,0,none⟩) 0 0,.slice (some ⟨g,0,none⟩) n c]).run Tryz.prog (w.alloc (.cells #[] e))=.ok (.slice A1 n c1) w1∧Has w0 w1 (L++[rowA e sz (.slice A1 n c1) n xs]):=by
 obtain⟨i0,z,a1,a2,a3,a4,a5⟩:=hinfo;have hown:(w.alloc (.cells #[] e)).ownsRow w.heap.size e sz (.slice (some ⟨w.heap.size,0,none⟩) 0 0) 0 []:=⟨by simp,.inr ⟨w.heap.size,0,#[],rfl,Nat.le_refl _,heap_alloc_new w _,Nat.le_refl _,Nat.zero_le _,by simp,by simp⟩⟩;have hcell:∀j u,xs[j]?=some u→(w.alloc (.cells #[] e)).cell? ((⟨g,0,none⟩:Addr).add j)=some u:=fun j u hu=>by
  rcases hrow.2 with⟨h,_⟩|⟨g',cap,cur,hv,_,hh,hnc,_,hs,htk⟩
  ·simp at h
  ·have e1:g=g':=Option.some.inj (congrArg Value.ownBlock hv);subst e1;rw[Addr.add_mid,Nat.zero_add];refine ak (au (Below.refl _ _) _) ?_;rw[aj hh,←Array.getElem?_toList];have hj:j<n*sz:=by rw[←hrow.1];exact(List.getElem?_eq_some_iff.1 hu).1
   rw[←htk,List.getElem?_take_of_lt hj]at hu;exact hu
 obtain⟨v1,w1,hr,ho,hg,_,_⟩:=run_append_own_at (P:=Tryz.prog) (w.alloc (.cells #[] e)) w.heap.size t ty e i0 z sz i0.bytes ht a1 a2 a3 rfl a5 h0 _ 0 [] hown ⟨g,0,none⟩ n c xs hrow.1 hcell h1 (by simp only[maxLen];omega) (Nat.le_trans (Nat.mul_le_mul (show 0+n≤1000000 by omega) a4) (by decide)) (by simp);obtain⟨A1,c1,rfl⟩:=jD ho;rw[Nat.zero_add,List.nil_append]at ho;rw[Nat.zero_add]at hr;refine⟨A1,c1,w1,hr,H.add ?_ _ (fun k=>(Value.slice A1 n c1).ownBlock=some k) ⟨Iu ho (Nat.zero_le _),fun k e=>e⟩ fun k hk=>⟨own_base ho k hk,xg ho k hk⟩⟩;have hb2:=au (Below.refl w.heap.size w) (.cells #[] e);exact⟨hg.os.trans hb2.os,hg.tape.trans hb2.tape,hg.output.trans hb2.output,Nat.le_trans hb2.size hg.size,fun q hq=>(hg.block q (by simp;omega) (by simp[Value.ownBlock];omega)).trans (hb2.block q hq)⟩
section
variable {w0 w:World}{L:List bW}
theorem Vo:∃i0 z,Tryz.prog.info? 78=some i0∧i0.zero=some z∧i0.size=4∧i0.bytes≤1000∧z.cells.size=4:=fZ (by kernel_rfl)
theorem vC (H0:Has w0 w L)(i:Nat){n c:Nat}{A:Option Addr}{xs:List Value}(hi:L[i]?=some (rowA 78 4 (.slice A n c) n xs))(hn:n≤1000000)(h1:∀u∈xs,u.oneCell'=true) :
 Calls Tryz.prog 22 #[.slice A n c] w fun e w'=>∃A1 c1,e=.returned (.slice A1 n c1)∧Has w0 w' (L++[rowA 78 4 (.slice A1 n c1) n xs]):=by
 have hrow:=H0.row i hi;rcases hrow.2 with⟨hv,h0⟩|⟨g,cap,cur,hv,hb,hh,hnc,hm,hs,ht⟩
 ·cases hv;have hx:xs=[]:=List.eq_nil_of_length_eq_zero (by rw[hrow.1]);subst hx;have HN:=ah.mk (H0.iU 78 4);have hnil:∀W,(binOp .eql 29 (.slice none 0 0) (.slice none 0 0)).run Tryz.prog W=.ok (.bool true) W:=fun _=>rfl;clear hrow H0 hi;go_enter Tryz.func22,Tryz.ntmps22;go_wp2_with fail
  go_ret;exact⟨none,0,rfl,HN.out⟩
 ·injection hv with e1 e2 e3;subst e1 e3;obtain⟨A1,c1,w1,hr,h2⟩:=lF H0 hrow 29 29 Tryz.underlying29 Vo (by decide) hn h1;have HR:=ah.mk hr;have H2:=ah.mk h2;clear hr h2;have hnil:∀W,(binOp .eql 29 (.slice (some ⟨g,0,none⟩) n c) (.slice none 0 0)).run Tryz.prog W=.ok (.bool false) W:=fun _=>rfl;clear hrow H0 hi hh ht h1 e2 hb hs;go_enter Tryz.func22,Tryz.ntmps22;go_wp2_with (at_builtin;refine step_append rfl 29 (.tmp 5) (.tmp 6) rfl rfl rfl HR.out ?_)
  go_ret;exact⟨A1,c1,rfl,H2.out⟩
theorem Vp:∃i0 z,Tryz.prog.info? 81=some i0∧i0.zero=some z∧i0.size=3∧i0.bytes≤1000∧z.cells.size=3:=fZ (by kernel_rfl)
theorem qV (H0:Has w0 w L)(i:Nat){n c:Nat}{A:Option Addr}{xs:List Value}(hi:L[i]?=some (rowA 81 3 (.slice A n c) n xs))(hn:n≤1000000)(h1:∀u∈xs,u.oneCell'=true) :
 Calls Tryz.prog 23 #[.slice A n c] w fun e w'=>∃A1 c1,e=.returned (.slice A1 n c1)∧Has w0 w' (L++[rowA 81 3 (.slice A1 n c1) n xs]):=by
 have hrow:=H0.row i hi;rcases hrow.2 with⟨hv,h0⟩|⟨g,cap,cur,hv,hb,hh,hnc,hm,hs,ht⟩
 ·cases hv;have hx:xs=[]:=List.eq_nil_of_length_eq_zero (by rw[hrow.1]);subst hx;have HN:=ah.mk (H0.iU 81 3);have hnil:∀W,(binOp .eql 30 (.slice none 0 0) (.slice none 0 0)).run Tryz.prog W=.ok (.bool true) W:=fun _=>rfl;clear hrow H0 hi;go_enter Tryz.func23,Tryz.ntmps23;go_wp2_with fail
  go_ret;exact⟨none,0,rfl,HN.out⟩
 ·injection hv with e1 e2 e3;subst e1 e3;obtain⟨A1,c1,w1,hr,h2⟩:=lF H0 hrow 30 30 Tryz.underlying30 Vp (by decide) hn h1;have HR:=ah.mk hr;have H2:=ah.mk h2;clear hr h2;have hnil:∀W,(binOp .eql 30 (.slice (some ⟨g,0,none⟩) n c) (.slice none 0 0)).run Tryz.prog W=.ok (.bool false) W:=fun _=>rfl;clear hrow H0 hi hh ht h1 e2 hb hs;go_enter Tryz.func23,Tryz.ntmps23;go_wp2_with (at_builtin;refine step_append rfl 30 (.tmp 5) (.tmp 6) rfl rfl rfl HR.out ?_)
  go_ret;exact⟨A1,c1,rfl,H2.out⟩
theorem Vq:∃i0 z,Tryz.prog.info? 84=some i0∧i0.zero=some z∧i0.size=3∧i0.bytes≤1000∧z.cells.size=3:=fZ (by kernel_rfl)
theorem o8 (H0:Has w0 w L)(i:Nat){n c:Nat}{A:Option Addr}{xs:List Value}(hi:L[i]?=some (rowA 84 3 (.slice A n c) n xs))(hn:n≤1000000)(h1:∀u∈xs,u.oneCell'=true) :
 Calls Tryz.prog 24 #[.slice A n c] w fun e w'=>∃A1 c1,e=.returned (.slice A1 n c1)∧Has w0 w' (L++[rowA 84 3 (.slice A1 n c1) n xs]):=by
 have hrow:=H0.row i hi;rcases hrow.2 with⟨hv,h0⟩|⟨g,cap,cur,hv,hb,hh,hnc,hm,hs,ht⟩
 ·cases hv;have hx:xs=[]:=List.eq_nil_of_length_eq_zero (by rw[hrow.1]);subst hx;have HN:=ah.mk (H0.iU 84 3);have hnil:∀W,(binOp .eql 31 (.slice none 0 0) (.slice none 0 0)).run Tryz.prog W=.ok (.bool true) W:=fun _=>rfl;clear hrow H0 hi;go_enter Tryz.func24,Tryz.ntmps24;go_wp2_with fail
  go_ret;exact⟨none,0,rfl,HN.out⟩
 ·injection hv with e1 e2 e3;subst e1 e3;obtain⟨A1,c1,w1,hr,h2⟩:=lF H0 hrow 31 31 Tryz.underlying31 Vq (by decide) hn h1;have HR:=ah.mk hr;have H2:=ah.mk h2;clear hr h2;have hnil:∀W,(binOp .eql 31 (.slice (some ⟨g,0,none⟩) n c) (.slice none 0 0)).run Tryz.prog W=.ok (.bool false) W:=fun _=>rfl;clear hrow H0 hi hh ht h1 e2 hb hs;go_enter Tryz.func24,Tryz.ntmps24;go_wp2_with (at_builtin;refine step_append rfl 31 (.tmp 5) (.tmp 6) rfl rfl rfl HR.out ?_)
  go_ret;exact⟨A1,c1,rfl,H2.out⟩
theorem Pz:∃i0 z,Tryz.prog.info? 61=some i0∧i0.zero=some z∧i0.size=6∧i0.bytes≤1000∧z.cells.size=6:=fZ (by kernel_rfl)
theorem LW:∃i0 z,Tryz.prog.info? 218=some i0∧i0.zero=some z∧i0.size=3∧i0.bytes≤1000∧z.cells.size=3:=fZ (by kernel_rfl)
theorem IL (H0:Has w0 w L)(i:Nat){n c:Nat}{A:Option Addr}{xs:List Value}(hi:L[i]?=some (rowA 218 3 (.slice A n c) n xs))(hn:n≤1000000)(h1:∀u∈xs,u.oneCell'=true) :
 Calls Tryz.prog 290 #[.slice A n c] w fun e w'=>∃A1 c1,e=.returned (.slice A1 n c1)∧Has w0 w' (L++[rowA 218 3 (.slice A1 n c1) n xs]):=by
 have hrow:=H0.row i hi;rcases hrow.2 with⟨hv,h0⟩|⟨g,cap,cur,hv,hb,hh,hnc,hm,hs,ht⟩
 ·cases hv;have hx:xs=[]:=List.eq_nil_of_length_eq_zero (by rw[hrow.1]);subst hx;have HN:=ah.mk (H0.iU 218 3);have hnil:∀W,(binOp .eql 215 (.slice none 0 0) (.slice none 0 0)).run Tryz.prog W=.ok (.bool true) W:=fun _=>rfl;clear hrow H0 hi;go_enter Tryz.func290,Tryz.ntmps290;go_wp2_with fail
  go_ret;exact⟨none,0,rfl,HN.out⟩
 ·injection hv with e1 e2 e3;subst e1 e3;obtain⟨A1,c1,w1,hr,h2⟩:=lF H0 hrow 215 215 Tryz.underlying215 LW (by decide) hn h1;have HR:=ah.mk hr;have H2:=ah.mk h2;clear hr h2;have hnil:∀W,(binOp .eql 215 (.slice (some ⟨g,0,none⟩) n c) (.slice none 0 0)).run Tryz.prog W=.ok (.bool false) W:=fun _=>rfl;clear hrow H0 hi hh ht h1 e2 hb hs;go_enter Tryz.func290,Tryz.ntmps290;go_wp2_with (at_builtin;refine step_append rfl 215 (.tmp 5) (.tmp 6) rfl rfl rfl HR.out ?_)
  go_ret;exact⟨A1,c1,rfl,H2.out⟩
theorem lq:∃i0 z,Tryz.prog.info? 292=some i0∧i0.zero=some z∧i0.size=4∧i0.bytes≤1000∧z.cells.size=4:=fZ (by kernel_rfl)
end
end
section
open Go.RowKit
structure Ch where
 id:Nat
 account:ByteArray
 workers:Nat
 seconds:Int
 how:Int
 at_:Int
def Ch.cells (x:Ch):Array Value:=#[.int .u32 (x.id:Int),.string x.account,.int .i64 (x.workers:Int),.int .i64 x.seconds,.int .i64 x.how,.int .i64 x.at_]
theorem Ch.EN (x:Ch):x.cells.toList.length=6:=rfl
theorem Ch.one (x:Ch):x.cells.all (·.oneCell')=true:=by simp[Ch.cells,Value.oneCell']
def Xg (l:List Ch):List Value:=l.flatMap fun x=>x.cells.toList
def UU (v:Value)(l:List Ch):bW:=rowA 61 6 v l.length (Xg l)
end
section
open Go.RowKit
def fU:Array Value:=#[.string aQ,.int .i64 3,.int .i64 0,.int .i64 100]
section
variable {w:World}
theorem Ad:(aQ.toList==aQ.toList)=true:=by simp
theorem ES (b:Nat)(h:w.cell? ⟨b,0,none⟩=some (.string aQ)) :
 Calls Tryz.prog 226 #[.agg fU,.pointer (some ⟨b,0,none⟩)] w fun e w'=>e=.returned (.bool true)∧Below w.heap.size w w':=by
 have hb:∀o,(w.alloc o).cell? ⟨b,0,none⟩=some (.string aQ):=fun o=>ak (au (Below.refl _ _) _) h;have hs:=Ad;unfold fU;clear h;go_enter Tryz.func226,Tryz.ntmps226;go_wp2_with fail
 go_ret;exact⟨by simp,au (Below.refl _ _) _⟩
theorem IQ (b pr c:Nat)(h:w.cell? ⟨b,0,none⟩=some (.string aQ))(hp:w.rangeAt pr 0 fU.toList) :
 Calls Tryz.prog 82 #[.slice (some ⟨pr,0,none⟩) 1 c,.func (.func 226) #[] #[.pointer (some ⟨b,0,none⟩)]] w fun e w'=>e=.returned (.int .i64 0)∧Below w.heap.size w w':=by
 have H:=ah.mk (And.intro h hp);clear h hp;go_enter Tryz.func82,Tryz.ntmps82;go_wp2_with fail
 refine wp_loop_rounds 1 ?_;rw[rounds_succ];go_wp2_with (first|(go_at_call 226;refine(ES b H.out.1).mono ?_;rintro e w2 ⟨rfl,hb⟩;have H2:=ah.mk hb;clear hb)|(refine aI rfl 78 (.tmp 14) rfl pr 0 rfl fU _ H.out.2 Tryz.underlying78 rfl (by rw[show fU.size=4 from rfl];kernel_rfl) ?_))
 go_ret;exact⟨rfl,H2.out⟩
theorem IU (p pr c:Nat)(hc:w.cell? ⟨p,9,none⟩=some (.slice (some ⟨pr,0,none⟩) 1 c))(hp:w.rangeAt pr 0 fU.toList) :
 Calls Tryz.prog 168 #[.pointer (some ⟨p,0,none⟩),.string aQ] w fun e w'=>e=.returned (.int .i64 0)∧Below w.heap.size w w':=by
 have IX:=ah.mk (IQ (w:=w.alloc (.cells #[.string aQ] 9)) w.heap.size pr c (by rw[aj (heap_alloc_new w _)];rfl) (fun i v hv=>ak (au (Below.refl _ _) _) (hp i v hv)));have h9:∀o,(w.alloc o).cell? ⟨p,9,none⟩=some (.slice (some ⟨pr,0,none⟩) 1 c):=fun o=>ak (au (Below.refl _ _) _) hc;clear hc hp;go_enter Tryz.func168,Tryz.ntmps168;go_wp2_with (go_at_call 82;refine IX.out.mono ?_;rintro e w2 ⟨rfl,hb⟩;have H2:=ah.mk hb;clear hb)
 go_ret;exact⟨rfl,ay (au (Below.refl _ _) _) (by simp) H2.out⟩
end
end
section
open Go.RowKit
def bC:ByteArray:=⟨#[110,111,114,109,97,108]⟩
def dZ:ByteArray:=⟨#[104,105,103,104]⟩
def aU:ByteArray:=⟨#[114,111,111,116]⟩
def bP:ByteArray:=⟨#[97,110,110]⟩
def dV:Array Value:=#[.string bC,.int .i64 0,.int .i64 40]
def fQ:Array Value:=#[.string dZ,.int .i64 0,.int .i64 5]
def acc0:Array Value:=#[.string aU,.string cZ,.int .i64 1]
def jg:Array Value:=#[.string bP,.string aU,.int .i64 1]
theorem Xh:(bC.toList==bC.toList)=true:=by simp
theorem Xi:(dZ.toList==dZ.toList)=true:=by simp
theorem Xj:(bC.toList==dZ.toList)=false:=by rw[ByteArray.toList_eq,ByteArray.toList_eq];rfl
theorem Xk:(aU.toList==aU.toList)=true:=by simp
theorem Xl:(bP.toList==bP.toList)=true:=by simp
theorem Xm:(aU.toList==bP.toList)=false:=by rw[ByteArray.toList_eq,ByteArray.toList_eq];rfl
section
variable {w:World}
theorem PE (b:Nat)(h:w.cell? ⟨b,3,none⟩=some (.string bC)) :
 Calls Tryz.prog 170 #[.agg dV,.pointer (some ⟨b,0,none⟩)] w fun e w'=>e=.returned (.bool true)∧Below w.heap.size w w':=by
 have hb:∀o,(w.alloc o).cell? ⟨b,3,none⟩=some (.string bC):=fun o=>ak (au (Below.refl _ _) _) h;have hs:=Xh;unfold dV;clear h;go_enter Tryz.func170,Tryz.ntmps170;go_wp2_with fail
 go_ret;exact⟨by simp[hs],au (Below.refl _ _) _⟩
theorem PG (b:Nat)(h:w.cell? ⟨b,3,none⟩=some (.string dZ)) :
 Calls Tryz.prog 170 #[.agg dV,.pointer (some ⟨b,0,none⟩)] w fun e w'=>e=.returned (.bool false)∧Below w.heap.size w w':=by
 have hb:∀o,(w.alloc o).cell? ⟨b,3,none⟩=some (.string dZ):=fun o=>ak (au (Below.refl _ _) _) h;have hs:=Xj;unfold dV;clear h;go_enter Tryz.func170,Tryz.ntmps170;go_wp2_with fail
 go_ret;exact⟨by simp[hs],au (Below.refl _ _) _⟩
theorem PI (b:Nat)(h:w.cell? ⟨b,3,none⟩=some (.string dZ)) :
 Calls Tryz.prog 170 #[.agg fQ,.pointer (some ⟨b,0,none⟩)] w fun e w'=>e=.returned (.bool true)∧Below w.heap.size w w':=by
 have hb:∀o,(w.alloc o).cell? ⟨b,3,none⟩=some (.string dZ):=fun o=>ak (au (Below.refl _ _) _) h;have hs:=Xi;unfold fQ;clear h;go_enter Tryz.func170,Tryz.ntmps170;go_wp2_with fail
 go_ret;exact⟨by simp[hs],au (Below.refl _ _) _⟩
theorem Vr (b:Nat)(h:w.cell? ⟨b,1,none⟩=some (.string aU)) :
 Calls Tryz.prog 172 #[.agg acc0,.pointer (some ⟨b,0,none⟩)] w fun e w'=>e=.returned (.bool true)∧Below w.heap.size w w':=by
 have hb:∀o,(w.alloc o).cell? ⟨b,1,none⟩=some (.string aU):=fun o=>ak (au (Below.refl _ _) _) h;have hs:=Xk;unfold acc0;clear h;go_enter Tryz.func172,Tryz.ntmps172;go_wp2_with fail
 go_ret;exact⟨by simp[hs],au (Below.refl _ _) _⟩
theorem Vs (b:Nat)(h:w.cell? ⟨b,1,none⟩=some (.string bP)) :
 Calls Tryz.prog 172 #[.agg acc0,.pointer (some ⟨b,0,none⟩)] w fun e w'=>e=.returned (.bool false)∧Below w.heap.size w w':=by
 have hb:∀o,(w.alloc o).cell? ⟨b,1,none⟩=some (.string bP):=fun o=>ak (au (Below.refl _ _) _) h;have hs:=Xm;unfold acc0;clear h;go_enter Tryz.func172,Tryz.ntmps172;go_wp2_with fail
 go_ret;exact⟨by simp[hs],au (Below.refl _ _) _⟩
theorem Vt (b:Nat)(h:w.cell? ⟨b,1,none⟩=some (.string bP)) :
 Calls Tryz.prog 172 #[.agg jg,.pointer (some ⟨b,0,none⟩)] w fun e w'=>e=.returned (.bool true)∧Below w.heap.size w w':=by
 have hb:∀o,(w.alloc o).cell? ⟨b,1,none⟩=some (.string bP):=fun o=>ak (au (Below.refl _ _) _) h;have hs:=Xl;unfold jg;clear h;go_enter Tryz.func172,Tryz.ntmps172;go_wp2_with fail
 go_ret;exact⟨by simp[hs],au (Below.refl _ _) _⟩
theorem Cj (b pr c:Nat)(h:w.cell? ⟨b,3,none⟩=some (.string bC))(hp:w.rangeAt pr 0 dV.toList)(hp1:w.rangeAt pr 3 fQ.toList) :
 Calls Tryz.prog 169 #[.slice (some ⟨pr,0,none⟩) 2 c,.func (.func 170) #[] #[.pointer (some ⟨b,0,none⟩)]] w fun e w'=>e=.returned (.int .i64 0)∧Below w.heap.size w w':=by
 have H:=ah.mk (And.intro h (And.intro hp hp1));clear h hp hp1;go_enter Tryz.func169,Tryz.ntmps169;go_wp2_with fail
 refine wp_loop_rounds 1 ?_;rw[rounds_succ];go_wp2_with (first|(go_at_call 170;refine(PE b H.out.1).mono ?_;rintro e w2 ⟨rfl,hb⟩;have H2:=ah.mk hb;clear hb)|(refine aI rfl 81 (.tmp 14) rfl pr 0 rfl dV _ H.out.2.1 Tryz.underlying81 rfl (by rw[show dV.size=3 from rfl];kernel_rfl) ?_))
 go_ret;exact⟨rfl,H2.out⟩
theorem Cm (b pr c:Nat)(h:w.cell? ⟨b,3,none⟩=some (.string dZ))(hp:w.rangeAt pr 0 dV.toList)(hp1:w.rangeAt pr 3 fQ.toList) :
 Calls Tryz.prog 169 #[.slice (some ⟨pr,0,none⟩) 2 c,.func (.func 170) #[] #[.pointer (some ⟨b,0,none⟩)]] w fun e w'=>e=.returned (.int .i64 1)∧Below w.heap.size w w':=by
 have H:=ah.mk (And.intro h (And.intro hp hp1));clear h hp hp1;go_enter Tryz.func169,Tryz.ntmps169;go_wp2_with fail
 refine wp_loop_rounds 2 ?_;rw[rounds_succ];go_wp2_with (first|(go_at_call 170;refine(PG b H.out.1).mono ?_;rintro e w2 ⟨rfl,hb⟩;have H2:=ah.mk hb;clear hb)|(refine aI rfl 81 (.tmp 14) rfl pr 0 rfl dV _ H.out.2.1 Tryz.underlying81 rfl (by rw[show dV.size=3 from rfl];kernel_rfl) ?_))
 rw[rounds_succ];go_wp2_with (first|(go_at_call 170;refine(PI b (ak H2.out H.out.1)).mono ?_;rintro e w3 ⟨rfl,hb⟩;have H3:=ah.mk hb;clear hb)|(refine aI rfl 81 (.tmp 14) rfl pr 3 rfl fQ _ (fun i v hv=>ak H2.out (H.out.2.2 i v hv)) Tryz.underlying81 rfl (by rw[show fQ.size=3 from rfl];kernel_rfl) ?_))
 go_ret;exact⟨rfl,ay H2.out H2.out.size H3.out⟩
theorem IV (b pr c:Nat)(h:w.cell? ⟨b,1,none⟩=some (.string aU))(hp:w.rangeAt pr 0 acc0.toList)(hp1:w.rangeAt pr 3 jg.toList) :
 Calls Tryz.prog 195 #[.slice (some ⟨pr,0,none⟩) 2 c,.func (.func 172) #[] #[.pointer (some ⟨b,0,none⟩)]] w fun e w'=>e=.returned (.int .i64 0)∧Below w.heap.size w w':=by
 have H:=ah.mk (And.intro h (And.intro hp hp1));clear h hp hp1;go_enter Tryz.func195,Tryz.ntmps195;go_wp2_with fail
 refine wp_loop_rounds 1 ?_;rw[rounds_succ];go_wp2_with (first|(go_at_call 172;refine(Vr b H.out.1).mono ?_;rintro e w2 ⟨rfl,hb⟩;have H2:=ah.mk hb;clear hb)|(refine aI rfl 84 (.tmp 14) rfl pr 0 rfl acc0 _ H.out.2.1 Tryz.underlying84 rfl (by rw[show acc0.size=3 from rfl];kernel_rfl) ?_))
 go_ret;exact⟨rfl,H2.out⟩
theorem IW (b pr c:Nat)(h:w.cell? ⟨b,1,none⟩=some (.string bP))(hp:w.rangeAt pr 0 acc0.toList)(hp1:w.rangeAt pr 3 jg.toList) :
 Calls Tryz.prog 195 #[.slice (some ⟨pr,0,none⟩) 2 c,.func (.func 172) #[] #[.pointer (some ⟨b,0,none⟩)]] w fun e w'=>e=.returned (.int .i64 1)∧Below w.heap.size w w':=by
 have H:=ah.mk (And.intro h (And.intro hp hp1));clear h hp hp1;go_enter Tryz.func195,Tryz.ntmps195;go_wp2_with fail
 refine wp_loop_rounds 2 ?_;rw[rounds_succ];go_wp2_with (first|(go_at_call 172;refine(Vs b H.out.1).mono ?_;rintro e w2 ⟨rfl,hb⟩;have H2:=ah.mk hb;clear hb)|(refine aI rfl 84 (.tmp 14) rfl pr 0 rfl acc0 _ H.out.2.1 Tryz.underlying84 rfl (by rw[show acc0.size=3 from rfl];kernel_rfl) ?_))
 rw[rounds_succ];go_wp2_with (first|(go_at_call 172;refine(Vt b (ak H2.out H.out.1)).mono ?_;rintro e w3 ⟨rfl,hb⟩;have H3:=ah.mk hb;clear hb)|(refine aI rfl 84 (.tmp 14) rfl pr 3 rfl jg _ (fun i v hv=>ak H2.out (H.out.2.2 i v hv)) Tryz.underlying84 rfl (by rw[show jg.size=3 from rfl];kernel_rfl) ?_))
 go_ret;exact⟨rfl,ay H2.out H2.out.size H3.out⟩
theorem zq (b pr c:Nat)(h:w.cell? ⟨b,1,none⟩=some (.string aU))(hp:w.rangeAt pr 0 acc0.toList)(hp1:w.rangeAt pr 3 jg.toList) :
 Calls Tryz.prog 171 #[.slice (some ⟨pr,0,none⟩) 2 c,.func (.func 172) #[] #[.pointer (some ⟨b,0,none⟩)]] w fun e w'=>e=.returned (.bool true)∧Below w.heap.size w w':=by
 have IX:=ah.mk (IV b pr c h hp hp1);clear h hp hp1;go_enter Tryz.func171,Tryz.ntmps171;go_wp2_with (go_at_call 195;refine IX.out.mono ?_;rintro e w2 ⟨rfl,hb⟩;have H2:=ah.mk hb;clear hb)
 go_ret;exact⟨rfl,H2.out⟩
theorem zu (b pr c:Nat)(h:w.cell? ⟨b,1,none⟩=some (.string bP))(hp:w.rangeAt pr 0 acc0.toList)(hp1:w.rangeAt pr 3 jg.toList) :
 Calls Tryz.prog 171 #[.slice (some ⟨pr,0,none⟩) 2 c,.func (.func 172) #[] #[.pointer (some ⟨b,0,none⟩)]] w fun e w'=>e=.returned (.bool true)∧Below w.heap.size w w':=by
 have IX:=ah.mk (IW b pr c h hp hp1);clear h hp hp1;go_enter Tryz.func171,Tryz.ntmps171;go_wp2_with (go_at_call 195;refine IX.out.mono ?_;rintro e w2 ⟨rfl,hb⟩;have H2:=ah.mk hb;clear hb)
 go_ret;exact⟨rfl,H2.out⟩
end
end
section
open Go.RowKit
theorem Star.append {w:World}{m:List bW}{G:Nat→Prop}(hm:Star m w G):∀(l:List bW) (F:Nat→Prop),Star l w F→(∀k,G k→F k→False)→Star (l++m) w fun k=>F k∨G k
 |[],F,_,hd=>Star.up m G _ hm fun k h=>.inr h
 |X::l,F,⟨G',H,h1,h2,h3,h4⟩,hd=>by
  refine⟨G',fun k=>H k∨G k,h1,Star.append hm l H h2 fun k hg hh=>hd k hg (h4 k (.inr hh)),fun k hg hh=>?_,fun k h=>?_⟩
  ·rcases hh with hh|hh
   ·exact h3 k hg hh
   ·exact hd k hh (h4 k (.inl hg))
  ·rcases h with h|h|h
   ·exact .inl (h4 k (.inl h))
   ·exact .inl (h4 k (.inr h))
   ·exact .inr h
section
variable {w0 w w1:World}{L M:List bW}
theorem Has.more (h:Has w0 w L)(k:Has w w1 M):Has w0 w1 (L++M):=by
 have hs:=h.size;obtain⟨⟨F,h1,h2⟩,h3⟩:=h;obtain⟨⟨G,k1,k2⟩,k3⟩:=k;refine⟨⟨fun k=>F k∨G k,Star.append k1 L F (Star.loc L F h1 fun q hq=>k3.block q (h2 q hq).2) fun q hg hf=>?_,fun q hq=>?_⟩,ay h3 hs k3⟩
 ·have a:=(k2 q hg).1;have b:=(h2 q hf).2;omega
 ·rcases hq with hq|hq
  ·exact⟨(h2 q hq).1,Nat.lt_of_lt_of_le (h2 q hq).2 k3.size⟩
  ·have:=k2 q hq;exact⟨by omega,this.2⟩
theorem bQ {g o:Nat}{vs:List Value}(h:w.rangeAt g o vs)(hb:Below w.heap.size w w1):w1.rangeAt g o vs:=fun i v hv=>ak hb (h i v hv)
def bU {α:Type}(w:World)(sz:Nat)(enc:α→List Value)(v:Value)(l:List α):Prop :=
 ∃A c,v=.slice A l.length c∧∀k x,l[k]?=some x→∃g,A=some ⟨g,0,none⟩∧w.rangeAt g (k*sz) (enc x)
theorem bU.below {α:Type}{sz:Nat}{enc:α→List Value}{v:Value}{l:List α}(h:bU w sz enc v l)(hb:Below w.heap.size w w1):bU w1 sz enc v l:=by
 obtain⟨A,c,h1,h2⟩:=h;refine⟨A,c,h1,fun k x hk=>?_⟩;obtain⟨g,h3,h4⟩:=h2 k x hk;exact⟨g,h3,bQ h4 hb⟩
theorem bU.get {α:Type}{sz:Nat}{enc:α→List Value}{A:Option Addr}{n c:Nat}{l:List α}(h:bU w sz enc (.slice A n c) l)(k:Nat)(x:α)(hk:l[k]?=some x):∃g,A=some ⟨g,0,none⟩∧w.rangeAt g (k*sz) (enc x):=by
 obtain⟨A',c',h1,h2⟩:=h;injection h1 with e1 _ _;subst e1;exact h2 k x hk
theorem bU.len {α:Type}{sz:Nat}{enc:α→List Value}{A:Option Addr}{n c:Nat}{l:List α}(h:bU w sz enc (.slice A n c) l):n=l.length:=by
 obtain⟨A',c',h1,h2⟩:=h;injection h1 with _ e _
theorem rX {α:Type}{e:TypeId}{sz:Nat}{enc:α→List Value}{v:Value}{n:Nat}{l:List α}(hn:n=l.length)(hs:∀x,(enc x).length=sz)(h:w.ownsRow 0 e sz v n (l.flatMap enc)):bU w sz enc v l:=by
 rcases h.2 with⟨_,h0⟩|⟨g,cap,cur,hv,_,hh,_,_,hz,ht⟩
 ·have hl:l=[]:=List.eq_nil_of_length_eq_zero (hn▸h0);obtain⟨A,c,e⟩:=jD h;rw[hn]at e;exact⟨A,c,e,fun k x hk=>by rw[hl]at hk;simp at hk⟩
 ·refine⟨_,cap,by rw[hv,hn],fun k x hk=>⟨g,rfl,fun f u hu=>?_⟩⟩;have hkl:=(List.getElem?_eq_some_iff.1 hk).1;have hf:f<sz:=by have:=(List.getElem?_eq_some_iff.1 hu).1;rwa [hs]at this
  rw[aj hh,←Array.getElem?_toList];have h1:(l.flatMap enc)[k*sz+f]?=some u:=by rw[flat_get hs l k x hk f hf];exact hu
  have hlt:k*sz+f<n*sz:=by
   have h2:(k+1)*sz≤n*sz:=Nat.mul_le_mul_right _ (by omega);have h3:(k+1)*sz=k*sz+sz:=by rw[Nat.add_mul,Nat.one_mul]
   omega
  rw[←ht,List.getElem?_take_of_lt hlt]at h1;exact h1
theorem Has.read {α:Type}(H:Has w0 w L)(i:Nat){e:TypeId}{sz:Nat}{enc:α→List Value}{v:Value}{n:Nat}{l:List α}(hi:L[i]?=some (rowA e sz v n (l.flatMap enc)))(hn:n=l.length)(hs:∀x,(enc x).length=sz):bU w sz enc v l :=
 rX hn hs (H.row i hi)
def qP (j:J):List Value:=j.cells.toList
theorem fF (H:Has w0 w L)(i:Nat){v:Value}{js:List J}(hi:L[i]?=some (aS v js)):bU w 26 qP v js :=
 H.read i (enc:=qP) hi rfl J.EN
end
end
section
open Go.RowKit
theorem yT (c:UInt8):∀(a b:List UInt8),c ∉ a→Lib.index (a++c::b) [c]=a.length
 |[],b,_=>by
  show Lib.index (c::b) [c]=_
  unfold Lib.index;simp[List.isPrefixOf]
 |x::a,b,h=>by
  have hx:¬c=x:=fun e=>h (e▸List.mem_cons_self);have ha:c ∉ a:=fun e=>h (List.mem_cons_of_mem _ e);show Lib.index (x::(a++c::b)) [c]=_
  unfold Lib.index;have:=yT c a b ha;rw[this];have hb:(List.isPrefixOf [c] (x::(a++c::b)))=false:=by simp[List.isPrefixOf,hx]
  rw[hb];simp
theorem nR (c:UInt8)(a b:List UInt8)(h:c ∉ a):Lib.cut (a++c::b) [c]=(a,b,true):=by
 unfold Lib.cut;rw[yT c a b h,if_pos (by omega)];simp
theorem index_none (c:UInt8):∀(a:List UInt8),c ∉ a→Lib.index a [c] = -1
 |[],_=>rfl
 |x::a,h=>by
  have hx:¬c=x:=fun e=>h (e▸List.mem_cons_self);have ha:c ∉ a:=fun e=>h (List.mem_cons_of_mem _ e);unfold Lib.index;have:=index_none c a ha;rw[this];have hb:(List.isPrefixOf [c] (x::a))=false:=by simp[List.isPrefixOf,hx]
  rw[hb];simp
theorem GR (c:UInt8)(a:List UInt8)(h:c ∉ a):Lib.cut a [c]=(a,[],false):=by
 unfold Lib.cut;rw[index_none c a h,if_neg (by omega)]
def textOf:List (List UInt8)→List UInt8
 |[]=>[]
 |l::ls=>l++10::textOf ls
def lb (l:List UInt8):ByteArray:=⟨l.toArray⟩
theorem dY (l:List UInt8):(lb l).data.toList=l:=by simp[lb]
theorem eY (l:List UInt8):(lb l).size=l.length:=by rw[Lib.size_eq,dY]
theorem nD (a b:List UInt8):lb a++lb b=lb (a++b):=by
 unfold lb;apply ByteArray.ext;simp
theorem ni (s:ByteArray):lb s.data.toList=s:=by unfold lb;simp
end
end Go.Proofs.YtandhagfhppgaaaGreatDoor
