/- Part 9 of a proof: contracts of the functions that the law reaches. No condition. -/
import Derived.Test.YtandhagfhppgaaaGreatDoorG2
set_option linter.all false
set_option maxRecDepth 100000
set_option maxHeartbeats 16000000
namespace Go.Proofs.YtandhagfhppgaaaGreatDoor
section
open Go.RowKit
def jq:Array Value:=#[.int .u32 0,.int .u32 0,.int .i64 0,.string ⟨#[]⟩,.string ⟨#[]⟩,.string ⟨#[]⟩,.string ⟨#[]⟩,.int .i64 0,.int .i64 0,.slice none 0 0,.int .i64 0,.bool false,.slice none 0 0,.int .i64 0,.int .i64 0,.bool false,.bool false,.string ⟨#[]⟩,.int .i64 0,.int .i64 0,.int .i64 0,.int .i64 0,.int .i64 0,.int .i64 0,.int .i64 0,.int .i64 0]
theorem nK:jq.all (·.oneCell')=true:=by simp[jq,Value.oneCell']
theorem jr:(Tryz.prog.info? 55).map (·.size)=some jq.size:=by rw[show jq.size=26 from rfl];kernel_rfl
section
variable {w:World}
theorem U2 {p n c:Nat}{A:Option Addr}(id:Nat)(h:w.cell? ⟨p,12,none⟩=some (.slice A n c))(hid:id=0∨n<id)(hn:n≤1000)(h2:id≤4294967295) :
 Calls Tryz.prog 95 #[.pointer (some ⟨p,0,none⟩),.int .u32 id] w fun e w'=>e=.returned (.pointer none)∧w'=w:=by
 rcases hid with rfl|hid
 ·go_enter Tryz.func95,Tryz.ntmps95;go_wp2_with fail
  go_ret;exact⟨rfl,rfl⟩
 ·have h0:¬(id:Int)=0:=by omega
  have h3:(n:Int)<(id:Int):=by omega
  go_enter Tryz.func95,Tryz.ntmps95;go_wp2_with fail
  go_ret;exact⟨rfl,rfl⟩
theorem Ar {p n c:Nat}{A:Option Addr}(id:Nat)(h:w.cell? ⟨p,12,none⟩=some (.slice A n c))(hid:id=0∨n<id)(hn:n≤1000)(h2:id≤4294967295)(now:Int)(timed:Bool)(m:Array Value)(f0 f1 f2:Value)(hm:m=#[f0,f1,f2]) :
 Calls Tryz.prog 64 #[.pointer (some ⟨p,0,none⟩),.int .u32 id,.int .i64 now,.bool timed,.agg m] w fun e w'=>e=.returned (.int .i64 4)∧Below w.heap.size w w':=by
 subst hm;have AT:=ah.mk fun o=>U2 (w:=w.alloc o) id (ak (au (Below.refl _ _) _) h) hid hn h2;clear h hid;go_enter Tryz.func64,Tryz.ntmps64;go_wp2_with (go_at_call 95;refine(AT.out _).mono ?_;rintro e w' ⟨rfl,hw⟩;obtain rfl:=hw.symm;clear hw)
 go_ret;exact⟨rfl,au (Below.refl _ _) _⟩
theorem NV {p n c:Nat}{A:Option Addr}(id:Nat)(h:w.cell? ⟨p,12,none⟩=some (.slice A n c))(hid:id=0∨n<id)(hn:n≤1000)(h2:id≤4294967295) :
 Calls Tryz.prog 33 #[.pointer (some ⟨p,0,none⟩),.int .u32 id] w fun e w'=>e=.returned (.int .i64 4)∧Below w.heap.size w w':=by
 have AT:=ah.mk fun o m f0 f1 f2 hm=>Ar (w:=w.alloc o) id (ak (au (Below.refl _ _) _) h) hid hn h2 0 false m f0 f1 f2 hm;clear h hid;go_enter Tryz.func33,Tryz.ntmps33;go_wp2_with (go_at_call 64;refine(AT.out _ _ _ _ _ rfl).mono ?_;rintro e w2 ⟨rfl,hw⟩;have H:=ah.mk hw;clear hw)
 go_ret;exact⟨rfl,ay (au (Below.refl _ _) _) (by simp) H.out⟩
theorem CX {p n c:Nat}{A:Option Addr}(id:Nat)(h:w.cell? ⟨p,12,none⟩=some (.slice A n c))(hid:id=0∨n<id)(hn:n≤1000)(h2:id≤4294967295)(now:Int) :
 Calls Tryz.prog 35 #[.pointer (some ⟨p,0,none⟩),.int .u32 id,.int .i64 now] w fun e w'=>e=.returned (.int .i64 4)∧Below w.heap.size w w':=by
 have AT:=ah.mk fun o m f0 f1 f2 hm=>Ar (w:=w.alloc o) id (ak (au (Below.refl _ _) _) h) hid hn h2 now true m f0 f1 f2 hm;clear h hid;go_enter Tryz.func35,Tryz.ntmps35;go_wp2_with (go_at_call 64;refine(AT.out _ _ _ _ _ rfl).mono ?_;rintro e w2 ⟨rfl,hw⟩;have H:=ah.mk hw;clear hw)
 go_ret;exact⟨rfl,ay (au (Below.refl _ _) _) (by simp) H.out⟩
theorem get_none {p n c:Nat}{A:Option Addr}(id:Nat)(h:w.cell? ⟨p,12,none⟩=some (.slice A n c))(hid:id=0∨n<id)(hn:n≤1000)(h2:id≤4294967295) :
 Calls Tryz.prog 54 #[.pointer (some ⟨p,0,none⟩),.int .u32 id] w fun e w'=>e=.returned (.tuple #[.agg jq,.bool false])∧Below w.heap.size w w':=by
 have AT:=ah.mk fun o=>U2 (w:=w.alloc o) id (ak (au (Below.refl _ _) _) h) hid hn h2;clear h hid;go_enter Tryz.func54,Tryz.ntmps54;go_wp2_with (first|(refine aB w.heap.size rfl rfl 55 (.tmp 4) (.tmp 15) rfl jq rfl rfl 55 _ jr rfl nK ?_)|(go_at_call 95;refine(AT.out _).mono ?_;rintro e w' ⟨rfl,hw⟩;obtain rfl:=hw.symm;clear hw))
 try simp only[Exit.inBlock,Exit.then]
 exact dY rfl rfl w.heap.size jq 55 (0,0) _ rfl (heap_alloc_new _ _) Tryz.underlying55 rfl jr ⟨rfl,au (Below.refl _ _) _⟩
end
end
section
open Go.RowKit
section
variable {P:Program}{ops:Array Oper}{rest:List Oper}{o:Oper}{a:Act}{Q:Exit→Act→World→Prop}
theorem step_append {W w1:World}{v u v1:Value}(hgd:o.guard=none)(T:TypeId)(s x:Operand)(ho:o.op=.call { callee:=.builtin .append,args:=#[s,x],argTypes:=#[T,T]})(hs:a.eval s=v)(hx:a.eval x=u)
 (hr:(Builtin.append_ #[T,T] o.type #[v,u]).run P W=.ok v1 w1) (h:wpList P ops Q rest (a.put o.dst v1) w1):wpList P ops Q (o::rest) a W:=by
 refine wpList_plain hgd fun _ hK=>?_;unfold Oper.wp execOp;simp only[ho,resolve,invoke,builtin,Sem.run_bind,Sem.run_pure,Result.andThen_ok,List.map_toArray,List.map_cons,List.map_nil,hs,hx,hr];exact hK _ _ h
end
section
variable {w0 W:World}{L:List bV}
theorem CY (H:Has w0 W L)(i:Nat){e:TypeId}{sz n:Nat}{v:Value}{xs:List Value}(hi:L[i]?=some (rowA e sz v n xs))(t ty:TypeId)(ht:Tryz.prog.underlying t=some (.slice e))(i0:TypeInfo)(hi0:Tryz.prog.info? e=some i0)(z:Value)(hz:i0.zero=some z)(bytes:Nat)
 (hsize:i0.size=sz) (hby:i0.bytes=bytes) (hzs:z.cells.size=sz) (h0:0<sz) (ys:Array Value) (hys:ys.size=sz) (h1:ys.all (·.oneCell')=true) (hn:n≤4000000000) (hb:bytes≤1000) :
 ∃A1 c1 w1,(Builtin.append_ #[t,t] ty #[v,.slice (some ⟨W.heap.size,0,none⟩) 1 1]).run Tryz.prog (W.alloc (.cells ys e))=.ok (.slice A1 (n+1) c1) w1∧Has w0 w1 (L.set i (rowA e sz (.slice A1 (n+1) c1) (n+1) (xs++ys.toList))):=by
 have hbytes:(n+1)*bytes≤140737488355328:=Nat.le_trans (Nat.mul_le_mul (show n+1≤4000000001 by omega) hb) (by decide);have H2:=H.alloc (.cells ys e);obtain⟨F,⟨h2,h3⟩,h4,hgo⟩:=H2.get i _ hi;obtain⟨v1,w1,hr,ho,hg,_,hat⟩:=run_append_own_at (P:=Tryz.prog) (W.alloc (.cells ys e)) 0 t ty e i0 z sz bytes ht hi0 hz hsize hby hzs h0 v n xs h2 ⟨W.heap.size,0,none⟩ 1 1 ys.toList (by simp[hys])
  (fun j u hu=>by rw[Addr.add_mid,aj (heap_alloc_new W _),Nat.zero_add,←Array.getElem?_toList];exact hu)
  (fun u hu=>Array.all_eq_true_iff_forall_mem.1 h1 u (by simpa using hu)) (by simp only[maxLen];omega) hbytes (Nat.zero_le _)
 obtain⟨A1,c1,rfl⟩:=iW ho;refine⟨A1,c1,w1,hr,hgo _ _ ⟨fun k=>F k∨((W.alloc (.cells ys e)).heap.size≤k∧k<w1.heap.size),⟨ho,fun k hk=>?_⟩,(Touch.jS hg).mono fun k _ e=>h3 k e.symm,fun k hk=>?_⟩⟩
 ·rcases hat with e2|e2
  ·exact .inl (h3 k (by rw[←e2];exact hk))
  ·rw[hk]at e2;cases e2;exact .inr ⟨Nat.le_refl _,uK ho _ hk⟩
 ·rcases hk with hk|hk
  ·exact⟨.inl hk,Nat.lt_of_lt_of_le (h4 k hk).2 hg.size⟩
  ·exact⟨.inr hk.1,hk.2⟩
theorem Has.iQ (H:Has w0 W L)(e:TypeId)(sz:Nat):Has w0 W (L++[rowA e sz (.slice none 0 0) 0 []]):=
 H.add (Below.refl _ _) _ (fun _=>False) ⟨SV _ _ _ _,fun k e=>by simp[Value.ownBlock]at e⟩ fun _ h=>h.elim
theorem gq {P:Program}{e:TypeId}{sz:Nat}(h:(P.info? e).map (fun i=>(i.zero.map fun z=>z.cells.size,i.size,Nat.ble i.bytes 1000))=some (some sz,sz,true)):∃i0 z,P.info? e=some i0∧i0.zero=some z∧i0.size=sz∧i0.bytes≤1000∧z.cells.size=sz:=by
 cases hi:P.info? e with
 |none=>simp[hi]at h
 |some i =>
  simp only[hi,Option.map_some,Option.some.injEq,Prod.mk.injEq]at h;obtain⟨h1,h2,h3⟩:=h;cases hz:i.zero with
  |none=>simp[hz]at h1
  |some z =>
   simp[hz]at h1;exact⟨i,z,rfl,hz,h2,Nat.le_of_ble_eq_true h3,h1⟩
theorem P5:∃i0 z,Tryz.prog.info? 55=some i0∧i0.zero=some z∧i0.size=26∧i0.bytes≤1000∧z.cells.size=26:=by
 exact gq (by kernel_rfl)
theorem ET (H:Has w0 W L)(i:Nat){v:Value}{js:List J}(hi:L[i]?=some (aO v js))(ty:TypeId)(j:J)(hn:js.length≤4000000000) :
 ∃A1 c1 w1,(Builtin.append_ #[41,41] ty #[v,.slice (some ⟨W.heap.size,0,none⟩) 1 1]).run Tryz.prog (W.alloc (.cells j.cells 55))=.ok (.slice A1 (js.length+1) c1) w1∧Has w0 w1 (L.set i (aO (.slice A1 (js.length+1) c1) (js++[j]))):=by
 obtain⟨i0,z,a1,a2,a3,a4,a5⟩:=P5;obtain⟨A1,c1,w1,h1,h2⟩:=CY H i hi 41 ty Tryz.underlying41 i0 a1 z a2 _ a3 rfl a5 (by decide) j.cells rfl j.one hn a4;refine⟨A1,c1,w1,h1,?_⟩;unfold aO;rw[show qZ (js++[j])=qZ js++j.cells.toList by simp[qZ],List.length_append];exact h2
end
end
section
open Go.RowKit
theorem kH {w0 w:World}{L:List bV}(H:Has w0 w L){e:TypeId}{sz n g c:Nat}{xs:List Value}(hrow:w.ownsRow 0 e sz (.slice (some ⟨g,0,none⟩) n c) n xs)(t ty:TypeId)(ht:Tryz.prog.underlying t=some (.slice e))(hinfo:∃i0 z,Tryz.prog.info? e=some i0∧i0.zero=some z∧i0.size=sz∧i0.bytes≤1000∧z.cells.size=sz)(h0:0<sz)(hn:n≤1000000)(h1:∀u∈xs,u.oneCell'=true) :
 ∃A1 c1 w1,(Builtin.append_ #[t,t] ty #[.slice (some ⟨w.heap.size,0,none⟩) 0 0,.slice (some ⟨g,0,none⟩) n c]).run Tryz.prog (w.alloc (.cells #[] e))=.ok (.slice A1 n c1) w1∧Has w0 w1 (L++[rowA e sz (.slice A1 n c1) n xs]):=by
 obtain⟨i0,z,a1,a2,a3,a4,a5⟩:=hinfo;have hown:(w.alloc (.cells #[] e)).ownsRow w.heap.size e sz (.slice (some ⟨w.heap.size,0,none⟩) 0 0) 0 []:=⟨by simp,.inr ⟨w.heap.size,0,#[],rfl,Nat.le_refl _,heap_alloc_new w _,Nat.le_refl _,Nat.zero_le _,by simp,by simp⟩⟩;have hcell:∀j u,xs[j]?=some u→(w.alloc (.cells #[] e)).cell? ((⟨g,0,none⟩:Addr).add j)=some u:=fun j u hu=>by
  rcases hrow.2 with⟨h,_⟩|⟨g',cap,cur,hv,_,hh,hnc,_,hs,htk⟩
  ·simp at h
  ·have e1:g=g':=Option.some.inj (congrArg Value.ownBlock hv);subst e1;rw[Addr.add_mid,Nat.zero_add];refine ak (au (Below.refl _ _) _) ?_;rw[aj hh,←Array.getElem?_toList];have hj:j<n*sz:=by rw[←hrow.1];exact(List.getElem?_eq_some_iff.1 hu).1
   rw[←htk,List.getElem?_take_of_lt hj]at hu;exact hu
 obtain⟨v1,w1,hr,ho,hg,_,_⟩:=run_append_own_at (P:=Tryz.prog) (w.alloc (.cells #[] e)) w.heap.size t ty e i0 z sz i0.bytes ht a1 a2 a3 rfl a5 h0 _ 0 [] hown ⟨g,0,none⟩ n c xs hrow.1 hcell h1 (by simp only[maxLen];omega) (Nat.le_trans (Nat.mul_le_mul (show 0+n≤1000000 by omega) a4) (by decide)) (by simp);obtain⟨A1,c1,rfl⟩:=iW ho;rw[Nat.zero_add,List.nil_append]at ho;rw[Nat.zero_add]at hr;refine⟨A1,c1,w1,hr,H.add ?_ _ (fun k=>(Value.slice A1 n c1).ownBlock=some k) ⟨xK ho (Nat.zero_le _),fun k e=>e⟩ fun k hk=>⟨own_base ho k hk,uK ho k hk⟩⟩;have hb2:=au (Below.refl w.heap.size w) (.cells #[] e);exact⟨hg.os.trans hb2.os,hg.tape.trans hb2.tape,hg.output.trans hb2.output,Nat.le_trans hb2.size hg.size,fun q hq=>(hg.block q (by simp;omega) (by simp[Value.ownBlock];omega)).trans (hb2.block q hq)⟩
section
variable {w0 w:World}{L:List bV}
theorem Vt:∃i0 z,Tryz.prog.info? 78=some i0∧i0.zero=some z∧i0.size=4∧i0.bytes≤1000∧z.cells.size=4:=gq (by kernel_rfl)
theorem vO (H0:Has w0 w L)(i:Nat){n c:Nat}{A:Option Addr}{xs:List Value}(hi:L[i]?=some (rowA 78 4 (.slice A n c) n xs))(hn:n≤1000000)(h1:∀u∈xs,u.oneCell'=true) :
 Calls Tryz.prog 22 #[.slice A n c] w fun e w'=>∃A1 c1,e=.returned (.slice A1 n c1)∧Has w0 w' (L++[rowA 78 4 (.slice A1 n c1) n xs]):=by
 have hrow:=H0.row i hi;rcases hrow.2 with⟨hv,h0⟩|⟨g,cap,cur,hv,hb,hh,hnc,hm,hs,ht⟩
 ·cases hv;have hx:xs=[]:=List.eq_nil_of_length_eq_zero (by rw[hrow.1]);subst hx;have HN:=ah.mk (H0.iQ 78 4);have hnil:∀W,(binOp .eql 29 (.slice none 0 0) (.slice none 0 0)).run Tryz.prog W=.ok (.bool true) W:=fun _=>rfl;clear hrow H0 hi;go_enter Tryz.func22,Tryz.ntmps22;go_wp2_with fail
  go_ret;exact⟨none,0,rfl,HN.out⟩
 ·injection hv with e1 e2 e3;subst e1 e3;obtain⟨A1,c1,w1,hr,h2⟩:=kH H0 hrow 29 29 Tryz.underlying29 Vt (by decide) hn h1;have HR:=ah.mk hr;have H2:=ah.mk h2;clear hr h2;have hnil:∀W,(binOp .eql 29 (.slice (some ⟨g,0,none⟩) n c) (.slice none 0 0)).run Tryz.prog W=.ok (.bool false) W:=fun _=>rfl;clear hrow H0 hi hh ht h1 e2 hb hs;go_enter Tryz.func22,Tryz.ntmps22;go_wp2_with (at_builtin;refine step_append rfl 29 (.tmp 5) (.tmp 6) rfl rfl rfl HR.out ?_)
  go_ret;exact⟨A1,c1,rfl,H2.out⟩
theorem Vu:∃i0 z,Tryz.prog.info? 81=some i0∧i0.zero=some z∧i0.size=3∧i0.bytes≤1000∧z.cells.size=3:=gq (by kernel_rfl)
theorem ru (H0:Has w0 w L)(i:Nat){n c:Nat}{A:Option Addr}{xs:List Value}(hi:L[i]?=some (rowA 81 3 (.slice A n c) n xs))(hn:n≤1000000)(h1:∀u∈xs,u.oneCell'=true) :
 Calls Tryz.prog 23 #[.slice A n c] w fun e w'=>∃A1 c1,e=.returned (.slice A1 n c1)∧Has w0 w' (L++[rowA 81 3 (.slice A1 n c1) n xs]):=by
 have hrow:=H0.row i hi;rcases hrow.2 with⟨hv,h0⟩|⟨g,cap,cur,hv,hb,hh,hnc,hm,hs,ht⟩
 ·cases hv;have hx:xs=[]:=List.eq_nil_of_length_eq_zero (by rw[hrow.1]);subst hx;have HN:=ah.mk (H0.iQ 81 3);have hnil:∀W,(binOp .eql 30 (.slice none 0 0) (.slice none 0 0)).run Tryz.prog W=.ok (.bool true) W:=fun _=>rfl;clear hrow H0 hi;go_enter Tryz.func23,Tryz.ntmps23;go_wp2_with fail
  go_ret;exact⟨none,0,rfl,HN.out⟩
 ·injection hv with e1 e2 e3;subst e1 e3;obtain⟨A1,c1,w1,hr,h2⟩:=kH H0 hrow 30 30 Tryz.underlying30 Vu (by decide) hn h1;have HR:=ah.mk hr;have H2:=ah.mk h2;clear hr h2;have hnil:∀W,(binOp .eql 30 (.slice (some ⟨g,0,none⟩) n c) (.slice none 0 0)).run Tryz.prog W=.ok (.bool false) W:=fun _=>rfl;clear hrow H0 hi hh ht h1 e2 hb hs;go_enter Tryz.func23,Tryz.ntmps23;go_wp2_with (at_builtin;refine step_append rfl 30 (.tmp 5) (.tmp 6) rfl rfl rfl HR.out ?_)
  go_ret;exact⟨A1,c1,rfl,H2.out⟩
theorem Vw:∃i0 z,Tryz.prog.info? 84=some i0∧i0.zero=some z∧i0.size=3∧i0.bytes≤1000∧z.cells.size=3:=gq (by kernel_rfl)
theorem pK (H0:Has w0 w L)(i:Nat){n c:Nat}{A:Option Addr}{xs:List Value}(hi:L[i]?=some (rowA 84 3 (.slice A n c) n xs))(hn:n≤1000000)(h1:∀u∈xs,u.oneCell'=true) :
 Calls Tryz.prog 24 #[.slice A n c] w fun e w'=>∃A1 c1,e=.returned (.slice A1 n c1)∧Has w0 w' (L++[rowA 84 3 (.slice A1 n c1) n xs]):=by
 have hrow:=H0.row i hi;rcases hrow.2 with⟨hv,h0⟩|⟨g,cap,cur,hv,hb,hh,hnc,hm,hs,ht⟩
 ·cases hv;have hx:xs=[]:=List.eq_nil_of_length_eq_zero (by rw[hrow.1]);subst hx;have HN:=ah.mk (H0.iQ 84 3);have hnil:∀W,(binOp .eql 31 (.slice none 0 0) (.slice none 0 0)).run Tryz.prog W=.ok (.bool true) W:=fun _=>rfl;clear hrow H0 hi;go_enter Tryz.func24,Tryz.ntmps24;go_wp2_with fail
  go_ret;exact⟨none,0,rfl,HN.out⟩
 ·injection hv with e1 e2 e3;subst e1 e3;obtain⟨A1,c1,w1,hr,h2⟩:=kH H0 hrow 31 31 Tryz.underlying31 Vw (by decide) hn h1;have HR:=ah.mk hr;have H2:=ah.mk h2;clear hr h2;have hnil:∀W,(binOp .eql 31 (.slice (some ⟨g,0,none⟩) n c) (.slice none 0 0)).run Tryz.prog W=.ok (.bool false) W:=fun _=>rfl;clear hrow H0 hi hh ht h1 e2 hb hs;go_enter Tryz.func24,Tryz.ntmps24;go_wp2_with (at_builtin;refine step_append rfl 31 (.tmp 5) (.tmp 6) rfl rfl rfl HR.out ?_)
  go_ret;exact⟨A1,c1,rfl,H2.out⟩
theorem IV:∃i0 z,Tryz.prog.info? 61=some i0∧i0.zero=some z∧i0.size=6∧i0.bytes≤1000∧z.cells.size=6:=gq (by kernel_rfl)
theorem zF (H0:Has w0 w L)(i:Nat){n c:Nat}{A:Option Addr}{xs:List Value}(hi:L[i]?=some (rowA 61 6 (.slice A n c) n xs))(hn:n≤1000000)(h1:∀u∈xs,u.oneCell'=true) :
 Calls Tryz.prog 50 #[.slice A n c] w fun e w'=>∃A1 c1,e=.returned (.slice A1 n c1)∧Has w0 w' (L++[rowA 61 6 (.slice A1 n c1) n xs]):=by
 have hrow:=H0.row i hi;rcases hrow.2 with⟨hv,h0⟩|⟨g,cap,cur,hv,hb,hh,hnc,hm,hs,ht⟩
 ·cases hv;have hx:xs=[]:=List.eq_nil_of_length_eq_zero (by rw[hrow.1]);subst hx;have HN:=ah.mk (H0.iQ 61 6);have hnil:∀W,(binOp .eql 58 (.slice none 0 0) (.slice none 0 0)).run Tryz.prog W=.ok (.bool true) W:=fun _=>rfl;clear hrow H0 hi;go_enter Tryz.func50,Tryz.ntmps50;go_wp2_with fail
  go_ret;exact⟨none,0,rfl,HN.out⟩
 ·injection hv with e1 e2 e3;subst e1 e3;obtain⟨A1,c1,w1,hr,h2⟩:=kH H0 hrow 58 58 Tryz.underlying58 IV (by decide) hn h1;have HR:=ah.mk hr;have H2:=ah.mk h2;clear hr h2;have hnil:∀W,(binOp .eql 58 (.slice (some ⟨g,0,none⟩) n c) (.slice none 0 0)).run Tryz.prog W=.ok (.bool false) W:=fun _=>rfl;clear hrow H0 hi hh ht h1 e2 hb hs;go_enter Tryz.func50,Tryz.ntmps50;go_wp2_with (at_builtin;refine step_append rfl 58 (.tmp 5) (.tmp 6) rfl rfl rfl HR.out ?_)
  go_ret;exact⟨A1,c1,rfl,H2.out⟩
theorem L8:∃i0 z,Tryz.prog.info? 218=some i0∧i0.zero=some z∧i0.size=3∧i0.bytes≤1000∧z.cells.size=3:=gq (by kernel_rfl)
theorem IW (H0:Has w0 w L)(i:Nat){n c:Nat}{A:Option Addr}{xs:List Value}(hi:L[i]?=some (rowA 218 3 (.slice A n c) n xs))(hn:n≤1000000)(h1:∀u∈xs,u.oneCell'=true) :
 Calls Tryz.prog 290 #[.slice A n c] w fun e w'=>∃A1 c1,e=.returned (.slice A1 n c1)∧Has w0 w' (L++[rowA 218 3 (.slice A1 n c1) n xs]):=by
 have hrow:=H0.row i hi;rcases hrow.2 with⟨hv,h0⟩|⟨g,cap,cur,hv,hb,hh,hnc,hm,hs,ht⟩
 ·cases hv;have hx:xs=[]:=List.eq_nil_of_length_eq_zero (by rw[hrow.1]);subst hx;have HN:=ah.mk (H0.iQ 218 3);have hnil:∀W,(binOp .eql 215 (.slice none 0 0) (.slice none 0 0)).run Tryz.prog W=.ok (.bool true) W:=fun _=>rfl;clear hrow H0 hi;go_enter Tryz.func290,Tryz.ntmps290;go_wp2_with fail
  go_ret;exact⟨none,0,rfl,HN.out⟩
 ·injection hv with e1 e2 e3;subst e1 e3;obtain⟨A1,c1,w1,hr,h2⟩:=kH H0 hrow 215 215 Tryz.underlying215 L8 (by decide) hn h1;have HR:=ah.mk hr;have H2:=ah.mk h2;clear hr h2;have hnil:∀W,(binOp .eql 215 (.slice (some ⟨g,0,none⟩) n c) (.slice none 0 0)).run Tryz.prog W=.ok (.bool false) W:=fun _=>rfl;clear hrow H0 hi hh ht h1 e2 hb hs;go_enter Tryz.func290,Tryz.ntmps290;go_wp2_with (at_builtin;refine step_append rfl 215 (.tmp 5) (.tmp 6) rfl rfl rfl HR.out ?_)
  go_ret;exact⟨A1,c1,rfl,H2.out⟩
theorem lM:∃i0 z,Tryz.prog.info? 292=some i0∧i0.zero=some z∧i0.size=4∧i0.bytes≤1000∧z.cells.size=4:=gq (by kernel_rfl)
end
end
section
open Go.RowKit
structure Ch where
 id:Nat
 account:ByteArray
 workers:Nat
 seconds:Int
 how:Int
 at_:Int
def Ch.cells (x:Ch):Array Value:=#[.int .u32 (x.id:Int),.string x.account,.int .i64 (x.workers:Int),.int .i64 x.seconds,.int .i64 x.how,.int .i64 x.at_]
theorem Ch.ER (x:Ch):x.cells.toList.length=6:=rfl
theorem Ch.one (x:Ch):x.cells.all (·.oneCell')=true:=by simp[Ch.cells,Value.oneCell']
def L9 (l:List Ch):List Value:=l.flatMap fun x=>x.cells.toList
def oP (v:Value)(l:List Ch):bV:=rowA 61 6 v l.length (L9 l)
theorem NZ (l:List Ch):∀u∈L9 l,u.oneCell'=true:=by
 intro u hu;obtain⟨x,_,h⟩:=List.mem_flatMap.1 hu;exact Array.all_eq_true_iff_forall_mem.1 x.one u (by simpa using h)
section
variable {w0 w:World}{L:List bV}
theorem IY (H0:Has w0 w L)(ix ib:Nat){x n c:Nat}{A:Option Addr}{EF:Array Value}{l:List Ch}(hix:L[ix]?=some (aF x (.cells EF 88)))(hb:L[ib]?=some (oP (.slice A n c) l))(hx:EF[16]?=some (.slice A n c))(hn:n≤1000000) :
 Calls Tryz.prog 12 #[.pointer (some ⟨x,0,none⟩)] w fun e w'=>∃A1 c1,e=.returned (.slice A1 n c1)∧Has w0 w' (L++[oP (.slice A1 n c1) l]):=by
 have hnl:n=l.length:=by
  obtain⟨A',c',e⟩:=iW (H0.row ib hb);injection e with _ e2 _
 have h16:w.cell? ⟨x,16,none⟩=some (.slice A n c):=by rw[aj (H0.blk ix hix)];exact hx
 have hb2:L[ib]?=some (rowA 61 6 (.slice A n c) n (L9 l)):=by rw[hb,hnl];rfl
 have CL:=ah.mk (zF H0 ib hb2 hn (NZ l));have HN:=Lib.hid hnl;clear H0 hix hb hx hnl hb2;go_enter Tryz.func12,Tryz.ntmps12;go_wp2_with (go_at_call 50;refine CL.out.mono ?_;rintro e w2 ⟨A1,c1,rfl,hs⟩;have H2:=ah.mk hs;clear hs)
 go_ret;refine⟨A1,c1,rfl,?_⟩;have h:=H2.out;rw[show rowA 61 6 (.slice A1 n c1) n (L9 l)=oP (.slice A1 n c1) l by unfold oP;rw[←HN.out]]at h;exact h
end
end
section
open Go.RowKit
def fZ:Array Value:=#[.string aP,.int .i64 3,.int .i64 0,.int .i64 100]
section
variable {w:World}
theorem Aw:(aP.toList==aP.toList)=true:=by simp
theorem EW (b:Nat)(h:w.cell? ⟨b,0,none⟩=some (.string aP)) :
 Calls Tryz.prog 226 #[.agg fZ,.pointer (some ⟨b,0,none⟩)] w fun e w'=>e=.returned (.bool true)∧Below w.heap.size w w':=by
 have hb:∀o,(w.alloc o).cell? ⟨b,0,none⟩=some (.string aP):=fun o=>ak (au (Below.refl _ _) _) h;have hs:=Aw;unfold fZ;clear h;go_enter Tryz.func226,Tryz.ntmps226;go_wp2_with fail
 go_ret;exact⟨by simp,au (Below.refl _ _) _⟩
theorem IZ (b pr c:Nat)(h:w.cell? ⟨b,0,none⟩=some (.string aP))(hp:w.rangeAt pr 0 fZ.toList) :
 Calls Tryz.prog 82 #[.slice (some ⟨pr,0,none⟩) 1 c,.func (.func 226) #[] #[.pointer (some ⟨b,0,none⟩)]] w fun e w'=>e=.returned (.int .i64 0)∧Below w.heap.size w w':=by
 have H:=ah.mk (And.intro h hp);clear h hp;go_enter Tryz.func82,Tryz.ntmps82;go_wp2_with fail
 refine wp_loop_rounds 1 ?_;rw[rounds_succ];go_wp2_with (first|(go_at_call 226;refine(EW b H.out.1).mono ?_;rintro e w2 ⟨rfl,hb⟩;have H2:=ah.mk hb;clear hb)|(refine aJ rfl 78 (.tmp 14) rfl pr 0 rfl fZ _ H.out.2 Tryz.underlying78 rfl (by rw[show fZ.size=4 from rfl];kernel_rfl) ?_))
 go_ret;exact⟨rfl,H2.out⟩
theorem I7 (p pr c:Nat)(hc:w.cell? ⟨p,9,none⟩=some (.slice (some ⟨pr,0,none⟩) 1 c))(hp:w.rangeAt pr 0 fZ.toList) :
 Calls Tryz.prog 168 #[.pointer (some ⟨p,0,none⟩),.string aP] w fun e w'=>e=.returned (.int .i64 0)∧Below w.heap.size w w':=by
 have IX:=ah.mk (IZ (w:=w.alloc (.cells #[.string aP] 9)) w.heap.size pr c (by rw[aj (heap_alloc_new w _)];rfl) (fun i v hv=>ak (au (Below.refl _ _) _) (hp i v hv)));have h9:∀o,(w.alloc o).cell? ⟨p,9,none⟩=some (.slice (some ⟨pr,0,none⟩) 1 c):=fun o=>ak (au (Below.refl _ _) _) hc;clear hc hp;go_enter Tryz.func168,Tryz.ntmps168;go_wp2_with (go_at_call 82;refine IX.out.mono ?_;rintro e w2 ⟨rfl,hb⟩;have H2:=ah.mk hb;clear hb)
 go_ret;exact⟨rfl,ay (au (Below.refl _ _) _) (by simp) H2.out⟩
end
end
section
open Go.RowKit
def bK:ByteArray:=⟨#[110,111,114,109,97,108]⟩
def dX:ByteArray:=⟨#[104,105,103,104]⟩
def aV:ByteArray:=⟨#[114,111,111,116]⟩
def bQ:ByteArray:=⟨#[97,110,110]⟩
def dR:Array Value:=#[.string bK,.int .i64 0,.int .i64 40]
def fU:Array Value:=#[.string dX,.int .i64 0,.int .i64 5]
def acc0:Array Value:=#[.string aV,.string bY,.int .i64 1]
def jv:Array Value:=#[.string bQ,.string aV,.int .i64 1]
theorem Xi:(bK.toList==bK.toList)=true:=by simp
theorem Xj:(dX.toList==dX.toList)=true:=by simp
theorem Xk:(bK.toList==dX.toList)=false:=by rw[ByteArray.toList_eq,ByteArray.toList_eq];rfl
theorem Xl:(aV.toList==aV.toList)=true:=by simp
theorem Xm:(bQ.toList==bQ.toList)=true:=by simp
theorem Xn:(aV.toList==bQ.toList)=false:=by rw[ByteArray.toList_eq,ByteArray.toList_eq];rfl
section
variable {w:World}
theorem P9 (b:Nat)(h:w.cell? ⟨b,3,none⟩=some (.string bK)) :
 Calls Tryz.prog 170 #[.agg dR,.pointer (some ⟨b,0,none⟩)] w fun e w'=>e=.returned (.bool true)∧Below w.heap.size w w':=by
 have hb:∀o,(w.alloc o).cell? ⟨b,3,none⟩=some (.string bK):=fun o=>ak (au (Below.refl _ _) _) h;have hs:=Xi;unfold dR;clear h;go_enter Tryz.func170,Tryz.ntmps170;go_wp2_with fail
 go_ret;exact⟨by simp[hs],au (Below.refl _ _) _⟩
theorem Qa (b:Nat)(h:w.cell? ⟨b,3,none⟩=some (.string dX)) :
 Calls Tryz.prog 170 #[.agg dR,.pointer (some ⟨b,0,none⟩)] w fun e w'=>e=.returned (.bool false)∧Below w.heap.size w w':=by
 have hb:∀o,(w.alloc o).cell? ⟨b,3,none⟩=some (.string dX):=fun o=>ak (au (Below.refl _ _) _) h;have hs:=Xk;unfold dR;clear h;go_enter Tryz.func170,Tryz.ntmps170;go_wp2_with fail
 go_ret;exact⟨by simp[hs],au (Below.refl _ _) _⟩
theorem Qb (b:Nat)(h:w.cell? ⟨b,3,none⟩=some (.string dX)) :
 Calls Tryz.prog 170 #[.agg fU,.pointer (some ⟨b,0,none⟩)] w fun e w'=>e=.returned (.bool true)∧Below w.heap.size w w':=by
 have hb:∀o,(w.alloc o).cell? ⟨b,3,none⟩=some (.string dX):=fun o=>ak (au (Below.refl _ _) _) h;have hs:=Xj;unfold fU;clear h;go_enter Tryz.func170,Tryz.ntmps170;go_wp2_with fail
 go_ret;exact⟨by simp[hs],au (Below.refl _ _) _⟩
theorem Vx (b:Nat)(h:w.cell? ⟨b,1,none⟩=some (.string aV)) :
 Calls Tryz.prog 172 #[.agg acc0,.pointer (some ⟨b,0,none⟩)] w fun e w'=>e=.returned (.bool true)∧Below w.heap.size w w':=by
 have hb:∀o,(w.alloc o).cell? ⟨b,1,none⟩=some (.string aV):=fun o=>ak (au (Below.refl _ _) _) h;have hs:=Xl;unfold acc0;clear h;go_enter Tryz.func172,Tryz.ntmps172;go_wp2_with fail
 go_ret;exact⟨by simp[hs],au (Below.refl _ _) _⟩
theorem Vy (b:Nat)(h:w.cell? ⟨b,1,none⟩=some (.string bQ)) :
 Calls Tryz.prog 172 #[.agg acc0,.pointer (some ⟨b,0,none⟩)] w fun e w'=>e=.returned (.bool false)∧Below w.heap.size w w':=by
 have hb:∀o,(w.alloc o).cell? ⟨b,1,none⟩=some (.string bQ):=fun o=>ak (au (Below.refl _ _) _) h;have hs:=Xn;unfold acc0;clear h;go_enter Tryz.func172,Tryz.ntmps172;go_wp2_with fail
 go_ret;exact⟨by simp[hs],au (Below.refl _ _) _⟩
theorem Vz (b:Nat)(h:w.cell? ⟨b,1,none⟩=some (.string bQ)) :
 Calls Tryz.prog 172 #[.agg jv,.pointer (some ⟨b,0,none⟩)] w fun e w'=>e=.returned (.bool true)∧Below w.heap.size w w':=by
 have hb:∀o,(w.alloc o).cell? ⟨b,1,none⟩=some (.string bQ):=fun o=>ak (au (Below.refl _ _) _) h;have hs:=Xm;unfold jv;clear h;go_enter Tryz.func172,Tryz.ntmps172;go_wp2_with fail
 go_ret;exact⟨by simp[hs],au (Below.refl _ _) _⟩
theorem Dc (b pr c:Nat)(h:w.cell? ⟨b,3,none⟩=some (.string bK))(hp:w.rangeAt pr 0 dR.toList)(hp1:w.rangeAt pr 3 fU.toList) :
 Calls Tryz.prog 169 #[.slice (some ⟨pr,0,none⟩) 2 c,.func (.func 170) #[] #[.pointer (some ⟨b,0,none⟩)]] w fun e w'=>e=.returned (.int .i64 0)∧Below w.heap.size w w':=by
 have H:=ah.mk (And.intro h (And.intro hp hp1));clear h hp hp1;go_enter Tryz.func169,Tryz.ntmps169;go_wp2_with fail
 refine wp_loop_rounds 1 ?_;rw[rounds_succ];go_wp2_with (first|(go_at_call 170;refine(P9 b H.out.1).mono ?_;rintro e w2 ⟨rfl,hb⟩;have H2:=ah.mk hb;clear hb)|(refine aJ rfl 81 (.tmp 14) rfl pr 0 rfl dR _ H.out.2.1 Tryz.underlying81 rfl (by rw[show dR.size=3 from rfl];kernel_rfl) ?_))
 go_ret;exact⟨rfl,H2.out⟩
theorem Df (b pr c:Nat)(h:w.cell? ⟨b,3,none⟩=some (.string dX))(hp:w.rangeAt pr 0 dR.toList)(hp1:w.rangeAt pr 3 fU.toList) :
 Calls Tryz.prog 169 #[.slice (some ⟨pr,0,none⟩) 2 c,.func (.func 170) #[] #[.pointer (some ⟨b,0,none⟩)]] w fun e w'=>e=.returned (.int .i64 1)∧Below w.heap.size w w':=by
 have H:=ah.mk (And.intro h (And.intro hp hp1));clear h hp hp1;go_enter Tryz.func169,Tryz.ntmps169;go_wp2_with fail
 refine wp_loop_rounds 2 ?_;rw[rounds_succ];go_wp2_with (first|(go_at_call 170;refine(Qa b H.out.1).mono ?_;rintro e w2 ⟨rfl,hb⟩;have H2:=ah.mk hb;clear hb)|(refine aJ rfl 81 (.tmp 14) rfl pr 0 rfl dR _ H.out.2.1 Tryz.underlying81 rfl (by rw[show dR.size=3 from rfl];kernel_rfl) ?_))
 rw[rounds_succ];go_wp2_with (first|(go_at_call 170;refine(Qb b (ak H2.out H.out.1)).mono ?_;rintro e w3 ⟨rfl,hb⟩;have H3:=ah.mk hb;clear hb)|(refine aJ rfl 81 (.tmp 14) rfl pr 3 rfl fU _ (fun i v hv=>ak H2.out (H.out.2.2 i v hv)) Tryz.underlying81 rfl (by rw[show fU.size=3 from rfl];kernel_rfl) ?_))
 go_ret;exact⟨rfl,ay H2.out H2.out.size H3.out⟩
theorem I8 (b pr c:Nat)(h:w.cell? ⟨b,1,none⟩=some (.string aV))(hp:w.rangeAt pr 0 acc0.toList)(hp1:w.rangeAt pr 3 jv.toList) :
 Calls Tryz.prog 195 #[.slice (some ⟨pr,0,none⟩) 2 c,.func (.func 172) #[] #[.pointer (some ⟨b,0,none⟩)]] w fun e w'=>e=.returned (.int .i64 0)∧Below w.heap.size w w':=by
 have H:=ah.mk (And.intro h (And.intro hp hp1));clear h hp hp1;go_enter Tryz.func195,Tryz.ntmps195;go_wp2_with fail
 refine wp_loop_rounds 1 ?_;rw[rounds_succ];go_wp2_with (first|(go_at_call 172;refine(Vx b H.out.1).mono ?_;rintro e w2 ⟨rfl,hb⟩;have H2:=ah.mk hb;clear hb)|(refine aJ rfl 84 (.tmp 14) rfl pr 0 rfl acc0 _ H.out.2.1 Tryz.underlying84 rfl (by rw[show acc0.size=3 from rfl];kernel_rfl) ?_))
 go_ret;exact⟨rfl,H2.out⟩
theorem I9 (b pr c:Nat)(h:w.cell? ⟨b,1,none⟩=some (.string bQ))(hp:w.rangeAt pr 0 acc0.toList)(hp1:w.rangeAt pr 3 jv.toList) :
 Calls Tryz.prog 195 #[.slice (some ⟨pr,0,none⟩) 2 c,.func (.func 172) #[] #[.pointer (some ⟨b,0,none⟩)]] w fun e w'=>e=.returned (.int .i64 1)∧Below w.heap.size w w':=by
 have H:=ah.mk (And.intro h (And.intro hp hp1));clear h hp hp1;go_enter Tryz.func195,Tryz.ntmps195;go_wp2_with fail
 refine wp_loop_rounds 2 ?_;rw[rounds_succ];go_wp2_with (first|(go_at_call 172;refine(Vy b H.out.1).mono ?_;rintro e w2 ⟨rfl,hb⟩;have H2:=ah.mk hb;clear hb)|(refine aJ rfl 84 (.tmp 14) rfl pr 0 rfl acc0 _ H.out.2.1 Tryz.underlying84 rfl (by rw[show acc0.size=3 from rfl];kernel_rfl) ?_))
 rw[rounds_succ];go_wp2_with (first|(go_at_call 172;refine(Vz b (ak H2.out H.out.1)).mono ?_;rintro e w3 ⟨rfl,hb⟩;have H3:=ah.mk hb;clear hb)|(refine aJ rfl 84 (.tmp 14) rfl pr 3 rfl jv _ (fun i v hv=>ak H2.out (H.out.2.2 i v hv)) Tryz.underlying84 rfl (by rw[show jv.size=3 from rfl];kernel_rfl) ?_))
 go_ret;exact⟨rfl,ay H2.out H2.out.size H3.out⟩
theorem zG (b pr c:Nat)(h:w.cell? ⟨b,1,none⟩=some (.string aV))(hp:w.rangeAt pr 0 acc0.toList)(hp1:w.rangeAt pr 3 jv.toList) :
 Calls Tryz.prog 171 #[.slice (some ⟨pr,0,none⟩) 2 c,.func (.func 172) #[] #[.pointer (some ⟨b,0,none⟩)]] w fun e w'=>e=.returned (.bool true)∧Below w.heap.size w w':=by
 have IX:=ah.mk (I8 b pr c h hp hp1);clear h hp hp1;go_enter Tryz.func171,Tryz.ntmps171;go_wp2_with (go_at_call 195;refine IX.out.mono ?_;rintro e w2 ⟨rfl,hb⟩;have H2:=ah.mk hb;clear hb)
 go_ret;exact⟨rfl,H2.out⟩
theorem zH (b pr c:Nat)(h:w.cell? ⟨b,1,none⟩=some (.string bQ))(hp:w.rangeAt pr 0 acc0.toList)(hp1:w.rangeAt pr 3 jv.toList) :
 Calls Tryz.prog 171 #[.slice (some ⟨pr,0,none⟩) 2 c,.func (.func 172) #[] #[.pointer (some ⟨b,0,none⟩)]] w fun e w'=>e=.returned (.bool true)∧Below w.heap.size w w':=by
 have IX:=ah.mk (I9 b pr c h hp hp1);clear h hp hp1;go_enter Tryz.func171,Tryz.ntmps171;go_wp2_with (go_at_call 195;refine IX.out.mono ?_;rintro e w2 ⟨rfl,hb⟩;have H2:=ah.mk hb;clear hb)
 go_ret;exact⟨rfl,H2.out⟩
end
end
section
open Go.RowKit
theorem Star.append {w:World}{m:List bV}{G:Nat→Prop}(hm:Star m w G):∀(l:List bV) (F:Nat→Prop),Star l w F→(∀k,G k→F k→False)→Star (l++m) w fun k=>F k∨G k
 |[],F,_,hd=>Star.up m G _ hm fun k h=>.inr h
 |X::l,F,⟨G',H,h1,h2,h3,h4⟩,hd=>by
  refine⟨G',fun k=>H k∨G k,h1,Star.append hm l H h2 fun k hg hh=>hd k hg (h4 k (.inr hh)),fun k hg hh=>?_,fun k h=>?_⟩
  ·rcases hh with hh|hh
   ·exact h3 k hg hh
   ·exact hd k hh (h4 k (.inl hg))
  ·rcases h with h|h|h
   ·exact .inl (h4 k (.inl h))
   ·exact .inl (h4 k (.inr h))
   ·exact .inr h
section
variable {w0 w w1:World}{L M:List bV}
theorem Has.more (h:Has w0 w L)(k:Has w w1 M):Has w0 w1 (L++M):=by
 have hs:=h.size;obtain⟨⟨F,h1,h2⟩,h3⟩:=h;obtain⟨⟨G,k1,k2⟩,k3⟩:=k;refine⟨⟨fun k=>F k∨G k,Star.append k1 L F (Star.loc L F h1 fun q hq=>k3.block q (h2 q hq).2) fun q hg hf=>?_,fun q hq=>?_⟩,ay h3 hs k3⟩
 ·have a:=(k2 q hg).1;have b:=(h2 q hf).2;omega
 ·rcases hq with hq|hq
  ·exact⟨(h2 q hq).1,Nat.lt_of_lt_of_le (h2 q hq).2 k3.size⟩
  ·have:=k2 q hq;exact⟨by omega,this.2⟩
theorem bT {g o:Nat}{vs:List Value}(h:w.rangeAt g o vs)(hb:Below w.heap.size w w1):w1.rangeAt g o vs:=fun i v hv=>ak hb (h i v hv)
def bM {α:Type}(w:World)(sz:Nat)(enc:α→List Value)(v:Value)(l:List α):Prop :=
 ∃A c,v=.slice A l.length c∧∀k x,l[k]?=some x→∃g,A=some ⟨g,0,none⟩∧w.rangeAt g (k*sz) (enc x)
theorem bM.below {α:Type}{sz:Nat}{enc:α→List Value}{v:Value}{l:List α}(h:bM w sz enc v l)(hb:Below w.heap.size w w1):bM w1 sz enc v l:=by
 obtain⟨A,c,h1,h2⟩:=h;refine⟨A,c,h1,fun k x hk=>?_⟩;obtain⟨g,h3,h4⟩:=h2 k x hk;exact⟨g,h3,bT h4 hb⟩
theorem bM.slice {α:Type}{sz:Nat}{enc:α→List Value}{v:Value}{l:List α}(h:bM w sz enc v l):∃A c,v=.slice A l.length c:=by
 obtain⟨A,c,h1,_⟩:=h;exact⟨A,c,h1⟩
theorem bM.get {α:Type}{sz:Nat}{enc:α→List Value}{A:Option Addr}{n c:Nat}{l:List α}(h:bM w sz enc (.slice A n c) l)(k:Nat)(x:α)(hk:l[k]?=some x):∃g,A=some ⟨g,0,none⟩∧w.rangeAt g (k*sz) (enc x):=by
 obtain⟨A',c',h1,h2⟩:=h;injection h1 with e1 _ _;subst e1;exact h2 k x hk
theorem bM.len {α:Type}{sz:Nat}{enc:α→List Value}{A:Option Addr}{n c:Nat}{l:List α}(h:bM w sz enc (.slice A n c) l):n=l.length:=by
 obtain⟨A',c',h1,h2⟩:=h;injection h1 with _ e _
theorem bM.nil {α:Type}{sz:Nat}{enc:α→List Value}:bM w sz enc (.slice none 0 0) ([]:List α):=⟨none,0,rfl,fun k x h=>by simp at h⟩
theorem sK {α:Type}{e:TypeId}{sz:Nat}{enc:α→List Value}{v:Value}{n:Nat}{l:List α}(hn:n=l.length)(hs:∀x,(enc x).length=sz)(h:w.ownsRow 0 e sz v n (l.flatMap enc)):bM w sz enc v l:=by
 rcases h.2 with⟨_,h0⟩|⟨g,cap,cur,hv,_,hh,_,_,hz,ht⟩
 ·have hl:l=[]:=List.eq_nil_of_length_eq_zero (hn▸h0);obtain⟨A,c,e⟩:=iW h;rw[hn]at e;exact⟨A,c,e,fun k x hk=>by rw[hl]at hk;simp at hk⟩
 ·refine⟨_,cap,by rw[hv,hn],fun k x hk=>⟨g,rfl,fun f u hu=>?_⟩⟩;have hkl:=(List.getElem?_eq_some_iff.1 hk).1;have hf:f<sz:=by have:=(List.getElem?_eq_some_iff.1 hu).1;rwa [hs]at this
  rw[aj hh,←Array.getElem?_toList];have h1:(l.flatMap enc)[k*sz+f]?=some u:=by rw[flat_get hs l k x hk f hf];exact hu
  have hlt:k*sz+f<n*sz:=by
   have h2:(k+1)*sz≤n*sz:=Nat.mul_le_mul_right _ (by omega);have h3:(k+1)*sz=k*sz+sz:=by rw[Nat.add_mul,Nat.one_mul]
   omega
  rw[←ht,List.getElem?_take_of_lt hlt]at h1;exact h1
theorem Has.read {α:Type}(H:Has w0 w L)(i:Nat){e:TypeId}{sz:Nat}{enc:α→List Value}{v:Value}{n:Nat}{l:List α}(hi:L[i]?=some (rowA e sz v n (l.flatMap enc)))(hn:n=l.length)(hs:∀x,(enc x).length=sz):bM w sz enc v l :=
 sK hn hs (H.row i hi)
def qW (j:J):List Value:=j.cells.toList
theorem gI (H:Has w0 w L)(i:Nat){v:Value}{js:List J}(hi:L[i]?=some (aO v js)):bM w 26 qW v js :=
 H.read i (enc:=qW) hi rfl J.ER
end
end
section
open Go.RowKit
theorem y5 (c:UInt8):∀(a b:List UInt8),c ∉ a→Lib.index (a++c::b) [c]=a.length
 |[],b,_=>by
  show Lib.index (c::b) [c]=_
  unfold Lib.index;simp[List.isPrefixOf]
 |x::a,b,h=>by
  have hx:¬c=x:=fun e=>h (e▸List.mem_cons_self);have ha:c ∉ a:=fun e=>h (List.mem_cons_of_mem _ e);show Lib.index (x::(a++c::b)) [c]=_
  unfold Lib.index;have:=y5 c a b ha;rw[this];have hb:(List.isPrefixOf [c] (x::(a++c::b)))=false:=by simp[List.isPrefixOf,hx]
  rw[hb];simp
theorem y9 (c:UInt8)(a b:List UInt8)(h:c ∉ a):Lib.cut (a++c::b) [c]=(a,b,true):=by
 unfold Lib.cut;rw[y5 c a b h,if_pos (by omega)];simp
theorem index_none (c:UInt8):∀(a:List UInt8),c ∉ a→Lib.index a [c] = -1
 |[],_=>rfl
 |x::a,h=>by
  have hx:¬c=x:=fun e=>h (e▸List.mem_cons_self);have ha:c ∉ a:=fun e=>h (List.mem_cons_of_mem _ e);unfold Lib.index;have:=index_none c a ha;rw[this];have hb:(List.isPrefixOf [c] (x::a))=false:=by simp[List.isPrefixOf,hx]
  rw[hb];simp
theorem He (c:UInt8)(a:List UInt8)(h:c ∉ a):Lib.cut a [c]=(a,[],false):=by
 unfold Lib.cut;rw[index_none c a h,if_neg (by omega)]
def textOf:List (List UInt8)→List UInt8
 |[]=>[]
 |l::ls=>l++10::textOf ls
def lb (l:List UInt8):ByteArray:=⟨l.toArray⟩
theorem fQ (l:List UInt8):(lb l).data.toList=l:=by simp[lb]
theorem gK (l:List UInt8):(lb l).size=l.length:=by rw[Lib.size_eq,fQ]
theorem oK (a b:List UInt8):lb a++lb b=lb (a++b):=by
 unfold lb;apply ByteArray.ext;simp
theorem o8 (s:ByteArray):lb s.data.toList=s:=by unfold lb;simp
end
end Go.Proofs.YtandhagfhppgaaaGreatDoor
