/- Part 14 of a proof: contracts of the functions that the law reaches. No condition. -/
import Derived.Test.YtandhagfhppgaaaGreatDoorS13
set_option linter.all false
set_option maxRecDepth 100000
set_option maxHeartbeats 16000000
namespace Go.Proofs.YtandhagfhppgaaaGreatDoor
section
open Go.RowKit
def CW (id since size:Nat)(f:Int):Array Value:=#[.int .u32 id,.int .i64 since,.int .i64 size,.int .i64 0,.int .i64 0,.int .i64 0,.int .i64 f]
section
variable {w:World}
theorem I9 (id since size now:Nat)(f:Int)(hid:1≤id)(hsz:1≤size)(hs8:size≤8)(hn:now≤1000000) :
 Calls Tryz.prog 243 #[.agg nC,.agg (CW id since size f),.int .i64 now,.int .i64 8] w fun e w'=>(∃p r:Int,e=.returned (.tuple #[.int .i64 p,.int .i64 r]))∧Below w.heap.size w w':=by
 refine named fun R HQ=>?_;obtain⟨b,hb⟩:=I8 f 0 65536;obtain⟨va,hva,ha⟩:=NR since now hn;obtain⟨vs,hvs,hs⟩:=Fp size hsz hs8;obtain⟨vo,hvo,ho⟩:=xM 0 1048576 (by decide) (by decide) (by decide);have HB:=ah.mk hb;have AG:=ah.mk ha;have SZ:=ah.mk hs;have OF:ah (∀w,Calls Tryz.prog 288 #[.int .i64 0,.int .i64 1048576] w fun e w'=>e=.returned (.int .i64 vo)∧fC w w'):=⟨ho⟩;have I1:=ah.mk fun W=>lZ 0 (-10000) 10000 (by decide) (by decide) W;have I2:=ah.mk fun W=>lZ (now:Int) 0 1099511627776 (by omega) (by omega) W;have I3:=ah.mk fun W=>lZ 8 1 1048576 (by decide) (by decide) W;have I4:=ah.mk fun W=>lZ 0 0 1048576 (by decide) (by decide) W;have hid0:((id:Int)==0)=false:=by simp;omega
 clear hb ha hs ho hid hsz hs8 hn hva hvs hvo;unfold CW nC;go_enter Tryz.func243,Tryz.ntmps243;cases b with
 |false =>
  go_wp2_with (go_at_call 285;refine(HB.out _).mono ?_;rintro e w' ⟨rfl,hw⟩;obtain rfl:=hw.symm;clear hw)
  first|go_ret2|skip
  rw[←HQ.out];exact⟨⟨0,2,rfl⟩,au (au (Below.refl _ _) _) _⟩
 |true =>
  go_wp2_with (first|(go_at_call 285;have _t:=HB.out;clear _t;refine(HB.out _).mono ?_;rintro e w' ⟨rfl,hw⟩;obtain rfl:=hw.symm;clear hw HB)|(go_at_call 285;have _t:=I1.out;clear _t;refine(I1.out _).mono ?_;rintro e w' ⟨rfl,hw⟩;obtain rfl:=hw.symm;clear hw I1)|(go_at_call 285;have _t:=I2.out;clear _t;refine(I2.out _).mono ?_;rintro e w' ⟨rfl,hw⟩;obtain rfl:=hw.symm;clear hw I2)|(go_at_call 285;refine(I3.out _).mono ?_;rintro e w' ⟨rfl,hw⟩;obtain rfl:=hw.symm;clear hw))
  obtain⟨W0,hW⟩:∃W0,W0=(w.alloc (.cells #[.int .i64 0,.int .i64 0,.int .i64 0,.int .i64 0,.int .i64 0] 28)).alloc (.cells #[.int .u32 id,.int .i64 since,.int .i64 size,.int .i64 0,.int .i64 0,.int .i64 0,.int .i64 f] 277):=⟨_,rfl⟩;rw[←hW];have B0:=ah.mk (show Below w.heap.size w W0 by rw[hW];exact au (au (Below.refl _ _) _) _);have g0:W0.heap[w.heap.size]?=some (.cells #[.int .i64 0,.int .i64 0,.int .i64 0,.int .i64 0,.int .i64 0] 28):=by rw[hW,heap_alloc_old _ _ (by simp)];exact heap_alloc_new _ _
  have g1:W0.heap[w.heap.size + 1]?=some (.cells #[.int .u32 id,.int .i64 since,.int .i64 size,.int .i64 0,.int .i64 0,.int .i64 0,.int .i64 f] 277):=by rw[hW];exact heap_alloc2_new _ _ _
  clear hW;have c0:W0.cell? ⟨w.heap.size,0,none⟩=some (.int .i64 0):=by rw[aj g0];rfl
  have c1:W0.cell? ⟨w.heap.size,1,none⟩=some (.int .i64 0):=by rw[aj g0];rfl
  have c2:W0.cell? ⟨w.heap.size,2,none⟩=some (.int .i64 0):=by rw[aj g0];rfl
  have c3:W0.cell? ⟨w.heap.size,3,none⟩=some (.int .i64 0):=by rw[aj g0];rfl
  have c4:W0.cell? ⟨w.heap.size,4,none⟩=some (.int .i64 0):=by rw[aj g0];rfl
  have d1:W0.cell? ⟨w.heap.size+1,1,none⟩=some (.int .i64 since):=by rw[aj g1];rfl
  have d2:W0.cell? ⟨w.heap.size+1,2,none⟩=some (.int .i64 size):=by rw[aj g1];rfl
  have d4:W0.cell? ⟨w.heap.size+1,4,none⟩=some (.int .i64 0):=by rw[aj g1];rfl
  have d5:W0.cell? ⟨w.heap.size+1,5,none⟩=some (.int .i64 0):=by rw[aj g1];rfl
  have d6:W0.cell? ⟨w.heap.size+1,6,none⟩=some (.int .i64 f):=by rw[aj g1];rfl
  have d3:W0.cell? ⟨w.heap.size+1,3,none⟩=some (.int .i64 0):=by rw[aj g1];rfl
  have hx0:∀W,(Instr.index 368 (.agg #[.int .i64 0,.int .i64 f,.int .i64 0,.int .i64 va,.int .i64 0,.int .i64 vs,.int .i64 0,.int .i64 vo,.int .i64 0,.int .i64 vo]) (.int .i64 0)).run Tryz.prog W=.ok (.agg #[.int .i64 0,.int .i64 f]) W:=fun W=>by kernel_rfl
  have hx1:∀W,(Instr.index 368 (.agg #[.int .i64 0,.int .i64 f,.int .i64 0,.int .i64 va,.int .i64 0,.int .i64 vs,.int .i64 0,.int .i64 vo,.int .i64 0,.int .i64 vo]) (.int .i64 1)).run Tryz.prog W=.ok (.agg #[.int .i64 0,.int .i64 va]) W:=fun W=>by kernel_rfl
  have hx2:∀W,(Instr.index 368 (.agg #[.int .i64 0,.int .i64 f,.int .i64 0,.int .i64 va,.int .i64 0,.int .i64 vs,.int .i64 0,.int .i64 vo,.int .i64 0,.int .i64 vo]) (.int .i64 2)).run Tryz.prog W=.ok (.agg #[.int .i64 0,.int .i64 vs]) W:=fun W=>by kernel_rfl
  have hx3:∀W,(Instr.index 368 (.agg #[.int .i64 0,.int .i64 f,.int .i64 0,.int .i64 va,.int .i64 0,.int .i64 vs,.int .i64 0,.int .i64 vo,.int .i64 0,.int .i64 vo]) (.int .i64 3)).run Tryz.prog W=.ok (.agg #[.int .i64 0,.int .i64 vo]) W:=fun W=>by kernel_rfl
  have hx4:∀W,(Instr.index 368 (.agg #[.int .i64 0,.int .i64 f,.int .i64 0,.int .i64 va,.int .i64 0,.int .i64 vs,.int .i64 0,.int .i64 vo,.int .i64 0,.int .i64 vo]) (.int .i64 4)).run Tryz.prog W=.ok (.agg #[.int .i64 0,.int .i64 vo]) W:=fun W=>by kernel_rfl
  have d33:∀o1 o2 o3 o4 o5 o6,((((((W0.alloc o1).alloc o2).alloc o3).alloc o4).alloc o5).alloc o6).cell? ⟨w.heap.size+1,3,none⟩=some (.int .i64 0):=fun o1 o2 o3 o4 o5 o6=>ak (au (au (au (au (au (au (Below.refl _ _) _) _) _) _) _) _) d3;have hlt:w.heap.size+1<W0.heap.size:=(Array.getElem?_eq_some_iff.1 g1).1;have hlt2:w.heap.size<W0.heap.size:=by omega
  clear g0 g1;have hcomm:∀(W:World) n o,(W.drewN n).alloc o=(W.alloc o).drewN n:=fun _ _ _=>rfl;have Y8:∀(W:World) n p v,(W.drewN n).setCell p v=(W.setCell p v).drewN n:=fun _ _ _ _=>rfl;go_region_held3 (fun W=>W.cell? ⟨w.heap.size,0,none⟩=some (.int .i64 0)∧W.cell? ⟨w.heap.size,1,none⟩=some (.int .i64 0)∧W.cell? ⟨w.heap.size,2,none⟩=some (.int .i64 0)∧W.cell? ⟨w.heap.size,3,none⟩=some (.int .i64 0)∧W.cell? ⟨w.heap.size,4,none⟩=some (.int .i64 0)
   ∧ W.cell? ⟨w.heap.size+1,1,none⟩=some (.int .i64 since)∧W.cell? ⟨w.heap.size+1,2,none⟩=some (.int .i64 size)∧W.cell? ⟨w.heap.size+1,4,none⟩=some (.int .i64 0)∧W.cell? ⟨w.heap.size+1,5,none⟩=some (.int .i64 0)∧W.cell? ⟨w.heap.size+1,6,none⟩=some (.int .i64 f)) (go_keep) (first|(go_at_call 286;refine(AG.out _).mono ?_;rintro e w' ⟨rfl,⟨n,rfl⟩⟩)|(go_at_call 287;refine(SZ.out _).mono ?_;rintro e w' ⟨rfl,⟨n,rfl⟩⟩)|(go_at_call 288;refine(OF.out _).mono ?_;rintro e w' ⟨rfl,⟨n,rfl⟩⟩))
  all_goals
   go_wp2_with fail
   refine wp_loop_rounds 6 ?_;iterate 6
    rw[rounds_succ];go_wp2_with (go_at_call 285;refine(I4.out _).mono ?_;rintro e w' ⟨rfl,hw⟩;obtain rfl:=hw.symm;clear hw)
   first|go_ret2|skip
   rw[←HQ.out];refine⟨⟨_,_,rfl⟩,ay B0.out B0.out.size ?_⟩;repeat (first|exact Below.refl _ _|refine au ?_ _|refine aC ?_ _|refine Below.drew ?_)
end
end
end Go.Proofs.YtandhagfhppgaaaGreatDoor
