/- Part 49 of a proof: contracts of the functions that the law reaches. No condition. -/
import Derived.Test.YtandhagfhppgaaaGreatDoorS45
import Derived.Test.YtandhagfhppgaaaGreatDoorS47
set_option linter.all false
set_option maxRecDepth 100000
set_option maxHeartbeats 16000000
namespace Go.Proofs.YtandhagfhppgaaaGreatDoor
section
open Go.RowKit Go.ChangeMaps
def moveSpec (sz lim:Int)(ac hi rq:Bool):Spec:=⟨if ac then bP else aU,if hi then dZ else bC,1+bV sz 8,1+bV lim 20,rq⟩
theorem gG (sz lim:Int)(ac hi rq:Bool):(moveSpec sz lim ac hi rq).ok:=by
 have h1:=bY sz (n:=8) (by decide);have h2:=bY lim (n:=20) (by decide);refine⟨?_,?_,?_,?_,?_,?_⟩
 ·cases ac<;>simp[moveSpec]
 ·cases hi<;>simp[moveSpec]
 all_goals simp only[moveSpec];omega
section
variable {w:World}
set_option maxRecDepth 1000000 in
theorem lD (sz lim:Int)(ac hi rq:Bool):Calls Tryz.prog 17 #[.agg #[.int .i64 sz,.int .i64 lim,.bool ac,.bool hi,.bool rq]] w fun e w'=>e=.returned (.string (lb (dH (moveSpec sz lim ac hi rq).account.data.toList (moveSpec sz lim ac hi rq).qos.data.toList (moveSpec sz lim ac hi rq).size (moveSpec sz lim ac hi rq).limit rq)))∧Below w.heap.size w w':=by
 refine named fun R HQ=>?_;have LP:=fun W=>Ej (w:=W) (moveSpec sz lim ac hi rq) (gG sz lim ac hi rq);have M1:=ah.mk fun W=>cO (w:=W) sz 8 (by decide) (by decide);have M2:=ah.mk fun W=>cO (w:=W) lim 20 (by decide) (by decide);have b1:=bY sz (n:=8) (by decide);have b2:=bY lim (n:=20) (by decide);have k1:wrap64 (1+(bV sz 8:Int))=1+(bV sz 8:Int):=wrap_in (by omega) (by omega);have k2:wrap64 (1+(bV lim 20:Int))=1+(bV lim 20:Int):=wrap_in (by omega) (by omega);have k1w:IntKind.i64.wrap (1+(bV sz 8:Int))=1+(bV sz 8:Int):=(kV _).trans k1;have k2w:IntKind.i64.wrap (1+(bV lim 20:Int))=1+(bV lim 20:Int):=(kV _).trans k2;have C0:ah (∀W,Below (w.alloc (.cells #[.int .i64 sz,.int .i64 lim,.bool ac,.bool hi,.bool rq] 38)).heap.size (w.alloc (.cells #[.int .i64 sz,.int .i64 lim,.bool ac,.bool hi,.bool rq] 38)) W→W.cell? ⟨w.heap.size,0,none⟩=some (.int .i64 sz)∧W.cell? ⟨w.heap.size,1,none⟩=some (.int .i64 lim)∧W.cell? ⟨w.heap.size,2,none⟩=some (.bool ac)∧W.cell? ⟨w.heap.size,3,none⟩=some (.bool hi)∧W.cell? ⟨w.heap.size,4,none⟩=some (.bool rq)∧True):=⟨fun W h=>by
  refine⟨?_,?_,?_,?_,?_,trivial⟩;all_goals exact ak h (by rw[aj (heap_alloc_new w _)];rfl)⟩
 have BW:=ah.mk (au (Below.refl w.heap.size w) (.cells #[.int .i64 sz,.int .i64 lim,.bool ac,.bool hi,.bool rq] 38));have BD:=ah.mk (aC (Below.refl (w.alloc (.cells #[.int .i64 sz,.int .i64 lim,.bool ac,.bool hi,.bool rq] 38)).heap.size (w.alloc (.cells #[.int .i64 sz,.int .i64 lim,.bool ac,.bool hi,.bool rq] 38))) 1);obtain⟨T,hT⟩:∃T,T=lb (dH (moveSpec sz lim ac hi rq).account.data.toList (moveSpec sz lim ac hi rq).qos.data.toList (moveSpec sz lim ac hi rq).size (moveSpec sz lim ac hi rq).limit rq):=⟨_,rfl⟩;rw[show(moveSpec sz lim ac hi rq).gV=rq from rfl,←hT]at LP;have HT:=ah.mk hT;clear hT b1 b2;obtain⟨z1,hz1⟩:∃z,z=bV sz 8:=⟨_,rfl⟩;obtain⟨z2,hz2⟩:∃z,z=bV lim 20:=⟨_,rfl⟩;unfold moveSpec Spec.cells at LP;simp only at LP;rw[←hz1,←hz2]at LP;rw[←hz1]at M1 k1 k1w;rw[←hz2]at M2 k2 k2w;rw[show((1+z1:Nat):Int)=1+(z1:Int) by omega,show((1+z2:Nat):Int)=1+(z2:Int) by omega]at LP;have WX:=ah.mk LP;clear hz1 hz2 LP;go_enter Tryz.func17,Tryz.ntmps17;go_wp2_with fail
 have HG:=C0.out _ BD.out;have HD:=ah.mk (C0.out _ (au BD.out (.cells eX 51)));refine aK (fun W=>W.cell? ⟨w.heap.size,0,none⟩=some (.int .i64 sz)∧W.cell? ⟨w.heap.size,1,none⟩=some (.int .i64 lim)∧W.cell? ⟨w.heap.size,2,none⟩=some (.bool ac)∧W.cell? ⟨w.heap.size,3,none⟩=some (.bool hi)∧W.cell? ⟨w.heap.size,4,none⟩=some (.bool rq)∧True) 12 (by kernel_rfl) (by kernel_rfl) ?_;refine bg 0 HG ?_;refine bg 1 HG ?_;refine bg 4 HG ?_;refine bg 5 HG ?_;refine bg 8 HG ?_;refine bg 9 HG ?_;refine ji (k:=2) (k2:=11) rfl rfl (by kernel_rfl) (by kernel_rfl) (by kernel_rfl) (fun K hK=>?_) (fun K hK=>?_)
 ·rw[if_pos (by rfl)];go_simp;go_at_call 7;refine(M1.out _).mono ?_;rintro e w' ⟨rfl,hw⟩;obtain rfl:=hw.symm;refine hK _ _ HG ?_;clear hK K hw;try simp only[Act.put,List.getElem_toArray,List.getElem_cons_zero,List.getElem_cons_succ,List.setIfInBounds_toArray,List.set_cons_zero,List.set_cons_succ]
  refine bg 3 HG ?_;refine ji (k:=6) (k2:=11) rfl rfl (by kernel_rfl) (by kernel_rfl) (by kernel_rfl) (fun K hK=>?_) (fun K hK=>?_)
  ·rw[if_pos (by rfl)];go_simp;go_at_call 7;refine(M2.out _).mono ?_;rintro e w' ⟨rfl,hw⟩;obtain rfl:=hw.symm;refine hK _ _ HG ?_;clear hK K hw;try simp only[Act.put,List.getElem_toArray,List.getElem_cons_zero,List.getElem_cons_succ,List.setIfInBounds_toArray,List.set_cons_zero,List.set_cons_succ]
   refine bg 7 HG ?_;refine bg 10 HG ?_;refine aP (k:=11) rfl (by kernel_rfl) (by kernel_rfl) (fun K hK=>?_);rw[if_pos (by rfl)];go_simp;refine hK _ _ HD.out ?_;clear hK K HG;have HG:=HD.out;try simp only[Act.put,List.getElem_toArray,List.getElem_cons_zero,List.getElem_cons_succ,List.setIfInBounds_toArray,List.set_cons_zero,List.set_cons_succ]
   refine aO (by kernel_rfl) ?_;simp only[List.drop_succ_cons,List.drop_zero];obtain⟨_,_,d2,d3,d4,_⟩:=HD.out;clear HG;cases ac<;>cases hi;all_goals
    have LP:=WX.out;simp only[Bool.false_eq_true,if_false,if_true]at LP;have BA:=ah.mk LP;clear LP WX;unfold gW aQ cZ at BA;try unfold bP at BA
    try unfold aU at BA
    try unfold dZ at BA
    try unfold bC at BA
    go_wp2_with (go_at_call 53;refine ah.out ?_)
    refine ah.mk ?_;refine(BA.out _).mono ?_;rintro e w5 ⟨rfl,hb⟩;have H5:=ah.mk (ay (au BD.out _) (by simp) hb);clear hb;go_wp2_with fail
    first|go_ret2|go_ret|skip
    rw[←HQ.out,←HT.out];exact⟨rfl,ay BW.out (by simp) H5.out⟩
  ·rw[if_pos (by rfl)];go_simp;refine hK _ _ HD.out ?_;clear hK K HG;have HG:=HD.out;try simp only[Act.put,List.getElem_toArray,List.getElem_cons_zero,List.getElem_cons_succ,List.setIfInBounds_toArray,List.set_cons_zero,List.set_cons_succ]
   refine aP (k:=6) rfl (by kernel_rfl) (by kernel_rfl) (fun K hK=>?_);rw[if_pos (by rfl)];go_simp;go_at_call 7;refine(M2.out _).mono ?_;rintro e w' ⟨rfl,hw⟩;obtain rfl:=hw.symm;refine hK _ _ HG ?_;clear hK K hw;try simp only[Act.put,List.getElem_toArray,List.getElem_cons_zero,List.getElem_cons_succ,List.setIfInBounds_toArray,List.set_cons_zero,List.set_cons_succ]
   refine bg 7 HG ?_;refine bg 10 HG ?_;refine aO (by kernel_rfl) ?_;simp only[List.drop_succ_cons,List.drop_zero];obtain⟨_,_,d2,d3,d4,_⟩:=HD.out;clear HG;cases ac<;>cases hi;all_goals
    have LP:=WX.out;simp only[Bool.false_eq_true,if_false,if_true]at LP;have BA:=ah.mk LP;clear LP WX;unfold gW aQ cZ at BA;try unfold bP at BA
    try unfold aU at BA
    try unfold dZ at BA
    try unfold bC at BA
    go_wp2_with (go_at_call 53;refine ah.out ?_)
    refine ah.mk ?_;refine(BA.out _).mono ?_;rintro e w5 ⟨rfl,hb⟩;have H5:=ah.mk (ay (au BD.out _) (by simp) hb);clear hb;go_wp2_with fail
    first|go_ret2|go_ret|skip
    rw[←HQ.out,←HT.out];exact⟨rfl,ay BW.out (by simp) H5.out⟩
 ·rw[if_pos (by rfl)];go_simp;refine hK _ _ HD.out ?_;clear hK K HG;have HG:=HD.out;try simp only[Act.put,List.getElem_toArray,List.getElem_cons_zero,List.getElem_cons_succ,List.setIfInBounds_toArray,List.set_cons_zero,List.set_cons_succ]
  refine aP (k:=2) rfl (by kernel_rfl) (by kernel_rfl) (fun K hK=>?_);rw[if_pos (by rfl)];go_simp;go_at_call 7;refine(M1.out _).mono ?_;rintro e w' ⟨rfl,hw⟩;obtain rfl:=hw.symm;refine hK _ _ HG ?_;clear hK K hw;try simp only[Act.put,List.getElem_toArray,List.getElem_cons_zero,List.getElem_cons_succ,List.setIfInBounds_toArray,List.set_cons_zero,List.set_cons_succ]
  refine bg 3 HG ?_;refine aP (k:=6) rfl (by kernel_rfl) (by kernel_rfl) (fun K hK=>?_);rw[if_pos (by rfl)];go_simp;go_at_call 7;refine(M2.out _).mono ?_;rintro e w' ⟨rfl,hw⟩;obtain rfl:=hw.symm;refine hK _ _ HG ?_;clear hK K hw;try simp only[Act.put,List.getElem_toArray,List.getElem_cons_zero,List.getElem_cons_succ,List.setIfInBounds_toArray,List.set_cons_zero,List.set_cons_succ]
  refine bg 7 HG ?_;refine bg 10 HG ?_;refine aO (by kernel_rfl) ?_;simp only[List.drop_succ_cons,List.drop_zero];obtain⟨_,_,d2,d3,d4,_⟩:=HD.out;clear HG;cases ac<;>cases hi;all_goals
   have LP:=WX.out;simp only[Bool.false_eq_true,if_false,if_true]at LP;have BA:=ah.mk LP;clear LP WX;unfold gW aQ cZ at BA;try unfold bP at BA
   try unfold aU at BA
   try unfold dZ at BA
   try unfold bC at BA
   go_wp2_with (go_at_call 53;refine ah.out ?_)
   refine ah.mk ?_;refine(BA.out _).mono ?_;rintro e w5 ⟨rfl,hb⟩;have H5:=ah.mk (ay (au BD.out _) (by simp) hb);clear hb;go_wp2_with fail
   first|go_ret2|go_ret|skip
   rw[←HQ.out,←HT.out];exact⟨rfl,ay BW.out (by simp) H5.out⟩
end
end
section
open Go.RowKit Go.ChangeMaps
section
variable {w:World}
set_option maxRecDepth 1000000 in
theorem Hz (nn sz lim:Int)(ac hi rq:Bool):Calls Tryz.prog 8 #[.agg #[.int .i64 0,.int .i64 nn,.int .i64 sz,.int .i64 lim,.bool ac,.bool hi,.bool rq]] w fun e w'=>e=.returned (.string (lb ([115,117,98,109,105,116,10]++(dH (moveSpec sz lim ac hi rq).account.data.toList (moveSpec sz lim ac hi rq).qos.data.toList (moveSpec sz lim ac hi rq).size (moveSpec sz lim ac hi rq).limit rq))))∧Below w.heap.size w w':=by
 refine named fun R HQ=>?_;have M12:=ah.mk fun W=>cO (w:=W) nn 12 (by decide) (by decide);have wK:=ah.mk fun W=>bG (w:=W) (bV nn 12) (Nat.lt_trans (bY nn (n:=12) (by decide)) (by decide));have SC:=ah.mk fun W=>lD (w:=W) sz lim ac hi rq;have hT:(lb (dH (moveSpec sz lim ac hi rq).account.data.toList (moveSpec sz lim ac hi rq).qos.data.toList (moveSpec sz lim ac hi rq).size (moveSpec sz lim ac hi rq).limit rq)).size≤400:=by
  have hs:=gG sz lim ac hi rq;have Eu:small (moveSpec sz lim ac hi rq).account:=by
   rcases hs.1 with h|h<;>rw[h]
   ·exact iK
   ·exact jh
  have Ew:small (moveSpec sz lim ac hi rq).qos:=by
   rcases hs.2.1 with h|h<;>rw[h]
   ·exact dW [110,111,114,109,97,108] rfl (by decide) (by decide)
   ·exact dW [104,105,103,104] rfl (by decide) (by decide)
  have:=mP (moveSpec sz lim ac hi rq).account.data.toList (moveSpec sz lim ac hi rq).qos.data.toList (by rw[ni];exact Eu) (by rw[ni];exact Ew) (moveSpec sz lim ac hi rq).size (moveSpec sz lim ac hi rq).limit rq;rw[eY];unfold dH;simp only[List.length_append,List.length_cons,List.length_nil];omega
 have FIN:=ah.mk (nD [115,117,98,109,105,116,10] (dH (moveSpec sz lim ac hi rq).account.data.toList (moveSpec sz lim ac hi rq).qos.data.toList (moveSpec sz lim ac hi rq).size (moveSpec sz lim ac hi rq).limit rq));obtain⟨T,hT2⟩:∃T,T=lb (dH (moveSpec sz lim ac hi rq).account.data.toList (moveSpec sz lim ac hi rq).qos.data.toList (moveSpec sz lim ac hi rq).size (moveSpec sz lim ac hi rq).limit rq):=⟨_,rfl⟩;rw[←hT2]at SC hT FIN;have hsz:¬9223372036854775807<7+T.size:=by omega
 clear hT2 hT;have C0:ah (∀W,Below (w.alloc (.cells #[.int .i64 0,.int .i64 nn,.int .i64 sz,.int .i64 lim,.bool ac,.bool hi,.bool rq] 40)).heap.size (w.alloc (.cells #[.int .i64 0,.int .i64 nn,.int .i64 sz,.int .i64 lim,.bool ac,.bool hi,.bool rq] 40)) W→W.cell? ⟨w.heap.size,0,none⟩=some (.int .i64 0)∧W.cell? ⟨w.heap.size,1,none⟩=some (.int .i64 nn)∧W.cell? ⟨w.heap.size,2,none⟩=some (.int .i64 sz)∧W.cell? ⟨w.heap.size,3,none⟩=some (.int .i64 lim)∧W.cell? ⟨w.heap.size,4,none⟩=some (.bool ac)∧W.cell? ⟨w.heap.size,5,none⟩=some (.bool hi)∧W.cell? ⟨w.heap.size,6,none⟩=some (.bool rq)):=⟨fun W h=>by
  refine⟨?_,?_,?_,?_,?_,?_,?_⟩;all_goals exact ak h (by rw[aj (heap_alloc_new w _)];rfl)⟩
 have BW:=ah.mk (au (Below.refl w.heap.size w) (.cells #[.int .i64 0,.int .i64 nn,.int .i64 sz,.int .i64 lim,.bool ac,.bool hi,.bool rq] 40));go_enter Tryz.func8,Tryz.ntmps8;go_wp2_with (first|(go_at_call 17;have _t:=H2.out;clear _t;refine(SC.out _).mono ?_;rintro e w3 ⟨rfl,hb⟩;have H3:=ah.mk (ay H2.out (by have:=H2.out.size;omega) hb);clear hb)|(go_at_call 20;refine(wK.out _).mono ?_;rintro e w2 ⟨rfl,hb⟩;obtain⟨c0,c1,c2,c3,c4,c5,c6⟩:=C0.out _ hb;have H2:=ah.mk (ay BW.out (by simp) hb:Below w.heap.size w w2);clear hb)|(go_at_call 7;refine(M12.out _).mono ?_;rintro e w' ⟨rfl,hw⟩;obtain rfl:=hw.symm;clear hw))
 first|go_ret2|go_ret|skip
 rw[←HQ.out,←FIN.out];exact⟨rfl,H3.out⟩
set_option maxRecDepth 1000000 in
theorem Ia (nn sz lim:Int)(ac hi rq:Bool):Calls Tryz.prog 8 #[.agg #[.int .i64 1,.int .i64 nn,.int .i64 sz,.int .i64 lim,.bool ac,.bool hi,.bool rq]] w fun e w'=>e=.returned (.string (lb ([115,117,98,109,105,116,10]++(dH (moveSpec sz lim ac hi rq).account.data.toList (moveSpec sz lim ac hi rq).qos.data.toList (moveSpec sz lim ac hi rq).size (moveSpec sz lim ac hi rq).limit rq))))∧Below w.heap.size w w':=by
 refine named fun R HQ=>?_;have M12:=ah.mk fun W=>cO (w:=W) nn 12 (by decide) (by decide);have wK:=ah.mk fun W=>bG (w:=W) (bV nn 12) (Nat.lt_trans (bY nn (n:=12) (by decide)) (by decide));have SC:=ah.mk fun W=>lD (w:=W) sz lim ac hi rq;have hT:(lb (dH (moveSpec sz lim ac hi rq).account.data.toList (moveSpec sz lim ac hi rq).qos.data.toList (moveSpec sz lim ac hi rq).size (moveSpec sz lim ac hi rq).limit rq)).size≤400:=by
  have hs:=gG sz lim ac hi rq;have Eu:small (moveSpec sz lim ac hi rq).account:=by
   rcases hs.1 with h|h<;>rw[h]
   ·exact iK
   ·exact jh
  have Ew:small (moveSpec sz lim ac hi rq).qos:=by
   rcases hs.2.1 with h|h<;>rw[h]
   ·exact dW [110,111,114,109,97,108] rfl (by decide) (by decide)
   ·exact dW [104,105,103,104] rfl (by decide) (by decide)
  have:=mP (moveSpec sz lim ac hi rq).account.data.toList (moveSpec sz lim ac hi rq).qos.data.toList (by rw[ni];exact Eu) (by rw[ni];exact Ew) (moveSpec sz lim ac hi rq).size (moveSpec sz lim ac hi rq).limit rq;rw[eY];unfold dH;simp only[List.length_append,List.length_cons,List.length_nil];omega
 have FIN:=ah.mk (nD [115,117,98,109,105,116,10] (dH (moveSpec sz lim ac hi rq).account.data.toList (moveSpec sz lim ac hi rq).qos.data.toList (moveSpec sz lim ac hi rq).size (moveSpec sz lim ac hi rq).limit rq));obtain⟨T,hT2⟩:∃T,T=lb (dH (moveSpec sz lim ac hi rq).account.data.toList (moveSpec sz lim ac hi rq).qos.data.toList (moveSpec sz lim ac hi rq).size (moveSpec sz lim ac hi rq).limit rq):=⟨_,rfl⟩;rw[←hT2]at SC hT FIN;have hsz:¬9223372036854775807<7+T.size:=by omega
 clear hT2 hT;have C0:ah (∀W,Below (w.alloc (.cells #[.int .i64 1,.int .i64 nn,.int .i64 sz,.int .i64 lim,.bool ac,.bool hi,.bool rq] 40)).heap.size (w.alloc (.cells #[.int .i64 1,.int .i64 nn,.int .i64 sz,.int .i64 lim,.bool ac,.bool hi,.bool rq] 40)) W→W.cell? ⟨w.heap.size,0,none⟩=some (.int .i64 1)∧W.cell? ⟨w.heap.size,1,none⟩=some (.int .i64 nn)∧W.cell? ⟨w.heap.size,2,none⟩=some (.int .i64 sz)∧W.cell? ⟨w.heap.size,3,none⟩=some (.int .i64 lim)∧W.cell? ⟨w.heap.size,4,none⟩=some (.bool ac)∧W.cell? ⟨w.heap.size,5,none⟩=some (.bool hi)∧W.cell? ⟨w.heap.size,6,none⟩=some (.bool rq)):=⟨fun W h=>by
  refine⟨?_,?_,?_,?_,?_,?_,?_⟩;all_goals exact ak h (by rw[aj (heap_alloc_new w _)];rfl)⟩
 have BW:=ah.mk (au (Below.refl w.heap.size w) (.cells #[.int .i64 1,.int .i64 nn,.int .i64 sz,.int .i64 lim,.bool ac,.bool hi,.bool rq] 40));go_enter Tryz.func8,Tryz.ntmps8;go_wp2_with (first|(go_at_call 17;have _t:=H2.out;clear _t;refine(SC.out _).mono ?_;rintro e w3 ⟨rfl,hb⟩;have H3:=ah.mk (ay H2.out (by have:=H2.out.size;omega) hb);clear hb)|(go_at_call 20;refine(wK.out _).mono ?_;rintro e w2 ⟨rfl,hb⟩;obtain⟨c0,c1,c2,c3,c4,c5,c6⟩:=C0.out _ hb;have H2:=ah.mk (ay BW.out (by simp) hb:Below w.heap.size w w2);clear hb)|(go_at_call 7;refine(M12.out _).mono ?_;rintro e w' ⟨rfl,hw⟩;obtain rfl:=hw.symm;clear hw))
 first|go_ret2|go_ret|skip
 rw[←HQ.out,←FIN.out];exact⟨rfl,H3.out⟩
set_option maxRecDepth 1000000 in
theorem Ib (nn sz lim:Int)(ac hi rq:Bool):Calls Tryz.prog 8 #[.agg #[.int .i64 2,.int .i64 nn,.int .i64 sz,.int .i64 lim,.bool ac,.bool hi,.bool rq]] w fun e w'=>e=.returned (.string (lb ([115,117,98,109,105,116,10]++(dH (moveSpec sz lim ac hi rq).account.data.toList (moveSpec sz lim ac hi rq).qos.data.toList (moveSpec sz lim ac hi rq).size (moveSpec sz lim ac hi rq).limit rq))))∧Below w.heap.size w w':=by
 refine named fun R HQ=>?_;have M12:=ah.mk fun W=>cO (w:=W) nn 12 (by decide) (by decide);have wK:=ah.mk fun W=>bG (w:=W) (bV nn 12) (Nat.lt_trans (bY nn (n:=12) (by decide)) (by decide));have SC:=ah.mk fun W=>lD (w:=W) sz lim ac hi rq;have hT:(lb (dH (moveSpec sz lim ac hi rq).account.data.toList (moveSpec sz lim ac hi rq).qos.data.toList (moveSpec sz lim ac hi rq).size (moveSpec sz lim ac hi rq).limit rq)).size≤400:=by
  have hs:=gG sz lim ac hi rq;have Eu:small (moveSpec sz lim ac hi rq).account:=by
   rcases hs.1 with h|h<;>rw[h]
   ·exact iK
   ·exact jh
  have Ew:small (moveSpec sz lim ac hi rq).qos:=by
   rcases hs.2.1 with h|h<;>rw[h]
   ·exact dW [110,111,114,109,97,108] rfl (by decide) (by decide)
   ·exact dW [104,105,103,104] rfl (by decide) (by decide)
  have:=mP (moveSpec sz lim ac hi rq).account.data.toList (moveSpec sz lim ac hi rq).qos.data.toList (by rw[ni];exact Eu) (by rw[ni];exact Ew) (moveSpec sz lim ac hi rq).size (moveSpec sz lim ac hi rq).limit rq;rw[eY];unfold dH;simp only[List.length_append,List.length_cons,List.length_nil];omega
 have FIN:=ah.mk (nD [115,117,98,109,105,116,10] (dH (moveSpec sz lim ac hi rq).account.data.toList (moveSpec sz lim ac hi rq).qos.data.toList (moveSpec sz lim ac hi rq).size (moveSpec sz lim ac hi rq).limit rq));obtain⟨T,hT2⟩:∃T,T=lb (dH (moveSpec sz lim ac hi rq).account.data.toList (moveSpec sz lim ac hi rq).qos.data.toList (moveSpec sz lim ac hi rq).size (moveSpec sz lim ac hi rq).limit rq):=⟨_,rfl⟩;rw[←hT2]at SC hT FIN;have hsz:¬9223372036854775807<7+T.size:=by omega
 clear hT2 hT;have C0:ah (∀W,Below (w.alloc (.cells #[.int .i64 2,.int .i64 nn,.int .i64 sz,.int .i64 lim,.bool ac,.bool hi,.bool rq] 40)).heap.size (w.alloc (.cells #[.int .i64 2,.int .i64 nn,.int .i64 sz,.int .i64 lim,.bool ac,.bool hi,.bool rq] 40)) W→W.cell? ⟨w.heap.size,0,none⟩=some (.int .i64 2)∧W.cell? ⟨w.heap.size,1,none⟩=some (.int .i64 nn)∧W.cell? ⟨w.heap.size,2,none⟩=some (.int .i64 sz)∧W.cell? ⟨w.heap.size,3,none⟩=some (.int .i64 lim)∧W.cell? ⟨w.heap.size,4,none⟩=some (.bool ac)∧W.cell? ⟨w.heap.size,5,none⟩=some (.bool hi)∧W.cell? ⟨w.heap.size,6,none⟩=some (.bool rq)):=⟨fun W h=>by
  refine⟨?_,?_,?_,?_,?_,?_,?_⟩;all_goals exact ak h (by rw[aj (heap_alloc_new w _)];rfl)⟩
 have BW:=ah.mk (au (Below.refl w.heap.size w) (.cells #[.int .i64 2,.int .i64 nn,.int .i64 sz,.int .i64 lim,.bool ac,.bool hi,.bool rq] 40));go_enter Tryz.func8,Tryz.ntmps8;go_wp2_with (first|(go_at_call 17;have _t:=H2.out;clear _t;refine(SC.out _).mono ?_;rintro e w3 ⟨rfl,hb⟩;have H3:=ah.mk (ay H2.out (by have:=H2.out.size;omega) hb);clear hb)|(go_at_call 20;refine(wK.out _).mono ?_;rintro e w2 ⟨rfl,hb⟩;obtain⟨c0,c1,c2,c3,c4,c5,c6⟩:=C0.out _ hb;have H2:=ah.mk (ay BW.out (by simp) hb:Below w.heap.size w w2);clear hb)|(go_at_call 7;refine(M12.out _).mono ?_;rintro e w' ⟨rfl,hw⟩;obtain rfl:=hw.symm;clear hw))
 first|go_ret2|go_ret|skip
 rw[←HQ.out,←FIN.out];exact⟨rfl,H3.out⟩
end
end
end Go.Proofs.YtandhagfhppgaaaGreatDoor
