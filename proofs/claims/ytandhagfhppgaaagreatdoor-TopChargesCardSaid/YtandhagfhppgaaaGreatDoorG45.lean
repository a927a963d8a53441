/- Part 50 of a proof: contracts of the functions that the law reaches. No condition. -/
import Derived.Test.YtandhagfhppgaaaGreatDoorG23
import Derived.Test.YtandhagfhppgaaaGreatDoorG32
import Derived.Test.YtandhagfhppgaaaGreatDoorG41
import Derived.Test.YtandhagfhppgaaaGreatDoorG44
set_option linter.all false
set_option maxRecDepth 100000
set_option maxHeartbeats 16000000
namespace Go.Proofs.YtandhagfhppgaaaGreatDoor
section
open Go.RowKit Go.ChangeMaps
theorem oq (k v:List UInt8):jI (lb k) (lb v)=lb (nI k v++[10]):=by
 unfold jI nI;rw[show(⟨#[35,83,66,65,84,67,72,32,45,45]⟩:ByteArray)=lb [35,83,66,65,84,67,72,32,45,45]from rfl,show(⟨#[61]⟩:ByteArray)=lb [61]from rfl,show(⟨#[10]⟩:ByteArray)=lb [10]from rfl,oK,oK,oK,oK];congr 1
 simp
theorem WB:∀n:Fin 9,dI n=lb [UInt8.ofNat (48+n)]:=by decide
theorem Sj:∀n:Fin 21,Ig n=lb (iH n):=by decide
theorem Sm (ac q:List UInt8)(n lim:Nat)(rq:Bool) :
 ((((((⟨#[35,33,106,111,98,10]⟩++jI (lb [106,111,98,45,110,97,109,101]) (lb [106]))++jI (lb [97,99,99,111,117,110,116]) (lb ac))++jI (lb [112,97,114,116,105,116,105,111,110]) (lb [109,97,105,110]))++jI (lb [113,111,115]) (lb q))++jI (lb [115,105,122,101]) (lb [UInt8.ofNat (48+n)]))++jI (lb [116,105,109,101]) (lb (iH lim)))++(if rq then lb [35,83,66,65,84,67,72,32,45,45,114,101,113,117,101,117,101,10]else lb [])=lb (dV ac q n lim rq):=by
 rw[oq,oq,oq,oq,oq,oq,show(⟨#[35,33,106,111,98,10]⟩:ByteArray)=lb [35,33,106,111,98,10]from rfl];cases rq
 ·simp only[Bool.false_eq_true,if_false,oK];congr 1
  simp[dV,nG,textOf]
 ·simp only[if_true,oK];congr 1
  simp[dV,nG,textOf,D9]
section
variable {w:World}
set_option maxRecDepth 1000000 in
theorem Eu (s:Spec)(hs:s.ok):Calls Tryz.prog 53 #[.agg s.cells] w fun e w'=>e=.returned (.tuple #[.string (lb (dV s.account.data.toList s.qos.data.toList s.size s.limit s.gX)),.int .i64 0])∧Below w.heap.size w w':=by
 refine named fun R HQ=>?_;have Iy:small s.account:=by
  rcases hs.1 with h|h<;>rw[h]
  ·exact jk
  ·exact jO
 have Iz:small s.qos:=by
  rcases hs.2.1 with h|h<;>rw[h]
  ·exact eF [110,111,114,109,97,108] rfl (by decide) (by decide)
  ·exact eF [104,105,103,104] rfl (by decide) (by decide)
 have CK:=ah.mk (DZ (w:=w.alloc (.cells s.cells 51)) s (eF [106] rfl (by decide) (by decide)) Iy (eF [109,97,105,110] rfl (by decide) (by decide)) Iz hs.2.2.1 hs.2.2.2.1 hs.2.2.2.2.1 hs.2.2.2.2.2);have FIN:ah (∀rq,s.gX=rq→_):=⟨fun rq h=>Sm s.account.data.toList s.qos.data.toList s.size s.limit rq⟩;have hone:=s.one;have PK:=uN s;obtain⟨a,q,sz,lim,rq⟩:=s;simp only at Iy Iz FIN;obtain⟨_,_,hz1,hz2,hl1,hl2⟩:=hs;simp only at hz1 hz2 hl1 hl2;rw[o8,o8]at FIN;have DC:=ah.mk fun W=>bF (w:=W) sz (by omega);have TC:=ah.mk fun W=>LG (w:=W) lim hl1 hl2;have ed:=WB ⟨sz,by omega⟩;have et:=Sj ⟨lim,by omega⟩;simp only at ed et;rw[←ed,←et]at FIN;have dz:=iG sz;have tz:(Ig lim).size≤10:=by rw[et,gK];simp[iH,uF]
 clear ed et;have az:a.size≤32:=Iy.2.2;have qz:q.size≤32:=Iz.2.2;have C1:=ah.mk fun W=>kM (w:=W) ⟨#[106,111,98,45,110,97,109,101]⟩ jT (by decide) (by decide);obtain⟨l1,Ew⟩:∃l,l=jI ⟨#[106,111,98,45,110,97,109,101]⟩ jT:=⟨_,rfl⟩;have s1:l1.size≤60:=by
  rw[Ew];unfold jI;simp only[ByteArray.size_append];have h1:(⟨#[106,111,98,45,110,97,109,101]⟩:ByteArray).size≤10:=by decide
  have h2:jT.size≤5:=by decide
  have h3:(⟨#[35,83,66,65,84,67,72,32,45,45]⟩:ByteArray).size=10:=rfl;have h4:(⟨#[61]⟩:ByteArray).size=1:=rfl;have h5:(⟨#[10]⟩:ByteArray).size=1:=rfl;omega
 rw[←Ew]at C1;have C2:=ah.mk fun W=>kM (w:=W) ⟨#[97,99,99,111,117,110,116]⟩ a (by decide) (by omega);obtain⟨l2,UN⟩:∃l,l=jI ⟨#[97,99,99,111,117,110,116]⟩ a:=⟨_,rfl⟩;have s2:l2.size≤60:=by
  rw[UN];unfold jI;simp only[ByteArray.size_append];have h1:(⟨#[97,99,99,111,117,110,116]⟩:ByteArray).size≤10:=by decide
  skip
  have h3:(⟨#[35,83,66,65,84,67,72,32,45,45]⟩:ByteArray).size=10:=rfl;have h4:(⟨#[61]⟩:ByteArray).size=1:=rfl;have h5:(⟨#[10]⟩:ByteArray).size=1:=rfl;omega
 rw[←UN]at C2;have C3:=ah.mk fun W=>kM (w:=W) ⟨#[112,97,114,116,105,116,105,111,110]⟩ aP (by decide) (by decide);obtain⟨l3,UO⟩:∃l,l=jI ⟨#[112,97,114,116,105,116,105,111,110]⟩ aP:=⟨_,rfl⟩;have s3:l3.size≤60:=by
  rw[UO];unfold jI;simp only[ByteArray.size_append];have h1:(⟨#[112,97,114,116,105,116,105,111,110]⟩:ByteArray).size≤10:=by decide
  have h2:aP.size≤5:=by decide
  have h3:(⟨#[35,83,66,65,84,67,72,32,45,45]⟩:ByteArray).size=10:=rfl;have h4:(⟨#[61]⟩:ByteArray).size=1:=rfl;have h5:(⟨#[10]⟩:ByteArray).size=1:=rfl;omega
 rw[←UO]at C3;have C4:=ah.mk fun W=>kM (w:=W) ⟨#[113,111,115]⟩ q (by decide) (by omega);obtain⟨l4,UQ⟩:∃l,l=jI ⟨#[113,111,115]⟩ q:=⟨_,rfl⟩;have s4:l4.size≤60:=by
  rw[UQ];unfold jI;simp only[ByteArray.size_append];have h1:(⟨#[113,111,115]⟩:ByteArray).size≤10:=by decide
  skip
  have h3:(⟨#[35,83,66,65,84,67,72,32,45,45]⟩:ByteArray).size=10:=rfl;have h4:(⟨#[61]⟩:ByteArray).size=1:=rfl;have h5:(⟨#[10]⟩:ByteArray).size=1:=rfl;omega
 rw[←UQ]at C4;have C5:=ah.mk fun W=>kM (w:=W) ⟨#[115,105,122,101]⟩ (dI sz) (by decide) (by omega);obtain⟨l5,UR⟩:∃l,l=jI ⟨#[115,105,122,101]⟩ (dI sz):=⟨_,rfl⟩;have s5:l5.size≤60:=by
  rw[UR];unfold jI;simp only[ByteArray.size_append];have h1:(⟨#[115,105,122,101]⟩:ByteArray).size≤10:=by decide
  skip
  have h3:(⟨#[35,83,66,65,84,67,72,32,45,45]⟩:ByteArray).size=10:=rfl;have h4:(⟨#[61]⟩:ByteArray).size=1:=rfl;have h5:(⟨#[10]⟩:ByteArray).size=1:=rfl;omega
 rw[←UR]at C5;have C6:=ah.mk fun W=>kM (w:=W) ⟨#[116,105,109,101]⟩ (Ig lim) (by decide) (by omega);obtain⟨l6,UU⟩:∃l,l=jI ⟨#[116,105,109,101]⟩ (Ig lim):=⟨_,rfl⟩;have s6:l6.size≤60:=by
  rw[UU];unfold jI;simp only[ByteArray.size_append];have h1:(⟨#[116,105,109,101]⟩:ByteArray).size≤10:=by decide
  skip
  have h3:(⟨#[35,83,66,65,84,67,72,32,45,45]⟩:ByteArray).size=10:=rfl;have h4:(⟨#[61]⟩:ByteArray).size=1:=rfl;have h5:(⟨#[10]⟩:ByteArray).size=1:=rfl;omega
 rw[←UU]at C6;have HF:ah (∀Yj,rq=Yj→((((((⟨#[35,33,106,111,98,10]⟩++l1)++l2)++l3)++l4)++l5)++l6)++(if Yj then lb [35,83,66,65,84,67,72,32,45,45,114,101,113,117,101,117,101,10]else lb [])=lb (dV a.data.toList q.data.toList sz lim Yj)):=⟨fun Yj h=>by
  rw[Ew,UN,UO,UQ,UR,UU];exact FIN.out Yj h⟩
 have z1:¬9223372036854775807<6+l1.size:=by omega
 have z2:¬9223372036854775807<6+l1.size+l2.size:=by omega
 have z3:¬9223372036854775807<6+l1.size+l2.size+l3.size:=by omega
 have z4:¬9223372036854775807<6+l1.size+l2.size+l3.size+l4.size:=by omega
 have z5:¬9223372036854775807<6+l1.size+l2.size+l3.size+l4.size+l5.size:=by omega
 have z6:¬9223372036854775807<6+l1.size+l2.size+l3.size+l4.size+l5.size+l6.size:=by omega
 have z9:¬(4096:Int)<6+l1.size+l2.size+l3.size+l4.size+l5.size+l6.size+18:=by omega
 have z7:¬9223372036854775807<6+l1.size+l2.size+l3.size+l4.size+l5.size+l6.size+18:=by omega
 have z8:¬(4096:Int)<6+l1.size+l2.size+l3.size+l4.size+l5.size+l6.size:=by omega
 have C0:ah (∀W,Below (w.alloc (.cells (Spec.cells ⟨a,q,sz,lim,rq⟩) 51)).heap.size (w.alloc (.cells (Spec.cells ⟨a,q,sz,lim,rq⟩) 51)) W→(W.cell? ⟨w.heap.size,0,none⟩=some (.string jT)∧W.cell? ⟨w.heap.size,1,none⟩=some (.string a)∧W.cell? ⟨w.heap.size,2,none⟩=some (.string aP)∧W.cell? ⟨w.heap.size,3,none⟩=some (.string q)∧W.cell? ⟨w.heap.size,4,none⟩=some (.int .i64 (sz:Int))∧True)∧W.cell? ⟨w.heap.size,5,none⟩=some (.int .i64 (lim:Int))∧W.cell? ⟨w.heap.size,6,none⟩=some (.slice none 0 0)∧W.cell? ⟨w.heap.size,9,none⟩=some (.slice none 0 0)∧W.cell? ⟨w.heap.size,10,none⟩=some (.int .i64 0)∧W.cell? ⟨w.heap.size,11,none⟩=some (.int .i64 0)∧W.cell? ⟨w.heap.size,12,none⟩=some (.bool false)∧W.cell? ⟨w.heap.size,13,none⟩=some (.bool rq)∧W.cell? ⟨w.heap.size,14,none⟩=some (.string ⟨#[]⟩)):=⟨fun W h=>by
  refine⟨⟨?_,?_,?_,?_,?_,trivial⟩,?_,?_,?_,?_,?_,?_,?_,?_⟩;all_goals exact ak h (by rw[aj (heap_alloc_new w _)];rfl)⟩
 have BW:=ah.mk (au (Below.refl w.heap.size w) (.cells (Spec.cells ⟨a,q,sz,lim,rq⟩) 51));have R1:ah ((w.alloc (.cells (Spec.cells ⟨a,q,sz,lim,rq⟩) 51)).rangeAt w.heap.size 0 (Spec.cells ⟨a,q,sz,lim,rq⟩).toList):=⟨aX (heap_alloc_new w _) 0 _ fun i v h=>by rw[Nat.zero_add];simpa using h⟩;have HO:=ah.mk hone;clear hone Iy Iz hz1 hz2 hl1 hl2 FIN dz tz az qz Ew UN UO UQ UR UU s1 s2 s3 s4 s5 s6;go_enter Tryz.func53,Tryz.ntmps53;go_wp2_with (first|(refine aB w.heap.size rfl rfl 51 (.tmp 1) (.tmp 0) rfl _ rfl rfl 51 _ PK rfl HO.out ?_)|(refine aJ rfl 51 (.tmp 1) rfl w.heap.size 0 rfl (Spec.cells ⟨a,q,sz,lim,rq⟩) _ R1.out Tryz.underlying51 rfl PK ?_)|(go_at_call 90;refine CK.out.mono ?_;rintro e w2 ⟨rfl,hb⟩;have H2:=ah.mk hb;clear hb;refine ah.out ?_))
 obtain⟨_,c5,_⟩:=C0.out _ H2.out;clear CK R1 HO;refine ah.mk ?_;go_wp2_with (go_at_call 91;refine(TC.out _).mono ?_;rintro e w3 ⟨rfl,hb⟩;have H3:=ah.mk (ay H2.out H2.out.size hb);clear hb;refine ah.out ?_)
 clear c5 TC H2;refine ah.mk ?_;go_wp2_with fail
 have H4:=ah.mk (aC H3.out 1);have HG:w3.drew.cell? ⟨w.heap.size,0,none⟩=some (.string jT)∧w3.drew.cell? ⟨w.heap.size,1,none⟩=some (.string a)∧w3.drew.cell? ⟨w.heap.size,2,none⟩=some (.string aP)∧w3.drew.cell? ⟨w.heap.size,3,none⟩=some (.string q)∧w3.drew.cell? ⟨w.heap.size,4,none⟩=some (.int .i64 (sz:Int))∧True:=(C0.out _ H4.out).1;refine aK (fun W=>W.cell? ⟨w.heap.size,0,none⟩=some (.string jT)∧W.cell? ⟨w.heap.size,1,none⟩=some (.string a)∧W.cell? ⟨w.heap.size,2,none⟩=some (.string aP)∧W.cell? ⟨w.heap.size,3,none⟩=some (.string q)∧W.cell? ⟨w.heap.size,4,none⟩=some (.int .i64 (sz:Int))∧True) 24 (by kernel_rfl) (by kernel_rfl) ?_;refine aZ 0 HG ?_;refine aZ 1 HG ?_;refine aZ 4 HG ?_;refine aZ 5 HG ?_;refine aZ 8 HG ?_;refine aZ 9 HG ?_;refine aZ 12 HG ?_;refine aZ 13 HG ?_;refine aZ 16 HG ?_;refine aZ 17 HG ?_;refine aZ 21 HG ?_;refine aS (k:=2) rfl (by kernel_rfl) (by kernel_rfl) (fun K hK=>?_);rw[if_pos (by rfl)];go_simp;go_at_call 92;refine(C1.out _).mono ?_;rintro e w' ⟨rfl,hw⟩;obtain rfl:=hw.symm;refine hK _ _ HG ?_;clear hK K hw;try simp only[Act.put,List.getElem_toArray,List.getElem_cons_zero,List.getElem_cons_succ,List.setIfInBounds_toArray,List.set_cons_zero,List.set_cons_succ]
 refine aZ 3 HG ?_;refine aS (k:=6) rfl (by kernel_rfl) (by kernel_rfl) (fun K hK=>?_);rw[if_pos (by rfl)];go_simp;go_at_call 92;refine(C2.out _).mono ?_;rintro e w' ⟨rfl,hw⟩;obtain rfl:=hw.symm;refine hK _ _ HG ?_;clear hK K hw;try simp only[Act.put,List.getElem_toArray,List.getElem_cons_zero,List.getElem_cons_succ,List.setIfInBounds_toArray,List.set_cons_zero,List.set_cons_succ]
 refine aZ 7 HG ?_;refine aS (k:=10) rfl (by kernel_rfl) (by kernel_rfl) (fun K hK=>?_);rw[if_pos (by rfl)];go_simp;go_at_call 92;refine(C3.out _).mono ?_;rintro e w' ⟨rfl,hw⟩;obtain rfl:=hw.symm;refine hK _ _ HG ?_;clear hK K hw;try simp only[Act.put,List.getElem_toArray,List.getElem_cons_zero,List.getElem_cons_succ,List.setIfInBounds_toArray,List.set_cons_zero,List.set_cons_succ]
 refine aZ 11 HG ?_;refine aS (k:=14) rfl (by kernel_rfl) (by kernel_rfl) (fun K hK=>?_);rw[if_pos (by rfl)];go_simp;go_at_call 92;refine(C4.out _).mono ?_;rintro e w' ⟨rfl,hw⟩;obtain rfl:=hw.symm;refine hK _ _ HG ?_;clear hK K hw;try simp only[Act.put,List.getElem_toArray,List.getElem_cons_zero,List.getElem_cons_succ,List.setIfInBounds_toArray,List.set_cons_zero,List.set_cons_succ]
 refine aZ 15 HG ?_;refine aS (k:=18) rfl (by kernel_rfl) (by kernel_rfl) (fun K hK=>?_);rw[if_pos (by rfl)];go_simp;go_at_call 20;refine(DC.out _).mono ?_;rintro e w5 ⟨rfl,hb⟩;have H5:=ah.mk (ay H4.out H4.out.size hb);have HG:w5.cell? ⟨w.heap.size,0,none⟩=some (.string jT)∧w5.cell? ⟨w.heap.size,1,none⟩=some (.string a)∧w5.cell? ⟨w.heap.size,2,none⟩=some (.string aP)∧w5.cell? ⟨w.heap.size,3,none⟩=some (.string q)∧w5.cell? ⟨w.heap.size,4,none⟩=some (.int .i64 (sz:Int))∧True:=(C0.out _ H5.out).1;refine hK _ _ HG ?_;clear hK K hb;try simp only[Act.put,List.getElem_toArray,List.getElem_cons_zero,List.getElem_cons_succ,List.setIfInBounds_toArray,List.set_cons_zero,List.set_cons_succ]
 refine aS (k:=19) rfl (by kernel_rfl) (by kernel_rfl) (fun K hK=>?_);rw[if_pos (by rfl)];go_simp;go_at_call 92;refine(C5.out _).mono ?_;rintro e w' ⟨rfl,hw⟩;obtain rfl:=hw.symm;refine hK _ _ HG ?_;clear hK K hw;try simp only[Act.put,List.getElem_toArray,List.getElem_cons_zero,List.getElem_cons_succ,List.setIfInBounds_toArray,List.set_cons_zero,List.set_cons_succ]
 refine aZ 20 HG ?_;refine aS (k:=22) rfl (by kernel_rfl) (by kernel_rfl) (fun K hK=>?_);rw[if_pos (by rfl)];go_simp;go_at_call 92;refine(C6.out _).mono ?_;rintro e w' ⟨rfl,hw⟩;obtain rfl:=hw.symm;refine hK _ _ HG ?_;clear hK K hw;try simp only[Act.put,List.getElem_toArray,List.getElem_cons_zero,List.getElem_cons_succ,List.setIfInBounds_toArray,List.set_cons_zero,List.set_cons_succ]
 refine aZ 23 HG ?_;refine aQ (by kernel_rfl) ?_;simp only[List.drop_succ_cons,List.drop_zero];clear HG;obtain⟨_,_,d6,d9,d10,d11,d12,d13,d14⟩:=C0.out _ H5.out;have HB:=ah.mk (ay BW.out (by simp) H5.out);clear H3 H4 H5 C0 BW C1 C2 C3 C4 C5 C6 DC;have app0:ah (∀z:ByteArray,z++(⟨#[]⟩:ByteArray)=z):=⟨fun z=>by apply ByteArray.ext;simp⟩;cases rq with
 |false =>
  go_wp2_with fail
  first|go_ret2|go_ret|skip
  rw[←HQ.out];exact⟨congrArg (fun z=>Ending.returned (.tuple #[.string z,.int .i64 0])) (HF.out false rfl),HB.out⟩
 |true =>
  go_wp2_with fail
  first|go_ret2|go_ret|skip
  rw[←HQ.out];exact⟨congrArg (fun z=>Ending.returned (.tuple #[.string z,.int .i64 0])) ((app0.out _).trans (HF.out true rfl)),HB.out⟩
end
end
section
open Go.RowKit Go.ChangeMaps
def moveSpec (sz lim:Int)(ac hi rq:Bool):Spec:=⟨if ac then bQ else aV,if hi then dX else bK,1+cu sz 8,1+cu lim 20,rq⟩
theorem jm (sz lim:Int)(ac hi rq:Bool):(moveSpec sz lim ac hi rq).ok:=by
 have h1:=dh sz (n:=8) (by decide);have h2:=dh lim (n:=20) (by decide);refine⟨?_,?_,?_,?_,?_,?_⟩
 ·cases ac<;>simp[moveSpec]
 ·cases hi<;>simp[moveSpec]
 all_goals simp only[moveSpec];omega
section
variable {w:World}
set_option maxRecDepth 1000000 in
theorem oM (sz lim:Int)(ac hi rq:Bool):Calls Tryz.prog 17 #[.agg #[.int .i64 sz,.int .i64 lim,.bool ac,.bool hi,.bool rq]] w fun e w'=>e=.returned (.string (lb (dV (moveSpec sz lim ac hi rq).account.data.toList (moveSpec sz lim ac hi rq).qos.data.toList (moveSpec sz lim ac hi rq).size (moveSpec sz lim ac hi rq).limit rq)))∧Below w.heap.size w w':=by
 refine named fun R HQ=>?_;have LP:=fun W=>Eu (w:=W) (moveSpec sz lim ac hi rq) (jm sz lim ac hi rq);have M1:=ah.mk fun W=>cZ (w:=W) sz 8 (by decide) (by decide);have M2:=ah.mk fun W=>cZ (w:=W) lim 20 (by decide) (by decide);have b1:=dh sz (n:=8) (by decide);have b2:=dh lim (n:=20) (by decide);have k1:wrap64 (1+(cu sz 8:Int))=1+(cu sz 8:Int):=wrap_in (by omega) (by omega);have k2:wrap64 (1+(cu lim 20:Int))=1+(cu lim 20:Int):=wrap_in (by omega) (by omega);have k1w:IntKind.i64.wrap (1+(cu sz 8:Int))=1+(cu sz 8:Int):=(eu _).trans k1;have k2w:IntKind.i64.wrap (1+(cu lim 20:Int))=1+(cu lim 20:Int):=(eu _).trans k2;have C0:ah (∀W,Below (w.alloc (.cells #[.int .i64 sz,.int .i64 lim,.bool ac,.bool hi,.bool rq] 38)).heap.size (w.alloc (.cells #[.int .i64 sz,.int .i64 lim,.bool ac,.bool hi,.bool rq] 38)) W→W.cell? ⟨w.heap.size,0,none⟩=some (.int .i64 sz)∧W.cell? ⟨w.heap.size,1,none⟩=some (.int .i64 lim)∧W.cell? ⟨w.heap.size,2,none⟩=some (.bool ac)∧W.cell? ⟨w.heap.size,3,none⟩=some (.bool hi)∧W.cell? ⟨w.heap.size,4,none⟩=some (.bool rq)∧True):=⟨fun W h=>by
  refine⟨?_,?_,?_,?_,?_,trivial⟩;all_goals exact ak h (by rw[aj (heap_alloc_new w _)];rfl)⟩
 have BW:=ah.mk (au (Below.refl w.heap.size w) (.cells #[.int .i64 sz,.int .i64 lim,.bool ac,.bool hi,.bool rq] 38));have BD:=ah.mk (aC (Below.refl (w.alloc (.cells #[.int .i64 sz,.int .i64 lim,.bool ac,.bool hi,.bool rq] 38)).heap.size (w.alloc (.cells #[.int .i64 sz,.int .i64 lim,.bool ac,.bool hi,.bool rq] 38))) 1);obtain⟨T,hT⟩:∃T,T=lb (dV (moveSpec sz lim ac hi rq).account.data.toList (moveSpec sz lim ac hi rq).qos.data.toList (moveSpec sz lim ac hi rq).size (moveSpec sz lim ac hi rq).limit rq):=⟨_,rfl⟩;rw[show(moveSpec sz lim ac hi rq).gX=rq from rfl,←hT]at LP;have HT:=ah.mk hT;clear hT b1 b2;obtain⟨z1,hz1⟩:∃z,z=cu sz 8:=⟨_,rfl⟩;obtain⟨z2,hz2⟩:∃z,z=cu lim 20:=⟨_,rfl⟩;unfold moveSpec Spec.cells at LP;simp only at LP;rw[←hz1,←hz2]at LP;rw[←hz1]at M1 k1 k1w;rw[←hz2]at M2 k2 k2w;rw[show((1+z1:Nat):Int)=1+(z1:Int) by omega,show((1+z2:Nat):Int)=1+(z2:Int) by omega]at LP;have Xa:=ah.mk LP;clear hz1 hz2 LP;go_enter Tryz.func17,Tryz.ntmps17;go_wp2_with fail
 have HG:=C0.out _ BD.out;have HD:=ah.mk (C0.out _ (au BD.out (.cells qA 51)));refine aK (fun W=>W.cell? ⟨w.heap.size,0,none⟩=some (.int .i64 sz)∧W.cell? ⟨w.heap.size,1,none⟩=some (.int .i64 lim)∧W.cell? ⟨w.heap.size,2,none⟩=some (.bool ac)∧W.cell? ⟨w.heap.size,3,none⟩=some (.bool hi)∧W.cell? ⟨w.heap.size,4,none⟩=some (.bool rq)∧True) 12 (by kernel_rfl) (by kernel_rfl) ?_;refine aZ 0 HG ?_;refine aZ 1 HG ?_;refine aZ 4 HG ?_;refine aZ 5 HG ?_;refine aZ 8 HG ?_;refine aZ 9 HG ?_;refine kJ (k:=2) (k2:=11) rfl rfl (by kernel_rfl) (by kernel_rfl) (by kernel_rfl) (fun K hK=>?_) (fun K hK=>?_)
 ·rw[if_pos (by rfl)];go_simp;go_at_call 7;refine(M1.out _).mono ?_;rintro e w' ⟨rfl,hw⟩;obtain rfl:=hw.symm;refine hK _ _ HG ?_;clear hK K hw;try simp only[Act.put,List.getElem_toArray,List.getElem_cons_zero,List.getElem_cons_succ,List.setIfInBounds_toArray,List.set_cons_zero,List.set_cons_succ]
  refine aZ 3 HG ?_;refine kJ (k:=6) (k2:=11) rfl rfl (by kernel_rfl) (by kernel_rfl) (by kernel_rfl) (fun K hK=>?_) (fun K hK=>?_)
  ·rw[if_pos (by rfl)];go_simp;go_at_call 7;refine(M2.out _).mono ?_;rintro e w' ⟨rfl,hw⟩;obtain rfl:=hw.symm;refine hK _ _ HG ?_;clear hK K hw;try simp only[Act.put,List.getElem_toArray,List.getElem_cons_zero,List.getElem_cons_succ,List.setIfInBounds_toArray,List.set_cons_zero,List.set_cons_succ]
   refine aZ 7 HG ?_;refine aZ 10 HG ?_;refine aS (k:=11) rfl (by kernel_rfl) (by kernel_rfl) (fun K hK=>?_);rw[if_pos (by rfl)];go_simp;refine hK _ _ HD.out ?_;clear hK K HG;have HG:=HD.out;try simp only[Act.put,List.getElem_toArray,List.getElem_cons_zero,List.getElem_cons_succ,List.setIfInBounds_toArray,List.set_cons_zero,List.set_cons_succ]
   refine aQ (by kernel_rfl) ?_;simp only[List.drop_succ_cons,List.drop_zero];obtain⟨_,_,d2,d3,d4,_⟩:=HD.out;clear HG;cases ac<;>cases hi;all_goals
    have LP:=Xa.out;simp only[Bool.false_eq_true,if_false,if_true]at LP;have Cb:=ah.mk LP;clear LP Xa;unfold jT aP bY at Cb;try unfold bQ at Cb
    try unfold aV at Cb
    try unfold dX at Cb
    try unfold bK at Cb
    go_wp2_with (go_at_call 53;refine ah.out ?_)
    refine ah.mk ?_;refine(Cb.out _).mono ?_;rintro e w5 ⟨rfl,hb⟩;have H5:=ah.mk (ay (au BD.out _) (by simp) hb);clear hb;go_wp2_with fail
    first|go_ret2|go_ret|skip
    rw[←HQ.out,←HT.out];exact⟨rfl,ay BW.out (by simp) H5.out⟩
  ·rw[if_pos (by rfl)];go_simp;refine hK _ _ HD.out ?_;clear hK K HG;have HG:=HD.out;try simp only[Act.put,List.getElem_toArray,List.getElem_cons_zero,List.getElem_cons_succ,List.setIfInBounds_toArray,List.set_cons_zero,List.set_cons_succ]
   refine aS (k:=6) rfl (by kernel_rfl) (by kernel_rfl) (fun K hK=>?_);rw[if_pos (by rfl)];go_simp;go_at_call 7;refine(M2.out _).mono ?_;rintro e w' ⟨rfl,hw⟩;obtain rfl:=hw.symm;refine hK _ _ HG ?_;clear hK K hw;try simp only[Act.put,List.getElem_toArray,List.getElem_cons_zero,List.getElem_cons_succ,List.setIfInBounds_toArray,List.set_cons_zero,List.set_cons_succ]
   refine aZ 7 HG ?_;refine aZ 10 HG ?_;refine aQ (by kernel_rfl) ?_;simp only[List.drop_succ_cons,List.drop_zero];obtain⟨_,_,d2,d3,d4,_⟩:=HD.out;clear HG;cases ac<;>cases hi;all_goals
    have LP:=Xa.out;simp only[Bool.false_eq_true,if_false,if_true]at LP;have Cb:=ah.mk LP;clear LP Xa;unfold jT aP bY at Cb;try unfold bQ at Cb
    try unfold aV at Cb
    try unfold dX at Cb
    try unfold bK at Cb
    go_wp2_with (go_at_call 53;refine ah.out ?_)
    refine ah.mk ?_;refine(Cb.out _).mono ?_;rintro e w5 ⟨rfl,hb⟩;have H5:=ah.mk (ay (au BD.out _) (by simp) hb);clear hb;go_wp2_with fail
    first|go_ret2|go_ret|skip
    rw[←HQ.out,←HT.out];exact⟨rfl,ay BW.out (by simp) H5.out⟩
 ·rw[if_pos (by rfl)];go_simp;refine hK _ _ HD.out ?_;clear hK K HG;have HG:=HD.out;try simp only[Act.put,List.getElem_toArray,List.getElem_cons_zero,List.getElem_cons_succ,List.setIfInBounds_toArray,List.set_cons_zero,List.set_cons_succ]
  refine aS (k:=2) rfl (by kernel_rfl) (by kernel_rfl) (fun K hK=>?_);rw[if_pos (by rfl)];go_simp;go_at_call 7;refine(M1.out _).mono ?_;rintro e w' ⟨rfl,hw⟩;obtain rfl:=hw.symm;refine hK _ _ HG ?_;clear hK K hw;try simp only[Act.put,List.getElem_toArray,List.getElem_cons_zero,List.getElem_cons_succ,List.setIfInBounds_toArray,List.set_cons_zero,List.set_cons_succ]
  refine aZ 3 HG ?_;refine aS (k:=6) rfl (by kernel_rfl) (by kernel_rfl) (fun K hK=>?_);rw[if_pos (by rfl)];go_simp;go_at_call 7;refine(M2.out _).mono ?_;rintro e w' ⟨rfl,hw⟩;obtain rfl:=hw.symm;refine hK _ _ HG ?_;clear hK K hw;try simp only[Act.put,List.getElem_toArray,List.getElem_cons_zero,List.getElem_cons_succ,List.setIfInBounds_toArray,List.set_cons_zero,List.set_cons_succ]
  refine aZ 7 HG ?_;refine aZ 10 HG ?_;refine aQ (by kernel_rfl) ?_;simp only[List.drop_succ_cons,List.drop_zero];obtain⟨_,_,d2,d3,d4,_⟩:=HD.out;clear HG;cases ac<;>cases hi;all_goals
   have LP:=Xa.out;simp only[Bool.false_eq_true,if_false,if_true]at LP;have Cb:=ah.mk LP;clear LP Xa;unfold jT aP bY at Cb;try unfold bQ at Cb
   try unfold aV at Cb
   try unfold dX at Cb
   try unfold bK at Cb
   go_wp2_with (go_at_call 53;refine ah.out ?_)
   refine ah.mk ?_;refine(Cb.out _).mono ?_;rintro e w5 ⟨rfl,hb⟩;have H5:=ah.mk (ay (au BD.out _) (by simp) hb);clear hb;go_wp2_with fail
   first|go_ret2|go_ret|skip
   rw[←HQ.out,←HT.out];exact⟨rfl,ay BW.out (by simp) H5.out⟩
end
end
end Go.Proofs.YtandhagfhppgaaaGreatDoor
