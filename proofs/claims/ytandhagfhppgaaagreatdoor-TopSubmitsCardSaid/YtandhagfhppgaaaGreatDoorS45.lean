/- Part 45 of a proof: contracts of the functions that the law reaches. No condition. -/
import Derived.Test.YtandhagfhppgaaaGreatDoorS9
import Derived.Test.YtandhagfhppgaaaGreatDoorS25
import Derived.Test.YtandhagfhppgaaaGreatDoorS26
import Derived.Test.YtandhagfhppgaaaGreatDoorS27
import Derived.Test.YtandhagfhppgaaaGreatDoorS28
import Derived.Test.YtandhagfhppgaaaGreatDoorS35
import Derived.Test.YtandhagfhppgaaaGreatDoorS38
set_option linter.all false
set_option maxRecDepth 100000
set_option maxHeartbeats 16000000
namespace Go.Proofs.YtandhagfhppgaaaGreatDoor
section
open Go.RowKit Go.ChangeMaps
def jy (key value:ByteArray):ByteArray:=⟨#[35,83,66,65,84,67,72,32,45,45]⟩++key++⟨#[61]⟩++value++⟨#[10]⟩
section
variable {w:World}
set_option maxRecDepth 1000000 in
theorem jZ (key value:ByteArray)(hk:key.size≤1000)(hv:value.size≤1000):Calls Tryz.prog 92 #[.string key,.string value] w fun e w'=>e=.returned (.string (jy key value))∧w'=w:=by
 refine named fun R HQ=>?_;have h1:¬9223372036854775807<10+key.size:=by omega
 have h2:¬9223372036854775807<10+key.size+1:=by omega
 have h3:¬9223372036854775807<10+key.size+1+value.size:=by omega
 have h4:¬9223372036854775807<10+key.size+1+value.size+1:=by omega
 go_enter Tryz.func92,Tryz.ntmps92;go_wp2_with fail
 first|go_ret2|go_ret|skip
 rw[←HQ.out];exact⟨rfl,rfl⟩
def dD (n:Nat):ByteArray:=if n<10 then⟨#[UInt8.ofNat (48+n)]⟩else⟨#[UInt8.ofNat (48+n/10),UInt8.ofNat (48+n%10)]⟩
theorem tX {W:World}{b:Nat}{q:Int}(h:W.cell? ⟨b,0,none⟩=some (.int .u8 q)):(convert 118 9 (.slice (some ⟨b,0,none⟩) 1 1)).run Tryz.prog W=.ok (.string (strOfNums [q])) W :=
 run_convert_bytes_arg _ 118 5 Tryz.underlying118 Tryz.underlying5 b 0 1 1 [q] rfl (fun i hi=>by
  rcases(by omega:i=0)with rfl;exact h) 9 Tryz.underlying9
theorem yC (W:World)(q:Int):(convert 118 9 (.slice (some ⟨W.heap.size,0,none⟩) 1 1)).run Tryz.prog (W.alloc (.cells #[.int .u8 q] 5))=.ok (.string (strOfNums [q])) (W.alloc (.cells #[.int .u8 q] 5)):=
 tX (by rw[aj (heap_alloc_new W _)];rfl)
theorem Dq (n:Nat):strOfNums [48+(n:Int)]=⟨#[UInt8.ofNat (48+n)]⟩:=by
 unfold strOfNums;rw[List.map_cons,List.map_nil,show(48+(n:Int)).toNat=48+n by omega]
theorem yD (n:Nat)(h:n<10):IntKind.u8.wrap (48+(n:Int))=48+(n:Int):=by
 unfold IntKind.wrap;simp[IntKind.signed,IntKind.bits];omega
set_option maxRecDepth 1000000 in
theorem qh (n:Nat)(hn:n<10):Calls Tryz.prog 20 #[.int .i64 (n:Int)] w fun e w'=>e=.returned (.string (dD n))∧Below w.heap.size w w':=by
 refine named fun R HQ=>?_;have h1:(n:Int)<10:=by omega
 have h2:wrap64 (48+(n:Int))=48+(n:Int):=wrap_in (by omega) (by omega);have h3:=yD n hn;have hcv:=yC;go_enter Tryz.func20,Tryz.ntmps20;go_wp2_with fail
 first|go_ret2|go_ret|skip
 rw[←HQ.out];refine⟨?_,au (Below.refl _ _) _⟩;unfold dD;rw[if_pos hn,←Dq];rfl
set_option maxRecDepth 1000000 in
theorem bG (n:Nat)(hn:n<100):Calls Tryz.prog 20 #[.int .i64 (n:Int)] w fun e w'=>e=.returned (.string (dD n))∧Below w.heap.size w w':=by
 by_cases h10:n<10
 ·exact qh n h10
 refine named fun R HQ=>?_;have DC:=ah.mk fun W=>qh (w:=W) (n/10) (by omega);rw[show((n/10:Nat):Int)=(n:Int)/10 by omega]at DC;have h1:¬(n:Int)<10:=by omega
 have h4:Int.tdiv (n:Int) 10=(n:Int)/10:=Int.tdiv_eq_ediv_of_nonneg (by omega);have h5:Int.tmod (n:Int) 10=(n:Int)%10:=Int.tmod_eq_emod_of_nonneg (by omega);have h6:wrap64 ((n:Int)/10)=(n:Int)/10:=wrap_in (by omega) (by omega);have h7:wrap64 ((n:Int)%10)=(n:Int)%10:=wrap_in (by omega) (by omega);have h2:wrap64 (48+(n:Int)%10)=48+(n:Int)%10:=wrap_in (by omega) (by omega);have h6':IntKind.i64.wrap ((n:Int)/10)=(n:Int)/10:=(kV _).trans h6;have h2':IntKind.i64.wrap (48+(n:Int)%10)=48+(n:Int)%10:=(kV _).trans h2;have h3:=yD (n%10) (by omega);rw[show((n%10:Nat):Int)=(n:Int)%10 by omega]at h3;have hW:((w.alloc (.cells #[.int .u8 (48+(n:Int)%10)] 5)).drew).cell? ⟨w.heap.size,0,none⟩=some (.int .u8 (48+(n:Int)%10)):=by
  show(w.alloc (.cells #[.int .u8 (48+(n:Int)%10)] 5)).cell? ⟨w.heap.size,0,none⟩=_
  rw[aj (heap_alloc_new w _)];rfl
 have hcv:=tX hW;have HW:=ah.mk hW;clear hW;have hcv2:=yC;have BD:Below w.heap.size w w.drew:=aC (Below.refl _ _) 1;have HG:True∧True:=⟨trivial,trivial⟩;have FIN:ah (dD (n/10)++strOfNums [48+(n:Int)%10]=dD n):=⟨by
  rw[show(48+(n:Int)%10)=48+((n%10:Nat):Int) by omega,Dq];unfold dD;rw[if_pos (by omega),if_neg (by omega)];rfl⟩
 have hsz:¬9223372036854775807<(dD (n/10)).size+(strOfNums [48+(n:Int)%10]).size:=by
  unfold dD;rw[if_pos (by omega),strOfNums_size,show(⟨#[UInt8.ofNat (48+n/10)]⟩:ByteArray).size=1 from rfl];simp
 go_enter Tryz.func20,Tryz.ntmps20;go_wp2_with fail
 refine aK (fun W=>True∧True) 9 (by kernel_rfl) (by kernel_rfl) ?_;refine bg 0 HG ?_;refine bg 1 HG ?_;refine bg 3 HG ?_;refine bg 4 HG ?_;refine bg 5 HG ?_;refine bg 6 HG ?_;refine ji (k:=2) (k2:=7) rfl rfl (by kernel_rfl) (by kernel_rfl) (by kernel_rfl) (fun K hK=>?_) (fun K hK=>?_)
 ·rw[if_pos (by rfl)];go_simp;go_at_call 20;refine(DC.out _).mono ?_;rintro e w2 ⟨rfl,hb⟩;refine hK _ _ ⟨trivial,trivial⟩ ?_;clear hK K;try simp only[Act.put,List.getElem_toArray,List.getElem_cons_zero,List.getElem_cons_succ,List.setIfInBounds_toArray,List.set_cons_zero,List.set_cons_succ]
  refine aP (k:=7) rfl (by kernel_rfl) (by kernel_rfl) (fun K hK=>?_);rw[if_pos (by rfl)];go_simp;refine hK _ _ ⟨trivial,trivial⟩ ?_;clear hK K;try simp only[Act.put,List.getElem_toArray,List.getElem_cons_zero,List.getElem_cons_succ,List.setIfInBounds_toArray,List.set_cons_zero,List.set_cons_succ]
  refine aP (k:=8) rfl (by kernel_rfl) (by kernel_rfl) (fun K hK=>?_);rw[if_pos (by rfl)];go_simp;refine hK _ _ ⟨trivial,trivial⟩ ?_;clear hK K;try simp only[Act.put,List.getElem_toArray,List.getElem_cons_zero,List.getElem_cons_succ,List.setIfInBounds_toArray,List.set_cons_zero,List.set_cons_succ]
  refine aO (by kernel_rfl) ?_;simp only[List.drop_succ_cons,List.drop_zero];go_wp2_with fail
  first|go_ret2|go_ret|skip
  rw[←HQ.out];refine⟨?_,au (ay BD (Nat.le_refl _) hb) _⟩;rw[←FIN.out];rfl
 ·rw[if_pos (by rfl)];go_simp;refine hK _ _ ⟨trivial,trivial⟩ ?_;clear hK K;try simp only[Act.put,List.getElem_toArray,List.getElem_cons_zero,List.getElem_cons_succ,List.setIfInBounds_toArray,List.set_cons_zero,List.set_cons_succ]
  refine ji (k:=2) (k2:=8) rfl rfl (by kernel_rfl) (by kernel_rfl) (by kernel_rfl) (fun K hK=>?_) (fun K hK=>?_)
  ·rw[if_pos (by rfl)];go_simp;go_at_call 20;refine(DC.out _).mono ?_;rintro e w2 ⟨rfl,hb⟩;have hc8:=tX (W:=w2) (b:=w.heap.size) (ak hb HW.out);refine hK _ _ ⟨trivial,trivial⟩ ?_;clear hK K;try simp only[Act.put,List.getElem_toArray,List.getElem_cons_zero,List.getElem_cons_succ,List.setIfInBounds_toArray,List.set_cons_zero,List.set_cons_succ]
   refine aP (k:=8) rfl (by kernel_rfl) (by kernel_rfl) (fun K hK=>?_);rw[if_pos (by rfl)];go_simp;refine hK _ _ ⟨trivial,trivial⟩ ?_;clear hK K;try simp only[Act.put,List.getElem_toArray,List.getElem_cons_zero,List.getElem_cons_succ,List.setIfInBounds_toArray,List.set_cons_zero,List.set_cons_succ]
   refine aO (by kernel_rfl) ?_;simp only[List.drop_succ_cons,List.drop_zero];go_wp2_with fail
   first|go_ret2|go_ret|skip
   rw[←HQ.out];refine⟨?_,ay (au BD _) (by simp) hb⟩;rw[←FIN.out];rfl
  ·rw[if_pos (by rfl)];go_simp;refine hK _ _ ⟨trivial,trivial⟩ ?_;clear hK K;try simp only[Act.put,List.getElem_toArray,List.getElem_cons_zero,List.getElem_cons_succ,List.setIfInBounds_toArray,List.set_cons_zero,List.set_cons_succ]
   refine aP (k:=2) rfl (by kernel_rfl) (by kernel_rfl) (fun K hK=>?_);rw[if_pos (by rfl)];go_simp;go_at_call 20;refine(DC.out _).mono ?_;rintro e w2 ⟨rfl,hb⟩;refine hK _ _ ⟨trivial,trivial⟩ ?_;clear hK K;try simp only[Act.put,List.getElem_toArray,List.getElem_cons_zero,List.getElem_cons_succ,List.setIfInBounds_toArray,List.set_cons_zero,List.set_cons_succ]
   refine aO (by kernel_rfl) ?_;simp only[List.drop_succ_cons,List.drop_zero];go_wp2_with fail
   first|go_ret2|go_ret|skip
   rw[←HQ.out];refine⟨?_,ay (au BD _) (by simp) hb⟩;rw[←FIN.out];rfl
end
end
section
open Go.RowKit Go.ChangeMaps
def oN (n:Nat):ByteArray:=if n<10 then⟨#[UInt8.ofNat (48+n)]⟩else oN (n/10)++⟨#[UInt8.ofNat (48+n%10)]⟩
termination_by n
decreasing_by omega
theorem wX {n:Nat}(h:n<10):oN n=⟨#[UInt8.ofNat (48+n)]⟩:=by
 rw[oN,if_pos h]
theorem Dt {n:Nat}(h:¬n<10):oN n=oN (n/10)++⟨#[UInt8.ofNat (48+n%10)]⟩:=by
 rw[oN,if_neg h]
theorem uQ (k:Nat):∀n,n<10^(k+1)→(oN n).size≤k+1:=by
 induction k with
 |zero =>
  intro n h;rw[wX (by simpa using h)];exact Nat.le_refl _
 |succ k ih =>
  intro n h;by_cases h10:n<10
  ·rw[wX h10];show 1≤_
   omega
  ·rw[Dt h10,ByteArray.size_append];have:=ih (n/10) (by rw[Nat.pow_succ]at h;omega);show _+1≤_
   omega
theorem Qz {n:Nat}(h:n<100):oN n=dD n:=by
 by_cases h10:n<10
 ·rw[wX h10,dD,if_pos h10]
 ·rw[Dt h10,wX (by omega),dD,if_neg h10];rfl
section
variable {w:World}
set_option maxRecDepth 1000000 in
theorem JH (n:Nat)(hn:n<10000000000000)(h10:¬n<10)(ih:∀W,Calls Tryz.prog 20 #[.int .i64 ((n/10:Nat):Int)] W fun e w'=>e=.returned (.string (oN (n/10)))∧Below W.heap.size W w'):Calls Tryz.prog 20 #[.int .i64 (n:Int)] w fun e w'=>e=.returned (.string (oN n))∧Below w.heap.size w w':=by
 refine named fun R HQ=>?_;have DC:=ah.mk ih;rw[show((n/10:Nat):Int)=(n:Int)/10 by omega]at DC;clear ih;have h1:¬(n:Int)<10:=by omega
 have h4:Int.tdiv (n:Int) 10=(n:Int)/10:=Int.tdiv_eq_ediv_of_nonneg (by omega);have h5:Int.tmod (n:Int) 10=(n:Int)%10:=Int.tmod_eq_emod_of_nonneg (by omega);have h6:wrap64 ((n:Int)/10)=(n:Int)/10:=wrap_in (by omega) (by omega);have h7:wrap64 ((n:Int)%10)=(n:Int)%10:=wrap_in (by omega) (by omega);have h2:wrap64 (48+(n:Int)%10)=48+(n:Int)%10:=wrap_in (by omega) (by omega);have h6':IntKind.i64.wrap ((n:Int)/10)=(n:Int)/10:=(kV _).trans h6;have h2':IntKind.i64.wrap (48+(n:Int)%10)=48+(n:Int)%10:=(kV _).trans h2;have h3:=yD (n%10) (by omega);rw[show((n%10:Nat):Int)=(n:Int)%10 by omega]at h3;have hW:((w.alloc (.cells #[.int .u8 (48+(n:Int)%10)] 5)).drew).cell? ⟨w.heap.size,0,none⟩=some (.int .u8 (48+(n:Int)%10)):=by
  show(w.alloc (.cells #[.int .u8 (48+(n:Int)%10)] 5)).cell? ⟨w.heap.size,0,none⟩=_
  rw[aj (heap_alloc_new w _)];rfl
 have hcv:=tX hW;have HW:=ah.mk hW;clear hW;have hcv2:=yC;have BD:Below w.heap.size w w.drew:=aC (Below.refl _ _) 1;have HG:True∧True:=⟨trivial,trivial⟩;have FIN:ah (oN (n/10)++strOfNums [48+(n:Int)%10]=oN n):=⟨by
  rw[show(48+(n:Int)%10)=48+((n%10:Nat):Int) by omega,Dq,Dt h10]⟩
 have hsz:¬9223372036854775807<(oN (n/10)).size+(strOfNums [48+(n:Int)%10]).size:=by
  have:=uQ 12 (n/10) (by omega);rw[strOfNums_size];simp;omega
 obtain⟨D,hD⟩:∃D,D=oN (n/10):=⟨_,rfl⟩;rw[←hD]at DC FIN hsz;clear hD;go_enter Tryz.func20,Tryz.ntmps20;go_wp2_with fail
 refine aK (fun W=>True∧True) 9 (by kernel_rfl) (by kernel_rfl) ?_;refine bg 0 HG ?_;refine bg 1 HG ?_;refine bg 3 HG ?_;refine bg 4 HG ?_;refine bg 5 HG ?_;refine bg 6 HG ?_;refine ji (k:=2) (k2:=7) rfl rfl (by kernel_rfl) (by kernel_rfl) (by kernel_rfl) (fun K hK=>?_) (fun K hK=>?_)
 ·rw[if_pos (by rfl)];go_simp;go_at_call 20;refine(DC.out _).mono ?_;rintro e w2 ⟨rfl,hb⟩;refine hK _ _ ⟨trivial,trivial⟩ ?_;clear hK K;try simp only[Act.put,List.getElem_toArray,List.getElem_cons_zero,List.getElem_cons_succ,List.setIfInBounds_toArray,List.set_cons_zero,List.set_cons_succ]
  refine aP (k:=7) rfl (by kernel_rfl) (by kernel_rfl) (fun K hK=>?_);rw[if_pos (by rfl)];go_simp;refine hK _ _ ⟨trivial,trivial⟩ ?_;clear hK K;try simp only[Act.put,List.getElem_toArray,List.getElem_cons_zero,List.getElem_cons_succ,List.setIfInBounds_toArray,List.set_cons_zero,List.set_cons_succ]
  refine aP (k:=8) rfl (by kernel_rfl) (by kernel_rfl) (fun K hK=>?_);rw[if_pos (by rfl)];go_simp;refine hK _ _ ⟨trivial,trivial⟩ ?_;clear hK K;try simp only[Act.put,List.getElem_toArray,List.getElem_cons_zero,List.getElem_cons_succ,List.setIfInBounds_toArray,List.set_cons_zero,List.set_cons_succ]
  refine aO (by kernel_rfl) ?_;simp only[List.drop_succ_cons,List.drop_zero];go_wp2_with fail
  first|go_ret2|go_ret|skip
  rw[←HQ.out];refine⟨?_,au (ay BD (Nat.le_refl _) hb) _⟩;rw[←FIN.out];rfl
 ·rw[if_pos (by rfl)];go_simp;refine hK _ _ ⟨trivial,trivial⟩ ?_;clear hK K;try simp only[Act.put,List.getElem_toArray,List.getElem_cons_zero,List.getElem_cons_succ,List.setIfInBounds_toArray,List.set_cons_zero,List.set_cons_succ]
  refine ji (k:=2) (k2:=8) rfl rfl (by kernel_rfl) (by kernel_rfl) (by kernel_rfl) (fun K hK=>?_) (fun K hK=>?_)
  ·rw[if_pos (by rfl)];go_simp;go_at_call 20;refine(DC.out _).mono ?_;rintro e w2 ⟨rfl,hb⟩;have hc8:=tX (W:=w2) (b:=w.heap.size) (ak hb HW.out);refine hK _ _ ⟨trivial,trivial⟩ ?_;clear hK K;try simp only[Act.put,List.getElem_toArray,List.getElem_cons_zero,List.getElem_cons_succ,List.setIfInBounds_toArray,List.set_cons_zero,List.set_cons_succ]
   refine aP (k:=8) rfl (by kernel_rfl) (by kernel_rfl) (fun K hK=>?_);rw[if_pos (by rfl)];go_simp;refine hK _ _ ⟨trivial,trivial⟩ ?_;clear hK K;try simp only[Act.put,List.getElem_toArray,List.getElem_cons_zero,List.getElem_cons_succ,List.setIfInBounds_toArray,List.set_cons_zero,List.set_cons_succ]
   refine aO (by kernel_rfl) ?_;simp only[List.drop_succ_cons,List.drop_zero];go_wp2_with fail
   first|go_ret2|go_ret|skip
   rw[←HQ.out];refine⟨?_,ay (au BD _) (by simp) hb⟩;rw[←FIN.out];rfl
  ·rw[if_pos (by rfl)];go_simp;refine hK _ _ ⟨trivial,trivial⟩ ?_;clear hK K;try simp only[Act.put,List.getElem_toArray,List.getElem_cons_zero,List.getElem_cons_succ,List.setIfInBounds_toArray,List.set_cons_zero,List.set_cons_succ]
   refine aP (k:=2) rfl (by kernel_rfl) (by kernel_rfl) (fun K hK=>?_);rw[if_pos (by rfl)];go_simp;go_at_call 20;refine(DC.out _).mono ?_;rintro e w2 ⟨rfl,hb⟩;refine hK _ _ ⟨trivial,trivial⟩ ?_;clear hK K;try simp only[Act.put,List.getElem_toArray,List.getElem_cons_zero,List.getElem_cons_succ,List.setIfInBounds_toArray,List.set_cons_zero,List.set_cons_succ]
   refine aO (by kernel_rfl) ?_;simp only[List.drop_succ_cons,List.drop_zero];go_wp2_with fail
   first|go_ret2|go_ret|skip
   rw[←HQ.out];refine⟨?_,ay (au BD _) (by simp) hb⟩;rw[←FIN.out];rfl
theorem yE (n:Nat)(hn:n<10000000000000):∀w,Calls Tryz.prog 20 #[.int .i64 (n:Int)] w fun e w'=>e=.returned (.string (oN n))∧Below w.heap.size w w':=by
 induction n using Nat.strongRecOn with
 |_ n ih =>
  intro w;by_cases h10:n<10
  ·rw[Qz (by omega)];exact qh n h10
  ·exact JH n hn h10 fun W=>ih (n/10) (by omega) (by omega) W
theorem Om (n:Nat)(h1:1≤n)(h2:n≤8)(w:World):Calls Tryz.prog 19 #[.int .i64 n] w fun e w'=>e=.returned (.tuple #[.int .i64 ((2^ord n:Nat):Int),.int .i64 (ord n:Nat)])∧w'=w:=by
 refine named fun R HQ=>?_;rcases(by omega:n=1∨n=2∨n=3∨n=4∨n=5∨n=6∨n=7∨n=8)with rfl|rfl|rfl|rfl|rfl|rfl|rfl|rfl;all_goals
  go_enter Tryz.func19,Tryz.ntmps19;go_wp2_with fail
  refine wp_loop_rounds 4 ?_;repeat (rw[rounds_succ];go_wp2_with fail)
  first|go_ret2|go_ret|skip
  rw[←HQ.out];exact⟨by simp[ord,show Lib.bitLen 0=0 by decide,show Lib.bitLen 1=1 by decide,show Lib.bitLen 2=2 by decide,show Lib.bitLen 3=2 by decide,show Lib.bitLen 4=3 by decide,show Lib.bitLen 5=3 by decide,show Lib.bitLen 6=3 by decide,show Lib.bitLen 7=3 by decide,wrap64],rfl⟩
end
section
variable {w0 w:World}{M:List bW}
theorem zJ {x:Nat}{pol:Int}{now:Nat}{js:List J}{bk:List Ch}{fl:List Int}{k:Nat}(hS:dF M w0 w x pol now js bk fl k)(hk:k≤1000):Calls Tryz.prog 52 #[.pointer (some ⟨x,0,none⟩),.int .i64 0] w fun e w'=>∃(A:Option Addr) (c:Nat),e=.returned (.slice A fl.length c)∧Has w w' [aV 3 1 encI (.slice A fl.length c) fl]:=by
 refine named fun R HQ=>?_;obtain⟨a,y,m,rfl,rfl,hy,hm,H⟩:=hS;have C13:w.cell? ⟨a.x,14,none⟩=some (.slice (some ⟨a.yr,0,none⟩) 1 a.PU):=by rw[aj (H.blk 0 rfl)];rfl
 have Y00:=pY H;obtain⟨R1,HO,_⟩:=H.opened 12 (y.star a.yb) rfl;have FC:=ah.mk (ou HO hy (by omega));clear H hy hm HO hk;go_enter Tryz.func52,Tryz.ntmps52;go_wp2_with (go_at_call 89;refine FC.out.mono ?_;rintro e w2 ⟨A1,n,c1,rfl,hn,h2⟩;have HN:=ah.mk (And.intro hn h2);clear hn h2)
 first|go_ret2|go_ret|skip
 rw[←HQ.out];obtain⟨rfl,h2⟩:=HN.out;exact⟨A1,c1,rfl,h2⟩
end
end
section
open Go.RowKit Go.ChangeMaps
def bV (a:Int)(n:Nat):Nat:=(IntKind.u64.wrap a).toNat%n
theorem bY (a:Int){n:Nat}(h:1≤n):bV a n<n:=Nat.mod_lt _ h
section
variable {w:World}
set_option maxRecDepth 1000000 in
theorem cO (a:Int)(n:Nat)(h1:1≤n)(h2:n≤20):Calls Tryz.prog 7 #[.int .i64 a,.int .i64 (n:Int)] w fun e w'=>e=.returned (.int .i64 (bV a n:Int))∧w'=w:=by
 refine named fun R HQ=>?_;have e1:¬(n:Int)<1:=by omega
 have e2:IntKind.u64.wrap (n:Int)=(n:Int):=by
  unfold IntKind.wrap;simp[IntKind.signed,IntKind.bits];omega
 have hnn:¬(n:Int)=0:=by omega
 obtain⟨u,hu⟩:∃u:Nat,IntKind.u64.wrap a=(u:Int):=by
  refine⟨(IntKind.u64.wrap a).toNat,?_⟩;have : 0≤IntKind.u64.wrap a:=by
   unfold IntKind.wrap;simp[IntKind.signed,IntKind.bits];omega
  omega
 have e3:Int.tmod (u:Int) (n:Int)=((u%n:Nat):Int):=rfl;have hc:bV a n=u%n:=by unfold bV;rw[hu];simp
 have hlt:=bY a h1;rw[hc]at hlt;have e4:wrap64 ((u%n:Nat):Int)=((u%n:Nat):Int):=wrap_in (by omega) (by omega);have e5:IntKind.i64.wrap ((u%n:Nat):Int)=((u%n:Nat):Int):=(kV _).trans e4;have HC:=ah.mk hc;clear hc;go_enter Tryz.func7,Tryz.ntmps7;go_wp2_with fail
 first|go_ret2|go_ret|skip
 rw[←HQ.out];rw[HC.out];exact⟨rfl,rfl⟩
end
end
section
open Go.RowKit Go.ChangeMaps
theorem iw (n:Nat):(dD n).size≤2:=by
 unfold dD;split
 ·exact Nat.le_succ 1
 ·exact Nat.le_refl 2
section
variable {w:World}
set_option maxRecDepth 1000000 in
theorem Bj (nn:Int)(c2 c3 c4 c5 c6:Value)(hone:(#[.int .i64 3,.int .i64 nn,c2,c3,c4,c5,c6]:Array Value).all (·.oneCell')=true) :
 Calls Tryz.prog 8 #[.agg #[.int .i64 3,.int .i64 nn,c2,c3,c4,c5,c6]] w fun e w'=>e=.returned (.string (⟨#[116,105,99,107,32]⟩++dD ((1+bV nn 20))))∧Below w.heap.size w w':=by
 refine named fun R HQ=>?_;have M12:=ah.mk fun W=>cO (w:=W) nn 12 (by decide) (by decide);have wK:=ah.mk fun W=>bG (w:=W) (bV nn 12) (Nat.lt_trans (bY nn (n:=12) (by decide)) (by decide));have MM:=ah.mk fun W=>cO (w:=W) nn 20 (by decide) (by decide);have hlt:=bY nn (n:=20) (by decide);have DM:=ah.mk fun W=>bG (w:=W) ((1+bV nn 20)) (by omega);have w1:wrap64 (1+(bV nn 20:Int))=1+(bV nn 20:Int):=wrap_in (by omega) (by omega);have hsz:¬9223372036854775807<5+(dD ((1+bV nn 20))).size:=by
  have:=iw ((1+bV nn 20));omega
 rw[show((1+bV nn 20:Nat):Int)=1+(bV nn 20:Int) by omega]at DM;have C0:ah (∀W,Below (w.alloc (.cells #[.int .i64 3,.int .i64 nn,c2,c3,c4,c5,c6] 40)).heap.size (w.alloc (.cells #[.int .i64 3,.int .i64 nn,c2,c3,c4,c5,c6] 40)) W→W.cell? ⟨w.heap.size,0,none⟩=some (.int .i64 3)∧W.cell? ⟨w.heap.size,1,none⟩=some (.int .i64 nn)):=⟨fun W h=>⟨ak h (by rw[aj (heap_alloc_new w _)];rfl),ak h (by rw[aj (heap_alloc_new w _)];rfl)⟩⟩;have BW:=ah.mk (au (Below.refl w.heap.size w) (.cells #[.int .i64 3,.int .i64 nn,c2,c3,c4,c5,c6] 40));clear hlt;go_enter Tryz.func8,Tryz.ntmps8;go_wp2_with (first|(go_at_call 20;have _t:=H2.out;clear _t;refine(DM.out _).mono ?_;rintro e w3 ⟨rfl,hb⟩;have H3:=ah.mk (ay H2.out (by have:=H2.out.size;omega) hb);clear hb)|(go_at_call 7;have _t:=H2.out;clear _t;refine(MM.out _).mono ?_;rintro e w' ⟨rfl,hw⟩;obtain rfl:=hw.symm;clear hw)|(go_at_call 20;refine(wK.out _).mono ?_;rintro e w2 ⟨rfl,hb⟩;obtain⟨c0,c1⟩:=C0.out _ hb;have H2:=ah.mk (ay BW.out (by simp) hb:Below w.heap.size w w2);clear hb)|(go_at_call 7;refine(M12.out _).mono ?_;rintro e w' ⟨rfl,hw⟩;obtain rfl:=hw.symm;clear hw))
 first|go_ret2|go_ret|skip
 rw[←HQ.out];exact⟨rfl,H3.out⟩
set_option maxRecDepth 1000000 in
theorem yR (nn:Int)(c2 c3 c4 c5 c6:Value)(hone:(#[.int .i64 4,.int .i64 nn,c2,c3,c4,c5,c6]:Array Value).all (·.oneCell')=true) :
 Calls Tryz.prog 8 #[.agg #[.int .i64 4,.int .i64 nn,c2,c3,c4,c5,c6]] w fun e w'=>e=.returned (.string (⟨#[116,105,99,107,32]⟩++dD ((1+bV nn 20))))∧Below w.heap.size w w':=by
 refine named fun R HQ=>?_;have M12:=ah.mk fun W=>cO (w:=W) nn 12 (by decide) (by decide);have wK:=ah.mk fun W=>bG (w:=W) (bV nn 12) (Nat.lt_trans (bY nn (n:=12) (by decide)) (by decide));have MM:=ah.mk fun W=>cO (w:=W) nn 20 (by decide) (by decide);have hlt:=bY nn (n:=20) (by decide);have DM:=ah.mk fun W=>bG (w:=W) ((1+bV nn 20)) (by omega);have w1:wrap64 (1+(bV nn 20:Int))=1+(bV nn 20:Int):=wrap_in (by omega) (by omega);have hsz:¬9223372036854775807<5+(dD ((1+bV nn 20))).size:=by
  have:=iw ((1+bV nn 20));omega
 rw[show((1+bV nn 20:Nat):Int)=1+(bV nn 20:Int) by omega]at DM;have C0:ah (∀W,Below (w.alloc (.cells #[.int .i64 4,.int .i64 nn,c2,c3,c4,c5,c6] 40)).heap.size (w.alloc (.cells #[.int .i64 4,.int .i64 nn,c2,c3,c4,c5,c6] 40)) W→W.cell? ⟨w.heap.size,0,none⟩=some (.int .i64 4)∧W.cell? ⟨w.heap.size,1,none⟩=some (.int .i64 nn)):=⟨fun W h=>⟨ak h (by rw[aj (heap_alloc_new w _)];rfl),ak h (by rw[aj (heap_alloc_new w _)];rfl)⟩⟩;have BW:=ah.mk (au (Below.refl w.heap.size w) (.cells #[.int .i64 4,.int .i64 nn,c2,c3,c4,c5,c6] 40));clear hlt;go_enter Tryz.func8,Tryz.ntmps8;go_wp2_with (first|(go_at_call 20;have _t:=H2.out;clear _t;refine(DM.out _).mono ?_;rintro e w3 ⟨rfl,hb⟩;have H3:=ah.mk (ay H2.out (by have:=H2.out.size;omega) hb);clear hb)|(go_at_call 7;have _t:=H2.out;clear _t;refine(MM.out _).mono ?_;rintro e w' ⟨rfl,hw⟩;obtain rfl:=hw.symm;clear hw)|(go_at_call 20;refine(wK.out _).mono ?_;rintro e w2 ⟨rfl,hb⟩;obtain⟨c0,c1⟩:=C0.out _ hb;have H2:=ah.mk (ay BW.out (by simp) hb:Below w.heap.size w w2);clear hb)|(go_at_call 7;refine(M12.out _).mono ?_;rintro e w' ⟨rfl,hw⟩;obtain rfl:=hw.symm;clear hw))
 first|go_ret2|go_ret|skip
 rw[←HQ.out];exact⟨rfl,H3.out⟩
set_option maxRecDepth 1000000 in
theorem Q5 (nn:Int)(c2 c3 c4 c5 c6:Value)(hone:(#[.int .i64 5,.int .i64 nn,c2,c3,c4,c5,c6]:Array Value).all (·.oneCell')=true) :
 Calls Tryz.prog 8 #[.agg #[.int .i64 5,.int .i64 nn,c2,c3,c4,c5,c6]] w fun e w'=>e=.returned (.string (⟨#[100,111,110,101,32]⟩++dD (bV nn 12)))∧Below w.heap.size w w':=by
 refine named fun R HQ=>?_;have M12:=ah.mk fun W=>cO (w:=W) nn 12 (by decide) (by decide);have wK:=ah.mk fun W=>bG (w:=W) (bV nn 12) (Nat.lt_trans (bY nn (n:=12) (by decide)) (by decide));have MM:=ah.mk fun W=>cO (w:=W) nn 12 (by decide) (by decide);have hlt:=bY nn (n:=12) (by decide);have DM:=ah.mk fun W=>bG (w:=W) (bV nn 12) (by omega);have w1:wrap64 (1+(bV nn 12:Int))=1+(bV nn 12:Int):=wrap_in (by omega) (by omega);have hsz:¬9223372036854775807<5+(dD (bV nn 12)).size:=by
  have:=iw (bV nn 12);omega
 have C0:ah (∀W,Below (w.alloc (.cells #[.int .i64 5,.int .i64 nn,c2,c3,c4,c5,c6] 40)).heap.size (w.alloc (.cells #[.int .i64 5,.int .i64 nn,c2,c3,c4,c5,c6] 40)) W→W.cell? ⟨w.heap.size,0,none⟩=some (.int .i64 5)∧W.cell? ⟨w.heap.size,1,none⟩=some (.int .i64 nn)):=⟨fun W h=>⟨ak h (by rw[aj (heap_alloc_new w _)];rfl),ak h (by rw[aj (heap_alloc_new w _)];rfl)⟩⟩;have BW:=ah.mk (au (Below.refl w.heap.size w) (.cells #[.int .i64 5,.int .i64 nn,c2,c3,c4,c5,c6] 40));clear hlt;go_enter Tryz.func8,Tryz.ntmps8;go_wp2_with (first|(go_at_call 20;have _t:=H2.out;clear _t;refine(DM.out _).mono ?_;rintro e w3 ⟨rfl,hb⟩;have H3:=ah.mk (ay H2.out (by have:=H2.out.size;omega) hb);clear hb)|(go_at_call 7;have _t:=H2.out;clear _t;refine(MM.out _).mono ?_;rintro e w' ⟨rfl,hw⟩;obtain rfl:=hw.symm;clear hw)|(go_at_call 20;refine(wK.out _).mono ?_;rintro e w2 ⟨rfl,hb⟩;obtain⟨c0,c1⟩:=C0.out _ hb;have H2:=ah.mk (ay BW.out (by simp) hb:Below w.heap.size w w2);clear hb)|(go_at_call 7;refine(M12.out _).mono ?_;rintro e w' ⟨rfl,hw⟩;obtain rfl:=hw.symm;clear hw))
 first|go_ret2|go_ret|skip
 rw[←HQ.out];exact⟨rfl,H2.out⟩
set_option maxRecDepth 1000000 in
theorem Kz (nn:Int)(c2 c3 c4 c5 c6:Value)(hone:(#[.int .i64 6,.int .i64 nn,c2,c3,c4,c5,c6]:Array Value).all (·.oneCell')=true) :
 Calls Tryz.prog 8 #[.agg #[.int .i64 6,.int .i64 nn,c2,c3,c4,c5,c6]] w fun e w'=>e=.returned (.string (⟨#[102,97,105,108,101,100,32]⟩++dD (bV nn 12)))∧Below w.heap.size w w':=by
 refine named fun R HQ=>?_;have M12:=ah.mk fun W=>cO (w:=W) nn 12 (by decide) (by decide);have wK:=ah.mk fun W=>bG (w:=W) (bV nn 12) (Nat.lt_trans (bY nn (n:=12) (by decide)) (by decide));have MM:=ah.mk fun W=>cO (w:=W) nn 12 (by decide) (by decide);have hlt:=bY nn (n:=12) (by decide);have DM:=ah.mk fun W=>bG (w:=W) (bV nn 12) (by omega);have w1:wrap64 (1+(bV nn 12:Int))=1+(bV nn 12:Int):=wrap_in (by omega) (by omega);have hsz:¬9223372036854775807<7+(dD (bV nn 12)).size:=by
  have:=iw (bV nn 12);omega
 have C0:ah (∀W,Below (w.alloc (.cells #[.int .i64 6,.int .i64 nn,c2,c3,c4,c5,c6] 40)).heap.size (w.alloc (.cells #[.int .i64 6,.int .i64 nn,c2,c3,c4,c5,c6] 40)) W→W.cell? ⟨w.heap.size,0,none⟩=some (.int .i64 6)∧W.cell? ⟨w.heap.size,1,none⟩=some (.int .i64 nn)):=⟨fun W h=>⟨ak h (by rw[aj (heap_alloc_new w _)];rfl),ak h (by rw[aj (heap_alloc_new w _)];rfl)⟩⟩;have BW:=ah.mk (au (Below.refl w.heap.size w) (.cells #[.int .i64 6,.int .i64 nn,c2,c3,c4,c5,c6] 40));clear hlt;go_enter Tryz.func8,Tryz.ntmps8;go_wp2_with (first|(go_at_call 20;have _t:=H2.out;clear _t;refine(DM.out _).mono ?_;rintro e w3 ⟨rfl,hb⟩;have H3:=ah.mk (ay H2.out (by have:=H2.out.size;omega) hb);clear hb)|(go_at_call 7;have _t:=H2.out;clear _t;refine(MM.out _).mono ?_;rintro e w' ⟨rfl,hw⟩;obtain rfl:=hw.symm;clear hw)|(go_at_call 20;refine(wK.out _).mono ?_;rintro e w2 ⟨rfl,hb⟩;obtain⟨c0,c1⟩:=C0.out _ hb;have H2:=ah.mk (ay BW.out (by simp) hb:Below w.heap.size w w2);clear hb)|(go_at_call 7;refine(M12.out _).mono ?_;rintro e w' ⟨rfl,hw⟩;obtain rfl:=hw.symm;clear hw))
 first|go_ret2|go_ret|skip
 rw[←HQ.out];exact⟨rfl,H2.out⟩
set_option maxRecDepth 1000000 in
theorem KA (nn:Int)(c2 c3 c4 c5 c6:Value)(hone:(#[.int .i64 7,.int .i64 nn,c2,c3,c4,c5,c6]:Array Value).all (·.oneCell')=true) :
 Calls Tryz.prog 8 #[.agg #[.int .i64 7,.int .i64 nn,c2,c3,c4,c5,c6]] w fun e w'=>e=.returned (.string (⟨#[99,97,110,99,101,108,32]⟩++dD (bV nn 12)))∧Below w.heap.size w w':=by
 refine named fun R HQ=>?_;have M12:=ah.mk fun W=>cO (w:=W) nn 12 (by decide) (by decide);have wK:=ah.mk fun W=>bG (w:=W) (bV nn 12) (Nat.lt_trans (bY nn (n:=12) (by decide)) (by decide));have MM:=ah.mk fun W=>cO (w:=W) nn 12 (by decide) (by decide);have hlt:=bY nn (n:=12) (by decide);have DM:=ah.mk fun W=>bG (w:=W) (bV nn 12) (by omega);have w1:wrap64 (1+(bV nn 12:Int))=1+(bV nn 12:Int):=wrap_in (by omega) (by omega);have hsz:¬9223372036854775807<7+(dD (bV nn 12)).size:=by
  have:=iw (bV nn 12);omega
 have C0:ah (∀W,Below (w.alloc (.cells #[.int .i64 7,.int .i64 nn,c2,c3,c4,c5,c6] 40)).heap.size (w.alloc (.cells #[.int .i64 7,.int .i64 nn,c2,c3,c4,c5,c6] 40)) W→W.cell? ⟨w.heap.size,0,none⟩=some (.int .i64 7)∧W.cell? ⟨w.heap.size,1,none⟩=some (.int .i64 nn)):=⟨fun W h=>⟨ak h (by rw[aj (heap_alloc_new w _)];rfl),ak h (by rw[aj (heap_alloc_new w _)];rfl)⟩⟩;have BW:=ah.mk (au (Below.refl w.heap.size w) (.cells #[.int .i64 7,.int .i64 nn,c2,c3,c4,c5,c6] 40));clear hlt;go_enter Tryz.func8,Tryz.ntmps8;go_wp2_with (first|(go_at_call 20;have _t:=H2.out;clear _t;refine(DM.out _).mono ?_;rintro e w3 ⟨rfl,hb⟩;have H3:=ah.mk (ay H2.out (by have:=H2.out.size;omega) hb);clear hb)|(go_at_call 7;have _t:=H2.out;clear _t;refine(MM.out _).mono ?_;rintro e w' ⟨rfl,hw⟩;obtain rfl:=hw.symm;clear hw)|(go_at_call 20;refine(wK.out _).mono ?_;rintro e w2 ⟨rfl,hb⟩;obtain⟨c0,c1⟩:=C0.out _ hb;have H2:=ah.mk (ay BW.out (by simp) hb:Below w.heap.size w w2);clear hb)|(go_at_call 7;refine(M12.out _).mono ?_;rintro e w' ⟨rfl,hw⟩;obtain rfl:=hw.symm;clear hw))
 first|go_ret2|go_ret|skip
 rw[←HQ.out];exact⟨rfl,H2.out⟩
set_option maxRecDepth 1000000 in
theorem GH (nn:Int)(c2 c3 c4 c5 c6:Value)(hone:(#[.int .i64 8,.int .i64 nn,c2,c3,c4,c5,c6]:Array Value).all (·.oneCell')=true) :
 Calls Tryz.prog 8 #[.agg #[.int .i64 8,.int .i64 nn,c2,c3,c4,c5,c6]] w fun e w'=>e=.returned (.string (⟨#[114,101,113,117,101,117,101,32]⟩++dD (bV nn 12)))∧Below w.heap.size w w':=by
 refine named fun R HQ=>?_;have M12:=ah.mk fun W=>cO (w:=W) nn 12 (by decide) (by decide);have wK:=ah.mk fun W=>bG (w:=W) (bV nn 12) (Nat.lt_trans (bY nn (n:=12) (by decide)) (by decide));have MM:=ah.mk fun W=>cO (w:=W) nn 12 (by decide) (by decide);have hlt:=bY nn (n:=12) (by decide);have DM:=ah.mk fun W=>bG (w:=W) (bV nn 12) (by omega);have w1:wrap64 (1+(bV nn 12:Int))=1+(bV nn 12:Int):=wrap_in (by omega) (by omega);have hsz:¬9223372036854775807<8+(dD (bV nn 12)).size:=by
  have:=iw (bV nn 12);omega
 have C0:ah (∀W,Below (w.alloc (.cells #[.int .i64 8,.int .i64 nn,c2,c3,c4,c5,c6] 40)).heap.size (w.alloc (.cells #[.int .i64 8,.int .i64 nn,c2,c3,c4,c5,c6] 40)) W→W.cell? ⟨w.heap.size,0,none⟩=some (.int .i64 8)∧W.cell? ⟨w.heap.size,1,none⟩=some (.int .i64 nn)):=⟨fun W h=>⟨ak h (by rw[aj (heap_alloc_new w _)];rfl),ak h (by rw[aj (heap_alloc_new w _)];rfl)⟩⟩;have BW:=ah.mk (au (Below.refl w.heap.size w) (.cells #[.int .i64 8,.int .i64 nn,c2,c3,c4,c5,c6] 40));clear hlt;go_enter Tryz.func8,Tryz.ntmps8;go_wp2_with (first|(go_at_call 20;have _t:=H2.out;clear _t;refine(DM.out _).mono ?_;rintro e w3 ⟨rfl,hb⟩;have H3:=ah.mk (ay H2.out (by have:=H2.out.size;omega) hb);clear hb)|(go_at_call 7;have _t:=H2.out;clear _t;refine(MM.out _).mono ?_;rintro e w' ⟨rfl,hw⟩;obtain rfl:=hw.symm;clear hw)|(go_at_call 20;refine(wK.out _).mono ?_;rintro e w2 ⟨rfl,hb⟩;obtain⟨c0,c1⟩:=C0.out _ hb;have H2:=ah.mk (ay BW.out (by simp) hb:Below w.heap.size w w2);clear hb)|(go_at_call 7;refine(M12.out _).mono ?_;rintro e w' ⟨rfl,hw⟩;obtain rfl:=hw.symm;clear hw))
 first|go_ret2|go_ret|skip
 rw[←HQ.out];exact⟨rfl,H2.out⟩
set_option maxRecDepth 1000000 in
theorem Q7 (nn:Int)(c2 c3 c4 c5 c6:Value)(hone:(#[.int .i64 9,.int .i64 nn,c2,c3,c4,c5,c6]:Array Value).all (·.oneCell')=true) :
 Calls Tryz.prog 8 #[.agg #[.int .i64 9,.int .i64 nn,c2,c3,c4,c5,c6]] w fun e w'=>e=.returned (.string (⟨#[100,111,119,110,32,109,97,105,110,32]⟩++dD (bV nn 8)))∧Below w.heap.size w w':=by
 refine named fun R HQ=>?_;have M12:=ah.mk fun W=>cO (w:=W) nn 12 (by decide) (by decide);have wK:=ah.mk fun W=>bG (w:=W) (bV nn 12) (Nat.lt_trans (bY nn (n:=12) (by decide)) (by decide));have MM:=ah.mk fun W=>cO (w:=W) nn 8 (by decide) (by decide);have hlt:=bY nn (n:=8) (by decide);have DM:=ah.mk fun W=>bG (w:=W) (bV nn 8) (by omega);have w1:wrap64 (1+(bV nn 8:Int))=1+(bV nn 8:Int):=wrap_in (by omega) (by omega);have hsz:¬9223372036854775807<10+(dD (bV nn 8)).size:=by
  have:=iw (bV nn 8);omega
 have C0:ah (∀W,Below (w.alloc (.cells #[.int .i64 9,.int .i64 nn,c2,c3,c4,c5,c6] 40)).heap.size (w.alloc (.cells #[.int .i64 9,.int .i64 nn,c2,c3,c4,c5,c6] 40)) W→W.cell? ⟨w.heap.size,0,none⟩=some (.int .i64 9)∧W.cell? ⟨w.heap.size,1,none⟩=some (.int .i64 nn)):=⟨fun W h=>⟨ak h (by rw[aj (heap_alloc_new w _)];rfl),ak h (by rw[aj (heap_alloc_new w _)];rfl)⟩⟩;have BW:=ah.mk (au (Below.refl w.heap.size w) (.cells #[.int .i64 9,.int .i64 nn,c2,c3,c4,c5,c6] 40));clear hlt;go_enter Tryz.func8,Tryz.ntmps8;go_wp2_with (first|(go_at_call 20;have _t:=H2.out;clear _t;refine(DM.out _).mono ?_;rintro e w3 ⟨rfl,hb⟩;have H3:=ah.mk (ay H2.out (by have:=H2.out.size;omega) hb);clear hb)|(go_at_call 7;have _t:=H2.out;clear _t;refine(MM.out _).mono ?_;rintro e w' ⟨rfl,hw⟩;obtain rfl:=hw.symm;clear hw)|(go_at_call 20;refine(wK.out _).mono ?_;rintro e w2 ⟨rfl,hb⟩;obtain⟨c0,c1⟩:=C0.out _ hb;have H2:=ah.mk (ay BW.out (by simp) hb:Below w.heap.size w w2);clear hb)|(go_at_call 7;refine(M12.out _).mono ?_;rintro e w' ⟨rfl,hw⟩;obtain rfl:=hw.symm;clear hw))
 first|go_ret2|go_ret|skip
 rw[←HQ.out];exact⟨rfl,H3.out⟩
set_option maxRecDepth 1000000 in
theorem V8 (nn:Int)(c2 c3 c4 c5 c6:Value)(hone:(#[.int .i64 10,.int .i64 nn,c2,c3,c4,c5,c6]:Array Value).all (·.oneCell')=true) :
 Calls Tryz.prog 8 #[.agg #[.int .i64 10,.int .i64 nn,c2,c3,c4,c5,c6]] w fun e w'=>e=.returned (.string (⟨#[117,112,32,109,97,105,110,32]⟩++dD (bV nn 8)))∧Below w.heap.size w w':=by
 refine named fun R HQ=>?_;have M12:=ah.mk fun W=>cO (w:=W) nn 12 (by decide) (by decide);have wK:=ah.mk fun W=>bG (w:=W) (bV nn 12) (Nat.lt_trans (bY nn (n:=12) (by decide)) (by decide));have MM:=ah.mk fun W=>cO (w:=W) nn 8 (by decide) (by decide);have hlt:=bY nn (n:=8) (by decide);have DM:=ah.mk fun W=>bG (w:=W) (bV nn 8) (by omega);have w1:wrap64 (1+(bV nn 8:Int))=1+(bV nn 8:Int):=wrap_in (by omega) (by omega);have hsz:¬9223372036854775807<8+(dD (bV nn 8)).size:=by
  have:=iw (bV nn 8);omega
 have C0:ah (∀W,Below (w.alloc (.cells #[.int .i64 10,.int .i64 nn,c2,c3,c4,c5,c6] 40)).heap.size (w.alloc (.cells #[.int .i64 10,.int .i64 nn,c2,c3,c4,c5,c6] 40)) W→W.cell? ⟨w.heap.size,0,none⟩=some (.int .i64 10)∧W.cell? ⟨w.heap.size,1,none⟩=some (.int .i64 nn)):=⟨fun W h=>⟨ak h (by rw[aj (heap_alloc_new w _)];rfl),ak h (by rw[aj (heap_alloc_new w _)];rfl)⟩⟩;have BW:=ah.mk (au (Below.refl w.heap.size w) (.cells #[.int .i64 10,.int .i64 nn,c2,c3,c4,c5,c6] 40));clear hlt;go_enter Tryz.func8,Tryz.ntmps8;go_wp2_with (first|(go_at_call 20;have _t:=H2.out;clear _t;refine(DM.out _).mono ?_;rintro e w3 ⟨rfl,hb⟩;have H3:=ah.mk (ay H2.out (by have:=H2.out.size;omega) hb);clear hb)|(go_at_call 7;have _t:=H2.out;clear _t;refine(MM.out _).mono ?_;rintro e w' ⟨rfl,hw⟩;obtain rfl:=hw.symm;clear hw)|(go_at_call 20;refine(wK.out _).mono ?_;rintro e w2 ⟨rfl,hb⟩;obtain⟨c0,c1⟩:=C0.out _ hb;have H2:=ah.mk (ay BW.out (by simp) hb:Below w.heap.size w w2);clear hb)|(go_at_call 7;refine(M12.out _).mono ?_;rintro e w' ⟨rfl,hw⟩;obtain rfl:=hw.symm;clear hw))
 first|go_ret2|go_ret|skip
 rw[←HQ.out];exact⟨rfl,H3.out⟩
set_option maxRecDepth 1000000 in
theorem Q8 (nn:Int)(c2 c3 c4 c5 c6:Value)(hone:(#[.int .i64 11,.int .i64 nn,c2,c3,c4,c5,c6]:Array Value).all (·.oneCell')=true) :
 Calls Tryz.prog 8 #[.agg #[.int .i64 11,.int .i64 nn,c2,c3,c4,c5,c6]] w fun e w'=>e=.returned (.string (⟨#[104,111,108,100,32]⟩++dD (bV nn 12)))∧Below w.heap.size w w':=by
 refine named fun R HQ=>?_;have M12:=ah.mk fun W=>cO (w:=W) nn 12 (by decide) (by decide);have wK:=ah.mk fun W=>bG (w:=W) (bV nn 12) (Nat.lt_trans (bY nn (n:=12) (by decide)) (by decide));have MM:=ah.mk fun W=>cO (w:=W) nn 12 (by decide) (by decide);have hlt:=bY nn (n:=12) (by decide);have DM:=ah.mk fun W=>bG (w:=W) (bV nn 12) (by omega);have w1:wrap64 (1+(bV nn 12:Int))=1+(bV nn 12:Int):=wrap_in (by omega) (by omega);have hsz:¬9223372036854775807<5+(dD (bV nn 12)).size:=by
  have:=iw (bV nn 12);omega
 have C0:ah (∀W,Below (w.alloc (.cells #[.int .i64 11,.int .i64 nn,c2,c3,c4,c5,c6] 40)).heap.size (w.alloc (.cells #[.int .i64 11,.int .i64 nn,c2,c3,c4,c5,c6] 40)) W→W.cell? ⟨w.heap.size,0,none⟩=some (.int .i64 11)∧W.cell? ⟨w.heap.size,1,none⟩=some (.int .i64 nn)):=⟨fun W h=>⟨ak h (by rw[aj (heap_alloc_new w _)];rfl),ak h (by rw[aj (heap_alloc_new w _)];rfl)⟩⟩;have BW:=ah.mk (au (Below.refl w.heap.size w) (.cells #[.int .i64 11,.int .i64 nn,c2,c3,c4,c5,c6] 40));clear hlt;go_enter Tryz.func8,Tryz.ntmps8;go_wp2_with (first|(go_at_call 20;have _t:=H2.out;clear _t;refine(DM.out _).mono ?_;rintro e w3 ⟨rfl,hb⟩;have H3:=ah.mk (ay H2.out (by have:=H2.out.size;omega) hb);clear hb)|(go_at_call 7;have _t:=H2.out;clear _t;refine(MM.out _).mono ?_;rintro e w' ⟨rfl,hw⟩;obtain rfl:=hw.symm;clear hw)|(go_at_call 20;refine(wK.out _).mono ?_;rintro e w2 ⟨rfl,hb⟩;obtain⟨c0,c1⟩:=C0.out _ hb;have H2:=ah.mk (ay BW.out (by simp) hb:Below w.heap.size w w2);clear hb)|(go_at_call 7;refine(M12.out _).mono ?_;rintro e w' ⟨rfl,hw⟩;obtain rfl:=hw.symm;clear hw))
 first|go_ret2|go_ret|skip
 rw[←HQ.out];exact⟨rfl,H2.out⟩
set_option maxRecDepth 1000000 in
theorem GI (kd:Int)(h0:(kd==0)=false)(h1:(kd==1)=false)(h2:(kd==2)=false)(h3:(kd==3)=false)(h4:(kd==4)=false)(h5:(kd==5)=false)(h6:(kd==6)=false)(h7:(kd==7)=false)(h8:(kd==8)=false)(h9:(kd==9)=false)(h10:(kd==10)=false)(h11:(kd==11)=false)(nn:Int)(c2 c3 c4 c5 c6:Value)(hone:(#[.int .i64 kd,.int .i64 nn,c2,c3,c4,c5,c6]:Array Value).all (·.oneCell')=true) :
 Calls Tryz.prog 8 #[.agg #[.int .i64 kd,.int .i64 nn,c2,c3,c4,c5,c6]] w fun e w'=>e=.returned (.string (⟨#[114,101,108,101,97,115,101,32]⟩++dD (bV nn 12)))∧Below w.heap.size w w':=by
 refine named fun R HQ=>?_;have M12:=ah.mk fun W=>cO (w:=W) nn 12 (by decide) (by decide);have wK:=ah.mk fun W=>bG (w:=W) (bV nn 12) (Nat.lt_trans (bY nn (n:=12) (by decide)) (by decide));have MM:=ah.mk fun W=>cO (w:=W) nn 12 (by decide) (by decide);have hlt:=bY nn (n:=12) (by decide);have DM:=ah.mk fun W=>bG (w:=W) (bV nn 12) (by omega);have w1:wrap64 (1+(bV nn 12:Int))=1+(bV nn 12:Int):=wrap_in (by omega) (by omega);have hsz:¬9223372036854775807<8+(dD (bV nn 12)).size:=by
  have:=iw (bV nn 12);omega
 have C0:ah (∀W,Below (w.alloc (.cells #[.int .i64 kd,.int .i64 nn,c2,c3,c4,c5,c6] 40)).heap.size (w.alloc (.cells #[.int .i64 kd,.int .i64 nn,c2,c3,c4,c5,c6] 40)) W→W.cell? ⟨w.heap.size,0,none⟩=some (.int .i64 kd)∧W.cell? ⟨w.heap.size,1,none⟩=some (.int .i64 nn)):=⟨fun W h=>⟨ak h (by rw[aj (heap_alloc_new w _)];rfl),ak h (by rw[aj (heap_alloc_new w _)];rfl)⟩⟩;have BW:=ah.mk (au (Below.refl w.heap.size w) (.cells #[.int .i64 kd,.int .i64 nn,c2,c3,c4,c5,c6] 40));clear hlt;go_enter Tryz.func8,Tryz.ntmps8;go_wp2_with (first|(go_at_call 20;have _t:=H2.out;clear _t;refine(DM.out _).mono ?_;rintro e w3 ⟨rfl,hb⟩;have H3:=ah.mk (ay H2.out (by have:=H2.out.size;omega) hb);clear hb)|(go_at_call 7;have _t:=H2.out;clear _t;refine(MM.out _).mono ?_;rintro e w' ⟨rfl,hw⟩;obtain rfl:=hw.symm;clear hw)|(go_at_call 20;refine(wK.out _).mono ?_;rintro e w2 ⟨rfl,hb⟩;obtain⟨c0,c1⟩:=C0.out _ hb;have H2:=ah.mk (ay BW.out (by simp) hb:Below w.heap.size w w2);clear hb)|(go_at_call 7;refine(M12.out _).mono ?_;rintro e w' ⟨rfl,hw⟩;obtain rfl:=hw.symm;clear hw))
 first|go_ret2|go_ret|skip
 rw[←HQ.out];exact⟨rfl,H2.out⟩
end
end
section
open Go.RowKit Go.ChangeMaps
section
variable {w:World}
set_option maxRecDepth 1000000 in
theorem Bl (n:Nat)(hn:n<100):Calls Tryz.prog 154 #[.int .i64 (n:Int)] w fun e w'=>e=.returned (.string (if n<10 then⟨#[48]⟩++dD n else dD n))∧Below w.heap.size w w':=by
 refine named fun R HQ=>?_;have DC:=ah.mk (bG (w:=w) n hn);have hsz:¬9223372036854775807<1+(dD n).size:=by
  have:=iw n;omega
 by_cases h:n<10
 ·have h1:(n:Int)<10:=by omega
  go_enter Tryz.func154,Tryz.ntmps154;go_wp2_with (go_at_call 20;refine DC.out.mono ?_;rintro e w2 ⟨rfl,hb⟩;have H2:=ah.mk hb;clear hb)
  first|go_ret2|go_ret|skip
  rw[←HQ.out];exact⟨by rw[if_pos h];rfl,H2.out⟩
 ·have h1:¬(n:Int)<10:=by omega
  go_enter Tryz.func154,Tryz.ntmps154;go_wp2_with (go_at_call 20;refine DC.out.mono ?_;rintro e w2 ⟨rfl,hb⟩;have H2:=ah.mk hb;clear hb)
  first|go_ret2|go_ret|skip
  rw[←HQ.out];exact⟨by rw[if_neg h];rfl,H2.out⟩
end
end
section
open Go.RowKit Go.ChangeMaps
def rP (n:Nat):ByteArray:=if n<10 then⟨#[48]⟩++dD n else dD n
theorem Bz (n:Nat):(rP n).size≤3:=by
 have:=iw n;unfold rP;split
 ·rw[ByteArray.size_append,show(⟨#[48]⟩:ByteArray).size=1 from rfl];omega
 ·omega
def Hy (n:Nat):ByteArray:=rP 0++⟨#[58]⟩++rP 0++⟨#[58]⟩++rP n
section
variable {w:World}
set_option maxRecDepth 1000000 in
theorem Lh (n:Nat)(h1:1≤n)(h2:n≤20):Calls Tryz.prog 91 #[.int .i64 (n:Int)] w fun e w'=>e=.returned (.tuple #[.string (Hy n),.int .i64 0])∧Below w.heap.size w w':=by
 refine named fun R HQ=>?_;have T0:ah (∀W,Calls Tryz.prog 154 #[.int .i64 0] W fun e w'=>e=.returned (.string (rP 0))∧Below W.heap.size W w'):=⟨fun W=>Bl (w:=W) 0 (by omega)⟩;have TN:ah (∀W,Calls Tryz.prog 154 #[.int .i64 (n:Int)] W fun e w'=>e=.returned (.string (rP n))∧Below W.heap.size W w'):=⟨fun W=>Bl (w:=W) n (by omega)⟩;have s0:=Bz 0;have sn:=Bz n;have g1:¬(n:Int)<1:=by omega
 have g2:¬(1073741824:Int)<n:=by omega
 have g3:Int.tmod (n:Int) 60=n:=by rw[Int.tmod_eq_emod_of_nonneg (by omega)];omega
 have g4:wrap64 (n:Int)=n:=wrap_in (by omega) (by omega);have z1:¬9223372036854775807<(rP 0).size+1:=by omega
 have z2:¬9223372036854775807<(rP 0).size+1+(rP 0).size:=by omega
 have z3:¬9223372036854775807<(rP 0).size+1+(rP 0).size+1:=by omega
 have z4:¬9223372036854775807<(rP 0).size+1+(rP 0).size+1+(rP n).size:=by omega
 clear s0 sn h1 h2;go_enter Tryz.func91,Tryz.ntmps91;go_wp2_with (first|(go_at_call 154;have _t:=H3.out;clear _t;refine(TN.out _).mono ?_;rintro e w4 ⟨rfl,hb⟩;have H4:=ah.mk (ay H3.out (by have:=H3.out.size;omega) hb);clear hb)|(go_at_call 154;have _t:=H2.out;clear _t;refine(T0.out _).mono ?_;rintro e w3 ⟨rfl,hb⟩;have H3:=ah.mk (ay H2.out (by have:=H2.out.size;omega) hb);clear hb)|(go_at_call 154;refine(T0.out _).mono ?_;rintro e w2 ⟨rfl,hb⟩;have H2:=ah.mk hb;clear hb))
 first|go_ret2|go_ret|skip
 rw[←HQ.out];exact⟨rfl,H4.out⟩
end
end
end Go.Proofs.YtandhagfhppgaaaGreatDoor
