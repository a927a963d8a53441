/- Part 20 of a proof: contracts of the functions that the law reaches. No condition. -/
import Derived.Test.YtandhagfhppgaaaGreatDoorS17
set_option linter.all false
set_option maxRecDepth 100000
set_option maxHeartbeats 16000000
namespace Go.Proofs.YtandhagfhppgaaaGreatDoor
section
open Go.RowKit
section
variable {w:World}
theorem Js {fA bA:Option Addr}{fn fc bn bc:Nat}{fl:List Int}{ts:List Tk}(hf:bU w 1 encI (.slice fA fn fc) fl)(hb:bU w 4 jX (.slice bA bn bc) ts)(hok:∀t∈ts,t.ok)(h1:fn≤1000)(h2:bn≤1000)(s q:Nat)(hs:s≤7)(hq:q≤3)(t1 t2:Int) :
 Calls Tryz.prog 336 #[.agg #[.int .i64 3,.slice fA fn fc,.slice bA bn bc],.agg #[.int .i64 s,.int .i64 q],.int .i64 t1,.int .i64 t2] w fun e w'=>∃b:Bool,e=.returned (.bool b)∧Below w.heap.size w w':=by
 refine named fun R HQ=>?_;have HF:=ah.mk hf;have HB:=ah.mk hb;have LF:=ah.mk hf.len;have LB:=ah.mk hb.len;have HK:=ah.mk hok;obtain⟨z,hz⟩:∃z:Nat,z=2^q:=⟨_,rfl⟩;have SZ:=ah.mk fun W=>iH q hq W;rw[←hz]at SZ;have H0:=ah.mk (((Has.start w).aZ (.cells #[.int .i64 3,.slice fA fn fc,.slice bA bn bc] 230)).aZ (.cells #[.int .i64 s,.int .i64 q] 53));have SR:=ah.mk (Jk (s:Int) (hf.below H0.out.old) (by omega));have wz:wrap64 ((s:Int)+z)=(s:Int)+z:=wrap_in (by omega) (by have:=fP hq;omega);have ME:=ah.mk fun(t:Tk) (h:t.ok) W=>Jm (w:=W) t.s t.q s q h.s h.q hs hq;clear hf hb hok hz;go_enter Tryz.func336,Tryz.ntmps336;go_wp2_with (go_at_call 76;refine SR.out.mono ?_;rintro e w' ⟨i,b,rfl,hi,hb,hw⟩;obtain rfl:=hw.symm;clear hw;have HI:=ah.mk (And.intro hi hb);clear hi hb;refine ah.out ?_)
 obtain⟨W1,hW1⟩:∃W1,W1=((w.alloc (.cells #[.int .i64 3,.slice fA fn fc,.slice bA bn bc] 230)).alloc (.cells #[.int .i64 s,.int .i64 q] 53)):=⟨_,rfl⟩;have H1:ah (Has w W1 [aF w.heap.size (.cells #[.int .i64 3,.slice fA fn fc,.slice bA bn bc] 230),aF (w.heap.size+1) (.cells #[.int .i64 s,.int .i64 q] 53)]):=⟨by rw[hW1];have:=H0.out;simpa using this⟩;rw[←hW1];clear hW1 SR H0;have c1:W1.cell? ⟨w.heap.size,1,none⟩=some (.slice fA fn fc):=by rw[aj (H1.out.blk 0 rfl)];rfl
 have c2:W1.cell? ⟨w.heap.size,2,none⟩=some (.slice bA bn bc):=by rw[aj (H1.out.blk 0 rfl)];rfl
 have d0:W1.cell? ⟨w.heap.size+1,0,none⟩=some (.int .i64 s):=by rw[aj (H1.out.blk 1 rfl)];rfl
 have d1:W1.cell? ⟨w.heap.size+1,1,none⟩=some (.int .i64 q):=by rw[aj (H1.out.blk 1 rfl)];rfl
 by_cases hi:i<fn
 ·obtain⟨y,hy⟩:∃y,fl[i]?=some y:=⟨_,List.getElem?_eq_getElem (by rw[←LF.out];exact hi)⟩;obtain⟨g,hA,gK⟩:=(HF.out.below H1.out.old).get i y hy;have cy:W1.cell? ⟨g,i,none⟩=some (.int .i64 y):=by have:=gK 0 _ rfl;simpa using this
  have hi':(i:Int)<fn:=by omega
  subst hA;clear hy gK;cases hd:decide (y<(s:Int)+z)
  ·refine ah.mk ?_;go_wp2_with fail
   go_quiet ((go_at_call 332;exact Calls.quiet_of_same (SZ.out _)))
   go_wp2_with fail
   have zh:ah (Has w (W1.drewN nq) [aF w.heap.size (.cells #[.int .i64 3,.slice (some ⟨g,0,none⟩) fn fc,.slice bA bn bc] 230),aF (w.heap.size+1) (.cells #[.int .i64 s,.int .i64 q] 53)]):=⟨H1.out.drewN nq⟩;clear c1 c2 d0 d1 H1 wz;go_loopw [12,43] (fun _ i wr=>∃(m:Nat),i=.int .i64 m∧m≤bn∧ah (Has w wr [aF w.heap.size (.cells #[.int .i64 3,.slice (some ⟨g,0,none⟩) fn fc,.slice bA bn bc] 230),aF (w.heap.size+1) (.cells #[.int .i64 s,.int .i64 q] 53)])) (fun _ i _=>bn-(intOf i).toNat)
   case atStart=>exact⟨0,rfl,Nat.zero_le _,zh⟩
   case round =>
    clear zh;obtain⟨m,rfl,hm,HS⟩:=hrel;by_cases hlt2:m<bn
    ·obtain⟨t,ht⟩:∃y,ts[m]?=some y:=⟨_,List.getElem?_eq_getElem (by rw[←LB.out];exact hlt2)⟩;obtain⟨gb,hA,gK⟩:=(HB.out.below HS.out.old).get m t ht;have R1:ah (wr.rangeAt gb (m*4) t.cells.toList):=⟨gK⟩;have MT:=ah.mk (ME.out t (HK.out t (List.mem_of_getElem? ht)));subst hA;have H5:ah (Has w (wr.alloc (.cells t.cells 292)) ([aF w.heap.size (.cells #[.int .i64 3,.slice (some ⟨g,0,none⟩) fn fc,.slice (some ⟨gb,0,none⟩) bn bc] 230),aF (w.heap.size+1) (.cells #[.int .i64 s,.int .i64 q] 53)]++[aF wr.heap.size (.cells t.cells 292)])):=⟨HS.out.aZ _⟩;have e0:∀o,(wr.alloc o).cell? ⟨w.heap.size+1,0,none⟩=some (.int .i64 s):=fun o=>ak (au (Below.refl _ _) _) (by rw[aj (HS.out.blk 1 rfl)];rfl);have e1:∀o,(wr.alloc o).cell? ⟨w.heap.size+1,1,none⟩=some (.int .i64 q):=fun o=>ak (au (Below.refl _ _) _) (by rw[aj (HS.out.blk 1 rfl)];rfl);obtain⟨fr,hfr⟩:∃x,x=t.from_:=⟨_,rfl⟩;obtain⟨ti,hti⟩:∃x,x=t.till:=⟨_,rfl⟩;have k0:t.cells[0]?=some (.int .i64 (t.s:Int)):=rfl;have k1:t.cells[1]?=some (.int .i64 (t.q:Int)):=rfl;have k2:t.cells[2]?=some (.int .i64 fr):=by rw[hfr];rfl
     have k3:t.cells[3]?=some (.int .i64 ti):=by rw[hti];rfl
     have kT:=MB t;clear gK ht hfr hti;have H6:=ah.mk (H5.out.drop 2);cases d4:decide (fr<t2)
     ·go_wp2_with (first
       |(refine aB wr.heap.size rfl rfl 292 (.tmp 12) (.tmp 46) rfl t.cells rfl rfl 292 _ kT rfl t.one ?_)|(refine aI rfl 292 (.tmp 45) rfl gb (m*4) rfl t.cells _ R1.out Tryz.underlying292 rfl kT ?_))
      go_roundw
      case rel=>exact⟨m+1,by go_num,by omega,H6⟩
      case measure=>simp[intOf];omega
     ·cases d5:decide (t1<ti)
      ·go_wp2_with (first
        |(refine aB wr.heap.size rfl rfl 292 (.tmp 12) (.tmp 46) rfl t.cells rfl rfl 292 _ kT rfl t.one ?_)|(refine aI rfl 292 (.tmp 45) rfl gb (m*4) rfl t.cells _ R1.out Tryz.underlying292 rfl kT ?_))
       go_roundw
       case rel=>exact⟨m+1,by go_num,by omega,H6⟩
       case measure=>simp[intOf];omega
      ·go_wp2_with (first
        |(go_at_call 358;refine(MT.out _).mono ?_;rintro e w9 ⟨bb,rfl,hb'⟩;have H9:=ah.mk ((H5.out.up hb').drop 2);clear hb';refine ah.out ?_)|(refine aB wr.heap.size rfl rfl 292 (.tmp 12) (.tmp 46) rfl t.cells rfl rfl 292 _ kT rfl t.one ?_)|(refine aI rfl 292 (.tmp 45) rfl gb (m*4) rfl t.cells _ R1.out Tryz.underlying292 rfl kT ?_))
       cases bb
       ·refine ah.mk ?_;go_wp2_with fail
        go_roundw
        case rel=>exact⟨m+1,by go_num,by omega,H9⟩
        case measure=>simp[intOf];omega
       ·refine ah.mk ?_;go_wp2_with fail
        first|go_ret|skip
        rw[←HQ.out];exact⟨false,rfl,H9.out.old⟩
    ·obtain rfl:bn=m:=by omega
     go_wp2_with fail
     first|go_ret|skip
     rw[←HQ.out];exact⟨true,rfl,HS.out.old⟩
  ·refine ah.mk ?_;go_wp2_with fail
   go_quiet ((go_at_call 332;exact Calls.quiet_of_same (SZ.out _)))
   go_wp2_with fail
   first|go_ret|skip
   rw[←HQ.out];exact⟨false,rfl,aC H1.out.old _⟩
 ·have hi':decide ((i:Int)<fn)=false:=decide_eq_false (by omega);refine ah.mk ?_;go_wp2_with fail
  go_quiet ((go_at_call 332;exact Calls.quiet_of_same (SZ.out _)))
  go_wp2_with fail
  have zh:ah (Has w (W1.drewN nq) [aF w.heap.size (.cells #[.int .i64 3,.slice fA fn fc,.slice bA bn bc] 230),aF (w.heap.size+1) (.cells #[.int .i64 s,.int .i64 q] 53)]):=⟨H1.out.drewN nq⟩;clear c1 c2 d0 d1 H1 wz;go_loopw [12,43] (fun _ i wr=>∃(m:Nat),i=.int .i64 m∧m≤bn∧ah (Has w wr [aF w.heap.size (.cells #[.int .i64 3,.slice fA fn fc,.slice bA bn bc] 230),aF (w.heap.size+1) (.cells #[.int .i64 s,.int .i64 q] 53)])) (fun _ i _=>bn-(intOf i).toNat)
  case atStart=>exact⟨0,rfl,Nat.zero_le _,zh⟩
  case round =>
   clear zh;obtain⟨m,rfl,hm,HS⟩:=hrel;by_cases hlt2:m<bn
   ·obtain⟨t,ht⟩:∃y,ts[m]?=some y:=⟨_,List.getElem?_eq_getElem (by rw[←LB.out];exact hlt2)⟩;obtain⟨gb,hA,gK⟩:=(HB.out.below HS.out.old).get m t ht;have R1:ah (wr.rangeAt gb (m*4) t.cells.toList):=⟨gK⟩;have MT:=ah.mk (ME.out t (HK.out t (List.mem_of_getElem? ht)));subst hA;have H5:ah (Has w (wr.alloc (.cells t.cells 292)) ([aF w.heap.size (.cells #[.int .i64 3,.slice fA fn fc,.slice (some ⟨gb,0,none⟩) bn bc] 230),aF (w.heap.size+1) (.cells #[.int .i64 s,.int .i64 q] 53)]++[aF wr.heap.size (.cells t.cells 292)])):=⟨HS.out.aZ _⟩;have e0:∀o,(wr.alloc o).cell? ⟨w.heap.size+1,0,none⟩=some (.int .i64 s):=fun o=>ak (au (Below.refl _ _) _) (by rw[aj (HS.out.blk 1 rfl)];rfl);have e1:∀o,(wr.alloc o).cell? ⟨w.heap.size+1,1,none⟩=some (.int .i64 q):=fun o=>ak (au (Below.refl _ _) _) (by rw[aj (HS.out.blk 1 rfl)];rfl);obtain⟨fr,hfr⟩:∃x,x=t.from_:=⟨_,rfl⟩;obtain⟨ti,hti⟩:∃x,x=t.till:=⟨_,rfl⟩;have k0:t.cells[0]?=some (.int .i64 (t.s:Int)):=rfl;have k1:t.cells[1]?=some (.int .i64 (t.q:Int)):=rfl;have k2:t.cells[2]?=some (.int .i64 fr):=by rw[hfr];rfl
    have k3:t.cells[3]?=some (.int .i64 ti):=by rw[hti];rfl
    have kT:=MB t;clear gK ht hfr hti;have H6:=ah.mk (H5.out.drop 2);cases d4:decide (fr<t2)
    ·go_wp2_with (first
      |(refine aB wr.heap.size rfl rfl 292 (.tmp 12) (.tmp 46) rfl t.cells rfl rfl 292 _ kT rfl t.one ?_)|(refine aI rfl 292 (.tmp 45) rfl gb (m*4) rfl t.cells _ R1.out Tryz.underlying292 rfl kT ?_))
     go_roundw
     case rel=>exact⟨m+1,by go_num,by omega,H6⟩
     case measure=>simp[intOf];omega
    ·cases d5:decide (t1<ti)
     ·go_wp2_with (first
       |(refine aB wr.heap.size rfl rfl 292 (.tmp 12) (.tmp 46) rfl t.cells rfl rfl 292 _ kT rfl t.one ?_)|(refine aI rfl 292 (.tmp 45) rfl gb (m*4) rfl t.cells _ R1.out Tryz.underlying292 rfl kT ?_))
      go_roundw
      case rel=>exact⟨m+1,by go_num,by omega,H6⟩
      case measure=>simp[intOf];omega
     ·go_wp2_with (first
       |(go_at_call 358;refine(MT.out _).mono ?_;rintro e w9 ⟨bb,rfl,hb'⟩;have H9:=ah.mk ((H5.out.up hb').drop 2);clear hb';refine ah.out ?_)|(refine aB wr.heap.size rfl rfl 292 (.tmp 12) (.tmp 46) rfl t.cells rfl rfl 292 _ kT rfl t.one ?_)|(refine aI rfl 292 (.tmp 45) rfl gb (m*4) rfl t.cells _ R1.out Tryz.underlying292 rfl kT ?_))
      cases bb
      ·refine ah.mk ?_;go_wp2_with fail
       go_roundw
       case rel=>exact⟨m+1,by go_num,by omega,H9⟩
       case measure=>simp[intOf];omega
      ·refine ah.mk ?_;go_wp2_with fail
       first|go_ret|skip
       rw[←HQ.out];exact⟨false,rfl,H9.out.old⟩
   ·obtain rfl:bn=m:=by omega
    go_wp2_with fail
    first|go_ret|skip
    rw[←HQ.out];exact⟨true,rfl,HS.out.old⟩
end
end
section
open Go.RowKit
section
variable {w:World}
theorem oh {fA bA:Option Addr}{fn fc bn bc:Nat}{fl:List Int}{ts:List Tk}(hf:bU w 1 encI (.slice fA fn fc) fl)(hb:bU w 4 jX (.slice bA bn bc) ts)(hok:∀t∈ts,t.ok)(h1:fn≤1000)(h2:bn≤1000)(q:Nat)(hq:q≤3)(t1 t2:Int) :
 Calls Tryz.prog 297 #[.agg #[.int .i64 3,.slice fA fn fc,.slice bA bn bc],.int .i64 q,.int .i64 t1,.int .i64 t2] w fun e w'=>∃(s:Nat) (b:Bool),e=.returned (.tuple #[.int .i64 s,.bool b])∧(s≤7∧s%2^q=0)∧Below w.heap.size w w':=by
 refine named fun R HQ=>?_;obtain⟨z,hz⟩:∃z:Nat,z=2^q:=⟨_,rfl⟩;have SZ:=ah.mk fun W=>iH q hq W;have S3:ah (∀W,Calls Tryz.prog 332 #[.int .i64 3] W fun e w'=>e=.returned (.int .i64 8)∧w'=W):=⟨fun W=>iH 3 (by decide) W⟩;have key:ah (∀k,k<8→k%z=0→k+z≤8∧(k+z)%z=0∧1≤z):=⟨fun k h1 h2=>by
  rw[hz]at *;rcases(by omega:q=0∨q=1∨q=2∨q=3)with rfl|rfl|rfl|rfl<;>simp only[Nat.reducePow]at * <;> omega⟩
 rw[←hz]at SZ HQ;have FR:=ah.mk fun(s:Nat) (hs:s≤7) (W:World) (h:Below w.heap.size w W)=>Js (w:=W) (hf.below h) (hb.below h) hok h1 h2 s q hs hq t1 t2;have H0:=ah.mk ((Has.start w).aZ (.cells #[.int .i64 3,.slice fA fn fc,.slice bA bn bc] 230));have q3:¬(3:Int)<q:=by omega
 have q0:¬(q:Int)<0:=by omega
 have z0:0%z=0:=Nat.zero_mod z;have Z0:=ah.mk z0;clear hf hb hok hz z0;go_enter Tryz.func297,Tryz.ntmps297;go_wp2_with fail
 go_loopw [10] (fun i wr=>∃(k:Nat),i=.int .i64 k∧k≤8∧ah (k%z=0)∧ah (Has w wr [aF w.heap.size (.cells #[.int .i64 3,.slice fA fn fc,.slice bA bn bc] 230)])) (fun i _=>8-(intOf i).toNat)
 case atStart=>exact⟨0,rfl,by decide,Z0,H0⟩
 case round =>
  clear H0;obtain⟨k,rfl,hk,HZ,HS⟩:=hrel;have c0:wr.cell? ⟨w.heap.size,0,none⟩=some (.int .i64 3):=by rw[aj (HS.out.blk 0 rfl)];rfl
  have c1:wr.cell? ⟨w.heap.size,1,none⟩=some (.slice fA fn fc):=by rw[aj (HS.out.blk 0 rfl)];rfl
  have c2:wr.cell? ⟨w.heap.size,2,none⟩=some (.slice bA bn bc):=by rw[aj (HS.out.blk 0 rfl)];rfl
  by_cases hlt:k<8
  ·have hlt':(k:Int)<8:=by omega
   obtain⟨hk1,hk2,hz1⟩:=key.out k hlt HZ.out;have HK:=ah.mk hk2;have FX:=ah.mk (FR.out k (by omega) wr HS.out.old);have wz:wrap64 ((k:Int)+z)=((k+z:Nat):Int):=by rw[wrap_in (by omega) (by omega)];omega
   clear hk2;go_wp2_with (first|(go_at_call 336;refine FX.out.mono ?_;rintro e w9 ⟨b,rfl,hb'⟩;have H9:=ah.mk (HS.out.up hb');clear hb';refine ah.out ?_)|(go_at_call 332;refine(S3.out _).mono ?_;rintro e w' ⟨rfl,hw⟩;obtain rfl:=hw.symm;clear hw))
   cases b
   ·refine ah.mk ?_;go_wp2_with (go_at_call 332;refine(SZ.out _).mono ?_;rintro e w' ⟨rfl,hw⟩;obtain rfl:=hw.symm;clear hw)
    go_roundw
    case rel=>exact⟨k+z,by first|rfl|(simp[wz]),hk1,HK,H9⟩
    case measure=>simp[intOf];omega
   ·refine ah.mk ?_;go_wp2_with fail
    first|go_ret2|skip
    rw[←HQ.out];exact⟨k,true,rfl,⟨by omega,HZ.out⟩,H9.out.old⟩
  ·have hlt':decide ((k:Int)<8)=false:=decide_eq_false (by omega);go_wp2_with (go_at_call 332;refine(S3.out _).mono ?_;rintro e w' ⟨rfl,hw⟩;obtain rfl:=hw.symm;clear hw)
   first|go_ret2|skip
   rw[←HQ.out];exact⟨0,false,rfl,⟨by decide,Z0.out⟩,HS.out.old⟩
end
end
end Go.Proofs.YtandhagfhppgaaaGreatDoor
