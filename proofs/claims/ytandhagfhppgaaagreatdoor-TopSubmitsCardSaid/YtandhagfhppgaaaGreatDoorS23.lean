/- Part 23 of a proof: contracts of the functions that the law reaches. No condition. -/
import Derived.Test.YtandhagfhppgaaaGreatDoorS17
set_option linter.all false
set_option maxRecDepth 100000
set_option maxHeartbeats 16000000
namespace Go.Proofs.YtandhagfhppgaaaGreatDoor
section
open Go.RowKit
section
variable {w:World}
theorem nZ {fA bA:Option Addr}{fn fc bn bc:Nat}{fl:List Int}{ts:List Tk}(hf:bU w 1 encI (.slice fA fn fc) fl)(hb:bU w 4 jX (.slice bA bn bc) ts)(hok:∀t∈ts,t.ok)(h1:fn≤1000)(h2:bn≤1000) :
 Calls Tryz.prog 294 #[.agg #[.int .i64 3,.slice fA fn fc,.slice bA bn bc]] w fun e w'=>∃r:Int,e=.returned (.int .i64 r)∧Below w.heap.size w w':=by
 refine named fun R HQ=>?_;have HF:=ah.mk hf;have HB:=ah.mk hb;have LF:=ah.mk hf.len;have LB:=ah.mk hb.len;have HK:=ah.mk hok;have S3:ah (∀W,Calls Tryz.prog 332 #[.int .i64 3] W fun e w'=>e=.returned (.int .i64 8)∧w'=W):=⟨fun W=>iH 3 (by decide) W⟩;have H0:=ah.mk ((Has.start w).aZ (.cells #[.int .i64 3,.slice fA fn fc,.slice bA bn bc] 230));clear hf hb hok;by_cases h3:300<bn
 ·have h3':(300:Int)<bn:=by omega
  go_enter Tryz.func294,Tryz.ntmps294;go_wp2_with fail
  first|go_ret|skip
  rw[←HQ.out];exact⟨2,rfl,H0.out.old⟩
 ·have h3':¬(300:Int)<bn:=by omega
  go_enter Tryz.func294,Tryz.ntmps294;go_wp2_with fail
  go_loopw [3,25] (fun v i wr=>∃(p:Int) (k:Nat),v=.int .i64 p∧i=.int .i64 k∧k≤fn∧ah (Has w wr [aF w.heap.size (.cells #[.int .i64 3,.slice fA fn fc,.slice bA bn bc] 230)])) (fun _ i _=>fn-(intOf i).toNat)
  case atStart=>exact⟨-1,0,rfl,rfl,Nat.zero_le _,H0⟩
  case round =>
   clear H0;obtain⟨p,k,rfl,rfl,hk,HS⟩:=hrel;have c0:wr.cell? ⟨w.heap.size,0,none⟩=some (.int .i64 3):=by rw[aj (HS.out.blk 0 rfl)];rfl
   by_cases hlt:k<fn
   ·obtain⟨y,hy⟩:∃y,fl[k]?=some y:=⟨_,List.getElem?_eq_getElem (by rw[←LF.out];exact hlt)⟩;obtain⟨g,hA,gK⟩:=(HF.out.below HS.out.old).get k y hy;have c1:wr.cell? ⟨g,k,none⟩=some (.int .i64 y):=by have:=gK 0 _ rfl;simpa using this
    subst hA;clear hy gK;by_cases hp:y≤p
    ·go_wp2_with (go_at_call 332;refine(S3.out _).mono ?_;rintro e w' ⟨rfl,hw⟩;obtain rfl:=hw.symm;clear hw)
     first|go_ret|skip
     rw[←HQ.out];exact⟨2,rfl,HS.out.old⟩
    ·by_cases h8:8≤y
     ·have hd:decide (y≤p)=false:=decide_eq_false hp;have hd8:decide (8≤y)=true:=decide_eq_true h8;go_wp2_with (go_at_call 332;refine(S3.out _).mono ?_;rintro e w' ⟨rfl,hw⟩;obtain rfl:=hw.symm;clear hw)
      first|go_ret|skip
      rw[←HQ.out];exact⟨2,rfl,HS.out.old⟩
     ·have hd:decide (y≤p)=false:=decide_eq_false hp;have hd8:decide (8≤y)=false:=decide_eq_false h8;go_wp2_with (go_at_call 332;refine(S3.out _).mono ?_;rintro e w' ⟨rfl,hw⟩;obtain rfl:=hw.symm;clear hw)
      go_roundw
      case rel=>exact⟨y,k+1,rfl,by go_num,by omega,HS⟩
      case measure=>simp[intOf];omega
   ·obtain rfl:fn=k:=by omega
    have c2:wr.cell? ⟨w.heap.size,2,none⟩=some (.slice bA bn bc):=by rw[aj (HS.out.blk 0 rfl)];rfl
    go_wp2_with fail
    have zh:=HS;clear c0 c2 HS;go_loopw [44] (fun i wr=>∃(k:Nat),i=.int .i64 k∧k≤bn∧ah (Has w wr [aF w.heap.size (.cells #[.int .i64 3,.slice fA fn fc,.slice bA bn bc] 230)])) (fun i _=>bn-(intOf i).toNat)
    case atStart=>exact⟨0,rfl,Nat.zero_le _,zh⟩
    case round =>
     clear zh;obtain⟨m,rfl,hm,HS⟩:=hrel;by_cases hlt2:m<bn
     ·obtain⟨t,ht⟩:∃y,ts[m]?=some y:=⟨_,List.getElem?_eq_getElem (by rw[←LB.out];exact hlt2)⟩;obtain⟨g,hA,gK⟩:=(HB.out.below HS.out.old).get m t ht;have R1:ah (wr.rangeAt g (m*4) t.cells.toList):=⟨gK⟩;have tk:=HK.out t (List.mem_of_getElem? ht);have FT:=ah.mk fun W=>Jo (w:=W) (.slice fA fn fc) (.slice (some ⟨g,0,none⟩) bn bc) t.s t.q tk.s tk.q tk.al;subst hA;have H5:ah (Has w (wr.alloc (.cells t.cells 292)) ([aF w.heap.size (.cells #[.int .i64 3,.slice fA fn fc,.slice (some ⟨g,0,none⟩) bn bc] 230)]++[aF wr.heap.size (.cells t.cells 292)])):=⟨HS.out.aZ _⟩;have e0:∀o,(wr.alloc o).cell? ⟨w.heap.size,0,none⟩=some (.int .i64 3):=fun o=>ak (au (Below.refl _ _) _) (by rw[aj (HS.out.blk 0 rfl)];rfl);have e1:∀o,(wr.alloc o).cell? ⟨w.heap.size,1,none⟩=some (.slice fA fn fc):=fun o=>ak (au (Below.refl _ _) _) (by rw[aj (HS.out.blk 0 rfl)];rfl);have e2:∀o,(wr.alloc o).cell? ⟨w.heap.size,2,none⟩=some (.slice (some ⟨g,0,none⟩) bn bc):=fun o=>ak (au (Below.refl _ _) _) (by rw[aj (HS.out.blk 0 rfl)];rfl);have t0:t.cells[0]?=some (.int .i64 (t.s:Int)):=rfl;have t1:t.cells[1]?=some (.int .i64 (t.q:Int)):=rfl;have kT:=MB t;obtain⟨fr,hfr⟩:∃x,x=t.from_:=⟨_,rfl⟩;obtain⟨ti,hti⟩:∃x,x=t.till:=⟨_,rfl⟩;have F2:ah ((wr.alloc (.cells t.cells 292)).cell? ⟨wr.heap.size,2,none⟩=some (.int .i64 fr)):=⟨by rw[aj (H5.out.blk 1 rfl),hfr];rfl⟩;have F3:ah ((wr.alloc (.cells t.cells 292)).cell? ⟨wr.heap.size,3,none⟩=some (.int .i64 ti)):=⟨by rw[aj (H5.out.blk 1 rfl),hti];rfl⟩;clear gK ht tk hfr hti;cases d1:decide (fr<0)
      ·cases d2:decide (ti≤fr)
       ·cases d3:decide (4398046511104<ti)
        ·go_wp2_with (first|(go_at_call 333;refine(FT.out _).mono ?_;rintro e w9 ⟨rfl,hb'⟩;have g2:w9.cell? ⟨wr.heap.size,2,none⟩=some (.int .i64 fr):=ak hb' F2.out;have g3:w9.cell? ⟨wr.heap.size,3,none⟩=some (.int .i64 ti):=ak hb' F3.out;have H9:=ah.mk ((H5.out.up hb').drop 1);clear hb')|(refine aB wr.heap.size rfl rfl 292 (.tmp 7) (.tmp 47) rfl t.cells rfl rfl 292 _ kT rfl t.one ?_)|(refine aI rfl 292 (.tmp 46) rfl g (m*4) rfl t.cells _ R1.out Tryz.underlying292 rfl kT ?_))
         go_roundw
         case rel=>exact⟨m+1,by go_num,by omega,H9⟩
         case measure=>simp[intOf];omega
        ·go_wp2_with (first|(go_at_call 333;refine(FT.out _).mono ?_;rintro e w9 ⟨rfl,hb'⟩;have g2:w9.cell? ⟨wr.heap.size,2,none⟩=some (.int .i64 fr):=ak hb' F2.out;have g3:w9.cell? ⟨wr.heap.size,3,none⟩=some (.int .i64 ti):=ak hb' F3.out;have H9:=ah.mk ((H5.out.up hb').drop 1);clear hb')|(refine aB wr.heap.size rfl rfl 292 (.tmp 7) (.tmp 47) rfl t.cells rfl rfl 292 _ kT rfl t.one ?_)|(refine aI rfl 292 (.tmp 46) rfl g (m*4) rfl t.cells _ R1.out Tryz.underlying292 rfl kT ?_))
         first|go_ret|skip
         rw[←HQ.out];exact⟨2,rfl,H9.out.old⟩
       ·go_wp2_with (first|(go_at_call 333;refine(FT.out _).mono ?_;rintro e w9 ⟨rfl,hb'⟩;have g2:w9.cell? ⟨wr.heap.size,2,none⟩=some (.int .i64 fr):=ak hb' F2.out;have g3:w9.cell? ⟨wr.heap.size,3,none⟩=some (.int .i64 ti):=ak hb' F3.out;have H9:=ah.mk ((H5.out.up hb').drop 1);clear hb')|(refine aB wr.heap.size rfl rfl 292 (.tmp 7) (.tmp 47) rfl t.cells rfl rfl 292 _ kT rfl t.one ?_)|(refine aI rfl 292 (.tmp 46) rfl g (m*4) rfl t.cells _ R1.out Tryz.underlying292 rfl kT ?_))
        first|go_ret|skip
        rw[←HQ.out];exact⟨2,rfl,H9.out.old⟩
      ·go_wp2_with (first|(go_at_call 333;refine(FT.out _).mono ?_;rintro e w9 ⟨rfl,hb'⟩;have g2:w9.cell? ⟨wr.heap.size,2,none⟩=some (.int .i64 fr):=ak hb' F2.out;have g3:w9.cell? ⟨wr.heap.size,3,none⟩=some (.int .i64 ti):=ak hb' F3.out;have H9:=ah.mk ((H5.out.up hb').drop 1);clear hb')|(refine aB wr.heap.size rfl rfl 292 (.tmp 7) (.tmp 47) rfl t.cells rfl rfl 292 _ kT rfl t.one ?_)|(refine aI rfl 292 (.tmp 46) rfl g (m*4) rfl t.cells _ R1.out Tryz.underlying292 rfl kT ?_))
       first|go_ret|skip
       rw[←HQ.out];exact⟨2,rfl,H9.out.old⟩
     ·obtain rfl:bn=m:=by omega
      go_wp2_with fail
      first|go_ret|skip
      rw[←HQ.out];exact⟨0,rfl,HS.out.old⟩
end
end
end Go.Proofs.YtandhagfhppgaaaGreatDoor
