/- Part 19 of a proof: contracts of the functions that the law reaches. No condition. -/
import Derived.Test.YtandhagfhppgaaaGreatDoorS17
set_option linter.all false
set_option maxRecDepth 100000
set_option maxHeartbeats 16000000
namespace Go.Proofs.YtandhagfhppgaaaGreatDoor
section
open Go.RowKit
def qW:Array Value→Nat→List Value→Array Value
 |cur,_,[]=>cur
 |cur,o,v::r=>qW (cur.setIfInBounds o v) (o+1) r
theorem dS:∀(ys:List Value) (cur:Array Value) (o:Nat),(qW cur o ys).size=cur.size
 |[],_,_=>rfl
 |v::r,cur,o=>by rw[qW,dS r,Array.size_setIfInBounds]
theorem qC:∀(ys:List Value) (cur:Array Value) (o j:Nat),o+ys.length≤cur.size→(qW cur o ys)[j]?=if o≤j∧j<o+ys.length then ys[j-o]? else cur[j]?
 |[],cur,o,j,h=>by rw[qW,if_neg (by simp only[List.length_nil];omega)]
 |v::r,cur,o,j,h=>by
  simp only[List.length_cons]at h;rw[qW,qC r _ (o+1) j (by simp;omega)];by_cases h1:o+1≤j∧j<o+1+r.length
  ·rw[if_pos h1,if_pos (by simp;omega),show j-o=(j-(o+1))+1 by omega,List.getElem?_cons_succ]
  ·rw[if_neg h1];by_cases h2:j=o
   ·subst h2;rw[if_pos (by simp),Nat.sub_self,List.getElem?_cons_zero,Array.getElem?_setIfInBounds_self_of_lt (by omega)]
   ·rw[if_neg (by simp;omega),Array.getElem?_setIfInBounds_ne (by omega)]
theorem FV (cur:Array Value)(o:Nat)(ys:List Value)(h:o+ys.length≤cur.size):(qW cur o ys).toList=cur.toList.take o++ys++cur.toList.drop (o+ys.length):=by
 apply List.ext_getElem?;intro j;rw[Array.getElem?_toList,qC ys cur o j h,List.append_assoc];have ht:(cur.toList.take o).length=o:=by simp;omega
 by_cases h1:o≤j∧j<o+ys.length
 ·rw[if_pos h1,List.getElem?_append_right (by omega),ht,List.getElem?_append_left (by omega)]
 ·rw[if_neg h1];by_cases h2:j<o
  ·rw[List.getElem?_append_left (by omega),List.getElem?_take_of_lt h2,Array.getElem?_toList]
  ·rw[List.getElem?_append_right (by omega),ht,List.getElem?_append_right (by omega),List.getElem?_drop,show o+ys.length+(j-o-ys.length)=j by omega,Array.getElem?_toList]
theorem dO {g:Nat}{e:TypeId}{fr:Nat×Nat}:∀(ys:List Value) (o:Nat) (w:World) (cur:Array Value),w.heap[g]?=some (.cells cur e fr)→(w.setCells g o ys).heap[g]?=some (.cells (qW cur o ys) e fr)
 |[],_,_,_,h=>h
 |v::r,o,w,cur,h=>by
  rw[World.setCells,qW];exact dO r (o+1) _ _ (vg h)
theorem dU {g:Nat}:∀(ys:List Value) (o:Nat) (w:World),Touch (fun k=>k=g) w (w.setCells g o ys)
 |[],_,w=>Touch.refl _ _
 |v::r,o,w=>by
  rw[World.setCells];exact((Touch.lQ (qy w g o v)).mono fun q _ e=>by cases e;rfl).trans (dU r (o+1) _)
section
variable {w0 w:World}{L:List bW}{e:TypeId}{sz:Nat}
theorem pR {v:Value}{n:Nat}{xs:List Value}(H:Has w0 w L)(i:Nat)(hi:L[i]?=some (rowA e sz v n xs))(h0:0<n) :
 ∃g cap cur,v=.slice (some ⟨g,0,none⟩) n cap∧w.heap[g]?=some (.cells cur e (0,0))∧n≤cap∧cap≤maxLen∧cur.size=cap*sz∧cur.toList.take (n*sz)=xs∧xs.length=n*sz:=by
 have h:=H.row i hi;rcases h.2 with⟨_,h1⟩|⟨g,cap,cur,h1,_,h2,h3,h4,h5,h6⟩
 ·omega
 ·exact⟨g,cap,cur,h1,h2,h3,h4,h5,h6,h.1⟩
theorem nN {g n cap:Nat}{xs:List Value}(H:Has w0 w L)(i:Nat)(hi:L[i]?=some (rowA e sz (.slice (some ⟨g,0,none⟩) n cap) n xs)) :
 ∃cur,w.heap[g]?=some (.cells cur e (0,0))∧n≤cap∧cap≤maxLen∧cur.size=cap*sz∧cur.toList.take (n*sz)=xs∧xs.length=n*sz:=by
 have h:=H.row i hi;rcases h.2 with⟨h1,_⟩|⟨g',cap',cur,h1,_,h2,h3,h4,h5,h6⟩
 ·cases h1
 ·injection h1 with e1 e2 e3;injection e1 with e1;injection e1 with e1;subst e1;subst e3;exact⟨cur,h2,h3,h4,h5,h6,h.1⟩
theorem Has.Aq {g n cap:Nat}{xs:List Value}(H:Has w0 w L)(i:Nat)(hi:L[i]?=some (rowA e sz (.slice (some ⟨g,0,none⟩) n cap) n xs))(w1:World)(ht:Touch (fun k=>k=g) w w1)(cur':Array Value)
 (hh:w1.heap[g]?=some (.cells cur' e (0,0))) (hs:cur'.size=cap*sz) (n':Nat) (xs':List Value) (hn:n'≤cap) (hx:cur'.toList.take (n'*sz)=xs'):Has w0 w1 (L.set i (rowA e sz (.slice (some ⟨g,0,none⟩) n' cap) n' xs')):=by
 obtain⟨F,⟨h1,h2⟩,h3,hgo⟩:=H.get i _ hi;have hF:F g:=h2 g rfl;have hcm:cap≤maxLen∧w.heap.size≤w1.heap.size:=by
  obtain⟨cur,_,_,h4,_⟩:=nN H i hi;exact⟨h4,ht.size⟩
 refine hgo _ _ ⟨F,⟨⟨?_,.inr ⟨g,cap,cur',rfl,Nat.zero_le _,hh,hn,hcm.1,hs,hx⟩⟩,fun k hk=>?_⟩,ht.mono fun q _ e=>by rw[e];exact hF,fun q hq=>⟨.inl hq,Nat.lt_of_lt_of_le (h3 q hq).2 hcm.2⟩⟩
 ·rw[←hx,List.length_take,Array.length_toList,hs];exact Nat.min_eq_left (Nat.mul_le_mul_right _ hn)
 ·exact h2 k hk
end
end
section
open Go.RowKit
def mk (s k:Nat):Nat:=(2^k-1)*2^s
def aW (m:Nat):Array Value:=#[.int .u64 (m:Int),.int .u64 0,.int .u64 0,.int .u64 0,.int .u64 0,.int .u64 0,.int .u64 0,.int .u64 0,.int .u64 0,.int .u64 0,.int .u64 0,.int .u64 0,.int .u64 0,.int .u64 0,.int .u64 0,.int .u64 0]
theorem TP:∀s,s≤7→∀k,k≤7→s+k≤7→bits .or .u64 ((mk s k:Nat):Int) ((2^(s+k):Nat):Int)=((mk s (k+1):Nat):Int):=by decide
theorem TQ (s:Nat):mk s 0=0:=by simp[mk]
def yF (m:Nat):Nat:=m%2+m/2%2+m/4%2+m/8%2+m/16%2+m/32%2+m/64%2+m/128%2
def XG (m s q:Nat):Bool:=decide (8<s+2^q)||(bits .and .u64 (m:Int) ((mk s (2^q):Nat):Int)==((m&&&mk s (2^q):Nat):Int)&&bits .or .u64 (m:Int) ((mk s (2^q):Nat):Int)==((m|||mk s (2^q):Nat):Int)&&decide ((m|||mk s (2^q))<256)&&(m&&&mk s (2^q) != 0||decide (yF m+1≤yF (m|||mk s (2^q)))))
theorem QA:((List.range 256).all fun m=>(List.range 8).all fun s=>(List.range 4).all fun q=>XG m s q)=true:=by decide +kernel
theorem uS (m s q:Nat)(hm:m<256)(hq:q≤3)(hs:s+2^q≤8):bits .and .u64 (m:Int) ((mk s (2^q):Nat):Int)=((m&&&mk s (2^q):Nat):Int)∧bits .or .u64 (m:Int) ((mk s (2^q):Nat):Int)=((m|||mk s (2^q):Nat):Int)∧(m|||mk s (2^q))<256∧(m&&&mk s (2^q)=0→yF m+1≤yF (m|||mk s (2^q))):=by
 have h1:1≤2^q:=Nat.one_le_two_pow;have h:=List.all_eq_true.1 (List.all_eq_true.1 (List.all_eq_true.1 QA m (List.mem_range.2 hm)) s (List.mem_range.2 (by omega))) q (List.mem_range.2 (by omega));unfold XG at h;rw[show decide (8<s+2^q)=false by simp;omega]at h;simp only[Bool.false_or,Bool.and_eq_true,beq_iff_eq,decide_eq_true_eq,Bool.or_eq_true,bne_iff_ne,ne_eq]at h;obtain⟨⟨⟨a,b⟩,c⟩,d⟩:=h;exact⟨a,b,c,fun e=>d.resolve_left fun f=>f e⟩
theorem MN (m:Nat):yF m≤8:=by unfold yF;omega
theorem jm (m:Nat):(Tryz.prog.info? 283).map (·.size)=some (aW m).size:=by rw[show(aW m).size=16 from rfl];kernel_rfl
theorem kM (m:Nat):(aW m).all (·.oneCell')=true:=by simp[aW,Value.oneCell']
theorem yG (m m':Nat):(aW m).setIfInBounds 0 (.int .u64 (m':Int))=aW m':=rfl
theorem uT (s q:Nat)(hs:s+2^q≤8)(hq:q≤3)(w:World) :
 Calls Tryz.prog 202 #[.agg #[.int .i64 (s:Int),.int .i64 (q:Int)]] w fun e w'=>e=.returned (.agg (aW (mk s (2^q))))∧Below w.heap.size w w':=by
 refine named fun R HQ=>?_;have H0:=ah.mk ((((Has.start w).aZ (.cells #[.int .i64 (s:Int),.int .i64 (q:Int)] 53)).aZ (.cells (aW 0) 283)).aZ (.cells (aW 0) 283));have hz:((w.alloc (.cells #[.int .i64 (s:Int),.int .i64 (q:Int)] 53)).alloc (.cells (aW 0) 283)).heap.size=w.heap.size+1+1:=by simp
 have hz1:(w.alloc (.cells #[.int .i64 (s:Int),.int .i64 (q:Int)] 53)).heap.size=w.heap.size+1:=by simp
 rw[hz,hz1]at H0;obtain⟨z,TR⟩:∃z:Nat,z=2^q:=⟨_,rfl⟩;have bz:=fP hq;have s1:wrap64 ((2:Int)^min q 64)=(z:Int):=by
  rw[TR];rcases(by omega:q=0∨q=1∨q=2∨q=3)with h|h|h|h<;>rw[h]<;>kernel_rfl
 rw[←TR]at bz hs HQ;have w1:wrap64 ((s:Int)+z)=(s:Int)+z:=wrap_in (by omega) (by omega);clear hz hz1 TR hq;go_enter Tryz.func202,Tryz.ntmps202;go_wp2_with fail
 go_loopw [4] (fun i wr=>∃(v m:Nat),i=.int .i64 (v:Int)∧ah (∃k,v=s+k∧k≤z∧m=mk s k)∧ah (Has w wr [aF w.heap.size (.cells #[.int .i64 (s:Int),.int .i64 (q:Int)] 53),aF (w.heap.size+1) (.cells (aW 0) 283),aF (w.heap.size+1+1) (.cells (aW m) 283)])) (fun i _=>8-(intOf i).toNat)
 case atStart=>exact⟨s,0,rfl,⟨0,rfl,Nat.zero_le _,(TQ s).symm⟩,H0⟩
 case round =>
  clear H0;obtain⟨v,m,rfl,HK,HB⟩:=hrel;have c0:wr.cell? ⟨w.heap.size,0,none⟩=some (.int .i64 (s:Int)):=by rw[aj (HB.out.blk 0 rfl)];rfl
  have c1:wr.cell? ⟨w.heap.size,1,none⟩=some (.int .i64 (q:Int)):=by rw[aj (HB.out.blk 0 rfl)];rfl
  have c2:wr.cell? ⟨w.heap.size+1+1,0,none⟩=some (.int .u64 (m:Nat)):=by rw[aj (HB.out.blk 2 rfl)];rfl
  have c3:wr.frozen? ⟨w.heap.size+1+1,0,none⟩=false:=aJ (HB.out.blk 2 rfl) _;by_cases hlt:v<s+z
  ·have e1:(v:Int)<s+z:=by omega
   have v7:v≤7:=by omega
   have q1:v/64=0:=by omega
   have q2:v%64=v:=by omega
   obtain⟨p,hp⟩:∃p:Nat,p=2^v:=⟨_,rfl⟩;have s2:IntKind.u64.wrap ((2:Int)^v)=(p:Int):=by
    rw[hp];rcases(by omega:v=0∨v=1∨v=2∨v=3∨v=4∨v=5∨v=6∨v=7)with h|h|h|h|h|h|h|h<;>rw[h]<;>first|rfl|decide
   obtain⟨m',hm'⟩:∃m':Nat,bits .or .u64 (m:Int) (p:Int)=(m':Int)∧∃k,v+1=s+k∧k≤z∧m'=mk s k:=by
    obtain⟨k,h1,h2,h3⟩:=HK.out;have hk:k<z:=by omega
    refine⟨mk s (k+1),?_,k+1,by omega,by omega,rfl⟩;rw[h3,hp,h1];exact TP s (by omega) k (by omega) (by omega)
   have s3:=hm'.1;have HK':=ah.mk hm'.2;clear hm' hp;go_wp2_with fail
   go_quiet (fail)
   go_wp2_with fail
   go_region
   all_goals
    go_wp2_with fail
    go_roundw
    case rel=>exact⟨v+1,m',rfl,HK',⟨(HB.out.drewN _).put 2 rfl 0 _ _ (yG m m')⟩⟩
    case measure=>simp[intOf];omega
  ·have e1:¬(v:Int)<s+z:=by omega
   have RX:ah (∀n,(wr.drewN n).rangeAt (w.heap.size+1+1) 0 (aW m).toList):=⟨fun n=>aX ((HB.out.drewN n).blk 2 rfl) 0 _ fun i v h=>by simpa using h⟩;have BX:ah (∀n,(wr.drewN n).heap[w.heap.size + 1]?=some (.cells (aW 0) 283)):=⟨fun n=>(HB.out.drewN n).blk 1 rfl⟩;have oz:=jm m;go_wp2_with fail
   go_quiet (fail)
   go_wp2_with (first|(refine aY rfl 283 (.tmp 2) (.tmp 26) rfl (w.heap.size+1) (aW m) rfl rfl 283 _ (BX.out _) oz rfl (kM m) ?_)|(refine aI rfl 283 (.tmp 3) rfl (w.heap.size+1+1) 0 rfl (aW m) _ (RX.out _) Tryz.underlying283 rfl oz ?_))
   have hg:=setRow_heap (wr.drewN nq) (w.heap.size+1) _ (aW m) 283 (0,0) (BX.out _);refine bodyPost_ret (results_cell_row rfl _ _ (w.heap.size+1) 283 (aW m) (0,0) _ (by rfl) hg Tryz.underlying283 rfl (by kernel_rfl)) rfl ?_;rw[←HQ.out];obtain⟨k,h1,h2,h3⟩:=HK.out;have hk:k=z:=by omega
   exact⟨by rw[h3,hk],below_setRow ((HB.out.drewN _).old) (by omega) _⟩
theorem wY (m i:Nat)(h1:1≤i)(h2:i<16):(aW m)[i]?=some (.int .u64 0):=by
 rcases(by omega:i=1∨i=2∨i=3∨i=4∨i=5∨i=6∨i=7∨i=8∨i=9∨i=10∨i=11∨i=12∨i=13∨i=14∨i=15)with h|h|h|h|h|h|h|h|h|h|h|h|h|h|h<;>subst h<;>rfl
theorem AY (m i:Nat)(h1:1≤i)(h2:i<16):(aW m).setIfInBounds i (.int .u64 0)=aW m:=by
 rcases(by omega:i=1∨i=2∨i=3∨i=4∨i=5∨i=6∨i=7∨i=8∨i=9∨i=10∨i=11∨i=12∨i=13∨i=14∨i=15)with h|h|h|h|h|h|h|h|h|h|h|h|h|h|h<;>subst h<;>rfl
theorem JI (m k r:Nat)(hr:bits .and .u64 (m:Int) (k:Int)=(r:Int))(w:World) :
 Calls Tryz.prog 245 #[.agg (aW m),.agg (aW k)] w fun e w'=>e=.returned (.agg (aW r))∧Below w.heap.size w w':=by
 refine named fun R HQ=>?_;have H0:=ah.mk ((((Has.start w).aZ (.cells (aW m) 283)).aZ (.cells (aW k) 283)).aZ (.cells (aW 0) 283));have hz:((w.alloc (.cells (aW m) 283)).alloc (.cells (aW k) 283)).heap.size=w.heap.size+1+1:=by simp
 have hz1:(w.alloc (.cells (aW m) 283)).heap.size=w.heap.size+1:=by simp
 rw[hz,hz1]at H0;have h0:bits .and .u64 0 0=0:=by decide
 clear hz hz1;go_enter Tryz.func245,Tryz.ntmps245;go_wp2_with fail
 go_loopw [6] (fun i wr=>∃v:Nat,i=.int .i64 (v:Int)∧v≤16∧ah (∃m',(v=0→m'=m)∧(1≤v→m'=r)∧Has w wr [aF w.heap.size (.cells (aW m') 283),aF (w.heap.size+1) (.cells (aW k) 283),aF (w.heap.size+1+1) (.cells (aW 0) 283)])) (fun i _=>16-(intOf i).toNat)
 case atStart=>exact⟨0,rfl,by omega,⟨m,fun _=>rfl,fun h=>by omega,H0.out⟩⟩
 case round =>
  clear H0;obtain⟨v,rfl,hv,HB⟩:=hrel;by_cases hlt:v<16
  ·obtain⟨x,y,x',c2,d2,c3,hx,HX⟩:∃x y x':Int,wr.cell? ⟨w.heap.size,v,none⟩=some (.int .u64 x)∧wr.cell? ⟨w.heap.size+1,v,none⟩=some (.int .u64 y)∧wr.frozen? ⟨w.heap.size,v,none⟩=false∧bits .and .u64 x y=x'∧ah (∀q,Has w ((wr.drewN q).setCell ⟨w.heap.size,v,none⟩ (.int .u64 x')) [aF w.heap.size (.cells (aW r) 283),aF (w.heap.size+1) (.cells (aW k) 283),aF (w.heap.size+1+1) (.cells (aW 0) 283)]):=by
    obtain⟨m',h1,h2,H⟩:=HB.out;by_cases e:v=0
    ·subst e;rw[h1 rfl]at H;exact⟨m,k,r,by rw[aj (H.blk 0 rfl)];rfl,by rw[aj (H.blk 1 rfl)];rfl,aJ (H.blk 0 rfl) _,hr,⟨fun q=>(H.drewN q).put 0 rfl 0 _ _ (yG m r)⟩⟩
    ·rw[h2 (by omega)]at H;exact⟨0,0,0,by rw[aj (H.blk 0 rfl),wY _ v (by omega) hlt],by rw[aj (H.blk 1 rfl),wY _ v (by omega) hlt],aJ (H.blk 0 rfl) _,h0,⟨fun q=>(H.drewN q).put 0 rfl v _ _ (AY r v (by omega) hlt)⟩⟩
   have e1:(v:Int)<16:=by omega
   clear HB hr h0;go_wp2_with fail
   go_region
   all_goals
    go_wp2_with fail
    go_roundw
    case rel=>exact⟨v+1,rfl,by omega,⟨r,fun h=>by omega,fun _=>rfl,HX.out _⟩⟩
    case measure=>simp[intOf];omega
  ·have e1:¬(v:Int)<16:=by omega
   obtain⟨m',h1,h2,H⟩:=HB.out;rw[h2 (by omega)]at H;have RX:ah (wr.rangeAt w.heap.size 0 (aW r).toList):=⟨aX (H.blk 0 rfl) 0 _ fun i v h=>by simpa using h⟩;have BX:ah (wr.heap[w.heap.size+1 + 1]?=some (.cells (aW 0) 283)):=⟨H.blk 2 rfl⟩;have HH:=ah.mk H;have oz:=jm r;clear H h1 h2 HB hr h0;go_wp2_with (first|(refine aY rfl 283 (.tmp 4) (.tmp 18) rfl (w.heap.size+1+1) (aW r) rfl rfl 283 _ BX.out oz rfl (kM r) ?_)|(refine aI rfl 283 (.tmp 2) rfl w.heap.size 0 rfl (aW r) _ RX.out Tryz.underlying283 rfl oz ?_))
   have hg:=setRow_heap wr (w.heap.size+1+1) _ (aW r) 283 (0,0) BX.out;refine bodyPost_ret (results_cell_row rfl _ _ (w.heap.size+1+1) 283 (aW r) (0,0) _ (by rfl) hg Tryz.underlying283 rfl (by kernel_rfl)) rfl ?_;rw[←HQ.out];exact⟨rfl,below_setRow HH.out.old (by omega) _⟩
theorem AZ (m k r:Nat)(hr:bits .or .u64 (m:Int) (k:Int)=(r:Int))(w:World) :
 Calls Tryz.prog 210 #[.agg (aW m),.agg (aW k)] w fun e w'=>e=.returned (.agg (aW r))∧Below w.heap.size w w':=by
 refine named fun R HQ=>?_;have H0:=ah.mk ((((Has.start w).aZ (.cells (aW m) 283)).aZ (.cells (aW k) 283)).aZ (.cells (aW 0) 283));have hz:((w.alloc (.cells (aW m) 283)).alloc (.cells (aW k) 283)).heap.size=w.heap.size+1+1:=by simp
 have hz1:(w.alloc (.cells (aW m) 283)).heap.size=w.heap.size+1:=by simp
 rw[hz,hz1]at H0;have h0:bits .or .u64 0 0=0:=by decide
 clear hz hz1;go_enter Tryz.func210,Tryz.ntmps210;go_wp2_with fail
 go_loopw [6] (fun i wr=>∃v:Nat,i=.int .i64 (v:Int)∧v≤16∧ah (∃m',(v=0→m'=m)∧(1≤v→m'=r)∧Has w wr [aF w.heap.size (.cells (aW m') 283),aF (w.heap.size+1) (.cells (aW k) 283),aF (w.heap.size+1+1) (.cells (aW 0) 283)])) (fun i _=>16-(intOf i).toNat)
 case atStart=>exact⟨0,rfl,by omega,⟨m,fun _=>rfl,fun h=>by omega,H0.out⟩⟩
 case round =>
  clear H0;obtain⟨v,rfl,hv,HB⟩:=hrel;by_cases hlt:v<16
  ·obtain⟨x,y,x',c2,d2,c3,hx,HX⟩:∃x y x':Int,wr.cell? ⟨w.heap.size,v,none⟩=some (.int .u64 x)∧wr.cell? ⟨w.heap.size+1,v,none⟩=some (.int .u64 y)∧wr.frozen? ⟨w.heap.size,v,none⟩=false∧bits .or .u64 x y=x'∧ah (∀q,Has w ((wr.drewN q).setCell ⟨w.heap.size,v,none⟩ (.int .u64 x')) [aF w.heap.size (.cells (aW r) 283),aF (w.heap.size+1) (.cells (aW k) 283),aF (w.heap.size+1+1) (.cells (aW 0) 283)]):=by
    obtain⟨m',h1,h2,H⟩:=HB.out;by_cases e:v=0
    ·subst e;rw[h1 rfl]at H;exact⟨m,k,r,by rw[aj (H.blk 0 rfl)];rfl,by rw[aj (H.blk 1 rfl)];rfl,aJ (H.blk 0 rfl) _,hr,⟨fun q=>(H.drewN q).put 0 rfl 0 _ _ (yG m r)⟩⟩
    ·rw[h2 (by omega)]at H;exact⟨0,0,0,by rw[aj (H.blk 0 rfl),wY _ v (by omega) hlt],by rw[aj (H.blk 1 rfl),wY _ v (by omega) hlt],aJ (H.blk 0 rfl) _,h0,⟨fun q=>(H.drewN q).put 0 rfl v _ _ (AY r v (by omega) hlt)⟩⟩
   have e1:(v:Int)<16:=by omega
   clear HB hr h0;go_wp2_with fail
   go_region
   all_goals
    go_wp2_with fail
    go_roundw
    case rel=>exact⟨v+1,rfl,by omega,⟨r,fun h=>by omega,fun _=>rfl,HX.out _⟩⟩
    case measure=>simp[intOf];omega
  ·have e1:¬(v:Int)<16:=by omega
   obtain⟨m',h1,h2,H⟩:=HB.out;rw[h2 (by omega)]at H;have RX:ah (wr.rangeAt w.heap.size 0 (aW r).toList):=⟨aX (H.blk 0 rfl) 0 _ fun i v h=>by simpa using h⟩;have BX:ah (wr.heap[w.heap.size+1 + 1]?=some (.cells (aW 0) 283)):=⟨H.blk 2 rfl⟩;have HH:=ah.mk H;have oz:=jm r;clear H h1 h2 HB hr h0;go_wp2_with (first|(refine aY rfl 283 (.tmp 4) (.tmp 18) rfl (w.heap.size+1+1) (aW r) rfl rfl 283 _ BX.out oz rfl (kM r) ?_)|(refine aI rfl 283 (.tmp 2) rfl w.heap.size 0 rfl (aW r) _ RX.out Tryz.underlying283 rfl oz ?_))
   have hg:=setRow_heap wr (w.heap.size+1+1) _ (aW r) 283 (0,0) BX.out;refine bodyPost_ret (results_cell_row rfl _ _ (w.heap.size+1+1) 283 (aW r) (0,0) _ (by rfl) hg Tryz.underlying283 rfl (by kernel_rfl)) rfl ?_;rw[←HQ.out];exact⟨rfl,below_setRow HH.out.old (by omega) _⟩
theorem TS (r:Nat)(w:World):(Op.equalIn 10000 283 (.agg (aW r)) (.agg #[.int .u64 0,.int .u64 0,.int .u64 0,.int .u64 0,.int .u64 0,.int .u64 0,.int .u64 0,.int .u64 0,.int .u64 0,.int .u64 0,.int .u64 0,.int .u64 0,.int .u64 0,.int .u64 0,.int .u64 0,.int .u64 0])).run Tryz.prog w=.ok (decide (r=0)) w:=by
 cases r with
 |zero=>kernel_rfl
 |succ r =>
  rw[show decide (r+1=0)=false by simp];kernel_rfl
theorem tY (m k r:Nat)(hr:bits .and .u64 (m:Int) (k:Int)=(r:Int))(w:World) :
 Calls Tryz.prog 201 #[.agg (aW m),.agg (aW k)] w fun e w'=>e=.returned (.bool (decide (r≠0)))∧Below w.heap.size w w':=by
 refine named fun R HQ=>?_;have B:=ah.mk (au (au (Below.refl w.heap.size w) (.cells (aW m) 283)) (.cells (aW k) 283));have R1:ah (((w.alloc (.cells (aW m) 283)).alloc (.cells (aW k) 283)).rangeAt w.heap.size 0 (aW m).toList):=⟨aX ((heap_alloc_old _ _ (by simp)).trans (heap_alloc_new _ _)) 0 _ fun i v h=>by simpa using h⟩;have R2:ah (((w.alloc (.cells (aW m) 283)).alloc (.cells (aW k) 283)).rangeAt (w.heap.size+1) 0 (aW k).toList):=⟨aX (heap_alloc2_new w _ _) 0 _ fun i v h=>by simpa using h⟩;have i1:=jm m;have i2:=jm k;have AC:=ah.mk (JI m k r hr);have CE:=fun W=>TS r W;go_enter Tryz.func201,Tryz.ntmps201;go_wp2_with (first|(go_at_call 245;refine(AC.out _).mono ?_;rintro e w2 ⟨rfl,hb⟩;have B2:=ah.mk (ay B.out B.out.size hb);clear hb)|(refine aI rfl 283 (.tmp 3) rfl (w.heap.size+1) 0 rfl (aW k) _ R2.out Tryz.underlying283 rfl i2 ?_)|(refine aI rfl 283 (.tmp 2) rfl w.heap.size 0 rfl (aW m) _ R1.out Tryz.underlying283 rfl i1 ?_))
 first|go_ret|skip
 rw[←HQ.out];exact⟨by simp,B2.out⟩
end
end Go.Proofs.YtandhagfhppgaaaGreatDoor
