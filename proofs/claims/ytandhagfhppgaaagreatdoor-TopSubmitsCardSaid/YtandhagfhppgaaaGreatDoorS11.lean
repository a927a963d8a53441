/- Part 11 of a proof: contracts of the functions that the law reaches. No condition. -/
import Derived.Shelf.SlSortCmp.WholeK
import Derived.Test.YtandhagfhppgaaaGreatDoorS9
import Derived.Test.YtandhagfhppgaaaGreatDoorS10
set_option linter.all false
set_option maxRecDepth 100000
set_option maxHeartbeats 16000000
namespace Go.Proofs.YtandhagfhppgaaaGreatDoor
section
open Go.RowKit Go.ChangeMaps
section
variable {κ:Type}[BEq κ][LawfulBEq κ]
def look:List (κ×Value)→κ→Option Value
 |[],_=>none
 |p::l,a=>if a==p.1 then some p.2 else look l a
def store:List (κ×Value)→κ→Value→List (κ×Value)
 |[],a,v=>[(a,v)]
 |p::l,a,v=>if a==p.1 then(p.1,v)::l else p::store l a v
structure vK (kd:TypeDesc)(ke:κ→Value):Prop where
 key:∀a,MapKept.IsKey kd (ke a)
 same:∀a b,Instr.sameNow kd (ke a) (ke b)=some (a==b)
 bits:∀a,Instr.sameBits 10000 (ke a) (ke a)=true
def Fg (es:Array MapEntry)(ke:κ→Value)(l:List (κ×Value)):Prop:=es.toList.map (fun e=>(e.key,e.val))=l.map fun p=>(ke p.1,p.2)
theorem uJ {kd:TypeDesc}{ke:κ→Value}(K:vK kd ke)(a:κ):∀(es:List MapEntry) (l:List (κ×Value)) (i:Nat),es.map (fun e=>(e.key,e.val))=l.map (fun p=>(ke p.1,p.2))→look l a=none→Instr.findNow kd (ke a) es i=some none
 |[],l,i,_,_=>rfl
 |e::es,[],i,h,_=>by simp at h
 |e::es,p::l,i,h,hl=>by
  simp only[List.map_cons,List.cons.injEq,Prod.mk.injEq]at h;unfold look at hl;split at hl
  ·cases hl
  ·rename_i hne
   unfold Instr.findNow;rw[h.1.1,K.same,show(a==p.1)=false by simpa using hne];exact uJ K a es l (i+1) h.2 hl
theorem uK {kd:TypeDesc}{ke:κ→Value}(K:vK kd ke)(a:κ)(v:Value):∀(es:List MapEntry) (l:List (κ×Value)) (i:Nat),es.map (fun e=>(e.key,e.val))=l.map (fun p=>(ke p.1,p.2))→look l a=some v →
 ∃j e,Instr.findNow kd (ke a) es i=some (some (i+j,v))∧es[j]?=some e∧e.key=ke a∧∀u,(es.modify j fun e=>{ e with key:=ke a,val:=u}).map (fun e=>(e.key,e.val))=(store l a u).map fun p=>(ke p.1,p.2)
 |[],[],i,_,h=>by simp[look]at h
 |[],p::l,i,h,_=>by simp at h
 |e::es,[],i,h,_=>by simp at h
 |e::es,p::l,i,h,hl=>by
  simp only[List.map_cons,List.cons.injEq,Prod.mk.injEq]at h;unfold look at hl;split at hl
  ·rename_i he
   cases hl;have hap:a=p.1:=eq_of_beq he;refine⟨0,e,?_,rfl,by rw[h.1.1,hap],fun u=>?_⟩
   ·unfold Instr.findNow;rw[h.1.1,K.same,he,h.1.2];rfl
   ·unfold store;rw[if_pos he];simp[h.2,hap]
  ·rename_i hne
   obtain⟨j,e',h1,h2,h3,h4⟩:=uK K a v es l (i+1) h.2 hl;refine⟨j+1,e',?_,by simpa using h2,h3,fun u=>?_⟩
   ·unfold Instr.findNow;rw[h.1.1,K.same,show(a==p.1)=false by simpa using hne];simp only;rw[h1,show i+1+j=i+(j+1) by omega]
   ·unfold store;rw[if_neg hne];simp[h4 u,h.1]
theorem xJ {a:κ}{u:Value}:∀ {l:List (κ×Value)},look l a=none→store l a u=l++[(a,u)]
 |[],_=>rfl
 |p::l,h=>by
  unfold look at h;split at h
  ·cases h
  ·rename_i hne
   unfold store;rw[if_neg hne,xJ h];rfl
def mapA (b:Nat)(ke:κ→Value)(l:List (κ×Value)):bW :=
 ⟨fun w F=>(∃es clock,w.heap[b]?=some (.map es clock)∧Fg es ke l)∧F b,fun _ _ _ h hk=>⟨by obtain⟨es,cl,h1,h2⟩:=h.1;exact⟨es,cl,(hk b h.2).trans h1,h2⟩,h.2⟩⟩
section
variable {P:Program}{w0 w:World}{L:List bW}{ke:κ→Value}{kd:TypeDesc}
theorem Has.jW (H:Has w0 w L)(ke:κ→Value):Has w0 (w.alloc (.map #[] 0)) (L++[mapA w.heap.size ke []]):=
 H.add (au (Below.refl _ _) _) _ (fun k=>k=w.heap.size) ⟨⟨#[],0,LQ w _,rfl⟩,rfl⟩ fun k e=>by subst e;exact⟨Nat.le_refl _,by simp⟩
theorem dR (K:vK kd ke)(H:Has w0 w L)(i:Nat){b:Nat}{l:List (κ×Value)}(hi:L[i]?=some (mapA b ke l))(t k e:TypeId)(ht:P.underlying t=some (.map k e))(hk:P.underlying k=some kd)(z:Value)(hz:(zeroValue e).run P w=.ok z w)(a:κ)(ok:Bool) :
 (Instr.lookup t (.map (some b)) (ke a) ok).run P w=.ok (if ok then .tuple #[(look l a).getD z,.bool (look l a).isSome]else(look l a).getD z) w:=by
 obtain⟨F,⟨⟨es,cl,hb,hm⟩,_⟩,_⟩:=H.get i _ hi;have hc:∀em,(Instr.checkKey em 10000 k (ke a)).run P w=.ok () w:=fun em=>MapKept.run_checkKey hk (K.key a) em 9999;cases hl:look l a with
 |none =>
  have hf:=uJ K a es.toList l 0 hm hl;cases ok<;>simp[Instr.lookup,run_underlying ht,MapKept.run_getObj_map hb,hc,MapKept.run_findKey hk hf,hz,Result.andThen]
 |some v =>
  obtain⟨j,e',hf,_⟩:=uK K a v es.toList l 0 hm hl;cases ok<;>simp[Instr.lookup,run_underlying ht,MapKept.run_getObj_map hb,hc,MapKept.run_findKey hk hf,hz,Result.andThen]
theorem run_store (K:vK kd ke)(H:Has w0 w L)(i:Nat){b:Nat}{l:List (κ×Value)}(hi:L[i]?=some (mapA b ke l))(t k e:TypeId)(ht:P.underlying t=some (.map k e))(hk:P.underlying k=some kd)(a:κ)(v:Value) :
 ∃w',(Instr.mapUpdate t (.map (some b)) (ke a) v).run P w=.ok () w'∧Has w0 w' (L.set i (mapA b ke (store l a v))):=by
 obtain⟨F,⟨⟨es,cl,hb,hm⟩,hF⟩,h3,hgo⟩:=H.get i _ hi;have hc:∀em,(Instr.checkKey em 10000 k (ke a)).run P w=.ok () w:=fun em=>MapKept.run_checkKey hk (K.key a) em 9999;have hend:∀o:Obj,(∃es clock,o=.map es clock∧Fg es ke (store l a v))→Has w0 (setBlock w b o) (L.set i (mapA b ke (store l a v))):=fun o ⟨es',cl',ho,hm'⟩=>
  hgo _ _ ⟨F,⟨⟨es',cl',by rw[heap_setBlock_same hb,ho],hm'⟩,hF⟩,⟨rfl,rfl,rfl,by simp[setBlock],fun k hk hn=>heap_setBlock_other hb _ fun e=>hn (e▸hF)⟩,fun k hk=>⟨.inl hk,by simp[setBlock];exact(h3 k hk).2⟩⟩
 cases hl:look l a with
 |none =>
  have hf:=uJ K a es.toList l 0 hm hl;refine⟨setBlock w b (.map (es.push { key:=ke a,val:=v,born:=cl}) (cl+1)),?_,hend _ ⟨_,_,rfl,?_⟩⟩
  ·simp[Instr.mapUpdate,run_underlying ht,MapKept.run_getObj_map hb,hc,MapKept.run_findKey hk hf,MapKept.run_setObj_map _ hb,Result.andThen,setBlock]
  ·unfold Fg at hm ⊢;rw[xJ hl];simp[hm]
 |some u =>
  obtain⟨j,e',hf,hj,hkey,hmod⟩:=uK K a u es.toList l 0 hm hl;rw[Nat.zero_add]at hf;have hj2:es[j]?=some e':=by simpa using hj
  refine⟨setBlock w b (.map (es.modify j fun e=>{ e with key:=ke a,val:=v}) cl),?_,hend _ ⟨_,_,rfl,?_⟩⟩
  ·simp[Instr.mapUpdate,run_underlying ht,MapKept.run_getObj_map hb,hc,MapKept.run_findKey hk hf,MapKept.run_setObj_map _ hb,Result.andThen,setBlock,hj2,hkey,Instr.keyThatStays,K.bits]
  ·unfold Fg;rw[Array.toList_modify];exact hmod v
end
end
instance :ReflBEq ByteArray:=⟨fun {a}=>(MapKept.bytes_beq a a).2 rfl⟩
instance :LawfulBEq ByteArray:=⟨fun {a b} h=>(MapKept.bytes_beq a b).1 h⟩
theorem eG:vK (κ:=ByteArray) .string Value.string:=⟨fun a=>by simp[MapKept.IsKey],fun a b=>rfl,fun a=>by simp[Instr.sameBits,MapKept.bytes_beq]⟩
theorem gI (k:IntKind):vK (κ:=Int) (.int k) (Value.int k):=⟨fun a=>by simp[MapKept.IsKey],fun a b=>by simp[Instr.sameNow],fun a=>by simp[Instr.sameBits]⟩
section
variable {P:Program}{ops:Array Oper}{rest:List Oper}{o:Oper}{a:Act}{w w1:World}{Q:Exit→Act→World→Prop}
theorem fH (hg:o.guard=none)(t:TypeId)(m x:Operand)(ok:Bool)(ho:o.op=.lookup t m x ok){mv kv v:Value}(hm:a.eval m=mv)(hx:a.eval x=kv)(hr:(Instr.lookup t mv kv ok).run P w=.ok v w)(h:wpList P ops Q rest (a.put o.dst v) w):wpList P ops Q (o::rest) a w:=by
 refine wpList_plain hg fun K' hK'=>?_;unfold Oper.wp;simp[execOp,ho,hm,hx,hr,Result.andThen];exact hK' _ _ h
theorem kK (hg:o.guard=none)(t:TypeId)(m x y:Operand)(ho:o.op=.mapUpdate t m x y){mv kv v:Value}(hm:a.eval m=mv)(hx:a.eval x=kv)(hy:a.eval y=v)(hr:(Instr.mapUpdate t mv kv v).run P w=.ok () w1)(h:wpList P ops Q rest (a.put o.dst undef) w1):wpList P ops Q (o::rest) a w:=by
 refine wpList_plain hg fun K' hK'=>?_;unfold Oper.wp;simp[execOp,ho,hm,hx,hy,hr,Result.andThen];exact hK' _ _ h
theorem aG (hg:o.guard=none)(t:TypeId)(m x y:Operand)(ho:o.op=.insert t m x y){mv kv v:Value}(hm:a.eval m=mv)(hx:a.eval x=kv)(hy:a.eval y=v)(hr:(Instr.mapUpdate t mv kv v).run P w=.ok () w1)(h:wpList P ops Q rest (a.put o.dst undef) w1):wpList P ops Q (o::rest) a w:=by
 refine wpList_plain hg fun K' hK'=>?_;unfold Oper.wp;simp[execOp,ho,hm,hx,hy,hr,Result.andThen];exact hK' _ _ h
end
end
section
open Go.RowKit
structure Ky where
 prio:Int
 time:Int
 id:Nat
instance :Inhabited Ky:=⟨⟨0,0,0⟩⟩
def dw (k:Ky):List Value:=[.int .i64 k.prio,.int .i64 k.time,.int .u32 k.id]
theorem pK (k:Ky):(dw k).length=3:=rfl
def zk (a b:Int):Int:=if a=0 then b else a
def WR (x y:Ky):Int:=zk (Lib.compareInt y.prio x.prio) (zk (Lib.compareInt x.time y.time) (Lib.compareInt x.id y.id))
section
variable {w:World}
theorem qB (x:Int)(w:World):Calls Tryz.prog 343 #[.int .u32 x] w fun e w'=>e=.returned (.bool false)∧w'=w:=by
 refine named fun R HQ=>?_;go_enter Tryz.func343,Tryz.ntmps343;go_wp2_with fail
 first|go_ret|skip
 rw[←HQ.out];exact⟨by simp,rfl⟩
theorem Ja (x y:Int)(w:World):Calls Tryz.prog 323 #[.int .u32 x,.int .u32 y] w fun e w'=>e=.returned (.int .i64 (Lib.compareInt x y))∧w'=w:=by
 refine named fun R HQ=>?_;by_cases h1:x<y
 ·go_enter Tryz.func323,Tryz.ntmps323;go_wp2_with (go_at_call 343;refine(qB _ _).mono ?_;rintro e w' ⟨rfl,hw⟩;obtain rfl:=hw.symm;clear hw)
  first|go_ret|skip
  rw[←HQ.out];exact⟨by simp[Lib.compareInt,h1],rfl⟩
 ·by_cases h2:y<x
  ·have hd:decide (x<y)=false:=decide_eq_false h1;go_enter Tryz.func323,Tryz.ntmps323;go_wp2_with (go_at_call 343;refine(qB _ _).mono ?_;rintro e w' ⟨rfl,hw⟩;obtain rfl:=hw.symm;clear hw)
   first|go_ret|skip
   rw[←HQ.out];exact⟨by simp[Lib.compareInt,h1,h2],rfl⟩
  ·have hd:decide (x<y)=false:=decide_eq_false h1;have hd2:decide (y<x)=false:=decide_eq_false h2;go_enter Tryz.func323,Tryz.ntmps323;go_wp2_with (go_at_call 343;refine(qB _ _).mono ?_;rintro e w' ⟨rfl,hw⟩;obtain rfl:=hw.symm;clear hw)
   first|go_ret|skip
   rw[←HQ.out];have e0:Lib.compareInt x y=0:=by unfold Lib.compareInt;rw[if_neg (by omega),if_neg (by omega)]
   exact⟨by rw[e0];rfl,rfl⟩
theorem NU {g c:Nat}(x y z:Int)(c0:w.cell? ⟨g,0,none⟩=some (.int .i64 x))(c1:w.cell? ⟨g,1,none⟩=some (.int .i64 y))(c2:w.cell? ⟨g,2,none⟩=some (.int .i64 z)) :
 Calls Tryz.prog 248 #[.slice (some ⟨g,0,none⟩) 3 c] w fun e w'=>e=.returned (.int .i64 (zk x (zk y z)))∧w'=w:=by
 refine named fun R HQ=>?_;by_cases hx:x=0
 ·subst hx;by_cases hy:y=0
  ·subst hy;by_cases hz:z=0
   ·subst hz;go_enter Tryz.func248,Tryz.ntmps248;go_wp2_with fail
    refine wp_loop_rounds 4 ?_;iterate 4
     rw[rounds_succ];go_wp2_with fail
    first|go_ret|skip
    rw[←HQ.out];exact⟨rfl,rfl⟩
   ·have hz2:(z != 0)=true:=by simpa using hz
    have e:zk 0 (zk 0 z)=z:=rfl;rw[e]at HQ;clear hz e;go_enter Tryz.func248,Tryz.ntmps248;go_wp2_with fail
    refine wp_loop_rounds 3 ?_;iterate 3
     rw[rounds_succ];go_wp2_with fail
    first|go_ret|skip
    rw[←HQ.out];exact⟨rfl,rfl⟩
  ·have hy2:(y != 0)=true:=by simpa using hy
   have e:zk 0 (zk y z)=y:=by unfold zk;rw[if_pos rfl,if_neg hy]
   rw[e]at HQ;clear hy e;go_enter Tryz.func248,Tryz.ntmps248;go_wp2_with fail
   refine wp_loop_rounds 2 ?_;iterate 2
    rw[rounds_succ];go_wp2_with fail
   first|go_ret|skip
   rw[←HQ.out];exact⟨rfl,rfl⟩
 ·have hx2:(x != 0)=true:=by simpa using hx
  have e:zk x (zk y z)=x:=by unfold zk;rw[if_neg hx]
  rw[e]at HQ;clear hx e;go_enter Tryz.func248,Tryz.ntmps248;go_wp2_with fail
  refine wp_loop_rounds 1 ?_;rw[rounds_succ];go_wp2_with fail
  first|go_ret|skip
  rw[←HQ.out];exact⟨rfl,rfl⟩
open Go.Sort in
theorem rC (w:World)(o:Obj):w.alloc o=grow w #[o]:=alloc_eq_grow w o
theorem P9 (W:World)(o1 o2 o3:Obj):(((W.alloc o1).alloc o2).drew).alloc o3=Sort.grow (W.drewN 1) #[o1,o2,o3]:=by
 rw[rC,rC,rC];show Sort.grow (Sort.grow (Sort.grow W.drew #[o1]) #[o2]) #[o3]=_
 rw[Sort.grow_grow,Sort.grow_grow];rfl
theorem zB (x y:Ky)(W:World):Calls Tryz.prog 292 #[.agg (dw x).toArray,.agg (dw y).toArray] W fun e w'=>e=.returned (.int .i64 (WR x y))∧∃q os',w'=Sort.grow (W.drewN q) os':=by
 refine named fun R HQ=>?_;obtain⟨xp,xt,xi⟩:=x;obtain⟨yp,yt,yi⟩:=y;have C1:=ah.mk fun V=>Tryz.cmp_Compare_int yp xp V;have C2:=ah.mk fun V=>Tryz.cmp_Compare_int xt yt V;have C3:=ah.mk fun V=>Ja (xi:Int) (yi:Int) V;unfold WR at HQ;simp only at HQ;obtain⟨a,ha⟩:∃a,a=Lib.compareInt yp xp:=⟨_,rfl⟩;obtain⟨b,hb⟩:∃b,b=Lib.compareInt xt yt:=⟨_,rfl⟩;obtain⟨c,hc⟩:∃c,c=Lib.compareInt (xi:Int) (yi:Int):=⟨_,rfl⟩;rw[←ha]at C1 HQ;rw[←hb]at C2 HQ;rw[←hc]at C3 HQ;clear ha hb hc;unfold dw;simp only;go_enter Tryz.func292,Tryz.ntmps292;go_wp2_with fail
 obtain⟨V,hV⟩:∃V,V=(W.alloc (.cells #[.int .i64 xp,.int .i64 xt,.int .u32 xi] 218)).alloc (.cells #[.int .i64 yp,.int .i64 yt,.int .u32 yi] 218):=⟨_,rfl⟩;rw[←hV];have d0:V.cell? ⟨W.heap.size,0,none⟩=some (.int .i64 xp):=by rw[hV,aj ((heap_alloc_old _ _ (by simp)).trans (heap_alloc_new _ _))];rfl
 have d1:V.cell? ⟨W.heap.size,1,none⟩=some (.int .i64 xt):=by rw[hV,aj ((heap_alloc_old _ _ (by simp)).trans (heap_alloc_new _ _))];rfl
 have d2:V.cell? ⟨W.heap.size,2,none⟩=some (.int .u32 xi):=by rw[hV,aj ((heap_alloc_old _ _ (by simp)).trans (heap_alloc_new _ _))];rfl
 have e0:V.cell? ⟨W.heap.size+1,0,none⟩=some (.int .i64 yp):=by rw[hV,aj (heap_alloc2_new _ _ _)];rfl
 have e1:V.cell? ⟨W.heap.size+1,1,none⟩=some (.int .i64 yt):=by rw[hV,aj (heap_alloc2_new _ _ _)];rfl
 have e2:V.cell? ⟨W.heap.size+1,2,none⟩=some (.int .u32 yi):=by rw[hV,aj (heap_alloc2_new _ _ _)];rfl
 have HV:=ah.mk hV;clear hV;refine wp_region_still_tail 15 (by kernel_rfl) (by kernel_rfl) ?_;simp only[List.take_succ_cons,List.take_zero,List.drop_succ_cons,List.drop_zero];repeat still_step
 still_call (C1.out _)
 repeat still_step
 still_call (C2.out _)
 repeat still_step
 still_call (C3.out _)
 repeat still_step
 refine wpStill_nil ?_;change wpList _ _ _ _ _ (World.drew V);have OC:ah (∀cp,Calls Tryz.prog 248 #[.slice (some ⟨V.heap.size,0,none⟩) 3 cp] (V.drew.alloc (.cells #[.int .i64 a,.int .i64 b,.int .i64 c] 3)) fun e w'=>e=.returned (.int .i64 (zk a (zk b c)))∧w'=V.drew.alloc (.cells #[.int .i64 a,.int .i64 b,.int .i64 c] 3)):=⟨fun cp=>NU a b c (by rw[show V.heap.size=V.drew.heap.size from rfl,aj (heap_alloc_new _ _)];rfl) (by rw[show V.heap.size=V.drew.heap.size from rfl,aj (heap_alloc_new _ _)];rfl) (by rw[show V.heap.size=V.drew.heap.size from rfl,aj (heap_alloc_new _ _)];rfl)⟩;go_wp2_with (go_at_call 248;refine(OC.out _).mono ?_;rintro e w' ⟨rfl,hw⟩;have HF:=ah.mk hw;clear hw)
 first|go_ret|skip
 rw[←HQ.out];have hw:w'=(((W.alloc (.cells #[.int .i64 xp,.int .i64 xt,.int .u32 xi] 218)).alloc (.cells #[.int .i64 yp,.int .i64 yt,.int .u32 yi] 218)).drew).alloc (.cells #[.int .i64 a,.int .i64 b,.int .i64 c] 3):=by rw[HF.out,HV.out]
 exact⟨rfl,1,_,hw.trans (P9 W _ _ _)⟩
end
end
section
open Go.RowKit
section
variable {w:World}
theorem iH (q:Nat)(hq:q≤3)(w:World):Calls Tryz.prog 332 #[.int .i64 (q:Int)] w fun e w'=>e=.returned (.int .i64 ((2^q:Nat):Int))∧w'=w:=by
 refine named fun R HQ=>?_;rcases(by omega:q=0∨q=1∨q=2∨q=3)with rfl|rfl|rfl|rfl;all_goals
  go_enter Tryz.func332,Tryz.ntmps332;go_wp2_with fail
  first|go_ret|skip
  rw[←HQ.out];exact⟨rfl,rfl⟩
theorem iI (q:Nat)(hq:q≤3)(w:World):Calls Tryz.prog 130 #[.int .i64 (q:Int)] w fun e w'=>e=.returned (.int .i64 ((2^q:Nat):Int))∧w'=w:=by
 refine named fun R HQ=>?_;rcases(by omega:q=0∨q=1∨q=2∨q=3)with rfl|rfl|rfl|rfl;all_goals
  go_enter Tryz.func130,Tryz.ntmps130;go_wp2_with fail
  first|go_ret|skip
  rw[←HQ.out];exact⟨rfl,rfl⟩
theorem wS (x:Int)(w:World):Calls Tryz.prog 132 #[.int .i64 x] w fun e w'=>e=.returned (.bool false)∧w'=w:=by
 refine named fun R HQ=>?_;go_enter Tryz.func132,Tryz.ntmps132;go_wp2_with fail
 first|go_ret|skip
 rw[←HQ.out];exact⟨by simp,rfl⟩
theorem Qe (x:Int)(w:World):Calls Tryz.prog 184 #[.int .i64 x] w fun e w'=>e=.returned (.bool false)∧w'=w:=by
 refine named fun R HQ=>?_;go_enter Tryz.func184,Tryz.ntmps184;go_wp2_with fail
 first|go_ret|skip
 rw[←HQ.out];exact⟨by simp,rfl⟩
theorem sS (x y:Int)(w:World):Calls Tryz.prog 131 #[.int .i64 x,.int .i64 y] w fun e w'=>e=.returned (.bool (decide (x<y)))∧w'=w:=by
 refine named fun R HQ=>?_;go_enter Tryz.func131,Tryz.ntmps131;go_wp2_with (go_at_call 184;refine(Qe _ _).mono ?_;rintro e w' ⟨rfl,hw⟩;obtain rfl:=hw.symm;clear hw)
 first|go_ret|skip
 rw[←HQ.out];exact⟨by simp,rfl⟩
theorem Jk {A:Option Addr}{n c:Nat}{l:List Int}(x:Int)(hr:bU w 1 encI (.slice A n c) l)(hn:n≤1000000) :
 Calls Tryz.prog 76 #[.slice A n c,.int .i64 x] w fun e w'=>∃(i:Nat) (b:Bool),e=.returned (.tuple #[.int .i64 i,.bool b])∧i≤n∧(b=true→i<n)∧w'=w:=by
 refine named fun R HQ=>?_;have hnl:n=l.length:=hr.len;have HR:=ah.mk hr;have HL:=ah.mk hnl;clear hr hnl;go_enter Tryz.func76,Tryz.ntmps76;go_wp2_with fail
 go_loopw [7,8] (fun i j wr=>∃(k m:Nat),i=.int .i64 k∧j=.int .i64 m∧k≤m∧m≤n∧wr=w) (fun i j _=>(intOf j).toNat-(intOf i).toNat)
 case atStart=>exact⟨0,n,rfl,rfl,Nat.zero_le _,Nat.le_refl _,rfl⟩
 case round =>
  obtain⟨k,m,rfl,rfl,hk,hm,rfl⟩:=hrel;by_cases hlt:k<m
  ·obtain⟨h,hh⟩:∃h,h=(k+m)/2:=⟨_,rfl⟩;obtain⟨y,hy⟩:∃y,l[h]?=some y:=⟨_,List.getElem?_eq_getElem (by rw[←HL.out];omega)⟩;obtain⟨g,hA,gK⟩:=HR.out.get h y hy;have c1:wr.cell? ⟨g,h,none⟩=some (.int .i64 y):=by have:=gK 0 _ rfl;simpa using this
   have hhn:(h:Int)<n:=by omega
   have hmid:((k:Int)+m)/2=h:=by omega
   have HH:=ah.mk hh;subst hA;clear hy gK hh;cases hd:decide (y<x)
   ·go_wp2_with (go_at_call 131;refine(sS _ _ _).mono ?_;rintro e w' ⟨rfl,hw⟩;obtain rfl:=hw.symm;clear hw)
    exact⟨⟨k,h,rfl,rfl,by have:=HH.out;omega,by omega,trivial⟩,by have:=HH.out;simp[intOf];omega⟩
   ·go_wp2_with (go_at_call 131;refine(sS _ _ _).mono ?_;rintro e w' ⟨rfl,hw⟩;obtain rfl:=hw.symm;clear hw)
    exact⟨⟨h+1,m,by go_num,rfl,by have:=HH.out;omega,by omega,trivial⟩,by have:=HH.out;simp[intOf];omega⟩
  ·obtain rfl:k=m:=by omega
   by_cases hkn:k<n
   ·obtain⟨y,hy⟩:∃y,l[k]?=some y:=⟨_,List.getElem?_eq_getElem (by rw[←HL.out];omega)⟩;obtain⟨g,hA,gK⟩:=HR.out.get k y hy;have c1:wr.cell? ⟨g,k,none⟩=some (.int .i64 y):=by have:=gK 0 _ rfl;simpa using this
    have hhn:(k:Int)<n:=by omega
    subst hA;clear hy gK hlt;cases hd:(y==x)
    ·go_wp2_with (go_at_call 132;refine(wS _ _).mono ?_;rintro e w' ⟨rfl,hw⟩;obtain rfl:=hw.symm;clear hw)
     first|go_ret2|skip
     rw[←HQ.out];exact⟨k,false,rfl,hm,(fun h=>by cases h),rfl⟩
    ·go_wp2_with (go_at_call 132;refine(wS _ _).mono ?_;rintro e w' ⟨rfl,hw⟩;obtain rfl:=hw.symm;clear hw)
     first|go_ret2|skip
     rw[←HQ.out];exact⟨k,true,rfl,hm,(fun h=>hkn),rfl⟩
   ·have hkn2:¬(k:Int)<n:=by omega
    go_wp2_with fail
    first|go_ret2|skip
    rw[←HQ.out];exact⟨k,false,rfl,hm,(fun h=>by cases h),rfl⟩
end
end
section
open Go.RowKit
def Pj (l:List Int)(x:Int):Nat→Nat→Nat→Nat
 |0,i,_=>i
 |f+1,i,j=>if i<j then(if l.getD ((i+j)/2) 0<x then Pj l x f ((i+j)/2+1) j else Pj l x f i ((i+j)/2))else i
def bs (l:List Int)(x:Int):Nat:=Pj l x l.length 0 l.length
def kX (l:List Int)(x:Int):Bool:=l[bs l x]?==some x
theorem Jl (l:List Int)(x:Int):∀(f i j:Nat),i≤j→Pj l x f i j≤j
 |0,i,j,h=>h
 |f+1,i,j,h=>by
  unfold Pj;split
  ·split
   ·exact Jl l x f _ _ (by omega)
   ·exact Nat.le_trans (Jl l x f _ _ (by omega)) (by omega)
  ·exact h
theorem Qg (l:List Int)(x:Int)(f i:Nat):Pj l x f i i=i:=by
 cases f with
 |zero=>rfl
 |succ f=>unfold Pj;rw[if_neg (by omega)]
theorem Ap (l:List Int)(x:Int):bs l x≤l.length:=Jl l x _ _ _ (Nat.zero_le _)
theorem xQ {l:List Int}{x:Int}(h:kX l x=true):bs l x<l.length:=by
 unfold kX at h;have h1:l[bs l x]?=some x:=by simpa using h
 exact(List.getElem?_eq_some_iff.1 h1).1
section
variable {w:World}
theorem jO {A:Option Addr}{n c:Nat}{l:List Int}(x:Int)(hr:bU w 1 encI (.slice A n c) l)(hn:n≤100000000) :
 Calls Tryz.prog 76 #[.slice A n c,.int .i64 x] w fun e w'=>e=.returned (.tuple #[.int .i64 (bs l x:Nat),.bool (kX l x)])∧w'=w:=by
 refine named fun R HQ=>?_;have hnl:n=l.length:=hr.len;have HR:=ah.mk hr;have HL:=ah.mk hnl;have hH:∀k,bs l x=k→kX l x=(l[k]?==some x):=fun k h=>by unfold kX;rw[h]
 have HH:=ah.mk hH;obtain⟨r,hrr⟩:∃r,r=bs l x:=⟨_,rfl⟩;have HRR:=ah.mk hrr;have SR:ah (Pj l x n 0 n=r):=⟨by rw[hrr,hnl];rfl⟩;rw[←hrr]at HQ;clear hr hnl hH hrr;go_enter Tryz.func76,Tryz.ntmps76;go_wp2_with fail
 go_loopw [7,8] (fun i j wr=>∃(k m:Nat),i=.int .i64 k∧j=.int .i64 m∧k≤m∧m≤n∧wr=w∧ah (∃f,m-k≤f∧Pj l x f k m=r)) (fun i j _=>(intOf j).toNat-(intOf i).toNat)
 case atStart=>exact⟨0,n,rfl,rfl,Nat.zero_le _,Nat.le_refl _,rfl,⟨n,by omega,SR.out⟩⟩
 case round =>
  clear SR;obtain⟨k,m,rfl,rfl,hk,hm,rfl,SB⟩:=hrel;by_cases hlt:k<m
  ·obtain⟨h,hh⟩:∃h,h=(k+m)/2:=⟨_,rfl⟩;obtain⟨y,hy⟩:∃y,l[h]?=some y:=⟨_,List.getElem?_eq_getElem (by rw[←HL.out];omega)⟩;obtain⟨g,hA,gK⟩:=HR.out.get h y hy;have c1:wr.cell? ⟨g,h,none⟩=some (.int .i64 y):=by have:=gK 0 _ rfl;simpa using this
   have hhn:(h:Int)<n:=by omega
   have hmid:((k:Int)+m)/2=h:=by omega
   have WS:=ah.mk hh;have SB2:ah (∃f,m-k≤f+1∧(if y<x then Pj l x f (h+1) m else Pj l x f k h)=r):=⟨by
    obtain⟨f,hf,hb⟩:=SB.out;cases f with
    |zero=>omega
    |succ f =>
     refine⟨f,hf,?_⟩;unfold Pj at hb;rw[if_pos hlt,←hh]at hb;have : l.getD h 0=y:=by rw[List.getD_eq_getElem?_getD,hy];rfl
     rw[this]at hb;exact hb⟩
   subst hA;clear hy gK hh SB;cases hd:decide (y<x)
   ·go_wp2_with (go_at_call 131;refine(sS _ _ _).mono ?_;rintro e w' ⟨rfl,hw⟩;obtain rfl:=hw.symm;clear hw)
    exact⟨⟨k,h,rfl,rfl,by have:=WS.out;omega,by omega,trivial,⟨by
     obtain⟨f,hf,hb⟩:=SB2.out;rw[if_neg (by simpa using hd)]at hb;exact⟨f,by have:=WS.out;omega,hb⟩⟩⟩,by have:=WS.out;simp[intOf];omega⟩
   ·go_wp2_with (go_at_call 131;refine(sS _ _ _).mono ?_;rintro e w' ⟨rfl,hw⟩;obtain rfl:=hw.symm;clear hw)
    exact⟨⟨h+1,m,by go_num,rfl,by have:=WS.out;omega,by omega,trivial,⟨by
     obtain⟨f,hf,hb⟩:=SB2.out;rw[if_pos (by simpa using hd)]at hb;exact⟨f,by have:=WS.out;omega,hb⟩⟩⟩,by have:=WS.out;simp[intOf];omega⟩
  ·obtain rfl:k=m:=by omega
   have hkr:k=r:=by
    obtain⟨f,_,hb⟩:=SB.out;rw[Qg]at hb;exact hb
   have HK:=HH.out k (by rw[←HRR.out];exact hkr.symm);subst hkr;rw[HK]at HQ;clear HK HH HRR SB;by_cases hkn:k<n
   ·obtain⟨y,hy⟩:∃y,l[k]?=some y:=⟨_,List.getElem?_eq_getElem (by rw[←HL.out];omega)⟩;obtain⟨g,hA,gK⟩:=HR.out.get k y hy;have c1:wr.cell? ⟨g,k,none⟩=some (.int .i64 y):=by have:=gK 0 _ rfl;simpa using this
    have hhn:(k:Int)<n:=by omega
    have hyy:(l[k]?==some x)=(y==x):=by rw[hy];rfl
    rw[hyy]at HQ;subst hA;clear hy gK hlt hyy;cases hd:(y==x)
    ·rw[hd]at HQ;go_wp2_with (go_at_call 132;refine(wS _ _).mono ?_;rintro e w' ⟨rfl,hw⟩;obtain rfl:=hw.symm;clear hw)
     first|go_ret2|skip
     rw[←HQ.out];exact⟨rfl,rfl⟩
    ·rw[hd]at HQ;go_wp2_with (go_at_call 132;refine(wS _ _).mono ?_;rintro e w' ⟨rfl,hw⟩;obtain rfl:=hw.symm;clear hw)
     first|go_ret2|skip
     rw[←HQ.out];exact⟨rfl,rfl⟩
   ·have hkn2:¬(k:Int)<n:=by omega
    have hnone:(l[k]?==some x)=false:=by rw[List.getElem?_eq_none (by have:=HL.out;omega)];rfl
    rw[hnone]at HQ;clear hnone;go_wp2_with fail
    first|go_ret2|skip
    rw[←HQ.out];exact⟨rfl,rfl⟩
end
end
end Go.Proofs.YtandhagfhppgaaaGreatDoor
