/- Part 17 of a proof: contracts of the functions that the law reaches. No condition. -/
import Derived.Test.YtandhagfhppgaaaGreatDoorS11
import Derived.Test.YtandhagfhppgaaaGreatDoorS14
import Derived.Test.YtandhagfhppgaaaGreatDoorS15
import Derived.Test.YtandhagfhppgaaaGreatDoorS16
set_option linter.all false
set_option maxRecDepth 100000
set_option maxHeartbeats 16000000
namespace Go.Proofs.YtandhagfhppgaaaGreatDoor
section
open Go.RowKit
structure Ak where
 id:Nat
 since:Nat
 size:Nat
 share:Int
def Ak.cells (a:Ak):Array Value:=CW a.id a.since a.size a.share
def FI (a:Ak):List Value:=a.cells.toList
theorem NV (a:Ak):(FI a).length=7:=rfl
structure Ak.ok (a:Ak):Prop where
 id:1≤a.id
 size:1≤a.size
 most:a.size≤8
theorem Ak.one (a:Ak):a.cells.all (·.oneCell')=true:=by simp[Ak.cells,CW,Value.oneCell']
theorem Ak.Xu (a:Ak):a.cells.size=7:=rfl
theorem VA (a:Ak):(Tryz.prog.info? 277).map (·.size)=some a.cells.size:=by rw[Ak.Xu];kernel_rfl
theorem VB:(Tryz.prog.info? 28).map (·.size)=some nC.size:=by rw[show nC.size=5 from rfl];kernel_rfl
section
variable {w0 w W:World}{L:List bW}{ops:Array Oper}{rest:List Oper}{o:Oper}{a:Act}{Q:Exit→Act→World→Prop}
theorem dn {α:Type}{enc:α→List Value}(t:TypeId)(s x:Operand)(hgd:o.guard=none)(ho:o.op=.call { callee:=.builtin .append,args:=#[s,x],argTypes:=#[t,t]})(H:Has w0 W L)(i:Nat){e:TypeId}{sz:Nat}{v:Value}{l:List α}(hi:L[i]?=some (aV e sz enc v l))(m:Nat)(hm:m=l.length)(ht:Tryz.prog.underlying t=some (.slice e))
 (hinfo:∃i0 z,Tryz.prog.info? e=some i0∧i0.zero=some z∧i0.size=sz∧i0.bytes≤1000∧z.cells.size=sz) (h0:0<sz) (hn:m≤4000000000) (hs:a.eval s=v) (hx:a.eval x=.slice (some ⟨W.heap.size,0,none⟩) 1 1) (y:α) (ys:Array Value) (hys:ys.toList=enc y) (hsz:ys.size=sz) (h1:ys.all (·.oneCell')=true)
 (h:∀A1 c1 w1,Has w0 w1 (L.set i (aV e sz enc (.slice A1 (m+1) c1) (l++[y])))→wpList Tryz.prog ops Q rest (a.put o.dst (.slice A1 (m+1) c1)) w1):wpList Tryz.prog ops Q (o::rest) a (W.alloc (.cells ys e)):=by
 subst hm;exact Fj t s x hgd ho H i hi ht hinfo h0 hn hs hx y ys hys hsz h1 h
end
section
variable {w:World}
theorem Jd {A:Option Addr}{n c:Nat}{VD:List Ak}(now:Nat)(hr:bU w 7 FI (.slice A n c) VD)(hok:∀a∈VD,a.ok)(hn:n≤1000)(dB:now≤1000000) :
 Calls Tryz.prog 198 #[.agg nC,.slice A n c,.int .i64 now,.int .i64 8] w fun e w'=>∃(A2:Option Addr) (n2 c2:Nat) (r:Int) (ks:List Ky),e=.returned (.tuple #[.slice A2 n2 c2,.int .i64 r])∧(∀k∈ks,∃a∈VD,a.id=k.id)∧Has w w' [aV 218 3 dw (.slice A2 n2 c2) ks]∧n2=ks.length∧n2≤n:=by
 refine named fun R HQ=>?_;have hnl:n=VD.length:=hr.len;have HR:=ah.mk hr;have HK:=ah.mk hok;have HN:=ah.mk dB;have HL:=ah.mk hnl;have PC:=ah.mk fun W id since size f h1 h2 h3=>I9 (w:=W) id since size now f h1 h2 h3 dB;have HH0:ah (Has w (w.alloc (.cells nC 28)) [aF w.heap.size (.cells nC 28),aV 218 3 dw (.slice none 0 0) []]):=⟨((Has.start w).aZ _).nilRow 218 3 dw⟩;clear hr hok dB hnl;unfold nC at *;go_enter Tryz.func198,Tryz.ntmps198;go_wp2_with fail
 go_loopw [10,17] (fun v i wr=>∃(k:Nat) (A1:Option Addr) (c1:Nat) (ks:List Ky),v=.slice A1 k c1∧i=.int .i64 k∧k≤n∧ah (k=ks.length∧∀x∈ks,∃a∈VD,a.id=x.id)∧ah (Has w wr [aF w.heap.size (.cells #[.int .i64 0,.int .i64 0,.int .i64 0,.int .i64 0,.int .i64 0] 28),aV 218 3 dw (.slice A1 k c1) ks])) (fun _ i _=>n-(intOf i).toNat)
 case atStart=>exact⟨0,none,0,[],rfl,rfl,Nat.zero_le _,⟨rfl,fun x h=>by cases h⟩,HH0⟩
 case round =>
  clear HH0;obtain⟨k,A1,c1,ks,rfl,rfl,hk,HM,HS⟩:=hrel;by_cases hlt:k<n
  ·obtain⟨x,hx⟩:∃x,VD[k]?=some x:=⟨_,List.getElem?_eq_getElem (by rw[←HL.out];exact hlt)⟩;obtain⟨b,hA2,hxr⟩:=(HR.out.below HS.out.old).get k x hx;subst hA2;have R1:ah (wr.rangeAt b (k*7) x.cells.toList):=⟨hxr⟩;have hxm:=List.mem_of_getElem? hx;have hxk:=HK.out x hxm;have PX:ah (∀W,Calls Tryz.prog 243 #[.agg #[.int .i64 0,.int .i64 0,.int .i64 0,.int .i64 0,.int .i64 0],.agg x.cells,.int .i64 now,.int .i64 8] W fun e w'=>(∃p r:Int,e=.returned (.tuple #[.int .i64 p,.int .i64 r]))∧Below W.heap.size W w'):=⟨fun W=>PC.out W x.id x.since x.size x.share hxk.id hxk.size hxk.most⟩;have HX:=ah.mk hxm;have x0:x.cells[0]?=some (.int .u32 (x.id:Int)):=rfl;have x1:x.cells[1]?=some (.int .i64 (x.since:Int)):=rfl;have VE:=VA x;clear hxr hx hxk hxm;have R2:ah (Has w (wr.alloc (.cells x.cells 277)) ([aF w.heap.size (.cells #[.int .i64 0,.int .i64 0,.int .i64 0,.int .i64 0,.int .i64 0] 28),aV 218 3 dw (.slice A1 k c1) ks]++[aF wr.heap.size (.cells x.cells 277)])):=⟨HS.out.aZ _⟩;go_wp2_with (first|(go_at_call 243;have _t:=PX.out;clear _t;refine(PX.out _).mono ?_;rintro e w9 ⟨⟨p,r,rfl⟩,hb'⟩;have H9:=ah.mk (R2.out.up hb');clear hb';refine ah.out ?_)|(refine aI rfl 277 (.tmp 12) rfl wr.heap.size 0 rfl x.cells _ (aX (R2.out.blk 2 rfl) 0 _ (fun i v h=>by simpa using h)) Tryz.underlying277 rfl VE ?_)|(refine aI rfl 28 (.tmp 4) rfl w.heap.size 0 rfl #[.int .i64 0,.int .i64 0,.int .i64 0,.int .i64 0,.int .i64 0] _ (aX (R2.out.blk 0 rfl) 0 _ (fun i v h=>by simpa using h)) Tryz.underlying28 rfl VB ?_)|(refine aB wr.heap.size rfl rfl 277 (.tmp 12) (.tmp 20) rfl x.cells rfl rfl 277 _ VE rfl x.one ?_)|(refine aI rfl 277 (.tmp 19) rfl b (k*7) rfl x.cells _ R1.out Tryz.underlying277 rfl VE ?_))
   have c0:w9.cell? ⟨wr.heap.size,0,none⟩=some (.int .u32 (x.id:Int)):=by rw[aj (H9.out.blk 2 rfl)];rfl
   have c1':w9.cell? ⟨wr.heap.size,1,none⟩=some (.int .i64 (x.since:Int)):=by rw[aj (H9.out.blk 2 rfl)];rfl
   by_cases hr0:r=0
   ·subst hr0;refine ah.mk ?_;go_wp2_with (at_builtin;refine dn 215 (.tmp 32) (.tmp 39) rfl rfl H9.out 1 rfl k HM.out.1 Tryz.underlying215 LW (by decide) (by omega) rfl rfl (⟨p,x.since,x.id⟩:Ky) _ rfl rfl (by simp[Value.oneCell']) ?_;intro A5 c5 w5 h5;have H5:=ah.mk (h5.drop 2);clear h5)
    go_roundw
    case rel =>
     refine⟨k+1,A5,c5,ks++[(⟨p,(x.since:Int),x.id⟩:Ky)],by go_num,by go_num,by omega,⟨by have:=HM.out.1;simp;omega,fun y hy=>?_⟩,⟨H5.out⟩⟩;rcases List.mem_append.1 hy with h|h
     ·exact HM.out.2 y h
     ·obtain rfl:y=_:=List.mem_singleton.1 h;exact⟨x,HX.out,rfl⟩
    case measure=>simp[intOf];omega
   ·have hz:(r != 0)=true:=by simpa using hr0
    refine ah.mk ?_;go_wp2_with fail
    first|go_ret2|skip
    rw[←HQ.out];exact⟨none,0,0,r,[],rfl,(fun k hk=>by cases hk),((H9.out.drop 2).drop 1).drop 0 |>.nilRow 218 3 dw,rfl,Nat.zero_le _⟩
  ·obtain rfl:k=n:=by omega
   have RS:=ah.mk (FH HS.out 1 rfl HM.out.1 (by omega));go_wp2_with (go_at_call 244;refine RS.out.mono ?_;rintro e w2 ⟨A2,n2,c2,r,ks',rfl,hks,h2,hn2⟩;have H2:=ah.mk h2;have HK2:=ah.mk hks;have NW:=ah.mk hn2;clear h2 hks hn2)
   first|go_ret2|skip
   rw[←HQ.out];exact⟨A2,n2,c2,r,ks',rfl,(fun y hy=>HM.out.2 y (HK2.out y hy)),(H2.out.drop 1).drop 0,NW.out⟩
end
end
section
open Go.RowKit
section
variable {w:World}
theorem N8 (b:Nat)(h:w.cell? ⟨b,6,none⟩=some (.string bC)) :
 Calls Tryz.prog 197 #[.agg dV,.pointer (some ⟨b,0,none⟩)] w fun e w'=>e=.returned (.bool true)∧Below w.heap.size w w':=by
 have hb:∀o,(w.alloc o).cell? ⟨b,6,none⟩=some (.string bC):=fun o=>ak (au (Below.refl _ _) _) h;have hs:=Xh;unfold dV;clear h;go_enter Tryz.func197,Tryz.ntmps197;go_wp2_with fail
 go_ret;exact⟨by simp[hs],au (Below.refl _ _) _⟩
theorem N9 (b:Nat)(h:w.cell? ⟨b,6,none⟩=some (.string dZ)) :
 Calls Tryz.prog 197 #[.agg dV,.pointer (some ⟨b,0,none⟩)] w fun e w'=>e=.returned (.bool false)∧Below w.heap.size w w':=by
 have hb:∀o,(w.alloc o).cell? ⟨b,6,none⟩=some (.string dZ):=fun o=>ak (au (Below.refl _ _) _) h;have hs:=Xj;unfold dV;clear h;go_enter Tryz.func197,Tryz.ntmps197;go_wp2_with fail
 go_ret;exact⟨by simp[hs],au (Below.refl _ _) _⟩
theorem Oa (b:Nat)(h:w.cell? ⟨b,6,none⟩=some (.string dZ)) :
 Calls Tryz.prog 197 #[.agg fQ,.pointer (some ⟨b,0,none⟩)] w fun e w'=>e=.returned (.bool true)∧Below w.heap.size w w':=by
 have hb:∀o,(w.alloc o).cell? ⟨b,6,none⟩=some (.string dZ):=fun o=>ak (au (Below.refl _ _) _) h;have hs:=Xi;unfold fQ;clear h;go_enter Tryz.func197,Tryz.ntmps197;go_wp2_with fail
 go_ret;exact⟨by simp[hs],au (Below.refl _ _) _⟩
theorem Tj (b:Nat)(h:w.cell? ⟨b,4,none⟩=some (.string aU)) :
 Calls Tryz.prog 196 #[.agg acc0,.pointer (some ⟨b,0,none⟩)] w fun e w'=>e=.returned (.bool true)∧Below w.heap.size w w':=by
 have hb:∀o,(w.alloc o).cell? ⟨b,4,none⟩=some (.string aU):=fun o=>ak (au (Below.refl _ _) _) h;have hs:=Xk;unfold acc0;clear h;go_enter Tryz.func196,Tryz.ntmps196;go_wp2_with fail
 go_ret;exact⟨by simp[hs],au (Below.refl _ _) _⟩
theorem Tn (b:Nat)(h:w.cell? ⟨b,4,none⟩=some (.string bP)) :
 Calls Tryz.prog 196 #[.agg acc0,.pointer (some ⟨b,0,none⟩)] w fun e w'=>e=.returned (.bool false)∧Below w.heap.size w w':=by
 have hb:∀o,(w.alloc o).cell? ⟨b,4,none⟩=some (.string bP):=fun o=>ak (au (Below.refl _ _) _) h;have hs:=Xm;unfold acc0;clear h;go_enter Tryz.func196,Tryz.ntmps196;go_wp2_with fail
 go_ret;exact⟨by simp[hs],au (Below.refl _ _) _⟩
theorem Tq (b:Nat)(h:w.cell? ⟨b,4,none⟩=some (.string bP)) :
 Calls Tryz.prog 196 #[.agg jg,.pointer (some ⟨b,0,none⟩)] w fun e w'=>e=.returned (.bool true)∧Below w.heap.size w w':=by
 have hb:∀o,(w.alloc o).cell? ⟨b,4,none⟩=some (.string bP):=fun o=>ak (au (Below.refl _ _) _) h;have hs:=Xl;unfold jg;clear h;go_enter Tryz.func196,Tryz.ntmps196;go_wp2_with fail
 go_ret;exact⟨by simp[hs],au (Below.refl _ _) _⟩
theorem zF (b pr c:Nat)(h:w.cell? ⟨b,6,none⟩=some (.string bC))(hp:w.rangeAt pr 0 dV.toList)(hp1:w.rangeAt pr 3 fQ.toList) :
 Calls Tryz.prog 169 #[.slice (some ⟨pr,0,none⟩) 2 c,.func (.func 197) #[] #[.pointer (some ⟨b,0,none⟩)]] w fun e w'=>e=.returned (.int .i64 0)∧Below w.heap.size w w':=by
 have H:=ah.mk (And.intro h (And.intro hp hp1));clear h hp hp1;go_enter Tryz.func169,Tryz.ntmps169;go_wp2_with fail
 refine wp_loop_rounds 1 ?_;rw[rounds_succ];go_wp2_with (first|(go_at_call 197;refine(N8 b H.out.1).mono ?_;rintro e w2 ⟨rfl,hb⟩;have H2:=ah.mk hb;clear hb)|(refine aI rfl 81 (.tmp 14) rfl pr 0 rfl dV _ H.out.2.1 Tryz.underlying81 rfl (by rw[show dV.size=3 from rfl];kernel_rfl) ?_))
 go_ret;exact⟨rfl,H2.out⟩
theorem zG (b pr c:Nat)(h:w.cell? ⟨b,6,none⟩=some (.string dZ))(hp:w.rangeAt pr 0 dV.toList)(hp1:w.rangeAt pr 3 fQ.toList) :
 Calls Tryz.prog 169 #[.slice (some ⟨pr,0,none⟩) 2 c,.func (.func 197) #[] #[.pointer (some ⟨b,0,none⟩)]] w fun e w'=>e=.returned (.int .i64 1)∧Below w.heap.size w w':=by
 have H:=ah.mk (And.intro h (And.intro hp hp1));clear h hp hp1;go_enter Tryz.func169,Tryz.ntmps169;go_wp2_with fail
 refine wp_loop_rounds 2 ?_;rw[rounds_succ];go_wp2_with (first|(go_at_call 197;refine(N9 b H.out.1).mono ?_;rintro e w2 ⟨rfl,hb⟩;have H2:=ah.mk hb;clear hb)|(refine aI rfl 81 (.tmp 14) rfl pr 0 rfl dV _ H.out.2.1 Tryz.underlying81 rfl (by rw[show dV.size=3 from rfl];kernel_rfl) ?_))
 rw[rounds_succ];go_wp2_with (first|(go_at_call 197;refine(Oa b (ak H2.out H.out.1)).mono ?_;rintro e w3 ⟨rfl,hb⟩;have H3:=ah.mk hb;clear hb)|(refine aI rfl 81 (.tmp 14) rfl pr 3 rfl fQ _ (fun i v hv=>ak H2.out (H.out.2.2 i v hv)) Tryz.underlying81 rfl (by rw[show fQ.size=3 from rfl];kernel_rfl) ?_))
 go_ret;exact⟨rfl,ay H2.out H2.out.size H3.out⟩
theorem FQ (b pr c:Nat)(h:w.cell? ⟨b,4,none⟩=some (.string aU))(hp:w.rangeAt pr 0 acc0.toList)(hp1:w.rangeAt pr 3 jg.toList) :
 Calls Tryz.prog 195 #[.slice (some ⟨pr,0,none⟩) 2 c,.func (.func 196) #[] #[.pointer (some ⟨b,0,none⟩)]] w fun e w'=>e=.returned (.int .i64 0)∧Below w.heap.size w w':=by
 have H:=ah.mk (And.intro h (And.intro hp hp1));clear h hp hp1;go_enter Tryz.func195,Tryz.ntmps195;go_wp2_with fail
 refine wp_loop_rounds 1 ?_;rw[rounds_succ];go_wp2_with (first|(go_at_call 196;refine(Tj b H.out.1).mono ?_;rintro e w2 ⟨rfl,hb⟩;have H2:=ah.mk hb;clear hb)|(refine aI rfl 84 (.tmp 14) rfl pr 0 rfl acc0 _ H.out.2.1 Tryz.underlying84 rfl (by rw[show acc0.size=3 from rfl];kernel_rfl) ?_))
 go_ret;exact⟨rfl,H2.out⟩
theorem FU (b pr c:Nat)(h:w.cell? ⟨b,4,none⟩=some (.string bP))(hp:w.rangeAt pr 0 acc0.toList)(hp1:w.rangeAt pr 3 jg.toList) :
 Calls Tryz.prog 195 #[.slice (some ⟨pr,0,none⟩) 2 c,.func (.func 196) #[] #[.pointer (some ⟨b,0,none⟩)]] w fun e w'=>e=.returned (.int .i64 1)∧Below w.heap.size w w':=by
 have H:=ah.mk (And.intro h (And.intro hp hp1));clear h hp hp1;go_enter Tryz.func195,Tryz.ntmps195;go_wp2_with fail
 refine wp_loop_rounds 2 ?_;rw[rounds_succ];go_wp2_with (first|(go_at_call 196;refine(Tn b H.out.1).mono ?_;rintro e w2 ⟨rfl,hb⟩;have H2:=ah.mk hb;clear hb)|(refine aI rfl 84 (.tmp 14) rfl pr 0 rfl acc0 _ H.out.2.1 Tryz.underlying84 rfl (by rw[show acc0.size=3 from rfl];kernel_rfl) ?_))
 rw[rounds_succ];go_wp2_with (first|(go_at_call 196;refine(Tq b (ak H2.out H.out.1)).mono ?_;rintro e w3 ⟨rfl,hb⟩;have H3:=ah.mk hb;clear hb)|(refine aI rfl 84 (.tmp 14) rfl pr 3 rfl jg _ (fun i v hv=>ak H2.out (H.out.2.2 i v hv)) Tryz.underlying84 rfl (by rw[show jg.size=3 from rfl];kernel_rfl) ?_))
 go_ret;exact⟨rfl,ay H2.out H2.out.size H3.out⟩
end
structure jq (w:World)(a:qR)(pol:Int)(now:Nat)(bk:List Ch):Prop where
 blk:w.heap[a.x]?=some (.cells (IG a pol now bk.length) 88)
 acc:mX w a.xa
 Za:w.rangeAt a.xq 0 dV.toList
 Zb:w.rangeAt a.xq 3 fQ.toList
 part:w.rangeAt a.xp 0 fU.toList
 book:bU w 6 vI (.slice a.bA bk.length a.bc) bk
theorem nY {w w':World}(h:Below w.heap.size w w'){b:Nat}{o:Obj}(hb:w.heap[b]?=some o):w'.heap[b]?=some o :=
 (h.block _ (Array.getElem?_eq_some_iff.1 hb).1).trans hb
theorem jq.below {w w':World}{a:qR}{pol:Int}{now:Nat}{bk:List Ch}(h:jq w a pol now bk)(hb:Below w.heap.size w w'):jq w' a pol now bk :=
 ⟨nY hb h.blk,h.acc.on ⟨w',hb⟩,bQ h.Za hb,bQ h.Zb hb,bQ h.part hb,h.book.below hb⟩
theorem jq.cell {w:World}{a:qR}{pol:Int}{now:Nat}{bk:List Ch}(h:jq w a pol now bk)(k:Nat)(v:Value)(hv:(IG a pol now bk.length)[k]?=some v):w.cell? ⟨a.x,k,none⟩=some v:=by rw[aj h.blk];exact hv
end
section
open Go.RowKit
structure Tk where
 s:Nat
 q:Nat
 from_:Int
 till:Int
def Tk.cells (t:Tk):Array Value:=#[.int .i64 (t.s:Int),.int .i64 (t.q:Int),.int .i64 t.from_,.int .i64 t.till]
def jX (t:Tk):List Value:=t.cells.toList
theorem jP (t:Tk):(jX t).length=4:=rfl
structure Tk.ok (t:Tk):Prop where
 s:t.s≤7
 q:t.q≤3
 al:t.s%2^t.q=0
theorem Tk.one (t:Tk):t.cells.all (·.oneCell')=true:=by simp[Tk.cells,Value.oneCell']
theorem MB (t:Tk):(Tryz.prog.info? 292).map (·.size)=some t.cells.size:=by rw[show t.cells.size=4 from rfl];kernel_rfl
theorem fP {q:Nat}(h:q≤3):1≤2^q∧2^q≤8:=⟨Nat.one_le_two_pow,Nat.le_trans (Nat.pow_le_pow_right (by decide) h) (by decide)⟩
section
variable {w:World}
theorem Jm (s1 q1 s2 q2:Nat)(h1:s1≤7)(h2:q1≤3)(h3:s2≤7)(h4:q2≤3) :
 Calls Tryz.prog 358 #[.agg #[.int .i64 s1,.int .i64 q1],.agg #[.int .i64 s2,.int .i64 q2]] w fun e w'=>∃b:Bool,e=.returned (.bool b)∧Below w.heap.size w w':=by
 refine named fun R HQ=>?_;obtain⟨z1,hz1⟩:∃z:Nat,z=2^q1:=⟨_,rfl⟩;obtain⟨z2,hz2⟩:∃z:Nat,z=2^q2:=⟨_,rfl⟩;have b1:=fP h2;have b2:=fP h4;have S1:=ah.mk fun W=>iH q1 h2 W;have S2:=ah.mk fun W=>iH q2 h4 W;rw[←hz1]at S1 b1;rw[←hz2]at S2 b2;have B:=ah.mk (au (au (Below.refl w.heap.size w) (.cells #[.int .i64 s1,.int .i64 q1] 53)) (.cells #[.int .i64 s2,.int .i64 q2] 53));have w1:wrap64 ((s2:Int)+z2)=(s2:Int)+z2:=wrap_in (by omega) (by omega);have w2:wrap64 ((s1:Int)+z1)=(s1:Int)+z1:=wrap_in (by omega) (by omega);clear hz1 hz2 b1 b2 h1 h2 h3 h4;cases hd:decide ((s1:Int)<(s2:Int)+z2)
 ·go_enter Tryz.func358,Tryz.ntmps358;go_wp2_with fail
  go_quiet (first|(go_at_call 332;exact Calls.quiet_of_same (S2.out _))|(go_at_call 332;exact Calls.quiet_of_same (S1.out _)))
  go_wp2_with fail
  first|go_ret|skip
  rw[←HQ.out];exact⟨_,rfl,aC B.out _⟩
 ·go_enter Tryz.func358,Tryz.ntmps358;go_wp2_with fail
  go_quiet (first|(go_at_call 332;exact Calls.quiet_of_same (S2.out _))|(go_at_call 332;exact Calls.quiet_of_same (S1.out _)))
  go_wp2_with fail
  first|go_ret|skip
  rw[←HQ.out];exact⟨_,rfl,aC B.out _⟩
theorem Jo (fv bv:Value)(s1 q1:Nat)(h1:s1≤7)(h2:q1≤3)(ha:s1%2^q1=0) :
 Calls Tryz.prog 333 #[.agg #[.int .i64 3,fv,bv],.agg #[.int .i64 s1,.int .i64 q1]] w fun e w'=>e=.returned (.bool true)∧Below w.heap.size w w':=by
 refine named fun R HQ=>?_;obtain⟨z1,hz1⟩:∃z:Nat,z=2^q1:=⟨_,rfl⟩;have b1:=fP h2;have S1:=ah.mk fun W=>iH q1 h2 W;have S3:ah (∀W,Calls Tryz.prog 332 #[.int .i64 3] W fun e w'=>e=.returned (.int .i64 8)∧w'=W):=⟨fun W=>iH 3 (by decide) W⟩;rw[←hz1]at S1 b1 ha;have B:=ah.mk (au (au (Below.refl w.heap.size w) (.cells #[.int .i64 3,fv,bv] 230)) (.cells #[.int .i64 s1,.int .i64 q1] 53));have d1:decide ((q1:Int)≤3)=true:=decide_eq_true (by omega);have d2:decide ((s1:Int)<8)=true:=decide_eq_true (by omega);have d3:Int.tmod (s1:Int) (z1:Int)=0:=by
  rw[Int.tmod_eq_emod_of_nonneg (by omega)];exact_mod_cast ha
 have hz0:¬(z1:Int)=0:=by omega
 clear hz1 b1 h1 h2 ha;go_enter Tryz.func333,Tryz.ntmps333;go_wp2_with fail
 go_quiet (first|(go_at_call 332;exact Calls.quiet_of_same (S3.out _))|(go_at_call 332;exact Calls.quiet_of_same (S1.out _)))
 go_wp2_with fail
 first|go_ret|skip
 rw[←HQ.out];exact⟨rfl,aC B.out _⟩
end
end
end Go.Proofs.YtandhagfhppgaaaGreatDoor
