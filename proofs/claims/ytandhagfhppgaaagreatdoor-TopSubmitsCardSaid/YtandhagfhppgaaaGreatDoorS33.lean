/- Part 33 of a proof: contracts of the functions that the law reaches. No condition. -/
import Derived.Test.YtandhagfhppgaaaGreatDoorS25
set_option linter.all false
set_option maxRecDepth 100000
set_option maxHeartbeats 16000000
namespace Go.Proofs.YtandhagfhppgaaaGreatDoor
section
open Go.RowKit
theorem J.yJ (j:J)(now:Int)(hw:j.how=3):j.cells.setIfInBounds 23 (.int .i64 (j.ran+(now-j.started)))=(j.till now).cells:=by
 rw[J.pI hw];rfl
theorem QF (a:qR)(pol now:Int)(js:List J)(bk:List Ch)(y:Yd)(m:Mx)(A5:Option Addr)(c5:Nat)(c:Ch) :
 CL { a with bA:=A5,bc:=c5} pol now js (bk++[c]) y m=((CL a pol now js bk y m).set 3 (aV 61 6 vI (.slice A5 (bk.length+1) c5) (bk++[c]))).set 0 (aF a.x (.cells (IG { a with bA:=A5,bc:=c5} pol now (bk.length+1)) 88)):=by
 have hl:(bk++[c]).length=bk.length+1:=by simp
 unfold CL UU aV;rw[hl];rfl
theorem J.rH (j:J):j.cells[23]?=some (.int .i64 j.ran):=rfl
theorem qJ {α:Type}{enc:α→List Value}{o:Oper}{a:Act}{w0 W:World}{L:List bW}{K:Act→World→Prop}{Q:Exit→Act→World→Prop}(t:TypeId)(s x:Operand)(ho:o.op=.call { callee:=.builtin .append,args:=#[s,x],argTypes:=#[t,t]})(H:Has w0 W L)(i:Nat){e:TypeId}{sz:Nat}{v:Value}{l:List α}(hi:L[i]?=some (aV e sz enc v l))(m:Nat)(hm:m=l.length)(ht:Tryz.prog.underlying t=some (.slice e))
 (hinfo:∃i0 z,Tryz.prog.info? e=some i0∧i0.zero=some z∧i0.size=sz∧i0.bytes≤1000∧z.cells.size=sz) (h0:0<sz) (hn:m≤4000000000) (hs:a.eval s=v) (hx:a.eval x=.slice (some ⟨W.heap.size,0,none⟩) 1 1) (y:α) (ys:Array Value) (hys:ys.toList=enc y) (hsz:ys.size=sz) (h1:ys.all (·.oneCell')=true)
 (h:∀A1 c1 w1,Has w0 w1 (L.set i (aV e sz enc (.slice A1 (m+1) c1) (l++[y])))→K (a.put o.dst (.slice A1 (m+1) c1)) w1):o.wp Tryz.prog a (W.alloc (.cells ys e)) K Q:=by
 subst hm;obtain⟨A1,c1,w1,hr,h2⟩:=wR H i hi t o.type ht hinfo h0 y ys hys hsz h1 hn;unfold Oper.wp execOp;simp only[ho,resolve,invoke,builtin,Sem.run_bind,Sem.run_pure,Result.andThen_ok,List.map_toArray,List.map_cons,List.map_nil,hs,hx,hr];exact h _ _ _ h2
end
end Go.Proofs.YtandhagfhppgaaaGreatDoor
