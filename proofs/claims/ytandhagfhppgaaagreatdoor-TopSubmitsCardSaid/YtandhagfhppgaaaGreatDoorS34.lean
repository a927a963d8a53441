/- Part 34 of a proof: contracts of the functions that the law reaches. No condition. -/
import Derived.Test.YtandhagfhppgaaaGreatDoorS6
import Derived.Test.YtandhagfhppgaaaGreatDoorS10
import Derived.Test.YtandhagfhppgaaaGreatDoorS11
import Derived.Test.YtandhagfhppgaaaGreatDoorS15
set_option linter.all false
set_option maxRecDepth 100000
set_option maxHeartbeats 16000000
namespace Go.Proofs.YtandhagfhppgaaaGreatDoor
section
open Go.RowKit Go.ChangeMaps
section
variable {κ:Type}[BEq κ][LawfulBEq κ]
def del:List (κ×Value)→κ→List (κ×Value)
 |[],_=>[]
 |p::l,a=>if a==p.1 then l else p::del l a
theorem GV {kd:TypeDesc}{ke:κ→Value}(K:vK kd ke)(a:κ)(v:Value):∀(es:List MapEntry) (l:List (κ×Value)) (i:Nat),es.map (fun e=>(e.key,e.val))=l.map (fun p=>(ke p.1,p.2))→look l a=some v →
 ∃j,Instr.findNow kd (ke a) es i=some (some (i+j,v))∧(es.eraseIdx j).map (fun e=>(e.key,e.val))=(del l a).map fun p=>(ke p.1,p.2)
 |[],[],i,_,h=>by simp[look]at h
 |[],p::l,i,h,_=>by simp at h
 |e::es,[],i,h,_=>by simp at h
 |e::es,p::l,i,h,hl=>by
  simp only[List.map_cons,List.cons.injEq,Prod.mk.injEq]at h;unfold look at hl;split at hl
  ·rename_i he
   cases hl;refine⟨0,?_,?_⟩
   ·unfold Instr.findNow;rw[h.1.1,K.same,he,h.1.2];rfl
   ·unfold del;rw[if_pos he];simpa using h.2
  ·rename_i hne
   obtain⟨j,h1,h4⟩:=GV K a v es l (i+1) h.2 hl;refine⟨j+1,?_,?_⟩
   ·unfold Instr.findNow;rw[h.1.1,K.same,show(a==p.1)=false by simpa using hne];simp only;rw[h1,show i+1+j=i+(j+1) by omega]
   ·unfold del;rw[if_neg hne];simp[h4,h.1]
theorem DU {P:Program}{w0 w:World}{L:List bW}{kd:TypeDesc}{ke:κ→Value}(K:vK kd ke)(H:Has w0 w L)(i:Nat){b:Nat}{l:List (κ×Value)}(hi:L[i]?=some (mapA b ke l))(t k e ty:TypeId)(ht:P.underlying t=some (.map k e))(hk:P.underlying k=some kd)(a:κ)(v:Value)(hl:look l a=some v) :
 ∃w',(Builtin.delete_ #[t,k] ty #[.map (some b),ke a]).run P w=.ok (.tuple #[]) w'∧Has w0 w' (L.set i (mapA b ke (del l a))):=by
 obtain⟨F,⟨⟨es,cl,hb,hm⟩,hF⟩,h3,hgo⟩:=H.get i _ hi;have hc:∀em,(Instr.checkKey em 10000 k (ke a)).run P w=.ok () w:=fun em=>MapKept.run_checkKey hk (K.key a) em 9999;obtain⟨j,hf,hdel⟩:=GV K a v es.toList l 0 hm hl;rw[Nat.zero_add]at hf;refine⟨setBlock w b (.map (es.eraseIdxIfInBounds j) cl),?_,hgo _ _ ⟨F,⟨⟨_,cl,by rw[heap_setBlock_same hb],?_⟩,hF⟩,⟨rfl,rfl,rfl,by simp[setBlock],fun k hk hn=>heap_setBlock_other hb _ fun e=>hn (e▸hF)⟩,fun k hk=>⟨.inl hk,by simp[setBlock];exact(h3 k hk).2⟩⟩⟩
 ·simp[Builtin.delete_,run_underlying ht,MapKept.run_getObj_map hb,hc,MapKept.run_findKey hk hf,MapKept.run_setObj_map _ hb,Result.andThen,setBlock]
 ·unfold Fg;rw[←hdel];simp
end
def bH (nm ac q:ByteArray)(sz lim:Nat)(rq:Bool):Array Value:=#[.string nm,.string ac,.string aQ,.string q,.int .i64 sz,.int .i64 lim,.slice none 0 0,.int .i64 0,.bool false,.slice none 0 0,.int .i64 0,.int .i64 0,.bool false,.bool rq,.string cZ]
theorem qK (v:Value)(xT:TypeId)(w:World):(Instr.typeAssert (.iface 9 v) xT 9 false).run Tryz.prog w=.ok v w:=by
 simp[Instr.typeAssert,run_underlying Tryz.underlying9,go_sem,Result.andThen]
section
variable {w:World}
def Rf:ByteArray:=⟨#[106,111,98,45,110,97,109,101]⟩
def Rh:ByteArray:=⟨#[97,99,99,111,117,110,116]⟩
def KG:ByteArray:=⟨#[112,97,114,116,105,116,105,111,110]⟩
def ZR:ByteArray:=⟨#[113,111,115]⟩
def XU:ByteArray:=⟨#[115,105,122,101]⟩
def XV:ByteArray:=⟨#[116,105,109,101]⟩
def Wn:ByteArray:=⟨#[97,114,114,97,121]⟩
def GX:ByteArray:=⟨#[100,101,112,101,110,100,101,110,99,121]⟩
def XW:ByteArray:=⟨#[110,105,99,101]⟩
def Wp:ByteArray:=⟨#[98,101,103,105,110]⟩
def XY:ByteArray:=⟨#[104,111,108,100]⟩
def Ri:ByteArray:=⟨#[114,101,113,117,101,117,101]⟩
set_option maxRecDepth 1000000 in
theorem GY {sb:Nat}{nm ac q:ByteArray}{sz lim:Nat}{rq:Bool}(hg:w.heap[sb]?=some (.cells (bH nm ac q sz lim rq) 51 (0,0)))(u:ByteArray) :
 Calls Tryz.prog 162 #[.pointer (some ⟨sb,0,none⟩),.string ⟨#[106,111,98,45,110,97,109,101]⟩,.iface 9 (.string u)] w fun e w'=>e=.returned (.tuple #[])∧w'=w.setCell ⟨sb,0,none⟩ (.string u):=by
 refine named fun R HQ=>?_;have q0:∀W,(binOp .eql 9 (.string ⟨#[106,111,98,45,110,97,109,101]⟩) (.string ⟨#[106,111,98,45,110,97,109,101]⟩)).run Tryz.prog W=.ok (.bool true) W:=fun _=>by kernel_rfl
 have hc:w.cell? ⟨sb,0,none⟩=(bH nm ac q sz lim rq)[0]?:=by rw[aj hg]
 have hf:w.frozen? ⟨sb,0,none⟩=_:=aJ hg _;have hi:=fun w=>qK (.string u) 20 w;unfold bH at hc;simp at hc;clear hg;go_enter Tryz.func162,Tryz.ntmps162;go_wp2_with fail
 first|go_end0|go_ret2|go_ret|skip
 rw[←HQ.out];exact⟨rfl,rfl⟩
set_option maxRecDepth 1000000 in
theorem GZ {sb:Nat}{nm ac q:ByteArray}{sz lim:Nat}{rq:Bool}(hg:w.heap[sb]?=some (.cells (bH nm ac q sz lim rq) 51 (0,0)))(u:ByteArray) :
 Calls Tryz.prog 162 #[.pointer (some ⟨sb,0,none⟩),.string ⟨#[97,99,99,111,117,110,116]⟩,.iface 9 (.string u)] w fun e w'=>e=.returned (.tuple #[])∧w'=w.setCell ⟨sb,1,none⟩ (.string u):=by
 refine named fun R HQ=>?_;have q0:∀W,(binOp .eql 9 (.string ⟨#[97,99,99,111,117,110,116]⟩) (.string ⟨#[106,111,98,45,110,97,109,101]⟩)).run Tryz.prog W=.ok (.bool false) W:=fun _=>by kernel_rfl
 have q1:∀W,(binOp .eql 9 (.string ⟨#[97,99,99,111,117,110,116]⟩) (.string ⟨#[97,99,99,111,117,110,116]⟩)).run Tryz.prog W=.ok (.bool true) W:=fun _=>by kernel_rfl
 have hc:w.cell? ⟨sb,1,none⟩=(bH nm ac q sz lim rq)[1]?:=by rw[aj hg]
 have hf:w.frozen? ⟨sb,1,none⟩=_:=aJ hg _;have hi:=fun w=>qK (.string u) 20 w;unfold bH at hc;simp at hc;clear hg;go_enter Tryz.func162,Tryz.ntmps162;go_wp2_with fail
 first|go_end0|go_ret2|go_ret|skip
 rw[←HQ.out];exact⟨rfl,rfl⟩
set_option maxRecDepth 1000000 in
theorem zU {sb:Nat}{nm ac q:ByteArray}{sz lim:Nat}{rq:Bool}(hg:w.heap[sb]?=some (.cells (bH nm ac q sz lim rq) 51 (0,0)))(u:ByteArray) :
 Calls Tryz.prog 162 #[.pointer (some ⟨sb,0,none⟩),.string ⟨#[112,97,114,116,105,116,105,111,110]⟩,.iface 9 (.string u)] w fun e w'=>e=.returned (.tuple #[])∧w'=w.setCell ⟨sb,2,none⟩ (.string u):=by
 refine named fun R HQ=>?_;have q0:∀W,(binOp .eql 9 (.string ⟨#[112,97,114,116,105,116,105,111,110]⟩) (.string ⟨#[106,111,98,45,110,97,109,101]⟩)).run Tryz.prog W=.ok (.bool false) W:=fun _=>by kernel_rfl
 have q1:∀W,(binOp .eql 9 (.string ⟨#[112,97,114,116,105,116,105,111,110]⟩) (.string ⟨#[97,99,99,111,117,110,116]⟩)).run Tryz.prog W=.ok (.bool false) W:=fun _=>by kernel_rfl
 have q2:∀W,(binOp .eql 9 (.string ⟨#[112,97,114,116,105,116,105,111,110]⟩) (.string ⟨#[112,97,114,116,105,116,105,111,110]⟩)).run Tryz.prog W=.ok (.bool true) W:=fun _=>by kernel_rfl
 have hc:w.cell? ⟨sb,2,none⟩=(bH nm ac q sz lim rq)[2]?:=by rw[aj hg]
 have hf:w.frozen? ⟨sb,2,none⟩=_:=aJ hg _;have hi:=fun w=>qK (.string u) 20 w;unfold bH at hc;simp at hc;clear hg;go_enter Tryz.func162,Tryz.ntmps162;go_wp2_with fail
 first|go_end0|go_ret2|go_ret|skip
 rw[←HQ.out];exact⟨rfl,rfl⟩
set_option maxRecDepth 1000000 in
theorem Ul {sb:Nat}{nm ac q:ByteArray}{sz lim:Nat}{rq:Bool}(hg:w.heap[sb]?=some (.cells (bH nm ac q sz lim rq) 51 (0,0)))(u:ByteArray) :
 Calls Tryz.prog 162 #[.pointer (some ⟨sb,0,none⟩),.string ⟨#[113,111,115]⟩,.iface 9 (.string u)] w fun e w'=>e=.returned (.tuple #[])∧w'=w.setCell ⟨sb,3,none⟩ (.string u):=by
 refine named fun R HQ=>?_;have q0:∀W,(binOp .eql 9 (.string ⟨#[113,111,115]⟩) (.string ⟨#[106,111,98,45,110,97,109,101]⟩)).run Tryz.prog W=.ok (.bool false) W:=fun _=>by kernel_rfl
 have q1:∀W,(binOp .eql 9 (.string ⟨#[113,111,115]⟩) (.string ⟨#[97,99,99,111,117,110,116]⟩)).run Tryz.prog W=.ok (.bool false) W:=fun _=>by kernel_rfl
 have q2:∀W,(binOp .eql 9 (.string ⟨#[113,111,115]⟩) (.string ⟨#[112,97,114,116,105,116,105,111,110]⟩)).run Tryz.prog W=.ok (.bool false) W:=fun _=>by kernel_rfl
 have q3:∀W,(binOp .eql 9 (.string ⟨#[113,111,115]⟩) (.string ⟨#[113,111,115]⟩)).run Tryz.prog W=.ok (.bool true) W:=fun _=>by kernel_rfl
 have hc:w.cell? ⟨sb,3,none⟩=(bH nm ac q sz lim rq)[3]?:=by rw[aj hg]
 have hf:w.frozen? ⟨sb,3,none⟩=_:=aJ hg _;have hi:=fun w=>qK (.string u) 20 w;unfold bH at hc;simp at hc;clear hg;go_enter Tryz.func162,Tryz.ntmps162;go_wp2_with fail
 first|go_end0|go_ret2|go_ret|skip
 rw[←HQ.out];exact⟨rfl,rfl⟩
set_option maxRecDepth 1000000 in
theorem Rj {sb:Nat}{nm ac q:ByteArray}{sz lim:Nat}{rq:Bool}(hg:w.heap[sb]?=some (.cells (bH nm ac q sz lim rq) 51 (0,0)))(u:Nat) :
 Calls Tryz.prog 162 #[.pointer (some ⟨sb,0,none⟩),.string ⟨#[115,105,122,101]⟩,.iface 3 (.int .i64 (u:Int))] w fun e w'=>e=.returned (.tuple #[])∧w'=w.setCell ⟨sb,4,none⟩ (.int .i64 (u:Int)):=by
 refine named fun R HQ=>?_;have q0:∀W,(binOp .eql 9 (.string ⟨#[115,105,122,101]⟩) (.string ⟨#[106,111,98,45,110,97,109,101]⟩)).run Tryz.prog W=.ok (.bool false) W:=fun _=>by kernel_rfl
 have q1:∀W,(binOp .eql 9 (.string ⟨#[115,105,122,101]⟩) (.string ⟨#[97,99,99,111,117,110,116]⟩)).run Tryz.prog W=.ok (.bool false) W:=fun _=>by kernel_rfl
 have q2:∀W,(binOp .eql 9 (.string ⟨#[115,105,122,101]⟩) (.string ⟨#[112,97,114,116,105,116,105,111,110]⟩)).run Tryz.prog W=.ok (.bool false) W:=fun _=>by kernel_rfl
 have q3:∀W,(binOp .eql 9 (.string ⟨#[115,105,122,101]⟩) (.string ⟨#[113,111,115]⟩)).run Tryz.prog W=.ok (.bool false) W:=fun _=>by kernel_rfl
 have q4:∀W,(binOp .eql 9 (.string ⟨#[115,105,122,101]⟩) (.string ⟨#[115,105,122,101]⟩)).run Tryz.prog W=.ok (.bool true) W:=fun _=>by kernel_rfl
 have hc:w.cell? ⟨sb,4,none⟩=(bH nm ac q sz lim rq)[4]?:=by rw[aj hg]
 have hf:w.frozen? ⟨sb,4,none⟩=_:=aJ hg _;have hi:=fun w=>gJ (.int .i64 (u:Int)) 20 w;unfold bH at hc;simp at hc;clear hg;go_enter Tryz.func162,Tryz.ntmps162;go_wp2_with fail
 first|go_end0|go_ret2|go_ret|skip
 rw[←HQ.out];exact⟨rfl,rfl⟩
set_option maxRecDepth 1000000 in
theorem Rk {sb:Nat}{nm ac q:ByteArray}{sz lim:Nat}{rq:Bool}(hg:w.heap[sb]?=some (.cells (bH nm ac q sz lim rq) 51 (0,0)))(u:Nat) :
 Calls Tryz.prog 162 #[.pointer (some ⟨sb,0,none⟩),.string ⟨#[116,105,109,101]⟩,.iface 3 (.int .i64 (u:Int))] w fun e w'=>e=.returned (.tuple #[])∧w'=w.setCell ⟨sb,5,none⟩ (.int .i64 (u:Int)):=by
 refine named fun R HQ=>?_;have q0:∀W,(binOp .eql 9 (.string ⟨#[116,105,109,101]⟩) (.string ⟨#[106,111,98,45,110,97,109,101]⟩)).run Tryz.prog W=.ok (.bool false) W:=fun _=>by kernel_rfl
 have q1:∀W,(binOp .eql 9 (.string ⟨#[116,105,109,101]⟩) (.string ⟨#[97,99,99,111,117,110,116]⟩)).run Tryz.prog W=.ok (.bool false) W:=fun _=>by kernel_rfl
 have q2:∀W,(binOp .eql 9 (.string ⟨#[116,105,109,101]⟩) (.string ⟨#[112,97,114,116,105,116,105,111,110]⟩)).run Tryz.prog W=.ok (.bool false) W:=fun _=>by kernel_rfl
 have q3:∀W,(binOp .eql 9 (.string ⟨#[116,105,109,101]⟩) (.string ⟨#[113,111,115]⟩)).run Tryz.prog W=.ok (.bool false) W:=fun _=>by kernel_rfl
 have q4:∀W,(binOp .eql 9 (.string ⟨#[116,105,109,101]⟩) (.string ⟨#[115,105,122,101]⟩)).run Tryz.prog W=.ok (.bool false) W:=fun _=>by kernel_rfl
 have q5:∀W,(binOp .eql 9 (.string ⟨#[116,105,109,101]⟩) (.string ⟨#[116,105,109,101]⟩)).run Tryz.prog W=.ok (.bool true) W:=fun _=>by kernel_rfl
 have hc:w.cell? ⟨sb,5,none⟩=(bH nm ac q sz lim rq)[5]?:=by rw[aj hg]
 have hf:w.frozen? ⟨sb,5,none⟩=_:=aJ hg _;have hi:=fun w=>gJ (.int .i64 (u:Int)) 20 w;unfold bH at hc;simp at hc;clear hg;go_enter Tryz.func162,Tryz.ntmps162;go_wp2_with fail
 first|go_end0|go_ret2|go_ret|skip
 rw[←HQ.out];exact⟨rfl,rfl⟩
set_option maxRecDepth 1000000 in
theorem DV (s:ByteArray)(hs:small s):Calls Tryz.prog 161 #[.string ⟨#[106,111,98,45,110,97,109,101]⟩,.string s] w fun e w'=>e=.returned (.tuple #[.iface 9 (.string s),.int .i64 0])∧Below w.heap.size w w':=by
 refine named fun R HQ=>?_;have q0:∀W,(binOp .eql 9 (.string ⟨#[106,111,98,45,110,97,109,101]⟩) (.string ⟨#[115,105,122,101]⟩)).run Tryz.prog W=.ok (.bool false) W:=fun _=>by kernel_rfl
 have q1:∀W,(binOp .eql 9 (.string ⟨#[106,111,98,45,110,97,109,101]⟩) (.string ⟨#[110,105,99,101]⟩)).run Tryz.prog W=.ok (.bool false) W:=fun _=>by kernel_rfl
 have q2:∀W,(binOp .eql 9 (.string ⟨#[106,111,98,45,110,97,109,101]⟩) (.string ⟨#[98,101,103,105,110]⟩)).run Tryz.prog W=.ok (.bool false) W:=fun _=>by kernel_rfl
 have q3:∀W,(binOp .eql 9 (.string ⟨#[106,111,98,45,110,97,109,101]⟩) (.string ⟨#[116,105,109,101]⟩)).run Tryz.prog W=.ok (.bool false) W:=fun _=>by kernel_rfl
 have q4:∀W,(binOp .eql 9 (.string ⟨#[106,111,98,45,110,97,109,101]⟩) (.string ⟨#[97,114,114,97,121]⟩)).run Tryz.prog W=.ok (.bool false) W:=fun _=>by kernel_rfl
 have q5:∀W,(binOp .eql 9 (.string ⟨#[106,111,98,45,110,97,109,101]⟩) (.string ⟨#[100,101,112,101,110,100,101,110,99,121]⟩)).run Tryz.prog W=.ok (.bool false) W:=fun _=>by kernel_rfl
 have NC:=ah.mk (iJ (w:=w) s hs);clear hs;go_enter Tryz.func161,Tryz.ntmps161;go_wp2_with (go_at_call 163;refine NC.out.mono ?_;rintro e w2 ⟨rfl,hb⟩;have H2:=ah.mk hb;clear hb)
 first|go_ret2|go_ret|skip
 rw[←HQ.out];exact⟨rfl,H2.out⟩
set_option maxRecDepth 1000000 in
theorem DW (s:ByteArray)(hs:small s):Calls Tryz.prog 161 #[.string ⟨#[97,99,99,111,117,110,116]⟩,.string s] w fun e w'=>e=.returned (.tuple #[.iface 9 (.string s),.int .i64 0])∧Below w.heap.size w w':=by
 refine named fun R HQ=>?_;have q0:∀W,(binOp .eql 9 (.string ⟨#[97,99,99,111,117,110,116]⟩) (.string ⟨#[115,105,122,101]⟩)).run Tryz.prog W=.ok (.bool false) W:=fun _=>by kernel_rfl
 have q1:∀W,(binOp .eql 9 (.string ⟨#[97,99,99,111,117,110,116]⟩) (.string ⟨#[110,105,99,101]⟩)).run Tryz.prog W=.ok (.bool false) W:=fun _=>by kernel_rfl
 have q2:∀W,(binOp .eql 9 (.string ⟨#[97,99,99,111,117,110,116]⟩) (.string ⟨#[98,101,103,105,110]⟩)).run Tryz.prog W=.ok (.bool false) W:=fun _=>by kernel_rfl
 have q3:∀W,(binOp .eql 9 (.string ⟨#[97,99,99,111,117,110,116]⟩) (.string ⟨#[116,105,109,101]⟩)).run Tryz.prog W=.ok (.bool false) W:=fun _=>by kernel_rfl
 have q4:∀W,(binOp .eql 9 (.string ⟨#[97,99,99,111,117,110,116]⟩) (.string ⟨#[97,114,114,97,121]⟩)).run Tryz.prog W=.ok (.bool false) W:=fun _=>by kernel_rfl
 have q5:∀W,(binOp .eql 9 (.string ⟨#[97,99,99,111,117,110,116]⟩) (.string ⟨#[100,101,112,101,110,100,101,110,99,121]⟩)).run Tryz.prog W=.ok (.bool false) W:=fun _=>by kernel_rfl
 have NC:=ah.mk (iJ (w:=w) s hs);clear hs;go_enter Tryz.func161,Tryz.ntmps161;go_wp2_with (go_at_call 163;refine NC.out.mono ?_;rintro e w2 ⟨rfl,hb⟩;have H2:=ah.mk hb;clear hb)
 first|go_ret2|go_ret|skip
 rw[←HQ.out];exact⟨rfl,H2.out⟩
set_option maxRecDepth 1000000 in
theorem yV (s:ByteArray)(hs:small s):Calls Tryz.prog 161 #[.string ⟨#[112,97,114,116,105,116,105,111,110]⟩,.string s] w fun e w'=>e=.returned (.tuple #[.iface 9 (.string s),.int .i64 0])∧Below w.heap.size w w':=by
 refine named fun R HQ=>?_;have q0:∀W,(binOp .eql 9 (.string ⟨#[112,97,114,116,105,116,105,111,110]⟩) (.string ⟨#[115,105,122,101]⟩)).run Tryz.prog W=.ok (.bool false) W:=fun _=>by kernel_rfl
 have q1:∀W,(binOp .eql 9 (.string ⟨#[112,97,114,116,105,116,105,111,110]⟩) (.string ⟨#[110,105,99,101]⟩)).run Tryz.prog W=.ok (.bool false) W:=fun _=>by kernel_rfl
 have q2:∀W,(binOp .eql 9 (.string ⟨#[112,97,114,116,105,116,105,111,110]⟩) (.string ⟨#[98,101,103,105,110]⟩)).run Tryz.prog W=.ok (.bool false) W:=fun _=>by kernel_rfl
 have q3:∀W,(binOp .eql 9 (.string ⟨#[112,97,114,116,105,116,105,111,110]⟩) (.string ⟨#[116,105,109,101]⟩)).run Tryz.prog W=.ok (.bool false) W:=fun _=>by kernel_rfl
 have q4:∀W,(binOp .eql 9 (.string ⟨#[112,97,114,116,105,116,105,111,110]⟩) (.string ⟨#[97,114,114,97,121]⟩)).run Tryz.prog W=.ok (.bool false) W:=fun _=>by kernel_rfl
 have q5:∀W,(binOp .eql 9 (.string ⟨#[112,97,114,116,105,116,105,111,110]⟩) (.string ⟨#[100,101,112,101,110,100,101,110,99,121]⟩)).run Tryz.prog W=.ok (.bool false) W:=fun _=>by kernel_rfl
 have NC:=ah.mk (iJ (w:=w) s hs);clear hs;go_enter Tryz.func161,Tryz.ntmps161;go_wp2_with (go_at_call 163;refine NC.out.mono ?_;rintro e w2 ⟨rfl,hb⟩;have H2:=ah.mk hb;clear hb)
 first|go_ret2|go_ret|skip
 rw[←HQ.out];exact⟨rfl,H2.out⟩
set_option maxRecDepth 1000000 in
theorem Rl (s:ByteArray)(hs:small s):Calls Tryz.prog 161 #[.string ⟨#[113,111,115]⟩,.string s] w fun e w'=>e=.returned (.tuple #[.iface 9 (.string s),.int .i64 0])∧Below w.heap.size w w':=by
 refine named fun R HQ=>?_;have q0:∀W,(binOp .eql 9 (.string ⟨#[113,111,115]⟩) (.string ⟨#[115,105,122,101]⟩)).run Tryz.prog W=.ok (.bool false) W:=fun _=>by kernel_rfl
 have q1:∀W,(binOp .eql 9 (.string ⟨#[113,111,115]⟩) (.string ⟨#[110,105,99,101]⟩)).run Tryz.prog W=.ok (.bool false) W:=fun _=>by kernel_rfl
 have q2:∀W,(binOp .eql 9 (.string ⟨#[113,111,115]⟩) (.string ⟨#[98,101,103,105,110]⟩)).run Tryz.prog W=.ok (.bool false) W:=fun _=>by kernel_rfl
 have q3:∀W,(binOp .eql 9 (.string ⟨#[113,111,115]⟩) (.string ⟨#[116,105,109,101]⟩)).run Tryz.prog W=.ok (.bool false) W:=fun _=>by kernel_rfl
 have q4:∀W,(binOp .eql 9 (.string ⟨#[113,111,115]⟩) (.string ⟨#[97,114,114,97,121]⟩)).run Tryz.prog W=.ok (.bool false) W:=fun _=>by kernel_rfl
 have q5:∀W,(binOp .eql 9 (.string ⟨#[113,111,115]⟩) (.string ⟨#[100,101,112,101,110,100,101,110,99,121]⟩)).run Tryz.prog W=.ok (.bool false) W:=fun _=>by kernel_rfl
 have NC:=ah.mk (iJ (w:=w) s hs);clear hs;go_enter Tryz.func161,Tryz.ntmps161;go_wp2_with (go_at_call 163;refine NC.out.mono ?_;rintro e w2 ⟨rfl,hb⟩;have H2:=ah.mk hb;clear hb)
 first|go_ret2|go_ret|skip
 rw[←HQ.out];exact⟨rfl,H2.out⟩
set_option maxRecDepth 1000000 in
theorem OG (s:ByteArray)(hs:oO s)(h1:1≤val s)(h2:val s≤8):Calls Tryz.prog 161 #[.string ⟨#[115,105,122,101]⟩,.string s] w fun e w'=>e=.returned (.tuple #[.iface 3 (.int .i64 (val s:Int)),.int .i64 0])∧Below w.heap.size w w':=by
 refine named fun R HQ=>?_;have q0:∀W,(binOp .eql 9 (.string ⟨#[115,105,122,101]⟩) (.string ⟨#[115,105,122,101]⟩)).run Tryz.prog W=.ok (.bool true) W:=fun _=>by kernel_rfl
 have NC:=ah.mk (yU (w:=w) s hs);have BC:=ah.mk fun W=>zT (w:=W) (val s:Int) (by omega) (by omega);clear hs h1 h2;go_enter Tryz.func161,Tryz.ntmps161;go_wp2_with (first|(go_at_call 219;refine NC.out.mono ?_;rintro e w2 ⟨rfl,hb⟩;have H2:=ah.mk hb;clear hb)|(go_at_call 220;refine(BC.out _).mono ?_;rintro e w' ⟨rfl,hw⟩;obtain rfl:=hw.symm;clear hw))
 first|go_ret2|go_ret|skip
 rw[←HQ.out];exact⟨rfl,H2.out⟩
set_option maxRecDepth 1000000 in
theorem OH (n:Nat)(h2:1≤n)(h1:n<21){mm:Int}(HM:w.cell? ⟨0,0,none⟩=some (.int .i64 mm)):Calls Tryz.prog 161 #[.string ⟨#[116,105,109,101]⟩,.string (lb (iG n))] w fun e w'=>e=.returned (.tuple #[.iface 3 (.int .i64 (n:Int)),.int .i64 0])∧Below w.heap.size w w':=by
 refine named fun R HQ=>?_;have q0:∀W,(binOp .eql 9 (.string ⟨#[116,105,109,101]⟩) (.string ⟨#[115,105,122,101]⟩)).run Tryz.prog W=.ok (.bool false) W:=fun _=>by kernel_rfl
 have q1:∀W,(binOp .eql 9 (.string ⟨#[116,105,109,101]⟩) (.string ⟨#[110,105,99,101]⟩)).run Tryz.prog W=.ok (.bool false) W:=fun _=>by kernel_rfl
 have q2:∀W,(binOp .eql 9 (.string ⟨#[116,105,109,101]⟩) (.string ⟨#[98,101,103,105,110]⟩)).run Tryz.prog W=.ok (.bool false) W:=fun _=>by kernel_rfl
 have q3:∀W,(binOp .eql 9 (.string ⟨#[116,105,109,101]⟩) (.string ⟨#[116,105,109,101]⟩)).run Tryz.prog W=.ok (.bool true) W:=fun _=>by kernel_rfl
 have NC:=ah.mk (DT (w:=w) n h2 h1 HM);have BC:=ah.mk fun W=>GU (w:=W);obtain⟨t,ht⟩:∃t,t=lb (iG n):=⟨_,rfl⟩;rw[←ht]at NC;rw[←ht];clear ht h1 h2 HM;go_enter Tryz.func161,Tryz.ntmps161;go_wp2_with (first|(go_at_call 221;refine NC.out.mono ?_;rintro e w2 ⟨rfl,hb⟩;have H2:=ah.mk hb;clear hb)|(go_at_call 222;refine(BC.out _).mono ?_;rintro e w' ⟨rfl,hw⟩;obtain rfl:=hw.symm;clear hw))
 first|go_ret2|go_ret|skip
 rw[←HQ.out];exact⟨rfl,H2.out⟩
end
end
section
open Go.RowKit Go.ChangeMaps
theorem rO {P:Program}{ops:Array Oper}{rest:List Oper}{o:Oper}{a:Act}{w:World}{Q:Exit→Act→World→Prop}(hw:Region.wanted o (yielded ops a.tmps)=true)(t:TypeId)(m x:Operand)(ok:Bool)(ho:o.op=.lookup t m x ok){mv kv v:Value}(hm:a.eval m=mv)(hx:a.eval x=kv)(hr:(Instr.lookup t mv kv ok).run P w=.ok v w)(h:wpList P ops Q rest (a.put o.dst v) w):wpList P ops Q (o::rest) a w :=
 BigFrame.wpList_want hw fun K' hK'=>by
  unfold Oper.wp;simp[execOp,ho,hm,hx,hr,Result.andThen];exact hK' _ _ h
theorem kF (p l:List UInt8):Lib.hasPrefix (p++l) p=true∧Lib.trimPrefix (p++l) p=l:=by
 have h:Lib.hasPrefix (p++l) p=true:=by unfold Lib.hasPrefix;exact List.isPrefixOf_iff_prefix.2 ⟨l,rfl⟩
 refine⟨h,?_⟩;unfold Lib.trimPrefix;rw[h,if_pos rfl,List.drop_left]
def mM (key v:List UInt8):List UInt8:=[35,83,66,65,84,67,72,32,45,45]++(key++61::v)
def DX (key:List UInt8):List UInt8:=[35,83,66,65,84,67,72,32,45,45]++key
section
variable {w0 w:World}
set_option maxRecDepth 1000000 in
theorem qL {sb mb:Nat}(key v:List UInt8)(X u:Value)(k:Nat)(cs cs':Array Value)(l:List (ByteArray×Value))(hkey:(61:UInt8) ∉ key)(hh:((lb key).toList==[104,111,108,100])=false)(hr:((lb key).toList==[114,101,113,117,101,117,101])=false)(hsz:key.length+v.length≤200)
 (H:Has w0 w [aF sb (.cells cs 51 (0,0)),mapA mb Value.string l]) (hl:look l (lb key)=some (.bool true)) (hset:cs.setIfInBounds k u=cs') {mm:Int} (HM:w0.cell? ⟨0,0,none⟩=some (.int .i64 mm))
 (RC:∀W,Below w0.heap.size w0 W→Calls Tryz.prog 161 #[.string (lb key),.string (lb v)] W fun e w'=>e=.returned (.tuple #[X,.int .i64 0])∧Below W.heap.size W w')
 (SC:∀W:World,W.heap[sb]?=some (.cells cs 51 (0,0))→Calls Tryz.prog 162 #[.pointer (some ⟨sb,0,none⟩),.string (lb key),X] W fun e w'=>e=.returned (.tuple #[])∧w'=W.setCell ⟨sb,k,none⟩ u) :
 Calls Tryz.prog 106 #[.pointer (some ⟨sb,0,none⟩),.map (some mb),.string (lb (mM key v))] w fun e w'=>e=.returned (.int .i64 0)∧Has w0 w' [aF sb (.cells cs' 51 (0,0)),mapA mb Value.string (del l (lb key))]:=by
 refine named fun R HQ=>?_;have CP:ah (∀W,Calls Tryz.prog 28 #[.string (lb (mM key v)),.string ⟨#[35,83,66,65,84,67,72,32,45,45]⟩] W fun e w'=>e=.returned (.tuple #[.string (lb (key++61::v)),.bool true])∧w'=W):=⟨fun W=>(Tryz.strings_CutPrefix (lb (mM key v)) ⟨#[35,83,66,65,84,67,72,32,45,45]⟩ W).mono fun e w' h=>by
  rw[dY,show(⟨#[35,83,66,65,84,67,72,32,45,45]⟩:ByteArray).data.toList=[35,83,66,65,84,67,72,32,45,45]from rfl,show mM key v=[35,83,66,65,84,67,72,32,45,45]++(key++61::v)from rfl,(kF _ _).1,(kF _ _).2]at h;exact h⟩
 have CT:ah (Calls Tryz.prog 103 #[.string (lb (key++61::v)),.string ⟨#[61]⟩] w fun e w'=>e=.returned (.tuple #[.string (lb key),.string (lb v),.bool true])∧Below w.heap.size w w'):=⟨(Tryz.strings_Cut (lb (key++61::v)) ⟨#[61]⟩ mm w (by rw[eY];simp;omega) (ak H.old HM)).mono fun e w' h=>by
  obtain⟨h,n,rfl⟩:=h;rw[dY,show(⟨#[61]⟩:ByteArray).data.toList=[61]from rfl,nR 61 _ _ hkey]at h;exact⟨h,aC (Below.refl _ _) n⟩⟩
 have HL:=ah.mk hl;have HS:=ah.mk hset;have XZ:=ah.mk RC;have SCA:=ah.mk SC;have HH:=ah.mk H;obtain⟨K,hK⟩:∃K,K=lb key:=⟨_,rfl⟩;obtain⟨V,hV⟩:∃V,V=lb v:=⟨_,rfl⟩;obtain⟨T,hT⟩:∃T,T=lb (mM key v):=⟨_,rfl⟩;obtain⟨U,hU⟩:∃U,U=lb (key++61::v):=⟨_,rfl⟩;rw[←hT,←hU]at CP;rw[←hK,←hV,←hU]at CT;rw[←hK]at HL hh hr SCA;rw[←hK,←hV]at XZ;rw[←hT];have HK:=ah.mk hK;clear hK hV hT hU RC SC hl hset H HM hkey hsz;go_enter Tryz.func106,Tryz.ntmps106;go_wp2_with (go_at_call 28;refine(CP.out _).mono ?_;rintro e w' ⟨rfl,hw⟩;obtain rfl:=hw.symm;clear hw;refine ah.out ?_)
 refine ah.mk ?_;go_wp2_with (go_at_call 103;refine CT.out.mono ?_;rintro e w1 ⟨rfl,hb⟩;have H1:=ah.mk (HH.out.below hb);clear hb;refine ah.out ?_)
 have LK:=dR eG H1.out 1 rfl 180 9 4 Tryz.underlying180 Tryz.underlying9 (.bool false) (by kernel_rfl) K false;rw[HL.out]at LK;have U9:=ah.mk LK;obtain⟨w2,hd,h2⟩:=DU eG H1.out 1 rfl 180 9 4 0 Tryz.underlying180 Tryz.underlying9 K (.bool true) HL.out;have H2:=ah.mk h2;clear CP CT LK h2;refine ah.mk ?_;go_wp2_with (first|(refine rO (by rfl) 180 (.tmp 35) (.tmp 36) false rfl rfl rfl U9.out ?_;clear U9)|(go_at_call 161;refine ah.out ?_))
 clear H1 hd;refine ah.mk ?_;go_wp2_with (first|(go_at_call 162;have _t:=H3.out;clear _t;refine(SCA.out _ (H3.out.blk 0 rfl)).mono ?_;rintro e w4 ⟨rfl,hw⟩;have H4:=ah.mk (And.intro hw (H3.out.put 0 rfl k u _ HS.out));clear hw)|(go_at_call 161;refine(XZ.out _ H2.out.old).mono ?_;rintro e w3 ⟨rfl,hb⟩;have H3:=ah.mk (H2.out.below hb);clear hb))
 first|go_ret2|go_ret|skip
 rw[←HQ.out,←HK.out];exact⟨rfl,by rw[H4.out.1];exact H4.out.2⟩
end
end
section
open Go.RowKit Go.ChangeMaps
theorem uj {fn:Func}{p u v:Tmp}{ty:TypeId}(h:fn.results=#[.cell p ty,.tmp u,.tmp v])(tmps:Array Value)(P:Program)(w:World) :
 (results fn tmps).run P w=((asAddr (tmps.getD p undef)).run P w).andThen fun a w₁=>((loadVar ty a).run P w₁).andThen fun x w₂=>.ok (.tuple #[x,tmps.getD u undef,tmps.getD v undef]) w₂:=by
 simp only[results,h];simp[Sem.run_bind,Result.andThen]
theorem qZ {P:Program}{fn:Func}{p u v:Tmp}{ty:TypeId}{R:Ending→World→Prop}{a:Act}{w:World}(h:fn.results=#[.cell p ty,.tmp u,.tmp v])(hdf:a.defers=[])(g:Nat)(cs:Array Value)(t:TypeId)(fr:Nat×Nat)(d:TypeDesc)
 (hp:a.tmps.getD p undef=.pointer (some ⟨g,0,none⟩)) (hg:w.heap[g]?=some (.cells cs t fr)) (hu:P.underlying ty=some d) (hd:(match d with | .struct _ | .array _ _=>true|_=>false)=true) (hi:(P.info? ty).map (·.size)=some cs.size)
 (hR:R (.returned (.tuple #[.agg cs,a.tmps.getD u undef,a.tmps.getD v undef])) w):bodyPost P fn R .ret a w:=by
 refine bodyPost_ret (v:=.tuple #[.agg cs,a.tmps.getD u undef,a.tmps.getD v undef]) ?_ hdf hR;rw[uj h,hp];simp[asAddr,run_loadVar_row w g t ty cs fr d hg hu hd hi]
def keysL:List ByteArray:=[Rf,Rh,KG,ZR,XU,XV,Wn,GX,XW,Wp,XY,Ri]
def oK (i:Nat):List (ByteArray×Value):=(keysL.take i).foldl (fun l k=>store l k (.bool true)) []
theorem yX (i:Nat)(k:ByteArray)(h:keysL[i]?=some k):oK (i+1)=store (oK i) k (.bool true):=by
 unfold oK;rw[List.take_add_one,h,List.foldl_append];rfl
def qw (ln:List UInt8)(cs cs':Array Value)(l l':List (ByteArray×Value)):Prop :=
 (10:UInt8) ∉ ln∧Lib.hasPrefix ln [35,83,66,65,84,67,72]=true∧∀(w0 w:World) (sb mb:Nat) (mm:Int),w0.cell? ⟨0,0,none⟩=some (.int .i64 mm)→Has w0 w [aF sb (.cells cs 51 (0,0)),mapA mb Value.string l]→
  Calls Tryz.prog 106 #[.pointer (some ⟨sb,0,none⟩),.map (some mb),.string (lb ln)] w fun e w'=>e=.returned (.int .i64 0)∧Has w0 w' [aF sb (.cells cs' 51 (0,0)),mapA mb Value.string l']
inductive Lines:List (List UInt8)→Array Value→Array Value→List (ByteArray×Value)→Prop
 |nil (cs:Array Value) (l:List (ByteArray×Value)):Lines [] cs cs l
 |cons {ln:List UInt8} {ls:List (List UInt8)} {a b c:Array Value} {l m:List (ByteArray×Value)}:qw ln a b l m→Lines ls b c m→Lines (ln::ls) a c l
theorem Rn {l:List UInt8}(r:List UInt8)(h:Lib.hasPrefix l [35,83,66,65,84,67,72]=true):Lib.hasPrefix (l++r) [35]=true:=by
 unfold Lib.hasPrefix at h ⊢;obtain⟨t,rfl⟩:=List.isPrefixOf_iff_prefix.1 h;exact List.isPrefixOf_iff_prefix.2 ⟨_,rfl⟩
def eX:Array Value:=#[.string cZ,.string cZ,.string cZ,.string cZ,.int .i64 0,.int .i64 0,.slice none 0 0,.int .i64 0,.bool false,.slice none 0 0,.int .i64 0,.int .i64 0,.bool false,.bool false,.string cZ]
section
variable {w:World}
set_option maxRecDepth 1000000 in
theorem wo:Calls Tryz.prog 104 #[] w fun e w'=>e=.returned (.slice (some ⟨w.heap.size,0,none⟩) 12 12)∧w'=w.alloc (.cells (keysL.map Value.string).toArray 9):=by
 refine named fun R HQ=>?_;go_enter Tryz.func104,Tryz.ntmps104;go_wp2_with fail
 first|go_ret2|go_ret|skip
 rw[←HQ.out];exact⟨rfl,rfl⟩
end
section
variable {w:World}
set_option maxRecDepth 1000000 in
theorem He (ls:List (List UInt8))(F F':Array Value)(hL:Lines ls (bH ⟨#[106,111,98]⟩ aU bC 1 3600 false) F (oK 12))(hlen:(textOf ls).length≤3000)(hF:F.setIfInBounds 14 (.string (lb []))=F')(h14:F[14]?=some (.string cZ))(hsz:F'.size=15)(h1:F'.all (·.oneCell')=true)
 {mm:Int} (HM:w.cell? ⟨0,0,none⟩=some (.int .i64 mm)) :
 Calls Tryz.prog 59 #[.string (lb ([35,33,106,111,98]++10::textOf ls))] w fun e w'=>e=.returned (.tuple #[.agg F',.int .i64 0,.int .i64 0])∧Below w.heap.size w w':=by
 refine named fun R HQ=>?_;have CT:ah (∀W,Below w.heap.size w W→Calls Tryz.prog 103 #[.string (lb ([35,33,106,111,98]++10::textOf ls)),.string ⟨#[10]⟩] W fun e w'=>e=.returned (.tuple #[.string (lb [35,33,106,111,98]),.string (lb (textOf ls)),.bool true])∧Below W.heap.size W w'):=⟨fun W hb=>(Tryz.strings_Cut (lb ([35,33,106,111,98]++10::textOf ls)) ⟨#[10]⟩ mm W (by rw[eY];simp;omega) (ak hb HM)).mono fun e w' h=>by
  obtain⟨h,n,rfl⟩:=h;rw[dY,show(⟨#[10]⟩:ByteArray).data.toList=[10]from rfl,nR 10 _ _ (by decide)]at h;exact⟨h,aC (Below.refl _ _) n⟩⟩
 have hT:¬(4096:Int)<(lb ([35,33,106,111,98]++10::textOf ls)).size:=by rw[eY];simp;omega
 obtain⟨T,Wq⟩:∃T,T=lb ([35,33,106,111,98]++10::textOf ls):=⟨_,rfl⟩;obtain⟨A,hA⟩:∃A,A=lb [35,33,106,111,98]:=⟨_,rfl⟩;have hA2:(A.toList==[35,33,106,111,98])=true:=by rw[hA,ByteArray.toList_eq,dY];rfl
 rw[←Wq]at CT hT;rw[←hA]at CT;rw[←Wq];have X8:=ah.mk HM;have ZT:=ah.mk (And.intro hL hlen);have HF:=ah.mk (And.intro (And.intro hF h14) (And.intro hsz h1));have hmm:=@run_makeMap Tryz.prog;clear HM hL hlen hF h14 hsz h1 Wq hA;go_enter Tryz.func59,Tryz.ntmps59;go_wp2_with (go_at_call 103;refine(CT.out _ (au (Below.refl _ _) _)).mono ?_;rintro e w1 ⟨rfl,hb⟩;have H1:ah (Has (w.alloc (.cells eX 51)) w1 []):=⟨(Has.start _).below hb⟩;clear hb;refine ah.out ?_)
 clear CT;have H2:ah (Has (w.alloc (.cells eX 51)) ((w1.alloc (.cells (bH ⟨#[106,111,98]⟩ aU bC 1 3600 false) 51)).alloc (.map #[] 0)) [aF w1.heap.size (.cells (bH ⟨#[106,111,98]⟩ aU bC 1 3600 false) 51),mapA (w1.heap.size+1) Value.string (oK 0)]):=⟨by
  have h:=(H1.out.aZ (.cells (bH ⟨#[106,111,98]⟩ aU bC 1 3600 false) 51)).jW Value.string;rw[show(w1.alloc (.cells (bH ⟨#[106,111,98]⟩ aU bC 1 3600 false) 51)).heap.size=w1.heap.size+1 by simp]at h;exact h⟩
 obtain⟨wA,hwA⟩:∃v,v=w.alloc (.cells eX 51):=⟨_,rfl⟩;have WA:=ah.mk hwA;rw[←hwA]at H2;clear hwA;obtain⟨sb,hsb⟩:∃v,v=w1.heap.size:=⟨_,rfl⟩;obtain⟨mb,hmb⟩:∃v,v=w1.heap.size+1:=⟨_,rfl⟩;obtain⟨rb,hrb⟩:∃v,v=w.heap.size:=⟨_,rfl⟩;rw[←hmb,←hsb]at H2;obtain⟨kb,hkb⟩:∃v,v=((w1.alloc (.cells (bH ⟨#[106,111,98]⟩ aU bC 1 3600 false) 51)).alloc (.map #[] 0)).heap.size:=⟨_,rfl⟩;have HKB:=ah.mk hkb;have H3:=ah.mk (H2.out.aZ (.cells (keysL.map Value.string).toArray 9));rw[←hkb]at H3;have HS:=ah.mk (And.intro hsb (And.intro hmb hrb));have KC:ah (∀(W:World) (kb:Nat),kb=W.heap.size→Calls Tryz.prog 104 #[] W fun e w'=>e=.returned (.slice (some ⟨kb,0,none⟩) 12 12)∧w'=W.alloc (.cells (keysL.map Value.string).toArray 9)):=⟨fun W kb h=>by rw[h];exact wo⟩;clear hsb hmb hrb hkb H2 H1;refine ah.mk ?_;go_wp2_with (go_at_call 104;refine(KC.out _ kb HKB.out).mono ?_;rintro e w4 ⟨rfl,hw4⟩;have H4:ah (Has wA w4 [aF sb (.cells (bH ⟨#[106,111,98]⟩ aU bC 1 3600 false) 51),mapA mb Value.string (oK 0),aF kb (.cells (keysL.map Value.string).toArray 9)]):=⟨by rw[hw4];exact H3.out⟩;clear hw4;refine ah.out ?_)
 obtain⟨hsb,hmb,hrb⟩:=HS.out;rw[←hmb,←hsb,←hrb];have HR:=ah.mk hrb;clear H3 KC HKB HS hsb hmb hrb;refine ah.mk ?_;go_wp2_with fail
 go_loopw [39] (fun i wr=>∃p:Nat,i=.int .i64 (p:Int)∧p≤12∧ah (Has wA wr [aF sb (.cells (bH ⟨#[106,111,98]⟩ aU bC 1 3600 false) 51),mapA mb Value.string (oK p),aF kb (.cells (keysL.map Value.string).toArray 9)])) (fun i _=>12-(intOf i).toNat)
 case atStart=>exact⟨0,rfl,by decide,⟨H4.out⟩⟩
 case round =>
  clear H4;obtain⟨p,rfl,hp,HB⟩:=hrel;have w1:wrap64 ((p:Int)+1)=(p:Int)+1:=wrap_in (by omega) (by omega);by_cases hlt:p<12
  ·obtain⟨kk,hkk⟩:∃kk,keysL[p]?=some kk:=⟨_,List.getElem?_eq_getElem (by show p<12;exact hlt)⟩;have c0:wr.cell? ⟨kb,p,none⟩=some (.string kk):=by
    rw[aj (HB.out.blk 2 rfl)];simp[hkk]
   have e1:(p:Int)<12:=by omega
   obtain⟨w5,xB,h5⟩:=run_store (P:=Tryz.prog) eG HB.out 1 rfl 180 9 4 Tryz.underlying180 Tryz.underlying9 kk (.bool true);have H5:=ah.mk h5;have HK:=ah.mk (yX p kk hkk);clear h5 hkk HB;go_wp2_with fail
   go_roundw
   case rel=>exact⟨p+1,rfl,by omega,⟨by rw[HK.out];exact H5.out⟩⟩
   case measure=>simp[intOf];omega
  ·obtain rfl:p=12:=by omega
   have H4:=ah.mk (HB.out.drop 2);clear HB;have HN:ah (∀l,(textOf l).length≤3000→l.length≤3000):=⟨fun l h=>by
    have : ∀l,l.length≤(textOf l).length:=fun l=>by
     induction l with
     |nil=>exact Nat.le_refl _
     |cons a t ih=>simp[textOf];omega
    have:=this l;omega⟩
   go_wp2_with fail
   go_loopg [6,12] ls.length (fun g s6 s12 wx=>∃(k:List (List UInt8)) (cs:Array Value) (l:List (ByteArray×Value)) (c:Nat),s6=.string (lb (textOf k))∧s12=.int .i64 (c:Int)∧k.length=g∧c+g≤4000∧ah (Lines k cs F l∧(textOf k).length≤3000∧Has wA wx [aF sb (.cells cs 51 (0,0)),mapA mb Value.string l]))
   case atStart=>exact⟨ls,_,_,2,rfl,rfl,rfl,by have:=HN.out ls ZT.out.2;omega,⟨ZT.out.1,ZT.out.2,H4.out⟩⟩
   case round =>
    clear H4 HN;obtain⟨k,cs,l,c,rfl,rfl,hk,hc,HB⟩:=hrel;cases gk with
    |zero =>
     obtain rfl:k=[]:=List.eq_nil_of_length_eq_zero hk;have hcs:cs=F:=by cases HB.out.1;rfl
     subst hcs;have PH:ah (Calls Tryz.prog 105 #[.string (lb (textOf [])),.string ⟨#[35]⟩] wr fun e w'=>e=.returned (.bool false)∧w'=wr):=⟨(Tryz.strings_HasPrefix (lb (textOf [])) ⟨#[35]⟩ wr).mono fun e w' h=>by rw[dY]at h;exact h⟩;have c14:wr.cell? ⟨sb,14,none⟩=some (.string cZ):=by rw[aj (HB.out.2.2.blk 0 rfl),HF.out.1.2]
     have f14:wr.frozen? ⟨sb,14,none⟩=_:=aJ (HB.out.2.2.blk 0 rfl) _;have H5:=ah.mk (HB.out.2.2.put 0 rfl 14 (.string (lb [])) F' HF.out.1.1);have H6:=ah.mk HB.out.2.2.old;clear HB;have SR:ah ((wr.setCell ⟨sb,14,none⟩ (.string (lb []))).rangeAt sb 0 F'.toList):=⟨aX (H5.out.blk 0 rfl) 0 _ fun i v h=>by rw[Nat.zero_add];simpa using h⟩;have Hf:(Tryz.prog.info? 51).map (·.size)=some F'.size:=by rw[HF.out.2.1];kernel_rfl
     have BR:ah ((wr.setCell ⟨sb,14,none⟩ (.string (lb []))).heap[rb]?=some (.cells eX 51 (0,0))):=⟨by
      have h:=H5.out.old.block rb (by rw[WA.out,HR.out];simp);rw[h,WA.out,HR.out];exact heap_alloc_new w _⟩
     go_wp2_with (first|(refine aI rfl 51 (.tmp 8) rfl sb 0 rfl F' _ SR.out Tryz.underlying51 rfl Hf ?_)|(refine aY rfl 51 (.tmp 2) (.tmp 73) rfl rb F' rfl rfl 51 _ BR.out Hf (by rw[HF.out.2.1];rfl) HF.out.2.2 ?_;refine ah.out ?_)|(go_at_call 105;refine PH.out.mono ?_;rintro e w' ⟨rfl,hw⟩;obtain rfl:=hw.symm;clear hw))
     refine ah.mk ?_;go_wp2_with fail
     try simp only[Exit.inBlock,Exit.then]
     refine qZ rfl rfl rb F' 51 (0,0) _ rfl (setRow_heap _ rb _ F' 51 (0,0) BR.out) Tryz.underlying51 rfl Hf ?_;rw[←HQ.out];refine⟨rfl,below_setRow (ay (B:=w.heap.size) (au (Below.refl _ _) (.cells eX 51)) (by simp) ?_) (by rw[HR.out];exact Nat.le_refl _) _⟩;have h:=H5.out.old;rw[WA.out]at h;exact h
    |succ g =>
     obtain⟨ln,k',rfl⟩:∃ln k',k=ln::k':=by
      cases k with
      |nil=>simp at hk
      |cons a t=>exact⟨a,t,rfl⟩
     obtain⟨hL,hlen,H5⟩:=HB.out;cases hL with
     |cons h1 h2 =>
      rename_i b m
      have hlen2:(textOf k').length≤3000:=by simp only[textOf,List.length_append,List.length_cons]at hlen;omega
      have hln:ln.length≤3000:=by simp only[textOf,List.length_append,List.length_cons]at hlen;omega
      have hM:=ak (ay (B:=w.heap.size) (au (Below.refl _ _) (.cells eX 51)) (by simp) (by have h:=H5.old;rw[WA.out]at h;exact h)) X8.out;have PH:ah (Calls Tryz.prog 105 #[.string (lb (textOf (ln::k'))),.string ⟨#[35]⟩] wr fun e w'=>e=.returned (.bool true)∧w'=wr):=⟨(Tryz.strings_HasPrefix (lb (textOf (ln::k'))) ⟨#[35]⟩ wr).mono fun e w' h=>by
       rw[dY,show textOf (ln::k')=ln++10::textOf k' from rfl,show(⟨#[35]⟩:ByteArray).data.toList=[35]from rfl,Rn _ h1.2.1]at h;exact h⟩
      have CT:ah (Calls Tryz.prog 103 #[.string (lb (textOf (ln::k'))),.string ⟨#[10]⟩] wr fun e w'=>e=.returned (.tuple #[.string (lb ln),.string (lb (textOf k')),.bool true])∧Below wr.heap.size wr w'):=⟨(Tryz.strings_Cut (lb (textOf (ln::k'))) ⟨#[10]⟩ mm wr (by rw[eY];omega) hM).mono fun e w' h=>by
       obtain⟨h,n,rfl⟩:=h;rw[dY,show textOf (ln::k')=ln++10::textOf k' from rfl,show(⟨#[10]⟩:ByteArray).data.toList=[10]from rfl,nR 10 _ _ h1.1]at h;exact⟨h,aC (Below.refl _ _) n⟩⟩
      have PS:ah (∀W,Calls Tryz.prog 105 #[.string (lb ln),.string ⟨#[35,83,66,65,84,67,72]⟩] W fun e w'=>e=.returned (.bool true)∧w'=W):=⟨fun W=>(Tryz.strings_HasPrefix (lb ln) ⟨#[35,83,66,65,84,67,72]⟩ W).mono fun e w' h=>by
       rw[dY,show(⟨#[35,83,66,65,84,67,72]⟩:ByteArray).data.toList=[35,83,66,65,84,67,72]from rfl,h1.2.1]at h;exact h⟩
      have OC:ah (∀W,Below wr.heap.size wr W→Calls Tryz.prog 106 #[.pointer (some ⟨sb,0,none⟩),.map (some mb),.string (lb ln)] W fun e w'=>e=.returned (.int .i64 0)∧Has wA w' [aF sb (.cells b 51 (0,0)),mapA mb Value.string m]):=⟨fun W hb=>h1.2.2 wA W sb mb mm (by rw[WA.out];exact ak (au (Below.refl _ _) (.cells eX 51)) X8.out) (H5.below hb)⟩;have H2:=ah.mk (And.intro h2 hlen2);have w1:wrap64 ((c:Int)+1)=(c:Int)+1:=wrap_in (by omega) (by omega);obtain⟨U,hU⟩:∃U,U=lb (textOf (ln::k')):=⟨_,rfl⟩;obtain⟨V,hV⟩:∃V,V=lb (textOf k'):=⟨_,rfl⟩;obtain⟨N,hN⟩:∃N,N=lb ln:=⟨_,rfl⟩;rw[←hU]at PH CT;rw[←hV,←hN]at CT;rw[←hN]at PS OC;rw[←hU];have HV:=ah.mk hV;clear hU hV hN hM h1 h2 hlen hlen2 hln H5 HB;go_wp2_with (first|(go_at_call 106;have _t:=HC.out;clear _t;refine(OC.out _ HC.out).mono ?_;rintro e w5 ⟨rfl,h5⟩;have H5:=ah.mk h5;clear h5)|(go_at_call 105;have _t:=HC.out;clear _t;refine(PS.out _).mono ?_;rintro e w' ⟨rfl,hw⟩;obtain rfl:=hw.symm;clear hw)|(go_at_call 103;refine CT.out.mono ?_;rintro e w4 ⟨rfl,hb⟩;have HC:=ah.mk hb;clear hb)|(go_at_call 105;refine PH.out.mono ?_;rintro e w' ⟨rfl,hw⟩;obtain rfl:=hw.symm;clear hw))
      go_roundg g
      case measure=>omega
      case rel=>exact⟨k',b,m,c+1,by rw[HV.out],by simp,by simpa using hk,by omega,⟨H2.out.1,H2.out.2,H5.out⟩⟩
end
end
end Go.Proofs.YtandhagfhppgaaaGreatDoor
