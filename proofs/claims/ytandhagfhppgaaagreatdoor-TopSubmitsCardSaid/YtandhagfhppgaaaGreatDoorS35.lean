/- Part 35 of a proof: contracts of the functions that the law reaches. No condition. -/
import Derived.Test.YtandhagfhppgaaaGreatDoorS25
import Derived.Test.YtandhagfhppgaaaGreatDoorS26
import Derived.Test.YtandhagfhppgaaaGreatDoorS34
set_option linter.all false
set_option maxRecDepth 100000
set_option maxHeartbeats 16000000
namespace Go.Proofs.YtandhagfhppgaaaGreatDoor
section
open Go.RowKit
theorem Star.perm {w:World}{l l':List bW}(h:l.Perm l'):∀F,Star l w F→Star l' w F:=by
 induction h with
 |nil=>exact fun F h=>h
 |cons X h ih=>exact fun F ⟨G,H,a,b,c,d⟩=>⟨G,H,a,ih H b,c,d⟩
 |swap X Y l =>
  intro F ⟨G,H,a,⟨G2,H2,a2,b2,c2,d2⟩,c,d⟩;refine⟨G2,fun k=>G k∨H2 k,a2,⟨G,H2,a,b2,fun k hg hh=>c k hg (d2 k (.inr hh)),fun k h=>h⟩,fun k hg hh=>?_,fun k h=>?_⟩
  ·rcases hh with hh|hh
   ·exact c k hh (d2 k (.inl hg))
   ·exact c2 k hg hh
  ·rcases h with h|h|h
   ·exact d k (.inr (d2 k (.inl h)))
   ·exact d k (.inl h)
   ·exact d k (.inr (d2 k (.inr h)))
 |trans _ _ ih1 ih2=>exact fun F h=>ih2 F (ih1 F h)
section
variable {w0 w:World}{A B:List bW}{X Y:bW}
theorem Has.perm {l l':List bW}(h:l.Perm l')(H:Has w0 w l):Has w0 w l':=by
 obtain⟨⟨F,h1,h2⟩,h3⟩:=H;exact⟨⟨F,Star.perm h F h1,h2⟩,h3⟩
theorem Has.ins (A B:List bW)(H:Has w0 w (A++B++[X])):Has w0 w (A++X::B):=by
 refine H.perm ?_;rw[List.append_assoc];exact List.Perm.append_left A (List.perm_append_comm (l₁:=B) (l₂:=[X]))
theorem Has.cut (A B:List bW)(H:Has w0 w (A++X::B)):Has w0 w (A++B):=by
 have h:(A++X::B).Perm (A++B++[X]):=by
  rw[List.append_assoc];exact List.Perm.append_left A (List.perm_append_comm (l₁:=[X]) (l₂:=B))
 exact(H.perm h).first
end
def dF (M:List bW)(w0 w:World)(x:Nat)(pol now:Int)(js:List J)(bk:List Ch)(fl:List Int)(k:Nat):Prop :=
 ∃(a:qR) (y:Yd) (m:Mx),a.x=x∧y.failed=fl∧y.ok (most js bk k) k∧m.ok (most js bk k)∧Has w0 w (CL a pol now js bk y m++M)
section
variable {M:List bW}{w0 w w1:World}{x:Nat}{pol now:Int}{js:List J}{bk:List Ch}{fl:List Int}{k:Nat}
theorem dF.below (h:dF M w0 w x pol now js bk fl k)(hb:Below w.heap.size w w1):dF M w0 w1 x pol now js bk fl k:=by
 obtain⟨a,y,m,h1,h2,h3,h4,h5⟩:=h;exact⟨a,y,m,h1,h2,h3,h4,h5.below hb⟩
theorem dF.st (h:dF M w0 w x pol now js bk fl k):St w0 w x pol now js bk fl k:=by
 obtain⟨a,y,m,h1,h2,h3,h4,h5⟩:=h;exact⟨a,y,m,h1,h2,h3,h4,h5.first⟩
theorem St.stM (h:St w0 w x pol now js bk fl k):dF [] w0 w x pol now js bk fl k:=by
 obtain⟨a,y,m,h1,h2,h3,h4,h5⟩:=h;exact⟨a,y,m,h1,h2,h3,h4,by rw[List.append_nil];exact h5⟩
end
end
section
open Go.RowKit Go.ChangeMaps
section
variable {w:World}
set_option maxRecDepth 1000000 in
theorem KD (s:ByteArray)(i:Nat)(hi:i<s.size)(hz:s.size≤1000)(c:Nat)(hc:(s[i]'hi).toNat=c)(ha:c<128):Calls Tryz.prog 213 #[.string s,.int .i64 (i:Int)] w fun e w'=>e=.returned (.tuple #[.int .i64 (c:Int),.int .i64 1])∧w'=w:=by
 refine named fun R HQ=>?_;have h1:(c:Int)<128:=by omega
 have h4:wrap64 (c:Int)=c:=wrap_in (by omega) (by omega);have h5:¬(i:Int)<0:=by omega
 have h6:(i:Int)<s.size:=by omega
 clear ha;go_enter Tryz.func213,Tryz.ntmps213;go_wp2_with fail
 first|go_ret2|go_ret|skip
 rw[←HQ.out];exact⟨rfl,rfl⟩
set_option maxRecDepth 1000000 in
theorem GN (s:ByteArray)(hs:small s):Calls Tryz.prog 151 #[.string s] w fun e w'=>e=.returned (.bool true)∧w'=w:=by
 refine named fun R HQ=>?_;have HA:=ah.mk hs;have hsz:s.size≤32:=hs.2.2;have hs1:1≤s.size:=hs.2.1;have s1:(1:Int)≤s.size:=by omega
 have s2:(s.size:Int)≤32:=by omega
 clear hs;go_enter Tryz.func151,Tryz.ntmps151;go_wp2_with fail
 go_loopg [3,4] s.size (fun g v3 v4 wx=>∃i:Nat,i+g=s.size∧v3=.int .i64 (i:Int)∧v4=.int .i64 (i:Int)∧wx=w)
 case atStart=>exact⟨0,by omega,rfl,rfl,rfl⟩
 case round =>
  obtain⟨i,hig,rfl,rfl,rfl⟩:=hrel;cases gk with
  |zero =>
   obtain rfl:i=s.size:=by omega
   go_wp2_with fail
   first|go_ret2|go_ret|skip
   rw[←HQ.out];exact⟨by simp,rfl⟩
  |succ g =>
   have hi:i<s.size:=by omega
   have hlt:(i:Int)<s.size:=by omega
   have hb:=HA.out.1 i _ (Lib.data_getElem? s i hi);obtain⟨c,hc⟩:∃c:Nat,c=(s[i]'hi).toNat:=⟨_,rfl⟩;have RC:=ah.mk (KD (w:=wr) s i hi (by omega) c hc.symm (by omega));rw[←hc]at hb;have h1:(48:Int)≤c:=by omega
   have h2:¬(c:Int)≤57:=by omega
   have h3:(65:Int)≤c:=by omega
   have h4:¬(c:Int)≤90:=by omega
   have h5:(97:Int)≤c:=by omega
   have h6:(c:Int)≤122:=by omega
   have w1:wrap64 ((i:Int)+1)=(i:Int)+1:=wrap_in (by omega) (by omega);clear hb hc;go_wp2_with (go_at_call 213;refine RC.out.mono ?_;rintro e w' ⟨rfl,hw⟩;obtain rfl:=hw.symm;clear hw)
   go_roundg g
   case measure=>omega
   case rel=>exact⟨i+1,by omega,rfl,rfl,rfl⟩
end
end
section
open Go.RowKit Go.ChangeMaps
section
variable {w:World}
set_option maxRecDepth 1000000 in
theorem KE:Calls Tryz.prog 152 #[.agg #[.bool false,.slice none 0 0]] w fun e w'=>e=.returned (.int .i64 0)∧Below w.heap.size w w':=by
 refine named fun R HQ=>?_;go_enter Tryz.func152,Tryz.ntmps152;go_wp2_with fail
 refine wp_loop_rounds 1 ?_;rw[rounds_succ];go_wp2_with fail
 first|go_ret2|go_ret|skip
 rw[←HQ.out];exact⟨rfl,au (Below.refl _ _) _⟩
set_option maxRecDepth 1000000 in
theorem KF:Calls Tryz.prog 153 #[.agg #[.slice none 0 0,.int .i64 0]] w fun e w'=>e=.returned (.int .i64 2)∧Below w.heap.size w w':=by
 refine named fun R HQ=>?_;go_enter Tryz.func153,Tryz.ntmps153;go_wp2_with fail
 first|go_ret2|go_ret|skip
 rw[←HQ.out];exact⟨rfl,au (Below.refl _ _) _⟩
end
end
section
open Go.RowKit Go.ChangeMaps
section
variable {w:World}
set_option maxRecDepth 1000000 in
theorem DK (s:Spec)(h0:small gW)(ha:small s.account)(hm:small aQ)(hq:small s.qos)(h1:1≤s.size)(h2:s.size≤8)(h3:1≤s.limit)(h4:s.limit≤20):Calls Tryz.prog 90 #[.agg s.cells] w fun e w'=>e=.returned (.int .i64 0)∧Below w.heap.size w w':=by
 refine named fun R HQ=>?_;obtain⟨a,q,sz,lim,rq⟩:=s;simp only at ha hq h1 h2 h3 h4;have NC:=ah.mk fun(W:World) (t:ByteArray) (ht:small t)=>GN (w:=W) t ht;have HS:=ah.mk (And.intro h0 (And.intro ha (And.intro hm hq)));have e1:¬(sz:Int)<1:=by omega
 have e2:¬(1024:Int)<sz:=by omega
 have e3:¬(lim:Int)<1:=by omega
 have e4:¬(1073741824:Int)<lim:=by omega
 have DC:=ah.mk fun W=>KE (w:=W);have AC:=ah.mk fun W=>KF (w:=W);have C0:ah (∀W,Below (w.alloc (.cells (Spec.cells ⟨a,q,sz,lim,rq⟩) 51)).heap.size (w.alloc (.cells (Spec.cells ⟨a,q,sz,lim,rq⟩) 51)) W→W.cell? ⟨w.heap.size,4,none⟩=some (.int .i64 sz)∧W.cell? ⟨w.heap.size,5,none⟩=some (.int .i64 lim)∧W.cell? ⟨w.heap.size,6,none⟩=some (.slice none 0 0)∧W.cell? ⟨w.heap.size,7,none⟩=some (.int .i64 0)∧W.cell? ⟨w.heap.size,10,none⟩=some (.int .i64 0)∧W.cell? ⟨w.heap.size,11,none⟩=some (.int .i64 0)∧W.cell? ⟨w.heap.size,14,none⟩=some (.string cZ)):=⟨fun W h=>by
  refine⟨?_,?_,?_,?_,?_,?_,?_⟩;all_goals exact ak h (by rw[aj (heap_alloc_new w _)];rfl)⟩
 have BW:=ah.mk (au (Below.refl w.heap.size w) (.cells (Spec.cells ⟨a,q,sz,lim,rq⟩) 51));unfold Spec.cells cZ at *;clear h0 ha hm hq h1 h2 h3 h4;go_enter Tryz.func90,Tryz.ntmps90;go_wp2_with (go_at_call 151;refine(NC.out _ _ HS.out.1).mono ?_;rintro e w' ⟨rfl,hw⟩;obtain rfl:=hw.symm;clear hw;refine ah.out ?_)
 refine ah.mk ?_;go_wp2_with (go_at_call 151;refine(NC.out _ _ HS.out.2.1).mono ?_;rintro e w' ⟨rfl,hw⟩;obtain rfl:=hw.symm;clear hw;refine ah.out ?_)
 refine ah.mk ?_;go_wp2_with (go_at_call 151;refine(NC.out _ _ HS.out.2.2.1).mono ?_;rintro e w' ⟨rfl,hw⟩;obtain rfl:=hw.symm;clear hw;refine ah.out ?_)
 refine ah.mk ?_;go_wp2_with (go_at_call 151;refine(NC.out _ _ HS.out.2.2.2).mono ?_;rintro e w' ⟨rfl,hw⟩;obtain rfl:=hw.symm;clear hw;refine ah.out ?_)
 refine ah.mk ?_;clear NC HS;go_wp2_with (go_at_call 152;refine(DC.out _).mono ?_;rintro e w2 ⟨rfl,hb⟩;obtain⟨c1,c2,c3,c4,c5,c6,c7⟩:=C0.out _ hb;have H2:=ah.mk hb;clear hb;refine ah.out ?_)
 refine ah.mk ?_;go_wp2_with (go_at_call 153;refine(AC.out _).mono ?_;rintro e w3 ⟨rfl,hb⟩;have B3:=ay H2.out H2.out.size hb;obtain⟨d1,d2,d3,d4,d5,d6,d7⟩:=C0.out _ B3;have H3:=ah.mk (ay BW.out (by simp) B3:Below w.heap.size w w3);clear hb B3;refine ah.out ?_)
 clear c1 c2 c3 c4 c5 c6 c7 AC DC C0;refine ah.mk ?_;go_wp2_with fail
 first|go_ret2|go_ret|skip
 rw[←HQ.out];exact⟨rfl,H3.out⟩
end
end
section
open Go.RowKit Go.ChangeMaps
theorem dW (l:List UInt8)(h:l.all (fun b=>decide (97≤b.toNat)&&decide (b.toNat≤122))=true)(h1:1≤l.length)(h2:l.length≤32):small (lb l):=by
 refine⟨fun j b hb=>?_,by rw[eY];exact h1,by rw[eY];exact h2⟩;rw[dY]at hb;simpa using List.all_eq_true.1 h b (List.mem_iff_getElem?.2 ⟨j,hb⟩)
theorem um {l:List UInt8}(h:small (lb l))(c:UInt8)(hc:c.toNat<97):c ∉ l:=fun hm=>by
 obtain⟨j,hj⟩:=List.mem_iff_getElem?.1 hm;have:=h.1 j c (by rw[dY];exact hj);omega
theorem qM {key v:List UInt8}(hk:(10:UInt8) ∉ key)(hv:(10:UInt8) ∉ v):(10:UInt8) ∉ mM key v:=by
 unfold mM;intro h;rcases List.mem_append.1 h with h|h
 ·exact absurd h (by decide)
 ·rcases List.mem_append.1 h with h|h
  ·exact hk h
  ·rcases List.mem_cons.1 h with h|h
   ·exact absurd h (by decide)
   ·exact hv h
theorem kY (l m:List UInt8)(h:(l==m)=false):((lb l).toList==m)=false:=by rw[ByteArray.toList_eq,dY];exact h
section
theorem DY {nm ac q:ByteArray}{sz lim:Nat}{rq:Bool}(v:List UInt8)(hv:small (lb v)){l:List (ByteArray×Value)}(hl:look l (lb [106,111,98,45,110,97,109,101])=some (.bool true)) :
 qw (mM [106,111,98,45,110,97,109,101] v) (bH nm ac q sz lim rq) (bH (lb v) ac q sz lim rq) l (del l (lb [106,111,98,45,110,97,109,101])):=by
 refine⟨qM (by decide) (um hv 10 (by decide)),rfl,fun w0 w sb mb mm HM H=>?_⟩;exact qL [106,111,98,45,110,97,109,101] v (.iface 9 (.string (lb v))) (.string (lb v)) 0 (bH nm ac q sz lim rq) (bH (lb v) ac q sz lim rq) l (by decide) (kY _ _ (by decide)) (kY _ _ (by decide)) (by have:=hv.2.2;rw[eY]at this;simp;omega) H hl rfl HM (fun W _=>DV (w:=W) (lb v) hv) (fun W hg=>GY (w:=W) hg (lb v))
theorem DZ {nm ac q:ByteArray}{sz lim:Nat}{rq:Bool}(v:List UInt8)(hv:small (lb v)){l:List (ByteArray×Value)}(hl:look l (lb [97,99,99,111,117,110,116])=some (.bool true)) :
 qw (mM [97,99,99,111,117,110,116] v) (bH nm ac q sz lim rq) (bH nm (lb v) q sz lim rq) l (del l (lb [97,99,99,111,117,110,116])):=by
 refine⟨qM (by decide) (um hv 10 (by decide)),rfl,fun w0 w sb mb mm HM H=>?_⟩;exact qL [97,99,99,111,117,110,116] v (.iface 9 (.string (lb v))) (.string (lb v)) 1 (bH nm ac q sz lim rq) (bH nm (lb v) q sz lim rq) l (by decide) (kY _ _ (by decide)) (kY _ _ (by decide)) (by have:=hv.2.2;rw[eY]at this;simp;omega) H hl rfl HM (fun W _=>DW (w:=W) (lb v) hv) (fun W hg=>GZ (w:=W) hg (lb v))
theorem yY {nm ac q:ByteArray}{sz lim:Nat}{rq:Bool}{l:List (ByteArray×Value)}(hl:look l (lb [112,97,114,116,105,116,105,111,110])=some (.bool true)) :
 qw (mM [112,97,114,116,105,116,105,111,110] [109,97,105,110]) (bH nm ac q sz lim rq) (bH nm ac q sz lim rq) l (del l (lb [112,97,114,116,105,116,105,111,110])):=by
 refine⟨qM (by decide) (um (dW [109,97,105,110] rfl (by decide) (by decide)) 10 (by decide)),rfl,fun w0 w sb mb mm HM H=>?_⟩;exact qL [112,97,114,116,105,116,105,111,110] [109,97,105,110] (.iface 9 (.string (lb [109,97,105,110]))) (.string (lb [109,97,105,110])) 2 (bH nm ac q sz lim rq) (bH nm ac q sz lim rq) l (by decide) (kY _ _ (by decide)) (kY _ _ (by decide)) (by decide) H hl rfl HM (fun W _=>yV (w:=W) (lb [109,97,105,110]) (dW [109,97,105,110] rfl (by decide) (by decide))) (fun W hg=>zU (w:=W) hg (lb [109,97,105,110]))
theorem Ro {nm ac q:ByteArray}{sz lim:Nat}{rq:Bool}(v:List UInt8)(hv:small (lb v)){l:List (ByteArray×Value)}(hl:look l (lb [113,111,115])=some (.bool true)) :
 qw (mM [113,111,115] v) (bH nm ac q sz lim rq) (bH nm ac (lb v) sz lim rq) l (del l (lb [113,111,115])):=by
 refine⟨qM (by decide) (um hv 10 (by decide)),rfl,fun w0 w sb mb mm HM H=>?_⟩;exact qL [113,111,115] v (.iface 9 (.string (lb v))) (.string (lb v)) 3 (bH nm ac q sz lim rq) (bH nm ac (lb v) sz lim rq) l (by decide) (kY _ _ (by decide)) (kY _ _ (by decide)) (by have:=hv.2.2;rw[eY]at this;simp;omega) H hl rfl HM (fun W _=>Rl (w:=W) (lb v) hv) (fun W hg=>Ul (w:=W) hg (lb v))
theorem qx:∀n:Fin 9,([UInt8.ofNat (48+n)].all (fun b=>decide (48≤b.toNat)&&decide (b.toNat≤57))=true)∧mV [UInt8.ofNat (48+n)] 0=n∧[UInt8.ofNat (48+n)].contains 10=false:=by decide
theorem OI {nm ac q:ByteArray}{sz lim:Nat}{rq:Bool}(n:Nat)(h1:1≤n)(h2:n≤8){l:List (ByteArray×Value)}(hl:look l (lb [115,105,122,101])=some (.bool true)) :
 qw (mM [115,105,122,101] [UInt8.ofNat (48+n)]) (bH nm ac q sz lim rq) (bH nm ac q n lim rq) l (del l (lb [115,105,122,101])):=by
 refine⟨qM (by decide) (by simpa using(qx ⟨n,by omega⟩).2.2),rfl,fun w0 w sb mb mm HM H=>?_⟩;exact qL [115,105,122,101] [UInt8.ofNat (48+n)] (.iface 3 (.int .i64 (n:Int))) (.int .i64 (n:Int)) 4 (bH nm ac q sz lim rq) (bH nm ac q n lim rq) l (by decide) (kY _ _ (by decide)) (kY _ _ (by decide)) (by simp) H hl rfl HM (fun W _=>by have h:=OG (w:=W) (lb [UInt8.ofNat (48+n)]) (wZ _ (qx ⟨n,by omega⟩).1 (by simp) (by simp)) (by rw[DN,(qx ⟨n,by omega⟩).2.1];exact h1) (by rw[DN,(qx ⟨n,by omega⟩).2.1];exact h2);rw[DN,(qx ⟨n,by omega⟩).2.1]at h;exact h) (fun W hg=>Rj (w:=W) hg n)
theorem Um:∀n:Fin 21,(iG n).contains 10=false:=by decide
theorem OJ {nm ac q:ByteArray}{sz lim:Nat}{rq:Bool}(n:Nat)(h1:1≤n)(h2:n<21){l:List (ByteArray×Value)}(hl:look l (lb [116,105,109,101])=some (.bool true)) :
 qw (mM [116,105,109,101] (iG n)) (bH nm ac q sz lim rq) (bH nm ac q sz n rq) l (del l (lb [116,105,109,101])):=by
 refine⟨qM (by decide) (by simpa using Um ⟨n,h2⟩),rfl,fun w0 w sb mb mm HM H=>?_⟩;exact qL [116,105,109,101] (iG n) (.iface 3 (.int .i64 (n:Int))) (.int .i64 (n:Int)) 5 (bH nm ac q sz lim rq) (bH nm ac q sz n rq) l (by decide) (kY _ _ (by decide)) (kY _ _ (by decide)) (by simp[iG,uh]) H hl rfl HM (fun W hb=>OH (w:=W) n h1 h2 (ak hb HM)) (fun W hg=>Rk (w:=W) hg n)
end
end
section
open Go.RowKit Go.ChangeMaps
section
variable {w0 w:World}
set_option maxRecDepth 1000000 in
theorem Hg {sb mb:Nat}{nm ac q:ByteArray}{sz lim:Nat}(l:List (ByteArray×Value))
 (H:Has w0 w [aF sb (.cells (bH nm ac q sz lim false) 51 (0,0)),mapA mb Value.string l]) (hl:look l (lb [114,101,113,117,101,117,101])=some (.bool true)) {mm:Int} (HM:w0.cell? ⟨0,0,none⟩=some (.int .i64 mm)) :
 Calls Tryz.prog 106 #[.pointer (some ⟨sb,0,none⟩),.map (some mb),.string (lb (DX [114,101,113,117,101,117,101]))] w fun e w'=>e=.returned (.int .i64 0)∧Has w0 w' [aF sb (.cells (bH nm ac q sz lim true) 51 (0,0)),mapA mb Value.string (del l (lb [114,101,113,117,101,117,101]))]:=by
 refine named fun R HQ=>?_;have CP:ah (∀W,Calls Tryz.prog 28 #[.string (lb (DX [114,101,113,117,101,117,101])),.string ⟨#[35,83,66,65,84,67,72,32,45,45]⟩] W fun e w'=>e=.returned (.tuple #[.string (lb [114,101,113,117,101,117,101]),.bool true])∧w'=W):=⟨fun W=>(Tryz.strings_CutPrefix (lb (DX [114,101,113,117,101,117,101])) ⟨#[35,83,66,65,84,67,72,32,45,45]⟩ W).mono fun e w' h=>by
  rw[dY,show(⟨#[35,83,66,65,84,67,72,32,45,45]⟩:ByteArray).data.toList=[35,83,66,65,84,67,72,32,45,45]from rfl,show DX [114,101,113,117,101,117,101]=[35,83,66,65,84,67,72,32,45,45]++[114,101,113,117,101,117,101]from rfl,(kF _ _).1,(kF _ _).2]at h;exact h⟩
 have CT:ah (Calls Tryz.prog 103 #[.string (lb [114,101,113,117,101,117,101]),.string ⟨#[61]⟩] w fun e w'=>e=.returned (.tuple #[.string (lb [114,101,113,117,101,117,101]),.string ⟨#[]⟩,.bool false])∧Below w.heap.size w w'):=⟨(Tryz.strings_Cut (lb [114,101,113,117,101,117,101]) ⟨#[61]⟩ mm w (by rw[eY];decide) (ak H.old HM)).mono fun e w' h=>by
  obtain⟨h,n,rfl⟩:=h;rw[dY,show(⟨#[61]⟩:ByteArray).data.toList=[61]from rfl,GR 61 _ (by decide)]at h;exact⟨h,aC (Below.refl _ _) n⟩⟩
 have hh:((lb [114,101,113,117,101,117,101]).toList==[104,111,108,100])=false:=kY _ _ (by decide);have hr:((lb [114,101,113,117,101,117,101]).toList==[114,101,113,117,101,117,101])=true:=by rw[ByteArray.toList_eq,dY];rfl
 have HL:=ah.mk hl;have HH:=ah.mk H;obtain⟨K,hK⟩:∃K,K=lb [114,101,113,117,101,117,101]:=⟨_,rfl⟩;obtain⟨T,hT⟩:∃T,T=lb (DX [114,101,113,117,101,117,101]):=⟨_,rfl⟩;rw[←hT,←hK]at CP;rw[←hK]at CT HL hh hr;rw[←hT];have HK:=ah.mk hK;clear hK hT hl H HM;go_enter Tryz.func106,Tryz.ntmps106;go_wp2_with (go_at_call 28;refine(CP.out _).mono ?_;rintro e w' ⟨rfl,hw⟩;obtain rfl:=hw.symm;clear hw;refine ah.out ?_)
 refine ah.mk ?_;go_wp2_with (go_at_call 103;refine CT.out.mono ?_;rintro e w1 ⟨rfl,hb⟩;have H1:=ah.mk (HH.out.below hb);clear hb;refine ah.out ?_)
 have LK:=dR eG H1.out 1 rfl 180 9 4 Tryz.underlying180 Tryz.underlying9 (.bool false) (by kernel_rfl) K false;rw[HL.out]at LK;have U9:=ah.mk LK;obtain⟨w2,hd,h2⟩:=DU eG H1.out 1 rfl 180 9 4 0 Tryz.underlying180 Tryz.underlying9 K (.bool true) HL.out;have H2:=ah.mk h2;have c13:w2.cell? ⟨sb,13,none⟩=some (.bool false):=by rw[aj (h2.blk 0 rfl)];rfl
 have f13:w2.frozen? ⟨sb,13,none⟩=_:=aJ (h2.blk 0 rfl) _;have H3:=ah.mk (h2.put 0 rfl 13 (.bool true) (bH nm ac q sz lim true) rfl);clear CP CT LK h2;refine ah.mk ?_;go_wp2_with (refine rO (by rfl) 180 (.tmp 35) (.tmp 36) false rfl rfl rfl U9.out ?_;clear U9)
 first|go_ret2|go_ret|skip
 rw[←HQ.out,←HK.out];exact⟨rfl,H3.out⟩
theorem D5 {nm ac q:ByteArray}{sz lim:Nat}{l:List (ByteArray×Value)}(hl:look l (lb [114,101,113,117,101,117,101])=some (.bool true)) :
 qw (DX [114,101,113,117,101,117,101]) (bH nm ac q sz lim false) (bH nm ac q sz lim true) l (del l (lb [114,101,113,117,101,117,101])):=
 ⟨by decide,rfl,fun w0 w sb mb mm HM H=>Hg l H hl HM⟩
def mO (ac q:List UInt8)(n lim:Nat)(rq:Bool):List (List UInt8):=mM [106,111,98,45,110,97,109,101] [106]::mM [97,99,99,111,117,110,116] ac::mM [112,97,114,116,105,116,105,111,110] [109,97,105,110]::mM [113,111,115] q::mM [115,105,122,101] [UInt8.ofNat (48+n)]::mM [116,105,109,101] (iG lim)::if rq then[DX [114,101,113,117,101,117,101]]else[]
theorem D6 (ac q:List UInt8)(hac:small (lb ac))(hq:small (lb q))(n lim:Nat)(n1:1≤n)(n2:n≤8)(l1:1≤lim)(l2:lim<21)(rq:Bool) :
 Lines (mO ac q n lim rq) (bH ⟨#[106,111,98]⟩ aU bC 1 3600 false) (bH (lb [106]) (lb ac) (lb q) n lim rq) (oK 12):=by
 refine .cons (DY [106] (dW _ rfl (by decide) (by decide)) (by kernel_rfl)) ?_;refine .cons (DZ ac hac (by kernel_rfl)) ?_;refine .cons (yY (by kernel_rfl)) ?_;refine .cons (Ro q hq (by kernel_rfl)) ?_;refine .cons (OI n n1 n2 (by kernel_rfl)) ?_;refine .cons (OJ lim l1 l2 (by kernel_rfl)) ?_;cases rq
 ·exact .nil _ _
 ·exact .cons (D5 (by kernel_rfl)) (.nil _ _)
def dH (ac q:List UInt8)(n lim:Nat)(rq:Bool):List UInt8:=[35,33,106,111,98]++10::textOf (mO ac q n lim rq)
theorem mP (ac q:List UInt8)(hac:small (lb ac))(hq:small (lb q))(n lim:Nat)(rq:Bool):(textOf (mO ac q n lim rq)).length≤300:=by
 have h1:=hac.2.2;have h2:=hq.2.2;rw[eY]at h1 h2;cases rq<;>simp[mO,textOf,mM,DX,iG,uh]<;>omega
theorem D7 (ac q:List UInt8)(hac:small (lb ac))(hq:small (lb q))(n lim:Nat)(n1:1≤n)(n2:n≤8)(l1:1≤lim)(l2:lim<21)(rq:Bool){mm:Int}(HM:w.cell? ⟨0,0,none⟩=some (.int .i64 mm)) :
 Calls Tryz.prog 59 #[.string (lb (dH ac q n lim rq))] w fun e w'=>e=.returned (.tuple #[.agg (Spec.cells ⟨lb ac,lb q,n,lim,rq⟩),.int .i64 0,.int .i64 0])∧Below w.heap.size w w' :=
 He (mO ac q n lim rq) (bH (lb [106]) (lb ac) (lb q) n lim rq) _ (D6 ac q hac hq n lim n1 n2 l1 l2 rq) (Nat.le_trans (mP ac q hac hq n lim rq) (by decide)) rfl rfl rfl (Spec.one _) HM
end
end
section
open Go.RowKit Go.ChangeMaps
section
variable {w:World}
set_option maxRecDepth 1000000 in
theorem OL:Calls Tryz.prog 166 #[.agg #[.bool false,.slice none 0 0]] w fun e w'=>e=.returned (.int .i64 0)∧Below w.heap.size w w':=by
 refine named fun R HQ=>?_;go_enter Tryz.func166,Tryz.ntmps166;go_wp2_with fail
 refine wp_loop_rounds 1 ?_;rw[rounds_succ];go_wp2_with fail
 first|go_ret2|go_ret|skip
 rw[←HQ.out];first|exact⟨rfl,au (Below.refl _ _) _⟩|exact⟨rfl,Below.refl _ _⟩
set_option maxRecDepth 1000000 in
theorem Hl:Calls Tryz.prog 164 #[.agg #[.slice none 0 0,.int .i64 0]] w fun e w'=>e=.returned (.bool true)∧Below w.heap.size w w':=by
 refine named fun R HQ=>?_;go_enter Tryz.func164,Tryz.ntmps164;go_wp2_with fail
 first|go_ret2|go_ret|skip
 rw[←HQ.out];exact⟨rfl,au (Below.refl _ _) _⟩
set_option maxRecDepth 1000000 in
theorem KH:Calls Tryz.prog 167 #[.string cZ] w fun e w'=>e=.returned (.bool true)∧w'=w:=by
 refine named fun R HQ=>?_;have PH:ah (∀W,Calls Tryz.prog 105 #[.string ⟨#[]⟩,.string ⟨#[35]⟩] W fun e w'=>e=.returned (.bool false)∧w'=W):=⟨fun W=>(Tryz.strings_HasPrefix ⟨#[]⟩ ⟨#[35]⟩ W)⟩;unfold cZ;go_enter Tryz.func167,Tryz.ntmps167;go_wp2_with (go_at_call 105;refine(PH.out _).mono ?_;rintro e w' ⟨rfl,hw⟩;obtain rfl:=hw.symm;clear hw)
 first|go_ret2|go_ret|skip
 rw[←HQ.out];exact⟨rfl,rfl⟩
set_option maxRecDepth 1000000 in
theorem D8 (s:Spec)(ha:small s.account)(hq:small s.qos)(h1:1≤s.size)(h2:s.size≤8)(h3:1≤s.limit)(h4:s.limit≤20):Calls Tryz.prog 107 #[.agg s.cells] w fun e w'=>e=.returned (.int .i64 0)∧Below w.heap.size w w':=by
 refine named fun R HQ=>?_;have h0:small gW:=dW [106] rfl (by decide) (by decide);have hm:small aQ:=dW [109,97,105,110] rfl (by decide) (by decide);obtain⟨a,q,sz,lim,rq⟩:=s;simp only at ha hq h1 h2 h3 h4;have NC:=ah.mk fun(W:World) (t:ByteArray) (ht:small t)=>iJ (w:=W) t ht;have HS:=ah.mk (And.intro h0 (And.intro ha (And.intro hm hq)));have e1:(1:Int)≤sz:=by omega
 have e2:(sz:Int)≤1024:=by omega
 have e3:(1:Int)≤lim:=by omega
 have e4:(lim:Int)≤1073741824:=by omega
 have DC:=ah.mk fun W=>OL (w:=W);have EC:=ah.mk fun W=>Hl (w:=W);have RC:=ah.mk fun W=>KH (w:=W);have C0:ah (∀W,Below (w.alloc (.cells (Spec.cells ⟨a,q,sz,lim,rq⟩) 51)).heap.size (w.alloc (.cells (Spec.cells ⟨a,q,sz,lim,rq⟩) 51)) W→(W.cell? ⟨w.heap.size,0,none⟩=some (.string gW)∧W.cell? ⟨w.heap.size,1,none⟩=some (.string a)∧W.cell? ⟨w.heap.size,2,none⟩=some (.string aQ)∧W.cell? ⟨w.heap.size,3,none⟩=some (.string q))∧W.cell? ⟨w.heap.size,4,none⟩=some (.int .i64 sz)∧W.cell? ⟨w.heap.size,5,none⟩=some (.int .i64 lim)∧W.cell? ⟨w.heap.size,6,none⟩=some (.slice none 0 0)∧W.cell? ⟨w.heap.size,7,none⟩=some (.int .i64 0)∧W.cell? ⟨w.heap.size,8,none⟩=some (.bool false)∧W.cell? ⟨w.heap.size,9,none⟩=some (.slice none 0 0)∧W.cell? ⟨w.heap.size,10,none⟩=some (.int .i64 0)∧W.cell? ⟨w.heap.size,11,none⟩=some (.int .i64 0)∧W.cell? ⟨w.heap.size,14,none⟩=some (.string cZ)):=⟨fun W h=>by
  refine⟨⟨?_,?_,?_,?_⟩,?_,?_,?_,?_,?_,?_,?_,?_,?_⟩;all_goals exact ak h (by rw[aj (heap_alloc_new w _)];rfl)⟩
 have BW:=ah.mk (au (Below.refl w.heap.size w) (.cells (Spec.cells ⟨a,q,sz,lim,rq⟩) 51));have BR:=ah.mk (Below.refl (w.alloc (.cells (Spec.cells ⟨a,q,sz,lim,rq⟩) 51)).heap.size (w.alloc (.cells (Spec.cells ⟨a,q,sz,lim,rq⟩) 51)));unfold Spec.cells at *;clear h0 ha hm hq h1 h2 h3 h4;go_enter Tryz.func107,Tryz.ntmps107;go_wp2_with (go_at_call 163;refine(NC.out _ _ HS.out.1).mono ?_;rintro e w1 ⟨rfl,hb⟩;have H1:=ah.mk (ay BR.out (Nat.le_refl _) hb);clear hb;refine ah.out ?_)
 clear BR;obtain⟨⟨a0,a1,a2,a3⟩,_⟩:=C0.out _ H1.out;refine ah.mk ?_;go_wp2_with (go_at_call 163;refine(NC.out _ _ HS.out.2.1).mono ?_;rintro e w2 ⟨rfl,hb⟩;have H2:=ah.mk (ay H1.out H1.out.size hb);clear hb;refine ah.out ?_)
 clear a0 a1 a2 a3 H1;obtain⟨⟨a0,a1,a2,a3⟩,_⟩:=C0.out _ H2.out;refine ah.mk ?_;go_wp2_with (go_at_call 163;refine(NC.out _ _ HS.out.2.2.1).mono ?_;rintro e w3 ⟨rfl,hb⟩;have H3:=ah.mk (ay H2.out H2.out.size hb);clear hb;refine ah.out ?_)
 clear a0 a1 a2 a3 H2;obtain⟨⟨a0,a1,a2,a3⟩,_⟩:=C0.out _ H3.out;refine ah.mk ?_;go_wp2_with (go_at_call 163;refine(NC.out _ _ HS.out.2.2.2).mono ?_;rintro e w4 ⟨rfl,hb⟩;have H4:=ah.mk (ay H3.out H3.out.size hb);clear hb;refine ah.out ?_)
 clear a0 a1 a2 a3 H3 NC HS;obtain⟨_,b4,b5,b6,b7,b8,b9,b10,b11,b14⟩:=C0.out _ H4.out;refine ah.mk ?_;go_wp2_with (go_at_call 164;refine(EC.out _).mono ?_;rintro e w5 ⟨rfl,hb⟩;have H5:=ah.mk (ay H4.out H4.out.size hb);clear hb;refine ah.out ?_)
 clear b4 b5 b6 b7 b8 b9 b10 b11 b14 H4;obtain⟨_,b4,b5,b6,b7,b8,b9,b10,b11,b14⟩:=C0.out _ H5.out;refine ah.mk ?_;go_wp2_with (go_at_call 166;refine(DC.out _).mono ?_;rintro e w6 ⟨rfl,hb⟩;have H6:=ah.mk (ay H5.out H5.out.size hb);clear hb;refine ah.out ?_)
 clear b4 b5 b6 b7 b8 b9 b10 b11 b14 H5;obtain⟨_,b4,b5,b6,b7,b8,b9,b10,b11,b14⟩:=C0.out _ H6.out;refine ah.mk ?_;go_wp2_with (go_at_call 167;refine(RC.out _).mono ?_;rintro e w' ⟨rfl,hw⟩;obtain rfl:=hw.symm;clear hw)
 first|go_ret2|go_ret|skip
 rw[←HQ.out];exact⟨rfl,ay BW.out (by simp) H6.out⟩
end
end
end Go.Proofs.YtandhagfhppgaaaGreatDoor
