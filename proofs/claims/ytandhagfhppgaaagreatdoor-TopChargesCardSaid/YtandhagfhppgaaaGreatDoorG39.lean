/- Part 44 of a proof: contracts of the functions that the law reaches. No condition. -/
import Derived.Test.YtandhagfhppgaaaGreatDoorG2
import Derived.Test.YtandhagfhppgaaaGreatDoorG11
import Derived.Test.YtandhagfhppgaaaGreatDoorG32
set_option linter.all false
set_option maxRecDepth 100000
set_option maxHeartbeats 16000000
namespace Go.Proofs.YtandhagfhppgaaaGreatDoor
section
open Go.RowKit Go.ChangeMaps
theorem zh {P:Program}{ops:Array Oper}{rest:List Oper}{o:Oper}{a:Act}{w:World}{Q:Exit→Act→World→Prop}(hw:Region.wanted o (yielded ops a.tmps)=true)(t:TypeId)(m x:Operand)(ok:Bool)(ho:o.op=.lookup t m x ok){mv kv v:Value}(hm:a.eval m=mv)(hx:a.eval x=kv)(hr:(Instr.lookup t mv kv ok).run P w=.ok v w)(h:wpList P ops Q rest (a.put o.dst v) w):wpList P ops Q (o::rest) a w :=
 BigFrame.wpList_want hw fun K' hK'=>by
  unfold Oper.wp;simp[execOp,ho,hm,hx,hr,Result.andThen];exact hK' _ _ h
theorem qO (p l:List UInt8):Lib.hasPrefix (p++l) p=true∧Lib.trimPrefix (p++l) p=l:=by
 have h:Lib.hasPrefix (p++l) p=true:=by unfold Lib.hasPrefix;exact List.isPrefixOf_iff_prefix.2 ⟨l,rfl⟩
 refine⟨h,?_⟩;unfold Lib.trimPrefix;rw[h,if_pos rfl,List.drop_left]
def nI (key v:List UInt8):List UInt8:=[35,83,66,65,84,67,72,32,45,45]++(key++61::v)
def D9 (key:List UInt8):List UInt8:=[35,83,66,65,84,67,72,32,45,45]++key
section
variable {w0 w:World}
set_option maxRecDepth 1000000 in
theorem qP {sb mb:Nat}(key v:List UInt8)(X u:Value)(k:Nat)(cs cs':Array Value)(l:List (ByteArray×Value))(hkey:(61:UInt8) ∉ key)(hh:((lb key).toList==[104,111,108,100])=false)(hr:((lb key).toList==[114,101,113,117,101,117,101])=false)(hsz:key.length+v.length≤200)
 (H:Has w0 w [aF sb (.cells cs 51 (0,0)),mapA mb Value.string l]) (hl:look l (lb key)=some (.bool true)) (hset:cs.setIfInBounds k u=cs') {mm:Int} (HM:w0.cell? ⟨0,0,none⟩=some (.int .i64 mm))
 (RC:∀W,Below w0.heap.size w0 W→Calls Tryz.prog 161 #[.string (lb key),.string (lb v)] W fun e w'=>e=.returned (.tuple #[X,.int .i64 0])∧Below W.heap.size W w')
 (SC:∀W:World,W.heap[sb]?=some (.cells cs 51 (0,0))→Calls Tryz.prog 162 #[.pointer (some ⟨sb,0,none⟩),.string (lb key),X] W fun e w'=>e=.returned (.tuple #[])∧w'=W.setCell ⟨sb,k,none⟩ u) :
 Calls Tryz.prog 106 #[.pointer (some ⟨sb,0,none⟩),.map (some mb),.string (lb (nI key v))] w fun e w'=>e=.returned (.int .i64 0)∧Has w0 w' [aF sb (.cells cs' 51 (0,0)),mapA mb Value.string (del l (lb key))]:=by
 refine named fun R HQ=>?_;have CP:ah (∀W,Calls Tryz.prog 28 #[.string (lb (nI key v)),.string ⟨#[35,83,66,65,84,67,72,32,45,45]⟩] W fun e w'=>e=.returned (.tuple #[.string (lb (key++61::v)),.bool true])∧w'=W):=⟨fun W=>(Tryz.strings_CutPrefix (lb (nI key v)) ⟨#[35,83,66,65,84,67,72,32,45,45]⟩ W).mono fun e w' h=>by
  rw[fQ,show(⟨#[35,83,66,65,84,67,72,32,45,45]⟩:ByteArray).data.toList=[35,83,66,65,84,67,72,32,45,45]from rfl,show nI key v=[35,83,66,65,84,67,72,32,45,45]++(key++61::v)from rfl,(qO _ _).1,(qO _ _).2]at h;exact h⟩
 have CT:ah (Calls Tryz.prog 103 #[.string (lb (key++61::v)),.string ⟨#[61]⟩] w fun e w'=>e=.returned (.tuple #[.string (lb key),.string (lb v),.bool true])∧Below w.heap.size w w'):=⟨(Tryz.strings_Cut (lb (key++61::v)) ⟨#[61]⟩ mm w (by rw[gK];simp;omega) (ak H.old HM)).mono fun e w' h=>by
  obtain⟨h,n,rfl⟩:=h;rw[fQ,show(⟨#[61]⟩:ByteArray).data.toList=[61]from rfl,y9 61 _ _ hkey]at h;exact⟨h,aC (Below.refl _ _) n⟩⟩
 have HL:=ah.mk hl;have HS:=ah.mk hset;have RCA:=ah.mk RC;have SCA:=ah.mk SC;have HH:=ah.mk H;obtain⟨K,hK⟩:∃K,K=lb key:=⟨_,rfl⟩;obtain⟨V,hV⟩:∃V,V=lb v:=⟨_,rfl⟩;obtain⟨T,hT⟩:∃T,T=lb (nI key v):=⟨_,rfl⟩;obtain⟨U,hU⟩:∃U,U=lb (key++61::v):=⟨_,rfl⟩;rw[←hT,←hU]at CP;rw[←hK,←hV,←hU]at CT;rw[←hK]at HL hh hr SCA;rw[←hK,←hV]at RCA;rw[←hT];have HK:=ah.mk hK;clear hK hV hT hU RC SC hl hset H HM hkey hsz;go_enter Tryz.func106,Tryz.ntmps106;go_wp2_with (go_at_call 28;refine(CP.out _).mono ?_;rintro e w' ⟨rfl,hw⟩;obtain rfl:=hw.symm;clear hw;refine ah.out ?_)
 refine ah.mk ?_;go_wp2_with (go_at_call 103;refine CT.out.mono ?_;rintro e w1 ⟨rfl,hb⟩;have H1:=ah.mk (HH.out.below hb);clear hb;refine ah.out ?_)
 have LK:=dU eX H1.out 1 rfl 180 9 4 Tryz.underlying180 Tryz.underlying9 (.bool false) (by kernel_rfl) K false;rw[HL.out]at LK;have X8:=ah.mk LK;obtain⟨w2,hd,h2⟩:=Nw eX H1.out 1 rfl 180 9 4 0 Tryz.underlying180 Tryz.underlying9 K (.bool true) HL.out;have H2:=ah.mk h2;clear CP CT LK h2;refine ah.mk ?_;go_wp2_with (first|(refine zh (by rfl) 180 (.tmp 35) (.tmp 36) false rfl rfl rfl X8.out ?_;clear X8)|(go_at_call 161;refine ah.out ?_))
 clear H1 hd;refine ah.mk ?_;go_wp2_with (first|(go_at_call 162;have _t:=H3.out;clear _t;refine(SCA.out _ (H3.out.blk 0 rfl)).mono ?_;rintro e w4 ⟨rfl,hw⟩;have H4:=ah.mk (And.intro hw (H3.out.put 0 rfl k u _ HS.out));clear hw)|(go_at_call 161;refine(RCA.out _ H2.out.old).mono ?_;rintro e w3 ⟨rfl,hb⟩;have H3:=ah.mk (H2.out.below hb);clear hb))
 first|go_ret2|go_ret|skip
 rw[←HQ.out,←HK.out];exact⟨rfl,by rw[H4.out.1];exact H4.out.2⟩
end
end
section
open Go.RowKit Go.ChangeMaps
theorem uG {fn:Func}{p u v:Tmp}{ty:TypeId}(h:fn.results=#[.cell p ty,.tmp u,.tmp v])(tmps:Array Value)(P:Program)(w:World) :
 (results fn tmps).run P w=((asAddr (tmps.getD p undef)).run P w).andThen fun a w₁=>((loadVar ty a).run P w₁).andThen fun x w₂=>.ok (.tuple #[x,tmps.getD u undef,tmps.getD v undef]) w₂:=by
 simp only[results,h];simp[Sem.run_bind,Result.andThen]
theorem Ac {P:Program}{fn:Func}{p u v:Tmp}{ty:TypeId}{R:Ending→World→Prop}{a:Act}{w:World}(h:fn.results=#[.cell p ty,.tmp u,.tmp v])(hdf:a.defers=[])(g:Nat)(cs:Array Value)(t:TypeId)(fr:Nat×Nat)(d:TypeDesc)
 (hp:a.tmps.getD p undef=.pointer (some ⟨g,0,none⟩)) (hg:w.heap[g]?=some (.cells cs t fr)) (hu:P.underlying ty=some d) (hd:(match d with | .struct _ | .array _ _=>true|_=>false)=true) (hi:(P.info? ty).map (·.size)=some cs.size)
 (hR:R (.returned (.tuple #[.agg cs,a.tmps.getD u undef,a.tmps.getD v undef])) w):bodyPost P fn R .ret a w:=by
 refine bodyPost_ret (v:=.tuple #[.agg cs,a.tmps.getD u undef,a.tmps.getD v undef]) ?_ hdf hR;rw[uG h,hp];simp[asAddr,run_loadVar_row w g t ty cs fr d hg hu hd hi]
def keysL:List ByteArray:=[Rt,Ru,KP,Zy,XV,XW,Wu,Hl,XY,Wv,XZ,Rw]
def wL (i:Nat):List (ByteArray×Value):=(keysL.take i).foldl (fun l k=>store l k (.bool true)) []
theorem KQ (i:Nat)(k:ByteArray)(h:keysL[i]?=some k):wL (i+1)=store (wL i) k (.bool true):=by
 unfold wL;rw[List.take_add_one,h,List.foldl_append];rfl
def qy (ln:List UInt8)(cs cs':Array Value)(l l':List (ByteArray×Value)):Prop :=
 (10:UInt8) ∉ ln∧Lib.hasPrefix ln [35,83,66,65,84,67,72]=true∧∀(w0 w:World) (sb mb:Nat) (mm:Int),w0.cell? ⟨0,0,none⟩=some (.int .i64 mm)→Has w0 w [aF sb (.cells cs 51 (0,0)),mapA mb Value.string l]→
  Calls Tryz.prog 106 #[.pointer (some ⟨sb,0,none⟩),.map (some mb),.string (lb ln)] w fun e w'=>e=.returned (.int .i64 0)∧Has w0 w' [aF sb (.cells cs' 51 (0,0)),mapA mb Value.string l']
inductive Lines:List (List UInt8)→Array Value→Array Value→List (ByteArray×Value)→Prop
 |nil (cs:Array Value) (l:List (ByteArray×Value)):Lines [] cs cs l
 |cons {ln:List UInt8} {ls:List (List UInt8)} {a b c:Array Value} {l m:List (ByteArray×Value)}:qy ln a b l m→Lines ls b c m→Lines (ln::ls) a c l
theorem RF {l:List UInt8}(r:List UInt8)(h:Lib.hasPrefix l [35,83,66,65,84,67,72]=true):Lib.hasPrefix (l++r) [35]=true:=by
 unfold Lib.hasPrefix at h ⊢;obtain⟨t,rfl⟩:=List.isPrefixOf_iff_prefix.1 h;exact List.isPrefixOf_iff_prefix.2 ⟨_,rfl⟩
def qA:Array Value:=#[.string bY,.string bY,.string bY,.string bY,.int .i64 0,.int .i64 0,.slice none 0 0,.int .i64 0,.bool false,.slice none 0 0,.int .i64 0,.int .i64 0,.bool false,.bool false,.string bY]
section
variable {w:World}
set_option maxRecDepth 1000000 in
theorem Hr:Calls Tryz.prog 104 #[] w fun e w'=>e=.returned (.slice (some ⟨w.heap.size,0,none⟩) 12 12)∧w'=w.alloc (.cells (keysL.map Value.string).toArray 9):=by
 refine named fun R HQ=>?_;go_enter Tryz.func104,Tryz.ntmps104;go_wp2_with fail
 first|go_ret2|go_ret|skip
 rw[←HQ.out];exact⟨rfl,rfl⟩
end
section
variable {w:World}
set_option maxRecDepth 1000000 in
theorem Ht (ls:List (List UInt8))(F F':Array Value)(hL:Lines ls (bJ ⟨#[106,111,98]⟩ aV bK 1 3600 false) F (wL 12))(hlen:(textOf ls).length≤3000)(hF:F.setIfInBounds 14 (.string (lb []))=F')(h14:F[14]?=some (.string bY))(hsz:F'.size=15)(h1:F'.all (·.oneCell')=true)
 {mm:Int} (HM:w.cell? ⟨0,0,none⟩=some (.int .i64 mm)) :
 Calls Tryz.prog 59 #[.string (lb ([35,33,106,111,98]++10::textOf ls))] w fun e w'=>e=.returned (.tuple #[.agg F',.int .i64 0,.int .i64 0])∧Below w.heap.size w w':=by
 refine named fun R HQ=>?_;have CT:ah (∀W,Below w.heap.size w W→Calls Tryz.prog 103 #[.string (lb ([35,33,106,111,98]++10::textOf ls)),.string ⟨#[10]⟩] W fun e w'=>e=.returned (.tuple #[.string (lb [35,33,106,111,98]),.string (lb (textOf ls)),.bool true])∧Below W.heap.size W w'):=⟨fun W hb=>(Tryz.strings_Cut (lb ([35,33,106,111,98]++10::textOf ls)) ⟨#[10]⟩ mm W (by rw[gK];simp;omega) (ak hb HM)).mono fun e w' h=>by
  obtain⟨h,n,rfl⟩:=h;rw[fQ,show(⟨#[10]⟩:ByteArray).data.toList=[10]from rfl,y9 10 _ _ (by decide)]at h;exact⟨h,aC (Below.refl _ _) n⟩⟩
 have hT:¬(4096:Int)<(lb ([35,33,106,111,98]++10::textOf ls)).size:=by rw[gK];simp;omega
 obtain⟨T,Zz⟩:∃T,T=lb ([35,33,106,111,98]++10::textOf ls):=⟨_,rfl⟩;obtain⟨A,hA⟩:∃A,A=lb [35,33,106,111,98]:=⟨_,rfl⟩;have hA2:(A.toList==[35,33,106,111,98])=true:=by rw[hA,ByteArray.toList_eq,fQ];rfl
 rw[←Zz]at CT hT;rw[←hA]at CT;rw[←Zz];have HMA:=ah.mk HM;have ZA:=ah.mk (And.intro hL hlen);have HF:=ah.mk (And.intro (And.intro hF h14) (And.intro hsz h1));have hmm:=@run_makeMap Tryz.prog;clear HM hL hlen hF h14 hsz h1 Zz hA;go_enter Tryz.func59,Tryz.ntmps59;go_wp2_with (go_at_call 103;refine(CT.out _ (au (Below.refl _ _) _)).mono ?_;rintro e w1 ⟨rfl,hb⟩;have H1:ah (Has (w.alloc (.cells qA 51)) w1 []):=⟨(Has.start _).below hb⟩;clear hb;refine ah.out ?_)
 clear CT;have H2:ah (Has (w.alloc (.cells qA 51)) ((w1.alloc (.cells (bJ ⟨#[106,111,98]⟩ aV bK 1 3600 false) 51)).alloc (.map #[] 0)) [aF w1.heap.size (.cells (bJ ⟨#[106,111,98]⟩ aV bK 1 3600 false) 51),mapA (w1.heap.size+1) Value.string (wL 0)]):=⟨by
  have h:=(H1.out.bg (.cells (bJ ⟨#[106,111,98]⟩ aV bK 1 3600 false) 51)).lq Value.string;rw[show(w1.alloc (.cells (bJ ⟨#[106,111,98]⟩ aV bK 1 3600 false) 51)).heap.size=w1.heap.size+1 by simp]at h;exact h⟩
 obtain⟨wA,hwA⟩:∃v,v=w.alloc (.cells qA 51):=⟨_,rfl⟩;have WA:=ah.mk hwA;rw[←hwA]at H2;clear hwA;obtain⟨sb,hsb⟩:∃v,v=w1.heap.size:=⟨_,rfl⟩;obtain⟨mb,hmb⟩:∃v,v=w1.heap.size+1:=⟨_,rfl⟩;obtain⟨rb,hrb⟩:∃v,v=w.heap.size:=⟨_,rfl⟩;rw[←hmb,←hsb]at H2;obtain⟨kb,hkb⟩:∃v,v=((w1.alloc (.cells (bJ ⟨#[106,111,98]⟩ aV bK 1 3600 false) 51)).alloc (.map #[] 0)).heap.size:=⟨_,rfl⟩;have HKB:=ah.mk hkb;have H3:=ah.mk (H2.out.bg (.cells (keysL.map Value.string).toArray 9));rw[←hkb]at H3;have HS:=ah.mk (And.intro hsb (And.intro hmb hrb));have KC:ah (∀(W:World) (kb:Nat),kb=W.heap.size→Calls Tryz.prog 104 #[] W fun e w'=>e=.returned (.slice (some ⟨kb,0,none⟩) 12 12)∧w'=W.alloc (.cells (keysL.map Value.string).toArray 9)):=⟨fun W kb h=>by rw[h];exact Hr⟩;clear hsb hmb hrb hkb H2 H1;refine ah.mk ?_;go_wp2_with (go_at_call 104;refine(KC.out _ kb HKB.out).mono ?_;rintro e w4 ⟨rfl,hw4⟩;have H4:ah (Has wA w4 [aF sb (.cells (bJ ⟨#[106,111,98]⟩ aV bK 1 3600 false) 51),mapA mb Value.string (wL 0),aF kb (.cells (keysL.map Value.string).toArray 9)]):=⟨by rw[hw4];exact H3.out⟩;clear hw4;refine ah.out ?_)
 obtain⟨hsb,hmb,hrb⟩:=HS.out;rw[←hmb,←hsb,←hrb];have HR:=ah.mk hrb;clear H3 KC HKB HS hsb hmb hrb;refine ah.mk ?_;go_wp2_with fail
 go_loopw [39] (fun i wr=>∃p:Nat,i=.int .i64 (p:Int)∧p≤12∧ah (Has wA wr [aF sb (.cells (bJ ⟨#[106,111,98]⟩ aV bK 1 3600 false) 51),mapA mb Value.string (wL p),aF kb (.cells (keysL.map Value.string).toArray 9)])) (fun i _=>12-(intOf i).toNat)
 case atStart=>exact⟨0,rfl,by decide,⟨H4.out⟩⟩
 case round =>
  clear H4;obtain⟨p,rfl,hp,HB⟩:=hrel;have w1:wrap64 ((p:Int)+1)=(p:Int)+1:=wrap_in (by omega) (by omega);by_cases hlt:p<12
  ·obtain⟨kk,hkk⟩:∃kk,keysL[p]?=some kk:=⟨_,List.getElem?_eq_getElem (by show p<12;exact hlt)⟩;have c0:wr.cell? ⟨kb,p,none⟩=some (.string kk):=by
    rw[aj (HB.out.blk 2 rfl)];simp[hkk]
   have e1:(p:Int)<12:=by omega
   obtain⟨w5,zo,h5⟩:=run_store (P:=Tryz.prog) eX HB.out 1 rfl 180 9 4 Tryz.underlying180 Tryz.underlying9 kk (.bool true);have H5:=ah.mk h5;have HK:=ah.mk (KQ p kk hkk);clear h5 hkk HB;go_wp2_with fail
   go_roundw
   case rel=>exact⟨p+1,rfl,by omega,⟨by rw[HK.out];exact H5.out⟩⟩
   case measure=>simp[intOf];omega
  ·obtain rfl:p=12:=by omega
   have H4:=ah.mk (HB.out.drop 2);clear HB;have HN:ah (∀l,(textOf l).length≤3000→l.length≤3000):=⟨fun l h=>by
    have : ∀l,l.length≤(textOf l).length:=fun l=>by
     induction l with
     |nil=>exact Nat.le_refl _
     |cons a t ih=>simp[textOf];omega
    have:=this l;omega⟩
   go_wp2_with fail
   go_loopg [6,12] ls.length (fun g s6 s12 wx=>∃(k:List (List UInt8)) (cs:Array Value) (l:List (ByteArray×Value)) (c:Nat),s6=.string (lb (textOf k))∧s12=.int .i64 (c:Int)∧k.length=g∧c+g≤4000∧ah (Lines k cs F l∧(textOf k).length≤3000∧Has wA wx [aF sb (.cells cs 51 (0,0)),mapA mb Value.string l]))
   case atStart=>exact⟨ls,_,_,2,rfl,rfl,rfl,by have:=HN.out ls ZA.out.2;omega,⟨ZA.out.1,ZA.out.2,H4.out⟩⟩
   case round =>
    clear H4 HN;obtain⟨k,cs,l,c,rfl,rfl,hk,hc,HB⟩:=hrel;cases gk with
    |zero =>
     obtain rfl:k=[]:=List.eq_nil_of_length_eq_zero hk;have hcs:cs=F:=by cases HB.out.1;rfl
     subst hcs;have PH:ah (Calls Tryz.prog 105 #[.string (lb (textOf [])),.string ⟨#[35]⟩] wr fun e w'=>e=.returned (.bool false)∧w'=wr):=⟨(Tryz.strings_HasPrefix (lb (textOf [])) ⟨#[35]⟩ wr).mono fun e w' h=>by rw[fQ]at h;exact h⟩;have c14:wr.cell? ⟨sb,14,none⟩=some (.string bY):=by rw[aj (HB.out.2.2.blk 0 rfl),HF.out.1.2]
     have f14:wr.frozen? ⟨sb,14,none⟩=_:=aI (HB.out.2.2.blk 0 rfl) _;have H5:=ah.mk (HB.out.2.2.put 0 rfl 14 (.string (lb [])) F' HF.out.1.1);have H6:=ah.mk HB.out.2.2.old;clear HB;have SR:ah ((wr.setCell ⟨sb,14,none⟩ (.string (lb []))).rangeAt sb 0 F'.toList):=⟨aX (H5.out.blk 0 rfl) 0 _ fun i v h=>by rw[Nat.zero_add];simpa using h⟩;have Wx:(Tryz.prog.info? 51).map (·.size)=some F'.size:=by rw[HF.out.2.1];kernel_rfl
     have BR:ah ((wr.setCell ⟨sb,14,none⟩ (.string (lb []))).heap[rb]?=some (.cells qA 51 (0,0))):=⟨by
      have h:=H5.out.old.block rb (by rw[WA.out,HR.out];simp);rw[h,WA.out,HR.out];exact heap_alloc_new w _⟩
     go_wp2_with (first|(refine aJ rfl 51 (.tmp 8) rfl sb 0 rfl F' _ SR.out Tryz.underlying51 rfl Wx ?_)|(refine aY rfl 51 (.tmp 2) (.tmp 73) rfl rb F' rfl rfl 51 _ BR.out Wx (by rw[HF.out.2.1];rfl) HF.out.2.2 ?_;refine ah.out ?_)|(go_at_call 105;refine PH.out.mono ?_;rintro e w' ⟨rfl,hw⟩;obtain rfl:=hw.symm;clear hw))
     refine ah.mk ?_;go_wp2_with fail
     try simp only[Exit.inBlock,Exit.then]
     refine Ac rfl rfl rb F' 51 (0,0) _ rfl (setRow_heap _ rb _ F' 51 (0,0) BR.out) Tryz.underlying51 rfl Wx ?_;rw[←HQ.out];refine⟨rfl,below_setRow (ay (B:=w.heap.size) (au (Below.refl _ _) (.cells qA 51)) (by simp) ?_) (by rw[HR.out];exact Nat.le_refl _) _⟩;have h:=H5.out.old;rw[WA.out]at h;exact h
    |succ g =>
     obtain⟨ln,k',rfl⟩:∃ln k',k=ln::k':=by
      cases k with
      |nil=>simp at hk
      |cons a t=>exact⟨a,t,rfl⟩
     obtain⟨hL,hlen,H5⟩:=HB.out;cases hL with
     |cons h1 h2 =>
      rename_i b m
      have hlen2:(textOf k').length≤3000:=by simp only[textOf,List.length_append,List.length_cons]at hlen;omega
      have hln:ln.length≤3000:=by simp only[textOf,List.length_append,List.length_cons]at hlen;omega
      have hM:=ak (ay (B:=w.heap.size) (au (Below.refl _ _) (.cells qA 51)) (by simp) (by have h:=H5.old;rw[WA.out]at h;exact h)) HMA.out;have PH:ah (Calls Tryz.prog 105 #[.string (lb (textOf (ln::k'))),.string ⟨#[35]⟩] wr fun e w'=>e=.returned (.bool true)∧w'=wr):=⟨(Tryz.strings_HasPrefix (lb (textOf (ln::k'))) ⟨#[35]⟩ wr).mono fun e w' h=>by
       rw[fQ,show textOf (ln::k')=ln++10::textOf k' from rfl,show(⟨#[35]⟩:ByteArray).data.toList=[35]from rfl,RF _ h1.2.1]at h;exact h⟩
      have CT:ah (Calls Tryz.prog 103 #[.string (lb (textOf (ln::k'))),.string ⟨#[10]⟩] wr fun e w'=>e=.returned (.tuple #[.string (lb ln),.string (lb (textOf k')),.bool true])∧Below wr.heap.size wr w'):=⟨(Tryz.strings_Cut (lb (textOf (ln::k'))) ⟨#[10]⟩ mm wr (by rw[gK];omega) hM).mono fun e w' h=>by
       obtain⟨h,n,rfl⟩:=h;rw[fQ,show textOf (ln::k')=ln++10::textOf k' from rfl,show(⟨#[10]⟩:ByteArray).data.toList=[10]from rfl,y9 10 _ _ h1.1]at h;exact⟨h,aC (Below.refl _ _) n⟩⟩
      have PS:ah (∀W,Calls Tryz.prog 105 #[.string (lb ln),.string ⟨#[35,83,66,65,84,67,72]⟩] W fun e w'=>e=.returned (.bool true)∧w'=W):=⟨fun W=>(Tryz.strings_HasPrefix (lb ln) ⟨#[35,83,66,65,84,67,72]⟩ W).mono fun e w' h=>by
       rw[fQ,show(⟨#[35,83,66,65,84,67,72]⟩:ByteArray).data.toList=[35,83,66,65,84,67,72]from rfl,h1.2.1]at h;exact h⟩
      have OC:ah (∀W,Below wr.heap.size wr W→Calls Tryz.prog 106 #[.pointer (some ⟨sb,0,none⟩),.map (some mb),.string (lb ln)] W fun e w'=>e=.returned (.int .i64 0)∧Has wA w' [aF sb (.cells b 51 (0,0)),mapA mb Value.string m]):=⟨fun W hb=>h1.2.2 wA W sb mb mm (by rw[WA.out];exact ak (au (Below.refl _ _) (.cells qA 51)) HMA.out) (H5.below hb)⟩;have H2:=ah.mk (And.intro h2 hlen2);have w1:wrap64 ((c:Int)+1)=(c:Int)+1:=wrap_in (by omega) (by omega);obtain⟨U,hU⟩:∃U,U=lb (textOf (ln::k')):=⟨_,rfl⟩;obtain⟨V,hV⟩:∃V,V=lb (textOf k'):=⟨_,rfl⟩;obtain⟨N,hN⟩:∃N,N=lb ln:=⟨_,rfl⟩;rw[←hU]at PH CT;rw[←hV,←hN]at CT;rw[←hN]at PS OC;rw[←hU];have HV:=ah.mk hV;clear hU hV hN hM h1 h2 hlen hlen2 hln H5 HB;go_wp2_with (first|(go_at_call 106;have _t:=HC.out;clear _t;refine(OC.out _ HC.out).mono ?_;rintro e w5 ⟨rfl,h5⟩;have H5:=ah.mk h5;clear h5)|(go_at_call 105;have _t:=HC.out;clear _t;refine(PS.out _).mono ?_;rintro e w' ⟨rfl,hw⟩;obtain rfl:=hw.symm;clear hw)|(go_at_call 103;refine CT.out.mono ?_;rintro e w4 ⟨rfl,hb⟩;have HC:=ah.mk hb;clear hb)|(go_at_call 105;refine PH.out.mono ?_;rintro e w' ⟨rfl,hw⟩;obtain rfl:=hw.symm;clear hw))
      go_roundg g
      case measure=>omega
      case rel=>exact⟨k',b,m,c+1,by rw[HV.out],by simp,by simpa using hk,by omega,⟨H2.out.1,H2.out.2,H5.out⟩⟩
end
end
section
open Go.RowKit Go.ChangeMaps
theorem eF (l:List UInt8)(h:l.all (fun b=>decide (97≤b.toNat)&&decide (b.toNat≤122))=true)(h1:1≤l.length)(h2:l.length≤32):small (lb l):=by
 refine⟨fun j b hb=>?_,by rw[gK];exact h1,by rw[gK];exact h2⟩;rw[fQ]at hb;simpa using List.all_eq_true.1 h b (List.mem_iff_getElem?.2 ⟨j,hb⟩)
theorem uH {l:List UInt8}(h:small (lb l))(c:UInt8)(hc:c.toNat<97):c ∉ l:=fun hm=>by
 obtain⟨j,hj⟩:=List.mem_iff_getElem?.1 hm;have:=h.1 j c (by rw[fQ];exact hj);omega
theorem qQ {key v:List UInt8}(hk:(10:UInt8) ∉ key)(hv:(10:UInt8) ∉ v):(10:UInt8) ∉ nI key v:=by
 unfold nI;intro h;rcases List.mem_append.1 h with h|h
 ·exact absurd h (by decide)
 ·rcases List.mem_append.1 h with h|h
  ·exact hk h
  ·rcases List.mem_cons.1 h with h|h
   ·exact absurd h (by decide)
   ·exact hv h
theorem lH (l m:List UInt8)(h:(l==m)=false):((lb l).toList==m)=false:=by rw[ByteArray.toList_eq,fQ];exact h
section
theorem Ea {nm ac q:ByteArray}{sz lim:Nat}{rq:Bool}(v:List UInt8)(hv:small (lb v)){l:List (ByteArray×Value)}(hl:look l (lb [106,111,98,45,110,97,109,101])=some (.bool true)) :
 qy (nI [106,111,98,45,110,97,109,101] v) (bJ nm ac q sz lim rq) (bJ (lb v) ac q sz lim rq) l (del l (lb [106,111,98,45,110,97,109,101])):=by
 refine⟨qQ (by decide) (uH hv 10 (by decide)),rfl,fun w0 w sb mb mm HM H=>?_⟩;exact qP [106,111,98,45,110,97,109,101] v (.iface 9 (.string (lb v))) (.string (lb v)) 0 (bJ nm ac q sz lim rq) (bJ (lb v) ac q sz lim rq) l (by decide) (lH _ _ (by decide)) (lH _ _ (by decide)) (by have:=hv.2.2;rw[gK]at this;simp;omega) H hl rfl HM (fun W _=>D7 (w:=W) (lb v) hv) (fun W hg=>Ho (w:=W) hg (lb v))
theorem Eb {nm ac q:ByteArray}{sz lim:Nat}{rq:Bool}(v:List UInt8)(hv:small (lb v)){l:List (ByteArray×Value)}(hl:look l (lb [97,99,99,111,117,110,116])=some (.bool true)) :
 qy (nI [97,99,99,111,117,110,116] v) (bJ nm ac q sz lim rq) (bJ nm (lb v) q sz lim rq) l (del l (lb [97,99,99,111,117,110,116])):=by
 refine⟨qQ (by decide) (uH hv 10 (by decide)),rfl,fun w0 w sb mb mm HM H=>?_⟩;exact qP [97,99,99,111,117,110,116] v (.iface 9 (.string (lb v))) (.string (lb v)) 1 (bJ nm ac q sz lim rq) (bJ nm (lb v) q sz lim rq) l (by decide) (lH _ _ (by decide)) (lH _ _ (by decide)) (by have:=hv.2.2;rw[gK]at this;simp;omega) H hl rfl HM (fun W _=>D8 (w:=W) (lb v) hv) (fun W hg=>Hq (w:=W) hg (lb v))
theorem zi {nm ac q:ByteArray}{sz lim:Nat}{rq:Bool}{l:List (ByteArray×Value)}(hl:look l (lb [112,97,114,116,105,116,105,111,110])=some (.bool true)) :
 qy (nI [112,97,114,116,105,116,105,111,110] [109,97,105,110]) (bJ nm ac q sz lim rq) (bJ nm ac q sz lim rq) l (del l (lb [112,97,114,116,105,116,105,111,110])):=by
 refine⟨qQ (by decide) (uH (eF [109,97,105,110] rfl (by decide) (by decide)) 10 (by decide)),rfl,fun w0 w sb mb mm HM H=>?_⟩;exact qP [112,97,114,116,105,116,105,111,110] [109,97,105,110] (.iface 9 (.string (lb [109,97,105,110]))) (.string (lb [109,97,105,110])) 2 (bJ nm ac q sz lim rq) (bJ nm ac q sz lim rq) l (by decide) (lH _ _ (by decide)) (lH _ _ (by decide)) (by decide) H hl rfl HM (fun W _=>zf (w:=W) (lb [109,97,105,110]) (eF [109,97,105,110] rfl (by decide) (by decide))) (fun W hg=>Aa (w:=W) hg (lb [109,97,105,110]))
theorem RG {nm ac q:ByteArray}{sz lim:Nat}{rq:Bool}(v:List UInt8)(hv:small (lb v)){l:List (ByteArray×Value)}(hl:look l (lb [113,111,115])=some (.bool true)) :
 qy (nI [113,111,115] v) (bJ nm ac q sz lim rq) (bJ nm ac (lb v) sz lim rq) l (del l (lb [113,111,115])):=by
 refine⟨qQ (by decide) (uH hv 10 (by decide)),rfl,fun w0 w sb mb mm HM H=>?_⟩;exact qP [113,111,115] v (.iface 9 (.string (lb v))) (.string (lb v)) 3 (bJ nm ac q sz lim rq) (bJ nm ac (lb v) sz lim rq) l (by decide) (lH _ _ (by decide)) (lH _ _ (by decide)) (by have:=hv.2.2;rw[gK]at this;simp;omega) H hl rfl HM (fun W _=>Rz (w:=W) (lb v) hv) (fun W hg=>UD (w:=W) hg (lb v))
theorem qB:∀n:Fin 9,([UInt8.ofNat (48+n)].all (fun b=>decide (48≤b.toNat)&&decide (b.toNat≤57))=true)∧nH [UInt8.ofNat (48+n)] 0=n∧[UInt8.ofNat (48+n)].contains 10=false:=by decide
theorem O1 {nm ac q:ByteArray}{sz lim:Nat}{rq:Bool}(n:Nat)(h1:1≤n)(h2:n≤8){l:List (ByteArray×Value)}(hl:look l (lb [115,105,122,101])=some (.bool true)) :
 qy (nI [115,105,122,101] [UInt8.ofNat (48+n)]) (bJ nm ac q sz lim rq) (bJ nm ac q n lim rq) l (del l (lb [115,105,122,101])):=by
 refine⟨qQ (by decide) (by simpa using(qB ⟨n,by omega⟩).2.2),rfl,fun w0 w sb mb mm HM H=>?_⟩;exact qP [115,105,122,101] [UInt8.ofNat (48+n)] (.iface 3 (.int .i64 (n:Int))) (.int .i64 (n:Int)) 4 (bJ nm ac q sz lim rq) (bJ nm ac q n lim rq) l (by decide) (lH _ _ (by decide)) (lH _ _ (by decide)) (by simp) H hl rfl HM (fun W _=>by have h:=OY (w:=W) (lb [UInt8.ofNat (48+n)]) (xH _ (qB ⟨n,by omega⟩).1 (by simp) (by simp)) (by rw[D5,(qB ⟨n,by omega⟩).2.1];exact h1) (by rw[D5,(qB ⟨n,by omega⟩).2.1];exact h2);rw[D5,(qB ⟨n,by omega⟩).2.1]at h;exact h) (fun W hg=>Rx (w:=W) hg n)
theorem UE:∀n:Fin 21,(iH n).contains 10=false:=by decide
theorem O4 {nm ac q:ByteArray}{sz lim:Nat}{rq:Bool}(n:Nat)(h1:1≤n)(h2:n<21){l:List (ByteArray×Value)}(hl:look l (lb [116,105,109,101])=some (.bool true)) :
 qy (nI [116,105,109,101] (iH n)) (bJ nm ac q sz lim rq) (bJ nm ac q sz n rq) l (del l (lb [116,105,109,101])):=by
 refine⟨qQ (by decide) (by simpa using UE ⟨n,h2⟩),rfl,fun w0 w sb mb mm HM H=>?_⟩;exact qP [116,105,109,101] (iH n) (.iface 3 (.int .i64 (n:Int))) (.int .i64 (n:Int)) 5 (bJ nm ac q sz lim rq) (bJ nm ac q sz n rq) l (by decide) (lH _ _ (by decide)) (lH _ _ (by decide)) (by simp[iH,uF]) H hl rfl HM (fun W hb=>OZ (w:=W) n h1 h2 (ak hb HM)) (fun W hg=>Ry (w:=W) hg n)
end
end
section
open Go.RowKit Go.ChangeMaps
section
variable {w0 w:World}
set_option maxRecDepth 1000000 in
theorem Hu {sb mb:Nat}{nm ac q:ByteArray}{sz lim:Nat}(l:List (ByteArray×Value))
 (H:Has w0 w [aF sb (.cells (bJ nm ac q sz lim false) 51 (0,0)),mapA mb Value.string l]) (hl:look l (lb [114,101,113,117,101,117,101])=some (.bool true)) {mm:Int} (HM:w0.cell? ⟨0,0,none⟩=some (.int .i64 mm)) :
 Calls Tryz.prog 106 #[.pointer (some ⟨sb,0,none⟩),.map (some mb),.string (lb (D9 [114,101,113,117,101,117,101]))] w fun e w'=>e=.returned (.int .i64 0)∧Has w0 w' [aF sb (.cells (bJ nm ac q sz lim true) 51 (0,0)),mapA mb Value.string (del l (lb [114,101,113,117,101,117,101]))]:=by
 refine named fun R HQ=>?_;have CP:ah (∀W,Calls Tryz.prog 28 #[.string (lb (D9 [114,101,113,117,101,117,101])),.string ⟨#[35,83,66,65,84,67,72,32,45,45]⟩] W fun e w'=>e=.returned (.tuple #[.string (lb [114,101,113,117,101,117,101]),.bool true])∧w'=W):=⟨fun W=>(Tryz.strings_CutPrefix (lb (D9 [114,101,113,117,101,117,101])) ⟨#[35,83,66,65,84,67,72,32,45,45]⟩ W).mono fun e w' h=>by
  rw[fQ,show(⟨#[35,83,66,65,84,67,72,32,45,45]⟩:ByteArray).data.toList=[35,83,66,65,84,67,72,32,45,45]from rfl,show D9 [114,101,113,117,101,117,101]=[35,83,66,65,84,67,72,32,45,45]++[114,101,113,117,101,117,101]from rfl,(qO _ _).1,(qO _ _).2]at h;exact h⟩
 have CT:ah (Calls Tryz.prog 103 #[.string (lb [114,101,113,117,101,117,101]),.string ⟨#[61]⟩] w fun e w'=>e=.returned (.tuple #[.string (lb [114,101,113,117,101,117,101]),.string ⟨#[]⟩,.bool false])∧Below w.heap.size w w'):=⟨(Tryz.strings_Cut (lb [114,101,113,117,101,117,101]) ⟨#[61]⟩ mm w (by rw[gK];decide) (ak H.old HM)).mono fun e w' h=>by
  obtain⟨h,n,rfl⟩:=h;rw[fQ,show(⟨#[61]⟩:ByteArray).data.toList=[61]from rfl,He 61 _ (by decide)]at h;exact⟨h,aC (Below.refl _ _) n⟩⟩
 have hh:((lb [114,101,113,117,101,117,101]).toList==[104,111,108,100])=false:=lH _ _ (by decide);have hr:((lb [114,101,113,117,101,117,101]).toList==[114,101,113,117,101,117,101])=true:=by rw[ByteArray.toList_eq,fQ];rfl
 have HL:=ah.mk hl;have HH:=ah.mk H;obtain⟨K,hK⟩:∃K,K=lb [114,101,113,117,101,117,101]:=⟨_,rfl⟩;obtain⟨T,hT⟩:∃T,T=lb (D9 [114,101,113,117,101,117,101]):=⟨_,rfl⟩;rw[←hT,←hK]at CP;rw[←hK]at CT HL hh hr;rw[←hT];have HK:=ah.mk hK;clear hK hT hl H HM;go_enter Tryz.func106,Tryz.ntmps106;go_wp2_with (go_at_call 28;refine(CP.out _).mono ?_;rintro e w' ⟨rfl,hw⟩;obtain rfl:=hw.symm;clear hw;refine ah.out ?_)
 refine ah.mk ?_;go_wp2_with (go_at_call 103;refine CT.out.mono ?_;rintro e w1 ⟨rfl,hb⟩;have H1:=ah.mk (HH.out.below hb);clear hb;refine ah.out ?_)
 have LK:=dU eX H1.out 1 rfl 180 9 4 Tryz.underlying180 Tryz.underlying9 (.bool false) (by kernel_rfl) K false;rw[HL.out]at LK;have X8:=ah.mk LK;obtain⟨w2,hd,h2⟩:=Nw eX H1.out 1 rfl 180 9 4 0 Tryz.underlying180 Tryz.underlying9 K (.bool true) HL.out;have H2:=ah.mk h2;have c13:w2.cell? ⟨sb,13,none⟩=some (.bool false):=by rw[aj (h2.blk 0 rfl)];rfl
 have f13:w2.frozen? ⟨sb,13,none⟩=_:=aI (h2.blk 0 rfl) _;have H3:=ah.mk (h2.put 0 rfl 13 (.bool true) (bJ nm ac q sz lim true) rfl);clear CP CT LK h2;refine ah.mk ?_;go_wp2_with (refine zh (by rfl) 180 (.tmp 35) (.tmp 36) false rfl rfl rfl X8.out ?_;clear X8)
 first|go_ret2|go_ret|skip
 rw[←HQ.out,←HK.out];exact⟨rfl,H3.out⟩
theorem Ec {nm ac q:ByteArray}{sz lim:Nat}{l:List (ByteArray×Value)}(hl:look l (lb [114,101,113,117,101,117,101])=some (.bool true)) :
 qy (D9 [114,101,113,117,101,117,101]) (bJ nm ac q sz lim false) (bJ nm ac q sz lim true) l (del l (lb [114,101,113,117,101,117,101])):=
 ⟨by decide,rfl,fun w0 w sb mb mm HM H=>Hu l H hl HM⟩
def nG (ac q:List UInt8)(n lim:Nat)(rq:Bool):List (List UInt8):=nI [106,111,98,45,110,97,109,101] [106]::nI [97,99,99,111,117,110,116] ac::nI [112,97,114,116,105,116,105,111,110] [109,97,105,110]::nI [113,111,115] q::nI [115,105,122,101] [UInt8.ofNat (48+n)]::nI [116,105,109,101] (iH lim)::if rq then[D9 [114,101,113,117,101,117,101]]else[]
theorem Ed (ac q:List UInt8)(hac:small (lb ac))(hq:small (lb q))(n lim:Nat)(n1:1≤n)(n2:n≤8)(l1:1≤lim)(l2:lim<21)(rq:Bool) :
 Lines (nG ac q n lim rq) (bJ ⟨#[106,111,98]⟩ aV bK 1 3600 false) (bJ (lb [106]) (lb ac) (lb q) n lim rq) (wL 12):=by
 refine .cons (Ea [106] (eF _ rfl (by decide) (by decide)) (by kernel_rfl)) ?_;refine .cons (Eb ac hac (by kernel_rfl)) ?_;refine .cons (zi (by kernel_rfl)) ?_;refine .cons (RG q hq (by kernel_rfl)) ?_;refine .cons (O1 n n1 n2 (by kernel_rfl)) ?_;refine .cons (O4 lim l1 l2 (by kernel_rfl)) ?_;cases rq
 ·exact .nil _ _
 ·exact .cons (Ec (by kernel_rfl)) (.nil _ _)
def dV (ac q:List UInt8)(n lim:Nat)(rq:Bool):List UInt8:=[35,33,106,111,98]++10::textOf (nG ac q n lim rq)
theorem oL (ac q:List UInt8)(hac:small (lb ac))(hq:small (lb q))(n lim:Nat)(rq:Bool):(textOf (nG ac q n lim rq)).length≤300:=by
 have h1:=hac.2.2;have h2:=hq.2.2;rw[gK]at h1 h2;cases rq<;>simp[nG,textOf,nI,D9,iH,uF]<;>omega
theorem Ee (ac q:List UInt8)(hac:small (lb ac))(hq:small (lb q))(n lim:Nat)(n1:1≤n)(n2:n≤8)(l1:1≤lim)(l2:lim<21)(rq:Bool){mm:Int}(HM:w.cell? ⟨0,0,none⟩=some (.int .i64 mm)) :
 Calls Tryz.prog 59 #[.string (lb (dV ac q n lim rq))] w fun e w'=>e=.returned (.tuple #[.agg (Spec.cells ⟨lb ac,lb q,n,lim,rq⟩),.int .i64 0,.int .i64 0])∧Below w.heap.size w w' :=
 Ht (nG ac q n lim rq) (bJ (lb [106]) (lb ac) (lb q) n lim rq) _ (Ed ac q hac hq n lim n1 n2 l1 l2 rq) (Nat.le_trans (oL ac q hac hq n lim rq) (by decide)) rfl rfl rfl (Spec.one _) HM
end
end
section
open Go.RowKit Go.ChangeMaps
section
variable {w:World}
set_option maxRecDepth 1000000 in
theorem O5:Calls Tryz.prog 166 #[.agg #[.bool false,.slice none 0 0]] w fun e w'=>e=.returned (.int .i64 0)∧Below w.heap.size w w':=by
 refine named fun R HQ=>?_;go_enter Tryz.func166,Tryz.ntmps166;go_wp2_with fail
 refine wp_loop_rounds 1 ?_;rw[rounds_succ];go_wp2_with fail
 first|go_ret2|go_ret|skip
 rw[←HQ.out];first|exact⟨rfl,au (Below.refl _ _) _⟩|exact⟨rfl,Below.refl _ _⟩
set_option maxRecDepth 1000000 in
theorem Hw:Calls Tryz.prog 164 #[.agg #[.slice none 0 0,.int .i64 0]] w fun e w'=>e=.returned (.bool true)∧Below w.heap.size w w':=by
 refine named fun R HQ=>?_;go_enter Tryz.func164,Tryz.ntmps164;go_wp2_with fail
 first|go_ret2|go_ret|skip
 rw[←HQ.out];exact⟨rfl,au (Below.refl _ _) _⟩
set_option maxRecDepth 1000000 in
theorem KR:Calls Tryz.prog 167 #[.string bY] w fun e w'=>e=.returned (.bool true)∧w'=w:=by
 refine named fun R HQ=>?_;have PH:ah (∀W,Calls Tryz.prog 105 #[.string ⟨#[]⟩,.string ⟨#[35]⟩] W fun e w'=>e=.returned (.bool false)∧w'=W):=⟨fun W=>(Tryz.strings_HasPrefix ⟨#[]⟩ ⟨#[35]⟩ W)⟩;unfold bY;go_enter Tryz.func167,Tryz.ntmps167;go_wp2_with (go_at_call 105;refine(PH.out _).mono ?_;rintro e w' ⟨rfl,hw⟩;obtain rfl:=hw.symm;clear hw)
 first|go_ret2|go_ret|skip
 rw[←HQ.out];exact⟨rfl,rfl⟩
set_option maxRecDepth 1000000 in
theorem Ef (s:Spec)(ha:small s.account)(hq:small s.qos)(h1:1≤s.size)(h2:s.size≤8)(h3:1≤s.limit)(h4:s.limit≤20):Calls Tryz.prog 107 #[.agg s.cells] w fun e w'=>e=.returned (.int .i64 0)∧Below w.heap.size w w':=by
 refine named fun R HQ=>?_;have h0:small jT:=eF [106] rfl (by decide) (by decide);have hm:small aP:=eF [109,97,105,110] rfl (by decide) (by decide);obtain⟨a,q,sz,lim,rq⟩:=s;simp only at ha hq h1 h2 h3 h4;have NC:=ah.mk fun(W:World) (t:ByteArray) (ht:small t)=>iR (w:=W) t ht;have HS:=ah.mk (And.intro h0 (And.intro ha (And.intro hm hq)));have e1:(1:Int)≤sz:=by omega
 have e2:(sz:Int)≤1024:=by omega
 have e3:(1:Int)≤lim:=by omega
 have e4:(lim:Int)≤1073741824:=by omega
 have DC:=ah.mk fun W=>O5 (w:=W);have EC:=ah.mk fun W=>Hw (w:=W);have RC:=ah.mk fun W=>KR (w:=W);have C0:ah (∀W,Below (w.alloc (.cells (Spec.cells ⟨a,q,sz,lim,rq⟩) 51)).heap.size (w.alloc (.cells (Spec.cells ⟨a,q,sz,lim,rq⟩) 51)) W→(W.cell? ⟨w.heap.size,0,none⟩=some (.string jT)∧W.cell? ⟨w.heap.size,1,none⟩=some (.string a)∧W.cell? ⟨w.heap.size,2,none⟩=some (.string aP)∧W.cell? ⟨w.heap.size,3,none⟩=some (.string q))∧W.cell? ⟨w.heap.size,4,none⟩=some (.int .i64 sz)∧W.cell? ⟨w.heap.size,5,none⟩=some (.int .i64 lim)∧W.cell? ⟨w.heap.size,6,none⟩=some (.slice none 0 0)∧W.cell? ⟨w.heap.size,7,none⟩=some (.int .i64 0)∧W.cell? ⟨w.heap.size,8,none⟩=some (.bool false)∧W.cell? ⟨w.heap.size,9,none⟩=some (.slice none 0 0)∧W.cell? ⟨w.heap.size,10,none⟩=some (.int .i64 0)∧W.cell? ⟨w.heap.size,11,none⟩=some (.int .i64 0)∧W.cell? ⟨w.heap.size,14,none⟩=some (.string bY)):=⟨fun W h=>by
  refine⟨⟨?_,?_,?_,?_⟩,?_,?_,?_,?_,?_,?_,?_,?_,?_⟩;all_goals exact ak h (by rw[aj (heap_alloc_new w _)];rfl)⟩
 have BW:=ah.mk (au (Below.refl w.heap.size w) (.cells (Spec.cells ⟨a,q,sz,lim,rq⟩) 51));have BR:=ah.mk (Below.refl (w.alloc (.cells (Spec.cells ⟨a,q,sz,lim,rq⟩) 51)).heap.size (w.alloc (.cells (Spec.cells ⟨a,q,sz,lim,rq⟩) 51)));unfold Spec.cells at *;clear h0 ha hm hq h1 h2 h3 h4;go_enter Tryz.func107,Tryz.ntmps107;go_wp2_with (go_at_call 163;refine(NC.out _ _ HS.out.1).mono ?_;rintro e w1 ⟨rfl,hb⟩;have H1:=ah.mk (ay BR.out (Nat.le_refl _) hb);clear hb;refine ah.out ?_)
 clear BR;obtain⟨⟨a0,a1,a2,a3⟩,_⟩:=C0.out _ H1.out;refine ah.mk ?_;go_wp2_with (go_at_call 163;refine(NC.out _ _ HS.out.2.1).mono ?_;rintro e w2 ⟨rfl,hb⟩;have H2:=ah.mk (ay H1.out H1.out.size hb);clear hb;refine ah.out ?_)
 clear a0 a1 a2 a3 H1;obtain⟨⟨a0,a1,a2,a3⟩,_⟩:=C0.out _ H2.out;refine ah.mk ?_;go_wp2_with (go_at_call 163;refine(NC.out _ _ HS.out.2.2.1).mono ?_;rintro e w3 ⟨rfl,hb⟩;have H3:=ah.mk (ay H2.out H2.out.size hb);clear hb;refine ah.out ?_)
 clear a0 a1 a2 a3 H2;obtain⟨⟨a0,a1,a2,a3⟩,_⟩:=C0.out _ H3.out;refine ah.mk ?_;go_wp2_with (go_at_call 163;refine(NC.out _ _ HS.out.2.2.2).mono ?_;rintro e w4 ⟨rfl,hb⟩;have H4:=ah.mk (ay H3.out H3.out.size hb);clear hb;refine ah.out ?_)
 clear a0 a1 a2 a3 H3 NC HS;obtain⟨_,b4,b5,b6,b7,b8,b9,b10,b11,b14⟩:=C0.out _ H4.out;refine ah.mk ?_;go_wp2_with (go_at_call 164;refine(EC.out _).mono ?_;rintro e w5 ⟨rfl,hb⟩;have H5:=ah.mk (ay H4.out H4.out.size hb);clear hb;refine ah.out ?_)
 clear b4 b5 b6 b7 b8 b9 b10 b11 b14 H4;obtain⟨_,b4,b5,b6,b7,b8,b9,b10,b11,b14⟩:=C0.out _ H5.out;refine ah.mk ?_;go_wp2_with (go_at_call 166;refine(DC.out _).mono ?_;rintro e w6 ⟨rfl,hb⟩;have H6:=ah.mk (ay H5.out H5.out.size hb);clear hb;refine ah.out ?_)
 clear b4 b5 b6 b7 b8 b9 b10 b11 b14 H5;obtain⟨_,b4,b5,b6,b7,b8,b9,b10,b11,b14⟩:=C0.out _ H6.out;refine ah.mk ?_;go_wp2_with (go_at_call 167;refine(RC.out _).mono ?_;rintro e w' ⟨rfl,hw⟩;obtain rfl:=hw.symm;clear hw)
 first|go_ret2|go_ret|skip
 rw[←HQ.out];exact⟨rfl,ay BW.out (by simp) H6.out⟩
end
end
end Go.Proofs.YtandhagfhppgaaaGreatDoor
