/- Words of memory for the walks: bytes that are read, bits of numbers. -/
import Derived.Test.YtahaoakolgomdaaProg
import Derived.Below
import Derived.Deep.Draws
import Derived.Deep.AppendLies
import Derived.Maps.AppendAt
import Derived.OwnWalk
import Derived.Laws.BytesArg
import Derived.Laws.MakeOwn
import Derived.Laws.OwnMore
import Derived.Deep.OwnRows
import Derived.Tactics
import Derived.Lib.ConvBytes
import Derived.Laws.Slices
import Derived.WalkKit
import Derived.KernelRfl
import Derived.RowKit3
import Derived.Deep.LoopGhost
import Derived.Deep.QuietTactic
import Derived.BigQuiet
import Derived.WideLaws
import Derived.Deep.DeepCutAuto
import Derived.Deep.CutBlock
import Derived.Deep.RegionHeld3
import Derived.Laws.Rows
import Derived.Lib.AppendStr
import Derived.ArgAppend
import Derived.Laws.IdiomCopy
import Derived.OrdersHeld
import Derived.Laws.BitsLemmas
import Derived.RowKit
import Derived.Lib.Hide
import Derived.Outline
import Derived.Lib.SlBytesConst
import Derived.Test.YtahaoakolgomdaaWWords
import Derived.Test.YtahaoakolgomdaaWLast
import Derived.Test.YtahaoakolgomdaaWMore
import Derived.Test.YtahaoakolgomdaaM0
namespace Go.Proofs.Ytahaoakolgomdaa
open Go.RowKit Go.Proofs.YtahaoakolgomdaaW.PrintWords Go.Proofs.YtahaoakolgomdaaW.PrintLast Go.Proofs.YtahaoakolgomdaaW.PrintMore
set_option linter.unusedVariables false
set_option linter.unusedSimpArgs false

def enc8 (b : UInt8) : Value := .int .u8 (b.toNat : Int)
/-- Bytes. -/
def kb : Kd UInt8 := Kd.scalar enc8 (fun _ => rfl)
/-- The k-th byte. -/
def by8 (xs : List UInt8) (k : Nat) : Int := ((xs.getD k 0).toNat : Int)
theorem by8_lo (xs : List UInt8) (k : Nat) : 0 ≤ by8 xs k := by unfold by8; omega
theorem by8_hi (xs : List UInt8) (k : Nat) : by8 xs k ≤ 255 := by unfold by8; have := (xs.getD k 0).toNat_lt; omega
theorem kb_get {w : World} {A : Option Addr} {n : Nat} {xs : List UInt8} (h : kb.C w A n xs) (k : Nat) (hk : k < n) :
    ∃ ad, A = some ad ∧ w.cell? (ad.add k) = some (.int .u8 (by8 xs k)) := by
  obtain ⟨ad, c, e, _, hK, hc0⟩ := Kd.C_get h (0 : UInt8) (k : Int) (by omega) (by omega)
  have hK : c = [enc8 (xs.getD k 0)] := by
    have := hK
    rw [Int.toNat_natCast] at this; exact this
  subst hK
  have hq := hc0 0 _ rfl
  exact ⟨ad, e, by simpa [kb, Kd.scalar, enc8, by8] using hq⟩

theorem kb_get0 {w : World} {A : Option Addr} {n : Nat} {xs : List UInt8} (h : kb.C w A n xs) (hk : 0 < n) :
    ∃ ad, A = some ad ∧ w.cell? ad = some (.int .u8 (by8 xs 0)) := by
  obtain ⟨ad, e, hc⟩ := kb_get h 0 hk
  exact ⟨ad, e, by rwa [Addr.add_zero'] at hc⟩
theorem kb_getL {w : World} {A : Option Addr} {n : Nat} {xs : List UInt8} (h : kb.C w A n xs) (k : Nat) (hk : k < n) (h0 : 0 < k) :
    ∃ ad, A = some ad ∧ w.cell? ⟨ad.block, ad.off + k, none⟩ = some (.int .u8 (by8 xs k)) := by
  obtain ⟨ad, e, hc⟩ := kb_get h k hk
  refine ⟨ad, e, ?_⟩
  unfold Addr.add at hc
  rwa [if_neg (by omega)] at hc
theorem enc8_ofNat (n : Nat) : Value.int .u8 ((n : Int) % 256) = enc8 (UInt8.ofNat n) := by
  unfold enc8; rw [UInt8.toNat_ofNat']; congr 1
/-- A row of bytes of the call's own. -/
def OwnB (w : World) (base : Nat) (v : Value) (xs : List UInt8) : Prop := w.ownsRow base 5 1 v xs.length (encs enc8 xs)
theorem encs8_len (xs : List UInt8) : (encs enc8 xs).length = xs.length := by simp [encs]
section
variable {w w1 W : World} {base b' : Nat} {v : Value} {xs : List UInt8}
theorem OwnB.r (h : OwnB w base v xs) : kb.R 5 w base (fun _ => True) v xs := Kd.R_of_own h (fun _ _ => trivial)
theorem OwnB.of_r {ok : Nat → Prop} (h : kb.R 5 w base ok v xs) : OwnB w base v xs := Kd.own_of_R h
theorem OwnB.reads (h : OwnB w base v xs) : ∃ A c, v = .slice A xs.length c ∧ xs.length ≤ c ∧ kb.C w A xs.length xs := Kd.R_reads h.r
theorem OwnB.nil (w : World) (base : Nat) : OwnB w base (.slice none 0 0) [] := own_nil _ _ _ _
theorem OwnB.lower (h : OwnB w base v xs) (hb : b' ≤ base) : OwnB w b' v xs := .of_r (Kd.R_lower h.r hb)
theorem OwnB.below (h : OwnB w base v xs) (hb : Below w.heap.size w w1) : OwnB w1 base v xs := pw_own_below h hb
theorem OwnB.grown (h : OwnB w base v xs) {row : Option Nat} (hg : w.grownBy w1 row) (hne : v.ownBlock = none ∨ v.ownBlock ≠ row) : OwnB w1 base v xs := own_other h hg hne
theorem OwnB.base_le (h : OwnB w base v xs) (k : Nat) (hk : v.ownBlock = some k) : base ≤ k := own_base h k hk
theorem OwnB.lt (h : OwnB w base v xs) (k : Nat) (hk : v.ownBlock = some k) : k < w.heap.size := own_lt h k hk
theorem OwnB.lit (W : World) (base : Nat) (xs : List UInt8) (cs : Array Value) (hc : cs.toList = encs enc8 xs) (hb : base ≤ W.heap.size) (hm : xs.length ≤ 9223372036854775807) :
    OwnB (W.alloc (.cells cs 5)) base (.slice (some ⟨W.heap.size, 0, none⟩) xs.length xs.length) xs := by
  have hs : cs.size = xs.length * 1 := by rw [← Array.length_toList, hc, encs8_len, Nat.mul_one]
  have := World.ownsRow_lit (base := base) (e := 5) (size := 1) W cs xs.length hb (by unfold maxLen; exact hm) hs
  unfold OwnB; rw [← hc]; exact this
end
theorem OwnB.form {w : World} {base n c : Nat} {A : Option Addr} {xs : List UInt8} (h : OwnB w base (.slice A n c) xs) (hp : 0 < xs.length) :
    ∃ g, A = some ⟨g, 0, none⟩ ∧ base ≤ g ∧ ∃ cur : Array Value, w.heap[g]? = some (.cells cur 5 (0, 0)) ∧ n = xs.length ∧ n ≤ c ∧ c ≤ maxLen ∧ cur.size = c ∧ cur.toList.take n = encs enc8 xs := by
  rcases h.2 with ⟨_, h0⟩ | ⟨g, cap, cur, hv, hg, hh, h1, h2, h3, h4⟩
  · omega
  · injection hv with e1 e2 e3
    subst e1 e2 e3
    rw [Nat.mul_one] at h3 h4
    exact ⟨g, rfl, hg, cur, hh, rfl, h1, h2, h3, h4⟩
theorem OwnB.mk {w : World} {base g n c : Nat} {xs : List UInt8} {cur : Array Value} (hg : base ≤ g) (hh : w.heap[g]? = some (.cells cur 5 (0, 0))) (hn : n = xs.length) (h1 : n ≤ c) (h2 : c ≤ maxLen)
    (h3 : cur.size = c) (h4 : cur.toList.take n = encs enc8 xs) : OwnB w base (.slice (some ⟨g, 0, none⟩) n c) xs := by
  subst hn
  exact ⟨by rw [encs8_len]; omega, .inr ⟨g, c, cur, rfl, hg, hh, h1, h2, by omega, by rw [Nat.mul_one]; exact h4⟩⟩
/-- The first ones of a row of the call's own. -/
theorem OwnB.prefix_ {w : World} {base g n c m : Nat} {xs : List UInt8} (h : OwnB w base (.slice (some ⟨g, 0, none⟩) n c) xs) (hm : m ≤ n) : OwnB w base (.slice (some ⟨g, 0, none⟩) m c) (xs.take m) := by
  rcases h.2 with ⟨h0, _⟩ | ⟨g', cap, cur, hv, hg, hh, h1, h2, h3, h4⟩
  · cases h0
  · injection hv with e1 e2 e3
    injection e1 with e1
    injection e1 with e1
    subst e1 e2 e3
    rw [Nat.mul_one] at h3 h4
    refine .mk hg hh (by rw [List.length_take]; omega) (by omega) h2 h3 ?_
    have : cur.toList.take m = (cur.toList.take xs.length).take m := by rw [List.take_take, Nat.min_eq_left hm]
    rw [this, h4]; simp [encs]
theorem grown_set (w : World) (g k : Nat) (u : Value) : w.grownBy (w.setCell ⟨g, k, none⟩ u) (some g) :=
  ⟨rfl, rfl, rfl, by simp [World.setCell], fun i _ hne => Below.heap_setCell w ⟨g, k, none⟩ u i (fun e => hne (by rw [e]))⟩
theorem OwnB.set_ {w : World} {base g n c k : Nat} {xs : List UInt8} (h : OwnB w base (.slice (some ⟨g, 0, none⟩) n c) xs) (hk : k < n) (b : UInt8) :
    OwnB (w.setCell ⟨g, k, none⟩ (enc8 b)) base (.slice (some ⟨g, 0, none⟩) n c) (xs.set k b) := by
  rcases h.2 with ⟨h0, _⟩ | ⟨g', cap, cur, hv, hg, hh, h1, h2, h3, h4⟩
  · cases h0
  · injection hv with e1 e2 e3
    injection e1 with e1
    injection e1 with e1
    subst e1 e2 e3
    rw [Nat.mul_one] at h3 h4
    refine .mk hg (blk_set hh k (enc8 b)) (by simp) h1 h2 (by simpa using h3) ?_
    rw [Array.toList_setIfInBounds, List.take_set, h4]; simp [encs, List.map_set]
theorem OwnB.at_ {w : World} {base n c : Nat} {A : Option Addr} {xs : List UInt8} (h : OwnB w base (.slice A n c) xs) : n = xs.length ∧ n ≤ c ∧ kb.C w A xs.length xs := Kd.R_reads' h.r
theorem lit_reads (W : World) (xs : List UInt8) (cs : Array Value) (hc : cs.toList = encs enc8 xs) (hm : xs.length ≤ 9223372036854775807) :
    kb.C (W.alloc (.cells cs 5)) (some ⟨W.heap.size, 0, none⟩) xs.length xs := (OwnB.lit W W.heap.size xs cs hc (Nat.le_refl _) hm).at_.2.2
/-- A block whose cells are bytes. -/
theorem kb_block {w : World} {g : Nat} {cur : Array Value} {fz : Nat × Nat} {xs : List UInt8} (hh : w.heap[g]? = some (.cells cur 5 fz)) (hc : cur.toList.take xs.length = encs enc8 xs) (hm : xs.length ≤ 9223372036854775807) :
    kb.C w (some ⟨g, 0, none⟩) xs.length xs := by
  refine Kd.C_of_reads (d := (0 : UInt8)) ⟨rfl, hm, fun _ => ⟨_, rfl, fun j hj => ?_⟩⟩
  rw [add_plain, cell_of_row w g j cur 5 fz hh]
  have h1 : (cur.toList.take xs.length)[j]? = (encs enc8 xs)[j]? := by rw [hc]
  rw [List.getElem?_take_of_lt hj, Array.getElem?_toList] at h1
  rw [h1]; simp [encs, List.getElem?_eq_getElem hj]
theorem own_step {w W w1 : World} {v : Value} (h : Below w.heap.size w W) (hg : W.grownBy w1 v.ownBlock) (hv : ∀ k, v.ownBlock = some k → w.heap.size ≤ k) : Below w.heap.size w w1 := h.grown hg h.size hv
theorem info5 : (Try.prog.info? 5).map (fun i => (i.zero, i.size, i.bytes)) = some (some (.int .u8 0), 1, 1) := by kernel_rfl
theorem kb_take {w : World} {A : Option Addr} {xs : List UInt8} (h : kb.C w A xs.length xs) (m : Nat) (hm : m ≤ xs.length) : kb.C w A (xs.take m).length (xs.take m) := Kd.C_take h hm
section
variable {ops : Array Oper} {Q : Exit → Act → World → Prop} {o : Oper} {rest : List Oper} {a : Act}
/-- Bytes are appended. -/
theorem app_bytes {W : World} (base : Nat) (hgd : o.guard = none) (s x : Operand) (ho : o.op = .call { callee := .builtin .append, args := #[s, x], argTypes := #[22, 22] })
    (v : Value) (xs ys zs : List UInt8) (hz : xs ++ ys = zs) (A : Option Addr) (m c : Nat) (hs : a.eval s = v) (hx : a.eval x = .slice A m c)
    (HO : OwnB W base v xs) (HR : kb.C W A m ys) (hbase : base ≤ W.heap.size) (hl : xs.length + m ≤ 140737488355328)
    (h : ∀ v1 w1, OwnB w1 base v1 zs → W.grownBy w1 v.ownBlock → (v1.ownBlock = v.ownBlock ∨ ∃ b, v1.ownBlock = some b ∧ W.heap.size ≤ b) → wpList Try.prog ops Q rest (a.put o.dst v1) w1) :
    wpList Try.prog ops Q (o :: rest) a W := by
  refine Kd.R_append_rows kb (w0 := W) base hgd s x 22 5 (.int .u8 0) 1 ho Try.underlying22 info5 rfl (by decide) (by omega) v xs ys A m c (fun _ => True) (fun _ => False) hs hx HO.r HR (fun _ _ h => h) (fun _ h => h.elim) (fun _ _ => trivial) (Below.refl _ _) hbase (by omega) ?_
  intro v1 w1 ho hb hg hat
  exact h v1 w1 (hz ▸ .of_r ho) hg hat
end
/-- xs[k:] -/
theorem cut_lo (A : Option Addr) (c : Nat) (xs : List UInt8) (m : Nat) (hm : m ≤ xs.length) (hc : xs.length ≤ c) :
    ∃ A' : Option Addr, (∀ W : World, (Instr.slice 22 (.slice A xs.length c) (some (.int .i64 (m : Int))) none none).run Try.prog W = .ok (.slice A' (xs.drop m).length (c - m)) W) ∧
      (∀ w : World, kb.C w A xs.length xs → kb.C w A' (xs.drop m).length (xs.drop m)) ∧ (xs.drop m).length ≤ c - m := by
  obtain ⟨i0, hi, _, hsz, _⟩ := info_parts info5
  obtain ⟨A', h1, h2, h3⟩ := print_drop_of (P := Try.prog) enc8 (0 : UInt8) 22 5 .i64 Try.underlying22 hi hsz A c xs (m : Int) (by omega) (by omega) hc
  exact ⟨A', h1, fun w h => Kd.C_of_reads (h2 w (Kd.reads_of_C h)), h3⟩
/-- x[:m], up to the room that there is. -/
theorem cut_room (A : Option Addr) (n c m : Nat) (hm : m ≤ c) (W : World) : (Instr.slice 22 (.slice A n c) none (some (.int .i64 (m : Int))) none).run Try.prog W = .ok (.slice A m c) W := by
  obtain ⟨i0, hi, _, hsz, _⟩ := info_parts info5
  have hel : Try.prog.elem 22 = 5 := by simp [Program.elem, Try.underlying22]
  have hu : Try.prog.underlying 22 = some (.slice (Try.prog.elem 22)) := by rw [hel]; exact Try.underlying22
  have ha : (A.map fun x => x.add 0) = A := by cases A <;> simp [Addr.add]
  rw [run_slice_h W 22 A n c hu .i64 (m : Int) (by omega) (by omega), hel]
  simp [sizeOf, typeInfo, hi, hsz, sliced, Result.andThen, ha]
/-- xs[a:b] -/
theorem cut_mid (A : Option Addr) (c : Nat) (xs : List UInt8) (m k : Nat) (hmk : m ≤ k) (hm : k ≤ xs.length) (hc : xs.length ≤ c) :
    ∃ A' : Option Addr, (∀ W : World, (Instr.slice 22 (.slice A xs.length c) (some (.int .i64 (m : Int))) (some (.int .i64 (k : Int))) none).run Try.prog W = .ok (.slice A' ((xs.take k).drop m).length (c - m)) W) ∧
      (∀ w : World, kb.C w A xs.length xs → kb.C w A' ((xs.take k).drop m).length ((xs.take k).drop m)) ∧ ((xs.take k).drop m).length ≤ c - m := by
  obtain ⟨i0, hi, _, hsz, _⟩ := info_parts info5
  obtain ⟨A', h1, h2, h3⟩ := print_mid_of (P := Try.prog) enc8 (0 : UInt8) 22 5 .i64 .i64 Try.underlying22 hi hsz A c xs (m : Int) (k : Int) (by omega) (by omega) (by omega) hc
  exact ⟨A', h1, fun w h => Kd.C_of_reads (h2 w (Kd.reads_of_C h)), h3⟩
/-- xs[:k] -/
theorem cut_hi (A : Option Addr) (c : Nat) (xs : List UInt8) (m : Nat) (hm : m ≤ xs.length) (hc : xs.length ≤ c) :
    (∀ W : World, (Instr.slice 22 (.slice A xs.length c) none (some (.int .i64 (m : Int))) none).run Try.prog W = .ok (.slice A (xs.take m).length c) W) ∧
      (∀ w : World, kb.C w A xs.length xs → kb.C w A (xs.take m).length (xs.take m)) ∧ (xs.take m).length ≤ c := by
  obtain ⟨i0, hi, _, hsz, _⟩ := info_parts info5
  obtain ⟨h1, h2, h3⟩ := print_take_of (P := Try.prog) enc8 (0 : UInt8) 22 5 .i64 Try.underlying22 hi hsz A c xs (m : Int) (by omega) (by omega) hc
  exact ⟨h1, fun w h => Kd.C_of_reads (h2 w (Kd.reads_of_C h)), h3⟩
theorem or_num (a b : UInt8) : bits .or .i64 ((a.toNat : Int) * 256) (b.toNat : Int) = ((a.toNat * 256 + b.toNat : Nat) : Int) := by
  have h1 := a.toNat_lt; have h2 := b.toNat_lt
  have := bits_join .i64 62 (by decide) (fun n h0 h1 => by rw [IntKind.wrap_i64]; omega) 8 ((a.toNat : Int) * 256) (b.toNat : Int) (by omega) (by omega) (by omega) (by omega) (by omega) (by omega)
  omega
/-- A quiet call behind a quiet region. -/
theorem quiet2 {P : Program} {f : FuncId} {args : Array Value} {w : World} {a n : Nat} {v : Value}
    (h : Calls P f args (w.drewN (a + n)) fun e w' => e = .returned v ∧ w' = w.drewN (a + n)) :
    Calls P f args (w.drewN (a + n)) fun e w'' => e = .returned v ∧ ∃ m, w'' = w.drewN (a + m) :=
  h.mono fun _ _ ⟨he, hm⟩ => ⟨he, n, hm⟩
theorem bits_xor8 (a b : UInt8) : bits .xor .u8 (a.toNat : Int) (b.toNat : Int) = ((a ^^^ b).toNat : Int) := by
  show IntKind.u8.wrap (((BitVec.ofInt 8 _ ^^^ BitVec.ofInt 8 _ : BitVec 8).toNat : Nat) : Int) = _
  have h (a : UInt8) : BitVec.ofInt 8 (a.toNat : Int) = a.toBitVec := by
    apply BitVec.eq_of_toNat_eq; have := a.toNat_lt; rw [BitVec.ofInt_natCast, BitVec.toNat_ofNat, Nat.mod_eq_of_lt (by omega)]; rfl
  rw [h, h, IntKind.wrap_u8]
  have h2 : (a ^^^ b).toNat = (a.toBitVec ^^^ b.toBitVec).toNat := rfl
  have := (a ^^^ b).toNat_lt
  rw [← h2]; omega
theorem wrap_u32_toNat (a : BitVec 32) : IntKind.u32.wrap ((a.toNat : Nat) : Int) = (a.toNat : Int) := by
  rw [IntKind.wrap_u32]; have := a.isLt; omega
theorem ofInt_toNat32 (a : BitVec 32) : BitVec.ofInt 32 (a.toNat : Int) = a := by simp
theorem bits_xor32 (a b : BitVec 32) : bits .xor .u32 (a.toNat : Int) (b.toNat : Int) = ((a ^^^ b).toNat : Int) := by
  show IntKind.u32.wrap (((BitVec.ofInt 32 _ ^^^ BitVec.ofInt 32 _ : BitVec 32).toNat : Nat) : Int) = _
  rw [ofInt_toNat32, ofInt_toNat32, wrap_u32_toNat]
theorem bits_xor32c (a : BitVec 32) (n : Nat) : bits .xor .u32 (a.toNat : Int) (n : Int) = ((a ^^^ BitVec.ofNat 32 n).toNat : Int) := by
  show IntKind.u32.wrap (((BitVec.ofInt 32 _ ^^^ BitVec.ofInt 32 _ : BitVec 32).toNat : Nat) : Int) = _
  rw [ofInt_toNat32, BitVec.ofInt_natCast, wrap_u32_toNat]
theorem bits_and32c (a : BitVec 32) (n : Nat) : bits .and .u32 (a.toNat : Int) (n : Int) = ((a &&& BitVec.ofNat 32 n).toNat : Int) := by
  show IntKind.u32.wrap (((BitVec.ofInt 32 _ &&& BitVec.ofInt 32 _ : BitVec 32).toNat : Nat) : Int) = _
  rw [ofInt_toNat32, BitVec.ofInt_natCast, wrap_u32_toNat]
/-- Two values' rows lie apart. -/
def ApartV (u u' : Value) : Prop := u.ownBlock = none ∨ u.ownBlock ≠ u'.ownBlock
/-- A row of rows of bytes of the call's own, each with memory of its own. -/
def OwnL (w : World) (base : Nat) (v : Value) (xss : List (List UInt8)) : Prop :=
  ∃ vs : List Value, w.ownsRow base 22 1 v vs.length vs ∧ vs.length = xss.length ∧ (∀ (i : Nat) (u : Value) (xs : List UInt8), vs[i]? = some u → xss[i]? = some xs → OwnB w base u xs) ∧ vs.Pairwise ApartV
theorem info22 : (Try.prog.info? 22).map (fun i => (i.zero, i.size, i.bytes)) = some (some (.slice none 0 0), 1, 24) := by kernel_rfl
theorem OwnL.nil (w : World) (base : Nat) : OwnL w base (.slice none 0 0) [] := ⟨[], own_nil _ _ _ _, rfl, fun i u xs h => by simp at h, List.Pairwise.nil⟩
theorem OwnL.below {w w1 : World} {base : Nat} {v : Value} {xss : List (List UInt8)} (h : OwnL w base v xss) (hb : Below w.heap.size w w1) : OwnL w1 base v xss := by
  obtain ⟨vs, h1, h2, h3, h4⟩ := h
  exact ⟨vs, pw_own_below h1 hb, h2, fun i u xs hu hx => (h3 i u xs hu hx).below hb, h4⟩
theorem ownB_oneCell {w : World} {base : Nat} {u : Value} {xs : List UInt8} (h : OwnB w base u xs) : u.oneCell' = true := by
  obtain ⟨A, c, rfl, _⟩ := h.reads; rfl
section
variable {ops : Array Oper} {Q : Exit → Act → World → Prop} {o : Oper} {rest : List Oper} {a : Act}
/-- A row of bytes is appended to a row of such. -/
theorem app_list {W0 W : World} (base : Nat) (hgd : o.guard = none) (s x : Operand) (ho : o.op = .call { callee := .builtin .append, args := #[s, x], argTypes := #[35, 35] })
    (v u : Value) (xss : List (List UInt8)) (ys : List UInt8) (hs : a.eval s = v) (hx : a.eval x = .slice (some ⟨W.heap.size, 0, none⟩) 1 1)
    (HO : OwnL W0 base v xss) (HB : Below W0.heap.size W0 W) (HU : OwnB W W0.heap.size u ys) (hbase : base ≤ W0.heap.size) (hl : (xss.length + 1) * 24 ≤ 140737488355328)
    (h : ∀ v1 w1, OwnL w1 base v1 (xss ++ [ys]) → W.grownBy w1 v.ownBlock → (v1.ownBlock = v.ownBlock ∨ ∃ b, v1.ownBlock = some b ∧ W.heap.size ≤ b) → wpList Try.prog ops Q rest (a.put o.dst v1) w1) :
    wpList Try.prog ops Q (o :: rest) a (W.alloc (.cells #[u] 22)) := by
  obtain ⟨vs, h1, h2, h3, h4⟩ := HO
  have hlt : ∀ u' ∈ vs, ∀ k, u'.ownBlock = some k → k < W0.heap.size := by
    intro u' hu' k hk
    obtain ⟨i, hi, rfl⟩ := List.getElem_of_mem hu'
    exact (h3 i _ (xss[i]'(by omega)) (by simp [hi]) (by simp)).lt k hk
  refine print_append (w0 := W) base hgd s x 35 22 (.slice none 0 0) 24 ho Try.underlying35 info22 rfl (by decide) v vs u hs hx (ownB_oneCell HU) (pw_own_below h1 HB) (Below.refl _ _) (Nat.le_trans hbase HB.size) (by omega) ?_
  intro v1 w1 ho1 _ hg hat
  have hne : ∀ (u' : Value) (xs' : List UInt8) (b' : Nat), OwnB W b' u' xs' → u'.ownBlock = none ∨ u'.ownBlock ≠ v.ownBlock := fun u' xs' b' hu' => own_type_ne hu' (pw_own_below h1 HB) (by decide)
  refine h v1 w1 ⟨vs ++ [u], ho1, by simp [h2], ?_, ?_⟩ hg hat
  · intro i u' xs' hu' hx'
    by_cases hi : i < vs.length
    · rw [List.getElem?_append_left hi] at hu'
      rw [List.getElem?_append_left (by omega)] at hx'
      have := (h3 i u' xs' hu' hx').below HB
      exact this.grown hg (hne _ _ _ this)
    · have hi1 : i < (vs ++ [u]).length := (List.getElem?_eq_some_iff.1 hu').1
      have : i = vs.length := by simp at hi1; omega
      subst this
      rw [List.getElem?_append_right (Nat.le_refl _)] at hu'
      rw [List.getElem?_append_right (by omega)] at hx'
      simp at hu'; simp [h2] at hx'
      subst hu'; subst hx'
      exact (HU.lower hbase).grown hg (hne _ _ _ HU)
  · rw [List.pairwise_append]
    refine ⟨h4, List.pairwise_singleton _ _, fun p hp q hq => ?_⟩
    rw [List.mem_singleton.1 hq]
    cases hpb : p.ownBlock with
    | none => exact .inl hpb
    | some k =>
      refine .inr (fun he => ?_)
      have h5 := hlt p hp k hpb
      have h6 := HU.base_le k (he ▸ hpb)
      omega
end
/-- Rows of bytes, read. -/
def klb : Kd (List UInt8) := Kd.slice 5 kb
theorem klb_get {w : World} {A : Option Addr} {n : Nat} {xss : List (List UInt8)} (h : klb.C w A n xss) (k : Nat) (hk : k < n) :
    ∃ ad A' c', A = some ad ∧ w.cell? (ad.add k) = some (.slice A' (xss.getD k []).length c') ∧ (xss.getD k []).length ≤ c' ∧ kb.C w A' (xss.getD k []).length (xss.getD k []) := by
  obtain ⟨ad, c, e, _, hK, hc0⟩ := Kd.C_get h ([] : List UInt8) (k : Int) (by omega) (by omega)
  rw [Int.toNat_natCast] at hK hc0
  obtain ⟨A', c', rfl, hl, hr⟩ := hK
  have hq := hc0 0 _ rfl
  exact ⟨ad, A', c', e, by simpa [klb, Kd.slice] using hq, hl, hr⟩
theorem OwnL.reads {w : World} {base : Nat} {v : Value} {xss : List (List UInt8)} (h : OwnL w base v xss) : ∃ A c, v = .slice A xss.length c ∧ xss.length ≤ c ∧ klb.C w A xss.length xss := by
  obtain ⟨vs, h1, h2, h3, _⟩ := h
  obtain ⟨A, c, e, hl, hr⟩ := own_reads_of_le (enc := fun v : Value => v) (d := undef) (xs := vs) (by simpa [encs] using h1)
  rw [h2] at e hl hr
  refine ⟨A, c, e, hl, rfl, hr.2.1, fun hp => ?_⟩
  obtain ⟨ad, e2, hc⟩ := hr.2.2 hp
  refine ⟨ad, e2, fun j p hj => ?_⟩
  have hj2 : j < xss.length := (List.getElem?_eq_some_iff.1 hj).1
  have hv : vs[j]? = some (vs[j]'(by omega)) := List.getElem?_eq_getElem _
  obtain ⟨A', c', e3, hl', hr'⟩ := (h3 j _ p hv hj).reads
  refine ⟨[vs[j]'(by omega)], rfl, ⟨A', c', by rw [e3], hl', hr'⟩, fun i u hi => ?_⟩
  have hi0 : i = 0 := by
    have := (List.getElem?_eq_some_iff.1 hi).1; simpa using this
  subst hi0
  have hu : vs[j]'(by omega) = u := by simpa using hi
  have := hc j hj2
  rw [Nat.add_zero, show klb.sz = 1 from rfl, Nat.mul_one, this, ← hu]
  rw [List.getD_eq_getElem?_getD, hv]; rfl
end Go.Proofs.Ytahaoakolgomdaa
