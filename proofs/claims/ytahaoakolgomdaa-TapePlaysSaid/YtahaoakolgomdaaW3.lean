/- Words of memory: a spool behind a pointer. -/
import Derived.Test.YtahaoakolgomdaaW2
import Derived.Test.YtahaoakolgomdaaM8
namespace Go.Proofs.Ytahaoakolgomdaa
open Go.RowKit Go.Proofs.YtahaoakolgomdaaW.PrintWords Go.Proofs.YtahaoakolgomdaaW.PrintLast Go.Proofs.YtahaoakolgomdaaW.PrintMore
set_option linter.unusedVariables false
set_option linter.unusedSimpArgs false

/-- Blocks that were there are left alone, but for some. -/
structure Touch (S : Nat → Prop) (w w' : World) : Prop where
  os : w'.os = w.os
  tape : w'.tape = w.tape
  output : w'.output = w.output
  size : w.heap.size ≤ w'.heap.size
  block : ∀ k, k < w.heap.size → ¬ S k → w'.heap[k]? = w.heap[k]?
theorem Touch.refl (S : Nat → Prop) (w : World) : Touch S w w := ⟨rfl, rfl, rfl, Nat.le_refl _, fun _ _ _ => rfl⟩
theorem Touch.trans {S : Nat → Prop} {a b c : World} (h : Touch S a b) (k : Touch S b c) : Touch S a c :=
  ⟨k.os.trans h.os, k.tape.trans h.tape, k.output.trans h.output, Nat.le_trans h.size k.size, fun i hi hs => (k.block i (Nat.lt_of_lt_of_le hi h.size) hs).trans (h.block i hi hs)⟩
theorem Touch.mono {S T : Nat → Prop} {w w' : World} (h : Touch S w w') (hs : ∀ k, k < w.heap.size → S k → T k) : Touch T w w' :=
  ⟨h.os, h.tape, h.output, h.size, fun k hk hn => h.block k hk fun hk' => hn (hs k hk hk')⟩
theorem Touch.of_grown {w w' : World} {row : Option Nat} (h : w.grownBy w' row) : Touch (fun k => some k = row) w w' := ⟨h.os, h.tape, h.output, h.size, fun k hk hn => h.block k hk hn⟩
theorem Touch.below {S : Nat → Prop} {w w' : World} (h : Touch S w w') (B : Nat) (hB : B ≤ w.heap.size) (hS : ∀ k, S k → B ≤ k) : Below B w w' :=
  ⟨h.os, h.tape, h.output, h.size, fun k hk => h.block k (by omega) fun hs => by have := hS k hs; omega⟩
theorem Touch.of_below {S : Nat → Prop} {w w' : World} (h : Below w.heap.size w w') : Touch S w w' := ⟨h.os, h.tape, h.output, h.size, fun k hk _ => h.block k hk⟩
/-- What a spool behind a pointer holds. -/
structure SpoolAt (w : World) (base p : Nat) (v : Value) (s : Sp) : Prop where
  lo : base ≤ p
  cells : w.heap[p]? = some (.cells #[v, .int .i64 (s.sure : Int), .int .i64 (s.room : Int), .int .i64 s.left, .bool s.off] 99 (0, 0))
  row : RowB w base v s.b
  ok : s.Ok
section
variable {w w1 : World} {base p : Nat} {v : Value} {s : Sp}
theorem SpoolAt.lt (h : SpoolAt w base p v s) : p < w.heap.size := (Array.getElem?_eq_some_iff.1 h.cells).1
theorem SpoolAt.ne (h : SpoolAt w base p v s) : v.ownBlock ≠ some p := fun e => by
  obtain ⟨_, _, cur, hc⟩ := h.row.lt p e
  rw [h.cells] at hc
  injection hc with hc
  injection hc with _ e1 _
  exact absurd e1 (by decide)
theorem SpoolAt.keep (h : SpoolAt w base p v s) (hp : w1.heap[p]? = w.heap[p]?) (hv : ∀ k, v.ownBlock = some k → w1.heap[k]? = w.heap[k]?) : SpoolAt w1 base p v s :=
  ⟨h.lo, by rw [hp]; exact h.cells, h.row.keep hv, h.ok⟩
theorem SpoolAt.below (h : SpoolAt w base p v s) (hb : Below w.heap.size w w1) : SpoolAt w1 base p v s :=
  h.keep (hb.block p h.lt) fun k hk => hb.block k (h.row.lt k hk).2.1
theorem SpoolAt.touch {S : Nat → Prop} (h : SpoolAt w base p v s) (ht : Touch S w w1) (hp : ¬ S p) (hv : ∀ k, v.ownBlock = some k → ¬ S k) : SpoolAt w1 base p v s :=
  h.keep (ht.block p h.lt hp) fun k hk => ht.block k (h.row.lt k hk).2.1 (hv k hk)
theorem SpoolAt.cell (h : SpoolAt w base p v s) (k : Nat) : w.cell? ⟨p, k, none⟩ = (#[v, .int .i64 (s.sure : Int), .int .i64 (s.room : Int), .int .i64 s.left, .bool s.off] : Array Value)[k]? :=
  cell_of_row w p k _ 99 (0, 0) h.cells
theorem SpoolAt.frozen (h : SpoolAt w base p v s) (k : Nat) : w.frozen? ⟨p, k, none⟩ = false := blk_frozen h.cells _
theorem SpoolAt.set (h : SpoolAt w base p v s) (k : Nat) (u : Value) (v1 : Value) (s1 : Sp) (hs : (#[v, .int .i64 (s.sure : Int), .int .i64 (s.room : Int), .int .i64 s.left, .bool s.off] : Array Value).setIfInBounds k u = #[v1, .int .i64 (s1.sure : Int), .int .i64 (s1.room : Int), .int .i64 s1.left, .bool s1.off])
    (hr : RowB w base v1 s1.b) (hne : v1.ownBlock ≠ some p) (hok : s1.Ok) : SpoolAt (w.setCell ⟨p, k, none⟩ u) base p v1 s1 := by
  refine ⟨h.lo, ?_, hr.keep fun q hq => ?_, hok⟩
  · rw [← hs]; exact blk_set h.cells k u
  · exact Below.heap_setCell w ⟨p, k, none⟩ u q (fun e => hne (by rw [hq, e]))
end
end Go.Proofs.Ytahaoakolgomdaa
