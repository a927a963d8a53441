/- Words of memory: rows of acts that came in. -/
import Derived.Test.YtahaoakolgomdaaS30
namespace Go.Proofs.Ytahaoakolgomdaa
open Go.RowKit Go.Proofs.YtahaoakolgomdaaW.PrintWords Go.Proofs.YtahaoakolgomdaaW.PrintLast Go.Proofs.YtahaoakolgomdaaW.PrintMore
set_option linter.unusedVariables false
set_option linter.unusedSimpArgs false

/-- An act of chapter 18. -/
structure Act8 where
  kind : Int
  b : List UInt8
  n : Int
instance : Inhabited Act8 := ⟨⟨0, [], 0⟩⟩
/-- An act of chapter 19. -/
structure Act9 where
  kind : Int
  r : List UInt8
  l : List (List UInt8)
  n : Int
instance : Inhabited Act9 := ⟨⟨0, [], [], 0⟩⟩
def i64 (n : Int) : Prop := -9223372036854775808 ≤ n ∧ n ≤ 9223372036854775807
/-- What stands where an act lies. -/
structure Act8At (w : World) (a : Addr) (x : Act8) : Prop where
  bytes : ∃ B c, w.cell? (a.add 1) = some (.slice B x.b.length c) ∧ x.b.length ≤ c ∧ kb.C w B x.b.length x.b
  kind : w.cell? a = some (.int .i64 x.kind)
  num : w.cell? (a.add 2) = some (.int .i64 x.n)
  k64 : i64 x.kind
  n64 : i64 x.n
structure Act9At (w : World) (a : Addr) (x : Act9) : Prop where
  bytes : ∃ B c, w.cell? (a.add 1) = some (.slice B x.r.length c) ∧ x.r.length ≤ c ∧ kb.C w B x.r.length x.r
  rows : ∃ B c, w.cell? (a.add 2) = some (.slice B x.l.length c) ∧ x.l.length ≤ c ∧ klb.C w B x.l.length x.l
  kind : w.cell? a = some (.int .i64 x.kind)
  num : w.cell? (a.add 3) = some (.int .i64 x.n)
  k64 : i64 x.kind
  n64 : i64 x.n
/-- A row of acts, read. -/
def Act8s (w : World) (A : Option Addr) (l : List Act8) : Prop := l.length ≤ 9223372036854775807 ∧ ∀ i x, l[i]? = some x → ∃ ad, A = some ad ∧ Act8At w (ad.add (i * 3)) x
def Act9s (w : World) (A : Option Addr) (l : List Act9) : Prop := l.length ≤ 9223372036854775807 ∧ ∀ i x, l[i]? = some x → ∃ ad, A = some ad ∧ Act9At w (ad.add (i * 4)) x
theorem Act8At.below {w w1 : World} {a : Addr} {x : Act8} (h : Act8At w a x) (hb : Below w.heap.size w w1) : Act8At w1 a x := by
  obtain ⟨⟨B, c, h1, h2, h3⟩, h4, h5, h6, h7⟩ := h
  exact ⟨⟨B, c, pw_cell_below hb h1, h2, Kd.C_below h3 hb⟩, pw_cell_below hb h4, pw_cell_below hb h5, h6, h7⟩
theorem Act9At.below {w w1 : World} {a : Addr} {x : Act9} (h : Act9At w a x) (hb : Below w.heap.size w w1) : Act9At w1 a x := by
  obtain ⟨⟨B, c, h1, h2, h3⟩, ⟨B', c', g1, g2, g3⟩, h4, h5, h6, h7⟩ := h
  exact ⟨⟨B, c, pw_cell_below hb h1, h2, Kd.C_below h3 hb⟩, ⟨B', c', pw_cell_below hb g1, g2, Kd.C_below g3 hb⟩, pw_cell_below hb h4, pw_cell_below hb h5, h6, h7⟩
/-- What the reach says of a row of acts. -/
def Reach9 (l : List Act9) : Prop := ∀ (i : Nat) (x : Act9), l[i]? = some x → x.r.length ≤ 140737488351232 ∧ x.l.length ≤ 140737488351232
end Go.Proofs.Ytahaoakolgomdaa
