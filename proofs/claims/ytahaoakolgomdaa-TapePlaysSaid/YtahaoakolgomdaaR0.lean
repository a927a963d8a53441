/- Opening the rows' arguments: bytes. -/
import Derived.Test.YtahaoakolgomdaaRows
import Derived.Test.YtahaoakolgomdaaW0
import Derived.ProofKit
import Derived.OpenShut
import Derived.ShutString
import Derived.ChangeOld
import Derived.SizedLaws
import Derived.Deep.Matrix
import Derived.Test.YtahaoakolgomdaaWSized
namespace Go.Proofs.Ytahaoakolgomdaa
open Go.ChangeShapes Go.WideShapes Go.ChangeAt Go.RowKit
open Go.ChangeMaps (open_string shut_string)
open Go.Proofs.YtahaoakolgomdaaW.PrintWords
set_option linter.unusedVariables false
set_option linter.unusedSimpArgs false
theorem ownKn : ownKnob Try.prog.godebug = none := by kernel_rfl
theorem laidOut : laidOutB Try.prog = true := by kernel_rfl
def IsRow (k : IntKind) (w : World) (a : Option Addr) (len cap : Nat) (zs : List Int) : Prop :=
  (a = none ∧ len = 0 ∧ cap = 0 ∧ zs = []) ∨
  ∃ x, a = some x ∧ len ≤ cap ∧ cap ≤ maxLen ∧ zs.length = cap ∧ (∀ i, i < zs.length → w.cell? (x.add i) = some (.int k (zs.getD i 0))) ∧ ∀ n ∈ zs, (Lit.int k n).wf = true
theorem wf_u8 (x : Int) (h : (Lit.int .u8 x).wf = true) : 0 ≤ x ∧ x ≤ 255 := by
  simpa [Lit.wf, IntKind.min, IntKind.max, IntKind.bits, IntKind.signed] using h
theorem kb_of_row {w : World} {a : Option Addr} {len cap : Nat} {zs : List Int} (h : IsRow .u8 w a len cap zs) :
    ∃ xs : List UInt8, len = xs.length ∧ kb.C w a xs.length xs ∧ xs.length ≤ cap := by
  obtain ⟨l, rfl, hr, hm, hw, hc⟩ := ReadsInt.ofRowC h
  refine ⟨l.map fun x => UInt8.ofNat x.toNat, by simp, ?_, by simpa using hc⟩
  rw [List.length_map]
  refine Kd.C_of_reads (d := (0 : UInt8)) ⟨by simp, hr.2.1, fun hp => ?_⟩
  obtain ⟨ad, e, hcell⟩ := hr.2.2 hp
  refine ⟨ad, e, fun j hj => ?_⟩
  rw [hcell j hj]
  have hx := wf_u8 l[j] (hw _ (List.getElem_mem _))
  simp only [enc8, List.getD_eq_getElem?_getD, List.getElem?_map, List.getElem?_eq_getElem hj, Option.map_some, Option.getD_some, UInt8.toNat_ofNat']
  congr 2; omega
/-- A row of numbers that are bytes. -/
theorem kb_of_cells {w : World} {a : Option Addr} {L C : Nat} {zs : List Int} (hL : L ≤ C) (hC : C ≤ maxLen) (hz : zs.length = C) (hw : ∀ n ∈ zs, (Lit.int .u8 n).wf = true) (hn : a = none → C = 0)
    (hc : ∀ a', a = some a' → ∀ c, c < C → w.cell? (a'.add c) = some (.int .u8 (zs.getD c 0))) : ∃ xs : List UInt8, L = xs.length ∧ kb.C w a xs.length xs := by
  obtain ⟨xs, h1, h2, _⟩ := kb_of_row (w := w) (a := a) (len := L) (cap := C) (zs := zs) (by
    cases a with
    | none =>
      have h0 := hn rfl
      exact .inl ⟨rfl, by omega, h0, List.eq_nil_of_length_eq_zero (by omega)⟩
    | some a' => exact .inr ⟨a', rfl, hL, hC, hz, fun i hi => hc a' rfl i (by omega), hw⟩)
  exact ⟨xs, h1, h2⟩
/-- Rows of bytes that came in. -/
theorem klb_of_rows {w : World} {a : Addr} {len cap : Nat} {A : Nat → Option Addr} {L C : Nat → Nat} {Z : Nat → List Int} (hl : len ≤ cap) (hm : cap ≤ maxLen)
    (h : ∀ r, r < cap → w.cell? (a.add r) = some (.slice (A r) (L r) (C r)) ∧ L r ≤ C r ∧ C r ≤ maxLen ∧ (Z r).length = C r ∧ (∀ n ∈ Z r, (Lit.int .u8 n).wf = true) ∧ (A r = none → C r = 0) ∧
      ∀ a', A r = some a' → 0 ≤ a'.block ∧ ∀ c, c < C r → w.cell? (a'.add c) = some (.int .u8 ((Z r).getD c 0))) :
    ∃ l : List (List UInt8), len = l.length ∧ klb.C w (some a) l.length l := by
  have each : ∀ r, ∃ xs : List UInt8, r < cap → L r = xs.length ∧ kb.C w (A r) xs.length xs := by
    intro r
    by_cases hr : r < cap
    · obtain ⟨h1, h2, h3, h4, h5, h6, h7⟩ := h r hr
      obtain ⟨xs, e1, e2⟩ := kb_of_cells h2 h3 h4 h5 h6 (fun a' ha => (h7 a' ha).2)
      exact ⟨xs, fun _ => ⟨e1, e2⟩⟩
    · exact ⟨[], fun hh => absurd hh hr⟩
  refine ⟨(List.range len).map fun r => (each r).choose, by simp, ?_⟩
  rw [List.length_map, List.length_range]
  refine ⟨by simp, by unfold maxLen at hm; omega, fun hp => ⟨a, rfl, fun j p hj => ?_⟩⟩
  have hjl : j < len := by
    have := (List.getElem?_eq_some_iff.1 hj).1; simpa using this
  rw [List.getElem?_map, List.getElem?_range hjl] at hj
  simp only [Option.map_some, Option.some.injEq] at hj
  obtain ⟨e1, e2⟩ := (each j).choose_spec (by omega)
  rw [hj] at e1 e2
  obtain ⟨h1, h2, h3, _⟩ := h j (by omega)
  refine ⟨[.slice (A j) (L j) (C j)], rfl, ⟨A j, C j, by rw [e1], by omega, e2⟩, fun i u hi => ?_⟩
  have hi0 : i = 0 := by
    have := (List.getElem?_eq_some_iff.1 hi).1; simpa using this
  subst hi0
  have hu : Value.slice (A j) (L j) (C j) = u := by simpa using hi
  rw [Nat.add_zero, show klb.sz = 1 from rfl, Nat.mul_one, h1, hu]
end Go.Proofs.Ytahaoakolgomdaa
