/- Opening the rows' arguments: bytes. -/
import Derived.Test.YtahaoakolgomdaaRows
import Derived.Test.YtahaoakolgomdaaW0
import Derived.ProofKit
import Derived.OpenShut
import Derived.ShutString
import Derived.ChangeOld
import Derived.SizedLaws
import Derived.Test.YtahaoakolgomdaaWSized
namespace Go.Proofs.Ytahaoakolgomdaa
open Go.ChangeShapes Go.WideShapes Go.ChangeAt Go.RowKit
open Go.ChangeMaps (open_string shut_string)
open Go.Proofs.YtahaoakolgomdaaW.PrintWords
set_option linter.unusedVariables false
set_option linter.unusedSimpArgs false
theorem ownKn : ownKnob Try.prog.godebug = none := by kernel_rfl
theorem laidOut : laidOutB Try.prog = true := by kernel_rfl
def IsRow (k : IntKind) (w : World) (a : Option Addr) (len cap : Nat) (zs : List Int) : Prop :=
  (a = none ∧ len = 0 ∧ cap = 0 ∧ zs = []) ∨
  ∃ x, a = some x ∧ len ≤ cap ∧ cap ≤ maxLen ∧ zs.length = cap ∧ (∀ i, i < zs.length → w.cell? (x.add i) = some (.int k (zs.getD i 0))) ∧ ∀ n ∈ zs, (Lit.int k n).wf = true
theorem wf_u8 (x : Int) (h : (Lit.int .u8 x).wf = true) : 0 ≤ x ∧ x ≤ 255 := by
  simpa [Lit.wf, IntKind.min, IntKind.max, IntKind.bits, IntKind.signed] using h
theorem kb_of_row {w : World} {a : Option Addr} {len cap : Nat} {zs : List Int} (h : IsRow .u8 w a len cap zs) :
    ∃ xs : List UInt8, len = xs.length ∧ kb.C w a xs.length xs ∧ xs.length ≤ cap := by
  obtain ⟨l, rfl, hr, hm, hw, hc⟩ := ReadsInt.ofRowC h
  refine ⟨l.map fun x => UInt8.ofNat x.toNat, by simp, ?_, by simpa using hc⟩
  rw [List.length_map]
  refine Kd.C_of_reads (d := (0 : UInt8)) ⟨by simp, hr.2.1, fun hp => ?_⟩
  obtain ⟨ad, e, hcell⟩ := hr.2.2 hp
  refine ⟨ad, e, fun j hj => ?_⟩
  rw [hcell j hj]
  have hx := wf_u8 l[j] (hw _ (List.getElem_mem _))
  simp only [enc8, List.getD_eq_getElem?_getD, List.getElem?_map, List.getElem?_eq_getElem hj, Option.map_some, Option.getD_some, UInt8.toNat_ofNat']
  congr 2; omega
end Go.Proofs.Ytahaoakolgomdaa
