/- The law TapePacks, walked. -/
import Derived.Test.YtahaoakolgomdaaS51
namespace Go.Proofs.Ytahaoakolgomdaa
open Go.RowKit Go.Proofs.YtahaoakolgomdaaW.PrintWords Go.Proofs.YtahaoakolgomdaaW.PrintLast Go.Proofs.YtahaoakolgomdaaW.PrintMore
set_option linter.unusedVariables false
set_option linter.unusedSimpArgs false

theorem tapePacks_walk (w : World) (a : List (List UInt8)) (A : Option Addr) (ca : Nat) (ha : klb.C w A a.length a) (_ : a.length ≤ ca) (b : List (List UInt8)) (B : Option Addr) (cb : Nat) (hb : klb.C w B b.length b) (_ : b.length ≤ cb)
    (r : List UInt8) (C : Option Addr) (cr : Nat) (hr : kb.C w C r.length r) (hcr : r.length ≤ cr) (_ : r.length ≤ 140737488351232) :
    Calls Try.prog 17 #[.slice A a.length ca, .slice B b.length cb, .slice C r.length cr] w fun e w' => e = .returned (.bool true) ∧ Below w.heap.size w w' := by
  by_cases h : r.length + wt a + wt b ≤ 20000
  · exact tapePacks_small a b r A B C ca cb cr w ha hb hr hcr h
  · exact tapePacks_big a b r A B C ca cb cr w ha hb hr.2.1 (by omega)
end Go.Proofs.Ytahaoakolgomdaa
