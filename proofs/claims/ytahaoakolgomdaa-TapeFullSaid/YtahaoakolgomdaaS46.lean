/- The walk of the law TapeNil. -/
import Derived.Test.YtahaoakolgomdaaG3
namespace Go.Proofs.Ytahaoakolgomdaa
open Go.RowKit Go.Proofs.YtahaoakolgomdaaW.PrintWords Go.Proofs.YtahaoakolgomdaaW.PrintLast Go.Proofs.YtahaoakolgomdaaW.PrintMore
set_option linter.unusedVariables false
set_option linter.unusedSimpArgs false

theorem nil_tadd (w : World) (u : Value) : Calls Try.prog 57 #[.pointer none, u] w fun e w' => e = .returned (.int .i64 1) ∧ w' = w := by
  go_enter Try.func57, Try.ntmps57
  go_wp2_with (go_at_call 70; refine (nil_state _).mono ?_; rintro e w' ⟨rfl, hw⟩; obtain rfl := hw.symm; clear hw)
  go_ret
  exact ⟨rfl, rfl⟩
theorem nil_pack (w : World) (u : Value) : Calls Try.prog 67 #[.pointer none, u] w fun e w' => e = .returned (.int .i64 1) ∧ w' = w := by
  go_enter Try.func67, Try.ntmps67
  go_wp2_with (go_at_call 70; refine (nil_state _).mono ?_; rintro e w' ⟨rfl, hw⟩; obtain rfl := hw.symm; clear hw)
  go_ret
  exact ⟨rfl, rfl⟩
theorem nil_records (w : World) : Calls Try.prog 62 #[.pointer none] w fun e w' => e = .returned (.slice none 0 0) ∧ w' = w := by
  go_enter Try.func62, Try.ntmps62
  go_wp2_with (go_at_call 70; refine (nil_state _).mono ?_; rintro e w' ⟨rfl, hw⟩; obtain rfl := hw.symm; clear hw)
  go_ret
  exact ⟨rfl, rfl⟩
theorem nil_tlen (w : World) : Calls Try.prog 64 #[.pointer none] w fun e w' => e = .returned (.int .i64 0) ∧ w' = w := by
  go_enter Try.func64, Try.ntmps64
  go_wp2_with (go_at_call 70; refine (nil_state _).mono ?_; rintro e w' ⟨rfl, hw⟩; obtain rfl := hw.symm; clear hw)
  go_ret
  exact ⟨rfl, rfl⟩
set_option maxHeartbeats 1000000 in
set_option maxRecDepth 100000 in
theorem tapeNil_calls (r : List UInt8) (A : Option Addr) (c : Nat) (w : World) (hl : r.length ≤ 300) :
    Calls Try.prog 18 #[.slice A r.length c] w fun e w' => e = .returned (.bool true) ∧ Below w.heap.size w w' := by
  have A0 := Aside0.mk (show (Sp.mk [] 0 100 0 false).sync = (190, ⟨[], 0, 100, 0, true⟩) from Sp.sync_stop)
  have A1 := Aside0.mk (show opn ⟨[], 0, 100, 0, true⟩ = (190, none, ⟨[], 0, 100, 0, true⟩) by unfold opn; rw [if_pos rfl])
  go_enter Try.func18, Try.ntmps18
  go_wp2_with (first
    | (go_at_call 56; refine (known19_calls _).mono ?_; rintro e w5 ⟨rfl, hb⟩; have H5 := Aside0.mk (H4.out.none.below hb); clear hb)
    | (go_at_call 57; refine (nil_tadd _ _).mono ?_; rintro e w' ⟨rfl, hw⟩; obtain rfl := hw.symm; clear hw)
    | (go_at_call 67; refine (nil_pack _ _).mono ?_; rintro e w' ⟨rfl, hw⟩; obtain rfl := hw.symm; clear hw)
    | (go_at_call 62; refine (nil_records _).mono ?_; rintro e w' ⟨rfl, hw⟩; obtain rfl := hw.symm; clear hw)
    | (go_at_call 64; refine (nil_tlen _).mono ?_; rintro e w' ⟨rfl, hw⟩; obtain rfl := hw.symm; clear hw)
    | (go_at_call 63; refine (topen_no H3.out 0 rfl _ _ A1.out).mono ?_; rintro e w4 ⟨rfl, hs⟩; have H4 := Aside0.mk hs; clear hs)
    | (go_at_call 63; refine (nil_open _).mono ?_; rintro e w' ⟨rfl, hw⟩; obtain rfl := hw.symm; clear hw)
    | (go_at_call 40; refine (sync_h H2.out 0 p _ rfl 190 _ A0.out).mono ?_; rintro e w3 ⟨rfl, hs⟩; have H3 : Aside0 (Has w w3 [spoolA p ⟨[], 0, 100, 0, true⟩]) := Aside0.mk hs; clear hs)
    | (go_at_call 39; refine (off_h H1.out 0 p _ rfl 0 (by omega) ⟨[], 0, 100, 0, false⟩ rfl).mono ?_; rintro e w2 ⟨rfl, hs⟩; have H2 : Aside0 (Has w w2 [spoolA p ⟨[], 0, 100, 0, false⟩]) := Aside0.mk hs; clear hs)
    | (go_at_call 38; refine (new_h _ 100 (by omega) (by omega) ⟨[], 0, 100, -1, false⟩ rfl).mono ?_; rintro e w1 ⟨p, rfl, hf⟩; have H1 : Aside0 (Has w w1 [spoolA p ⟨[], 0, 100, -1, false⟩]) := Aside0.mk ((Has.start w).addE hf); clear hf))
  go_ret
  exact ⟨rfl, H5.out.old⟩
set_option maxRecDepth 100000 in
theorem tapeNil_long (r : List UInt8) (A : Option Addr) (c : Nat) (w : World) (hm : r.length ≤ 9223372036854775807) (hl : 300 < r.length) :
    Calls Try.prog 18 #[.slice A r.length c] w fun e w' => e = .returned (.bool true) ∧ Below w.heap.size w w' := by
  have hl' : (300 : Int) < (r.length : Int) := by omega
  clear hl
  go_enter Try.func18, Try.ntmps18
  go_wp2_with (go_at_call 56; refine (known19_calls _).mono ?_; rintro e w1 ⟨rfl, hb⟩; have HB := Aside0.mk hb; clear hb)
  go_ret
  exact ⟨rfl, HB.out⟩
theorem tapeNil_walk (w : World) (r : List UInt8) (A : Option Addr) (c : Nat) (ka : kb.C w A r.length r) (_ : r.length ≤ c) (_ : r.length ≤ 140737488351232) :
    Calls Try.prog 18 #[.slice A r.length c] w fun e w' => e = .returned (.bool true) ∧ Below w.heap.size w w' := by
  by_cases h : 300 < r.length
  · exact tapeNil_long r A c w ka.2.1 h
  · exact tapeNil_calls r A c w (by omega)
end Go.Proofs.Ytahaoakolgomdaa
