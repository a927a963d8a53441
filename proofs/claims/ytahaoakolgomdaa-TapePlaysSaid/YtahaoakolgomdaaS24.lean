/- known of law 18. -/
import Derived.Test.YtahaoakolgomdaaS23
import Derived.StillTailTactics
import Derived.Deep.RegionWith
namespace Go.Proofs.Ytahaoakolgomdaa
open Go.RowKit Go.Proofs.YtahaoakolgomdaaW.PrintWords Go.Proofs.YtahaoakolgomdaaW.PrintLast Go.Proofs.YtahaoakolgomdaaW.PrintMore
set_option linter.unusedVariables false
set_option linter.unusedSimpArgs false

set_option maxHeartbeats 1000000 in
set_option maxRecDepth 100000 in
theorem known18_calls (w : World) : Calls Try.prog 37 #[] w fun e w' => e = .returned (.bool true) ∧ Below w.heap.size w w' := by
  have kc := fun (w : World) (C : Array Value) (n c : Nat) => Lib.run_convert_bytes_const (P := Try.prog) w 22 5 C n c Try.underlying22 Try.underlying5
  have hcmp : ((strB [97, 98, 99]).toList == ([97, 98, 99] : List UInt8)) = true := by rw [ByteArray.toList_eq, strB_data]; rfl
  go_enter Try.func37, Try.ntmps37
  go_wp2_with (first
    | (go_at_call 42; refine (on_in w _ p ⟨[97, 98, 99, 120], 3, 9, 0, true⟩ HS8.out false (by rfl)).mono ?_; rintro e w' ⟨rfl, hw⟩; obtain rfl := hw.symm; clear hw)
    | (go_at_call 46; refine (len_in w _ p ⟨[97, 98, 99, 120], 3, 9, 0, true⟩ HS8.out 0 (by rfl)).mono ?_; rintro e w' ⟨rfl, hw⟩; obtain rfl := hw.symm; clear hw)
    | (go_at_call 40; refine (sync_in w _ p ⟨[97, 98, 99, 120], 3, 9, 0, false⟩ HS7.out 190 ⟨[97, 98, 99, 120], 3, 9, 0, true⟩ (by rfl)).mono ?_; rintro e w8 ⟨rfl, hs8⟩; have HS8 := Aside0.mk hs8; clear hs8)
    | (go_at_call 41; refine (add_in w _ p ⟨[97, 98, 99], 3, 9, 1, false⟩ (HS6.out.alloc _) [120] 1 rfl _ _ (kb_block (xs := [120]) (blk_new _ _) rfl (by simp)) (by omega) 0 ⟨[97, 98, 99, 120], 3, 9, 0, false⟩ (by rfl)).mono ?_; rintro e w7 ⟨rfl, hs7⟩; have HS7 := Aside0.mk hs7; clear hs7)
    | (go_at_call 39; refine (off_in w _ p ⟨[97, 98, 99], 3, 9, -1, false⟩ HS5.out 1 (by omega) ⟨[97, 98, 99], 3, 9, 1, false⟩ (by rfl)).mono ?_; rintro e w6 ⟨rfl, hs6⟩; have HS6 := Aside0.mk hs6; clear hs6)
    | (go_at_call 43; refine (bytes_in w _ p ⟨[97, 98, 99], 3, 9, -1, false⟩ HS4.out [97, 98, 99] (by rfl) 3 rfl).mono ?_; rintro e w5 ⟨A5, c5, rfl, ho5, hs5, hb5⟩; have HS5 := Aside0.mk hs5; have hstr : (convert 22 9 (.slice A5 3 c5)).run Try.prog w5 = .ok (.string (strB [97, 98, 99])) w5 := kb_string (c := c5) ho5.at_.2.2; clear hs5 ho5 hb5)
    | (go_at_call 44; refine (crash_in w _ p ⟨[97, 98, 99, 100], 2, 9, -1, false⟩ HS3.out 1 ⟨[97, 98, 99], 3, 9, -1, false⟩ (by rfl)).mono ?_; rintro e w4 ⟨rfl, hs4⟩; have HS4 := Aside0.mk hs4; clear hs4)
    | (go_at_call 41; refine (add_in w _ p ⟨[97, 98], 2, 9, -1, false⟩ (HS2.out.alloc _) [99, 100] 2 rfl _ _ (kb_block (xs := [99, 100]) (blk_new _ _) rfl (by simp)) (by omega) 0 ⟨[97, 98, 99, 100], 2, 9, -1, false⟩ (by rfl)).mono ?_; rintro e w3 ⟨rfl, hs3⟩; have HS3 := Aside0.mk hs3; clear hs3)
    | (go_at_call 40; refine (sync_in w _ p ⟨[97, 98], 0, 9, -1, false⟩ HS1.out 0 ⟨[97, 98], 2, 9, -1, false⟩ (by rfl)).mono ?_; rintro e w2 ⟨rfl, hs2⟩; have HS2 := Aside0.mk hs2; clear hs2)
    | (go_at_call 41; refine (add_in w _ p ⟨[], 0, 9, -1, false⟩ (HS0.out.alloc _) [97, 98] 2 rfl _ _ (kb_block (xs := [97, 98]) (blk_new _ _) rfl (by simp)) (by omega) 0 ⟨[97, 98], 0, 9, -1, false⟩ (by rfl)).mono ?_; rintro e w1 ⟨rfl, hs1⟩; have HS1 := Aside0.mk hs1; clear hs1)
    | (go_at_call 38; refine (new_in w _ 9 (by omega) (by omega) (Below.refl _ _) ⟨[], 0, 9, -1, false⟩ (by rfl)).mono ?_; rintro e w0 ⟨p, rfl, hs0, _⟩; have HS0 := Aside0.mk hs0; clear hs0))
  go_ret
  exact ⟨rfl, HS8.out.2⟩
end Go.Proofs.Ytahaoakolgomdaa
