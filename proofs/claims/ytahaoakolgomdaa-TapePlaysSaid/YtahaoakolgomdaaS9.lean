/- The walk of gangerlaw17.known: what the chapter's examples fix. -/
import Derived.Test.YtahaoakolgomdaaS8
import Derived.Test.YtahaoakolgomdaaM3
namespace Go.Proofs.Ytahaoakolgomdaa
open Go.RowKit Go.Proofs.YtahaoakolgomdaaW.PrintWords Go.Proofs.YtahaoakolgomdaaW.PrintLast Go.Proofs.YtahaoakolgomdaaW.PrintMore
set_option linter.unusedVariables false
set_option linter.unusedSimpArgs false

theorem ex_beq (pb : List UInt8) (h : pb = [0xc5, 0, 0, 0xd2, 0x77, 0x61, 0xf1]) : ((strB pb).toList == ([197, 0, 0, 210, 119, 97, 241] : List UInt8)) = true := by
  rw [ByteArray.toList_eq, strB_data, h]; rfl
theorem put_nil (w : World) : Calls Try.prog 22 #[.slice none 0 0] w fun e w' => ∃ A c pb, e = .returned (.tuple #[.slice A 7 c, .int .i64 0]) ∧ pb = putS [] ∧ 7 ≤ c ∧ kb.C w' A 7 pb ∧ Below w.heap.size w w' := by
  refine (put_calls [] none 0 w (Kd.C_nil _ _) (by simp)).mono ?_
  rintro e w' ⟨v, rfl, ho, hb⟩
  obtain ⟨A, c, rfl, hc, hr⟩ := ho.reads
  have h7 : (putS []).length = 7 := rfl
  rw [h7] at hc hr ⊢
  exact ⟨A, c, _, rfl, rfl, hc, hr, hb⟩
theorem all_ex (pb : List UInt8) (hp : pb = putS []) (A : Option Addr) (c : Nat) (hc : 7 ≤ c) (w : World) (h : kb.C w A 7 pb) :
    Calls Try.prog 31 #[.slice A 7 c] w fun e w' => ∃ A' c', e = .returned (.tuple #[.slice A' 1 c', .int .i64 7, .int .i64 0]) ∧ Below w.heap.size w w' := by
  have h7 : pb.length = 7 := by rw [hp]; rfl
  have ha : allS pb = ([[]], 7, 0) := by rw [hp, ex_put]; exact ex_all
  rw [← h7] at h hc ⊢
  refine (all_calls pb A c w h hc (by omega)).mono ?_
  rintro e w' ⟨v, rfl, ho, hb⟩
  rw [ha] at ho ⊢
  obtain ⟨vs, h1, h2, _⟩ := ho
  obtain ⟨A', c', rfl⟩ := own_slice h1
  rw [h2]
  exact ⟨A', c', rfl, hb⟩
theorem get_ex (pb : List UInt8) (hp : pb = putS []) (A : Option Addr) (c : Nat) (hc : 7 ≤ c) (w : World) (h : kb.C w A 7 pb) :
    Calls Try.prog 29 #[.slice A 7 c, .int .i64 8] w fun e w' => ∃ v, e = .returned (.tuple #[v, .int .i64 0, .int .i64 2]) ∧ Below w.heap.size w w' := by
  have h7 : pb.length = 7 := by rw [hp]; rfl
  have ha : getS pb 8 = ([], 0, 2) := by rw [hp, ex_put]; exact ex_get
  rw [← h7] at h hc ⊢
  refine (get_calls pb A c w h hc 8).mono ?_
  rintro e w' ⟨v, rfl, ho, hb⟩
  rw [ha]
  exact ⟨v, rfl, hb⟩
theorem sum_ex (A : Option Addr) (c : Nat) (w : World) (h : kb.C w A 9 [49, 50, 51, 52, 53, 54, 55, 56, 57]) :
    Calls Try.prog 21 #[.slice A 9 c] w fun e w' => e = .returned (.int .u32 3808858755) ∧ w' = w := by
  refine (sum_calls [49, 50, 51, 52, 53, 54, 55, 56, 57] A c w h).mono ?_
  rintro e w' ⟨rfl, rfl⟩
  rw [ex_sum]; exact ⟨rfl, rfl⟩
set_option maxHeartbeats 1000000 in
set_option maxRecDepth 100000 in
theorem known17_calls (w : World) : Calls Try.prog 19 #[] w fun e w' => e = .returned (.bool true) ∧ Below w.heap.size w w' := by
  have kc := fun (w : World) (C : Array Value) (n c : Nat) => Lib.run_convert_bytes_const (P := Try.prog) w 22 5 C n c Try.underlying22 Try.underlying5
  go_enter Try.func19, Try.ntmps19
  go_wp2_with (first
    | (go_at_call 22; refine (put_nil _).mono ?_; rintro e w1 ⟨A1, c1, pb, rfl, hp, hc1, hr1, hb1⟩; have HP := Aside0.mk hp; have HR1 := Aside0.mk hr1; have HB1 := Aside0.mk hb1; clear hp hr1 hb1)
    | (go_at_call 31; refine (all_ex pb HP.out A1 c1 hc1 _ HR1.out).mono ?_; rintro e w2 ⟨A2, c2, rfl, hb2⟩; have HR2 := Aside0.mk (Kd.C_below HR1.out hb2); have HB2 := Aside0.mk (below_then HB1.out HB1.out.size hb2); clear hb2)
    | (go_at_call 29; refine (get_ex pb HP.out A1 c1 hc1 _ HR2.out).mono ?_; rintro e w3 ⟨v3, rfl, hb3⟩; have HB3 := Aside0.mk (below_then HB2.out HB2.out.size hb3); have HR3 := Aside0.mk (Kd.C_below HR2.out hb3); have cv := kb_string (c := c1) (Kd.C_alloc HR3.out (.cells #[.int .u8 49, .int .u8 50, .int .u8 51, .int .u8 52, .int .u8 53, .int .u8 54, .int .u8 55, .int .u8 56, .int .u8 57] 5 (9, 10))); have hcmp := ex_beq pb (HP.out.trans ex_put); clear hb3)
    | (go_at_call 21; refine (sum_ex _ _ _ (kb_block (xs := [49, 50, 51, 52, 53, 54, 55, 56, 57]) (blk_new w3 _) rfl (by simp))).mono ?_; rintro e w4 ⟨rfl, rfl⟩))
  go_ret
  exact ⟨rfl, below_alloc HB3.out _⟩
end Go.Proofs.Ytahaoakolgomdaa
