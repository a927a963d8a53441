/- The walk of long (chapter 18's law). -/
import Derived.Test.YtahaoakolgomdaaW5
namespace Go.Proofs.Ytahaoakolgomdaa
open Go.RowKit Go.Proofs.YtahaoakolgomdaaW.PrintWords Go.Proofs.YtahaoakolgomdaaW.PrintLast Go.Proofs.YtahaoakolgomdaaW.PrintMore
set_option linter.unusedVariables false
set_option linter.unusedSimpArgs false

def long8 (l : List Act8) : Bool := (l.take 200).any fun x => decide (300 < x.b.length)
theorem long8_no {l : List Act8} (h : long8 l = false) (i : Nat) (hi : i < 200) (x : Act8) (hx : l[i]? = some x) : x.b.length ≤ 300 := by
  unfold long8 at h
  rw [List.any_eq_false] at h
  have hm : x ∈ l.take 200 := List.mem_of_getElem? (i := i) (by rw [List.getElem?_take_of_lt hi]; exact hx)
  have := h x hm
  simpa using this
theorem add_pos (a : Addr) (k : Nat) (h : 0 < k) : a.add k = ⟨a.block, a.off + k, none⟩ := by unfold Addr.add; rw [if_neg (by omega)]
set_option maxHeartbeats 1000000 in
set_option maxRecDepth 100000 in
theorem long8_calls (l : List Act8) (A : Option Addr) (c : Nat) (w : World) (h : Act8s w A l) :
    Calls Try.prog 36 #[.slice A l.length c] w fun e w' => e = .returned (.bool (long8 l)) ∧ w' = w := by
  have hm : l.length ≤ 9223372036854775807 := h.1
  have H := Aside0.mk h
  clear h
  go_enter Try.func36, Try.ntmps36
  go_wp2
  go_loop [3] (fun i => ∃ k : Nat, i = .int .i64 k ∧ k ≤ l.length ∧ k ≤ 200 ∧ Aside0 (∀ j x, j < k → l[j]? = some x → x.b.length ≤ 300)) (fun i => 200 - (intOf i).toNat)
  case atStart => exact ⟨0, rfl, Nat.zero_le _, Nat.zero_le _, ⟨fun j x hj => by omega⟩⟩
  case round =>
    obtain ⟨k, rfl, hk, hk2, HJ⟩ := hrel
    by_cases hgo : k < l.length ∧ k < 200
    · obtain ⟨hlt, hlt2⟩ := hgo
      obtain ⟨x, hx⟩ : ∃ x, l[k]? = some x := ⟨_, List.getElem?_eq_getElem hlt⟩
      obtain ⟨ad, rfl, hat⟩ := H.out.2 k x hx
      obtain ⟨B, d, k1, l1, r1⟩ := hat.bytes
      rw [add_pos _ 1 (by omega)] at k1
      have hxm : x.b.length ≤ 9223372036854775807 := r1.2.1
      have HX := Aside0.mk hx
      clear hat hx r1
      by_cases h3 : 300 < x.b.length
      · have h3' : (300 : Int) < (x.b.length : Int) := by omega
        go_wp2_with fail
        go_ret
        refine ⟨?_, rfl⟩
        have : long8 l = true := by
          unfold long8
          rw [List.any_eq_true]
          exact ⟨x, List.mem_of_getElem? (i := k) (by rw [List.getElem?_take_of_lt hlt2]; exact HX.out), by simpa using h3⟩
        rw [this]; rfl
      · have h3' : ¬ (300 : Int) < (x.b.length : Int) := by omega
        go_wp2_with fail
        go_round
        case rel => exact ⟨k + 1, by go_num, by omega, by omega, ⟨fun j y hj hy => by
          by_cases e : j = k
          · subst e
            rw [HX.out] at hy
            cases hy
            omega
          · exact HJ.out j y (by omega) hy⟩⟩
        case measure => simp [intOf]; omega
    · have hex : ¬ (k < l.length) ∨ (k < l.length ∧ ¬ k < 200) := by omega
      have HK := Lib.hid hgo
      clear hgo
      rcases hex with hex | ⟨hex, hex2⟩
      all_goals
        go_wp2_with fail
        go_ret
        refine ⟨?_, rfl⟩
        have : long8 l = false := by
          unfold long8
          rw [List.any_eq_false]
          intro y hy
          obtain ⟨j, hj, e⟩ := List.getElem_of_mem hy
          have hjl : j < l.length ∧ j < 200 := by rw [List.length_take] at hj; omega
          have h1 := HJ.out j y (by have := HK.out; omega) (by rw [List.getElem_take] at e; rw [List.getElem?_eq_getElem hjl.1, e])
          simpa using h1
        rw [this]; rfl
end Go.Proofs.Ytahaoakolgomdaa
