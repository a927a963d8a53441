/- The walk of crate.Sum: the sum of bytes, as the chapter's words say. -/
import Derived.Test.YtahaoakolgomdaaW0
namespace Go.Proofs.Ytahaoakolgomdaa
open Go.RowKit Go.Proofs.YtahaoakolgomdaaW.PrintWords Go.Proofs.YtahaoakolgomdaaW.PrintLast Go.Proofs.YtahaoakolgomdaaW.PrintMore
set_option linter.unusedVariables false
set_option linter.unusedSimpArgs false

theorem and_one (r : BitVec 32) : bits .and .u32 (r.toNat : Int) 1 = if r.getLsbD 0 then 1 else 0 := by
  have := bits_and32c r 1
  rw [show ((1 : Nat) : Int) = 1 from rfl] at this
  rw [this]
  have h : (r &&& BitVec.ofNat 32 1).toNat = r.toNat % 2 := by
    rw [BitVec.toNat_and]; show r.toNat &&& 1 = _; rw [Nat.and_one_is_mod]
  rw [h, BitVec.getLsbD]
  by_cases hb : r.toNat.testBit 0
  · rw [if_pos hb]; rw [Nat.testBit_zero] at hb; have : r.toNat % 2 = 1 := by simpa using hb
    omega
  · rw [if_neg hb]; rw [Nat.testBit_zero] at hb; have : ¬ r.toNat % 2 = 1 := by simpa using hb
    omega
theorem half_ (r : BitVec 32) : (r.toNat : Int) / 2 = ((r >>> 1).toNat : Int) := by
  rw [BitVec.toNat_ushiftRight, Nat.shiftRight_eq_div_pow]; omega
theorem stp_odd (r : BitVec 32) (h : r.getLsbD 0 = true) : bits .xor .u32 ((r.toNat : Int) / 2) 2197175160 = ((stp r).toNat : Int) := by
  have h1 : (r.toNat : Int) / 2 = ((r >>> 1).toNat : Int) := half_ r
  refine (congrArg (fun z => bits .xor .u32 z 2197175160) h1).trans ((bits_xor32c _ 2197175160).trans ?_)
  unfold stp; rw [if_pos h]; rfl
theorem stp_even (r : BitVec 32) (h : r.getLsbD 0 = false) : (r.toNat : Int) / 2 = ((stp r).toNat : Int) := by
  refine (half_ r).trans ?_; unfold stp; rw [if_neg (by rw [h]; simp)]
theorem in_byte (r : BitVec 32) (xs : List UInt8) (k : Nat) : bits .xor .u32 (r.toNat : Int) (by8 xs k) = ((r ^^^ (xs.getD k 0).toBitVec.setWidth 32).toNat : Int) := by
  unfold by8; rw [bits_xor32c, show BitVec.ofNat 32 (xs.getD k 0).toNat = BitVec.setWidth 32 (xs.getD k 0).toBitVec from (by apply BitVec.eq_of_toNat_eq; rw [BitVec.toNat_ofNat, BitVec.toNat_setWidth]; rfl)]
theorem not_u32 (r : BitVec 32) : bits .xor .u32 IntKind.u32.max (r.toNat : Int) = ((~~~ r).toNat : Int) := by
  have := bits_xor32 (BitVec.allOnes 32) r
  rw [show IntKind.u32.max = 4294967295 from by decide]
  rw [show (((BitVec.allOnes 32).toNat : Nat) : Int) = 4294967295 from by decide] at this
  rw [this, BitVec.allOnes_xor]

set_option maxHeartbeats 1000000 in
theorem sum_calls (xs : List UInt8) (A : Option Addr) (c : Nat) (w : World) (h : kb.C w A xs.length xs) :
    Calls Try.prog 21 #[.slice A xs.length c] w fun e w' => e = .returned (.int .u32 ((crc xs).toNat : Int)) ∧ w' = w := by
  have hlen : xs.length ≤ 9223372036854775807 := h.2.1
  go_enter Try.func21, Try.ntmps21
  go_wp2
  go_loop [3, 8] (fun r i => ∃ k : Nat, k ≤ xs.length ∧ i = .int .i64 k ∧ r = .int .u32 ((regA (xs.take k)).toNat : Int)) (fun _ i => xs.length - (intOf i).toNat)
  case atStart => exact ⟨0, Nat.zero_le _, rfl, rfl⟩
  case round =>
    obtain ⟨k, hk, rfl, rfl⟩ := hrel
    by_cases hlt : k < xs.length
    · obtain ⟨ad, rfl, hc⟩ := kb_get h k hlt
      have b0 := by8_lo xs k
      have b1 := by8_hi xs k
      go_wp2
      go_loop [3, 16] (fun r i => ∃ j : Nat, j ≤ 8 ∧ i = .int .i64 j ∧ r = .int .u32 ((regJ xs k j).toNat : Int)) (fun _ i => 8 - (intOf i).toNat)
      case atStart => exact ⟨0, Nat.zero_le _, rfl, congrArg (Value.int .u32) (in_byte _ _ _)⟩
      case round =>
        obtain ⟨j, hj, rfl, rfl⟩ := hrel
        by_cases hj8 : j < 8
        · cases hb : (regJ xs k j).getLsbD 0 with
          | true =>
            have h1 : (bits .and .u32 ((regJ xs k j).toNat : Int) 1 == 1) = true := by rw [and_one, if_pos hb]; rfl
            have HO := Lib.hid (stp_odd _ hb)
            clear hb
            go_wp2
            go_round
            case rel => exact ⟨j + 1, by omega, by go_num, by rw [regJ_succ]; exact congrArg (Value.int .u32) HO.out⟩
            case measure => simp [intOf]; omega
          | false =>
            have h1 : (bits .and .u32 ((regJ xs k j).toNat : Int) 1 == 1) = false := by rw [and_one, if_neg (by rw [hb]; exact Bool.false_ne_true)]; rfl
            have HO := Lib.hid (stp_even _ hb)
            clear hb
            go_wp2
            go_round
            case rel => exact ⟨j + 1, by omega, by go_num, by rw [regJ_succ]; exact congrArg (Value.int .u32) HO.out⟩
            case measure => simp [intOf]; omega
        · have e8 : j = 8 := by omega
          subst e8
          go_wp2
          go_round
          case rel => exact ⟨k + 1, by omega, by go_num, by rw [regJ_8 xs k hlt]⟩
          case measure => simp [intOf]; omega
    · have HA := Lib.hid (regA_all xs k (by omega))
      go_wp2
      go_ret
      exact ⟨congrArg (fun z => Ending.returned (.int .u32 z)) ((congrArg (fun z : BitVec 32 => bits .xor .u32 IntKind.u32.max (z.toNat : Int)) HA.out).trans (not_u32 _)), rfl⟩
end Go.Proofs.Ytahaoakolgomdaa
