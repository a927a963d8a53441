/- Plain laws: bits of bytes turned; sums of exclusive or. No program. -/
import Derived.Test.YtahaoakolgomdaaM5
namespace Go.Proofs.Ytahaoakolgomdaa
set_option linter.unusedVariables false
set_option linter.unusedSimpArgs false

theorem bit_test (n k : Nat) : (n / 2 ^ k % 2 == 1) = n.testBit k := by
  rw [Nat.testBit_eq_decide_div_mod_eq]; rw [Bool.eq_iff_iff, beq_iff_eq, decide_eq_true_eq]
theorem bitAt_test (xs : List UInt8) (i : Nat) : bitAt xs i = (xs.getD (i / 8) 0).toNat.testBit (i % 8) := bit_test _ _
/-- A byte with one bit turned. -/
def flip (b : UInt8) (q : Nat) : UInt8 := b ^^^ UInt8.ofNat (2 ^ q)
theorem flip_bit (b : UInt8) (q k : Nat) (hq : q < 8) : (flip b q).toNat.testBit k = (b.toNat.testBit k != (q == k)) := by
  unfold flip
  have h2 : (UInt8.ofNat (2 ^ q)).toNat = 2 ^ q := by
    rw [UInt8.toNat_ofNat', Nat.mod_eq_of_lt]
    have : 2 ^ q ≤ 2 ^ 7 := Nat.pow_le_pow_right (by decide) (by omega)
    omega
  rw [UInt8.toNat_xor, h2, Nat.testBit_xor, Nat.testBit_two_pow]
  congr 1
/-- A text with one bit turned. -/
def flipAt (xs : List UInt8) (p : Nat) : List UInt8 := xs.set (p / 8) (flip (xs.getD (p / 8) 0) (p % 8))
theorem flipAt_length (xs : List UInt8) (p : Nat) : (flipAt xs p).length = xs.length := by simp [flipAt]
theorem flipAt_bit (xs : List UInt8) (p : Nat) (hp : p < 8 * xs.length) (j : Nat) : bitAt (flipAt xs p) j = (bitAt xs j != (p == j)) := by
  rw [bitAt_test, bitAt_test]
  unfold flipAt
  by_cases e : p / 8 = j / 8
  · rw [← e]
    have : (xs.set (p / 8) (flip (xs.getD (p / 8) 0) (p % 8))).getD (p / 8) 0 = flip (xs.getD (p / 8) 0) (p % 8) := by
      rw [List.getD_eq_getElem?_getD, List.getElem?_set_self (by omega)]; rfl
    rw [this, flip_bit _ _ _ (by omega)]
    congr 1
    rw [Bool.eq_iff_iff, beq_iff_eq, beq_iff_eq]; omega
  · have : (xs.set (p / 8) (flip (xs.getD (p / 8) 0) (p % 8))).getD (j / 8) 0 = xs.getD (j / 8) 0 := by
      rw [List.getD_eq_getElem?_getD, List.getElem?_set_ne e, ← List.getD_eq_getElem?_getD]
    rw [this]
    have : (p == j) = false := by rw [beq_eq_false_iff_ne]; intro h; exact e (by rw [h])
    rw [this]; simp
/-- Each byte's exclusive or. -/
def xorL (xs ys : List UInt8) : List UInt8 := List.zipWith (· ^^^ ·) xs ys
theorem xorL_bit (xs ys : List UInt8) (hl : xs.length = ys.length) (j : Nat) : bitAt (xorL xs ys) j = (bitAt xs j != bitAt ys j) := by
  rw [bitAt_test, bitAt_test, bitAt_test]
  have : (xorL xs ys).getD (j / 8) 0 = xs.getD (j / 8) 0 ^^^ ys.getD (j / 8) 0 := by
    unfold xorL
    rw [List.getD_eq_getElem?_getD, List.getElem?_zipWith]
    by_cases h : j / 8 < xs.length
    · rw [List.getElem?_eq_getElem h, List.getElem?_eq_getElem (by omega)]
      simp [h, show j / 8 < ys.length by omega]
    · rw [List.getElem?_eq_none (by omega), List.getElem?_eq_none (by omega)]
      simp [h, show ¬ j / 8 < ys.length by omega]
  rw [this, UInt8.toNat_xor, Nat.testBit_xor]
theorem zero_bit (n j : Nat) : bitAt (List.replicate n 0) j = false := by
  rw [bitAt_test]
  have : (List.replicate n (0 : UInt8)).getD (j / 8) 0 = 0 := by
    rw [List.getD_eq_getElem?_getD, List.getElem?_replicate]; split <;> rfl
  rw [this]; simp
theorem dif_congr (p q : Nat → Bool) (i : Nat) (h : ∀ j, p j = q j) : dif p i = dif q i := by
  rw [show p = q from funext h]
/-- The four sums come to nought. -/
theorem four_sums (xs ys : List UInt8) (hl : xs.length = ys.length) : crc xs ^^^ crc ys ^^^ crc (xorL xs ys) ^^^ crc (List.replicate xs.length 0) = 0#32 := by
  have h1 := regI_dif xs ys (8 * xs.length)
  have h2 := regI_dif (xorL xs ys) (List.replicate xs.length 0) (8 * xs.length)
  have hx : (xorL xs ys).length = xs.length := by simp [xorL, hl]
  rw [dif_congr _ _ _ (fun j => show (bitAt (xorL xs ys) j != bitAt (List.replicate xs.length 0) j) = (bitAt xs j != bitAt ys j) by rw [xorL_bit xs ys hl, zero_bit]; simp), ← h1] at h2
  have e1 : regI xs (8 * xs.length) = regA xs := regI_all xs
  have e2 : regI ys (8 * xs.length) = regA ys := by rw [hl]; exact regI_all ys
  have e3 : regI (xorL xs ys) (8 * xs.length) = regA (xorL xs ys) := by rw [← hx]; exact regI_all _
  have e4 : regI (List.replicate xs.length 0) (8 * xs.length) = regA (List.replicate xs.length 0) := by
    have := regI_all (List.replicate xs.length (0 : UInt8)); rwa [List.length_replicate] at this
  rw [e1, e2, e3, e4] at h2
  unfold crc
  rw [show (~~~ regA xs ^^^ ~~~ regA ys) = regA xs ^^^ regA ys by
    rw [← BitVec.allOnes_xor, ← BitVec.allOnes_xor, show BitVec.allOnes 32 ^^^ regA xs ^^^ (BitVec.allOnes 32 ^^^ regA ys) = (BitVec.allOnes 32 ^^^ BitVec.allOnes 32) ^^^ (regA xs ^^^ regA ys) by ac_rfl, BitVec.xor_self, BitVec.zero_xor]]
  rw [← h2, BitVec.xor_assoc, show (~~~ regA (xorL xs ys) ^^^ ~~~ regA (List.replicate xs.length 0)) = regA (xorL xs ys) ^^^ regA (List.replicate xs.length 0) by
    rw [← BitVec.allOnes_xor, ← BitVec.allOnes_xor, show BitVec.allOnes 32 ^^^ regA (xorL xs ys) ^^^ (BitVec.allOnes 32 ^^^ regA (List.replicate xs.length 0)) = (BitVec.allOnes 32 ^^^ BitVec.allOnes 32) ^^^ (regA (xorL xs ys) ^^^ regA (List.replicate xs.length 0)) by ac_rfl, BitVec.xor_self, BitVec.zero_xor], BitVec.xor_self]
/-- One turned bit: another sum. -/
theorem crc_flip (xs : List UInt8) (p : Nat) (hp : p < 8 * xs.length) : crc (flipAt xs p) ≠ crc xs := by
  refine crc_ne (flipAt xs p) xs (flipAt_length xs p) p 1 (by omega) (by rw [flipAt_length]; omega) ?_ ?_ ⟨p, by omega, by omega, ?_⟩
  · intro j hj; rw [flipAt_bit xs p hp, show (p == j) = false by rw [beq_eq_false_iff_ne]; omega]; simp
  · intro j hj _; rw [flipAt_bit xs p hp, show (p == j) = false by rw [beq_eq_false_iff_ne]; omega]; simp
  · rw [flipAt_bit xs p hp]; simp
end Go.Proofs.Ytahaoakolgomdaa
