/- Plain laws of the register: bit by bit. No program. -/
import Derived.Test.YtahaoakolgomdaaM0
namespace Go.Proofs.Ytahaoakolgomdaa
set_option linter.unusedVariables false
set_option linter.unusedSimpArgs false

theorem stp_xor (a b : BitVec 32) : stp (a ^^^ b) = stp a ^^^ stp b := by
  unfold stp
  have h : (a ^^^ b).getLsbD 0 = (a.getLsbD 0 != b.getLsbD 0) := by simp
  rw [h, BitVec.ushiftRight_xor_distrib]
  cases ha : a.getLsbD 0 <;> cases hb : b.getLsbD 0
  · simp
  · simp [BitVec.xor_assoc]
  · show ((a >>> 1) ^^^ (b >>> 1)) ^^^ poly = ((a >>> 1) ^^^ poly) ^^^ (b >>> 1)
    ac_rfl
  · show (a >>> 1) ^^^ (b >>> 1) = ((a >>> 1) ^^^ poly) ^^^ ((b >>> 1) ^^^ poly)
    rw [show ((a >>> 1) ^^^ poly) ^^^ ((b >>> 1) ^^^ poly) = (a >>> 1) ^^^ (b >>> 1) ^^^ (poly ^^^ poly) by ac_rfl]
    simp
theorem stps_xor (n : Nat) : ∀ a b : BitVec 32, stps n (a ^^^ b) = stps n a ^^^ stps n b := by
  induction n with
  | zero => intro a b; rfl
  | succ n ih => intro a b; show stps n (stp (a ^^^ b)) = _; rw [stp_xor, ih]; rfl
/-- A bit goes in. -/
def bit1 (b : Bool) : BitVec 32 := if b then 1#32 else 0#32
def sb (r : BitVec 32) (b : Bool) : BitVec 32 := stp (r ^^^ bit1 b)
theorem stp_shl (c : BitVec 32) (h : c.toNat < 2 ^ 31) : stp (c <<< 1) = c := by
  have h0 : (c <<< 1).getLsbD 0 = false := by simp
  unfold stp
  rw [if_neg (by rw [h0]; exact Bool.false_ne_true)]
  apply BitVec.eq_of_toNat_eq
  rw [BitVec.toNat_ushiftRight, BitVec.toNat_shiftLeft, Nat.shiftRight_eq_div_pow, Nat.shiftLeft_eq]
  omega
/-- n bits of a number, the lowest first. -/
def sbs : Nat → BitVec 32 → Nat → BitVec 32
  | 0, r, _ => r
  | n + 1, r, c => sbs n (sb r (c % 2 == 1)) (c / 2)
theorem split_bit (c : Nat) (h : c < 2 ^ 32) : BitVec.ofNat 32 c = bit1 (c % 2 == 1) ^^^ (BitVec.ofNat 32 (c / 2) <<< 1) := by
  apply BitVec.eq_of_toNat_eq
  have h2 : (BitVec.ofNat 32 (c / 2) <<< 1).toNat = 2 * (c / 2) := by
    rw [BitVec.toNat_shiftLeft, BitVec.toNat_ofNat, Nat.shiftLeft_eq]; omega
  rw [BitVec.toNat_xor, h2, BitVec.toNat_ofNat, Nat.mod_eq_of_lt h]
  unfold bit1
  rcases Nat.mod_two_eq_zero_or_one c with e | e
  · rw [e]; simp; omega
  · rw [e]; simp only [BEq.rfl, if_true]
    rw [show (1#32).toNat = 1 from rfl, Nat.xor_comm]
    have : 2 * (c / 2) ^^^ 1 = 2 * (c / 2) + 1 := by
      have := Nat.two_pow_add_eq_or_of_lt (i := 1) (b := 1) (by omega) (c / 2)
      rw [Nat.pow_one] at this
      rw [this]
      apply Nat.eq_of_testBit_eq; intro i
      rw [Nat.testBit_xor, Nat.testBit_or]
      cases i with
      | zero => simp [Nat.testBit_zero]
      | succ i => simp [Nat.testBit_succ]
    omega
theorem stps_sbs (n : Nat) : ∀ (r : BitVec 32) (c : Nat), n ≤ 32 → c < 2 ^ n → stps n (r ^^^ BitVec.ofNat 32 c) = sbs n r c := by
  induction n with
  | zero => intro r c _ h; have : c = 0 := by simpa using h
            subst this; simp [stps, sbs]
  | succ n ih =>
    intro r c hn h
    have hp : 2 ^ (n + 1) ≤ 2 ^ 32 := Nat.pow_le_pow_right (by decide) hn
    have hs : 2 ^ (n + 1) = 2 * 2 ^ n := by rw [Nat.pow_succ, Nat.mul_comm]
    show stps n (stp (r ^^^ BitVec.ofNat 32 c)) = sbs n (sb r (c % 2 == 1)) (c / 2)
    rw [← ih _ _ (by omega) (by omega), split_bit c (by omega), ← BitVec.xor_assoc, stp_xor, stp_shl _ (by rw [BitVec.toNat_ofNat]; omega)]
    rfl
/-- The i-th bit of bytes. -/
def bitAt (xs : List UInt8) (i : Nat) : Bool := (xs.getD (i / 8) 0).toNat / 2 ^ (i % 8) % 2 == 1
/-- The register behind i bits. -/
def regI (xs : List UInt8) : Nat → BitVec 32
  | 0 => BitVec.allOnes 32
  | i + 1 => sb (regI xs i) (bitAt xs i)
theorem sbs_snoc (j : Nat) : ∀ (r : BitVec 32) (c : Nat), sbs (j + 1) r c = sb (sbs j r c) (c / 2 ^ j % 2 == 1) := by
  induction j with
  | zero => intro r c; simp [sbs]
  | succ j ih =>
    intro r c
    show sbs (j + 1) (sb r (c % 2 == 1)) (c / 2) = _
    rw [ih, Nat.div_div_eq_div_mul, show 2 * 2 ^ j = 2 ^ (j + 1) by rw [Nat.pow_succ, Nat.mul_comm]]
    rfl
theorem sbs_bits (xs : List UInt8) (k : Nat) : ∀ j, j ≤ 8 → sbs j (regI xs (8 * k)) (xs.getD k 0).toNat = regI xs (8 * k + j) := by
  intro j
  induction j with
  | zero => intro _; rfl
  | succ j ih =>
    intro hj
    rw [sbs_snoc, ih (by omega)]
    show _ = sb (regI xs (8 * k + j)) (bitAt xs (8 * k + j))
    unfold bitAt
    rw [show (8 * k + j) / 8 = k by omega, show (8 * k + j) % 8 = j by omega]
theorem regI_bytes (xs : List UInt8) : ∀ k, k ≤ xs.length → regI xs (8 * k) = regA (xs.take k) := by
  intro k
  induction k with
  | zero => intro _; rfl
  | succ k ih =>
    intro hk
    have hb := (xs.getD k 0).toNat_lt
    rw [show 8 * (k + 1) = 8 * k + 8 by omega, ← sbs_bits xs k 8 (by omega), ← stps_sbs 8 _ _ (by omega) (by omega), ih (by omega)]
    unfold regA
    rw [reg_take _ _ _ (by omega)]
    unfold byt
    congr 2
    apply BitVec.eq_of_toNat_eq; rw [BitVec.toNat_ofNat, BitVec.toNat_setWidth]; rfl
theorem regI_all (xs : List UInt8) : regI xs (8 * xs.length) = regA xs := by
  rw [regI_bytes xs _ (Nat.le_refl _), List.take_length]
/-- A bit of the register behind i bits. -/
def rb (xs : List UInt8) (i j : Nat) : Bool := (regI xs i).getLsbD j
def taps : List Nat := [31, 25, 23, 22, 21, 20, 18, 17, 13, 12, 11, 9, 8, 6, 5, 4, 3]
theorem poly_taps (j : Nat) (hj : j < 32) : poly.getLsbD j = taps.contains j := by
  have : ∀ j : Fin 32, poly.getLsbD j.val = taps.contains j.val := by decide
  exact this ⟨j, hj⟩
theorem sb_bit (r : BitVec 32) (b : Bool) (j : Nat) (hj : j < 32) : (sb r b).getLsbD j = (r.getLsbD (j + 1) != ((r.getLsbD 0 != b) && taps.contains j)) := by
  unfold sb
  have h0 : (r ^^^ bit1 b).getLsbD 0 = (r.getLsbD 0 != b) := by cases b <;> simp [bit1]
  have h1 : (r ^^^ bit1 b) >>> 1 = r >>> 1 := by cases b <;> simp [bit1, BitVec.ushiftRight_xor_distrib]
  unfold stp
  rw [h0, h1, ← poly_taps j hj]
  have h2 : (r >>> 1).getLsbD j = r.getLsbD (j + 1) := by rw [BitVec.getLsbD_ushiftRight, Nat.add_comm]
  cases hb : (r.getLsbD 0 != b)
  · rw [if_neg Bool.false_ne_true, h2]; simp
  · rw [if_pos rfl, BitVec.getLsbD_xor, h2]; simp
/-- One round of the reference's register. -/
theorem rb_next (xs : List UInt8) (k j : Nat) (hj : j < 32) (o : Bool) (ho : (rb xs k 0 == bitAt xs k) = !o) :
    rb xs (k + 1) j = ((if j < 31 then rb xs k (j + 1) else false) != (o && taps.contains j)) := by
  have h : rb xs (k + 1) j = (sb (regI xs k) (bitAt xs k)).getLsbD j := rfl
  rw [h, sb_bit _ _ _ hj]
  have e : ((regI xs k).getLsbD 0 != bitAt xs k) = o := by
    have : ((regI xs k).getLsbD 0 == bitAt xs k) = !o := ho
    unfold bne; rw [this, Bool.not_not]
  rw [e]
  by_cases h31 : j < 31
  · rw [if_pos h31]; rfl
  · rw [if_neg h31]; congr 1
    rw [BitVec.getLsbD_of_ge]; omega
end Go.Proofs.Ytahaoakolgomdaa
