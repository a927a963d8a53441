/- Plain laws of sums: of exclusive or, and of bits that are turned. No program. -/
import Derived.Test.YtahaoakolgomdaaM2
namespace Go.Proofs.Ytahaoakolgomdaa
set_option linter.unusedVariables false
set_option linter.unusedSimpArgs false

/-- A bit that goes loses nothing. -/
theorem stp_zero (r : BitVec 32) (h : stp r = 0#32) : r = 0#32 := by
  unfold stp at h
  by_cases hb : r.getLsbD 0 = true
  · rw [if_pos hb] at h
    have h31 : ((r >>> 1) ^^^ poly).getLsbD 31 = false := by rw [h]; simp
    rw [BitVec.getLsbD_xor, BitVec.getLsbD_ushiftRight, BitVec.getLsbD_of_ge r (1 + 31) (by omega)] at h31
    exact absurd h31 (by decide)
  · rw [if_neg hb] at h
    have hb' : r.getLsbD 0 = false := by simpa using hb
    apply BitVec.eq_of_getLsbD_eq
    intro i hi
    cases i with
    | zero => rw [hb']; simp
    | succ i =>
      have : (r >>> 1).getLsbD i = false := by rw [h]; simp
      rw [BitVec.getLsbD_ushiftRight, Nat.add_comm] at this
      rw [this]; simp
theorem stp_zero' : stp 0#32 = 0#32 := by decide
theorem stps_zero (n : Nat) : ∀ r : BitVec 32, stps n r = 0#32 → r = 0#32 := by
  induction n with
  | zero => intro r h; exact h
  | succ n ih => intro r h; exact stp_zero r (ih _ h)
theorem stps_zero' (n : Nat) : stps n 0#32 = 0#32 := by
  induction n with
  | zero => rfl
  | succ n ih => show stps n (stp 0#32) = _; rw [stp_zero']; exact ih
theorem xor_zero_iff (a b : BitVec 32) : a ^^^ b = 0#32 ↔ a = b := by
  constructor
  · intro h
    have : a ^^^ b ^^^ b = 0#32 ^^^ b := by rw [h]
    rwa [BitVec.xor_assoc, BitVec.xor_self, BitVec.xor_zero, BitVec.zero_xor] at this
  · intro h; rw [h, BitVec.xor_self]
/-- The register behind bits, of two rows of bits: their difference. -/
def dif (p : Nat → Bool) : Nat → BitVec 32
  | 0 => 0#32
  | i + 1 => sb (dif p i) (p i)
theorem bit1_xor (a b : Bool) : bit1 (a != b) = bit1 a ^^^ bit1 b := by cases a <;> cases b <;> decide
theorem sb_xor (r s : BitVec 32) (a b : Bool) : sb r a ^^^ sb s b = sb (r ^^^ s) (a != b) := by
  unfold sb
  rw [← stp_xor, bit1_xor]
  congr 1
  ac_rfl
theorem regI_dif (xs ys : List UInt8) (i : Nat) : regI xs i ^^^ regI ys i = dif (fun j => bitAt xs j != bitAt ys j) i := by
  induction i with
  | zero => simp [regI, dif]
  | succ i ih =>
    show sb (regI xs i) (bitAt xs i) ^^^ sb (regI ys i) (bitAt ys i) = sb (dif _ i) _
    rw [sb_xor, ih]
/-- Behind the last bit that differs nothing is lost. -/
theorem dif_after (p : Nat → Bool) (i : Nat) : ∀ n, (∀ j, i ≤ j → j < i + n → p j = false) → dif p (i + n) = stps n (dif p i) := by
  intro n
  induction n with
  | zero => intro _; rfl
  | succ n ih =>
    intro h
    show sb (dif p (i + n)) (p (i + n)) = _
    rw [h (i + n) (by omega) (by omega), ih (fun j h1 h2 => h j h1 (by omega)), stps_succ']
    unfold sb bit1; simp
theorem dif_before (p : Nat → Bool) : ∀ i, (∀ j, j < i → p j = false) → dif p i = 0#32 := by
  intro i
  induction i with
  | zero => intro _; rfl
  | succ i ih =>
    intro h
    show sb (dif p i) (p i) = _
    rw [ih (fun j hj => h j (by omega)), h i (by omega)]; decide
/-- n bits from a place on, as one number. -/
def burst (p : Nat → Bool) (i : Nat) : Nat → Nat
  | 0 => 0
  | n + 1 => (if p i then 1 else 0) + 2 * burst p (i + 1) n
theorem burst_lt (p : Nat → Bool) : ∀ (n i : Nat), burst p i n < 2 ^ n := by
  intro n
  induction n with
  | zero => intro i; simp [burst]
  | succ n ih =>
    intro i
    have := ih (i + 1)
    rw [Nat.pow_succ]
    unfold burst
    split <;> omega
theorem burst_pos (p : Nat → Bool) : ∀ (n i : Nat), (∃ j, i ≤ j ∧ j < i + n ∧ p j = true) → 0 < burst p i n := by
  intro n
  induction n with
  | zero => intro i ⟨j, h1, h2, _⟩; omega
  | succ n ih =>
    intro i ⟨j, h1, h2, h3⟩
    unfold burst
    by_cases e : j = i
    · subst e; rw [if_pos h3]; omega
    · have := ih (i + 1) ⟨j, by omega, by omega, h3⟩
      omega
theorem dif_burst (p : Nat → Bool) : ∀ (n i : Nat) (r : BitVec 32), dif p i = r → dif p (i + n) = sbs n r (burst p i n) := by
  intro n
  induction n with
  | zero => intro i r h; exact h
  | succ n ih =>
    intro i r h
    have := ih (i + 1) (sb r (p i)) (by show sb (dif p i) (p i) = _; rw [h])
    rw [show i + (n + 1) = i + 1 + n by omega, this]
    show _ = sbs n (sb r (burst p i (n + 1) % 2 == 1)) (burst p i (n + 1) / 2)
    rw [show burst p i (n + 1) = (if p i then 1 else 0) + 2 * burst p (i + 1) n from rfl]
    cases p i
    · rw [if_neg Bool.false_ne_true]
      have e1 : ((0 + 2 * burst p (i + 1) n) % 2 == 1) = false := by rw [beq_eq_false_iff_ne]; omega
      have e2 : (0 + 2 * burst p (i + 1) n) / 2 = burst p (i + 1) n := by omega
      rw [e1, e2]
    · rw [if_pos rfl]
      have e1 : ((1 + 2 * burst p (i + 1) n) % 2 == 1) = true := by rw [beq_iff_eq]; omega
      have e2 : (1 + 2 * burst p (i + 1) n) / 2 = burst p (i + 1) n := by omega
      rw [e1, e2]
/-- Bits that differ within n ≤ 32 in a row, and some does: the registers differ. -/
theorem dif_ne (p : Nat → Bool) (i n m : Nat) (hn : n ≤ 32) (h0 : ∀ j, j < i → p j = false) (h1 : ∀ j, i + n ≤ j → j < i + n + m → p j = false) (h2 : ∃ j, i ≤ j ∧ j < i + n ∧ p j = true) : dif p (i + n + m) ≠ 0#32 := by
  rw [dif_after p (i + n) m h1, dif_burst p n i _ (dif_before p i h0), ← stps_sbs n _ _ hn (burst_lt p n i)]
  intro h
  have := stps_zero _ _ (stps_zero _ _ h)
  rw [BitVec.zero_xor] at this
  have h3 := congrArg BitVec.toNat this
  have hlt := burst_lt p n i
  have hp : 2 ^ n ≤ 2 ^ 32 := Nat.pow_le_pow_right (by decide) hn
  rw [BitVec.toNat_ofNat, Nat.mod_eq_of_lt (by omega)] at h3
  have := burst_pos p n i h2
  simp at h3; omega
/-- Two texts of one length that differ within 32 bits in a row, and do differ: two sums. -/
theorem crc_ne (xs ys : List UInt8) (hl : xs.length = ys.length) (i n : Nat) (hn : n ≤ 32) (hin : i + n ≤ 8 * xs.length) (h0 : ∀ j, j < i → bitAt xs j = bitAt ys j) (h1 : ∀ j, i + n ≤ j → j < 8 * xs.length → bitAt xs j = bitAt ys j) (h2 : ∃ j, i ≤ j ∧ j < i + n ∧ bitAt xs j ≠ bitAt ys j) : crc xs ≠ crc ys := by
  intro h
  have hr : regA xs = regA ys := by
    unfold crc at h
    have := congrArg (~~~ ·) h
    simpa using this
  rw [← regI_all, ← regI_all, ← hl, ← xor_zero_iff, regI_dif] at hr
  obtain ⟨m, hm⟩ : ∃ m, 8 * xs.length = i + n + m := ⟨8 * xs.length - (i + n), by omega⟩
  rw [hm] at hr h1
  refine dif_ne _ i n m hn (fun j hj => by simp [h0 j hj]) (fun j h3 h4 => by simp [h1 j h3 h4]) ?_ hr
  obtain ⟨j, h3, h4, h5⟩ := h2
  exact ⟨j, h3, h4, by simpa using h5⟩
end Go.Proofs.Ytahaoakolgomdaa
