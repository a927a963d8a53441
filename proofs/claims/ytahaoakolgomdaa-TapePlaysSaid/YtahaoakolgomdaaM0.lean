/- Plain words on sums of bytes (CRC-32C) over bit vectors: no program. -/
namespace Go.Proofs.Ytahaoakolgomdaa
set_option linter.unusedVariables false
set_option linter.unusedSimpArgs false

/-- The polynomial's bits. -/
def poly : BitVec 32 := 0x82f63b78#32
/-- One bit goes. -/
def stp (r : BitVec 32) : BitVec 32 := if r.getLsbD 0 then (r >>> 1) ^^^ poly else r >>> 1
def stps : Nat → BitVec 32 → BitVec 32
  | 0, r => r
  | n + 1, r => stps n (stp r)
theorem stps_succ' (n : Nat) (r : BitVec 32) : stps (n + 1) r = stp (stps n r) := by
  induction n generalizing r with
  | zero => rfl
  | succ n ih => show stps (n + 1) (stp r) = _; rw [ih]; rfl
/-- A byte goes in. -/
def byt (r : BitVec 32) (c : UInt8) : BitVec 32 := stps 8 (r ^^^ c.toBitVec.setWidth 32)
def reg (r : BitVec 32) (xs : List UInt8) : BitVec 32 := xs.foldl byt r
def regA (xs : List UInt8) : BitVec 32 := reg (BitVec.allOnes 32) xs
/-- Behind j bits of the k-th byte. -/
def regJ (xs : List UInt8) (k j : Nat) : BitVec 32 := stps j (regA (xs.take k) ^^^ (xs.getD k 0).toBitVec.setWidth 32)
def crc (xs : List UInt8) : BitVec 32 := ~~~ regA xs
theorem reg_snoc (r : BitVec 32) (xs : List UInt8) (c : UInt8) : reg r (xs ++ [c]) = byt (reg r xs) c := by simp [reg, List.foldl_append]
theorem reg_take (r : BitVec 32) (xs : List UInt8) (k : Nat) (h : k < xs.length) : reg r (xs.take (k + 1)) = byt (reg r (xs.take k)) (xs.getD k 0) := by
  rw [List.take_succ_eq_append_getElem h, reg_snoc]; simp [h]
theorem regJ_succ (xs : List UInt8) (k j : Nat) : regJ xs k (j + 1) = stp (regJ xs k j) := stps_succ' _ _
theorem regJ_8 (xs : List UInt8) (k : Nat) (h : k < xs.length) : regJ xs k 8 = regA (xs.take (k + 1)) := by
  unfold regA; rw [reg_take _ _ _ h]; rfl
theorem regA_all (xs : List UInt8) (k : Nat) (h : xs.length ≤ k) : regA (xs.take k) = regA xs := by rw [List.take_of_length_le h]
/-- A crate's words. -/
def hd2 (n : Nat) : List UInt8 := [UInt8.ofNat (n / 256), UInt8.ofNat n]
def le4 (c : BitVec 32) : List UInt8 := [UInt8.ofNat c.toNat, UInt8.ofNat (c.toNat / 256), UInt8.ofNat (c.toNat / 65536), UInt8.ofNat (c.toNat / 16777216)]
/-- A body behind its length. -/
def mid (xs : List UInt8) : List UInt8 := hd2 xs.length ++ xs
/-- A body's crate. -/
def putS (xs : List UInt8) : List UInt8 := 0xc5 :: (mid xs ++ le4 (crc (mid xs)))
theorem mid_length (xs : List UInt8) : (mid xs).length = xs.length + 2 := by simp [mid, hd2]
theorem putS_length (xs : List UInt8) : (putS xs).length = xs.length + 7 := by simp [putS, mid_length, le4]
/-- The number of two bytes. -/
def numAt (b : List UInt8) : Nat := (b.getD 1 0).toNat * 256 + (b.getD 2 0).toNat
theorem numAt_le (b : List UInt8) : numAt b ≤ 65535 := by
  unfold numAt; have := (b.getD 1 0).toNat_lt; have := (b.getD 2 0).toNat_lt; omega
/-- What would be a body. -/
def bodyAt (b : List UInt8) : List UInt8 := (b.drop 3).take (numAt b)
/-- Does a crate stand at the begin? -/
def isCrate (b : List UInt8) : Prop := 7 ≤ b.length ∧ b.getD 0 0 = 0xc5 ∧ numAt b ≤ 8000 ∧ numAt b + 7 ≤ b.length ∧ b.take (numAt b + 7) = putS (bodyAt b)
instance (b : List UInt8) : Decidable (isCrate b) := by unfold isCrate; infer_instance
/-- What stands at a place: the body, the place behind, the error. -/
def getS (xs : List UInt8) (at_ : Int) : List UInt8 × Int × Int :=
  if at_ < 0 ∨ (xs.length : Int) < at_ then ([], 0, 2)
  else if at_ = xs.length ∨ xs.getD at_.toNat 0 = 0 then ([], 0, 170)
  else if isCrate (xs.drop at_.toNat) then (bodyAt (xs.drop at_.toNat), at_ + numAt (xs.drop at_.toNat) + 7, 0)
  else ([], 0, 171)
/-- The row of crates from a place on. -/
def allGo (xs : List UInt8) : Nat → Int → List (List UInt8) → List (List UInt8) × Int × Int
  | 0, k, out => (out, k, 171)
  | f + 1, k, out => if (getS xs k).2.2 = 0 then allGo xs f (getS xs k).2.1 (out ++ [(getS xs k).1]) else (out, k, if (getS xs k).2.2 = 170 then 0 else 171)
def allS (xs : List UInt8) : List (List UInt8) × Int × Int := allGo xs (xs.length + 1) 0 []
theorem getS_err (xs : List UInt8) (k : Int) : (getS xs k).2.2 = 0 ∨ ((getS xs k).1 = [] ∧ (getS xs k).2.1 = 0 ∧ ((getS xs k).2.2 = 2 ∨ (getS xs k).2.2 = 170 ∨ (getS xs k).2.2 = 171)) := by
  unfold getS
  split
  · exact .inr ⟨rfl, rfl, .inl rfl⟩
  · split
    · exact .inr ⟨rfl, rfl, .inr (.inl rfl)⟩
    · split
      · exact .inl rfl
      · exact .inr ⟨rfl, rfl, .inr (.inr rfl)⟩
theorem getS_ok (xs : List UInt8) (k : Nat) (h : (getS xs k).2.2 = 0) : ∃ j : Nat, (getS xs k).2.1 = (j : Int) ∧ k + 7 ≤ j ∧ j ≤ xs.length := by
  unfold getS at *
  split at h
  · simp at h
  · rename_i h1
    rw [if_neg h1]
    split at h
    · simp at h
    · rename_i h2
      rw [if_neg h2]
      split at h
      · rename_i h3
        rw [if_pos h3]
        rw [Int.toNat_natCast] at h3 ⊢
        have := h3.2.2.2.1
        rw [List.length_drop] at this
        exact ⟨k + numAt (xs.drop k) + 7, by simp, by omega, by omega⟩
      · simp at h
end Go.Proofs.Ytahaoakolgomdaa
