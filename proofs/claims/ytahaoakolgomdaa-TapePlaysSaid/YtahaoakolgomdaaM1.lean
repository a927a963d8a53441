/- Plain laws of crates: no program. -/
import Derived.Test.YtahaoakolgomdaaM0
namespace Go.Proofs.Ytahaoakolgomdaa
set_option linter.unusedVariables false
set_option linter.unusedSimpArgs false

/-- Four bytes' number. -/
def num4 (ts : List UInt8) : Nat := (ts.getD 0 0).toNat + (ts.getD 1 0).toNat * 256 + (ts.getD 2 0).toNat * 65536 + (ts.getD 3 0).toNat * 16777216
theorem le4_num (r : BitVec 32) : num4 (le4 r) = r.toNat := by
  have := r.isLt
  simp only [num4, le4, List.getD_cons_zero, List.getD_cons_succ, UInt8.toNat_ofNat']
  omega
theorem le4_iff (r : BitVec 32) (a b c d : UInt8) : le4 r = [a, b, c, d] ↔ r.toNat = num4 [a, b, c, d] := by
  constructor
  · intro h; rw [← h, le4_num]
  · intro h
    have ha := a.toNat_lt; have hb := b.toNat_lt; have hc := c.toNat_lt; have hd := d.toNat_lt
    simp only [num4, List.getD_cons_zero, List.getD_cons_succ] at h
    simp only [le4, List.cons.injEq, and_true]
    refine ⟨?_, ?_, ?_, ?_⟩ <;> (apply UInt8.toNat_inj.1; rw [UInt8.toNat_ofNat']; omega)
theorem take4 (ts : List UInt8) (h : 4 ≤ ts.length) : ts.take 4 = [ts.getD 0 0, ts.getD 1 0, ts.getD 2 0, ts.getD 3 0] := by
  match ts, h with
  | a :: b :: c :: d :: r, _ => rfl
theorem num4_take (ts : List UInt8) (h : 4 ≤ ts.length) : num4 (ts.take 4) = num4 ts := by
  match ts, h with
  | a :: b :: c :: d :: r, _ => rfl
theorem cut3 (b : List UInt8) (h : 3 ≤ b.length) : b = b.getD 0 0 :: b.getD 1 0 :: b.getD 2 0 :: b.drop 3 := by
  match b, h with
  | x :: y :: z :: r, _ => rfl
theorem bodyAt_length (b : List UInt8) (h : numAt b + 7 ≤ b.length) : (bodyAt b).length = numAt b := by
  unfold bodyAt; rw [List.length_take, List.length_drop]; omega
theorem hd2_numAt (b : List UInt8) : hd2 (numAt b) = [b.getD 1 0, b.getD 2 0] := by
  have h1 := (b.getD 1 0).toNat_lt; have h2 := (b.getD 2 0).toNat_lt
  unfold hd2 numAt
  simp only [List.cons.injEq, and_true]
  constructor <;> (apply UInt8.toNat_inj.1; rw [UInt8.toNat_ofNat']; omega)
theorem take3 (b : List UInt8) (q : Nat) (h : 3 ≤ b.length) : b.take (3 + q) = b.getD 0 0 :: ([b.getD 1 0, b.getD 2 0] ++ (b.drop 3).take q) := by
  match b, h with
  | x :: y :: z :: r, _ => rw [show 3 + q = q + 1 + 1 + 1 by omega]; rfl
/-- The bytes that the sum is of. -/
theorem sum_bytes (b : List UInt8) (h : numAt b + 7 ≤ b.length) : (b.take (3 + numAt b)).drop 1 = mid (bodyAt b) := by
  unfold mid; rw [bodyAt_length b h, hd2_numAt, take3 b _ (by omega)]; rfl
theorem isCrate_iff (b : List UInt8) (h7 : 7 ≤ b.length) (h0 : b.getD 0 0 = 0xc5) (hq : numAt b ≤ 8000) (hl : numAt b + 7 ≤ b.length) :
    isCrate b ↔ (crc ((b.take (3 + numAt b)).drop 1)).toNat = num4 (b.drop (3 + numAt b)) := by
  have h3 : b.take (numAt b + 7) = b.take (3 + numAt b) ++ (b.drop (3 + numAt b)).take 4 := by
    rw [show numAt b + 7 = (3 + numAt b) + 4 by omega, List.take_add]
  have ht : 4 ≤ (b.drop (3 + numAt b)).length := by rw [List.length_drop]; omega
  have hp : b.take (3 + numAt b) = 0xc5 :: mid (bodyAt b) := by
    rw [take3 b _ (by omega), h0]; unfold mid; rw [bodyAt_length b hl, hd2_numAt]; rfl
  rw [sum_bytes b hl, ← num4_take _ ht, take4 _ ht, ← le4_iff, ← take4 _ ht]
  constructor
  · intro h
    have := h.2.2.2.2
    rw [h3, hp] at this
    unfold putS at this
    rw [List.cons_append, List.cons.injEq] at this
    exact (List.append_cancel_left this.2).symm
  · intro h
    refine ⟨h7, h0, hq, hl, ?_⟩
    rw [h3, hp, ← h]; rfl
end Go.Proofs.Ytahaoakolgomdaa
