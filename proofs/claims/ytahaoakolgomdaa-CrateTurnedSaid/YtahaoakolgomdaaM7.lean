/- Plain law: a crate with one bit turned in its body or its sum is bad. No program. -/
import Derived.Test.YtahaoakolgomdaaM4
import Derived.Test.YtahaoakolgomdaaM6
namespace Go.Proofs.Ytahaoakolgomdaa
set_option linter.unusedVariables false
set_option linter.unusedSimpArgs false

theorem flipAt_left (a b : List UInt8) (p : Nat) (h : p < 8 * a.length) : flipAt (a ++ b) p = flipAt a p ++ b := by
  unfold flipAt
  rw [List.set_append_left _ _ (by omega)]
  congr 2
  rw [List.getD_eq_getElem?_getD, List.getElem?_append_left (by omega), ← List.getD_eq_getElem?_getD]
theorem flipAt_right (a b : List UInt8) (p : Nat) : flipAt (a ++ b) (8 * a.length + p) = a ++ flipAt b p := by
  unfold flipAt
  have e1 : (8 * a.length + p) / 8 = a.length + p / 8 := by omega
  have e2 : (8 * a.length + p) % 8 = p % 8 := by omega
  rw [e1, e2, List.set_append_right _ _ (by omega)]
  congr 2
  · omega
  · rw [List.getD_eq_getElem?_getD, List.getElem?_append_right (by omega), ← List.getD_eq_getElem?_getD]
    congr 2; omega
theorem flipAt_ne (xs : List UInt8) (p : Nat) (hp : p < 8 * xs.length) : flipAt xs p ≠ xs := by
  intro h
  have := flipAt_bit xs p hp p
  rw [h] at this
  simp at this
theorem le4_inj (a b : BitVec 32) (h : le4 a = le4 b) : a = b := by
  apply BitVec.eq_of_toNat_eq
  rw [← le4_num a, ← le4_num b, h]
theorem le4_len (a : BitVec 32) : (le4 a).length = 4 := rfl
/-- A crate behind its turning is none. -/
theorem turned (x rest : List UInt8) (hx : x.length ≤ 8000) (r : Nat) (hr : r < 8 * (x.length + 4)) :
    ¬ isCrate ([0xc5, UInt8.ofNat (x.length / 256), UInt8.ofNat x.length] ++ (flipAt (x ++ le4 (crc (mid x))) r ++ rest)) := by
  intro hc
  have hq : numAt ([0xc5, UInt8.ofNat (x.length / 256), UInt8.ofNat x.length] ++ (flipAt (x ++ le4 (crc (mid x))) r ++ rest)) = x.length := by
    show (UInt8.ofNat (x.length / 256)).toNat * 256 + (UInt8.ofNat x.length).toNat = x.length
    rw [UInt8.toNat_ofNat', UInt8.toNat_ofNat']; omega
  have h := hc.2.2.2.2
  unfold bodyAt at h
  rw [hq] at h
  have hd : ([0xc5, UInt8.ofNat (x.length / 256), UInt8.ofNat x.length] ++ (flipAt (x ++ le4 (crc (mid x))) r ++ rest)).drop 3 = flipAt (x ++ le4 (crc (mid x))) r ++ rest := rfl
  rw [hd] at h
  have hl : (flipAt (x ++ le4 (crc (mid x))) r).length = x.length + 4 := by rw [flipAt_length, List.length_append, le4_len]
  have ht : ([0xc5, UInt8.ofNat (x.length / 256), UInt8.ofNat x.length] ++ (flipAt (x ++ le4 (crc (mid x))) r ++ rest)).take (x.length + 7) = [0xc5, UInt8.ofNat (x.length / 256), UInt8.ofNat x.length] ++ flipAt (x ++ le4 (crc (mid x))) r := by
    rw [← List.append_assoc, List.take_left' (by rw [List.length_append, hl]; simp; omega)]
  rw [ht] at h
  by_cases hb : r < 8 * x.length
  · rw [flipAt_left _ _ _ hb] at h
    have hx' : (flipAt x r ++ le4 (crc (mid x)) ++ rest).take x.length = flipAt x r := by rw [List.append_assoc, List.take_left' (flipAt_length x r)]
    rw [hx', putS_form, flipAt_length] at h
    have h2 := List.append_cancel_left h
    have h3 := List.append_cancel_left h2
    have h4 := le4_inj _ _ h3
    have hm : mid (flipAt x r) = flipAt (mid x) (8 * (hd2 x.length).length + r) := by
      unfold mid; rw [flipAt_length, flipAt_right]
    rw [hm] at h4
    refine crc_flip (mid x) (8 * (hd2 x.length).length + r) ?_ h4.symm
    rw [hd2_len, mid_length]; omega
  · obtain ⟨q, rfl⟩ : ∃ q, r = 8 * x.length + q := ⟨r - 8 * x.length, by omega⟩
    rw [flipAt_right] at h
    have hx' : (x ++ flipAt (le4 (crc (mid x))) q ++ rest).take x.length = x := by rw [List.append_assoc, List.take_left' rfl]
    rw [hx', putS_form] at h
    have h2 := List.append_cancel_left h
    have h3 := List.append_cancel_left h2
    exact flipAt_ne _ _ (by rw [le4_len]; omega) h3
theorem allS_turned (G : List (List UInt8)) (hf : fits G) (k : Nat) (x : List UInt8) (hx : G[k]? = some x) (r : Nat) (hr : r < 8 * (x.length + 4)) :
    allS (flipAt (cat G) (8 * ((cat (G.take k)).length + 3) + r)) = (G.take k, ((cat (G.take k)).length : Int), 171) := by
  obtain ⟨hk, hxk⟩ := List.getElem?_eq_some_iff.1 hx
  have hx8 : x.length ≤ 8000 := hf x (by rw [← hxk]; exact List.getElem_mem _)
  have hsplit : cat G = cat (G.take k) ++ ([0xc5, UInt8.ofNat (x.length / 256), UInt8.ofNat x.length] ++ ((x ++ le4 (crc (mid x))) ++ cat (G.drop (k + 1)))) := by
    conv => lhs; rw [← List.take_append_drop k G, List.drop_eq_getElem_cons hk, hxk]
    rw [cat_append, cat_cons, putS_form, List.append_assoc]
  have hfl : flipAt (cat G) (8 * ((cat (G.take k)).length + 3) + r) = cat (G.take k) ++ ([0xc5, UInt8.ofNat (x.length / 256), UInt8.ofNat x.length] ++ (flipAt (x ++ le4 (crc (mid x))) r ++ cat (G.drop (k + 1)))) := by
    rw [hsplit, show 8 * ((cat (G.take k)).length + 3) + r = 8 * (cat (G.take k)).length + (8 * [(0xc5 : UInt8), UInt8.ofNat (x.length / 256), UInt8.ofNat x.length].length + r) by simp; omega, flipAt_right, flipAt_right, flipAt_left _ _ _ (by rw [List.length_append, le4_len]; omega)]
  have hd : (flipAt (cat G) (8 * ((cat (G.take k)).length + 3) + r)).drop (cat (G.take k)).length = [0xc5, UInt8.ofNat (x.length / 256), UInt8.ofNat x.length] ++ (flipAt (x ++ le4 (crc (mid x))) r ++ cat (G.drop (k + 1))) := by
    rw [hfl, List.drop_left' rfl]
  have hg : getS (flipAt (cat G) (8 * ((cat (G.take k)).length + 3) + r)) (cat (G.take k)).length = ([], 0, 171) := by
    have hl : ((flipAt (cat G) (8 * ((cat (G.take k)).length + 3) + r)).drop (cat (G.take k)).length).length ≥ 3 := by rw [hd]; simp
    rw [List.length_drop] at hl
    unfold getS
    rw [if_neg (by omega), Int.toNat_natCast, if_neg, hd, if_neg (turned x _ hx8 r hr)]
    rintro (e | e)
    · omega
    · rw [← getD_drop, hd] at e; exact absurd e (show (0xc5 : UInt8) ≠ 0 by decide)
  rw [allS_stop _ (G.take k) _ hfl (fun y hy => hf y (List.mem_of_mem_take hy)) (by rw [hg]; decide), hg]; rfl
end Go.Proofs.Ytahaoakolgomdaa
