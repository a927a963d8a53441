/- The walks of gangerref17.Put and Get. -/
import Derived.Test.YtahaoakolgomdaaS3
import Derived.Test.YtahaoakolgomdaaS5
import Derived.Test.YtahaoakolgomdaaS6
namespace Go.Proofs.Ytahaoakolgomdaa
open Go.RowKit Go.Proofs.YtahaoakolgomdaaW.PrintWords Go.Proofs.YtahaoakolgomdaaW.PrintLast Go.Proofs.YtahaoakolgomdaaW.PrintMore
set_option linter.unusedVariables false
set_option linter.unusedSimpArgs false

theorem rput_long (xs : List UInt8) (A : Option Addr) (c : Nat) (w : World) (hm : xs.length ≤ 9223372036854775807) (hn : 8000 < xs.length) :
    Calls Try.prog 25 #[.slice A xs.length c] w fun e w' => e = .returned (.tuple #[.slice none 0 0, .int .i64 3]) ∧ w' = w := by
  go_enter Try.func25, Try.ntmps25
  go_wp2
  go_ret2
  exact ⟨rfl, rfl⟩
theorem lit1 (n : Nat) : [Value.int .u8 ((n : Int) % 256)] = encs enc8 [UInt8.ofNat n] := by
  show _ = [enc8 _]; rw [enc8_ofNat]
theorem le4_take (r : BitVec 32) (i : Nat) (hi : i < 4) : (le4 r).take i ++ [UInt8.ofNat (r.toNat / 256 ^ i)] = (le4 r).take (i + 1) := by
  match i, hi with
  | 0, _ => simp [le4]
  | 1, _ => simp [le4]
  | 2, _ => simp [le4]
  | 3, _ => simp [le4]

set_option maxHeartbeats 1000000 in
theorem rput_calls (xs : List UInt8) (A : Option Addr) (c : Nat) (w : World) (h : kb.C w A xs.length xs) (hn : xs.length ≤ 8000) :
    Calls Try.prog 25 #[.slice A xs.length c] w fun e w' => ∃ v, e = .returned (.tuple #[v, .int .i64 0]) ∧ OwnB w' w.heap.size v (putS xs) ∧ Below w.heap.size w w' := by
  have H := Aside0.mk h
  clear h
  have HL : Aside0 ([Value.int .u8 ((xs.length : Int) / 256), .int .u8 ((xs.length : Int) % 256)] = encs enc8 (hd2 xs.length)) := by
    constructor
    show _ = [enc8 _, enc8 _]
    rw [← enc8_ofNat xs.length, ← enc8_ofNat (xs.length / 256)]
    have : ((xs.length / 256 : Nat) : Int) % 256 = (xs.length : Int) / 256 := by omega
    rw [this]
  have hm := mid_length xs
  have HM := Lib.hid hm
  clear hm
  have hml : (mid xs).length ≤ 9000 := by rw [mid_length]; omega
  go_enter Try.func25, Try.ntmps25
  go_wp2_with (first
    | (at_builtin; refine app_bytes w.heap.size rfl (.tmp 20) (.tmp 21) rfl (.slice (some ⟨w.heap.size, 0, none⟩) 2 2) (hd2 xs.length) xs (mid xs) rfl A xs.length c rfl rfl ?o1 ?r1 ?b1 ?l1 ?_; (case o1 => exact OwnB.lit w _ (hd2 xs.length) _ HL.out (Nat.le_refl _) (by simp [hd2])); (case r1 => exact Kd.C_alloc H.out _); (case b1 => simp); (case l1 => simp [hd2]; omega); intro v1 w1 ho1 hg1 hat1; have HB1 := Aside0.mk (show Below w.heap.size w w1 from ((Below.refl _ _).alloc (Nat.le_refl _) _).grown hg1 (by simp) (fun k hk => by cases hk; exact Nat.le_refl _)); obtain ⟨A1, c1, rfl, hc1, hr1⟩ := ho1.reads; have HR1 := Aside0.mk hr1; clear hg1 hat1 ho1 hr1)
    | (go_at_call 26; refine (rsum_calls (mid xs) A1 c1 _ HR1.out (by omega)).mono ?_; rintro e w2 ⟨rfl, hb2⟩; have HR2 := Aside0.mk (Kd.C_below HR1.out hb2); have HB2 := Aside0.mk (below_then HB1.out HB1.out.size hb2); clear hb2)
    | (at_builtin; go_loud (refine app_bytes w2.heap.size rfl (.tmp 26) (.tmp 27) rfl (.slice (some ⟨w2.heap.size, 0, none⟩) 1 1) [0xc5] (mid xs) (0xc5 :: mid xs) rfl A1 (mid xs).length c1 rfl rfl ?o1 ?r1 ?b1 ?l1 ?_; (case o1 => exact OwnB.lit w2 _ [0xc5] _ rfl (Nat.le_refl _) (by simp)); (case r1 => exact Kd.C_alloc HR2.out _); (case b1 => simp); (case l1 => simp; omega); intro v3 w3 ho3 hg3 hat3; have HB3 := Aside0.mk (show Below w.heap.size w w3 from (below_alloc HB2.out _).grown hg3 (by have := HB2.out.size; simp; omega) (fun k hk => by cases hk; exact HB2.out.size)); have HO3 := Aside0.mk (ho3.lower HB2.out.size); clear hg3 hat3 ho3)))
  obtain ⟨q, hq⟩ : ∃ q, q = (crc (mid xs)).toNat := ⟨_, rfl⟩
  rw [← hq]
  go_loopw [5, 6, 7] (fun s v i wr => ∃ (k n : Nat), i = .int .i64 k ∧ k ≤ 4 ∧ s = .int .u32 n ∧ n ≤ 4294967295 ∧ Aside0 (n = q / 256 ^ k) ∧ Aside0 (OwnB wr w.heap.size v ((0xc5 :: mid xs) ++ (le4 (crc (mid xs))).take k)) ∧ Aside0 (Below w.heap.size w wr)) (fun _ _ i _ => 4 - (intOf i).toNat)
  case atStart => exact ⟨0, q, rfl, by omega, rfl, by rw [hq]; have := (crc (mid xs)).isLt; omega, ⟨by simp⟩, ⟨by simpa using HO3.out⟩, HB3⟩
  case round =>
    have HQ := Lib.hid hq
    clear HO3 HB3 hq
    obtain ⟨k, n, rfl, hk, rfl, hn4, HN, HO, HB⟩ := hrel
    by_cases hlt : k < 4
    · have HE := Aside0.mk (le4_take (crc (mid xs)) k hlt)
      go_wp2_with (at_builtin; go_loud (refine app_bytes w.heap.size rfl (.tmp 33) (.tmp 37) rfl u6 ((0xc5 :: mid xs) ++ (le4 (crc (mid xs))).take k) [UInt8.ofNat n] ((0xc5 :: mid xs) ++ (le4 (crc (mid xs))).take (k + 1)) ?z1 (some ⟨wr.heap.size, 0, none⟩) 1 1 rfl rfl ?o1 ?r1 ?b1 ?l1 ?_; (case z1 => rw [List.append_assoc, ← HE.out, ← HQ.out, ← HN.out]); (case o1 => exact HO.out.below (below_alloc (Below.refl _ _) _)); (case r1 => exact lit_reads wr [UInt8.ofNat n] _ (lit1 n) (by simp)); (case b1 => exact Nat.le_trans HB.out.size (below_alloc (Below.refl _ _) _).size); (case l1 => simp [le4]; omega); intro v3 w3 ho3 hg3 hat3; have HB3 := Aside0.mk (own_step (below_alloc HB.out _) hg3 (fun k hk => HO.out.base_le k hk)); have HO3 := Aside0.mk ho3; clear hg3 hat3 ho3))
      go_roundw
      case rel => exact ⟨k + 1, n / 256, by go_num, by omega, by go_num, by omega, ⟨by rw [HN.out, Nat.div_div_eq_div_mul, Nat.pow_succ]⟩, HO3, HB3⟩
      case measure => simp [intOf]; omega
    · obtain rfl : k = 4 := by omega
      go_wp2
      go_ret2
      exact ⟨_, rfl, HO.out, HB.out⟩
section
variable (xs : List UInt8) (A : Option Addr) (c : Nat) (w : World)
theorem rget_arg0 (hm : xs.length ≤ 9223372036854775807) (at_ : Int) (h0 : at_ < 0) :
    Calls Try.prog 30 #[.slice A xs.length c, .int .i64 at_] w (NoGet w 2) := by
  have d0 : decide (at_ < 0) = true := by simpa using h0
  go_enter Try.func30, Try.ntmps30
  go_wp2
  go_ret3
  exact ⟨rfl, Below.refl _ _⟩
theorem rget_arg1 (hm : xs.length ≤ 9223372036854775807) (k : Nat) (h0 : xs.length < k) :
    Calls Try.prog 30 #[.slice A xs.length c, .int .i64 k] w (NoGet w 2) := by
  have d0 : decide ((k : Int) < 0) = false := by simp
  have d1 : decide ((xs.length : Int) < (k : Int)) = true := by simpa using h0
  go_enter Try.func30, Try.ntmps30
  go_wp2
  go_ret3
  exact ⟨rfl, Below.refl _ _⟩
theorem rget_end (hm : xs.length ≤ 9223372036854775807) :
    Calls Try.prog 30 #[.slice A xs.length c, .int .i64 xs.length] w (NoGet w 170) := by
  go_enter Try.func30, Try.ntmps30
  go_wp2
  go_ret3
  exact ⟨rfl, Below.refl _ _⟩
theorem rget_nought (h : kb.C w A xs.length xs) (k : Nat) (hk : k < xs.length) (hz : by8 xs k = 0) :
    Calls Try.prog 30 #[.slice A xs.length c, .int .i64 k] w (NoGet w 170) := by
  have hm : xs.length ≤ 9223372036854775807 := h.2.1
  obtain ⟨ad, rfl, hc⟩ := kb_get h k hk
  rw [hz] at hc
  have d0 : decide ((k : Int) < 0) = false := by simp
  have d1 : decide ((xs.length : Int) < (k : Int)) = false := by simp; omega
  have d2 : ((k : Int) == (xs.length : Int)) = false := by simp; omega
  clear h
  go_enter Try.func30, Try.ntmps30
  go_wp2
  go_ret3
  exact ⟨rfl, Below.refl _ _⟩
theorem rget_short (h : kb.C w A xs.length xs) (k : Nat) (hk : k < xs.length) (hz : (by8 xs k == 0) = false) (h7 : xs.length - k < 7) :
    Calls Try.prog 30 #[.slice A xs.length c, .int .i64 k] w (NoGet w 171) := by
  have hm : xs.length ≤ 9223372036854775807 := h.2.1
  obtain ⟨ad, rfl, hcl⟩ := kb_get h k hk
  have d0 : decide ((k : Int) < 0) = false := by simp
  have d1 : decide (xs.length < k) = false := by simp; omega
  have d2 : ((k : Int) == (xs.length : Int)) = false := by simp; omega
  have d3 : decide ((xs.length : Int) - (k : Int) < 7) = true := by simp; omega
  clear h h7
  go_enter Try.func30, Try.ntmps30
  go_wp2
  go_ret3
  exact ⟨rfl, Below.refl _ _⟩
theorem rget_size (h : kb.C w A xs.length xs) (k : Nat) (hk : k < xs.length) (hz : (by8 xs k == 0) = false) (h7 : 7 ≤ xs.length - k) (q : Nat) (hq : q = numAt (xs.drop k)) (hn : xs.length - k < q + 7) :
    Calls Try.prog 30 #[.slice A xs.length c, .int .i64 k] w (NoGet w 171) := by
  have hm : xs.length ≤ 9223372036854775807 := h.2.1
  obtain ⟨ad, rfl, hcl⟩ := kb_get h k hk
  obtain ⟨_, q1, hc1⟩ := kb_getL h (k + 1) (by omega) (by omega)
  cases q1
  obtain ⟨_, q1, hc2⟩ := kb_getL h (k + 2) (by omega) (by omega)
  cases q1
  have hqq : (q : Int) = by8 xs (k + 1) * 256 + by8 xs (k + 2) := by rw [hq]; unfold numAt by8; simp
  obtain ⟨b1, hb1⟩ : ∃ b1, b1 = by8 xs (k + 1) := ⟨_, rfl⟩
  obtain ⟨b2, hb2⟩ : ∃ b2, b2 = by8 xs (k + 2) := ⟨_, rfl⟩
  have l1 := by8_lo xs (k + 1)
  have l2 := by8_lo xs (k + 2)
  have u1 := by8_hi xs (k + 1)
  have u2 := by8_hi xs (k + 2)
  rw [← hb1] at hc1 l1 u1 hqq
  rw [← hb2] at hc2 l2 u2 hqq
  clear hb1 hb2 hq
  have d0 : decide ((k : Int) < 0) = false := by simp
  have d1 : decide (xs.length < k) = false := by simp; omega
  have d2 : ((k : Int) == (xs.length : Int)) = false := by simp; omega
  have d3 : decide ((xs.length : Int) - (k : Int) < 7) = false := by simp; omega
  have i1 : (k : Int) + 1 < (xs.length : Int) := by omega
  have i2 : (k : Int) + 2 < (xs.length : Int) := by omega
  have d4 : decide ((xs.length : Int) - (k : Int) - 7 < (q : Int)) = true := by simp; omega
  have W1 := Lib.hid (show IntKind.i64.wrap (b1 * 256) = b1 * 256 by rw [IntKind.wrap_i64]; omega)
  have W2 := Lib.hid (show IntKind.i64.wrap (b1 * 256 + b2) = (q : Int) by rw [IntKind.wrap_i64]; omega)
  have W3 := Lib.hid (show IntKind.i64.wrap ((k : Int) + 1) = (k : Int) + 1 by rw [IntKind.wrap_i64]; omega)
  have W4 := Lib.hid (show IntKind.i64.wrap ((k : Int) + 2) = (k : Int) + 2 by rw [IntKind.wrap_i64]; omega)
  have N1 := Lib.hid (show ((k : Int) + 1).toNat = k + 1 by omega)
  have N2 := Lib.hid (show ((k : Int) + 2).toNat = k + 2 by omega)
  have P1 : 0 ≤ (k : Int) + 1 := by omega
  have P2 : 0 ≤ (k : Int) + 2 := by omega
  clear h h7 hn hqq
  go_enter Try.func30, Try.ntmps30
  go_wp2
  have w1 := W1.out
  have w2 := W2.out
  have w3 := W3.out
  have w4 := W4.out
  have n1 := N1.out
  have n2 := N2.out
  go_quiet (fail)
  clear w1 w2 w3 w4 n1 n2
  go_wp2
  go_ret3
  exact ⟨rfl, by repeat (first | exact Below.refl _ _ | apply pw_below_drewN)⟩
theorem rget_long (h : kb.C w A xs.length xs) (hc : xs.length ≤ c) (k : Nat) (hk : k < xs.length) (hz : (by8 xs k == 0) = false) (h7 : 7 ≤ xs.length - k) (q : Nat) (hq : q = numAt (xs.drop k)) (hn : q + 7 ≤ xs.length - k) (hq8 : 8000 < q) :
    Calls Try.prog 30 #[.slice A xs.length c, .int .i64 k] w (NoGet w 171) := by
  obtain ⟨A5, hcut5, hrd5, _⟩ := cut_mid A c xs (k + 3) (k + 3 + q) (by omega) (by omega) hc
  have h5 := hrd5 _ h
  have hbd : (xs.take (k + 3 + q)).drop (k + 3) = bodyAt (xs.drop k) := by
    unfold bodyAt; rw [← hq, List.drop_take, List.drop_drop]; congr 1; omega
  rw [hbd] at hcut5 h5
  obtain ⟨bs, hbs⟩ : ∃ bs, bs = bodyAt (xs.drop k) := ⟨_, rfl⟩
  rw [← hbs] at hcut5 h5
  have hbl : bs.length = q := by rw [hbs, hq]; exact bodyAt_length _ (by simp; omega)
  have hcut5' : ∀ W : World, (Instr.slice 22 (.slice A xs.length c) (some (.int .i64 ((k : Int) + 3))) (some (.int .i64 ((k : Int) + 3 + (q : Int)))) none).run Try.prog W = .ok (.slice A5 bs.length (c - (k + 3))) W := by
    intro W; have := hcut5 W; rwa [Int.natCast_add, Int.natCast_add, Int.natCast_add] at this
  have H5 := Aside0.mk h5
  have HBL := Lib.hid hbl
  clear hcut5 hrd5 h5 hbd hbl
  have hm : xs.length ≤ 9223372036854775807 := h.2.1
  obtain ⟨ad, e1, hcl⟩ := kb_get h k hk
  subst e1
  obtain ⟨_, q1, hc1⟩ := kb_getL h (k + 1) (by omega) (by omega)
  cases q1
  obtain ⟨_, q1, hc2⟩ := kb_getL h (k + 2) (by omega) (by omega)
  cases q1
  have hqq : (q : Int) = by8 xs (k + 1) * 256 + by8 xs (k + 2) := by rw [hq]; unfold numAt by8; simp
  obtain ⟨b1, hb1⟩ : ∃ b1, b1 = by8 xs (k + 1) := ⟨_, rfl⟩
  obtain ⟨b2, hb2⟩ : ∃ b2, b2 = by8 xs (k + 2) := ⟨_, rfl⟩
  have l1 := by8_lo xs (k + 1)
  have l2 := by8_lo xs (k + 2)
  have u1 := by8_hi xs (k + 1)
  have u2 := by8_hi xs (k + 2)
  rw [← hb1] at hc1 l1 u1 hqq
  rw [← hb2] at hc2 l2 u2 hqq
  clear hb1 hb2 hq hbs
  have d0 : decide ((k : Int) < 0) = false := by simp
  have d1 : decide (xs.length < k) = false := by simp; omega
  have d2 : ((k : Int) == (xs.length : Int)) = false := by simp; omega
  have d3 : decide ((xs.length : Int) - (k : Int) < 7) = false := by simp; omega
  have i1 : (k : Int) + 1 < (xs.length : Int) := by omega
  have i2 : (k : Int) + 2 < (xs.length : Int) := by omega
  have d4 : decide ((xs.length : Int) - (k : Int) - 7 < (q : Int)) = false := by simp; omega
  have W1 := Lib.hid (show IntKind.i64.wrap (b1 * 256) = b1 * 256 by rw [IntKind.wrap_i64]; omega)
  have W2 := Lib.hid (show IntKind.i64.wrap (b1 * 256 + b2) = (q : Int) by rw [IntKind.wrap_i64]; omega)
  have W3 := Lib.hid (show IntKind.i64.wrap ((k : Int) + 1) = (k : Int) + 1 by rw [IntKind.wrap_i64]; omega)
  have W4 := Lib.hid (show IntKind.i64.wrap ((k : Int) + 2) = (k : Int) + 2 by rw [IntKind.wrap_i64]; omega)
  have N1 := Lib.hid (show ((k : Int) + 1).toNat = k + 1 by omega)
  have N2 := Lib.hid (show ((k : Int) + 2).toNat = k + 2 by omega)
  have P1 : 0 ≤ (k : Int) + 1 := by omega
  have P2 : 0 ≤ (k : Int) + 2 := by omega
  have HQ8 := Lib.hid hq8
  clear h h7 hqq hq8
  go_enter Try.func30, Try.ntmps30
  go_wp2
  have w1 := W1.out
  have w2 := W2.out
  have w3 := W3.out
  have w4 := W4.out
  have n1 := N1.out
  have n2 := N2.out
  go_quiet (fail)
  clear w1 w2 w3 w4 n1 n2
  go_wp2_with (go_at_call 25; refine (rput_long bs A5 _ _ H5.out.2.1 (by rw [HBL.out]; exact HQ8.out)).mono ?_; rintro e w' ⟨rfl, rfl⟩)
  go_quiet (fail)
  go_wp2
  go_ret3
  exact ⟨rfl, by repeat (first | exact Below.refl _ _ | apply pw_below_drewN)⟩
theorem rget_diff (h : kb.C w A xs.length xs) (hc : xs.length ≤ c) (k : Nat) (hk : k < xs.length) (hz : (by8 xs k == 0) = false) (h7 : 7 ≤ xs.length - k) (q : Nat) (hq : q = numAt (xs.drop k)) (hn : q + 7 ≤ xs.length - k) (hq8 : q ≤ 8000) (hs : putS (bodyAt (xs.drop k)) ≠ (xs.drop k).take (q + 7)) :
    Calls Try.prog 30 #[.slice A xs.length c, .int .i64 k] w (NoGet w 171) := by
  obtain ⟨A5, hcut5, hrd5, _⟩ := cut_mid A c xs (k + 3) (k + 3 + q) (by omega) (by omega) hc
  have h5 := hrd5 _ h
  have hbd : (xs.take (k + 3 + q)).drop (k + 3) = bodyAt (xs.drop k) := by
    unfold bodyAt; rw [← hq, List.drop_take, List.drop_drop]; congr 1; omega
  rw [hbd] at hcut5 h5
  obtain ⟨bs, hbs⟩ : ∃ bs, bs = bodyAt (xs.drop k) := ⟨_, rfl⟩
  rw [← hbs] at hcut5 h5
  have hbl : bs.length = q := by rw [hbs, hq]; exact bodyAt_length _ (by simp; omega)
  have hcut5' : ∀ W : World, (Instr.slice 22 (.slice A xs.length c) (some (.int .i64 ((k : Int) + 3))) (some (.int .i64 ((k : Int) + 3 + (q : Int)))) none).run Try.prog W = .ok (.slice A5 bs.length (c - (k + 3))) W := by
    intro W; have := hcut5 W; rwa [Int.natCast_add, Int.natCast_add, Int.natCast_add] at this
  have H5 := Aside0.mk h5
  have HBL := Lib.hid hbl
  obtain ⟨A6, hcut6, hrd6, _⟩ := cut_mid A c xs k (k + 7 + q) (by omega) (by omega) hc
  have h6 := hrd6 _ h
  have hys : (xs.take (k + 7 + q)).drop k = (xs.drop k).take (q + 7) := by rw [List.drop_take]; congr 1; omega
  rw [hys] at hcut6 h6
  obtain ⟨ys, hy⟩ : ∃ ys, ys = (xs.drop k).take (q + 7) := ⟨_, rfl⟩
  rw [← hy] at hcut6 h6
  have hcut6' : ∀ W : World, (Instr.slice 22 (.slice A xs.length c) (some (.int .i64 (k : Int))) (some (.int .i64 ((k : Int) + 7 + (q : Int)))) none).run Try.prog W = .ok (.slice A6 ys.length (c - k)) W := by
    intro W; have := hcut6 W; rwa [Int.natCast_add, Int.natCast_add] at this
  have H6 := Aside0.mk h6
  have HSM := Lib.hid (show ((strB (putS bs)).toList == (strB ys).toList) = false by rw [strB_beq, hbs, hy]; unfold sameB; simpa using hs)
  clear hcut5 hrd5 h5 hbd hbl hcut6 hrd6 h6 hys hs hy
  have hm : xs.length ≤ 9223372036854775807 := h.2.1
  obtain ⟨ad, e1, hcl⟩ := kb_get h k hk
  subst e1
  obtain ⟨_, q1, hc1⟩ := kb_getL h (k + 1) (by omega) (by omega)
  cases q1
  obtain ⟨_, q1, hc2⟩ := kb_getL h (k + 2) (by omega) (by omega)
  cases q1
  have hqq : (q : Int) = by8 xs (k + 1) * 256 + by8 xs (k + 2) := by rw [hq]; unfold numAt by8; simp
  obtain ⟨b1, hb1⟩ : ∃ b1, b1 = by8 xs (k + 1) := ⟨_, rfl⟩
  obtain ⟨b2, hb2⟩ : ∃ b2, b2 = by8 xs (k + 2) := ⟨_, rfl⟩
  have l1 := by8_lo xs (k + 1)
  have l2 := by8_lo xs (k + 2)
  have u1 := by8_hi xs (k + 1)
  have u2 := by8_hi xs (k + 2)
  rw [← hb1] at hc1 l1 u1 hqq
  rw [← hb2] at hc2 l2 u2 hqq
  clear hb1 hb2 hq hbs
  have d0 : decide ((k : Int) < 0) = false := by simp
  have d1 : decide (xs.length < k) = false := by simp; omega
  have d2 : ((k : Int) == (xs.length : Int)) = false := by simp; omega
  have d3 : decide ((xs.length : Int) - (k : Int) < 7) = false := by simp; omega
  have i1 : (k : Int) + 1 < (xs.length : Int) := by omega
  have i2 : (k : Int) + 2 < (xs.length : Int) := by omega
  have d4 : decide ((xs.length : Int) - (k : Int) - 7 < (q : Int)) = false := by simp; omega
  have W1 := Lib.hid (show IntKind.i64.wrap (b1 * 256) = b1 * 256 by rw [IntKind.wrap_i64]; omega)
  have W2 := Lib.hid (show IntKind.i64.wrap (b1 * 256 + b2) = (q : Int) by rw [IntKind.wrap_i64]; omega)
  have W3 := Lib.hid (show IntKind.i64.wrap ((k : Int) + 1) = (k : Int) + 1 by rw [IntKind.wrap_i64]; omega)
  have W4 := Lib.hid (show IntKind.i64.wrap ((k : Int) + 2) = (k : Int) + 2 by rw [IntKind.wrap_i64]; omega)
  have N1 := Lib.hid (show ((k : Int) + 1).toNat = k + 1 by omega)
  have N2 := Lib.hid (show ((k : Int) + 2).toNat = k + 2 by omega)
  have P1 : 0 ≤ (k : Int) + 1 := by omega
  have P2 : 0 ≤ (k : Int) + 2 := by omega
  have HQ8 := Lib.hid hq8
  have W5 := Lib.hid (show IntKind.i64.wrap ((k : Int) + 7) = (k : Int) + 7 by rw [IntKind.wrap_i64]; omega)
  have W6 := Lib.hid (show IntKind.i64.wrap ((k : Int) + 7 + (q : Int)) = (k : Int) + 7 + (q : Int) by rw [IntKind.wrap_i64]; omega)
  have H := Aside0.mk h
  clear h h7 hqq hq8
  go_enter Try.func30, Try.ntmps30
  go_wp2
  have w1 := W1.out
  have w2 := W2.out
  have w3 := W3.out
  have w4 := W4.out
  have n1 := N1.out
  have n2 := N2.out
  go_quiet (fail)
  clear w1 w2 w3 w4 n1 n2
  go_wp2_with (go_at_call 25; refine (rput_calls bs A5 _ _ (Kd.C_drewN H5.out _) (by rw [HBL.out]; exact HQ8.out)).mono ?_; rintro e w1 ⟨v1, rfl, ho1, hb1⟩; obtain ⟨A1, c1, rfl, hc1, hr1⟩ := ho1.reads; have HB1 := Aside0.mk (below_then (pw_below_drewN (Below.refl _ _) _) (Nat.le_refl _) hb1 : Below w.heap.size w w1); have HR1 := Aside0.mk hr1; clear ho1 hb1 hr1)
  have cv1 : ∀ m, (convert 22 9 (.slice A1 (putS bs).length c1)).run Try.prog (w1.drewN m) = .ok (.string (strB (putS bs))) (w1.drewN m) := fun m => kb_string (Kd.C_drewN HR1.out m)
  have cv2 : ∀ m, (convert 22 9 (.slice A6 ys.length (c - k))).run Try.prog (w1.drewN m) = .ok (.string (strB ys)) (w1.drewN m) := fun m => kb_string (Kd.C_drewN (Kd.C_below H6.out HB1.out) m)
  have w5 := W5.out
  have w6 := W6.out
  have hsm := HSM.out
  go_quiet (fail)
  clear w5 w6 cv1 cv2 hsm
  go_wp2
  go_ret3
  exact ⟨rfl, by repeat (first | exact HB1.out | apply pw_below_drewN)⟩
theorem rget_ok (h : kb.C w A xs.length xs) (hc : xs.length ≤ c) (k : Nat) (hk : k < xs.length) (hz : (by8 xs k == 0) = false) (h7 : 7 ≤ xs.length - k) (q : Nat) (hq : q = numAt (xs.drop k)) (hn : q + 7 ≤ xs.length - k) (hq8 : q ≤ 8000) (hs : putS (bodyAt (xs.drop k)) = (xs.drop k).take (q + 7)) :
    Calls Try.prog 30 #[.slice A xs.length c, .int .i64 k] w (GotOne w (bodyAt (xs.drop k)) (k + q + 7)) := by
  obtain ⟨A5, hcut5, hrd5, _⟩ := cut_mid A c xs (k + 3) (k + 3 + q) (by omega) (by omega) hc
  have h5 := hrd5 _ h
  have hbd : (xs.take (k + 3 + q)).drop (k + 3) = bodyAt (xs.drop k) := by
    unfold bodyAt; rw [← hq, List.drop_take, List.drop_drop]; congr 1; omega
  rw [hbd] at hcut5 h5
  obtain ⟨bs, hbs⟩ : ∃ bs, bs = bodyAt (xs.drop k) := ⟨_, rfl⟩
  rw [← hbs] at hcut5 h5
  have hbl : bs.length = q := by rw [hbs, hq]; exact bodyAt_length _ (by simp; omega)
  have hcut5' : ∀ W : World, (Instr.slice 22 (.slice A xs.length c) (some (.int .i64 ((k : Int) + 3))) (some (.int .i64 ((k : Int) + 3 + (q : Int)))) none).run Try.prog W = .ok (.slice A5 bs.length (c - (k + 3))) W := by
    intro W; have := hcut5 W; rwa [Int.natCast_add, Int.natCast_add, Int.natCast_add] at this
  have H5 := Aside0.mk h5
  have HBS := Aside0.mk hbs
  have HBL := Lib.hid hbl
  obtain ⟨A6, hcut6, hrd6, _⟩ := cut_mid A c xs k (k + 7 + q) (by omega) (by omega) hc
  have h6 := hrd6 _ h
  have hys : (xs.take (k + 7 + q)).drop k = (xs.drop k).take (q + 7) := by rw [List.drop_take]; congr 1; omega
  rw [hys] at hcut6 h6
  obtain ⟨ys, hy⟩ : ∃ ys, ys = (xs.drop k).take (q + 7) := ⟨_, rfl⟩
  rw [← hy] at hcut6 h6
  have hcut6' : ∀ W : World, (Instr.slice 22 (.slice A xs.length c) (some (.int .i64 (k : Int))) (some (.int .i64 ((k : Int) + 7 + (q : Int)))) none).run Try.prog W = .ok (.slice A6 ys.length (c - k)) W := by
    intro W; have := hcut6 W; rwa [Int.natCast_add, Int.natCast_add] at this
  have H6 := Aside0.mk h6
  have HSM := Lib.hid (show ((strB (putS bs)).toList == (strB ys).toList) = true by rw [strB_beq, hbs, hy]; unfold sameB; simpa using hs)
  clear hcut5 hrd5 h5 hbd hbl hcut6 hrd6 h6 hys hs hy
  have hm : xs.length ≤ 9223372036854775807 := h.2.1
  obtain ⟨ad, e1, hcl⟩ := kb_get h k hk
  subst e1
  obtain ⟨_, q1, hc1⟩ := kb_getL h (k + 1) (by omega) (by omega)
  cases q1
  obtain ⟨_, q1, hc2⟩ := kb_getL h (k + 2) (by omega) (by omega)
  cases q1
  have hqq : (q : Int) = by8 xs (k + 1) * 256 + by8 xs (k + 2) := by rw [hq]; unfold numAt by8; simp
  obtain ⟨b1, hb1⟩ : ∃ b1, b1 = by8 xs (k + 1) := ⟨_, rfl⟩
  obtain ⟨b2, hb2⟩ : ∃ b2, b2 = by8 xs (k + 2) := ⟨_, rfl⟩
  have l1 := by8_lo xs (k + 1)
  have l2 := by8_lo xs (k + 2)
  have u1 := by8_hi xs (k + 1)
  have u2 := by8_hi xs (k + 2)
  rw [← hb1] at hc1 l1 u1 hqq
  rw [← hb2] at hc2 l2 u2 hqq
  clear hb1 hb2 hq hbs
  have d0 : decide ((k : Int) < 0) = false := by simp
  have d1 : decide (xs.length < k) = false := by simp; omega
  have d2 : ((k : Int) == (xs.length : Int)) = false := by simp; omega
  have d3 : decide ((xs.length : Int) - (k : Int) < 7) = false := by simp; omega
  have i1 : (k : Int) + 1 < (xs.length : Int) := by omega
  have i2 : (k : Int) + 2 < (xs.length : Int) := by omega
  have d4 : decide ((xs.length : Int) - (k : Int) - 7 < (q : Int)) = false := by simp; omega
  have W1 := Lib.hid (show IntKind.i64.wrap (b1 * 256) = b1 * 256 by rw [IntKind.wrap_i64]; omega)
  have W2 := Lib.hid (show IntKind.i64.wrap (b1 * 256 + b2) = (q : Int) by rw [IntKind.wrap_i64]; omega)
  have W3 := Lib.hid (show IntKind.i64.wrap ((k : Int) + 1) = (k : Int) + 1 by rw [IntKind.wrap_i64]; omega)
  have W4 := Lib.hid (show IntKind.i64.wrap ((k : Int) + 2) = (k : Int) + 2 by rw [IntKind.wrap_i64]; omega)
  have N1 := Lib.hid (show ((k : Int) + 1).toNat = k + 1 by omega)
  have N2 := Lib.hid (show ((k : Int) + 2).toNat = k + 2 by omega)
  have P1 : 0 ≤ (k : Int) + 1 := by omega
  have P2 : 0 ≤ (k : Int) + 2 := by omega
  have HQ8 := Lib.hid hq8
  have W5 := Lib.hid (show IntKind.i64.wrap ((k : Int) + 7) = (k : Int) + 7 by rw [IntKind.wrap_i64]; omega)
  have W6 := Lib.hid (show IntKind.i64.wrap ((k : Int) + 7 + (q : Int)) = (k : Int) + 7 + (q : Int) by rw [IntKind.wrap_i64]; omega)
  have H := Aside0.mk h
  clear h h7 hqq hq8
  go_enter Try.func30, Try.ntmps30
  go_wp2
  have w1 := W1.out
  have w2 := W2.out
  have w3 := W3.out
  have w4 := W4.out
  have n1 := N1.out
  have n2 := N2.out
  go_quiet (fail)
  clear w1 w2 w3 w4 n1 n2
  go_wp2_with (go_at_call 25; refine (rput_calls bs A5 _ _ (Kd.C_drewN H5.out _) (by rw [HBL.out]; exact HQ8.out)).mono ?_; rintro e w1 ⟨v1, rfl, ho1, hb1⟩; obtain ⟨A1, c1, rfl, hc1, hr1⟩ := ho1.reads; have HB1 := Aside0.mk (below_then (pw_below_drewN (Below.refl _ _) _) (Nat.le_refl _) hb1 : Below w.heap.size w w1); have HR1 := Aside0.mk hr1; clear ho1 hb1 hr1)
  have cv1 : ∀ m, (convert 22 9 (.slice A1 (putS bs).length c1)).run Try.prog (w1.drewN m) = .ok (.string (strB (putS bs))) (w1.drewN m) := fun m => kb_string (Kd.C_drewN HR1.out m)
  have cv2 : ∀ m, (convert 22 9 (.slice A6 ys.length (c - k))).run Try.prog (w1.drewN m) = .ok (.string (strB ys)) (w1.drewN m) := fun m => kb_string (Kd.C_drewN (Kd.C_below H6.out HB1.out) m)
  have w5 := W5.out
  have w6 := W6.out
  have hsm := HSM.out
  go_quiet (fail)
  clear w5 w6 cv1 cv2 hsm
  go_wp2_with (go_at_call 35; refine (copy_calls bs A5 _ _ (Kd.C_drewN (Kd.C_below H5.out HB1.out) _) (by rw [HBL.out]; exact Nat.le_trans HQ8.out (by decide))).mono ?_; rintro e w2 ⟨v2, rfl, ho2, hb2⟩; have HB2 := Aside0.mk (below_then (pw_below_drewN HB1.out _) HB1.out.size hb2 : Below w.heap.size w w2); have HO2 := Aside0.mk (ho2.lower HB1.out.size); clear ho2 hb2)
  go_ret3
  rw [← HBS.out]
  exact ⟨_, congrArg (fun z : Int => Ending.returned (.tuple #[_, .int .i64 z, .int .i64 0])) (by omega), HO2.out, HB2.out⟩
end
end Go.Proofs.Ytahaoakolgomdaa
