/- The walk of crate.Get. -/
import Derived.Test.YtahaoakolgomdaaS2
import Derived.Test.YtahaoakolgomdaaM1
namespace Go.Proofs.Ytahaoakolgomdaa
open Go.RowKit Go.Proofs.YtahaoakolgomdaaW.PrintWords Go.Proofs.YtahaoakolgomdaaW.PrintLast Go.Proofs.YtahaoakolgomdaaW.PrintMore
set_option linter.unusedVariables false
set_option linter.unusedSimpArgs false

/-- What comes of a Get that gives nothing. -/
def NoGet (w : World) (err : Int) (e : Ending) (w' : World) : Prop := e = .returned (.tuple #[.slice none 0 0, .int .i64 0, .int .i64 err]) ∧ Below w.heap.size w w'
section
variable (xs : List UInt8) (A : Option Addr) (c : Nat) (w : World)
theorem get_arg0 (hm : xs.length ≤ 9223372036854775807) (at_ : Int) (h0 : at_ < 0) :
    Calls Try.prog 29 #[.slice A xs.length c, .int .i64 at_] w (NoGet w 2) := by
  have d0 : decide (at_ < 0) = true := by simpa using h0
  go_enter Try.func29, Try.ntmps29
  go_wp2
  go_ret3
  exact ⟨rfl, Below.refl _ _⟩
theorem get_arg1 (hm : xs.length ≤ 9223372036854775807) (k : Nat) (h0 : xs.length < k) :
    Calls Try.prog 29 #[.slice A xs.length c, .int .i64 k] w (NoGet w 2) := by
  have d0 : decide ((k : Int) < 0) = false := by simp
  have d1 : decide ((xs.length : Int) < (k : Int)) = true := by simpa using h0
  go_enter Try.func29, Try.ntmps29
  go_wp2
  go_ret3
  exact ⟨rfl, Below.refl _ _⟩
theorem get_end (hm : xs.length ≤ 9223372036854775807) :
    Calls Try.prog 29 #[.slice A xs.length c, .int .i64 xs.length] w (NoGet w 170) := by
  go_enter Try.func29, Try.ntmps29
  go_wp2
  go_ret3
  exact ⟨rfl, Below.refl _ _⟩
theorem get_nought (h : kb.C w A xs.length xs) (k : Nat) (hk : k < xs.length) (hz : by8 xs k = 0) :
    Calls Try.prog 29 #[.slice A xs.length c, .int .i64 k] w (NoGet w 170) := by
  have hm : xs.length ≤ 9223372036854775807 := h.2.1
  obtain ⟨ad, rfl, hc⟩ := kb_get h k hk
  rw [hz] at hc
  have d0 : decide ((k : Int) < 0) = false := by simp
  have d1 : decide ((xs.length : Int) < (k : Int)) = false := by simp; omega
  have d2 : ((k : Int) == (xs.length : Int)) = false := by simp; omega
  clear h
  go_enter Try.func29, Try.ntmps29
  go_wp2
  go_ret3
  exact ⟨rfl, Below.refl _ _⟩
theorem get_short (h : kb.C w A xs.length xs) (hc : xs.length ≤ c) (k : Nat) (hk : k < xs.length) (hz : (by8 xs k == 0) = false) (h7 : xs.length - k < 7) :
    Calls Try.prog 29 #[.slice A xs.length c, .int .i64 k] w (NoGet w 171) := by
  have hm : xs.length ≤ 9223372036854775807 := h.2.1
  obtain ⟨A2, hcut, _, _⟩ := cut_lo A c xs k (by omega) hc
  obtain ⟨ad, rfl, hcl⟩ := kb_get h k hk
  have d0 : decide ((k : Int) < 0) = false := by simp
  have d1 : decide ((xs.length : Int) < (k : Int)) = false := by simp; omega
  have d2 : ((k : Int) == (xs.length : Int)) = false := by simp; omega
  have hl : (xs.drop k).length = xs.length - k := by simp
  obtain ⟨m, hm7⟩ : ∃ m, m = (xs.drop k).length := ⟨_, rfl⟩
  have hm6 : m < 7 := by omega
  rw [← hm7] at hcut
  clear h hl hm7 h7
  go_enter Try.func29, Try.ntmps29
  go_wp2
  go_ret3
  exact ⟨rfl, Below.refl _ _⟩
theorem get_mark (h : kb.C w A xs.length xs) (hc : xs.length ≤ c) (k : Nat) (hk : k < xs.length) (hz : (by8 xs k == 0) = false) (h7 : 7 ≤ xs.length - k) (hmk : (by8 xs k != 197) = true) :
    Calls Try.prog 29 #[.slice A xs.length c, .int .i64 k] w (NoGet w 171) := by
  have hm : xs.length ≤ 9223372036854775807 := h.2.1
  obtain ⟨A2, hcut, hrd, _⟩ := cut_lo A c xs k (by omega) hc
  have h2 := hrd _ h
  obtain ⟨ad, rfl, hcl⟩ := kb_get h k hk
  have hl : (xs.drop k).length = xs.length - k := by simp
  obtain ⟨ad2, rfl, hc2⟩ := kb_get0 h2 (by omega)
  have h00 : by8 (xs.drop k) 0 = by8 xs k := by simp [by8]
  rw [h00] at hc2
  have d0 : decide ((k : Int) < 0) = false := by simp
  have d1 : decide ((xs.length : Int) < (k : Int)) = false := by simp; omega
  have d2 : ((k : Int) == (xs.length : Int)) = false := by simp; omega
  obtain ⟨m, hm7⟩ : ∃ m, m = (xs.drop k).length := ⟨_, rfl⟩
  have hm6 : 7 ≤ m := by omega
  have hm8 : m ≤ 9223372036854775807 := by omega
  have d3 : decide ((m : Int) < 7) = false := by simp; omega
  rw [← hm7] at hcut
  clear h hl hm7 h7 h00 h2 hrd
  go_enter Try.func29, Try.ntmps29
  go_wp2
  go_ret3
  exact ⟨rfl, Below.refl _ _⟩
theorem get_size (h : kb.C w A xs.length xs) (hc : xs.length ≤ c) (k : Nat) (hk : k < xs.length) (hz : (by8 xs k == 0) = false) (h7 : 7 ≤ xs.length - k) (hmk : (by8 xs k != 197) = false)
    (hn : 8000 < numAt (xs.drop k) ∨ xs.length - k < numAt (xs.drop k) + 7) :
    Calls Try.prog 29 #[.slice A xs.length c, .int .i64 k] w (NoGet w 171) := by
  have hm : xs.length ≤ 9223372036854775807 := h.2.1
  obtain ⟨A2, hcut, hrd, _⟩ := cut_lo A c xs k (by omega) hc
  have h2 := hrd _ h
  obtain ⟨ad, rfl, hcl⟩ := kb_get h k hk
  have hl : (xs.drop k).length = xs.length - k := by simp
  obtain ⟨ad2, rfl, hc2⟩ := kb_get0 h2 (by omega)
  obtain ⟨_, e1, hc21⟩ := kb_getL h2 1 (by omega) (by omega)
  cases e1
  obtain ⟨_, e1, hc22⟩ := kb_getL h2 2 (by omega) (by omega)
  cases e1
  have h00 : by8 (xs.drop k) 0 = by8 xs k := by simp [by8]
  rw [h00] at hc2
  have HN := Aside0.mk (or_num ((xs.drop k).getD 1 0) ((xs.drop k).getD 2 0))
  obtain ⟨b1, hb1⟩ : ∃ b1, b1 = by8 (xs.drop k) 1 := ⟨_, rfl⟩
  obtain ⟨b2, hb2⟩ : ∃ b2, b2 = by8 (xs.drop k) 2 := ⟨_, rfl⟩
  have l1 := by8_lo (xs.drop k) 1
  have l2 := by8_lo (xs.drop k) 2
  have u1 := by8_hi (xs.drop k) 1
  have u2 := by8_hi (xs.drop k) 2
  have hn2 := numAt_le (xs.drop k)
  have hor : bits .or .i64 (b1 * 256) b2 = (numAt (xs.drop k) : Int) := by rw [hb1, hb2]; exact HN.out
  rw [← hb1] at hc21 l1 u1
  rw [← hb2] at hc22 l2 u2
  obtain ⟨q, hq⟩ : ∃ q, q = numAt (xs.drop k) := ⟨_, rfl⟩
  rw [← hq] at hn hn2 hor
  have d0 : decide ((k : Int) < 0) = false := by simp
  have d1 : decide (xs.length < k) = false := by simp; omega
  have d2 : ((k : Int) == (xs.length : Int)) = false := by simp; omega
  obtain ⟨m, hm7⟩ : ∃ m, m = (xs.drop k).length := ⟨_, rfl⟩
  have hm6 : 7 ≤ m := by omega
  have hm8 : m ≤ 9223372036854775807 := by omega
  have d3 : decide ((m : Int) < 7) = false := by simp; omega
  rw [← hm7] at hcut
  have hn3 : 8000 < q ∨ m < q + 7 := by omega
  have i1 : (1 : Int) < (m : Int) := by omega
  have i2 : (2 : Int) < (m : Int) := by omega
  have ww : IntKind.i64.wrap (b1 * 256) = b1 * 256 := by rw [IntKind.wrap_i64]; omega
  clear h hl hm7 h7 h00 h2 hrd hb1 hb2 hq hn
  rcases Nat.lt_or_ge 8000 q with h8 | h8
  · have d4 : decide ((8000 : Int) < (q : Int)) = true := by simp; omega
    clear hn3
    go_enter Try.func29, Try.ntmps29
    go_wp2
    go_quiet (fail)
    go_wp2
    go_ret3
    exact ⟨rfl, pw_below_drewN (Below.refl _ _) _⟩
  · have d4 : decide ((8000 : Int) < (q : Int)) = false := by simp; omega
    have d5 : decide ((m : Int) < (q : Int) + 7) = true := by simp; omega
    clear hn3
    go_enter Try.func29, Try.ntmps29
    go_wp2
    go_quiet (fail)
    go_wp2
    go_ret3
    exact ⟨rfl, pw_below_drewN (Below.refl _ _) _⟩
/-- The four bytes of a sum, as the code joins them. -/
def join4 (a b c d : Int) : Int := bits .or .u32 (bits .or .u32 (bits .or .u32 a (b * 256)) (c * 65536)) (d * 16777216)
theorem get_sum (h : kb.C w A xs.length xs) (hc : xs.length ≤ c) (k : Nat) (hk : k < xs.length) (hz : (by8 xs k == 0) = false) (h7 : 7 ≤ xs.length - k) (hmk : (by8 xs k != 197) = false)
    (hn : numAt (xs.drop k) ≤ 8000 ∧ numAt (xs.drop k) + 7 ≤ xs.length - k) (ts : List UInt8) (hts : ts = (xs.drop k).drop (3 + numAt (xs.drop k)))
    (hs : ((crc (((xs.drop k).take (3 + numAt (xs.drop k))).drop 1)).toNat : Int) ≠ join4 (by8 ts 0) (by8 ts 1) (by8 ts 2) (by8 ts 3)) :
    Calls Try.prog 29 #[.slice A xs.length c, .int .i64 k] w (NoGet w 171) := by
  have hm : xs.length ≤ 9223372036854775807 := h.2.1
  obtain ⟨A2, hcut, hrd, hc3⟩ := cut_lo A c xs k (by omega) hc
  have h2 := hrd _ h
  have hl0 : (xs.drop k).length = xs.length - k := by simp
  obtain ⟨A3, hcut3, hrd3, _⟩ := cut_mid A2 (c - k) (xs.drop k) 1 (3 + numAt (xs.drop k)) (by omega) (by omega) hc3
  obtain ⟨A4, hcut4, hrd4, _⟩ := cut_lo A2 (c - k) (xs.drop k) (3 + numAt (xs.drop k)) (by omega) hc3
  have h3 := hrd3 _ h2
  have h4 := hrd4 _ h2
  obtain ⟨us, hus⟩ : ∃ us, us = ((xs.drop k).take (3 + numAt (xs.drop k))).drop 1 := ⟨_, rfl⟩
  rw [← hus] at hcut3 h3 hs
  rw [← hts] at hcut4 h4
  have hl4 : 4 ≤ ts.length := by rw [hts]; simp; omega
  have hl5 : ts.length ≤ 9223372036854775807 := h4.2.1
  obtain ⟨ad, rfl, hcl⟩ := kb_get h k hk
  have hl : (xs.drop k).length = xs.length - k := by simp
  have hcutB := hcut
  obtain ⟨ad2, e1, hc2⟩ := kb_get0 h2 (by omega)
  subst e1
  obtain ⟨_, e1, hc21⟩ := kb_getL h2 1 (by omega) (by omega)
  cases e1
  obtain ⟨_, e1, hc22⟩ := kb_getL h2 2 (by omega) (by omega)
  cases e1
  have h00 : by8 (xs.drop k) 0 = by8 xs k := by simp [by8]
  rw [h00] at hc2
  have HN := Aside0.mk (or_num ((xs.drop k).getD 1 0) ((xs.drop k).getD 2 0))
  obtain ⟨b1, hb1⟩ : ∃ b1, b1 = by8 (xs.drop k) 1 := ⟨_, rfl⟩
  obtain ⟨b2, hb2⟩ : ∃ b2, b2 = by8 (xs.drop k) 2 := ⟨_, rfl⟩
  have l1 := by8_lo (xs.drop k) 1
  have l2 := by8_lo (xs.drop k) 2
  have u1 := by8_hi (xs.drop k) 1
  have u2 := by8_hi (xs.drop k) 2
  have hn2 := numAt_le (xs.drop k)
  have hor : bits .or .i64 (b1 * 256) b2 = (numAt (xs.drop k) : Int) := by rw [hb1, hb2]; exact HN.out
  rw [← hb1] at hc21 l1 u1
  rw [← hb2] at hc22 l2 u2
  obtain ⟨q, hq⟩ : ∃ q, q = numAt (xs.drop k) := ⟨_, rfl⟩
  rw [← hq] at hn hn2 hor hcut3 hcut4
  have hcut3' : ∀ W : World, (Instr.slice 22 (.slice (some ad2) (xs.drop k).length (c - k)) (some (.int .i64 1)) (some (.int .i64 (3 + (q : Int)))) none).run Try.prog W = .ok (.slice A3 us.length (c - k - 1)) W := by
    intro W; have := hcut3 W; rwa [Int.natCast_add] at this
  have hcut4' : ∀ W : World, (Instr.slice 22 (.slice (some ad2) (xs.drop k).length (c - k)) (some (.int .i64 (3 + (q : Int)))) none none).run Try.prog W = .ok (.slice A4 ts.length (c - k - (3 + q))) W := by
    intro W; have := hcut4 W; rwa [Int.natCast_add] at this
  clear hcut3 hcut4
  obtain ⟨ad4, rfl, hc40⟩ := kb_get0 h4 (by omega)
  obtain ⟨_, e1, hc41⟩ := kb_getL h4 1 (by omega) (by omega)
  cases e1
  obtain ⟨_, e1, hc42⟩ := kb_getL h4 2 (by omega) (by omega)
  cases e1
  obtain ⟨_, e1, hc43⟩ := kb_getL h4 3 (by omega) (by omega)
  cases e1
  have d0 : decide ((k : Int) < 0) = false := by simp
  have d1 : decide (xs.length < k) = false := by simp; omega
  have d2 : ((k : Int) == (xs.length : Int)) = false := by simp; omega
  obtain ⟨m, hm7⟩ : ∃ m, m = (xs.drop k).length := ⟨_, rfl⟩
  have hm6 : 7 ≤ m := by omega
  have hm8 : m ≤ 9223372036854775807 := by omega
  have d3 : decide ((m : Int) < 7) = false := by simp; omega
  rw [← hm7] at hcut
  rw [← hm7] at hcut3' hcut4'
  have i1 : (1 : Int) < (m : Int) := by omega
  have i2 : (2 : Int) < (m : Int) := by omega
  have ww : IntKind.i64.wrap (b1 * 256) = b1 * 256 := by rw [IntKind.wrap_i64]; omega
  have d4 : decide ((8000 : Int) < (q : Int)) = false := by simp; omega
  have d5 : decide ((m : Int) < (q : Int) + 7) = false := by simp; omega
  have ww3 : IntKind.i64.wrap (3 + (q : Int)) = 3 + (q : Int) := by rw [IntKind.wrap_i64]; omega
  have ww4 : wrap64 (3 + (q : Int)) = 3 + (q : Int) := by unfold wrap64; omega
  obtain ⟨t0, ht0⟩ : ∃ t, t = by8 ts 0 := ⟨_, rfl⟩
  obtain ⟨t1, ht1⟩ : ∃ t, t = by8 ts 1 := ⟨_, rfl⟩
  obtain ⟨t2, ht2⟩ : ∃ t, t = by8 ts 2 := ⟨_, rfl⟩
  obtain ⟨t3, ht3⟩ : ∃ t, t = by8 ts 3 := ⟨_, rfl⟩
  have lt0 := by8_lo ts 0
  have lt1 := by8_lo ts 1
  have lt2 := by8_lo ts 2
  have lt3 := by8_lo ts 3
  have ut0 := by8_hi ts 0
  have ut1 := by8_hi ts 1
  have ut2 := by8_hi ts 2
  have ut3 := by8_hi ts 3
  rw [← ht0] at lt0 ut0 hc40 hs
  rw [← ht1] at lt1 ut1 hc41 hs
  rw [← ht2] at lt2 ut2 hc42 hs
  rw [← ht3] at lt3 ut3 hc43 hs
  have hs2 : (((crc us).toNat : Int) != bits .or .u32 (bits .or .u32 (bits .or .u32 t0 (t1 * 256)) (t2 * 65536)) (t3 * 16777216)) = true := by
    rw [bne_iff_ne]; exact hs
  clear ht0 ht1 ht2 ht3
  have v1 : IntKind.u32.wrap (t1 * 256) = t1 * 256 := by rw [IntKind.wrap_u32]; omega
  have v2 : IntKind.u32.wrap (t2 * 65536) = t2 * 65536 := by rw [IntKind.wrap_u32]; omega
  have v3 : IntKind.u32.wrap (t3 * 16777216) = t3 * 16777216 := by rw [IntKind.wrap_u32]; omega
  have j0 : (0 : Int) < (ts.length : Int) := by omega
  have j1 : (1 : Int) < (ts.length : Int) := by omega
  have j2 : (2 : Int) < (ts.length : Int) := by omega
  have j3 : (3 : Int) < (ts.length : Int) := by omega
  have V1 := Lib.hid v1
  have V2 := Lib.hid v2
  have V3 := Lib.hid v3
  have HS := Lib.hid hs2
  clear v1 v2 v3 hs2
  have WW := Lib.hid ww
  have WW3 := Lib.hid ww3
  clear ww ww3 ww4
  have H3 := Aside0.mk h3
  clear h hl hm7 h7 h00 h2 h3 h4 hrd hrd3 hrd4 hcutB hb1 hb2 hq hn hs hus hts hl0
  go_enter Try.func29, Try.ntmps29
  go_wp2
  have ww := WW.out
  go_quiet (fail)
  clear ww
  go_wp2
  have ww3 := WW3.out
  go_quiet ((go_at_call 21; exact quiet2 (sum_calls us A3 _ _ (Kd.C_drewN H3.out _))))
  clear ww3
  go_wp2
  have v1 := V1.out
  have v2 := V2.out
  have v3 := V3.out
  have hs2 := HS.out
  go_quiet (fail)
  clear v1 v2 v3
  go_wp2
  go_ret3
  exact ⟨rfl, by repeat (first | exact Below.refl _ _ | apply pw_below_drewN)⟩
/-- What comes of a Get that gives a body. -/
def GotOne (w : World) (body : List UInt8) (next : Int) (e : Ending) (w' : World) : Prop := ∃ v, e = .returned (.tuple #[v, .int .i64 next, .int .i64 0]) ∧ OwnB w' w.heap.size v body ∧ Below w.heap.size w w'
set_option maxHeartbeats 1000000 in
theorem get_ok (h : kb.C w A xs.length xs) (hc : xs.length ≤ c) (k : Nat) (hk : k < xs.length) (hz : (by8 xs k == 0) = false) (h7 : 7 ≤ xs.length - k) (hmk : (by8 xs k != 197) = false)
    (hn : numAt (xs.drop k) ≤ 8000 ∧ numAt (xs.drop k) + 7 ≤ xs.length - k) (ts : List UInt8) (hts : ts = (xs.drop k).drop (3 + numAt (xs.drop k)))
    (hs : ((crc (((xs.drop k).take (3 + numAt (xs.drop k))).drop 1)).toNat : Int) = join4 (by8 ts 0) (by8 ts 1) (by8 ts 2) (by8 ts 3)) :
    Calls Try.prog 29 #[.slice A xs.length c, .int .i64 k] w (GotOne w (bodyAt (xs.drop k)) (k + numAt (xs.drop k) + 7)) := by
  have hm : xs.length ≤ 9223372036854775807 := h.2.1
  obtain ⟨A2, hcut, hrd, hc3⟩ := cut_lo A c xs k (by omega) hc
  have h2 := hrd _ h
  have hl0 : (xs.drop k).length = xs.length - k := by simp
  obtain ⟨A3, hcut3, hrd3, _⟩ := cut_mid A2 (c - k) (xs.drop k) 1 (3 + numAt (xs.drop k)) (by omega) (by omega) hc3
  obtain ⟨A4, hcut4, hrd4, _⟩ := cut_lo A2 (c - k) (xs.drop k) (3 + numAt (xs.drop k)) (by omega) hc3
  have h3 := hrd3 _ h2
  obtain ⟨A5, hcut5, hrd5, _⟩ := cut_mid A2 (c - k) (xs.drop k) 3 (3 + numAt (xs.drop k)) (by omega) (by omega) hc3
  have h5 := hrd5 _ h2
  have hbd : ((xs.drop k).take (3 + numAt (xs.drop k))).drop 3 = bodyAt (xs.drop k) := by unfold bodyAt; rw [List.drop_take]; congr 1; omega
  rw [hbd] at hcut5 h5
  have h4 := hrd4 _ h2
  obtain ⟨us, hus⟩ : ∃ us, us = ((xs.drop k).take (3 + numAt (xs.drop k))).drop 1 := ⟨_, rfl⟩
  rw [← hus] at hcut3 h3 hs
  rw [← hts] at hcut4 h4
  have hl4 : 4 ≤ ts.length := by rw [hts]; simp; omega
  have hl5 : ts.length ≤ 9223372036854775807 := h4.2.1
  obtain ⟨ad, rfl, hcl⟩ := kb_get h k hk
  have hl : (xs.drop k).length = xs.length - k := by simp
  have hcutB := hcut
  obtain ⟨ad2, e1, hc2⟩ := kb_get0 h2 (by omega)
  subst e1
  obtain ⟨_, e1, hc21⟩ := kb_getL h2 1 (by omega) (by omega)
  cases e1
  obtain ⟨_, e1, hc22⟩ := kb_getL h2 2 (by omega) (by omega)
  cases e1
  have h00 : by8 (xs.drop k) 0 = by8 xs k := by simp [by8]
  rw [h00] at hc2
  have HN := Aside0.mk (or_num ((xs.drop k).getD 1 0) ((xs.drop k).getD 2 0))
  obtain ⟨b1, hb1⟩ : ∃ b1, b1 = by8 (xs.drop k) 1 := ⟨_, rfl⟩
  obtain ⟨b2, hb2⟩ : ∃ b2, b2 = by8 (xs.drop k) 2 := ⟨_, rfl⟩
  have l1 := by8_lo (xs.drop k) 1
  have l2 := by8_lo (xs.drop k) 2
  have u1 := by8_hi (xs.drop k) 1
  have u2 := by8_hi (xs.drop k) 2
  have hn2 := numAt_le (xs.drop k)
  have hor : bits .or .i64 (b1 * 256) b2 = (numAt (xs.drop k) : Int) := by rw [hb1, hb2]; exact HN.out
  rw [← hb1] at hc21 l1 u1
  rw [← hb2] at hc22 l2 u2
  obtain ⟨q, hq⟩ : ∃ q, q = numAt (xs.drop k) := ⟨_, rfl⟩
  rw [← hq] at hn hn2 hor hcut3 hcut4 hcut5
  have hcut3' : ∀ W : World, (Instr.slice 22 (.slice (some ad2) (xs.drop k).length (c - k)) (some (.int .i64 1)) (some (.int .i64 (3 + (q : Int)))) none).run Try.prog W = .ok (.slice A3 us.length (c - k - 1)) W := by
    intro W; have := hcut3 W; rwa [Int.natCast_add] at this
  have hcut4' : ∀ W : World, (Instr.slice 22 (.slice (some ad2) (xs.drop k).length (c - k)) (some (.int .i64 (3 + (q : Int)))) none none).run Try.prog W = .ok (.slice A4 ts.length (c - k - (3 + q))) W := by
    intro W; have := hcut4 W; rwa [Int.natCast_add] at this
  have hcut5' : ∀ W : World, (Instr.slice 22 (.slice (some ad2) (xs.drop k).length (c - k)) (some (.int .i64 3)) (some (.int .i64 (3 + (q : Int)))) none).run Try.prog W = .ok (.slice A5 (bodyAt (xs.drop k)).length (c - k - 3)) W := by
    intro W; have := hcut5 W; rwa [Int.natCast_add] at this
  clear hcut3 hcut4 hcut5
  obtain ⟨ad4, rfl, hc40⟩ := kb_get0 h4 (by omega)
  obtain ⟨_, e1, hc41⟩ := kb_getL h4 1 (by omega) (by omega)
  cases e1
  obtain ⟨_, e1, hc42⟩ := kb_getL h4 2 (by omega) (by omega)
  cases e1
  obtain ⟨_, e1, hc43⟩ := kb_getL h4 3 (by omega) (by omega)
  cases e1
  have d0 : decide ((k : Int) < 0) = false := by simp
  have d1 : decide (xs.length < k) = false := by simp; omega
  have d2 : ((k : Int) == (xs.length : Int)) = false := by simp; omega
  obtain ⟨m, hm7⟩ : ∃ m, m = (xs.drop k).length := ⟨_, rfl⟩
  have hm6 : 7 ≤ m := by omega
  have hm8 : m ≤ 9223372036854775807 := by omega
  have d3 : decide ((m : Int) < 7) = false := by simp; omega
  rw [← hm7] at hcut
  rw [← hm7] at hcut3' hcut4' hcut5'
  obtain ⟨bs, hbs⟩ : ∃ bs, bs = bodyAt (xs.drop k) := ⟨_, rfl⟩
  rw [← hbs] at hcut5' h5 ⊢
  have hbl : bs.length ≤ 8000 := by rw [hbs]; unfold bodyAt; simp; omega
  have H5 := Aside0.mk h5
  rw [← hq]
  have hkq : k + q + 7 ≤ xs.length := by omega
  have i1 : (1 : Int) < (m : Int) := by omega
  have i2 : (2 : Int) < (m : Int) := by omega
  have ww : IntKind.i64.wrap (b1 * 256) = b1 * 256 := by rw [IntKind.wrap_i64]; omega
  have d4 : decide ((8000 : Int) < (q : Int)) = false := by simp; omega
  have d5 : decide ((m : Int) < (q : Int) + 7) = false := by simp; omega
  have ww3 : IntKind.i64.wrap (3 + (q : Int)) = 3 + (q : Int) := by rw [IntKind.wrap_i64]; omega
  have ww4 : wrap64 (3 + (q : Int)) = 3 + (q : Int) := by unfold wrap64; omega
  obtain ⟨t0, ht0⟩ : ∃ t, t = by8 ts 0 := ⟨_, rfl⟩
  obtain ⟨t1, ht1⟩ : ∃ t, t = by8 ts 1 := ⟨_, rfl⟩
  obtain ⟨t2, ht2⟩ : ∃ t, t = by8 ts 2 := ⟨_, rfl⟩
  obtain ⟨t3, ht3⟩ : ∃ t, t = by8 ts 3 := ⟨_, rfl⟩
  have lt0 := by8_lo ts 0
  have lt1 := by8_lo ts 1
  have lt2 := by8_lo ts 2
  have lt3 := by8_lo ts 3
  have ut0 := by8_hi ts 0
  have ut1 := by8_hi ts 1
  have ut2 := by8_hi ts 2
  have ut3 := by8_hi ts 3
  rw [← ht0] at lt0 ut0 hc40 hs
  rw [← ht1] at lt1 ut1 hc41 hs
  rw [← ht2] at lt2 ut2 hc42 hs
  rw [← ht3] at lt3 ut3 hc43 hs
  have hs2 : (((crc us).toNat : Int) != bits .or .u32 (bits .or .u32 (bits .or .u32 t0 (t1 * 256)) (t2 * 65536)) (t3 * 16777216)) = false := by
    rw [bne_eq_false_iff_eq]; exact hs
  clear ht0 ht1 ht2 ht3
  have v1 : IntKind.u32.wrap (t1 * 256) = t1 * 256 := by rw [IntKind.wrap_u32]; omega
  have v2 : IntKind.u32.wrap (t2 * 65536) = t2 * 65536 := by rw [IntKind.wrap_u32]; omega
  have v3 : IntKind.u32.wrap (t3 * 16777216) = t3 * 16777216 := by rw [IntKind.wrap_u32]; omega
  have j0 : (0 : Int) < (ts.length : Int) := by omega
  have j1 : (1 : Int) < (ts.length : Int) := by omega
  have j2 : (2 : Int) < (ts.length : Int) := by omega
  have j3 : (3 : Int) < (ts.length : Int) := by omega
  have V1 := Lib.hid v1
  have V2 := Lib.hid v2
  have V3 := Lib.hid v3
  have HS := Lib.hid hs2
  clear v1 v2 v3 hs2
  have WW := Lib.hid ww
  have WW3 := Lib.hid ww3
  clear ww ww3 ww4
  have H3 := Aside0.mk h3
  clear h hl hm7 h7 h00 h2 h3 h4 h5 hrd hrd3 hrd4 hrd5 hcutB hbd hbs hb1 hb2 hq hn hs hus hts hl0
  go_enter Try.func29, Try.ntmps29
  go_wp2
  have ww := WW.out
  go_quiet (fail)
  clear ww
  go_wp2
  have ww3 := WW3.out
  go_quiet ((go_at_call 21; exact quiet2 (sum_calls us A3 _ _ (Kd.C_drewN H3.out _))))
  clear ww3
  go_wp2
  have v1 := V1.out
  have v2 := V2.out
  have v3 := V3.out
  have hs2 := HS.out
  go_quiet (fail)
  clear v1 v2 v3
  go_wp2_with (first
    | (at_builtin; go_loud (refine app_bytes w.heap.size rfl (.tmp 95) (.tmp 99) rfl (.slice (some ⟨w.heap.size, 0, none⟩) 0 0) [] bs bs rfl A5 bs.length (c - k - 3) rfl rfl ?o1 ?r1 ?b1 ?l1 ?_; (case o1 => exact OwnB.lit _ w.heap.size [] _ rfl (Nat.le_refl _) (by simp)); (case r1 => repeat (first | exact H5.out | (with_reducible refine Kd.C_alloc ?_ _) | (with_reducible refine Kd.C_drewN ?_ _))); (case b1 => simp); (case l1 => simp; omega); intro v1 w1 ho1 hg1 hat1; have HB1 := Aside0.mk (show Below w.heap.size w w1 from (below_alloc (by repeat (first | exact Below.refl _ _ | apply pw_below_drewN)) _).grown hg1 (by simp) (fun k hk => by cases hk; exact Nat.le_refl _)); have HO1 := Aside0.mk ho1; clear ho1 hg1 hat1)))
  go_ret3
  exact ⟨_, rfl, HO1.out, HB1.out⟩
end
theorem or32 (x y i : Nat) (hy : y < 2 ^ i) (hx : x % 2 ^ i = 0) (hs : x + y < 2 ^ 32) : bits .or .u32 ((y : Nat) : Int) ((x : Nat) : Int) = ((y + x : Nat) : Int) := by
  have h := (bits_nat .u32 32 (by decide) (fun n h0 h1 => by rw [IntKind.wrap_u32]; omega) y x (by omega) (by omega)).2
  rw [h]; congr 1
  have hq : x = 2 ^ i * (x / 2 ^ i) := by have := Nat.div_add_mod x (2 ^ i); omega
  rw [Nat.or_comm, hq, ← Nat.two_pow_add_eq_or_of_lt hy (x / 2 ^ i), Nat.add_comm]
theorem join4_num (ts : List UInt8) : join4 (by8 ts 0) (by8 ts 1) (by8 ts 2) (by8 ts 3) = ((num4 ts : Nat) : Int) := by
  have h0 := (ts.getD 0 0).toNat_lt; have h1 := (ts.getD 1 0).toNat_lt; have h2 := (ts.getD 2 0).toNat_lt; have h3 := (ts.getD 3 0).toNat_lt
  unfold join4 by8 num4
  generalize (ts.getD 0 0).toNat = a at *
  generalize (ts.getD 1 0).toNat = b at *
  generalize (ts.getD 2 0).toNat = c at *
  generalize (ts.getD 3 0).toNat = d at *
  have e1 := or32 (b * 256) a 8 (by omega) (by omega) (by omega)
  have e2 := or32 (c * 65536) (a + b * 256) 16 (by omega) (by omega) (by omega)
  have e3 := or32 (d * 16777216) (a + b * 256 + c * 65536) 24 (by omega) (by omega) (by omega)
  rw [Int.natCast_mul] at e1 e2 e3
  rw [show ((b : Int) * 256) = (b : Int) * ((256 : Nat) : Int) from rfl, e1, show ((c : Int) * 65536) = (c : Int) * ((65536 : Nat) : Int) from rfl, e2, show ((d : Int) * 16777216) = (d : Int) * ((16777216 : Nat) : Int) from rfl, e3]
/-- What Get gives, for all it may be given. -/
def GetSays (w : World) (r : List UInt8 × Int × Int) (e : Ending) (w' : World) : Prop := ∃ v, e = .returned (.tuple #[v, .int .i64 r.2.1, .int .i64 r.2.2]) ∧ OwnB w' w.heap.size v r.1 ∧ Below w.heap.size w w'
theorem NoGet.says {w : World} {err : Int} {e : Ending} {w' : World} (h : NoGet w err e w') : GetSays w ([], 0, err) e w' := ⟨_, h.1, OwnB.nil _ _, h.2⟩
theorem GotOne.says {w : World} {b : List UInt8} {n : Int} {e : Ending} {w' : World} (h : GotOne w b n e w') : GetSays w (b, n, 0) e w' := h
theorem get_calls (xs : List UInt8) (A : Option Addr) (c : Nat) (w : World) (h : kb.C w A xs.length xs) (hc : xs.length ≤ c) (at_ : Int) :
    Calls Try.prog 29 #[.slice A xs.length c, .int .i64 at_] w (GetSays w (getS xs at_)) := by
  have hm : xs.length ≤ 9223372036854775807 := h.2.1
  unfold getS
  by_cases h0 : at_ < 0
  · rw [if_pos (.inl h0)]; exact (get_arg0 xs A c w hm at_ h0).mono (fun _ _ h => h.says)
  obtain ⟨k, rfl⟩ := Int.eq_ofNat_of_zero_le (Int.not_lt.1 h0)
  by_cases h1 : xs.length < k
  · rw [if_pos (.inr (by omega))]; exact (get_arg1 xs A c w hm k h1).mono (fun _ _ h => h.says)
  rw [if_neg (by omega)]
  by_cases h2 : k = xs.length
  · subst h2
    rw [if_pos (.inl rfl)]; exact (get_end xs A c w hm).mono (fun _ _ h => h.says)
  have hk : k < xs.length := by omega
  rw [Int.toNat_natCast]
  by_cases h3 : xs.getD k 0 = 0
  · rw [if_pos (.inr h3)]; exact (get_nought xs A c w h k hk (by unfold by8; rw [h3]; rfl)).mono (fun _ _ h => h.says)
  rw [if_neg (by rintro (h | h); omega; exact h3 h)]
  have hz : (by8 xs k == 0) = false := by
    rw [beq_eq_false_iff_ne]; unfold by8; intro h
    exact h3 (UInt8.toNat_inj.1 (by rw [UInt8.toNat_zero]; omega))
  have hl : (xs.drop k).length = xs.length - k := by simp
  have e0 : (xs.drop k).getD 0 0 = xs.getD k 0 := by simp
  by_cases h7 : xs.length - k < 7
  · rw [if_neg (by intro h; have := h.1; omega)]; exact (get_short xs A c w h hc k hk hz h7).mono (fun _ _ h => h.says)
  by_cases hmk : xs.getD k 0 = 0xc5
  · have hmk' : (by8 xs k != 197) = false := by rw [bne_eq_false_iff_eq]; unfold by8; rw [hmk]; rfl
    by_cases hn : 8000 < numAt (xs.drop k) ∨ xs.length - k < numAt (xs.drop k) + 7
    · rw [if_neg (by intro h; have h1 := h.2.2.1; have h2 := h.2.2.2.1; omega)]
      exact (get_size xs A c w h hc k hk hz (by omega) hmk' hn).mono (fun _ _ h => h.says)
    · have hi := isCrate_iff (xs.drop k) (by omega) (by rw [e0]; exact hmk) (by omega) (by omega)
      by_cases hs : (crc (((xs.drop k).take (3 + numAt (xs.drop k))).drop 1)).toNat = num4 ((xs.drop k).drop (3 + numAt (xs.drop k)))
      · rw [if_pos (hi.2 hs)]
        exact (get_ok xs A c w h hc k hk hz (by omega) hmk' (by omega) _ rfl (by rw [hs, join4_num])).mono (fun _ _ h => h.says)
      · rw [if_neg (fun h => hs (hi.1 h))]
        exact (get_sum xs A c w h hc k hk hz (by omega) hmk' (by omega) _ rfl (by rw [join4_num]; omega)).mono (fun _ _ h => h.says)
  · rw [if_neg (by intro h; have := h.2.1; rw [e0] at this; exact hmk this)]
    refine (get_mark xs A c w h hc k hk hz (by omega) ?_).mono (fun _ _ h => h.says)
    rw [bne_iff_ne]; unfold by8; intro h
    exact hmk (UInt8.toNat_inj.1 (by rw [show (197 : UInt8).toNat = 197 from rfl]; omega))
end Go.Proofs.Ytahaoakolgomdaa
