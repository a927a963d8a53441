/- The walk of the law CrateSums. -/
import Derived.Test.YtahaoakolgomdaaS13
import Derived.Test.YtahaoakolgomdaaM6
import Derived.StillTailTactics
import Derived.Deep.RegionWith
import Derived.Deep.RegionLaw
namespace Go.Proofs.Ytahaoakolgomdaa
open Go.RowKit Go.Proofs.YtahaoakolgomdaaW.PrintWords Go.Proofs.YtahaoakolgomdaaW.PrintLast Go.Proofs.YtahaoakolgomdaaW.PrintMore
set_option linter.unusedVariables false
set_option linter.unusedSimpArgs false

theorem mod_u (cut : Int) (N : Nat) (h0 : 0 < N) (hN : N ≤ 1000000) : ∃ kk : Nat, kk < N ∧ wrap64 ((IntKind.u64.wrap cut).tmod (N : Int)) = (kk : Int) := by
  have hw : IntKind.u64.wrap cut = cut % 18446744073709551616 := by simp [IntKind.wrap, IntKind.bits, IntKind.signed]
  have h1 : 0 ≤ IntKind.u64.wrap cut := by rw [hw]; omega
  rw [Int.tmod_eq_emod_of_nonneg h1]
  generalize IntKind.u64.wrap cut = u at *
  have h2 : 0 ≤ u % (N : Int) := Int.emod_nonneg _ (by omega)
  have h3 : u % (N : Int) < (N : Int) := Int.emod_lt_of_pos _ (by omega)
  refine ⟨(u % (N : Int)).toNat, by omega, ?_⟩
  unfold wrap64; omega
theorem nought_pos (M : Nat) : M = 0 ∨ (0 < M ∧ ((M : Int) == 0) = false) := by
  rcases Nat.eq_zero_or_pos M with h | h
  · exact .inl h
  · exact .inr ⟨h, by rw [beq_eq_false_iff_ne]; omega⟩
theorem flip_enc8 (xs : List UInt8) (k q : Nat) : Value.int .u8 (bits .xor .u8 (by8 xs k) ((2 : Int) ^ q % 256)) = enc8 (flip (xs.getD k 0) q) := by
  unfold enc8 flip by8
  rw [← bits_xor8, UInt8.toNat_ofNat']
  congr 2
/-- The q-th bit of the number by which a text is turned. -/
def byb (by_ : Int) (q : Nat) : Bool := by_ / 2 ^ q % 2 == 1
/-- What i turns have come to. -/
structure Turns (X Y : List UInt8) (f i : Nat) (by_ : Int) (was : Bool) : Prop where
  len : Y.length = X.length
  bit : ∀ j, bitAt Y j = (bitAt X j != (decide (f ≤ j ∧ j < f + i) && byb by_ (j - f)))
  was : was = true ↔ ∃ q, q < i ∧ byb by_ q = true
theorem Turns.start (X : List UInt8) (f : Nat) (by_ : Int) : Turns X X f 0 by_ false :=
  ⟨rfl, fun j => by rw [show decide (f ≤ j ∧ j < f + 0) = false by rw [decide_eq_false_iff_not]; omega]; simp, by simp⟩
theorem Turns.skip {X Y : List UInt8} {f i : Nat} {by_ : Int} {was : Bool} (h : Turns X Y f i by_ was) (hb : byb by_ i = false) : Turns X Y f (i + 1) by_ was := by
  refine ⟨h.len, fun j => ?_, ?_⟩
  · rw [h.bit j]
    by_cases e : j = f + i
    · subst e
      rw [show f + i - f = i by omega, hb]; simp
    · congr 2
      rw [Bool.eq_iff_iff, decide_eq_true_eq, decide_eq_true_eq]; omega
  · rw [h.was]
    constructor
    · rintro ⟨q, h1, h2⟩; exact ⟨q, by omega, h2⟩
    · rintro ⟨q, h1, h2⟩
      refine ⟨q, ?_, h2⟩
      rcases Nat.lt_or_ge q i with h3 | h3
      · exact h3
      · rw [show q = i by omega, hb] at h2; cases h2
theorem Turns.turn {X Y : List UInt8} {f i : Nat} {by_ : Int} {was : Bool} (h : Turns X Y f i by_ was) (hb : byb by_ i = true) (hp : f + i < 8 * X.length) : Turns X (flipAt Y (f + i)) f (i + 1) by_ true := by
  refine ⟨by rw [flipAt_length]; exact h.len, fun j => ?_, ?_⟩
  · rw [flipAt_bit Y (f + i) (by rw [h.len]; exact hp), h.bit j]
    by_cases e : j = f + i
    · subst e
      rw [show f + i - f = i by omega, hb, show decide (f ≤ f + i ∧ f + i < f + i) = false by rw [decide_eq_false_iff_not]; omega, show decide (f ≤ f + i ∧ f + i < f + (i + 1)) = true by rw [decide_eq_true_eq]; omega]
      simp
    · rw [show (f + i == j) = false by rw [beq_eq_false_iff_ne]; omega]
      rw [show decide (f ≤ j ∧ j < f + (i + 1)) = decide (f ≤ j ∧ j < f + i) by rw [Bool.eq_iff_iff, decide_eq_true_eq, decide_eq_true_eq]; omega]
      simp
  · simp; exact ⟨i, by omega, hb⟩
/-- Two sums just if something was turned. -/
theorem Turns.sums {X Y : List UInt8} {f i : Nat} {by_ : Int} {was : Bool} (h : Turns X Y f i by_ was) (hi : i ≤ 32) (hf : f + i ≤ 8 * X.length) : (((crc Y).toNat : Int) != ((crc X).toNat : Int)) = was := by
  cases hw : was with
  | false =>
    have hno : ∀ q, q < i → byb by_ q = false := fun q hq => by
      cases hb : byb by_ q with
      | false => rfl
      | true => have := h.was.2 ⟨q, hq, hb⟩; rw [hw] at this; cases this
    have : Y = X := by
      apply List.ext_getElem h.len
      intro k h1 h2
      apply UInt8.toNat_inj.1
      apply Nat.eq_of_testBit_eq
      intro b
      by_cases hb8 : b < 8
      · have := h.bit (8 * k + b)
        rw [bitAt_test, bitAt_test, show (8 * k + b) / 8 = k by omega, show (8 * k + b) % 8 = b by omega] at this
        have e : (decide (f ≤ 8 * k + b ∧ 8 * k + b < f + i) && byb by_ (8 * k + b - f)) = false := by
          by_cases hr : f ≤ 8 * k + b ∧ 8 * k + b < f + i
          · rw [hno (8 * k + b - f) (by omega)]; simp
          · rw [decide_eq_false hr]; rfl
        rw [e] at this
        simpa [h1, h2] using this
      · rw [Nat.testBit_lt_two_pow (Nat.lt_of_lt_of_le (Y[k]).toNat_lt (Nat.pow_le_pow_right (by decide) (by omega))), Nat.testBit_lt_two_pow (Nat.lt_of_lt_of_le (X[k]).toNat_lt (Nat.pow_le_pow_right (by decide) (by omega)))]
    rw [this]; simp
  | true =>
    obtain ⟨q, hq, hb⟩ := h.was.1 hw
    rw [bne_iff_ne]
    intro he
    have hc : crc Y = crc X := BitVec.eq_of_toNat_eq (by omega)
    refine crc_ne Y X h.len f i hi (by rw [h.len]; exact hf) ?_ ?_ ⟨f + q, by omega, by omega, ?_⟩ hc
    · intro j hj; rw [h.bit j, show decide (f ≤ j ∧ j < f + i) = false by rw [decide_eq_false_iff_not]; omega]; simp
    · intro j hj _; rw [h.bit j, show decide (f ≤ j ∧ j < f + i) = false by rw [decide_eq_false_iff_not]; omega]; simp
    · rw [h.bit (f + q), show f + q - f = q by omega, hb, show decide (f ≤ f + q ∧ f + q < f + i) = true by rw [decide_eq_true_eq]; omega]; simp
section
variable {ops : Array Oper} {Q : Exit → Act → World → Prop} {o : Oper} {a : Act}
/-- The same inside a region that draws its order. -/
theorem app_bytes_step {W : World} {Kc : Act → World → Prop} (base : Nat) (hw : Region.wanted o (yielded ops a.tmps) = true) (s x : Operand) (ho : o.op = .call { callee := .builtin .append, args := #[s, x], argTypes := #[22, 22] })
    (v : Value) (xs ys zs : List UInt8) (hz : xs ++ ys = zs) (A : Option Addr) (m c : Nat) (hs : a.eval s = v) (hx : a.eval x = .slice A m c)
    (HO : OwnB W base v xs) (HR : kb.C W A m ys) (hbase : base ≤ W.heap.size) (hl : xs.length + m ≤ 140737488355328)
    (h : ∀ v1 w1, OwnB w1 base v1 zs → W.grownBy w1 v.ownBlock → (v1.ownBlock = v.ownBlock ∨ ∃ b, v1.ownBlock = some b ∧ W.heap.size ≤ b) → Kc (a.put o.dst v1) w1) :
    if Region.wanted o (yielded ops a.tmps) = true then Oper.wp Try.prog o a W Kc Q else Kc (a.put o.dst undef) W := by
  refine Kd.R_append_rows_step kb (w0 := W) base hw s x 22 5 (.int .u8 0) 1 ho Try.underlying22 info5 rfl (by decide) (by omega) v xs ys A m c (fun _ => True) (fun _ => False) hs hx HO.r HR (fun _ _ h => h) (fun _ h => h.elim) (fun _ _ => trivial) (Below.refl _ _) hbase (by omega) ?_
  intro v1 w1 ho hb hg hat
  exact h v1 w1 (hz ▸ .of_r ho) hg hat
end
theorem sum_n (xs : List UInt8) (n : Nat) (hn : n = xs.length) (A : Option Addr) (c : Nat) (w : World) (h : kb.C w A xs.length xs) :
    Calls Try.prog 21 #[.slice A n c] w fun e w' => e = .returned (.int .u32 ((crc xs).toNat : Int)) ∧ w' = w := by
  subst hn
  exact sum_calls xs A c w h
theorem copy_s (xs : List UInt8) (n : Nat) (hn : n = xs.length) (A : Option Addr) (c : Nat) (w : World) (h : kb.C w A xs.length xs) (hl : n ≤ 1000000) :
    Calls Try.prog 35 #[.slice A n c] w fun e w' => ∃ A1 c1, e = .returned (.slice A1 n c1) ∧ OwnB w' w.heap.size (.slice A1 n c1) xs ∧ Below w.heap.size w w' := by
  subst hn
  refine (copy_calls xs A c w h (by omega)).mono ?_
  rintro e w' ⟨v, rfl, ho, hb⟩
  obtain ⟨A1, c1, rfl, _, _⟩ := ho.reads
  exact ⟨A1, c1, rfl, ho, hb⟩
theorem made_reads (W : World) (k : Nat) (hk : k ≤ 9000) : kb.C (W.alloc (.cells (madeCells #[.int .u8 0] k) 5)) (some ⟨W.heap.size, 0, none⟩) (List.replicate k (0 : UInt8)).length (List.replicate k 0) := by
  have h := own_made W W.heap.size 5 .u8 k (Nat.le_refl _) (by omega)
  have e : nums .u8 (List.replicate k 0) = encs enc8 (List.replicate k 0) := by
    simp [nums, encs, enc8]
  rw [e] at h
  have ho : OwnB (W.alloc (.cells (madeCells #[.int .u8 0] k) 5)) W.heap.size (.slice (some ⟨W.heap.size, 0, none⟩) k k) (List.replicate k 0) := by
    unfold OwnB; rw [List.length_replicate]; exact h
  exact ho.at_.2.2
theorem xor4 (a b c d : BitVec 32) (h : a ^^^ b ^^^ c ^^^ d = 0#32) : bits .xor .u32 (bits .xor .u32 (bits .xor .u32 (a.toNat : Int) (b.toNat : Int)) (c.toNat : Int)) (d.toNat : Int) = 0 := by
  rw [bits_xor32, bits_xor32, bits_xor32, h]; rfl
theorem minrun (a b : Nat) (W : World) : (Builtin.min_ #[3, 3] 3 #[.int .i64 (a : Int), .int .i64 (b : Int)]).run Try.prog W = .ok (.int .i64 (if (b : Int) < (a : Int) then (b : Int) else (a : Int))) W := by
  rw [min_two, min2_int]; rfl
theorem crateSums_long (xs ys : List UInt8) (A B : Option Addr) (c c' : Nat) (at_ by_ : Int) (w : World) (ma : xs.length ≤ 9223372036854775807) (mb : ys.length ≤ 9223372036854775807) (hn : 9000 < xs.length ∧ 9000 < ys.length) :
    Calls Try.prog 7 #[.slice A xs.length c, .slice B ys.length c', .int .i64 at_, .int .u32 by_] w fun e w' => e = .returned (.bool true) ∧ Below w.heap.size w w' := by
  obtain ⟨h1, h2⟩ := hn
  have hm2 := minrun xs.length ys.length
  rcases Nat.lt_or_ge ys.length xs.length with hl | hl
  · go_enter Try.func7, Try.ntmps7
    go_wp2_with (go_at_call 19; refine (known17_calls _).mono ?_; rintro e w1 ⟨rfl, hb⟩; have HB := Aside0.mk hb; clear hb)
    go_ret
    exact ⟨rfl, HB.out⟩
  · go_enter Try.func7, Try.ntmps7
    go_wp2_with (go_at_call 19; refine (known17_calls _).mono ?_; rintro e w1 ⟨rfl, hb⟩; have HB := Aside0.mk hb; clear hb)
    go_ret
    exact ⟨rfl, HB.out⟩
theorem xorL_snoc (xs ys : List UInt8) (k : Nat) (h1 : k < xs.length) (h2 : k < ys.length) : xorL (xs.take k) (ys.take k) ++ [xs.getD k 0 ^^^ ys.getD k 0] = xorL (xs.take (k + 1)) (ys.take (k + 1)) := by
  unfold xorL
  rw [List.take_succ_eq_append_getElem h1, List.take_succ_eq_append_getElem h2, List.zipWith_append (by rw [List.length_take, List.length_take]; omega)]
  simp [h1, h2]
theorem xorL_len (xs ys : List UInt8) (k : Nat) (h1 : k ≤ xs.length) (h2 : k ≤ ys.length) : (xorL (xs.take k) (ys.take k)).length = k := by
  simp [xorL]; omega
set_option maxHeartbeats 2000000 in
set_option maxRecDepth 100000 in
theorem crateSums_calls (xs ys : List UInt8) (A B : Option Addr) (c c' : Nat) (at_ by_ : Int) (w : World) (ka : kb.C w A xs.length xs) (k2 : kb.C w B ys.length ys) (hca : xs.length ≤ c) (hcb : ys.length ≤ c') (n : Nat) (hn : n ≤ 9000) (hna : n ≤ xs.length) (hnb : n ≤ ys.length)
    (hby0 : 0 ≤ by_) (hby1 : by_ ≤ 4294967295) (hmin : (if (ys.length : Int) < (xs.length : Int) then (ys.length : Int) else (xs.length : Int)) = (n : Int)) :
    Calls Try.prog 7 #[.slice A xs.length c, .slice B ys.length c', .int .i64 at_, .int .u32 by_] w fun e w' => e = .returned (.bool true) ∧ Below w.heap.size w w' := by
  have KA := Aside0.mk ka
  have KB := Aside0.mk k2
  have ma : xs.length ≤ 9223372036854775807 := ka.2.1
  have mb : ys.length ≤ 9223372036854775807 := k2.2.1
  have cutA : ∀ W : World, (Instr.slice 22 (.slice A xs.length c) none (some (.int .i64 (n : Int))) none).run Try.prog W = .ok (.slice A n c) W := cut_room A xs.length c n (by omega)
  have cutB : ∀ W : World, (Instr.slice 22 (.slice B ys.length c') none (some (.int .i64 (n : Int))) none).run Try.prog W = .ok (.slice B n c') W := cut_room B ys.length c' n (by omega)
  have HNA := Lib.hid (show n = (xs.take n).length by rw [List.length_take]; omega)
  have HNB := Lib.hid (show n = (ys.take n).length by rw [List.length_take]; omega)
  have hm2 : ∀ W : World, (Builtin.min_ #[3, 3] 3 #[.int .i64 (xs.length : Int), .int .i64 (ys.length : Int)]).run Try.prog W = .ok (.int .i64 (n : Int)) W := fun W => by rw [minrun, hmin]
  clear ka k2 hmin
  go_enter Try.func7, Try.ntmps7
  go_wp2
  go_loopw [10, 11] (fun v i wr => ∃ (k : Nat) (A1 : Option Addr) (c1 : Nat), i = .int .i64 k ∧ k ≤ n ∧ v = .slice A1 k c1 ∧ Aside0 (OwnB wr w.heap.size v (xorL (xs.take k) (ys.take k))) ∧ Aside0 (Below w.heap.size w wr)) (fun _ i _ => n - (intOf i).toNat)
  case atStart => exact ⟨0, none, 0, rfl, Nat.zero_le _, rfl, ⟨OwnB.nil _ _⟩, ⟨Below.refl _ _⟩⟩
  case round =>
    obtain ⟨k, A1, c1, rfl, hk, rfl, HO, HB⟩ := hrel
    by_cases hlt : k < n
    · obtain ⟨ad, rfl, k1⟩ := kb_get (Kd.C_below KA.out HB.out) k (by omega)
      obtain ⟨bd, rfl, k2⟩ := kb_get (Kd.C_below KB.out HB.out) k (by omega)
      have HX := Aside0.mk (xorL_snoc xs ys k (by omega) (by omega))
      have HXE := Aside0.mk (show [Value.int .u8 (bits .xor .u8 (by8 xs k) (by8 ys k))] = encs enc8 [xs.getD k 0 ^^^ ys.getD k 0] by
        show _ = [enc8 _]; unfold enc8 by8; rw [bits_xor8])
      have i1 : (k : Int) < (xs.length : Int) := by omega
      have i2 : (k : Int) < (ys.length : Int) := by omega
      have HLN := Lib.hid (xorL_len xs ys (k + 1) (by omega) (by omega))
      have HLK := Lib.hid (xorL_len xs ys k (by omega) (by omega))
      go_wp2
      go_region_law ((refine app_bytes_step (W := (wr.drew).alloc (.cells #[.int .u8 (bits .xor .u8 (by8 xs k) (by8 ys k))] 5)) w.heap.size rfl (.tmp 29) (.tmp 39) rfl (.slice A1 k c1) (xorL (xs.take k) (ys.take k)) [xs.getD k 0 ^^^ ys.getD k 0] _ HX.out (some ⟨wr.heap.size, 0, none⟩) 1 1 (by simp [Act.eval, Act.put]) (by simp [Act.eval, Act.put]) (HO.out.below (below_alloc (below_drew (Below.refl _ _)) _)) (lit_reads wr.drew _ _ HXE.out (by simp)) (Nat.le_trans HB.out.size (below_alloc (below_drew (Below.refl _ _)) _).size) (by rw [HLK.out]; simp; omega) ?_; intro v4 w4 ho4 hg4 hat4))
      all_goals (have HB4 := Aside0.mk (own_step (below_alloc (below_drew HB.out) _) hg4 (fun q hq => HO.out.base_le q hq)); obtain ⟨A4, c4, rfl, _, _⟩ := ho4.reads; rw [HLN.out] at ho4; have HO4 := Aside0.mk ho4; have HE4 := HLN.out; clear ho4 hg4 hat4)
      all_goals (rw [HE4]; clear HE4)
      go_wp2
      all_goals (refine ⟨⟨k + 1, A4, c4, by go_num, by omega, rfl, HO4, HB4⟩, by simp [intOf]; omega⟩)
    · have hkn : k = n := by omega
      subst hkn
      have HR := Aside0.mk (Kd.C_below (kb_take KA.out k hna) HB.out)
      have HR2 := Aside0.mk (Kd.C_below (kb_take KB.out k hnb) HB.out)
      have hmk := print_make (P := Try.prog) 22 5 .u8 1 Try.underlying22 info5 (by omega) k (by omega)
      have HXL := Lib.hid (xorL_len xs ys k hna hnb)
      have hx4 := xor4 _ _ _ _ (four_sums (xs.take k) (ys.take k) (by rw [← HNA.out, ← HNB.out]))
      rw [← HNA.out] at hx4
      obtain ⟨X, hX⟩ : ∃ X, X = xorL (xs.take k) (ys.take k) := ⟨_, rfl⟩
      rw [← hX] at hx4 HO HXL
      have HXL' := Lib.hid HXL.out.symm
      clear hX HXL
      go_upto_region 9 with fail
      go_cut [57] (fun s wx => s = .bool false ∧ Aside0 (Below w.heap.size w wx))
      case first =>
        go_region_with (first
          | (go_at_call 21; (with_reducible refine (sum_n (xs.take k) k HNA.out A c _ ?rd).mono ?_); (case rd => repeat (first | exact HR.out | (with_reducible refine Kd.C_alloc ?_ _) | (with_reducible refine Kd.C_drew ?_))); rintro e w' ⟨rfl, hw⟩; obtain rfl := hw.symm; clear hw)
          | (go_at_call 21; (with_reducible refine (sum_n (ys.take k) k HNB.out B c' _ ?rd).mono ?_); (case rd => repeat (first | exact HR2.out | (with_reducible refine Kd.C_alloc ?_ _) | (with_reducible refine Kd.C_drew ?_))); rintro e w' ⟨rfl, hw⟩; obtain rfl := hw.symm; clear hw)
          | (go_at_call 21; (with_reducible refine (sum_n X k HXL'.out A1 c1 _ ?rd).mono ?_); (case rd => repeat (first | exact HO.out.at_.2.2 | (with_reducible refine Kd.C_alloc ?_ _) | (with_reducible refine Kd.C_drew ?_))); rintro e w' ⟨rfl, hw⟩; obtain rfl := hw.symm; clear hw)
          | (go_at_call 21; refine (sum_n (List.replicate k 0) k (by simp) (some ⟨wr.heap.size, 0, none⟩) k _ ?rd).mono ?_; (case rd => repeat (first | exact made_reads wr k hn | (with_reducible refine Kd.C_drew ?_))); rintro e w' ⟨rfl, hw⟩; obtain rfl := hw.symm; clear hw))
        all_goals (go_wp2_with fail; go_meet; exact ⟨by first | rfl | simp, ⟨by repeat (first | exact HB.out | apply below_drew | apply below_alloc)⟩⟩)
      case rest =>
        obtain ⟨rfl, HB2⟩ := hcut
        clear HR HR2 HO HB HXL' hx4 hmk
        rcases nought_pos k with hk0 | ⟨hk0, hz⟩
        · clear cutA cutB
          go_wp2_with (go_at_call 19; refine (known17_calls _).mono ?_; rintro e w7 ⟨rfl, hb⟩; have HB7 := Aside0.mk (below_then HB2.out HB2.out.size hb); clear hb)
          go_ret
          exact ⟨rfl, HB7.out⟩
        · obtain ⟨f, hf, ef⟩ := mod_u at_ (8 * k) (by omega) (by omega)
          rw [Int.natCast_mul] at ef
          have ef' : wrap64 ((IntKind.u64.wrap at_).tmod (8 * (k : Int))) = (f : Int) := ef
          clear ef
          have HSX := Aside0.mk (fun (W : World) hW => sum_n (xs.take k) k HNA.out A c W hW)
          go_wp2_with (go_at_call 35; refine (copy_s (xs.take k) k HNA.out A c _ (Kd.C_below (kb_take KA.out k hna) HB2.out) (by omega)).mono ?_; rintro e w3 ⟨A3, c3, rfl, ho3, hb3⟩; have HO3 := Aside0.mk (ho3.lower HB2.out.size); have HB3 := Aside0.mk (below_then HB2.out HB2.out.size hb3); clear ho3 hb3)
          rw [ef']
          clear cutB HNB KB HB2 ef'
          obtain ⟨g, q1, hgb, cur, hcur, hx0, hx1, hx2⟩ := HO3.out.form (by rw [← HNA.out]; omega)
          subst q1
          clear hcur cur hx2 hx0
          go_loopw [13, 15] (fun wv iv wr => ∃ (i : Nat) (Y : List UInt8) (was : Bool), wv = .bool was ∧ iv = .int .i64 i ∧ i ≤ 32 ∧ f + i ≤ 8 * k ∧ Aside0 (OwnB wr w.heap.size (.slice (some ⟨g, 0, none⟩) k c3) Y) ∧ Aside0 (Turns (xs.take k) Y f i by_ was) ∧ Aside0 (Below w.heap.size w wr)) (fun _ i _ => 32 - (intOf i).toNat)
          case atStart => exact ⟨0, xs.take k, false, rfl, rfl, by omega, by omega, HO3, ⟨Turns.start _ _ _⟩, HB3⟩
          case round =>
            clear HO3 HB3
            obtain ⟨i, Y, was, rfl, rfl, hi, hfi, HO, HT, HB⟩ := hrel
            by_cases hgo : i < 32 ∧ f + i < 8 * k
            · obtain ⟨hi32, hfi8⟩ := hgo
              have d1 : (i : Int) < 32 := by omega
              have d2 : (f : Int) + (i : Int) < 8 * (k : Int) := by omega
              have hb : ((by_ / 2 ^ i).tmod 2 == 1) = byb by_ i := by
                unfold byb
                rw [Int.tmod_eq_emod_of_nonneg (Int.ediv_nonneg hby0 (Int.le_of_lt (Int.pow_pos (by decide))))]
              have HS := Aside0.mk HO.out.at_.1
              cases hbb : byb by_ i with
              | false =>
                have HT' := Aside0.mk (HT.out.skip hbb)
                rw [hbb] at hb
                go_wp2
                exact ⟨⟨i + 1, Y, was, rfl, by go_num, by omega, by omega, HO, HT', HB⟩, by simp [intOf]; omega⟩
              | true =>
                rw [hbb] at hb
                have HT' := Aside0.mk (HT.out.turn hbb (by rw [← HNA.out]; exact hfi8))
                have hp8 : (f + i) / 8 < k := by omega
                obtain ⟨_, q1, k1⟩ := kb_get HO.out.at_.2.2 ((f + i) / 8) (by rw [← HS.out]; exact hp8)
                cases q1
                rw [add_plain] at k1
                obtain ⟨_, q2, _, cur, hcur, _, _, _, _⟩ := HO.out.form (by rw [← HS.out]; omega)
                cases q2
                have k2 : wr.frozen? ⟨g, (f + i) / 8, none⟩ = false := blk_frozen hcur _
                clear hcur
                have l1 := by8_lo Y ((f + i) / 8)
                have l2 := by8_hi Y ((f + i) / 8)
                have i1 : (((f + i) / 8 : Nat) : Int) < (k : Int) := by omega
                go_wp2
                have HS2 : OwnB (wr.setCell ⟨g, (f + i) / 8, none⟩ (enc8 (flip (Y.getD ((f + i) / 8) 0) ((f + i) % 8)))) w.heap.size (.slice (some ⟨g, 0, none⟩) k c3) (flipAt Y (f + i)) := OwnB.set_ (k := (f + i) / 8) HO.out hp8 (flip (Y.getD ((f + i) / 8) 0) ((f + i) % 8))
                rw [← flip_enc8] at HS2
                refine ⟨⟨i + 1, flipAt Y (f + i), true, rfl, by go_num, by omega, by omega, ⟨HS2⟩, HT', ⟨HB.out.setCell (p := ⟨g, (f + i) / 8, none⟩) hgb _⟩⟩, by simp [intOf]; omega⟩
            · have HSY := Aside0.mk HO.out.at_.2.2
              have HSN := Lib.hid HO.out.at_.1
              have HTS := Aside0.mk (HT.out.sums hi (by rw [← HNA.out]; exact hfi))
              obtain ⟨sy, hsy⟩ : ∃ sy : Int, sy = ((crc Y).toNat : Int) := ⟨_, rfl⟩
              obtain ⟨sx, hsx⟩ : ∃ sx : Int, sx = ((crc (xs.take k)).toNat : Int) := ⟨_, rfl⟩
              have HTS := HTS.out
              rw [← hsy, ← hsx] at HTS
              have CY := Aside0.mk (fun (W : World) hW => sum_n Y k HSN.out (some ⟨g, 0, none⟩) c3 W hW)
              rw [← hsy] at CY
              rw [← hsx] at HSX
              clear hsy hsx
              have hx : ¬ ((i : Int) < 32) ∨ ((i : Int) < 32 ∧ ¬ ((f : Int) + (i : Int) < 8 * (k : Int))) := by omega
              have KA2 := Aside0.mk (Kd.C_below (kb_take KA.out k hna) HB.out)
              clear hgo HT
              have hdw : ((sy != sx) == was) = true := by rw [HTS]; simp
              clear HTS
              rcases hx with d1 | ⟨d1, d2⟩
              all_goals go_upto_region 22 with fail
              all_goals (go_region_with (first
                | (go_at_call 21; (with_reducible refine (CY.out _ ?rd).mono ?_); (case rd => repeat (first | exact HSY.out | (with_reducible refine Kd.C_drew ?_))); rintro e w' ⟨rfl, hw⟩; obtain rfl := hw.symm; clear hw)
                | (go_at_call 21; (with_reducible refine (HSX.out _ ?rd).mono ?_); (case rd => repeat (first | exact KA2.out | (with_reducible refine Kd.C_drew ?_))); rintro e w' ⟨rfl, hw⟩; obtain rfl := hw.symm; clear hw)
                | (go_at_call 19; refine (known17_calls _).mono ?_; rintro e w7 ⟨rfl, hb⟩; have HB7 := Aside0.mk (below_then (by repeat (first | exact HB.out | apply below_drew)) (by exact (by repeat (first | exact HB.out | apply below_drew) : Below w.heap.size w _).size) hb); clear hb)))
              all_goals (go_wp2_with fail; go_ret; exact ⟨rfl, HB7.out⟩)
theorem crateSums_walk (w : World) (xs : List UInt8) (A : Option Addr) (c : Nat) (ka : kb.C w A xs.length xs) (hca : xs.length ≤ c) (_ : xs.length ≤ 140737488351232) (ys : List UInt8) (B : Option Addr) (c' : Nat) (k2 : kb.C w B ys.length ys) (hcb : ys.length ≤ c') (_ : ys.length ≤ 140737488351232)
    (at_ : Int) (_ : (Lit.int .i64 at_).wf = true) (by_ : Int) (hby : (Lit.int .u32 by_).wf = true) :
    Calls Try.prog 7 #[.slice A xs.length c, .slice B ys.length c', .int .i64 at_, .int .u32 by_] w fun e w' => e = .returned (.bool true) ∧ Below w.heap.size w w' := by
  by_cases hn : 9000 < xs.length ∧ 9000 < ys.length
  · exact crateSums_long xs ys A B c c' at_ by_ w ka.2.1 k2.2.1 hn
  · have hb : 0 ≤ by_ ∧ by_ ≤ 4294967295 := by
      simp [Lit.wf, IntKind.min, IntKind.max, IntKind.wrap, IntKind.bits, IntKind.signed] at hby
      omega
    rcases Nat.lt_or_ge ys.length xs.length with hl | hl
    · exact crateSums_calls xs ys A B c c' at_ by_ w ka k2 hca hcb ys.length (by omega) (by omega) (by omega) hb.1 hb.2 (by rw [if_pos (by omega)])
    · exact crateSums_calls xs ys A B c c' at_ by_ w ka k2 hca hcb xs.length (by omega) (by omega) (by omega) hb.1 hb.2 (by rw [if_neg (by omega)])
end Go.Proofs.Ytahaoakolgomdaa
