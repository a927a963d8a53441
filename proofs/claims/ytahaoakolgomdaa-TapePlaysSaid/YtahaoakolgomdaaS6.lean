/- The walk of gangerref17.Sum: a register of bits in an array. -/
import Derived.Test.YtahaoakolgomdaaW0
import Derived.Test.YtahaoakolgomdaaM2
import Derived.StillTailTactics
namespace Go.Proofs.Ytahaoakolgomdaa
open Go.RowKit Go.Proofs.YtahaoakolgomdaaW.PrintWords Go.Proofs.YtahaoakolgomdaaW.PrintLast Go.Proofs.YtahaoakolgomdaaW.PrintMore
set_option linter.unusedVariables false
set_option linter.unusedSimpArgs false

def bitsA (f : Nat → Bool) : Array Value := ((List.range 32).map fun i => Value.bool (f i)).toArray
/-- The register's bits. -/
def RegAt (w : World) (g : Nat) (f : Nat → Bool) : Prop := w.heap[g]? = some (.cells (bitsA f) 97 (0, 0))
def upd (f : Nat → Bool) (i : Nat) (b : Bool) : Nat → Bool := fun j => if j = i then b else f j
section
variable {w w1 : World} {g : Nat} {f f' : Nat → Bool}
theorem RegAt.congr (h : RegAt w g f) (hf : ∀ i, i < 32 → f i = f' i) : RegAt w g f' := by
  have : bitsA f = bitsA f' := by
    unfold bitsA; congr 1
    apply List.map_congr_left; intro i hi; rw [hf i (List.mem_range.1 hi)]
  unfold RegAt; rw [← this]; exact h
theorem RegAt.set_ (h : RegAt w g f) (i : Nat) (b : Bool) : RegAt (w.setCell ⟨g, i, none⟩ (.bool b)) g (upd f i b) := by
  have := blk_set h i (.bool b)
  unfold RegAt; rw [this]; congr 2
  unfold bitsA upd
  apply Array.ext'
  rw [Array.toList_setIfInBounds]
  apply List.ext_getElem
  · simp
  · intro j h1 h2
    simp only [List.getElem_set, List.getElem_map, List.getElem_range]
    by_cases e : i = j
    · subst e; simp
    · rw [if_neg e, if_neg (fun h => e h.symm)]
theorem RegAt.cell (h : RegAt w g f) (i : Nat) (hi : i < 32) : w.cell? ⟨g, i, none⟩ = some (.bool (f i)) := by
  rw [blk_cell h]; unfold bitsA; simp [hi]
theorem RegAt.frozen (h : RegAt w g f) (i : Nat) : w.frozen? ⟨g, i, none⟩ = false := blk_frozen h i
theorem RegAt.below (h : RegAt w g f) (hb : Below w.heap.size w w1) : RegAt w1 g f := blk_below h hb
end
def tap (k : Nat) : Nat := taps.getD k 0
theorem tap_lt (k : Nat) : tap k < 32 := by
  unfold tap
  by_cases h : k < 17
  · have : ∀ k : Fin 17, taps.getD k.val 0 < 32 := by decide
    exact this ⟨k, h⟩
  · rw [List.getD_eq_getElem?_getD, List.getElem?_eq_none (by simp [taps]; omega)]; decide
def TapsAt (w : World) (g : Nat) : Prop := w.heap[g]? = some (.cells ((taps.map fun (t : Nat) => Value.int .i64 (t : Int)).toArray) 3 (0, 0))
theorem TapsAt.far {w : World} {g : Nat} (h : TapsAt w g) (b i : Nat) (u : Value) (hne : b < g) : TapsAt (w.setCell ⟨b, i, none⟩ u) g := blk_far h (by simp; omega) u
theorem TapsAt.cell {w : World} {g : Nat} (h : TapsAt w g) (k : Nat) (hk : k < 17) : w.cell? ⟨g, k, none⟩ = some (.int .i64 (tap k : Int)) := by
  rw [blk_cell h, List.getElem?_toArray, List.getElem?_map]
  have : taps[k]? = some (tap k) := by unfold tap; rw [List.getElem?_eq_getElem (by simpa [taps] using hk)]; simp [taps, hk]
  rw [this]; rfl

/-- Behind j places that were shifted. -/
def shf (xs : List UInt8) (k j : Nat) : Nat → Bool := fun t => if t < j then rb xs k (t + 1) else rb xs k t
/-- Behind t taps. -/
def tpf (xs : List UInt8) (k : Nat) (o : Bool) (t : Nat) : Nat → Bool := fun q => (if q < 31 then rb xs k (q + 1) else false) != (o && (taps.take t).contains q)
theorem shf_step (xs : List UInt8) (k j q : Nat) : upd (shf xs k j) j (rb xs k (j + 1)) q = shf xs k (j + 1) q := by
  unfold upd shf
  by_cases e : q = j
  · subst e; rw [if_pos rfl, if_pos (by omega)]
  · rw [if_neg e]
    by_cases e2 : q < j
    · rw [if_pos e2, if_pos (by omega)]
    · rw [if_neg e2, if_neg (by omega)]
theorem shf_end (xs : List UInt8) (k : Nat) (o : Bool) (q : Nat) (hq : q < 32) : upd (shf xs k 31) 31 false q = tpf xs k o 0 q := by
  unfold upd shf tpf
  by_cases e : q = 31
  · subst e; simp
  · rw [if_neg e, if_pos (by omega), if_pos (by omega)]; simp
theorem taps_take (t : Nat) (ht : t < 17) (q : Nat) : (taps.take (t + 1)).contains q = ((taps.take t).contains q != (q == tap t)) := by
  have h : taps.take (t + 1) = taps.take t ++ [tap t] := by
    rw [List.take_succ_eq_append_getElem (by simpa [taps] using ht)]; simp [tap, taps, ht]
  have hn : ∀ t : Fin 17, (taps.take t.val).contains (tap t.val) = false := by decide
  rw [h]
  by_cases e : q = tap t
  · subst e
    have := hn ⟨t, ht⟩
    simp only at this
    simp [List.contains_eq_mem] at this ⊢
    exact this
  · have e2 : (q == tap t) = false := beq_eq_false_iff_ne.mpr e
    rw [e2]; simp [List.contains_eq_mem, e]
theorem tpf_step (xs : List UInt8) (k t : Nat) (ht : t < 17) (q : Nat) : upd (tpf xs k true t) (tap t) (!tpf xs k true t (tap t)) q = tpf xs k true (t + 1) q := by
  unfold upd
  by_cases e : q = tap t
  · rw [if_pos e]; subst e
    unfold tpf
    rw [taps_take t ht]
    simp
  · rw [if_neg e]
    unfold tpf
    have e2 : (q == tap t) = false := beq_eq_false_iff_ne.mpr e
    rw [taps_take t ht, e2]
    simp
theorem tpf_end (xs : List UInt8) (k t : Nat) (o : Bool) (ho : (rb xs k 0 == bitAt xs k) = !o) (h : t = 17 ∨ o = false) (q : Nat) (hq : q < 32) : tpf xs k o t q = rb xs (k + 1) q := by
  rw [rb_next xs k q hq o ho]
  unfold tpf
  rcases h with h | h
  · subst h; rfl
  · subst h; simp
theorem shf_start (xs : List UInt8) (k q : Nat) : rb xs k q = shf xs k 0 q := by unfold shf; simp
/-- The sum's bits from the q-th on. -/
def Nn (xs : List UInt8) (q : Nat) : Int := (((crc xs).toNat / 2 ^ q : Nat) : Int)
theorem Nn_32 (xs : List UInt8) : Nn xs 32 = 0 := by
  unfold Nn; rw [Nat.div_eq_of_lt (crc xs).isLt]; rfl
theorem Nn_0 (xs : List UInt8) : Nn xs 0 = ((crc xs).toNat : Int) := by unfold Nn; simp
theorem Nn_lo (xs : List UInt8) (q : Nat) : 0 ≤ Nn xs q := Int.natCast_nonneg _
theorem Nn_hi (xs : List UInt8) (q : Nat) : Nn xs (q + 1) ≤ 2147483647 := by
  unfold Nn
  have h := (crc xs).isLt
  have : (crc xs).toNat / 2 ^ (q + 1) ≤ (crc xs).toNat / 2 := by
    rw [Nat.pow_succ, Nat.mul_comm, ← Nat.div_div_eq_div_mul]
    exact Nat.div_le_self _ _
  omega
theorem Nn_step (xs : List UInt8) (q : Nat) (hq : q < 32) : Nn xs q = Nn xs (q + 1) * 2 + (if rb xs (8 * xs.length) q then 0 else 1) := by
  have hb : (crc xs).getLsbD q = !(rb xs (8 * xs.length) q) := by
    unfold rb; rw [regI_all]; unfold crc; rw [BitVec.getLsbD_not]; simp [hq]
  rw [BitVec.getLsbD, Nat.testBit_eq_decide_div_mod_eq] at hb
  unfold Nn
  have h2 : (crc xs).toNat / 2 ^ (q + 1) = (crc xs).toNat / 2 ^ q / 2 := by rw [Nat.pow_succ, Nat.div_div_eq_div_mul]
  rw [h2]
  clear h2
  generalize (crc xs).toNat / 2 ^ q = z at *
  cases hr : rb xs (8 * xs.length) q
  · rw [hr] at hb
    have : z % 2 = 1 := of_decide_eq_true hb
    simp; omega
  · rw [hr] at hb
    have : ¬ z % 2 = 1 := of_decide_eq_false hb
    simp; omega
set_option maxHeartbeats 2000000 in
set_option maxRecDepth 100000 in
theorem rsum_calls (xs : List UInt8) (A : Option Addr) (c : Nat) (w : World) (h : kb.C w A xs.length xs) (hl : xs.length ≤ 1000000) :
    Calls Try.prog 26 #[.slice A xs.length c] w fun e w' => e = .returned (.int .u32 ((crc xs).toNat : Int)) ∧ Below w.heap.size w w' := by
  have H := Aside0.mk h
  clear h
  go_enter Try.func26, Try.ntmps26
  go_wp2
  go_loopw [4] (fun i wr => ∃ k : Nat, i = .int .i64 k ∧ k ≤ 32 ∧ Aside0 (RegAt wr w.heap.size (fun j => decide (j < k))) ∧ Aside0 (Below w.heap.size w wr)) (fun i _ => 32 - (intOf i).toNat)
  case atStart => exact ⟨0, rfl, by omega, ⟨blk_new _ _⟩, ⟨below_alloc (Below.refl _ _) _⟩⟩
  case round =>
    obtain ⟨k, rfl, hk, HR, HB⟩ := hrel
    by_cases hlt : k < 32
    · have h1 := HR.out.cell k hlt
      have h2 := HR.out.frozen k
      have HS := Aside0.mk (HR.out.set_ k true)
      go_wp2
      go_roundw
      case rel => exact ⟨k + 1, by go_num, by omega, ⟨HS.out.congr (fun j hj => by unfold upd; by_cases e : j = k <;> simp [e]; omega)⟩, ⟨HB.out.setCell (Nat.le_refl _) _⟩⟩
      case measure => simp [intOf]; omega
    · have e32 : k = 32 := by omega
      subst e32
      rw [show ((32 : Nat) : Int) = 32 from rfl]
      go_wp2
      obtain ⟨wo, rfl⟩ : ∃ wo : World, wo = wr := ⟨_, rfl⟩
      have HT := Aside0.mk (show TapsAt (wo.alloc (.cells #[.int .i64 31, .int .i64 25, .int .i64 23, .int .i64 22, .int .i64 21, .int .i64 20, .int .i64 18, .int .i64 17, .int .i64 13, .int .i64 12, .int .i64 11, .int .i64 9, .int .i64 8, .int .i64 6, .int .i64 5, .int .i64 4, .int .i64 3] 3)) wo.heap.size from blk_new _ _)
      have hgo : w.heap.size < wo.heap.size := blk_lt HR.out
      go_loopw [6] (fun i w2 => ∃ k : Nat, i = .int .i64 k ∧ k ≤ 8 * xs.length ∧ Aside0 (RegAt w2 w.heap.size (rb xs k)) ∧ Aside0 (TapsAt w2 wo.heap.size) ∧ Aside0 (Below w.heap.size w w2)) (fun i _ => 8 * xs.length - (intOf i).toNat)
      case atStart => exact ⟨0, rfl, by omega, ⟨(HR.out.below (below_alloc (Below.refl _ _) _)).congr (fun j hj => by show decide (j < 32) = (BitVec.allOnes 32).getLsbD j; rw [BitVec.getLsbD_allOnes])⟩, HT, ⟨below_alloc HB.out _⟩⟩
      case round =>
        clear HR HT
        obtain ⟨k, rfl, hk, HR, HT, HB2⟩ := hrel
        by_cases hlt : k < 8 * xs.length
        · have h0 := HR.out.cell 0 (by omega)
          obtain ⟨ad, rfl, hc⟩ := kb_get (Kd.C_below H.out HB2.out) (k / 8) (by omega)
          have b0 := by8_lo xs (k / 8)
          have b1 := by8_hi xs (k / 8)
          have hbit : ((by8 xs (k / 8) / 2 ^ (k % 8)).tmod 2 == 1) = bitAt xs k := by
            unfold by8 bitAt
            rw [Int.tmod_eq_emod_of_nonneg (Int.ediv_nonneg (by omega) (Int.pow_nonneg (by decide))), Bool.eq_iff_iff, beq_iff_eq, beq_iff_eq]
            norm_cast
          have d8 : decide ((k : Int) < 8 * (xs.length : Int)) = true := by simp; omega
          obtain ⟨o, ho⟩ : ∃ o, (rb xs k 0 == bitAt xs k) = !o := ⟨_, (Bool.not_not _).symm⟩
          go_wp2
          go_quiet (fail)
          go_wp2
          obtain ⟨wb, rfl⟩ : ∃ wb : World, wb = wr := ⟨_, rfl⟩
          go_loopw [8] (fun i w3 => ∃ j : Nat, i = .int .i64 j ∧ j ≤ 31 ∧ Aside0 (RegAt w3 w.heap.size (shf xs k j)) ∧ Aside0 (TapsAt w3 wo.heap.size) ∧ Aside0 (Below w.heap.size w w3)) (fun i _ => 31 - (intOf i).toNat)
          case atStart => exact ⟨0, rfl, by omega, ⟨RegAt.congr (f := rb xs k) HR.out (fun t _ => shf_start xs k t)⟩, HT, ⟨pw_below_drewN HB2.out _⟩⟩
          case round =>
            clear HR HT HB2
            obtain ⟨j, rfl, hj, HR, HT, HB2⟩ := hrel
            by_cases hj31 : j < 31
            · have c1 := HR.out.cell (j + 1) (by omega)
              have s1 : shf xs k j (j + 1) = rb xs k (j + 1) := by unfold shf; rw [if_neg (by omega)]
              rw [s1] at c1
              clear s1
              have c2 := HR.out.cell j (by omega)
              have c3 := HR.out.frozen j
              have HS := Aside0.mk (HR.out.set_ j (rb xs k (j + 1)))
              have HF := Aside0.mk (HT.out.far w.heap.size j (.bool (rb xs k (j + 1))) hgo)
              go_wp2
              go_roundw
              case rel => exact ⟨j + 1, by go_num, by omega, ⟨HS.out.congr (fun t _ => shf_step xs k j t)⟩, HF, ⟨HB2.out.setCell (Nat.le_refl _) _⟩⟩
              case measure => simp [intOf]; omega
            · have e31 : j = 31 := by omega
              subst e31
              rw [show ((31 : Nat) : Int) = 31 from rfl]
              have c2 := HR.out.cell 31 (by omega)
              have c3 := HR.out.frozen 31
              have HS := Aside0.mk (HR.out.set_ 31 false)
              have HF := Aside0.mk (HT.out.far w.heap.size 31 (.bool false) hgo)
              go_wp2
              obtain ⟨wc, rfl⟩ : ∃ wc : World, wc = wr := ⟨_, rfl⟩
              go_loopw [9] (fun i w4 => ∃ t : Nat, i = .int .i64 t ∧ t ≤ 17 ∧ (o = false → t = 0) ∧ Aside0 (RegAt w4 w.heap.size (tpf xs k o t)) ∧ Aside0 (TapsAt w4 wo.heap.size) ∧ Aside0 (Below w.heap.size w w4)) (fun i _ => 17 - (intOf i).toNat)
              case atStart => exact ⟨0, rfl, by omega, fun _ => rfl, ⟨HS.out.congr (fun t ht => shf_end xs k o t ht)⟩, HF, ⟨HB2.out.setCell (Nat.le_refl _) _⟩⟩
              case round =>
                clear HR HT HB2 HS HF
                obtain ⟨t, rfl, ht, hto, HR, HT, HB2⟩ := hrel
                cases o with
                | true =>
                  by_cases ht17 : t < 17
                  · have c1 := HT.out.cell t ht17
                    have c2 := HR.out.cell (tap t) (tap_lt t)
                    have c3 := HR.out.frozen (tap t)
                    have htl := tap_lt t
                    have HS := Aside0.mk (HR.out.set_ (tap t) (!tpf xs k true t (tap t)))
                    have HF := Aside0.mk (HT.out.far w.heap.size (tap t) (.bool (!tpf xs k true t (tap t))) hgo)
                    have i0 : (t : Int) < 17 := by omega
                    have i1 : (tap t : Int) < 32 := by omega
                    go_wp2
                    go_still_tail 12, (by kernel_rfl)
                    change wpList _ _ _ _ _ wr.drew
                    go_wp2
                    go_roundw
                    case rel => exact ⟨t + 1, by go_num, by omega, (fun h => by cases h), ⟨HS.out.congr (fun q _ => tpf_step xs k t ht17 q)⟩, HF, ⟨below_drew (HB2.out.setCell (Nat.le_refl _) _)⟩⟩
                    case measure => simp [intOf]; omega
                  · have e17 : t = 17 := by omega
                    subst e17
                    rw [show ((17 : Nat) : Int) = 17 from rfl]
                    go_wp2
                    go_roundw
                    case rel => exact ⟨k + 1, by go_num, by omega, ⟨HR.out.congr (fun q hq => tpf_end xs k 17 true ho (.inl rfl) q hq)⟩, HT, HB2⟩
                    case measure => simp [intOf]; omega
                | false =>
                  obtain rfl := hto rfl
                  go_wp2
                  go_roundw
                  case rel => exact ⟨k + 1, by go_num, by omega, ⟨HR.out.congr (fun q hq => tpf_end xs k 0 false ho (.inr rfl) q hq)⟩, HT, HB2⟩
                  case measure => simp [intOf]; omega
        · have ek : k = 8 * xs.length := by omega
          go_wp2
          rw [ek] at HR
          have d31 : Nn xs 32 = 0 := Nn_32 xs
          have hb := HB2
          obtain ⟨wd, rfl⟩ : ∃ wd : World, wd = wr := ⟨_, rfl⟩
          go_loop [10, 11] (fun n i => ∃ q : Nat, q ≤ 32 ∧ i = .int .i64 ((q : Int) - 1) ∧ n = .int .u32 (Nn xs q)) (fun _ i => (intOf i + 1).toNat)
          case atStart => exact ⟨32, by omega, rfl, by rw [d31]⟩
          case round =>
            obtain ⟨q, hq, rfl, rfl⟩ := hrel
            clear d31
            cases q with
            | zero =>
              have HZ := Aside0.mk (Nn_0 xs)
              rw [show ((0 : Nat) : Int) - 1 = -1 from rfl]
              go_wp2
              go_ret
              exact ⟨congrArg (fun z => Ending.returned (.int .u32 z)) HZ.out, HB2.out⟩
            | succ p =>
              have c1 := HR.out.cell p (by omega)
              have n0 := Nn_lo xs (p + 1)
              have n1 := Nn_hi xs p
              have HN := Aside0.mk (Nn_step xs p (by omega))
              obtain ⟨m, hm⟩ : ∃ m, m = Nn xs (p + 1) := ⟨_, rfl⟩
              rw [← hm] at n0 n1 HN ⊢
              rw [show ((p + 1 : Nat) : Int) - 1 = (p : Int) by omega]
              obtain ⟨z, hz⟩ : ∃ z, z = rb xs (8 * xs.length) p := ⟨_, rfl⟩
              rw [← hz] at c1 HN
              clear hm hz
              cases z with
              | true =>
                go_wp2
                go_round
                case rel => exact ⟨p, by omega, by go_num, by rw [HN.out, if_pos rfl, Int.add_zero]⟩
                case measure => simp [intOf]
              | false =>
                go_wp2
                go_round
                case rel => exact ⟨p, by omega, by go_num, by rw [HN.out]; rfl⟩
                case measure => simp [intOf]
end Go.Proofs.Ytahaoakolgomdaa
