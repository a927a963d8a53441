/- The walks of gangerref00: Same, Copy, Lent, Whole. -/
import Derived.Test.YtahaoakolgomdaaW0
namespace Go.Proofs.Ytahaoakolgomdaa
open Go.RowKit Go.Proofs.YtahaoakolgomdaaW.PrintWords Go.Proofs.YtahaoakolgomdaaW.PrintLast Go.Proofs.YtahaoakolgomdaaW.PrintMore
set_option linter.unusedVariables false
set_option linter.unusedSimpArgs false

def ints8 (xs : List UInt8) : List Int := xs.map fun b => (b.toNat : Int)
theorem kb_ints {w : World} {A : Option Addr} {n : Nat} {xs : List UInt8} (h : kb.C w A n xs) : (Kd.int .u8).C w A n (ints8 xs) := by
  refine Kd.C_of_reads (d := (0 : Int)) ?_
  have h1 := Kd.reads_of_C (d := (0 : UInt8)) h
  refine ⟨by simpa [ints8] using h1.1, h1.2.1, fun hp => ?_⟩
  obtain ⟨ad, e, hc⟩ := h1.2.2 hp
  refine ⟨ad, e, fun j hj => ?_⟩
  have h2 := hc j hj
  have hx : xs.length = n := h1.1
  rw [h2]
  simp [ints8, enc8, List.getElem?_eq_getElem (show j < xs.length by omega)]
def strB (xs : List UInt8) : ByteArray := strOfNums (ints8 xs)
theorem strB_data (xs : List UInt8) : (strB xs).data.toList = xs := by
  unfold strB; rw [strOfNums_data]; unfold ints8; rw [List.map_map]
  conv => rhs; rw [← List.map_id xs]
  apply List.map_congr_left; intro b _
  simp
theorem kb_string {w : World} {A : Option Addr} {n c : Nat} {xs : List UInt8} (h : kb.C w A n xs) : (convert 22 9 (.slice A n c)).run Try.prog w = .ok (.string (strB xs)) w :=
  Kd.C_string Try.underlying22 Try.underlying5 Try.underlying9 (kb_ints h)
/-- Are they the same? -/
def sameB (xs ys : List UInt8) : Bool := decide (xs = ys)
theorem strB_inj (xs ys : List UInt8) : strB xs = strB ys ↔ xs = ys := by
  constructor
  · intro h; rw [← strB_data xs, ← strB_data ys, h]
  · intro h; rw [h]
theorem strB_beq (xs ys : List UInt8) : ((strB xs).toList == (strB ys).toList) = sameB xs ys := by
  rw [ByteArray.toList_eq, ByteArray.toList_eq, strB_data, strB_data]
  unfold sameB
  rw [Bool.eq_iff_iff, beq_iff_eq, decide_eq_true_eq]
theorem same_calls (xs ys : List UInt8) (A A' : Option Addr) (c c' : Nat) (w : World) (h : kb.C w A xs.length xs) (h' : kb.C w A' ys.length ys) :
    Calls Try.prog 27 #[.slice A xs.length c, .slice A' ys.length c'] w fun e w' => e = .returned (.bool (sameB xs ys)) ∧ w' = w := by
  have e1 := kb_string (c := c) h
  have e2 := kb_string (c := c') h'
  clear h h'
  go_enter Try.func27, Try.ntmps27
  go_wp2
  go_ret
  exact ⟨congrArg (fun b => Ending.returned (.bool b)) (strB_beq xs ys), rfl⟩
/-- A copy. -/
theorem copy_calls (xs : List UInt8) (A : Option Addr) (c : Nat) (w : World) (h : kb.C w A xs.length xs) (hl : xs.length ≤ 140737488355328) :
    Calls Try.prog 35 #[.slice A xs.length c] w fun e w' => ∃ v, e = .returned v ∧ OwnB w' w.heap.size v xs ∧ Below w.heap.size w w' := by
  have H := Aside0.mk h
  clear h
  go_enter Try.func35, Try.ntmps35
  go_wp2_with (at_builtin; refine app_bytes w.heap.size rfl (.tmp 4) (.tmp 5) rfl (.slice none 0 0) [] xs xs rfl A xs.length c rfl rfl (OwnB.nil _ _) H.out (Nat.le_refl _) (by simpa using hl) ?_; intro v1 w1 ho1 hg1 hat1; have HO := Aside0.mk ho1; have HB := Aside0.mk (own_step (Below.refl _ _) hg1 (fun k hk => by cases hk)); clear ho1 hg1 hat1)
  go_ret
  exact ⟨_, rfl, HO.out, HB.out⟩
/-- What was lent: xs in a block of its own, with two marks in the room behind it. -/
def LentAt (w : World) (base g c : Nat) (xs : List UInt8) : Prop := OwnB w base (.slice (some ⟨g, 0, none⟩) (xs.length + 2) c) (xs ++ [91, 92])
theorem lent_calls (xs : List UInt8) (A : Option Addr) (c : Nat) (w : World) (h : kb.C w A xs.length xs) (hl : xs.length ≤ 140737488350000) :
    Calls Try.prog 20 #[.slice A xs.length c] w fun e w' => ∃ g c1, e = .returned (.slice (some ⟨g, 0, none⟩) xs.length c1) ∧ LentAt w' w.heap.size g c1 xs ∧ Below w.heap.size w w' := by
  have H := Aside0.mk h
  clear h
  obtain ⟨ys, hy⟩ : ∃ ys : List UInt8, xs ++ [91, 92] = ys := ⟨_, rfl⟩
  have hyl : ys.length = xs.length + 2 := by rw [← hy]; simp
  have HY := Lib.hid hy
  have hy1 : xs.length ≤ ys.length := by omega
  have hyn : 0 < ys.length := by omega
  have HYL := Lib.hid hyl
  have hyt : ys.take xs.length = xs := by rw [← hy]; simp
  have HYT := Lib.hid hyt
  clear hy hyl hyt
  go_enter Try.func20, Try.ntmps20
  go_wp2_with (first
    | (go_at_call 35; refine (copy_calls xs A c _ H.out (by omega)).mono ?_; rintro e w1 ⟨v1, rfl, ho1, hb1⟩; obtain ⟨A1, c1, rfl, hc1, hr1⟩ := ho1.reads; have HO1 := Aside0.mk ho1; have HB1 := Aside0.mk hb1; clear ho1 hb1 hr1)
    | (at_builtin; go_loud (refine app_bytes w.heap.size rfl (.tmp 6) (.tmp 7) rfl (.slice A1 xs.length c1) xs [91, 92] ys HY.out (some ⟨w1.heap.size, 0, none⟩) 2 2 rfl rfl ?o2 ?r2 ?b2 ?l2 ?_; (case o2 => exact HO1.out.below (below_alloc (Below.refl _ _) _)); (case r2 => exact lit_reads w1 [91, 92] _ rfl (by simp)); (case b2 => exact Nat.le_trans HB1.out.size (below_alloc (Below.refl _ _) _).size); (case l2 => omega); intro v2 w2 ho2 hg2 hat2; have HB2 := Aside0.mk (own_step (below_alloc HB1.out _) hg2 (fun k hk => HO1.out.base_le k hk)); have HO2 := Aside0.mk ho2; obtain ⟨A2, c2, rfl, hc2, hr2⟩ := ho2.reads; have hcut := (cut_hi A2 c2 ys xs.length hy1 hc2).1; rw [HYT.out] at hcut; clear ho2 hg2 hat2 hr2)))
  go_ret
  obtain ⟨g, rfl, _⟩ := HO2.out.form hyn
  refine ⟨g, c2, rfl, ?_, HB2.out⟩
  unfold LentAt
  rw [HY.out, ← HYL.out]
  exact HO2.out
theorem LentAt.reads {w : World} {base g c : Nat} {xs : List UInt8} (h : LentAt w base g c xs) : xs.length + 2 ≤ c ∧ kb.C w (some ⟨g, 0, none⟩) xs.length xs := by
  have h1 := OwnB.at_ h
  refine ⟨h1.2.1, ?_⟩
  have h2 := kb_take h1.2.2 xs.length (by simp)
  rw [List.take_left' rfl] at h2
  exact h2
theorem LentAt.below {w w1 : World} {base g c : Nat} {xs : List UInt8} (h : LentAt w base g c xs) (hb : Below w.heap.size w w1) : LentAt w1 base g c xs := OwnB.below h hb
theorem LentAt.own {w : World} {base g c : Nat} {xs : List UInt8} (h : LentAt w base g c xs) : OwnB w base (.slice (some ⟨g, 0, none⟩) xs.length c) xs := by
  have h1 := OwnB.prefix_ (m := xs.length) h (by omega)
  rw [List.take_left' rfl] at h1
  exact h1
/-- What was lent is whole. -/
theorem whole_calls (xs : List UInt8) (g c : Nat) (A : Option Addr) (c' base : Nat) (w : World) (h : LentAt w base g c xs) (h' : kb.C w A xs.length xs) (hl : xs.length ≤ 140737488350000) :
    Calls Try.prog 23 #[.slice (some ⟨g, 0, none⟩) xs.length c, .slice A xs.length c'] w fun e w' => e = .returned (.bool true) ∧ w' = w := by
  obtain ⟨hc, hr⟩ := h.reads
  have e1 := kb_string (c := c) hr
  have e2 := kb_string (c := c') h'
  have hcut := cut_room (some ⟨g, 0, none⟩) xs.length c (xs.length + 2) hc
  rw [Int.natCast_add] at hcut
  have hcut' : ∀ W : World, (Instr.slice 22 (.slice (some ⟨g, 0, none⟩) xs.length c) none (some (.int .i64 ((xs.length : Int) + 2))) none).run Try.prog W = .ok (.slice (some ⟨g, 0, none⟩) (xs.length + 2) c) W := hcut
  have h0 := OwnB.at_ h
  have hll : (xs ++ [91, 92]).length = xs.length + 2 := by simp
  obtain ⟨_, q1, k1⟩ := kb_get h0.2.2 xs.length (by rw [hll]; omega)
  cases q1
  obtain ⟨_, q1, k2⟩ := kb_get h0.2.2 (xs.length + 1) (by rw [hll]; omega)
  cases q1
  have b1 : by8 (xs ++ [91, 92]) xs.length = 91 := by simp [by8]
  have b2 : by8 (xs ++ [91, 92]) (xs.length + 1) = 92 := by simp [by8, List.getElem?_append_right]
  rw [b1, add_plain] at k1
  rw [b2, add_plain] at k2
  clear h h' hcut h0 hll b1 b2 hr
  go_enter Try.func23, Try.ntmps23
  go_wp2
  go_ret
  exact ⟨rfl, rfl⟩
theorem spoil_nil (A : Option Addr) (c : Nat) (w : World) : Calls Try.prog 24 #[.slice A 0 c] w fun e w' => e = .returned (.tuple #[]) ∧ w' = w := by
  go_enter Try.func24, Try.ntmps24
  go_wp2
  refine wp_loop_rounds 1 ?_
  rw [rounds_succ]
  go_wp2
  first | go_end0 | ((try simp only [Exit.inBlock, Exit.then]); refine bodyPost_ret (results_none rfl _ _ _) rfl ?_)
  exact ⟨rfl, rfl⟩
/-- A row of the call's own is written over. -/
theorem spoil_own (xs : List UInt8) (g n c base : Nat) (w : World) (h : OwnB w base (.slice (some ⟨g, 0, none⟩) n c) xs) :
    Calls Try.prog 24 #[.slice (some ⟨g, 0, none⟩) n c] w fun e w' => e = .returned (.tuple #[]) ∧ ∃ ys, ys.length = xs.length ∧ OwnB w' base (.slice (some ⟨g, 0, none⟩) n c) ys ∧ w.grownBy w' (some g) := by
  have H := Aside0.mk h
  obtain ⟨hn, hc, hr⟩ := h.at_
  have hm : n ≤ 9223372036854775807 := by rw [hn]; exact hr.2.1
  have HN := Lib.hid hn
  clear h hn hr
  go_enter Try.func24, Try.ntmps24
  go_wp2
  go_loopw [2] (fun i wr => ∃ (k : Nat) (ys : List UInt8), i = .int .i64 k ∧ k ≤ n ∧ Aside0 (ys.length = n) ∧ Aside0 (OwnB wr base (.slice (some ⟨g, 0, none⟩) n c) ys) ∧ Aside0 (w.grownBy wr (some g))) (fun i _ => n - (intOf i).toNat)
  case atStart => exact ⟨0, xs, rfl, Nat.zero_le _, ⟨HN.out.symm⟩, H, ⟨⟨rfl, rfl, rfl, Nat.le_refl _, fun _ _ _ => rfl⟩⟩⟩
  case round =>
    obtain ⟨k, ys, rfl, hk, HL, HO, HG⟩ := hrel
    by_cases hlt : k < n
    · obtain ⟨_, q1, k1⟩ := kb_get HO.out.at_.2.2 k (by have := HL.out; omega)
      cases q1
      rw [add_plain] at k1
      have hfz : wr.frozen? ⟨g, k, none⟩ = false := by
        obtain ⟨g', e1, _, cur, hh, _⟩ := HO.out.form (by have := HL.out; omega)
        cases e1; exact blk_frozen hh k
      have HS := Aside0.mk (HO.out.set_ hlt ((ys.getD k 0) ^^^ 165))
      have HX := Aside0.mk (show enc8 ((ys.getD k 0) ^^^ 165) = Value.int .u8 (bits .xor .u8 (by8 ys k) 165) from congrArg (Value.int .u8) (bits_xor8 (ys.getD k 0) 165).symm)
      go_wp2
      go_roundw
      case rel => exact ⟨k + 1, ys.set k ((ys.getD k 0) ^^^ 165), by go_num, by omega, ⟨by have := HL.out; simpa using this⟩, ⟨by rw [← HX.out]; exact HS.out⟩, ⟨HG.out.trans (grown_set _ _ _ _)⟩⟩
      case measure => simp [intOf]; omega
    · go_wp2
      first | go_end0 | ((try simp only [Exit.inBlock, Exit.then]); refine bodyPost_ret (results_none rfl _ _ _) rfl ?_)
      exact ⟨rfl, ys, by have h1 := HL.out; have h2 := HN.out; omega, HO.out, HG.out⟩
/-- .. whatever the row. -/
theorem spoil_calls (xs : List UInt8) (v : Value) (base : Nat) (w : World) (h : OwnB w base v xs) :
    Calls Try.prog 24 #[v] w fun e w' => e = .returned (.tuple #[]) ∧ ∃ ys, ys.length = xs.length ∧ OwnB w' base v ys ∧ w.grownBy w' v.ownBlock := by
  by_cases hp : 0 < xs.length
  · obtain ⟨A, c, rfl, _, _⟩ := h.reads
    obtain ⟨g, rfl, _⟩ := h.form hp
    exact spoil_own xs g _ c base w h
  · obtain ⟨A, c, rfl, _, _⟩ := h.reads
    have h0 : xs.length = 0 := by omega
    rw [h0] at h ⊢
    refine (spoil_nil A c w).mono ?_
    rintro e w' ⟨rfl, rfl⟩
    exact ⟨rfl, xs, h0, h, ⟨rfl, rfl, rfl, Nat.le_refl _, fun _ _ _ => rfl⟩⟩
end Go.Proofs.Ytahaoakolgomdaa
