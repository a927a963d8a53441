/- Walks of law 19's long and does; what is lent, up to what a process can reach. -/
import Derived.Test.YtahaoakolgomdaaS48
import Derived.Test.YtahaoakolgomdaaW5
namespace Go.Proofs.Ytahaoakolgomdaa
open Go.RowKit Go.Proofs.YtahaoakolgomdaaW.PrintWords Go.Proofs.YtahaoakolgomdaaW.PrintLast Go.Proofs.YtahaoakolgomdaaW.PrintMore
set_option linter.unusedVariables false
set_option linter.unusedSimpArgs false

theorem add_pos9 (a : Addr) (k : Nat) (h : 0 < k) : a.add k = ⟨a.block, a.off + k, none⟩ := by unfold Addr.add; rw [if_neg (by omega)]
set_option maxHeartbeats 1000000 in
set_option maxRecDepth 100000 in
theorem long19_calls (l : List Act9) (A : Option Addr) (c : Nat) (w : World) (h : Act9s w A l) (hb : Reach9 l) :
    Calls Try.prog 65 #[.slice A l.length c] w fun e w' => (e = .returned (.bool true) ∨ e = .returned (.bool false)) ∧ Drawn0 w w' := by
  have hm : l.length ≤ 9223372036854775807 := h.1
  have H := Aside0.mk h
  have HB := Aside0.mk hb
  clear h hb
  go_enter Try.func65, Try.ntmps65
  go_wp2
  go_loopw [3, 4] (fun n i wr => ∃ N k : Nat, n = .int .i64 N ∧ i = .int .i64 k ∧ k ≤ l.length ∧ k ≤ 100 ∧ N ≤ 30000 ∧ Aside0 (Drawn0 w wr)) (fun _ i _ => 100 - (intOf i).toNat)
  case atStart => exact ⟨0, 0, rfl, rfl, Nat.zero_le _, Nat.zero_le _, by omega, ⟨Drawn0.refl _⟩⟩
  case round =>
    obtain ⟨N, k, rfl, rfl, hk, hk2, hN, HD⟩ := hrel
    by_cases hgo : k < l.length ∧ k < 100
    · obtain ⟨hlt, hlt2⟩ := hgo
      obtain ⟨x, hx⟩ : ∃ x, l[k]? = some x := ⟨_, List.getElem?_eq_getElem hlt⟩
      obtain ⟨ad, rfl, hat⟩ := H.out.2 k x hx
      obtain ⟨B, d, k1, l1, r1⟩ := hat.bytes
      obtain ⟨C, d2, k2, l2, r2⟩ := hat.rows
      rw [add_pos9 _ 1 (by omega)] at k1
      rw [add_pos9 _ 2 (by omega)] at k2
      have k1 := pw_cell_below HD.out.below k1
      have k2 := pw_cell_below HD.out.below k2
      have hxm : x.r.length ≤ 140737488351232 := (HB.out k x hx).1
      have hxl : x.l.length ≤ 140737488351232 := (HB.out k x hx).2
      have R2 := Aside0.mk r2
      obtain ⟨mn, hmn⟩ : ∃ mn, mn = min x.r.length 30000 := ⟨_, rfl⟩
      have hmin := fun W => min_nat (x.r.length : Int) 30000 mn (by rw [hmn]; split <;> omega) W
      have hm3 : mn ≤ 30000 := by omega
      clear hat hx r1 r2 hmn
      go_wp2_with fail
      go_quiet (fail)
      have HD2 := Aside0.mk (HD.out.step nq)
      go_wp2_with fail
      go_loop [3, 5] (fun n i => ∃ N2 j : Nat, n = .int .i64 N2 ∧ i = .int .i64 j ∧ j ≤ x.l.length ∧ j ≤ 1000 ∧ N2 ≤ 60000 + x.l.length + 30000 * j) (fun _ i => 1000 - (intOf i).toNat)
      case atStart => exact ⟨N + mn + x.l.length, 0, by go_num, rfl, Nat.zero_le _, Nat.zero_le _, by omega⟩
      case round =>
        obtain ⟨N2, j, rfl, rfl, hj, hj2, hN2⟩ := hrel
        by_cases hgo2 : j < x.l.length ∧ j < 1000
        · obtain ⟨hlt3, hlt4⟩ := hgo2
          obtain ⟨ad2, A1, c1, rfl, k3, l3, r3⟩ := klb_get R2.out j hlt3
          obtain ⟨y, hy⟩ : ∃ y, y = x.l.getD j [] := ⟨_, rfl⟩
          rw [← hy] at k3 l3 r3
          have k3 := pw_cell_below HD2.out.below k3
          have hy9 : y.length ≤ 9223372036854775807 := r3.2.1
          obtain ⟨mn2, hmn2⟩ : ∃ mn, mn = min y.length 30000 := ⟨_, rfl⟩
          have hmin2 := fun W => min_nat (y.length : Int) 30000 mn2 (by rw [hmn2]; split <;> omega) W
          have hm4 : mn2 ≤ 30000 := by omega
          clear hy r3 hmn2
          go_wp2_with fail
          go_round
          case rel => exact ⟨N2 + mn2, j + 1, by go_num, by go_num, by omega, by omega, by omega⟩
          case measure => simp [intOf]; omega
        · have hex : ¬ (j < x.l.length) ∨ (j < x.l.length ∧ ¬ j < 1000) := by omega
          clear hgo2
          rcases hex with hex | ⟨hex, hex2⟩
          all_goals
            by_cases hb3 : 30000 < N2
            · go_wp2_with fail
              go_ret
              exact ⟨.inl rfl, HD2.out⟩
            · go_wp2_with fail
              go_roundw
              case rel => exact ⟨N2, k + 1, rfl, by go_num, by omega, by omega, by omega, HD2⟩
              case measure => simp [intOf]; omega
    · have hex : ¬ (k < l.length) ∨ (k < l.length ∧ ¬ k < 100) := by omega
      clear hgo
      rcases hex with hex | ⟨hex, hex2⟩
      all_goals
        go_wp2_with fail
        go_ret
        exact ⟨.inr rfl, HD.out⟩
theorem lent9_calls (xs : List UInt8) (A : Option Addr) (c : Nat) (w : World) (h : kb.C w A xs.length xs) (hl : xs.length ≤ 140737488351232) :
    Calls Try.prog 20 #[.slice A xs.length c] w fun e w' => ∃ g c1, e = .returned (.slice (some ⟨g, 0, none⟩) xs.length c1) ∧ LentAt w' w.heap.size g c1 xs ∧ Below w.heap.size w w' := by
  have H := Aside0.mk h
  clear h
  obtain ⟨ys, hy⟩ : ∃ ys : List UInt8, xs ++ [91, 92] = ys := ⟨_, rfl⟩
  have hyl : ys.length = xs.length + 2 := by rw [← hy]; simp
  have HY := Lib.hid hy
  have hy1 : xs.length ≤ ys.length := by omega
  have hyn : 0 < ys.length := by omega
  have HYL := Lib.hid hyl
  have hyt : ys.take xs.length = xs := by rw [← hy]; simp
  have HYT := Lib.hid hyt
  clear hy hyl hyt
  go_enter Try.func20, Try.ntmps20
  go_wp2_with (first
    | (go_at_call 35; refine (copy_calls xs A c _ H.out (by omega)).mono ?_; rintro e w1 ⟨v1, rfl, ho1, hb1⟩; obtain ⟨A1, c1, rfl, hc1, hr1⟩ := ho1.reads; have HO1 := Aside0.mk ho1; have HB1 := Aside0.mk hb1; clear ho1 hb1 hr1)
    | (at_builtin; go_loud (refine app_bytes w.heap.size rfl (.tmp 6) (.tmp 7) rfl (.slice A1 xs.length c1) xs [91, 92] ys HY.out (some ⟨w1.heap.size, 0, none⟩) 2 2 rfl rfl ?o2 ?r2 ?b2 ?l2 ?_; (case o2 => exact HO1.out.below (below_alloc (Below.refl _ _) _)); (case r2 => exact lit_reads w1 [91, 92] _ rfl (by simp)); (case b2 => exact Nat.le_trans HB1.out.size (below_alloc (Below.refl _ _) _).size); (case l2 => omega); intro v2 w2 ho2 hg2 hat2; have HB2 := Aside0.mk (own_step (below_alloc HB1.out _) hg2 (fun k hk => HO1.out.base_le k hk)); have HO2 := Aside0.mk ho2; obtain ⟨A2, c2, rfl, hc2, hr2⟩ := ho2.reads; have hcut := (cut_hi A2 c2 ys xs.length hy1 hc2).1; rw [HYT.out] at hcut; clear ho2 hg2 hat2 hr2)))
  go_ret
  obtain ⟨g, rfl, _⟩ := HO2.out.form hyn
  refine ⟨g, c2, rfl, ?_, HB2.out⟩
  unfold LentAt
  rw [HY.out, ← HYL.out]
  exact HO2.out
/-- What was lent is whole. -/
theorem whole9_calls (xs : List UInt8) (g c : Nat) (A : Option Addr) (c' base : Nat) (w : World) (h : LentAt w base g c xs) (h' : kb.C w A xs.length xs) (hl : xs.length ≤ 140737488351232) :
    Calls Try.prog 23 #[.slice (some ⟨g, 0, none⟩) xs.length c, .slice A xs.length c'] w fun e w' => e = .returned (.bool true) ∧ w' = w := by
  obtain ⟨hc, hr⟩ := h.reads
  have e1 := kb_string (c := c) hr
  have e2 := kb_string (c := c') h'
  have hcut := cut_room (some ⟨g, 0, none⟩) xs.length c (xs.length + 2) hc
  rw [Int.natCast_add] at hcut
  have hcut' : ∀ W : World, (Instr.slice 22 (.slice (some ⟨g, 0, none⟩) xs.length c) none (some (.int .i64 ((xs.length : Int) + 2))) none).run Try.prog W = .ok (.slice (some ⟨g, 0, none⟩) (xs.length + 2) c) W := hcut
  have h0 := OwnB.at_ h
  have hll : (xs ++ [91, 92]).length = xs.length + 2 := by simp
  obtain ⟨_, q1, k1⟩ := kb_get h0.2.2 xs.length (by rw [hll]; omega)
  cases q1
  obtain ⟨_, q1, k2⟩ := kb_get h0.2.2 (xs.length + 1) (by rw [hll]; omega)
  cases q1
  have b1 : by8 (xs ++ [91, 92]) xs.length = 91 := by simp [by8]
  have b2 : by8 (xs ++ [91, 92]) (xs.length + 1) = 92 := by simp [by8, List.getElem?_append_right]
  rw [b1, add_plain] at k1
  rw [b2, add_plain] at k2
  clear h h' hcut h0 hll b1 b2 hr
  go_enter Try.func23, Try.ntmps23
  go_wp2
  go_ret
  exact ⟨rfl, rfl⟩

theorem opn_ways (s : Sp) : (∃ l s', opn s = (0, some l, s')) ∨ ∃ e s', opn s = (e, none, s') := by
  unfold opn
  split
  · exact .inr ⟨_, _, rfl⟩
  · split
    · split
      · exact .inr ⟨_, _, rfl⟩
      · exact .inl ⟨_, _, rfl⟩
    · exact .inl ⟨_, _, rfl⟩
section
variable {w0 w : World} {c p q tp tq : Nat} {t : Ts}
set_option maxHeartbeats 1000000 in
set_option maxRecDepth 100000 in
theorem does_add0 (H0 : Has w0 w (Pair c p q tp tq t)) (hok : t.Ok) (r : List UInt8) (B : Option Addr) (d : Nat) (hr : kb.C w0 B r.length r) (hd : r.length ≤ d) (hl : r.length ≤ 140737488351232) (C : Option Addr) (m d2 : Nat) (num : Int) (e : Int) (t' : Ts) (ht : t.add r = (e, t')) :
    Calls Try.prog 66 #[.pointer (some ⟨c, 0, none⟩), .agg #[.int .i64 0, .slice B r.length d, .slice C m d2, .int .i64 num]] w fun e0 w' => e0 = .returned (.bool true) ∧ Has w0 w' (Pair c p q tp tq t') := by
  have HB := Aside0.mk (H0.addO (.cells #[.int .i64 0, .slice B r.length d, .slice C m d2, .int .i64 num] 93))
  have R1 := Aside0.mk hr
  have HOK := Aside0.mk hok
  have AD := Aside0.mk ht
  have hee : (e == e) = true := by simp
  clear H0 hr hok ht
  go_enter Try.func66, Try.ntmps66
  go_wp2_with (first
    | (go_at_call 57; have _t := H3.out; clear _t; refine (tadd_i (t := t) H3.out 0 3 (by decide) rfl rfl HOK.out r (some ⟨g, 0, none⟩) r.length c1 rfl LC.out (.inr ⟨6, _, by decide, by decide, rfl, fun W F h => (LentAt.reads h.1).2⟩) e t' AD.out).mono ?_; rintro e w4 ⟨rfl, hs⟩; have H4 : Aside0 (Has w0 w4 [spoolA p t'.sp, refA q t.sp, pairA c p q (.pointer (some ⟨tp, 0, none⟩)) (.pointer (some ⟨tq, 0, none⟩)), tapeB 105 tp p t'.l t'.lost, tapeB 101 tq q t.l t.lost, blkA w.heap.size (.cells #[.int .i64 0, .slice B r.length d, .slice C m d2, .int .i64 num] 93 (0, 0)), bytesA (.slice (some ⟨g, 0, none⟩) (r.length + 2) c1) (r ++ [91, 92])]) := Aside0.mk hs; have f4 := blk_cell (H4.out.blk 5 rfl) 1; have g4 := blk_cell (H4.out.blk 2 rfl) 3; simp at f4 g4; clear hs)
    | (go_at_call 20; refine (lent9_calls r B d _ (Kd.C_below R1.out HB.out.old) hl).mono ?_; rintro e w3 ⟨g, c1, rfl, hla, hb⟩; have LC := Lib.hid (show r.length ≤ c1 by have := hla.reads.1; omega); have H3 : Aside0 (Has w0 w3 [spoolA p t.sp, refA q t.sp, pairA c p q (.pointer (some ⟨tp, 0, none⟩)) (.pointer (some ⟨tq, 0, none⟩)), tapeB 105 tp p t.l t.lost, tapeB 101 tq q t.l t.lost, blkA w.heap.size (.cells #[.int .i64 0, .slice B r.length d, .slice C m d2, .int .i64 num] 93 (0, 0)), bytesA (.slice (some ⟨g, 0, none⟩) (r.length + 2) c1) (r ++ [91, 92])]) := Aside0.mk (HB.out.addE (Fresh.bytes hla hb)); have g3 := blk_cell (H3.out.blk 2 rfl) 1; simp at g3; clear hla hb))
  go_still_tail 6, (by kernel_rfl)
  change wpList _ _ _ _ _ (World.drew w4)
  go_wp2_with (first
    | (go_at_call 24; have _t := H6.out; clear _t; refine (spoil_h H6.out 6 _ _ rfl).mono ?_; rintro e w7 ⟨rfl, ys, hys, hs⟩; have H7 : Aside0 (Has w0 w7 [spoolA p t'.sp, refA q t'.sp, pairA c p q (.pointer (some ⟨tp, 0, none⟩)) (.pointer (some ⟨tq, 0, none⟩)), tapeB 105 tp p t'.l t'.lost, tapeB 101 tq q t'.l t'.lost, blkA w.heap.size (.cells #[.int .i64 0, .slice B r.length d, .slice C m d2, .int .i64 num] 93 (0, 0)), bytesA (.slice (some ⟨g, 0, none⟩) r.length c1) ys]) := Aside0.mk hs; clear hs hys)
    | (go_at_call 23; have _t := H5.out; clear _t; refine (whole9_calls r g c1 B d 0 _ (H5.out.bytes 6 rfl) (Kd.C_below R1.out H5.out.old) hl).mono ?_; rintro e w' ⟨rfl, hw⟩; obtain rfl := hw.symm; clear hw; have H6 : Aside0 (Has w0 w5 [spoolA p t'.sp, refA q t'.sp, pairA c p q (.pointer (some ⟨tp, 0, none⟩)) (.pointer (some ⟨tq, 0, none⟩)), tapeB 105 tp p t'.l t'.lost, tapeB 101 tq q t'.l t'.lost, blkA w.heap.size (.cells #[.int .i64 0, .slice B r.length d, .slice C m d2, .int .i64 num] 93 (0, 0)), bytesA (.slice (some ⟨g, 0, none⟩) r.length c1) r]) := Aside0.mk (H5.out.imp 6 _ (bytesA (.slice (some ⟨g, 0, none⟩) r.length c1) r) rfl fun F h => ⟨LentAt.own h.1, h.2⟩))
    | (go_at_call 58; refine (radd_i (t := t) H4.out.drew 1 4 (by decide) rfl rfl HOK.out r B r.length d rfl hd (.inl R1.out) e t' AD.out).mono ?_; rintro e w5 ⟨rfl, hs⟩; have H5 : Aside0 (Has w0 w5 [spoolA p t'.sp, refA q t'.sp, pairA c p q (.pointer (some ⟨tp, 0, none⟩)) (.pointer (some ⟨tq, 0, none⟩)), tapeB 105 tp p t'.l t'.lost, tapeB 101 tq q t'.l t'.lost, blkA w.heap.size (.cells #[.int .i64 0, .slice B r.length d, .slice C m d2, .int .i64 num] 93 (0, 0)), bytesA (.slice (some ⟨g, 0, none⟩) (r.length + 2) c1) (r ++ [91, 92])]) := Aside0.mk hs; have f5 := blk_cell (H5.out.blk 5 rfl) 1; simp at f5; clear hs))
  go_ret
  exact ⟨rfl, (H7.out.drop 6).drop 5⟩
set_option maxHeartbeats 1000000 in
set_option maxRecDepth 100000 in
theorem does_add1 (H0 : Has w0 w (Pair c p q tp tq t)) (hok : t.Ok) (r : List UInt8) (B : Option Addr) (d : Nat) (hr : kb.C w0 B r.length r) (hd : r.length ≤ d) (hl : r.length ≤ 140737488351232) (C : Option Addr) (m d2 : Nat) (num : Int) (e : Int) (t' : Ts) (ht : t.add r = (e, t')) :
    Calls Try.prog 66 #[.pointer (some ⟨c, 0, none⟩), .agg #[.int .i64 1, .slice B r.length d, .slice C m d2, .int .i64 num]] w fun e0 w' => e0 = .returned (.bool true) ∧ Has w0 w' (Pair c p q tp tq t') := by
  have HB := Aside0.mk (H0.addO (.cells #[.int .i64 1, .slice B r.length d, .slice C m d2, .int .i64 num] 93))
  have R1 := Aside0.mk hr
  have HOK := Aside0.mk hok
  have AD := Aside0.mk ht
  have hee : (e == e) = true := by simp
  clear H0 hr hok ht
  go_enter Try.func66, Try.ntmps66
  go_wp2_with (first
    | (go_at_call 57; have _t := H3.out; clear _t; refine (tadd_i (t := t) H3.out 0 3 (by decide) rfl rfl HOK.out r (some ⟨g, 0, none⟩) r.length c1 rfl LC.out (.inr ⟨6, _, by decide, by decide, rfl, fun W F h => (LentAt.reads h.1).2⟩) e t' AD.out).mono ?_; rintro e w4 ⟨rfl, hs⟩; have H4 : Aside0 (Has w0 w4 [spoolA p t'.sp, refA q t.sp, pairA c p q (.pointer (some ⟨tp, 0, none⟩)) (.pointer (some ⟨tq, 0, none⟩)), tapeB 105 tp p t'.l t'.lost, tapeB 101 tq q t.l t.lost, blkA w.heap.size (.cells #[.int .i64 1, .slice B r.length d, .slice C m d2, .int .i64 num] 93 (0, 0)), bytesA (.slice (some ⟨g, 0, none⟩) (r.length + 2) c1) (r ++ [91, 92])]) := Aside0.mk hs; have f4 := blk_cell (H4.out.blk 5 rfl) 1; have g4 := blk_cell (H4.out.blk 2 rfl) 3; simp at f4 g4; clear hs)
    | (go_at_call 20; refine (lent9_calls r B d _ (Kd.C_below R1.out HB.out.old) hl).mono ?_; rintro e w3 ⟨g, c1, rfl, hla, hb⟩; have LC := Lib.hid (show r.length ≤ c1 by have := hla.reads.1; omega); have H3 : Aside0 (Has w0 w3 [spoolA p t.sp, refA q t.sp, pairA c p q (.pointer (some ⟨tp, 0, none⟩)) (.pointer (some ⟨tq, 0, none⟩)), tapeB 105 tp p t.l t.lost, tapeB 101 tq q t.l t.lost, blkA w.heap.size (.cells #[.int .i64 1, .slice B r.length d, .slice C m d2, .int .i64 num] 93 (0, 0)), bytesA (.slice (some ⟨g, 0, none⟩) (r.length + 2) c1) (r ++ [91, 92])]) := Aside0.mk (HB.out.addE (Fresh.bytes hla hb)); have g3 := blk_cell (H3.out.blk 2 rfl) 1; simp at g3; clear hla hb))
  go_still_tail 6, (by kernel_rfl)
  change wpList _ _ _ _ _ (World.drew w4)
  go_wp2_with (first
    | (go_at_call 24; have _t := H6.out; clear _t; refine (spoil_h H6.out 6 _ _ rfl).mono ?_; rintro e w7 ⟨rfl, ys, hys, hs⟩; have H7 : Aside0 (Has w0 w7 [spoolA p t'.sp, refA q t'.sp, pairA c p q (.pointer (some ⟨tp, 0, none⟩)) (.pointer (some ⟨tq, 0, none⟩)), tapeB 105 tp p t'.l t'.lost, tapeB 101 tq q t'.l t'.lost, blkA w.heap.size (.cells #[.int .i64 1, .slice B r.length d, .slice C m d2, .int .i64 num] 93 (0, 0)), bytesA (.slice (some ⟨g, 0, none⟩) r.length c1) ys]) := Aside0.mk hs; clear hs hys)
    | (go_at_call 23; have _t := H5.out; clear _t; refine (whole9_calls r g c1 B d 0 _ (H5.out.bytes 6 rfl) (Kd.C_below R1.out H5.out.old) hl).mono ?_; rintro e w' ⟨rfl, hw⟩; obtain rfl := hw.symm; clear hw; have H6 : Aside0 (Has w0 w5 [spoolA p t'.sp, refA q t'.sp, pairA c p q (.pointer (some ⟨tp, 0, none⟩)) (.pointer (some ⟨tq, 0, none⟩)), tapeB 105 tp p t'.l t'.lost, tapeB 101 tq q t'.l t'.lost, blkA w.heap.size (.cells #[.int .i64 1, .slice B r.length d, .slice C m d2, .int .i64 num] 93 (0, 0)), bytesA (.slice (some ⟨g, 0, none⟩) r.length c1) r]) := Aside0.mk (H5.out.imp 6 _ (bytesA (.slice (some ⟨g, 0, none⟩) r.length c1) r) rfl fun F h => ⟨LentAt.own h.1, h.2⟩))
    | (go_at_call 58; refine (radd_i (t := t) H4.out.drew 1 4 (by decide) rfl rfl HOK.out r B r.length d rfl hd (.inl R1.out) e t' AD.out).mono ?_; rintro e w5 ⟨rfl, hs⟩; have H5 : Aside0 (Has w0 w5 [spoolA p t'.sp, refA q t'.sp, pairA c p q (.pointer (some ⟨tp, 0, none⟩)) (.pointer (some ⟨tq, 0, none⟩)), tapeB 105 tp p t'.l t'.lost, tapeB 101 tq q t'.l t'.lost, blkA w.heap.size (.cells #[.int .i64 1, .slice B r.length d, .slice C m d2, .int .i64 num] 93 (0, 0)), bytesA (.slice (some ⟨g, 0, none⟩) (r.length + 2) c1) (r ++ [91, 92])]) := Aside0.mk hs; have f5 := blk_cell (H5.out.blk 5 rfl) 1; simp at f5; clear hs))
  go_ret
  exact ⟨rfl, (H7.out.drop 6).drop 5⟩
set_option maxHeartbeats 1000000 in
set_option maxRecDepth 100000 in
theorem does_add2 (H0 : Has w0 w (Pair c p q tp tq t)) (hok : t.Ok) (r : List UInt8) (B : Option Addr) (d : Nat) (hr : kb.C w0 B r.length r) (hd : r.length ≤ d) (hl : r.length ≤ 140737488351232) (C : Option Addr) (m d2 : Nat) (num : Int) (e : Int) (t' : Ts) (ht : t.add r = (e, t')) :
    Calls Try.prog 66 #[.pointer (some ⟨c, 0, none⟩), .agg #[.int .i64 2, .slice B r.length d, .slice C m d2, .int .i64 num]] w fun e0 w' => e0 = .returned (.bool true) ∧ Has w0 w' (Pair c p q tp tq t') := by
  have HB := Aside0.mk (H0.addO (.cells #[.int .i64 2, .slice B r.length d, .slice C m d2, .int .i64 num] 93))
  have R1 := Aside0.mk hr
  have HOK := Aside0.mk hok
  have AD := Aside0.mk ht
  have hee : (e == e) = true := by simp
  clear H0 hr hok ht
  go_enter Try.func66, Try.ntmps66
  go_wp2_with (first
    | (go_at_call 57; have _t := H3.out; clear _t; refine (tadd_i (t := t) H3.out 0 3 (by decide) rfl rfl HOK.out r (some ⟨g, 0, none⟩) r.length c1 rfl LC.out (.inr ⟨6, _, by decide, by decide, rfl, fun W F h => (LentAt.reads h.1).2⟩) e t' AD.out).mono ?_; rintro e w4 ⟨rfl, hs⟩; have H4 : Aside0 (Has w0 w4 [spoolA p t'.sp, refA q t.sp, pairA c p q (.pointer (some ⟨tp, 0, none⟩)) (.pointer (some ⟨tq, 0, none⟩)), tapeB 105 tp p t'.l t'.lost, tapeB 101 tq q t.l t.lost, blkA w.heap.size (.cells #[.int .i64 2, .slice B r.length d, .slice C m d2, .int .i64 num] 93 (0, 0)), bytesA (.slice (some ⟨g, 0, none⟩) (r.length + 2) c1) (r ++ [91, 92])]) := Aside0.mk hs; have f4 := blk_cell (H4.out.blk 5 rfl) 1; have g4 := blk_cell (H4.out.blk 2 rfl) 3; simp at f4 g4; clear hs)
    | (go_at_call 20; refine (lent9_calls r B d _ (Kd.C_below R1.out HB.out.old) hl).mono ?_; rintro e w3 ⟨g, c1, rfl, hla, hb⟩; have LC := Lib.hid (show r.length ≤ c1 by have := hla.reads.1; omega); have H3 : Aside0 (Has w0 w3 [spoolA p t.sp, refA q t.sp, pairA c p q (.pointer (some ⟨tp, 0, none⟩)) (.pointer (some ⟨tq, 0, none⟩)), tapeB 105 tp p t.l t.lost, tapeB 101 tq q t.l t.lost, blkA w.heap.size (.cells #[.int .i64 2, .slice B r.length d, .slice C m d2, .int .i64 num] 93 (0, 0)), bytesA (.slice (some ⟨g, 0, none⟩) (r.length + 2) c1) (r ++ [91, 92])]) := Aside0.mk (HB.out.addE (Fresh.bytes hla hb)); have g3 := blk_cell (H3.out.blk 2 rfl) 1; simp at g3; clear hla hb))
  go_still_tail 6, (by kernel_rfl)
  change wpList _ _ _ _ _ (World.drew w4)
  go_wp2_with (first
    | (go_at_call 24; have _t := H6.out; clear _t; refine (spoil_h H6.out 6 _ _ rfl).mono ?_; rintro e w7 ⟨rfl, ys, hys, hs⟩; have H7 : Aside0 (Has w0 w7 [spoolA p t'.sp, refA q t'.sp, pairA c p q (.pointer (some ⟨tp, 0, none⟩)) (.pointer (some ⟨tq, 0, none⟩)), tapeB 105 tp p t'.l t'.lost, tapeB 101 tq q t'.l t'.lost, blkA w.heap.size (.cells #[.int .i64 2, .slice B r.length d, .slice C m d2, .int .i64 num] 93 (0, 0)), bytesA (.slice (some ⟨g, 0, none⟩) r.length c1) ys]) := Aside0.mk hs; clear hs hys)
    | (go_at_call 23; have _t := H5.out; clear _t; refine (whole9_calls r g c1 B d 0 _ (H5.out.bytes 6 rfl) (Kd.C_below R1.out H5.out.old) hl).mono ?_; rintro e w' ⟨rfl, hw⟩; obtain rfl := hw.symm; clear hw; have H6 : Aside0 (Has w0 w5 [spoolA p t'.sp, refA q t'.sp, pairA c p q (.pointer (some ⟨tp, 0, none⟩)) (.pointer (some ⟨tq, 0, none⟩)), tapeB 105 tp p t'.l t'.lost, tapeB 101 tq q t'.l t'.lost, blkA w.heap.size (.cells #[.int .i64 2, .slice B r.length d, .slice C m d2, .int .i64 num] 93 (0, 0)), bytesA (.slice (some ⟨g, 0, none⟩) r.length c1) r]) := Aside0.mk (H5.out.imp 6 _ (bytesA (.slice (some ⟨g, 0, none⟩) r.length c1) r) rfl fun F h => ⟨LentAt.own h.1, h.2⟩))
    | (go_at_call 58; refine (radd_i (t := t) H4.out.drew 1 4 (by decide) rfl rfl HOK.out r B r.length d rfl hd (.inl R1.out) e t' AD.out).mono ?_; rintro e w5 ⟨rfl, hs⟩; have H5 : Aside0 (Has w0 w5 [spoolA p t'.sp, refA q t'.sp, pairA c p q (.pointer (some ⟨tp, 0, none⟩)) (.pointer (some ⟨tq, 0, none⟩)), tapeB 105 tp p t'.l t'.lost, tapeB 101 tq q t'.l t'.lost, blkA w.heap.size (.cells #[.int .i64 2, .slice B r.length d, .slice C m d2, .int .i64 num] 93 (0, 0)), bytesA (.slice (some ⟨g, 0, none⟩) (r.length + 2) c1) (r ++ [91, 92])]) := Aside0.mk hs; have f5 := blk_cell (H5.out.blk 5 rfl) 1; simp at f5; clear hs))
  go_ret
  exact ⟨rfl, (H7.out.drop 6).drop 5⟩
set_option maxHeartbeats 1000000 in
set_option maxRecDepth 100000 in
theorem does_pack (H0 : Has w0 w (Pair c p q tp tq t)) (hok : t.Ok) (l : List (List UInt8)) (C : Option Addr) (d2 : Nat) (hr : klb.C w0 C l.length l) (B : Option Addr) (m1 d : Nat) (num : Int) (e : Int) (t' : Ts) (ht : t.pack l = (e, t')) :
    Calls Try.prog 66 #[.pointer (some ⟨c, 0, none⟩), .agg #[.int .i64 3, .slice B m1 d, .slice C l.length d2, .int .i64 num]] w fun e0 w' => e0 = .returned (.bool true) ∧ Has w0 w' (Pair c p q tp tq t') := by
  obtain ⟨w1, hw1⟩ : ∃ w1, w1 = w.alloc (.cells #[.int .i64 3, .slice B m1 d, .slice C l.length d2, .int .i64 num] 93) := ⟨_, rfl⟩
  have HB := Aside0.mk (H0.addO (.cells #[.int .i64 3, .slice B m1 d, .slice C l.length d2, .int .i64 num] 93))
  rw [← hw1] at HB
  have HW := Lib.hid hw1
  have f3 := blk_cell (HB.out.blk 5 rfl) 2
  have R1 := Aside0.mk hr
  have HOK := Aside0.mk hok
  have AD := Aside0.mk ht
  have hee : (e == e) = true := by simp
  have g3 := blk_cell (HB.out.blk 2 rfl) 1
  simp at f3 g3
  clear H0 hr hok ht hw1
  go_enter Try.func66, Try.ntmps66
  go_wp2_with fail
  rw [← HW.out]
  go_still_tail 6, (by kernel_rfl)
  change wpList _ _ _ _ _ (World.drew w1)
  go_wp2_with (go_at_call 67; refine (tpack_i (t := t) HB.out.drew 0 3 (by decide) rfl rfl HOK.out l C l.length d2 rfl R1.out e t' AD.out).mono ?_; rintro e w4 ⟨rfl, hs⟩; have H4 : Aside0 (Has w0 w4 [spoolA p t'.sp, refA q t.sp, pairA c p q (.pointer (some ⟨tp, 0, none⟩)) (.pointer (some ⟨tq, 0, none⟩)), tapeB 105 tp p t'.l t'.lost, tapeB 101 tq q t.l t.lost, blkA w.heap.size (.cells #[.int .i64 3, .slice B m1 d, .slice C l.length d2, .int .i64 num] 93 (0, 0))]) := Aside0.mk hs; have f4 := blk_cell (H4.out.blk 5 rfl) 2; have g4 := blk_cell (H4.out.blk 2 rfl) 3; simp at f4 g4; clear hs)
  go_still_tail 6, (by kernel_rfl)
  change wpList _ _ _ _ _ (World.drew w4)
  go_wp2_with (go_at_call 73; refine (rpack_i (t := t) H4.out.drew 1 4 (by decide) rfl rfl HOK.out l C l.length d2 rfl R1.out e t' AD.out).mono ?_; rintro e w5 ⟨rfl, hs⟩; have H5 : Aside0 (Has w0 w5 [spoolA p t'.sp, refA q t'.sp, pairA c p q (.pointer (some ⟨tp, 0, none⟩)) (.pointer (some ⟨tq, 0, none⟩)), tapeB 105 tp p t'.l t'.lost, tapeB 101 tq q t'.l t'.lost, blkA w.heap.size (.cells #[.int .i64 3, .slice B m1 d, .slice C l.length d2, .int .i64 num] 93 (0, 0))]) := Aside0.mk hs; clear hs)
  go_ret
  exact ⟨rfl, H5.out.drop 5⟩
set_option maxHeartbeats 1000000 in
set_option maxRecDepth 100000 in
theorem does_off (H0 : Has w0 w (Pair c p q tp tq t)) (B : Option Addr) (m1 d : Nat) (C : Option Addr) (m d2 : Nat) (num : Int) (hn : num ≤ 9223372036854775807) (s' : Sp) (hs' : t.sp.setOff num = s') :
    Calls Try.prog 66 #[.pointer (some ⟨c, 0, none⟩), .agg #[.int .i64 4, .slice B m1 d, .slice C m d2, .int .i64 num]] w fun e0 w' => e0 = .returned (.bool true) ∧ Has w0 w' (Pair c p q tp tq ⟨s', t.l, t.lost⟩) := by
  obtain ⟨w1, hw1⟩ : ∃ w1, w1 = w.alloc (.cells #[.int .i64 4, .slice B m1 d, .slice C m d2, .int .i64 num] 93) := ⟨_, rfl⟩
  have HB := Aside0.mk (H0.addO (.cells #[.int .i64 4, .slice B m1 d, .slice C m d2, .int .i64 num] 93))
  rw [← hw1] at HB
  have HW := Lib.hid hw1
  have f3 := blk_cell (HB.out.blk 5 rfl) 3
  have AD := Aside0.mk hs'
  have g3 := blk_cell (HB.out.blk 2 rfl) 0
  simp at f3 g3
  clear H0 hs' hw1
  go_enter Try.func66, Try.ntmps66
  go_wp2_with fail
  rw [← HW.out]
  go_still_tail 6, (by kernel_rfl)
  change wpList _ _ _ _ _ (World.drew w1)
  go_wp2_with (go_at_call 39; refine (off_h HB.out.drew 0 p _ rfl num hn s' AD.out).mono ?_; rintro e w4 ⟨rfl, hs⟩; have H4 : Aside0 (Has w0 w4 [spoolA p s', refA q t.sp, pairA c p q (.pointer (some ⟨tp, 0, none⟩)) (.pointer (some ⟨tq, 0, none⟩)), tapeB 105 tp p t.l t.lost, tapeB 101 tq q t.l t.lost, blkA w.heap.size (.cells #[.int .i64 4, .slice B m1 d, .slice C m d2, .int .i64 num] 93 (0, 0))]) := Aside0.mk hs; have f4 := blk_cell (H4.out.blk 5 rfl) 3; have g4 := blk_cell (H4.out.blk 2 rfl) 2; simp at f4 g4; clear hs)
  go_still_tail 6, (by kernel_rfl)
  change wpList _ _ _ _ _ (World.drew w4)
  go_wp2_with (go_at_call 52; refine (roff_h H4.out.drew 1 q _ rfl num hn s' AD.out).mono ?_; rintro e w5 ⟨rfl, hs⟩; have H5 : Aside0 (Has w0 w5 [spoolA p s', refA q s', pairA c p q (.pointer (some ⟨tp, 0, none⟩)) (.pointer (some ⟨tq, 0, none⟩)), tapeB 105 tp p t.l t.lost, tapeB 101 tq q t.l t.lost, blkA w.heap.size (.cells #[.int .i64 4, .slice B m1 d, .slice C m d2, .int .i64 num] 93 (0, 0))]) := Aside0.mk hs; clear hs)
  go_ret
  exact ⟨rfl, H5.out.drop 5⟩
/-- What stands behind an opening. -/
def Opened (w0 w' : World) (c p q : Nat) (s : Sp) : Prop :=
  (∃ tp tq l s', opn s = (0, some l, s') ∧ Has w0 w' (Pair c p q tp tq ⟨s', l, false⟩)) ∨ ∃ s', Has w0 w' [spoolA p s', refA q s', pairA c p q (.pointer none) (.pointer none)]
theorem opened_of {b : Asr} {vt vm : Value} {s : Sp} (H : Has w0 w (spoolA p s :: refA q s :: pairA c p q vt vm :: [b])) :
    Calls Try.prog 59 #[.pointer (some ⟨c, 0, none⟩)] w fun e w' => e = .returned (.bool true) ∧ Opened w0 w' c p q s := by
  rcases opn_ways s with ⟨l, s', ho⟩ | ⟨e1, s', ho⟩
  · refine (reopen_yes H l s' ho).mono ?_
    rintro e w' ⟨tp, tq, rfl, h⟩
    exact ⟨rfl, .inl ⟨tp, tq, l, s', ho, h.drop 3⟩⟩
  · refine (reopen_no H e1 s' ho).mono ?_
    rintro e w' ⟨rfl, h⟩
    exact ⟨rfl, .inr ⟨s', h.drop 3⟩⟩
set_option maxHeartbeats 1000000 in
set_option maxRecDepth 100000 in
theorem does_crash (H0 : Has w0 w (Pair c p q tp tq t)) (B : Option Addr) (m1 d : Nat) (C : Option Addr) (m d2 : Nat) (num : Int) (s' : Sp) (hs' : t.sp.crash num = s') :
    Calls Try.prog 66 #[.pointer (some ⟨c, 0, none⟩), .agg #[.int .i64 5, .slice B m1 d, .slice C m d2, .int .i64 num]] w fun e0 w' => e0 = .returned (.bool true) ∧ Opened w0 w' c p q s' := by
  obtain ⟨w1, hw1⟩ : ∃ w1, w1 = w.alloc (.cells #[.int .i64 5, .slice B m1 d, .slice C m d2, .int .i64 num] 93) := ⟨_, rfl⟩
  have HB := Aside0.mk (H0.addO (.cells #[.int .i64 5, .slice B m1 d, .slice C m d2, .int .i64 num] 93))
  rw [← hw1] at HB
  have HW := Lib.hid hw1
  have f3 := blk_cell (HB.out.blk 5 rfl) 3
  have AD := Aside0.mk hs'
  have g3 := blk_cell (HB.out.blk 2 rfl) 0
  simp at f3 g3
  clear H0 hs' hw1
  go_enter Try.func66, Try.ntmps66
  go_wp2_with fail
  rw [← HW.out]
  go_still_tail 6, (by kernel_rfl)
  change wpList _ _ _ _ _ (World.drew w1)
  go_wp2_with (go_at_call 44; refine (crash_h HB.out.drew 0 p _ rfl num s' AD.out).mono ?_; rintro e w4 ⟨rfl, hs⟩; have H4 : Aside0 (Has w0 w4 [spoolA p s', refA q t.sp, pairA c p q (.pointer (some ⟨tp, 0, none⟩)) (.pointer (some ⟨tq, 0, none⟩)), tapeB 105 tp p t.l t.lost, tapeB 101 tq q t.l t.lost, blkA w.heap.size (.cells #[.int .i64 5, .slice B m1 d, .slice C m d2, .int .i64 num] 93 (0, 0))]) := Aside0.mk hs; have f4 := blk_cell (H4.out.blk 5 rfl) 3; have g4 := blk_cell (H4.out.blk 2 rfl) 2; simp at f4 g4; clear hs)
  go_still_tail 6, (by kernel_rfl)
  change wpList _ _ _ _ _ (World.drew w4)
  go_wp2_with (first
    | (go_at_call 59; have _t := H5.out; clear _t; refine (opened_of H5.out).mono ?_; rintro e w9 ⟨rfl, ho⟩; have H9 := Aside0.mk ho; clear ho)
    | (go_at_call 53; refine (rcrash_h H4.out.drew 1 q _ rfl num s' AD.out).mono ?_; rintro e w5 ⟨rfl, hs⟩; have H5 : Aside0 (Has w0 w5 (spoolA p s' :: refA q s' :: pairA c p q (.pointer (some ⟨tp, 0, none⟩)) (.pointer (some ⟨tq, 0, none⟩)) :: [blkA w.heap.size (.cells #[.int .i64 5, .slice B m1 d, .slice C m d2, .int .i64 num] 93 (0, 0))])) := Aside0.mk ((hs.drop 4).drop 3); clear hs))
  go_ret
  exact ⟨rfl, H9.out⟩
set_option maxHeartbeats 1000000 in
set_option maxRecDepth 100000 in
theorem does_open (H0 : Has w0 w (Pair c p q tp tq t)) (kd : Int) (z0 : (kd == 0) = false) (z1 : (kd == 1) = false) (z2 : (kd == 2) = false) (z3 : (kd == 3) = false) (z4 : (kd == 4) = false) (z5 : (kd == 5) = false) (B : Option Addr) (m1 d : Nat) (C : Option Addr) (m d2 : Nat) (num : Int) :
    Calls Try.prog 66 #[.pointer (some ⟨c, 0, none⟩), .agg #[.int .i64 kd, .slice B m1 d, .slice C m d2, .int .i64 num]] w fun e0 w' => e0 = .returned (.bool true) ∧ Opened w0 w' c p q t.sp := by
  have HB : Aside0 (Has w0 (w.alloc (.cells #[.int .i64 kd, .slice B m1 d, .slice C m d2, .int .i64 num] 93)) (spoolA p t.sp :: refA q t.sp :: pairA c p q (.pointer (some ⟨tp, 0, none⟩)) (.pointer (some ⟨tq, 0, none⟩)) :: [blkA w.heap.size (.cells #[.int .i64 kd, .slice B m1 d, .slice C m d2, .int .i64 num] 93 (0, 0))])) := Aside0.mk (((H0.addO (.cells #[.int .i64 kd, .slice B m1 d, .slice C m d2, .int .i64 num] 93)).drop 4).drop 3)
  clear H0
  go_enter Try.func66, Try.ntmps66
  go_wp2_with (go_at_call 59; have _t := HB.out; clear _t; refine (opened_of HB.out).mono ?_; rintro e w9 ⟨rfl, ho⟩; have H9 := Aside0.mk ho; clear ho)
  go_ret
  exact ⟨rfl, H9.out⟩
end
/-- A pair behind an act: with its two tapes, or without. -/
def Behind (w0 w' : World) (c p q : Nat) : Prop :=
  (∃ tp tq t, Ts.Ok t ∧ Has w0 w' (Pair c p q tp tq t)) ∨ ∃ s', Has w0 w' [spoolA p s', refA q s', pairA c p q (.pointer none) (.pointer none)]
theorem Opened.behind {w0 w' : World} {c p q : Nat} {s : Sp} (hs : s.Ok) (h : Opened w0 w' c p q s) : Behind w0 w' c p q := by
  rcases h with ⟨tp, tq, l, s', ho, h⟩ | h
  · refine .inl ⟨tp, tq, _, ?_, h⟩
    have := (opn_ok hs).2 l (by rw [ho])
    rw [ho] at this
    exact this
  · exact .inr h
theorem does_calls {w0 w : World} {c p q tp tq : Nat} {t : Ts} (H0 : Has w0 w (Pair c p q tp tq t)) (hok : t.Ok) (x : Act9) (B : Option Addr) (d : Nat) (hr : kb.C w0 B x.r.length x.r) (hd : x.r.length ≤ d) (hl : x.r.length ≤ 140737488351232) (C : Option Addr) (d2 : Nat) (hc : klb.C w0 C x.l.length x.l) (hn : i64 x.n) :
    Calls Try.prog 66 #[.pointer (some ⟨c, 0, none⟩), .agg #[.int .i64 x.kind, .slice B x.r.length d, .slice C x.l.length d2, .int .i64 x.n]] w fun e w' => e = .returned (.bool true) ∧ Behind w0 w' c p q := by
  obtain ⟨kd, r, l, n⟩ := x
  simp only at hr hd hl hc hn ⊢
  rcases (show kd = 0 ∨ kd = 1 ∨ kd = 2 ∨ kd = 3 ∨ kd = 4 ∨ kd = 5 ∨ ((kd == 0) = false ∧ (kd == 1) = false ∧ (kd == 2) = false ∧ (kd == 3) = false ∧ (kd == 4) = false ∧ (kd == 5) = false) by
    simp only [beq_eq_false_iff_ne]; omega) with rfl | rfl | rfl | rfl | rfl | rfl | ⟨z0, z1, z2, z3, z4, z5⟩
  · exact (does_add0 H0 hok r B d hr hd hl C l.length d2 n _ _ rfl).mono fun e w' h => ⟨h.1, .inl ⟨tp, tq, _, hok.add r, h.2⟩⟩
  · exact (does_add1 H0 hok r B d hr hd hl C l.length d2 n _ _ rfl).mono fun e w' h => ⟨h.1, .inl ⟨tp, tq, _, hok.add r, h.2⟩⟩
  · exact (does_add2 H0 hok r B d hr hd hl C l.length d2 n _ _ rfl).mono fun e w' h => ⟨h.1, .inl ⟨tp, tq, _, hok.add r, h.2⟩⟩
  · exact (does_pack H0 hok l C d2 hc B r.length d n _ _ rfl).mono fun e w' h => ⟨h.1, .inl ⟨tp, tq, _, hok.pack l, h.2⟩⟩
  · exact (does_off H0 B r.length d C l.length d2 n hn.2 _ rfl).mono fun e w' h => ⟨h.1, .inl ⟨tp, tq, ⟨t.sp.setOff n, t.l, t.lost⟩, ⟨hok.sp.setOff n hn.2, hok.len, hok.fit⟩, h.2⟩⟩
  · exact (does_crash H0 B r.length d C l.length d2 n _ rfl).mono fun e w' h => ⟨h.1, h.2.behind (hok.sp.crash n)⟩
  · exact (does_open H0 kd z0 z1 z2 z3 z4 z5 B r.length d C l.length d2 n).mono fun e w' h => ⟨h.1, h.2.behind hok.sp⟩
end Go.Proofs.Ytahaoakolgomdaa
