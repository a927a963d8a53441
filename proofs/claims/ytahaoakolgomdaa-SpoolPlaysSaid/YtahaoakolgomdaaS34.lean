/- The walk of the law SpoolPlays. -/
import Derived.Test.YtahaoakolgomdaaS31
import Derived.Test.YtahaoakolgomdaaS32
namespace Go.Proofs.Ytahaoakolgomdaa
open Go.RowKit Go.Proofs.YtahaoakolgomdaaW.PrintWords Go.Proofs.YtahaoakolgomdaaW.PrintLast Go.Proofs.YtahaoakolgomdaaW.PrintMore
set_option linter.unusedVariables false
set_option linter.unusedSimpArgs false

theorem Sp.len_bytes (s : Sp) : s.len = s.bytes.length := by unfold Sp.len Sp.bytes; split <;> rfl
theorem Sp.bytes_len {s : Sp} (h : s.Ok) : s.bytes.length ≤ 1048576 := by
  have h1 := h.len
  have h2 := h.room
  unfold Sp.bytes; split
  · simp
  · omega
set_option maxHeartbeats 2000000 in
set_option maxRecDepth 100000 in
theorem spoolPlays_calls (room : Int) (hr1 : 1 ≤ room) (hr2 : room ≤ 1048576) (l : List Act8) (A : Option Addr) (c : Nat) (w : World) (h : Act8s w A l) (hl : long8 l = false) :
    Calls Try.prog 11 #[.int .i64 room, .slice A l.length c] w fun e w' => e = .returned (.bool true) ∧ Below w.heap.size w w' := by
  have hm : l.length ≤ 9223372036854775807 := h.1
  have H := Aside0.mk h
  have HL := Lib.hid hl
  obtain ⟨s0, hs0⟩ : ∃ s0, Sp.new room.toNat = s0 := ⟨_, rfl⟩
  have HS0 := Lib.hid hs0
  clear h hl hs0
  go_enter Try.func11, Try.ntmps11
  go_wp2_with (first
    | (go_at_call 36; refine (long8_calls l A c _ H.out).mono ?_; rw [HL.out]; rintro e w' ⟨rfl, hw⟩; obtain rfl := hw.symm; clear hw)
    | (go_at_call 38; refine (new_h _ room hr1 hr2 s0 HS0.out).mono ?_; rintro e w1 ⟨p, rfl, hf⟩; have H1 : Aside0 (Has w w1 [spoolA p s0]) := Aside0.mk ((Has.start w).addE hf); clear hf)
    | (go_at_call 47; refine (rnew_h _ room hr1 hr2 s0 HS0.out).mono ?_; rintro e w2 ⟨q, rfl, hf⟩; have H2 : Aside0 (Has w w2 [spoolA p s0, refA q s0]) := Aside0.mk (H1.out.addE hf); clear hf))
  go_loopw [9] (fun i wr => ∃ (k : Nat) (s : Sp), i = .int .i64 k ∧ k ≤ l.length ∧ k ≤ 100 ∧ Aside0 (Has w wr [spoolA p s, refA q s])) (fun i _ => 100 - (intOf i).toNat)
  case atStart => exact ⟨0, s0, rfl, Nat.zero_le _, by omega, H2⟩
  case round =>
    obtain ⟨k, s, rfl, hk, hk1, HS⟩ := hrel
    by_cases hgo : k < l.length ∧ k < 100
    · obtain ⟨hlt, hlt1⟩ := hgo
      obtain ⟨x, hx⟩ : ∃ x, l[k]? = some x := ⟨_, List.getElem?_eq_getElem hlt⟩
      obtain ⟨ad, rfl, hat⟩ := H.out.2 k x hx
      have hat2 := hat.below HS.out.old
      obtain ⟨B, d, k1', l1, r1⟩ := hat.bytes
      have k1 := pw_cell_below HS.out.old k1'
      have R1 := Aside0.mk r1
      have hx3 := long8_no HL.out k (by omega) x hx
      have k0 := hat2.kind
      have k2 := hat2.num
      have hk64 := hat.k64
      have hn64 := hat.n64
      rw [add_pos _ 1 (by omega)] at k1
      rw [add_pos _ 2 (by omega)] at k2
      obtain ⟨kd, hkd⟩ : ∃ kd, kd = x.kind := ⟨_, rfl⟩
      obtain ⟨num, hnum⟩ : ∃ num, num = x.n := ⟨_, rfl⟩
      rw [← hkd] at k0 hk64
      rw [← hnum] at k2 hn64
      unfold i64 at hk64 hn64
      have hn9 := hn64.2
      clear hat hat2 r1 hx k1' hkd hnum
      go_upto_block 2 with fail
      go_cut [11, 12] (fun a b wx => ∃ (r : Int) (s' : Sp), a = .int .i64 r ∧ b = .int .i64 r ∧ Aside0 (Has w wx [spoolA p s', refA q s']))
      case first =>
        have HB := Aside0.mk (HS.out.addO (.cells #[.int .i64 kd, .slice B x.b.length d, .int .i64 num] 62))
        clear k0 k1 k2
        rcases (show (kd = 0 ∨ kd = 1 ∨ kd = 2) ∨ kd = 3 ∨ kd = 4 ∨ kd = 5 ∨ ((kd == 0) = false ∧ (kd == 1) = false ∧ (kd == 2) = false ∧ (kd == 3) = false ∧ (kd == 4) = false ∧ (kd == 5) = false) by
          simp only [beq_eq_false_iff_ne]; omega) with hc | rfl | rfl | rfl | ⟨z0, z1, z2, z3, z4, z5⟩
        · obtain ⟨r, s', AD⟩ : ∃ r s', s.add x.b = (r, s') := ⟨_, _, rfl⟩
          have AD := Aside0.mk AD
          rcases hc with rfl | rfl | rfl
          · go_wp2_with (first
              | (go_at_call 24; refine (spoil_h H6.out 3 _ _ rfl).mono ?_; rintro e w7 ⟨rfl, ys, hys, hs⟩; have H7 : Aside0 (Has w w7 [spoolA p s', refA q s', blkA wr.heap.size (.cells #[.int .i64 0, .slice B x.b.length d, .int .i64 num] 62 (0, 0)), bytesA (.slice (some ⟨g, 0, none⟩) x.b.length c1) ys]) := Aside0.mk hs; clear hs hys)
              | (go_at_call 23; refine (whole_calls x.b g c1 B d 0 _ (H5.out.bytes 3 rfl) (Kd.C_below R1.out H5.out.old) (by omega)).mono ?_; rintro e w' ⟨rfl, hw⟩; obtain rfl := hw.symm; clear hw; have H6 : Aside0 (Has w w5 [spoolA p s', refA q s', blkA wr.heap.size (.cells #[.int .i64 0, .slice B x.b.length d, .int .i64 num] 62 (0, 0)), bytesA (.slice (some ⟨g, 0, none⟩) x.b.length c1) x.b]) := Aside0.mk (H5.out.imp 3 _ (bytesA (.slice (some ⟨g, 0, none⟩) x.b.length c1) x.b) rfl fun F h => ⟨LentAt.own h.1, h.2⟩))
              | (go_at_call 48; refine (radd_h H4.out 1 q _ rfl x.b x.b.length rfl B d (Kd.C_below R1.out H4.out.old) (by omega) r s' AD.out).mono ?_; rintro e w5 ⟨rfl, hs⟩; have H5 : Aside0 (Has w w5 [spoolA p s', refA q s', blkA wr.heap.size (.cells #[.int .i64 0, .slice B x.b.length d, .int .i64 num] 62 (0, 0)), bytesA (.slice (some ⟨g, 0, none⟩) (x.b.length + 2) c1) (x.b ++ [91, 92])]) := Aside0.mk hs; have f5 := blk_cell (H5.out.blk 2 rfl) 1; simp at f5; clear hs)
              | (go_at_call 41; refine (add_h H3.out 0 p _ rfl x.b x.b.length rfl (some ⟨g, 0, none⟩) c1 (LentAt.reads (H3.out.bytes 3 rfl)).2 (by have := (LentAt.reads (H3.out.bytes 3 rfl)).1; omega) r s' AD.out).mono ?_; rintro e w4 ⟨rfl, hs⟩; have H4 : Aside0 (Has w w4 [spoolA p s', refA q s, blkA wr.heap.size (.cells #[.int .i64 0, .slice B x.b.length d, .int .i64 num] 62 (0, 0)), bytesA (.slice (some ⟨g, 0, none⟩) (x.b.length + 2) c1) (x.b ++ [91, 92])]) := Aside0.mk hs; have f4 := blk_cell (H4.out.blk 2 rfl) 1; simp at f4; clear hs)
              | (go_at_call 20; refine (lent_calls x.b B d _ (Kd.C_below R1.out HB.out.old) (by omega)).mono ?_; rintro e w3 ⟨g, c1, rfl, hla, hb⟩; have H3 : Aside0 (Has w w3 [spoolA p s, refA q s, blkA wr.heap.size (.cells #[.int .i64 0, .slice B x.b.length d, .int .i64 num] 62 (0, 0)), bytesA (.slice (some ⟨g, 0, none⟩) (x.b.length + 2) c1) (x.b ++ [91, 92])]) := Aside0.mk (HB.out.addE (Fresh.bytes hla hb)); clear hla hb))
            go_meet
            exact ⟨r, s', rfl, rfl, ⟨(H7.out.drop 3).drop 2⟩⟩
          · go_wp2_with (first
              | (go_at_call 24; refine (spoil_h H6.out 3 _ _ rfl).mono ?_; rintro e w7 ⟨rfl, ys, hys, hs⟩; have H7 : Aside0 (Has w w7 [spoolA p s', refA q s', blkA wr.heap.size (.cells #[.int .i64 1, .slice B x.b.length d, .int .i64 num] 62 (0, 0)), bytesA (.slice (some ⟨g, 0, none⟩) x.b.length c1) ys]) := Aside0.mk hs; clear hs hys)
              | (go_at_call 23; refine (whole_calls x.b g c1 B d 0 _ (H5.out.bytes 3 rfl) (Kd.C_below R1.out H5.out.old) (by omega)).mono ?_; rintro e w' ⟨rfl, hw⟩; obtain rfl := hw.symm; clear hw; have H6 : Aside0 (Has w w5 [spoolA p s', refA q s', blkA wr.heap.size (.cells #[.int .i64 1, .slice B x.b.length d, .int .i64 num] 62 (0, 0)), bytesA (.slice (some ⟨g, 0, none⟩) x.b.length c1) x.b]) := Aside0.mk (H5.out.imp 3 _ (bytesA (.slice (some ⟨g, 0, none⟩) x.b.length c1) x.b) rfl fun F h => ⟨LentAt.own h.1, h.2⟩))
              | (go_at_call 48; refine (radd_h H4.out 1 q _ rfl x.b x.b.length rfl B d (Kd.C_below R1.out H4.out.old) (by omega) r s' AD.out).mono ?_; rintro e w5 ⟨rfl, hs⟩; have H5 : Aside0 (Has w w5 [spoolA p s', refA q s', blkA wr.heap.size (.cells #[.int .i64 1, .slice B x.b.length d, .int .i64 num] 62 (0, 0)), bytesA (.slice (some ⟨g, 0, none⟩) (x.b.length + 2) c1) (x.b ++ [91, 92])]) := Aside0.mk hs; have f5 := blk_cell (H5.out.blk 2 rfl) 1; simp at f5; clear hs)
              | (go_at_call 41; refine (add_h H3.out 0 p _ rfl x.b x.b.length rfl (some ⟨g, 0, none⟩) c1 (LentAt.reads (H3.out.bytes 3 rfl)).2 (by have := (LentAt.reads (H3.out.bytes 3 rfl)).1; omega) r s' AD.out).mono ?_; rintro e w4 ⟨rfl, hs⟩; have H4 : Aside0 (Has w w4 [spoolA p s', refA q s, blkA wr.heap.size (.cells #[.int .i64 1, .slice B x.b.length d, .int .i64 num] 62 (0, 0)), bytesA (.slice (some ⟨g, 0, none⟩) (x.b.length + 2) c1) (x.b ++ [91, 92])]) := Aside0.mk hs; have f4 := blk_cell (H4.out.blk 2 rfl) 1; simp at f4; clear hs)
              | (go_at_call 20; refine (lent_calls x.b B d _ (Kd.C_below R1.out HB.out.old) (by omega)).mono ?_; rintro e w3 ⟨g, c1, rfl, hla, hb⟩; have H3 : Aside0 (Has w w3 [spoolA p s, refA q s, blkA wr.heap.size (.cells #[.int .i64 1, .slice B x.b.length d, .int .i64 num] 62 (0, 0)), bytesA (.slice (some ⟨g, 0, none⟩) (x.b.length + 2) c1) (x.b ++ [91, 92])]) := Aside0.mk (HB.out.addE (Fresh.bytes hla hb)); clear hla hb))
            go_meet
            exact ⟨r, s', rfl, rfl, ⟨(H7.out.drop 3).drop 2⟩⟩
          · go_wp2_with (first
              | (go_at_call 24; refine (spoil_h H6.out 3 _ _ rfl).mono ?_; rintro e w7 ⟨rfl, ys, hys, hs⟩; have H7 : Aside0 (Has w w7 [spoolA p s', refA q s', blkA wr.heap.size (.cells #[.int .i64 2, .slice B x.b.length d, .int .i64 num] 62 (0, 0)), bytesA (.slice (some ⟨g, 0, none⟩) x.b.length c1) ys]) := Aside0.mk hs; clear hs hys)
              | (go_at_call 23; refine (whole_calls x.b g c1 B d 0 _ (H5.out.bytes 3 rfl) (Kd.C_below R1.out H5.out.old) (by omega)).mono ?_; rintro e w' ⟨rfl, hw⟩; obtain rfl := hw.symm; clear hw; have H6 : Aside0 (Has w w5 [spoolA p s', refA q s', blkA wr.heap.size (.cells #[.int .i64 2, .slice B x.b.length d, .int .i64 num] 62 (0, 0)), bytesA (.slice (some ⟨g, 0, none⟩) x.b.length c1) x.b]) := Aside0.mk (H5.out.imp 3 _ (bytesA (.slice (some ⟨g, 0, none⟩) x.b.length c1) x.b) rfl fun F h => ⟨LentAt.own h.1, h.2⟩))
              | (go_at_call 48; refine (radd_h H4.out 1 q _ rfl x.b x.b.length rfl B d (Kd.C_below R1.out H4.out.old) (by omega) r s' AD.out).mono ?_; rintro e w5 ⟨rfl, hs⟩; have H5 : Aside0 (Has w w5 [spoolA p s', refA q s', blkA wr.heap.size (.cells #[.int .i64 2, .slice B x.b.length d, .int .i64 num] 62 (0, 0)), bytesA (.slice (some ⟨g, 0, none⟩) (x.b.length + 2) c1) (x.b ++ [91, 92])]) := Aside0.mk hs; have f5 := blk_cell (H5.out.blk 2 rfl) 1; simp at f5; clear hs)
              | (go_at_call 41; refine (add_h H3.out 0 p _ rfl x.b x.b.length rfl (some ⟨g, 0, none⟩) c1 (LentAt.reads (H3.out.bytes 3 rfl)).2 (by have := (LentAt.reads (H3.out.bytes 3 rfl)).1; omega) r s' AD.out).mono ?_; rintro e w4 ⟨rfl, hs⟩; have H4 : Aside0 (Has w w4 [spoolA p s', refA q s, blkA wr.heap.size (.cells #[.int .i64 2, .slice B x.b.length d, .int .i64 num] 62 (0, 0)), bytesA (.slice (some ⟨g, 0, none⟩) (x.b.length + 2) c1) (x.b ++ [91, 92])]) := Aside0.mk hs; have f4 := blk_cell (H4.out.blk 2 rfl) 1; simp at f4; clear hs)
              | (go_at_call 20; refine (lent_calls x.b B d _ (Kd.C_below R1.out HB.out.old) (by omega)).mono ?_; rintro e w3 ⟨g, c1, rfl, hla, hb⟩; have H3 : Aside0 (Has w w3 [spoolA p s, refA q s, blkA wr.heap.size (.cells #[.int .i64 2, .slice B x.b.length d, .int .i64 num] 62 (0, 0)), bytesA (.slice (some ⟨g, 0, none⟩) (x.b.length + 2) c1) (x.b ++ [91, 92])]) := Aside0.mk (HB.out.addE (Fresh.bytes hla hb)); clear hla hb))
            go_meet
            exact ⟨r, s', rfl, rfl, ⟨(H7.out.drop 3).drop 2⟩⟩
        · obtain ⟨r, s', AD⟩ : ∃ r s', s.sync = (r, s') := ⟨_, _, rfl⟩
          have AD := Aside0.mk AD
          go_wp2_with (first
            | (go_at_call 49; refine (rsync_h H3.out 1 q _ rfl r s' AD.out).mono ?_; rintro e w4 ⟨rfl, hs⟩; have H4 : Aside0 (Has w w4 [spoolA p s', refA q s', blkA wr.heap.size (.cells #[.int .i64 3, .slice B x.b.length d, .int .i64 num] 62 (0, 0))]) := Aside0.mk hs; clear hs)
            | (go_at_call 40; refine (sync_h HB.out 0 p _ rfl r s' AD.out).mono ?_; rintro e w3 ⟨rfl, hs⟩; have H3 : Aside0 (Has w w3 [spoolA p s', refA q s, blkA wr.heap.size (.cells #[.int .i64 3, .slice B x.b.length d, .int .i64 num] 62 (0, 0))]) := Aside0.mk hs; clear hs))
          go_meet
          exact ⟨r, s', rfl, rfl, ⟨H4.out.drop 2⟩⟩
        · obtain ⟨r, s', AD⟩ : ∃ r s', s.cut num = (r, s') := ⟨_, _, rfl⟩
          have AD := Aside0.mk AD
          go_wp2_with (first
            | (go_at_call 51; refine (rcut_h H3.out 1 q _ rfl num r s' AD.out).mono ?_; rintro e w4 ⟨rfl, hs⟩; have H4 : Aside0 (Has w w4 [spoolA p s', refA q s', blkA wr.heap.size (.cells #[.int .i64 4, .slice B x.b.length d, .int .i64 num] 62 (0, 0))]) := Aside0.mk hs; clear hs)
            | (go_at_call 50; refine (cut_h HB.out 0 p _ rfl num r s' AD.out).mono ?_; rintro e w3 ⟨rfl, hs⟩; have H3 : Aside0 (Has w w3 [spoolA p s', refA q s, blkA wr.heap.size (.cells #[.int .i64 4, .slice B x.b.length d, .int .i64 num] 62 (0, 0))]) := Aside0.mk hs; have f3 := blk_cell (H3.out.blk 2 rfl) 2; simp at f3; clear hs))
          go_meet
          exact ⟨r, s', rfl, rfl, ⟨H4.out.drop 2⟩⟩
        · obtain ⟨s', AD⟩ : ∃ s', s.setOff num = s' := ⟨_, rfl⟩
          have AD := Aside0.mk AD
          go_wp2_with (first
            | (go_at_call 52; refine (roff_h H3.out 1 q _ rfl num hn9 s' AD.out).mono ?_; rintro e w4 ⟨rfl, hs⟩; have H4 : Aside0 (Has w w4 [spoolA p s', refA q s', blkA wr.heap.size (.cells #[.int .i64 5, .slice B x.b.length d, .int .i64 num] 62 (0, 0))]) := Aside0.mk hs; clear hs)
            | (go_at_call 39; refine (off_h HB.out 0 p _ rfl num hn9 s' AD.out).mono ?_; rintro e w3 ⟨rfl, hs⟩; have H3 : Aside0 (Has w w3 [spoolA p s', refA q s, blkA wr.heap.size (.cells #[.int .i64 5, .slice B x.b.length d, .int .i64 num] 62 (0, 0))]) := Aside0.mk hs; have f3 := blk_cell (H3.out.blk 2 rfl) 2; simp at f3; clear hs))
          go_meet
          exact ⟨0, s', rfl, rfl, ⟨H4.out.drop 2⟩⟩
        · obtain ⟨s', AD⟩ : ∃ s', s.crash num = s' := ⟨_, rfl⟩
          have AD := Aside0.mk AD
          go_wp2_with (first
            | (go_at_call 53; refine (rcrash_h H3.out 1 q _ rfl num s' AD.out).mono ?_; rintro e w4 ⟨rfl, hs⟩; have H4 : Aside0 (Has w w4 [spoolA p s', refA q s', blkA wr.heap.size (.cells #[.int .i64 kd, .slice B x.b.length d, .int .i64 num] 62 (0, 0))]) := Aside0.mk hs; clear hs)
            | (go_at_call 44; refine (crash_h HB.out 0 p _ rfl num s' AD.out).mono ?_; rintro e w3 ⟨rfl, hs⟩; have H3 : Aside0 (Has w w3 [spoolA p s', refA q s, blkA wr.heap.size (.cells #[.int .i64 kd, .slice B x.b.length d, .int .i64 num] 62 (0, 0))]) := Aside0.mk hs; have f3 := blk_cell (H3.out.blk 2 rfl) 2; simp at f3; clear hs))
          go_meet
          exact ⟨0, s', rfl, rfl, ⟨H4.out.drop 2⟩⟩
      case rest =>
        obtain ⟨r, s', rfl, rfl, HC⟩ := hcut
        obtain ⟨y, hy⟩ : ∃ y, s'.bytes = y := ⟨_, rfl⟩
        have HY := Aside0.mk hy
        have LY := Aside0.mk (show s'.len = y.length by rw [← hy]; exact Sp.len_bytes s')
        have hyl : y.length ≤ 1048576 := by
          obtain ⟨v, hv⟩ := HC.out.spool 0 rfl
          rw [← hy]; exact Sp.bytes_len hv.ok
        clear hy
        rcases (show s'.off = true ∨ s'.off = false by cases s'.off <;> simp) with ho | ho
        · have HON := Lib.hid (show s'.off = !false by rw [ho]; rfl)
          have HSU := Lib.hid (show s'.sureN = 0 by unfold Sp.sureN; rw [if_pos ho])
          have HO := Lib.hid ho
          clear ho
          go_wp2_with (first
            | (go_at_call 54; refine (rall_h HC.out 1 q _ rfl y HY.out y.length rfl).mono ?_; rintro e w4 ⟨A4, c4, rfl, hf⟩; have H4 : Aside0 (Has w w4 [spoolA p s', refA q s', bytesA (.slice A4 y.length c4) y]) := Aside0.mk (HC.out.addE hf); clear hf)
            | (go_at_call 43; refine (bytes_h H4.out 0 p _ rfl y HY.out y.length rfl).mono ?_; rintro e w5 ⟨A5, c5, rfl, hf⟩; have H5 : Aside0 (Has w w5 [spoolA p s', refA q s', bytesA (.slice A4 y.length c4) y, bytesA (.slice A5 y.length c5) y]) := Aside0.mk (H4.out.addE hf); obtain ⟨v1, v2, hs⟩ := H5.out.ref 1 rfl; obtain ⟨F1, e1, rfl, _, _⟩ := hs.firm.reads; have q0 := hs.cell 0; have q4 := hs.cell 4; simp only [List.getElem?_toArray, List.getElem?_cons_zero, List.getElem?_cons_succ] at q0 q4; rw [HO.out] at q4; clear hf hs))
          go_quiet ((first
            | (go_at_call 27; exact Calls.quiet_of_same (same_n y y _ _ rfl rfl _ _ _ _ _ (H5.out.drewN _ |>.readB 3 rfl).2.2 (H5.out.drewN _ |>.readB 2 rfl).2.2 true (sameB_self _)))
            | (go_at_call 46; exact Calls.quiet_of_same (len_h (H5.out.drewN _) 0 p _ rfl y.length LY.out))
            | (go_at_call 45; exact Calls.quiet_of_same (sure_h (H5.out.drewN _) 0 p _ rfl 0 HSU.out))
            | (go_at_call 42; exact Calls.quiet_of_same (on_h (H5.out.drewN _) 0 p _ rfl false HON.out))))
          go_wp2_with (go_at_call 24; refine (spoil_h (H5.out.drewN nq) 3 _ _ rfl).mono ?_; rintro e w7 ⟨rfl, ys, hys, hs⟩; have H7 : Aside0 (Has w w7 [spoolA p s', refA q s', bytesA (.slice A4 y.length c4) y, bytesA (.slice A5 y.length c5) ys]) := Aside0.mk hs; clear hs hys)
          go_roundw
          case rel => exact ⟨k + 1, s', by go_num, by omega, by omega, ⟨(H7.out.drop 3).drop 2⟩⟩
          case measure => simp [intOf]; omega
        · have HON := Lib.hid (show s'.off = !true by rw [ho]; rfl)
          have HSU := Lib.hid (show s'.sureN = s'.sure by unfold Sp.sureN; rw [if_neg (by simp [ho])])
          have HO := Lib.hid ho
          clear ho
          go_wp2_with (first
            | (go_at_call 54; refine (rall_h HC.out 1 q _ rfl y HY.out y.length rfl).mono ?_; rintro e w4 ⟨A4, c4, rfl, hf⟩; have H4 : Aside0 (Has w w4 [spoolA p s', refA q s', bytesA (.slice A4 y.length c4) y]) := Aside0.mk (HC.out.addE hf); clear hf)
            | (go_at_call 43; refine (bytes_h H4.out 0 p _ rfl y HY.out y.length rfl).mono ?_; rintro e w5 ⟨A5, c5, rfl, hf⟩; have H5 : Aside0 (Has w w5 [spoolA p s', refA q s', bytesA (.slice A4 y.length c4) y, bytesA (.slice A5 y.length c5) y]) := Aside0.mk (H4.out.addE hf); obtain ⟨v1, v2, hs⟩ := H5.out.ref 1 rfl; obtain ⟨F1, e1, rfl, _, _⟩ := hs.firm.reads; have q0 := hs.cell 0; have q4 := hs.cell 4; simp only [List.getElem?_toArray, List.getElem?_cons_zero, List.getElem?_cons_succ] at q0 q4; rw [HO.out] at q4; rw [show (s'.b.take s'.sure).length = s'.sure by rw [List.length_take]; have := hs.ok.sure; omega] at q0; clear hf hs))
          go_quiet ((first
            | (go_at_call 27; exact Calls.quiet_of_same (same_n y y _ _ rfl rfl _ _ _ _ _ (H5.out.drewN _ |>.readB 3 rfl).2.2 (H5.out.drewN _ |>.readB 2 rfl).2.2 true (sameB_self _)))
            | (go_at_call 46; exact Calls.quiet_of_same (len_h (H5.out.drewN _) 0 p _ rfl y.length LY.out))
            | (go_at_call 45; exact Calls.quiet_of_same (sure_h (H5.out.drewN _) 0 p _ rfl s'.sure HSU.out))
            | (go_at_call 42; exact Calls.quiet_of_same (on_h (H5.out.drewN _) 0 p _ rfl true HON.out))))
          go_wp2_with (go_at_call 24; refine (spoil_h (H5.out.drewN nq) 3 _ _ rfl).mono ?_; rintro e w7 ⟨rfl, ys, hys, hs⟩; have H7 : Aside0 (Has w w7 [spoolA p s', refA q s', bytesA (.slice A4 y.length c4) y, bytesA (.slice A5 y.length c5) ys]) := Aside0.mk hs; clear hs hys)
          go_roundw
          case rel => exact ⟨k + 1, s', by go_num, by omega, by omega, ⟨(H7.out.drop 3).drop 2⟩⟩
          case measure => simp [intOf]; omega
    · have hex : ¬ (k < l.length) ∨ (k < l.length ∧ ¬ k < 100) := by omega
      clear hgo
      rcases hex with hex | ⟨hex, hex1⟩
      all_goals
        go_wp2_with (go_at_call 37; refine (known18_calls _).mono ?_; rintro e w8 ⟨rfl, hb⟩; have H8 := Aside0.mk (HS.out.none.below hb); clear hb)
        go_ret
        exact ⟨rfl, H8.out.old⟩
set_option maxRecDepth 100000 in
theorem spoolPlays_out (room : Int) (hr : room < 1 ∨ 1048576 < room) (l : List Act8) (A : Option Addr) (c : Nat) (w : World) (h : Act8s w A l) (hl : long8 l = false) :
    Calls Try.prog 11 #[.int .i64 room, .slice A l.length c] w fun e w' => e = .returned (.bool true) ∧ Below w.heap.size w w' := by
  have hn := new_calls w room
  have hr2 := ref_new w room
  simp only [if_pos hr] at hn hr2
  have HN := Aside0.mk hn
  have HR := Aside0.mk hr2
  have H := Aside0.mk h
  have HL := Lib.hid hl
  clear h hl hr hn hr2
  go_enter Try.func11, Try.ntmps11
  go_wp2_with (first
    | (go_at_call 36; refine (long8_calls l A c _ H.out).mono ?_; rw [HL.out]; rintro e w' ⟨rfl, hw⟩; obtain rfl := hw.symm; clear hw)
    | (go_at_call 38; refine HN.out.mono ?_; rintro e w' ⟨rfl, hw⟩; obtain rfl := hw.symm; clear hw)
    | (go_at_call 47; refine HR.out.mono ?_; rintro e w' ⟨rfl, hw⟩; obtain rfl := hw.symm; clear hw)
    | (go_at_call 37; refine (known18_calls _).mono ?_; rintro e w8 ⟨rfl, hb⟩; have H8 := Aside0.mk hb; clear hb))
  go_ret
  exact ⟨rfl, H8.out⟩
set_option maxRecDepth 100000 in
theorem spoolPlays_walk (w : World) (room : Int) (_ : (Lit.int .i64 room).wf = true) (l : List Act8) (A : Option Addr) (c : Nat) (h : Act8s w A l) (_hc : l.length ≤ c) :
    Calls Try.prog 11 #[.int .i64 room, .slice A l.length c] w fun e w' => e = .returned (.bool true) ∧ Below w.heap.size w w' := by
  cases hl : long8 l with
  | false =>
    by_cases hr : room < 1 ∨ 1048576 < room
    · exact spoolPlays_out room hr l A c w h hl
    · exact spoolPlays_calls room (by omega) (by omega) l A c w h hl
  | true =>
    have H := Aside0.mk h
    have HL := Lib.hid hl
    clear h hl
    go_enter Try.func11, Try.ntmps11
    go_wp2_with (first
      | (go_at_call 36; refine (long8_calls l A c _ H.out).mono ?_; rw [HL.out]; rintro e w' ⟨rfl, hw⟩; obtain rfl := hw.symm; clear hw)
      | (go_at_call 37; refine (known18_calls _).mono ?_; rintro e w8 ⟨rfl, hb⟩; have H8 := Aside0.mk hb; clear hb))
    go_ret
    exact ⟨rfl, H8.out⟩
end Go.Proofs.Ytahaoakolgomdaa
