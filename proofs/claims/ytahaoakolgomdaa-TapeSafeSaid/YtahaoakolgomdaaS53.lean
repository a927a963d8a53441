/- The walk of the law TapeSafe. -/
import Derived.Test.YtahaoakolgomdaaS51
namespace Go.Proofs.Ytahaoakolgomdaa
open Go.RowKit Go.Proofs.YtahaoakolgomdaaW.PrintWords Go.Proofs.YtahaoakolgomdaaW.PrintLast Go.Proofs.YtahaoakolgomdaaW.PrintMore
set_option linter.unusedVariables false
set_option linter.unusedSimpArgs false

/-- A spool behind a crash opens, and what is left is just its records, all synced. -/
theorem opn_synced (b : List UInt8) (room : Nat) : ∃ G, fits G ∧ opn ⟨b, b.length, room, -1, false⟩ = (0, some G, ⟨cat G, (cat G).length, room, -1, false⟩) := by
  obtain ⟨j, h1, h2, h3, h4⟩ := allS_form b
  refine ⟨(allS b).1, h4, ?_⟩
  unfold opn
  rw [if_neg (by simp)]
  simp only
  rw [h1]
  by_cases hj : j < b.length
  · rw [if_pos (by omega), Sp.cut_on h2, if_neg (by simp), h3]
    have : (cat (allS b).1).length = j := by rw [← h3, List.length_take]; omega
    simp only [this]
  · rw [if_neg (by omega)]
    have hb : b.take j = b := List.take_of_length_le (by omega)
    rw [hb] at h3
    rw [← h3]
theorem crash_synced {s : Sp} (h : s.Ok) (keep : Int) : ∃ b, s.crash keep = ⟨b, b.length, s.room, -1, false⟩ := by
  refine ⟨s.b.take (s.keepN keep), ?_⟩
  unfold Sp.crash
  have : (s.b.take (s.keepN keep)).length = s.keepN keep := by
    rw [List.length_take]
    have := h.sure
    unfold Sp.keepN; omega
  rw [this]
/-- What the law has at hand. -/
def SafeL (w0 : World) (c p q tp tq : Nat) (t : Ts) (v : Value) (S : List (List UInt8)) : List Asr := Pair c p q tp tq t ++ [outA w0 v S]
theorem sync0_crash (b : List UInt8) (room : Nat) : (Sp.mk b b.length room (-1) false).crash 0 = ⟨b, b.length, room, -1, false⟩ := by
  unfold Sp.crash Sp.keepN
  simp
set_option maxHeartbeats 2000000 in
set_option maxRecDepth 100000 in
theorem tapeSafe_calls (l : List (List UInt8)) (after keep : Int) (A : Option Addr) (ca : Nat) (w : World) (ha : klb.C w A l.length l) :
    Calls Try.prog 14 #[.slice A l.length ca, .int .i64 after, .int .i64 keep] w fun e w' => e = .returned (.bool true) ∧ Below w.heap.size w w' := by
  have ma : l.length ≤ 9223372036854775807 := ha.2.1
  have HA := Aside0.mk ha
  clear ha
  go_enter Try.func14, Try.ntmps14
  go_wp2_with (go_at_call 55; refine (opened_calls _ 60000 (by omega) (by omega) 60000 rfl).mono ?_; rintro e w1 ⟨c, p, q, tp, tq, rfl, hs⟩; have H1 : Aside0 (Has w w1 (Pair c p q tp tq (tapeG []))) := Aside0.mk hs; have x0 := blk_cell (H1.out.blk 2 rfl) 0; have x1 := blk_cell (H1.out.blk 2 rfl) 1; have x3 := blk_cell (H1.out.blk 2 rfl) 3; simp at x0 x1 x3; clear hs)
  go_loop [8, 9] (fun n i => ∃ N k : Nat, n = .int .i64 N ∧ i = .int .i64 k ∧ k ≤ l.length ∧ k ≤ 61 ∧ N ≤ 20000) (fun _ i => l.length - (intOf i).toNat)
  case atStart => exact ⟨0, 0, rfl, rfl, Nat.zero_le _, by omega, by omega⟩
  case round =>
    obtain ⟨N, k, rfl, rfl, hk, hk6, hN⟩ := hrel
    by_cases hlt : k < l.length
    · obtain ⟨ad, A1, c1, rfl, k1', l1, r1⟩ := klb_get HA.out k hlt
      have k1 := pw_cell_below H1.out.old k1'
      obtain ⟨x, hx⟩ : ∃ x, x = l.getD k [] := ⟨_, rfl⟩
      rw [← hx] at k1 l1 r1
      have hx9 : x.length ≤ 9223372036854775807 := r1.2.1
      obtain ⟨mn, hmn⟩ : ∃ mn, mn = min x.length 30000 := ⟨_, rfl⟩
      have hmin := fun W => min_nat (x.length : Int) 30000 mn (by rw [hmn]; split <;> omega) W
      have hm3 : mn ≤ 30000 := by omega
      clear hx r1 k1' hmn
      by_cases hb : N + mn ≤ 20000
      · by_cases hk7 : k ≤ 60
        · go_wp2_with fail
          go_round
          case rel => exact ⟨N + mn, k + 1, by go_num, by go_num, by omega, by omega, hb⟩
          case measure => simp [intOf]; omega
        · go_wp2_with (go_at_call 56; refine (known19_calls _).mono ?_; rintro e w2 ⟨rfl, hb⟩; have H2 := Aside0.mk (H1.out.none.below hb); clear hb)
          go_ret
          exact ⟨rfl, H2.out.old⟩
      · go_wp2_with (go_at_call 56; refine (known19_calls _).mono ?_; rintro e w2 ⟨rfl, hb⟩; have H2 := Aside0.mk (H1.out.none.below hb); clear hb)
        go_ret
        exact ⟨rfl, H2.out.old⟩
    · have HLL := Lib.hid (show l.length ≤ 61 by omega)
      obtain ⟨kk, hkk, hum⟩ := umod after 60 (by omega) (by omega)
      have hmod : Value.int .i64 (wrap64 ((IntKind.u64.wrap after).tmod 60)) = .int .i64 (kk : Int) := congrArg _ hum
      have hoff : (tapeG []).sp.setOff (kk : Int) = ⟨[], 0, 60000, (kk : Int), false⟩ := by
        unfold Sp.setOff tapeG
        rw [if_neg (by omega)]; rfl
      have HOFF := Aside0.mk hoff
      clear hum hoff
      go_wp2_with (first
        | (go_at_call 52; refine (roff_h H2.out 1 q _ rfl (kk : Int) (by omega) _ HOFF.out).mono ?_; rintro e w3 ⟨rfl, hs⟩; have H3 : Aside0 (Has w w3 (SafeL w c p q tp tq ⟨⟨[], 0, 60000, (kk : Int), false⟩, [], false⟩ (.slice none 0 0) [])) := Aside0.mk (hs.addE (Fresh.outNil w w3)); clear hs)
        | (go_at_call 39; refine (off_h H1.out 0 p _ rfl (kk : Int) (by omega) _ HOFF.out).mono ?_; rintro e w2 ⟨rfl, hs⟩; have H2 := Aside0.mk hs; have z2 := blk_cell (H2.out.blk 2 rfl) 2; simp at z2; clear hs))
      go_loopw [11, 12, 13] (fun v nx i wr => ∃ (k n d : Nat) (t : Ts) (S : List (List UInt8)) (B : Option Addr), v = .slice B n d ∧ nx = .slice none 0 0 ∧ i = .int .i64 k ∧ k ≤ l.length ∧ n ≤ k ∧ Aside0 (n = S.length) ∧ Aside0 (Has w wr (SafeL w c p q tp tq t (.slice B n d) S)) ∧ Aside0 t.Ok) (fun _ _ i _ => l.length - (intOf i).toNat)
      case atStart => exact ⟨0, 0, 0, ⟨⟨[], 0, 60000, (kk : Int), false⟩, [], false⟩, [], none, rfl, rfl, rfl, Nat.zero_le _, Nat.le_refl _, ⟨rfl⟩, H3, ⟨Ts.ok_of (by simp) (by simp) (by omega) (by omega) (by omega) (by simp [cat]) fits_nil⟩⟩
      case round =>
        clear H1 H2 H3 x0 x1 x3 z2
        obtain ⟨k, n, d, t, S, B, rfl, rfl, rfl, hk, hnk, HN, HS, HOK⟩ := hrel
        have h61 := HLL.out
        by_cases hlt : k < l.length
        · obtain ⟨ad, A1, c1, rfl, k1', l1, r1⟩ := klb_get HA.out k hlt
          have k1 := pw_cell_below HS.out.old k1'
          obtain ⟨x, hx⟩ : ∃ x, x = l.getD k [] := ⟨_, rfl⟩
          rw [← hx] at k1 k1' l1 r1
          have R1 := Aside0.mk r1
          have K1 := Aside0.mk k1'
          have hx9 : x.length ≤ 9223372036854775807 := r1.2.1
          clear hx r1 k1'
          by_cases hx8 : 8000 < x.length
          · go_wp2_with fail
            go_roundw
            case rel => exact ⟨k + 1, n, d, t, S, B, rfl, rfl, by go_num, by omega, by omega, HN, HS, HOK⟩
            case measure => simp [intOf]; omega
          · obtain ⟨e9, t', AD⟩ : ∃ e9 t', t.add x = (e9, t') := ⟨_, _, rfl⟩
            have hok' : t'.Ok := by have h := HOK.out.add x; rw [AD] at h; exact h
            have HOK2 := Aside0.mk hok'
            have AD := Aside0.mk AD
            have y1 := blk_cell (HS.out.blk 2 rfl) 1
            simp at y1
            clear hok'
            by_cases he : e9 = 0
            · subst he
              go_wp2_with fail
              go_still_tail 8, (by kernel_rfl)
              change wpList _ _ _ _ _ (World.drew wr)
              go_wp2_with (go_at_call 57; refine (tadd_i (t := t) HS.out.drew 0 3 (by decide) rfl rfl HOK.out x A1 x.length c1 rfl l1 (.inl R1.out) 0 t' AD.out).mono ?_; rintro e w2 ⟨rfl, hs⟩; have H2 := Aside0.mk hs; have z3 := blk_cell (H2.out.blk 2 rfl) 3; simp at z3; have k2 := pw_cell_below H2.out.old K1.out; clear hs)
              go_still_tail 8, (by kernel_rfl)
              change wpList _ _ _ _ _ (World.drew w2)
              go_wp2_with (first
                | (at_builtin; have _t := HR4.out; clear _t; refine list_of_run rfl 35 (.tmp 114) (.tmp 119) rfl rfl rfl HR4.out ?_; clear HR4)
                | (go_at_call 58; refine (radd_i (t := t) H2.out.drew 1 4 (by decide) rfl rfl HOK.out x A1 x.length c1 rfl l1 (.inl R1.out) 0 t' AD.out).mono ?_; rintro e w3 ⟨rfl, hs⟩; have H3 : Aside0 (Has w w3 (SafeL w c p q tp tq t' (.slice B n d) S)) := Aside0.mk hs; have k3 := pw_cell_below H3.out.old K1.out; obtain ⟨A4, c4, w4, hr4, _, h4⟩ := out_run (H3.out.alloc (.cells #[.slice A1 x.length c1] 22)) 5 (.slice B n d) S [x] rfl 35 (some ⟨w3.heap.size, 0, none⟩) 1 1 (News.one l1 R1.out) (n + 1) (by rw [HN.out]) (by omega); have HR4 := Aside0.mk hr4; have H4 : Aside0 (Has w w4 (SafeL w c p q tp tq t' (.slice A4 (n + 1) c4) (S ++ [x]))) := Aside0.mk h4; clear hs h4 hr4))
              go_roundw
              case rel => exact ⟨k + 1, n + 1, c4, t', S ++ [x], A4, rfl, rfl, by go_num, by omega, by omega, ⟨by rw [HN.out]; simp⟩, H4, HOK2⟩
              case measure => simp [intOf]; omega
            · have hz : (e9 != 0) = true := by simpa using he
              have hze : (e9 != e9) = false := by simp
              clear he
              go_wp2_with fail
              go_still_tail 8, (by kernel_rfl)
              change wpList _ _ _ _ _ (World.drew wr)
              go_wp2_with (go_at_call 57; refine (tadd_i (t := t) HS.out.drew 0 3 (by decide) rfl rfl HOK.out x A1 x.length c1 rfl l1 (.inl R1.out) e9 t' AD.out).mono ?_; rintro e w2 ⟨rfl, hs⟩; have H2 := Aside0.mk hs; have z3 := blk_cell (H2.out.blk 2 rfl) 3; simp at z3; have k2 := pw_cell_below H2.out.old K1.out; clear hs)
              go_still_tail 8, (by kernel_rfl)
              change wpList _ _ _ _ _ (World.drew w2)
              have HS0 := HS
              have HOK0 := HOK
              go_wp2_with (go_at_call 58; have _t := HS0.out; clear _t; refine (radd_i (t := t) H2.out.drew 1 4 (by decide) rfl rfl HOK.out x A1 x.length c1 rfl l1 (.inl R1.out) e9 t' AD.out).mono ?_; rintro e w3 ⟨rfl, hs⟩; have H3 : Aside0 (Has w w3 (SafeL w c p q tp tq t' (.slice B n d) S)) := Aside0.mk hs; have y3 := blk_cell (H3.out.blk 2 rfl) 0; simp at y3; clear hs HS0)
              clear HS HOK HOK0 H2 y1 z3 k1 k2 hze hz hx8
              have HS := H3
              have HOK := HOK2
              obtain ⟨b, hb⟩ := crash_synced HOK.out.sp keep
              obtain ⟨G, hfG, hG⟩ := opn_synced b t'.sp.room
              have hcok : (Sp.mk b b.length t'.sp.room (-1) false).Ok := by rw [← hb]; exact HOK.out.sp.crash keep
              have hGok := (opn_ok hcok).1
              rw [hG] at hGok
              have HGL := Lib.hid (show G.length ≤ 1000000 by have h1 := cat_len G; have h2 := hGok.len; have h3 := hGok.room; simp only at h2 h3; omega)
              have CR := Aside0.mk hb
              have HO := Aside0.mk hG
              have HFG := Aside0.mk hfG
              have y0 := blk_cell (HS.out.blk 2 rfl) 0
              simp at y0
              obtain ⟨b1, hb1⟩ : ∃ b1, beginsB (S ++ [x]) G = b1 := ⟨_, rfl⟩
              obtain ⟨b2, hb2⟩ : ∃ b2, beginsB G S = b2 := ⟨_, rfl⟩
              have HB1 := Aside0.mk hb1
              have HB2 := Aside0.mk hb2
              obtain ⟨n1, hn1⟩ : ∃ n1, n1 = n + 1 := ⟨_, rfl⟩
              have HN1 := Lib.hid hn1
              have HNS := Lib.hid (show n1 = (S ++ [x]).length by rw [hn1, HN.out]; simp)
              clear hb hG hfG hcok hGok hb1 hb2 hn1
              cases b1
              · go_wp2_with (first
                  | (go_at_call 56; have _t := H13.out; clear _t; refine (known19_calls _).mono ?_; rintro e w20 ⟨rfl, hb⟩; have H20 := Aside0.mk (H13.out.none.below hb); clear hb)
                  | (go_at_call 60; have _t := KA.out; clear _t; refine (begins_calls (S ++ [x]) G _ _ _ _ _ _ HNS.out EA.out _ (by rw [← HNS.out]; exact l9.out) (H12.out.outC 6 rfl) KA.out false HB1.out).mono ?_; rintro e w13 ⟨rfl, hd⟩; have H13 := Aside0.mk (H12.out.below hd.below); have z13 := blk_cell (H13.out.blk 2 rfl) 3; simp at z13; clear hd KA)
                  | (go_at_call 61; have _t := H12.out; clear _t; refine (rrecords_h H12.out 5 rfl G rfl).mono ?_; rintro e w' ⟨AA, cA, nA, rfl, eA, lA, hk, hw⟩; obtain rfl := hw.symm; have KA := Aside0.mk hk; have EA := Lib.hid eA; clear hw hk eA)
                  | (at_builtin; have _t := HX1.out; clear _t; refine list_of_run rfl 35 (.tmp 154) (.tmp 156) rfl rfl rfl HR9.out ?_; clear HR9 HX1)
                  | (at_builtin; have _t := HR8.out; clear _t; refine list_of_run rfl 35 (.tmp 151) (.tmp 152) rfl rfl rfl HR8.out ?_; clear HR8; have HX1 := Aside0.mk trivial)
                  | (go_at_call 59; have _t := H7.out; clear _t; refine (reopen_yes (M := [outA w (.slice B n d) S]) H7.out G _ HO.out).mono ?_; rintro e w8 ⟨tp2, tq2, rfl, hs⟩; have q1 := blk_cell (hs.blk 2 rfl) 1; have q3 := blk_cell (hs.blk 2 rfl) 3; simp at q1 q3; obtain ⟨A8, c8, w9, hr8, _, h8⟩ := out_run (hs.addE (Fresh.outNil w w8)) 6 (.slice none 0 0) [] S rfl 35 B n d (News.row (hs.addE (Fresh.outNil w w8)) 3 rfl HN.out) n (by simp) (by omega); obtain ⟨A9, c9, w10, hr9, l9', h9⟩ := out_run (h8.alloc (.cells #[.slice A1 x.length c1] 22)) 6 (.slice A8 n c8) ([] ++ S) [x] rfl 35 (some ⟨w9.heap.size, 0, none⟩) 1 1 (News.one l1 R1.out) n1 (by have h1 := HN1.out; have h2 := HN.out; simp; omega) (by have h1 := HN1.out; omega); have l9 := Lib.hid l9'; have HR8 := Aside0.mk hr8; have HR9 := Aside0.mk hr9; have H12 : Aside0 (Has w w10 (spoolA p ⟨cat G, (cat G).length, t'.sp.room, -1, false⟩ :: refA q ⟨cat G, (cat G).length, t'.sp.room, -1, false⟩ :: pairA c p q (.pointer (some ⟨tp2, 0, none⟩)) (.pointer (some ⟨tq2, 0, none⟩)) :: [outA w (.slice B n d) S, tapeB 105 tp2 p G false, tapeB 101 tq2 q G false, outA w (.slice A9 n1 c9) (S ++ [x])])) := Aside0.mk h9; have z12 := blk_cell (H12.out.blk 2 rfl) 3; simp at z12; clear hs h8 h9 hr8 hr9 l9')
                  | (go_at_call 53; have _t := H6.out; clear _t; refine (rcrash_h H6.out 1 q _ rfl keep _ CR.out).mono ?_; rintro e w7 ⟨rfl, hs⟩; have H7 : Aside0 (Has w w7 (spoolA p ⟨b, b.length, t'.sp.room, -1, false⟩ :: refA q ⟨b, b.length, t'.sp.room, -1, false⟩ :: pairA c p q (.pointer (some ⟨tp, 0, none⟩)) (.pointer (some ⟨tq, 0, none⟩)) :: [outA w (.slice B n d) S])) := Aside0.mk ((hs.drop 4).drop 3); clear hs)
                  | (go_at_call 44; refine (crash_h HS.out 0 p _ rfl keep _ CR.out).mono ?_; rintro e w6 ⟨rfl, hs⟩; have H6 := Aside0.mk hs; have z6 := blk_cell (H6.out.blk 2 rfl) 2; simp at z6; clear hs))
                go_ret
                exact ⟨rfl, H20.out.old⟩
              · cases b2
                · go_wp2_with (first
                    | (go_at_call 56; have _t := H14.out; clear _t; refine (known19_calls _).mono ?_; rintro e w20 ⟨rfl, hb⟩; have H20 := Aside0.mk (H14.out.none.below hb); clear hb)
                    | (go_at_call 60; have _t := KB.out; clear _t; refine (begins_calls G S _ _ _ _ _ _ EB.out HN.out _ (by rw [← EB.out]; exact lB) KB.out (H13.out.outC 3 rfl) false HB2.out).mono ?_; rintro e w14 ⟨rfl, hd⟩; have H14 := Aside0.mk (H13.out.below hd.below); have z14 := blk_cell (H14.out.blk 2 rfl) 1; simp at z14; clear hd KB)
                    | (go_at_call 61; have _t := H13.out; clear _t; refine (rrecords_h H13.out 5 rfl G rfl).mono ?_; rintro e w' ⟨AB, cB, nB, rfl, eB, lB, hk, hw⟩; obtain rfl := hw.symm; have KB := Aside0.mk hk; have EB := Lib.hid eB; clear hw hk eB)
                    | (go_at_call 60; have _t := KA.out; clear _t; refine (begins_calls (S ++ [x]) G _ _ _ _ _ _ HNS.out EA.out _ (by rw [← HNS.out]; exact l9.out) (H12.out.outC 6 rfl) KA.out true HB1.out).mono ?_; rintro e w13 ⟨rfl, hd⟩; have H13 := Aside0.mk (H12.out.below hd.below); have z13 := blk_cell (H13.out.blk 2 rfl) 3; simp at z13; clear hd KA)
                    | (go_at_call 61; have _t := H12.out; clear _t; refine (rrecords_h H12.out 5 rfl G rfl).mono ?_; rintro e w' ⟨AA, cA, nA, rfl, eA, lA, hk, hw⟩; obtain rfl := hw.symm; have KA := Aside0.mk hk; have EA := Lib.hid eA; clear hw hk eA)
                    | (at_builtin; have _t := HX1.out; clear _t; refine list_of_run rfl 35 (.tmp 154) (.tmp 156) rfl rfl rfl HR9.out ?_; clear HR9 HX1)
                    | (at_builtin; have _t := HR8.out; clear _t; refine list_of_run rfl 35 (.tmp 151) (.tmp 152) rfl rfl rfl HR8.out ?_; clear HR8; have HX1 := Aside0.mk trivial)
                    | (go_at_call 59; have _t := H7.out; clear _t; refine (reopen_yes (M := [outA w (.slice B n d) S]) H7.out G _ HO.out).mono ?_; rintro e w8 ⟨tp2, tq2, rfl, hs⟩; have q1 := blk_cell (hs.blk 2 rfl) 1; have q3 := blk_cell (hs.blk 2 rfl) 3; simp at q1 q3; obtain ⟨A8, c8, w9, hr8, _, h8⟩ := out_run (hs.addE (Fresh.outNil w w8)) 6 (.slice none 0 0) [] S rfl 35 B n d (News.row (hs.addE (Fresh.outNil w w8)) 3 rfl HN.out) n (by simp) (by omega); obtain ⟨A9, c9, w10, hr9, l9', h9⟩ := out_run (h8.alloc (.cells #[.slice A1 x.length c1] 22)) 6 (.slice A8 n c8) ([] ++ S) [x] rfl 35 (some ⟨w9.heap.size, 0, none⟩) 1 1 (News.one l1 R1.out) n1 (by have h1 := HN1.out; have h2 := HN.out; simp; omega) (by have h1 := HN1.out; omega); have l9 := Lib.hid l9'; have HR8 := Aside0.mk hr8; have HR9 := Aside0.mk hr9; have H12 : Aside0 (Has w w10 (spoolA p ⟨cat G, (cat G).length, t'.sp.room, -1, false⟩ :: refA q ⟨cat G, (cat G).length, t'.sp.room, -1, false⟩ :: pairA c p q (.pointer (some ⟨tp2, 0, none⟩)) (.pointer (some ⟨tq2, 0, none⟩)) :: [outA w (.slice B n d) S, tapeB 105 tp2 p G false, tapeB 101 tq2 q G false, outA w (.slice A9 n1 c9) (S ++ [x])])) := Aside0.mk h9; have z12 := blk_cell (H12.out.blk 2 rfl) 3; simp at z12; clear hs h8 h9 hr8 hr9 l9')
                    | (go_at_call 53; have _t := H6.out; clear _t; refine (rcrash_h H6.out 1 q _ rfl keep _ CR.out).mono ?_; rintro e w7 ⟨rfl, hs⟩; have H7 : Aside0 (Has w w7 (spoolA p ⟨b, b.length, t'.sp.room, -1, false⟩ :: refA q ⟨b, b.length, t'.sp.room, -1, false⟩ :: pairA c p q (.pointer (some ⟨tp, 0, none⟩)) (.pointer (some ⟨tq, 0, none⟩)) :: [outA w (.slice B n d) S])) := Aside0.mk ((hs.drop 4).drop 3); clear hs)
                    | (go_at_call 44; refine (crash_h HS.out 0 p _ rfl keep _ CR.out).mono ?_; rintro e w6 ⟨rfl, hs⟩; have H6 := Aside0.mk hs; have z6 := blk_cell (H6.out.blk 2 rfl) 2; simp at z6; clear hs))
                  go_ret
                  exact ⟨rfl, H20.out.old⟩
                · go_wp2_with (first
                    | (go_at_call 56; have _t := H19.out; clear _t; refine (known19_calls _).mono ?_; rintro e w20 ⟨rfl, hb⟩; have H20 := Aside0.mk (H19.out.none.below hb); clear hb)
                    | (go_at_call 33; have _t := H18.out; clear _t; refine (samel_same G _ _ E18.out E15.out _ _ _ _ _ (H18.out.rowsC 9 rfl) (H18.out.rowsC 7 rfl)).mono ?_; rintro e w19 ⟨rfl, hd⟩; have H19 := Aside0.mk (H18.out.below hd.below); clear hd)
                    | (go_at_call 62; have _t := H17.out; clear _t; refine (records_h H17.out 8 rfl HGL.out HFG.out G rfl).mono ?_; rintro e w18 ⟨A18, c18, n18, rfl, e18, l18, hs⟩; have H18 : Aside0 (Has w w18 (spoolA p ⟨cat G, (cat G).length, t'.sp.room, -1, false⟩ :: refA q ⟨cat G, (cat G).length, t'.sp.room, -1, false⟩ :: pairA c p q (.pointer (some ⟨tp2, 0, none⟩)) (.pointer (some ⟨tq2, 0, none⟩)) :: [outA w (.slice B n d) S, tapeB 105 tp2 p G false, tapeB 101 tq2 q G false, outA w (.slice A9 n1 c9) (S ++ [x]), rowsA (.slice A15 n15 c15) G, tapeB 105 tn p G false, rowsA (.slice A18 n18 c18) G])) := Aside0.mk hs; have E18 := Lib.hid e18; clear hs e18)
                    | (go_at_call 63; have _t := H16.out; clear _t; refine (topen_i H16.out 0 rfl G _ (opn_all HFG.out)).mono ?_; rintro e w17 ⟨tn, rfl, hs⟩; have H17 : Aside0 (Has w w17 (spoolA p ⟨cat G, (cat G).length, t'.sp.room, -1, false⟩ :: refA q ⟨cat G, (cat G).length, t'.sp.room, -1, false⟩ :: pairA c p q (.pointer (some ⟨tp2, 0, none⟩)) (.pointer (some ⟨tq2, 0, none⟩)) :: [outA w (.slice B n d) S, tapeB 105 tp2 p G false, tapeB 101 tq2 q G false, outA w (.slice A9 n1 c9) (S ++ [x]), rowsA (.slice A15 n15 c15) G, tapeB 105 tn p G false])) := Aside0.mk hs; clear hs)
                    | (go_at_call 44; have _t := H155.out; clear _t; refine (crash_h H155.out 0 p _ rfl 0 _ (sync0_crash _ _)).mono ?_; rintro e w16 ⟨rfl, hs⟩; have H16 : Aside0 (Has w w16 (spoolA p ⟨cat G, (cat G).length, t'.sp.room, -1, false⟩ :: refA q ⟨cat G, (cat G).length, t'.sp.room, -1, false⟩ :: pairA c p q (.pointer (some ⟨tp2, 0, none⟩)) (.pointer (some ⟨tq2, 0, none⟩)) :: [outA w (.slice B n d) S, tapeB 105 tp2 p G false, tapeB 101 tq2 q G false, outA w (.slice A9 n1 c9) (S ++ [x]), rowsA (.slice A15 n15 c15) G])) := Aside0.mk hs; have z16 := blk_cell (H16.out.blk 2 rfl) 0; simp at z16; clear hs)
                    | (go_at_call 60; have _t := H154.out; clear _t; refine (begins_calls G S _ _ _ _ _ _ E15.out HN.out _ (by rw [← E15.out]; exact l15) (H154.out.rowsC 7 rfl) (H154.out.outC 3 rfl) true HB2.out).mono ?_; rintro e w155 ⟨rfl, hd⟩; have H155 := Aside0.mk (H154.out.below hd.below); have z155 := blk_cell (H155.out.blk 2 rfl) 0; simp at z155; clear hd)
                    | (go_at_call 60; have _t := H15.out; clear _t; refine (begins_calls (S ++ [x]) G _ _ _ _ _ _ HNS.out E15.out _ (by rw [← HNS.out]; exact l9.out) (H15.out.outC 6 rfl) (H15.out.rowsC 7 rfl) true HB1.out).mono ?_; rintro e w154 ⟨rfl, hd⟩; have H154 := Aside0.mk (H15.out.below hd.below); clear hd)
                    | (go_at_call 62; have _t := H14.out; clear _t; refine (records_h H14.out 4 rfl HGL.out HFG.out G rfl).mono ?_; rintro e w15 ⟨A15, c15, n15, rfl, e15, l15, hs⟩; have H15 : Aside0 (Has w w15 (spoolA p ⟨cat G, (cat G).length, t'.sp.room, -1, false⟩ :: refA q ⟨cat G, (cat G).length, t'.sp.room, -1, false⟩ :: pairA c p q (.pointer (some ⟨tp2, 0, none⟩)) (.pointer (some ⟨tq2, 0, none⟩)) :: [outA w (.slice B n d) S, tapeB 105 tp2 p G false, tapeB 101 tq2 q G false, outA w (.slice A9 n1 c9) (S ++ [x]), rowsA (.slice A15 n15 c15) G])) := Aside0.mk hs; have E15 := Lib.hid e15; clear hs e15)
                    | (go_at_call 60; have _t := KB.out; clear _t; refine (begins_calls G S _ _ _ _ _ _ EB.out HN.out _ (by rw [← EB.out]; exact lB) KB.out (H13.out.outC 3 rfl) true HB2.out).mono ?_; rintro e w14 ⟨rfl, hd⟩; have H14 := Aside0.mk (H13.out.below hd.below); have z14 := blk_cell (H14.out.blk 2 rfl) 1; simp at z14; clear hd KB)
                    | (go_at_call 61; have _t := H13.out; clear _t; refine (rrecords_h H13.out 5 rfl G rfl).mono ?_; rintro e w' ⟨AB, cB, nB, rfl, eB, lB, hk, hw⟩; obtain rfl := hw.symm; have KB := Aside0.mk hk; have EB := Lib.hid eB; clear hw hk eB)
                    | (go_at_call 60; have _t := KA.out; clear _t; refine (begins_calls (S ++ [x]) G _ _ _ _ _ _ HNS.out EA.out _ (by rw [← HNS.out]; exact l9.out) (H12.out.outC 6 rfl) KA.out true HB1.out).mono ?_; rintro e w13 ⟨rfl, hd⟩; have H13 := Aside0.mk (H12.out.below hd.below); have z13 := blk_cell (H13.out.blk 2 rfl) 3; simp at z13; clear hd KA)
                    | (go_at_call 61; have _t := H12.out; clear _t; refine (rrecords_h H12.out 5 rfl G rfl).mono ?_; rintro e w' ⟨AA, cA, nA, rfl, eA, lA, hk, hw⟩; obtain rfl := hw.symm; have KA := Aside0.mk hk; have EA := Lib.hid eA; clear hw hk eA)
                    | (at_builtin; have _t := HX1.out; clear _t; refine list_of_run rfl 35 (.tmp 154) (.tmp 156) rfl rfl rfl HR9.out ?_; clear HR9 HX1)
                    | (at_builtin; have _t := HR8.out; clear _t; refine list_of_run rfl 35 (.tmp 151) (.tmp 152) rfl rfl rfl HR8.out ?_; clear HR8; have HX1 := Aside0.mk trivial)
                    | (go_at_call 59; have _t := H7.out; clear _t; refine (reopen_yes (M := [outA w (.slice B n d) S]) H7.out G _ HO.out).mono ?_; rintro e w8 ⟨tp2, tq2, rfl, hs⟩; have q1 := blk_cell (hs.blk 2 rfl) 1; have q3 := blk_cell (hs.blk 2 rfl) 3; simp at q1 q3; obtain ⟨A8, c8, w9, hr8, _, h8⟩ := out_run (hs.addE (Fresh.outNil w w8)) 6 (.slice none 0 0) [] S rfl 35 B n d (News.row (hs.addE (Fresh.outNil w w8)) 3 rfl HN.out) n (by simp) (by omega); obtain ⟨A9, c9, w10, hr9, l9', h9⟩ := out_run (h8.alloc (.cells #[.slice A1 x.length c1] 22)) 6 (.slice A8 n c8) ([] ++ S) [x] rfl 35 (some ⟨w9.heap.size, 0, none⟩) 1 1 (News.one l1 R1.out) n1 (by have h1 := HN1.out; have h2 := HN.out; simp; omega) (by have h1 := HN1.out; omega); have l9 := Lib.hid l9'; have HR8 := Aside0.mk hr8; have HR9 := Aside0.mk hr9; have H12 : Aside0 (Has w w10 (spoolA p ⟨cat G, (cat G).length, t'.sp.room, -1, false⟩ :: refA q ⟨cat G, (cat G).length, t'.sp.room, -1, false⟩ :: pairA c p q (.pointer (some ⟨tp2, 0, none⟩)) (.pointer (some ⟨tq2, 0, none⟩)) :: [outA w (.slice B n d) S, tapeB 105 tp2 p G false, tapeB 101 tq2 q G false, outA w (.slice A9 n1 c9) (S ++ [x])])) := Aside0.mk h9; have z12 := blk_cell (H12.out.blk 2 rfl) 3; simp at z12; clear hs h8 h9 hr8 hr9 l9')
                    | (go_at_call 53; have _t := H6.out; clear _t; refine (rcrash_h H6.out 1 q _ rfl keep _ CR.out).mono ?_; rintro e w7 ⟨rfl, hs⟩; have H7 : Aside0 (Has w w7 (spoolA p ⟨b, b.length, t'.sp.room, -1, false⟩ :: refA q ⟨b, b.length, t'.sp.room, -1, false⟩ :: pairA c p q (.pointer (some ⟨tp, 0, none⟩)) (.pointer (some ⟨tq, 0, none⟩)) :: [outA w (.slice B n d) S])) := Aside0.mk ((hs.drop 4).drop 3); clear hs)
                    | (go_at_call 44; refine (crash_h HS.out 0 p _ rfl keep _ CR.out).mono ?_; rintro e w6 ⟨rfl, hs⟩; have H6 := Aside0.mk hs; have z6 := blk_cell (H6.out.blk 2 rfl) 2; simp at z6; clear hs))
                  go_ret
                  exact ⟨rfl, H20.out.old⟩
        · skip
          obtain ⟨b, hb⟩ := crash_synced HOK.out.sp keep
          obtain ⟨G, hfG, hG⟩ := opn_synced b t.sp.room
          have hcok : (Sp.mk b b.length t.sp.room (-1) false).Ok := by rw [← hb]; exact HOK.out.sp.crash keep
          have hGok := (opn_ok hcok).1
          rw [hG] at hGok
          have HGL := Lib.hid (show G.length ≤ 1000000 by have h1 := cat_len G; have h2 := hGok.len; have h3 := hGok.room; simp only at h2 h3; omega)
          have CR := Aside0.mk hb
          have HO := Aside0.mk hG
          have HFG := Aside0.mk hfG
          have y0 := blk_cell (HS.out.blk 2 rfl) 0
          simp at y0
          obtain ⟨b1, hb1⟩ : ∃ b1, beginsB (S ++ [[]]) G = b1 := ⟨_, rfl⟩
          obtain ⟨b2, hb2⟩ : ∃ b2, beginsB G S = b2 := ⟨_, rfl⟩
          have HB1 := Aside0.mk hb1
          have HB2 := Aside0.mk hb2
          obtain ⟨n1, hn1⟩ : ∃ n1, n1 = n + 1 := ⟨_, rfl⟩
          have HN1 := Lib.hid hn1
          have HNS := Lib.hid (show n1 = (S ++ [[]]).length by rw [hn1, HN.out]; simp)
          clear hb hG hfG hcok hGok hb1 hb2 hn1
          cases b1
          · go_wp2_with (first
              | (go_at_call 56; have _t := H13.out; clear _t; refine (known19_calls _).mono ?_; rintro e w20 ⟨rfl, hb⟩; have H20 := Aside0.mk (H13.out.none.below hb); clear hb)
              | (go_at_call 60; have _t := KA.out; clear _t; refine (begins_calls (S ++ [[]]) G _ _ _ _ _ _ HNS.out EA.out _ (by rw [← HNS.out]; exact l9.out) (H12.out.outC 6 rfl) KA.out false HB1.out).mono ?_; rintro e w13 ⟨rfl, hd⟩; have H13 := Aside0.mk (H12.out.below hd.below); have z13 := blk_cell (H13.out.blk 2 rfl) 3; simp at z13; clear hd KA)
              | (go_at_call 61; have _t := H12.out; clear _t; refine (rrecords_h H12.out 5 rfl G rfl).mono ?_; rintro e w' ⟨AA, cA, nA, rfl, eA, lA, hk, hw⟩; obtain rfl := hw.symm; have KA := Aside0.mk hk; have EA := Lib.hid eA; clear hw hk eA)
              | (at_builtin; have _t := HX1.out; clear _t; refine list_of_run rfl 35 (.tmp 154) (.tmp 156) rfl rfl rfl HR9.out ?_; clear HR9 HX1)
              | (at_builtin; have _t := HR8.out; clear _t; refine list_of_run rfl 35 (.tmp 151) (.tmp 152) rfl rfl rfl HR8.out ?_; clear HR8; have HX1 := Aside0.mk trivial)
              | (go_at_call 59; have _t := H7.out; clear _t; refine (reopen_yes (M := [outA w (.slice B n d) S]) H7.out G _ HO.out).mono ?_; rintro e w8 ⟨tp2, tq2, rfl, hs⟩; have q1 := blk_cell (hs.blk 2 rfl) 1; have q3 := blk_cell (hs.blk 2 rfl) 3; simp at q1 q3; obtain ⟨A8, c8, w9, hr8, _, h8⟩ := out_run (hs.addE (Fresh.outNil w w8)) 6 (.slice none 0 0) [] S rfl 35 B n d (News.row (hs.addE (Fresh.outNil w w8)) 3 rfl HN.out) n (by simp) (by omega); obtain ⟨A9, c9, w10, hr9, l9', h9⟩ := out_run (h8.alloc (.cells #[.slice none 0 0] 22)) 6 (.slice A8 n c8) ([] ++ S) [[]] rfl 35 (some ⟨w9.heap.size, 0, none⟩) 1 1 (News.one (Nat.le_refl _) (Kd.C_nil _ _)) n1 (by have h1 := HN1.out; have h2 := HN.out; simp; omega) (by have h1 := HN1.out; omega); have l9 := Lib.hid l9'; have HR8 := Aside0.mk hr8; have HR9 := Aside0.mk hr9; have H12 : Aside0 (Has w w10 (spoolA p ⟨cat G, (cat G).length, t.sp.room, -1, false⟩ :: refA q ⟨cat G, (cat G).length, t.sp.room, -1, false⟩ :: pairA c p q (.pointer (some ⟨tp2, 0, none⟩)) (.pointer (some ⟨tq2, 0, none⟩)) :: [outA w (.slice B n d) S, tapeB 105 tp2 p G false, tapeB 101 tq2 q G false, outA w (.slice A9 n1 c9) (S ++ [[]])])) := Aside0.mk h9; have z12 := blk_cell (H12.out.blk 2 rfl) 3; simp at z12; clear hs h8 h9 hr8 hr9 l9')
              | (go_at_call 53; have _t := H6.out; clear _t; refine (rcrash_h H6.out 1 q _ rfl keep _ CR.out).mono ?_; rintro e w7 ⟨rfl, hs⟩; have H7 : Aside0 (Has w w7 (spoolA p ⟨b, b.length, t.sp.room, -1, false⟩ :: refA q ⟨b, b.length, t.sp.room, -1, false⟩ :: pairA c p q (.pointer (some ⟨tp, 0, none⟩)) (.pointer (some ⟨tq, 0, none⟩)) :: [outA w (.slice B n d) S])) := Aside0.mk ((hs.drop 4).drop 3); clear hs)
              | (go_at_call 44; refine (crash_h HS.out 0 p _ rfl keep _ CR.out).mono ?_; rintro e w6 ⟨rfl, hs⟩; have H6 := Aside0.mk hs; have z6 := blk_cell (H6.out.blk 2 rfl) 2; simp at z6; clear hs))
            go_ret
            exact ⟨rfl, H20.out.old⟩
          · cases b2
            · go_wp2_with (first
                | (go_at_call 56; have _t := H14.out; clear _t; refine (known19_calls _).mono ?_; rintro e w20 ⟨rfl, hb⟩; have H20 := Aside0.mk (H14.out.none.below hb); clear hb)
                | (go_at_call 60; have _t := KB.out; clear _t; refine (begins_calls G S _ _ _ _ _ _ EB.out HN.out _ (by rw [← EB.out]; exact lB) KB.out (H13.out.outC 3 rfl) false HB2.out).mono ?_; rintro e w14 ⟨rfl, hd⟩; have H14 := Aside0.mk (H13.out.below hd.below); have z14 := blk_cell (H14.out.blk 2 rfl) 1; simp at z14; clear hd KB)
                | (go_at_call 61; have _t := H13.out; clear _t; refine (rrecords_h H13.out 5 rfl G rfl).mono ?_; rintro e w' ⟨AB, cB, nB, rfl, eB, lB, hk, hw⟩; obtain rfl := hw.symm; have KB := Aside0.mk hk; have EB := Lib.hid eB; clear hw hk eB)
                | (go_at_call 60; have _t := KA.out; clear _t; refine (begins_calls (S ++ [[]]) G _ _ _ _ _ _ HNS.out EA.out _ (by rw [← HNS.out]; exact l9.out) (H12.out.outC 6 rfl) KA.out true HB1.out).mono ?_; rintro e w13 ⟨rfl, hd⟩; have H13 := Aside0.mk (H12.out.below hd.below); have z13 := blk_cell (H13.out.blk 2 rfl) 3; simp at z13; clear hd KA)
                | (go_at_call 61; have _t := H12.out; clear _t; refine (rrecords_h H12.out 5 rfl G rfl).mono ?_; rintro e w' ⟨AA, cA, nA, rfl, eA, lA, hk, hw⟩; obtain rfl := hw.symm; have KA := Aside0.mk hk; have EA := Lib.hid eA; clear hw hk eA)
                | (at_builtin; have _t := HX1.out; clear _t; refine list_of_run rfl 35 (.tmp 154) (.tmp 156) rfl rfl rfl HR9.out ?_; clear HR9 HX1)
                | (at_builtin; have _t := HR8.out; clear _t; refine list_of_run rfl 35 (.tmp 151) (.tmp 152) rfl rfl rfl HR8.out ?_; clear HR8; have HX1 := Aside0.mk trivial)
                | (go_at_call 59; have _t := H7.out; clear _t; refine (reopen_yes (M := [outA w (.slice B n d) S]) H7.out G _ HO.out).mono ?_; rintro e w8 ⟨tp2, tq2, rfl, hs⟩; have q1 := blk_cell (hs.blk 2 rfl) 1; have q3 := blk_cell (hs.blk 2 rfl) 3; simp at q1 q3; obtain ⟨A8, c8, w9, hr8, _, h8⟩ := out_run (hs.addE (Fresh.outNil w w8)) 6 (.slice none 0 0) [] S rfl 35 B n d (News.row (hs.addE (Fresh.outNil w w8)) 3 rfl HN.out) n (by simp) (by omega); obtain ⟨A9, c9, w10, hr9, l9', h9⟩ := out_run (h8.alloc (.cells #[.slice none 0 0] 22)) 6 (.slice A8 n c8) ([] ++ S) [[]] rfl 35 (some ⟨w9.heap.size, 0, none⟩) 1 1 (News.one (Nat.le_refl _) (Kd.C_nil _ _)) n1 (by have h1 := HN1.out; have h2 := HN.out; simp; omega) (by have h1 := HN1.out; omega); have l9 := Lib.hid l9'; have HR8 := Aside0.mk hr8; have HR9 := Aside0.mk hr9; have H12 : Aside0 (Has w w10 (spoolA p ⟨cat G, (cat G).length, t.sp.room, -1, false⟩ :: refA q ⟨cat G, (cat G).length, t.sp.room, -1, false⟩ :: pairA c p q (.pointer (some ⟨tp2, 0, none⟩)) (.pointer (some ⟨tq2, 0, none⟩)) :: [outA w (.slice B n d) S, tapeB 105 tp2 p G false, tapeB 101 tq2 q G false, outA w (.slice A9 n1 c9) (S ++ [[]])])) := Aside0.mk h9; have z12 := blk_cell (H12.out.blk 2 rfl) 3; simp at z12; clear hs h8 h9 hr8 hr9 l9')
                | (go_at_call 53; have _t := H6.out; clear _t; refine (rcrash_h H6.out 1 q _ rfl keep _ CR.out).mono ?_; rintro e w7 ⟨rfl, hs⟩; have H7 : Aside0 (Has w w7 (spoolA p ⟨b, b.length, t.sp.room, -1, false⟩ :: refA q ⟨b, b.length, t.sp.room, -1, false⟩ :: pairA c p q (.pointer (some ⟨tp, 0, none⟩)) (.pointer (some ⟨tq, 0, none⟩)) :: [outA w (.slice B n d) S])) := Aside0.mk ((hs.drop 4).drop 3); clear hs)
                | (go_at_call 44; refine (crash_h HS.out 0 p _ rfl keep _ CR.out).mono ?_; rintro e w6 ⟨rfl, hs⟩; have H6 := Aside0.mk hs; have z6 := blk_cell (H6.out.blk 2 rfl) 2; simp at z6; clear hs))
              go_ret
              exact ⟨rfl, H20.out.old⟩
            · go_wp2_with (first
                | (go_at_call 56; have _t := H19.out; clear _t; refine (known19_calls _).mono ?_; rintro e w20 ⟨rfl, hb⟩; have H20 := Aside0.mk (H19.out.none.below hb); clear hb)
                | (go_at_call 33; have _t := H18.out; clear _t; refine (samel_same G _ _ E18.out E15.out _ _ _ _ _ (H18.out.rowsC 9 rfl) (H18.out.rowsC 7 rfl)).mono ?_; rintro e w19 ⟨rfl, hd⟩; have H19 := Aside0.mk (H18.out.below hd.below); clear hd)
                | (go_at_call 62; have _t := H17.out; clear _t; refine (records_h H17.out 8 rfl HGL.out HFG.out G rfl).mono ?_; rintro e w18 ⟨A18, c18, n18, rfl, e18, l18, hs⟩; have H18 : Aside0 (Has w w18 (spoolA p ⟨cat G, (cat G).length, t.sp.room, -1, false⟩ :: refA q ⟨cat G, (cat G).length, t.sp.room, -1, false⟩ :: pairA c p q (.pointer (some ⟨tp2, 0, none⟩)) (.pointer (some ⟨tq2, 0, none⟩)) :: [outA w (.slice B n d) S, tapeB 105 tp2 p G false, tapeB 101 tq2 q G false, outA w (.slice A9 n1 c9) (S ++ [[]]), rowsA (.slice A15 n15 c15) G, tapeB 105 tn p G false, rowsA (.slice A18 n18 c18) G])) := Aside0.mk hs; have E18 := Lib.hid e18; clear hs e18)
                | (go_at_call 63; have _t := H16.out; clear _t; refine (topen_i H16.out 0 rfl G _ (opn_all HFG.out)).mono ?_; rintro e w17 ⟨tn, rfl, hs⟩; have H17 : Aside0 (Has w w17 (spoolA p ⟨cat G, (cat G).length, t.sp.room, -1, false⟩ :: refA q ⟨cat G, (cat G).length, t.sp.room, -1, false⟩ :: pairA c p q (.pointer (some ⟨tp2, 0, none⟩)) (.pointer (some ⟨tq2, 0, none⟩)) :: [outA w (.slice B n d) S, tapeB 105 tp2 p G false, tapeB 101 tq2 q G false, outA w (.slice A9 n1 c9) (S ++ [[]]), rowsA (.slice A15 n15 c15) G, tapeB 105 tn p G false])) := Aside0.mk hs; clear hs)
                | (go_at_call 44; have _t := H155.out; clear _t; refine (crash_h H155.out 0 p _ rfl 0 _ (sync0_crash _ _)).mono ?_; rintro e w16 ⟨rfl, hs⟩; have H16 : Aside0 (Has w w16 (spoolA p ⟨cat G, (cat G).length, t.sp.room, -1, false⟩ :: refA q ⟨cat G, (cat G).length, t.sp.room, -1, false⟩ :: pairA c p q (.pointer (some ⟨tp2, 0, none⟩)) (.pointer (some ⟨tq2, 0, none⟩)) :: [outA w (.slice B n d) S, tapeB 105 tp2 p G false, tapeB 101 tq2 q G false, outA w (.slice A9 n1 c9) (S ++ [[]]), rowsA (.slice A15 n15 c15) G])) := Aside0.mk hs; have z16 := blk_cell (H16.out.blk 2 rfl) 0; simp at z16; clear hs)
                | (go_at_call 60; have _t := H154.out; clear _t; refine (begins_calls G S _ _ _ _ _ _ E15.out HN.out _ (by rw [← E15.out]; exact l15) (H154.out.rowsC 7 rfl) (H154.out.outC 3 rfl) true HB2.out).mono ?_; rintro e w155 ⟨rfl, hd⟩; have H155 := Aside0.mk (H154.out.below hd.below); have z155 := blk_cell (H155.out.blk 2 rfl) 0; simp at z155; clear hd)
                | (go_at_call 60; have _t := H15.out; clear _t; refine (begins_calls (S ++ [[]]) G _ _ _ _ _ _ HNS.out E15.out _ (by rw [← HNS.out]; exact l9.out) (H15.out.outC 6 rfl) (H15.out.rowsC 7 rfl) true HB1.out).mono ?_; rintro e w154 ⟨rfl, hd⟩; have H154 := Aside0.mk (H15.out.below hd.below); clear hd)
                | (go_at_call 62; have _t := H14.out; clear _t; refine (records_h H14.out 4 rfl HGL.out HFG.out G rfl).mono ?_; rintro e w15 ⟨A15, c15, n15, rfl, e15, l15, hs⟩; have H15 : Aside0 (Has w w15 (spoolA p ⟨cat G, (cat G).length, t.sp.room, -1, false⟩ :: refA q ⟨cat G, (cat G).length, t.sp.room, -1, false⟩ :: pairA c p q (.pointer (some ⟨tp2, 0, none⟩)) (.pointer (some ⟨tq2, 0, none⟩)) :: [outA w (.slice B n d) S, tapeB 105 tp2 p G false, tapeB 101 tq2 q G false, outA w (.slice A9 n1 c9) (S ++ [[]]), rowsA (.slice A15 n15 c15) G])) := Aside0.mk hs; have E15 := Lib.hid e15; clear hs e15)
                | (go_at_call 60; have _t := KB.out; clear _t; refine (begins_calls G S _ _ _ _ _ _ EB.out HN.out _ (by rw [← EB.out]; exact lB) KB.out (H13.out.outC 3 rfl) true HB2.out).mono ?_; rintro e w14 ⟨rfl, hd⟩; have H14 := Aside0.mk (H13.out.below hd.below); have z14 := blk_cell (H14.out.blk 2 rfl) 1; simp at z14; clear hd KB)
                | (go_at_call 61; have _t := H13.out; clear _t; refine (rrecords_h H13.out 5 rfl G rfl).mono ?_; rintro e w' ⟨AB, cB, nB, rfl, eB, lB, hk, hw⟩; obtain rfl := hw.symm; have KB := Aside0.mk hk; have EB := Lib.hid eB; clear hw hk eB)
                | (go_at_call 60; have _t := KA.out; clear _t; refine (begins_calls (S ++ [[]]) G _ _ _ _ _ _ HNS.out EA.out _ (by rw [← HNS.out]; exact l9.out) (H12.out.outC 6 rfl) KA.out true HB1.out).mono ?_; rintro e w13 ⟨rfl, hd⟩; have H13 := Aside0.mk (H12.out.below hd.below); have z13 := blk_cell (H13.out.blk 2 rfl) 3; simp at z13; clear hd KA)
                | (go_at_call 61; have _t := H12.out; clear _t; refine (rrecords_h H12.out 5 rfl G rfl).mono ?_; rintro e w' ⟨AA, cA, nA, rfl, eA, lA, hk, hw⟩; obtain rfl := hw.symm; have KA := Aside0.mk hk; have EA := Lib.hid eA; clear hw hk eA)
                | (at_builtin; have _t := HX1.out; clear _t; refine list_of_run rfl 35 (.tmp 154) (.tmp 156) rfl rfl rfl HR9.out ?_; clear HR9 HX1)
                | (at_builtin; have _t := HR8.out; clear _t; refine list_of_run rfl 35 (.tmp 151) (.tmp 152) rfl rfl rfl HR8.out ?_; clear HR8; have HX1 := Aside0.mk trivial)
                | (go_at_call 59; have _t := H7.out; clear _t; refine (reopen_yes (M := [outA w (.slice B n d) S]) H7.out G _ HO.out).mono ?_; rintro e w8 ⟨tp2, tq2, rfl, hs⟩; have q1 := blk_cell (hs.blk 2 rfl) 1; have q3 := blk_cell (hs.blk 2 rfl) 3; simp at q1 q3; obtain ⟨A8, c8, w9, hr8, _, h8⟩ := out_run (hs.addE (Fresh.outNil w w8)) 6 (.slice none 0 0) [] S rfl 35 B n d (News.row (hs.addE (Fresh.outNil w w8)) 3 rfl HN.out) n (by simp) (by omega); obtain ⟨A9, c9, w10, hr9, l9', h9⟩ := out_run (h8.alloc (.cells #[.slice none 0 0] 22)) 6 (.slice A8 n c8) ([] ++ S) [[]] rfl 35 (some ⟨w9.heap.size, 0, none⟩) 1 1 (News.one (Nat.le_refl _) (Kd.C_nil _ _)) n1 (by have h1 := HN1.out; have h2 := HN.out; simp; omega) (by have h1 := HN1.out; omega); have l9 := Lib.hid l9'; have HR8 := Aside0.mk hr8; have HR9 := Aside0.mk hr9; have H12 : Aside0 (Has w w10 (spoolA p ⟨cat G, (cat G).length, t.sp.room, -1, false⟩ :: refA q ⟨cat G, (cat G).length, t.sp.room, -1, false⟩ :: pairA c p q (.pointer (some ⟨tp2, 0, none⟩)) (.pointer (some ⟨tq2, 0, none⟩)) :: [outA w (.slice B n d) S, tapeB 105 tp2 p G false, tapeB 101 tq2 q G false, outA w (.slice A9 n1 c9) (S ++ [[]])])) := Aside0.mk h9; have z12 := blk_cell (H12.out.blk 2 rfl) 3; simp at z12; clear hs h8 h9 hr8 hr9 l9')
                | (go_at_call 53; have _t := H6.out; clear _t; refine (rcrash_h H6.out 1 q _ rfl keep _ CR.out).mono ?_; rintro e w7 ⟨rfl, hs⟩; have H7 : Aside0 (Has w w7 (spoolA p ⟨b, b.length, t.sp.room, -1, false⟩ :: refA q ⟨b, b.length, t.sp.room, -1, false⟩ :: pairA c p q (.pointer (some ⟨tp, 0, none⟩)) (.pointer (some ⟨tq, 0, none⟩)) :: [outA w (.slice B n d) S])) := Aside0.mk ((hs.drop 4).drop 3); clear hs)
                | (go_at_call 44; refine (crash_h HS.out 0 p _ rfl keep _ CR.out).mono ?_; rintro e w6 ⟨rfl, hs⟩; have H6 := Aside0.mk hs; have z6 := blk_cell (H6.out.blk 2 rfl) 2; simp at z6; clear hs))
              go_ret
              exact ⟨rfl, H20.out.old⟩
theorem tapeSafe_walk (w : World) (l : List (List UInt8)) (A : Option Addr) (c : Nat) (h : klb.C w A l.length l) (_hc : l.length ≤ c) (after : Int) (_ : (Lit.int .i64 after).wf = true) (keep : Int) (_ : (Lit.int .i64 keep).wf = true) :
    Calls Try.prog 14 #[.slice A l.length c, .int .i64 after, .int .i64 keep] w fun e w' => e = .returned (.bool true) ∧ Below w.heap.size w w' := tapeSafe_calls l after keep A c w h
end Go.Proofs.Ytahaoakolgomdaa
