/- The walk of the law TapePacks: as many bytes as are looked at. -/
import Derived.Test.YtahaoakolgomdaaS50
namespace Go.Proofs.Ytahaoakolgomdaa
open Go.RowKit Go.Proofs.YtahaoakolgomdaaW.PrintWords Go.Proofs.YtahaoakolgomdaaW.PrintLast Go.Proofs.YtahaoakolgomdaaW.PrintMore
set_option linter.unusedVariables false
set_option linter.unusedSimpArgs false

/-- What the law has at hand: a spool, the pair, the tape. -/
def PackL (c p q tp tq : Nat) (G : List (List UInt8)) : List Asr := [spoolA p (tapeG G).sp, pairA c p q (.pointer (some ⟨tp, 0, none⟩)) (.pointer (some ⟨tq, 0, none⟩)), tapeB 105 tp p G false]
theorem wt_len (l : List (List UInt8)) : l.length ≤ wt l := by
  induction l with
  | nil => exact Nat.zero_le _
  | cons x l ih => rw [show x :: l = [x] ++ l from rfl, wt_app, List.length_append]; simp only [wt, List.map_cons, List.map_nil, List.sum_cons, List.sum_nil, List.length_cons, List.length_nil] at ih ⊢; omega
theorem samel_same (a : List (List UInt8)) (n m : Nat) (hn : n = a.length) (hm : m = a.length) (A B : Option Addr) (c c' : Nat) (w : World) (h : klb.C w A a.length a) (h' : klb.C w B a.length a) :
    Calls Try.prog 33 #[.slice A n c, .slice B m c'] w fun e w' => e = .returned (.bool true) ∧ Drawn0 w w' := by
  subst hn hm
  refine (samel_calls a a A B c c' w h h').mono ?_
  rintro e w' ⟨rfl, hd⟩
  exact ⟨by simp [sameLB], hd⟩
theorem Has.rowsC {w0 w : World} {l : List Asr} (H : Has w0 w l) (i : Nat) {A : Option Addr} {n c : Nat} {G : List (List UInt8)} (hi : l[i]? = some (rowsA (.slice A n c) G)) : klb.C w A G.length G := by
  obtain ⟨A', c', e, _, hr⟩ := (H.rows i hi).reads
  injection e with e1 e2 e3
  subst e1
  exact hr
theorem tooLong_take {b : List (List UInt8)} {k : Nat} (h : k < b.length) : tooLong (b.take (k + 1)) = (tooLong (b.take k) || decide (8000 < (b.getD k []).length)) := by
  rw [← take_more h]; simp [tooLong]
set_option maxHeartbeats 2000000 in
set_option maxRecDepth 100000 in
theorem tapePacks_small (a b : List (List UInt8)) (r : List UInt8) (A B C : Option Addr) (ca cb cr : Nat) (w : World) (ha : klb.C w A a.length a) (hb : klb.C w B b.length b) (hr : kb.C w C r.length r) (hcr : r.length ≤ cr) (hsmall : r.length + wt a + wt b ≤ 20000) :
    Calls Try.prog 17 #[.slice A a.length ca, .slice B b.length cb, .slice C r.length cr] w fun e w' => e = .returned (.bool true) ∧ Below w.heap.size w w' := by
  have ma : a.length ≤ 9223372036854775807 := ha.2.1
  have mb : b.length ≤ 9223372036854775807 := hb.2.1
  have mr : r.length ≤ 20000 := by omega
  have HA := Aside0.mk ha
  have HB := Aside0.mk hb
  have HR := Aside0.mk hr
  have HG := Aside0.mk hsmall
  clear ha hb hr hsmall
  go_enter Try.func17, Try.ntmps17
  go_wp2_with fail
  go_loop [7, 8] (fun n i => ∃ N k : Nat, n = .int .i64 N ∧ i = .int .i64 k ∧ k ≤ a.length ∧ N ≤ 20000 ∧ Aside0 (N = r.length + wt (a.take k))) (fun _ i => a.length - (intOf i).toNat)
  case atStart => exact ⟨r.length, 0, rfl, rfl, Nat.zero_le _, mr, ⟨by simp [wt]⟩⟩
  case round =>
    obtain ⟨N, k, rfl, rfl, hk, hN, HN⟩ := hrel
    by_cases hlt : k < a.length
    · obtain ⟨ad, A1, c1, rfl, k1, l1, r1⟩ := klb_get HA.out k hlt
      have HW := Aside0.mk (wt_take hlt)
      obtain ⟨x, hx⟩ : ∃ x, x = a.getD k [] := ⟨_, rfl⟩
      rw [← hx] at k1 l1 r1 HW
      have hx9 : x.length ≤ 9223372036854775807 := r1.2.1
      have hmin := fun W => min_nat (x.length : Int) 30000 (min x.length 30000) (by split <;> omega) W
      have HN2 := Lib.hid (show N + (10 + min x.length 30000) ≤ 20000 by have h1 := wt_le a (k + 1); have h2 := HG.out; have h3 := HN.out; have h4 := HW.out; omega)
      clear hx r1
      go_wp2_with fail
      go_round
      case rel => exact ⟨N + (10 + min x.length 30000), k + 1, by go_num, by go_num, by omega, HN2.out, ⟨by rw [HN.out, HW.out]; omega⟩⟩
      case measure => simp [intOf]; omega
    · have HN1 := Aside0.mk (show N = r.length + wt a by rw [HN.out, show k = a.length by omega, List.take_length])
      clear HN
      go_wp2_with fail
      go_loop [7, 9] (fun n i => ∃ N k : Nat, n = .int .i64 N ∧ i = .int .i64 k ∧ k ≤ b.length ∧ N ≤ 20000 ∧ Aside0 (N = r.length + wt a + wt (b.take k))) (fun _ i => b.length - (intOf i).toNat)
      case atStart => exact ⟨N, 0, rfl, rfl, Nat.zero_le _, hN, ⟨by rw [HN1.out]; simp [wt]⟩⟩
      case round =>
        clear hN HN1
        obtain ⟨N2, k2, rfl, rfl, hk2, hN2, HN2⟩ := hrel
        by_cases hlt2 : k2 < b.length
        · obtain ⟨ad, A1, c1, rfl, k1, l1, r1⟩ := klb_get HB.out k2 hlt2
          have HW := Aside0.mk (wt_take hlt2)
          obtain ⟨x, hx⟩ : ∃ x, x = b.getD k2 [] := ⟨_, rfl⟩
          rw [← hx] at k1 l1 r1 HW
          have hx9 : x.length ≤ 9223372036854775807 := r1.2.1
          have hmin := fun W => min_nat (x.length : Int) 30000 (min x.length 30000) (by split <;> omega) W
          have HN3 := Lib.hid (show N2 + (10 + min x.length 30000) ≤ 20000 by have h1 := wt_le b (k2 + 1); have h2 := HG.out; have h3 := HN2.out; have h4 := HW.out; omega)
          clear hx r1
          go_wp2_with fail
          go_round
          case rel => exact ⟨N2 + (10 + min x.length 30000), k2 + 1, by go_num, by go_num, by omega, HN3.out, ⟨by rw [HN2.out, HW.out]; omega⟩⟩
          case measure => simp [intOf]; omega
        · clear HN2
          go_wp2_with (go_at_call 55; refine (opened_calls _ 60000 (by omega) (by omega) 60000 rfl).mono ?_; rintro e w1 ⟨c, p, q, tp, tq, rfl, hs⟩; have H1 : Aside0 (Has w w1 (PackL c p q tp tq [])) := Aside0.mk ((hs.drop 4).drop 1); have x1 := blk_cell (H1.out.blk 1 rfl) 1; simp at x1; clear hs)
          go_loopw [11] (fun i wr => ∃ (k : Nat) (G : List (List UInt8)), i = .int .i64 k ∧ k ≤ a.length ∧ Aside0 (Has w wr (PackL c p q tp tq G)) ∧ Aside0 (fits G) ∧ Aside0 ((cat G).length ≤ wt (a.take k))) (fun i _ => a.length - (intOf i).toNat)
          case atStart => exact ⟨0, [], rfl, Nat.zero_le _, H1, ⟨fits_nil⟩, ⟨by simp [wt, cat]⟩⟩
          case round =>
            clear H1 x1
            obtain ⟨k3, G, rfl, hk3, HS, HF, HC⟩ := hrel
            have x1 := blk_cell (HS.out.blk 1 rfl) 1
            simp at x1
            by_cases hlt3 : k3 < a.length
            · obtain ⟨ad, A1, c1, rfl, k1', l1, r1⟩ := klb_get HA.out k3 hlt3
              have k1 := pw_cell_below HS.out.old k1'
              have HW := Aside0.mk (wt_take hlt3)
              obtain ⟨x, hx⟩ : ∃ x, x = a.getD k3 [] := ⟨_, rfl⟩
              rw [← hx] at k1 l1 r1 HW
              have R1 := Aside0.mk r1
              have hx9 : x.length ≤ 9223372036854775807 := r1.2.1
              have HC3 := Aside0.mk (show wt (a.take (k3 + 1)) ≤ 20000 by have h1 := wt_le a (k3 + 1); have h2 := HG.out; omega)
              clear hx r1 k1'
              have hg : (cat G).length + (10 + min x.length 30000) ≤ 20000 := by have h1 := HC.out; have h2 := HW.out; have h3 := HC3.out; omega
              have HK := Aside0.mk (tapeG_ok HF.out (by omega))
              by_cases hx8 : x.length ≤ 8000
              · have T := Aside0.mk (tapeG_add (G := G) hx8 (by omega))
                go_wp2_with fail
                go_still_tail 8, (by kernel_rfl)
                change wpList _ _ _ _ _ (World.drew wr)
                go_wp2_with (go_at_call 57; refine (tadd_i (t := tapeG G) HS.out.drew 0 2 (by decide) rfl rfl HK.out x A1 x.length c1 rfl l1 (.inl R1.out) 0 _ T.out).mono ?_; rintro e w2 ⟨rfl, hs⟩; have H2 : Aside0 (Has w w2 (PackL c p q tp tq (G ++ [x]))) := Aside0.mk hs; clear hs)
                go_roundw
                case rel => exact ⟨k3 + 1, G ++ [x], by go_num, by omega, H2, ⟨fits_snoc HF.out hx8⟩, ⟨by rw [HW.out, cat_oneL]; have := HC.out; omega⟩⟩
                case measure => simp [intOf]; omega
              · have T := Aside0.mk (tapeG_long (G := G) (r := x) (by omega))
                go_wp2_with fail
                go_still_tail 8, (by kernel_rfl)
                change wpList _ _ _ _ _ (World.drew wr)
                go_wp2_with (go_at_call 57; refine (tadd_i (t := tapeG G) HS.out.drew 0 2 (by decide) rfl rfl HK.out x A1 x.length c1 rfl l1 (.inl R1.out) 3 _ T.out).mono ?_; rintro e w2 ⟨rfl, hs⟩; have H2 : Aside0 (Has w w2 (PackL c p q tp tq G)) := Aside0.mk hs; clear hs)
                go_roundw
                case rel => exact ⟨k3 + 1, G, by go_num, by omega, H2, HF, ⟨by rw [HW.out]; have := HC.out; omega⟩⟩
                case measure => simp [intOf]; omega
            · clear hN2 hlt2 hk2
              have hG : (cat G).length ≤ 20000 := by have h1 := wt_le a k3; have h2 := HG.out; have h3 := HC.out; omega
              have HK := Aside0.mk (tapeG_ok HF.out (by omega))
              have HGL := Lib.hid (show G.length ≤ 1000000 by have := cat_len G; omega)
              clear HC hG
              go_wp2_with (go_at_call 62; refine (records_h HS.out 2 rfl HGL.out HF.out G rfl).mono ?_; rintro e w4 ⟨A4, c4, n4, rfl, e4, l4, hs⟩; have H4 : Aside0 (Has w w4 (PackL c p q tp tq G ++ [rowsA (.slice A4 n4 c4) G])) := Aside0.mk hs; have E4 := Lib.hid e4; have y1 := blk_cell (H4.out.blk 1 rfl) 1; simp at y1; clear hs e4)
              go_loop [13, 14] (fun v i => ∃ (bb : Bool) (k : Nat), v = .bool bb ∧ i = .int .i64 k ∧ k ≤ b.length ∧ Aside0 (bb = (decide (8000 < r.length) || tooLong (b.take k)))) (fun _ i => b.length - (intOf i).toNat)
              case atStart => exact ⟨_, 0, rfl, rfl, Nat.zero_le _, ⟨by simp [tooLong]; omega⟩⟩
              case round =>
                obtain ⟨bb, k5, rfl, rfl, hk5, HBB⟩ := hrel
                by_cases hlt5 : k5 < b.length
                · obtain ⟨bd, A5, c5, rfl, k1', l1, r1⟩ := klb_get HB.out k5 hlt5
                  have k1 := pw_cell_below H4.out.old k1'
                  have HT := Aside0.mk (tooLong_take hlt5)
                  obtain ⟨x, hx⟩ : ∃ x, x = b.getD k5 [] := ⟨_, rfl⟩
                  rw [← hx] at k1 l1 r1 HT
                  have hx9 : x.length ≤ 9223372036854775807 := r1.2.1
                  clear hx r1 k1'
                  cases bb
                  · by_cases hx8 : 8000 < x.length
                    · have hx8' : (8000 : Int) < (x.length : Int) := by omega
                      go_wp2_with fail
                      go_round
                      case rel => exact ⟨true, k5 + 1, by go_num, by go_num, by omega, ⟨by rw [HT.out]; simp [hx8]⟩⟩
                      case measure => simp [intOf]; omega
                    · have hx8' : ¬ (8000 : Int) < (x.length : Int) := by omega
                      go_wp2_with fail
                      go_round
                      case rel => exact ⟨false, k5 + 1, by go_num, by go_num, by omega, ⟨by rw [HT.out, ← Bool.or_assoc, ← HBB.out]; simp [hx8]⟩⟩
                      case measure => simp [intOf]; omega
                  · go_wp2_with fail
                    go_round
                    case rel => exact ⟨true, k5 + 1, rfl, by go_num, by omega, ⟨by rw [HT.out, ← Bool.or_assoc, ← HBB.out]; simp⟩⟩
                    case measure => simp [intOf]; omega
                · have hbb : bb = (decide (8000 < r.length) || tooLong b) := by rw [HBB.out, show k5 = b.length by omega, List.take_length]
                  clear HBB
                  cases ht : tooLong b with
                  | true =>
                    rw [ht, Bool.or_true] at hbb
                    subst hbb
                    have T := Aside0.mk (tapeG_packlong (G := G) ht)
                    clear ht
                    go_wp2_with (first
                      | (go_at_call 56; have _t := H7.out; clear _t; refine (known19_calls _).mono ?_; rintro e w8 ⟨rfl, hb⟩; have H8 := Aside0.mk (H7.out.none.below hb); clear hb)
                      | (go_at_call 33; have _t := H6.out; clear _t; refine (samel_same G _ _ E6.out E4.out _ _ _ _ _ (H6.out.rowsC 4 rfl) (H6.out.rowsC 3 rfl)).mono ?_; rintro e w7 ⟨rfl, hd⟩; have H7 := Aside0.mk (H6.out.below hd.below); clear hd)
                      | (go_at_call 62; have _t := H5.out; clear _t; refine (records_h H5.out 2 rfl HGL.out HF.out G rfl).mono ?_; rintro e w6 ⟨A6, c6, n6, rfl, e6, l6, hs⟩; have H6 : Aside0 (Has w w6 (PackL c p q tp tq G ++ [rowsA (.slice A4 n4 c4) G, rowsA (.slice A6 n6 c6) G])) := Aside0.mk hs; have E6 := Lib.hid e6; clear hs e6)
                      | (go_at_call 67; refine (tpack_i (t := tapeG G) H4.out 0 2 (by decide) rfl rfl HK.out b B b.length cb rfl HB.out 3 _ T.out).mono ?_; rintro e w5 ⟨rfl, hs⟩; have H5 : Aside0 (Has w w5 (PackL c p q tp tq G ++ [rowsA (.slice A4 n4 c4) G])) := Aside0.mk hs; have z1 := blk_cell (H5.out.blk 1 rfl) 1; simp at z1; clear hs))
                    go_ret
                    exact ⟨rfl, H8.out.old⟩
                  | false =>
                    rw [ht, Bool.or_false] at hbb
                    have hf : fits b := tooLong_fits.1 ht
                    have hcb : (cat b).length + r.length ≤ 20000 := by have h1 := cat_wt b hf; have h2 := HG.out; omega
                    have T := Aside0.mk (tapeG_pack (G := G) ht hf (by omega))
                    have HFB := Aside0.mk hf
                    have HKB := Aside0.mk (tapeG_ok hf (by omega))
                    have HBL := Lib.hid (show b.length ≤ 20000 by have h1 := wt_len b; have h2 := HG.out; omega)
                    by_cases hr8 : 8000 < r.length
                    · rw [decide_eq_true hr8] at hbb
                      subst hbb
                      clear ht hf hcb
                      go_wp2_with (first
                        | (go_at_call 56; have _t := H5.out; clear _t; refine (known19_calls _).mono ?_; rintro e w8 ⟨rfl, hb⟩; have H8 := Aside0.mk (H5.out.none.below hb); clear hb)
                        | (go_at_call 67; refine (tpack_i (t := tapeG G) H4.out 0 2 (by decide) rfl rfl HK.out b B b.length cb rfl HB.out 0 _ T.out).mono ?_; rintro e w5 ⟨rfl, hs⟩; have H5 : Aside0 (Has w w5 (PackL c p q tp tq b ++ [rowsA (.slice A4 n4 c4) G])) := Aside0.mk hs; have z1 := blk_cell (H5.out.blk 1 rfl) 1; simp at z1; clear hs))
                      go_ret
                      exact ⟨rfl, H8.out.old⟩
                    · rw [decide_eq_false hr8] at hbb
                      subst hbb
                      have T2 := Aside0.mk (tapeG_add (G := b) (r := r) (by omega) (by omega))
                      have HF2 := Aside0.mk (fits_snoc hf (x := r) (by omega))
                      obtain ⟨m1, hm1⟩ : ∃ m1 : Nat, m1 = b.length + 1 := ⟨_, rfl⟩
                      have hbl := HBL.out
                      have hme : ((m1 : Int) == (b.length : Int) + 1) = true := by rw [beq_iff_eq]; omega
                      have HM1 := Lib.hid hm1
                      have HL2 := Lib.hid (show (b ++ [r]).length = m1 by rw [hm1]; simp)
                      clear ht hf hcb hm1
                      go_wp2_with (first
                        | (go_at_call 56; have _t := H14.out; clear _t; refine (known19_calls _).mono ?_; rintro e w15 ⟨rfl, hb⟩; have H15 := Aside0.mk (H14.out.none.below hb); clear hb)
                        | (go_at_call 64; have _t := H14.out; clear _t; refine (tlen_h H14.out 3 rfl m1 HL2.out.symm).mono ?_; rintro e w' ⟨rfl, hw⟩; obtain rfl := hw.symm; clear hw)
                        | (go_at_call 33; have _t := H13.out; clear _t; refine (samel_same (b ++ [r]) _ _ E13.out HL2.out.symm _ _ _ _ _ (H13.out.rowsC 5 rfl) (H13.out.outC 4 rfl)).mono ?_; rintro e w14 ⟨rfl, hd⟩; have H14 := Aside0.mk (H13.out.below hd.below); clear hd)
                        | (go_at_call 62; have _t := H12.out; clear _t; refine (records_h H12.out 3 rfl (by rw [HL2.out]; have := HBL.out; have := HM1.out; omega) HF2.out (b ++ [r]) rfl).mono ?_; rintro e w13 ⟨A13, c13, n13, rfl, e13, l13, hs⟩; have H13 : Aside0 (Has w w13 [spoolA p (tapeG (b ++ [r])).sp, pairA c p q (.pointer (some ⟨tp, 0, none⟩)) (.pointer (some ⟨tq, 0, none⟩)), tapeB 105 tp p (b ++ [r]) false, tapeB 105 tn p (b ++ [r]) false, outA w (.slice A11 m1 c11) (b ++ [r]), rowsA (.slice A13 n13 c13) (b ++ [r])]) := Aside0.mk hs; have E13 := Lib.hid e13; clear hs e13)
                        | (at_builtin; have _t := HX1.out; clear _t; refine list_of_run rfl 35 (.tmp 180) (.tmp 182) rfl rfl rfl HR11.out ?_; clear HR11 HX1)
                        | (at_builtin; have _t := HR10.out; clear _t; refine list_of_run rfl 35 (.tmp 177) (.tmp 178) rfl rfl rfl HR10.out ?_; clear HR10; have HX1 := Aside0.mk trivial)
                        | (go_at_call 63; have _t := H8.out; clear _t; refine (topen_i H8.out 0 rfl (b ++ [r]) _ (tapeG_opn HF2.out)).mono ?_; rintro e w9 ⟨tn, rfl, hs⟩; obtain ⟨A10, c10, w10, hr10, _, h10⟩ := out_run (hs.addE (Fresh.outNil w w9)) 4 (.slice none 0 0) [] b rfl 35 B b.length cb (News.of HB.out hs.old) b.length (by simp) (by have := HBL.out; omega); obtain ⟨A11, c11, w11, hr11, _, h11⟩ := out_run (h10.alloc (.cells #[.slice C r.length cr] 22)) 4 (.slice A10 b.length c10) ([] ++ b) [r] rfl 35 (some ⟨w10.heap.size, 0, none⟩) 1 1 (News.one hcr HR.out) m1 (by have := HM1.out; simpa using this) (by have := HM1.out; omega); have HR10 := Aside0.mk hr10; have HR11 := Aside0.mk hr11; have H12 : Aside0 (Has w w11 [spoolA p (tapeG (b ++ [r])).sp, pairA c p q (.pointer (some ⟨tp, 0, none⟩)) (.pointer (some ⟨tq, 0, none⟩)), tapeB 105 tp p (b ++ [r]) false, tapeB 105 tn p (b ++ [r]) false, outA w (.slice A11 m1 c11) (b ++ [r])]) := Aside0.mk h11; clear hs h10 h11 hr10 hr11)
                        | (go_at_call 44; have _t := H7.out; clear _t; refine (crash_h H7.out 0 p _ rfl 0 _ (tapeG_crash (b ++ [r]))).mono ?_; rintro e w8 ⟨rfl, hs⟩; have H8 : Aside0 (Has w w8 (PackL c p q tp tq (b ++ [r]))) := Aside0.mk hs; have z8 := blk_cell (H8.out.blk 1 rfl) 0; simp at z8; clear hs)
                        | (go_at_call 57; have _t := H65.out; clear _t; refine (tadd_i (t := tapeG b) H65.out 0 2 (by decide) rfl rfl HKB.out r C r.length cr rfl hcr (.inl HR.out) 0 _ T2.out).mono ?_; rintro e w7 ⟨rfl, hs⟩; have H7 : Aside0 (Has w w7 (PackL c p q tp tq (b ++ [r]))) := Aside0.mk ((hs.drop 4).drop 3); have z7 := blk_cell (H7.out.blk 1 rfl) 0; simp at z7; clear hs)
                        | (go_at_call 33; have _t := H6.out; clear _t; refine (samel_same b _ _ E6.out rfl _ _ _ _ _ (H6.out.rowsC 4 rfl) (Kd.C_below HB.out H6.out.old)).mono ?_; rintro e w65 ⟨rfl, hd⟩; have H65 := Aside0.mk (H6.out.below hd.below); have z6 := blk_cell (H65.out.blk 1 rfl) 1; simp at z6; clear hd)
                        | (go_at_call 62; have _t := H5.out; clear _t; refine (records_h H5.out 2 rfl (by have := HBL.out; omega) HFB.out b rfl).mono ?_; rintro e w6 ⟨A6, c6, n6, rfl, e6, l6, hs⟩; have H6 : Aside0 (Has w w6 (PackL c p q tp tq b ++ [rowsA (.slice A4 n4 c4) G, rowsA (.slice A6 n6 c6) b])) := Aside0.mk hs; have E6 := Lib.hid e6; clear hs e6)
                        | (go_at_call 67; refine (tpack_i (t := tapeG G) H4.out 0 2 (by decide) rfl rfl HK.out b B b.length cb rfl HB.out 0 _ T.out).mono ?_; rintro e w5 ⟨rfl, hs⟩; have H5 : Aside0 (Has w w5 (PackL c p q tp tq b ++ [rowsA (.slice A4 n4 c4) G])) := Aside0.mk hs; have z1 := blk_cell (H5.out.blk 1 rfl) 1; simp at z1; clear hs))
                      go_ret
                      exact ⟨rfl, H15.out.old⟩
end Go.Proofs.Ytahaoakolgomdaa
