/- The walk of the law TapeFull. -/
import Derived.Test.YtahaoakolgomdaaS46
namespace Go.Proofs.Ytahaoakolgomdaa
open Go.RowKit Go.Proofs.YtahaoakolgomdaaW.PrintWords Go.Proofs.YtahaoakolgomdaaW.PrintLast Go.Proofs.YtahaoakolgomdaaW.PrintMore
set_option linter.unusedVariables false
set_option linter.unusedSimpArgs false

set_option maxHeartbeats 2000000 in
set_option maxRecDepth 100000 in
theorem tapeFull_calls (r more : List UInt8) (A B : Option Addr) (c d : Nat) (w : World) (ha : kb.C w A r.length r) (hb : kb.C w B more.length more) (hac : r.length ≤ c) (hbd : more.length ≤ d) (hl : r.length ≤ 300) (hl2 : more.length ≤ 300) :
    Calls Try.prog 15 #[.slice A r.length c, .slice B more.length d] w fun e w' => e = .returned (.bool true) ∧ Below w.heap.size w w' := by
  have kc := fun (w : World) (C : Array Value) (n c : Nat) => Lib.run_convert_bytes_const (P := Try.prog) w 22 5 C n c Try.underlying22 Try.underlying5
  obtain ⟨N, hN⟩ : ∃ N, N = 2 * (r.length + 7) + 6 := ⟨_, rfl⟩
  obtain ⟨k, hk⟩ : ∃ k, k = r.length + 7 := ⟨_, rfl⟩
  obtain ⟨c1, hc1⟩ : ∃ c1, cat [r] = c1 := ⟨_, rfl⟩
  obtain ⟨c2, hc2⟩ : ∃ c2, cat [r, r] = c2 := ⟨_, rfl⟩
  have l1 : c1.length = k := by rw [← hc1]; simp [cat, putS_length]; omega
  have l2 : c2.length = k + k := by rw [← hc2]; simp [cat, putS_length]; omega
  have f1 : fits [r] := fun x hx => by simp at hx; subst hx; omega
  have f2 : fits [r, r] := fun x hx => by simp at hx; subst hx; omega
  have f3 : fits [r, [122]] := fun x hx => by simp at hx; rcases hx with rfl | rfl; omega; simp
  have e1 : c1 = [] ++ putS r := by rw [← hc1]; simp [cat]
  have e2 : c2 = c1 ++ putS r := by rw [← hc2, ← hc1]; simp [cat]
  have O0 := Aside0.mk (show opn ⟨[], 0, N, -1, false⟩ = (0, some [], ⟨[], 0, N, -1, false⟩) from opn_all (G := []) fits_nil)
  have P0 := Aside0.mk (show opn ⟨[], 0, 2000, -1, false⟩ = (0, some [], ⟨[], 0, 2000, -1, false⟩) from opn_all (G := []) fits_nil)
  have T1 := Aside0.mk (show Ts.add ⟨⟨[], 0, N, -1, false⟩, [], false⟩ r = (0, ⟨⟨c1, k, N, -1, false⟩, [r], false⟩) by rw [lay_on (by simp; omega) (by omega), ← e1, hk]; simp)
  have T2 := Aside0.mk (show Ts.add ⟨⟨c1, k, N, -1, false⟩, [r], false⟩ r = (0, ⟨⟨c2, k + k, N, -1, false⟩, [r, r], false⟩) by rw [lay_on (by omega) (by omega), ← e2, l1, hk]; rfl)
  have T3 := Aside0.mk (show Ts.add ⟨⟨c2, k + k, N, -1, false⟩, [r, r], false⟩ r = (5, ⟨⟨c2, k + k, N, -1, false⟩, [r, r], false⟩) by rw [lay_full (by omega) (by omega)])
  have T4 := Aside0.mk (show Ts.add ⟨⟨c2, k + k, N, -1, false⟩, [r, r], false⟩ [] = (5, ⟨⟨c2, k + k, N, -1, false⟩, [r, r], false⟩) by rw [lay_full (by simp; omega) (by simp)])
  have U1 := Aside0.mk (show Ts.add ⟨⟨[], 0, 2000, -1, false⟩, [], false⟩ r = (0, ⟨⟨c1, k, 2000, -1, false⟩, [r], false⟩) by rw [lay_on (by simp; omega) (by omega), ← e1, hk]; simp)
  have UL := Aside0.mk (show (Sp.mk c1 k 2000 (-1) false).len = k by unfold Sp.len; simp only; rw [l1]; rfl)
  obtain ⟨c3, hc3⟩ : ∃ c3, c1 ++ [0] = c3 := ⟨_, rfl⟩
  obtain ⟨c4, hc4⟩ : ∃ c4, c3 ++ more = c4 := ⟨_, rfl⟩
  have l3 : c3.length = k + 1 := by rw [← hc3, List.length_append, l1]; rfl
  have U2 := Aside0.mk (show (Sp.mk c1 k 2000 (-1) false).add [0] = (0, ⟨c3, k, 2000, -1, false⟩) by rw [Sp.add_on (by simp; omega), hc3])
  have U3 := Aside0.mk (show (Sp.mk c3 k 2000 (-1) false).add more = (0, ⟨c4, k, 2000, -1, false⟩) by rw [Sp.add_on (by omega), hc4])
  have U4 := Aside0.mk (show opn ⟨c4, k, 2000, -1, false⟩ = (0, some [r], ⟨c1, k, 2000, -1, false⟩) by
    have h4 : c4 = cat [r] ++ (0 :: more) := by rw [← hc4, ← hc3, hc1]; simp
    rw [h4, opn_cut f1 (by simp) (by rw [getS_nought _ more _ (by rw [List.drop_left' rfl])]; decide), hc1, l1])
  obtain ⟨c5, hc5⟩ : ∃ c5, c1 ++ putS [122] = c5 := ⟨_, rfl⟩
  have U5 := Aside0.mk (show Ts.add ⟨⟨c1, k, 2000, -1, false⟩, [r], false⟩ [122] = (0, ⟨⟨c5, k + 8, 2000, -1, false⟩, [r, [122]], false⟩) by rw [lay_on (by simp; omega) (by simp), hc5, l1]; rfl)
  have KN0 := Aside0.mk (show (Ts.mk ⟨[], 0, N, -1, false⟩ [] false).Ok from Ts.ok_of (by simp) (by simp) (by omega) (by omega) (by omega) (by simp [cat]) fits_nil)
  have KN1 := Aside0.mk (show (Ts.mk ⟨c1, k, N, -1, false⟩ [r] false).Ok from Ts.ok_of (by omega) (by omega) (by omega) (by omega) (by omega) (by rw [hc1]; exact Nat.le_refl _) f1)
  have KN2 := Aside0.mk (show (Ts.mk ⟨c2, k + k, N, -1, false⟩ [r, r] false).Ok from Ts.ok_of (by omega) (by omega) (by omega) (by omega) (by omega) (by rw [hc2]; exact Nat.le_refl _) f2)
  have KU0 := Aside0.mk (show (Ts.mk ⟨[], 0, 2000, -1, false⟩ [] false).Ok from Ts.ok_of (by simp) (by simp) (by omega) (by omega) (by omega) (by simp [cat]) fits_nil)
  have KU1 := Aside0.mk (show (Ts.mk ⟨c1, k, 2000, -1, false⟩ [r] false).Ok from Ts.ok_of (by omega) (by omega) (by omega) (by omega) (by omega) (by rw [hc1]; exact Nat.le_refl _) f1)
  have HA := Aside0.mk ha
  have HB := Aside0.mk hb
  have HNN := Lib.hid (show (2 * ((r.length : Int) + 7) + 6).toNat = N by omega)
  clear hc1 hc2 hc3 hc4 hc5 l1 l2 l3 e1 e2 f1 f2 f3 ha hb hN hk
  go_enter Try.func15, Try.ntmps15
  go_wp2_with (first
    | (go_at_call 56; refine (known19_calls _).mono ?_; rintro e w15 ⟨rfl, hb⟩; have H15 := Aside0.mk (H14.out.none.below hb); clear hb)
    | (go_at_call 64; refine (tlen_h H14.out 4 rfl 2 rfl).mono ?_; rintro e w' ⟨rfl, hw⟩; obtain rfl := hw.symm; clear hw)
    | (go_at_call 57; refine (tadd_i (H13.out.addO _) 2 4 (by decide) rfl rfl KU1.out [122] _ 1 1 rfl (Nat.le_refl _) (.inr ⟨5, _, by decide, by decide, rfl, reads_blk rfl (by simp)⟩) 0 _ U5.out).mono ?_; rintro e w14 ⟨rfl, hs⟩; have H14 : Aside0 (Has w w14 [spoolA p ⟨c2, k + k, N, -1, false⟩, tapeB 105 tp p [r, r] false, spoolA q ⟨c5, k + 8, 2000, -1, false⟩, tapeB 105 tq q [r] false, tapeB 105 tw q [r, [122]] false]) := Aside0.mk (Has.drop hs 5); clear hs)
    | (go_at_call 46; refine (len_h H13.out 2 q _ rfl k UL.out).mono ?_; rintro e w' ⟨rfl, hw⟩; obtain rfl := hw.symm; clear hw)
    | (go_at_call 64; refine (tlen_h H13.out 4 rfl 1 rfl).mono ?_; rintro e w' ⟨rfl, hw⟩; obtain rfl := hw.symm; clear hw)
    | (go_at_call 63; refine (topen_i H12.out 2 rfl _ _ U4.out).mono ?_; rintro e w13 ⟨tw, rfl, hs⟩; have H13 : Aside0 (Has w w13 [spoolA p ⟨c2, k + k, N, -1, false⟩, tapeB 105 tp p [r, r] false, spoolA q ⟨c1, k, 2000, -1, false⟩, tapeB 105 tq q [r] false, tapeB 105 tw q [r] false]) := Aside0.mk hs; clear hs)
    | (go_at_call 41; refine (add_h H11.out 2 q _ rfl more more.length rfl B d (Kd.C_below HB.out H11.out.old) hbd 0 _ U3.out).mono ?_; rintro e w12 ⟨rfl, hs⟩; have H12 : Aside0 (Has w w12 [spoolA p ⟨c2, k + k, N, -1, false⟩, tapeB 105 tp p [r, r] false, spoolA q ⟨c4, k, 2000, -1, false⟩, tapeB 105 tq q [r] false]) := Aside0.mk hs; clear hs)
    | (go_at_call 41; refine (add_h (H9.out.alloc _) 2 q _ rfl [0] 1 rfl _ _ (kb_block (xs := [0]) (blk_new _ _) rfl (by simp)) (by omega) 0 _ U2.out).mono ?_; rintro e w11 ⟨rfl, hs⟩; have H11 : Aside0 (Has w w11 [spoolA p ⟨c2, k + k, N, -1, false⟩, tapeB 105 tp p [r, r] false, spoolA q ⟨c3, k, 2000, -1, false⟩, tapeB 105 tq q [r] false]) := Aside0.mk hs; clear hs)
    | (go_at_call 46; refine (len_h H9.out 2 q _ rfl k UL.out).mono ?_; rintro e w' ⟨rfl, hw⟩; obtain rfl := hw.symm; clear hw)
    | (go_at_call 57; refine (tadd_i H8.out 2 3 (by decide) rfl rfl KU0.out r A r.length c rfl hac (.inl HA.out) 0 _ U1.out).mono ?_; rintro e w9 ⟨rfl, hs⟩; have H9 : Aside0 (Has w w9 [spoolA p ⟨c2, k + k, N, -1, false⟩, tapeB 105 tp p [r, r] false, spoolA q ⟨c1, k, 2000, -1, false⟩, tapeB 105 tq q [r] false]) := Aside0.mk hs; clear hs)
    | (go_at_call 63; refine (topen_i H7.out 2 rfl _ _ P0.out).mono ?_; rintro e w8 ⟨tq, rfl, hs⟩; have H8 : Aside0 (Has w w8 [spoolA p ⟨c2, k + k, N, -1, false⟩, tapeB 105 tp p [r, r] false, spoolA q ⟨[], 0, 2000, -1, false⟩, tapeB 105 tq q [] false]) := Aside0.mk hs; clear hs)
    | (go_at_call 38; have _t := H6.out; refine (new_h _ 2000 (by omega) (by omega) ⟨[], 0, 2000, -1, false⟩ rfl).mono ?_; rintro e w7 ⟨q, rfl, hf⟩; have H7 : Aside0 (Has w w7 [spoolA p ⟨c2, k + k, N, -1, false⟩, tapeB 105 tp p [r, r] false, spoolA q ⟨[], 0, 2000, -1, false⟩]) := Aside0.mk (H6.out.addE hf); clear hf)
    | (go_at_call 57; refine (tadd_i H5.out 0 1 (by decide) rfl rfl KN2.out [] none 0 0 rfl (Nat.le_refl _) (.inl (Kd.C_nil _ _)) 5 _ T4.out).mono ?_; rintro e w6 ⟨rfl, hs⟩; have H6 : Aside0 (Has w w6 [spoolA p ⟨c2, k + k, N, -1, false⟩, tapeB 105 tp p [r, r] false]) := Aside0.mk hs; clear hs)
    | (go_at_call 64; refine (tlen_h H5.out 1 rfl 2 rfl).mono ?_; rintro e w' ⟨rfl, hw⟩; obtain rfl := hw.symm; clear hw)
    | (go_at_call 57; refine (tadd_i H4.out 0 1 (by decide) rfl rfl KN2.out r A r.length c rfl hac (.inl HA.out) 5 _ T3.out).mono ?_; rintro e w5 ⟨rfl, hs⟩; have H5 : Aside0 (Has w w5 [spoolA p ⟨c2, k + k, N, -1, false⟩, tapeB 105 tp p [r, r] false]) := Aside0.mk hs; clear hs)
    | (go_at_call 57; refine (tadd_i H3.out 0 1 (by decide) rfl rfl KN1.out r A r.length c rfl hac (.inl HA.out) 0 _ T2.out).mono ?_; rintro e w4 ⟨rfl, hs⟩; have H4 : Aside0 (Has w w4 [spoolA p ⟨c2, k + k, N, -1, false⟩, tapeB 105 tp p [r, r] false]) := Aside0.mk hs; clear hs)
    | (go_at_call 57; refine (tadd_i H2.out 0 1 (by decide) rfl rfl KN0.out r A r.length c rfl hac (.inl HA.out) 0 _ T1.out).mono ?_; rintro e w3 ⟨rfl, hs⟩; have H3 : Aside0 (Has w w3 [spoolA p ⟨c1, k, N, -1, false⟩, tapeB 105 tp p [r] false]) := Aside0.mk hs; clear hs)
    | (go_at_call 63; refine (topen_i H1.out 0 rfl _ _ O0.out).mono ?_; rintro e w2 ⟨tp, rfl, hs⟩; have H2 : Aside0 (Has w w2 [spoolA p ⟨[], 0, N, -1, false⟩, tapeB 105 tp p [] false]) := Aside0.mk hs; clear hs)
    | (go_at_call 38; refine (new_h _ (2 * ((r.length : Int) + 7) + 6) (by omega) (by omega) ⟨[], 0, N, -1, false⟩ (by rw [HNN.out]; rfl)).mono ?_; rintro e w1 ⟨p, rfl, hf⟩; have H1 : Aside0 (Has w w1 [spoolA p ⟨[], 0, N, -1, false⟩]) := Aside0.mk ((Has.start w).addE hf); clear hf))
  go_ret
  exact ⟨rfl, H15.out.old⟩
theorem tapeFull_long (a b : List UInt8) (A B : Option Addr) (c d : Nat) (w : World) (ma : a.length ≤ 9223372036854775807) (mb : b.length ≤ 9223372036854775807) (h : 300 < a.length ∨ 300 < b.length) :
    Calls Try.prog 15 #[.slice A a.length c, .slice B b.length d] w fun e w' => e = .returned (.bool true) ∧ Below w.heap.size w w' := by
  by_cases h1 : 300 < a.length
  · have h1' : (300 : Int) < (a.length : Int) := by omega
    clear h h1
    go_enter Try.func15, Try.ntmps15
    go_wp2_with (go_at_call 56; refine (known19_calls _).mono ?_; rintro e w1 ⟨rfl, hb⟩; have HB := Aside0.mk hb; clear hb)
    go_ret
    exact ⟨rfl, HB.out⟩
  · have h2' : (300 : Int) < (b.length : Int) := by omega
    have h1' : ¬ (300 : Int) < (a.length : Int) := by omega
    clear h h1
    go_enter Try.func15, Try.ntmps15
    go_wp2_with (go_at_call 56; refine (known19_calls _).mono ?_; rintro e w1 ⟨rfl, hb⟩; have HB := Aside0.mk hb; clear hb)
    go_ret
    exact ⟨rfl, HB.out⟩
theorem tapeFull_walk (w : World) (xs : List UInt8) (A : Option Addr) (c : Nat) (ka : kb.C w A xs.length xs) (hca : xs.length ≤ c) (_ : xs.length ≤ 140737488351232) (ys : List UInt8) (B : Option Addr) (c' : Nat) (k2 : kb.C w B ys.length ys) (hcb : ys.length ≤ c') (_ : ys.length ≤ 140737488351232) :
    Calls Try.prog 15 #[.slice A xs.length c, .slice B ys.length c'] w fun e w' => e = .returned (.bool true) ∧ Below w.heap.size w w' := by
  by_cases h : 300 < xs.length ∨ 300 < ys.length
  · exact tapeFull_long xs ys A B c c' w ka.2.1 k2.2.1 h
  · exact tapeFull_calls xs ys A B c c' w ka k2 hca hcb (by omega) (by omega)
end Go.Proofs.Ytahaoakolgomdaa
