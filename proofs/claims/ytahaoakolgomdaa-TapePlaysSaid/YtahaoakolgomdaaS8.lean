/- The contracts of gangerref17.Get and All. -/
import Derived.Test.YtahaoakolgomdaaS4
import Derived.Test.YtahaoakolgomdaaS7
namespace Go.Proofs.Ytahaoakolgomdaa
open Go.RowKit Go.Proofs.YtahaoakolgomdaaW.PrintWords Go.Proofs.YtahaoakolgomdaaW.PrintLast Go.Proofs.YtahaoakolgomdaaW.PrintMore
set_option linter.unusedVariables false
set_option linter.unusedSimpArgs false

theorem rget_calls (xs : List UInt8) (A : Option Addr) (c : Nat) (w : World) (h : kb.C w A xs.length xs) (hc : xs.length ≤ c) (at_ : Int) :
    Calls Try.prog 30 #[.slice A xs.length c, .int .i64 at_] w (GetSays w (getS xs at_)) := by
  have hm : xs.length ≤ 9223372036854775807 := h.2.1
  unfold getS
  by_cases h0 : at_ < 0
  · rw [if_pos (.inl h0)]; exact (rget_arg0 xs A c w hm at_ h0).mono (fun _ _ h => h.says)
  obtain ⟨k, rfl⟩ := Int.eq_ofNat_of_zero_le (Int.not_lt.1 h0)
  by_cases h1 : xs.length < k
  · rw [if_pos (.inr (by omega))]; exact (rget_arg1 xs A c w hm k h1).mono (fun _ _ h => h.says)
  rw [if_neg (by omega)]
  by_cases h2 : k = xs.length
  · subst h2
    rw [if_pos (.inl rfl)]; exact (rget_end xs A c w hm).mono (fun _ _ h => h.says)
  have hk : k < xs.length := by omega
  rw [Int.toNat_natCast]
  by_cases h3 : xs.getD k 0 = 0
  · rw [if_pos (.inr h3)]; exact (rget_nought xs A c w h k hk (by unfold by8; rw [h3]; rfl)).mono (fun _ _ h => h.says)
  rw [if_neg (by rintro (h | h); omega; exact h3 h)]
  have hz : (by8 xs k == 0) = false := by
    rw [beq_eq_false_iff_ne]; unfold by8; intro h
    exact h3 (UInt8.toNat_inj.1 (by rw [UInt8.toNat_zero]; omega))
  have hl : (xs.drop k).length = xs.length - k := by simp
  by_cases h7 : xs.length - k < 7
  · rw [if_neg (by intro h; have := h.1; omega)]; exact (rget_short xs A c w h k hk hz h7).mono (fun _ _ h => h.says)
  by_cases hn : xs.length - k < numAt (xs.drop k) + 7
  · rw [if_neg (by intro h; have h2 := h.2.2.2.1; omega)]
    exact (rget_size xs A c w h k hk hz (by omega) _ rfl hn).mono (fun _ _ h => h.says)
  by_cases hq8 : 8000 < numAt (xs.drop k)
  · rw [if_neg (by intro h; have h2 := h.2.2.1; omega)]
    exact (rget_long xs A c w h hc k hk hz (by omega) _ rfl (by omega) hq8).mono (fun _ _ h => h.says)
  by_cases hs : putS (bodyAt (xs.drop k)) = (xs.drop k).take (numAt (xs.drop k) + 7)
  · have hi : isCrate (xs.drop k) := by
      refine ⟨by omega, ?_, by omega, by omega, hs.symm⟩
      have h4 : ((xs.drop k).take (numAt (xs.drop k) + 7)).getD 0 0 = 0xc5 := by rw [← hs]; rfl
      rw [List.getD_eq_getElem?_getD, List.getElem?_take_of_lt (by omega), ← List.getD_eq_getElem?_getD] at h4
      exact h4
    rw [if_pos hi]
    exact (rget_ok xs A c w h hc k hk hz (by omega) _ rfl (by omega) (by omega) hs).mono (fun _ _ h => h.says)
  · rw [if_neg (fun h => hs h.2.2.2.2.symm)]
    exact (rget_diff xs A c w h hc k hk hz (by omega) _ rfl (by omega) (by omega) hs).mono (fun _ _ h => h.says)

set_option maxHeartbeats 1000000 in
theorem rall_calls (xs : List UInt8) (A : Option Addr) (c : Nat) (w : World) (h : kb.C w A xs.length xs) (hc : xs.length ≤ c) (hb : xs.length ≤ 4000000) :
    Calls Try.prog 32 #[.slice A xs.length c] w (AllSays w (allS xs)) := by
  have H := Aside0.mk h
  clear h
  go_enter Try.func32, Try.ntmps32
  go_wp2
  go_loopw [5, 6] (fun v i wr => ∃ (k : Nat) (outs : List (List UInt8)) (f : Nat), i = .int .i64 k ∧ k ≤ xs.length ∧ outs.length ≤ k ∧ Aside0 (OwnL wr w.heap.size v outs) ∧ Aside0 (Below w.heap.size w wr) ∧ xs.length - k < f ∧ Aside0 (allGo xs f k outs = allS xs)) (fun _ i _ => xs.length - (intOf i).toNat)
  case atStart => exact ⟨0, [], xs.length + 1, rfl, Nat.zero_le _, Nat.le_refl _, ⟨OwnL.nil _ _⟩, ⟨Below.refl _ _⟩, by omega, ⟨rfl⟩⟩
  case round =>
    obtain ⟨k, outs, f, rfl, hk, ho, HO, HB, hf, HA⟩ := hrel
    have hgo := getS_ok xs k
    have hge := getS_err xs k
    have hcall := rget_calls xs A c wr (Kd.C_below H.out HB.out) hc k
    obtain ⟨f, rfl⟩ : ∃ m, f = m + 1 := ⟨f - 1, by omega⟩
    have HA2 := HA.out
    clear HA
    simp only [allGo] at HA2
    generalize getS xs (k : Int) = g at *
    obtain ⟨g1, g2, g3⟩ := g
    simp only at hgo hge HA2
    by_cases h0 : g3 = 0
    · subst h0
      obtain ⟨j, rfl, hj1, hj2⟩ := hgo rfl
      rw [if_pos rfl] at HA2
      have HA := Aside0.mk HA2
      have HC := Aside0.mk hcall
      clear HA2 hcall hgo hge
      go_wp2_with (first
        | (go_at_call 30; refine HC.out.mono ?_; rintro e w1 ⟨v1, rfl, ho1, hb1⟩; obtain ⟨A1, c1, rfl, _, _⟩ := ho1.reads; have HO1 := Aside0.mk ho1; have HB1 := Aside0.mk hb1; clear ho1 hb1)
        | (at_builtin; go_loud (refine app_list (W0 := wr) w.heap.size rfl (.tmp 25) (.tmp 27) rfl u5 (.slice A1 g1.length c1) outs g1 rfl rfl HO.out HB1.out HO1.out HB.out.size (by omega) ?_; intro v2 w2 ho2 hg2 hat2; have HO2 := Aside0.mk ho2; have HB2 := Aside0.mk (own_step (below_then HB.out HB.out.size HB1.out) hg2 (fun k hk => own_base HO.out.choose_spec.1 k hk)); clear ho2 hg2 hat2)))
      go_roundw
      case rel => exact ⟨j, outs ++ [g1], f, rfl, hj2, by simp; omega, HO2, HB2, by omega, HA⟩
      case measure => simp [intOf]; omega
    · obtain ⟨rfl, rfl, he⟩ := hge.resolve_left h0
      rw [if_neg h0] at HA2
      have HC := Aside0.mk hcall
      clear hcall hgo hge
      have z0 : (g3 == 0) = false := by simpa using h0
      have z2 : (g3 != 0) = true := by simpa using h0
      rcases (show g3 = 170 ∨ ((g3 == 170) = false ∧ g3 ≠ 170) by rcases he with h | h | h <;> subst h <;> simp) with h1 | ⟨z1, h1⟩
      · subst h1
        rw [if_pos rfl] at HA2
        have HA := Aside0.mk HA2
        clear HA2 h0 he z0 z2
        go_wp2_with (go_at_call 30; refine HC.out.mono ?_; rintro e w1 ⟨v1, rfl, ho1, hb1⟩; have HB1 := Aside0.mk hb1; clear hb1)
        go_ret3
        rw [← HA.out]
        exact ⟨_, rfl, HO.out.below HB1.out, below_then HB.out HB.out.size HB1.out⟩
      · rw [if_neg h1] at HA2
        have HA := Aside0.mk HA2
        clear HA2 he h0 h1
        go_wp2_with (go_at_call 30; refine HC.out.mono ?_; rintro e w1 ⟨v1, rfl, ho1, hb1⟩; have HB1 := Aside0.mk hb1; clear hb1)
        go_ret3
        rw [← HA.out]
        exact ⟨_, rfl, HO.out.below HB1.out, below_then HB.out HB.out.size HB1.out⟩
end Go.Proofs.Ytahaoakolgomdaa
