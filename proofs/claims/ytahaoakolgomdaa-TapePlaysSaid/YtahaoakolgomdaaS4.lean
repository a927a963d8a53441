/- The walk of crate.All. -/
import Derived.Test.YtahaoakolgomdaaS3
import Derived.WalkMore
namespace Go.Proofs.Ytahaoakolgomdaa
open Go.RowKit Go.Proofs.YtahaoakolgomdaaW.PrintWords Go.Proofs.YtahaoakolgomdaaW.PrintLast Go.Proofs.YtahaoakolgomdaaW.PrintMore
set_option linter.unusedVariables false
set_option linter.unusedSimpArgs false

/-- What All gives. -/
def AllSays (w : World) (r : List (List UInt8) × Int × Int) (e : Ending) (w' : World) : Prop := ∃ v, e = .returned (.tuple #[v, .int .i64 r.2.1, .int .i64 r.2.2]) ∧ OwnL w' w.heap.size v r.1 ∧ Below w.heap.size w w'
set_option maxHeartbeats 1000000 in
theorem all_calls (xs : List UInt8) (A : Option Addr) (c : Nat) (w : World) (h : kb.C w A xs.length xs) (hc : xs.length ≤ c) (hb : xs.length ≤ 4000000) :
    Calls Try.prog 31 #[.slice A xs.length c] w (AllSays w (allS xs)) := by
  have H := Aside0.mk h
  clear h
  go_enter Try.func31, Try.ntmps31
  go_wp2
  go_step3
  go_wp2
  go_step3
  go_wp2
  go_loopw [5, 6] (fun v i wr => ∃ (k : Nat) (outs : List (List UInt8)) (f : Nat), i = .int .i64 k ∧ k ≤ xs.length ∧ outs.length ≤ k ∧ Aside0 (OwnL wr w.heap.size v outs) ∧ Aside0 (Below w.heap.size w wr) ∧ xs.length - k < f ∧ Aside0 (allGo xs f k outs = allS xs)) (fun _ i _ => xs.length - (intOf i).toNat)
  case atStart => exact ⟨0, [], xs.length + 1, rfl, Nat.zero_le _, Nat.le_refl _, ⟨OwnL.nil _ _⟩, ⟨Below.refl _ _⟩, by omega, ⟨rfl⟩⟩
  case round =>
    obtain ⟨k, outs, f, rfl, hk, ho, HO, HB, hf, HA⟩ := hrel
    have hgo := getS_ok xs k
    have hge := getS_err xs k
    have hcall := get_calls xs A c wr (Kd.C_below H.out HB.out) hc k
    obtain ⟨f, rfl⟩ : ∃ m, f = m + 1 := ⟨f - 1, by omega⟩
    have HA2 := HA.out
    clear HA
    simp only [allGo] at HA2
    generalize getS xs (k : Int) = g at *
    obtain ⟨g1, g2, g3⟩ := g
    simp only at hgo hge HA2
    by_cases h0 : g3 = 0
    · subst h0
      obtain ⟨j, rfl, hj1, hj2⟩ := hgo rfl
      rw [if_pos rfl] at HA2
      have HA := Aside0.mk HA2
      have HC := Aside0.mk hcall
      clear HA2 hcall hgo hge
      go_wp2_with (first
        | (go_at_call 29; refine HC.out.mono ?_; rintro e w1 ⟨v1, rfl, ho1, hb1⟩; obtain ⟨A1, c1, rfl, _, _⟩ := ho1.reads; have HO1 := Aside0.mk ho1; have HB1 := Aside0.mk hb1; clear ho1 hb1)
        | (at_builtin; go_loud (refine app_list (W0 := wr) w.heap.size rfl (.tmp 22) (.tmp 24) rfl u5 (.slice A1 g1.length c1) outs g1 rfl rfl HO.out HB1.out HO1.out HB.out.size (by omega) ?_; intro v2 w2 ho2 hg2 hat2; have HO2 := Aside0.mk ho2; have HB2 := Aside0.mk (own_step (below_then HB.out HB.out.size HB1.out) hg2 (fun k hk => own_base HO.out.choose_spec.1 k hk)); clear ho2 hg2 hat2)))
      go_roundw
      case rel => exact ⟨j, outs ++ [g1], f, rfl, hj2, by simp; omega, HO2, HB2, by omega, HA⟩
      case measure => simp [intOf]; omega
    · obtain ⟨rfl, rfl, he⟩ := hge.resolve_left h0
      rw [if_neg h0] at HA2
      have HC := Aside0.mk hcall
      clear hcall hgo hge
      have z0 : (g3 == 0) = false := by simpa using h0
      rcases (show g3 = 170 ∨ ((g3 == 170) = false ∧ g3 ≠ 170) by rcases he with h | h | h <;> subst h <;> simp) with h1 | ⟨z1, h1⟩
      · subst h1
        rw [if_pos rfl] at HA2
        have HA := Aside0.mk HA2
        clear HA2 h0 he z0
        go_wp2_with (go_at_call 29; refine HC.out.mono ?_; rintro e w1 ⟨v1, rfl, ho1, hb1⟩; have HB1 := Aside0.mk hb1; clear hb1)
        rw [Exit.noGoto_ret]
        go_ret3
        rw [← HA.out]
        exact ⟨_, rfl, HO.out.below HB1.out, below_then HB.out HB.out.size HB1.out⟩
      · rw [if_neg h1] at HA2
        have HA := Aside0.mk HA2
        clear HA2 he h0 h1
        go_wp2_with (go_at_call 29; refine HC.out.mono ?_; rintro e w1 ⟨v1, rfl, ho1, hb1⟩; have HB1 := Aside0.mk hb1; clear hb1)
        rw [Exit.noGoto_ret]
        go_ret3
        rw [← HA.out]
        exact ⟨_, rfl, HO.out.below HB1.out, below_then HB.out HB.out.size HB1.out⟩
end Go.Proofs.Ytahaoakolgomdaa
