/- The walk of the law TapePacks. -/
import Derived.Test.YtahaoakolgomdaaS49
namespace Go.Proofs.Ytahaoakolgomdaa
open Go.RowKit Go.Proofs.YtahaoakolgomdaaW.PrintWords Go.Proofs.YtahaoakolgomdaaW.PrintLast Go.Proofs.YtahaoakolgomdaaW.PrintMore
set_option linter.unusedVariables false
set_option linter.unusedSimpArgs false

/-- A tape with power whose spool has just its records, all synced. -/
def tapeG (G : List (List UInt8)) : Ts := ⟨⟨cat G, (cat G).length, 60000, -1, false⟩, G, false⟩
theorem tapeG_ok {G : List (List UInt8)} (hf : fits G) (hl : (cat G).length ≤ 60000) : (tapeG G).Ok :=
  Ts.ok_of (Nat.le_refl _) hl (by omega) (by omega) (by omega) (Nat.le_refl _) hf
theorem cat_one (G : List (List UInt8)) (r : List UInt8) : cat (G ++ [r]) = cat G ++ putS r := by simp [cat]
theorem cat_oneL (G : List (List UInt8)) (r : List UInt8) : (cat (G ++ [r])).length = (cat G).length + (r.length + 7) := by rw [cat_one, List.length_append, putS_length]
theorem tapeG_add {G : List (List UInt8)} {r : List UInt8} (hr : r.length ≤ 8000) (h : (cat G).length + (r.length + 7) ≤ 60000) : (tapeG G).add r = (0, tapeG (G ++ [r])) := by
  unfold tapeG
  rw [lay_on h hr, cat_oneL, cat_one]
theorem tapeG_long {G : List (List UInt8)} {r : List UInt8} (hr : 8000 < r.length) : (tapeG G).add r = (3, tapeG G) := by
  unfold tapeG Ts.add Ts.lay
  rw [if_neg (by simp), if_pos hr]
theorem tapeG_lay {G : List (List UInt8)} {r : List UInt8} (hr : r.length ≤ 8000) (h : (cat G).length + (r.length + 7) ≤ 60000) : (tapeG G).lay r = (0, tapeG (G ++ [r])) := by
  have := tapeG_add hr h
  unfold Ts.add at this
  rwa [if_neg (by simp [tapeG])] at this
theorem tapeG_layAll : ∀ (b G : List (List UInt8)), fits b → (cat G).length + (cat b).length ≤ 60000 → (tapeG G).layAll b = (0, tapeG (G ++ b))
  | [], G, _, _ => by unfold Ts.layAll; rw [List.append_nil]
  | r :: b, G, hf, h => by
    rw [cat_cons, List.length_append, putS_length] at h
    have e := tapeG_lay (G := G) (r := r) (hf r List.mem_cons_self) (by omega)
    unfold Ts.layAll
    rw [e, if_neg (by simp)]
    simp only
    rw [tapeG_layAll b (G ++ [r]) (fun x hx => hf x (List.mem_cons_of_mem _ hx)) (by rw [cat_oneL]; omega), List.append_assoc]
    rfl
theorem tapeG_pack {G b : List (List UInt8)} (ht : tooLong b = false) (hf : fits b) (h : (cat b).length ≤ 60000) : (tapeG G).pack b = (0, tapeG b) := by
  have hc : (tapeG G).sp.cut 0 = (0, (tapeG []).sp) := by
    have := Sp.cut_on (b := cat G) (sure := (cat G).length) (room := 60000) (m := 0) (Nat.zero_le _)
    unfold tapeG
    exact this
  unfold Ts.pack
  rw [if_neg (by simp [tapeG]), ht, if_neg (by simp), hc, if_neg (by simp)]
  have := tapeG_layAll b [] hf (by simpa [cat] using h)
  exact this
theorem tapeG_packlong {G b : List (List UInt8)} (ht : tooLong b = true) : (tapeG G).pack b = (3, tapeG G) := by
  unfold Ts.pack
  rw [if_neg (by simp [tapeG]), ht, if_pos rfl]
theorem tapeG_crash (G : List (List UInt8)) : (tapeG G).sp.crash 0 = (tapeG G).sp := by
  unfold Sp.crash Sp.keepN tapeG
  simp
theorem tapeG_opn {G : List (List UInt8)} (hf : fits G) : opn (tapeG G).sp = (0, some G, (tapeG G).sp) := opn_all hf
theorem cat_many : ∀ G : List (List UInt8), G.length ≤ (cat G).length
  | [] => Nat.le_refl _
  | r :: G => by rw [cat_cons, List.length_append, putS_length, List.length_cons]; have := cat_many G; omega
/-- What the law counts. -/
def wt (l : List (List UInt8)) : Nat := (l.map fun x => 10 + min x.length 30000).sum
theorem wt_snoc (l : List (List UInt8)) (x : List UInt8) : wt (l ++ [x]) = wt l + (10 + min x.length 30000) := by simp [wt]
theorem wt_take {l : List (List UInt8)} {k : Nat} (h : k < l.length) : wt (l.take (k + 1)) = wt (l.take k) + (10 + min (l.getD k []).length 30000) := by
  rw [← take_more h, wt_snoc]
theorem wt_app (l m : List (List UInt8)) : wt (l ++ m) = wt l + wt m := by unfold wt; rw [List.map_append, List.sum_append]
theorem wt_le (l : List (List UInt8)) (k : Nat) : wt (l.take k) ≤ wt l := by
  have h : wt (l.take k ++ l.drop k) = wt (l.take k) + wt (l.drop k) := wt_app _ _
  rw [List.take_append_drop] at h
  omega
theorem wt_mem {l : List (List UInt8)} {x : List UInt8} (h : x ∈ l) : min x.length 30000 ≤ wt l := by
  obtain ⟨a, b, rfl⟩ := List.append_of_mem h
  rw [wt_app, show x :: b = [x] ++ b from rfl, wt_app]
  simp only [wt, List.map_cons, List.map_nil, List.sum_cons, List.sum_nil]
  omega
/-- All fit: the tape's bytes are no more than the law counts. -/
theorem cat_wt : ∀ b : List (List UInt8), fits b → (cat b).length ≤ wt b
  | [], _ => Nat.le_refl _
  | r :: b, hf => by
    have h1 := cat_wt b fun x hx => hf x (List.mem_cons_of_mem _ hx)
    have h2 := hf r List.mem_cons_self
    rw [cat_cons, List.length_append, putS_length, show r :: b = [r] ++ b from rfl, wt_app]
    simp only [wt, List.map_cons, List.map_nil, List.sum_cons, List.sum_nil] at h1 ⊢
    omega
theorem tooLong_fits {b : List (List UInt8)} : tooLong b = false ↔ fits b := by
  unfold tooLong fits
  rw [List.any_eq_false]
  constructor
  · intro h x hx; have := h x hx; simpa using this
  · intro h x hx; have := h x hx; simpa using this
set_option maxHeartbeats 2000000 in
set_option maxRecDepth 100000 in
theorem tapePacks_big (a b : List (List UInt8)) (r : List UInt8) (A B C : Option Addr) (ca cb cr : Nat) (w : World) (ha : klb.C w A a.length a) (hb : klb.C w B b.length b) (hr : r.length ≤ 9223372036854775807) (hbig : 20000 < r.length + wt a + wt b) :
    Calls Try.prog 17 #[.slice A a.length ca, .slice B b.length cb, .slice C r.length cr] w fun e w' => e = .returned (.bool true) ∧ Below w.heap.size w w' := by
  have ma : a.length ≤ 9223372036854775807 := ha.2.1
  have mb : b.length ≤ 9223372036854775807 := hb.2.1
  have HA := Aside0.mk ha
  have HB := Aside0.mk hb
  have HG := Aside0.mk hbig
  clear ha hb hbig
  go_enter Try.func17, Try.ntmps17
  go_wp2_with fail
  go_loop [7, 8] (fun n i => ∃ N k : Nat, n = .int .i64 N ∧ i = .int .i64 k ∧ k ≤ a.length ∧ N ≤ 9223372036854775807 ∧ Aside0 (N = r.length + wt (a.take k))) (fun _ i => a.length - (intOf i).toNat)
  case atStart => exact ⟨r.length, 0, rfl, rfl, Nat.zero_le _, hr, ⟨by simp [wt]⟩⟩
  case round =>
    obtain ⟨N, k, rfl, rfl, hk, hN, HN⟩ := hrel
    by_cases hgo : k < a.length ∧ N ≤ 20000
    · obtain ⟨hlt, hle⟩ := hgo
      obtain ⟨ad, A1, c1, rfl, k1, l1, r1⟩ := klb_get HA.out k hlt
      have HW := Aside0.mk (wt_take hlt)
      obtain ⟨x, hx⟩ : ∃ x, x = a.getD k [] := ⟨_, rfl⟩
      rw [← hx] at k1 l1 r1 HW
      have hx9 : x.length ≤ 9223372036854775807 := r1.2.1
      have hmin := fun W => min_nat (x.length : Int) 30000 (min x.length 30000) (by split <;> omega) W
      clear hx r1
      go_wp2_with fail
      go_round
      case rel => exact ⟨N + (10 + min x.length 30000), k + 1, by go_num, by go_num, by omega, by omega, ⟨by rw [HN.out, HW.out]; omega⟩⟩
      case measure => simp [intOf]; omega
    · have HGO := Lib.hid hgo
      have hex : ¬ (k < a.length) ∨ (k < a.length ∧ ¬ N ≤ 20000) := by omega
      clear hgo
      rcases hex with hex | ⟨hex, hex2⟩
      all_goals
        go_wp2_with fail
        go_loop [7, 9] (fun n i => ∃ N k : Nat, n = .int .i64 N ∧ i = .int .i64 k ∧ k ≤ b.length ∧ N ≤ 9223372036854775807 ∧ Aside0 (20000 < N ∨ N = r.length + wt a + wt (b.take k))) (fun _ i => b.length - (intOf i).toNat)
        case atStart => exact ⟨N, 0, rfl, rfl, Nat.zero_le _, hN, ⟨by
          have h1 := HGO.out
          by_cases h2 : 20000 < N
          · exact .inl h2
          · have h3 : k = a.length := by omega
            right
            rw [HN.out, h3, List.take_length]; simp [wt]⟩⟩
        case round =>
          obtain ⟨N2, k2, rfl, rfl, hk2, hN2, HN2⟩ := hrel
          by_cases hgo2 : k2 < b.length ∧ N2 ≤ 20000
          · obtain ⟨hlt, hle⟩ := hgo2
            obtain ⟨ad, A1, c1, rfl, k1, l1, r1⟩ := klb_get HB.out k2 hlt
            have HW := Aside0.mk (wt_take hlt)
            obtain ⟨x, hx⟩ : ∃ x, x = b.getD k2 [] := ⟨_, rfl⟩
            rw [← hx] at k1 l1 r1 HW
            have hx9 : x.length ≤ 9223372036854775807 := r1.2.1
            have hmin := fun W => min_nat (x.length : Int) 30000 (min x.length 30000) (by split <;> omega) W
            clear hx r1
            go_wp2_with fail
            go_round
            case rel => exact ⟨N2 + (10 + min x.length 30000), k2 + 1, by go_num, by go_num, by omega, by omega, ⟨by have := HN2.out; have := HW.out; omega⟩⟩
            case measure => simp [intOf]; omega
          · have hbig : 20000 < N2 := by
              have h1 := HN2.out
              have h2 := HG.out
              by_cases h3 : k2 < b.length
              · omega
              · have h4 : k2 = b.length := by omega
                rw [h4, List.take_length] at h1
                omega
            have hex3 : ¬ (k2 < b.length) ∨ (k2 < b.length ∧ ¬ N2 ≤ 20000) := by omega
            clear hgo2
            rcases hex3 with hex3 | ⟨hex3, hex4⟩
            all_goals
              go_wp2_with (first
                | (go_at_call 55; refine (opened_calls _ 60000 (by omega) (by omega) 60000 rfl).mono ?_; rintro e w1 ⟨c, p, q, tp, tq, rfl, hs⟩; have H1 := Aside0.mk hs; clear hs)
                | (go_at_call 56; refine (known19_calls _).mono ?_; rintro e w2 ⟨rfl, hb⟩; have H2 := Aside0.mk (H1.out.none.below hb); clear hb))
              go_ret
              exact ⟨rfl, H2.out.old⟩
end Go.Proofs.Ytahaoakolgomdaa
