/- The walk of gangerref00.SameLists. -/
import Derived.Test.YtahaoakolgomdaaS5
namespace Go.Proofs.Ytahaoakolgomdaa
open Go.RowKit Go.Proofs.YtahaoakolgomdaaW.PrintWords Go.Proofs.YtahaoakolgomdaaW.PrintLast Go.Proofs.YtahaoakolgomdaaW.PrintMore
set_option linter.unusedVariables false
set_option linter.unusedSimpArgs false

def sameLB (a b : List (List UInt8)) : Bool := decide (a = b)
theorem sameLB_len (a b : List (List UInt8)) (h : a.length ≠ b.length) : sameLB a b = false := by
  unfold sameLB; rw [decide_eq_false_iff_not]; intro e; exact h (by rw [e])
theorem sameLB_at (a b : List (List UInt8)) (k : Nat) (h : a.getD k [] ≠ b.getD k []) : sameLB a b = false := by
  unfold sameLB; rw [decide_eq_false_iff_not]; intro e; exact h (by rw [e])
theorem sameLB_all (a b : List (List UInt8)) (hl : a.length = b.length) (h : ∀ k, k < a.length → a.getD k [] = b.getD k []) : sameLB a b = true := by
  unfold sameLB; rw [decide_eq_true_eq]
  apply List.ext_getElem hl; intro k h1 h2
  have := h k h1
  simpa [h1, h2] using this
theorem samel_len (a b : List (List UInt8)) (A B : Option Addr) (c c' : Nat) (w : World) (h : klb.C w A a.length a) (h' : klb.C w B b.length b) (hne : a.length ≠ b.length) :
    Calls Try.prog 33 #[.slice A a.length c, .slice B b.length c'] w fun e w' => e = .returned (.bool (sameLB a b)) ∧ Drawn0 w w' := by
  have m1 : a.length ≤ 9223372036854775807 := h.2.1
  have m2 : b.length ≤ 9223372036854775807 := h'.2.1
  have hb : ((a.length : Int) != (b.length : Int)) = true := by rw [bne_iff_ne]; omega
  have HS := Aside0.mk (sameLB_len a b hne)
  clear h h' hne
  go_enter Try.func33, Try.ntmps33
  go_wp2
  go_ret
  exact ⟨congrArg (fun z => Ending.returned (.bool z)) HS.out.symm, Drawn0.refl _⟩
set_option maxHeartbeats 1000000 in
theorem samel_calls (a b : List (List UInt8)) (A B : Option Addr) (c c' : Nat) (w : World) (h : klb.C w A a.length a) (h' : klb.C w B b.length b) :
    Calls Try.prog 33 #[.slice A a.length c, .slice B b.length c'] w fun e w' => e = .returned (.bool (sameLB a b)) ∧ Drawn0 w w' := by
  by_cases hne : a.length ≠ b.length
  · exact samel_len a b A B c c' w h h' hne
  have hl : b.length = a.length := by omega
  rw [hl] at h' ⊢
  have m1 : a.length ≤ 9223372036854775807 := h.2.1
  have H := Aside0.mk h
  have H' := Aside0.mk h'
  have HL := Lib.hid hl
  obtain ⟨n, hn⟩ : ∃ n, n = a.length := ⟨_, rfl⟩
  rw [← hn] at H H' HL m1 ⊢
  have HN := Lib.hid hn
  clear h h' hne hl hn
  go_enter Try.func33, Try.ntmps33
  go_wp2
  go_loopw [5] (fun i wr => ∃ k : Nat, i = .int .i64 k ∧ k ≤ n ∧ Aside0 (∀ j, j < k → a.getD j [] = b.getD j []) ∧ Aside0 (Drawn0 w wr)) (fun i _ => n - (intOf i).toNat)
  case atStart => exact ⟨0, rfl, Nat.zero_le _, ⟨fun j hj => by omega⟩, ⟨Drawn0.refl _⟩⟩
  case round =>
    obtain ⟨k, rfl, hk, HJ, HD⟩ := hrel
    by_cases hlt : k < n
    · obtain ⟨ad, A1, c1, rfl, k1, l1, r1⟩ := klb_get (Kd.C_below H.out HD.out.below) k hlt
      obtain ⟨bd, B1, c2, rfl, k2, l2, r2⟩ := klb_get (Kd.C_below H'.out HD.out.below) k hlt
      obtain ⟨x, hx⟩ : ∃ x, x = a.getD k [] := ⟨_, rfl⟩
      obtain ⟨y, hy⟩ : ∃ y, y = b.getD k [] := ⟨_, rfl⟩
      rw [← hx] at k1 l1 r1
      rw [← hy] at k2 l2 r2
      have cv1 : ∀ m, (convert 22 9 (.slice A1 x.length c1)).run Try.prog (wr.drewN m) = .ok (.string (strB x)) (wr.drewN m) := fun m => kb_string (Kd.C_drewN r1 m)
      have cv2 : ∀ m, (convert 22 9 (.slice B1 y.length c2)).run Try.prog (wr.drewN m) = .ok (.string (strB y)) (wr.drewN m) := fun m => kb_string (Kd.C_drewN r2 m)
      have i1 : (k : Int) < (n : Int) := by omega
      by_cases hxy : x = y
      · have hcmp : ((strB x).toList == (strB y).toList) = true := by rw [strB_beq]; unfold sameB; simpa using hxy
        have HE := Aside0.mk (show a.getD k [] = b.getD k [] by rw [← hx, ← hy, hxy])
        clear hx hy hxy r1 r2
        go_wp2
        go_quiet (fail)
        go_wp2
        go_roundw
        case rel => exact ⟨k + 1, by go_num, by omega, ⟨fun j hj => by by_cases e : j = k; (rw [e]; exact HE.out); exact HJ.out j (by omega)⟩, ⟨HD.out.step _⟩⟩
        case measure => simp [intOf]; omega
      · have hcmp : ((strB x).toList == (strB y).toList) = false := by rw [strB_beq]; unfold sameB; simpa using hxy
        have HE := Aside0.mk (sameLB_at a b k (by rw [← hx, ← hy]; exact hxy))
        clear hx hy hxy r1 r2
        go_wp2
        go_quiet (fail)
        go_wp2
        go_ret
        exact ⟨congrArg (fun z => Ending.returned (.bool z)) HE.out.symm, HD.out.step _⟩
    · go_wp2
      go_ret
      exact ⟨congrArg (fun z => Ending.returned (.bool z)) (sameLB_all a b (by rw [HL.out, ← HN.out]) (fun j hj => HJ.out j (by have := HN.out; omega))).symm, HD.out⟩
end Go.Proofs.Ytahaoakolgomdaa
