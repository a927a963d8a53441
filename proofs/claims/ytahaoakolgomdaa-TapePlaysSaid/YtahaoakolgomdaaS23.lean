/- Spools in one hand: contracts that hide the row; known of law 18. -/
import Derived.Test.YtahaoakolgomdaaS22
import Derived.Test.YtahaoakolgomdaaS5
namespace Go.Proofs.Ytahaoakolgomdaa
open Go.RowKit Go.Proofs.YtahaoakolgomdaaW.PrintWords Go.Proofs.YtahaoakolgomdaaW.PrintLast Go.Proofs.YtahaoakolgomdaaW.PrintMore
set_option linter.unusedVariables false
set_option linter.unusedSimpArgs false

/-- A spool of the call's own (the call began in w0); what was there at its begin stands. -/
def SpoolIn (w0 w : World) (p : Nat) (s : Sp) : Prop := (∃ v, SpoolAt w w0.heap.size p v s) ∧ Below w0.heap.size w0 w
section
variable {w0 w w1 : World} {p : Nat} {s : Sp}
theorem SpoolIn.below (h : SpoolIn w0 w p s) (hb : Below w.heap.size w w1) : SpoolIn w0 w1 p s := by
  obtain ⟨⟨v, hs⟩, h0⟩ := h
  exact ⟨⟨v, hs.below hb⟩, below_then h0 h0.size hb⟩
theorem SpoolIn.drewN (h : SpoolIn w0 w p s) (n : Nat) : SpoolIn w0 (w.drewN n) p s := h.below (pw_below_drewN (Below.refl _ _) n)
theorem SpoolIn.alloc (h : SpoolIn w0 w p s) (o : Obj) : SpoolIn w0 (w.alloc o) p s := h.below (below_alloc (Below.refl _ _) o)
end
theorem new_in (w0 w : World) (room : Int) (h1 : 1 ≤ room) (h2 : room ≤ 1048576) (hb : Below w0.heap.size w0 w) (s : Sp) (hs : Sp.new room.toNat = s) :
    Calls Try.prog 38 #[.int .i64 room] w fun e w' => ∃ p, e = .returned (.tuple #[.pointer (some ⟨p, 0, none⟩), .int .i64 0]) ∧ SpoolIn w0 w' p s ∧ w.heap.size ≤ p := by
  subst hs
  refine (new_calls w room).mono ?_
  intro e w' h
  rw [if_neg (by omega)] at h
  obtain ⟨p, rfl, rfl, hs, hb'⟩ := h
  exact ⟨_, rfl, ⟨⟨_, ⟨hb.size, hs.cells, hs.row.lower hb.size, hs.ok⟩⟩, below_then hb hb.size hb'⟩, Nat.le_refl _⟩
theorem add_in (w0 w : World) (p : Nat) (s : Sp) (h : SpoolIn w0 w p s) (xs : List UInt8) (m : Nat) (hm : m = xs.length) (B : Option Addr) (c' : Nat) (hb : kb.C w B xs.length xs) (hmc : m ≤ c') (r : Int) (s' : Sp) (hr : s.add xs = (r, s')) :
    Calls Try.prog 41 #[.pointer (some ⟨p, 0, none⟩), .slice B m c'] w fun e w' => e = .returned (.int .i64 r) ∧ SpoolIn w0 w' p s' := by
  obtain ⟨⟨v, hs⟩, h0⟩ := h
  refine (add_calls w _ p v s hs xs m hm B c' hb hmc).mono ?_
  rw [hr]
  rintro e w' ⟨rfl, ⟨v', hs', _⟩, ht⟩
  refine ⟨rfl, ⟨v', hs'⟩, h0.trans (ht.below _ h0.size fun k hk => ?_)⟩
  rcases hk with rfl | hk
  · exact hs.lo
  · exact (hs.row.lt k hk).1
theorem sync_in (w0 w : World) (p : Nat) (s : Sp) (h : SpoolIn w0 w p s) (r : Int) (s' : Sp) (hr : s.sync = (r, s')) :
    Calls Try.prog 40 #[.pointer (some ⟨p, 0, none⟩)] w fun e w' => e = .returned (.int .i64 r) ∧ SpoolIn w0 w' p s' := by
  obtain ⟨⟨v, hs⟩, h0⟩ := h
  refine (sync_calls w _ p v s hs).mono ?_
  rw [hr]
  rintro e w' ⟨rfl, hs', ht⟩
  exact ⟨rfl, ⟨v, hs'⟩, h0.trans (ht.below _ h0.size fun k hk => by rw [hk]; exact hs.lo)⟩
theorem cut_in (w0 w : World) (p : Nat) (s : Sp) (h : SpoolIn w0 w p s) (n : Int) (r : Int) (s' : Sp) (hr : s.cut n = (r, s')) :
    Calls Try.prog 50 #[.pointer (some ⟨p, 0, none⟩), .int .i64 n] w fun e w' => e = .returned (.int .i64 r) ∧ SpoolIn w0 w' p s' := by
  obtain ⟨⟨v, hs⟩, h0⟩ := h
  refine (cut_calls w _ p v s hs n).mono ?_
  rw [hr]
  rintro e w' ⟨rfl, ⟨v', hs', _⟩, ht⟩
  exact ⟨rfl, ⟨v', hs'⟩, h0.trans (ht.below _ h0.size fun k hk => by rw [hk]; exact hs.lo)⟩
theorem off_in (w0 w : World) (p : Nat) (s : Sp) (h : SpoolIn w0 w p s) (n : Int) (hn : n ≤ 9223372036854775807) (s' : Sp) (hr : s.setOff n = s') :
    Calls Try.prog 39 #[.pointer (some ⟨p, 0, none⟩), .int .i64 n] w fun e w' => e = .returned (.tuple #[]) ∧ SpoolIn w0 w' p s' := by
  subst hr
  obtain ⟨⟨v, hs⟩, h0⟩ := h
  refine (setOff_calls w _ p v s hs n hn).mono ?_
  rintro e w' ⟨rfl, hs', ht⟩
  exact ⟨rfl, ⟨v, hs'⟩, h0.trans (ht.below _ h0.size fun k hk => by rw [hk]; exact hs.lo)⟩
theorem crash_in (w0 w : World) (p : Nat) (s : Sp) (h : SpoolIn w0 w p s) (n : Int) (s' : Sp) (hr : s.crash n = s') :
    Calls Try.prog 44 #[.pointer (some ⟨p, 0, none⟩), .int .i64 n] w fun e w' => e = .returned (.tuple #[]) ∧ SpoolIn w0 w' p s' := by
  subst hr
  obtain ⟨⟨v, hs⟩, h0⟩ := h
  refine (crash_calls w _ p v s hs n).mono ?_
  rintro e w' ⟨rfl, ⟨v', hs', _⟩, ht⟩
  exact ⟨rfl, ⟨v', hs'⟩, h0.trans (ht.below _ h0.size fun k hk => by rw [hk]; exact hs.lo)⟩
theorem bytes_in (w0 w : World) (p : Nat) (s : Sp) (h : SpoolIn w0 w p s) (xs : List UInt8) (hx : s.bytes = xs) (m : Nat) (hm : m = xs.length) :
    Calls Try.prog 43 #[.pointer (some ⟨p, 0, none⟩)] w fun e w' => ∃ A1 c1, e = .returned (.slice A1 m c1) ∧ OwnB w' w.heap.size (.slice A1 m c1) xs ∧ SpoolIn w0 w' p s ∧ Below w.heap.size w w' := by
  subst hx hm
  obtain ⟨v, hs⟩ := h.1
  refine (bytes_calls w _ p v s hs).mono ?_
  rintro e w' ⟨A1, c1, rfl, ho, hb⟩
  exact ⟨A1, c1, rfl, ho, h.below hb, hb⟩
theorem len_in (w0 w : World) (p : Nat) (s : Sp) (h : SpoolIn w0 w p s) (n : Nat) (hn : s.len = n) :
    Calls Try.prog 46 #[.pointer (some ⟨p, 0, none⟩)] w fun e w' => e = .returned (.int .i64 (n : Int)) ∧ w' = w := by
  subst hn
  obtain ⟨v, hs⟩ := h.1
  exact len_calls w _ p v s hs
theorem sure_in (w0 w : World) (p : Nat) (s : Sp) (h : SpoolIn w0 w p s) (n : Nat) (hn : s.sureN = n) :
    Calls Try.prog 45 #[.pointer (some ⟨p, 0, none⟩)] w fun e w' => e = .returned (.int .i64 (n : Int)) ∧ w' = w := by
  subst hn
  obtain ⟨v, hs⟩ := h.1
  exact sure_calls w _ p v s hs
theorem on_in (w0 w : World) (p : Nat) (s : Sp) (h : SpoolIn w0 w p s) (b : Bool) (hb : s.off = !b) :
    Calls Try.prog 42 #[.pointer (some ⟨p, 0, none⟩)] w fun e w' => e = .returned (.bool b) ∧ w' = w := by
  obtain ⟨v, hs⟩ := h.1
  have := on_calls w _ p v s hs
  rwa [hb, Bool.not_not] at this
end Go.Proofs.Ytahaoakolgomdaa
