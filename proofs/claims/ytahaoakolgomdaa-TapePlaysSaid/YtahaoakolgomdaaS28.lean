/- Contracts of spools, the document's and the program's, beside other things. -/
import Derived.Test.YtahaoakolgomdaaS27
namespace Go.Proofs.Ytahaoakolgomdaa
open Go.RowKit Go.Proofs.YtahaoakolgomdaaW.PrintWords Go.Proofs.YtahaoakolgomdaaW.PrintLast Go.Proofs.YtahaoakolgomdaaW.PrintMore
set_option linter.unusedVariables false
set_option linter.unusedSimpArgs false

/-- A new thing, on new blocks. -/
def Fresh (w w1 : World) (X : Asr) : Prop := (∃ G : Nat → Prop, X.P w1 G ∧ ∀ k, G k → w.heap.size ≤ k ∧ k < w1.heap.size) ∧ Below w.heap.size w w1
theorem Fresh.bytes {w w1 : World} {v : Value} {xs : List UInt8} (ho : OwnB w1 w.heap.size v xs) (hb : Below w.heap.size w w1) : Fresh w w1 (bytesA v xs) :=
  ⟨⟨fun k => v.ownBlock = some k, ⟨ho.lower (Nat.zero_le _), fun k e => e⟩, fun k e => ⟨ho.base_le k e, ho.lt k e⟩⟩, hb⟩
theorem Fresh.rows {w w1 : World} {v : Value} {xss : List (List UInt8)} (ho : OwnL w1 w.heap.size v xss) (hb : Below w.heap.size w w1) : Fresh w w1 (rowsA v xss) :=
  ⟨ho.foot hb.size, hb⟩
theorem Fresh.obj (w : World) (o : Obj) : Fresh w (w.alloc o) (blkA w.heap.size o) :=
  ⟨⟨fun k => k = w.heap.size, ⟨blk_new w o, rfl⟩, fun k e => by subst e; exact ⟨Nat.le_refl _, by simp⟩⟩, below_alloc (Below.refl _ _) _⟩
/-- The document's spool. -/
def refA (q : Nat) (s : Sp) : Asr :=
  ⟨fun w F => ∃ v1 v2, RefAt w q v1 v2 s ∧ F q ∧ (∀ k, v1.ownBlock = some k → F k) ∧ ∀ k, v2.ownBlock = some k → F k,
   fun _ _ _ h hk => by
    obtain ⟨v1, v2, h1, h2, h3, h4⟩ := h
    exact ⟨v1, v2, h1.keep (hk q h2) (fun k e => hk k (h3 k e)) fun k e => hk k (h4 k e), h2, h3, h4⟩⟩
theorem RefTo.goes {w w1 : World} {q : Nat} {v1 v2 : Value} {s' : Sp} {F : Nat → Prop} (h : RefTo w q v1 v2 s' w1) (hq : F q) (h1 : ∀ k, v1.ownBlock = some k → F k) (h2 : ∀ k, v2.ownBlock = some k → F k) : Goes F (refA q s') w w1 := by
  obtain ⟨u1, u2, ha, hn, ht⟩ := h
  refine ⟨fun k => k = q ∨ u1.ownBlock = some k ∨ u2.ownBlock = some k, ⟨u1, u2, ha, .inl rfl, fun k e => .inr (.inl e), fun k e => .inr (.inr e)⟩, ht.mono fun k _ e => by rw [e]; exact hq, fun k hk => ⟨?_, ?_⟩⟩
  · rcases hk with rfl | hk
    · exact .inl hq
    · rcases hn k hk with e | e | e
      · exact .inl (h1 k e)
      · exact .inl (h2 k e)
      · exact .inr e
  · rcases hk with rfl | e | e
    · exact ha.lt
    · exact ha.firm.lt k e
    · exact ha.soft.lt k e
theorem SpoolAt.goes {w w1 : World} {p : Nat} {v v' : Value} {s' : Sp} {F S : Nat → Prop} (h : SpoolAt w1 0 p v' s') (hv : v'.ownBlock = v.ownBlock ∨ ∃ b, v'.ownBlock = some b ∧ w.heap.size ≤ b) (ht : Touch S w w1) (hS : ∀ k, S k → k = p ∨ v.ownBlock = some k) (hp : F p) (h1 : ∀ k, v.ownBlock = some k → F k) :
    Goes F (spoolA p s') w w1 := by
  refine ⟨fun k => k = p ∨ v'.ownBlock = some k, ⟨v', h, .inl rfl, fun k e => .inr e⟩, ht.mono fun k _ e => ?_, fun k hk => ⟨?_, ?_⟩⟩
  · rcases hS k e with rfl | e
    · exact hp
    · exact h1 k e
  · rcases hk with rfl | e
    · exact .inl hp
    · rcases hv with e2 | ⟨b, e2, hb⟩
      · exact .inl (h1 k (by rw [← e2]; exact e))
      · rw [e] at e2; cases e2; exact .inr hb
  · rcases hk with rfl | e
    · exact h.lt
    · exact (h.row.lt k e).2.1
section
variable {w0 w w1 : World} {l : List Asr}
theorem Has.addE (h : Has w0 w l) {X : Asr} (hf : Fresh w w1 X) : Has w0 w1 (l ++ [X]) := by
  obtain ⟨⟨G, h1, h2⟩, hb⟩ := hf
  exact h.add hb X G h1 h2
theorem Has.addF (h : Has w0 w l) {X : Asr} (hf : Fresh w w1 X) : Has w0 w1 (X :: l) := by
  obtain ⟨⟨G, g1, g2⟩, hb⟩ := hf
  have hs := h.size
  obtain ⟨⟨F, h1, h2⟩, h3⟩ := h
  refine ⟨⟨fun k => G k ∨ F k, ⟨G, F, g1, Star.loc l F h1 fun k hk => hb.block k (h2 k hk).2, fun k hg hf => ?_, fun k hk => hk⟩, fun k hk => ?_⟩, below_then h3 h3.size hb⟩
  · have := (g2 k hg).1; have := (h2 k hf).2; omega
  · rcases hk with hk | hk
    · have := g2 k hk; exact ⟨by omega, this.2⟩
    · exact ⟨(h2 k hk).1, Nat.lt_of_lt_of_le (h2 k hk).2 hb.size⟩
theorem Has.spool (h : Has w0 w l) (i : Nat) {p : Nat} {s : Sp} (hi : l[i]? = some (spoolA p s)) : ∃ v, SpoolAt w 0 p v s := by
  obtain ⟨F, ⟨v, h1, _⟩, _⟩ := h.get i _ hi
  exact ⟨v, h1⟩
theorem Has.ref (h : Has w0 w l) (i : Nat) {q : Nat} {s : Sp} (hi : l[i]? = some (refA q s)) : ∃ v1 v2, RefAt w q v1 v2 s := by
  obtain ⟨F, ⟨v1, v2, h1, _⟩, _⟩ := h.get i _ hi
  exact ⟨v1, v2, h1⟩
end
/-! The program's. -/
theorem new_h (w : World) (room : Int) (h1 : 1 ≤ room) (h2 : room ≤ 1048576) (s : Sp) (hs : Sp.new room.toNat = s) :
    Calls Try.prog 38 #[.int .i64 room] w fun e w' => ∃ p, e = .returned (.tuple #[.pointer (some ⟨p, 0, none⟩), .int .i64 0]) ∧ Fresh w w' (spoolA p s) := by
  subst hs
  refine (new_calls w room).mono ?_
  intro e w' h
  rw [if_neg (by omega)] at h
  obtain ⟨p, rfl, rfl, hs, hb'⟩ := h
  refine ⟨_, rfl, ⟨fun k => k = w.heap.size, ⟨_, ⟨Nat.zero_le _, hs.cells, hs.row.lower (Nat.zero_le _), hs.ok⟩, rfl, fun k e => by cases e⟩, fun k e => ?_⟩, hb'⟩
  subst e; exact ⟨Nat.le_refl _, hs.lt⟩
section
variable {w0 w : World} {l : List Asr}
theorem add_h (H : Has w0 w l) (i : Nat) (p : Nat) (s : Sp) (hi : l[i]? = some (spoolA p s)) (xs : List UInt8) (m : Nat) (hm : m = xs.length) (B : Option Addr) (c' : Nat) (hb : kb.C w B xs.length xs) (hmc : m ≤ c') (r : Int) (s' : Sp) (hr : s.add xs = (r, s')) :
    Calls Try.prog 41 #[.pointer (some ⟨p, 0, none⟩), .slice B m c'] w fun e w' => e = .returned (.int .i64 r) ∧ Has w0 w' (l.set i (spoolA p s')) := by
  obtain ⟨F, ⟨v, hs, hp, hv⟩, _, hgo⟩ := H.get i _ hi
  refine (add_calls w _ p v s hs xs m hm B c' hb hmc).mono ?_
  rw [hr]
  rintro e w' ⟨rfl, ⟨v', hs', hv'⟩, ht⟩
  exact ⟨rfl, hgo _ _ (hs'.goes hv' ht (fun k e => e) hp hv)⟩
theorem sync_h (H : Has w0 w l) (i : Nat) (p : Nat) (s : Sp) (hi : l[i]? = some (spoolA p s)) (r : Int) (s' : Sp) (hr : s.sync = (r, s')) :
    Calls Try.prog 40 #[.pointer (some ⟨p, 0, none⟩)] w fun e w' => e = .returned (.int .i64 r) ∧ Has w0 w' (l.set i (spoolA p s')) := by
  obtain ⟨F, ⟨v, hs, hp, hv⟩, _, hgo⟩ := H.get i _ hi
  refine (sync_calls w _ p v s hs).mono ?_
  rw [hr]
  rintro e w' ⟨rfl, hs', ht⟩
  exact ⟨rfl, hgo _ _ (hs'.goes (.inl rfl) ht (fun k e => .inl e) hp hv)⟩
theorem cut_h (H : Has w0 w l) (i : Nat) (p : Nat) (s : Sp) (hi : l[i]? = some (spoolA p s)) (n : Int) (r : Int) (s' : Sp) (hr : s.cut n = (r, s')) :
    Calls Try.prog 50 #[.pointer (some ⟨p, 0, none⟩), .int .i64 n] w fun e w' => e = .returned (.int .i64 r) ∧ Has w0 w' (l.set i (spoolA p s')) := by
  obtain ⟨F, ⟨v, hs, hp, hv⟩, _, hgo⟩ := H.get i _ hi
  refine (cut_calls w _ p v s hs n).mono ?_
  rw [hr]
  rintro e w' ⟨rfl, ⟨v', hs', hv'⟩, ht⟩
  exact ⟨rfl, hgo _ _ (hs'.goes (.inl hv') ht (fun k e => .inl e) hp hv)⟩
theorem off_h (H : Has w0 w l) (i : Nat) (p : Nat) (s : Sp) (hi : l[i]? = some (spoolA p s)) (n : Int) (hn : n ≤ 9223372036854775807) (s' : Sp) (hr : s.setOff n = s') :
    Calls Try.prog 39 #[.pointer (some ⟨p, 0, none⟩), .int .i64 n] w fun e w' => e = .returned (.tuple #[]) ∧ Has w0 w' (l.set i (spoolA p s')) := by
  subst hr
  obtain ⟨F, ⟨v, hs, hp, hv⟩, _, hgo⟩ := H.get i _ hi
  refine (setOff_calls w _ p v s hs n hn).mono ?_
  rintro e w' ⟨rfl, hs', ht⟩
  exact ⟨rfl, hgo _ _ (hs'.goes (.inl rfl) ht (fun k e => .inl e) hp hv)⟩
theorem crash_h (H : Has w0 w l) (i : Nat) (p : Nat) (s : Sp) (hi : l[i]? = some (spoolA p s)) (n : Int) (s' : Sp) (hr : s.crash n = s') :
    Calls Try.prog 44 #[.pointer (some ⟨p, 0, none⟩), .int .i64 n] w fun e w' => e = .returned (.tuple #[]) ∧ Has w0 w' (l.set i (spoolA p s')) := by
  subst hr
  obtain ⟨F, ⟨v, hs, hp, hv⟩, _, hgo⟩ := H.get i _ hi
  refine (crash_calls w _ p v s hs n).mono ?_
  rintro e w' ⟨rfl, ⟨v', hs', hv'⟩, ht⟩
  exact ⟨rfl, hgo _ _ (hs'.goes (.inl hv') ht (fun k e => .inl e) hp hv)⟩
theorem bytes_h (H : Has w0 w l) (i : Nat) (p : Nat) (s : Sp) (hi : l[i]? = some (spoolA p s)) (xs : List UInt8) (hx : s.bytes = xs) (m : Nat) (hm : m = xs.length) :
    Calls Try.prog 43 #[.pointer (some ⟨p, 0, none⟩)] w fun e w' => ∃ A1 c1, e = .returned (.slice A1 m c1) ∧ Fresh w w' (bytesA (.slice A1 m c1) xs) := by
  subst hx hm
  obtain ⟨v, hs⟩ := H.spool i hi
  refine (bytes_calls w _ p v s hs).mono ?_
  rintro e w' ⟨A1, c1, rfl, ho, hb⟩
  exact ⟨A1, c1, rfl, .bytes ho hb⟩
theorem len_h (H : Has w0 w l) (i : Nat) (p : Nat) (s : Sp) (hi : l[i]? = some (spoolA p s)) (n : Nat) (hn : s.len = n) :
    Calls Try.prog 46 #[.pointer (some ⟨p, 0, none⟩)] w fun e w' => e = .returned (.int .i64 (n : Int)) ∧ w' = w := by
  subst hn
  obtain ⟨v, hs⟩ := H.spool i hi
  exact len_calls w _ p v s hs
theorem sure_h (H : Has w0 w l) (i : Nat) (p : Nat) (s : Sp) (hi : l[i]? = some (spoolA p s)) (n : Nat) (hn : s.sureN = n) :
    Calls Try.prog 45 #[.pointer (some ⟨p, 0, none⟩)] w fun e w' => e = .returned (.int .i64 (n : Int)) ∧ w' = w := by
  subst hn
  obtain ⟨v, hs⟩ := H.spool i hi
  exact sure_calls w _ p v s hs
theorem on_h (H : Has w0 w l) (i : Nat) (p : Nat) (s : Sp) (hi : l[i]? = some (spoolA p s)) (b : Bool) (hb : s.off = !b) :
    Calls Try.prog 42 #[.pointer (some ⟨p, 0, none⟩)] w fun e w' => e = .returned (.bool b) ∧ w' = w := by
  obtain ⟨v, hs⟩ := H.spool i hi
  have := on_calls w _ p v s hs
  rwa [hb, Bool.not_not] at this
/-! The document's. -/
theorem rnew_h (w : World) (room : Int) (h1 : 1 ≤ room) (h2 : room ≤ 1048576) (s : Sp) (hs : Sp.new room.toNat = s) :
    Calls Try.prog 47 #[.int .i64 room] w fun e w' => ∃ p, e = .returned (.tuple #[.pointer (some ⟨p, 0, none⟩), .int .i64 0]) ∧ Fresh w w' (refA p s) := by
  subst hs
  refine (ref_new w room).mono ?_
  intro e w' h
  rw [if_neg (by omega)] at h
  obtain ⟨p, rfl, rfl, hs, hb'⟩ := h
  refine ⟨_, rfl, ⟨fun k => k = w.heap.size, ⟨_, _, hs, rfl, (fun k e => by cases e), fun k e => by cases e⟩, fun k e => ?_⟩, hb'⟩
  subst e; exact ⟨Nat.le_refl _, hs.lt⟩
theorem radd_h (H : Has w0 w l) (i : Nat) (q : Nat) (s : Sp) (hi : l[i]? = some (refA q s)) (xs : List UInt8) (m : Nat) (hm : m = xs.length) (B : Option Addr) (c' : Nat) (hb : kb.C w B xs.length xs) (hm4 : m ≤ 140737488355328) (r : Int) (s' : Sp) (hr : s.add xs = (r, s')) :
    Calls Try.prog 48 #[.pointer (some ⟨q, 0, none⟩), .slice B m c'] w fun e w' => e = .returned (.int .i64 r) ∧ Has w0 w' (l.set i (refA q s')) := by
  obtain ⟨F, ⟨v1, v2, hs, hq, h1, h2⟩, _, hgo⟩ := H.get i _ hi
  refine (ref_add w q v1 v2 s hs xs m hm B c' hb hm4).mono ?_
  rw [hr]
  rintro e w' ⟨rfl, ht⟩
  exact ⟨rfl, hgo _ _ (ht.goes hq h1 h2)⟩
theorem rsync_h (H : Has w0 w l) (i : Nat) (q : Nat) (s : Sp) (hi : l[i]? = some (refA q s)) (r : Int) (s' : Sp) (hr : s.sync = (r, s')) :
    Calls Try.prog 49 #[.pointer (some ⟨q, 0, none⟩)] w fun e w' => e = .returned (.int .i64 r) ∧ Has w0 w' (l.set i (refA q s')) := by
  obtain ⟨F, ⟨v1, v2, hs, hq, h1, h2⟩, _, hgo⟩ := H.get i _ hi
  refine (ref_sync w q v1 v2 s hs).mono ?_
  rw [hr]
  rintro e w' ⟨rfl, ht⟩
  exact ⟨rfl, hgo _ _ (ht.goes hq h1 h2)⟩
theorem rcut_h (H : Has w0 w l) (i : Nat) (q : Nat) (s : Sp) (hi : l[i]? = some (refA q s)) (n : Int) (r : Int) (s' : Sp) (hr : s.cut n = (r, s')) :
    Calls Try.prog 51 #[.pointer (some ⟨q, 0, none⟩), .int .i64 n] w fun e w' => e = .returned (.int .i64 r) ∧ Has w0 w' (l.set i (refA q s')) := by
  obtain ⟨F, ⟨v1, v2, hs, hq, h1, h2⟩, _, hgo⟩ := H.get i _ hi
  refine (ref_cut w q v1 v2 s hs n).mono ?_
  rw [hr]
  rintro e w' ⟨rfl, ht⟩
  exact ⟨rfl, hgo _ _ (ht.goes hq h1 h2)⟩
theorem roff_h (H : Has w0 w l) (i : Nat) (q : Nat) (s : Sp) (hi : l[i]? = some (refA q s)) (n : Int) (hn : n ≤ 9223372036854775807) (s' : Sp) (hr : s.setOff n = s') :
    Calls Try.prog 52 #[.pointer (some ⟨q, 0, none⟩), .int .i64 n] w fun e w' => e = .returned (.tuple #[]) ∧ Has w0 w' (l.set i (refA q s')) := by
  subst hr
  obtain ⟨F, ⟨v1, v2, hs, hq, h1, h2⟩, _, hgo⟩ := H.get i _ hi
  refine (ref_off w q v1 v2 s hs n hn).mono ?_
  rintro e w' ⟨rfl, ht⟩
  exact ⟨rfl, hgo _ _ (ht.goes hq h1 h2)⟩
theorem rcrash_h (H : Has w0 w l) (i : Nat) (q : Nat) (s : Sp) (hi : l[i]? = some (refA q s)) (n : Int) (s' : Sp) (hr : s.crash n = s') :
    Calls Try.prog 53 #[.pointer (some ⟨q, 0, none⟩), .int .i64 n] w fun e w' => e = .returned (.tuple #[]) ∧ Has w0 w' (l.set i (refA q s')) := by
  subst hr
  obtain ⟨F, ⟨v1, v2, hs, hq, h1, h2⟩, _, hgo⟩ := H.get i _ hi
  refine (ref_crash w q v1 v2 s hs n).mono ?_
  rintro e w' ⟨rfl, ht⟩
  exact ⟨rfl, hgo _ _ (ht.goes hq h1 h2)⟩
theorem rall_h (H : Has w0 w l) (i : Nat) (q : Nat) (s : Sp) (hi : l[i]? = some (refA q s)) (xs : List UInt8) (hx : s.bytes = xs) (m : Nat) (hm : m = xs.length) :
    Calls Try.prog 54 #[.pointer (some ⟨q, 0, none⟩)] w fun e w' => ∃ A1 c1, e = .returned (.slice A1 m c1) ∧ Fresh w w' (bytesA (.slice A1 m c1) xs) := by
  subst hx hm
  obtain ⟨v1, v2, hs⟩ := H.ref i hi
  refine (ref_all w q v1 v2 s hs).mono ?_
  rintro e w' ⟨A1, c1, rfl, ho, hb⟩
  exact ⟨A1, c1, rfl, .bytes ho hb⟩
/-- A row of the call's own is written over. -/
theorem spoil_h (H : Has w0 w l) (i : Nat) (v : Value) (xs : List UInt8) (hi : l[i]? = some (bytesA v xs)) :
    Calls Try.prog 24 #[v] w fun e w' => e = .returned (.tuple #[]) ∧ ∃ ys, ys.length = xs.length ∧ Has w0 w' (l.set i (bytesA v ys)) := by
  obtain ⟨F, ⟨ho, hv⟩, _, hgo⟩ := H.get i _ hi
  refine (spoil_calls xs v 0 w ho).mono ?_
  rintro e w' ⟨rfl, ys, hl, ho', hg⟩
  refine ⟨rfl, ys, hl, hgo _ _ ⟨fun k => v.ownBlock = some k, ⟨ho', fun k e => e⟩, (Touch.of_grown hg).mono fun k _ e => hv k e.symm, fun k e => ⟨.inl (hv k e), ho'.lt k e⟩⟩⟩
end
end Go.Proofs.Ytahaoakolgomdaa
