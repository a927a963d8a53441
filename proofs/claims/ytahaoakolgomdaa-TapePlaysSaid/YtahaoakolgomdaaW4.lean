/- Words of memory: several things that lie apart, and what a call leaves of the others. -/
import Derived.Test.YtahaoakolgomdaaW3
namespace Go.Proofs.Ytahaoakolgomdaa
open Go.RowKit Go.Proofs.YtahaoakolgomdaaW.PrintWords Go.Proofs.YtahaoakolgomdaaW.PrintLast Go.Proofs.YtahaoakolgomdaaW.PrintMore
set_option linter.unusedVariables false
set_option linter.unusedSimpArgs false

/-- What is so of some blocks, whatever the others hold. -/
structure Asr where
  P : World → (Nat → Prop) → Prop
  loc : ∀ w w1 F, P w F → (∀ k, F k → w1.heap[k]? = w.heap[k]?) → P w1 F
/-- All of them, each on blocks of its own. -/
def Star : List Asr → World → (Nat → Prop) → Prop
  | [], _, _ => True
  | X :: l, w, F => ∃ G H : Nat → Prop, X.P w G ∧ Star l w H ∧ (∀ k, G k → H k → False) ∧ ∀ k, G k ∨ H k → F k
theorem Star.loc {w w1 : World} : ∀ (l : List Asr) (F : Nat → Prop), Star l w F → (∀ k, F k → w1.heap[k]? = w.heap[k]?) → Star l w1 F
  | [], _, _, _ => trivial
  | X :: l, F, ⟨G, H, h1, h2, h3, h4⟩, hk => ⟨G, H, X.loc _ _ _ h1 fun k hg => hk k (h4 k (.inl hg)), Star.loc l H h2 fun k hh => hk k (h4 k (.inr hh)), h3, h4⟩
theorem Star.up {w : World} : ∀ (l : List Asr) (F G : Nat → Prop), Star l w F → (∀ k, F k → G k) → Star l w G
  | [], _, _, _, _ => trivial
  | X :: l, F, G', ⟨G, H, h1, h2, h3, h4⟩, hk => ⟨G, H, h1, h2, h3, fun k h => hk k (h4 k h)⟩
/-- Several things as one. -/
def starA (l : List Asr) : Asr := ⟨fun w F => Star l w F, fun _ _ F h hk => Star.loc l F h hk⟩
/-- One of them, and the others. -/
theorem Star.at_ {w : World} : ∀ (l : List Asr) (i : Nat) (X : Asr) (F : Nat → Prop), Star l w F → l[i]? = some X →
    ∃ G H : Nat → Prop, X.P w G ∧ (∀ k, G k → H k → False) ∧ (∀ k, G k ∨ H k → F k) ∧
      ∀ (Y : Asr) (w1 : World) (G1 : Nat → Prop), Y.P w1 G1 → (∀ k, H k → w1.heap[k]? = w.heap[k]?) → (∀ k, G1 k → H k → False) → Star (l.set i Y) w1 fun k => G1 k ∨ H k
  | [], i, X, F, _, hi => by simp at hi
  | Z :: l, 0, X, F, ⟨G, H, h1, h2, h3, h4⟩, hi => by
    simp at hi; subst hi
    exact ⟨G, H, h1, h3, h4, fun Y w1 G1 hy hk hd => ⟨G1, H, hy, Star.loc l H h2 hk, hd, fun k h => h⟩⟩
  | Z :: l, i + 1, X, F, ⟨G, H, h1, h2, h3, h4⟩, hi => by
    obtain ⟨G', H', k1, k2, k3, k4⟩ := Star.at_ l i X H h2 (by simpa using hi)
    refine ⟨G', fun k => G k ∨ H' k, k1, fun k hg hh => ?_, fun k hk => ?_, fun Y w1 G1 hy hk hd => ?_⟩
    · rcases hh with hh | hh
      · exact h3 k hh (k3 k (.inl hg))
      · exact k2 k hg hh
    · rcases hk with hk | hk | hk
      · exact h4 k (.inr (k3 k (.inl hk)))
      · exact h4 k (.inl hk)
      · exact h4 k (.inr (k3 k (.inr hk)))
    · refine ⟨G, fun k => G1 k ∨ H' k, Z.loc _ _ _ h1 fun k hg => hk k (.inl hg), k4 Y w1 G1 hy (fun k hh => hk k (.inr hh)) fun k hg hh => hd k hg (.inr hh), fun k hg hh => ?_, fun k h => ?_⟩
      · rcases hh with hh | hh
        · exact hd k hh (.inl hg)
        · exact h3 k hg (k3 k (.inr hh))
      · rcases h with h | h | h
        · exact .inr (.inl h)
        · exact .inl h
        · exact .inr (.inr h)
/-- A call that began in w with blocks F leaves Y there (and in new blocks). -/
def Goes (F : Nat → Prop) (Y : Asr) (w w1 : World) : Prop :=
  ∃ F1 : Nat → Prop, Y.P w1 F1 ∧ Touch F w w1 ∧ ∀ k, F1 k → (F k ∨ w.heap.size ≤ k) ∧ k < w1.heap.size
/-- What stands now: these things, on blocks that are new since w0; what was there at w0 stands. -/
def Has (w0 w : World) (l : List Asr) : Prop :=
  (∃ F : Nat → Prop, Star l w F ∧ ∀ k, F k → w0.heap.size ≤ k ∧ k < w.heap.size) ∧ Below w0.heap.size w0 w
section
variable {w0 w w1 : World} {l : List Asr}
theorem Has.start (w : World) : Has w w [] := ⟨⟨fun _ => False, trivial, fun _ h => h.elim⟩, Below.refl _ _⟩
theorem Has.old (h : Has w0 w l) : Below w0.heap.size w0 w := h.2
theorem Has.size (h : Has w0 w l) : w0.heap.size ≤ w.heap.size := h.2.size
theorem Has.below (h : Has w0 w l) (hb : Below w.heap.size w w1) : Has w0 w1 l := by
  obtain ⟨⟨F, h1, h2⟩, h3⟩ := h
  exact ⟨⟨F, Star.loc l F h1 fun k hk => hb.block k (h2 k hk).2, fun k hk => ⟨(h2 k hk).1, Nat.lt_of_lt_of_le (h2 k hk).2 hb.size⟩⟩, below_then h3 h3.size hb⟩
theorem Has.alloc (h : Has w0 w l) (o : Obj) : Has w0 (w.alloc o) l := h.below (below_alloc (Below.refl _ _) o)
theorem Has.drewN (h : Has w0 w l) (n : Nat) : Has w0 (w.drewN n) l := h.below (pw_below_drewN (Below.refl _ _) n)
theorem Has.drew (h : Has w0 w l) : Has w0 w.drew l := h.drewN 1
/-- One of them. -/
theorem Has.get (h : Has w0 w l) (i : Nat) (X : Asr) (hi : l[i]? = some X) : ∃ F : Nat → Prop, X.P w F ∧ (∀ k, F k → w0.heap.size ≤ k ∧ k < w.heap.size) ∧
    ∀ (Y : Asr) (w1 : World), Goes F Y w w1 → Has w0 w1 (l.set i Y) := by
  obtain ⟨⟨F, h1, h2⟩, h3⟩ := h
  obtain ⟨G, H, k1, k2, k3, k4⟩ := Star.at_ l i X F h1 hi
  refine ⟨G, k1, fun k hk => h2 k (k3 k (.inl hk)), fun Y w1 ⟨G1, hy, ht, hg⟩ => ⟨⟨fun k => G1 k ∨ H k, k4 Y w1 G1 hy (fun k hk => ht.block k (h2 k (k3 k (.inr hk))).2 fun hg' => k2 k hg' hk) fun k hg' hh => ?_, fun k hk => ?_⟩, ?_⟩⟩
  · rcases (hg k hg').1 with h | h
    · exact k2 k h hh
    · have := (h2 k (k3 k (.inr hh))).2; omega
  · rcases hk with hk | hk
    · have hlt := (hg k hk).2
      rcases (hg k hk).1 with h | h
      · exact ⟨(h2 k (k3 k (.inl h))).1, hlt⟩
      · have := h3.size; exact ⟨by omega, hlt⟩
    · exact ⟨(h2 k (k3 k (.inr hk))).1, Nat.lt_of_lt_of_le (h2 k (k3 k (.inr hk))).2 ht.size⟩
  · exact h3.trans (ht.below _ h3.size fun k hk => (h2 k (k3 k (.inl hk))).1)
/-- The same thing, said otherwise. -/
theorem Has.imp (h : Has w0 w l) (i : Nat) (X Y : Asr) (hi : l[i]? = some X) (hxy : ∀ F, X.P w F → Y.P w F) : Has w0 w (l.set i Y) := by
  obtain ⟨F, h1, h2, h3⟩ := h.get i X hi
  exact h3 Y w ⟨F, hxy F h1, Touch.refl _ _, fun k hk => ⟨.inl hk, (h2 k hk).2⟩⟩
theorem Star.add {w : World} {Y : Asr} {G : Nat → Prop} (hy : Y.P w G) : ∀ (l : List Asr) (F : Nat → Prop), Star l w F → (∀ k, G k → F k → False) → Star (l ++ [Y]) w fun k => F k ∨ G k
  | [], F, _, hd => ⟨G, fun _ => False, hy, trivial, fun _ _ h => h, fun k h => .inr (h.resolve_right id)⟩
  | X :: l, F, ⟨G', H, h1, h2, h3, h4⟩, hd => by
    refine ⟨G', fun k => H k ∨ G k, h1, Star.add hy l H h2 fun k hg hh => hd k hg (h4 k (.inr hh)), fun k hg hh => ?_, fun k h => ?_⟩
    · rcases hh with hh | hh
      · exact h3 k hg hh
      · exact hd k hh (h4 k (.inl hg))
    · rcases h with h | h | h
      · exact .inl (h4 k (.inl h))
      · exact .inl (h4 k (.inr h))
      · exact .inr h
/-- A new thing. -/
theorem Has.add (h : Has w0 w l) (hb : Below w.heap.size w w1) (Y : Asr) (G : Nat → Prop) (hy : Y.P w1 G) (hg : ∀ k, G k → w.heap.size ≤ k ∧ k < w1.heap.size) : Has w0 w1 (l ++ [Y]) := by
  have hs := h.size
  obtain ⟨⟨F, h1, h2⟩, h3⟩ := h
  refine ⟨⟨fun k => F k ∨ G k, Star.add hy l F (Star.loc l F h1 fun k hk => hb.block k (h2 k hk).2) fun k hgk hf => ?_, fun k hk => ?_⟩, below_then h3 h3.size hb⟩
  · have h5 := (hg k hgk).1
    have h6 := (h2 k hf).2
    omega
  · rcases hk with hk | hk
    · exact ⟨(h2 k hk).1, Nat.lt_of_lt_of_le (h2 k hk).2 hb.size⟩
    · have := hg k hk; exact ⟨by omega, this.2⟩
theorem Star.drop {w : World} : ∀ (i : Nat) (l : List Asr) (F : Nat → Prop), Star l w F → Star (l.eraseIdx i) w F
  | _, [], _, _ => trivial
  | 0, X :: l, F, ⟨G, H, h1, h2, h3, h4⟩ => Star.up l H F h2 fun k hk => h4 k (.inr hk)
  | i + 1, X :: l, F, ⟨G, H, h1, h2, h3, h4⟩ => ⟨G, H, h1, Star.drop i l H h2, h3, h4⟩
/-- Without one of them. -/
theorem Has.drop (h : Has w0 w l) (i : Nat) : Has w0 w (l.eraseIdx i) := by
  obtain ⟨⟨F, h1, h2⟩, h3⟩ := h
  exact ⟨⟨F, Star.drop i l F h1, h2⟩, h3⟩
end
/-! Things. -/
/-- A row of bytes of the call's own. -/
def bytesA (v : Value) (xs : List UInt8) : Asr :=
  ⟨fun w F => OwnB w 0 v xs ∧ ∀ k, v.ownBlock = some k → F k, fun _ _ _ h hk => ⟨own_move h.1 fun k e => hk k (h.2 k e), h.2⟩⟩
/-- A row of rows. -/
def rowsA (v : Value) (xss : List (List UInt8)) : Asr :=
  ⟨fun w F => ∃ vs : List Value, w.ownsRow 0 22 1 v vs.length vs ∧ vs.length = xss.length ∧ (∀ (i : Nat) (u : Value) (xs : List UInt8), vs[i]? = some u → xss[i]? = some xs → OwnB w 0 u xs) ∧ vs.Pairwise ApartV ∧
      (∀ k, v.ownBlock = some k → F k) ∧ ∀ u ∈ vs, ∀ k, u.ownBlock = some k → F k,
   fun _ _ _ h hk => by
    obtain ⟨vs, h1, h2, h3, h4, h5, h6⟩ := h
    exact ⟨vs, own_move h1 fun k e => hk k (h5 k e), h2, fun i u xs hu hx => own_move (h3 i u xs hu hx) fun k e => hk k (h6 u (List.mem_of_getElem? hu) k e), h4, h5, h6⟩⟩
/-- A block. -/
def blkA (b : Nat) (o : Obj) : Asr := ⟨fun w F => w.heap[b]? = some o ∧ F b, fun _ _ _ h hk => ⟨(hk b h.2).trans h.1, h.2⟩⟩
/-- A spool. -/
def spoolA (p : Nat) (s : Sp) : Asr :=
  ⟨fun w F => ∃ v, SpoolAt w 0 p v s ∧ F p ∧ ∀ k, v.ownBlock = some k → F k,
   fun _ _ _ h hk => by
    obtain ⟨v, h1, h2, h3⟩ := h
    exact ⟨v, h1.keep (hk p h2) fun k e => hk k (h3 k e), h2, h3⟩⟩
section
variable {w0 w w1 : World} {l : List Asr}
theorem Has.addB (h : Has w0 w l) {v : Value} {xs : List UInt8} (ho : OwnB w1 w.heap.size v xs) (hb : Below w.heap.size w w1) : Has w0 w1 (l ++ [bytesA v xs]) :=
  h.add hb _ (fun k => v.ownBlock = some k) ⟨ho.lower (Nat.zero_le _), fun k e => e⟩ fun k e => ⟨ho.base_le k e, ho.lt k e⟩
theorem OwnL.foot {w : World} {base : Nat} {v : Value} {xss : List (List UInt8)} (ho : OwnL w base v xss) (hb : base ≤ w.heap.size) : ∃ G : Nat → Prop, (rowsA v xss).P w G ∧ ∀ k, G k → base ≤ k ∧ k < w.heap.size := by
  obtain ⟨vs, h1, h2, h3, h4⟩ := ho
  refine ⟨fun k => v.ownBlock = some k ∨ ∃ u ∈ vs, u.ownBlock = some k, ⟨vs, own_weaken h1 (Nat.zero_le _), h2, fun i u xs hu hx => (h3 i u xs hu hx).lower (Nat.zero_le _), h4, fun k e => .inl e, fun u hu k e => .inr ⟨u, hu, e⟩⟩, fun k hk => ?_⟩
  rcases hk with e | ⟨u, hu, e⟩
  · exact ⟨own_base h1 k e, own_lt h1 k e⟩
  · obtain ⟨i, hi, rfl⟩ := List.getElem_of_mem hu
    have := h3 i vs[i] (xss[i]'(by omega)) (by simp [hi]) (by simp)
    exact ⟨this.base_le k e, this.lt k e⟩
theorem Has.addL (h : Has w0 w l) {v : Value} {xss : List (List UInt8)} (ho : OwnL w1 w.heap.size v xss) (hb : Below w.heap.size w w1) : Has w0 w1 (l ++ [rowsA v xss]) := by
  obtain ⟨G, h1, h2⟩ := ho.foot hb.size
  exact h.add hb _ G h1 h2
theorem Has.addO (h : Has w0 w l) (o : Obj) : Has w0 (w.alloc o) (l ++ [blkA w.heap.size o]) :=
  h.add (below_alloc (Below.refl _ _) o) _ (fun k => k = w.heap.size) ⟨blk_new w o, rfl⟩ fun k e => by subst e; exact ⟨Nat.le_refl _, by simp⟩
theorem Has.bytes (h : Has w0 w l) (i : Nat) {v : Value} {xs : List UInt8} (hi : l[i]? = some (bytesA v xs)) : OwnB w 0 v xs := by
  obtain ⟨F, h1, _⟩ := h.get i _ hi
  exact h1.1
theorem Has.rows (h : Has w0 w l) (i : Nat) {v : Value} {xss : List (List UInt8)} (hi : l[i]? = some (rowsA v xss)) : OwnL w 0 v xss := by
  obtain ⟨F, ⟨vs, h1, h2, h3, h4, _⟩, _⟩ := h.get i _ hi
  exact ⟨vs, h1, h2, h3, h4⟩
theorem Has.blk (h : Has w0 w l) (i : Nat) {b : Nat} {o : Obj} (hi : l[i]? = some (blkA b o)) : w.heap[b]? = some o := by
  obtain ⟨F, h1, _⟩ := h.get i _ hi
  exact h1.1
/-- A cell of a block is written. -/
theorem Has.put (h : Has w0 w l) (i : Nat) {b : Nat} {cs : Array Value} {T : TypeId} (hi : l[i]? = some (blkA b (.cells cs T (0, 0)))) (k : Nat) (u : Value) (cs' : Array Value) (hc : cs.setIfInBounds k u = cs') :
    Has w0 (w.setCell ⟨b, k, none⟩ u) (l.set i (blkA b (.cells cs' T (0, 0)))) := by
  obtain ⟨F, h1, h2, h3⟩ := h.get i _ hi
  refine h3 _ _ ⟨F, ⟨?_, h1.2⟩, (Touch.of_grown (grown_set w b k u)).mono fun q _ e => by cases e; exact h1.2, fun k hk => ⟨.inl hk, ?_⟩⟩
  · rw [← hc]; exact blk_set h1.1 k u
  · rw [show (w.setCell ⟨b, _, none⟩ u).heap.size = w.heap.size by simp [World.setCell]]; exact (h2 k hk).2
end
end Go.Proofs.Ytahaoakolgomdaa
