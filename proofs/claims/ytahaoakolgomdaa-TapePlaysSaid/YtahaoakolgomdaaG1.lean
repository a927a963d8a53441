/- Joined by merge.py from M9, W6, M10, S36. -/
import Derived.Test.YtahaoakolgomdaaM4
import Derived.Test.YtahaoakolgomdaaM8
import Derived.Test.YtahaoakolgomdaaS30
import Derived.StillTailTactics
import Derived.Defers

/- A plain model of the tape. -/
namespace Go.Proofs.Ytahaoakolgomdaa
set_option linter.unusedVariables false
set_option linter.unusedSimpArgs false

/-- A tape and its spool. -/
structure Ts where
  sp : Sp
  l : List (List UInt8)
  lost : Bool
structure Ts.Ok (t : Ts) : Prop where
  sp : t.sp.Ok
  len : (cat t.l).length ≤ t.sp.b.length
  fit : fits t.l
/-- A record's crate is laid, and synced (the tape is not lost). -/
def Ts.lay (t : Ts) (r : List UInt8) : Int × Ts :=
  if 8000 < r.length then (3, t)
  else if (t.sp.add (putS r)).1 ≠ 0 then ((t.sp.add (putS r)).1, ⟨(t.sp.add (putS r)).2, t.l, decide ((t.sp.add (putS r)).1 = 190)⟩)
  else if (t.sp.add (putS r)).2.sync.1 ≠ 0 then ((t.sp.add (putS r)).2.sync.1, ⟨(t.sp.add (putS r)).2.sync.2, t.l, decide ((t.sp.add (putS r)).2.sync.1 = 190)⟩)
  else (0, ⟨(t.sp.add (putS r)).2.sync.2, t.l ++ [r], false⟩)
def Ts.add (t : Ts) (r : List UInt8) : Int × Ts := if t.lost then (190, t) else t.lay r
def Ts.layAll : Ts → List (List UInt8) → Int × Ts
  | t, [] => (0, t)
  | t, r :: rs => if (t.lay r).1 ≠ 0 then t.lay r else (t.lay r).2.layAll rs
def tooLong (l : List (List UInt8)) : Bool := l.any fun r => decide (8000 < r.length)
def Ts.pack (t : Ts) (l : List (List UInt8)) : Int × Ts :=
  if t.lost then (190, t) else if tooLong l then (3, t)
  else if (t.sp.cut 0).1 ≠ 0 then ((t.sp.cut 0).1, ⟨(t.sp.cut 0).2, t.l, true⟩)
  else Ts.layAll ⟨(t.sp.cut 0).2, [], false⟩ l
def Ts.records (t : Ts) : List (List UInt8) := if t.lost then [] else t.l
/-- What a spool has. -/
def opn (s : Sp) : Int × Option (List (List UInt8)) × Sp :=
  if s.off then (190, none, s)
  else if (allS s.b).2.1 < s.b.length then
    (if (s.cut (allS s.b).2.1).1 ≠ 0 then ((s.cut (allS s.b).2.1).1, none, (s.cut (allS s.b).2.1).2) else (0, some (allS s.b).1, (s.cut (allS s.b).2.1).2))
  else (0, some (allS s.b).1, s)
theorem Sp.act_code (s : Sp) : s.act.1 = true → s.off = false := by
  unfold Sp.act
  by_cases h : s.off = true
  · rw [if_pos h]; intro h2; cases h2
  · intro _; simpa using h
theorem Sp.add_code (s : Sp) (xs : List UInt8) : ((s.add xs).1 = 0 ∧ (s.add xs).2.b = s.b ++ xs ∧ (s.add xs).2.sure = s.sure) ∨ (((s.add xs).1 = 5 ∨ (s.add xs).1 = 190) ∧ (s.add xs).2.b = s.b ∧ (s.add xs).2.sure = s.sure) := by
  obtain ⟨a, b, c⟩ := s.act_b
  unfold Sp.add
  split
  · exact .inr ⟨.inr rfl, rfl, rfl⟩
  · split
    · exact .inr ⟨.inl rfl, rfl, rfl⟩
    · split
      · exact .inl ⟨rfl, rfl, b⟩
      · exact .inr ⟨.inr rfl, a, b⟩
theorem Sp.sync_code (s : Sp) : (s.sync.1 = 0 ∧ s.sync.2.b = s.b ∧ s.sync.2.sure = s.b.length) ∨ (s.sync.1 = 190 ∧ s.sync.2.b = s.b ∧ s.sync.2.sure = s.sure) := by
  obtain ⟨a, b, c⟩ := s.act_b
  unfold Sp.sync
  split
  · exact .inl ⟨rfl, a, rfl⟩
  · exact .inr ⟨rfl, a, b⟩
theorem Sp.cut_code (s : Sp) (n : Nat) (hn : n ≤ s.b.length) : ((s.cut n).1 = 0 ∧ (s.cut n).2.b = s.b.take n ∧ (s.cut n).2.sure = n) ∨ ((s.cut n).1 = 190 ∧ (s.cut n).2.b = s.b ∧ (s.cut n).2.sure = s.sure) := by
  obtain ⟨a, b, c⟩ := s.act_b
  unfold Sp.cut
  split
  · exact .inr ⟨rfl, rfl, rfl⟩
  · rw [if_neg (by omega)]
    split
    · exact .inl ⟨rfl, by simp, by simp⟩
    · exact .inr ⟨rfl, a, b⟩
theorem fits_snoc {G : List (List UInt8)} {x : List UInt8} (h : fits G) (hx : x.length ≤ 8000) : fits (G ++ [x]) := fun y hy => by
  rcases List.mem_append.1 hy with hy | hy
  · exact h y hy
  · rw [List.mem_singleton.1 hy]; exact hx
theorem Ts.Ok.lay {t : Ts} (h : t.Ok) (r : List UInt8) : (t.lay r).2.Ok := by
  have h1 := h.sp.add (putS r)
  have h2 := h1.sync
  have hl := h.len
  unfold Ts.lay
  split
  · exact h
  · rename_i hr
    split
    · rename_i h3
      rcases Sp.add_code t.sp (putS r) with ⟨e, _⟩ | ⟨_, e, _⟩
      · exact absurd e h3
      · exact ⟨h1, by rw [e]; exact hl, h.fit⟩
    · rename_i h3
      have h4 : (t.sp.add (putS r)).2.b = t.sp.b ++ putS r := by
        rcases Sp.add_code t.sp (putS r) with ⟨_, e, _⟩ | ⟨e | e, _, _⟩
        · exact e
        · exact absurd (by rw [e]; decide) h3
        · exact absurd (by rw [e]; decide) h3
      have h5 : (t.sp.add (putS r)).2.sync.2.b = t.sp.b ++ putS r := by
        rcases Sp.sync_code (t.sp.add (putS r)).2 with ⟨_, e, _⟩ | ⟨_, e, _⟩ <;> rw [e, h4]
      split
      · exact ⟨h2, by rw [h5]; simp; omega, h.fit⟩
      · exact ⟨h2, by rw [h5, cat_snoc]; simp; omega, fits_snoc h.fit (by omega)⟩
theorem Ts.Ok.layAll : ∀ {l : List (List UInt8)} {t : Ts}, t.Ok → (t.layAll l).2.Ok
  | [], t, h => h
  | r :: rs, t, h => by
    unfold Ts.layAll
    split
    · exact h.lay r
    · exact Ts.Ok.layAll (h.lay r)
theorem Ts.Ok.add {t : Ts} (h : t.Ok) (r : List UInt8) : (t.add r).2.Ok := by
  unfold Ts.add; split
  · exact h
  · exact h.lay r
theorem fits_nil : fits [] := fun x hx => by cases hx
theorem Ts.Ok.pack {t : Ts} (h : t.Ok) (l : List (List UInt8)) : (t.pack l).2.Ok := by
  have h1 := h.sp.cut 0
  unfold Ts.pack
  split
  · exact h
  · split
    · exact h
    · split
      · rename_i h3
        rcases Sp.cut_code t.sp 0 (Nat.zero_le _) with ⟨e, _⟩ | ⟨_, e, _⟩
        · exact absurd e h3
        · have e' : (t.sp.cut 0).2.b = t.sp.b := e
          exact ⟨h1, by rw [e']; exact h.len, h.fit⟩
      · exact Ts.Ok.layAll ⟨h1, by simp [cat], fits_nil⟩
theorem allGo_form (xs : List UInt8) : ∀ (f k : Nat) (out : List (List UInt8)), k ≤ xs.length → xs.take k = cat out → fits out →
    ∃ j : Nat, (allGo xs f k out).2.1 = (j : Int) ∧ j ≤ xs.length ∧ xs.take j = cat (allGo xs f k out).1 ∧ fits (allGo xs f k out).1
  | 0, k, out, hk, ht, hf => ⟨k, rfl, hk, ht, hf⟩
  | f + 1, k, out, hk, ht, hf => by
    rw [allGo_succ]
    by_cases h : (getS xs k).2.2 = 0
    · rw [if_pos h]
      obtain ⟨j, e1, h1, h2⟩ := getS_ok xs k h
      rw [e1]
      have hg : (getS xs k).1.length ≤ 8000 ∧ xs.take j = cat (out ++ [(getS xs k).1]) := by
        have h' := h
        unfold getS at h' e1 ⊢
        split at h'
        · simp at h'
        · rename_i n1
          rw [if_neg n1] at e1 ⊢
          split at h'
          · simp at h'
          · rename_i n2
            rw [if_neg n2] at e1 ⊢
            split at h'
            · rename_i n3
              rw [if_pos n3] at e1 ⊢
              rw [Int.toNat_natCast] at n3 e1 ⊢
              simp only at e1 ⊢
              have hj : j = k + (numAt (xs.drop k) + 7) := by omega
              obtain ⟨_, _, n4, n5, n6⟩ := n3
              have hbl : (bodyAt (xs.drop k)).length ≤ 8000 := by unfold bodyAt; rw [List.length_take]; omega
              refine ⟨hbl, ?_⟩
              rw [hj, cat_snoc, ← ht, ← n6]
              rw [List.take_add]
            · simp at h'
      exact allGo_form xs f j (out ++ [(getS xs k).1]) h2 hg.2 (fits_snoc hf hg.1)
    · rw [if_neg h]
      exact ⟨k, rfl, hk, ht, hf⟩
/-- What stands ahead of what is no crate. -/
theorem allS_form (xs : List UInt8) : ∃ j : Nat, (allS xs).2.1 = (j : Int) ∧ j ≤ xs.length ∧ xs.take j = cat (allS xs).1 ∧ fits (allS xs).1 :=
  allGo_form xs (xs.length + 1) 0 [] (Nat.zero_le _) (by simp [cat]) fits_nil
theorem opn_ok {s : Sp} (h : s.Ok) : (opn s).2.2.Ok ∧ ∀ l, (opn s).2.1 = some l → (Ts.mk (opn s).2.2 l false).Ok := by
  obtain ⟨j, e, hj, ht, hf⟩ := allS_form s.b
  unfold opn
  split
  · exact ⟨h, fun l hl => by cases hl⟩
  · split
    · rw [e]
      have h1 := h.cut (j : Int)
      rcases Sp.cut_code s j hj with ⟨e2, e3, _⟩ | ⟨e2, e3, _⟩
      · rw [if_neg (by rw [e2]; decide)]
        refine ⟨h1, fun l hl => ⟨h1, ?_, ?_⟩⟩
        · cases hl
          show (cat (allS s.b).1).length ≤ (s.cut j).2.b.length
          rw [e3, ht]; exact Nat.le_refl _
        · cases hl; exact hf
      · rw [if_pos (by rw [e2]; decide)]
        exact ⟨h1, fun l hl => by cases hl⟩
    · refine ⟨h, fun l hl => ⟨h, ?_, ?_⟩⟩
      · cases hl
        show (cat (allS s.b).1).length ≤ s.b.length
        rw [← ht, List.length_take]; omega
      · cases hl; exact hf
end Go.Proofs.Ytahaoakolgomdaa


/- Words of memory: some things out of many; tapes. -/
namespace Go.Proofs.Ytahaoakolgomdaa
open Go.RowKit Go.Proofs.YtahaoakolgomdaaW.PrintWords Go.Proofs.YtahaoakolgomdaaW.PrintLast Go.Proofs.YtahaoakolgomdaaW.PrintMore
set_option linter.unusedVariables false
set_option linter.unusedSimpArgs false

def empA : Asr := ⟨fun _ _ => True, fun _ _ _ h _ => h⟩
theorem Star.take_ {w : World} (l : List Asr) (i : Nat) (X : Asr) (F : Nat → Prop) (h : Star l w F) (hi : l[i]? = some X) :
    ∃ G H : Nat → Prop, X.P w G ∧ Star (l.set i empA) w H ∧ (∀ k, G k → H k → False) ∧ ∀ k, G k ∨ H k → F k := by
  obtain ⟨G, H, h1, h2, h3, h4⟩ := Star.at_ l i X F h hi
  exact ⟨G, fun k => H k, h1, Star.up _ _ _ (h4 empA w (fun _ => False) trivial (fun _ _ => rfl) fun _ h _ => h) (fun k hk => hk.resolve_left id), h2, h3⟩
theorem Star.put_ {w : World} {Y : Asr} {G : Nat → Prop} (hy : Y.P w G) : ∀ (l : List Asr) (i : Nat) (Z : Asr) (F : Nat → Prop), Star l w F → l[i]? = some Z → (∀ k, G k → F k → False) → Star (l.set i Y) w fun k => G k ∨ F k
  | [], i, Z, F, _, hi, _ => by simp at hi
  | X :: l, 0, Z, F, ⟨G', H, h1, h2, h3, h4⟩, hi, hd => ⟨G, H, hy, h2, fun k hg hh => hd k hg (h4 k (.inr hh)), fun k h => h.imp id fun hh => h4 k (.inr hh)⟩
  | X :: l, i + 1, Z, F, ⟨G', H, h1, h2, h3, h4⟩, hi, hd => by
    have := Star.put_ hy l i Z H h2 (by simpa using hi) fun k hg hh => hd k hg (h4 k (.inr hh))
    refine ⟨G', fun k => G k ∨ H k, h1, this, fun k hg hh => ?_, fun k h => ?_⟩
    · rcases hh with hh | hh
      · exact hd k hh (h4 k (.inl hg))
      · exact h3 k hg hh
    · rcases h with h | h | h
      · exact .inr (h4 k (.inl h))
      · exact .inl h
      · exact .inr (h4 k (.inr h))
section
variable {w0 w : World} {l : List Asr}
/-- Two of them, and the others as one. -/
theorem Has.two (h : Has w0 w l) (i j : Nat) (X Y : Asr) (hi : l[i]? = some X) (hj : l[j]? = some Y) (hij : i ≠ j) :
    ∃ R : Asr, R = starA ((l.set i empA).set j empA) ∧ Has w0 w [X, Y, R] ∧ ∀ (X' Y' : Asr) (w1 : World), Has w0 w1 [X', Y', R] → Has w0 w1 ((l.set i X').set j Y') := by
  refine ⟨_, rfl, ?_, fun X' Y' w1 h1 => ?_⟩
  · obtain ⟨⟨F, h1, h2⟩, h3⟩ := h
    obtain ⟨G, H, g1, g2, g3, g4⟩ := Star.take_ l i X F h1 hi
    have hj' : (l.set i empA)[j]? = some Y := by rw [List.getElem?_set_ne hij]; exact hj
    obtain ⟨G', H', k1, k2, k3, k4⟩ := Star.take_ _ j Y H g2 hj'
    refine ⟨⟨F, ⟨G, fun k => G' k ∨ H' k, g1, ⟨G', H', k1, ⟨H', fun _ => False, k2, trivial, fun _ _ h => h, fun k h => h.elim id False.elim⟩, k3, fun k h => h⟩, fun k hg hh => g3 k hg (k4 k hh), fun k h => g4 k (h.imp id (k4 k))⟩, h2⟩, h3⟩
  · obtain ⟨⟨F, ⟨G, H0, g1, ⟨G', H1, k1, ⟨H2, _, m1, _, _, m4⟩, k3, k4⟩, g3, g4⟩, h2⟩, h3⟩ := h1
    have m1' : Star ((l.set i empA).set j empA) w1 H1 := Star.up _ H2 H1 m1 fun k hk => m4 k (.inl hk)
    have hil : i < l.length := (List.getElem?_eq_some_iff.1 hi).1
    have hjl : j < l.length := (List.getElem?_eq_some_iff.1 hj).1
    have a1 := Star.put_ k1 _ j empA H1 m1' (by rw [List.getElem?_set_self (by simpa using hjl)]) k3
    rw [List.set_set] at a1
    have a2 := Star.put_ g1 _ i empA _ a1 (by rw [List.getElem?_set_ne (fun e => hij e.symm), List.getElem?_set_self (by simpa using hil)]) fun k hg hh => g3 k hg (k4 k hh)
    have e : ((l.set i empA).set j Y').set i X' = (l.set i X').set j Y' := by
      rw [List.set_comm _ _ (fun e => hij e.symm), List.set_set]
    rw [e] at a2
    exact ⟨⟨_, a2, fun k hk => h2 k (g4 k (hk.imp id (k4 k)))⟩, h3⟩
/-- One of them, and the others as one. -/
theorem Has.one (h : Has w0 w l) (i : Nat) (X : Asr) (hi : l[i]? = some X) :
    ∃ R : Asr, R = starA (l.set i empA) ∧ Has w0 w [X, R] ∧ ∀ (X' : Asr) (w1 : World), Has w0 w1 [X', R] → Has w0 w1 (l.set i X') := by
  refine ⟨_, rfl, ?_, fun X' w1 h1 => ?_⟩
  · obtain ⟨⟨F, h1, h2⟩, h3⟩ := h
    obtain ⟨G, H, g1, g2, g3, g4⟩ := Star.take_ l i X F h1 hi
    exact ⟨⟨F, ⟨G, H, g1, ⟨H, fun _ => False, g2, trivial, fun _ _ h => h, fun k h => h.elim id False.elim⟩, g3, g4⟩, h2⟩, h3⟩
  · obtain ⟨⟨F, ⟨G, H0, g1, ⟨H2, _, m1, _, _, m4⟩, g3, g4⟩, h2⟩, h3⟩ := h1
    have hil : i < l.length := (List.getElem?_eq_some_iff.1 hi).1
    have a2 := Star.put_ g1 _ i empA H2 m1 (by rw [List.getElem?_set_self (by simpa using hil)]) fun k hg hh => g3 k hg (m4 k (.inl hh))
    rw [List.set_set] at a2
    exact ⟨⟨_, a2, fun k hk => h2 k (g4 k (hk.imp id fun hh => m4 k (.inl hh)))⟩, h3⟩
end
/-- What is among the others. -/
theorem starA_get {w : World} {F : Nat → Prop} {l : List Asr} (h : (starA l).P w F) (m : Nat) (Z : Asr) (hm : l[m]? = some Z) : ∃ G, Z.P w G := by
  obtain ⟨G, H, g1, _⟩ := Star.at_ l m Z F h hm
  exact ⟨G, g1⟩
/-- Bytes that are read as long as the others stand. -/
def ReadsIn (w0 : World) (R : Asr) (A : Option Addr) (xs : List UInt8) : Prop := ∀ (w : World) (F : Nat → Prop), R.P w F → Below w0.heap.size w0 w → kb.C w A xs.length xs
theorem ReadsIn.old {w0 : World} {R : Asr} {A : Option Addr} {xs : List UInt8} (h : kb.C w0 A xs.length xs) : ReadsIn w0 R A xs := fun w F _ hb => Kd.C_below h hb
theorem Has.in_ {w0 w : World} {l : List Asr} (h : Has w0 w l) (i : Nat) {R : Asr} (hi : l[i]? = some R) {A : Option Addr} {xs : List UInt8} (hr : ReadsIn w0 R A xs) : kb.C w A xs.length xs := by
  obtain ⟨F, h1, _⟩ := h.get i R hi
  exact hr w F h1 h.old
/-- One thing is two. -/
theorem Star.part {w : World} {X Y1 Y2 : Asr} (hx : ∀ F, X.P w F → Star [Y1, Y2] w F) : ∀ (l : List Asr) (i : Nat) (F : Nat → Prop), Star l w F → l[i]? = some X → Star (l.set i Y1 ++ [Y2]) w F
  | [], i, F, _, hi => by simp at hi
  | Z :: l, 0, F, ⟨G, H, h1, h2, h3, h4⟩, hi => by
    simp at hi; subst hi
    obtain ⟨G1, G2, g1, ⟨G3, _, g3, _, _, g6⟩, g4, g5⟩ := hx G h1
    have := Star.add g3 l H h2 fun k hk hh => h3 k (g5 k (.inr (g6 k (.inl hk)))) hh
    refine ⟨G1, fun k => H k ∨ G3 k, g1, this, fun k hg hh => ?_, fun k h => ?_⟩
    · rcases hh with hh | hh
      · exact h3 k (g5 k (.inl hg)) hh
      · exact g4 k hg (g6 k (.inl hh))
    · rcases h with h | h | h
      · exact h4 k (.inl (g5 k (.inl h)))
      · exact h4 k (.inr h)
      · exact h4 k (.inl (g5 k (.inr (g6 k (.inl h)))))
  | Z :: l, i + 1, F, ⟨G, H, h1, h2, h3, h4⟩, hi => ⟨G, H, h1, Star.part hx l i H h2 (by simpa using hi), h3, h4⟩
section
variable {w0 w w1 : World} {l : List Asr}
theorem Has.part (h : Has w0 w l) (i : Nat) (X Y1 Y2 : Asr) (hi : l[i]? = some X) (hx : ∀ F, X.P w F → Star [Y1, Y2] w F) : Has w0 w (l.set i Y1 ++ [Y2]) := by
  obtain ⟨⟨F, h1, h2⟩, h3⟩ := h
  exact ⟨⟨F, Star.part hx l i F h1 hi, h2⟩, h3⟩
/-- Two things are one. -/
theorem Has.join (h : Has w0 w l) (i j : Nat) (X Y1 Y2 : Asr) (hi : l[i]? = some Y1) (hj : l[j]? = some Y2) (hij : i ≠ j) (hx : ∀ F, Star [Y1, Y2] w F → X.P w F) : Has w0 w ((l.set i X).set j empA) := by
  obtain ⟨R, rfl, ⟨⟨F, ⟨G, H0, g1, ⟨G', H1, k1, ⟨H2, _, m1, _, _, m4⟩, k3, k4⟩, g3, g4⟩, h2⟩, h3⟩, hgo⟩ := h.two i j Y1 Y2 hi hj hij
  refine hgo X empA w ⟨⟨F, ⟨fun k => G k ∨ G' k, H1, hx _ ⟨G, G', g1, ⟨G', fun _ => False, k1, trivial, fun _ _ h => h, fun k h => h.elim id False.elim⟩, fun k hg hg' => g3 k hg (k4 k (.inl hg')), fun k h => h⟩, ⟨fun _ => False, H1, trivial, ⟨H2, fun _ => False, m1, trivial, fun _ _ h => h, fun k h => m4 k (.inl (h.elim id False.elim))⟩, fun _ h _ => h, fun k h => h.elim False.elim id⟩, fun k hg hh => ?_, fun k h => ?_⟩, h2⟩, h3⟩
  · rcases hg with hg | hg
    · exact g3 k hg (k4 k (.inr hh))
    · exact k3 k hg hh
  · rcases h with (h | h) | h
    · exact g4 k (.inl h)
    · exact g4 k (.inr (k4 k (.inl h)))
    · exact g4 k (.inr (k4 k (.inr h)))
end
/-! What append does, beside other things. -/
section
variable {ops : Array Oper} {Q : Exit → Act → World → Prop} {o : Oper} {rest : List Oper} {a : Act}
theorem list_of_run {W w1 : World} {v u v1 : Value} (hgd : o.guard = none) (T : TypeId) (s x : Operand) (ho : o.op = .call { callee := .builtin .append, args := #[s, x], argTypes := #[T, T] }) (hs : a.eval s = v) (hx : a.eval x = u)
    (hr : (Builtin.append_ #[T, T] o.type #[v, u]).run Try.prog W = .ok v1 w1) (h : wpList Try.prog ops Q rest (a.put o.dst v1) w1) : wpList Try.prog ops Q (o :: rest) a W := by
  refine wpList_plain hgd fun _ hK => ?_
  unfold Oper.wp execOp
  simp only [ho, resolve, invoke, builtin, Sem.run_bind, Sem.run_pure, Result.andThen_ok, List.map_toArray, List.map_cons, List.map_nil, hs, hx, hr]
  exact hK _ _ h
end
theorem run_app_own (W : World) (base : Nat) (ty : TypeId) (v : Value) (xs ys : List UInt8) (A : Option Addr) (m c : Nat) (HO : OwnB W base v xs) (HR : kb.C W A m ys) (hmc : m ≤ c) (hbase : base ≤ W.heap.size) (hl : xs.length + m ≤ 140737488355328) :
    ∃ v1 w1, (Builtin.append_ #[22, 22] ty #[v, .slice A m c]).run Try.prog W = .ok v1 w1 ∧ OwnB w1 base v1 (xs ++ ys) ∧ W.grownBy w1 v.ownBlock ∧ (v1.ownBlock = v.ownBlock ∨ ∃ b, v1.ownBlock = some b ∧ W.heap.size ≤ b) := by
  obtain ⟨i, hi, hz, hsize, hby⟩ := info_parts info5
  have hyl : ys.length = m := HR.1
  rcases Nat.eq_zero_or_pos m with hm | hm
  · subst hm
    have : ys = [] := List.eq_nil_of_length_eq_zero hyl
    subst this
    obtain ⟨B, cap, rfl, h1, _⟩ := HO.reads
    refine ⟨_, W, ?_, by rw [List.append_nil]; exact HO, ⟨rfl, rfl, rfl, Nat.le_refl _, fun _ _ _ => rfl⟩, .inl rfl⟩
    cases B <;> cases A <;> simp [Builtin.append_, run_underlying Try.underlying22, sizeOf, typeInfo, hi, Builtin.lenOf, Builtin.firstCells, loadCells, loadCellsFrom, h1, storeCells]
  · obtain ⟨ad, rfl, hl1, hn1, hc1⟩ := kb_news HR hm
    obtain ⟨v1, w1, hr, ho, hg, _, hat⟩ := run_append_own_at (P := Try.prog) W base 22 ty 5 i _ 1 1 Try.underlying22 hi hz hsize hby rfl (by decide) v xs.length (encs enc8 xs) HO ad m c (encs enc8 ys) hl1 hn1 hc1 (by simp only [maxLen]; omega) (by omega) hbase
    refine ⟨v1, w1, hr, ?_, hg, hat.imp id fun e => ⟨_, e, Nat.le_refl _⟩⟩
    unfold OwnB
    have e : encs enc8 (xs ++ ys) = encs enc8 xs ++ encs enc8 ys := by simp [encs]
    rw [e, List.length_append, hyl]
    exact ho
section
variable {w0 W : World} {l : List Asr}
/-- Bytes are appended. -/
theorem bytes_run (H : Has w0 W l) (i : Nat) (v : Value) (xs ys zs : List UInt8) (hi : l[i]? = some (bytesA v xs)) (hz : xs ++ ys = zs) (ty : TypeId) (A : Option Addr) (m c : Nat) (HR : kb.C W A m ys) (hmc : m ≤ c) (hl : xs.length + m ≤ 140737488355328) :
    ∃ A1 c1 w1, (Builtin.append_ #[22, 22] ty #[v, .slice A m c]).run Try.prog W = .ok (.slice A1 zs.length c1) w1 ∧ zs.length ≤ c1 ∧ Has w0 w1 (l.set i (bytesA (.slice A1 zs.length c1) zs)) := by
  subst hz
  obtain ⟨F, ⟨hb, hv⟩, hF, hgo⟩ := H.get i _ hi
  obtain ⟨v1, w1, hr, ho1, hg1, hat⟩ := run_app_own W 0 ty v xs ys A m c hb HR hmc (Nat.zero_le _) hl
  obtain ⟨A1, c1, rfl, hc1, _⟩ := ho1.reads
  refine ⟨A1, c1, w1, hr, hc1, hgo _ _ ⟨fun k => (Value.slice A1 (xs ++ ys).length c1).ownBlock = some k, ⟨ho1, fun k e => e⟩, (Touch.of_grown hg1).mono fun k _ e => hv k e.symm, fun k e => ⟨?_, ho1.lt k e⟩⟩⟩
  rcases hat with e2 | ⟨b, e2, hb2⟩
  · exact .inl (hv k (by rw [← e2]; exact e))
  · rw [e] at e2; cases e2; exact .inr hb2
/-- A row of bytes is appended to rows. -/
theorem rows_run (H : Has w0 W l) (i m : Nat) (him : i ≠ m) (v u : Value) (xss : List (List UInt8)) (ys : List UInt8) (hi : l[i]? = some (rowsA v xss)) (hm : l[m]? = some (bytesA u ys)) (ty : TypeId) (hl : (xss.length + 1) * 24 ≤ 140737488355328) :
    ∃ A1 c1 w1, (Builtin.append_ #[35, 35] ty #[v, .slice (some ⟨W.heap.size, 0, none⟩) 1 1]).run Try.prog (W.alloc (.cells #[u] 22)) = .ok (.slice A1 (xss.length + 1) c1) w1 ∧
      Has w0 w1 ((l.set i (rowsA (.slice A1 (xss.length + 1) c1) (xss ++ [ys]))).set m empA) := by
  obtain ⟨R, _, H2, hgo⟩ := H.two i m _ _ hi hm him
  have H3 := H2.alloc (.cells #[u] 22)
  have h63 : xss.length + 1 ≤ 140737488355328 := by omega
  obtain ⟨⟨F, ⟨G, H0, ⟨vs, r1, r2, r3, r4, r5, r6⟩, ⟨G', H1, ⟨u1, u2⟩, k2, k3, k4⟩, g3, g4⟩, hF⟩, hold⟩ := H3
  obtain ⟨i0, hi0, hz, hsize, hby⟩ := info_parts info22
  have hu1 : u.oneCell' = true := ownB_oneCell u1
  obtain ⟨v1, w1, hr, ho, hg, _, hat⟩ := run_append_own_at (P := Try.prog) (W.alloc (.cells #[u] 22)) 0 35 ty 22 i0 _ 1 24 Try.underlying35 hi0 hz hsize hby rfl (by decide) v vs.length vs r1 ⟨W.heap.size, 0, none⟩ 1 1 [u] rfl
    (cell_one_new _ _ _) (fun x hx => by rw [List.mem_singleton.1 hx]; exact hu1) (by simp only [maxLen]; omega) (by rw [r2]; exact hl) (Nat.zero_le _)
  have hlen : vs.length + 1 = (vs ++ [u]).length := by simp
  obtain ⟨A1, c1, e1⟩ := own_slice ho
  have e1' : v1 = .slice A1 (xss.length + 1) c1 := by rw [e1, r2]
  subst e1'
  have touch : Touch G (W.alloc (.cells #[u] 22)) w1 := (Touch.of_grown hg).mono fun k _ e => r5 k e.symm
  have hG : ∀ k, G k → k < (W.alloc (.cells #[u] 22)).heap.size := fun k hk => (hF k (g4 k (.inl hk))).2
  refine ⟨A1, c1, w1, hr, hgo _ _ w1 ⟨⟨fun k => (G k ∨ G' k ∨ ((W.alloc (.cells #[u] 22)).heap.size ≤ k ∧ k < w1.heap.size)) ∨ H1 k, ⟨fun k => G k ∨ G' k ∨ ((W.alloc (.cells #[u] 22)).heap.size ≤ k ∧ k < w1.heap.size), H1, ⟨vs ++ [u], ?_, ?_, ?_, ?_, ?_, ?_⟩, ⟨fun _ => False, H1, trivial, Star.loc [R] H1 k2 fun k hk => touch.block k (hF k (g4 k (.inr (k4 k (.inr hk))))).2 fun hg' => g3 k hg' (k4 k (.inr hk)), fun _ h _ => h, fun k h => h.elim False.elim id⟩, fun k hk hh => ?_, fun k hk => hk⟩, fun k hk => ?_⟩, ?_⟩⟩
  · rw [← hlen]; exact ho
  · simp [r2]
  · intro j x xs' hx hxs
    by_cases hj : j < vs.length
    · rw [List.getElem?_append_left hj] at hx
      rw [List.getElem?_append_left (by omega)] at hxs
      have h5 := r3 j x xs' hx hxs
      refine own_move h5 fun k e => hg.block k (h5.lt k e) fun e2 => ?_
      rcases own_type_ne h5 r1 (by decide) with e3 | e3
      · rw [e] at e3; cases e3
      · exact e3 (by rw [e, e2])
    · have hj1 : j < (vs ++ [u]).length := (List.getElem?_eq_some_iff.1 hx).1
      have : j = vs.length := by simp at hj1; omega
      subst this
      rw [List.getElem?_append_right (Nat.le_refl _)] at hx
      rw [List.getElem?_append_right (by omega)] at hxs
      simp at hx; simp [r2] at hxs
      subst hx; subst hxs
      refine own_move u1 fun k e => hg.block k (OwnB.lt u1 k e) fun e2 => ?_
      rcases own_type_ne u1 r1 (by decide) with e3 | e3
      · rw [e] at e3; cases e3
      · exact e3 (by rw [e, e2])
  · rw [List.pairwise_append]
    refine ⟨r4, List.pairwise_singleton _ _, fun p hp q hq => ?_⟩
    rw [List.mem_singleton.1 hq]
    cases hpb : p.ownBlock with
    | none => exact .inl hpb
    | some k => exact .inr fun he => g3 k (r6 p hp k hpb) (k4 k (.inl (u2 k (by rw [← he]; exact hpb))))
  · intro k e
    rcases hat with e2 | e2
    · exact .inl (r5 k (by rw [← e2]; exact e))
    · rw [e] at e2; cases e2
      exact .inr (.inr ⟨Nat.le_refl _, own_lt ho _ e⟩)
  · intro x hx k e
    rcases List.mem_append.1 hx with hx | hx
    · exact .inl (r6 x hx k e)
    · rw [List.mem_singleton.1 hx] at e
      exact .inr (.inl (u2 k e))
  · rcases hk with hk | hk | hk
    · exact g3 k hk (k4 k (.inr hh))
    · exact k3 k hk hh
    · have := (hF k (g4 k (.inr (k4 k (.inr hh))))).2
      omega
  · have hs := touch.size
    rcases hk with (hk | hk | hk) | hk
    · have := hF k (g4 k (.inl hk)); exact ⟨this.1, by omega⟩
    · have := hF k (g4 k (.inr (k4 k (.inl hk)))); exact ⟨this.1, by omega⟩
    · have := hold.size; exact ⟨by omega, hk.2⟩
    · have := hF k (g4 k (.inr (k4 k (.inr hk)))); exact ⟨this.1, by omega⟩
  · exact hold.trans (touch.below _ hold.size fun k hk => (hF k (g4 k (.inl hk))).1)
end
/-! Tapes. -/
/-- A tape (T: its struct's type) on the spool at p. -/
def tapeB (T : TypeId) (t p : Nat) (l : List (List UInt8)) (lost : Bool) : Asr :=
  ⟨fun w F => ∃ v, Star [blkA t (.cells #[.pointer (some ⟨p, 0, none⟩), v, .bool lost] T (0, 0)), rowsA v l] w F,
   fun _ _ _ h hk => by
    obtain ⟨v, h1⟩ := h
    exact ⟨v, Star.loc _ _ h1 hk⟩⟩
/-- A tape, laid open. -/
theorem tape_open {w0 w : World} {L : List Asr} (h : Has w0 w L) (i : Nat) {T : TypeId} {t p : Nat} {l : List (List UInt8)} {lost : Bool} (hi : L[i]? = some (tapeB T t p l lost)) :
    ∃ A c, l.length ≤ c ∧ klb.C w A l.length l ∧ Has w0 w (L.set i (blkA t (.cells #[.pointer (some ⟨p, 0, none⟩), .slice A l.length c, .bool lost] T (0, 0))) ++ [rowsA (.slice A l.length c) l]) := by
  obtain ⟨F, ⟨v, hs⟩, hF, hgo⟩ := h.get i _ hi
  have hown : OwnL w 0 v l := by
    obtain ⟨G, H, _, ⟨G', _, ⟨vs, h1, h2, h3, h4, _⟩, _⟩, _⟩ := hs
    exact ⟨vs, h1, h2, h3, h4⟩
  obtain ⟨A, c, rfl, hc, hr⟩ := hown.reads
  refine ⟨A, c, hc, hr, ?_⟩
  have h5 : Has w0 w (L.set i (starA [blkA t (.cells #[.pointer (some ⟨p, 0, none⟩), .slice A l.length c, .bool lost] T (0, 0)), rowsA (.slice A l.length c) l])) :=
    hgo _ w ⟨F, hs, Touch.refl _ _, fun k hk => ⟨.inl hk, (hF k hk).2⟩⟩
  have hil : i < L.length := (List.getElem?_eq_some_iff.1 hi).1
  have h6 := h5.part i _ _ _ (by rw [List.getElem?_set_self (by simpa using hil)]) fun F hF => hF
  rwa [List.set_set] at h6
/-- .. and shut. -/
theorem tape_shut {w0 w : World} {L : List Asr} (h : Has w0 w L) (i j : Nat) {T : TypeId} {t p : Nat} {v : Value} {l : List (List UInt8)} {lost : Bool} (hi : L[i]? = some (blkA t (.cells #[.pointer (some ⟨p, 0, none⟩), v, .bool lost] T (0, 0)))) (hj : L[j]? = some (rowsA v l)) (hij : i ≠ j) :
    Has w0 w ((L.set i (tapeB T t p l lost)).set j empA) :=
  h.join i j _ _ _ hi hj hij fun F hF => ⟨v, hF⟩
end Go.Proofs.Ytahaoakolgomdaa


/- Plain laws of spools. -/
namespace Go.Proofs.Ytahaoakolgomdaa
set_option linter.unusedVariables false
set_option linter.unusedSimpArgs false

theorem Sp.act_on {b : List UInt8} {sure room : Nat} : (Sp.mk b sure room (-1) false).act = (true, ⟨b, sure, room, -1, false⟩) := by
  unfold Sp.act; rw [if_neg (by simp), if_neg (by simp), if_neg (by simp)]
theorem Sp.add_on {b xs : List UInt8} {sure room : Nat} (h : b.length + xs.length ≤ room) : (Sp.mk b sure room (-1) false).add xs = (0, ⟨b ++ xs, sure, room, -1, false⟩) := by
  unfold Sp.add; rw [if_neg (by simp), if_neg (by simp only; omega), Sp.act_on]; rfl
theorem Sp.add_full {b xs : List UInt8} {sure room : Nat} (h : room < b.length + xs.length) : (Sp.mk b sure room (-1) false).add xs = (5, ⟨b, sure, room, -1, false⟩) := by
  unfold Sp.add; rw [if_neg (by simp), if_pos h]
theorem Sp.cut_on {b : List UInt8} {sure room : Nat} {m : Nat} (h : m ≤ b.length) : (Sp.mk b sure room (-1) false).cut m = (0, ⟨b.take m, m, room, -1, false⟩) := by
  unfold Sp.cut; rw [if_neg (by simp), if_neg (by simp only; omega), Sp.act_on]; rfl
theorem Sp.cut_bad {b : List UInt8} {sure room : Nat} {n : Int} (h : n < 0 ∨ (b.length : Int) < n) : (Sp.mk b sure room (-1) false).cut n = (2, ⟨b, sure, room, -1, false⟩) := by
  unfold Sp.cut; rw [if_neg (by simp), if_pos h]
theorem Sp.sync_on {b : List UInt8} {sure room : Nat} : (Sp.mk b sure room (-1) false).sync = (0, ⟨b, b.length, room, -1, false⟩) := by
  unfold Sp.sync; rw [Sp.act_on]; rfl
theorem Sp.act_go {b : List UInt8} {sure room : Nat} {left : Int} (h : 0 < left) : (Sp.mk b sure room left false).act = (true, ⟨b, sure, room, left - 1, false⟩) := by
  unfold Sp.act; rw [if_neg (by simp), if_neg (by simp only; omega), if_pos h]
theorem Sp.act_stop {b : List UInt8} {sure room : Nat} {off : Bool} : (Sp.mk b sure room 0 off).act = (false, ⟨b, sure, room, 0, true⟩) := by
  unfold Sp.act
  cases off
  · rw [if_neg (by simp), if_pos rfl]
  · rw [if_pos rfl]
theorem Sp.add_go {b xs : List UInt8} {sure room : Nat} {left : Int} (h : 0 < left) (hr : b.length + xs.length ≤ room) : (Sp.mk b sure room left false).add xs = (0, ⟨b ++ xs, sure, room, left - 1, false⟩) := by
  unfold Sp.add; rw [if_neg (by simp), if_neg (by simp only; omega), Sp.act_go h]; rfl
theorem Sp.add_stop {b xs : List UInt8} {sure room : Nat} {off : Bool} (hr : b.length + xs.length ≤ room) : (Sp.mk b sure room 0 off).add xs = (190, ⟨b, sure, room, 0, true⟩) := by
  unfold Sp.add
  cases off
  · rw [if_neg (by simp), if_neg (by simp only; omega), Sp.act_stop]; rfl
  · rw [if_pos rfl]
theorem Sp.sync_go {b : List UInt8} {sure room : Nat} {left : Int} (h : 0 < left) : (Sp.mk b sure room left false).sync = (0, ⟨b, b.length, room, left - 1, false⟩) := by
  unfold Sp.sync; rw [Sp.act_go h]; rfl
theorem Sp.sync_stop {b : List UInt8} {sure room : Nat} {off : Bool} : (Sp.mk b sure room 0 off).sync = (190, ⟨b, sure, room, 0, true⟩) := by
  unfold Sp.sync; rw [Sp.act_stop]; rfl
theorem Sp.crash_all {b : List UInt8} {sure room : Nat} {left : Int} {off : Bool} (h : sure ≤ b.length) (keep : Int) (hk : (b.length : Int) ≤ keep) : (Sp.mk b sure room left off).crash keep = ⟨b, b.length, room, -1, false⟩ := by
  have e : (Sp.mk b sure room left off).keepN keep = b.length := by unfold Sp.keepN; simp only; omega
  unfold Sp.crash; rw [e]; simp
theorem Sp.len_bytes (s : Sp) : s.len = s.bytes.length := by unfold Sp.len Sp.bytes; split <;> rfl
theorem Sp.bytes_len {s : Sp} (h : s.Ok) : s.bytes.length ≤ 1048576 := by
  have h1 := h.len
  have h2 := h.room
  unfold Sp.bytes; split
  · simp
  · omega
end Go.Proofs.Ytahaoakolgomdaa


/- Walks of the tape: state, Len, Records, the deferred closure of lay. -/
namespace Go.Proofs.Ytahaoakolgomdaa
open Go.RowKit Go.Proofs.YtahaoakolgomdaaW.PrintWords Go.Proofs.YtahaoakolgomdaaW.PrintLast Go.Proofs.YtahaoakolgomdaaW.PrintMore
set_option linter.unusedVariables false
set_option linter.unusedSimpArgs false

theorem tape_cells {w0 w : World} {L : List Asr} (h : Has w0 w L) (i : Nat) {T : TypeId} {t p : Nat} {l : List (List UInt8)} {lost : Bool} (hi : L[i]? = some (tapeB T t p l lost)) :
    ∃ A c, w.heap[t]? = some (.cells #[.pointer (some ⟨p, 0, none⟩), .slice A l.length c, .bool lost] T (0, 0)) ∧ l.length ≤ c ∧ klb.C w A l.length l ∧ t < w.heap.size := by
  obtain ⟨A, c, hc, hr, h1⟩ := tape_open h i hi
  have hil : i < L.length := (List.getElem?_eq_some_iff.1 hi).1
  have h2 := h1.blk i (b := t) (o := .cells #[.pointer (some ⟨p, 0, none⟩), .slice A l.length c, .bool lost] T (0, 0)) (by
    rw [List.getElem?_append_left (by simpa using hil), List.getElem?_set_self (by simpa using hil)])
  exact ⟨A, c, h2, hc, hr, blk_lt h2⟩
theorem state_h {w0 w : World} {L : List Asr} (h : Has w0 w L) (i : Nat) {t p : Nat} {l : List (List UInt8)} {lost : Bool} (hi : L[i]? = some (tapeB 105 t p l lost)) (e0 : Int) (he : e0 = if lost then 190 else 0) :
    Calls Try.prog 70 #[.pointer (some ⟨t, 0, none⟩)] w fun e w' => e = .returned (.int .i64 e0) ∧ w' = w := by
  obtain ⟨A, c, hc, _, _, _⟩ := tape_cells h i hi
  have c2 := blk_cell hc 2
  simp at c2
  subst he
  clear h hi hc
  cases lost
  · go_enter Try.func70, Try.ntmps70
    go_wp2
    go_ret
    exact ⟨rfl, rfl⟩
  · go_enter Try.func70, Try.ntmps70
    go_wp2
    go_ret
    exact ⟨rfl, rfl⟩
theorem nil_state (w : World) : Calls Try.prog 70 #[.pointer none] w fun e w' => e = .returned (.int .i64 1) ∧ w' = w := by
  go_enter Try.func70, Try.ntmps70
  go_wp2
  go_ret
  exact ⟨rfl, rfl⟩
theorem tlen_h {w0 w : World} {L : List Asr} (h : Has w0 w L) (i : Nat) {t p : Nat} {l : List (List UInt8)} {lost : Bool} (hi : L[i]? = some (tapeB 105 t p l lost)) (n : Nat) (hn : n = (if lost then [] else l).length) :
    Calls Try.prog 64 #[.pointer (some ⟨t, 0, none⟩)] w fun e w' => e = .returned (.int .i64 (n : Int)) ∧ w' = w := by
  obtain ⟨A, c, hc, _, _, _⟩ := tape_cells h i hi
  have c1 := blk_cell hc 1
  simp at c1
  subst hn
  have H := Aside0.mk h
  have HI := Aside0.mk hi
  clear h hi hc
  cases lost
  · go_enter Try.func64, Try.ntmps64
    go_wp2_with (go_at_call 70; refine (state_h H.out i HI.out 0 rfl).mono ?_; rintro e w' ⟨rfl, hw⟩; obtain rfl := hw.symm; clear hw)
    go_ret
    exact ⟨rfl, rfl⟩
  · go_enter Try.func64, Try.ntmps64
    go_wp2_with (go_at_call 70; refine (state_h H.out i HI.out 190 rfl).mono ?_; rintro e w' ⟨rfl, hw⟩; obtain rfl := hw.symm; clear hw)
    go_ret
    exact ⟨rfl, rfl⟩
set_option maxRecDepth 100000 in
/-- The deferred closure of lay. -/
theorem lay_deferred (w : World) (t bt be : Nat) (en : Int) (u : FrameMode) (h1 : w.cell? ⟨bt, 0, none⟩ = some (.pointer (some ⟨t, 0, none⟩))) (h2 : w.cell? ⟨be, 0, none⟩ = some (.int .i64 en))
    (h3 : w.cell? ⟨t, 2, none⟩ = some (.bool false)) (h4 : w.frozen? ⟨t, 2, none⟩ = false) :
    CallsD Try.prog 74 #[.pointer (some ⟨bt, 0, none⟩), .pointer (some ⟨be, 0, none⟩)] u w fun e u' w' => u' = u ∧ (e = .returned (.tuple #[]) ∧ w' = (w.setCell ⟨t, 2, none⟩ (.bool (decide (en = 190)))).drew) := by
  have hb : (Value.bool (en == 190)) = .bool (decide (en = 190)) := by congr 1
  go_enter_d Try.func74, Try.ntmps74
  go_still_tail 11, (by kernel_rfl)
  change wpList _ _ _ _ _ (World.drew w)
  go_wp2
  first | go_end0 | ((try simp only [Exit.inBlock, Exit.then]); refine bodyPost_ret (results_none rfl _ _ _) rfl ?_)
  exact ⟨rfl, by first | rfl | (rw [hb]; rfl)⟩
end Go.Proofs.Ytahaoakolgomdaa

