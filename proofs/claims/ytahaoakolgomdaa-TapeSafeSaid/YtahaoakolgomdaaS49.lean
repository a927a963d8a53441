/- Rows of the call's own whose elements came in: appended to, beside other things. -/
import Derived.Test.YtahaoakolgomdaaS48
namespace Go.Proofs.Ytahaoakolgomdaa
open Go.RowKit Go.Proofs.YtahaoakolgomdaaW.PrintWords Go.Proofs.YtahaoakolgomdaaW.PrintLast Go.Proofs.YtahaoakolgomdaaW.PrintMore
set_option linter.unusedVariables false
set_option linter.unusedSimpArgs false

/-- An own row of rows that came in. -/
def outA (w0 : World) (v : Value) (G : List (List UInt8)) : Asr :=
  ⟨fun w F => OutL w0 w 0 v G ∧ ∀ k, v.ownBlock = some k → F k, fun _ _ _ h hk => ⟨by
    obtain ⟨⟨vs, h1, h2, h3⟩, h4⟩ := h
    exact ⟨vs, own_move h1 fun k e => hk k (h4 k e), h2, h3⟩, h.2⟩⟩
theorem Fresh.outNil (w0 w : World) : Fresh w w (outA w0 (.slice none 0 0) []) :=
  ⟨⟨fun _ => False, ⟨OutL.nil _ _ _, fun k e => by cases e⟩, fun _ h => h.elim⟩, Below.refl _ _⟩
/-- Where rows that came in are read. -/
def News (w0 W : World) (A : Option Addr) (m : Nat) (Y : List (List UInt8)) : Prop :=
  m = Y.length ∧ ∃ us : List Value, us.length = Y.length ∧ (∀ (i : Nat) (u : Value) (xs : List UInt8), us[i]? = some u → Y[i]? = some xs → ∃ A c, u = .slice A xs.length c ∧ xs.length ≤ c ∧ kb.C w0 A xs.length xs) ∧
    (0 < m → ∃ ad, A = some ad ∧ ∀ j u, us[j]? = some u → W.cell? (ad.add j) = some u)
theorem News.one {w0 W : World} {A : Option Addr} {c : Nat} {xs : List UInt8} (hc : xs.length ≤ c) (h : kb.C w0 A xs.length xs) : News w0 (W.alloc (.cells #[.slice A xs.length c] 22)) (some ⟨W.heap.size, 0, none⟩) 1 [xs] :=
  ⟨rfl, [.slice A xs.length c], rfl, fun i u ys hu hy => by
    have hi : i = 0 := by have := (List.getElem?_eq_some_iff.1 hu).1; simpa using this
    subst hi
    simp at hu hy; subst hu hy
    exact ⟨A, c, rfl, hc, h⟩, fun _ => ⟨_, rfl, cell_one_new _ _ _⟩⟩
theorem News.of {w0 W : World} {A : Option Addr} {Y : List (List UInt8)} (h : klb.C w0 A Y.length Y) (hb : Below w0.heap.size w0 W) : News w0 W A Y.length Y := by
  refine ⟨rfl, ?_⟩
  by_cases h0 : 0 < Y.length
  · obtain ⟨ad, _, _, rfl, _⟩ := klb_get h 0 h0
    have hcell : ∀ k, k < Y.length → ∃ A1 c1, w0.cell? (ad.add k) = some (.slice A1 (Y.getD k []).length c1) ∧ (Y.getD k []).length ≤ c1 ∧ kb.C w0 A1 (Y.getD k []).length (Y.getD k []) := by
      intro k hk
      obtain ⟨ad', A1, c1, e, k1, l1, r1⟩ := klb_get h k hk
      cases e
      exact ⟨A1, c1, k1, l1, r1⟩
    refine ⟨(List.range Y.length).map fun k => (w0.cell? (ad.add k)).getD undef, by simp, fun i u xs hu hy => ?_, fun _ => ⟨ad, rfl, fun j u hu => ?_⟩⟩
    · have hi : i < Y.length := (List.getElem?_eq_some_iff.1 hy).1
      obtain ⟨A1, c1, k1, l1, r1⟩ := hcell i hi
      have e : Y.getD i [] = xs := by rw [List.getD_eq_getElem?_getD, hy]; rfl
      rw [e] at k1 l1 r1
      rw [List.getElem?_map, List.getElem?_range hi] at hu
      simp [k1] at hu
      exact ⟨A1, c1, hu.symm, l1, r1⟩
    · have hj : j < Y.length := by have := (List.getElem?_eq_some_iff.1 hu).1; simpa using this
      obtain ⟨A1, c1, k1, _, _⟩ := hcell j hj
      rw [List.getElem?_map, List.getElem?_range hj] at hu
      simp [k1] at hu
      rw [← hu]
      exact pw_cell_below hb k1
  · have : Y = [] := List.eq_nil_of_length_eq_zero (by omega)
    subst this
    exact ⟨[], rfl, fun i u xs hu => by simp at hu, fun h => absurd h (by simp)⟩
section
variable {w0 W : World} {l : List Asr}
theorem Has.out (H : Has w0 W l) (i : Nat) {v : Value} {G : List (List UInt8)} (hi : l[i]? = some (outA w0 v G)) : OutL w0 W 0 v G := by
  obtain ⟨F, h1, _⟩ := H.get i _ hi
  exact h1.1
theorem News.row (H : Has w0 W l) (i : Nat) {A : Option Addr} {m c : Nat} {G : List (List UInt8)} (hi : l[i]? = some (outA w0 (.slice A m c) G)) (hm : m = G.length) : News w0 W A m G := by
  refine ⟨hm, ?_⟩
  obtain ⟨vs, h1, h2, h3⟩ := H.out i hi
  refine ⟨vs, h2, h3, fun h0 => ?_⟩
  obtain ⟨A', c', e, hl, hr⟩ := own_reads_of_le (enc := fun v : Value => v) (d := undef) (xs := vs) (by simpa [encs] using h1)
  injection e with e1 e2 e3
  subst e1
  obtain ⟨ad, rfl, hc⟩ := hr.2.2 (by omega)
  refine ⟨ad, rfl, fun j u hu => ?_⟩
  have hj : j < vs.length := (List.getElem?_eq_some_iff.1 hu).1
  rw [hc j hj, List.getD_eq_getElem?_getD, hu]; rfl
/-- Rows that came in are appended. -/
theorem out_run (H : Has w0 W l) (i : Nat) (v : Value) (G Y : List (List UInt8)) (hi : l[i]? = some (outA w0 v G)) (ty : TypeId) (A : Option Addr) (m c : Nat) (hY : News w0 W A m Y) (n : Nat) (hn : n = G.length + m) (hl : n * 24 ≤ 140737488355328) :
    ∃ A1 c1 w1, (Builtin.append_ #[35, 35] ty #[v, .slice A m c]).run Try.prog W = .ok (.slice A1 n c1) w1 ∧ n ≤ c1 ∧ Has w0 w1 (l.set i (outA w0 (.slice A1 n c1) (G ++ Y))) := by
  subst hn
  obtain ⟨F, ⟨⟨vs, h1, h2, h3⟩, hv⟩, hF, hgo⟩ := H.get i _ hi
  obtain ⟨hm, us, u1, u2, u3⟩ := hY
  obtain ⟨i0, hi0, hz, hsize, hby⟩ := info_parts info22
  rcases Nat.eq_zero_or_pos m with h0 | h0
  · subst h0
    have : Y = [] := List.eq_nil_of_length_eq_zero hm.symm
    subst this
    obtain ⟨B, cap, rfl, hcap⟩ : ∃ B cap, v = .slice B vs.length cap ∧ vs.length ≤ cap := by
      obtain ⟨A', c', e, hl, _⟩ := own_reads_of_le (enc := fun v : Value => v) (d := undef) (xs := vs) (by simpa [encs] using h1)
      exact ⟨A', c', e, hl⟩
    rw [Nat.add_zero, ← h2, List.append_nil]
    refine ⟨B, cap, W, ?_, hcap, ?_⟩
    · cases B <;> cases A <;> simp [Builtin.append_, run_underlying Try.underlying35, sizeOf, typeInfo, hi0, Builtin.lenOf, Builtin.firstCells, loadCells, loadCellsFrom, hcap, storeCells]
    · exact hgo _ W ⟨F, ⟨⟨vs, h1, h2, h3⟩, hv⟩, Touch.refl _ _, fun k hk => ⟨.inl hk, (hF k hk).2⟩⟩
  · obtain ⟨ad, rfl, hread⟩ := u3 h0
    have hone : ∀ u ∈ us, u.oneCell' = true := by
      intro u hu
      obtain ⟨j, hj, e⟩ := List.getElem_of_mem hu
      have hY2 : Y[j]? = some (Y[j]'(by omega)) := List.getElem?_eq_getElem _
      obtain ⟨A', c', e2, _⟩ := u2 j u _ (by rw [List.getElem?_eq_getElem hj, e]) hY2
      rw [e2]; rfl
    obtain ⟨v1, w1, hr, ho, hg, _, hat⟩ := run_append_own_at (P := Try.prog) W 0 35 ty 22 i0 _ 1 24 Try.underlying35 hi0 hz hsize hby rfl (by decide) v vs.length vs h1 ad m c us (by omega) hread hone (by simp only [maxLen]; omega) (by rw [h2]; exact hl) (Nat.zero_le _)
    obtain ⟨A1, c1, e1, hc1⟩ : ∃ A1 c1, v1 = .slice A1 (G.length + m) c1 ∧ G.length + m ≤ c1 := by
      have e : (vs ++ us).length = G.length + m := by rw [List.length_append]; omega
      have ho2 : w1.ownsRow 0 22 1 v1 (vs ++ us).length (vs ++ us) := by rw [List.length_append, u1, ← hm]; exact ho
      have e3 : encs (fun v : Value => v) (vs ++ us) = vs ++ us := by simp [encs]
      obtain ⟨A', c', e2, hl', _⟩ := own_reads_of_le (w := w1) (base := 0) (e := 22) (v := v1) (enc := fun v : Value => v) (d := undef) (xs := vs ++ us) (by rw [e3]; exact ho2)
      rw [e] at e2 hl'
      exact ⟨A', c', e2, hl'⟩
    subst e1
    refine ⟨A1, c1, w1, hr, hc1, hgo _ w1 ⟨fun k => (Value.slice A1 (G.length + m) c1).ownBlock = some k, ⟨⟨vs ++ us, by rw [List.length_append, u1, ← hm]; exact ho, by rw [List.length_append, List.length_append]; omega, ?_⟩, fun k e => e⟩, (Touch.of_grown hg).mono fun k _ e => hv k e.symm, fun k e => ⟨?_, own_lt ho k e⟩⟩⟩
    · intro j u xs hu hxs
      by_cases hj : j < vs.length
      · rw [List.getElem?_append_left hj] at hu
        rw [List.getElem?_append_left (by omega)] at hxs
        exact h3 j u xs hu hxs
      · rw [List.getElem?_append_right (by omega)] at hu
        rw [List.getElem?_append_right (by omega)] at hxs
        rw [h2] at hu
        exact u2 _ u xs hu hxs
    · rcases hat with e2 | e2
      · exact .inl (hv k (by rw [← e2]; exact e))
      · rw [e] at e2; cases e2; exact .inr (Nat.le_refl _)
theorem Has.outC (H : Has w0 W l) (i : Nat) {A : Option Addr} {m c : Nat} {G : List (List UInt8)} (hi : l[i]? = some (outA w0 (.slice A m c) G)) : klb.C W A G.length G := by
  obtain ⟨A', c', e, _, hr⟩ := OutL.reads (H.out i hi) H.old
  injection e with e1 e2 e3
  subst e1
  exact hr
end
end Go.Proofs.Ytahaoakolgomdaa
