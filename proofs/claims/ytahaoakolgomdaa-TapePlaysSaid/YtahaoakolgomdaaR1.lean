/- Opening the rows' arguments: truths, rows, acts. -/
import Derived.Test.YtahaoakolgomdaaR0
import Derived.Test.YtahaoakolgomdaaW5
import Derived.Deep.Strs
import Derived.Lib.SmallJoins
namespace Go.Proofs.Ytahaoakolgomdaa
open Go.ChangeShapes Go.WideShapes Go.ChangeAt Go.RowKit Go.Deep
open Go.ChangeMaps (open_string shut_string)
open Go.Proofs.YtahaoakolgomdaaW.PrintWords
set_option linter.unusedVariables false
set_option linter.unusedSimpArgs false
section
variable {H : Type} {enc : TypeId × Value → H} {w : World} {base : Nat} {held : Bool} {fuel : Nat} {x : DataW H × List MemPlace}
theorem kb_of_trod {cs : List Value} (h : DataW.trod enc Try.prog w base (fun _ => true) held fuel 22 cs = some x) : ∃ A c xs, cs = [.slice A xs.length c] ∧ xs.length ≤ c ∧ kb.C w A xs.length xs := by
  rcases open_ints Try.underlying22 Try.underlying5 (by kernel_rfl) h with ⟨hcs, _⟩ | ⟨a, len, cap, zs, hcs, _, hl, hm, hz, _, hcell, hwz⟩
  · exact ⟨none, 0, [], hcs, Nat.le_refl _, Kd.C_nil _ _⟩
  · obtain ⟨xs, rfl, h1, h2⟩ := kb_of_row (w := w) (a := some a) (len := len) (cap := cap) (zs := zs) (.inr ⟨a, rfl, hl, hm, by simpa using hz, hcell, hwz⟩)
    exact ⟨some a, cap, xs, hcs, h2, h1⟩
theorem klb_of_trod {cs : List Value} (h : DataW.trod enc Try.prog w 0 (fun _ => true) held fuel 35 cs = some x) : ∃ A c xss, cs = [.slice A xss.length c] ∧ xss.length ≤ c ∧ klb.C w A xss.length xss := by
  rcases Go.Deep.open_int_rows Try.underlying35 Try.underlying22 Try.underlying5 (by kernel_rfl) (by kernel_rfl) h with ⟨hcs, _⟩ | ⟨a, len, cap, A, L, C, Z, hcs, _, hl, hm, _, hrow⟩
  · exact ⟨none, 0, [], hcs, Nat.le_refl _, Kd.C_nil _ _⟩
  · obtain ⟨l, rfl, hc⟩ := klb_of_rows hl hm hrow
    exact ⟨some a, cap, l, hcs, hl, hc⟩
theorem kt_of_trod {a : Option Addr} {len cap : Nat} (h : DataW.trod enc Try.prog w base (fun _ => true) held fuel 67 [.slice a len cap] = some x) : ∃ bs : List Bool, len = bs.length ∧ kt.C w a bs.length bs ∧ bs.length ≤ cap := by
  rcases open_slice1 Try.underlying67 (by kernel_rfl) h with ⟨hcs, _⟩ | ⟨a', len', cap', m, n, V, D, Pl, hcs, hb, hl, hm, hmm, _, hx⟩
  · simp at hcs
    obtain ⟨rfl, rfl, rfl⟩ := hcs
    exact ⟨[], rfl, Kd.C_nil _ _, Nat.le_refl _⟩
  · simp at hcs
    obtain ⟨rfl, rfl, rfl⟩ := hcs
    simp at hmm
    subst hmm
    have each : ∀ i, ∃ b : Bool, i < m → V i = .bool b := fun i => by
      by_cases hi : i < m
      · obtain ⟨b, e, _⟩ := DataW.trod_bool Try.underlying4 (hx i hi).2
        exact ⟨b, fun _ => by simpa using e⟩
      · exact ⟨false, fun hh => absurd hh hi⟩
    refine ⟨(List.range len).map fun i => (each i).choose, by simp, ?_, by simpa using hl⟩
    rw [List.length_map, List.length_range]
    refine Kd.C_of_reads (d := false) (h1 := fun _ => rfl) ⟨by simp, by unfold maxLen at hm; omega, fun hp => ⟨a', rfl, fun j hj => ?_⟩⟩
    rw [(hx j (by omega)).1, (each j).choose_spec (by omega)]
    simp [hj]
theorem three : ∀ (cs : List Value), cs.length = 3 → ∃ a b c, cs = [a, b, c]
  | [a, b, c], _ => ⟨a, b, c, rfl⟩
theorem four : ∀ (cs : List Value), cs.length = 4 → ∃ a b c d, cs = [a, b, c, d]
  | [a, b, c, d], _ => ⟨a, b, c, d, rfl⟩
theorem wf_i64 (x : Int) (h : (Lit.int .i64 x).wf = true) : i64 x := by
  simpa [i64, Lit.wf, IntKind.min, IntKind.max, IntKind.bits, IntKind.signed] using h
theorem add_zero' (a : Addr) : a.add 0 = a := by simp [Addr.add]
theorem act8s_of_trod {a : Option Addr} {len cap : Nat} (h : DataW.trod enc Try.prog w base (fun _ => true) held fuel 55 [.slice a len cap] = some x) : ∃ l : List Act8, len = l.length ∧ Act8s w a l ∧ l.length ≤ cap := by
  have e3 : Try.prog.cellsOf 3 = 1 := by kernel_rfl
  have e22 : Try.prog.cellsOf 22 = 1 := by kernel_rfl
  have e62 : Try.prog.cellsOf 62 = 3 := by kernel_rfl
  rcases open_slice Try.underlying55 h with ⟨hcs, _⟩ | ⟨a', len', cap', m, n, D, Pl, hcs, hb, hl, hm, hmm, _, hx⟩
  · simp at hcs
    obtain ⟨rfl, rfl, rfl⟩ := hcs
    exact ⟨[], rfl, ⟨by simp, fun i x hi => by simp at hi⟩, Nat.le_refl _⟩
  · simp at hcs
    obtain ⟨rfl, rfl, rfl⟩ := hcs
    simp at hmm
    subst hmm
    have each : ∀ i, ∃ y : Act8, i < m → Act8At w (a'.add (i * 3)) y := fun i => by
      by_cases hi : i < m
      · obtain ⟨cs', h1, h2⟩ := hx i hi
        rw [e62] at h1
        obtain ⟨_, hlen, hcell⟩ := World.cells?_some h1
        obtain ⟨y0, y1, y2, n', _, _, g0, g1, g2⟩ := trod_struct3 Try.underlying62 h2
        obtain ⟨v0, v1, v2, rfl⟩ := three cs' hlen
        simp [e3, e22] at g0 g1 g2
        obtain ⟨k, q0, _, hk⟩ := DataW.trod_int Try.underlying3 g0
        obtain ⟨B, c, xs, q1, hc1, hr1⟩ := kb_of_trod g1
        obtain ⟨nn, q2, _, hn⟩ := DataW.trod_int Try.underlying3 g2
        simp at q0 q1 q2
        have c0 := hcell 0 (by omega)
        have c1 := hcell 1 (by omega)
        have c2 := hcell 2 (by omega)
        rw [add_zero'] at c0
        simp [q0] at c0
        simp [q1] at c1
        simp [q2] at c2
        exact ⟨⟨k, xs, nn⟩, fun _ => ⟨⟨B, c, c1, hc1, hr1⟩, c0, c2, wf_i64 k hk, wf_i64 nn hn⟩⟩
      · exact ⟨default, fun hh => absurd hh hi⟩
    refine ⟨(List.range len).map fun i => (each i).choose, by simp, ⟨by simp; unfold maxLen at hm; omega, fun i y hi => ⟨a', rfl, ?_⟩⟩, by simpa using hl⟩
    have hil : i < len := by
      have := (List.getElem?_eq_some_iff.1 hi).1; simpa using this
    rw [List.getElem?_map, List.getElem?_range hil] at hi
    simp only [Option.map_some, Option.some.injEq] at hi
    rw [← hi]
    exact (each i).choose_spec (by omega)
theorem weights_mem_all {P : Program} {e : TypeId} : ∀ {ds : List (DataW H)} {d : DataW H}, d ∈ ds → ∀ n ∈ d.weights P e, n ∈ DataW.weightsAll P e ds
  | d0 :: ds, d, hd, n, hn => by
    simp only [DataW.weightsAll, List.mem_append]
    rcases List.mem_cons.1 hd with rfl | hd
    · exact .inl hn
    · exact .inr (weights_mem_all hd n hn)
theorem slice_reach {t e : TypeId} {a : Option Addr} {len cap : Nat} (ht : Try.prog.underlying t = some (.slice e)) (hb : Nat.ble 1 (Try.prog.bytesOf e) = true) (h : DataW.trod enc Try.prog w base (fun _ => true) held fuel t [.slice a len cap] = some x) (hs : ∀ n ∈ x.1.weights Try.prog t, n ≤ 140737488351232) : len ≤ 140737488351232 := by
  rcases open_slice ht h with ⟨hcs, _⟩ | ⟨a', len', cap', m, n, D, Pl, hcs, hb', hl, hm, hmm, hx, _⟩
  · simp at hcs; omega
  · simp at hcs
    obtain ⟨rfl, rfl, rfl⟩ := hcs
    have hb2 : 1 ≤ Try.prog.bytesOf e := Nat.le_of_ble_eq_true hb
    have h1 := hs ((len + (m - len)) * Try.prog.bytesOf e) (by rw [hx]; simp [DataW.weights, ht])
    have h2 := Nat.mul_le_mul_left (len + (m - len)) hb2
    omega
theorem act9s_of_trod {a : Option Addr} {len cap : Nat} (h : DataW.trod enc Try.prog w 0 (fun _ => true) held fuel 89 [.slice a len cap] = some x) (hs : ∀ n ∈ x.1.weights Try.prog 89, n ≤ 140737488351232) : ∃ l : List Act9, len = l.length ∧ Act9s w a l ∧ l.length ≤ cap ∧ Reach9 l := by
  have e3 : Try.prog.cellsOf 3 = 1 := by kernel_rfl
  have e22 : Try.prog.cellsOf 22 = 1 := by kernel_rfl
  have e35 : Try.prog.cellsOf 35 = 1 := by kernel_rfl
  have e93 : Try.prog.cellsOf 93 = 4 := by kernel_rfl
  rcases open_slice Try.underlying89 h with ⟨hcs, _⟩ | ⟨a', len', cap', m, n, D, Pl, hcs, hb, hl, hm, hmm, hxe, hx⟩
  · simp at hcs
    obtain ⟨rfl, rfl, rfl⟩ := hcs
    exact ⟨[], rfl, ⟨by simp, fun i x hi => by simp at hi⟩, Nat.le_refl _, fun i x hi => by simp at hi⟩
  · simp at hcs
    obtain ⟨rfl, rfl, rfl⟩ := hcs
    simp at hmm
    subst hmm
    have each : ∀ i, ∃ y : Act9, i < len → Act9At w (a'.add (i * 4)) y ∧ y.r.length ≤ 140737488351232 ∧ y.l.length ≤ 140737488351232 := fun i => by
      by_cases hi : i < len
      · obtain ⟨cs', h1, h2⟩ := hx i (by omega)
        have hDi : ∀ n ∈ (D i).weights Try.prog 93, n ≤ 140737488351232 := fun n hn => hs n (by
          rw [hxe]
          simp only [DataW.weights, Try.underlying89]
          exact List.mem_cons_of_mem _ (List.mem_append_left _ (weights_mem_all (List.mem_map.2 ⟨i, List.mem_range.2 hi, rfl⟩) n hn)))
        rw [e93] at h1
        obtain ⟨_, hlen, hcell⟩ := World.cells?_some h1
        obtain ⟨y0, y1, y2, y3, n', hag, _, g0, g1, g2, g3⟩ := Go.Joins.trod_struct4 Try.underlying93 h2
        obtain ⟨v0, v1, v2, v3, rfl⟩ := four cs' hlen
        simp [e3, e22, e35] at g0 g1 g2 g3
        obtain ⟨k, q0, _, hk⟩ := DataW.trod_int Try.underlying3 g0
        obtain ⟨B, c, xs, q1, hc1, hr1⟩ := kb_of_trod g1
        obtain ⟨B', c', xss, q2, hc2, hr2⟩ := klb_of_trod g2
        have hag1 : D i = .agg [y0.1, y1.1, y2.1, y3.1] := congrArg Prod.fst hag
        rw [hag1] at hDi
        simp only [DataW.weights, Try.underlying93] at hDi
        have b1 : xs.length ≤ 140737488351232 := by
          rw [q1] at g1
          exact slice_reach Try.underlying22 (by kernel_rfl) g1 fun n hn => hDi n (DataW.weights_mem_each (j := 1) rfl rfl n hn)
        have b2 : xss.length ≤ 140737488351232 := by
          rw [q2] at g2
          exact slice_reach Try.underlying35 (by kernel_rfl) g2 fun n hn => hDi n (DataW.weights_mem_each (j := 2) rfl rfl n hn)
        obtain ⟨nn, q3, _, hn⟩ := DataW.trod_int Try.underlying3 g3
        simp at q0 q1 q2 q3
        have c0 := hcell 0 (by omega)
        have c1 := hcell 1 (by omega)
        have c2 := hcell 2 (by omega)
        have c3 := hcell 3 (by omega)
        rw [add_zero'] at c0
        simp [q0] at c0
        simp [q1] at c1
        simp [q2] at c2
        simp [q3] at c3
        exact ⟨⟨k, xs, xss, nn⟩, fun _ => ⟨⟨⟨B, c, c1, hc1, hr1⟩, ⟨B', c', c2, hc2, hr2⟩, c0, c3, wf_i64 k hk, wf_i64 nn hn⟩, b1, b2⟩⟩
      · exact ⟨default, fun hh => absurd hh hi⟩
    refine ⟨(List.range len).map fun i => (each i).choose, by simp, ⟨by simp; unfold maxLen at hm; omega, fun i y hi => ⟨a', rfl, ?_⟩⟩, by simpa using hl, fun i y hi => ?_⟩
    all_goals
      have hil : i < len := by
        have := (List.getElem?_eq_some_iff.1 hi).1; simpa using this
      rw [List.getElem?_map, List.getElem?_range hil] at hi
      simp only [Option.map_some, Option.some.injEq] at hi
      rw [← hi]
      have := (each i).choose_spec hil
    · exact this.1
    · exact this.2
end
end Go.Proofs.Ytahaoakolgomdaa
