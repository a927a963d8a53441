/- Words of memory: a row of bytes of the call's own whose room may have been cut (three-index slices). -/
import Derived.Test.YtahaoakolgomdaaW0
import Derived.Deep.DeepAppendWide
namespace Go.Proofs.Ytahaoakolgomdaa
open Go.RowKit Go.Proofs.YtahaoakolgomdaaW.PrintWords Go.Proofs.YtahaoakolgomdaaW.PrintLast Go.Proofs.YtahaoakolgomdaaW.PrintMore
set_option linter.unusedVariables false
set_option linter.unusedSimpArgs false

/-- Bytes of the call's own; the slice's room may be less than the block's. -/
def RowB (w : World) (base : Nat) (v : Value) (xs : List UInt8) : Prop :=
  ∃ A c, v = .slice A xs.length c ∧ xs.length ≤ c ∧ c ≤ maxLen ∧
    ((A = none ∧ xs = [] ∧ c = 0) ∨ ∃ g cur, A = some ⟨g, 0, none⟩ ∧ base ≤ g ∧ w.heap[g]? = some (.cells cur 5 (0, 0)) ∧ c ≤ cur.size ∧ cur.toList.take xs.length = encs enc8 xs)
section
variable {w w1 : World} {base : Nat} {v : Value} {xs : List UInt8}
theorem RowB.of_own (h : OwnB w base v xs) : RowB w base v xs := by
  rcases h.2 with ⟨hv, h0⟩ | ⟨g, cap, cur, hv, hg, hh, h1, h2, h3, h4⟩
  · have : xs = [] := List.eq_nil_of_length_eq_zero h0
    subst this
    exact ⟨none, 0, hv, Nat.le_refl _, Nat.zero_le _, .inl ⟨rfl, rfl, rfl⟩⟩
  · rw [Nat.mul_one] at h3 h4
    exact ⟨_, cap, hv, h1, h2, .inr ⟨g, cur, rfl, hg, hh, by omega, h4⟩⟩
theorem RowB.nil (w : World) (base : Nat) : RowB w base (.slice none 0 0) [] := .of_own (OwnB.nil w base)
theorem RowB.reads (h : RowB w base v xs) : ∃ A c, v = .slice A xs.length c ∧ xs.length ≤ c ∧ c ≤ maxLen ∧ kb.C w A xs.length xs := by
  obtain ⟨A, c, hv, h1, h2, h3⟩ := h
  refine ⟨A, c, hv, h1, h2, ?_⟩
  rcases h3 with ⟨rfl, rfl, rfl⟩ | ⟨g, cur, rfl, _, hh, _, ht⟩
  · exact Kd.C_nil _ _
  · exact kb_block hh ht (by simp only [maxLen] at h2; omega)
theorem RowB.at_ {n c : Nat} {A : Option Addr} (h : RowB w base (.slice A n c) xs) : n = xs.length ∧ n ≤ c ∧ c ≤ maxLen ∧ kb.C w A xs.length xs := by
  obtain ⟨A', c', hv, h1, h2, h3⟩ := h.reads
  injection hv with e1 e2 e3
  subst e1 e2 e3
  exact ⟨rfl, h1, h2, h3⟩
theorem RowB.lt (h : RowB w base v xs) (k : Nat) (hk : v.ownBlock = some k) : base ≤ k ∧ k < w.heap.size ∧ ∃ cur, w.heap[k]? = some (.cells cur 5 (0, 0)) := by
  obtain ⟨A, c, rfl, h1, h2, h3⟩ := h
  rcases h3 with ⟨rfl, rfl, rfl⟩ | ⟨g, cur, rfl, hb, hh, _, ht⟩
  · simp [Value.ownBlock] at hk
  · simp [Value.ownBlock] at hk
    subst hk
    exact ⟨hb, (Array.getElem?_eq_some_iff.1 hh).1, cur, hh⟩
theorem RowB.keep (h : RowB w base v xs) (hk : ∀ k, v.ownBlock = some k → w1.heap[k]? = w.heap[k]?) : RowB w1 base v xs := by
  obtain ⟨A, c, rfl, h1, h2, h3⟩ := h
  refine ⟨A, c, rfl, h1, h2, ?_⟩
  rcases h3 with h3 | ⟨g, cur, rfl, hb, hh, hc, ht⟩
  · exact .inl h3
  · exact .inr ⟨g, cur, rfl, hb, by rw [hk g rfl]; exact hh, hc, ht⟩
theorem RowB.below (h : RowB w base v xs) (hb : Below w.heap.size w w1) : RowB w1 base v xs :=
  h.keep fun k hk => hb.block k (h.lt k hk).2.1
theorem RowB.grown {row : Option Nat} (h : RowB w base v xs) (hg : w.grownBy w1 row) (hne : v.ownBlock = none ∨ v.ownBlock ≠ row) : RowB w1 base v xs :=
  h.keep fun k hk => hg.block k (h.lt k hk).2.1 (by rcases hne with e | e <;> rw [hk] at e <;> simp_all)
theorem RowB.lower {b' : Nat} (h : RowB w base v xs) (hb : b' ≤ base) : RowB w b' v xs := by
  obtain ⟨A, c, rfl, h1, h2, h3⟩ := h
  refine ⟨A, c, rfl, h1, h2, ?_⟩
  rcases h3 with h3 | ⟨g, cur, rfl, hb', hh, hc, ht⟩
  · exact .inl h3
  · exact .inr ⟨g, cur, rfl, by omega, hh, hc, ht⟩
theorem RowB.cut {n c m : Nat} {A : Option Addr} (h : RowB w base (.slice A n c) xs) (hm : m ≤ n) (c' : Nat) (h1 : m ≤ c') (h2 : c' ≤ c) : RowB w base (.slice A m c') (xs.take m) := by
  obtain ⟨A', c0, hv, e1, e2, e3⟩ := h
  injection hv with q1 q2 q3
  subst q1 q2 q3
  refine ⟨A, c', by rw [List.length_take, Nat.min_eq_left hm], by rw [List.length_take]; omega, by omega, ?_⟩
  rcases e3 with ⟨rfl, rfl, rfl⟩ | ⟨g, cur, rfl, hb, hh, hc, ht⟩
  · exact .inl ⟨rfl, by simp, by omega⟩
  · refine .inr ⟨g, cur, rfl, hb, hh, by omega, ?_⟩
    have : cur.toList.take m = (cur.toList.take xs.length).take m := by rw [List.take_take, Nat.min_eq_left hm]
    rw [List.length_take, Nat.min_eq_left hm, this, ht]; simp [encs]
/-- Bytes that are read, as cells. -/
theorem kb_news {A : Option Addr} {m : Nat} (h : kb.C w A m xs) (hp : 0 < m) : ∃ ad, A = some ad ∧ (encs enc8 xs).length = m * 1 ∧ (∀ j u, (encs enc8 xs)[j]? = some u → w.cell? (ad.add j) = some u) ∧ ∀ u ∈ encs enc8 xs, u.oneCell' = true := by
  obtain ⟨ad, rfl, _⟩ := kb_get h 0 hp
  have hl : xs.length = m := h.1
  refine ⟨ad, rfl, by rw [encs8_len, hl, Nat.mul_one], fun j u hu => ?_, fun u hu => ?_⟩
  · have hj : j < m := by
      have := (List.getElem?_eq_some_iff.1 hu).1
      rw [encs8_len] at this; omega
    obtain ⟨_, q, hc⟩ := kb_get h j hj
    cases q
    have e := encs_get (enc := enc8) (d := (0 : UInt8)) xs j (by omega)
    rw [hu] at e
    injection e with e
    rw [e]; exact hc
  · simp only [encs, List.mem_map] at hu
    obtain ⟨b, _, rfl⟩ := hu
    rfl
theorem run_app_row (W : World) (base : Nat) (ty : TypeId) (v : Value) (xs ys : List UInt8) (A : Option Addr) (m c : Nat) (HO : RowB W base v xs) (HR : kb.C W A m ys) (hmc : m ≤ c) (hbase : base ≤ W.heap.size) (hl : xs.length + m ≤ 140737488355328) :
    ∃ v1 w1, (Builtin.append_ #[22, 22] ty #[v, .slice A m c]).run Try.prog W = .ok v1 w1 ∧ RowB w1 base v1 (xs ++ ys) ∧ W.grownBy w1 v.ownBlock ∧ (v1.ownBlock = v.ownBlock ∨ ∃ b, v1.ownBlock = some b ∧ W.heap.size ≤ b) := by
  obtain ⟨i, hi, hz, hsize, hby⟩ := info_parts info5
  have hyl : ys.length = m := HR.1
  obtain ⟨B, cap, rfl, h1, h2, h3⟩ := HO
  rcases Nat.eq_zero_or_pos m with hm | hm
  · subst hm
    have : ys = [] := List.eq_nil_of_length_eq_zero hyl
    subst this
    refine ⟨_, W, ?_, by rw [List.append_nil]; exact ⟨B, cap, rfl, h1, h2, h3⟩, ⟨rfl, rfl, rfl, Nat.le_refl _, fun _ _ _ => rfl⟩, .inl rfl⟩
    cases B <;> cases A <;> simp [Builtin.append_, run_underlying Try.underlying22, sizeOf, typeInfo, hi, Builtin.lenOf, Builtin.firstCells, loadCells, loadCellsFrom, h1, storeCells]
  · obtain ⟨ad, rfl, hl1, hn1, hc1⟩ := kb_news HR hm
    have hgrown : ∀ (old : Nat) (zz : Array Value), xs.length + m ≤ grownCap W (xs.length + m) old 5 → zz.size = grownCap W (xs.length + m) old 5 - (xs.length + m) →
        RowB (W.drew.alloc (.cells ((encs enc8 xs).toArray ++ (encs enc8 ys).toArray ++ zz) 5)) base (.slice (some ⟨W.heap.size, 0, none⟩) (xs.length + m) (grownCap W (xs.length + m) old 5)) (xs ++ ys) := by
      intro old zz hge hzz
      refine ⟨some ⟨W.heap.size, 0, none⟩, _, by rw [List.length_append, hyl], by rw [List.length_append, hyl]; exact hge, grownCap_le_maxLen W _ old 5 (by simp only [maxLen]; omega), .inr ⟨W.heap.size, _, rfl, hbase, heap_alloc_new W.drew _, ?_, ?_⟩⟩
      · simp only [Array.size_append, List.size_toArray, encs8_len, hzz]; omega
      · have e : ((encs enc8 xs).toArray ++ (encs enc8 ys).toArray ++ zz).toList = encs enc8 (xs ++ ys) ++ zz.toList := by simp [encs]
        rw [e]
        exact List.take_left' (by rw [encs8_len])
    have hgb : ∀ (o : Obj) (row : Option Nat), W.grownBy (W.drew.alloc o) row := fun o row => ⟨rfl, rfl, rfl, by simp, fun k hk _ => heap_alloc_old W.drew _ hk⟩
    have hz1 : (Value.int .u8 0).cells.size = 1 := rfl
    rcases h3 with ⟨rfl, rfl, rfl⟩ | ⟨g, cur, rfl, hb, hh, hcc, ht⟩
    · have hr := run_append_nil (P := Try.prog) W 22 ty 5 i _ Try.underlying22 hi hz ad m c _ (by rw [hl1, hsize]) hn1 hm (by omega) (by rw [hby]; omega)
      have hge := grownCap_ge W m 0 5
      have hg := hgrown 0 (Builtin.zeroCells (Value.int .u8 0).cells (grownCap W m 0 5 - m)) (by simpa using hge) (by rw [size_zeroCells, hz1]; simp)
      simp [encs] at hg
      exact ⟨_, _, hr, by simpa [encs] using hg, hgb _ _, .inr ⟨W.heap.size, rfl, Nat.le_refl _⟩⟩
    · by_cases hroom : xs.length + m ≤ cap
      · have hr := run_append_room (P := Try.prog) W 22 ty 5 i Try.underlying22 hi g xs.length cap cur hh ad m c _ (by rw [hl1, hsize]) hn1 hc1 hroom (by rw [hsize, encs8_len, hyl]; omega)
        refine ⟨_, _, hr, ⟨_, cap, by rw [List.length_append, hyl], by rw [List.length_append, hyl]; exact hroom, h2, .inr ⟨g, _, rfl, hb, setRow_heap W g cur _ 5 _ hh, ?_, ?_⟩⟩, ⟨rfl, rfl, rfl, by simp, fun k _ hk => setRow_other W g k _ (fun e => hk (by simp [Value.ownBlock, e]))⟩, .inl rfl⟩
        · rw [hsize, encs8_len, hyl]
          simp only [List.size_toArray, List.length_append, List.length_take, List.length_drop, Array.length_toList, encs8_len, hyl]
          omega
        · rw [hsize, Nat.mul_one, ht]
          have e : encs enc8 xs ++ encs enc8 ys = encs enc8 (xs ++ ys) := by simp [encs]
          simp only [e]
          exact List.take_left' (by rw [encs8_len])
      · have holds : ∀ j u, (encs enc8 xs)[j]? = some u → W.cell? ((⟨g, 0, none⟩ : Addr).add j) = some u := by
          intro j u hu
          rw [add_plain, cell_of_row W g j cur 5 (0, 0) hh]
          rw [← ht, List.getElem?_take] at hu
          split at hu
          · simpa using hu
          · cases hu
        have hr := run_append_grow (P := Try.prog) W 22 ty 5 i _ Try.underlying22 hi hz ⟨g, 0, none⟩ xs.length cap (encs enc8 xs) (by rw [encs8_len, hsize, Nat.mul_one]) holds ad m c _ (by rw [hl1, hsize]) hn1 (by omega) (by omega)
          (by rw [hby]; exact growslice_fits_wide (by omega) (by omega))
        have hge := grownCap_ge W (xs.length + m) cap 5
        exact ⟨_, _, hr, hgrown cap _ hge (by rw [size_zeroCells, hz1]; simp), hgb _ _, .inr ⟨W.heap.size, rfl, Nat.le_refl _⟩⟩
end
section
variable {ops : Array Oper} {Q : Exit → Act → World → Prop} {o : Oper} {rest : List Oper} {a : Act}
/-- Bytes are appended to such a row. -/
theorem app_row {W : World} (base : Nat) (hgd : o.guard = none) (s x : Operand) (ho : o.op = .call { callee := .builtin .append, args := #[s, x], argTypes := #[22, 22] })
    (v : Value) (xs ys zs : List UInt8) (hz : xs ++ ys = zs) (A : Option Addr) (m c : Nat) (hs : a.eval s = v) (hx : a.eval x = .slice A m c)
    (HO : RowB W base v xs) (HR : kb.C W A m ys) (hmc : m ≤ c) (hbase : base ≤ W.heap.size) (hl : xs.length + m ≤ 140737488355328)
    (h : ∀ v1 w1, RowB w1 base v1 zs → W.grownBy w1 v.ownBlock → (v1.ownBlock = v.ownBlock ∨ ∃ b, v1.ownBlock = some b ∧ W.heap.size ≤ b) → wpList Try.prog ops Q rest (a.put o.dst v1) w1) :
    wpList Try.prog ops Q (o :: rest) a W := by
  subst hz
  refine wpList_plain hgd fun _ hK => ?_
  obtain ⟨v1, w1, hr, h2, h3, h4⟩ := run_app_row W base o.type v xs ys A m c HO HR hmc hbase hl
  unfold Oper.wp execOp
  simp only [ho, resolve, invoke, builtin, Sem.run_bind, Sem.run_pure, Result.andThen_ok, List.map_toArray, List.map_cons, List.map_nil, hs, hx, hr]
  exact hK _ _ (h v1 w1 h2 h3 h4)
end
end Go.Proofs.Ytahaoakolgomdaa
