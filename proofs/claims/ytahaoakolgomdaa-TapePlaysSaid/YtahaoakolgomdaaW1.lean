/- Words of memory for gangerref00.Own: rows of rows, each with memory of its own, written over and appended to. -/
import Derived.Test.YtahaoakolgomdaaW0
namespace Go.Proofs.Ytahaoakolgomdaa
open Go.RowKit Go.Proofs.YtahaoakolgomdaaW.PrintWords Go.Proofs.YtahaoakolgomdaaW.PrintLast Go.Proofs.YtahaoakolgomdaaW.PrintMore
set_option linter.unusedVariables false
set_option linter.unusedSimpArgs false

/-- How a byte was appended: in place, or in a new block. -/
def AppWay (W : World) (v v1 : Value) (w1 : World) (n : Nat) (zs : List UInt8) : Prop :=
  (∃ g c, v = .slice (some ⟨g, 0, none⟩) n c ∧ v1 = .slice (some ⟨g, 0, none⟩) (n + 1) c ∧ W.grownBy w1 (some g)) ∨ (W.grownBy w1 none ∧ OwnB w1 W.heap.size v1 zs)
section
variable {ops : Array Oper} {Q : Exit → Act → World → Prop} {o : Oper} {rest : List Oper} {a : Act}
theorem app_one {W : World} (base : Nat) (hgd : o.guard = none) (s x : Operand) (ho : o.op = .call { callee := .builtin .append, args := #[s, x], argTypes := #[22, 22] })
    (v : Value) (ys : List UInt8) (b : UInt8) (zs : List UInt8) (hz : ys ++ [b] = zs) (cs : Array Value) (hcs : cs.toList = [enc8 b]) (hs : a.eval s = v) (hx : a.eval x = .slice (some ⟨W.heap.size, 0, none⟩) 1 1)
    (HO : OwnB W base v ys) (hbase : base ≤ W.heap.size) (hl : ys.length + 1 ≤ 140737488355328)
    (h : ∀ v1 w1, OwnB w1 base v1 zs → AppWay W v v1 w1 ys.length zs → wpList Try.prog ops Q rest (a.put o.dst v1) w1) :
    wpList Try.prog ops Q (o :: rest) a (W.alloc (.cells cs 5)) := by
  obtain ⟨i0, hi, hi1, hsz, hby⟩ := info_parts info5
  have HO' := HO.below (below_alloc (Below.refl W.heap.size W) (.cells cs 5))
  have hcell : ∀ (j : Nat) (u : Value), [enc8 b][j]? = some u → (W.alloc (.cells cs 5)).cell? ((⟨W.heap.size, 0, none⟩ : Addr).add j) = some u := by
    intro j u hj
    rw [add_plain, cell_of_row _ _ j cs 5 (0, 0) (blk_new W _), ← Array.getElem?_toList, hcs]; exact hj
  have h1c : ∀ u ∈ [enc8 b], u.oneCell' = true := fun u hu => by rw [List.mem_singleton.1 hu]; rfl
  obtain ⟨A, c, rfl, hc, hr⟩ := HO.reads
  have hzl : zs.length = ys.length + 1 := by rw [← hz]; simp
  have henc : encs enc8 ys ++ [enc8 b] = encs enc8 zs := by rw [← hz]; simp [encs]
  by_cases hfit : ys.length + 1 ≤ c
  · rcases HO'.2 with ⟨h0, _⟩ | ⟨g, cap, cur, hv, _⟩
    · injection h0 with e1 e2 e3; omega
    · injection hv with e1 e2 e3
      subst e1 e3
      refine wpList_append_fits (W.alloc (.cells cs 5)) hgd s x 22 ho base 5 i0 1 Try.underlying22 hi hsz g ys.length c (encs enc8 ys) hs HO' ⟨W.heap.size, 0, none⟩ 1 1 [enc8 b] hx rfl hcell h1c hfit ?_
      intro w' hown hg
      rw [henc, ← hzl] at hown
      exact h _ w' (by rw [← hzl]; exact hown) (.inl ⟨g, c, rfl, rfl, World.grownBy.trans (World.grownBy_alloc W _ _) hg⟩)
  · have hcells : ∀ ad, A = some ad → ∀ (j : Nat) (u : Value), (encs enc8 ys)[j]? = some u → (W.alloc (.cells cs 5)).cell? (ad.add j) = some u := by
      intro ad e j u hj
      have h1 := Kd.reads_of_C (d := (0 : UInt8)) (Kd.C_alloc hr (.cells cs 5))
      have hjl : j < ys.length := by
        have := (List.getElem?_eq_some_iff.1 hj).1; simpa [encs] using this
      obtain ⟨ad', e', hc'⟩ := h1.2.2 (by omega)
      rw [e] at e'; cases e'
      rw [hc' j hjl]
      rw [← hj]; simp [encs, List.getElem?_eq_getElem hjl]
    have hnone : A = none → ys.length = 0 ∧ c = 0 := by
      intro e; subst e
      rcases HO.2 with ⟨h0, h1⟩ | ⟨g, cap, cur, hv, _⟩
      · injection h0 with e1 e2 e3; exact ⟨h1, e3⟩
      · injection hv with e1 e2 e3; cases e1
    refine wpList_append_grows (W.alloc (.cells cs 5)) hgd s x 22 ho 5 i0 (.int .u8 0) 1 1 Try.underlying22 hi hi1 hsz hby rfl (by decide) A ys.length c (encs enc8 ys) hs hnone (by simp [encs]) hcells ⟨W.heap.size, 0, none⟩ 1 1 [enc8 b] hx rfl hcell h1c (by omega) (by unfold maxLen; omega) (by omega) ?_
    intro v' w' hown hg
    rw [henc, ← hzl] at hown
    have hnew : OwnB w' W.heap.size v' zs := OwnB.lower (b' := W.heap.size) hown (by simp)
    exact h v' w' (hnew.lower hbase) (.inr ⟨World.grownBy.trans (World.grownBy_alloc W _ _) hg, hnew⟩)
end
theorem ApartV.symm {u u' : Value} (h : ApartV u u') : ApartV u' u := by
  unfold ApartV at *
  cases h1 : u.ownBlock with
  | none => cases h2 : u'.ownBlock with
    | none => exact .inl rfl
    | some k => exact .inr (by simp)
  | some g => rcases h with h | h
              · rw [h1] at h; cases h
              · rw [h1] at h; exact .inr (fun e => h e.symm)
theorem ApartV.row {u u' : Value} {row : Option Nat} (h : ApartV u' u) (hr : u'.ownBlock = row) : u.ownBlock = none ∨ u.ownBlock ≠ row := hr ▸ h.symm
/-- A row of rows, each apart from the others. -/
structure LS (w : World) (base : Nat) (v : Value) (vs : List Value) (yss : List (List UInt8)) : Prop where
  outer : w.ownsRow base 22 1 v vs.length vs
  len : vs.length = yss.length
  row : ∀ (i : Nat) (u : Value) (ys : List UInt8), vs[i]? = some u → yss[i]? = some ys → OwnB w base u ys
  apart : vs.Pairwise ApartV
theorem OwnL.ls {w : World} {base : Nat} {v : Value} {yss : List (List UInt8)} (h : OwnL w base v yss) : ∃ vs, LS w base v vs yss := by
  obtain ⟨vs, h1, h2, h3, h4⟩ := h; exact ⟨vs, h1, h2, h3, h4⟩
theorem pair_ne {vs : List Value} (h : vs.Pairwise ApartV) {i j : Nat} {u u' : Value} (hi : vs[i]? = some u) (hj : vs[j]? = some u') (hne : i ≠ j) : ApartV u u' := by
  rw [List.pairwise_iff_getElem] at h
  obtain ⟨h1, rfl⟩ := List.getElem?_eq_some_iff.1 hi
  obtain ⟨h2, rfl⟩ := List.getElem?_eq_some_iff.1 hj
  rcases Nat.lt_or_ge i j with hl | hl
  · exact h i j h1 h2 hl
  · exact (h j i h2 h1 (by omega)).symm
theorem row_cell {w : World} {base : Nat} {v : Value} {vs : List Value} (h : w.ownsRow base 22 1 v vs.length vs) (i : Nat) (u : Value) (hu : vs[i]? = some u) :
    ∃ g c, v = .slice (some ⟨g, 0, none⟩) vs.length c ∧ w.cell? ⟨g, i, none⟩ = some u ∧ g < w.heap.size := by
  obtain ⟨hi, _⟩ := List.getElem?_eq_some_iff.1 hu
  rcases h.2 with ⟨_, h0⟩ | ⟨g, cap, cur, hv, hg, hh, h1, h2, h3, h4⟩
  · omega
  · refine ⟨g, cap, hv, ?_, blk_lt hh⟩
    rw [blk_cell hh, ← Array.getElem?_toList, ← hu]
    rw [Nat.mul_one] at h4
    have : (cur.toList.take vs.length)[i]? = vs[i]? := by rw [h4]
    rwa [List.getElem?_take_of_lt hi] at this
theorem LS.grown {w w1 : World} {base : Nat} {v : Value} {vs : List Value} {yss : List (List UInt8)} (h : LS w base v vs yss) {row : Option Nat} (hg : w.grownBy w1 row)
    (hv : v.ownBlock = none ∨ v.ownBlock ≠ row) (hu : ∀ (i : Nat) (u : Value), vs[i]? = some u → u.ownBlock = none ∨ u.ownBlock ≠ row) : LS w1 base v vs yss :=
  ⟨own_other h.outer hg hv, h.len, fun i u ys hi hy => (h.row i u ys hi hy).grown hg (hu i u hi), h.apart⟩
theorem LS.set_ {w : World} {base : Nat} {v : Value} {vs : List Value} {yss : List (List UInt8)} (h : LS w base v vs yss) {i g m c k : Nat} {ys : List UInt8} (hu : vs[i]? = some (.slice (some ⟨g, 0, none⟩) m c)) (hy : yss[i]? = some ys) (hk : k < m) (b : UInt8) :
    LS (w.setCell ⟨g, k, none⟩ (enc8 b)) base v vs (yss.set i (ys.set k b)) := by
  have hr := h.row i _ ys hu hy
  have hg := grown_set w g k (enc8 b)
  have hv : v.ownBlock = none ∨ v.ownBlock ≠ some g := own_type_ne h.outer hr (by decide)
  refine ⟨own_other h.outer hg hv, by rw [h.len]; simp, fun j u ys' hj hy' => ?_, h.apart⟩
  by_cases e : j = i
  · subst e
    rw [hu] at hj; cases hj
    rw [List.getElem?_set_self' , hy] at hy'
    cases hy'
    exact hr.set_ hk b
  · rw [List.getElem?_set_ne (fun e' => e e'.symm)] at hy'
    exact (h.row j u ys' hj hy').grown hg ((pair_ne h.apart hu hj (fun e' => e e'.symm)).row rfl)
/-- What the second walk of Own keeps: the rows; those that were appended to. -/
structure L2 (mk_ : Nat → List UInt8) (w : World) (base : Nat) (v : Value) (vs : List Value) (yss : List (List UInt8)) (lv : Value) (us : List Value) (i : Nat) : Prop where
  ls : LS w base v vs yss
  outer2 : w.ownsRow base 22 1 lv us.length us
  ulen : us.length = i
  ne : ApartV lv v
  urow : ∀ (j : Nat) (u : Value) (ys : List UInt8), us[j]? = some u → yss[j]? = some ys → OwnB w base u (ys ++ mk_ j)
  uapart : ∀ (j : Nat) (u : Value) (j' : Nat) (u' : Value), us[j]? = some u → vs[j']? = some u' → i ≤ j' → ApartV u u'
structure L3 (mk_ : Nat → List UInt8) (w : World) (base : Nat) (v : Value) (vs : List Value) (yss : List (List UInt8)) (lv : Value) (us : List Value) (i : Nat) (x : Value) (ys : List UInt8) (k : Nat) : Prop where
  l2 : L2 mk_ w base v vs yss lv us i
  xrow : OwnB w base x (ys ++ (mk_ i).take k)
  xus : ∀ (j : Nat) (u : Value), us[j]? = some u → ApartV u x
  xvs : ∀ (j : Nat) (u : Value), vs[j]? = some u → j ≠ i → ApartV x u
  xi : (∃ A c n, x = .slice A n c ∧ vs[i]? = some (.slice A ys.length c)) ∨ ∀ u, vs[i]? = some u → ApartV x u
theorem L2.start {mk_ : Nat → List UInt8} {w : World} {base : Nat} {v : Value} {vs : List Value} {yss : List (List UInt8)} {lv : Value} {us : List Value} {i : Nat} (h : L2 mk_ w base v vs yss lv us i)
    {A : Option Addr} {c : Nat} {ys : List UInt8} (hu : vs[i]? = some (.slice A ys.length c)) (hy : yss[i]? = some ys) : L3 mk_ w base v vs yss lv us i (.slice A ys.length c) ys 0 :=
  ⟨h, by rw [List.take_zero, List.append_nil]; exact h.ls.row i _ ys hu hy, fun j u hj => h.uapart j u i _ hj hu (Nat.le_refl _), fun j u hj hne => pair_ne h.ls.apart hu hj (fun e => hne e.symm), .inl ⟨A, c, _, rfl, hu⟩⟩
/-- A byte more. -/
theorem L3.step {mk_ : Nat → List UInt8} {w w1 : World} {base : Nat} {v : Value} {vs : List Value} {yss : List (List UInt8)} {lv : Value} {us : List Value} {i : Nat} {x x1 : Value} {ys : List UInt8} {k : Nat}
    (h : L3 mk_ w base v vs yss lv us i x ys k) (hy : yss[i]? = some ys) (hbase : base ≤ w.heap.size) (hx1 : OwnB w1 base x1 (ys ++ (mk_ i).take (k + 1))) (hw : AppWay w x x1 w1 (ys ++ (mk_ i).take k).length (ys ++ (mk_ i).take (k + 1))) :
    L3 mk_ w1 base v vs yss lv us i x1 ys (k + 1) := by
  obtain ⟨⟨⟨h1, h2, h3, h4⟩, h5, h6, h7, h8, h9⟩, g1, g2, g3, g4⟩ := h
  rcases hw with ⟨g, c, rfl, rfl, hg⟩ | ⟨hg, hnew⟩
  · -- in place
    have tv : v.ownBlock = none ∨ v.ownBlock ≠ some g := own_type_ne h1 g1 (by decide)
    have tl : lv.ownBlock = none ∨ lv.ownBlock ≠ some g := own_type_ne h5 g1 (by decide)
    refine ⟨⟨⟨own_other h1 hg tv, h2, fun j u ys' hj hy' => ?_, h4⟩, own_other h5 hg tl, h6, h7, fun j u ys' hj hy' => (h8 j u ys' hj hy').grown hg ((g2 j u hj).symm.row rfl), h9⟩, hx1, g2, g3, ?_⟩
    · by_cases e : j = i
      · subst e
        rcases g4 with ⟨A, c', n', e1, e2⟩ | g4
        · injection e1 with e1 e3 e4
          subst e1 e4
          rw [e2] at hj; cases hj
          rw [hy] at hy'; cases hy'
          have := hx1.prefix_ (m := ys.length) (by simp; omega)
          rwa [List.take_left' rfl] at this
        · exact (h3 j u ys' hj hy').grown hg ((g4 u hj).row rfl)
      · exact (h3 j u ys' hj hy').grown hg ((g3 j u hj e).row rfl)
    · rcases g4 with ⟨A, c', n', e1, e2⟩ | g4
      · injection e1 with e1 e3 e4
        subst e1 e4
        exact .inl ⟨_, _, _, rfl, e2⟩
      · exact .inr g4
  · -- in a new block
    have no : ∀ u : Value, u.ownBlock = none ∨ u.ownBlock ≠ none := fun u => by cases u.ownBlock <;> simp
    have far : ∀ (u : Value) (b : Nat) (zs : List UInt8), OwnB w b u zs → ApartV u x1 := by
      intro u b zs ho
      cases hb : u.ownBlock with
      | none => exact .inl hb
      | some k' =>
        refine .inr (fun e => ?_)
        have l1 := ho.lt k' hb
        have l2 := hnew.base_le k' (e ▸ hb)
        omega
    refine ⟨⟨⟨own_other h1 hg (no v), h2, fun j u ys' hj hy' => (h3 j u ys' hj hy').grown hg (no u), h4⟩, own_other h5 hg (no lv), h6, h7, fun j u ys' hj hy' => (h8 j u ys' hj hy').grown hg (no u), h9⟩, hx1, ?_, ?_, ?_⟩
    · intro j u hj
      have hjl : j < us.length := (List.getElem?_eq_some_iff.1 hj).1
      have hil : i < yss.length := (List.getElem?_eq_some_iff.1 hy).1
      exact far u base _ (h8 j u (yss[j]'(by omega)) hj (List.getElem?_eq_getElem _))
    · intro j u hj _
      have hjl : j < vs.length := (List.getElem?_eq_some_iff.1 hj).1
      exact (far u base _ (h3 j u (yss[j]'(by omega)) hj (List.getElem?_eq_getElem _))).symm
    · refine .inr (fun u hu => (far u base _ (h3 i u ys hu hy)).symm)
/-- The row is handed to those that were appended to. -/
theorem L3.next {mk_ : Nat → List UInt8} {w w1 : World} {base : Nat} {v : Value} {vs : List Value} {yss : List (List UInt8)} {lv lv1 : Value} {us : List Value} {i : Nat} {x : Value} {ys : List UInt8} {k : Nat}
    (h : L3 mk_ w base v vs yss lv us i x ys k) (hy : yss[i]? = some ys) (hk : (mk_ i).take k = mk_ i) (h1 : w1.ownsRow base 22 1 lv1 (us ++ [x]).length (us ++ [x])) (hg : w.grownBy w1 lv.ownBlock)
    (hat : lv1.ownBlock = lv.ownBlock ∨ ∃ b, lv1.ownBlock = some b ∧ w.heap.size ≤ b) : L2 mk_ w1 base v vs yss lv1 (us ++ [x]) (i + 1) := by
  obtain ⟨⟨⟨a1, a2, a3, a4⟩, a5, a6, a7, a8, a9⟩, g1, g2, g3, g4⟩ := h
  have ne5 : ∀ (u : Value) (b : Nat) (zs : List UInt8), OwnB w b u zs → u.ownBlock = none ∨ u.ownBlock ≠ lv.ownBlock := fun u b zs ho => own_type_ne ho a5 (by decide)
  refine ⟨⟨own_other a1 hg a7.symm, a2, fun j u ys' hj hy' => (a3 j u ys' hj hy').grown hg (ne5 u _ _ (a3 j u ys' hj hy')), a4⟩, h1, by simp [a6], ?_, ?_, ?_⟩
  · rcases hat with e | ⟨b, e, hb⟩
    · unfold ApartV; rw [e]; exact a7
    · refine .inr (fun e2 => ?_)
      have := own_lt a1 b (e2 ▸ e)
      omega
  · intro j u ys' hj hy'
    by_cases hjl : j < us.length
    · rw [List.getElem?_append_left hjl] at hj
      exact (a8 j u ys' hj hy').grown hg (ne5 u _ _ (a8 j u ys' hj hy'))
    · have hj1 : j < (us ++ [x]).length := (List.getElem?_eq_some_iff.1 hj).1
      have : j = us.length := by simp at hj1; omega
      subst this
      rw [List.getElem?_append_right (Nat.le_refl _)] at hj
      simp at hj; subst hj
      rw [a6] at hy' ⊢
      rw [hy] at hy'; cases hy'
      rw [hk] at g1
      exact g1.grown hg (ne5 x _ _ g1)
  · intro j u j' u' hj hj' hle
    by_cases hjl : j < us.length
    · rw [List.getElem?_append_left hjl] at hj
      exact a9 j u j' u' hj hj' (by omega)
    · have hj1 : j < (us ++ [x]).length := (List.getElem?_eq_some_iff.1 hj).1
      have : j = us.length := by simp at hj1; omega
      subst this
      rw [List.getElem?_append_right (Nat.le_refl _)] at hj
      simp at hj; subst hj
      exact g3 j' u' hj' (by omega)
end Go.Proofs.Ytahaoakolgomdaa
