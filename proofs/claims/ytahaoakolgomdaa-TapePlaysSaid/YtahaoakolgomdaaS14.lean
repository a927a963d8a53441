/- The walk of gangerlaw17.row. -/
import Derived.Test.YtahaoakolgomdaaS12
import Derived.Test.YtahaoakolgomdaaM4
namespace Go.Proofs.Ytahaoakolgomdaa
open Go.RowKit Go.Proofs.YtahaoakolgomdaaW.PrintWords Go.Proofs.YtahaoakolgomdaaW.PrintLast Go.Proofs.YtahaoakolgomdaaW.PrintMore
set_option linter.unusedVariables false
set_option linter.unusedSimpArgs false

/-- A row of the call's own whose elements are rows of bytes that came in. -/
def OutL (w0 w : World) (base : Nat) (v : Value) (G : List (List UInt8)) : Prop :=
  ∃ vs : List Value, w.ownsRow base 22 1 v vs.length vs ∧ vs.length = G.length ∧ ∀ (i : Nat) (u : Value) (xs : List UInt8), vs[i]? = some u → G[i]? = some xs → ∃ A c, u = .slice A xs.length c ∧ xs.length ≤ c ∧ kb.C w0 A xs.length xs
theorem OutL.nil (w0 w : World) (base : Nat) : OutL w0 w base (.slice none 0 0) [] := ⟨[], own_nil _ _ _ _, rfl, fun i u xs h => by simp at h⟩
theorem OutL.below {w0 w w1 : World} {base : Nat} {v : Value} {G : List (List UInt8)} (h : OutL w0 w base v G) (hb : Below w.heap.size w w1) : OutL w0 w1 base v G := by
  obtain ⟨vs, h1, h2, h3⟩ := h
  exact ⟨vs, pw_own_below h1 hb, h2, h3⟩
theorem OutL.grown {w0 w w1 : World} {base : Nat} {v : Value} {G : List (List UInt8)} (h : OutL w0 w base v G) {row : Option Nat} (hg : w.grownBy w1 row) (hne : v.ownBlock = none ∨ v.ownBlock ≠ row) : OutL w0 w1 base v G := by
  obtain ⟨vs, h1, h2, h3⟩ := h
  exact ⟨vs, own_other h1 hg hne, h2, h3⟩
theorem OutL.reads {w0 w : World} {base : Nat} {v : Value} {xss : List (List UInt8)} (h : OutL w0 w base v xss) (hw : Below w0.heap.size w0 w) : ∃ A c, v = .slice A xss.length c ∧ xss.length ≤ c ∧ klb.C w A xss.length xss := by
  obtain ⟨vs, h1, h2, h3⟩ := h
  obtain ⟨A, c, e, hl, hr⟩ := own_reads_of_le (enc := fun v : Value => v) (d := undef) (xs := vs) (by simpa [encs] using h1)
  rw [h2] at e hl hr
  refine ⟨A, c, e, hl, rfl, hr.2.1, fun hp => ?_⟩
  obtain ⟨ad, e2, hc⟩ := hr.2.2 hp
  refine ⟨ad, e2, fun j p hj => ?_⟩
  have hj2 : j < xss.length := (List.getElem?_eq_some_iff.1 hj).1
  have hv : vs[j]? = some (vs[j]'(by omega)) := List.getElem?_eq_getElem _
  obtain ⟨A', c', e3, hl', hr'⟩ := h3 j _ p hv hj
  refine ⟨[vs[j]'(by omega)], rfl, ⟨A', c', by rw [e3], hl', Kd.C_below hr' hw⟩, fun i u hi => ?_⟩
  have hi0 : i = 0 := by
    have := (List.getElem?_eq_some_iff.1 hi).1; simpa using this
  subst hi0
  have hu : vs[j]'(by omega) = u := by simpa using hi
  have := hc j hj2
  rw [Nat.add_zero, show klb.sz = 1 from rfl, Nat.mul_one, this, ← hu]
  rw [List.getD_eq_getElem?_getD, hv]; rfl
/-- Whole numbers of the call's own. -/
def OwnI (w : World) (base : Nat) (v : Value) (xs : List Int) : Prop := w.ownsRow base 3 1 v xs.length (nums .i64 xs)
theorem info3 : (Try.prog.info? 3).map (fun i => (i.zero, i.size, i.bytes)) = some (some (.int .i64 0), 1, 8) := by kernel_rfl
/-- Where each crate ends. -/
def endsOf (G : List (List UInt8)) : List Int := (List.range G.length).map fun j => ((cat (G.take (j + 1))).length : Int)
theorem endsOf_snoc (G : List (List UInt8)) (x : List UInt8) : endsOf (G ++ [x]) = endsOf G ++ [((cat (G ++ [x])).length : Int)] := by
  unfold endsOf
  rw [List.length_append, List.length_singleton, List.range_succ, List.map_append]
  congr 1
  · apply List.map_congr_left
    intro j hj
    rw [List.take_append_of_le_length (by have := List.mem_range.1 hj; omega)]
  · simp [List.take_of_length_le]
theorem endsOf_len (G : List (List UInt8)) : (endsOf G).length = G.length := by simp [endsOf]
section
variable {ops : Array Oper} {Q : Exit → Act → World → Prop} {o : Oper} {rest : List Oper} {a : Act}
theorem app_out {w0 W : World} (base : Nat) (hgd : o.guard = none) (s x : Operand) (ho : o.op = .call { callee := .builtin .append, args := #[s, x], argTypes := #[35, 35] })
    (v : Value) (G : List (List UInt8)) (ys : List UInt8) (A : Option Addr) (c : Nat) (hs : a.eval s = v) (hx : a.eval x = .slice (some ⟨W.heap.size, 0, none⟩) 1 1)
    (HO : OutL w0 W base v G) (hy : kb.C w0 A ys.length ys) (hc : ys.length ≤ c) (hbase : base ≤ W.heap.size) (hl : (G.length + 1) * 24 ≤ 140737488355328)
    (h : ∀ v1 w1, OutL w0 w1 base v1 (G ++ [ys]) → W.grownBy w1 v.ownBlock → wpList Try.prog ops Q rest (a.put o.dst v1) w1) :
    wpList Try.prog ops Q (o :: rest) a (W.alloc (.cells #[.slice A ys.length c] 22)) := by
  obtain ⟨vs, h1, h2, h3⟩ := HO
  refine print_append (w0 := W) base hgd s x 35 22 (.slice none 0 0) 24 ho Try.underlying35 info22 rfl (by decide) v vs _ hs hx rfl h1 (Below.refl _ _) hbase (by omega) ?_
  intro v1 w1 ho1 _ hg _
  refine h v1 w1 ⟨_, ho1, by simp [h2], ?_⟩ hg
  intro i u xs hu hxs
  by_cases hi : i < vs.length
  · rw [List.getElem?_append_left hi] at hu
    rw [List.getElem?_append_left (by omega)] at hxs
    exact h3 i u xs hu hxs
  · have hi1 : i < (vs ++ [Value.slice A ys.length c]).length := (List.getElem?_eq_some_iff.1 hu).1
    have : i = vs.length := by simp at hi1; omega
    subst this
    rw [List.getElem?_append_right (Nat.le_refl _)] at hu
    rw [List.getElem?_append_right (by omega)] at hxs
    simp at hu; simp [h2] at hxs
    subst hu; subst hxs
    exact ⟨A, c, rfl, hc, hy⟩
theorem app_num {W : World} (base : Nat) (hgd : o.guard = none) (s x : Operand) (ho : o.op = .call { callee := .builtin .append, args := #[s, x], argTypes := #[47, 47] })
    (v : Value) (E : List Int) (n : Int) (hs : a.eval s = v) (hx : a.eval x = .slice (some ⟨W.heap.size, 0, none⟩) 1 1)
    (HO : OwnI W base v E) (hbase : base ≤ W.heap.size) (hl : (E.length + 1) * 8 ≤ 140737488355328)
    (h : ∀ v1 w1, OwnI w1 base v1 (E ++ [n]) → W.grownBy w1 v.ownBlock → wpList Try.prog ops Q rest (a.put o.dst v1) w1) :
    wpList Try.prog ops Q (o :: rest) a (W.alloc (.cells #[.int .i64 n] 3)) := by
  have hlen : (nums .i64 E).length = E.length := nums_length _ _
  refine print_append (w0 := W) base hgd s x 47 3 (.int .i64 0) 8 ho Try.underlying47 info3 rfl (by decide) v (nums .i64 E) _ hs hx rfl (by rw [hlen]; exact HO) (Below.refl _ _) hbase (by rw [hlen]; exact hl) ?_
  intro v1 w1 ho1 _ hg _
  refine h v1 w1 ?_ hg
  have e : nums .i64 E ++ [.int .i64 n] = nums .i64 (E ++ [n]) := by rw [nums_append]; rfl
  rw [e, nums_length] at ho1
  exact ho1
end
theorem put_good (xs : List UInt8) (A : Option Addr) (c : Nat) (w : World) (h : kb.C w A xs.length xs) (hn : xs.length ≤ 8000) :
    Calls Try.prog 22 #[.slice A xs.length c] w fun e w' => ∃ A1 c1, e = .returned (.tuple #[.slice A1 (xs.length + 7) c1, .int .i64 0]) ∧ xs.length + 7 ≤ c1 ∧ kb.C w' A1 (xs.length + 7) (putS xs) ∧ OwnB w' w.heap.size (.slice A1 (xs.length + 7) c1) (putS xs) ∧ Below w.heap.size w w' := by
  refine (put_calls xs A c w h hn).mono ?_
  rintro e w' ⟨v, rfl, ho, hb⟩
  obtain ⟨A1, c1, rfl, hc, hr⟩ := ho.reads
  rw [putS_length] at hc hr ho ⊢
  exact ⟨A1, c1, rfl, hc, hr, ho, hb⟩
/-- What row gives. -/
def RowSays (w : World) (e : Ending) (w' : World) : Prop := ∃ (G : List (List UInt8)) (v1 v2 v3 : Value), e = .returned (.tuple #[v1, v2, v3]) ∧ OwnB w' w.heap.size v1 (cat G) ∧ OutL w w' w.heap.size v2 G ∧ OwnI w' w.heap.size v3 (endsOf G) ∧ fits G ∧ (cat G).length ≤ 20000 ∧ Below w.heap.size w w'
set_option maxHeartbeats 2000000 in
set_option maxRecDepth 100000 in
theorem row_calls (l : List (List UInt8)) (A : Option Addr) (c : Nat) (w : World) (h : klb.C w A l.length l) :
    Calls Try.prog 34 #[.slice A l.length c] w (RowSays w) := by
  have hm : l.length ≤ 9223372036854775807 := h.2.1
  have H := Aside0.mk h
  clear h
  go_enter Try.func34, Try.ntmps34
  go_wp2
  go_loopw [5, 6, 7, 8] (fun b g en i wr => ∃ (k : Nat) (G : List (List UInt8)) (A1 : Option Addr) (n c1 : Nat), i = .int .i64 k ∧ k ≤ l.length ∧ b = .slice A1 n c1 ∧ n ≤ 20000 ∧ Aside0 (n = (cat G).length) ∧ Aside0 (OwnB wr w.heap.size (.slice A1 n c1) (cat G)) ∧ Aside0 (OutL w wr w.heap.size g G) ∧ Aside0 (OwnI wr w.heap.size en (endsOf G)) ∧ Aside0 (fits G) ∧ Aside0 (Below w.heap.size w wr)) (fun _ _ _ i _ => l.length - (intOf i).toNat)
  case atStart => exact ⟨0, [], none, 0, 0, rfl, Nat.zero_le _, rfl, by omega, ⟨rfl⟩, ⟨OwnB.nil _ _⟩, ⟨OutL.nil _ _ _⟩, ⟨own_nil _ _ _ _⟩, ⟨fun x hx => by cases hx⟩, ⟨Below.refl _ _⟩⟩
  case round =>
    obtain ⟨k, G, A1, n, c1, rfl, hk, rfl, hn, HN, HO, HG, HE, HF, HB⟩ := hrel
    by_cases hlt : k < l.length
    · by_cases hn9 : n < 9000
      · obtain ⟨ad, A2, c2, rfl, k1, l1, r1⟩ := klb_get H.out k hlt
        have k2 : wr.cell? (ad.add k) = some (.slice A2 (l.getD k []).length c2) := pw_cell_below HB.out k1
        obtain ⟨x, hx⟩ : ∃ x, x = l.getD k [] := ⟨_, rfl⟩
        rw [← hx] at k1 k2 l1 r1
        have HR1 := Aside0.mk r1
        have K1 := Aside0.mk k1
        have hxm : x.length ≤ 9223372036854775807 := r1.2.1
        clear hx r1 k1
        by_cases hx8 : x.length ≤ 8000
        · have HCL := Aside0.mk (show (cat (G ++ [x])).length = n + (x.length + 7) by rw [cat_snoc, List.length_append, putS_length, HN.out])
          have HGL := Lib.hid (show G.length ≤ 20000 by have := cat_len G; have := HN.out; omega)
          go_wp2_with (first
            | (go_at_call 22; refine (put_good x A2 c2 _ (Kd.C_below HR1.out HB.out) hx8).mono ?_; rintro e w1 ⟨A3, c3, rfl, hc3, hr3, ho3, hb3⟩; have HB3 := Aside0.mk (below_then HB.out HB.out.size hb3); have HR3 := Aside0.mk hr3; have HO3 := Aside0.mk (HO.out.below hb3); have HG3 := Aside0.mk (HG.out.below hb3); have HE3 := Aside0.mk (show OwnI w1 w.heap.size u7 (endsOf G) from pw_own_below HE.out hb3); have k3 : w1.cell? (ad.add k) = some (.slice A2 x.length c2) := pw_cell_below HB3.out K1.out; clear hr3 ho3 hb3)
            | (at_builtin; go_loud (refine app_bytes w.heap.size rfl (.tmp 43) (.tmp 44) rfl (.slice A1 n c1) (cat G) (putS x) (cat (G ++ [x])) (cat_snoc G x).symm A3 (x.length + 7) c3 rfl rfl HO3.out HR3.out HB3.out.size (by have := HN.out; omega) ?_; intro v4 w4 ho4 hg4 hat4; obtain ⟨A4, c4, rfl, _, _⟩ := ho4.reads; rw [HCL.out]; rw [HCL.out] at ho4; have HO4 := Aside0.mk ho4; have HB4 := Aside0.mk (own_step HB3.out hg4 (fun q hq => HO3.out.base_le q hq)); have HG4 := Aside0.mk (HG3.out.grown hg4 (own_type_ne HG3.out.choose_spec.1 HO3.out (by decide))); have HE4 := Aside0.mk (show OwnI w4 w.heap.size u7 (endsOf G) from own_other HE3.out hg4 (own_type_ne HE3.out HO3.out (by decide))); have k4 : w4.cell? (ad.add k) = some (.slice A2 x.length c2) := pw_cell_below HB4.out K1.out; clear ho4 hg4 hat4))
            | (at_builtin; go_loud (refine app_out (w0 := w) (W := w4) w.heap.size rfl (.tmp 46) (.tmp 51) rfl u6 G x A2 c2 rfl rfl HG4.out HR1.out l1 HB4.out.size (by have := HGL.out; omega) ?_; intro v5 w5 ho5 hg5; have HG5 := Aside0.mk ho5; have HB5 := Aside0.mk (own_step HB4.out hg5 (fun q hq => own_base HG4.out.choose_spec.1 q hq)); have HO5 := Aside0.mk (HO4.out.grown hg5 (own_type_ne HO4.out HG4.out.choose_spec.1 (by decide))); have HE5 := Aside0.mk (show OwnI w5 w.heap.size u7 (endsOf G) from own_other HE4.out hg5 (own_type_ne HE4.out HG4.out.choose_spec.1 (by decide))); clear ho5 hg5))
            | (at_builtin; go_loud (refine app_num (W := w5) w.heap.size rfl (.tmp 53) (.tmp 56) rfl u7 (endsOf G) _ rfl rfl HE5.out HB5.out.size (by rw [endsOf_len]; have := HGL.out; omega) ?_; intro v6 w6 ho6 hg6; have HE6 := Aside0.mk ho6; have HB6 := Aside0.mk (own_step HB5.out hg6 (fun q hq => own_base HE5.out q hq)); have HO6 := Aside0.mk (HO5.out.grown hg6 (own_type_ne HO5.out HE5.out (by decide))); have HG6 := Aside0.mk (HG5.out.grown hg6 (own_type_ne HG5.out.choose_spec.1 HE5.out (by decide))); clear ho6 hg6)))
          go_roundw
          case rel => exact ⟨k + 1, G ++ [x], A4, n + (x.length + 7), c4, by go_num, by omega, rfl, by omega, ⟨HCL.out.symm⟩, HO6, HG6, ⟨by rw [endsOf_snoc, HCL.out, Int.natCast_add, Int.natCast_add]; exact HE6.out⟩, ⟨fun y hy => by rcases List.mem_append.1 hy with hy | hy; exact HF.out y hy; rw [List.mem_singleton.1 hy]; exact hx8⟩, HB6⟩
          case measure => simp [intOf]; omega
        · go_wp2_with (go_at_call 22; refine (put_long x A2 c2 _ hxm (by omega)).mono ?_; rintro e w1 ⟨rfl, hw⟩; obtain rfl := hw.symm; clear hw)
          go_roundw
          case rel => exact ⟨k + 1, G, A1, n, c1, by go_num, by omega, rfl, hn, HN, HO, HG, HE, HF, HB⟩
          case measure => simp [intOf]; omega
      · go_wp2
        go_ret3
        exact ⟨G, _, _, _, rfl, HO.out, HG.out, HE.out, HF.out, by rw [← HN.out]; exact hn, HB.out⟩
    · go_wp2
      go_ret3
      exact ⟨G, _, _, _, rfl, HO.out, HG.out, HE.out, HF.out, by rw [← HN.out]; exact hn, HB.out⟩
end Go.Proofs.Ytahaoakolgomdaa
