/- Walks of the document's spool (gangerref18). -/
import Derived.Test.YtahaoakolgomdaaW4
import Derived.Test.YtahaoakolgomdaaS24
namespace Go.Proofs.Ytahaoakolgomdaa
open Go.RowKit Go.Proofs.YtahaoakolgomdaaW.PrintWords Go.Proofs.YtahaoakolgomdaaW.PrintLast Go.Proofs.YtahaoakolgomdaaW.PrintMore
set_option linter.unusedVariables false
set_option linter.unusedSimpArgs false

/-- What the document's spool holds. -/
structure RefAt (w : World) (q : Nat) (v1 v2 : Value) (s : Sp) : Prop where
  cells : w.heap[q]? = some (.cells #[v1, v2, .int .i64 (s.room : Int), .int .i64 s.left, .bool s.off] 77 (0, 0))
  firm : OwnB w 0 v1 (s.b.take s.sure)
  soft : OwnB w 0 v2 (s.b.drop s.sure)
  ok : s.Ok
section
variable {w w1 : World} {q : Nat} {v1 v2 : Value} {s : Sp}
theorem RefAt.lt (h : RefAt w q v1 v2 s) : q < w.heap.size := blk_lt h.cells
theorem RefAt.keep (h : RefAt w q v1 v2 s) (hq : w1.heap[q]? = w.heap[q]?) (h1 : ∀ k, v1.ownBlock = some k → w1.heap[k]? = w.heap[k]?) (h2 : ∀ k, v2.ownBlock = some k → w1.heap[k]? = w.heap[k]?) : RefAt w1 q v1 v2 s :=
  ⟨by rw [hq]; exact h.cells, own_move h.firm h1, own_move h.soft h2, h.ok⟩
theorem RefAt.below (h : RefAt w q v1 v2 s) (hb : Below w.heap.size w w1) : RefAt w1 q v1 v2 s :=
  h.keep (hb.block q h.lt) (fun k hk => hb.block k (h.firm.lt k hk)) fun k hk => hb.block k (h.soft.lt k hk)
theorem RefAt.cell (h : RefAt w q v1 v2 s) (k : Nat) : w.cell? ⟨q, k, none⟩ = (#[v1, v2, .int .i64 (s.room : Int), .int .i64 s.left, .bool s.off] : Array Value)[k]? := blk_cell h.cells k
theorem RefAt.frozen (h : RefAt w q v1 v2 s) (k : Nat) : w.frozen? ⟨q, k, none⟩ = false := blk_frozen h.cells _
theorem OwnB.ne {w : World} {q base : Nat} {v : Value} {xs : List UInt8} {cs : Array Value} (h : OwnB w base v xs) (hc : w.heap[q]? = some (.cells cs 77 (0, 0))) : v.ownBlock ≠ some q := fun e => by
  obtain ⟨c, hc'⟩ := own_typed h q e
  rw [hc] at hc'
  injection hc' with hc'
  injection hc' with _ e1 _
  exact absurd e1 (by decide)
/-- A cell of it is written. -/
theorem RefAt.set (h : RefAt w q v1 v2 s) (k : Nat) (u u1 u2 : Value) (s1 : Sp) (hs : (#[v1, v2, .int .i64 (s.room : Int), .int .i64 s.left, .bool s.off] : Array Value).setIfInBounds k u = #[u1, u2, .int .i64 (s1.room : Int), .int .i64 s1.left, .bool s1.off])
    (h1 : OwnB w 0 u1 (s1.b.take s1.sure)) (h2 : OwnB w 0 u2 (s1.b.drop s1.sure)) (hok : s1.Ok) : RefAt (w.setCell ⟨q, k, none⟩ u) q u1 u2 s1 := by
  refine ⟨?_, own_move h1 fun i hi => ?_, own_move h2 fun i hi => ?_, hok⟩
  · rw [← hs]; exact blk_set h.cells k u
  · exact Below.heap_setCell w ⟨q, k, none⟩ u i (fun e => h1.ne h.cells (by rw [hi, e]))
  · exact Below.heap_setCell w ⟨q, k, none⟩ u i (fun e => h2.ne h.cells (by rw [hi, e]))
end
theorem touch1 (w : World) (p k : Nat) (u : Value) : Touch (· = p) w (w.setCell ⟨p, k, none⟩ u) := (Touch.of_grown (grown_set w p k u)).mono fun q _ e => Option.some.inj e
theorem ref_act (w : World) (q : Nat) (v1 v2 : Value) (s : Sp) (h : RefAt w q v1 v2 s) :
    Calls Try.prog 69 #[.pointer (some ⟨q, 0, none⟩)] w fun e w' => e = .returned (.bool s.act.1) ∧ RefAt w' q v1 v2 s.act.2 ∧ Touch (· = q) w w' := by
  have H := Aside0.mk h
  have c3 := h.cell 3
  have c4 := h.cell 4
  have f3 := h.frozen 3
  have f4 := h.frozen 4
  have lo := h.ok.lo
  have hi := h.ok.hi
  simp at c3 c4
  clear h
  have T1 : ∀ k u, Touch (· = q) w (w.setCell ⟨q, k, none⟩ u) := fun k u => touch1 w q k u
  by_cases ho : s.off = true
  · have ha : s.act = (false, s) := by unfold Sp.act; rw [if_pos ho]
    have HS := Aside0.mk (H.out.set 4 (.bool true) v1 v2 s (by rw [ho]; simp) H.out.firm H.out.soft H.out.ok)
    rw [ho] at c4
    clear ho
    go_enter Try.func69, Try.ntmps69
    go_wp2_with fail
    go_ret
    exact ⟨by rw [ha]; rfl, by rw [ha]; exact HS.out, T1 _ _⟩
  · have ho : s.off = false := by simpa using ho
    by_cases h0 : s.left = 0
    · have ha : s.act = (false, { s with off := true }) := by unfold Sp.act; rw [if_neg (by simp [ho]), if_pos h0]
      have HA := Aside0.mk ha
      have HS := Aside0.mk (H.out.set 4 (.bool true) v1 v2 { s with off := true } (by simp) H.out.firm H.out.soft ⟨H.out.ok.sure, H.out.ok.len, H.out.ok.room, H.out.ok.lo, H.out.ok.hi⟩)
      rw [ho] at c4
      rw [h0] at c3
      clear ho h0 ha
      go_enter Try.func69, Try.ntmps69
      go_wp2_with fail
      go_ret
      exact ⟨by rw [HA.out]; rfl, by rw [HA.out]; exact HS.out, T1 _ _⟩
    · by_cases h1 : 0 < s.left
      · have ha : s.act = (true, { s with left := s.left - 1 }) := by unfold Sp.act; rw [if_neg (by simp [ho]), if_neg h0, if_pos h1]
        have HA := Aside0.mk ha
        have HS := Aside0.mk (H.out.set 3 (.int .i64 (s.left - 1)) v1 v2 { s with left := s.left - 1 } (by simp) H.out.firm H.out.soft ⟨H.out.ok.sure, H.out.ok.len, H.out.ok.room, by simp only; omega, by simp only; omega⟩)
        have d0 : (s.left == 0) = false := by rw [beq_eq_false_iff_ne]; exact h0
        rw [ho] at c4
        clear ho ha
        generalize s.left = l at c3 d0 h1 h0 lo hi HS HA
        go_enter Try.func69, Try.ntmps69
        go_wp2_with fail
        go_ret
        exact ⟨by rw [HA.out]; rfl, by rw [HA.out]; exact HS.out, T1 _ _⟩
      · have ha : s.act = (true, s) := by unfold Sp.act; rw [if_neg (by simp [ho]), if_neg h0, if_neg h1]
        have HA := Aside0.mk ha
        have d0 : (s.left == 0) = false := by rw [beq_eq_false_iff_ne]; exact h0
        rw [ho] at c4
        clear ho ha
        go_enter Try.func69, Try.ntmps69
        go_wp2_with fail
        go_ret
        exact ⟨by rw [HA.out]; rfl, by rw [HA.out]; exact H.out, Touch.refl _ _⟩
theorem ref_all (w : World) (q : Nat) (v1 v2 : Value) (s : Sp) (h : RefAt w q v1 v2 s) :
    Calls Try.prog 54 #[.pointer (some ⟨q, 0, none⟩)] w fun e w' => ∃ A1 c1, e = .returned (.slice A1 s.bytes.length c1) ∧ OwnB w' w.heap.size (.slice A1 s.bytes.length c1) s.bytes ∧ Below w.heap.size w w' := by
  have H := Aside0.mk h
  have c0 := h.cell 0
  have c1 := h.cell 1
  have c4 := h.cell 4
  simp at c0 c1 c4
  have hlen : s.b.length ≤ 1048576 := Nat.le_trans h.ok.len h.ok.room
  obtain ⟨A, c, rfl, hc1, k1⟩ := h.firm.reads
  obtain ⟨B, d, rfl, hc2, k2⟩ := h.soft.reads
  obtain ⟨a, ha⟩ : ∃ a, a = s.b.take s.sure := ⟨_, rfl⟩
  obtain ⟨b, hb⟩ : ∃ b, b = s.b.drop s.sure := ⟨_, rfl⟩
  have hab := Lib.hid (show a ++ b = s.b by rw [ha, hb]; simp)
  have hal : a.length ≤ 1048576 := by rw [ha, List.length_take]; omega
  have hbl : b.length ≤ 1048576 := by rw [hb, List.length_drop]; omega
  rw [← ha] at c0 k1
  rw [← hb] at c1 k2
  have K1 := Aside0.mk k1
  have K2 := Aside0.mk k2
  have HA := Lib.hid ha
  have HB := Lib.hid hb
  rw [← HA.out] at H
  rw [← HB.out] at H
  clear h ha hb k1 k2 hc1 hc2
  by_cases ho : s.off = true
  · have ha := Aside0.mk (show s.bytes = [] by unfold Sp.bytes; rw [if_pos ho])
    rw [ho] at c4
    clear ho
    go_enter Try.func54, Try.ntmps54
    go_wp2_with fail
    go_ret
    rw [ha.out]
    exact ⟨none, 0, rfl, OwnB.nil _ _, Below.refl _ _⟩
  · have ha := Aside0.mk (show s.bytes = a ++ b by unfold Sp.bytes; rw [if_neg ho, hab.out])
    have hof : s.off = false := by simpa using ho
    rw [hof] at c4
    clear ho hof
    go_enter Try.func54, Try.ntmps54
    go_wp2_with (first
      | (go_at_call 35; refine (copy_calls a A c _ K1.out (by omega)).mono ?_; rintro e w2 ⟨v2, rfl, ho2, hb2⟩; have HO2 := Aside0.mk ho2; have HB2 := Aside0.mk hb2; have k2 := (World.cell?_of_block (hb2.block q H.out.lt)).trans c1; clear ho2 hb2)
      | (at_builtin; refine app_bytes w.heap.size rfl _ _ rfl v2 a b (a ++ b) rfl B b.length d rfl rfl HO2.out ?kb (HB2.out.size) ?ln ?_; (case kb => exact Kd.C_below K2.out HB2.out); (case ln => omega); intro v3 w3 ho3 hg3 hat3; have HB3 := Aside0.mk (own_step HB2.out hg3 (fun k hk => HO2.out.base_le k hk)); have HO3 := Aside0.mk ho3; obtain ⟨A3, c3, rfl, hc3, hr3⟩ := ho3.reads; clear ho3 hg3 hat3 hr3))
    go_ret
    rw [ha.out]
    exact ⟨A3, c3, by rw [List.length_append]; rfl, HO3.out, HB3.out⟩
end Go.Proofs.Ytahaoakolgomdaa
