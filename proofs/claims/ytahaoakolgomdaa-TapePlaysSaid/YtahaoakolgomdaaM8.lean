/- A plain model of the spool. -/
namespace Go.Proofs.Ytahaoakolgomdaa
set_option linter.unusedVariables false
set_option linter.unusedSimpArgs false

/-- A spool: bytes, how many are sure, room, acts till the power goes, off. -/
structure Sp where
  b : List UInt8
  sure : Nat
  room : Nat
  left : Int
  off : Bool
structure Sp.Ok (s : Sp) : Prop where
  sure : s.sure ≤ s.b.length
  len : s.b.length ≤ s.room
  room : s.room ≤ 1048576
  lo : -1 ≤ s.left
  hi : s.left ≤ 9223372036854775807
def Sp.new (room : Nat) : Sp := ⟨[], 0, room, -1, false⟩
/-- Does the power stay for one? -/
def Sp.act (s : Sp) : Bool × Sp :=
  if s.off then (false, s) else if s.left = 0 then (false, { s with off := true }) else if 0 < s.left then (true, { s with left := s.left - 1 }) else (true, s)
def Sp.add (s : Sp) (xs : List UInt8) : Int × Sp :=
  if s.off then (190, s) else if s.room < s.b.length + xs.length then (5, s) else if s.act.1 then (0, { s.act.2 with b := s.b ++ xs }) else (190, s.act.2)
def Sp.sync (s : Sp) : Int × Sp :=
  if s.act.1 then (0, { s.act.2 with sure := s.b.length }) else (190, s.act.2)
def Sp.cut (s : Sp) (n : Int) : Int × Sp :=
  if s.off then (190, s) else if n < 0 ∨ (s.b.length : Int) < n then (2, s) else if s.act.1 then (0, { s.act.2 with b := s.b.take n.toNat, sure := n.toNat }) else (190, s.act.2)
def Sp.bytes (s : Sp) : List UInt8 := if s.off then [] else s.b
def Sp.len (s : Sp) : Nat := if s.off then 0 else s.b.length
def Sp.sureN (s : Sp) : Nat := if s.off then 0 else s.sure
def Sp.setOff (s : Sp) (after : Int) : Sp := { s with left := if after < -1 then -1 else after }
def Sp.keepN (s : Sp) (keep : Int) : Nat := s.sure + min keep.toNat (s.b.length - s.sure)
def Sp.crash (s : Sp) (keep : Int) : Sp := ⟨s.b.take (s.keepN keep), s.keepN keep, s.room, -1, false⟩
theorem Sp.act_b (s : Sp) : s.act.2.b = s.b ∧ s.act.2.sure = s.sure ∧ s.act.2.room = s.room := by unfold Sp.act; split <;> (try split) <;> (try split) <;> simp
theorem Sp.Ok.act {s : Sp} (h : s.Ok) : s.act.2.Ok := by
  obtain ⟨a, b, c⟩ := s.act_b
  refine ⟨by rw [a, b]; exact h.sure, by rw [a, c]; exact h.len, by rw [c]; exact h.room, ?_, ?_⟩
  · have := h.lo; unfold Sp.act; split <;> (try split) <;> (try split) <;> simp <;> omega
  · have := h.hi; unfold Sp.act; split <;> (try split) <;> (try split) <;> simp <;> omega
theorem Sp.Ok.add {s : Sp} (h : s.Ok) (xs : List UInt8) : (s.add xs).2.Ok := by
  have h' := h.act
  obtain ⟨a, b, c⟩ := s.act_b
  unfold Sp.add
  split
  · exact h
  · split
    · exact h
    · split
      · have := h.sure
        exact ⟨by simp [b]; omega, by simp [c]; omega, h'.room, h'.lo, h'.hi⟩
      · exact h'
theorem Sp.Ok.sync {s : Sp} (h : s.Ok) : s.sync.2.Ok := by
  have h' := h.act
  obtain ⟨a, b, c⟩ := s.act_b
  unfold Sp.sync
  split
  · exact ⟨by simp [a], h'.len, h'.room, h'.lo, h'.hi⟩
  · exact h'
theorem Sp.Ok.cut {s : Sp} (h : s.Ok) (n : Int) : (s.cut n).2.Ok := by
  have h' := h.act
  obtain ⟨a, b, c⟩ := s.act_b
  unfold Sp.cut
  split
  · exact h
  · split
    · exact h
    · split
      · have := h.len
        exact ⟨by simp [List.length_take]; omega, by simp [List.length_take, c]; omega, h'.room, h'.lo, h'.hi⟩
      · exact h'
theorem Sp.keepN_le {s : Sp} (h : s.Ok) (keep : Int) : s.keepN keep ≤ s.b.length := by have := h.sure; unfold Sp.keepN; omega
theorem Sp.Ok.crash {s : Sp} (h : s.Ok) (keep : Int) : (s.crash keep).Ok := by
  have := Sp.keepN_le h keep
  have := h.len
  exact ⟨by simp [Sp.crash, List.length_take]; omega, by simp [Sp.crash, List.length_take]; omega, h.room, by simp [Sp.crash], by simp [Sp.crash]⟩
theorem Sp.Ok.setOff {s : Sp} (h : s.Ok) (after : Int) (ha : after ≤ 9223372036854775807) : (s.setOff after).Ok :=
  ⟨h.sure, h.len, h.room, by simp only [Sp.setOff]; split <;> omega, by simp only [Sp.setOff]; split <;> omega⟩
theorem Sp.new_ok (room : Nat) (h : room ≤ 1048576) : (Sp.new room).Ok := ⟨Nat.le_refl _, Nat.zero_le _, h, by simp [Sp.new], by simp [Sp.new]⟩
end Go.Proofs.Ytahaoakolgomdaa
