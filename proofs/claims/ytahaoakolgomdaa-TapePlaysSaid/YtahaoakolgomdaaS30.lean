/- Bytes are appended beside other things; max and min of whole numbers. -/
import Derived.Test.YtahaoakolgomdaaS28
import Derived.Test.YtahaoakolgomdaaS14
namespace Go.Proofs.Ytahaoakolgomdaa
open Go.RowKit Go.Proofs.YtahaoakolgomdaaW.PrintWords Go.Proofs.YtahaoakolgomdaaW.PrintLast Go.Proofs.YtahaoakolgomdaaW.PrintMore
set_option linter.unusedVariables false
set_option linter.unusedSimpArgs false

theorem Fresh.nilB (w : World) : Fresh w w (bytesA (.slice none 0 0) []) := .bytes (OwnB.nil _ _) (Below.refl _ _)
theorem Fresh.nilL (w : World) : Fresh w w (rowsA (.slice none 0 0) []) := .rows (OwnL.nil _ _) (Below.refl _ _)
theorem Has.none {w0 w : World} {l : List Asr} (h : Has w0 w l) : Has w0 w [] := by
  obtain ⟨⟨F, h1, h2⟩, h3⟩ := h
  exact ⟨⟨F, trivial, h2⟩, h3⟩
theorem Has.readB {w0 w : World} {l : List Asr} (h : Has w0 w l) (i : Nat) {A : Option Addr} {n c : Nat} {xs : List UInt8} (hi : l[i]? = some (bytesA (.slice A n c) xs)) : n = xs.length ∧ n ≤ c ∧ kb.C w A xs.length xs :=
  (h.bytes i hi).at_
section
variable {ops : Array Oper} {Q : Exit → Act → World → Prop} {o : Oper} {rest : List Oper} {a : Act}
/-- Bytes are appended to a row beside other things. -/
theorem app_has {w0 W : World} {l : List Asr} (H : Has w0 W l) (i : Nat) (v : Value) (xs ys zs : List UInt8) (hi : l[i]? = some (bytesA v xs)) (hgd : o.guard = none) (s x : Operand) (ho : o.op = .call { callee := .builtin .append, args := #[s, x], argTypes := #[22, 22] })
    (hz : xs ++ ys = zs) (A : Option Addr) (m c : Nat) (hs : a.eval s = v) (hx : a.eval x = .slice A m c) (HR : kb.C W A m ys) (hl : xs.length + m ≤ 140737488355328)
    (h : ∀ A1 n1 c1 w1, n1 = zs.length → Has w0 w1 (l.set i (bytesA (.slice A1 n1 c1) zs)) → wpList Try.prog ops Q rest (a.put o.dst (.slice A1 n1 c1)) w1) :
    wpList Try.prog ops Q (o :: rest) a W := by
  obtain ⟨F, ⟨hb, hv⟩, hF, hgo⟩ := H.get i _ hi
  refine app_bytes 0 hgd s x ho v xs ys zs hz A m c hs hx hb HR (Nat.zero_le _) hl ?_
  intro v1 w1 ho1 hg1 hat
  obtain ⟨A1, c1, rfl, _, _⟩ := ho1.reads
  refine h A1 _ c1 w1 rfl (hgo _ _ ⟨fun k => (Value.slice A1 zs.length c1).ownBlock = some k, ⟨ho1, fun k e => e⟩, (Touch.of_grown hg1).mono fun k _ e => hv k e.symm, fun k e => ⟨?_, ho1.lt k e⟩⟩)
  rcases hat with e2 | ⟨b, e2, hb2⟩
  · exact .inl (hv k (by rw [← e2]; exact e))
  · rw [e] at e2; cases e2; exact .inr hb2
end
theorem max_zero (x : Int) (k : Nat) (hk : k = x.toNat) (W : World) : (Builtin.max_ #[3, 3] 3 #[.int .i64 x, .int .i64 0]).run Try.prog W = .ok (.int .i64 (k : Int)) W := by
  rw [max_two, max2_int, hk]
  show Result.ok (Value.int .i64 (if x < 0 then 0 else x)) W = _
  congr 2; split <;> omega
theorem min_nat (x y : Int) (k : Nat) (h : (k : Int) = if y < x then y else x) (W : World) : (Builtin.min_ #[3, 3] 3 #[.int .i64 x, .int .i64 y]).run Try.prog W = .ok (.int .i64 (k : Int)) W := by
  rw [min_two, min2_int]
  show Result.ok (Value.int .i64 _) W = _
  congr 2; exact h.symm
/-- Truths that came in. -/
def kt : Kd Bool := Kd.bool
theorem kt_get {w : World} {A : Option Addr} {n : Nat} {bs : List Bool} (h : kt.C w A n bs) (k : Nat) (hk : k < n) : ∃ ad, A = some ad ∧ w.cell? (ad.add k) = some (.bool (bs.getD k false)) := by
  obtain ⟨ad, c, e, _, hK, hc0⟩ := Kd.C_get h false (k : Int) (by omega) (by omega)
  have hK : c = [.bool (bs.getD k false)] := by
    have := hK
    rw [Int.toNat_natCast] at this; exact this
  subst hK
  have hq := hc0 0 _ rfl
  exact ⟨ad, e, by simpa [kt, Kd.bool, Kd.scalar] using hq⟩
end Go.Proofs.Ytahaoakolgomdaa
