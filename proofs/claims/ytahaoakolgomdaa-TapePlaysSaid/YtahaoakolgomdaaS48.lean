/- Walks of law 19's opened, reopen, begins. -/
import Derived.Test.YtahaoakolgomdaaG3
namespace Go.Proofs.Ytahaoakolgomdaa
open Go.RowKit Go.Proofs.YtahaoakolgomdaaW.PrintWords Go.Proofs.YtahaoakolgomdaaW.PrintLast Go.Proofs.YtahaoakolgomdaaW.PrintMore
set_option linter.unusedVariables false
set_option linter.unusedSimpArgs false

/-- The pair's struct. -/
def pairA (c p q : Nat) (vt vm : Value) : Asr := blkA c (.cells #[.pointer (some ⟨p, 0, none⟩), vt, .pointer (some ⟨q, 0, none⟩), vm] 85 (0, 0))
section
variable {w0 w : World} {M : List Asr}
theorem pair_set (H : Has w0 w M) (i : Nat) {c p q : Nat} {vt vm : Value} (hi : M[i]? = some (pairA c p q vt vm)) (a b : Value) :
    Has w0 ((w.setCell ⟨c, 1, none⟩ a).setCell ⟨c, 3, none⟩ b) (M.set i (pairA c p q a b)) := by
  have h1 := H.put i hi 1 a #[.pointer (some ⟨p, 0, none⟩), a, .pointer (some ⟨q, 0, none⟩), vm] (by simp)
  have hil : i < M.length := (List.getElem?_eq_some_iff.1 hi).1
  have h2 := h1.put i (by rw [List.getElem?_set_self (by simpa using hil)]) 3 b #[.pointer (some ⟨p, 0, none⟩), a, .pointer (some ⟨q, 0, none⟩), b] (by simp)
  rwa [List.set_set] at h2
set_option maxHeartbeats 1000000 in
set_option maxRecDepth 100000 in
theorem reopen_yes {c p q : Nat} {vt vm : Value} {s : Sp} (H0 : Has w0 w (spoolA p s :: refA q s :: pairA c p q vt vm :: M)) (l : List (List UInt8)) (s' : Sp) (ho : opn s = (0, some l, s')) :
    Calls Try.prog 59 #[.pointer (some ⟨c, 0, none⟩)] w fun e w' => ∃ tp tq, e = .returned (.bool true) ∧ Has w0 w' (spoolA p s' :: refA q s' :: pairA c p q (.pointer (some ⟨tp, 0, none⟩)) (.pointer (some ⟨tq, 0, none⟩)) :: (M ++ [tapeB 105 tp p l false, tapeB 101 tq q l false])) := by
  have H := Aside0.mk H0
  have HO := Aside0.mk ho
  have c0 := H0.blk 2 rfl
  have c00 := blk_cell c0 0
  simp at c00
  clear H0 ho c0
  go_enter Try.func59, Try.ntmps59
  go_wp2_with (first
    | (go_at_call 72; refine (ropen_i H1.out 1 rfl l s' HO.out).mono ?_; rintro e w2 ⟨tq, rfl, hs⟩; have H2 : Aside0 (Has w0 w2 (spoolA p s' :: refA q s' :: pairA c p q vt vm :: (M ++ [tapeB 105 tp p l false] ++ [tapeB 101 tq q l false]))) := Aside0.mk hs; have d1 := blk_cell (H2.out.blk 2 rfl) 1; have d3 := blk_cell (H2.out.blk 2 rfl) 3; simp at d1 d3; have g1 := blk_frozen (H2.out.blk 2 rfl) 1; have g3 := blk_frozen (H2.out.blk 2 rfl) 3; clear hs)
    | (go_at_call 63; refine (topen_i H.out 0 rfl l s' HO.out).mono ?_; rintro e w1 ⟨tp, rfl, hs⟩; have H1 : Aside0 (Has w0 w1 (spoolA p s' :: refA q s :: pairA c p q vt vm :: (M ++ [tapeB 105 tp p l false]))) := Aside0.mk hs; have b2 := blk_cell (H1.out.blk 2 rfl) 2; simp at b2; clear hs))
  go_ret
  refine ⟨tp, tq, rfl, ?_⟩
  have := pair_set H2.out 2 rfl (.pointer (some ⟨tp, 0, none⟩)) (.pointer (some ⟨tq, 0, none⟩))
  simpa using this
set_option maxHeartbeats 1000000 in
set_option maxRecDepth 100000 in
theorem reopen_no {c p q : Nat} {vt vm : Value} {s : Sp} (H0 : Has w0 w (spoolA p s :: refA q s :: pairA c p q vt vm :: M)) (e1 : Int) (s' : Sp) (ho : opn s = (e1, none, s')) :
    Calls Try.prog 59 #[.pointer (some ⟨c, 0, none⟩)] w fun e w' => e = .returned (.bool true) ∧ Has w0 w' (spoolA p s' :: refA q s' :: pairA c p q (.pointer none) (.pointer none) :: M) := by
  have H := Aside0.mk H0
  have HO := Aside0.mk ho
  have c0 := H0.blk 2 rfl
  have c00 := blk_cell c0 0
  simp at c00
  clear H0 ho c0
  go_enter Try.func59, Try.ntmps59
  go_wp2_with (first
    | (go_at_call 72; refine (ropen_no H1.out 1 rfl e1 s' HO.out).mono ?_; rintro e w2 ⟨rfl, hs⟩; have H2 : Aside0 (Has w0 w2 (spoolA p s' :: refA q s' :: pairA c p q vt vm :: M)) := Aside0.mk hs; have d1 := blk_cell (H2.out.blk 2 rfl) 1; have d3 := blk_cell (H2.out.blk 2 rfl) 3; simp at d1 d3; have g1 := blk_frozen (H2.out.blk 2 rfl) 1; have g3 := blk_frozen (H2.out.blk 2 rfl) 3; clear hs)
    | (go_at_call 63; refine (topen_no H.out 0 rfl e1 s' HO.out).mono ?_; rintro e w1 ⟨rfl, hs⟩; have H1 : Aside0 (Has w0 w1 (spoolA p s' :: refA q s :: pairA c p q vt vm :: M)) := Aside0.mk hs; have b2 := blk_cell (H1.out.blk 2 rfl) 2; simp at b2; clear hs))
  go_ret
  exact ⟨rfl, pair_set H2.out 2 rfl (.pointer none) (.pointer none)⟩
end
/-- A pair on new spools, and its two tapes. -/
def Pair (c p q tp tq : Nat) (t : Ts) : List Asr :=
  [spoolA p t.sp, refA q t.sp, pairA c p q (.pointer (some ⟨tp, 0, none⟩)) (.pointer (some ⟨tq, 0, none⟩)), tapeB 105 tp p t.l t.lost, tapeB 101 tq q t.l t.lost]
set_option maxHeartbeats 1000000 in
set_option maxRecDepth 100000 in
theorem opened_calls (w : World) (room : Int) (h1 : 1 ≤ room) (h2 : room ≤ 1048576) (N : Nat) (hN : room.toNat = N) :
    Calls Try.prog 55 #[.int .i64 room] w fun e w' => ∃ c p q tp tq, e = .returned (.pointer (some ⟨c, 0, none⟩)) ∧ Has w w' (Pair c p q tp tq ⟨⟨[], 0, N, -1, false⟩, [], false⟩) := by
  have O0 := Aside0.mk (show opn ⟨[], 0, N, -1, false⟩ = (0, some [], ⟨[], 0, N, -1, false⟩) from opn_all (G := []) fits_nil)
  have HN := Lib.hid (show Sp.new room.toNat = ⟨[], 0, N, -1, false⟩ by rw [hN]; rfl)
  have HZ := Aside0.mk (And.intro h1 h2)
  clear hN h1 h2
  go_enter Try.func55, Try.ntmps55
  go_wp2_with (first
    | (go_at_call 59; have _t := H2.out; refine (reopen_yes (M := []) (c := w2.heap.size) (p := p) (q := q) (vt := .pointer none) (vm := .pointer none) (s := ⟨[], 0, N, -1, false⟩) (H2.out.addO (.cells #[.pointer (some ⟨p, 0, none⟩), .pointer none, .pointer (some ⟨q, 0, none⟩), .pointer none] 85)) [] _ O0.out).mono ?_; rintro e w3 ⟨tp, tq, rfl, hs⟩; have H3 := Aside0.mk hs; clear hs)
    | (go_at_call 47; have _t := H1.out; refine (rnew_h _ room HZ.out.1 HZ.out.2 _ HN.out).mono ?_; rintro e w2 ⟨q, rfl, hf⟩; have H2 : Aside0 (Has w w2 [spoolA p ⟨[], 0, N, -1, false⟩, refA q ⟨[], 0, N, -1, false⟩]) := Aside0.mk (H1.out.addE hf); clear hf)
    | (go_at_call 38; refine (new_h _ room HZ.out.1 HZ.out.2 _ HN.out).mono ?_; rintro e w1 ⟨p, rfl, hf⟩; have H1 : Aside0 (Has w w1 [spoolA p ⟨[], 0, N, -1, false⟩]) := Aside0.mk ((Has.start w).addE hf); clear hf))
  go_ret
  exact ⟨_, p, q, tp, tq, rfl, H3.out⟩
set_option maxRecDepth 100000 in
theorem opened_no (w : World) (room : Int) (hr : room < 1 ∨ 1048576 < room) :
    Calls Try.prog 55 #[.int .i64 room] w fun e w' => e = .returned (.pointer none) ∧ w' = w := by
  have hn := new_calls w room
  have hr2 := ref_new w room
  simp only [if_pos hr] at hn hr2
  have HN := Aside0.mk hn
  have HR := Aside0.mk hr2
  clear hr hn hr2
  go_enter Try.func55, Try.ntmps55
  go_wp2_with (first
    | (go_at_call 38; refine HN.out.mono ?_; rintro e w' ⟨rfl, hw⟩; obtain rfl := hw.symm; clear hw)
    | (go_at_call 47; refine HR.out.mono ?_; rintro e w' ⟨rfl, hw⟩; obtain rfl := hw.symm; clear hw))
  go_ret
  exact ⟨rfl, rfl⟩
/-- xss[:m], up to the room that there is. -/
theorem cut_rows (A : Option Addr) (n c m : Nat) (hm : m ≤ c) (W : World) : (Instr.slice 35 (.slice A n c) none (some (.int .i64 (m : Int))) none).run Try.prog W = .ok (.slice A m c) W := by
  obtain ⟨i0, hi, _, hsz, _⟩ := info_parts info22
  have hel : Try.prog.elem 35 = 22 := by simp [Program.elem, Try.underlying35]
  have hu : Try.prog.underlying 35 = some (.slice (Try.prog.elem 35)) := by rw [hel]; exact Try.underlying35
  have ha : (A.map fun x => x.add 0) = A := by cases A <;> simp [Addr.add]
  rw [run_slice_h W 35 A n c hu .i64 (m : Int) (by omega) (by omega), hel]
  simp [sizeOf, typeInfo, hi, hsz, sliced, Result.andThen, ha]
def beginsB (l f : List (List UInt8)) : Bool := decide (f.length ≤ l.length) && sameLB (l.take f.length) f
set_option maxHeartbeats 1000000 in
set_option maxRecDepth 100000 in
theorem begins_calls (l f : List (List UInt8)) (A B : Option Addr) (n m c d : Nat) (hn : n = l.length) (hm : m = f.length) (w : World) (hc : l.length ≤ c) (h : klb.C w A l.length l) (h' : klb.C w B f.length f) (b : Bool) (hb : beginsB l f = b) :
    Calls Try.prog 60 #[.slice A n c, .slice B m d] w fun e w' => e = .returned (.bool b) ∧ Drawn0 w w' := by
  subst hn hm
  have m1 : l.length ≤ 9223372036854775807 := h.2.1
  have m2 : f.length ≤ 9223372036854775807 := h'.2.1
  by_cases hle : f.length ≤ l.length
  · have h2 : klb.C w A (l.take f.length).length (l.take f.length) := Kd.C_take h hle
    have e2 : (l.take f.length).length = f.length := by rw [List.length_take]; omega
    have hs := samel_calls (l.take f.length) f A B c d w h2 h'
    rw [e2] at hs
    have HS := Aside0.mk hs
    have hcut := cut_rows A l.length c f.length (by omega)
    have hi : (f.length : Int) ≤ (l.length : Int) := by omega
    have HB := Aside0.mk (show sameLB (l.take f.length) f = b by rw [← hb]; unfold beginsB; simp [hle])
    clear h h' h2 e2 hs hb hle
    go_enter Try.func60, Try.ntmps60
    go_wp2_with (go_at_call 33; refine HS.out.mono ?_; rw [HB.out]; rintro e w1 ⟨rfl, hd⟩; have HD := Aside0.mk hd; clear hd)
    go_ret
    exact ⟨by cases b <;> rfl, HD.out⟩
  · have hi : ¬ (f.length : Int) ≤ (l.length : Int) := by omega
    have hb2 : b = false := by rw [← hb]; unfold beginsB; simp [hle]
    subst hb2
    clear h h' hb hle
    go_enter Try.func60, Try.ntmps60
    go_wp2_with fail
    go_ret
    exact ⟨rfl, Drawn0.refl _⟩
end Go.Proofs.Ytahaoakolgomdaa
