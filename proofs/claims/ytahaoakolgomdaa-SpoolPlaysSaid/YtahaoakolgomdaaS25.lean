/- The walk of the law SpoolRoom. -/
import Derived.Test.YtahaoakolgomdaaS28
namespace Go.Proofs.Ytahaoakolgomdaa
open Go.RowKit Go.Proofs.YtahaoakolgomdaaW.PrintWords Go.Proofs.YtahaoakolgomdaaW.PrintLast Go.Proofs.YtahaoakolgomdaaW.PrintMore
set_option linter.unusedVariables false
set_option linter.unusedSimpArgs false

theorem umod (cut : Int) (N : Nat) (h0 : 0 < N) (hN : N ≤ 1000000) : ∃ kk : Nat, kk < N ∧ wrap64 ((IntKind.u64.wrap cut).tmod (N : Int)) = (kk : Int) := by
  have hw : IntKind.u64.wrap cut = cut % 18446744073709551616 := by simp [IntKind.wrap, IntKind.bits, IntKind.signed]
  have h1 : 0 ≤ IntKind.u64.wrap cut := by rw [hw]; omega
  rw [Int.tmod_eq_emod_of_nonneg h1]
  generalize IntKind.u64.wrap cut = u at *
  have h2 : 0 ≤ u % (N : Int) := Int.emod_nonneg _ (by omega)
  have h3 : u % (N : Int) < (N : Int) := Int.emod_lt_of_pos _ (by omega)
  refine ⟨(u % (N : Int)).toNat, by omega, ?_⟩
  unfold wrap64; omega
theorem Sp.act_on {b : List UInt8} {sure room : Nat} : (Sp.mk b sure room (-1) false).act = (true, ⟨b, sure, room, -1, false⟩) := by
  unfold Sp.act; rw [if_neg (by simp), if_neg (by simp), if_neg (by simp)]
theorem Sp.add_on {b xs : List UInt8} {sure room : Nat} (h : b.length + xs.length ≤ room) : (Sp.mk b sure room (-1) false).add xs = (0, ⟨b ++ xs, sure, room, -1, false⟩) := by
  unfold Sp.add; rw [if_neg (by simp), if_neg (by simp only; omega), Sp.act_on]; rfl
theorem Sp.add_full {b xs : List UInt8} {sure room : Nat} (h : room < b.length + xs.length) : (Sp.mk b sure room (-1) false).add xs = (5, ⟨b, sure, room, -1, false⟩) := by
  unfold Sp.add; rw [if_neg (by simp), if_pos h]
theorem Sp.cut_on {b : List UInt8} {sure room : Nat} {m : Nat} (h : m ≤ b.length) : (Sp.mk b sure room (-1) false).cut m = (0, ⟨b.take m, m, room, -1, false⟩) := by
  unfold Sp.cut; rw [if_neg (by simp), if_neg (by simp only; omega), Sp.act_on]; rfl
theorem Sp.cut_bad {b : List UInt8} {sure room : Nat} {n : Int} (h : n < 0 ∨ (b.length : Int) < n) : (Sp.mk b sure room (-1) false).cut n = (2, ⟨b, sure, room, -1, false⟩) := by
  unfold Sp.cut; rw [if_neg (by simp), if_pos h]
/-- A row of noughts that was just made. -/
theorem zeros_reads (W : World) (k : Nat) (hk : k ≤ 9000) : kb.C (W.alloc (.cells (madeCells #[.int .u8 0] k) 5)) (some ⟨W.heap.size, 0, none⟩) (List.replicate k (0 : UInt8)).length (List.replicate k 0) := by
  have h := own_made W W.heap.size 5 .u8 k (Nat.le_refl _) (by omega)
  have e : nums .u8 (List.replicate k 0) = encs enc8 (List.replicate k 0) := by simp [nums, encs, enc8]
  rw [e] at h
  have ho : OwnB (W.alloc (.cells (madeCells #[.int .u8 0] k) 5)) W.heap.size (.slice (some ⟨W.heap.size, 0, none⟩) k k) (List.replicate k 0) := by
    unfold OwnB; rw [List.length_replicate]; exact h
  exact ho.at_.2.2
/-- Noughts are added. -/
theorem addz_h {w0 w : World} {l : List Asr} (H : Has w0 w l) (i p : Nat) (b : List UInt8) (sure room : Nat) (hi : l[i]? = some (spoolA p ⟨b, sure, room, -1, false⟩)) (k : Nat) (hk : k ≤ 9000) (r : Int) (s' : Sp) (hr : (Sp.mk b sure room (-1) false).add (List.replicate k 0) = (r, s')) :
    Calls Try.prog 41 #[.pointer (some ⟨p, 0, none⟩), .slice (some ⟨w.heap.size, 0, none⟩) k k] (w.alloc (.cells (madeCells #[.int .u8 0] k) 5)) fun e w' => e = .returned (.int .i64 r) ∧ Has w0 w' (l.set i (spoolA p s')) :=
  add_h (H.alloc _) i p _ hi (List.replicate k 0) k (by simp) _ k (zeros_reads w k hk) (Nat.le_refl _) r s' hr
/-- make([]byte, x) where x is k. -/
theorem mk_at (x : Int) (k : Nat) (hx : x = (k : Int)) (hk : k ≤ 9000) (W : World) :
    (Instr.makeSlice 22 (.int .i64 x) (.int .i64 x)).run Try.prog W = .ok (.slice (some ⟨W.heap.size, 0, none⟩) k k) (W.alloc (.cells (madeCells #[.int .u8 0] k) 5)) := by
  subst hx
  exact print_make (P := Try.prog) 22 5 .u8 1 Try.underlying22 info5 (by omega) k (by omega) W
set_option maxHeartbeats 1000000 in
set_option maxRecDepth 100000 in
theorem spoolRoom_calls (room n cut : Int) (w : World) :
    Calls Try.prog 12 #[.int .i64 room, .int .i64 n, .int .i64 cut] w fun e w' => e = .returned (.bool true) ∧ Below w.heap.size w w' := by
  obtain ⟨r0, hr0, er0⟩ := umod room 300 (by omega) (by omega)
  have er0' : wrap64 ((IntKind.u64.wrap room).tmod 300) = (r0 : Int) := er0
  obtain ⟨r, hr⟩ : ∃ r, r = 1 + r0 := ⟨_, rfl⟩
  obtain ⟨k, hk, ek⟩ := umod n (r + 1) (by omega) (by omega)
  obtain ⟨m, hm, em⟩ := umod cut (r + 1) (by omega) (by omega)
  have ek' : wrap64 ((IntKind.u64.wrap n).tmod ((r : Int) + 1)) = (k : Int) := ek
  have em' : wrap64 ((IntKind.u64.wrap cut).tmod ((r : Int) + 1)) = (m : Int) := em
  obtain ⟨q, hq⟩ : ∃ q, q = r - k := ⟨_, rfl⟩
  obtain ⟨t, ht⟩ : ∃ t, t = r - m := ⟨_, rfl⟩
  have HRI := Lib.hid (show wrap64 ((1 : Int) + (r0 : Int)) = (r : Int) by unfold wrap64; omega)
  have HER := Lib.hid er0'
  have HEK := congrArg (Value.int .i64) ek'
  have HEM := congrArg (Value.int .i64) em'
  have mk2 := mk_at ((r : Int) - (k : Int) + 1) (q + 1) (by omega) (by omega)
  have mk3 := mk_at ((r : Int) - (k : Int)) q (by omega) (by omega)
  have mk5 := mk_at ((r : Int) - (m : Int)) t (by omega) (by omega)
  have mk1 := mk_at ((k : Nat) : Int) k rfl (by omega)
  have mk4 := mk_at 1 1 rfl (by omega)
  obtain ⟨b1, hb1⟩ : ∃ b1 : List UInt8, List.replicate k 0 = b1 := ⟨_, rfl⟩
  obtain ⟨b2, hb2⟩ : ∃ b2 : List UInt8, b1 ++ List.replicate q 0 = b2 := ⟨_, rfl⟩
  obtain ⟨b3, hb3⟩ : ∃ b3 : List UInt8, b2.take m = b3 := ⟨_, rfl⟩
  obtain ⟨b4, hb4⟩ : ∃ b4 : List UInt8, b3 ++ List.replicate t 0 = b4 := ⟨_, rfl⟩
  have l1 : b1.length = k := by rw [← hb1]; simp
  have l2 : b2.length = r := by rw [← hb2]; simp [l1]; omega
  have l3 : b3.length = m := by rw [← hb3]; simp [l2]; omega
  have l4 : b4.length = r := by rw [← hb4]; simp [l3]; omega
  have hr3 : r ≤ 300 := by omega
  have hr1 : 1 ≤ r := by omega
  have A0 := Aside0.mk (show (Sp.mk [] 0 r (-1) false).add (List.replicate k 0) = (0, ⟨b1, 0, r, -1, false⟩) by rw [Sp.add_on (by simp; omega), hb1]; rfl)
  have A1 := Aside0.mk (show (Sp.mk b1 0 r (-1) false).add (List.replicate (q + 1) 0) = (5, ⟨b1, 0, r, -1, false⟩) by rw [Sp.add_full (by simp [l1]; omega)])
  have A2 := Aside0.mk (show (Sp.mk b1 0 r (-1) false).add (List.replicate q 0) = (0, ⟨b2, 0, r, -1, false⟩) by rw [Sp.add_on (by simp [l1]; omega), hb2])
  have A3 := Aside0.mk (show (Sp.mk b2 0 r (-1) false).add (List.replicate 1 0) = (5, ⟨b2, 0, r, -1, false⟩) by rw [Sp.add_full (by simp [l2])])
  have A4 := Aside0.mk (show (Sp.mk b2 0 r (-1) false).len = r by simp [Sp.len, l2])
  have A5 := Aside0.mk (show (Sp.mk b2 0 r (-1) false).cut (m : Int) = (0, ⟨b3, m, r, -1, false⟩) by rw [Sp.cut_on (by omega), hb3])
  have A6 := Aside0.mk (show (Sp.mk b3 m r (-1) false).cut ((m : Int) + 1) = (2, ⟨b3, m, r, -1, false⟩) by rw [Sp.cut_bad (by omega)])
  have A7 := Aside0.mk (show (Sp.mk b3 m r (-1) false).add (List.replicate t 0) = (0, ⟨b4, m, r, -1, false⟩) by rw [Sp.add_on (by simp [l3]; omega), hb4])
  have A8 := Aside0.mk (show (Sp.mk b4 m r (-1) false).len = r by simp [Sp.len, l4])
  have A9 := Aside0.mk (show (Sp.mk b4 m r (-1) false).sureN = m by simp [Sp.sureN])
  have A10 := Aside0.mk (show (Sp.mk b4 m r (-1) false).cut (-1) = (2, ⟨b4, m, r, -1, false⟩) by rw [Sp.cut_bad (by omega)])
  have hq3 : q + 1 ≤ 9000 := by omega
  have ht3 : t ≤ 9000 := by omega
  have hk3 : k ≤ r := by omega
  have hm3 : m ≤ r := by omega
  clear er0 er0' ek ek' em em' hr0 hr hq ht hb1 hb2 hb3 hb4 l1 l2 l3 l4 hk hm
  go_enter Try.func12, Try.ntmps12
  go_wp2_with fail
  rw [HER.out]
  go_wp2_with fail
  rw [HRI.out]
  refine (new_h _ (r : Int) (by omega) (by omega) ⟨[], 0, r, -1, false⟩ (by simp [Sp.new])).mono ?_
  rintro e w1 ⟨p, rfl, hf⟩
  have H1 : Aside0 (Has w w1 [spoolA p ⟨[], 0, r, -1, false⟩]) := Aside0.mk ((Has.start w).addE hf)
  clear hf
  go_wp2_with (first
    | (go_at_call 41; refine (addz_h H4.out 0 p b2 0 r rfl 1 (by omega) 5 _ A3.out).mono ?_; rintro e w5 ⟨rfl, hs⟩; have H5 : Aside0 (Has w w5 [spoolA p ⟨b2, 0, r, -1, false⟩]) := Aside0.mk hs; clear hs)
    | (go_at_call 41; refine (addz_h H3.out 0 p b1 0 r rfl q (by omega) 0 _ A2.out).mono ?_; rintro e w4 ⟨rfl, hs⟩; have H4 : Aside0 (Has w w4 [spoolA p ⟨b2, 0, r, -1, false⟩]) := Aside0.mk hs; clear hs)
    | (go_at_call 41; refine (addz_h H2.out 0 p b1 0 r rfl (q + 1) (by omega) 5 _ A1.out).mono ?_; rintro e w3 ⟨rfl, hs⟩; have H3 : Aside0 (Has w w3 [spoolA p ⟨b1, 0, r, -1, false⟩]) := Aside0.mk hs; clear hs)
    | (go_at_call 41; refine (addz_h H1.out 0 p [] 0 r rfl k (by omega) 0 _ A0.out).mono ?_; rintro e w2 ⟨rfl, hs⟩; have H2 : Aside0 (Has w w2 [spoolA p ⟨b1, 0, r, -1, false⟩]) := Aside0.mk hs; clear hs)
    | (go_at_call 46; refine (len_h H5.out 0 p _ rfl r A4.out).mono ?_; rintro e w' ⟨rfl, hw⟩; obtain rfl := hw.symm; clear hw))
  go_wp2_with (first
    | (go_at_call 37; refine (known18_calls _).mono ?_; rintro e w10 ⟨rfl, hb⟩; have H10 := Aside0.mk (H9.out.below hb); clear hb)
    | (go_at_call 50; refine (cut_h H8.out 0 p _ rfl (-1) 2 _ A10.out).mono ?_; rintro e w9 ⟨rfl, hs⟩; have H9 : Aside0 (Has w w9 [spoolA p ⟨b4, m, r, -1, false⟩]) := Aside0.mk hs; clear hs)
    | (go_at_call 45; refine (sure_h H8.out 0 p _ rfl m A9.out).mono ?_; rintro e w' ⟨rfl, hw⟩; obtain rfl := hw.symm; clear hw)
    | (go_at_call 46; refine (len_h H8.out 0 p _ rfl r A8.out).mono ?_; rintro e w' ⟨rfl, hw⟩; obtain rfl := hw.symm; clear hw)
    | (go_at_call 41; refine (addz_h H7.out 0 p b3 m r rfl t (by omega) 0 _ A7.out).mono ?_; rintro e w8 ⟨rfl, hs⟩; have H8 : Aside0 (Has w w8 [spoolA p ⟨b4, m, r, -1, false⟩]) := Aside0.mk hs; clear hs)
    | (go_at_call 50; refine (cut_h H6.out 0 p _ rfl ((m : Int) + 1) 2 _ A6.out).mono ?_; rintro e w7 ⟨rfl, hs⟩; have H7 : Aside0 (Has w w7 [spoolA p ⟨b3, m, r, -1, false⟩]) := Aside0.mk hs; clear hs)
    | (go_at_call 50; refine (cut_h H5.out 0 p _ rfl (m : Int) 0 _ A5.out).mono ?_; rintro e w6 ⟨rfl, hs⟩; have H6 : Aside0 (Has w w6 [spoolA p ⟨b3, m, r, -1, false⟩]) := Aside0.mk hs; clear hs))
  go_ret
  exact ⟨rfl, H10.out.old⟩
theorem spoolRoom_walk (w : World) (room : Int) (h1 : (Lit.int .i64 room).wf = true) (n : Int) (h2 : (Lit.int .i64 n).wf = true) (cut : Int) (h3 : (Lit.int .i64 cut).wf = true) :
    Calls Try.prog 12 #[.int .i64 room, .int .i64 n, .int .i64 cut] w fun e w' => e = .returned (.bool true) ∧ Below w.heap.size w w' := spoolRoom_calls room n cut w
end Go.Proofs.Ytahaoakolgomdaa
