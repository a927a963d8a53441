/- The walk of the law SpoolNil. -/
import Derived.Test.YtahaoakolgomdaaS25
namespace Go.Proofs.Ytahaoakolgomdaa
open Go.RowKit Go.Proofs.YtahaoakolgomdaaW.PrintWords Go.Proofs.YtahaoakolgomdaaW.PrintLast Go.Proofs.YtahaoakolgomdaaW.PrintMore
set_option linter.unusedVariables false
set_option linter.unusedSimpArgs false

theorem same_n (xs ys : List UInt8) (n m : Nat) (hn : n = xs.length) (hm : m = ys.length) (A A' : Option Addr) (c c' : Nat) (w : World) (h : kb.C w A xs.length xs) (h' : kb.C w A' ys.length ys) (b : Bool) (hb : sameB xs ys = b) :
    Calls Try.prog 27 #[.slice A n c, .slice A' m c'] w fun e w' => e = .returned (.bool b) ∧ w' = w := by
  subst hn hm hb
  exact same_calls xs ys A A' c c' w h h'
theorem Has.readB {w0 w : World} {l : List Asr} (h : Has w0 w l) (i : Nat) {A : Option Addr} {n c : Nat} {xs : List UInt8} (hi : l[i]? = some (bytesA (.slice A n c) xs)) : n = xs.length ∧ n ≤ c ∧ kb.C w A xs.length xs :=
  (h.bytes i hi).at_
theorem Has.none {w0 w : World} {l : List Asr} (h : Has w0 w l) : Has w0 w [] := by
  obtain ⟨⟨F, h1, h2⟩, h3⟩ := h
  exact ⟨⟨F, trivial, h2⟩, h3⟩
theorem sameB_self (xs : List UInt8) : sameB xs xs = true := by simp [sameB]
theorem sameB_of {xs ys : List UInt8} (h : xs = ys) : sameB xs ys = true := by simp [sameB, h]
theorem z_cuts {z a1 b : List UInt8} {k : Nat} {A : Option Addr} {c : Nat} (hlz : z.length = k + b.length) (h1 : z.take k = a1) (hl1 : a1.length = k) (h2 : z.drop k = b) (hc : k + b.length ≤ c) :
    ((∀ W : World, (Instr.slice 22 (.slice A (k + b.length) c) none (some (.int .i64 (k : Int))) none).run Try.prog W = .ok (.slice A k c) W) ∧ (∀ w : World, kb.C w A z.length z → kb.C w A a1.length a1)) ∧
    ∃ A' : Option Addr, (∀ W : World, (Instr.slice 22 (.slice A (k + b.length) c) (some (.int .i64 (k : Int))) none none).run Try.prog W = .ok (.slice A' b.length (c - k)) W) ∧ (∀ w : World, kb.C w A z.length z → kb.C w A' b.length b) := by
  rw [← hlz] at hc ⊢
  obtain ⟨e1, e2, _⟩ := cut_hi A c z k (by omega) hc
  obtain ⟨A', g1, g2, _⟩ := cut_lo A c z k (by omega) hc
  rw [h1, hl1] at e1
  rw [h1] at e2
  rw [h2] at g1 g2
  exact ⟨⟨e1, e2⟩, A', g1, g2⟩
theorem a_cut {a a1 : List UInt8} {k : Nat} {A : Option Addr} {c : Nat} (h1 : a.take k = a1) (hl1 : a1.length = k) (hc : a.length ≤ c) (hk : k ≤ a.length) :
    (∀ W : World, (Instr.slice 22 (.slice A a.length c) none (some (.int .i64 (k : Int))) none).run Try.prog W = .ok (.slice A k c) W) ∧ (∀ w : World, kb.C w A a.length a → kb.C w A a1.length a1) := by
  obtain ⟨e1, e2, _⟩ := cut_hi A c a k hk hc
  rw [h1, hl1] at e1
  rw [h1] at e2
  exact ⟨e1, e2⟩
set_option maxHeartbeats 1000000 in
set_option maxRecDepth 100000 in
theorem spoolNil_calls (a b : List UInt8) (A B : Option Addr) (c d : Nat) (cut : Int) (w : World) (ha : kb.C w A a.length a) (hb : kb.C w B b.length b) (hac : a.length ≤ c) (hbd : b.length ≤ d) (hla : a.length ≤ 300) (hlb : b.length ≤ 300) :
    Calls Try.prog 13 #[.slice A a.length c, .slice B b.length d, .int .i64 cut] w fun e w' => e = .returned (.bool true) ∧ Below w.heap.size w w' := by
  obtain ⟨k, hk, ek⟩ := umod cut (a.length + 1) (by omega) (by omega)
  have ek' : wrap64 ((IntKind.u64.wrap cut).tmod ((a.length : Int) + 1)) = (k : Int) := ek
  have HEK := congrArg (Value.int .i64) ek'
  obtain ⟨z, hz⟩ : ∃ z, a.take k ++ b = z := ⟨_, rfl⟩
  obtain ⟨a1, ha1⟩ : ∃ a1, a.take k = a1 := ⟨_, rfl⟩
  have hl1 : a1.length = k := by rw [← ha1, List.length_take]; omega
  have hlz : z.length = k + b.length := by rw [← hz, List.length_append, ha1, hl1]
  have hz1 : z.take k = a1 := by rw [← hz, ha1, ← hl1, List.take_left' rfl]
  have hz2 : z.drop k = b := by rw [← hz, ha1, ← hl1, List.drop_left' rfl]
  have A0 := Aside0.mk (show (Sp.mk [] 0 2000 (-1) false).add a = (0, ⟨a, 0, 2000, -1, false⟩) by rw [Sp.add_on (by simp; omega)]; rfl)
  have A1 := Aside0.mk (show (Sp.mk a 0 2000 (-1) false).cut (k : Int) = (0, ⟨a1, k, 2000, -1, false⟩) by rw [Sp.cut_on (by omega), ha1])
  have A2 := Aside0.mk (show (Sp.mk a1 k 2000 (-1) false).add b = (0, ⟨z, k, 2000, -1, false⟩) by rw [Sp.add_on (by omega), ← hz, ha1])
  have hka : k ≤ a.length := by omega
  have HA := Aside0.mk ha
  have HB := Aside0.mk hb
  have HLZ := Lib.hid hlz
  have HZ1 := Aside0.mk hz1
  have HZ2 := Aside0.mk hz2
  have HA1 := Aside0.mk ha1
  have HL1 := Lib.hid hl1
  clear ek ek' hk hz hl1 hlz hz1 hz2 ha1 ha hb
  go_enter Try.func13, Try.ntmps13
  go_wp2_with (first
    | (go_at_call 43; refine (bytes_h H8.out 0 p _ rfl z rfl (k + b.length) HLZ.out.symm).mono ?_; rintro e w9 ⟨A9, c9, rfl, hf⟩; have H9 : Aside0 (Has w w9 [spoolA p ⟨z, k, 2000, -1, false⟩, spoolA q ⟨[], 0, 2000, -1, false⟩, bytesA (.slice A4 a.length c4) a, bytesA (.slice A7 (k + b.length) c7) ys, bytesA (.slice A9 (k + b.length) c9) z]) := Aside0.mk (H8.out.addE hf); obtain ⟨hm1, hr1⟩ := (H9.out.readB 4 rfl).2; obtain ⟨cut1, cut2⟩ := z_cuts HLZ.out HZ1.out HL1.out HZ2.out hm1; obtain ⟨cut3, HAR1'⟩ := a_cut HA1.out HL1.out hac hka; obtain ⟨B9, cut2', HZR2'⟩ := cut2; have HZR1 := Aside0.mk (cut1.2 _ hr1); have HZR2 := Aside0.mk (HZR2' _ hr1); have HAR1 := Aside0.mk (HAR1' _ (Kd.C_below HA.out H9.out.old)); have cut1' := cut1.1; have HAA := Aside0.mk (Kd.C_below HA.out H9.out.old); have HBB := Aside0.mk (Kd.C_below HB.out H9.out.old); have HXR := Aside0.mk (H9.out.readB 2 rfl).2.2; clear hf cut1 hr1 HZR2' HAR1')
    | (go_at_call 24; refine (spoil_h H7.out 3 _ _ rfl).mono ?_; rintro e w8 ⟨rfl, ys, hys, hs⟩; have H8 : Aside0 (Has w w8 [spoolA p ⟨z, k, 2000, -1, false⟩, spoolA q ⟨[], 0, 2000, -1, false⟩, bytesA (.slice A4 a.length c4) a, bytesA (.slice A7 (k + b.length) c7) ys]) := Aside0.mk hs; clear hs hys)
    | (go_at_call 43; refine (bytes_h H6.out 0 p _ rfl z rfl (k + b.length) HLZ.out.symm).mono ?_; rintro e w7 ⟨A7, c7, rfl, hf⟩; have H7 : Aside0 (Has w w7 [spoolA p ⟨z, k, 2000, -1, false⟩, spoolA q ⟨[], 0, 2000, -1, false⟩, bytesA (.slice A4 a.length c4) a, bytesA (.slice A7 (k + b.length) c7) z]) := Aside0.mk (H6.out.addE hf); clear hf)
    | (go_at_call 41; refine (add_h H5.out 0 p _ rfl b b.length rfl B d (Kd.C_below HB.out H5.out.old) hbd 0 _ A2.out).mono ?_; rintro e w6 ⟨rfl, hs⟩; have H6 : Aside0 (Has w w6 [spoolA p ⟨z, k, 2000, -1, false⟩, spoolA q ⟨[], 0, 2000, -1, false⟩, bytesA (.slice A4 a.length c4) a]) := Aside0.mk hs; clear hs)
    | (go_at_call 50; refine (cut_h H4.out 0 p _ rfl (k : Int) 0 _ A1.out).mono ?_; rintro e w5 ⟨rfl, hs⟩; have H5 : Aside0 (Has w w5 [spoolA p ⟨a1, k, 2000, -1, false⟩, spoolA q ⟨[], 0, 2000, -1, false⟩, bytesA (.slice A4 a.length c4) a]) := Aside0.mk hs; clear hs)
    | (go_at_call 43; refine (bytes_h H3.out 0 p _ rfl a rfl a.length rfl).mono ?_; rintro e w4 ⟨A4, c4, rfl, hf⟩; have H4 : Aside0 (Has w w4 [spoolA p ⟨a, 0, 2000, -1, false⟩, spoolA q ⟨[], 0, 2000, -1, false⟩, bytesA (.slice A4 a.length c4) a]) := Aside0.mk (H3.out.addE hf); clear hf)
    | (go_at_call 41; refine (add_h H2.out 0 p _ rfl a a.length rfl A c (Kd.C_below HA.out H2.out.old) hac 0 _ A0.out).mono ?_; rintro e w3 ⟨rfl, hs⟩; have H3 : Aside0 (Has w w3 [spoolA p ⟨a, 0, 2000, -1, false⟩, spoolA q ⟨[], 0, 2000, -1, false⟩]) := Aside0.mk hs; clear hs)
    | (go_at_call 38; refine (new_h _ 2000 (by omega) (by omega) ⟨[], 0, 2000, -1, false⟩ rfl).mono ?_; rintro e w2 ⟨q, rfl, hf⟩; have H2 : Aside0 (Has w w2 [spoolA p ⟨[], 0, 2000, -1, false⟩, spoolA q ⟨[], 0, 2000, -1, false⟩]) := Aside0.mk (H1.out.addE hf); clear hf)
    | (go_at_call 38; refine (new_h _ 2000 (by omega) (by omega) ⟨[], 0, 2000, -1, false⟩ rfl).mono ?_; rintro e w1 ⟨p, rfl, hf⟩; have H1 : Aside0 (Has w w1 [spoolA p ⟨[], 0, 2000, -1, false⟩]) := Aside0.mk ((Has.start w).addE hf); clear hf)
    | (go_at_call 39; refine (nil_off _ _).mono ?_; rintro e w' ⟨rfl, hw⟩; obtain rfl := hw.symm; clear hw)
    | (go_at_call 44; refine (nil_crash _ _).mono ?_; rintro e w' ⟨rfl, hw⟩; obtain rfl := hw.symm; clear hw)
    | (go_at_call 43; refine (nil_bytes _).mono ?_; rintro e w' ⟨rfl, hw⟩; obtain rfl := hw.symm; clear hw)
    | (go_at_call 46; refine (nil_len _).mono ?_; rintro e w' ⟨rfl, hw⟩; obtain rfl := hw.symm; clear hw)
    | (go_at_call 45; refine (nil_sure _).mono ?_; rintro e w' ⟨rfl, hw⟩; obtain rfl := hw.symm; clear hw)
    | (go_at_call 42; refine (nil_on _).mono ?_; rintro e w' ⟨rfl, hw⟩; obtain rfl := hw.symm; clear hw)
    | (go_at_call 41; refine (nil_add _ _).mono ?_; rintro e w' ⟨rfl, hw⟩; obtain rfl := hw.symm; clear hw)
    | (go_at_call 40; refine (nil_sync _).mono ?_; rintro e w' ⟨rfl, hw⟩; obtain rfl := hw.symm; clear hw)
    | (go_at_call 50; refine (nil_cut _ _).mono ?_; rintro e w' ⟨rfl, hw⟩; obtain rfl := hw.symm; clear hw))
  rw [HEK]
  have HE := Aside0.mk H9.out.none
  clear HEK
  have hw1 : IntKind.i64.wrap ((k : Int) + (b.length : Int)) = (k : Int) + (b.length : Int) := IntWalk.i64_in _ (by omega)
  refine wp_region_still_tail 37 (by kernel_rfl) (by kernel_rfl) ?_
  simp only [List.take_succ_cons, List.take_zero, List.drop_succ_cons, List.drop_zero]
  repeat still_step
  refine wpStill_step (fun K hK => ?_)
  go_simp
  refine ⟨_, same_n a a _ _ rfl rfl _ _ _ _ _ (Kd.C_drew HXR.out) (Kd.C_drew HAA.out) true (sameB_self _), hK _ ?_⟩
  clear hK K
  repeat still_step
  refine wpStill_step (fun K hK => ?_)
  go_simp
  refine ⟨_, same_n a1 a1 _ _ HL1.out.symm HL1.out.symm _ _ _ _ _ (Kd.C_drew HZR1.out) (Kd.C_drew HAR1.out) true (sameB_self _), hK _ ?_⟩
  clear hK K
  repeat still_step
  refine wpStill_step (fun K hK => ?_)
  go_simp
  refine ⟨_, same_n b b _ _ rfl rfl _ _ _ _ _ (Kd.C_drew HZR2.out) (Kd.C_drew HBB.out) true (sameB_self _), hK _ ?_⟩
  clear hK K
  repeat still_step
  refine wpStill_step (fun K hK => ?_)
  go_simp
  refine ⟨_, len_h H9.out.drew 1 q _ rfl 0 rfl, hK _ ?_⟩
  clear hK K
  repeat still_step
  refine wpStill_nil ?_
  clear hw1
  go_wp2_with (go_at_call 37; refine (known18_calls _).mono ?_; rintro e w10 ⟨rfl, hb⟩; have H10 := Aside0.mk (Has.below HE.out.drew hb); clear hb)
  go_ret
  exact ⟨rfl, H10.out.old⟩
theorem spoolNil_long (a b : List UInt8) (A B : Option Addr) (c d : Nat) (cut : Int) (w : World) (ma : a.length ≤ 9223372036854775807) (mb : b.length ≤ 9223372036854775807) (h : 300 < a.length ∨ 300 < b.length) :
    Calls Try.prog 13 #[.slice A a.length c, .slice B b.length d, .int .i64 cut] w fun e w' => e = .returned (.bool true) ∧ Below w.heap.size w w' := by
  by_cases h1 : 300 < a.length
  · have h1' : (300 : Int) < (a.length : Int) := by omega
    clear h h1
    go_enter Try.func13, Try.ntmps13
    go_wp2_with (go_at_call 37; refine (known18_calls _).mono ?_; rintro e w1 ⟨rfl, hb⟩; have HB := Aside0.mk hb; clear hb)
    go_ret
    exact ⟨rfl, HB.out⟩
  · have h2' : (300 : Int) < (b.length : Int) := by omega
    have h1' : ¬ (300 : Int) < (a.length : Int) := by omega
    clear h h1
    go_enter Try.func13, Try.ntmps13
    go_wp2_with (go_at_call 37; refine (known18_calls _).mono ?_; rintro e w1 ⟨rfl, hb⟩; have HB := Aside0.mk hb; clear hb)
    go_ret
    exact ⟨rfl, HB.out⟩
theorem spoolNil_walk (w : World) (xs : List UInt8) (A : Option Addr) (c : Nat) (ka : kb.C w A xs.length xs) (hca : xs.length ≤ c) (_ : xs.length ≤ 140737488351232) (ys : List UInt8) (B : Option Addr) (c' : Nat) (k2 : kb.C w B ys.length ys) (hcb : ys.length ≤ c') (_ : ys.length ≤ 140737488351232)
    (cut : Int) (_ : (Lit.int .i64 cut).wf = true) :
    Calls Try.prog 13 #[.slice A xs.length c, .slice B ys.length c', .int .i64 cut] w fun e w' => e = .returned (.bool true) ∧ Below w.heap.size w w' := by
  by_cases h : 300 < xs.length ∨ 300 < ys.length
  · exact spoolNil_long xs ys A B c c' cut w ka.2.1 k2.2.1 h
  · exact spoolNil_calls xs ys A B c c' cut w ka k2 hca hcb (by omega) (by omega)
end Go.Proofs.Ytahaoakolgomdaa
