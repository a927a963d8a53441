/- The walk of the law CrateApart. -/
import Derived.Test.YtahaoakolgomdaaS13
import Derived.Test.YtahaoakolgomdaaS14
namespace Go.Proofs.Ytahaoakolgomdaa
open Go.RowKit Go.Proofs.YtahaoakolgomdaaW.PrintWords Go.Proofs.YtahaoakolgomdaaW.PrintLast Go.Proofs.YtahaoakolgomdaaW.PrintMore
set_option linter.unusedVariables false
set_option linter.unusedSimpArgs false

theorem hd2_inj (n m : Nat) (hn : n ≤ 8000) (hm : m ≤ 8000) (h : hd2 n = hd2 m) : n = m := by
  simp only [hd2, List.cons.injEq, and_true] at h
  obtain ⟨h1, h2⟩ := h
  have e1 := congrArg UInt8.toNat h1
  have e2 := congrArg UInt8.toNat h2
  rw [UInt8.toNat_ofNat', UInt8.toNat_ofNat'] at e1 e2
  omega
/-- A crate is the begin of another one's only if the bodies are the same. -/
theorem begins_iff (a b : List UInt8) (ha : a.length ≤ 8000) (hb : b.length ≤ 8000) (hl : a.length ≤ b.length) : putS a = (putS b).take (a.length + 7) ↔ a = b := by
  constructor
  · intro h
    have hpb : (putS b).take (a.length + 7) = [0xc5, UInt8.ofNat (b.length / 256), UInt8.ofNat b.length] ++ (b ++ le4 (crc (mid b))).take (a.length + 4) := by
      rw [putS_form]; rfl
    rw [hpb, putS_form] at h
    have h1 : hd2 a.length = hd2 b.length := by
      have := congrArg (List.take 3) h
      simp only [List.cons_append, List.nil_append, List.take_succ_cons, List.take_zero, List.cons.injEq, and_true, true_and] at this
      simp only [hd2, List.cons.injEq, and_true]
      exact this
    have hlen := hd2_inj _ _ ha hb h1
    have h2 : (a ++ le4 (crc (mid a))) = (b ++ le4 (crc (mid b))).take (a.length + 4) := by
      have := congrArg (List.drop 3) h
      exact this
    have h3 := congrArg (List.take a.length) h2
    rw [List.take_left' rfl, List.take_take, Nat.min_eq_left (by omega), hlen, List.take_left' rfl] at h3
    exact h3
  · intro h; subst h
    rw [List.take_of_length_le (by rw [putS_length]; omega)]
theorem get_ahead (a b ah : List UInt8) (ha : a.length ≤ 8000) : getS (ah ++ putS a ++ putS b) ah.length = (a, (ah.length : Int) + ((a.length : Int) + 7), 0) := by
  rw [getS_at (ah ++ putS a ++ putS b) ah.length a (putS b) (by rw [List.append_assoc, List.drop_left' rfl]) ha]
  congr 2
theorem same_b (xs ys : List UInt8) (n m : Nat) (hn : n = xs.length) (hm : m = ys.length) (A A' : Option Addr) (c c' : Nat) (w : World) (h : kb.C w A xs.length xs) (h' : kb.C w A' ys.length ys) (b : Bool) (hb : sameB xs ys = b) :
    Calls Try.prog 27 #[.slice A n c, .slice A' m c'] w fun e w' => e = .returned (.bool b) ∧ w' = w := by
  subst hn hm hb
  exact same_calls xs ys A A' c c' w h h'
theorem get_n (xs : List UInt8) (n : Nat) (hn : n = xs.length) (A : Option Addr) (c : Nat) (w : World) (h : kb.C w A xs.length xs) (hc : n ≤ c) (at_ : Int) (r : List UInt8 × Int × Int) (hr : getS xs at_ = r) (m : Nat) (hm : m = r.1.length) :
    Calls Try.prog 29 #[.slice A n c, .int .i64 at_] w fun e w' => ∃ A1 c1, e = .returned (.tuple #[.slice A1 m c1, .int .i64 r.2.1, .int .i64 r.2.2]) ∧ OwnB w' w.heap.size (.slice A1 m c1) r.1 ∧ Below w.heap.size w w' := by
  subst hn hr hm
  exact get_form 29 _ w _ (get_calls xs A c w h hc at_)
theorem copy_m (xs : List UInt8) (n : Nat) (hn : n = xs.length) (A : Option Addr) (c : Nat) (w : World) (h : kb.C w A xs.length xs) (hl : n ≤ 1000000) :
    Calls Try.prog 35 #[.slice A n c] w fun e w' => ∃ A1 c1, e = .returned (.slice A1 n c1) ∧ OwnB w' w.heap.size (.slice A1 n c1) xs ∧ Below w.heap.size w w' := by
  subst hn
  refine (copy_calls xs A c w h (by omega)).mono ?_
  rintro e w' ⟨v, rfl, ho, hb⟩
  obtain ⟨A1, c1, rfl, _, _⟩ := ho.reads
  exact ⟨A1, c1, rfl, ho, hb⟩
theorem crateApart_long (a b h : List UInt8) (A B H : Option Addr) (c c' c'' : Nat) (w : World) (ma : a.length ≤ 9223372036854775807) (mb : b.length ≤ 9223372036854775807) (mh : h.length ≤ 9223372036854775807) (hn : 8000 < a.length ∨ 8000 < b.length ∨ 8000 < h.length) :
    Calls Try.prog 8 #[.slice A a.length c, .slice B b.length c', .slice H h.length c''] w fun e w' => e = .returned (.bool true) ∧ Below w.heap.size w w' := by
  by_cases ha : 8000 < a.length
  · clear hn
    go_enter Try.func8, Try.ntmps8
    go_wp2_with (go_at_call 19; refine (known17_calls _).mono ?_; rintro e w1 ⟨rfl, hb⟩; have HB := Aside0.mk hb; clear hb)
    go_ret
    exact ⟨rfl, HB.out⟩
  · by_cases hb : 8000 < b.length
    · clear hn
      go_enter Try.func8, Try.ntmps8
      go_wp2_with (go_at_call 19; refine (known17_calls _).mono ?_; rintro e w1 ⟨rfl, hb⟩; have HB := Aside0.mk hb; clear hb)
      go_ret
      exact ⟨rfl, HB.out⟩
    · have hh : 8000 < h.length := by omega
      clear hn
      go_enter Try.func8, Try.ntmps8
      go_wp2_with (go_at_call 19; refine (known17_calls _).mono ?_; rintro e w1 ⟨rfl, hb⟩; have HB := Aside0.mk hb; clear hb)
      go_ret
      exact ⟨rfl, HB.out⟩
set_option maxHeartbeats 2000000 in
set_option maxRecDepth 100000 in
theorem crateApart_calls (a b h : List UInt8) (A B H : Option Addr) (c c' c'' : Nat) (w : World) (ka : kb.C w A a.length a) (kb_ : kb.C w B b.length b) (kh : kb.C w H h.length h) (ha : a.length ≤ 8000) (hb : b.length ≤ 8000) (hh : h.length ≤ 8000) :
    Calls Try.prog 8 #[.slice A a.length c, .slice B b.length c', .slice H h.length c''] w fun e w' => e = .returned (.bool true) ∧ Below w.heap.size w w' := by
  have KA := Aside0.mk ka
  have KB := Aside0.mk kb_
  have KH := Aside0.mk kh
  clear ka kb_ kh
  have tok1 : True := trivial
  have tok2 : True := trivial
  have tok3 : True := trivial
  have KA0 := Aside0.mk KA.out
  have KB0 := Aside0.mk KB.out
  have KH0 := Aside0.mk KH.out
  obtain ⟨la, hla⟩ : ∃ n, n = a.length := ⟨_, rfl⟩
  obtain ⟨lb, hlb⟩ : ∃ n, n = b.length := ⟨_, rfl⟩
  obtain ⟨lh, hlh⟩ : ∃ n, n = h.length := ⟨_, rfl⟩
  have PA := Aside0.mk (fun A c w (k : kb.C w A a.length a) => put_good a A c w k ha)
  have PB := Aside0.mk (fun A c w (k : kb.C w A b.length b) => put_good b A c w k hb)
  have HBG := Lib.hid (show lb < la → sameB a b = false from fun hlt => by unfold sameB; rw [decide_eq_false_iff_not]; intro e; subst e; omega)
  have HIF := Aside0.mk (show la ≤ lb → sameB (putS a) ((putS b).take (la + 7)) = sameB a b from fun hle => by
    have := begins_iff a b ha hb (by omega)
    rw [← hla] at this
    unfold sameB; rw [Bool.eq_iff_iff, decide_eq_true_eq, decide_eq_true_eq]; exact this)
  rw [← hla] at KA PA ha ⊢
  rw [← hlb] at KB PB hb ⊢
  rw [← hlh] at KH hh ⊢
  have HA := Lib.hid hla
  have HBL := Lib.hid hlb
  have HH := Lib.hid hlh
  obtain ⟨bg, hbg⟩ : ∃ bg, bg = sameB a b := ⟨_, rfl⟩
  rw [← hbg] at HBG HIF
  have HBB := Lib.hid hbg
  have hcut : ∀ (A2 : Option Addr) (c2 : Nat), lb + 7 ≤ c2 → la ≤ lb → ∀ W : World, (Instr.slice 22 (.slice A2 (lb + 7) c2) none (some (.int .i64 ((la : Int) + 7))) none).run Try.prog W = .ok (.slice A2 (la + 7) c2) W := by
    intro A2 c2 h1 h2 W
    have := cut_room A2 (lb + 7) c2 (la + 7) (by omega) W
    rwa [Int.natCast_add] at this
  have HCUT := Aside0.mk hcut
  have HG := Aside0.mk (show getS (h ++ putS a ++ putS b) lh = (a, (lh : Int) + ((la : Int) + 7), 0) by rw [hlh, hla]; exact get_ahead a b h (by omega))
  have HZL := Lib.hid (show lh + (la + 7) + (lb + 7) = (h ++ putS a ++ putS b).length by rw [List.length_append, List.length_append, putS_length, putS_length]; omega)
  have HZ1 := Lib.hid (show lh + (la + 7) = (h ++ putS a).length by rw [List.length_append, putS_length]; omega)
  clear hla hlb hlh hbg hcut
  rcases Nat.lt_or_ge lb la with hlt | hle
  · have hd : decide ((la : Int) + 7 ≤ (lb : Int) + 7) = false := by simp; omega
    have hd2 : decide (la ≤ lb) = false := by simp; omega
    obtain rfl : bg = false := HBG.out hlt
    go_enter Try.func8, Try.ntmps8
    go_wp2_with (first
      | (go_at_call 22; have _t := tok1; refine (PA.out A c _ KA.out).mono ?_; rintro e w1 ⟨A1, c1, rfl, hc1, hr1, ho1, hb1⟩; have HO1 := Aside0.mk ho1; have HB1 := Aside0.mk hb1; clear tok1 _t hr1 ho1 hb1)
      | (go_at_call 22; refine (PB.out B c' _ (Kd.C_below KB.out HB1.out)).mono ?_; rintro e w2 ⟨A2, c2, rfl, hc2, hr2, ho2, hb2⟩; have HO2 := Aside0.mk ho2; have HP2 := Aside0.mk (HO1.out.below hb2); have HB2 := Aside0.mk (below_then HB1.out HB1.out.size hb2); clear hr2 ho2 hb2)
      | (go_at_call 35; refine (copy_m h lh HH.out H c'' _ (Kd.C_below KH0.out HB2.out) (by omega)).mono ?_; rintro e w3 ⟨A3, c3, rfl, ho3, hb3⟩; have HX3 := Aside0.mk ho3; have HC3 := Aside0.mk hb3; have HZ3 := Aside0.mk (show w2.heap.size ≤ w3.heap.size from hb3.size); clear ho3 hb3)
      | (at_builtin; refine app_bytes w2.heap.size rfl (.tmp 69) (.tmp 70) rfl (.slice A3 lh c3) h (putS a) (h ++ putS a) rfl A1 (la + 7) c1 rfl rfl HX3.out ?r1 HZ3.out ?l1 ?_; (case r1 => (have := (HP2.out.below HC3.out).at_; rw [this.1]; exact this.2.2)); (case l1 => rw [← HH.out]; omega); intro v4 w4 ho4 hg4 hat4; have HC4 := Aside0.mk (HC3.out.grown hg4 HZ3.out (fun q hq => HX3.out.base_le q hq)); obtain ⟨A4, c4, rfl, hc4, _⟩ := ho4.reads; rw [← HZ1.out] at ho4 ⊢; have HX4 := Aside0.mk ho4; clear ho4 hg4 hat4)
      | (at_builtin; refine app_bytes w2.heap.size rfl (.tmp 72) (.tmp 73) rfl (.slice A4 (lh + (la + 7)) c4) (h ++ putS a) (putS b) (h ++ putS a ++ putS b) rfl A2 (lb + 7) c2 rfl rfl HX4.out ?r2 HC4.out.size ?l2 ?_; (case r2 => (have := (HO2.out.below HC4.out).at_; rw [this.1]; exact this.2.2)); (case l2 => rw [← HZ1.out]; omega); intro v5 w5 ho5 hg5 hat5; have HC5 := Aside0.mk (HC4.out.grown hg5 HC4.out.size (fun q hq => HX4.out.base_le q hq)); obtain ⟨A5, c5, rfl, hc5, _⟩ := ho5.reads; rw [← HZL.out] at ho5 hc5 ⊢; have HX5 := Aside0.mk ho5; have hc5' := hc5; clear ho5 hg5 hat5)
      | (go_at_call 29; refine (get_n (h ++ putS a ++ putS b) (lh + (la + 7) + (lb + 7)) HZL.out A5 c5 _ HX5.out.at_.2.2 hc5' lh _ HG.out la HA.out).mono ?_; rintro e w6 ⟨A6, c6, rfl, ho6, hb6⟩; have HC6 := Aside0.mk (below_then HC5.out HC5.out.size hb6); have HX6 := Aside0.mk ho6; have HB6 := Aside0.mk (HB2.out.trans (HC6.out.mono HB2.out.size)); clear ho6 hb6)
      | (go_at_call 27; have _t := tok3; refine (same_b a b la lb HA.out HBL.out A B c c' _ (Kd.C_below KA0.out HB6.out) (Kd.C_below KB0.out HB6.out) false HBB.out.symm).mono ?_; rintro e w' ⟨rfl, hw⟩; obtain rfl := hw.symm; clear hw tok3 _t)
      | (go_at_call 27; refine (same_b a a la la HA.out HA.out A6 A c6 c _ HX6.out.at_.2.2 (Kd.C_below KA0.out HB6.out) true (by unfold sameB; simp)).mono ?_; rintro e w' ⟨rfl, hw⟩; obtain rfl := hw.symm; clear hw)
      | (go_at_call 19; refine (known17_calls _).mono ?_; rintro e w7 ⟨rfl, hb⟩; have HB7 := Aside0.mk (below_then HB6.out HB6.out.size hb); clear hb))
    go_ret
    exact ⟨rfl, HB7.out⟩
  · have hd : decide ((la : Int) + 7 ≤ (lb : Int) + 7) = true := by simp; omega
    have hd2 : decide (la ≤ lb) = true := by simpa using hle
    go_enter Try.func8, Try.ntmps8
    go_wp2_with (first
      | (go_at_call 22; have _t := tok1; refine (PA.out A c _ KA.out).mono ?_; rintro e w1 ⟨A1, c1, rfl, hc1, hr1, ho1, hb1⟩; have HO1 := Aside0.mk ho1; have HB1 := Aside0.mk hb1; clear tok1 _t hr1 ho1 hb1)
      | (go_at_call 22; refine (PB.out B c' _ (Kd.C_below KB.out HB1.out)).mono ?_; rintro e w2 ⟨A2, c2, rfl, hc2, hr2, ho2, hb2⟩; have HO2 := Aside0.mk ho2; have HP2 := Aside0.mk (HO1.out.below hb2); have HB2 := Aside0.mk (below_then HB1.out HB1.out.size hb2); have hct := HCUT.out A2 c2 hc2 hle; clear hr2 ho2 hb2)
      | (go_at_call 27; have _t := tok2; (refine (same_b (putS a) ((putS b).take (la + 7)) (la + 7) (la + 7) (by rw [putS_length, HA.out]) (by rw [List.length_take, putS_length, ← HBL.out]; omega) A1 A2 c1 c2 _ HP2.out.at_.2.2 (kb_take HO2.out.at_.2.2 _ (by rw [putS_length, ← HBL.out]; omega)) bg (HIF.out hle)).mono ?_; rintro e w' ⟨rfl, hw⟩; obtain rfl := hw.symm; clear hw tok2 _t))
      | (go_at_call 35; refine (copy_m h lh HH.out H c'' _ (Kd.C_below KH0.out HB2.out) (by omega)).mono ?_; rintro e w3 ⟨A3, c3, rfl, ho3, hb3⟩; have HX3 := Aside0.mk ho3; have HC3 := Aside0.mk hb3; have HZ3 := Aside0.mk (show w2.heap.size ≤ w3.heap.size from hb3.size); clear ho3 hb3)
      | (at_builtin; refine app_bytes w2.heap.size rfl (.tmp 69) (.tmp 70) rfl (.slice A3 lh c3) h (putS a) (h ++ putS a) rfl A1 (la + 7) c1 rfl rfl HX3.out ?r1 HZ3.out ?l1 ?_; (case r1 => (have := (HP2.out.below HC3.out).at_; rw [this.1]; exact this.2.2)); (case l1 => rw [← HH.out]; omega); intro v4 w4 ho4 hg4 hat4; have HC4 := Aside0.mk (HC3.out.grown hg4 HZ3.out (fun q hq => HX3.out.base_le q hq)); obtain ⟨A4, c4, rfl, hc4, _⟩ := ho4.reads; rw [← HZ1.out] at ho4 ⊢; have HX4 := Aside0.mk ho4; clear ho4 hg4 hat4)
      | (at_builtin; refine app_bytes w2.heap.size rfl (.tmp 72) (.tmp 73) rfl (.slice A4 (lh + (la + 7)) c4) (h ++ putS a) (putS b) (h ++ putS a ++ putS b) rfl A2 (lb + 7) c2 rfl rfl HX4.out ?r2 HC4.out.size ?l2 ?_; (case r2 => (have := (HO2.out.below HC4.out).at_; rw [this.1]; exact this.2.2)); (case l2 => rw [← HZ1.out]; omega); intro v5 w5 ho5 hg5 hat5; have HC5 := Aside0.mk (HC4.out.grown hg5 HC4.out.size (fun q hq => HX4.out.base_le q hq)); obtain ⟨A5, c5, rfl, hc5, _⟩ := ho5.reads; rw [← HZL.out] at ho5 hc5 ⊢; have HX5 := Aside0.mk ho5; have hc5' := hc5; clear ho5 hg5 hat5)
      | (go_at_call 29; refine (get_n (h ++ putS a ++ putS b) (lh + (la + 7) + (lb + 7)) HZL.out A5 c5 _ HX5.out.at_.2.2 hc5' lh _ HG.out la HA.out).mono ?_; rintro e w6 ⟨A6, c6, rfl, ho6, hb6⟩; have HC6 := Aside0.mk (below_then HC5.out HC5.out.size hb6); have HX6 := Aside0.mk ho6; have HB6 := Aside0.mk (HB2.out.trans (HC6.out.mono HB2.out.size)); clear ho6 hb6)
      | (go_at_call 27; have _t := tok3; refine (same_b a b la lb HA.out HBL.out A B c c' _ (Kd.C_below KA0.out HB6.out) (Kd.C_below KB0.out HB6.out) bg HBB.out.symm).mono ?_; rintro e w' ⟨rfl, hw⟩; obtain rfl := hw.symm; clear hw tok3 _t)
      | (go_at_call 27; refine (same_b a a la la HA.out HA.out A6 A c6 c _ HX6.out.at_.2.2 (Kd.C_below KA0.out HB6.out) true (by unfold sameB; simp)).mono ?_; rintro e w' ⟨rfl, hw⟩; obtain rfl := hw.symm; clear hw)
      | (go_at_call 19; refine (known17_calls _).mono ?_; rintro e w7 ⟨rfl, hb⟩; have HB7 := Aside0.mk (below_then HB6.out HB6.out.size hb); clear hb))
    go_ret
    exact ⟨rfl, HB7.out⟩
theorem crateApart_walk (w : World) (a : List UInt8) (A : Option Addr) (c : Nat) (ka : kb.C w A a.length a) (_ : a.length ≤ c) (_ : a.length ≤ 140737488351232) (b : List UInt8) (B : Option Addr) (c' : Nat) (k2 : kb.C w B b.length b) (_ : b.length ≤ c') (_ : b.length ≤ 140737488351232)
    (h : List UInt8) (H : Option Addr) (c'' : Nat) (k3 : kb.C w H h.length h) (_ : h.length ≤ c'') (_ : h.length ≤ 140737488351232) :
    Calls Try.prog 8 #[.slice A a.length c, .slice B b.length c', .slice H h.length c''] w fun e w' => e = .returned (.bool true) ∧ Below w.heap.size w w' := by
  by_cases hn : 8000 < a.length ∨ 8000 < b.length ∨ 8000 < h.length
  · exact crateApart_long a b h A B H c c' c'' w ka.2.1 k2.2.1 k3.2.1 hn
  · exact crateApart_calls a b h A B H c c' c'' w ka k2 k3 (by omega) (by omega) (by omega)
end Go.Proofs.Ytahaoakolgomdaa
