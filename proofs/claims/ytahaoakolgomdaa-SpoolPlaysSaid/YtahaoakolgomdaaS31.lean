/- The walk of the law SpoolSure. -/
import Derived.Test.YtahaoakolgomdaaS25
import Derived.Test.YtahaoakolgomdaaS30
namespace Go.Proofs.Ytahaoakolgomdaa
open Go.RowKit Go.Proofs.YtahaoakolgomdaaW.PrintWords Go.Proofs.YtahaoakolgomdaaW.PrintLast Go.Proofs.YtahaoakolgomdaaW.PrintMore
set_option linter.unusedVariables false
set_option linter.unusedSimpArgs false

theorem same_n (xs ys : List UInt8) (n m : Nat) (hn : n = xs.length) (hm : m = ys.length) (A A' : Option Addr) (c c' : Nat) (w : World) (h : kb.C w A xs.length xs) (h' : kb.C w A' ys.length ys) (b : Bool) (hb : sameB xs ys = b) :
    Calls Try.prog 27 #[.slice A n c, .slice A' m c'] w fun e w' => e = .returned (.bool b) ∧ w' = w := by
  subst hn hm hb
  exact same_calls xs ys A A' c c' w h h'
theorem sameB_self (xs : List UInt8) : sameB xs xs = true := by simp [sameB]
theorem Sp.sync_on {b : List UInt8} {sure room : Nat} : (Sp.mk b sure room (-1) false).sync = (0, ⟨b, b.length, room, -1, false⟩) := by
  unfold Sp.sync; rw [Sp.act_on]; rfl
set_option maxHeartbeats 2000000 in
set_option maxRecDepth 100000 in
theorem spoolSure_calls (l : List (List UInt8)) (A : Option Addr) (c : Nat) (bs : List Bool) (B : Option Addr) (d : Nat) (keep : Int) (w : World) (h : klb.C w A l.length l) (hb : kt.C w B bs.length bs) :
    Calls Try.prog 10 #[.slice A l.length c, .slice B bs.length d, .int .i64 keep] w fun e w' => e = .returned (.bool true) ∧ Below w.heap.size w w' := by
  have hm : l.length ≤ 9223372036854775807 := h.2.1
  have hmb : bs.length ≤ 9223372036854775807 := hb.2.1
  have H := Aside0.mk h
  have KB := Aside0.mk hb
  obtain ⟨kp, hkp⟩ : ∃ kp : Nat, kp = keep.toNat := ⟨_, rfl⟩
  have hmax := max_zero keep kp hkp
  have HKP := Lib.hid hkp
  clear h hb hkp
  go_enter Try.func10, Try.ntmps10
  go_wp2_with (go_at_call 38; refine (new_h _ 1048576 (by omega) (by omega) ⟨[], 0, 1048576, -1, false⟩ rfl).mono ?_; rintro e w1 ⟨p, rfl, hf⟩; have H1 : Aside0 (Has w w1 [spoolA p ⟨[], 0, 1048576, -1, false⟩, bytesA (.slice none 0 0) []]) := Aside0.mk (((Has.start w).addE hf).addE (Fresh.nilB _)); clear hf)
  go_loopw [9, 10, 11] (fun v su i wr => ∃ (k : Nat) (xs : List UInt8) (sure : Nat) (A1 : Option Addr) (n c1 : Nat), i = .int .i64 k ∧ k ≤ l.length ∧ k ≤ 60 ∧ v = .slice A1 n c1 ∧ su = .int .i64 sure ∧ n ≤ 300 * k ∧ sure ≤ n ∧ Aside0 (n = xs.length) ∧ Aside0 (Has w wr [spoolA p ⟨xs, sure, 1048576, -1, false⟩, bytesA (.slice A1 n c1) xs])) (fun _ _ i _ => 60 - (intOf i).toNat)
  case atStart => exact ⟨0, [], 0, none, 0, 0, rfl, Nat.zero_le _, by omega, rfl, rfl, by omega, by omega, ⟨rfl⟩, H1⟩
  case round =>
    obtain ⟨k, xs, sure, A1, n, c1, rfl, hk, hk6, rfl, rfl, hn, hsu, HN, HS⟩ := hrel
    by_cases hgo : k < l.length ∧ k < 60
    · obtain ⟨hlt, hlt6⟩ := hgo
      obtain ⟨ad, A2, c2, rfl, k1, l1, r1⟩ := klb_get H.out k hlt
      obtain ⟨x, hx⟩ : ∃ x, x = l.getD k [] := ⟨_, rfl⟩
      rw [← hx] at k1 l1 r1
      have k2 : wr.cell? (ad.add k) = some (.slice A2 x.length c2) := pw_cell_below HS.out.old k1
      have hxm : x.length ≤ 9223372036854775807 := r1.2.1
      have HR1 := Aside0.mk r1
      have K1 := Aside0.mk k1
      clear hx r1 k1
      by_cases hx3 : x.length ≤ 300
      · obtain ⟨z, hz⟩ : ∃ z, xs ++ x = z := ⟨_, rfl⟩
        have hzl : z.length = n + x.length := by rw [← hz, List.length_append, HN.out]
        have AD := Aside0.mk (show (Sp.mk xs sure 1048576 (-1) false).add x = (0, ⟨z, sure, 1048576, -1, false⟩) by rw [Sp.add_on (by have := HN.out; omega), hz])
        have SY := Aside0.mk (show (Sp.mk z sure 1048576 (-1) false).sync = (0, ⟨z, z.length, 1048576, -1, false⟩) from Sp.sync_on)
        have HZ := Aside0.mk hz
        have HZL := Lib.hid hzl
        have hzb : z.length ≤ 300 * (k + 1) := by omega
        have hn8 : xs.length + x.length ≤ 140737488355328 := by have := HN.out; omega
        have HN8 := Lib.hid hn8
        clear hz hzl hn8
        have hways : (∃ bd, B = some bd ∧ k < bs.length ∧ w.cell? (bd.add k) = some (.bool true)) ∨ (∃ bd, B = some bd ∧ k < bs.length ∧ w.cell? (bd.add k) = some (.bool false)) ∨ ¬ k < bs.length := by
          by_cases hkb : k < bs.length
          · obtain ⟨bd, e, hc⟩ := kt_get KB.out k hkb
            cases hv : bs.getD k false with
            | true => rw [hv] at hc; exact .inl ⟨bd, e, hkb, hc⟩
            | false => rw [hv] at hc; exact .inr (.inl ⟨bd, e, hkb, hc⟩)
          · exact .inr (.inr hkb)
        rcases hways with ⟨bd, rfl, hkb, hc⟩ | ⟨bd, rfl, hkb, hc⟩ | hkb
        · have Y1 := Aside0.mk hc
          clear hc
          go_wp2_with (first
            | (go_at_call 40; refine (sync_h H3.out 0 p _ rfl 0 _ SY.out).mono ?_; rintro e w4 ⟨rfl, hs⟩; have H4 : Aside0 (Has w w4 [spoolA p ⟨z, z.length, 1048576, -1, false⟩, bytesA (.slice A3 z.length c3) z]) := Aside0.mk hs; clear hs)
            | (go_at_call 41; refine (add_h HS.out 0 p _ rfl x x.length rfl A2 c2 (Kd.C_below HR1.out HS.out.old) l1 0 _ AD.out).mono ?_; rintro e w2 ⟨rfl, hs⟩; have H2 : Aside0 (Has w w2 [spoolA p ⟨z, sure, 1048576, -1, false⟩, bytesA (.slice A1 n c1) xs]) := Aside0.mk hs; have k3 : w2.cell? (ad.add k) = some (.slice A2 x.length c2) := pw_cell_below H2.out.old K1.out; clear hs)
            | (at_builtin; go_loud (refine app_has H2.out 1 (.slice A1 n c1) xs x z rfl rfl (.tmp 47) (.tmp 51) rfl HZ.out A2 x.length c2 rfl rfl (Kd.C_below HR1.out H2.out.old) HN8.out ?_; intro A3 n3 c3 w3 hn3 hs; subst hn3; have H3 : Aside0 (Has w w3 [spoolA p ⟨z, sure, 1048576, -1, false⟩, bytesA (.slice A3 z.length c3) z]) := Aside0.mk hs; have y3 : w3.cell? (bd.add k) = some (.bool true) := pw_cell_below H3.out.old Y1.out; clear hs)))
          go_roundw
          case rel => exact ⟨k + 1, z, z.length, A3, z.length, c3, by go_num, by omega, by omega, rfl, rfl, hzb, Nat.le_refl _, ⟨rfl⟩, H4⟩
          case measure => simp [intOf]; omega
        · have Y1 := Aside0.mk hc
          clear hc
          go_wp2_with (first
            | (go_at_call 41; refine (add_h HS.out 0 p _ rfl x x.length rfl A2 c2 (Kd.C_below HR1.out HS.out.old) l1 0 _ AD.out).mono ?_; rintro e w2 ⟨rfl, hs⟩; have H2 : Aside0 (Has w w2 [spoolA p ⟨z, sure, 1048576, -1, false⟩, bytesA (.slice A1 n c1) xs]) := Aside0.mk hs; have k3 : w2.cell? (ad.add k) = some (.slice A2 x.length c2) := pw_cell_below H2.out.old K1.out; clear hs)
            | (at_builtin; go_loud (refine app_has H2.out 1 (.slice A1 n c1) xs x z rfl rfl (.tmp 47) (.tmp 51) rfl HZ.out A2 x.length c2 rfl rfl (Kd.C_below HR1.out H2.out.old) HN8.out ?_; intro A3 n3 c3 w3 hn3 hs; subst hn3; have H3 : Aside0 (Has w w3 [spoolA p ⟨z, sure, 1048576, -1, false⟩, bytesA (.slice A3 z.length c3) z]) := Aside0.mk hs; have y3 : w3.cell? (bd.add k) = some (.bool false) := pw_cell_below H3.out.old Y1.out; clear hs)))
          go_roundw
          case rel => exact ⟨k + 1, z, sure, A3, z.length, c3, by go_num, by omega, by omega, rfl, rfl, hzb, by have := HZL.out; omega, ⟨rfl⟩, H3⟩
          case measure => simp [intOf]; omega
        · go_wp2_with (first
            | (go_at_call 41; refine (add_h HS.out 0 p _ rfl x x.length rfl A2 c2 (Kd.C_below HR1.out HS.out.old) l1 0 _ AD.out).mono ?_; rintro e w2 ⟨rfl, hs⟩; have H2 : Aside0 (Has w w2 [spoolA p ⟨z, sure, 1048576, -1, false⟩, bytesA (.slice A1 n c1) xs]) := Aside0.mk hs; have k3 : w2.cell? (ad.add k) = some (.slice A2 x.length c2) := pw_cell_below H2.out.old K1.out; clear hs)
            | (at_builtin; go_loud (refine app_has H2.out 1 (.slice A1 n c1) xs x z rfl rfl (.tmp 47) (.tmp 51) rfl HZ.out A2 x.length c2 rfl rfl (Kd.C_below HR1.out H2.out.old) HN8.out ?_; intro A3 n3 c3 w3 hn3 hs; subst hn3; have H3 : Aside0 (Has w w3 [spoolA p ⟨z, sure, 1048576, -1, false⟩, bytesA (.slice A3 z.length c3) z]) := Aside0.mk hs; clear hs)))
          go_roundw
          case rel => exact ⟨k + 1, z, sure, A3, z.length, c3, by go_num, by omega, by omega, rfl, rfl, hzb, by have := HZL.out; omega, ⟨rfl⟩, H3⟩
          case measure => simp [intOf]; omega
      · go_wp2_with (go_at_call 37; refine (known18_calls _).mono ?_; rintro e w2 ⟨rfl, hb⟩; have H2 := Aside0.mk (HS.out.below hb); clear hb)
        go_ret
        exact ⟨rfl, H2.out.old⟩
    · have hex : ¬ (k < l.length) ∨ (k < l.length ∧ ¬ k < 60) := by omega
      clear hgo
      obtain ⟨q, hq⟩ : ∃ q : Nat, q = min kp (n - sure) := ⟨_, rfl⟩
      have hmin := min_nat (kp : Int) ((n : Int) - (sure : Int)) q (by split <;> omega)
      obtain ⟨N, hN⟩ : ∃ N, N = sure + q := ⟨_, rfl⟩
      obtain ⟨y, hy⟩ : ∃ y, xs.take N = y := ⟨_, rfl⟩
      have hNn : N ≤ n := by omega
      have hyl : y.length = N := by rw [← hy, List.length_take, ← HN.out]; omega
      have HNI := Lib.hid (show wrap64 ((sure : Int) + (q : Int)) = (N : Int) by unfold wrap64; omega)
      have hcr : (Sp.mk xs sure 1048576 (-1) false).crash keep = ⟨y, N, 1048576, -1, false⟩ := by
        have e : (Sp.mk xs sure 1048576 (-1) false).keepN keep = N := by
          unfold Sp.keepN; simp only; rw [hN, hq, HKP.out, HN.out]
        unfold Sp.crash; rw [e]; simp only; rw [hy]
      have HCR := Aside0.mk hcr
      have HYL := Lib.hid hyl
      have HY := Aside0.mk hy
      have SL := Aside0.mk (show (Sp.mk xs sure 1048576 (-1) false).len = n by unfold Sp.len; simp only; rw [HN.out]; rfl)
      clear hcr hyl hy hN hq
      have hcut : ∀ W : World, (Instr.slice 22 (.slice A1 n c1) none (some (.int .i64 (N : Int))) none).run Try.prog W = .ok (.slice A1 N c1) W := by
        have h1 := (cut_hi A1 c1 xs N (by rw [← HN.out]; exact hNn) (by rw [← HN.out]; exact (HS.out.readB 1 rfl).2.1)).1
        rw [HY.out, HYL.out, ← HN.out] at h1
        exact h1
      have hNc : N ≤ c1 := Nat.le_trans hNn (HS.out.readB 1 rfl).2.1
      rcases hex with hex | ⟨hex, hex6⟩
      all_goals
        go_wp2_with (first
          | (go_at_call 44; refine (crash_h HS.out 0 p _ rfl keep _ HCR.out).mono ?_; rintro e w2 ⟨rfl, hs⟩; have H2 : Aside0 (Has w w2 [spoolA p ⟨y, N, 1048576, -1, false⟩, bytesA (.slice A1 n c1) xs]) := Aside0.mk hs; clear hs)
          | (go_at_call 46; refine (len_h HS.out 0 p _ rfl n SL.out).mono ?_; rintro e w' ⟨rfl, hw⟩; obtain rfl := hw.symm; clear hw)
          | (go_at_call 45; refine (sure_h HS.out 0 p _ rfl sure rfl).mono ?_; rintro e w' ⟨rfl, hw⟩; obtain rfl := hw.symm; clear hw))
        rw [HNI.out]
        have HYR := Aside0.mk (show kb.C w2 A1 y.length y by rw [← HY.out]; exact (cut_hi A1 c1 xs N (by rw [← HN.out]; exact hNn) (by rw [← HN.out]; exact (HS.out.readB 1 rfl).2.1)).2.1 w2 (H2.out.readB 1 rfl).2.2)
        go_region_with (first
          | (go_at_call 37; refine (known18_calls _).mono ?_; rintro e w10 ⟨rfl, hb⟩; have H10 := Aside0.mk (Has.below (w0 := w) (l := []) (by repeat (first | exact H3.out.none | apply Has.drew)) hb); clear hb)
          | (go_at_call 42; refine (on_h (w0 := w) (l := [spoolA p ⟨y, N, 1048576, -1, false⟩, bytesA (.slice A1 n c1) xs, bytesA (.slice A3 N c3) y]) ?hh 0 p _ rfl true rfl).mono ?_; (case hh => repeat (first | exact H3.out | apply Has.drew)); rintro e w' ⟨rfl, hw⟩; obtain rfl := hw.symm; clear hw)
          | (go_at_call 45; refine (sure_h (w0 := w) (l := [spoolA p ⟨y, N, 1048576, -1, false⟩, bytesA (.slice A1 n c1) xs, bytesA (.slice A3 N c3) y]) ?hh 0 p _ rfl N rfl).mono ?_; (case hh => repeat (first | exact H3.out | apply Has.drew)); rintro e w' ⟨rfl, hw⟩; obtain rfl := hw.symm; clear hw)
          | (go_at_call 27; refine (same_n y y N N HYL.out.symm HYL.out.symm _ _ _ _ _ ?r1 ?r2 true (sameB_self _)).mono ?_; (case r1 => repeat (first | exact (H3.out.readB 2 rfl).2.2 | (with_reducible refine Kd.C_drew ?_))); (case r2 => repeat (first | exact Y3.out | (with_reducible refine Kd.C_drew ?_))); rintro e w' ⟨rfl, hw⟩; obtain rfl := hw.symm; clear hw)
          | (go_at_call 43; refine (bytes_h (w0 := w) (l := [spoolA p ⟨y, N, 1048576, -1, false⟩, bytesA (.slice A1 n c1) xs]) ?hh 0 p _ rfl y rfl N HYL.out.symm).mono ?_; (case hh => repeat (first | exact H2.out | apply Has.drew)); rintro e w3 ⟨A3, c3, rfl, hf⟩; have H3 : Aside0 (Has w w3 [spoolA p ⟨y, N, 1048576, -1, false⟩, bytesA (.slice A1 n c1) xs, bytesA (.slice A3 N c3) y]) := Aside0.mk (Has.addE (l := [spoolA p ⟨y, N, 1048576, -1, false⟩, bytesA (.slice A1 n c1) xs]) (by repeat (first | exact H2.out | apply Has.drew)) hf); have Y3 : Aside0 (kb.C w3 A1 y.length y) := Aside0.mk (Kd.C_below (by repeat (first | exact HYR.out | (with_reducible refine Kd.C_drew ?_))) hf.2); clear hf))
        all_goals (go_wp2_with fail; go_ret; exact ⟨rfl, H10.out.old⟩)
theorem spoolSure_walk (w : World) (l : List (List UInt8)) (A : Option Addr) (c : Nat) (h : klb.C w A l.length l) (_hc : l.length ≤ c) (bs : List Bool) (B : Option Addr) (d : Nat) (hb : kt.C w B bs.length bs) (_hd : bs.length ≤ d) (keep : Int) (_ : (Lit.int .i64 keep).wf = true) :
    Calls Try.prog 10 #[.slice A l.length c, .slice B bs.length d, .int .i64 keep] w fun e w' => e = .returned (.bool true) ∧ Below w.heap.size w w' := spoolSure_calls l A c bs B d keep w h hb
end Go.Proofs.Ytahaoakolgomdaa
