/- The walk of the law SpoolOff. -/
import Derived.Test.YtahaoakolgomdaaS31
import Derived.Test.YtahaoakolgomdaaS32
namespace Go.Proofs.Ytahaoakolgomdaa
open Go.RowKit Go.Proofs.YtahaoakolgomdaaW.PrintWords Go.Proofs.YtahaoakolgomdaaW.PrintLast Go.Proofs.YtahaoakolgomdaaW.PrintMore
set_option linter.unusedVariables false
set_option linter.unusedSimpArgs false

theorem Sp.act_go {b : List UInt8} {sure room : Nat} {left : Int} (h : 0 < left) : (Sp.mk b sure room left false).act = (true, ⟨b, sure, room, left - 1, false⟩) := by
  unfold Sp.act; rw [if_neg (by simp), if_neg (by simp only; omega), if_pos h]
theorem Sp.act_stop {b : List UInt8} {sure room : Nat} {off : Bool} : (Sp.mk b sure room 0 off).act = (false, ⟨b, sure, room, 0, true⟩) := by
  unfold Sp.act
  cases off
  · rw [if_neg (by simp), if_pos rfl]
  · rw [if_pos rfl]
theorem Sp.add_go {b xs : List UInt8} {sure room : Nat} {left : Int} (h : 0 < left) (hr : b.length + xs.length ≤ room) : (Sp.mk b sure room left false).add xs = (0, ⟨b ++ xs, sure, room, left - 1, false⟩) := by
  unfold Sp.add; rw [if_neg (by simp), if_neg (by simp only; omega), Sp.act_go h]; rfl
theorem Sp.add_stop {b xs : List UInt8} {sure room : Nat} {off : Bool} (hr : b.length + xs.length ≤ room) : (Sp.mk b sure room 0 off).add xs = (190, ⟨b, sure, room, 0, true⟩) := by
  unfold Sp.add
  cases off
  · rw [if_neg (by simp), if_neg (by simp only; omega), Sp.act_stop]; rfl
  · rw [if_pos rfl]
theorem Sp.sync_go {b : List UInt8} {sure room : Nat} {left : Int} (h : 0 < left) : (Sp.mk b sure room left false).sync = (0, ⟨b, b.length, room, left - 1, false⟩) := by
  unfold Sp.sync; rw [Sp.act_go h]; rfl
theorem Sp.sync_stop {b : List UInt8} {sure room : Nat} {off : Bool} : (Sp.mk b sure room 0 off).sync = (190, ⟨b, sure, room, 0, true⟩) := by
  unfold Sp.sync; rw [Sp.act_stop]; rfl
theorem Sp.crash_all {b : List UInt8} {sure room : Nat} {left : Int} {off : Bool} (h : sure ≤ b.length) (keep : Int) (hk : (b.length : Int) ≤ keep) : (Sp.mk b sure room left off).crash keep = ⟨b, b.length, room, -1, false⟩ := by
  have e : (Sp.mk b sure room left off).keepN keep = b.length := by unfold Sp.keepN; simp only; omega
  unfold Sp.crash; rw [e]; simp
set_option maxHeartbeats 2000000 in
set_option maxRecDepth 100000 in
theorem spoolOff_calls (after : Int) (l : List Act8) (A : Option Addr) (c : Nat) (w : World) (h : Act8s w A l) (hl : long8 l = false) :
    Calls Try.prog 9 #[.int .i64 after, .slice A l.length c] w fun e w' => e = .returned (.bool true) ∧ Below w.heap.size w w' := by
  obtain ⟨n, hn, en⟩ := umod after 20 (by omega) (by omega)
  have HEN := Lib.hid (show wrap64 ((IntKind.u64.wrap after).tmod 20) = (n : Int) from en)
  have hm : l.length ≤ 9223372036854775807 := h.1
  have H := Aside0.mk h
  have HL := Lib.hid hl
  clear h hl en
  go_enter Try.func9, Try.ntmps9
  go_wp2_with (first
    | (go_at_call 36; refine (long8_calls l A c _ H.out).mono ?_; rw [HL.out]; rintro e w' ⟨rfl, hw⟩; obtain rfl := hw.symm; clear hw)
    | (go_at_call 38; refine (new_h _ 1048576 (by omega) (by omega) ⟨[], 0, 1048576, -1, false⟩ rfl).mono ?_; rintro e w1 ⟨p, rfl, hf⟩; have H1 : Aside0 (Has w w1 [spoolA p ⟨[], 0, 1048576, -1, false⟩, bytesA (.slice none 0 0) []]) := Aside0.mk (((Has.start w).addE hf).addE (Fresh.nilB _)); clear hf)
    | (go_at_call 39; rw [HEN.out]; refine (off_h H1.out 0 p _ rfl (n : Int) (by omega) ⟨[], 0, 1048576, (n : Int), false⟩ (by unfold Sp.setOff; rw [if_neg (by omega)])).mono ?_; rintro e w2 ⟨rfl, hs⟩; have H2 : Aside0 (Has w w2 [spoolA p ⟨[], 0, 1048576, (n : Int), false⟩, bytesA (.slice none 0 0) []]) := Aside0.mk hs; clear hs))
  go_loopw [8, 9, 10] (fun dv v i wr => ∃ (k dn : Nat) (xs : List UInt8) (sure : Nat) (A1 : Option Addr) (m c1 : Nat) (off : Bool), i = .int .i64 k ∧ k ≤ l.length ∧ k ≤ 60 ∧ dv = .int .i64 dn ∧ dn ≤ n ∧ v = .slice A1 m c1 ∧ m ≤ 300 * k ∧ sure ≤ m ∧ Aside0 (m = xs.length) ∧ Aside0 (off = true → dn = n) ∧ Aside0 (Has w wr [spoolA p ⟨xs, sure, 1048576, (n : Int) - (dn : Int), off⟩, bytesA (.slice A1 m c1) xs])) (fun _ _ i _ => 60 - (intOf i).toNat)
  case atStart => exact ⟨0, 0, [], 0, none, 0, 0, false, rfl, Nat.zero_le _, by omega, rfl, Nat.zero_le _, rfl, by omega, by omega, ⟨rfl⟩, ⟨fun h => by cases h⟩, ⟨by simpa using H2.out⟩⟩
  case round =>
    obtain ⟨k, dn, xs, sure, A1, m, c1, off, rfl, hk, hk6, rfl, hdn, rfl, hmk, hsu, HM, HOF, HS⟩ := hrel
    by_cases hgo : k < l.length ∧ k < 60
    · obtain ⟨hlt, hlt6⟩ := hgo
      obtain ⟨x, hx⟩ : ∃ x, l[k]? = some x := ⟨_, List.getElem?_eq_getElem hlt⟩
      obtain ⟨ad, rfl, hat⟩ := H.out.2 k x hx
      obtain ⟨B, d, k1, l1, r1⟩ := hat.bytes
      have hx3 := long8_no HL.out k (by omega) x hx
      rw [add_pos _ 1 (by omega)] at k1
      have k0 := hat.kind
      have K0 := Aside0.mk k0
      have K1 := Aside0.mk k1
      have R1 := Aside0.mk r1
      have k0' := pw_cell_below HS.out.old k0
      have k1' := pw_cell_below HS.out.old k1
      have hk64 := hat.k64
      clear k0 k1 hat r1 hx
      unfold i64 at hk64
      obtain ⟨kd, hkd⟩ : ∃ kd, kd = x.kind := ⟨_, rfl⟩
      rw [← hkd] at k0' K0 hk64
      obtain ⟨z, hz⟩ : ∃ z, xs ++ x.b = z := ⟨_, rfl⟩
      have hzl : z.length = m + x.b.length := by rw [← hz, List.length_append, HM.out]
      have hroom : xs.length + x.b.length ≤ 1048576 := by have := HM.out; omega
      have HRM := Lib.hid hroom
      have HZ := Aside0.mk hz
      have HZL := Lib.hid hzl
      clear hz hzl hroom hkd
      by_cases hd : dn < n
      · have hoff : off = false := by
          cases off
          · rfl
          · exact absurd (HOF.out rfl) (by omega)
        subst hoff
        clear HOF
        have hd' : (dn : Int) < (n : Int) := by omega
        by_cases h3 : kd.tmod 4 = 3
        · have t1 : (kd.tmod 4 == 3) = true := by rw [h3]; rfl
          have t2 : (kd.tmod 4 != 3) = false := by rw [h3]; rfl
          have AS := Aside0.mk (Sp.sync_go (b := xs) (sure := sure) (room := 1048576) (left := (n : Int) - (dn : Int)) (by omega))
          clear h3
          go_wp2_with (go_at_call 40; refine (sync_h HS.out 0 p _ rfl 0 _ AS.out).mono ?_; rintro e w3 ⟨rfl, hs⟩; have H3 : Aside0 (Has w w3 [spoolA p ⟨xs, xs.length, 1048576, (n : Int) - (dn : Int) - 1, false⟩, bytesA (.slice A1 m c1) xs]) := Aside0.mk hs; have k3 := pw_cell_below H3.out.old K0.out; clear hs)
          go_roundw
          case rel => exact ⟨k + 1, dn + 1, xs, xs.length, A1, m, c1, false, by go_num, by omega, by omega, by go_num, by omega, rfl, by omega, by have := HM.out; omega, HM, ⟨fun h => by cases h⟩, ⟨by rw [show (n : Int) - ((dn + 1 : Nat) : Int) = (n : Int) - (dn : Int) - 1 by omega]; exact H3.out⟩⟩
          case measure => simp [intOf]; omega
        · have t1 : (kd.tmod 4 == 3) = false := by simpa using h3
          have t2 : (kd.tmod 4 != 3) = true := by simpa using h3
          have AS := Aside0.mk (show (Sp.mk xs sure 1048576 ((n : Int) - (dn : Int)) false).add x.b = (0, ⟨z, sure, 1048576, (n : Int) - (dn : Int) - 1, false⟩) by rw [Sp.add_go (by omega) HRM.out, HZ.out])
          clear h3
          go_wp2_with (first
            | (go_at_call 41; refine (add_h HS.out 0 p _ rfl x.b x.b.length rfl B d (Kd.C_below R1.out HS.out.old) l1 0 _ AS.out).mono ?_; rintro e w3 ⟨rfl, hs⟩; have H3 : Aside0 (Has w w3 [spoolA p ⟨z, sure, 1048576, (n : Int) - (dn : Int) - 1, false⟩, bytesA (.slice A1 m c1) xs]) := Aside0.mk hs; have k3 := pw_cell_below H3.out.old K0.out; have k4 := pw_cell_below H3.out.old K1.out; clear hs)
            | (at_builtin; go_loud (refine app_has H3.out 1 (.slice A1 m c1) xs x.b z rfl rfl (.tmp 93) (.tmp 98) rfl HZ.out B x.b.length d rfl rfl (Kd.C_below R1.out H3.out.old) (by have := HRM.out; omega) ?_; intro A4 n4 c4 w4 hn4 hs; subst hn4; have H4 : Aside0 (Has w w4 [spoolA p ⟨z, sure, 1048576, (n : Int) - (dn : Int) - 1, false⟩, bytesA (.slice A4 z.length c4) z]) := Aside0.mk hs; clear hs)))
          go_roundw
          case rel => exact ⟨k + 1, dn + 1, z, sure, A4, z.length, c4, false, by go_num, by omega, by omega, by go_num, by omega, rfl, by have := HZL.out; omega, by have := HZL.out; omega, ⟨rfl⟩, ⟨fun h => by cases h⟩, ⟨by rw [show (n : Int) - ((dn + 1 : Nat) : Int) = (n : Int) - (dn : Int) - 1 by omega]; exact H4.out⟩⟩
          case measure => simp [intOf]; omega
      · have hdn' : dn = n := by omega
        subst hdn'
        have hd' : ¬ (dn : Int) < (dn : Int) := by omega
        have e0 : (dn : Int) - (dn : Int) = 0 := by omega
        rw [e0] at HS
        clear e0 HOF hd
        by_cases h3 : kd.tmod 4 = 3
        · have t1 : (kd.tmod 4 == 3) = true := by rw [h3]; rfl
          have t2 : (kd.tmod 4 != 3) = false := by rw [h3]; rfl
          have AS := Aside0.mk (Sp.sync_stop (b := xs) (sure := sure) (room := 1048576) (off := off))
          clear h3
          go_wp2_with (first
            | (go_at_call 43; refine (bytes_h H3.out 0 p _ rfl [] rfl 0 rfl).mono ?_; rintro e w4 ⟨A4, c4, rfl, hf⟩; have H4 : Aside0 (Has w w4 [spoolA p ⟨xs, sure, 1048576, 0, true⟩, bytesA (.slice A1 m c1) xs]) := Aside0.mk (H3.out.below hf.2); clear hf)
            | (go_at_call 42; refine (on_h H3.out 0 p _ rfl false rfl).mono ?_; rintro e w' ⟨rfl, hw⟩; obtain rfl := hw.symm; clear hw)
            | (go_at_call 40; refine (sync_h HS.out 0 p _ rfl 190 _ AS.out).mono ?_; rintro e w3 ⟨rfl, hs⟩; have H3 : Aside0 (Has w w3 [spoolA p ⟨xs, sure, 1048576, 0, true⟩, bytesA (.slice A1 m c1) xs]) := Aside0.mk hs; clear hs))
          go_roundw
          case rel => exact ⟨k + 1, dn, xs, sure, A1, m, c1, true, by go_num, by omega, by omega, rfl, Nat.le_refl _, rfl, by omega, hsu, HM, ⟨fun _ => rfl⟩, ⟨by rw [show (dn : Int) - (dn : Int) = 0 by omega]; exact H4.out⟩⟩
          case measure => simp [intOf]; omega
        · have t1 : (kd.tmod 4 == 3) = false := by simpa using h3
          have t2 : (kd.tmod 4 != 3) = true := by simpa using h3
          have AS := Aside0.mk (Sp.add_stop (b := xs) (xs := x.b) (sure := sure) (room := 1048576) (off := off) HRM.out)
          clear h3
          go_wp2_with (first
            | (go_at_call 43; refine (bytes_h H3.out 0 p _ rfl [] rfl 0 rfl).mono ?_; rintro e w4 ⟨A4, c4, rfl, hf⟩; have H4 : Aside0 (Has w w4 [spoolA p ⟨xs, sure, 1048576, 0, true⟩, bytesA (.slice A1 m c1) xs]) := Aside0.mk (H3.out.below hf.2); clear hf)
            | (go_at_call 42; refine (on_h H3.out 0 p _ rfl false rfl).mono ?_; rintro e w' ⟨rfl, hw⟩; obtain rfl := hw.symm; clear hw)
            | (go_at_call 41; refine (add_h HS.out 0 p _ rfl x.b x.b.length rfl B d (Kd.C_below R1.out HS.out.old) l1 190 _ AS.out).mono ?_; rintro e w3 ⟨rfl, hs⟩; have H3 : Aside0 (Has w w3 [spoolA p ⟨xs, sure, 1048576, 0, true⟩, bytesA (.slice A1 m c1) xs]) := Aside0.mk hs; clear hs))
          go_roundw
          case rel => exact ⟨k + 1, dn, xs, sure, A1, m, c1, true, by go_num, by omega, by omega, rfl, Nat.le_refl _, rfl, by omega, hsu, HM, ⟨fun _ => rfl⟩, ⟨by rw [show (dn : Int) - (dn : Int) = 0 by omega]; exact H4.out⟩⟩
          case measure => simp [intOf]; omega
    · have hex : ¬ (k < l.length) ∨ (k < l.length ∧ ¬ k < 60) := by omega
      clear hgo
      have CR := Aside0.mk (Sp.crash_all (b := xs) (sure := sure) (room := 1048576) (left := (n : Int) - (dn : Int)) (off := off) (by rw [← HM.out]; exact hsu) 1048576 (by rw [← HM.out]; omega))
      obtain ⟨z, hz⟩ : ∃ z : List UInt8, xs ++ [120] = z := ⟨_, rfl⟩
      have AD := Aside0.mk (show (Sp.mk xs xs.length 1048576 (-1) false).add [120] = (0, ⟨z, xs.length, 1048576, -1, false⟩) by rw [Sp.add_on (by have := HM.out; simp; omega), hz])
      have AS := Aside0.mk (Sp.sync_on (b := z) (sure := xs.length) (room := 1048576))
      clear hz
      have kc := fun (w : World) (C : Array Value) (n c : Nat) => Lib.run_convert_bytes_const (P := Try.prog) w 22 5 C n c Try.underlying22 Try.underlying5
      rcases hex with hex | ⟨hex, hex6⟩
      all_goals
        go_wp2_with (first
          | (go_at_call 37; refine (known18_calls _).mono ?_; rintro e w8 ⟨rfl, hb⟩; have H8 := Aside0.mk (H7.out.none.below hb); clear hb)
          | (go_at_call 40; refine (sync_h H6.out 0 p _ rfl 0 _ AS.out).mono ?_; rintro e w7 ⟨rfl, hs⟩; have H7 := Aside0.mk hs; clear hs)
          | (go_at_call 41; refine (add_h (H5.out.alloc _) 0 p _ rfl [120] 1 rfl _ _ (kb_block (xs := [120]) (blk_new _ _) rfl (by simp)) (by omega) 0 _ AD.out).mono ?_; rintro e w6 ⟨rfl, hs⟩; have H6 : Aside0 (Has w w6 [spoolA p ⟨z, xs.length, 1048576, -1, false⟩, bytesA (.slice A1 m c1) xs]) := Aside0.mk hs; clear hs)
          | (go_at_call 42; refine (on_h H5.out 0 p _ rfl true rfl).mono ?_; rintro e w' ⟨rfl, hw⟩; obtain rfl := hw.symm; clear hw)
          | (go_at_call 27; refine (same_n xs xs m m HM.out HM.out _ _ _ _ _ R5.out Q5.out true (sameB_self _)).mono ?_; rintro e w' ⟨rfl, hw⟩; obtain rfl := hw.symm; clear hw)
          | (go_at_call 43; refine (bytes_h H4.out 0 p _ rfl xs rfl m HM.out).mono ?_; rintro e w5 ⟨A5, c5, rfl, hf⟩; have H5' : Has w w5 [spoolA p ⟨xs, xs.length, 1048576, -1, false⟩, bytesA (.slice A1 m c1) xs, bytesA (.slice A5 m c5) xs] := H4.out.addE hf; have R5 := Aside0.mk (H5'.readB 2 rfl).2.2; have Q5 := Aside0.mk (H5'.readB 1 rfl).2.2; have H5 : Aside0 (Has w w5 [spoolA p ⟨xs, xs.length, 1048576, -1, false⟩, bytesA (.slice A1 m c1) xs]) := Aside0.mk (H4.out.below hf.2); clear hf H5')
          | (go_at_call 44; refine (crash_h HS.out 0 p _ rfl 1048576 _ CR.out).mono ?_; rintro e w4 ⟨rfl, hs⟩; have H4 : Aside0 (Has w w4 [spoolA p ⟨xs, xs.length, 1048576, -1, false⟩, bytesA (.slice A1 m c1) xs]) := Aside0.mk hs; clear hs))
        go_ret
        exact ⟨rfl, H8.out.old⟩
theorem spoolOff_walk (w : World) (after : Int) (_ : (Lit.int .i64 after).wf = true) (l : List Act8) (A : Option Addr) (c : Nat) (h : Act8s w A l) (_hc : l.length ≤ c) :
    Calls Try.prog 9 #[.int .i64 after, .slice A l.length c] w fun e w' => e = .returned (.bool true) ∧ Below w.heap.size w w' := by
  cases hl : long8 l with
  | false => exact spoolOff_calls after l A c w h hl
  | true =>
    have H := Aside0.mk h
    have HL := Lib.hid hl
    clear h hl
    go_enter Try.func9, Try.ntmps9
    go_wp2_with (first
      | (go_at_call 36; refine (long8_calls l A c _ H.out).mono ?_; rw [HL.out]; rintro e w' ⟨rfl, hw⟩; obtain rfl := hw.symm; clear hw)
      | (go_at_call 37; refine (known18_calls _).mono ?_; rintro e w8 ⟨rfl, hb⟩; have H8 := Aside0.mk hb; clear hb))
    go_ret
    exact ⟨rfl, H8.out⟩
end Go.Proofs.Ytahaoakolgomdaa
