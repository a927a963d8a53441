/- Walks of the document's spool (gangerref18): New, Off, Add, Sync, Cut, Crash. -/
import Derived.Test.YtahaoakolgomdaaS26
namespace Go.Proofs.Ytahaoakolgomdaa
open Go.RowKit Go.Proofs.YtahaoakolgomdaaW.PrintWords Go.Proofs.YtahaoakolgomdaaW.PrintLast Go.Proofs.YtahaoakolgomdaaW.PrintMore
set_option linter.unusedVariables false
set_option linter.unusedSimpArgs false

theorem Sp.act_true {s : Sp} (h : s.act.1 = true) : s.act.2.off = false := by
  unfold Sp.act at h ⊢
  by_cases h1 : s.off = true
  · rw [if_pos h1] at h; cases h
  · have h1' : s.off = false := by simpa using h1
    rw [if_neg h1] at h ⊢
    by_cases h2 : s.left = 0
    · rw [if_pos h2] at h; cases h
    · rw [if_neg h2] at h ⊢
      split <;> simp [h1']
/-- Where the rows of the document's spool lie: where they lay, or in new blocks. -/
def NearV (w : World) (v1 v2 u1 u2 : Value) : Prop := ∀ k, u1.ownBlock = some k ∨ u2.ownBlock = some k → v1.ownBlock = some k ∨ v2.ownBlock = some k ∨ w.heap.size ≤ k
theorem NearV.refl (w : World) (v1 v2 : Value) : NearV w v1 v2 v1 v2 := fun k h => by rcases h with h | h <;> simp [h]
/-- What an act leaves of the document's spool. -/
def RefTo (w : World) (q : Nat) (v1 v2 : Value) (s' : Sp) (w' : World) : Prop := ∃ u1 u2, RefAt w' q u1 u2 s' ∧ NearV w v1 v2 u1 u2 ∧ Touch (· = q) w w'
theorem ref_new (w : World) (room : Int) :
    Calls Try.prog 47 #[.int .i64 room] w fun e w' =>
      if room < 1 ∨ 1048576 < room then e = .returned (.tuple #[.pointer none, .int .i64 2]) ∧ w' = w
      else ∃ q, e = .returned (.tuple #[.pointer (some ⟨q, 0, none⟩), .int .i64 0]) ∧ q = w.heap.size ∧ RefAt w' q (.slice none 0 0) (.slice none 0 0) (Sp.new room.toNat) ∧ Below w.heap.size w w' := by
  by_cases h : room < 1 ∨ 1048576 < room
  · simp only [if_pos h]
    rcases h with h | h
    · go_enter Try.func47, Try.ntmps47
      go_wp2
      go_ret2
      exact ⟨rfl, rfl⟩
    · by_cases h1 : room < 1
      · omega
      · go_enter Try.func47, Try.ntmps47
        go_wp2
        go_ret2
        exact ⟨rfl, rfl⟩
  · simp only [if_neg h]
    have h1 : ¬ room < 1 := by omega
    have h2 : ¬ 1048576 < room := by omega
    clear h
    go_enter Try.func47, Try.ntmps47
    go_wp2
    go_ret2
    refine ⟨_, rfl, rfl, ⟨?_, OwnB.nil _ _, OwnB.nil _ _, Sp.new_ok _ (by omega)⟩, below_alloc (Below.refl _ _) _⟩
    have e : ((room.toNat : Nat) : Int) = room := by omega
    simp only [Sp.new]
    rw [e]
    exact heap_alloc_new w _
theorem ref_off (w : World) (q : Nat) (v1 v2 : Value) (s : Sp) (h : RefAt w q v1 v2 s) (n : Int) (hn : n ≤ 9223372036854775807) :
    Calls Try.prog 52 #[.pointer (some ⟨q, 0, none⟩), .int .i64 n] w fun e w' => e = .returned (.tuple #[]) ∧ RefTo w q v1 v2 (s.setOff n) w' := by
  have H := Aside0.mk h
  have c3 := h.cell 3
  have f3 := h.frozen 3
  simp at c3
  have hok := h.ok.setOff n hn
  have HOK := Aside0.mk hok
  have HC := Aside0.mk h.cells
  clear h hok
  by_cases h0 : n < 0
  · have ha := Aside0.mk (show s.setOff n = { s with left := -1 } by unfold Sp.setOff; split <;> simp; omega)
    go_enter Try.func52, Try.ntmps52
    go_wp2_with fail
    first | go_end0 | ((try simp only [Exit.inBlock, Exit.then]); refine bodyPost_ret (results_none rfl _ _ _) rfl ?_)
    refine ⟨rfl, v1, v2, ?_, NearV.refl _ _ _, (touch1 w q 3 _).trans (touch1 _ q 3 _)⟩
    rw [ha.out] at HOK ⊢
    refine ⟨?_, own_move H.out.firm fun i hi => ?_, own_move H.out.soft fun i hi => ?_, HOK.out⟩
    · have := blk_set (blk_set HC.out 3 (.int .i64 n)) 3 (.int .i64 (-1))
      simpa using this
    · have hne : i ≠ q := fun e => H.out.firm.ne HC.out (by rw [hi, e])
      rw [Below.heap_setCell _ _ _ i hne, Below.heap_setCell _ _ _ i hne]
    · have hne : i ≠ q := fun e => H.out.soft.ne HC.out (by rw [hi, e])
      rw [Below.heap_setCell _ _ _ i hne, Below.heap_setCell _ _ _ i hne]
  · have ha := Aside0.mk (show s.setOff n = { s with left := n } by unfold Sp.setOff; rw [if_neg (by omega)])
    go_enter Try.func52, Try.ntmps52
    go_wp2_with fail
    first | go_end0 | ((try simp only [Exit.inBlock, Exit.then]); refine bodyPost_ret (results_none rfl _ _ _) rfl ?_)
    refine ⟨rfl, v1, v2, ?_, NearV.refl _ _ _, touch1 w q 3 _⟩
    rw [ha.out] at HOK ⊢
    exact H.out.set 3 _ _ _ _ (by simp) H.out.firm H.out.soft HOK.out
/-- Bytes are read as before, where the document's spool was written. -/
theorem ref_kb {w w1 : World} {q : Nat} {v1 v2 : Value} {s : Sp} {B : Option Addr} {n : Nat} {xs : List UInt8} (H : RefAt w q v1 v2 s) (ht : Touch (· = q) w w1) (h : kb.C w B n xs) : kb.C w1 B n xs := by
  refine ⟨h.1, h.2.1, fun hn => ?_⟩
  obtain ⟨ad, e, hc⟩ := h.2.2 hn
  refine ⟨ad, e, fun j q' hj => ?_⟩
  obtain ⟨c, hl, hk, hcell⟩ := hc j q' hj
  refine ⟨c, hl, hk, fun i u hu => ?_⟩
  have h1 := hcell i u hu
  have hk' : c = [enc8 q'] := hk
  have hu8 : u = enc8 q' := by
    have := List.mem_of_getElem? hu
    rw [hk'] at this
    exact List.mem_singleton.1 this
  have hlt := World.block_lt_of_cell? w _ h1
  refine (World.cell?_of_block (ht.block _ hlt fun hp => ?_)).trans h1
  unfold World.cell? at h1
  rw [hp, H.cells] at h1
  simp only at h1
  split at h1
  · cases h1
  · have := Array.mem_of_getElem? h1
    rw [hu8] at this
    simp [enc8] at this
    obtain ⟨A, c, hv, _⟩ := H.firm.reads
    obtain ⟨A', c', hv', _⟩ := H.soft.reads
    rw [hv, hv'] at this
    rcases this with h | h <;> cases h
theorem ref_add (w : World) (q : Nat) (v1 v2 : Value) (s : Sp) (h : RefAt w q v1 v2 s) (xs : List UInt8) (m : Nat) (hm : m = xs.length) (B : Option Addr) (c' : Nat) (hb : kb.C w B xs.length xs) (hm4 : m ≤ 140737488355328) :
    Calls Try.prog 48 #[.pointer (some ⟨q, 0, none⟩), .slice B m c'] w fun e w' => e = .returned (.int .i64 (s.add xs).1) ∧ RefTo w q v1 v2 (s.add xs).2 w' := by
  obtain ⟨A1, d1, rfl, hd1, k1⟩ := h.firm.reads
  obtain ⟨A2, d2, rfl, hd2, k2⟩ := h.soft.reads
  have H := Aside0.mk h
  have KB := Aside0.mk hb
  have K2 := Aside0.mk k2
  obtain ⟨y, hy⟩ : ∃ y, y = s.b.drop s.sure := ⟨_, rfl⟩
  obtain ⟨n1, hn1⟩ : ∃ n1, n1 = (s.b.take s.sure).length := ⟨_, rfl⟩
  have c0 := h.cell 0
  have c1 := h.cell 1
  have c2 := h.cell 2
  have c4 := h.cell 4
  simp only [List.getElem?_toArray, List.getElem?_cons_zero, List.getElem?_cons_succ] at c0 c1 c2 c4
  rw [← hn1] at c0
  rw [← hy] at c1 K2 H ⊢
  have hn : n1 + y.length = s.b.length := by rw [hn1, hy, List.length_take, List.length_drop]; omega
  have hlen := h.ok.len
  have hroom := h.ok.room
  have hsure := h.ok.sure
  have HM := Lib.hid hm
  have HY := Lib.hid hy
  have HC := Aside0.mk h.cells
  have hq := h.lt
  have hn1' : n1 ≤ s.b.length := by omega
  have hn2' : y.length ≤ s.b.length := by omega
  by_cases ho : s.off = true
  · have ha := Aside0.mk (show s.add xs = (190, s) by unfold Sp.add; rw [if_pos ho])
    rw [ho] at c4
    clear ho hm h hb k1 k2 hn1 hy hn
    go_enter Try.func48, Try.ntmps48
    go_wp2_with fail
    go_ret
    exact ⟨by rw [ha.out]; rfl, _, _, by rw [ha.out]; exact H.out, NearV.refl _ _ _, Touch.refl _ _⟩
  · have hof : s.off = false := by simpa using ho
    rw [hof] at c4
    by_cases hr : s.room < s.b.length + xs.length
    · have ha := Aside0.mk (show s.add xs = (5, s) by unfold Sp.add; rw [if_neg ho, if_pos hr])
      have hd : (s.room : Int) < (n1 : Int) + (y.length : Int) + (m : Int) := by omega
      clear ho hof hm hr h hb k1 k2 hn1 hy hn
      go_enter Try.func48, Try.ntmps48
      go_wp2_with fail
      go_quiet (fail)
      go_wp2_with fail
      go_ret
      exact ⟨by rw [ha.out]; rfl, _, _, by rw [ha.out]; exact H.out.below (pw_below_drewN (Below.refl _ _) nq), NearV.refl _ _ _, touch_drewN _ _ _⟩
    · have hd : ¬ (s.room : Int) < (n1 : Int) + (y.length : Int) + (m : Int) := by omega
      cases hac : s.act.1 with
      | false =>
        have ha := Aside0.mk (show s.add xs = (190, s.act.2) by unfold Sp.add; rw [if_neg ho, if_neg hr, hac]; rfl)
        have HR := Lib.hid hac
        clear ho hof hm hr hac h hb k1 k2 hn1 hy hn
        go_enter Try.func48, Try.ntmps48
        go_wp2_with fail
        go_quiet (fail)
        go_wp2_with (go_at_call 69; refine (ref_act _ q _ _ s (H.out.below (pw_below_drewN (Below.refl _ _) nq))).mono ?_; rw [HR.out]; rintro e w1 ⟨rfl, hs, ht⟩; have HS := Aside0.mk hs; have HT := Aside0.mk ((touch_drewN _ _ _).trans ht); clear hs ht)
        go_ret
        exact ⟨by rw [ha.out]; rfl, _, _, by rw [ha.out]; exact HS.out, NearV.refl _ _ _, HT.out⟩
      | true =>
        have ha := Aside0.mk (show s.add xs = (0, { s.act.2 with b := s.b ++ xs }) by unfold Sp.add; rw [if_neg ho, if_neg hr, hac]; rfl)
        have HR := Lib.hid hac
        have HOK := Aside0.mk (H.out.ok.add xs)
        have HSU := Lib.hid hsure
        obtain ⟨z, hz⟩ : ∃ z, y ++ xs = z := ⟨_, rfl⟩
        have HZ := Lib.hid hz
        clear hz ho hof hm hr hac h hb k1 k2 hn1 hy hn hsure
        go_enter Try.func48, Try.ntmps48
        go_wp2_with fail
        go_quiet (fail)
        go_wp2_with (first
          | (go_at_call 69; refine (ref_act _ q _ _ s (H.out.below (pw_below_drewN (Below.refl _ _) nq))).mono ?_; rw [HR.out]; rintro e w1 ⟨rfl, hs, ht⟩; have HS := Aside0.mk hs; have HT := Aside0.mk ((touch_drewN _ _ _).trans ht); have q1 := hs.cell 1; simp at q1; clear hs ht)
          | (go_at_call 35; refine (copy_calls y A2 d2 _ ?k2 (by omega)).mono ?_; (case k2 => exact ref_kb H.out HT.out K2.out); rintro e w2 ⟨v3, rfl, ho3, hb3⟩; have HO3 := Aside0.mk ho3; have HB3 := Aside0.mk hb3; clear ho3 hb3)
          | (at_builtin; refine app_bytes w1.heap.size rfl _ _ rfl v3 y xs z HZ.out B m c' rfl rfl HO3.out ?kb (HB3.out.size) ?ln ?_; (case kb => rw [HM.out]; exact Kd.C_below (ref_kb H.out HT.out KB.out) HB3.out); (case ln => omega); intro v4 w4 ho4 hg4 hat4; have HB4 := Aside0.mk (own_step HB3.out hg4 (fun k hk => HO3.out.base_le k hk)); have HO4 := Aside0.mk ho4; have f1 := (HS.out.below HB4.out).frozen 1; have q2 := (HS.out.below HB4.out).cell 1; simp at q2; obtain ⟨A4, d4, rfl, hd4, hr4⟩ := ho4.reads; clear ho4 hg4 hat4 hr4))
        go_ret
        have HT4 := (HT.out.trans (Touch.of_below HB4.out)).trans (touch1 w4 q 1 (.slice A4 z.length d4))
        refine ⟨by rw [ha.out]; rfl, .slice A1 (List.take s.sure s.b).length d1, .slice A4 z.length d4, ?_, ?_, HT4⟩
        · rw [ha.out] at HOK ⊢
          have hh := HS.out.firm
          refine (HS.out.below HB4.out).set 1 _ _ _ _ (by simp) ?_ ?_ HOK.out
          · have h1 := HS.out.firm.below HB4.out
            have e : (s.b ++ xs).take s.act.2.sure = s.act.2.b.take s.act.2.sure := by
              rw [(s.act_b).1, (s.act_b).2.1, List.take_append_of_le_length HSU.out]
            show OwnB _ _ _ ((s.b ++ xs).take s.act.2.sure)
            rw [e]; exact h1
          · have e : (s.b ++ xs).drop s.act.2.sure = z := by
              rw [(s.act_b).2.1, List.drop_append_of_le_length HSU.out, ← HY.out, HZ.out]
            show OwnB _ _ _ ((s.b ++ xs).drop s.act.2.sure)
            rw [e]; exact HO4.out.lower (Nat.zero_le _)
        · intro k hk
          rcases hk with hk | hk
          · exact .inl hk
          · have h1 := HO4.out.base_le k hk
            have h2 := HT.out.size
            exact .inr (.inr (Nat.le_trans h2 h1))
theorem ref_sync (w : World) (q : Nat) (v1 v2 : Value) (s : Sp) (h : RefAt w q v1 v2 s) :
    Calls Try.prog 49 #[.pointer (some ⟨q, 0, none⟩)] w fun e w' => e = .returned (.int .i64 s.sync.1) ∧ RefTo w q v1 v2 s.sync.2 w' := by
  have H := Aside0.mk h
  cases hr : s.act.1 with
  | false =>
    have ha := Aside0.mk (show s.sync = (190, s.act.2) by unfold Sp.sync; rw [hr]; rfl)
    have HR := Lib.hid hr
    clear hr h
    go_enter Try.func49, Try.ntmps49
    go_wp2_with (go_at_call 69; refine (ref_act _ q v1 v2 s H.out).mono ?_; rw [HR.out]; rintro e w1 ⟨rfl, hs, ht⟩; have HS := Aside0.mk hs; have HT := Aside0.mk ht; clear hs ht)
    go_ret
    exact ⟨by rw [ha.out]; rfl, v1, v2, by rw [ha.out]; exact HS.out, NearV.refl _ _ _, HT.out⟩
  | true =>
    have hoff : s.act.2.off = false := Sp.act_true hr
    have hby : s.act.2.bytes = s.b := by unfold Sp.bytes; rw [hoff, (s.act_b).1]; rfl
    have ha := Aside0.mk (show s.sync = (0, { s.act.2 with sure := s.b.length }) by unfold Sp.sync; rw [hr]; rfl)
    have HR := Lib.hid hr
    have HBY := Lib.hid hby
    have HOK := Aside0.mk h.ok.sync
    clear hr hoff hby h
    go_enter Try.func49, Try.ntmps49
    go_wp2_with (first
      | (go_at_call 69; refine (ref_act _ q v1 v2 s H.out).mono ?_; rw [HR.out]; rintro e w1 ⟨rfl, hs, ht⟩; have HS := Aside0.mk hs; have HT := Aside0.mk ht; clear hs ht)
      | (go_at_call 54; refine (ref_all _ q v1 v2 s.act.2 HS.out).mono ?_; rw [HBY.out]; rintro e w2 ⟨A2, d2, rfl, ho2, hb2⟩; have HO2 := Aside0.mk ho2; have HB2 := Aside0.mk hb2; have hs2 := HS.out.below hb2; have HS2 := Aside0.mk hs2; have f0 := hs2.frozen 0; have f1 := hs2.frozen 1; have c0 := hs2.cell 0; have c1 := hs2.cell 1; simp at c0 c1; clear ho2 hb2 hs2))
    go_ret
    refine ⟨by rw [ha.out]; rfl, .slice A2 s.b.length d2, .slice none 0 0, ?_, ?_, ((HT.out.trans (Touch.of_below HB2.out)).trans (touch1 w2 q 0 _)).trans (touch1 _ q 1 _)⟩
    · rw [ha.out] at HOK ⊢
      have hne : ∀ i, (Value.slice A2 s.b.length d2).ownBlock = some i → i ≠ q := fun i hi e => HO2.out.ne HS2.out.cells (by rw [hi, e])
      refine ⟨?_, own_move (w := w2) ?_ (fun i hi => by rw [Below.heap_setCell _ _ _ i (hne i hi), Below.heap_setCell _ _ _ i (hne i hi)]), ?_, HOK.out⟩
      · have := blk_set (blk_set HS2.out.cells 0 (.slice A2 s.b.length d2)) 1 (.slice none 0 0)
        simpa using this
      · show OwnB _ _ _ (s.act.2.b.take s.b.length)
        rw [(s.act_b).1, List.take_of_length_le (Nat.le_refl _)]
        exact HO2.out.lower (Nat.zero_le _)
      · show OwnB _ _ _ (s.act.2.b.drop s.b.length)
        rw [(s.act_b).1, List.drop_of_length_le (Nat.le_refl _)]
        exact OwnB.nil _ _
    · intro k hk
      rcases hk with hk | hk
      · have h1 := HO2.out.base_le k hk
        exact .inr (.inr (Nat.le_trans HT.out.size h1))
      · cases hk
theorem ref_cut (w : World) (q : Nat) (v1 v2 : Value) (s : Sp) (h : RefAt w q v1 v2 s) (n : Int) :
    Calls Try.prog 51 #[.pointer (some ⟨q, 0, none⟩), .int .i64 n] w fun e w' => e = .returned (.int .i64 (s.cut n).1) ∧ RefTo w q v1 v2 (s.cut n).2 w' := by
  have H := Aside0.mk h
  have c4 := h.cell 4
  simp at c4
  by_cases ho : s.off = true
  · have ha := Aside0.mk (show s.cut n = (190, s) by unfold Sp.cut; rw [if_pos ho])
    rw [ho] at c4
    clear ho h
    go_enter Try.func51, Try.ntmps51
    go_wp2_with fail
    go_ret
    exact ⟨by rw [ha.out]; rfl, v1, v2, by rw [ha.out]; exact H.out, NearV.refl _ _ _, Touch.refl _ _⟩
  · have hof : s.off = false := by simpa using ho
    have hby : s.bytes = s.b := by unfold Sp.bytes; rw [hof]; rfl
    have HBY := Lib.hid hby
    have hlen : s.b.length ≤ 1048576 := Nat.le_trans h.ok.len h.ok.room
    rw [hof] at c4
    by_cases hn : n < 0 ∨ (s.b.length : Int) < n
    · have ha := Aside0.mk (show s.cut n = (2, s) by unfold Sp.cut; rw [if_neg ho, if_pos hn])
      clear ho hof hby h
      rcases Int.lt_or_le n 0 with hn0 | hn0
      · clear hn
        go_enter Try.func51, Try.ntmps51
        go_wp2_with (go_at_call 54; refine (ref_all _ q v1 v2 s H.out).mono ?_; rw [HBY.out]; rintro e w2 ⟨A2, d2, rfl, ho2, hb2⟩; have HB2 := Aside0.mk hb2; clear ho2 hb2)
        go_ret
        exact ⟨by rw [ha.out]; rfl, v1, v2, by rw [ha.out]; exact H.out.below HB2.out, NearV.refl _ _ _, Touch.of_below HB2.out⟩
      · have hn1 : (s.b.length : Int) < n := by omega
        clear hn
        go_enter Try.func51, Try.ntmps51
        go_wp2_with (go_at_call 54; refine (ref_all _ q v1 v2 s H.out).mono ?_; rw [HBY.out]; rintro e w2 ⟨A2, d2, rfl, ho2, hb2⟩; have HB2 := Aside0.mk hb2; clear ho2 hb2)
        go_ret
        exact ⟨by rw [ha.out]; rfl, v1, v2, by rw [ha.out]; exact H.out.below HB2.out, NearV.refl _ _ _, Touch.of_below HB2.out⟩
    · have hn0 : ¬ n < 0 := by omega
      have hn1 : ¬ (s.b.length : Int) < n := by omega
      obtain ⟨m, rfl⟩ : ∃ m : Nat, n = m := ⟨n.toNat, by omega⟩
      have hm : m ≤ s.b.length := by omega
      cases hr : s.act.1 with
      | false =>
        have ha := Aside0.mk (show s.cut m = (190, s.act.2) by unfold Sp.cut; rw [if_neg ho, if_neg hn, hr]; rfl)
        have HR := Lib.hid hr
        clear hr ho hof hn hby h
        go_enter Try.func51, Try.ntmps51
        go_wp2_with (first
          | (go_at_call 54; refine (ref_all _ q v1 v2 s H.out).mono ?_; rw [HBY.out]; rintro e w2 ⟨A2, d2, rfl, ho2, hb2⟩; have HB2 := Aside0.mk hb2; clear ho2 hb2)
          | (go_at_call 69; refine (ref_act _ q v1 v2 s (H.out.below HB2.out)).mono ?_; rw [HR.out]; rintro e w1 ⟨rfl, hs, ht⟩; have HS := Aside0.mk hs; have HT := Aside0.mk ht; clear hs ht))
        go_ret
        exact ⟨by rw [ha.out]; rfl, v1, v2, by rw [ha.out]; exact HS.out, NearV.refl _ _ _, (Touch.of_below HB2.out).trans HT.out⟩
      | true =>
        have ha := Aside0.mk (show s.cut m = (0, { s.act.2 with b := s.b.take m, sure := m }) by unfold Sp.cut; rw [if_neg ho, if_neg hn, hr]; rfl)
        have HR := Lib.hid hr
        have HOK := Aside0.mk (H.out.ok.cut m)
        have HM := Lib.hid (show (s.b.take m).length = m by rw [List.length_take]; omega)
        clear hr ho hof hn hby h
        go_enter Try.func51, Try.ntmps51
        go_wp2_with (first
          | (go_at_call 54; refine (ref_all _ q v1 v2 s H.out).mono ?_; rw [HBY.out]; rintro e w2 ⟨A2, d2, rfl, ho2, hb2⟩; have HO2 := Aside0.mk ho2; have HB2 := Aside0.mk hb2; have hcut := (cut_hi A2 d2 s.b m hm ho2.at_.2.1).1; rw [HM.out] at hcut; clear ho2 hb2)
          | (go_at_call 69; refine (ref_act _ q v1 v2 s (H.out.below HB2.out)).mono ?_; rw [HR.out]; rintro e w1 ⟨rfl, hs, ht⟩; have HS := Aside0.mk hs; have HT := Aside0.mk ht; have f0 := hs.frozen 0; have f1 := hs.frozen 1; have c0 := hs.cell 0; have c1 := hs.cell 1; simp at c0 c1; clear hs ht))
        go_ret
        have hrow : OwnB w1 0 (.slice A2 m d2) (s.b.take m) := by
          have h1 : OwnB w1 0 (.slice A2 s.b.length d2) s.b := own_move (HO2.out.lower (Nat.zero_le _)) fun k hk => HT.out.block k (HO2.out.lt k hk) fun e => HO2.out.ne (H.out.below HB2.out).cells (by rw [hk, e])
          rcases Nat.eq_zero_or_pos s.b.length with h0 | hp
          · have hm0 : m = 0 := by omega
            rw [hm0, List.take_zero]
            have hb0 : s.b = [] := List.eq_nil_of_length_eq_zero h0
            rw [h0, hb0] at h1
            exact h1
          · obtain ⟨g, rfl, _⟩ := h1.form hp
            exact h1.prefix_ hm
        refine ⟨by rw [ha.out]; rfl, .slice A2 m d2, .slice none 0 0, ?_, ?_, (((Touch.of_below HB2.out).trans HT.out).trans (touch1 w1 q 0 _)).trans (touch1 _ q 1 _)⟩
        · rw [ha.out] at HOK ⊢
          have hne : ∀ i, (Value.slice A2 m d2).ownBlock = some i → i ≠ q := fun i hi e => hrow.ne HS.out.cells (by rw [hi, e])
          refine ⟨?_, own_move (w := w1) ?_ (fun i hi => by rw [Below.heap_setCell _ _ _ i (hne i hi), Below.heap_setCell _ _ _ i (hne i hi)]), ?_, HOK.out⟩
          · have := blk_set (blk_set HS.out.cells 0 (.slice A2 m d2)) 1 (.slice none 0 0)
            simpa using this
          · show OwnB _ _ _ ((s.b.take m).take m)
            rw [List.take_take, Nat.min_self]
            exact hrow
          · show OwnB _ _ _ ((s.b.take m).drop m)
            rw [List.drop_of_length_le (by rw [List.length_take]; omega)]
            exact OwnB.nil _ _
        · intro k hk
          rcases hk with hk | hk
          · have h1 := HO2.out.base_le k (show (Value.slice A2 s.b.length d2).ownBlock = some k by cases A2 <;> exact hk)
            exact .inr (.inr h1)
          · cases hk
/-- The document's spool in the midst of a crash. -/
theorem crash_mid {w : World} {q : Nat} {v1 : Value} {A2 : Option Addr} {d2 : Nat} {s : Sp} {y : List UInt8} (h : RefAt w q v1 (.slice A2 y.length d2) s) (hy : y = s.b.drop s.sure) (k : Nat) (hk : k ≤ y.length) :
    RefAt (((w.setCell ⟨q, 4, none⟩ (.bool false)).setCell ⟨q, 3, none⟩ (.int .i64 (-1))).setCell ⟨q, 1, none⟩ (.slice A2 k d2)) q v1 (.slice A2 k d2) ⟨s.b.take (s.sure + k), s.sure, s.room, -1, false⟩ := by
  have hs := h.ok.sure
  have hyl : y.length = s.b.length - s.sure := by rw [hy, List.length_drop]
  have h1 := h.firm
  have h2 := h.soft
  rw [← hy] at h2
  have h3 : OwnB w 0 (.slice A2 k d2) (y.take k) := by
    rcases Nat.eq_zero_or_pos y.length with h0 | hp
    · have hk0 : k = 0 := by omega
      have hy0 : y = [] := List.eq_nil_of_length_eq_zero h0
      rw [hk0, List.take_zero]
      rw [h0, hy0] at h2
      exact h2
    · obtain ⟨g, rfl, _⟩ := h2.form hp
      exact h2.prefix_ hk
  have hne : ∀ {v : Value} {xs : List UInt8}, OwnB w 0 v xs → ∀ i, v.ownBlock = some i → (((w.setCell ⟨q, 4, none⟩ (.bool false)).setCell ⟨q, 3, none⟩ (.int .i64 (-1))).setCell ⟨q, 1, none⟩ (.slice A2 k d2)).heap[i]? = w.heap[i]? := by
    intro v xs ho i hi
    have hne : i ≠ q := fun e => ho.ne h.cells (by rw [hi, e])
    rw [Below.heap_setCell _ _ _ i hne, Below.heap_setCell _ _ _ i hne, Below.heap_setCell _ _ _ i hne]
  refine ⟨?_, ?_, ?_, ⟨?_, ?_, h.ok.room, by simp, by simp⟩⟩
  · have := blk_set (blk_set (blk_set h.cells 4 (.bool false)) 3 (.int .i64 (-1))) 1 (.slice A2 k d2)
    simpa using this
  · show OwnB _ _ _ ((s.b.take (s.sure + k)).take s.sure)
    rw [List.take_take, Nat.min_eq_left (by omega)]
    exact own_move h1 (hne h1)
  · show OwnB _ _ _ ((s.b.take (s.sure + k)).drop s.sure)
    rw [List.drop_take, ← hy, show s.sure + k - s.sure = k by omega]
    exact own_move h3 (hne h3)
  · simp only [List.length_take]; omega
  · have := h.ok.len
    simp only [List.length_take]; omega
set_option maxHeartbeats 400000 in
theorem ref_crash (w : World) (q : Nat) (v1 v2 : Value) (s : Sp) (h : RefAt w q v1 v2 s) (keep : Int) :
    Calls Try.prog 53 #[.pointer (some ⟨q, 0, none⟩), .int .i64 keep] w fun e w' => e = .returned (.tuple #[]) ∧ RefTo w q v1 v2 (s.crash keep) w' := by
  obtain ⟨A2, d2, rfl, hd2, k2⟩ := h.soft.reads
  have H := Aside0.mk h
  obtain ⟨y, hy⟩ : ∃ y, y = s.b.drop s.sure := ⟨_, rfl⟩
  have c1 := h.cell 1
  have c3 := h.cell 3
  have c4 := h.cell 4
  have f1 := h.frozen 1
  have f3 := h.frozen 3
  have f4 := h.frozen 4
  simp only [List.getElem?_toArray, List.getElem?_cons_zero, List.getElem?_cons_succ] at c1 c3 c4
  rw [← hy] at c1 hd2 H ⊢
  have hyl : y.length = s.b.length - s.sure := by rw [hy, List.length_drop]
  have hlen : s.b.length ≤ 1048576 := Nat.le_trans h.ok.len h.ok.room
  have hyl2 : y.length ≤ 1048576 := by omega
  have HY := Lib.hid hy
  have HYL := Lib.hid hyl
  have hq := h.lt
  have HOK := Aside0.mk (h.ok.crash keep)
  have hsure := h.ok.sure
  clear h k2 hy hyl
  go_enter Try.func53, Try.ntmps53
  go_wp2_with fail
  go_loop [4] (fun n => ∃ k : Nat, n = .int .i64 k ∧ k ≤ y.length ∧ k ≤ keep.toNat) (fun n => y.length - (intOf n).toNat)
  case atStart => exact ⟨0, rfl, Nat.zero_le _, Nat.zero_le _⟩
  case round =>
    obtain ⟨k, rfl, hk1, hk2⟩ := hrel
    by_cases hgo : k < y.length ∧ (k : Int) < keep
    · obtain ⟨hlt, hkp⟩ := hgo
      go_wp2_with fail
      go_round
      case rel => exact ⟨k + 1, by go_num, by omega, by omega⟩
      case measure => simp [intOf]; omega
    · have HK := Lib.hid (show s.sure + k = s.keepN keep by unfold Sp.keepN; have := HYL.out; omega)
      have hkl : s.sure + k ≤ s.b.length := by have := HYL.out; omega
      have hcut := (cut_hi A2 d2 y k hk1 hd2).1
      have hk3 : (y.take k).length = k := by rw [List.length_take]; omega
      rw [hk3] at hcut
      have HM := Aside0.mk (crash_mid H.out HY.out k hk1)
      clear hk3
      obtain ⟨t, ht⟩ : ∃ t, t = s.b.take (s.sure + k) := ⟨_, rfl⟩
      rw [← ht] at HM
      have HBT := Lib.hid (show (Sp.mk t s.sure s.room (-1) false).bytes = t from rfl)
      have HT := Lib.hid ht
      clear ht
      rcases (show (k < y.length ∧ ¬ (k : Int) < keep) ∨ ¬ k < y.length by omega) with ⟨hlt, hkp⟩ | hlt
      all_goals
        clear hgo
        go_wp2_with (go_at_call 54; refine (ref_all _ q _ _ _ HM.out).mono ?_; rw [HBT.out]; rintro e w2 ⟨A3, d3, rfl, ho2, hb2⟩; have HO2 := Aside0.mk ho2; have HB2 := Aside0.mk hb2; have hs2 := HM.out.below hb2; have HS2 := Aside0.mk hs2; have g0 := hs2.frozen 0; have g1 := hs2.frozen 1; have e0 := hs2.cell 0; have e1 := hs2.cell 1; simp at e0 e1; clear ho2 hb2 hs2)
        first | go_end0 | ((try simp only [Exit.inBlock, Exit.then]); refine bodyPost_ret (results_none rfl _ _ _) rfl ?_)
        refine ⟨rfl, .slice A3 t.length d3, .slice none 0 0, ?_, ?_, (((((touch1 w q 4 _).trans (touch1 _ q 3 _)).trans (touch1 _ q 1 _)).trans (Touch.of_below HB2.out)).trans (touch1 w2 q 0 _)).trans (touch1 _ q 1 _)⟩
        · have e5 : s.crash keep = ⟨t, t.length, s.room, -1, false⟩ := by
            unfold Sp.crash; rw [← HK.out, ← HT.out]; congr 1; rw [HT.out, List.length_take]; omega
          rw [e5] at HOK ⊢
          have hne : ∀ i, (Value.slice A3 t.length d3).ownBlock = some i → i ≠ q := fun i hi e => HO2.out.ne HS2.out.cells (by rw [hi, e])
          refine ⟨?_, own_move (w := w2) ?_ (fun i hi => by rw [Below.heap_setCell _ _ _ i (hne i hi), Below.heap_setCell _ _ _ i (hne i hi)]), ?_, HOK.out⟩
          · have := blk_set (blk_set HS2.out.cells 0 (.slice A3 t.length d3)) 1 (.slice none 0 0)
            simpa using this
          · show OwnB _ _ _ (t.take t.length)
            rw [List.take_of_length_le (Nat.le_refl _)]
            exact HO2.out.lower (Nat.zero_le _)
          · show OwnB _ _ _ (t.drop t.length)
            rw [List.drop_of_length_le (Nat.le_refl _)]
            exact OwnB.nil _ _
        · intro i hi
          rcases hi with hi | hi
          · have h1 := HO2.out.base_le i hi
            refine .inr (.inr ?_)
            simpa [World.setCell] using h1
          · cases hi
end Go.Proofs.Ytahaoakolgomdaa
