/- Walks of the spool: act, Sync, Len, Sure, On, Off. -/
import Derived.Test.YtahaoakolgomdaaW3
import Derived.StillTailTactics
namespace Go.Proofs.Ytahaoakolgomdaa
open Go.RowKit Go.Proofs.YtahaoakolgomdaaW.PrintWords Go.Proofs.YtahaoakolgomdaaW.PrintLast Go.Proofs.YtahaoakolgomdaaW.PrintMore
set_option linter.unusedVariables false
set_option linter.unusedSimpArgs false

theorem act_calls (w : World) (base p : Nat) (v : Value) (s : Sp) (h : SpoolAt w base p v s) :
    Calls Try.prog 68 #[.pointer (some ⟨p, 0, none⟩)] w fun e w' => e = .returned (.bool s.act.1) ∧ SpoolAt w' base p v s.act.2 ∧ Touch (· = p) w w' := by
  have H := Aside0.mk h
  have c3 := h.cell 3
  have c4 := h.cell 4
  have f3 := h.frozen 3
  have f4 := h.frozen 4
  have lo := h.ok.lo
  have hi := h.ok.hi
  simp at c3 c4
  clear h
  have T1 : ∀ k u, Touch (· = p) w (w.setCell ⟨p, k, none⟩ u) := fun k u => (Touch.of_grown (grown_set w p k u)).mono fun q _ e => Option.some.inj e
  by_cases ho : s.off = true
  · have ha : s.act = (false, s) := by unfold Sp.act; rw [if_pos ho]
    rw [ho] at c4
    clear ho
    go_enter Try.func68, Try.ntmps68
    go_wp2_with fail
    go_ret
    exact ⟨by rw [ha]; rfl, by rw [ha]; exact H.out, Touch.refl _ _⟩
  · have ho : s.off = false := by simpa using ho
    by_cases h0 : s.left = 0
    · have ha : s.act = (false, { s with off := true }) := by unfold Sp.act; rw [if_neg (by simp [ho]), if_pos h0]
      have HA := Aside0.mk ha
      have HS := Aside0.mk (H.out.set 4 (.bool true) v { s with off := true } (by simp) H.out.row H.out.ne ⟨H.out.ok.sure, H.out.ok.len, H.out.ok.room, H.out.ok.lo, H.out.ok.hi⟩)
      rw [ho] at c4
      rw [h0] at c3
      clear ho h0 ha
      go_enter Try.func68, Try.ntmps68
      go_wp2_with fail
      go_ret
      exact ⟨by rw [HA.out]; rfl, by rw [HA.out]; exact HS.out, T1 _ _⟩
    · by_cases h1 : 0 < s.left
      · have ha : s.act = (true, { s with left := s.left - 1 }) := by unfold Sp.act; rw [if_neg (by simp [ho]), if_neg h0, if_pos h1]
        have HA := Aside0.mk ha
        have HS := Aside0.mk (H.out.set 3 (.int .i64 (s.left - 1)) v { s with left := s.left - 1 } (by simp) H.out.row H.out.ne ⟨H.out.ok.sure, H.out.ok.len, H.out.ok.room, by simp only; omega, by simp only; omega⟩)
        have d0 : (s.left == 0) = false := by rw [beq_eq_false_iff_ne]; exact h0
        rw [ho] at c4
        clear ho ha
        generalize s.left = l at c3 d0 h1 h0 lo hi HS HA
        go_enter Try.func68, Try.ntmps68
        go_wp2_with fail
        go_ret
        exact ⟨by rw [HA.out]; rfl, by rw [HA.out]; exact HS.out, T1 _ _⟩
      · have ha : s.act = (true, s) := by unfold Sp.act; rw [if_neg (by simp [ho]), if_neg h0, if_neg h1]
        have HA := Aside0.mk ha
        have d0 : (s.left == 0) = false := by rw [beq_eq_false_iff_ne]; exact h0
        rw [ho] at c4
        clear ho ha
        go_enter Try.func68, Try.ntmps68
        go_wp2_with fail
        go_ret
        exact ⟨by rw [HA.out]; rfl, by rw [HA.out]; exact H.out, Touch.refl _ _⟩
/-- What a call that only reads leaves. -/
theorem len_calls (w : World) (base p : Nat) (v : Value) (s : Sp) (h : SpoolAt w base p v s) :
    Calls Try.prog 46 #[.pointer (some ⟨p, 0, none⟩)] w fun e w' => e = .returned (.int .i64 (s.len : Int)) ∧ w' = w := by
  obtain ⟨A, c, rfl, _, _, _⟩ := h.row.reads
  have c0 := h.cell 0
  have c4 := h.cell 4
  simp at c0 c4
  clear h
  by_cases ho : s.off = true
  · have ha := Lib.hid (show 0 = s.len by unfold Sp.len; rw [if_pos ho])
    rw [ho] at c4
    clear ho
    go_enter Try.func46, Try.ntmps46
    go_wp2
    go_ret
    exact ⟨by rw [← ha.out]; rfl, rfl⟩
  · have ha := Lib.hid (show s.b.length = s.len by unfold Sp.len; rw [if_neg ho])
    have ho : s.off = false := by simpa using ho
    rw [ho] at c4
    clear ho
    go_enter Try.func46, Try.ntmps46
    go_wp2
    go_ret
    exact ⟨by rw [← ha.out]; rfl, rfl⟩
theorem sure_calls (w : World) (base p : Nat) (v : Value) (s : Sp) (h : SpoolAt w base p v s) :
    Calls Try.prog 45 #[.pointer (some ⟨p, 0, none⟩)] w fun e w' => e = .returned (.int .i64 (s.sureN : Int)) ∧ w' = w := by
  have c1 := h.cell 1
  have c4 := h.cell 4
  simp at c1 c4
  clear h
  by_cases ho : s.off = true
  · have ha := Lib.hid (show 0 = s.sureN by unfold Sp.sureN; rw [if_pos ho])
    rw [ho] at c4
    clear ho
    go_enter Try.func45, Try.ntmps45
    go_wp2
    go_ret
    exact ⟨by rw [← ha.out]; rfl, rfl⟩
  · have ha := Lib.hid (show s.sure = s.sureN by unfold Sp.sureN; rw [if_neg ho])
    have ho : s.off = false := by simpa using ho
    rw [ho] at c4
    clear ho
    go_enter Try.func45, Try.ntmps45
    go_wp2
    go_ret
    exact ⟨by rw [← ha.out]; rfl, rfl⟩
theorem on_calls (w : World) (base p : Nat) (v : Value) (s : Sp) (h : SpoolAt w base p v s) :
    Calls Try.prog 42 #[.pointer (some ⟨p, 0, none⟩)] w fun e w' => e = .returned (.bool (!s.off)) ∧ w' = w := by
  have c4 := h.cell 4
  simp at c4
  clear h
  go_enter Try.func42, Try.ntmps42
  go_wp2
  go_ret
  exact ⟨rfl, rfl⟩
theorem sync_calls (w : World) (base p : Nat) (v : Value) (s : Sp) (h : SpoolAt w base p v s) :
    Calls Try.prog 40 #[.pointer (some ⟨p, 0, none⟩)] w fun e w' => e = .returned (.int .i64 s.sync.1) ∧ SpoolAt w' base p v s.sync.2 ∧ Touch (· = p) w w' := by
  have H := Aside0.mk h
  clear h
  cases hr : s.act.1 with
  | false =>
    have ha := Aside0.mk (show s.sync = (190, s.act.2) by unfold Sp.sync; rw [hr]; rfl)
    have HR := Lib.hid hr
    clear hr
    go_enter Try.func40, Try.ntmps40
    go_wp2_with (go_at_call 68; refine (act_calls _ base p v s H.out).mono ?_; rw [HR.out]; rintro e w1 ⟨rfl, hs, ht⟩; have HS := Aside0.mk hs; have HT := Aside0.mk ht; clear hs ht)
    go_ret
    exact ⟨by rw [ha.out]; rfl, by rw [ha.out]; exact HS.out, HT.out⟩
  | true =>
    have ha := Aside0.mk (show s.sync = (0, { s.act.2 with sure := s.b.length }) by unfold Sp.sync; rw [hr]; rfl)
    have HR := Lib.hid hr
    clear hr
    go_enter Try.func40, Try.ntmps40
    go_wp2_with (go_at_call 68; refine (act_calls _ base p v s H.out).mono ?_; rw [HR.out]; rintro e w1 ⟨rfl, hs, ht⟩; have HS := Aside0.mk hs; have HT := Aside0.mk ht; obtain ⟨A, c, rfl, _, _, _⟩ := hs.row.reads; have c0 := hs.cell 0; have f1 := hs.frozen 1; have c1 := hs.cell 1; simp at c0 c1; rw [(s.act_b).1] at c0; clear hs ht)
    go_ret
    refine ⟨by rw [ha.out]; rfl, ?_, HT.out.trans ((Touch.of_grown (grown_set _ p 1 _)).mono fun q _ e => Option.some.inj e)⟩
    rw [ha.out]
    refine HS.out.set 1 _ _ _ (by simp) HS.out.row HS.out.ne ?_
    have h5 := H.out.ok.sync
    rwa [ha.out] at h5
theorem setOff_calls (w : World) (base p : Nat) (v : Value) (s : Sp) (h : SpoolAt w base p v s) (n : Int) (hn : n ≤ 9223372036854775807) :
    Calls Try.prog 39 #[.pointer (some ⟨p, 0, none⟩), .int .i64 n] w fun e w' => e = .returned (.tuple #[]) ∧ SpoolAt w' base p v (s.setOff n) ∧ Touch (· = p) w w' := by
  have H := Aside0.mk h
  have c3 := h.cell 3
  have f3 := h.frozen 3
  simp at c3
  clear h
  have hm : ∀ W : World, (Builtin.max_ #[3, 3] 3 #[.int .i64 n, .int .i64 (-1)]).run Try.prog W = .ok (.int .i64 (if n < -1 then -1 else n)) W := fun W => by rw [max_two, max2_int]; rfl
  have HS := Aside0.mk (H.out.set 3 (.int .i64 (if n < -1 then -1 else n)) v (s.setOff n) (by simp [Sp.setOff]) H.out.row H.out.ne (H.out.ok.setOff n hn))
  generalize (if n < -1 then -1 else n) = m at hm HS
  go_enter Try.func39, Try.ntmps39
  go_wp2_with fail
  first | go_end0 | ((try simp only [Exit.inBlock, Exit.then]); refine bodyPost_ret (results_none rfl _ _ _) rfl ?_)
  exact ⟨rfl, HS.out, (Touch.of_grown (grown_set _ p 3 _)).mono fun q _ e => Option.some.inj e⟩
theorem new_calls (w : World) (room : Int) :
    Calls Try.prog 38 #[.int .i64 room] w fun e w' =>
      if room < 1 ∨ 1048576 < room then e = .returned (.tuple #[.pointer none, .int .i64 2]) ∧ w' = w
      else ∃ p, e = .returned (.tuple #[.pointer (some ⟨p, 0, none⟩), .int .i64 0]) ∧ p = w.heap.size ∧ SpoolAt w' w.heap.size p (.slice none 0 0) (Sp.new room.toNat) ∧ Below w.heap.size w w' := by
  by_cases h : room < 1 ∨ 1048576 < room
  · simp only [if_pos h]
    rcases h with h | h
    · go_enter Try.func38, Try.ntmps38
      go_wp2
      go_ret2
      exact ⟨rfl, rfl⟩
    · by_cases h1 : room < 1
      · omega
      · go_enter Try.func38, Try.ntmps38
        go_wp2
        go_ret2
        exact ⟨rfl, rfl⟩
  · simp only [if_neg h]
    have h1 : ¬ room < 1 := by omega
    have h2 : ¬ 1048576 < room := by omega
    clear h
    go_enter Try.func38, Try.ntmps38
    go_wp2
    go_ret2
    refine ⟨_, rfl, rfl, ⟨Nat.le_refl _, ?_, RowB.nil _ _, Sp.new_ok _ (by omega)⟩, below_alloc (Below.refl _ _) _⟩
    have e : ((room.toNat : Nat) : Int) = room := by omega
    simp only [Sp.new]
    rw [e]
    exact heap_alloc_new w _
end Go.Proofs.Ytahaoakolgomdaa
