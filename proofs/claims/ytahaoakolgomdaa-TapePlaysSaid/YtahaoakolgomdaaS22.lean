/- Walks of the spool: Bytes; a spool that is not there. -/
import Derived.Test.YtahaoakolgomdaaS21
import Derived.Laws.CopyOwn
namespace Go.Proofs.Ytahaoakolgomdaa
open Go.RowKit Go.Proofs.YtahaoakolgomdaaW.PrintWords Go.Proofs.YtahaoakolgomdaaW.PrintLast Go.Proofs.YtahaoakolgomdaaW.PrintMore
set_option linter.unusedVariables false
set_option linter.unusedSimpArgs false

theorem size5 : (Try.prog.info? 5).map (·.size) = some 1 := by kernel_rfl
/-- Bytes are copied into a row that was just made. -/
theorem copy_made (w : World) (A : Option Addr) (k c : Nat) (xs : List UInt8) (hk : k = xs.length) (h : kb.C w A xs.length xs) (hk2 : k ≤ 1048576) :
    ∃ w2, (Builtin.copy_ #[22, 22] 3 #[.slice (some ⟨w.heap.size, 0, none⟩) k k, .slice A k c]).run Try.prog (w.alloc (.cells (madeCells #[.int .u8 0] k) 5)) = .ok (.int .i64 (k : Int)) w2 ∧
      OwnB w2 w.heap.size (.slice (some ⟨w.heap.size, 0, none⟩) k k) xs ∧ Below w.heap.size w w2 := by
  subst hk
  have hg := heap_alloc_new w (.cells (madeCells #[.int .u8 0] xs.length) 5)
  have hmx : xs.length ≤ maxLen := by simp only [maxLen]; omega
  have hba : Below w.heap.size w (w.alloc (.cells (madeCells #[.int .u8 0] xs.length) 5)) := below_alloc (Below.refl _ _) _
  rcases Nat.eq_zero_or_pos xs.length with h0 | hp
  · have hx : xs = [] := List.eq_nil_of_length_eq_zero h0
    subst hx
    have hrun := run_copy_none (P := Try.prog) (w.alloc (.cells (madeCells #[.int .u8 0] 0) 5)) 22 22 3 5 (some ⟨w.heap.size, 0, none⟩) A 0 0 0 c Try.underlying22 size5 rfl
    exact ⟨_, hrun, OwnB.mk (Nat.le_refl _) hg rfl (Nat.le_refl _) hmx (by rw [size_madeCells]) (by simp [encs]), hba⟩
  · obtain ⟨ad, rfl, hl1, hn1, hc1⟩ := kb_news (Kd.C_below h hba) hp
    have hrun := run_copy_row (P := Try.prog) (w.alloc (.cells (madeCells #[.int .u8 0] xs.length) 5)) 22 22 3 5 w.heap.size 0 xs.length xs.length ad xs.length c _ 5 (encs enc8 xs) Try.underlying22 size5 hg (by rw [encs8_len]; simp) hn1 (by rw [encs8_len, size_madeCells]; omega) hc1
    rw [encs8_len] at hrun
    refine ⟨_, hrun, ?_, below_setRow hba (Nat.le_refl _) _⟩
    refine OwnB.mk (Nat.le_refl _) (setRow_heap _ _ _ _ 5 _ hg) rfl (Nat.le_refl _) hmx ?_ ?_
    · simp [encs8_len, size_madeCells]
    · simp only [List.toList_toArray, List.take_zero, List.nil_append]
      exact List.take_left' (by rw [encs8_len])
set_option maxRecDepth 10000 in
theorem bytes_calls (w : World) (base p : Nat) (v : Value) (s : Sp) (h : SpoolAt w base p v s) :
    Calls Try.prog 43 #[.pointer (some ⟨p, 0, none⟩)] w fun e w' => ∃ A1 c1, e = .returned (.slice A1 s.bytes.length c1) ∧ OwnB w' w.heap.size (.slice A1 s.bytes.length c1) s.bytes ∧ Below w.heap.size w w' := by
  obtain ⟨A, c, rfl, hbc, _, hkb⟩ := h.row.reads
  have H := Aside0.mk h
  have KB := Aside0.mk hkb
  have c0 := h.cell 0
  have c4 := h.cell 4
  simp at c0 c4
  have hlen : s.b.length ≤ 1048576 := Nat.le_trans h.ok.len h.ok.room
  clear h hkb
  by_cases ho : s.off = true
  · have ha := Aside0.mk (show s.bytes = [] by unfold Sp.bytes; rw [if_pos ho])
    rw [ho] at c4
    clear ho
    go_enter Try.func43, Try.ntmps43
    go_wp2_with fail
    go_ret
    rw [ha.out]
    exact ⟨none, 0, rfl, OwnB.nil _ _, Below.refl _ _⟩
  · have ha := Aside0.mk (show s.bytes = s.b by unfold Sp.bytes; rw [if_neg ho])
    have hof : s.off = false := by simpa using ho
    rw [hof] at c4
    clear ho hof
    obtain ⟨k, hk⟩ : ∃ k, k = s.b.length := ⟨_, rfl⟩
    have HK := Lib.hid hk
    rw [← hk] at c0 hlen hbc
    have hmk := print_make (P := Try.prog) 22 5 .u8 1 Try.underlying22 info5 (by omega) k (by omega)
    have k0 : ∀ o : Obj, (w.alloc o).cell? ⟨p, 0, none⟩ = some (.slice A k c) := fun o => (World.cell?_of_block (heap_alloc_old w o H.out.lt)).trans c0
    obtain ⟨w2, hcp, hown, hbel⟩ := copy_made w A k c s.b HK.out KB.out hlen
    have HO := Aside0.mk hown
    have HB2 := Aside0.mk hbel
    clear hk hown hbel
    go_enter Try.func43, Try.ntmps43
    go_wp2_with fail
    go_ret
    rw [ha.out, ← HK.out]
    exact ⟨_, k, rfl, HO.out, HB2.out⟩
/-! A spool that is not there. -/
theorem nil_off (w : World) (n : Int) : Calls Try.prog 39 #[.pointer none, .int .i64 n] w fun e w' => e = .returned (.tuple #[]) ∧ w' = w := by
  go_enter Try.func39, Try.ntmps39
  go_wp2_with fail
  first | go_end0 | ((try simp only [Exit.inBlock, Exit.then]); refine bodyPost_ret (results_none rfl _ _ _) rfl ?_)
  exact ⟨rfl, rfl⟩
theorem nil_crash (w : World) (n : Int) : Calls Try.prog 44 #[.pointer none, .int .i64 n] w fun e w' => e = .returned (.tuple #[]) ∧ w' = w := by
  go_enter Try.func44, Try.ntmps44
  go_wp2_with fail
  first | go_end0 | ((try simp only [Exit.inBlock, Exit.then]); refine bodyPost_ret (results_none rfl _ _ _) rfl ?_)
  exact ⟨rfl, rfl⟩
theorem nil_add (w : World) (u : Value) : Calls Try.prog 41 #[.pointer none, u] w fun e w' => e = .returned (.int .i64 1) ∧ w' = w := by
  go_enter Try.func41, Try.ntmps41
  go_wp2_with fail
  go_ret
  exact ⟨rfl, rfl⟩
theorem nil_sync (w : World) : Calls Try.prog 40 #[.pointer none] w fun e w' => e = .returned (.int .i64 1) ∧ w' = w := by
  go_enter Try.func40, Try.ntmps40
  go_wp2_with fail
  go_ret
  exact ⟨rfl, rfl⟩
theorem nil_cut (w : World) (n : Int) : Calls Try.prog 50 #[.pointer none, .int .i64 n] w fun e w' => e = .returned (.int .i64 1) ∧ w' = w := by
  go_enter Try.func50, Try.ntmps50
  go_wp2_with fail
  go_ret
  exact ⟨rfl, rfl⟩
theorem nil_bytes (w : World) : Calls Try.prog 43 #[.pointer none] w fun e w' => e = .returned (.slice none 0 0) ∧ w' = w := by
  go_enter Try.func43, Try.ntmps43
  go_wp2_with fail
  go_ret
  exact ⟨rfl, rfl⟩
theorem nil_len (w : World) : Calls Try.prog 46 #[.pointer none] w fun e w' => e = .returned (.int .i64 0) ∧ w' = w := by
  go_enter Try.func46, Try.ntmps46
  go_wp2_with fail
  go_ret
  exact ⟨rfl, rfl⟩
theorem nil_sure (w : World) : Calls Try.prog 45 #[.pointer none] w fun e w' => e = .returned (.int .i64 0) ∧ w' = w := by
  go_enter Try.func45, Try.ntmps45
  go_wp2_with fail
  go_ret
  exact ⟨rfl, rfl⟩
theorem nil_on (w : World) : Calls Try.prog 42 #[.pointer none] w fun e w' => e = .returned (.bool false) ∧ w' = w := by
  go_enter Try.func42, Try.ntmps42
  go_wp2_with fail
  go_ret
  exact ⟨rfl, rfl⟩
end Go.Proofs.Ytahaoakolgomdaa
