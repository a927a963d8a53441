/- Walks of the spool: Crash, Cut, Add, Bytes. -/
import Derived.Test.YtahaoakolgomdaaS20
import Derived.Deep.RegionWith
namespace Go.Proofs.Ytahaoakolgomdaa
open Go.RowKit Go.Proofs.YtahaoakolgomdaaW.PrintWords Go.Proofs.YtahaoakolgomdaaW.PrintLast Go.Proofs.YtahaoakolgomdaaW.PrintMore
set_option linter.unusedVariables false
set_option linter.unusedSimpArgs false

theorem touch_drewN (S : Nat → Prop) (w : World) (n : Nat) : Touch S w (w.drewN n) := Touch.of_below (pw_below_drewN (Below.refl _ _) n)
/-- xs[:m:m] -/
theorem cut_both (A : Option Addr) (n c m : Nat) (hm : m ≤ c) (W : World) : (Instr.slice 22 (.slice A n c) none (some (.int .i64 (m : Int))) (some (.int .i64 (m : Int)))).run Try.prog W = .ok (.slice A m m) W := by
  obtain ⟨i0, hi, _, hsz, _⟩ := info_parts info5
  have he : Try.prog.elem 22 = 5 := by kernel_rfl
  rw [run_slice_hm (kh := .i64) (km := .i64) W 22 A n c (by rw [Try.underlying22, he]) m m (by omega) (by omega) (by omega)]
  simp [sizeOf, typeInfo, he, hi, sliced]
  intro _
  cases A <;> simp [Addr.add]
theorem cut_calls (w : World) (base p : Nat) (v : Value) (s : Sp) (h : SpoolAt w base p v s) (n : Int) :
    Calls Try.prog 50 #[.pointer (some ⟨p, 0, none⟩), .int .i64 n] w fun e w' => e = .returned (.int .i64 (s.cut n).1) ∧ (∃ v', SpoolAt w' base p v' (s.cut n).2 ∧ v'.ownBlock = v.ownBlock) ∧ Touch (· = p) w w' := by
  obtain ⟨A, c, rfl, hbc, _, _⟩ := h.row.reads
  have H := Aside0.mk h
  have c0 := h.cell 0
  have c4 := h.cell 4
  simp at c0 c4
  clear h
  by_cases ho : s.off = true
  · have ha := Aside0.mk (show s.cut n = (190, s) by unfold Sp.cut; rw [if_pos ho])
    rw [ho] at c4
    clear ho
    go_enter Try.func50, Try.ntmps50
    go_wp2_with fail
    go_ret
    exact ⟨by rw [ha.out]; rfl, ⟨_, by rw [ha.out]; exact H.out, rfl⟩, Touch.refl _ _⟩
  · have hof : s.off = false := by simpa using ho
    rw [hof] at c4
    by_cases hn : n < 0 ∨ (s.b.length : Int) < n
    · have ha := Aside0.mk (show s.cut n = (2, s) by unfold Sp.cut; rw [if_neg ho, if_pos hn])
      clear ho hof
      rcases Int.lt_or_le n 0 with hn0 | hn0
      · clear hn
        go_enter Try.func50, Try.ntmps50
        go_wp2_with fail
        go_ret
        exact ⟨by rw [ha.out]; rfl, ⟨_, by rw [ha.out]; exact H.out, rfl⟩, Touch.refl _ _⟩
      · have hn1 : (s.b.length : Int) < n := by omega
        clear hn
        go_enter Try.func50, Try.ntmps50
        go_wp2_with fail
        go_ret
        exact ⟨by rw [ha.out]; rfl, ⟨_, by rw [ha.out]; exact H.out, rfl⟩, Touch.refl _ _⟩
    · have hn0 : ¬ n < 0 := by omega
      have hn1 : ¬ (s.b.length : Int) < n := by omega
      obtain ⟨m, rfl⟩ : ∃ m : Nat, n = m := ⟨n.toNat, by omega⟩
      cases hr : s.act.1 with
      | false =>
        have ha := Aside0.mk (show s.cut m = (190, s.act.2) by unfold Sp.cut; rw [if_neg ho, if_neg hn, hr]; rfl)
        have HR := Lib.hid hr
        clear hr ho hof hn
        go_enter Try.func50, Try.ntmps50
        go_wp2_with (go_at_call 68; refine (act_calls _ base p _ s H.out).mono ?_; rw [HR.out]; rintro e w1 ⟨rfl, hs, ht⟩; have HS := Aside0.mk hs; have HT := Aside0.mk ht; clear hs ht)
        go_ret
        exact ⟨by rw [ha.out]; rfl, ⟨_, by rw [ha.out]; exact HS.out, rfl⟩, HT.out⟩
      | true =>
        have ha := Aside0.mk (show s.cut m = (0, { s.act.2 with b := s.b.take m, sure := m }) by unfold Sp.cut; rw [if_neg ho, if_neg hn, hr]; rfl)
        have HR := Lib.hid hr
        have hcut := cut_both A s.b.length c m (by omega)
        have HOK := Aside0.mk (H.out.ok.cut m)
        clear hr ho hof hn
        go_enter Try.func50, Try.ntmps50
        go_wp2_with (go_at_call 68; refine (act_calls _ base p _ s H.out).mono ?_; rw [HR.out]; rintro e w1 ⟨rfl, hs, ht⟩; have HS := Aside0.mk hs; have HT := Aside0.mk ht; have q0 := hs.cell 0; have f0 := hs.frozen 0; have f1 := hs.frozen 1; have q1 := hs.cell 1; simp at q0 q1; clear hs ht)
        go_ret
        refine ⟨by rw [ha.out]; rfl, ⟨.slice A m m, ?_, by cases A <;> rfl⟩, HT.out.trans (((Touch.of_grown (grown_set _ p 0 _)).trans (Touch.of_grown (grown_set _ p 1 _))).mono fun q _ e => Option.some.inj e)⟩
        rw [ha.out] at HOK ⊢
        refine ⟨HS.out.lo, ?_, ?_, HOK.out⟩
        · have := blk_set (blk_set HS.out.cells 0 (.slice A m m)) 1 (.int .i64 (m : Int))
          simpa using this
        · have hrow := HS.out.row
          rw [(s.act_b).1] at hrow
          refine (hrow.cut (m := m) (by omega) m (Nat.le_refl _) (by omega)).keep fun k hk => ?_
          have hkp : k ≠ p := fun e => HS.out.ne (show _ = some p by rw [← e, ← hk]; cases A <;> rfl)
          rw [Below.heap_setCell _ _ _ k hkp, Below.heap_setCell _ _ _ k hkp]
theorem crash_calls (w : World) (base p : Nat) (v : Value) (s : Sp) (h : SpoolAt w base p v s) (keep : Int) :
    Calls Try.prog 44 #[.pointer (some ⟨p, 0, none⟩), .int .i64 keep] w fun e w' => e = .returned (.tuple #[]) ∧ (∃ v', SpoolAt w' base p v' (s.crash keep) ∧ v'.ownBlock = v.ownBlock) ∧ Touch (· = p) w w' := by
  obtain ⟨A, c, rfl, hbc, _, _⟩ := h.row.reads
  have H := Aside0.mk h
  have c0 := h.cell 0
  have c1 := h.cell 1
  have c3 := h.cell 3
  have c4 := h.cell 4
  have f0 := h.frozen 0
  have f1 := h.frozen 1
  have f3 := h.frozen 3
  have f4 := h.frozen 4
  simp at c0 c1 c3 c4
  have hsure := h.ok.sure
  have hlen := h.ok.len
  have hroom := h.ok.room
  obtain ⟨kp, hkp⟩ : ∃ kp : Nat, kp = keep.toNat := ⟨_, rfl⟩
  have hm : ∀ W : World, (Builtin.max_ #[3, 3] 3 #[.int .i64 keep, .int .i64 0]).run Try.prog W = .ok (.int .i64 (kp : Int)) W := fun W => by
    rw [max_two, max2_int, hkp]
    show Result.ok (Value.int .i64 (if keep < 0 then 0 else keep)) W = _
    congr 2; split <;> omega
  obtain ⟨d, hd⟩ : ∃ d : Nat, d = min kp (s.b.length - s.sure) := ⟨_, rfl⟩
  have hm2 : ∀ W : World, (Builtin.min_ #[3, 3] 3 #[.int .i64 (kp : Int), .int .i64 ((s.b.length : Int) - (s.sure : Int))]).run Try.prog W = .ok (.int .i64 (d : Int)) W := fun W => by
    rw [min_two, min2_int]
    show Result.ok (Value.int .i64 _) W = _
    congr 2; split <;> omega
  obtain ⟨m, hmd⟩ : ∃ m, m = s.sure + d := ⟨_, rfl⟩
  have hk := Lib.hid (show m = s.keepN keep by rw [hmd, hd, hkp]; rfl)
  have HC := Aside0.mk (cut_both A s.b.length c m (by omega))
  have hle : m ≤ s.b.length := by omega
  have hmi : (s.sure : Int) + (d : Int) = (m : Int) := by omega
  have hmc : ∀ W : World, (Instr.slice 22 (.slice A s.b.length c) none (some (.int .i64 (m : Int))) (some (.int .i64 (m : Int)))).run Try.prog W = .ok (.slice A m m) W := HC.out
  have HOK := Aside0.mk (h.ok.crash keep)
  clear h hd hkp hmd
  go_enter Try.func44, Try.ntmps44
  go_wp2_with fail
  go_quiet (fail)
  go_wp2_with fail
  first | go_end0 | ((try simp only [Exit.inBlock, Exit.then]); refine bodyPost_ret (results_none rfl _ _ _) rfl ?_)
  refine ⟨rfl, ⟨.slice A m m, ?_, by cases A <;> rfl⟩, Touch.mono (S := fun q => some q = some p) (((((touch_drewN _ w nq).trans (Touch.of_grown (grown_set _ p 0 _))).trans (Touch.of_grown (grown_set _ p 1 _))).trans (Touch.of_grown (grown_set _ p 3 _))).trans (Touch.of_grown (grown_set _ p 4 _))) fun q _ e => Option.some.inj e⟩
  have e5 : s.crash keep = ⟨s.b.take m, m, s.room, -1, false⟩ := by rw [hk.out]; rfl
  rw [e5] at HOK ⊢
  refine ⟨H.out.lo, ?_, ?_, HOK.out⟩
  · have hcc : (w.drewN nq).heap[p]? = some (.cells #[.slice A s.b.length c, .int .i64 (s.sure : Int), .int .i64 (s.room : Int), .int .i64 s.left, .bool s.off] 99 (0, 0)) := H.out.cells
    have := blk_set (blk_set (blk_set (blk_set hcc 0 (.slice A m m)) 1 (.int .i64 (m : Int))) 3 (.int .i64 (-1))) 4 (.bool false)
    simpa using this
  · refine RowB.keep (w := w) (H.out.row.cut (m := m) hle m (Nat.le_refl _) (by omega)) fun k hk => ?_
    have hkp : k ≠ p := fun e => H.out.ne (show _ = some p by rw [← e, ← hk]; cases A <;> rfl)
    rw [Below.heap_setCell _ _ _ k hkp, Below.heap_setCell _ _ _ k hkp, Below.heap_setCell _ _ _ k hkp, Below.heap_setCell _ _ _ k hkp]
    rfl
theorem kb_touch {w w1 : World} {base p : Nat} {v : Value} {s : Sp} {B : Option Addr} {n : Nat} {xs : List UInt8} (H : SpoolAt w base p v s) (ht : Touch (· = p) w w1) (h : kb.C w B n xs) : kb.C w1 B n xs := by
  refine ⟨h.1, h.2.1, fun hn => ?_⟩
  obtain ⟨ad, e, hc⟩ := h.2.2 hn
  refine ⟨ad, e, fun j q hj => ?_⟩
  obtain ⟨c, hl, hk, hcell⟩ := hc j q hj
  refine ⟨c, hl, hk, fun i u hu => ?_⟩
  have h1 := hcell i u hu
  have hk' : c = [enc8 q] := hk
  have hu8 : u = enc8 q := by
    have := List.mem_of_getElem? hu
    rw [hk'] at this
    exact List.mem_singleton.1 this
  have hlt := World.block_lt_of_cell? w _ h1
  refine (World.cell?_of_block (ht.block _ hlt fun hp => ?_)).trans h1
  unfold World.cell? at h1
  rw [hp, H.cells] at h1
  simp only at h1
  split at h1
  · cases h1
  · have := Array.mem_of_getElem? h1
    rw [hu8] at this
    simp [enc8] at this
    have hne := H.ne
    obtain ⟨A, c, hv, _⟩ := H.row.reads
    rw [hv] at this
    cases this
theorem add_calls (w : World) (base p : Nat) (v : Value) (s : Sp) (h : SpoolAt w base p v s) (xs : List UInt8) (m : Nat) (hm : m = xs.length) (B : Option Addr) (c' : Nat) (hb : kb.C w B xs.length xs) (hmc : m ≤ c') :
    Calls Try.prog 41 #[.pointer (some ⟨p, 0, none⟩), .slice B m c'] w fun e w' => e = .returned (.int .i64 (s.add xs).1) ∧
      (∃ v', SpoolAt w' base p v' (s.add xs).2 ∧ (v'.ownBlock = v.ownBlock ∨ ∃ b, v'.ownBlock = some b ∧ w.heap.size ≤ b)) ∧ Touch (fun k => k = p ∨ v.ownBlock = some k) w w' := by
  obtain ⟨A, c, rfl, hbc, _, _⟩ := h.row.reads
  have H := Aside0.mk h
  have KB := Aside0.mk hb
  have c0 := h.cell 0
  have c2 := h.cell 2
  have c4 := h.cell 4
  simp at c0 c2 c4
  have hlen := h.ok.len
  have hroom := h.ok.room
  have hmm : m ≤ 9223372036854775807 := by rw [hm]; exact hb.2.1
  have HM := Lib.hid hm
  clear h hb
  by_cases ho : s.off = true
  · have ha := Aside0.mk (show s.add xs = (190, s) by unfold Sp.add; rw [if_pos ho])
    rw [ho] at c4
    clear ho hm
    go_enter Try.func41, Try.ntmps41
    go_wp2_with fail
    go_ret
    exact ⟨by rw [ha.out]; rfl, ⟨_, by rw [ha.out]; exact H.out, .inl rfl⟩, Touch.refl _ _⟩
  · have hof : s.off = false := by simpa using ho
    rw [hof] at c4
    by_cases hr : s.room < s.b.length + xs.length
    · have ha := Aside0.mk (show s.add xs = (5, s) by unfold Sp.add; rw [if_neg ho, if_pos hr])
      have hd : (s.room : Int) - (s.b.length : Int) < (m : Int) := by omega
      clear ho hof hm hr
      go_enter Try.func41, Try.ntmps41
      go_wp2_with fail
      go_quiet (fail)
      go_wp2_with fail
      go_ret
      exact ⟨by rw [ha.out]; rfl, ⟨_, by rw [ha.out]; exact H.out.below (pw_below_drewN (Below.refl _ _) nq), .inl rfl⟩, touch_drewN _ _ _⟩
    · have hd : ¬ (s.room : Int) - (s.b.length : Int) < (m : Int) := by omega
      have hm2 : m ≤ 1048576 := by omega
      cases hac : s.act.1 with
      | false =>
        have ha := Aside0.mk (show s.add xs = (190, s.act.2) by unfold Sp.add; rw [if_neg ho, if_neg hr, hac]; rfl)
        have HR := Lib.hid hac
        clear ho hof hm hr hac
        go_enter Try.func41, Try.ntmps41
        go_wp2_with fail
        go_quiet (fail)
        go_wp2_with (go_at_call 68; refine (act_calls _ base p _ s (H.out.below (pw_below_drewN (Below.refl _ _) nq))).mono ?_; rw [HR.out]; rintro e w1 ⟨rfl, hs, ht⟩; have HS := Aside0.mk hs; have HT := Aside0.mk ((touch_drewN _ _ _).trans ht); clear hs ht)
        go_ret
        exact ⟨by rw [ha.out]; rfl, ⟨_, by rw [ha.out]; exact HS.out, .inl rfl⟩, HT.out.mono fun k _ e => .inl e⟩
      | true =>
        have ha := Aside0.mk (show s.add xs = (0, { s.act.2 with b := s.b ++ xs }) by unfold Sp.add; rw [if_neg ho, if_neg hr, hac]; rfl)
        have HR := Lib.hid hac
        have HOK := Aside0.mk (H.out.ok.add xs)
        clear ho hof hm hr hac
        go_enter Try.func41, Try.ntmps41
        go_wp2_with fail
        go_quiet (fail)
        go_wp2_with (first
          | (go_at_call 68; refine (act_calls _ base p _ s (H.out.below (pw_below_drewN (Below.refl _ _) nq))).mono ?_; rw [HR.out]; rintro e w1 ⟨rfl, hs, ht⟩; have HS := Aside0.mk hs; have HT := Aside0.mk ((touch_drewN _ _ _).trans ht); have q0 := hs.cell 0; simp at q0; have hrw := hs.row; rw [(s.act_b).1] at hrw; have HRW := Aside0.mk hrw; clear hs ht hrw)
          | (at_builtin; refine app_row base rfl (.tmp 35) (.tmp 36) rfl (.slice A s.b.length c) s.b xs (s.b ++ xs) rfl B m c' rfl rfl HRW.out ?kb hmc ?bs ?ln ?_; (case kb => rw [HM.out]; exact kb_touch H.out HT.out KB.out); (case bs => exact Nat.le_trans HS.out.lo (Nat.le_of_lt HS.out.lt)); (case ln => omega); intro v2 w2 ho2 hg2 hat2; have HO2 := Aside0.mk ho2; have HG2 := Aside0.mk hg2; have HAT := Aside0.mk hat2; obtain ⟨A2, c2', e2, _, _, _⟩ := ho2.reads; rw [List.length_append] at e2; subst e2; have hc2 := blk_grown HS.out.cells hg2 (fun e => HS.out.ne e.symm); have k0 := blk_cell hc2 0; have f0 := blk_frozen hc2 0; have HC2 := Aside0.mk hc2; simp at k0; clear ho2 hg2 hat2 hc2))
        go_ret
        refine ⟨by rw [ha.out]; rfl, ⟨.slice A2 (s.b.length + xs.length) c2', ?_, ?_⟩, ?_⟩
        · rw [ha.out] at HOK ⊢
          refine ⟨HS.out.lo, ?_, HO2.out.keep fun k hk => ?_, HOK.out⟩
          · have := blk_set HC2.out 0 (.slice A2 (s.b.length + xs.length) c2')
            simpa using this
          · refine Below.heap_setCell _ _ _ k fun e => ?_
            obtain ⟨_, _, cur, hcur⟩ := HO2.out.lt k hk
            exact blk_ne hcur HC2.out (by decide) e
        · rcases HAT.out with e | ⟨b, e, hb⟩
          · exact .inl e
          · exact .inr ⟨b, e, Nat.le_trans HT.out.size hb⟩
        · refine ((HT.out.mono fun k _ e => .inl e).trans ((Touch.of_grown HG2.out).mono fun k _ e => .inr e.symm)).trans ((Touch.of_grown (grown_set _ p 0 _)).mono fun q _ e => .inl (Option.some.inj e))
end Go.Proofs.Ytahaoakolgomdaa
