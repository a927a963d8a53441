/- Joined by merge.py from S39, S40, S42, S43, S44, S45. -/
import Derived.Test.YtahaoakolgomdaaG2
import Derived.Test.YtahaoakolgomdaaS4
import Derived.Test.YtahaoakolgomdaaS8
import Derived.Test.YtahaoakolgomdaaG1
import Derived.Test.YtahaoakolgomdaaS10

/- Walks of tape.Open and gangerref19.Open. -/
namespace Go.Proofs.Ytahaoakolgomdaa
open Go.RowKit Go.Proofs.YtahaoakolgomdaaW.PrintWords Go.Proofs.YtahaoakolgomdaaW.PrintLast Go.Proofs.YtahaoakolgomdaaW.PrintMore
set_option linter.unusedVariables false
set_option linter.unusedSimpArgs false

theorem nil_open (w : World) : Calls Try.prog 63 #[.pointer none] w fun e w' => e = .returned (.tuple #[.pointer none, .int .i64 1]) ∧ w' = w := by
  go_enter Try.func63, Try.ntmps63
  go_wp2_with fail
  go_ret2
  exact ⟨rfl, rfl⟩
/-- What Open leaves: the spool (at i in a row of things), and the tape behind them. -/
def OpenSays (T : TypeId) (mk : Sp → Asr) (w0 : World) (p : Nat) (s : Sp) (R : Asr) (e : Ending) (w' : World) : Prop :=
  ((opn s).2.1 = none ∧ e = .returned (.tuple #[.pointer none, .int .i64 (opn s).1]) ∧ Has w0 w' [mk (opn s).2.2, R]) ∨
  ∃ l t, (opn s).2.1 = some l ∧ (opn s).1 = 0 ∧ e = .returned (.tuple #[.pointer (some ⟨t, 0, none⟩), .int .i64 0]) ∧ Has w0 w' [mk (opn s).2.2, R, tapeB T t p l false]
theorem open_box {w0 w : World} {X R : Asr} {A : Option Addr} {n c p : Nat} {l : List (List UInt8)} (T : TypeId) (h : Has w0 w [X, R, rowsA (.slice A n c) l]) :
    Has w0 (w.alloc (.cells #[.pointer (some ⟨p, 0, none⟩), .slice A n c, .bool false] T)) [X, R, tapeB T w.heap.size p l false] := by
  have h1 := h.addO (.cells #[.pointer (some ⟨p, 0, none⟩), .slice A n c, .bool false] T)
  have h2 := tape_shut h1 3 2 rfl rfl (by decide)
  exact h2.drop 2
theorem rows_form {w : World} {b : Nat} {v : Value} {l : List (List UInt8)} (h : OwnL w b v l) : ∃ A c, v = .slice A l.length c := by
  obtain ⟨A, c, e, _⟩ := h.reads
  exact ⟨A, c, e⟩
set_option maxHeartbeats 1000000 in
set_option maxRecDepth 100000 in
theorem open_calls {w0 w : World} {p : Nat} {s : Sp} {R : Asr} (H0 : Has w0 w [spoolA p s, R]) :
    Calls Try.prog 63 #[.pointer (some ⟨p, 0, none⟩)] w (OpenSays 105 (spoolA p) w0 p s R) := by
  have H := Aside0.mk H0
  obtain ⟨v, hv⟩ := H0.spool 0 rfl
  have hok := hv.ok
  have hlen : s.b.length ≤ 1048576 := Nat.le_trans hok.len hok.room
  clear H0 hv
  cases ho : s.off with
  | true =>
    have HO := Lib.hid (show s.off = !false by rw [ho]; rfl)
    have HE := Aside0.mk (show opn s = (190, none, s) by unfold opn; rw [if_pos ho])
    clear ho
    go_enter Try.func63, Try.ntmps63
    go_wp2_with (go_at_call 42; refine (on_h H.out 0 p s rfl false HO.out).mono ?_; rintro e w' ⟨rfl, hw⟩; obtain rfl := hw.symm; clear hw)
    go_ret2
    exact .inl ⟨by rw [HE.out], by rw [HE.out]; rfl, by rw [HE.out]; exact H.out⟩
  | false =>
    have HO := Lib.hid (show s.off = !true by rw [ho]; rfl)
    have hoff : ¬ s.off = true := by rw [ho]; simp
    have HBY := Aside0.mk (show s.bytes = s.b by unfold Sp.bytes; rw [ho]; rfl)
    have HLN := Aside0.mk (show s.len = s.b.length by unfold Sp.len; rw [ho]; rfl)
    obtain ⟨j, hj1, hj2, _, _⟩ := allS_form s.b
    obtain ⟨l, at_, er, hall⟩ : ∃ l at_ er, allS s.b = (l, at_, er) := ⟨_, _, _, rfl⟩
    rw [hall] at hj1
    simp only at hj1
    subst hj1
    by_cases hlt : j < s.b.length
    · obtain ⟨ec, s1, hcut⟩ : ∃ ec s1, s.cut (j : Int) = (ec, s1) := ⟨_, _, rfl⟩
      have hi : (j : Int) < (s.b.length : Int) := by omega
      have HC := Aside0.mk hcut
      by_cases hec : ec = 0
      · subst hec
        have HE := Aside0.mk (show opn s = (0, some l, s1) by unfold opn; rw [if_neg hoff, hall]; simp only; rw [if_pos hi, hcut]; rfl)
        have HA := Aside0.mk hall
        clear ho hoff hall hcut
        go_enter Try.func63, Try.ntmps63
        go_wp2_with (first
          | (go_at_call 50; refine (cut_h H3.out 0 p s rfl (j : Int) 0 s1 HC.out).mono ?_; rintro e w4 ⟨rfl, hs⟩; have H4 : Aside0 (Has w0 w4 [spoolA p s1, R, rowsA (.slice A3 l.length c3) l]) := Aside0.mk hs; clear hs)
          | (go_at_call 46; refine (len_h H3.out 0 p s rfl s.b.length HLN.out).mono ?_; rintro e w' ⟨rfl, hw⟩; obtain rfl := hw.symm; clear hw)
          | (go_at_call 31; refine (all_calls s.b A2 c2 _ (H2.out.readB 2 rfl).2.2 (H2.out.readB 2 rfl).2.1 (by omega)).mono ?_; rw [HA.out]; rintro e w3 ⟨v3, rfl, ho3, hb3⟩; obtain ⟨A3, c3, rfl⟩ := rows_form ho3; have H3 : Aside0 (Has w0 w3 [spoolA p s, R, rowsA (.slice A3 l.length c3) l]) := Aside0.mk ((H2.out.drop 2).addE (.rows ho3 hb3)); clear ho3 hb3)
          | (go_at_call 43; refine (bytes_h H.out 0 p s rfl s.b HBY.out s.b.length rfl).mono ?_; rintro e w2 ⟨A2, c2, rfl, hf⟩; have H2 : Aside0 (Has w0 w2 [spoolA p s, R, bytesA (.slice A2 s.b.length c2) s.b]) := Aside0.mk (H.out.addE hf); clear hf)
          | (go_at_call 42; refine (on_h H.out 0 p s rfl true HO.out).mono ?_; rintro e w' ⟨rfl, hw⟩; obtain rfl := hw.symm; clear hw))
        go_ret2
        exact .inr ⟨l, _, by rw [HE.out], by rw [HE.out], rfl, by rw [HE.out]; exact open_box 105 H4.out⟩
      · have hz : (ec != 0) = true := by simpa using hec
        have HE := Aside0.mk (show opn s = (ec, none, s1) by unfold opn; rw [if_neg hoff, hall]; simp only; rw [if_pos hi, hcut]; simp only; rw [if_pos hec])
        have HA := Aside0.mk hall
        clear ho hoff hall hcut hec
        go_enter Try.func63, Try.ntmps63
        go_wp2_with (first
          | (go_at_call 50; refine (cut_h H3.out 0 p s rfl (j : Int) ec s1 HC.out).mono ?_; rintro e w4 ⟨rfl, hs⟩; have H4 : Aside0 (Has w0 w4 [spoolA p s1, R, rowsA (.slice A3 l.length c3) l]) := Aside0.mk hs; clear hs)
          | (go_at_call 46; refine (len_h H3.out 0 p s rfl s.b.length HLN.out).mono ?_; rintro e w' ⟨rfl, hw⟩; obtain rfl := hw.symm; clear hw)
          | (go_at_call 31; refine (all_calls s.b A2 c2 _ (H2.out.readB 2 rfl).2.2 (H2.out.readB 2 rfl).2.1 (by omega)).mono ?_; rw [HA.out]; rintro e w3 ⟨v3, rfl, ho3, hb3⟩; obtain ⟨A3, c3, rfl⟩ := rows_form ho3; have H3 : Aside0 (Has w0 w3 [spoolA p s, R, rowsA (.slice A3 l.length c3) l]) := Aside0.mk ((H2.out.drop 2).addE (.rows ho3 hb3)); clear ho3 hb3)
          | (go_at_call 43; refine (bytes_h H.out 0 p s rfl s.b HBY.out s.b.length rfl).mono ?_; rintro e w2 ⟨A2, c2, rfl, hf⟩; have H2 : Aside0 (Has w0 w2 [spoolA p s, R, bytesA (.slice A2 s.b.length c2) s.b]) := Aside0.mk (H.out.addE hf); clear hf)
          | (go_at_call 42; refine (on_h H.out 0 p s rfl true HO.out).mono ?_; rintro e w' ⟨rfl, hw⟩; obtain rfl := hw.symm; clear hw))
        go_ret2
        exact .inl ⟨by rw [HE.out], by rw [HE.out]; rfl, by rw [HE.out]; exact H4.out.drop 2⟩
    · have hi : ¬ (j : Int) < (s.b.length : Int) := by omega
      have HE := Aside0.mk (show opn s = (0, some l, s) by unfold opn; rw [if_neg hoff, hall]; simp only; rw [if_neg hi])
      have HA := Aside0.mk hall
      clear ho hoff hall
      go_enter Try.func63, Try.ntmps63
      go_wp2_with (first
        | (go_at_call 46; refine (len_h H3.out 0 p s rfl s.b.length HLN.out).mono ?_; rintro e w' ⟨rfl, hw⟩; obtain rfl := hw.symm; clear hw)
        | (go_at_call 31; refine (all_calls s.b A2 c2 _ (H2.out.readB 2 rfl).2.2 (H2.out.readB 2 rfl).2.1 (by omega)).mono ?_; rw [HA.out]; rintro e w3 ⟨v3, rfl, ho3, hb3⟩; obtain ⟨A3, c3, rfl⟩ := rows_form ho3; have H3 : Aside0 (Has w0 w3 [spoolA p s, R, rowsA (.slice A3 l.length c3) l]) := Aside0.mk ((H2.out.drop 2).addE (.rows ho3 hb3)); clear ho3 hb3)
        | (go_at_call 43; refine (bytes_h H.out 0 p s rfl s.b HBY.out s.b.length rfl).mono ?_; rintro e w2 ⟨A2, c2, rfl, hf⟩; have H2 : Aside0 (Has w0 w2 [spoolA p s, R, bytesA (.slice A2 s.b.length c2) s.b]) := Aside0.mk (H.out.addE hf); clear hf)
        | (go_at_call 42; refine (on_h H.out 0 p s rfl true HO.out).mono ?_; rintro e w' ⟨rfl, hw⟩; obtain rfl := hw.symm; clear hw))
      go_ret2
      exact .inr ⟨l, _, by rw [HE.out], by rw [HE.out], rfl, by rw [HE.out]; exact open_box 105 H3.out⟩
end Go.Proofs.Ytahaoakolgomdaa


/- Walks of gangerref19: Open, Records, Add. -/
namespace Go.Proofs.Ytahaoakolgomdaa
open Go.RowKit Go.Proofs.YtahaoakolgomdaaW.PrintWords Go.Proofs.YtahaoakolgomdaaW.PrintLast Go.Proofs.YtahaoakolgomdaaW.PrintMore
set_option linter.unusedVariables false
set_option linter.unusedSimpArgs false

set_option maxHeartbeats 1000000 in
set_option maxRecDepth 100000 in
theorem ropen_calls {w0 w : World} {p : Nat} {s : Sp} {R : Asr} (H0 : Has w0 w [refA p s, R]) :
    Calls Try.prog 72 #[.pointer (some ⟨p, 0, none⟩)] w (OpenSays 101 (refA p) w0 p s R) := by
  have H := Aside0.mk H0
  obtain ⟨v1, v2, hv⟩ := H0.ref 0 rfl
  have hok := hv.ok
  have c4 := hv.cell 4
  simp at c4
  have hlen : s.b.length ≤ 1048576 := Nat.le_trans hok.len hok.room
  clear H0 hv
  cases ho : s.off with
  | true =>
    rw [ho] at c4
    have HE := Aside0.mk (show opn s = (190, none, s) by unfold opn; rw [if_pos ho])
    clear ho
    go_enter Try.func72, Try.ntmps72
    go_wp2_with fail
    go_ret2
    exact .inl ⟨by rw [HE.out], by rw [HE.out]; rfl, by rw [HE.out]; exact H.out⟩
  | false =>
    rw [ho] at c4
    have hoff : ¬ s.off = true := by rw [ho]; simp
    have HBY := Aside0.mk (show s.bytes = s.b by unfold Sp.bytes; rw [ho]; rfl)
    obtain ⟨j, hj1, hj2, _, _⟩ := allS_form s.b
    obtain ⟨l, at_, er, hall⟩ : ∃ l at_ er, allS s.b = (l, at_, er) := ⟨_, _, _, rfl⟩
    rw [hall] at hj1
    simp only at hj1
    subst hj1
    by_cases hlt : j < s.b.length
    · obtain ⟨ec, s1, hcut⟩ : ∃ ec s1, s.cut (j : Int) = (ec, s1) := ⟨_, _, rfl⟩
      have hi : (j : Int) < (s.b.length : Int) := by omega
      have hne : ((j : Int) != (s.b.length : Int)) = true := by rw [bne_iff_ne]; omega
      have HC := Aside0.mk hcut
      by_cases hec : ec = 0
      · subst hec
        have HE := Aside0.mk (show opn s = (0, some l, s1) by unfold opn; rw [if_neg hoff, hall]; simp only; rw [if_pos hi, hcut]; rfl)
        have HA := Aside0.mk hall
        clear ho hoff hall hcut
        go_enter Try.func72, Try.ntmps72
        go_wp2_with (first
          | (go_at_call 51; refine (rcut_h H3.out 0 p s rfl (j : Int) 0 s1 HC.out).mono ?_; rintro e w4 ⟨rfl, hs⟩; have H4 : Aside0 (Has w0 w4 [refA p s1, R, rowsA (.slice A3 l.length c3) l]) := Aside0.mk hs; clear hs)
          | (go_at_call 32; refine (rall_calls s.b A2 c2 _ (H2.out.readB 2 rfl).2.2 (H2.out.readB 2 rfl).2.1 (by omega)).mono ?_; rw [HA.out]; rintro e w3 ⟨v3, rfl, ho3, hb3⟩; obtain ⟨A3, c3, rfl⟩ := rows_form ho3; have H3 : Aside0 (Has w0 w3 [refA p s, R, rowsA (.slice A3 l.length c3) l]) := Aside0.mk ((H2.out.drop 2).addE (.rows ho3 hb3)); clear ho3 hb3)
          | (go_at_call 54; refine (rall_h H.out 0 p s rfl s.b HBY.out s.b.length rfl).mono ?_; rintro e w2 ⟨A2, c2, rfl, hf⟩; have H2 : Aside0 (Has w0 w2 [refA p s, R, bytesA (.slice A2 s.b.length c2) s.b]) := Aside0.mk (H.out.addE hf); clear hf))
        go_ret2
        exact .inr ⟨l, _, by rw [HE.out], by rw [HE.out], rfl, by rw [HE.out]; exact open_box 101 H4.out⟩
      · have hz : (ec != 0) = true := by simpa using hec
        have HE := Aside0.mk (show opn s = (ec, none, s1) by unfold opn; rw [if_neg hoff, hall]; simp only; rw [if_pos hi, hcut]; simp only; rw [if_pos hec])
        have HA := Aside0.mk hall
        clear ho hoff hall hcut hec
        go_enter Try.func72, Try.ntmps72
        go_wp2_with (first
          | (go_at_call 51; refine (rcut_h H3.out 0 p s rfl (j : Int) ec s1 HC.out).mono ?_; rintro e w4 ⟨rfl, hs⟩; have H4 : Aside0 (Has w0 w4 [refA p s1, R, rowsA (.slice A3 l.length c3) l]) := Aside0.mk hs; clear hs)
          | (go_at_call 32; refine (rall_calls s.b A2 c2 _ (H2.out.readB 2 rfl).2.2 (H2.out.readB 2 rfl).2.1 (by omega)).mono ?_; rw [HA.out]; rintro e w3 ⟨v3, rfl, ho3, hb3⟩; obtain ⟨A3, c3, rfl⟩ := rows_form ho3; have H3 : Aside0 (Has w0 w3 [refA p s, R, rowsA (.slice A3 l.length c3) l]) := Aside0.mk ((H2.out.drop 2).addE (.rows ho3 hb3)); clear ho3 hb3)
          | (go_at_call 54; refine (rall_h H.out 0 p s rfl s.b HBY.out s.b.length rfl).mono ?_; rintro e w2 ⟨A2, c2, rfl, hf⟩; have H2 : Aside0 (Has w0 w2 [refA p s, R, bytesA (.slice A2 s.b.length c2) s.b]) := Aside0.mk (H.out.addE hf); clear hf))
        go_ret2
        exact .inl ⟨by rw [HE.out], by rw [HE.out]; rfl, by rw [HE.out]; exact H4.out.drop 2⟩
    · have hi : ¬ (j : Int) < (s.b.length : Int) := by omega
      have hjl : j = s.b.length := by omega
      have hne : ((s.b.length : Int) != (s.b.length : Int)) = false := by simp
      have HE := Aside0.mk (show opn s = (0, some l, s) by unfold opn; rw [if_neg hoff, hall]; simp only; rw [if_neg hi])
      rw [hjl] at hall
      have HA := Aside0.mk hall
      clear ho hoff hall hi hjl hlt hj2
      go_enter Try.func72, Try.ntmps72
      go_wp2_with (first
        | (go_at_call 32; refine (rall_calls s.b A2 c2 _ (H2.out.readB 2 rfl).2.2 (H2.out.readB 2 rfl).2.1 (by omega)).mono ?_; rw [HA.out]; rintro e w3 ⟨v3, rfl, ho3, hb3⟩; obtain ⟨A3, c3, rfl⟩ := rows_form ho3; have H3 : Aside0 (Has w0 w3 [refA p s, R, rowsA (.slice A3 l.length c3) l]) := Aside0.mk ((H2.out.drop 2).addE (.rows ho3 hb3)); clear ho3 hb3)
        | (go_at_call 54; refine (rall_h H.out 0 p s rfl s.b HBY.out s.b.length rfl).mono ?_; rintro e w2 ⟨A2, c2, rfl, hf⟩; have H2 : Aside0 (Has w0 w2 [refA p s, R, bytesA (.slice A2 s.b.length c2) s.b]) := Aside0.mk (H.out.addE hf); clear hf))
      go_ret2
      exact .inr ⟨l, _, by rw [HE.out], by rw [HE.out], rfl, by rw [HE.out]; exact open_box 101 H3.out⟩
/-- The document's records: read in place. -/
theorem rrecords_h {w0 w : World} {L : List Asr} (h : Has w0 w L) (i : Nat) {t p : Nat} {l : List (List UInt8)} {lost : Bool} (hi : L[i]? = some (tapeB 101 t p l lost)) (l1 : List (List UInt8)) (hl1 : l1 = if lost then [] else l) :
    Calls Try.prog 61 #[.pointer (some ⟨t, 0, none⟩)] w fun e w' => ∃ A c n, e = .returned (.slice A n c) ∧ n = l1.length ∧ n ≤ c ∧ klb.C w A l1.length l1 ∧ w' = w := by
  obtain ⟨A, c, hc, hlc, hr, _⟩ := tape_cells h i hi
  have c1 := blk_cell hc 1
  have c2 := blk_cell hc 2
  simp at c1 c2
  have HR := Aside0.mk hr
  subst hl1
  clear h hi hc hr
  cases lost
  · go_enter Try.func61, Try.ntmps61
    go_wp2
    go_ret
    exact ⟨A, c, _, rfl, rfl, hlc, HR.out, rfl⟩
  · go_enter Try.func61, Try.ntmps61
    go_wp2
    go_ret
    exact ⟨none, 0, 0, rfl, rfl, Nat.le_refl _, Kd.C_nil _ _, rfl⟩
end Go.Proofs.Ytahaoakolgomdaa


/- The walk of tape.Pack. -/
namespace Go.Proofs.Ytahaoakolgomdaa
open Go.RowKit Go.Proofs.YtahaoakolgomdaaW.PrintWords Go.Proofs.YtahaoakolgomdaaW.PrintLast Go.Proofs.YtahaoakolgomdaaW.PrintMore
set_option linter.unusedVariables false
set_option linter.unusedSimpArgs false

/-- Whether a tape is lost is written. -/
theorem tape_setLost {T : TypeId} {X R : Asr} {w0 w : World} {p tp : Nat} {l : List (List UInt8)} {lost : Bool} (h : Has w0 w [X, tapeB T tp p l lost, R]) (b : Bool) : Has w0 (w.setCell ⟨tp, 2, none⟩ (.bool b)) [X, tapeB T tp p l b, R] := by
  obtain ⟨A, c, _, _, h1⟩ := tape_open h 1 rfl
  have h2 := h1.put 1 (b := tp) (cs := #[.pointer (some ⟨p, 0, none⟩), .slice A l.length c, .bool lost]) (T := T) rfl 2 (.bool b) #[.pointer (some ⟨p, 0, none⟩), .slice A l.length c, .bool b] (by simp)
  exact (tape_shut h2 1 3 rfl rfl (by decide)).drop 3
/-- No row stands on a tape. -/
theorem tape_setNil {T : TypeId} {X R : Asr} {w0 w : World} {p tp : Nat} {l : List (List UInt8)} {lost : Bool} (h : Has w0 w [X, tapeB T tp p l lost, R]) : Has w0 (w.setCell ⟨tp, 1, none⟩ (.slice none 0 0)) [X, tapeB T tp p [] lost, R] := by
  obtain ⟨A, c, _, _, h1⟩ := tape_open h 1 rfl
  have h2 := h1.put 1 (b := tp) (cs := #[.pointer (some ⟨p, 0, none⟩), .slice A l.length c, .bool lost]) (T := T) rfl 1 (.slice none 0 0) #[.pointer (some ⟨p, 0, none⟩), .slice none 0 0, .bool lost] (by simp)
  have h3 := (h2.drop 3).addE (Fresh.nilL _)
  exact (tape_shut h3 1 3 rfl rfl (by decide)).drop 3
set_option maxHeartbeats 2000000 in
set_option maxRecDepth 100000 in
theorem pack_short {w0 w : World} {p tp : Nat} {R : Asr} {t : Ts} (H0 : Has w0 w (TapeL p tp t R)) (hok : t.Ok) (hlost : t.lost = false) (l : List (List UInt8)) (A : Option Addr) (c : Nat) (hk : klb.C w0 A l.length l) (ht : tooLong l = false) (e : Int) (t' : Ts) (hp : t.pack l = (e, t')) :
    Calls Try.prog 67 #[.pointer (some ⟨tp, 0, none⟩), .slice A l.length c] w fun e0 w' => e0 = .returned (.int .i64 e) ∧ Has w0 w' (TapeL p tp t' R) := by
  have hm : l.length ≤ 9223372036854775807 := hk.2.1
  have K := Aside0.mk hk
  have H := Aside0.mk H0
  have HT := Aside0.mk ht
  have HS := Aside0.mk (fun w' (h : Has w0 w' (TapeL p tp t R)) => state_h h 1 rfl 0 (by rw [hlost]; rfl))
  obtain ⟨A1, c1, hcc, _, _, _⟩ := tape_cells H0 1 rfl
  have x0 := blk_cell hcc 0
  simp at x0
  obtain ⟨ec, s1, hcut⟩ : ∃ ec s1, t.sp.cut 0 = (ec, s1) := ⟨_, _, rfl⟩
  have hp2 : (if ec ≠ 0 then (ec, (⟨s1, t.l, true⟩ : Ts)) else Ts.layAll ⟨s1, [], false⟩ l) = (e, t') := by
    rw [← hp]; unfold Ts.pack; simp [hlost, ht, hcut]
  have HC := Aside0.mk hcut
  have hok2 : (⟨s1, [], false⟩ : Ts).Ok := by
    have h1 := hok.sp.cut 0
    rw [hcut] at h1
    exact ⟨h1, by simp [cat], fits_nil⟩
  have HOK := Aside0.mk hok2
  have HLO := Aside0.mk hlost
  clear H0 hk ht hlost hcc hp hcut hok hok2
  go_enter Try.func67, Try.ntmps67
  go_wp2_with (go_at_call 70; refine (HS.out _ H.out).mono ?_; rintro e w' ⟨rfl, hw⟩; obtain rfl := hw.symm; clear hw)
  go_loop [19] (fun i => ∃ k : Nat, i = .int .i64 k ∧ k ≤ l.length) (fun i => l.length - (intOf i).toNat)
  case atStart => exact ⟨0, rfl, Nat.zero_le _⟩
  case round =>
    obtain ⟨k, rfl, hkl⟩ := hrel
    by_cases hlt : k < l.length
    · obtain ⟨ad, A2, c2, rfl, k1', l1, r1⟩ := klb_get K.out k hlt
      have k1 := pw_cell_below H.out.old k1'
      have h8 := tooLong_no HT.out k
      generalize l.getD k [] = x at *
      have h8' : ¬ (8000 : Int) < (x.length : Int) := by omega
      clear r1 k1'
      go_wp2_with fail
      go_round
      case rel => exact ⟨k + 1, by go_num, by omega⟩
      case measure => simp [intOf]; omega
    · have hkn : k = l.length := by omega
      subst hkn
      by_cases hec : ec = 0
      · subst hec
        rw [if_neg (by simp)] at hp2
        have HP := Aside0.mk hp2
        clear hp2
        go_wp2_with (go_at_call 50; refine (cut_h H.out 0 p t.sp rfl 0 0 s1 HC.out).mono ?_; rintro e0 w2 ⟨rfl, hs⟩; have H2 : Aside0 (Has w0 w2 [spoolA p s1, tapeB 105 tp p t.l false, R]) := Aside0.mk (by have := hs; unfold TapeL at this; rw [HLO.out] at this; exact this); obtain ⟨A5, c5, hc5, _, _, _⟩ := tape_cells H2.out 1 rfl; have y1 := blk_cell hc5 1; simp at y1; have f1 := blk_frozen hc5 1; have H3 : Aside0 (Has w0 (w2.setCell ⟨tp, 1, none⟩ (.slice none 0 0)) (TapeL p tp ⟨s1, [], false⟩ R)) := Aside0.mk (tape_setNil H2.out); clear hs hc5)
        obtain ⟨w3, hw3⟩ : ∃ w3, w2.setCell ⟨tp, 1, none⟩ (.slice none 0 0) = w3 := ⟨_, rfl⟩
        rw [hw3] at H3 ⊢
        clear hw3 H2 HC HS x0 y1 f1
        go_loopw [43] (fun i wr => ∃ (k : Nat) (t2 : Ts), i = .int .i64 k ∧ k ≤ l.length ∧ Aside0 (t2.layAll (l.drop k) = (e, t')) ∧ Aside0 t2.Ok ∧ Aside0 (t2.lost = false) ∧ Aside0 (Has w0 wr (TapeL p tp t2 R))) (fun i _ => l.length - (intOf i).toNat)
        case atStart => exact ⟨0, ⟨s1, [], false⟩, rfl, Nat.zero_le _, ⟨by simpa using HP.out⟩, HOK, ⟨rfl⟩, H3⟩
        case round =>
          obtain ⟨k, t2, rfl, hkl2, HP2, HOK2, HL2, HS2⟩ := hrel
          by_cases hlt2 : k < l.length
          · obtain ⟨ad, A2, c2, rfl, k1', l1, r1⟩ := klb_get K.out k hlt2
            have k1 := pw_cell_below HS2.out.old k1'
            have hdr := HP2.out
            rw [drop_at hlt2] at hdr
            obtain ⟨x, hx⟩ : ∃ x, x = l.getD k [] := ⟨_, rfl⟩
            rw [← hx] at k1 l1 r1 hdr
            obtain ⟨e3, t3, h3⟩ : ∃ e3 t3, t2.lay x = (e3, t3) := ⟨_, _, rfl⟩
            have HL3 := Aside0.mk h3
            have HOK3 := Aside0.mk (show t3.Ok by have := HOK2.out.lay x; rwa [h3] at this)
            have HR1 := Aside0.mk (ReadsIn.old (R := R) r1)
            unfold Ts.layAll at hdr
            rw [h3] at hdr
            by_cases he3 : e3 = 0
            · subst he3
              rw [if_neg (by simp)] at hdr
              have HD := Aside0.mk hdr
              clear hdr h3 r1 hx k1'
              go_wp2_with (go_at_call 71; refine (lay_calls HS2.out HOK2.out HL2.out x A2 x.length c2 rfl l1 HR1.out 0 t3 HL3.out).mono ?_; rintro e4 w4 ⟨rfl, hs⟩; have H4 := Aside0.mk hs; clear hs)
              go_roundw
              case rel => exact ⟨k + 1, t3, by go_num, by omega, HD, HOK3, ⟨Ts.lay_lost HL3.out HL2.out⟩, H4⟩
              case measure => simp [intOf]; omega
            · have hz : (e3 != 0) = true := by simpa using he3
              rw [if_pos he3] at hdr
              have HD := Aside0.mk hdr
              clear hdr h3 r1 hx k1' he3
              go_wp2_with (go_at_call 71; refine (lay_calls HS2.out HOK2.out HL2.out x A2 x.length c2 rfl l1 HR1.out e3 t3 HL3.out).mono ?_; rintro e4 w4 ⟨rfl, hs⟩; have H4 := Aside0.mk hs; clear hs)
              go_ret
              have h9 := HD.out
              injection h9 with h10 h11
              rw [← h10, ← h11]
              exact ⟨rfl, H4.out⟩
          · have hkn : k = l.length := by omega
            subst hkn
            go_wp2_with fail
            go_ret
            have h9 := HP2.out
            rw [List.drop_of_length_le (Nat.le_refl _)] at h9
            unfold Ts.layAll at h9
            injection h9 with h10 h11
            rw [← h10, ← h11]
            exact ⟨rfl, HS2.out⟩
      · have hz : (ec != 0) = true := by simpa using hec
        rw [if_pos hec] at hp2
        have HP := Aside0.mk hp2
        clear hp2 hec
        go_wp2_with (go_at_call 50; refine (cut_h H.out 0 p t.sp rfl 0 ec s1 HC.out).mono ?_; rintro e0 w2 ⟨rfl, hs⟩; have H2 : Aside0 (Has w0 w2 [spoolA p s1, tapeB 105 tp p t.l false, R]) := Aside0.mk (by have := hs; unfold TapeL at this; rw [HLO.out] at this; exact this); obtain ⟨A5, c5, hc5, _, _, _⟩ := tape_cells H2.out 1 rfl; have y2 := blk_cell hc5 2; simp at y2; have f2 := blk_frozen hc5 2; have H3 : Aside0 (Has w0 (w2.setCell ⟨tp, 2, none⟩ (.bool true)) (TapeL p tp ⟨s1, t.l, true⟩ R)) := Aside0.mk (tape_setLost H2.out true); clear hs hc5)
        go_ret
        have h9 := HP.out
        injection h9 with h10 h11
        rw [← h10, ← h11]
        exact ⟨rfl, H3.out⟩
set_option maxRecDepth 100000 in
theorem pack_calls {w0 w : World} {p tp : Nat} {R : Asr} {t : Ts} (H0 : Has w0 w (TapeL p tp t R)) (hok : t.Ok) (l : List (List UInt8)) (A : Option Addr) (c : Nat) (hk : klb.C w0 A l.length l) (e : Int) (t' : Ts) (hp : t.pack l = (e, t')) :
    Calls Try.prog 67 #[.pointer (some ⟨tp, 0, none⟩), .slice A l.length c] w fun e0 w' => e0 = .returned (.int .i64 e) ∧ Has w0 w' (TapeL p tp t' R) := by
  cases hl : t.lost with
  | true =>
    have ht2 : (190, t) = (e, t') := by rw [← hp]; unfold Ts.pack; rw [if_pos hl]
    injection ht2 with h1 h2
    subst h1 h2
    have H := Aside0.mk H0
    have HS := Aside0.mk (fun w' (h : Has w0 w' (TapeL p tp t R)) => state_h h 1 rfl 190 (by rw [hl]; rfl))
    clear H0 hl hk hp
    go_enter Try.func67, Try.ntmps67
    go_wp2_with (go_at_call 70; refine (HS.out _ H.out).mono ?_; rintro e w' ⟨rfl, hw⟩; obtain rfl := hw.symm; clear hw)
    go_ret
    exact ⟨rfl, H.out⟩
  | false =>
    cases ht : tooLong l with
    | false => exact pack_short H0 hok hl l A c hk ht e t' hp
    | true =>
      have ht2 : (3, t) = (e, t') := by rw [← hp]; unfold Ts.pack; rw [if_neg (by simp [hl]), if_pos ht]
      injection ht2 with h1 h2
      subst h1 h2
      exact pack_long H0 hl l A c hk ht
end Go.Proofs.Ytahaoakolgomdaa


/- Walks of gangerref19: Add, Pack. -/
namespace Go.Proofs.Ytahaoakolgomdaa
open Go.RowKit Go.Proofs.YtahaoakolgomdaaW.PrintWords Go.Proofs.YtahaoakolgomdaaW.PrintLast Go.Proofs.YtahaoakolgomdaaW.PrintMore
set_option linter.unusedVariables false
set_option linter.unusedSimpArgs false

/-- The document's tape and its spool, and other things. -/
def RTapeL (q tm : Nat) (t : Ts) (R : Asr) : List Asr := [refA q t.sp, tapeB 101 tm q t.l t.lost, R]
theorem rput_n (r : List UInt8) (A : Option Addr) (m c : Nat) (hm : m = r.length) (w : World) (h : kb.C w A r.length r) (hn : r.length ≤ 8000) :
    Calls Try.prog 25 #[.slice A m c] w fun e w' => ∃ A1 c1 n, n = (putS r).length ∧ n ≤ 8007 ∧ e = .returned (.tuple #[.slice A1 n c1, .int .i64 0]) ∧ n ≤ c1 ∧ OwnB w' w.heap.size (.slice A1 n c1) (putS r) ∧ Below w.heap.size w w' := by
  subst hm
  refine (rput_calls r A c w h hn).mono ?_
  rintro e w' ⟨v, rfl, ho, hb⟩
  obtain ⟨A1, c1, rfl, hc, _⟩ := ho.reads
  exact ⟨A1, c1, _, rfl, by rw [putS_length]; omega, rfl, hc, ho, hb⟩
theorem rputlong_n (r : List UInt8) (A : Option Addr) (m c : Nat) (hm : m = r.length) (w : World) (hmx : r.length ≤ 9223372036854775807) (hn : 8000 < r.length) :
    Calls Try.prog 25 #[.slice A m c] w fun e w' => e = .returned (.tuple #[.slice none 0 0, .int .i64 3]) ∧ w' = w := by
  subst hm
  exact rput_long r A c w hmx hn
theorem copy_m (r : List UInt8) (A : Option Addr) (m c : Nat) (hm : m = r.length) (w : World) (h : kb.C w A r.length r) (hl : m ≤ 1000000) :
    Calls Try.prog 35 #[.slice A m c] w fun e w' => ∃ A1 c1, e = .returned (.slice A1 m c1) ∧ OwnB w' w.heap.size (.slice A1 m c1) r ∧ Below w.heap.size w w' := by
  subst hm
  refine (copy_calls r A c w h (by omega)).mono ?_
  rintro e w' ⟨v, rfl, ho, hb⟩
  obtain ⟨A1, c1, rfl, _, _⟩ := ho.reads
  exact ⟨A1, c1, rfl, ho, hb⟩
/-- The cells of a tape's struct. -/
theorem tape_facts {w0 w : World} {L : List Asr} (h : Has w0 w L) (i : Nat) {T : TypeId} {t p : Nat} {l : List (List UInt8)} {lost : Bool} (hi : L[i]? = some (tapeB T t p l lost)) :
    w.cell? ⟨t, 0, none⟩ = some (.pointer (some ⟨p, 0, none⟩)) ∧ w.cell? ⟨t, 2, none⟩ = some (.bool lost) ∧ (∀ k, w.frozen? ⟨t, k, none⟩ = false) ∧ ∃ v, w.cell? ⟨t, 1, none⟩ = some v := by
  obtain ⟨A, c, hc, _, _, _⟩ := tape_cells h i hi
  have a0 := blk_cell hc 0
  have a1 := blk_cell hc 1
  have a2 := blk_cell hc 2
  exact ⟨by simpa using a0, by simpa using a2, fun k => blk_frozen hc _, _, by simpa using a1⟩
set_option maxHeartbeats 2000000 in
set_option maxRecDepth 100000 in
theorem radd_calls {w0 w : World} {q tm : Nat} {R : Asr} {t : Ts} (H0 : Has w0 w (RTapeL q tm t R)) (hok : t.Ok) (r : List UInt8) (A : Option Addr) (m c : Nat) (hm : m = r.length) (hmc : m ≤ c) (hr : ReadsIn w0 R A r) (e : Int) (t' : Ts) (ht : t.add r = (e, t')) :
    Calls Try.prog 58 #[.pointer (some ⟨tm, 0, none⟩), .slice A m c] w fun e0 w' => e0 = .returned (.int .i64 e) ∧ Has w0 w' (RTapeL q tm t' R) := by
  have H := Aside0.mk H0
  have HR := Aside0.mk hr
  have HM := Lib.hid hm
  obtain ⟨x0, x2, x3, vx, x1⟩ := tape_facts H0 1 rfl
  have hrm : r.length ≤ 9223372036854775807 := (H0.in_ 2 rfl hr).2.1
  cases hlo : t.lost with
  | true =>
    have ht2 : (190, t) = (e, t') := by rw [← ht]; unfold Ts.add; rw [if_pos hlo]
    injection ht2 with h1 h2
    subst h1 h2
    rw [hlo] at x2
    clear H0 hr hm ht hlo
    go_enter Try.func58, Try.ntmps58
    go_wp2_with fail
    go_ret
    exact ⟨rfl, H.out⟩
  | false =>
    rw [hlo] at x2
    have ht2 : t.lay r = (e, t') := by rw [← ht]; unfold Ts.add; rw [if_neg (by simp [hlo])]
    have H1 : Aside0 (Has w0 w [refA q t.sp, tapeB 101 tm q t.l false, R]) := Aside0.mk (by unfold RTapeL at H0; rw [hlo] at H0; exact H0)
    by_cases hl : 8000 < r.length
    · have hz : (3, t) = (e, t') := by rw [← ht2]; unfold Ts.lay; rw [if_pos hl]
      injection hz with h1 h2
      subst h1 h2
      clear H0 hr hm ht ht2 hlo
      go_enter Try.func58, Try.ntmps58
      go_wp2_with (go_at_call 25; refine (rputlong_n r A m c HM.out _ hrm hl).mono ?_; rintro e w' ⟨rfl, hw⟩; obtain rfl := hw.symm; clear hw)
      go_ret
      exact ⟨rfl, H.out⟩
    · have hl8 : r.length ≤ 8000 := by omega
      have hm8 : m ≤ 8000 := by omega
      obtain ⟨e1, s1, ha⟩ : ∃ e1 s1, t.sp.add (putS r) = (e1, s1) := ⟨_, _, rfl⟩
      obtain ⟨e2, s2, hs⟩ : ∃ e2 s2, s1.sync = (e2, s2) := ⟨_, _, rfl⟩
      have HA := Aside0.mk ha
      have HSY := Aside0.mk hs
      have hlen : (t.l.length + 1) * 24 ≤ 140737488355328 := by
        have h1 := hok.len
        have h2 := cat_len t.l
        have h3 := hok.sp.len
        have h4 := hok.sp.room
        omega
      by_cases h1 : e1 = 0
      · subst h1
        by_cases h2 : e2 = 0
        · subst h2
          have hy : (0, (⟨s2, t.l ++ [r], false⟩ : Ts)) = (e, t') := by rw [← ht2]; unfold Ts.lay; rw [if_neg hl, ha, if_neg (by simp), hs, if_neg (by simp)]
          injection hy with h3 h4
          subst h3 h4
          clear H0 hr hm ht ht2 hlo ha hs hl
          go_enter Try.func58, Try.ntmps58
          go_wp2_with (first
            | (go_at_call 25; refine (rput_n r A m c HM.out _ (H.out.in_ 2 rfl HR.out) hl8).mono ?_; rintro e w1 ⟨A3, c3, n3, hn3, hn8, rfl, hc3, ho3, hb3⟩; have H2 : Aside0 (Has w0 w1 [refA q t.sp, tapeB 101 tm q t.l false, R, bytesA (.slice A3 n3 c3) (putS r)]) := Aside0.mk (H1.out.addE (.bytes ho3 hb3)); have HN3 := Lib.hid hn3; obtain ⟨y0, y2, y3, vy, y1⟩ := tape_facts H2.out 1 rfl; clear ho3 hb3 hn3)
            | (go_at_call 48; refine (radd_h H2.out 0 q t.sp rfl (putS r) n3 HN3.out A3 c3 (H2.out.readB 3 rfl).2.2 (by omega) 0 s1 HA.out).mono ?_; rintro e w3 ⟨rfl, hs3⟩; have H3 : Aside0 (Has w0 w3 [refA q s1, tapeB 101 tm q t.l false, R]) := Aside0.mk (Has.drop hs3 3); obtain ⟨z0, z2, z3, vz, z1⟩ := tape_facts H3.out 1 rfl; clear hs3)
            | (go_at_call 49; refine (rsync_h H3.out 0 q s1 rfl 0 s2 HSY.out).mono ?_; rintro e w4 ⟨rfl, hs4⟩; have H4 : Aside0 (Has w0 w4 [refA q s2, tapeB 101 tm q t.l false, R]) := Aside0.mk hs4; obtain ⟨A5, c5, _, _, h5⟩ := tape_open H4.out 1 rfl; have hc5 := h5.blk 1 (b := tm) (o := .cells #[.pointer (some ⟨q, 0, none⟩), .slice A5 t.l.length c5, .bool false] 101 (0, 0)) rfl; have u1 := blk_cell hc5 1; simp at u1; have H5 := Aside0.mk h5.drew; clear hs4 h5 hc5))
          clear x0 x1 x2 x3 y0 y1 y2 y3 z0 z1 z2 z3 H3 H2
          go_region_law ((first
            | (refine step_of_run rfl 35 (.tmp 38) (.tmp 41) rfl (by rfl) (by rfl) HR2.out ?_)
            | (go_simp; go_at_call 35; refine (copy_m r A m c HM.out _ (H5.out.in_ 2 rfl HR.out) (by omega)).mono ?_; rintro e w6 ⟨A7, d7, rfl, ho6, hb6⟩; have h6 : Has w0 w6 [refA q s2, blkA tm (.cells #[.pointer (some ⟨q, 0, none⟩), .slice A5 t.l.length c5, .bool false] 101 (0, 0)), R, rowsA (.slice A5 t.l.length c5) t.l, bytesA (.slice A7 m d7) r] := H5.out.addE (.bytes ho6 hb6); obtain ⟨A8, d8, w8, hr2, h8⟩ := rows_run h6 3 4 (by decide) (.slice A5 t.l.length c5) (.slice A7 m d7) t.l r rfl rfl 35 hlen; have b6 := blk_cell (h6.blk 1 (b := tm) (o := .cells #[.pointer (some ⟨q, 0, none⟩), .slice A5 t.l.length c5, .bool false] 101 (0, 0)) rfl) 1; simp at b6; have b7 := pw_cell_below (below_alloc (Below.refl w6.heap.size w6) (.cells #[.slice A7 m d7] 22)) b6; have hb8 := h8.blk 1 (b := tm) (o := .cells #[.pointer (some ⟨q, 0, none⟩), .slice A5 t.l.length c5, .bool false] 101 (0, 0)) rfl; have b8 := blk_cell hb8 1; simp at b8; have f8 := blk_frozen hb8 1; have h9 := h8.put 1 (b := tm) (cs := #[.pointer (some ⟨q, 0, none⟩), .slice A5 t.l.length c5, .bool false]) (T := 101) rfl 1 (.slice A8 (t.l.length + 1) d8) #[.pointer (some ⟨q, 0, none⟩), .slice A8 (t.l.length + 1) d8, .bool false] (by simp); have h10 := (tape_shut (l := t.l ++ [r]) h9 1 3 rfl rfl (by decide)).drop 4; have H10 : Aside0 (Has w0 (w8.setCell ⟨tm, 1, none⟩ (.slice A8 (t.l.length + 1) d8)) [refA q s2, tapeB 101 tm q (t.l ++ [r]) false, R]) := Aside0.mk (Has.drop h10 3); have HR2 := Aside0.mk hr2; clear ho6 hb6 h6 hr2 h8 hb8 h9 h10)))
          all_goals (obtain ⟨v0, v2, v3, vv, v1⟩ := tape_facts H10.out 1 rfl; have H11 := Aside0.mk (tape_setLost H10.out false); clear b6 b7 b8 f8)
          all_goals (go_wp2_with fail; go_ret; exact ⟨rfl, H11.out⟩)
        · have hz : (e2 == 0) = false := by simpa using h2
          have hy : (e2, (⟨s2, t.l, decide (e2 = 190)⟩ : Ts)) = (e, t') := by rw [← ht2]; unfold Ts.lay; rw [if_neg hl, ha, if_neg (by simp), hs, if_pos h2]
          injection hy with h3 h4
          subst h3 h4
          clear H0 hr hm ht ht2 hlo ha hs hl h2
          go_enter Try.func58, Try.ntmps58
          go_wp2_with (first
            | (go_at_call 25; refine (rput_n r A m c HM.out _ (H.out.in_ 2 rfl HR.out) hl8).mono ?_; rintro e w1 ⟨A3, c3, n3, hn3, hn8, rfl, hc3, ho3, hb3⟩; have H2 : Aside0 (Has w0 w1 [refA q t.sp, tapeB 101 tm q t.l false, R, bytesA (.slice A3 n3 c3) (putS r)]) := Aside0.mk (H1.out.addE (.bytes ho3 hb3)); have HN3 := Lib.hid hn3; obtain ⟨y0, y2, y3, vy, y1⟩ := tape_facts H2.out 1 rfl; clear ho3 hb3 hn3)
            | (go_at_call 48; refine (radd_h H2.out 0 q t.sp rfl (putS r) n3 HN3.out A3 c3 (H2.out.readB 3 rfl).2.2 (by omega) 0 s1 HA.out).mono ?_; rintro e w3 ⟨rfl, hs3⟩; have H3 : Aside0 (Has w0 w3 [refA q s1, tapeB 101 tm q t.l false, R]) := Aside0.mk (Has.drop hs3 3); obtain ⟨z0, z2, z3, vz, z1⟩ := tape_facts H3.out 1 rfl; clear hs3)
            | (go_at_call 49; refine (rsync_h H3.out 0 q s1 rfl e2 s2 HSY.out).mono ?_; rintro e w4 ⟨rfl, hs4⟩; have H4 : Aside0 (Has w0 w4 [refA q s2, tapeB 101 tm q t.l false, R]) := Aside0.mk hs4; obtain ⟨v0, v2, v3, vv, v1⟩ := tape_facts H4.out 1 rfl; have H11 := Aside0.mk (tape_setLost H4.out (e2 == 190)); clear hs4))
          go_ret
          exact ⟨rfl, H11.out⟩
      · have hz : (e1 == 0) = false := by simpa using h1
        have hy : (e1, (⟨s1, t.l, decide (e1 = 190)⟩ : Ts)) = (e, t') := by rw [← ht2]; unfold Ts.lay; rw [if_neg hl, ha, if_pos h1]
        injection hy with h3 h4
        subst h3 h4
        clear H0 hr hm ht ht2 hlo ha hs hl h1
        go_enter Try.func58, Try.ntmps58
        go_wp2_with (first
          | (go_at_call 25; refine (rput_n r A m c HM.out _ (H.out.in_ 2 rfl HR.out) hl8).mono ?_; rintro e w1 ⟨A3, c3, n3, hn3, hn8, rfl, hc3, ho3, hb3⟩; have H2 : Aside0 (Has w0 w1 [refA q t.sp, tapeB 101 tm q t.l false, R, bytesA (.slice A3 n3 c3) (putS r)]) := Aside0.mk (H1.out.addE (.bytes ho3 hb3)); have HN3 := Lib.hid hn3; obtain ⟨y0, y2, y3, vy, y1⟩ := tape_facts H2.out 1 rfl; clear ho3 hb3 hn3)
          | (go_at_call 48; refine (radd_h H2.out 0 q t.sp rfl (putS r) n3 HN3.out A3 c3 (H2.out.readB 3 rfl).2.2 (by omega) e1 s1 HA.out).mono ?_; rintro e w3 ⟨rfl, hs3⟩; have H3 : Aside0 (Has w0 w3 [refA q s1, tapeB 101 tm q t.l false, R]) := Aside0.mk (Has.drop hs3 3); obtain ⟨v0, v2, v3, vv, v1⟩ := tape_facts H3.out 1 rfl; have H11 := Aside0.mk (tape_setLost H3.out (e1 == 190)); clear hs3))
        go_ret
        exact ⟨rfl, H11.out⟩
set_option maxHeartbeats 1000000 in
set_option maxRecDepth 100000 in
theorem rpack_long {w0 w : World} {q tm : Nat} {R : Asr} {t : Ts} (H0 : Has w0 w (RTapeL q tm t R)) (hlost : t.lost = false) (l : List (List UInt8)) (A : Option Addr) (c : Nat) (hk : klb.C w0 A l.length l) (ht : tooLong l = true) :
    Calls Try.prog 73 #[.pointer (some ⟨tm, 0, none⟩), .slice A l.length c] w fun e0 w' => e0 = .returned (.int .i64 3) ∧ Has w0 w' (RTapeL q tm t R) := by
  have hm : l.length ≤ 9223372036854775807 := hk.2.1
  have K := Aside0.mk (Kd.C_below hk H0.old)
  have H := Aside0.mk H0
  have HT := Aside0.mk ht
  obtain ⟨x0, x2, x3, vx, x1⟩ := tape_facts H0 1 rfl
  rw [hlost] at x2
  clear H0 hk ht hlost
  go_enter Try.func73, Try.ntmps73
  go_wp2_with fail
  go_loop [5] (fun i => ∃ k : Nat, i = .int .i64 k ∧ k ≤ l.length ∧ Aside0 (∀ j, j < k → (l.getD j []).length ≤ 8000)) (fun i => l.length - (intOf i).toNat)
  case atStart => exact ⟨0, rfl, Nat.zero_le _, ⟨fun j hj => by omega⟩⟩
  case round =>
    obtain ⟨k, rfl, hkl, HJ⟩ := hrel
    by_cases hlt : k < l.length
    · obtain ⟨ad, A2, c2, rfl, k1, l1, r1⟩ := klb_get K.out k hlt
      have hyes := Aside0.mk (fun h => tooLong_yes (l := l) k hlt h)
      obtain ⟨x, hx⟩ : ∃ x, x = l.getD k [] := ⟨_, rfl⟩
      have HX := Aside0.mk hx
      rw [← hx] at k1 l1 r1
      have hxm : x.length ≤ 9223372036854775807 := r1.2.1
      clear hx r1
      by_cases h8 : 8000 < x.length
      · have h8' : (8000 : Int) < (x.length : Int) := by omega
        go_wp2_with fail
        go_ret
        exact ⟨rfl, H.out⟩
      · have h8' : ¬ (8000 : Int) < (x.length : Int) := by omega
        go_wp2_with fail
        go_round
        case rel => exact ⟨k + 1, by go_num, by omega, ⟨fun j hj => by
          by_cases e : j = k
          · rw [e, ← HX.out]; omega
          · exact HJ.out j (by omega)⟩⟩
        case measure => simp [intOf]; omega
    · exfalso
      have h1 := HT.out
      unfold tooLong at h1
      rw [List.any_eq_true] at h1
      obtain ⟨x, hx, h2⟩ := h1
      obtain ⟨j, hj, rfl⟩ := List.getElem_of_mem hx
      have h3 := HJ.out j (by omega)
      rw [List.getD_eq_getElem?_getD, List.getElem?_eq_getElem hj] at h3
      simp at h2 h3
      omega
set_option maxHeartbeats 2000000 in
set_option maxRecDepth 100000 in
theorem rpack_short {w0 w : World} {q tm : Nat} {R : Asr} {t : Ts} (H0 : Has w0 w (RTapeL q tm t R)) (hok : t.Ok) (hlost : t.lost = false) (l : List (List UInt8)) (A : Option Addr) (c : Nat) (hk : klb.C w0 A l.length l) (ht : tooLong l = false) (e : Int) (t' : Ts) (hp : t.pack l = (e, t')) :
    Calls Try.prog 73 #[.pointer (some ⟨tm, 0, none⟩), .slice A l.length c] w fun e0 w' => e0 = .returned (.int .i64 e) ∧ Has w0 w' (RTapeL q tm t' R) := by
  have hm : l.length ≤ 9223372036854775807 := hk.2.1
  have K := Aside0.mk hk
  have H := Aside0.mk H0
  have HT := Aside0.mk ht
  obtain ⟨x0, x2, x3, vx, x1⟩ := tape_facts H0 1 rfl
  rw [hlost] at x2
  obtain ⟨ec, s1, hcut⟩ : ∃ ec s1, t.sp.cut 0 = (ec, s1) := ⟨_, _, rfl⟩
  have hp2 : (if ec ≠ 0 then (ec, (⟨s1, t.l, true⟩ : Ts)) else Ts.layAll ⟨s1, [], false⟩ l) = (e, t') := by
    rw [← hp]; unfold Ts.pack; simp [hlost, ht, hcut]
  have HC := Aside0.mk hcut
  have hok2 : (⟨s1, [], false⟩ : Ts).Ok := by
    have h1 := hok.sp.cut 0
    rw [hcut] at h1
    exact ⟨h1, by simp [cat], fits_nil⟩
  have HOK := Aside0.mk hok2
  have HLO := Aside0.mk hlost
  clear H0 hk ht hlost hp hcut hok hok2
  go_enter Try.func73, Try.ntmps73
  go_wp2_with fail
  go_loop [5] (fun i => ∃ k : Nat, i = .int .i64 k ∧ k ≤ l.length) (fun i => l.length - (intOf i).toNat)
  case atStart => exact ⟨0, rfl, Nat.zero_le _⟩
  case round =>
    obtain ⟨k, rfl, hkl⟩ := hrel
    by_cases hlt : k < l.length
    · obtain ⟨ad, A2, c2, rfl, k1', l1, r1⟩ := klb_get K.out k hlt
      have k1 := pw_cell_below H.out.old k1'
      have h8 := tooLong_no HT.out k
      generalize l.getD k [] = x at *
      have h8' : ¬ (8000 : Int) < (x.length : Int) := by omega
      clear r1 k1'
      go_wp2_with fail
      go_round
      case rel => exact ⟨k + 1, by go_num, by omega⟩
      case measure => simp [intOf]; omega
    · have hkn : k = l.length := by omega
      subst hkn
      by_cases hec : ec = 0
      · subst hec
        rw [if_neg (by simp)] at hp2
        have HP := Aside0.mk hp2
        clear hp2
        go_wp2_with (go_at_call 51; refine (rcut_h H.out 0 q t.sp rfl 0 0 s1 HC.out).mono ?_; rintro e0 w2 ⟨rfl, hs⟩; have H2 : Aside0 (Has w0 w2 [refA q s1, tapeB 101 tm q t.l false, R]) := Aside0.mk (by have := hs; unfold RTapeL at this; rw [HLO.out] at this; exact this); obtain ⟨y0, y2, y3, vy, y1⟩ := tape_facts H2.out 1 rfl; have H3 : Aside0 (Has w0 (w2.setCell ⟨tm, 1, none⟩ (.slice none 0 0)) (RTapeL q tm ⟨s1, [], false⟩ R)) := Aside0.mk (tape_setNil H2.out); clear hs)
        obtain ⟨w3, hw3⟩ : ∃ w3, w2.setCell ⟨tm, 1, none⟩ (.slice none 0 0) = w3 := ⟨_, rfl⟩
        rw [hw3] at H3 ⊢
        clear hw3 H2 HC x0 x1 x2 x3 y0 y1 y2 y3
        go_loopw [7] (fun i wr => ∃ (k : Nat) (t2 : Ts), i = .int .i64 k ∧ k ≤ l.length ∧ Aside0 (t2.layAll (l.drop k) = (e, t')) ∧ Aside0 t2.Ok ∧ Aside0 (t2.lost = false) ∧ Aside0 (Has w0 wr (RTapeL q tm t2 R))) (fun i _ => l.length - (intOf i).toNat)
        case atStart => exact ⟨0, ⟨s1, [], false⟩, rfl, Nat.zero_le _, ⟨by simpa using HP.out⟩, HOK, ⟨rfl⟩, H3⟩
        case round =>
          obtain ⟨k, t2, rfl, hkl2, HP2, HOK2, HL2, HS2⟩ := hrel
          by_cases hlt2 : k < l.length
          · obtain ⟨ad, A2, c2, rfl, k1', l1, r1⟩ := klb_get K.out k hlt2
            have k1 := pw_cell_below HS2.out.old k1'
            have hdr := HP2.out
            rw [drop_at hlt2] at hdr
            obtain ⟨x, hx⟩ : ∃ x, x = l.getD k [] := ⟨_, rfl⟩
            rw [← hx] at k1 l1 r1 hdr
            obtain ⟨e3, t3, h3⟩ : ∃ e3 t3, t2.lay x = (e3, t3) := ⟨_, _, rfl⟩
            have HL3 := Aside0.mk h3
            have HA3 := Aside0.mk (show t2.add x = (e3, t3) by unfold Ts.add; rw [if_neg (by simp [HL2.out]), h3])
            have HOK3 := Aside0.mk (show t3.Ok by have := HOK2.out.lay x; rwa [h3] at this)
            have HR1 := Aside0.mk (ReadsIn.old (R := R) r1)
            unfold Ts.layAll at hdr
            rw [h3] at hdr
            by_cases he3 : e3 = 0
            · subst he3
              rw [if_neg (by simp)] at hdr
              have HD := Aside0.mk hdr
              clear hdr h3 r1 hx k1'
              go_wp2_with (go_at_call 58; refine (radd_calls HS2.out HOK2.out x A2 x.length c2 rfl l1 HR1.out 0 t3 HA3.out).mono ?_; rintro e4 w4 ⟨rfl, hs⟩; have H4 := Aside0.mk hs; clear hs)
              go_roundw
              case rel => exact ⟨k + 1, t3, by go_num, by omega, HD, HOK3, ⟨Ts.lay_lost HL3.out HL2.out⟩, H4⟩
              case measure => simp [intOf]; omega
            · have hz : (e3 != 0) = true := by simpa using he3
              rw [if_pos he3] at hdr
              have HD := Aside0.mk hdr
              clear hdr h3 r1 hx k1' he3
              go_wp2_with (go_at_call 58; refine (radd_calls HS2.out HOK2.out x A2 x.length c2 rfl l1 HR1.out e3 t3 HA3.out).mono ?_; rintro e4 w4 ⟨rfl, hs⟩; have H4 := Aside0.mk hs; clear hs)
              go_ret
              have h9 := HD.out
              injection h9 with h10 h11
              rw [← h10, ← h11]
              exact ⟨rfl, H4.out⟩
          · have hkn : k = l.length := by omega
            subst hkn
            go_wp2_with fail
            go_ret
            have h9 := HP2.out
            rw [List.drop_of_length_le (Nat.le_refl _)] at h9
            unfold Ts.layAll at h9
            injection h9 with h10 h11
            rw [← h10, ← h11]
            exact ⟨rfl, HS2.out⟩
      · have hz : (ec != 0) = true := by simpa using hec
        rw [if_pos hec] at hp2
        have HP := Aside0.mk hp2
        clear hp2 hec
        go_wp2_with (go_at_call 51; refine (rcut_h H.out 0 q t.sp rfl 0 ec s1 HC.out).mono ?_; rintro e0 w2 ⟨rfl, hs⟩; have H2 : Aside0 (Has w0 w2 [refA q s1, tapeB 101 tm q t.l false, R]) := Aside0.mk (by have := hs; unfold RTapeL at this; rw [HLO.out] at this; exact this); obtain ⟨y0, y2, y3, vy, y1⟩ := tape_facts H2.out 1 rfl; have H3 : Aside0 (Has w0 (w2.setCell ⟨tm, 2, none⟩ (.bool true)) (RTapeL q tm ⟨s1, t.l, true⟩ R)) := Aside0.mk (tape_setLost H2.out true); clear hs)
        go_ret
        have h9 := HP.out
        injection h9 with h10 h11
        rw [← h10, ← h11]
        exact ⟨rfl, H3.out⟩
set_option maxRecDepth 100000 in
theorem rpack_calls {w0 w : World} {q tm : Nat} {R : Asr} {t : Ts} (H0 : Has w0 w (RTapeL q tm t R)) (hok : t.Ok) (l : List (List UInt8)) (A : Option Addr) (c : Nat) (hk : klb.C w0 A l.length l) (e : Int) (t' : Ts) (hp : t.pack l = (e, t')) :
    Calls Try.prog 73 #[.pointer (some ⟨tm, 0, none⟩), .slice A l.length c] w fun e0 w' => e0 = .returned (.int .i64 e) ∧ Has w0 w' (RTapeL q tm t' R) := by
  cases hl : t.lost with
  | true =>
    have ht2 : (190, t) = (e, t') := by rw [← hp]; unfold Ts.pack; rw [if_pos hl]
    injection ht2 with h1 h2
    subst h1 h2
    have H := Aside0.mk H0
    obtain ⟨x0, x2, x3, vx, x1⟩ := tape_facts H0 1 rfl
    rw [hl] at x2
    clear H0 hl hk hp
    go_enter Try.func73, Try.ntmps73
    go_wp2_with fail
    go_ret
    exact ⟨rfl, H.out⟩
  | false =>
    cases ht : tooLong l with
    | false => exact rpack_short H0 hok hl l A c hk ht e t' hp
    | true =>
      have ht2 : (3, t) = (e, t') := by rw [← hp]; unfold Ts.pack; rw [if_neg (by simp [hl]), if_pos ht]
      injection ht2 with h1 h2
      subst h1 h2
      exact rpack_long H0 hl l A c hk ht
end Go.Proofs.Ytahaoakolgomdaa


/- Contracts of tapes beside other things. -/
namespace Go.Proofs.Ytahaoakolgomdaa
open Go.RowKit Go.Proofs.YtahaoakolgomdaaW.PrintWords Go.Proofs.YtahaoakolgomdaaW.PrintLast Go.Proofs.YtahaoakolgomdaaW.PrintMore
set_option linter.unusedVariables false
set_option linter.unusedSimpArgs false

theorem same_n (xs ys : List UInt8) (n m : Nat) (hn : n = xs.length) (hm : m = ys.length) (A A' : Option Addr) (c c' : Nat) (w : World) (h : kb.C w A xs.length xs) (h' : kb.C w A' ys.length ys) (b : Bool) (hb : sameB xs ys = b) :
    Calls Try.prog 27 #[.slice A n c, .slice A' m c'] w fun e w' => e = .returned (.bool b) ∧ w' = w := by
  subst hn hm hb
  exact same_calls xs ys A A' c c' w h h'
theorem sameB_self (xs : List UInt8) : sameB xs xs = true := by simp [sameB]
theorem umod (cut : Int) (N : Nat) (h0 : 0 < N) (hN : N ≤ 1000000) : ∃ kk : Nat, kk < N ∧ wrap64 ((IntKind.u64.wrap cut).tmod (N : Int)) = (kk : Int) := by
  have hw : IntKind.u64.wrap cut = cut % 18446744073709551616 := by simp [IntKind.wrap, IntKind.bits, IntKind.signed]
  have h1 : 0 ≤ IntKind.u64.wrap cut := by rw [hw]; omega
  rw [Int.tmod_eq_emod_of_nonneg h1]
  generalize IntKind.u64.wrap cut = u at *
  have h2 : 0 ≤ u % (N : Int) := Int.emod_nonneg _ (by omega)
  have h3 : u % (N : Int) < (N : Int) := Int.emod_lt_of_pos _ (by omega)
  refine ⟨(u % (N : Int)).toNat, by omega, ?_⟩
  unfold wrap64; omega
/-- Bytes that are read: old ones, or a thing among L (neither the i-th nor the j-th). -/
def ReadsAt (w0 : World) (L : List Asr) (i j : Nat) (A : Option Addr) (r : List UInt8) : Prop :=
  kb.C w0 A r.length r ∨ ∃ (m : Nat) (Z : Asr), m ≠ i ∧ m ≠ j ∧ L[m]? = some Z ∧ ∀ (w : World) (F : Nat → Prop), Z.P w F → kb.C w A r.length r
theorem ReadsAt.in_ {w0 : World} {L : List Asr} {i j : Nat} {A : Option Addr} {r : List UInt8} (h : ReadsAt w0 L i j A r) : ReadsIn w0 (starA ((L.set i empA).set j empA)) A r := by
  rcases h with h | ⟨m, Z, hi, hj, hm, hZ⟩
  · exact .old h
  · intro w F hF _
    obtain ⟨G, hG⟩ := starA_get hF m _ (by rw [List.getElem?_set_ne (fun e => hj e.symm), List.getElem?_set_ne (fun e => hi e.symm)]; exact hm)
    exact hZ _ _ hG
theorem reads_bytes {A : Option Addr} {n c : Nat} {r : List UInt8} (w : World) (F : Nat → Prop) (h : (bytesA (.slice A n c) r).P w F) : kb.C w A r.length r := (OwnB.at_ h.1).2.2
theorem reads_blk {b : Nat} {cs : Array Value} {fz : Nat × Nat} {r : List UInt8} (hc : cs.toList.take r.length = encs enc8 r) (hm : r.length ≤ 9223372036854775807) (w : World) (F : Nat → Prop) (h : (blkA b (.cells cs 5 fz)).P w F) : kb.C w (some ⟨b, 0, none⟩) r.length r := kb_block h.1 hc hm
section
variable {w0 w : World} {L : List Asr}
theorem tadd_i (H : Has w0 w L) (i j : Nat) (hij : i ≠ j) {p tp : Nat} {t : Ts} (hi : L[i]? = some (spoolA p t.sp)) (hj : L[j]? = some (tapeB 105 tp p t.l t.lost)) (hok : t.Ok) (r : List UInt8) (A : Option Addr) (m c : Nat) (hm : m = r.length) (hmc : m ≤ c) (hr : ReadsAt w0 L i j A r) (e : Int) (t' : Ts) (ht : t.add r = (e, t')) :
    Calls Try.prog 57 #[.pointer (some ⟨tp, 0, none⟩), .slice A m c] w fun e0 w' => e0 = .returned (.int .i64 e) ∧ Has w0 w' ((L.set i (spoolA p t'.sp)).set j (tapeB 105 tp p t'.l t'.lost)) := by
  obtain ⟨R, rfl, h2, hgo⟩ := H.two i j _ _ hi hj hij
  refine (tadd_calls h2 hok r A m c hm hmc hr.in_ e t' ht).mono ?_
  rintro e0 w' ⟨rfl, hs⟩
  exact ⟨rfl, hgo _ _ _ hs⟩
theorem radd_i (H : Has w0 w L) (i j : Nat) (hij : i ≠ j) {p tp : Nat} {t : Ts} (hi : L[i]? = some (refA p t.sp)) (hj : L[j]? = some (tapeB 101 tp p t.l t.lost)) (hok : t.Ok) (r : List UInt8) (A : Option Addr) (m c : Nat) (hm : m = r.length) (hmc : m ≤ c) (hr : ReadsAt w0 L i j A r) (e : Int) (t' : Ts) (ht : t.add r = (e, t')) :
    Calls Try.prog 58 #[.pointer (some ⟨tp, 0, none⟩), .slice A m c] w fun e0 w' => e0 = .returned (.int .i64 e) ∧ Has w0 w' ((L.set i (refA p t'.sp)).set j (tapeB 101 tp p t'.l t'.lost)) := by
  obtain ⟨R, rfl, h2, hgo⟩ := H.two i j _ _ hi hj hij
  refine (radd_calls h2 hok r A m c hm hmc hr.in_ e t' ht).mono ?_
  rintro e0 w' ⟨rfl, hs⟩
  exact ⟨rfl, hgo _ _ _ hs⟩
theorem tpack_i (H : Has w0 w L) (i j : Nat) (hij : i ≠ j) {p tp : Nat} {t : Ts} (hi : L[i]? = some (spoolA p t.sp)) (hj : L[j]? = some (tapeB 105 tp p t.l t.lost)) (hok : t.Ok) (l : List (List UInt8)) (A : Option Addr) (m c : Nat) (hm : m = l.length) (hk : klb.C w0 A l.length l) (e : Int) (t' : Ts) (ht : t.pack l = (e, t')) :
    Calls Try.prog 67 #[.pointer (some ⟨tp, 0, none⟩), .slice A m c] w fun e0 w' => e0 = .returned (.int .i64 e) ∧ Has w0 w' ((L.set i (spoolA p t'.sp)).set j (tapeB 105 tp p t'.l t'.lost)) := by
  subst hm
  obtain ⟨R, rfl, h2, hgo⟩ := H.two i j _ _ hi hj hij
  refine (pack_calls h2 hok l A c hk e t' ht).mono ?_
  rintro e0 w' ⟨rfl, hs⟩
  exact ⟨rfl, hgo _ _ _ hs⟩
theorem rpack_i (H : Has w0 w L) (i j : Nat) (hij : i ≠ j) {p tp : Nat} {t : Ts} (hi : L[i]? = some (refA p t.sp)) (hj : L[j]? = some (tapeB 101 tp p t.l t.lost)) (hok : t.Ok) (l : List (List UInt8)) (A : Option Addr) (m c : Nat) (hm : m = l.length) (hk : klb.C w0 A l.length l) (e : Int) (t' : Ts) (ht : t.pack l = (e, t')) :
    Calls Try.prog 73 #[.pointer (some ⟨tp, 0, none⟩), .slice A m c] w fun e0 w' => e0 = .returned (.int .i64 e) ∧ Has w0 w' ((L.set i (refA p t'.sp)).set j (tapeB 101 tp p t'.l t'.lost)) := by
  subst hm
  obtain ⟨R, rfl, h2, hgo⟩ := H.two i j _ _ hi hj hij
  refine (rpack_calls h2 hok l A c hk e t' ht).mono ?_
  rintro e0 w' ⟨rfl, hs⟩
  exact ⟨rfl, hgo _ _ _ hs⟩
/-- Open goes well. -/
theorem topen_i (H : Has w0 w L) (i : Nat) {p : Nat} {s : Sp} (hi : L[i]? = some (spoolA p s)) (l : List (List UInt8)) (s' : Sp) (ho : opn s = (0, some l, s')) :
    Calls Try.prog 63 #[.pointer (some ⟨p, 0, none⟩)] w fun e w' => ∃ t, e = .returned (.tuple #[.pointer (some ⟨t, 0, none⟩), .int .i64 0]) ∧ Has w0 w' (L.set i (spoolA p s') ++ [tapeB 105 t p l false]) := by
  obtain ⟨R, rfl, h2, hgo⟩ := H.one' i _ hi
  refine (open_calls h2).mono ?_
  rintro e w' (⟨h, _⟩ | ⟨l2, t, h, _, rfl, hs⟩)
  · rw [ho] at h; cases h
  · rw [ho] at h hs
    cases h
    exact ⟨t, rfl, hgo _ [tapeB 105 t p l false] _ hs⟩
theorem topen_no (H : Has w0 w L) (i : Nat) {p : Nat} {s : Sp} (hi : L[i]? = some (spoolA p s)) (e1 : Int) (s' : Sp) (ho : opn s = (e1, none, s')) :
    Calls Try.prog 63 #[.pointer (some ⟨p, 0, none⟩)] w fun e w' => e = .returned (.tuple #[.pointer none, .int .i64 e1]) ∧ Has w0 w' (L.set i (spoolA p s')) := by
  obtain ⟨R, rfl, h2, hgo⟩ := H.one' i _ hi
  refine (open_calls h2).mono ?_
  rintro e w' (⟨_, rfl, hs⟩ | ⟨l2, t, h, _, _, _⟩)
  · rw [ho] at hs ⊢
    have := hgo _ [] _ hs
    rw [List.append_nil] at this
    exact ⟨rfl, this⟩
  · rw [ho] at h; cases h
theorem ropen_i (H : Has w0 w L) (i : Nat) {p : Nat} {s : Sp} (hi : L[i]? = some (refA p s)) (l : List (List UInt8)) (s' : Sp) (ho : opn s = (0, some l, s')) :
    Calls Try.prog 72 #[.pointer (some ⟨p, 0, none⟩)] w fun e w' => ∃ t, e = .returned (.tuple #[.pointer (some ⟨t, 0, none⟩), .int .i64 0]) ∧ Has w0 w' (L.set i (refA p s') ++ [tapeB 101 t p l false]) := by
  obtain ⟨R, rfl, h2, hgo⟩ := H.one' i _ hi
  refine (ropen_calls h2).mono ?_
  rintro e w' (⟨h, _⟩ | ⟨l2, t, h, _, rfl, hs⟩)
  · rw [ho] at h; cases h
  · rw [ho] at h hs
    cases h
    exact ⟨t, rfl, hgo _ [tapeB 101 t p l false] _ hs⟩
theorem ropen_no (H : Has w0 w L) (i : Nat) {p : Nat} {s : Sp} (hi : L[i]? = some (refA p s)) (e1 : Int) (s' : Sp) (ho : opn s = (e1, none, s')) :
    Calls Try.prog 72 #[.pointer (some ⟨p, 0, none⟩)] w fun e w' => e = .returned (.tuple #[.pointer none, .int .i64 e1]) ∧ Has w0 w' (L.set i (refA p s')) := by
  obtain ⟨R, rfl, h2, hgo⟩ := H.one' i _ hi
  refine (ropen_calls h2).mono ?_
  rintro e w' (⟨_, rfl, hs⟩ | ⟨l2, t, h, _, _, _⟩)
  · rw [ho] at hs ⊢
    have := hgo _ [] _ hs
    rw [List.append_nil] at this
    exact ⟨rfl, this⟩
  · rw [ho] at h; cases h
end
/-! Tapes whose spool has power. -/
theorem lay_on {b r : List UInt8} {sure room : Nat} {l : List (List UInt8)} (h : b.length + (r.length + 7) ≤ room) (hr : r.length ≤ 8000) :
    Ts.add ⟨⟨b, sure, room, -1, false⟩, l, false⟩ r = (0, ⟨⟨b ++ putS r, b.length + (r.length + 7), room, -1, false⟩, l ++ [r], false⟩) := by
  have ha : (Sp.mk b sure room (-1) false).add (putS r) = (0, ⟨b ++ putS r, sure, room, -1, false⟩) := Sp.add_on (by rw [putS_length]; exact h)
  have hs : (Sp.mk (b ++ putS r) sure room (-1) false).sync = (0, ⟨b ++ putS r, b.length + (r.length + 7), room, -1, false⟩) := by
    rw [Sp.sync_on, List.length_append, putS_length]
  unfold Ts.add Ts.lay
  rw [if_neg (by simp), if_neg (by omega), ha, if_neg (by simp), hs, if_neg (by simp)]
theorem lay_full {b r : List UInt8} {sure room : Nat} {l : List (List UInt8)} (h : room < b.length + (r.length + 7)) (hr : r.length ≤ 8000) :
    Ts.add ⟨⟨b, sure, room, -1, false⟩, l, false⟩ r = (5, ⟨⟨b, sure, room, -1, false⟩, l, false⟩) := by
  have ha : (Sp.mk b sure room (-1) false).add (putS r) = (5, ⟨b, sure, room, -1, false⟩) := Sp.add_full (by rw [putS_length]; exact h)
  unfold Ts.add Ts.lay
  rw [if_neg (by simp), if_neg (by omega), ha, if_pos (by simp)]
  rfl
theorem opn_all {G : List (List UInt8)} {sure room : Nat} (hf : fits G) : opn ⟨cat G, sure, room, -1, false⟩ = (0, some G, ⟨cat G, sure, room, -1, false⟩) := by
  unfold opn
  rw [if_neg (by simp), allS_cat G hf]
  simp only
  rw [if_neg (by omega)]
theorem opn_cut {G : List (List UInt8)} {r : List UInt8} {sure room : Nat} (hf : fits G) (hr : 0 < r.length) (hs : (getS (cat G ++ r) (cat G).length).2.2 ≠ 0) :
    opn ⟨cat G ++ r, sure, room, -1, false⟩ = (0, some G, ⟨cat G, (cat G).length, room, -1, false⟩) := by
  unfold opn
  rw [if_neg (by simp), allS_stop (cat G ++ r) G r rfl hf hs]
  simp only
  have hcut : (Sp.mk (cat G ++ r) sure room (-1) false).cut ((cat G).length : Int) = (0, ⟨cat G, (cat G).length, room, -1, false⟩) := by
    rw [Sp.cut_on (by simp), List.take_left' rfl]
  rw [if_pos (by simp; omega), hcut, if_neg (by simp)]
end Go.Proofs.Ytahaoakolgomdaa


/- known of law 19. -/
namespace Go.Proofs.Ytahaoakolgomdaa
open Go.RowKit Go.Proofs.YtahaoakolgomdaaW.PrintWords Go.Proofs.YtahaoakolgomdaaW.PrintLast Go.Proofs.YtahaoakolgomdaaW.PrintMore
set_option linter.unusedVariables false
set_option linter.unusedSimpArgs false

/-- Bytes written out. -/
theorem lit_h {w0 w : World} {L : List Asr} (H : Has w0 w L) (xs : List UInt8) (cs : Array Value) (n : Nat) (hn : n = xs.length) (hc : cs.toList = encs enc8 xs) (hm : n ≤ 9223372036854775807) :
    Has w0 (w.alloc (.cells cs 5)) (L ++ [bytesA (.slice (some ⟨w.heap.size, 0, none⟩) n n) xs]) := by
  subst hn
  exact H.addE (.bytes (OwnB.lit w w.heap.size xs cs hc (Nat.le_refl _) hm) (below_alloc (Below.refl _ _) _))
theorem Ts.ok_of {b : List UInt8} {sure room : Nat} {left : Int} {off lost : Bool} {l : List (List UInt8)} (h1 : sure ≤ b.length) (h2 : b.length ≤ room) (h3 : room ≤ 1048576) (h4 : -1 ≤ left) (h5 : left ≤ 9223372036854775807) (h6 : (cat l).length ≤ b.length) (h7 : fits l) : (Ts.mk ⟨b, sure, room, left, off⟩ l lost).Ok :=
  ⟨⟨h1, h2, h3, h4, h5⟩, h6, h7⟩
set_option maxHeartbeats 2000000 in
set_option maxRecDepth 100000 in
theorem known19_calls (w : World) : Calls Try.prog 56 #[] w fun e w' => e = .returned (.bool true) ∧ Below w.heap.size w w' := by
  have kc := fun (w : World) (C : Array Value) (n c : Nat) => Lib.run_convert_bytes_const (P := Try.prog) w 22 5 C n c Try.underlying22 Try.underlying5
  have hcmp1 : ((strB [97]).toList == ([97] : List UInt8)) = true := by rw [ByteArray.toList_eq, strB_data]; rfl
  have hcmp2 : ((strB [98]).toList == ([98] : List UInt8)) = true := by rw [ByteArray.toList_eq, strB_data]; rfl
  obtain ⟨c1, hc1⟩ : ∃ c1, cat [[97]] = c1 := ⟨_, rfl⟩
  obtain ⟨c2, hc2⟩ : ∃ c2, cat [[97], [98]] = c2 := ⟨_, rfl⟩
  have l1 : c1.length = 8 := by rw [← hc1]; simp [cat, putS_length]
  have l2 : c2.length = 16 := by rw [← hc2]; simp [cat, putS_length]
  have f1 : fits [[97]] := fun x hx => by simp at hx; subst hx; simp
  have f2 : fits [[97], [98]] := fun x hx => by simp at hx; rcases hx with rfl | rfl <;> simp
  have e1 : c1 = [] ++ putS [97] := by rw [← hc1]; simp [cat]
  have e2 : c2 = c1 ++ putS [98] := by rw [← hc2, ← hc1]; simp [cat]
  have O0 := Aside0.mk (show opn ⟨[], 0, 1000, -1, false⟩ = (0, some [], ⟨[], 0, 1000, -1, false⟩) from opn_all (G := []) fits_nil)
  have T1 := Aside0.mk (show Ts.add ⟨⟨[], 0, 1000, -1, false⟩, [], false⟩ [97] = (0, ⟨⟨c1, 8, 1000, -1, false⟩, [[97]], false⟩) by rw [lay_on (by simp) (by simp), ← e1]; rfl)
  have T2 := Aside0.mk (show Ts.add ⟨⟨c1, 8, 1000, -1, false⟩, [[97]], false⟩ [98] = (0, ⟨⟨c2, 16, 1000, -1, false⟩, [[97], [98]], false⟩) by rw [lay_on (by simp [l1]) (by simp), ← e2, l1]; rfl)
  obtain ⟨c3, hc3⟩ : ∃ c3, c2 ++ putS [99] = c3 := ⟨_, rfl⟩
  have l3 : c3.length = 24 := by rw [← hc3, List.length_append, l2, putS_length]; rfl
  have T3 := Aside0.mk (show Ts.add ⟨⟨c2, 16, 1000, 1, false⟩, [[97], [98]], false⟩ [99] = (190, ⟨⟨c3, 16, 1000, 0, true⟩, [[97], [98]], true⟩) by
    unfold Ts.add Ts.lay
    rw [if_neg (by simp), if_neg (by simp), Sp.add_go (by omega) (by rw [l2, putS_length]; simp), if_neg (by simp), hc3]
    simp only
    rw [show (1 : Int) - 1 = 0 from rfl, Sp.sync_stop, if_pos (by simp)]
    rfl)
  obtain ⟨c4, hc4⟩ : ∃ c4, c2 ++ (putS [99]).take 3 = c4 := ⟨_, rfl⟩
  have T4 := Aside0.mk (show (Sp.mk c3 16 1000 0 true).crash 3 = ⟨c4, 19, 1000, -1, false⟩ by
    have hk : (Sp.mk c3 16 1000 0 true).keepN 3 = 19 := by unfold Sp.keepN; simp only; rw [l3]; rfl
    unfold Sp.crash
    rw [hk, ← hc4, ← hc3]
    simp only
    rw [List.take_append, l2, List.take_of_length_le (by omega)])
  have T5 := Aside0.mk (show opn ⟨c4, 19, 1000, -1, false⟩ = (0, some [[97], [98]], ⟨c2, 16, 1000, -1, false⟩) by
    rw [← hc4, ← hc2]
    rw [opn_cut f2 (by rw [List.length_take, putS_length]; simp) (by
      rw [getS_cut _ _ [99] 3 (by rw [List.drop_left' rfl]) (by simp) (by omega) (by simp)]; decide)]
    rw [hc2, l2])
  have OK0 := Aside0.mk (show (Ts.mk ⟨[], 0, 1000, -1, false⟩ [] false).Ok from Ts.ok_of (by simp) (by simp) (by omega) (by omega) (by omega) (by simp [cat]) fits_nil)
  have OK1 := Aside0.mk (show (Ts.mk ⟨c1, 8, 1000, -1, false⟩ [[97]] false).Ok from Ts.ok_of (by omega) (by omega) (by omega) (by omega) (by omega) (by rw [hc1]; exact Nat.le_refl _) f1)
  have OK2 := Aside0.mk (show (Ts.mk ⟨c2, 16, 1000, 1, false⟩ [[97], [98]] false).Ok from Ts.ok_of (by omega) (by omega) (by omega) (by omega) (by omega) (by rw [hc2]; exact Nat.le_refl _) f2)
  have F2 := Aside0.mk f2
  clear hc1 hc2 hc3 hc4 l1 l2 l3 e1 e2 f1 f2
  go_enter Try.func56, Try.ntmps56
  go_wp2_with (first
    | (go_at_call 62; refine (records_h H8.out 1 rfl (by simp) F2.out [[97], [98]] rfl).mono ?_; rintro e w9 ⟨A9, c9, n9, rfl, hn9, hc9, hs⟩; obtain rfl : n9 = 2 := hn9; have H9 := Aside0.mk hs; obtain ⟨A', c', e9, _, hr9⟩ := (hs.rows 2 rfl).reads; injection e9 with e9 _ _; subst e9; obtain ⟨ad, B0, d0, rfl, k0, m0, r0⟩ := klb_get hr9 0 (by simp); obtain ⟨ad', B1, d1, e10, k1, m1, r1⟩ := klb_get hr9 1 (by simp); cases e10; have k0' : w9.cell? ad = some (.slice B0 1 d0) := (by have h0 := k0; simp [Addr.add] at h0; exact h0); have k1' : w9.cell? ⟨ad.block, ad.off + 1, none⟩ = some (.slice B1 1 d1) := (by have h0 := k1; simp [Addr.add] at h0; exact h0); clear k0; simp at k1; have hs0 : (convert 22 9 (.slice B0 1 d0)).run Try.prog w9 = .ok (.string (strB [97])) w9 := kb_string (c := d0) r0; have hs1 : (convert 22 9 (.slice B1 1 d1)).run Try.prog w9 = .ok (.string (strB [98])) w9 := kb_string (c := d1) r1; clear hs r0 r1 hr9)
    | (go_at_call 63; refine (topen_i H7.out 0 rfl _ _ T5.out).mono ?_; rintro e w8 ⟨tp2, rfl, hs⟩; have H8 : Aside0 (Has w w8 [spoolA p ⟨c2, 16, 1000, -1, false⟩, tapeB 105 tp2 p [[97], [98]] false]) := Aside0.mk (Has.drop hs 1); clear hs)
    | (go_at_call 44; refine (crash_h H6.out 0 p _ rfl 3 _ T4.out).mono ?_; rintro e w7 ⟨rfl, hs⟩; have H7 : Aside0 (Has w w7 [spoolA p ⟨c4, 19, 1000, -1, false⟩, tapeB 105 tp p [[97], [98]] true]) := Aside0.mk hs; clear hs)
    | (go_at_call 64; refine (tlen_h H6.out 1 rfl 0 rfl).mono ?_; rintro e w' ⟨rfl, hw⟩; obtain rfl := hw.symm; clear hw)
    | (go_at_call 57; refine (tadd_i (H5.out.addO _) 0 1 (by decide) rfl rfl OK2.out [99] _ 1 1 rfl (Nat.le_refl _) (.inr ⟨2, _, by decide, by decide, rfl, reads_blk rfl (by simp)⟩) 190 _ T3.out).mono ?_; rintro e w6 ⟨rfl, hs⟩; have H6 : Aside0 (Has w w6 [spoolA p ⟨c3, 16, 1000, 0, true⟩, tapeB 105 tp p [[97], [98]] true]) := Aside0.mk (Has.drop hs 2); clear hs)
    | (go_at_call 39; refine (off_h H4.out 0 p _ rfl 1 (by omega) ⟨c2, 16, 1000, 1, false⟩ rfl).mono ?_; rintro e w5 ⟨rfl, hs⟩; have H5 : Aside0 (Has w w5 [spoolA p ⟨c2, 16, 1000, 1, false⟩, tapeB 105 tp p [[97], [98]] false]) := Aside0.mk hs; clear hs)
    | (go_at_call 57; refine (tadd_i (H3.out.addO _) 0 1 (by decide) rfl rfl OK1.out [98] _ 1 1 rfl (Nat.le_refl _) (.inr ⟨2, _, by decide, by decide, rfl, reads_blk rfl (by simp)⟩) 0 _ T2.out).mono ?_; rintro e w4 ⟨rfl, hs⟩; have H4 : Aside0 (Has w w4 [spoolA p ⟨c2, 16, 1000, -1, false⟩, tapeB 105 tp p [[97], [98]] false]) := Aside0.mk (Has.drop hs 2); clear hs)
    | (go_at_call 57; refine (tadd_i (H2.out.addO _) 0 1 (by decide) rfl rfl OK0.out [97] _ 1 1 rfl (Nat.le_refl _) (.inr ⟨2, _, by decide, by decide, rfl, reads_blk rfl (by simp)⟩) 0 _ T1.out).mono ?_; rintro e w3 ⟨rfl, hs⟩; have H3 : Aside0 (Has w w3 [spoolA p ⟨c1, 8, 1000, -1, false⟩, tapeB 105 tp p [[97]] false]) := Aside0.mk (Has.drop hs 2); clear hs)
    | (go_at_call 63; refine (topen_i H1.out 0 rfl _ _ O0.out).mono ?_; rintro e w2 ⟨tp, rfl, hs⟩; have H2 : Aside0 (Has w w2 [spoolA p ⟨[], 0, 1000, -1, false⟩, tapeB 105 tp p [] false]) := Aside0.mk hs; clear hs)
    | (go_at_call 38; refine (new_h _ 1000 (by omega) (by omega) ⟨[], 0, 1000, -1, false⟩ rfl).mono ?_; rintro e w1 ⟨p, rfl, hf⟩; have H1 : Aside0 (Has w w1 [spoolA p ⟨[], 0, 1000, -1, false⟩]) := Aside0.mk ((Has.start w).addE hf); clear hf))
  go_ret
  exact ⟨rfl, H9.out.old⟩
end Go.Proofs.Ytahaoakolgomdaa

