/- The walk of the law CrateGets. -/
import Derived.Test.YtahaoakolgomdaaS12
import Derived.Test.YtahaoakolgomdaaS10
namespace Go.Proofs.Ytahaoakolgomdaa
open Go.RowKit Go.Proofs.YtahaoakolgomdaaW.PrintWords Go.Proofs.YtahaoakolgomdaaW.PrintLast Go.Proofs.YtahaoakolgomdaaW.PrintMore
set_option linter.unusedVariables false
set_option linter.unusedSimpArgs false

theorem getS_len (xs : List UInt8) (k : Int) : (getS xs k).1.length ≤ 8000 := by
  unfold getS
  split
  · simp
  · split
    · simp
    · split
      · rename_i h
        unfold bodyAt
        have := h.2.2.1
        rw [List.length_take]
        exact Nat.le_trans (Nat.min_le_left _ _) this
      · simp
theorem allGo_len (xs : List UInt8) : ∀ (f : Nat) (k : Int) (out : List (List UInt8)), (∀ ys ∈ out, ys.length ≤ 8000) → ∀ ys ∈ (allGo xs f k out).1, ys.length ≤ 8000 := by
  intro f
  induction f with
  | zero => intro k out h; exact h
  | succ f ih =>
    intro k out h
    unfold allGo
    split
    · refine ih _ _ ?_
      intro ys hy
      rcases List.mem_append.1 hy with hy | hy
      · exact h ys hy
      · rw [List.mem_singleton.1 hy]; exact getS_len xs k
    · exact h
theorem allS_len (xs : List UInt8) (j : Nat) (ys : List UInt8) (h : (allS xs).1[j]? = some ys) : ys.length ≤ 1000000 := by
  have := allGo_len xs (xs.length + 1) 0 [] (by simp) ys (List.mem_of_getElem? h)
  omega
theorem OwnL.grown {w w1 : World} {b g : Nat} {v : Value} {xss : List (List UInt8)} (h : OwnL w b v xss) (hg : w.grownBy w1 (some g)) (hlt : g < b) : OwnL w1 b v xss := by
  obtain ⟨vs, h1, h2, h3, h4⟩ := h
  refine ⟨vs, own_other h1 hg (.inr (fun e => by have := own_base h1 g e; omega)), h2, fun i u xs hu hx => ?_, h4⟩
  have ho := h3 i u xs hu hx
  exact ho.grown hg (.inr (fun e => by have := ho.base_le g e; omega))
theorem OwnL.lower {w : World} {b b' : Nat} {v : Value} {xss : List (List UInt8)} (h : OwnL w b v xss) (hb : b' ≤ b) : OwnL w b' v xss := by
  obtain ⟨vs, h1, h2, h3, h4⟩ := h
  exact ⟨vs, own_less h1 hb, h2, fun i u xs hu hx => (h3 i u xs hu hx).lower hb, h4⟩
theorem OwnL.at_ {w : World} {b n c : Nat} {A : Option Addr} {xss : List (List UInt8)} (h : OwnL w b (.slice A n c) xss) : n = xss.length ∧ klb.C w A xss.length xss := by
  obtain ⟨A', c', e, _, hr⟩ := h.reads
  injection e with e1 e2 e3
  subst e1
  exact ⟨e2, hr⟩
theorem get_form (f : FuncId) (args : Array Value) (w : World) (r : List UInt8 × Int × Int) (h : Calls Try.prog f args w (GetSays w r)) :
    Calls Try.prog f args w fun e w' => ∃ A c, e = .returned (.tuple #[.slice A r.1.length c, .int .i64 r.2.1, .int .i64 r.2.2]) ∧ OwnB w' w.heap.size (.slice A r.1.length c) r.1 ∧ Below w.heap.size w w' := by
  refine h.mono ?_
  rintro e w' ⟨v, rfl, ho, hb⟩
  obtain ⟨A, c, rfl, _, _⟩ := ho.reads
  exact ⟨A, c, rfl, ho, hb⟩
theorem all_form (f : FuncId) (args : Array Value) (w : World) (r : List (List UInt8) × Int × Int) (h : Calls Try.prog f args w (AllSays w r)) :
    Calls Try.prog f args w fun e w' => ∃ A c, e = .returned (.tuple #[.slice A r.1.length c, .int .i64 r.2.1, .int .i64 r.2.2]) ∧ OwnL w' w.heap.size (.slice A r.1.length c) r.1 ∧ Below w.heap.size w w' := by
  refine h.mono ?_
  rintro e w' ⟨v, rfl, ho, hb⟩
  obtain ⟨A, c, rfl, _, _⟩ := ho.reads
  exact ⟨A, c, rfl, ho, hb⟩
theorem samel_refl (a : List (List UInt8)) (A B : Option Addr) (c c' : Nat) (w : World) (h : klb.C w A a.length a) (h' : klb.C w B a.length a) :
    Calls Try.prog 33 #[.slice A a.length c, .slice B a.length c'] w fun e w' => e = .returned (.bool true) ∧ Drawn0 w w' := by
  refine (samel_calls a a A B c c' w h h').mono ?_
  rintro e w' ⟨rfl, hd⟩
  exact ⟨by unfold sameLB; simp, hd⟩
theorem crateGets_long (xs : List UInt8) (A : Option Addr) (c : Nat) (at_ : Int) (w : World) (hm : xs.length ≤ 9223372036854775807) (hn : 9000 < xs.length) :
    Calls Try.prog 4 #[.slice A xs.length c, .int .i64 at_] w fun e w' => e = .returned (.bool true) ∧ Below w.heap.size w w' := by
  go_enter Try.func4, Try.ntmps4
  go_wp2_with (go_at_call 19; refine (known17_calls _).mono ?_; rintro e w1 ⟨rfl, hb⟩; have HB := Aside0.mk hb; clear hb)
  go_ret
  exact ⟨rfl, HB.out⟩
set_option maxHeartbeats 2000000 in
set_option maxRecDepth 100000 in
theorem crateGets_calls (xs : List UInt8) (A : Option Addr) (c : Nat) (at_ : Int) (w : World) (h : kb.C w A xs.length xs) (hc : xs.length ≤ c) (hn : xs.length ≤ 9000) :
    Calls Try.prog 4 #[.slice A xs.length c, .int .i64 at_] w fun e w' => e = .returned (.bool true) ∧ Below w.heap.size w w' := by
  have H := Aside0.mk h
  clear h
  have GET := Aside0.mk (fun A c w h hc => get_form 29 _ w _ (get_calls xs A c w h hc at_))
  have RGET := Aside0.mk (fun A c w h hc => get_form 30 _ w _ (rget_calls xs A c w h hc at_))
  have ALL := Aside0.mk (fun A c w h hc => all_form 31 _ w _ (all_calls xs A c w h hc (by omega)))
  have RALL := Aside0.mk (fun A c w h hc => all_form 32 _ w _ (rall_calls xs A c w h hc (by omega)))
  have HLEN := Aside0.mk (allS_len xs)
  generalize getS xs at_ = g at GET RGET
  generalize allS xs = r at ALL RALL HLEN
  obtain ⟨g1, g2, g3⟩ := g
  obtain ⟨r1, r2, r3⟩ := r
  simp only at GET RGET ALL RALL HLEN
  obtain ⟨n, hrn⟩ : ∃ n, r1.length = n := ⟨_, rfl⟩
  have HRN := Lib.hid hrn
  have OWN : n ≤ 40 → ∀ (W : World) (A : Option Addr) (c : Nat), w.heap.size ≤ W.heap.size → OwnL W w.heap.size (.slice A n c) r1 → Calls Try.prog 28 #[.slice A n c] W fun e w' => e = .returned (.bool true) ∧ Below w.heap.size W w' :=
    fun hn40 W A c hW ho => own_calls r1 _ w.heap.size W ho hW (by omega) HLEN.out
  have SAMEL := Aside0.mk (fun A B c c' W h h' => samel_refl r1 A B c c' W h h')
  have OWN := Aside0.mk OWN
  simp only [hrn] at SAMEL ALL RALL
  have hm : n ≤ 9223372036854775807 ∨ 9223372036854775807 < n := by omega
  clear hrn
  go_enter Try.func4, Try.ntmps4
  go_wp2_with (first
    | (go_at_call 20; refine (lent_calls xs A c _ H.out (by omega)).mono ?_; rintro e w1 ⟨g, c1, rfl, hl1, hb1⟩; have HL1 := Aside0.mk hl1; have HB1 := Aside0.mk hb1; clear hl1 hb1)
    | (go_at_call 29; refine (GET.out (some ⟨g, 0, none⟩) c1 _ HL1.out.reads.2 (by have := HL1.out.reads.1; omega)).mono ?_; rintro e w2 ⟨A2, c2, rfl, ho2, hb2⟩; have HO2 := Aside0.mk ho2; have HB2 := Aside0.mk (below_then HB1.out HB1.out.size hb2); have HL2 := Aside0.mk (HL1.out.below hb2); have HZ2 := Aside0.mk (show w1.heap.size ≤ w2.heap.size from hb2.size); clear ho2 hb2)
    | (go_at_call 30; refine (RGET.out A c _ (Kd.C_below H.out HB2.out) hc).mono ?_; rintro e w3 ⟨A3, c3, rfl, ho3, hb3⟩; have HO3 := Aside0.mk ho3; have HP3 := Aside0.mk (HO2.out.below hb3); have HB3 := Aside0.mk (below_then HB2.out HB2.out.size hb3); have HL3 := Aside0.mk (HL2.out.below hb3); have HZ3 := Aside0.mk (show w2.heap.size ≤ w3.heap.size from hb3.size); clear ho3 hb3)
    | (go_at_call 31; refine (ALL.out (some ⟨g, 0, none⟩) c1 _ HL3.out.reads.2 (by have := HL3.out.reads.1; omega)).mono ?_; rintro e w4 ⟨A4, c4, rfl, ho4, hb4⟩; have HO4 := Aside0.mk (HO3.out.below hb4); have HP4 := Aside0.mk (HP3.out.below hb4); have HQ4 := Aside0.mk ho4; have HB4 := Aside0.mk (below_then HB3.out HB3.out.size hb4); have HL4 := Aside0.mk (HL3.out.below hb4); have HZ4 := Aside0.mk (show w3.heap.size ≤ w4.heap.size from hb4.size); clear ho4 hb4)
    | (go_at_call 32; refine (RALL.out A c _ (Kd.C_below H.out HB4.out) hc).mono ?_; rintro e w5 ⟨A5, c5, rfl, ho5, hb5⟩; have HO5 := Aside0.mk (HO4.out.below hb5); have HP5 := Aside0.mk (HP4.out.below hb5); have HQ5 := Aside0.mk (HQ4.out.below hb5); have HR5 := Aside0.mk ho5; have HB5 := Aside0.mk (below_then HB4.out HB4.out.size hb5); have HL5 := Aside0.mk (HL4.out.below hb5); clear ho5 hb5)
    | (go_at_call 23; refine (whole_calls xs g c1 A c _ _ HL5.out (Kd.C_below H.out HB5.out) (by omega)).mono ?_; rintro e w' ⟨rfl, hw⟩; obtain rfl := hw.symm; clear hw)
    | (go_at_call 24; refine (spoil_own xs g _ c1 _ _ HL5.out.own).mono ?_; rintro e w6 ⟨rfl, ys, _, ho6, hg6⟩; have HLT := Aside0.mk (HL1.out.own.lt g rfl); have HB6 := Aside0.mk (HB5.out.grown hg6 HB5.out.size (fun q hq => by cases hq; exact HL5.out.own.base_le g rfl)); have HO6 := Aside0.mk (HO5.out.grown hg6 (.inr (fun e => by have h1 := HO5.out.base_le g e; have h2 := HLT.out; have h3 := HZ2.out; omega))); have HP6 := Aside0.mk (HP5.out.grown hg6 (.inr (fun e => by have h1 := HP5.out.base_le g e; have h2 := HLT.out; omega))); have HQ6 := Aside0.mk (HQ5.out.grown hg6 (by have h2 := HLT.out; have h3 := HZ2.out; have h4 := HZ3.out; omega)); have HR6 := Aside0.mk (HR5.out.grown hg6 (by have h2 := HLT.out; have h3 := HZ2.out; have h4 := HZ3.out; have h5 := HZ4.out; omega)); have HBQ := Aside0.mk (show w.heap.size ≤ w3.heap.size from HB3.out.size); clear ho6 hg6)
    | (go_at_call 27; refine (same_refl g1 A2 A3 c2 c3 _ HP6.out.at_.2.2 HO6.out.at_.2.2).mono ?_; rintro e w' ⟨rfl, hw⟩; obtain rfl := hw.symm; clear hw)
    | (go_at_call 33; refine (SAMEL.out A4 A5 c4 c5 _ (HRN.out ▸ HQ6.out.at_.2) (HRN.out ▸ HR6.out.at_.2)).mono ?_; rintro e w7 ⟨rfl, hd⟩; have HQ7 := Aside0.mk (HQ6.out.below hd.below); have HB7 := Aside0.mk (below_then HB6.out HB6.out.size hd.below); clear hd)
    | (go_at_call 28; refine (OWN.out (by omega) _ A4 c4 HB7.out.size (HQ7.out.lower HBQ.out)).mono ?_; rintro e w8 ⟨rfl, hb⟩; have HB8 := Aside0.mk (HB7.out.trans hb); clear hb)
    | (go_at_call 19; refine (known17_calls _).mono ?_; rintro e w9 ⟨rfl, hb⟩; have HB9 := Aside0.mk (below_then HB8.out HB8.out.size hb); clear hb)
    | (go_at_call 19; refine (known17_calls _).mono ?_; rintro e w9 ⟨rfl, hb⟩; have HB9 := Aside0.mk (below_then HB7.out HB7.out.size hb); clear hb))
  all_goals (go_ret; exact ⟨rfl, HB9.out⟩)
theorem crateGets_walk (w : World) (xs : List UInt8) (A : Option Addr) (c : Nat) (h : kb.C w A xs.length xs) (hc : xs.length ≤ c) (_hb : xs.length ≤ 140737488351232) (at_ : Int) (_ : (Lit.int .i64 at_).wf = true) :
    Calls Try.prog 4 #[.slice A xs.length c, .int .i64 at_] w fun e w' => e = .returned (.bool true) ∧ Below w.heap.size w w' := by
  by_cases hn : xs.length ≤ 9000
  · exact crateGets_calls xs A c at_ w h hc hn
  · exact crateGets_long xs A c at_ w h.2.1 (by omega)
end Go.Proofs.Ytahaoakolgomdaa
