/- The walk of the law CratePuts. -/
import Derived.Test.YtahaoakolgomdaaS9
import Derived.Test.YtahaoakolgomdaaS11
namespace Go.Proofs.Ytahaoakolgomdaa
open Go.RowKit Go.Proofs.YtahaoakolgomdaaW.PrintWords Go.Proofs.YtahaoakolgomdaaW.PrintLast Go.Proofs.YtahaoakolgomdaaW.PrintMore
set_option linter.unusedVariables false
set_option linter.unusedSimpArgs false

/-- What Put gives, for whatever body. -/
def putR (xs : List UInt8) : List UInt8 := if xs.length ≤ 8000 then putS xs else []
def putE (xs : List UInt8) : Int := if xs.length ≤ 8000 then 0 else 3
theorem putR_len (xs : List UInt8) : (putR xs).length ≤ 9000 := by
  unfold putR; split
  · rw [putS_length]; omega
  · simp
theorem put_any (xs : List UInt8) (A : Option Addr) (c : Nat) (w : World) (h : kb.C w A xs.length xs) :
    Calls Try.prog 22 #[.slice A xs.length c] w fun e w' => ∃ A1 c1, e = .returned (.tuple #[.slice A1 (putR xs).length c1, .int .i64 (putE xs)]) ∧ OwnB w' w.heap.size (.slice A1 (putR xs).length c1) (putR xs) ∧ Below w.heap.size w w' := by
  unfold putR putE
  by_cases hn : xs.length ≤ 8000
  · simp only [if_pos hn]
    refine (put_calls xs A c w h hn).mono ?_
    rintro e w' ⟨v, rfl, ho, hb⟩
    obtain ⟨A1, c1, rfl, _, _⟩ := ho.reads
    exact ⟨A1, c1, rfl, ho, hb⟩
  · simp only [if_neg hn]
    refine (put_long xs A c w h.2.1 (by omega)).mono ?_
    rintro e w' ⟨rfl, rfl⟩
    exact ⟨none, 0, rfl, OwnB.nil _ _, Below.refl _ _⟩
theorem rput_any (xs : List UInt8) (A : Option Addr) (c : Nat) (w : World) (h : kb.C w A xs.length xs) :
    Calls Try.prog 25 #[.slice A xs.length c] w fun e w' => ∃ A1 c1, e = .returned (.tuple #[.slice A1 (putR xs).length c1, .int .i64 (putE xs)]) ∧ OwnB w' w.heap.size (.slice A1 (putR xs).length c1) (putR xs) ∧ Below w.heap.size w w' := by
  unfold putR putE
  by_cases hn : xs.length ≤ 8000
  · simp only [if_pos hn]
    refine (rput_calls xs A c w h hn).mono ?_
    rintro e w' ⟨v, rfl, ho, hb⟩
    obtain ⟨A1, c1, rfl, _, _⟩ := ho.reads
    exact ⟨A1, c1, rfl, ho, hb⟩
  · simp only [if_neg hn]
    refine (rput_long xs A c w h.2.1 (by omega)).mono ?_
    rintro e w' ⟨rfl, rfl⟩
    exact ⟨none, 0, rfl, OwnB.nil _ _, Below.refl _ _⟩
theorem same_refl (xs : List UInt8) (A A' : Option Addr) (c c' : Nat) (w : World) (h : kb.C w A xs.length xs) (h' : kb.C w A' xs.length xs) :
    Calls Try.prog 27 #[.slice A xs.length c, .slice A' xs.length c'] w fun e w' => e = .returned (.bool true) ∧ w' = w := by
  refine (same_calls xs xs A A' c c' w h h').mono ?_
  rintro e w' ⟨rfl, rfl⟩
  exact ⟨by unfold sameB; simp, rfl⟩
theorem OwnL.two {W : World} {base : Nat} {u u' : Value} {xs ys : List UInt8} (h : OwnB W base u xs) (h' : OwnB W base u' ys) (hne : ApartV u u') (hb : base ≤ W.heap.size) (cs : Array Value) (hc : cs.toList = [u, u']) :
    OwnL (W.alloc (.cells cs 22)) base (.slice (some ⟨W.heap.size, 0, none⟩) 2 2) [xs, ys] := by
  have hs : cs.size = 2 * 1 := by rw [← Array.length_toList, hc]; rfl
  have ho := World.ownsRow_lit (base := base) (e := 22) (size := 1) W cs 2 hb (by unfold maxLen; omega) hs
  rw [hc] at ho
  refine ⟨[u, u'], ho, rfl, ?_, List.pairwise_pair.2 hne⟩
  intro i v zs hi hz
  match i with
  | 0 => simp at hi hz; subst hi hz; exact h.below (below_alloc (Below.refl _ _) _)
  | 1 => simp at hi hz; subst hi hz; exact h'.below (below_alloc (Below.refl _ _) _)
  | i + 2 => simp at hi
/-- What is newer lies apart. -/
theorem apart_of {W W' : World} {b : Nat} {u u' : Value} {xs ys : List UInt8} (h : OwnB W b u xs) (h' : OwnB W' W.heap.size u' ys) : ApartV u u' := by
  cases hq : u.ownBlock with
  | none => exact .inl hq
  | some q =>
    refine .inr (fun e => ?_)
    have h1 := h.lt q hq
    have h2 := h'.base_le q (by rw [← e, hq])
    omega
theorem cratePuts_long (xs : List UInt8) (A : Option Addr) (c : Nat) (w : World) (hm : xs.length ≤ 9223372036854775807) (hn : 9000 < xs.length) :
    Calls Try.prog 3 #[.slice A xs.length c] w fun e w' => e = .returned (.bool true) ∧ Below w.heap.size w w' := by
  go_enter Try.func3, Try.ntmps3
  go_wp2_with (go_at_call 19; refine (known17_calls _).mono ?_; rintro e w1 ⟨rfl, hb⟩; have HB := Aside0.mk hb; clear hb)
  go_ret
  exact ⟨rfl, HB.out⟩
set_option maxHeartbeats 2000000 in
set_option maxRecDepth 100000 in
theorem cratePuts_calls (xs : List UInt8) (A : Option Addr) (c : Nat) (w : World) (h : kb.C w A xs.length xs) (hn : xs.length ≤ 9000) :
    Calls Try.prog 3 #[.slice A xs.length c] w fun e w' => e = .returned (.bool true) ∧ Below w.heap.size w w' := by
  have H := Aside0.mk h
  clear h
  have tok1 : True := trivial
  have tok2 : True := trivial
  obtain ⟨p, hp⟩ : ∃ p, p = putR xs := ⟨_, rfl⟩
  obtain ⟨pe, hpe⟩ : ∃ pe, pe = putE xs := ⟨_, rfl⟩
  have hpl : p.length ≤ 9000 := by rw [hp]; exact putR_len xs
  have PUT := Aside0.mk (fun A c w h => put_any xs A c w h)
  have RPUT := Aside0.mk (fun A c w h => rput_any xs A c w h)
  rw [← hp, ← hpe] at PUT RPUT
  clear hp hpe
  go_enter Try.func3, Try.ntmps3
  go_wp2_with (first
    | (go_at_call 20; refine (lent_calls xs A c _ H.out (by omega)).mono ?_; rintro e w1 ⟨g, c1, rfl, hl1, hb1⟩; have HL1 := Aside0.mk hl1; have HB1 := Aside0.mk hb1; clear hl1 hb1)
    | (go_at_call 21; refine (sum_calls xs (some ⟨g, 0, none⟩) c1 _ HL1.out.reads.2).mono ?_; rintro e w' ⟨rfl, hw⟩; obtain rfl := hw.symm; clear hw)
    | (go_at_call 22; have _t := tok1; refine (PUT.out _ _ _ HL1.out.reads.2).mono ?_; rintro e w2 ⟨A2, c2, rfl, ho2, hb2⟩; have HO2 := Aside0.mk ho2; have HB2 := Aside0.mk (below_then HB1.out HB1.out.size hb2); have HL2 := Aside0.mk (HL1.out.below hb2); have HZ2 := Aside0.mk (show w1.heap.size ≤ w2.heap.size from hb2.size); clear tok1 _t ho2 hb2)
    | (go_at_call 22; refine (PUT.out _ _ _ HL2.out.reads.2).mono ?_; rintro e w3 ⟨A3, c3, rfl, ho3, hb3⟩; have HO3 := Aside0.mk ho3; have HNE := Aside0.mk (apart_of HO2.out ho3); have HP3 := Aside0.mk (HO2.out.below hb3); have HB3 := Aside0.mk (below_then HB2.out HB2.out.size hb3); have HL3 := Aside0.mk (HL2.out.below hb3); clear ho3 hb3)
    | (go_at_call 23; refine (whole_calls xs g c1 A c _ _ HL3.out (Kd.C_below H.out HB3.out) (by omega)).mono ?_; rintro e w' ⟨rfl, hw⟩; obtain rfl := hw.symm; clear hw)
    | (go_at_call 24; refine (spoil_own xs g _ c1 _ _ HL3.out.own).mono ?_; rintro e w4 ⟨rfl, ys, _, ho4, hg4⟩; have HG4 := Aside0.mk hg4; have HB4 := Aside0.mk (HB3.out.grown hg4 HB3.out.size (fun q hq => by cases hq; exact HL3.out.own.base_le g rfl)); have HLT := Aside0.mk (HL1.out.own.lt g rfl); have HO4 := Aside0.mk (HO3.out.grown hg4 (.inr (fun e => by have h1 := HO3.out.base_le g e; have h2 := HLT.out; have h3 := HZ2.out; omega))); have HP4 := Aside0.mk (HP3.out.grown hg4 (.inr (fun e => by have h1 := HP3.out.base_le g e; have h2 := HLT.out; omega))); clear ho4 hg4)
    | (go_at_call 25; refine (RPUT.out _ _ _ (Kd.C_below H.out HB4.out)).mono ?_; rintro e w5 ⟨A5, c5, rfl, ho5, hb5⟩; have HO5 := Aside0.mk (HO4.out.below hb5); have HP5 := Aside0.mk (HP4.out.below hb5); have HR5 := Aside0.mk ho5; have HB5 := Aside0.mk (below_then HB4.out HB4.out.size hb5); clear ho5 hb5)
    | (go_at_call 26; refine (rsum_calls xs A c _ (Kd.C_below H.out HB5.out) (by omega)).mono ?_; rintro e w6 ⟨rfl, hb6⟩; have HO6 := Aside0.mk (HO5.out.below hb6); have HP6 := Aside0.mk (HP5.out.below hb6); have HR6 := Aside0.mk (HR5.out.below hb6); have HB6 := Aside0.mk (below_then HB5.out HB5.out.size hb6); clear hb6)
    | (go_at_call 27; have _t := tok2; refine (same_refl p A2 A5 c2 c5 _ HP6.out.at_.2.2 HR6.out.at_.2.2).mono ?_; rintro e w' ⟨rfl, hw⟩; obtain rfl := hw.symm; clear hw tok2 _t)
    | (go_at_call 27; refine (same_refl p A3 A5 c3 c5 _ HO6.out.at_.2.2 HR6.out.at_.2.2).mono ?_; rintro e w' ⟨rfl, hw⟩; obtain rfl := hw.symm; clear hw)
    | (go_at_call 28; refine (own_calls [p, p] _ w.heap.size _ (OwnL.two (HP6.out.lower HB1.out.size) (HO6.out.lower HB2.out.size) HNE.out HB6.out.size _ rfl) (Nat.le_trans HB6.out.size (below_alloc (Below.refl _ _) _).size) (by simp) (by intro j zs hj; match j, hj with | 0, hj => (simp at hj; subst hj; omega) | 1, hj => (simp at hj; subst hj; omega) | j + 2, hj => simp at hj)).mono ?_; rintro e w7 ⟨rfl, hb⟩; have HB7 := Aside0.mk ((below_alloc HB6.out _).trans hb); clear hb)
    | (go_at_call 19; refine (known17_calls _).mono ?_; rintro e w8 ⟨rfl, hb⟩; have HB8 := Aside0.mk (below_then HB7.out HB7.out.size hb); clear hb))
  go_ret
  exact ⟨rfl, HB8.out⟩
/-- The law CratePuts, of whatever bytes. -/
theorem cratePuts_walk (w : World) (xs : List UInt8) (A : Option Addr) (c : Nat) (h : kb.C w A xs.length xs) (_hc : xs.length ≤ c) (_hb : xs.length ≤ 140737488351232) :
    Calls Try.prog 3 #[.slice A xs.length c] w fun e w' => e = .returned (.bool true) ∧ Below w.heap.size w w' := by
  by_cases hn : xs.length ≤ 9000
  · exact cratePuts_calls xs A c w h hn
  · exact cratePuts_long xs A c w h.2.1 (by omega)
end Go.Proofs.Ytahaoakolgomdaa
