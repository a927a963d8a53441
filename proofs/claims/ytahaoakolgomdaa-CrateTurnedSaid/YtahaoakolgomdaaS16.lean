/- The walk of the law CrateTurned. -/
import Derived.Test.YtahaoakolgomdaaS15
import Derived.Test.YtahaoakolgomdaaM7
namespace Go.Proofs.Ytahaoakolgomdaa
open Go.RowKit Go.Proofs.YtahaoakolgomdaaW.PrintWords Go.Proofs.YtahaoakolgomdaaW.PrintLast Go.Proofs.YtahaoakolgomdaaW.PrintMore
set_option linter.unusedVariables false
set_option linter.unusedSimpArgs false

theorem mod_uint' (cut : Int) (N : Nat) (h0 : 0 < N) (hN : N ≤ 1000000) : ∃ kk : Nat, kk < N ∧ wrap64 ((IntKind.u64.wrap cut).tmod (N : Int)) = (kk : Int) := by
  obtain ⟨kk, h1, h2⟩ := mod_uint cut (N - 1) (by omega)
  exact ⟨kk, by omega, by rw [← h2]; congr 2; omega⟩
theorem flip_enc (xs : List UInt8) (k q : Nat) : Value.int .u8 (bits .xor .u8 (by8 xs k) ((2 : Int) ^ q % 256)) = enc8 (flip (xs.getD k 0) q) := by
  unfold enc8 flip by8
  rw [← bits_xor8, UInt8.toNat_ofNat']
  congr 2
theorem OwnI.grown {w w1 : World} {base : Nat} {v : Value} {xs : List Int} (h : OwnI w base v xs) {row : Option Nat} (hg : w.grownBy w1 row) (hne : v.ownBlock = none ∨ v.ownBlock ≠ row) : OwnI w1 base v xs := own_other h hg hne
theorem OwnI.drewN {w : World} {base : Nat} {v : Value} {xs : List Int} (h : OwnI w base v xs) (n : Nat) : OwnI (w.drewN n) base v xs := pw_own_drewN h n
theorem OwnI.apart {w : World} {base b' : Nat} {v v' : Value} {xs : List Int} {ys : List UInt8} (h : OwnI w base v xs) (h' : OwnB w b' v' ys) : v.ownBlock = none ∨ v.ownBlock ≠ v'.ownBlock := own_type_ne h h' (by decide)
theorem nought_or (M : Nat) : M = 0 ∨ (0 < M ∧ ((M : Int) == 0) = false) := by
  rcases Nat.eq_zero_or_pos M with h | h
  · exact .inl h
  · exact .inr ⟨h, by rw [beq_eq_false_iff_ne]; omega⟩
set_option maxHeartbeats 2000000 in
set_option maxRecDepth 100000 in
theorem crateTurned_calls (l : List (List UInt8)) (A : Option Addr) (c : Nat) (which at_ : Int) (w : World) (h : klb.C w A l.length l) :
    Calls Try.prog 6 #[.slice A l.length c, .int .i64 which, .int .i64 at_] w fun e w' => e = .returned (.bool true) ∧ Below w.heap.size w w' := by
  have H := Aside0.mk h
  clear h
  go_enter Try.func6, Try.ntmps6
  go_wp2_with (first
    | (go_at_call 34; refine (row_form l A c _ H.out).mono ?_; rintro e w1 ⟨G, A1, N, c1, A2, M, c2, A3, c3, rfl, hN, hM, hc1, hc2, ho, hg, he, hf, hn20, hb⟩; have HN := Lib.hid hN; have HM := Lib.hid hM; have HO1 := Aside0.mk ho; have HG1 := Aside0.mk hg; have HE1 := Aside0.mk he; have HF := Aside0.mk hf; have HB1 := Aside0.mk hb; have hm20 : M ≤ 20000 := (by have := cat_len G; omega); clear hN hM ho hg he hf hb; (obtain hm0 | ⟨hm0, hz⟩ := nought_or M))
    | (go_at_call 19; refine (known17_calls _).mono ?_; rintro e w2 ⟨rfl, hb⟩; have HB9 := Aside0.mk (below_then HB1.out HB1.out.size hb); clear hb))
  · go_ret
    exact ⟨rfl, HB9.out⟩
  · obtain ⟨kk, hkk, ekk⟩ := mod_uint' which M hm0 (by omega)
    rw [ekk]
    clear ekk
    have hkG : kk < G.length := by rw [← HM.out]; exact hkk
    obtain ⟨x, hx⟩ : ∃ x, G[kk]? = some x := ⟨_, List.getElem?_eq_getElem hkG⟩
    have hx8 : x.length ≤ 8000 := HF.out x (List.mem_of_getElem? hx)
    have hgx : G.getD kk [] = x := by rw [List.getD_eq_getElem?_getD, hx]; rfl
    obtain ⟨st, hst⟩ : ∃ st, st = (cat (G.take kk)).length := ⟨_, rfl⟩
    have he1 : (cat (G.take (kk + 1))).length = st + x.length + 7 := by
      rw [List.take_succ_eq_append_getElem hkG, cat_snoc, List.length_append, putS_length, hst]
      have : G[kk] = x := by rw [List.getElem?_eq_getElem hkG] at hx; exact Option.some.inj hx
      rw [this]; omega
    have hle : st + x.length + 7 ≤ N := by
      rw [HN.out, ← he1]
      conv => rhs; rw [← List.take_append_drop (kk + 1) G, cat_append, List.length_append]
      omega
    obtain ⟨ade, rfl, ke⟩ := ends_at HE1.out HM.out kk hkk
    rw [he1] at ke
    obtain ⟨adg, Ag, cg, q1, kg, _, _⟩ := klb_get (HG1.out.c HB1.out) kk hkG
    subst q1
    rw [hgx] at kg
    obtain ⟨g, q1, hgb, cur, hcur, hx1, hx2⟩ := HO1.out.form (by rw [← HN.out]; omega)
    subst q1
    clear hx1 hx2
    obtain ⟨r, hr, er⟩ := mod_uint' at_ (8 * (x.length + 4)) (by omega) (by omega)
    rw [Int.natCast_mul, Int.natCast_add] at er
    have er' : wrap64 ((IntKind.u64.wrap at_).tmod (8 * ((x.length : Int) + 4))) = (r : Int) := er
    obtain ⟨s3, hs3⟩ : ∃ s3, s3 = st + 3 := ⟨_, rfl⟩
    obtain ⟨e1, hee⟩ : ∃ e1, e1 = st + x.length + 7 := ⟨_, rfl⟩
    rw [← hee] at ke hle
    obtain ⟨xl, hxl⟩ : ∃ xl, xl = x.length := ⟨_, rfl⟩
    rw [← hxl] at kg er' hr hx8 hee
    obtain ⟨p, hp⟩ : ∃ p, p = 8 * s3 + r := ⟨_, rfl⟩
    have hpp : (8 * (s3 : Int) + (r : Int)) = (p : Int) := by omega
    have hp8 : p / 8 < N := by omega
    have HX := Aside0.mk hx
    have HE1' := Aside0.mk he1
    have HXL := Lib.hid hxl
    have HST := Lib.hid hst
    have HS3 := Lib.hid hs3
    have HP := Lib.hid hp
    have W1 := Lib.hid (show IntKind.i64.wrap ((e1 : Int) - (xl : Int)) = ((s3 + 4 : Nat) : Int) by rw [IntKind.wrap_i64]; omega)
    have W2 := Lib.hid (show IntKind.i64.wrap (((s3 + 4 : Nat) : Int) - 4) = (s3 : Int) by rw [IntKind.wrap_i64]; omega)
    have i1 : (kk : Int) < (M : Int) := by omega
    have hs3n : s3 ≤ 20000 := by omega
    have hpn : p ≤ 400000 := by omega
    obtain ⟨_, q1, k1⟩ := kb_get HO1.out.at_.2.2 (p / 8) (by rw [← HN.out]; exact hp8)
    cases q1
    rw [add_plain] at k1
    have k2 : w1.frozen? ⟨g, p / 8, none⟩ = false := blk_frozen hcur _
    have l1 := by8_lo (cat G) (p / 8)
    have l2 := by8_hi (cat G) (p / 8)
    clear hx hgx hst he1 er hs3 hee hxl hp hkG hcur
    have w1' := W1.out
    have w2' := W2.out
    go_quiet (fail)
    clear w1' w2'
    have HS2 : OwnB ((w1.drewN nq).setCell ⟨g, p / 8, none⟩ (enc8 (flip ((cat G).getD (p / 8) 0) (p % 8)))) w.heap.size (.slice (some ⟨g, 0, none⟩) N c1) (flipAt (cat G) p) := OwnB.set_ (w := w1.drewN nq) (k := p / 8) HO1.out hp8 (flip ((cat G).getD (p / 8) 0) (p % 8))
    rw [← flip_enc] at HS2
    have HR2 := Aside0.mk HS2.at_.2.2
    clear HS2
    have ALLC := Aside0.mk (fun hA hK => all_n (flipAt (cat G) p) N (by rw [flipAt_length]; exact HN.out) (some ⟨g, 0, none⟩) c1 _ HR2.out hc1 (by omega) (G.take kk, (st : Int), 171) hA kk hK)
    have HG2 := Aside0.mk (fun u => OutL.grown (w := w1.drewN nq) HG1.out (grown_set (w1.drewN nq) g (p / 8) u) (own_type_ne HG1.out.choose_spec.1 HO1.out (by decide)))
    have HB2 := Aside0.mk (fun u => (pw_below_drewN HB1.out nq).setCell (p := ⟨g, p / 8, none⟩) hgb u)
    have HA := Aside0.mk (show allS (flipAt (cat G) p) = (G.take kk, (st : Int), 171) by
      have := allS_turned G HF.out kk x HX.out r (by rw [← HXL.out]; exact hr)
      rw [← HST.out, ← HS3.out, ← HP.out] at this
      exact this)
    have HTK := Lib.hid (show kk = (G.take kk).length by rw [List.length_take, ← HM.out]; omega)
    have hk9 : ∀ W : World, (Instr.slice 35 (.slice (some adg) M c2) none (some (.int .i64 (kk : Int))) none).run Try.prog W = .ok (.slice (some adg) kk c2) W := cut_room35 (some adg) M c2 kk (by omega)
    rcases Nat.eq_zero_or_pos kk with hk0 | hk0
    · have hst0 : st = 0 := by rw [HST.out, hk0]; rfl
      have dk : decide (0 < kk) = false := by simp; omega
      have HA := Aside0.mk (show allS (flipAt (cat G) p) = (G.take kk, (0 : Int), 171) by rw [HA.out, hst0]; rfl)
      have ALLC := Aside0.mk (fun hA hK => all_n (flipAt (cat G) p) N (by rw [flipAt_length]; exact HN.out) (some ⟨g, 0, none⟩) c1 _ HR2.out hc1 (by omega) (G.take kk, (0 : Int), 171) hA kk hK)
      clear hk0 hst0
      go_wp2_with (first
        | (go_at_call 31; refine (ALLC.out HA.out HTK.out).mono ?_; rintro e w3 ⟨A7, c7, rfl, ho7, hb7⟩; have HB3 := Aside0.mk (below_then (HB2.out _) (HB2.out _).size hb7); have HG3 := Aside0.mk ((HG2.out _).below hb7); have HL7 := Aside0.mk ho7; clear ho7 hb7)
        | (go_at_call 33; refine (samel_n (G.take kk) kk HTK.out A7 (some adg) c7 c2 _ HL7.out.c (Kd.C_take (HG3.out.c HB3.out) (by rw [← HM.out]; omega))).mono ?_; rintro e w4 ⟨rfl, hd⟩; have HB4 := Aside0.mk (below_then HB3.out HB3.out.size hd.below); clear hd)
        | (go_at_call 19; refine (known17_calls _).mono ?_; rintro e w5 ⟨rfl, hb⟩; have HB9 := Aside0.mk (below_then HB4.out HB4.out.size hb); clear hb))
      go_ret
      exact ⟨rfl, HB9.out⟩
    · have HE2 : ∀ u, OwnI ((w1.drewN nq).setCell ⟨g, p / 8, none⟩ u) w.heap.size (.slice (some ade) M c3) (endsOf G) := fun u => (HE1.out.drewN nq).grown (grown_set (w1.drewN nq) g (p / 8) u) (HE1.out.apart HO1.out)
      have kp : ∀ u, ((w1.drewN nq).setCell ⟨g, p / 8, none⟩ u).cell? (ade.add (kk - 1)) = some (.int .i64 (st : Int)) := fun u => by
        obtain ⟨_, q1, kp⟩ := ends_at (HE2 u) HM.out (kk - 1) (by omega)
        cases q1
        rwa [show kk - 1 + 1 = kk by omega, ← HST.out] at kp
      clear HE2
      have dk : decide (0 < kk) = true := by simpa using hk0
      have tn : ((kk : Int) - 1).toNat = kk - 1 := by omega
      have i2 : (kk : Int) - 1 < (M : Int) := by omega
      have i3 : 0 ≤ (kk : Int) - 1 := by omega
      go_wp2_with (first
        | (go_at_call 31; refine (ALLC.out HA.out HTK.out).mono ?_; rintro e w3 ⟨A7, c7, rfl, ho7, hb7⟩; have HB3 := Aside0.mk (below_then (HB2.out _) (HB2.out _).size hb7); have HG3 := Aside0.mk ((HG2.out _).below hb7); have HL7 := Aside0.mk ho7; clear ho7 hb7)
        | (go_at_call 33; refine (samel_n (G.take kk) kk HTK.out A7 (some adg) c7 c2 _ HL7.out.c (Kd.C_take (HG3.out.c HB3.out) (by rw [← HM.out]; omega))).mono ?_; rintro e w4 ⟨rfl, hd⟩; have HB4 := Aside0.mk (below_then HB3.out HB3.out.size hd.below); clear hd)
        | (go_at_call 19; refine (known17_calls _).mono ?_; rintro e w5 ⟨rfl, hb⟩; have HB9 := Aside0.mk (below_then HB4.out HB4.out.size hb); clear hb))
      go_ret
      exact ⟨rfl, HB9.out⟩
theorem crateTurned_walk (w : World) (l : List (List UInt8)) (A : Option Addr) (c : Nat) (h : klb.C w A l.length l) (_hc : l.length ≤ c) (which : Int) (_ : (Lit.int .i64 which).wf = true) (at_ : Int) (_ : (Lit.int .i64 at_).wf = true) :
    Calls Try.prog 6 #[.slice A l.length c, .int .i64 which, .int .i64 at_] w fun e w' => e = .returned (.bool true) ∧ Below w.heap.size w w' := crateTurned_calls l A c which at_ w h
end Go.Proofs.Ytahaoakolgomdaa
