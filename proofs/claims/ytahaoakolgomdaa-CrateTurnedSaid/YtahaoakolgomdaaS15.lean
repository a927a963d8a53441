/- The walk of the law CrateBack. -/
import Derived.Test.YtahaoakolgomdaaS13
import Derived.Test.YtahaoakolgomdaaS14
namespace Go.Proofs.Ytahaoakolgomdaa
open Go.RowKit Go.Proofs.YtahaoakolgomdaaW.PrintWords Go.Proofs.YtahaoakolgomdaaW.PrintLast Go.Proofs.YtahaoakolgomdaaW.PrintMore
set_option linter.unusedVariables false
set_option linter.unusedSimpArgs false

/-- x[:m] of a row of rows. -/
theorem cut_room35 (A : Option Addr) (n c m : Nat) (hm : m ≤ c) (W : World) : (Instr.slice 35 (.slice A n c) none (some (.int .i64 (m : Int))) none).run Try.prog W = .ok (.slice A m c) W := by
  obtain ⟨i0, hi, _, hsz, _⟩ := info_parts info22
  have hel : Try.prog.elem 35 = 22 := by simp [Program.elem, Try.underlying35]
  have hu : Try.prog.underlying 35 = some (.slice (Try.prog.elem 35)) := by rw [hel]; exact Try.underlying35
  have ha : (A.map fun x => x.add 0) = A := by cases A <;> simp [Addr.add]
  rw [run_slice_h W 35 A n c hu .i64 (m : Int) (by omega) (by omega), hel]
  simp [sizeOf, typeInfo, hi, hsz, sliced, Result.andThen, ha]
theorem row_form (l : List (List UInt8)) (A : Option Addr) (c : Nat) (w : World) (h : klb.C w A l.length l) :
    Calls Try.prog 34 #[.slice A l.length c] w fun e w' => ∃ (G : List (List UInt8)) (A1 : Option Addr) (N c1 : Nat) (A2 : Option Addr) (M c2 : Nat) (A3 : Option Addr) (c3 : Nat),
      e = .returned (.tuple #[.slice A1 N c1, .slice A2 M c2, .slice A3 M c3]) ∧ N = (cat G).length ∧ M = G.length ∧ N ≤ c1 ∧ M ≤ c2 ∧ OwnB w' w.heap.size (.slice A1 N c1) (cat G) ∧ OutL w w' w.heap.size (.slice A2 M c2) G ∧ OwnI w' w.heap.size (.slice A3 M c3) (endsOf G) ∧ fits G ∧ N ≤ 20000 ∧ Below w.heap.size w w' := by
  refine (row_calls l A c w h).mono ?_
  rintro e w' ⟨G, v1, v2, v3, rfl, ho, hg, he, hf, hn, hb⟩
  obtain ⟨A1, c1, rfl, h1, _⟩ := ho.reads
  obtain ⟨A2, c2, rfl, h2, _⟩ := hg.reads hb
  obtain ⟨A3, c3, e3⟩ := own_slice he
  rw [endsOf_len] at e3
  subst e3
  exact ⟨G, A1, _, c1, A2, _, c2, A3, c3, rfl, rfl, rfl, h1, h2, ho, hg, he, hf, hn, hb⟩
theorem ends_at {w : World} {base : Nat} {A : Option Addr} {M c : Nat} {G : List (List UInt8)} (h : OwnI w base (.slice A M c) (endsOf G)) (hM : M = G.length) (i : Nat) (hi : i < M) :
    ∃ ad, A = some ad ∧ w.cell? (ad.add i) = some (.int .i64 ((cat (G.take (i + 1))).length : Int)) := by
  obtain ⟨A', c', e, hr⟩ := own_reads h
  injection e with e1 e2 e3
  subst e1
  rw [endsOf_len, ← hM] at hr
  obtain ⟨ad, e, hc⟩ := hr.at_ (i : Int) (by omega) (by omega)
  refine ⟨ad, e, ?_⟩
  rw [Int.toNat_natCast] at hc
  rw [hc]
  congr 2
  unfold rd endsOf
  rw [Int.toNat_natCast, List.getD_eq_getElem?_getD, List.getElem?_map, List.getElem?_range (by omega)]; rfl
theorem copy_n (xs : List UInt8) (n : Nat) (hn : n = xs.length) (A : Option Addr) (c : Nat) (w : World) (h : kb.C w A xs.length xs) (hl : n ≤ 1000000) :
    Calls Try.prog 35 #[.slice A n c] w fun e w' => ∃ A1 c1, e = .returned (.slice A1 n c1) ∧ OwnB w' w.heap.size (.slice A1 n c1) xs ∧ Below w.heap.size w w' := by
  subst hn
  refine (copy_calls xs A c w h (by omega)).mono ?_
  rintro e w' ⟨v, rfl, ho, hb⟩
  obtain ⟨A1, c1, rfl, _, _⟩ := ho.reads
  exact ⟨A1, c1, rfl, ho, hb⟩
theorem all_n (xs : List UInt8) (n : Nat) (hn : n = xs.length) (A : Option Addr) (c : Nat) (w : World) (h : kb.C w A xs.length xs) (hc : n ≤ c) (hl : n ≤ 1000000) (r : List (List UInt8) × Int × Int) (hr : allS xs = r) (m : Nat) (hm : m = r.1.length) :
    Calls Try.prog 31 #[.slice A n c] w fun e w' => ∃ A1 c1, e = .returned (.tuple #[.slice A1 m c1, .int .i64 r.2.1, .int .i64 r.2.2]) ∧ OwnL w' w.heap.size (.slice A1 m c1) r.1 ∧ Below w.heap.size w w' := by
  subst hn hr hm
  exact all_form 31 _ w _ (all_calls xs A c w h hc (by omega))
theorem samel_n (a : List (List UInt8)) (n : Nat) (hn : n = a.length) (A B : Option Addr) (c c' : Nat) (w : World) (h : klb.C w A a.length a) (h' : klb.C w B a.length a) :
    Calls Try.prog 33 #[.slice A n c, .slice B n c'] w fun e w' => e = .returned (.bool true) ∧ Drawn0 w w' := by
  subst hn
  exact samel_refl a A B c c' w h h'
theorem OwnL.c {w : World} {b n c : Nat} {A : Option Addr} {xss : List (List UInt8)} (h : OwnL w b (.slice A n c) xss) : klb.C w A xss.length xss := h.at_.2
theorem OutL.c {w0 w : World} {b n c : Nat} {A : Option Addr} {xss : List (List UInt8)} (h : OutL w0 w b (.slice A n c) xss) (hb : Below w0.heap.size w0 w) : klb.C w A xss.length xss := by
  obtain ⟨A', c', e, _, hr⟩ := h.reads hb
  injection e with e1 e2 e3
  subst e1
  exact hr
theorem mod_uint (cut : Int) (N : Nat) (hN : N ≤ 1000000) : ∃ kk : Nat, kk ≤ N ∧ wrap64 ((IntKind.u64.wrap cut).tmod ((N : Int) + 1)) = (kk : Int) := by
  have hw : IntKind.u64.wrap cut = cut % 18446744073709551616 := by simp [IntKind.wrap, IntKind.bits, IntKind.signed]
  have h0 : 0 ≤ IntKind.u64.wrap cut := by rw [hw]; omega
  rw [Int.tmod_eq_emod_of_nonneg h0]
  generalize IntKind.u64.wrap cut = u at *
  have h1 : 0 ≤ u % ((N : Int) + 1) := Int.emod_nonneg _ (by omega)
  have h2 : u % ((N : Int) + 1) < (N : Int) + 1 := Int.emod_lt_of_pos _ (by omega)
  refine ⟨(u % ((N : Int) + 1)).toNat, by omega, ?_⟩
  unfold wrap64; omega
theorem crateBack_long (l : List (List UInt8)) (A : Option Addr) (c : Nat) (ms : List UInt8) (B : Option Addr) (c' : Nat) (cut : Int) (w : World) (hm : ms.length ≤ 9223372036854775807) (hn : 9000 < ms.length) :
    Calls Try.prog 5 #[.slice A l.length c, .slice B ms.length c', .int .i64 cut] w fun e w' => e = .returned (.bool true) ∧ Below w.heap.size w w' := by
  go_enter Try.func5, Try.ntmps5
  go_wp2_with (go_at_call 19; refine (known17_calls _).mono ?_; rintro e w1 ⟨rfl, hb⟩; have HB := Aside0.mk hb; clear hb)
  go_ret
  exact ⟨rfl, HB.out⟩
set_option maxHeartbeats 2000000 in
set_option maxRecDepth 100000 in
theorem crateBack_calls (l : List (List UInt8)) (A : Option Addr) (c : Nat) (ms : List UInt8) (B : Option Addr) (c' : Nat) (cut : Int) (w : World) (h : klb.C w A l.length l) (h' : kb.C w B ms.length ms) (hn : ms.length ≤ 9000) :
    Calls Try.prog 5 #[.slice A l.length c, .slice B ms.length c', .int .i64 cut] w fun e w' => e = .returned (.bool true) ∧ Below w.heap.size w w' := by
  have H := Aside0.mk h
  have H' := Aside0.mk h'
  clear h h'
  have tok1 : True := trivial
  have tok2 : True := trivial
  have tok3 : True := trivial
  go_enter Try.func5, Try.ntmps5
  go_wp2_with (first
    | (go_at_call 34; refine (row_form l A c _ H.out).mono ?_; rintro e w1 ⟨G, A1, N, c1, A2, M, c2, A3, c3, rfl, hN, hM, hc1, hc2, ho, hg, he, hf, hn20, hb⟩; have HN := Lib.hid hN; have HM := Lib.hid hM; have HO1 := Aside0.mk ho; have HG1 := Aside0.mk hg; have HE1 := Aside0.mk he; have HF := Aside0.mk hf; have HB1 := Aside0.mk hb; have HM2 := Lib.hid (show M ≤ 20000 by have := cat_len G; omega); clear hN hM ho hg he hf hb)
    | (go_at_call 35; refine (copy_n (cat G) N HN.out A1 c1 _ HO1.out.at_.2.2 (by omega)).mono ?_; rintro e w2 ⟨A4, c4, rfl, ho2, hb2⟩; have HX2 := Aside0.mk ho2; have HC2 := Aside0.mk hb2; have HB2 := Aside0.mk (below_then HB1.out HB1.out.size hb2); have HZ2 := Aside0.mk (show w1.heap.size ≤ w2.heap.size from hb2.size); clear ho2 hb2)
    | (at_builtin; refine app_bytes w1.heap.size rfl (.tmp 32) (.tmp 33) rfl (.slice A4 N c4) (cat G) [0] (cat G ++ [0]) rfl (some ⟨w2.heap.size, 0, none⟩) 1 1 rfl rfl ?o1 ?r1 ?b1 ?l1 ?_; (case o1 => exact HX2.out.below (below_alloc (Below.refl _ _) _)); (case r1 => exact lit_reads w2 [0] _ rfl (by simp)); (case b1 => exact Nat.le_trans HZ2.out (below_alloc (Below.refl _ _) _).size); (case l1 => have := HN.out; omega); intro v3 w3 ho3 hg3 hat3; have HX3 := Aside0.mk ho3; have HBX3 := Aside0.mk (show Below w1.heap.size w2 w3 from ((Below.refl _ _).alloc HZ2.out _).grown hg3 (Nat.le_trans HZ2.out (below_alloc (Below.refl _ _) _).size) (fun q hq => HX2.out.base_le q hq)); clear ho3 hg3 hat3)
    | (at_builtin; go_loud (refine app_bytes w1.heap.size rfl (.tmp 35) (.tmp 36) rfl v3 (cat G ++ [0]) ms (cat G ++ 0 :: ms) (by simp) B ms.length c' rfl rfl HX3.out ?r2 (Nat.le_trans HZ2.out HBX3.out.size) ?l2 ?_; (case r2 => exact Kd.C_below H'.out (HB2.out.trans (HBX3.out.mono HB1.out.size))); (case l2 => have := HN.out; simp; omega); intro v4 w4 ho4 hg4 hat4; have HBX4 := Aside0.mk (HBX3.out.grown hg4 (Nat.le_trans HZ2.out HBX3.out.size) (fun q hq => HX3.out.base_le q hq)); obtain ⟨A5, c5, rfl, hc5, _⟩ := ho4.reads; obtain ⟨L, hL⟩ : ∃ L, L = (cat G ++ 0 :: ms).length := ⟨_, rfl⟩; rw [← hL] at ho4 hc5 ⊢; have HL := Lib.hid hL; have hL2 : L ≤ 40000 := (by rw [hL]; have := HN.out; simp; omega); have HX4 := Aside0.mk ho4; have HC4 := Aside0.mk (HC2.out.trans HBX4.out); clear hL ho4 hg4 hat4))
    | (go_at_call 31; have _t := tok1; refine (all_n (cat G ++ 0 :: ms) L HL.out A5 c5 _ HX4.out.at_.2.2 hc5 (by omega) (G, (N : Int), 0) (by rw [HN.out]; exact allS_nought G ms HF.out) M HM.out).mono ?_; rintro e w5 ⟨A6, c6, rfl, ho5, hb5⟩; have HC5 := Aside0.mk (below_then HC4.out HC4.out.size hb5); have HL5 := Aside0.mk ho5; clear tok1 _t ho5 hb5)
    | (go_at_call 33; have _t := tok2; refine (samel_n G M HM.out A6 A2 c6 c2 _ HL5.out.c ((HG1.out.below HC5.out).c (HB1.out.trans (HC5.out.mono HB1.out.size)))).mono ?_; rintro e w6 ⟨rfl, hd⟩; have HC6 := Aside0.mk (below_then HC5.out HC5.out.size hd.below); clear tok2 _t hd))
  obtain ⟨kk, hkk, ekk⟩ := mod_uint cut N (by omega)
  rw [ekk]
  clear ekk
  go_loop [15, 16] (fun i t => ∃ n : Nat, i = .int .i64 n ∧ n ≤ M ∧ t = .int .i64 ((cat (G.take n)).length : Int) ∧ (cat (G.take n)).length ≤ kk) (fun i _ => M - (intOf i).toNat)
  case atStart => exact ⟨0, rfl, Nat.zero_le _, rfl, Nat.zero_le _⟩
  case round =>
    obtain ⟨n, rfl, hn1, rfl, hto⟩ := hrel
    obtain ⟨e0, he0⟩ : ∃ e0, e0 = (cat (G.take n)).length := ⟨_, rfl⟩
    obtain ⟨e1, he1⟩ : ∃ e1, e1 = (cat (G.take (n + 1))).length := ⟨_, rfl⟩
    have hm20 := HM2.out
    rw [← he0] at hto ⊢
    by_cases hgo : n < M ∧ e1 ≤ kk
    · obtain ⟨hnM, hek⟩ := hgo
      obtain ⟨ad, rfl, k1⟩ := ends_at (show OwnI w6 w.heap.size (.slice A3 M c3) (endsOf G) from pw_own_below HE1.out HC6.out) HM.out n hnM
      rw [← he1] at k1
      have HE := Lib.hid he1
      clear he0 he1
      go_wp2
      go_round
      case rel => exact ⟨n + 1, by go_num, by omega, by rw [HE.out], by rw [← HE.out]; exact hek⟩
      case measure => simp [intOf]; omega
    · have HA := Aside0.mk (show allS ((cat G).take kk) = (G.take n, (e0 : Int), if e0 = kk then 0 else 171) by
        rw [he0]; exact allS_take G HF.out n kk (by rw [← HM.out]; exact hn1) (by rw [← he0]; exact hto) (fun h => by rw [← HM.out] at h; rw [← he1]; omega) (by rw [← HN.out]; exact hkk))
      have HTK := Lib.hid (show n = (G.take n).length by rw [List.length_take, ← HM.out]; omega)
      have hk8 : ∀ W : World, (Instr.slice 22 (.slice A1 N c1) none (some (.int .i64 (kk : Int))) none).run Try.prog W = .ok (.slice A1 kk c1) W := cut_room A1 N c1 kk (by omega)
      have hk9 : ∀ W : World, (Instr.slice 35 (.slice A2 M c2) none (some (.int .i64 (n : Int))) none).run Try.prog W = .ok (.slice A2 n c2) W := cut_room35 A2 M c2 n (by omega)
      have HKL := Lib.hid (show kk = ((cat G).take kk).length by rw [List.length_take, ← HN.out]; omega)
      obtain ⟨er, her⟩ : ∃ er : Int, er = if e0 = kk then 0 else 171 := ⟨_, rfl⟩
      have HER := Lib.hid her
      rw [← her] at HA
      have hcmp : (er = 0 ∧ ((e0 : Int) == (kk : Int)) = true) ∨ (er = 171 ∧ ((e0 : Int) == (kk : Int)) = false) := by
        by_cases e : e0 = kk
        · exact .inl ⟨by rw [her, if_pos e], by rw [e]; simp⟩
        · exact .inr ⟨by rw [her, if_neg e], by rw [beq_eq_false_iff_ne]; omega⟩
      by_cases hnM : n < M
      · have hek : kk < e1 := by omega
        obtain ⟨ad, rfl, k1⟩ := ends_at (show OwnI w6 w.heap.size (.slice A3 M c3) (endsOf G) from pw_own_below HE1.out HC6.out) HM.out n hnM
        rw [← he1] at k1
        clear he0 he1 hgo her HER
        rcases hcmp with ⟨rfl, hcm⟩ | ⟨rfl, hcm⟩
        all_goals go_wp2_with (first
          | (go_at_call 31; refine (all_n ((cat G).take kk) kk HKL.out A1 c1 _ (kb_take (HO1.out.below HC6.out).at_.2.2 kk (by rw [← HN.out]; exact hkk)) (by omega) (by omega) _ HA.out n HTK.out).mono ?_; rintro e w7 ⟨A7, c7, rfl, ho7, hb7⟩; have HC7 := Aside0.mk (below_then HC6.out HC6.out.size hb7); have HL7 := Aside0.mk ho7; clear ho7 hb7)
          | (go_at_call 33; refine (samel_n (G.take n) n HTK.out A7 A2 c7 c2 _ HL7.out.c (Kd.C_take ((HG1.out.below HC7.out).c (HB1.out.trans (HC7.out.mono HB1.out.size))) (by rw [← HM.out]; exact hn1))).mono ?_; rintro e w8 ⟨rfl, hd⟩; have HC8 := Aside0.mk (below_then HC7.out HC7.out.size hd.below); clear hd)
          | (go_at_call 19; refine (known17_calls _).mono ?_; rintro e w9 ⟨rfl, hb⟩; have HB9 := Aside0.mk (below_then (HB1.out.trans (HC8.out.mono HB1.out.size)) (Nat.le_trans HB1.out.size HC8.out.size) hb); clear hb))
        all_goals (go_ret; exact ⟨rfl, HB9.out⟩)
      · clear he0 he1 hgo her HER
        rcases hcmp with ⟨rfl, hcm⟩ | ⟨rfl, hcm⟩
        all_goals go_wp2_with (first
          | (go_at_call 31; refine (all_n ((cat G).take kk) kk HKL.out A1 c1 _ (kb_take (HO1.out.below HC6.out).at_.2.2 kk (by rw [← HN.out]; exact hkk)) (by omega) (by omega) _ HA.out n HTK.out).mono ?_; rintro e w7 ⟨A7, c7, rfl, ho7, hb7⟩; have HC7 := Aside0.mk (below_then HC6.out HC6.out.size hb7); have HL7 := Aside0.mk ho7; clear ho7 hb7)
          | (go_at_call 33; refine (samel_n (G.take n) n HTK.out A7 A2 c7 c2 _ HL7.out.c (Kd.C_take ((HG1.out.below HC7.out).c (HB1.out.trans (HC7.out.mono HB1.out.size))) (by rw [← HM.out]; exact hn1))).mono ?_; rintro e w8 ⟨rfl, hd⟩; have HC8 := Aside0.mk (below_then HC7.out HC7.out.size hd.below); clear hd)
          | (go_at_call 19; refine (known17_calls _).mono ?_; rintro e w9 ⟨rfl, hb⟩; have HB9 := Aside0.mk (below_then (HB1.out.trans (HC8.out.mono HB1.out.size)) (Nat.le_trans HB1.out.size HC8.out.size) hb); clear hb))
        all_goals (go_ret; exact ⟨rfl, HB9.out⟩)
theorem crateBack_walk (w : World) (l : List (List UInt8)) (A : Option Addr) (c : Nat) (h : klb.C w A l.length l) (_hc : l.length ≤ c) (ms : List UInt8) (B : Option Addr) (c' : Nat) (h' : kb.C w B ms.length ms) (_hc' : ms.length ≤ c') (_hb : ms.length ≤ 140737488351232) (cut : Int) (_ : (Lit.int .i64 cut).wf = true) :
    Calls Try.prog 5 #[.slice A l.length c, .slice B ms.length c', .int .i64 cut] w fun e w' => e = .returned (.bool true) ∧ Below w.heap.size w w' := by
  by_cases hn : ms.length ≤ 9000
  · exact crateBack_calls l A c ms B c' cut w h h' hn
  · exact crateBack_long l A c ms B c' cut w h'.2.1 (by omega)
end Go.Proofs.Ytahaoakolgomdaa
