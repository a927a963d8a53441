/- The walk of the law TapePlays. -/
import Derived.Test.YtahaoakolgomdaaS55
namespace Go.Proofs.Ytahaoakolgomdaa
open Go.RowKit Go.Proofs.YtahaoakolgomdaaW.PrintWords Go.Proofs.YtahaoakolgomdaaW.PrintLast Go.Proofs.YtahaoakolgomdaaW.PrintMore
set_option linter.unusedVariables false
set_option linter.unusedSimpArgs false

theorem samel9 (a : List (List UInt8)) (n m : Nat) (hn : n = a.length) (hm : m = a.length) (A B : Option Addr) (c c' : Nat) (w : World) (h : klb.C w A a.length a) (h' : klb.C w B a.length a) :
    Calls Try.prog 33 #[.slice A n c, .slice B m c'] w fun e w' => e = .returned (.bool true) ∧ Drawn0 w w' := by
  subst hn hm
  refine (samel_calls a a A B c c' w h h').mono ?_
  rintro e w' ⟨rfl, hd⟩
  have hs : sameLB a a = true := by
    unfold sameLB
    simp
  exact ⟨by rw [hs], hd⟩
theorem Has.rows9 {w0 w : World} {l : List Asr} (H : Has w0 w l) (i : Nat) {A : Option Addr} {n c : Nat} {G : List (List UInt8)} (hi : l[i]? = some (rowsA (.slice A n c) G)) : klb.C w A G.length G := by
  obtain ⟨A', c', e, _, hr⟩ := (H.rows i hi).reads
  injection e with e1 e2 e3
  subst e1
  exact hr
/-- One row of the call's own rows is written over. -/
theorem spoil_row {w0 w : World} {L : List Asr} (H : Has w0 w L) (i : Nat) {ad : Addr} {n c : Nat} {G : List (List UInt8)} (hi : L[i]? = some (rowsA (.slice (some ad) n c) G)) (k : Nat) (hk : k < G.length) (u : Value) (hu : w.cell? (ad.add k) = some u) :
    Calls Try.prog 24 #[u] w fun e w' => e = .returned (.tuple #[]) ∧ ∃ G', G'.length = G.length ∧ Has w0 w' (L.set i (rowsA (.slice (some ad) n c) G')) := by
  obtain ⟨F, ⟨vs, h1, h2, h3, h4, h5, h6⟩, h7, hgo⟩ := H.get i _ hi
  have hkv : k < vs.length := by omega
  obtain ⟨g, c', hv, hcell, hg⟩ := row_cell h1 k (vs[k]'hkv) (List.getElem?_eq_getElem hkv)
  injection hv with e1 e2 e3
  injection e1 with e1
  subst e1
  have hu' : vs[k]'hkv = u := by
    rw [show (Addr.mk g 0 none).add k = ⟨g, k, none⟩ by unfold Addr.add; split <;> simp_all] at hu
    rw [hu] at hcell
    exact (Option.some.inj hcell).symm
  have hku : vs[k]? = some u := by rw [List.getElem?_eq_getElem hkv, hu']
  have hkG : G[k]? = some (G[k]'hk) := List.getElem?_eq_getElem hk
  have ho := h3 k u _ hku hkG
  refine (spoil_calls (G[k]'hk) u 0 w ho).mono ?_
  rintro e w' ⟨rfl, ys, hl, ho', hg'⟩
  refine ⟨rfl, G.set k ys, by simp, hgo _ _ ⟨F, ⟨vs, ?_, by simp [h2], ?_, h4, h5, h6⟩, (Touch.of_grown hg').mono fun j _ e => h6 u (List.mem_of_getElem? hku) j e.symm, fun j hj => ⟨.inl hj, ?_⟩⟩⟩
  · exact own_other h1 hg' (own_type_ne h1 ho (by decide))
  · intro j u2 xs hu2 hx2
    by_cases e : j = k
    · subst e
      rw [hku] at hu2
      cases hu2
      rw [List.getElem?_set_self hk] at hx2
      cases hx2
      exact ho'
    · rw [List.getElem?_set_ne (fun h => e h.symm)] at hx2
      exact (h3 j u2 xs hu2 hx2).grown hg' (pair_ne h4 hu2 hku e)
  · exact Nat.lt_of_lt_of_le (h7 j hj).2 (Touch.of_grown hg').size
theorem Act9s.below {w w1 : World} {A : Option Addr} {l : List Act9} (h : Act9s w A l) (hb : Below w.heap.size w w1) : Act9s w1 A l :=
  ⟨h.1, fun i x hx => by obtain ⟨ad, e, h2⟩ := h.2 i x hx; exact ⟨ad, e, h2.below hb⟩⟩
theorem below_on {w w1 w2 : World} (h : Below w.heap.size w w1) (h2 : Below w1.heap.size w1 w2) : Below w.heap.size w w2 := (((Has.start w).below h).below h2).old
set_option maxHeartbeats 2000000 in
set_option maxRecDepth 100000 in
theorem tapePlays_calls (room : Int) (hr1 : 1 ≤ room) (hr2 : room ≤ 100000) (l : List Act9) (A : Option Addr) (c : Nat) (w : World) (h : Act9s w A l) (hR : Reach9 l) :
    Calls Try.prog 16 #[.int .i64 room, .slice A l.length c] w fun e w' => e = .returned (.bool true) ∧ Below w.heap.size w w' := by
  have hm : l.length ≤ 9223372036854775807 := h.1
  have H0 := Aside0.mk h
  have HR := Aside0.mk hR
  obtain ⟨N, hN⟩ : ∃ N : Nat, room.toNat = N := ⟨_, rfl⟩
  have HN := Lib.hid hN
  have hr3 : ¬ (100000 : Int) < room := by omega
  clear h hR hN
  go_enter Try.func16, Try.ntmps16
  go_wp2_with fail
  go_at_call 65
  refine (long19_calls l A c _ H0.out HR.out).mono ?_
  rintro e w1 ⟨rfl | rfl, hd⟩
  · have HD := Aside0.mk hd.below
    clear hd
    go_wp2_with (go_at_call 56; have _t := HD.out; clear _t; refine (known19_calls _).mono ?_; rintro e w20 ⟨rfl, hb⟩; have H20 := Aside0.mk (below_on HD.out hb); clear hb)
    go_ret
    exact ⟨rfl, H20.out⟩
  · have HD := Aside0.mk hd.below
    have H1 := Aside0.mk (H0.out.below hd.below)
    clear hd H0
    go_wp2_with (go_at_call 55; refine (opened_calls _ room hr1 (by omega) N HN.out).mono ?_; rintro e w2 ⟨c0, p, q, tp0, tq0, rfl, hs⟩; have H2 := Aside0.mk hs; clear hs)
    have HB0 : Aside0 (Behind w1 w2 c0 p q) := Aside0.mk (.inl ⟨tp0, tq0, _, Ts.ok_of (by simp) (by simp) (by have := HN.out; omega) (by omega) (by omega) (by simp [cat]) fits_nil, H2.out⟩)
    clear H2
    go_loopw [8] (fun i wr => ∃ k : Nat, i = .int .i64 k ∧ k ≤ l.length ∧ k ≤ 60 ∧ Aside0 (Behind w1 wr c0 p q)) (fun i _ => 60 - (intOf i).toNat)
    case atStart => exact ⟨0, rfl, Nat.zero_le _, by omega, HB0⟩
    case round =>
      clear HB0
      obtain ⟨k, rfl, hk, hk6, HBH⟩ := hrel
      by_cases hgo : k < l.length ∧ k < 60
      · obtain ⟨hlt, hlt6⟩ := hgo
        rcases HBH.out with ⟨tp, tq, t, hok, hs⟩ | ⟨s', hs⟩
        · have HS := Aside0.mk hs
          have HOK := Aside0.mk hok
          have y1 := blk_cell (HS.out.blk 2 rfl) 1
          have y3 := blk_cell (HS.out.blk 2 rfl) 3
          simp at y1 y3
          obtain ⟨x, hx⟩ : ∃ x, l[k]? = some x := ⟨_, List.getElem?_eq_getElem hlt⟩
          obtain ⟨ad, rfl, hat⟩ := H1.out.2 k x hx
          obtain ⟨hxr, hxl⟩ := HR.out k x hx
          have hat2 := hat.below HS.out.old
          obtain ⟨B, d, k1, l1, r1⟩ := hat.bytes
          obtain ⟨C, d2, k2, l2, r2⟩ := hat.rows
          have k1 := pw_cell_below HS.out.old k1
          have k2 := pw_cell_below HS.out.old k2
          have k0 := hat2.kind
          have k3 := hat2.num
          have N64 := Aside0.mk hat.n64
          have R1 := Aside0.mk r1
          have R2 := Aside0.mk r2
          rw [add_pos9 _ 1 (by omega)] at k1
          rw [add_pos9 _ 2 (by omega)] at k2
          rw [add_pos9 _ 3 (by omega)] at k3
          clear hat hat2 hx r1 r2 hs hok HBH
          go_wp2_with (go_at_call 66; refine (does_calls HS.out HOK.out x B d R1.out l1 hxr C d2 R2.out N64.out).mono ?_; rintro e w3 ⟨rfl, hb⟩; have H3 := Aside0.mk hb; clear hb; refine Aside0.out ?_)
          clear y1 y3 k0 k1 k2 k3 HS HOK
          rcases H3.out with ⟨tp2, tq2, t2, hok2, hs2⟩ | ⟨s2, hs2⟩
          · have HS2 := Aside0.mk hs2
            have HOK2 := Aside0.mk hok2
            have z1 := blk_cell (HS2.out.blk 2 rfl) 1
            have z3 := blk_cell (HS2.out.blk 2 rfl) 3
            simp at z1 z3
            obtain ⟨rs, hrs⟩ : ∃ rs, rs = if t2.lost then [] else t2.l := ⟨_, rfl⟩
            have hgl : t2.l.length ≤ 1000000 := by have h1 := cat_len t2.l; have h2 := hok2.len; have h3 := hok2.sp.len; have h4 := hok2.sp.room; omega
            have hrl : rs.length ≤ 1000000 := by
              rw [hrs]; split
              · simp
              · exact hgl
            have HGL := Lib.hid hgl
            have HRL := Lib.hid hrl
            have HFIT := Aside0.mk hok2.fit
            have HRS := Aside0.mk hrs
            clear hs2 hok2 hrs hgl hrl H3
            refine Aside0.mk ?_
            go_wp2_with (first
              | (go_at_call 64; have _t := H6.out; clear _t; refine (tlen_h H6.out 3 rfl n4 (by rw [E4.out, HRS.out])).mono ?_; rintro e w' ⟨rfl, hw⟩; obtain rfl := hw.symm; clear hw)
              | (go_at_call 33; have _t := K5.out; clear _t; refine (samel9 rs n4 n5 E4.out E5.out _ _ _ _ _ (H5.out.rows9 5 rfl) K5.out).mono ?_; rintro e w5 ⟨rfl, hd⟩; have H6 := Aside0.mk (H5.out.below hd.below); have z6 := blk_cell (H6.out.blk 2 rfl) 1; simp at z6; clear hd K5)
              | (go_at_call 61; have _t := H5.out; clear _t; refine (rrecords_h H5.out 4 rfl rs HRS.out).mono ?_; rintro e w' ⟨A5, c5, n5, rfl, e5, l5, hk5, hw⟩; obtain rfl := hw.symm; have K5 := Aside0.mk hk5; have E5 := Lib.hid e5; clear hw hk5 e5)
              | (go_at_call 62; refine (records_h HS2.out 3 rfl HGL.out HFIT.out rs HRS.out).mono ?_; rintro e w4 ⟨A4, c4, n4, rfl, e4, l4, hs⟩; have H5 : Aside0 (Has w1 w4 [spoolA p t2.sp, refA q t2.sp, pairA c0 p q (.pointer (some ⟨tp2, 0, none⟩)) (.pointer (some ⟨tq2, 0, none⟩)), tapeB 105 tp2 p t2.l t2.lost, tapeB 101 tq2 q t2.l t2.lost, rowsA (.slice A4 n4 c4) rs]) := Aside0.mk hs; have E4 := Lib.hid e4; have hn4 : n4 ≤ 1000000 := (by have := HRL.out; omega); have z4 := blk_cell (H5.out.blk 2 rfl) 3; have z5 := blk_cell (H5.out.blk 2 rfl) 1; simp at z4 z5; clear hs e4))
            go_loopw [11] (fun j wr2 => ∃ (m : Nat) (G : List (List UInt8)), j = .int .i64 m ∧ m ≤ n4 ∧ Aside0 (G.length = n4) ∧ Aside0 (Has w1 wr2 [spoolA p t2.sp, refA q t2.sp, pairA c0 p q (.pointer (some ⟨tp2, 0, none⟩)) (.pointer (some ⟨tq2, 0, none⟩)), tapeB 105 tp2 p t2.l t2.lost, tapeB 101 tq2 q t2.l t2.lost, rowsA (.slice A4 n4 c4) G])) (fun j _ => n4 - (intOf j).toNat)
            case atStart => exact ⟨0, rs, rfl, Nat.zero_le _, ⟨E4.out.symm⟩, H6⟩
            case round =>
              clear H5 H6 z1 z3 z4 z5 z6
              obtain ⟨m, G, rfl, hm4, HGn, HG⟩ := hrel
              by_cases hlt4 : m < n4
              · obtain ⟨ad2, A9, c9, rfl, q1, q2, q3⟩ := klb_get (HG.out.rows9 5 rfl) m (by rw [HGn.out]; exact hlt4)
                have Q1 := Lib.hid q1
                obtain ⟨y, hy⟩ : ∃ y, y = G.getD m [] := ⟨_, rfl⟩
                rw [← hy] at q1 q2
                have Q1 := Aside0.mk q1
                clear q3 hy
                go_wp2_with (go_at_call 24; refine (spoil_row HG.out 5 rfl m (by rw [HGn.out]; exact hlt4) _ Q1.out).mono ?_; rintro e w9 ⟨rfl, G2, hG2, hs⟩; have H9 : Aside0 (Has w1 w9 [spoolA p t2.sp, refA q t2.sp, pairA c0 p q (.pointer (some ⟨tp2, 0, none⟩)) (.pointer (some ⟨tq2, 0, none⟩)), tapeB 105 tp2 p t2.l t2.lost, tapeB 101 tq2 q t2.l t2.lost, rowsA (.slice (some ad2) n4 c4) G2]) := Aside0.mk hs; have HG2 := Aside0.mk (hG2.trans HGn.out); clear hs hG2)
                go_roundw
                case rel => exact ⟨m + 1, G2, by go_num, by omega, HG2, H9⟩
                case measure => simp [intOf]; omega
              · have HBN : Aside0 (Behind w1 _ c0 p q) := Aside0.mk (.inl ⟨tp2, tq2, t2, HOK2.out, HG.out.drop 5⟩)
                go_wp2_with fail
                go_roundw
                case rel => exact ⟨k + 1, by go_num, by omega, by omega, HBN⟩
                case measure => simp [intOf]; omega
          · have z1 := blk_cell (hs2.blk 2 rfl) 1
            have z3 := blk_cell (hs2.blk 2 rfl) 3
            simp at z1 z3
            clear hs2
            refine Aside0.mk ?_
            go_wp2_with fail
            go_roundw
            case rel => exact ⟨k + 1, by go_num, by omega, by omega, H3⟩
            case measure => simp [intOf]; omega
        · have HS := Aside0.mk hs
          have y1 := blk_cell (HS.out.blk 2 rfl) 1
          have y3 := blk_cell (HS.out.blk 2 rfl) 3
          simp at y1 y3
          clear hs HBH
          go_wp2_with (go_at_call 56; refine (known19_calls _).mono ?_; rintro e w20 ⟨rfl, hb⟩; have H20 := Aside0.mk (below_on HD.out (HS.out.none.below hb).old); clear hb)
          go_ret
          exact ⟨rfl, H20.out⟩
      · have hex : ¬ (k < l.length) ∨ (k < l.length ∧ ¬ k < 60) := by omega
        have HOLD : Aside0 (Below w1.heap.size w1 _) := Aside0.mk (HBH.out.elim (fun ⟨_, _, _, _, h⟩ => h.old) (fun ⟨_, h⟩ => h.old))
        clear hgo HBH
        rcases hex with hex | ⟨hex, hex2⟩
        all_goals
          go_wp2_with (go_at_call 56; refine (known19_calls _).mono ?_; rintro e w20 ⟨rfl, hb⟩; have H20 := Aside0.mk (below_on (below_on HD.out HOLD.out) hb); clear hb)
          go_ret
          exact ⟨rfl, H20.out⟩
set_option maxRecDepth 100000 in
theorem tapePlays_big (room : Int) (hr : 100000 < room) (l : List Act9) (A : Option Addr) (c : Nat) (w : World) (h : Act9s w A l) (hR : Reach9 l) :
    Calls Try.prog 16 #[.int .i64 room, .slice A l.length c] w fun e w' => e = .returned (.bool true) ∧ Below w.heap.size w w' := by
  have H0 := Aside0.mk h
  have HR := Aside0.mk hR
  clear h hR
  go_enter Try.func16, Try.ntmps16
  go_wp2_with fail
  go_at_call 65
  refine (long19_calls l A c _ H0.out HR.out).mono ?_
  rintro e w1 ⟨rfl | rfl, hd⟩
  all_goals
    have HD := Aside0.mk hd.below
    clear hd
    go_wp2_with (go_at_call 56; have _t := HD.out; clear _t; refine (known19_calls _).mono ?_; rintro e w20 ⟨rfl, hb⟩; have H20 := Aside0.mk (below_on HD.out hb); clear hb)
    go_ret
    exact ⟨rfl, H20.out⟩
set_option maxRecDepth 100000 in
theorem tapePlays_none (room : Int) (hr : room < 1) (l : List Act9) (A : Option Addr) (c : Nat) (w : World) (h : Act9s w A l) (hR : Reach9 l) :
    Calls Try.prog 16 #[.int .i64 room, .slice A l.length c] w fun e w' => e = .returned (.bool true) ∧ Below w.heap.size w w' := by
  have hn := fun W => new_calls W room
  have hr9 : room < 1 ∨ 1048576 < room := .inl hr
  simp only [if_pos hr9] at hn
  have HN := Aside0.mk hn
  have hr3 : ¬ (100000 : Int) < room := by omega
  have hr4 : decide ((1 : Int) ≤ room) = false := decide_eq_false (by omega)
  have H0 := Aside0.mk h
  have HR := Aside0.mk hR
  clear h hR hn hr9
  go_enter Try.func16, Try.ntmps16
  go_wp2_with fail
  go_at_call 65
  refine (long19_calls l A c _ H0.out HR.out).mono ?_
  rintro e w1 ⟨rfl | rfl, hd⟩
  · have HD := Aside0.mk hd.below
    clear hd
    go_wp2_with (go_at_call 56; have _t := HD.out; clear _t; refine (known19_calls _).mono ?_; rintro e w20 ⟨rfl, hb⟩; have H20 := Aside0.mk (below_on HD.out hb); clear hb)
    go_ret
    exact ⟨rfl, H20.out⟩
  · have HD := Aside0.mk hd.below
    clear hd
    go_wp2_with (first
      | (go_at_call 56; have _t := HX.out; clear _t; refine (known19_calls _).mono ?_; rintro e w20 ⟨rfl, hb⟩; have H20 := Aside0.mk (below_on HD.out hb); clear hb)
      | (go_at_call 38; refine (HN.out _).mono ?_; rintro e w' ⟨rfl, hw⟩; obtain rfl := hw.symm; clear hw; have HX := Aside0.mk trivial)
      | (go_at_call 55; refine (opened_no _ room (.inl hr)).mono ?_; rintro e w' ⟨rfl, hw⟩; obtain rfl := hw.symm; clear hw))
    go_ret
    exact ⟨rfl, H20.out⟩
theorem tapePlays_walk (w : World) (room : Int) (_ : (Lit.int .i64 room).wf = true) (l : List Act9) (A : Option Addr) (c : Nat) (h : Act9s w A l) (_hc : l.length ≤ c) (hR : Reach9 l) :
    Calls Try.prog 16 #[.int .i64 room, .slice A l.length c] w fun e w' => e = .returned (.bool true) ∧ Below w.heap.size w w' := by
  by_cases h1 : room < 1
  · exact tapePlays_none room h1 l A c w h hR
  · by_cases h2 : 100000 < room
    · exact tapePlays_big room h2 l A c w h hR
    · exact tapePlays_calls room (by omega) (by omega) l A c w h hR
end Go.Proofs.Ytahaoakolgomdaa
