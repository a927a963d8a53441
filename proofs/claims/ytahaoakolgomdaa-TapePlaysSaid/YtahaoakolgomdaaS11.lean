/- The walk of gangerref00.Own. -/
import Derived.Test.YtahaoakolgomdaaW1
namespace Go.Proofs.Ytahaoakolgomdaa
open Go.RowKit Go.Proofs.YtahaoakolgomdaaW.PrintWords Go.Proofs.YtahaoakolgomdaaW.PrintLast Go.Proofs.YtahaoakolgomdaaW.PrintMore
set_option linter.unusedVariables false
set_option linter.unusedSimpArgs false

def pt (i k : Nat) : UInt8 := UInt8.ofNat (i * 31 + k % 7)
def pat (i n : Nat) : List UInt8 := (List.range n).map (pt i)
def mkb (i k : Nat) : UInt8 := UInt8.ofNat (200 + i * 5 + k)
def mark (i : Nat) : List UInt8 := (List.range 4).map (mkb i)
theorem pat_length (i n : Nat) : (pat i n).length = n := by simp [pat]
theorem pat_succ (i k : Nat) : pat i (k + 1) = pat i k ++ [pt i k] := by simp [pat, List.range_succ]
theorem mark_take (i k : Nat) (h : k < 4) : (mark i).take k ++ [mkb i k] = (mark i).take (k + 1) := by
  match k, h with
  | 0, _ => rfl
  | 1, _ => rfl
  | 2, _ => rfl
  | 3, _ => rfl
theorem pt_enc (i k : Nat) : Value.int .u8 (((i : Int) * 31 + (k : Int) % 7) % 256) = enc8 (pt i k) := by
  unfold pt; rw [← enc8_ofNat]; congr 1
theorem mkb_enc (i k : Nat) : Value.int .u8 ((200 + (i : Int) * 5 + (k : Int)) % 256) = enc8 (mkb i k) := by
  unfold mkb; rw [← enc8_ofNat]; congr 1
/-- What the first loop has come to. -/
structure F1 (w : World) (base : Nat) (v : Value) (vs : List Value) (xss yss : List (List UInt8)) (i : Nat) : Prop where
  ls : LS w base v vs yss
  len : yss.length = xss.length
  lens : ∀ (j : Nat) (ys xs : List UInt8), yss[j]? = some ys → xss[j]? = some xs → ys.length = xs.length
  done : ∀ (j : Nat) (ys : List UInt8), j < i → yss[j]? = some ys → ys = pat j ys.length
theorem F1.set_ {w : World} {base : Nat} {v : Value} {vs : List Value} {xss yss : List (List UInt8)} {i g m c k : Nat} {ys : List UInt8} (h : F1 w base v vs xss yss i) (hu : vs[i]? = some (.slice (some ⟨g, 0, none⟩) m c)) (hy : yss[i]? = some ys) (hk : k < m) (b : UInt8) :
    F1 (w.setCell ⟨g, k, none⟩ (enc8 b)) base v vs xss (yss.set i (ys.set k b)) i := by
  refine ⟨h.ls.set_ hu hy hk b, by rw [List.length_set, h.len], fun j ys' xs hj hx => ?_, fun j ys' hlt hj => ?_⟩
  · by_cases e : j = i
    · subst e
      rw [List.getElem?_set_self', hy] at hj; cases hj
      show (ys.set k b).length = _
      rw [List.length_set]; exact h.lens j ys xs hy hx
    · rw [List.getElem?_set_ne (fun e' => e e'.symm)] at hj
      exact h.lens j ys' xs hj hx
  · rw [List.getElem?_set_ne (by omega)] at hj
    exact h.done j ys' hlt hj
theorem take_set_succ (ys : List UInt8) (k : Nat) (hk : k < ys.length) (b : UInt8) (p : List UInt8) (h : ys.take k = p) : (ys.set k b).take (k + 1) = p ++ [b] := by
  rw [List.take_succ_eq_append_getElem (by simpa using hk), List.take_set_of_le (Nat.le_refl k), h]; simp
theorem F1.next {w : World} {base : Nat} {v : Value} {vs : List Value} {xss yss : List (List UInt8)} {i : Nat} {ys : List UInt8} (h : F1 w base v vs xss yss i) (hy : yss[i]? = some ys) (ht : ys = pat i ys.length) : F1 w base v vs xss yss (i + 1) :=
  ⟨h.ls, h.len, h.lens, fun j ys' hj hy' => by
    by_cases e : j = i
    · subst e; rw [hy] at hy'; cases hy'; exact ht
    · exact h.done j ys' (by omega) hy'⟩
set_option maxHeartbeats 4000000 in
set_option maxRecDepth 100000 in
theorem own_calls (xss : List (List UInt8)) (v : Value) (base : Nat) (w : World) (h : OwnL w base v xss) (hbase : base ≤ w.heap.size) (hn : xss.length ≤ 1000000) (hl : ∀ (j : Nat) (xs : List UInt8), xss[j]? = some xs → xs.length ≤ 1000000) :
    Calls Try.prog 28 #[v] w fun e w' => e = .returned (.bool true) ∧ Below base w w' := by
  obtain ⟨vs, hls⟩ := h.ls
  obtain ⟨A, c, rfl⟩ := own_slice hls.outer
  obtain ⟨n, hvn⟩ : ∃ n, vs.length = n := ⟨_, rfl⟩
  have hxn : xss.length = n := by rw [← hls.len, hvn]
  rw [hvn] at hls ⊢
  have HL := Lib.hid hl
  have HVN := Lib.hid hvn
  have HXN := Lib.hid hxn
  have hn2 : n ≤ 1000000 := by omega
  have HLS := Aside0.mk hls
  clear h hl hvn hxn hn hls
  go_enter Try.func28, Try.ntmps28
  go_wp2
  go_loopw [4] (fun i wr => ∃ (k : Nat) (yss : List (List UInt8)), i = .int .i64 k ∧ k ≤ n ∧ Aside0 (F1 wr base (.slice A n c) vs xss yss k) ∧ Aside0 (Below base w wr)) (fun i _ => n - (intOf i).toNat)
  case atStart => exact ⟨0, xss, rfl, Nat.zero_le _, ⟨HLS.out, rfl, fun j ys xs h1 h2 => by rw [h1] at h2; cases h2; rfl, fun j ys hj => by omega⟩, ⟨Below.refl _ _⟩⟩
  case round =>
    obtain ⟨i, yss, rfl, hi, HF, HB⟩ := hrel
    by_cases hlt : i < n
    · go_wp2
      obtain ⟨wo, rfl⟩ : ∃ wo : World, wo = wr := ⟨_, rfl⟩
      go_loopw [5] (fun j wr => ∃ (k : Nat) (yss : List (List UInt8)) (ys : List UInt8), j = .int .i64 k ∧ yss[i]? = some ys ∧ k ≤ ys.length ∧ ys.length ≤ 1000000 ∧ Aside0 (F1 wr base (.slice A n c) vs xss yss i) ∧ Aside0 (ys.take k = pat i k) ∧ Aside0 (Below base w wr)) (fun j _ => 1000000 - (intOf j).toNat)
      case atStart =>
        have h1 : i < yss.length := by rw [HF.out.len, HXN.out]; exact hlt
        have h2 : i < xss.length := by rw [HXN.out]; exact hlt
        exact ⟨0, yss, yss[i], rfl, List.getElem?_eq_getElem _, Nat.zero_le _, by rw [HF.out.lens i _ xss[i] (List.getElem?_eq_getElem _) (List.getElem?_eq_getElem _)]; exact HL.out i _ (List.getElem?_eq_getElem _), HF, ⟨by simp [pat]⟩, HB⟩
      case round =>
        clear HF HB
        obtain ⟨k, yss, ys, rfl, hy, hk, hyl, HF, HT, HB⟩ := hrel
        have HY := Aside0.mk hy
        clear hy
        have hvi : i < vs.length := by rw [HVN.out]; exact hlt
        obtain ⟨u, hu⟩ : ∃ u, vs[i]? = some u := ⟨_, List.getElem?_eq_getElem hvi⟩
        have hrow := HF.out.ls.row i u ys hu HY.out
        obtain ⟨A1, c1, rfl, hc1, hr1⟩ := hrow.reads
        obtain ⟨go, co, e1, hcell, hgo⟩ := row_cell HF.out.ls.outer i _ hu
        injection e1 with e1 e2 e3
        subst e1
        have HU := Aside0.mk hu
        have HROW := Aside0.mk hrow
        clear hu hrow e2 e3 hvi
        by_cases hlk : k < ys.length
        · obtain ⟨g, rfl, hg, cur, hh, _⟩ := HROW.out.form (by omega)
          obtain ⟨_, q1, k1⟩ := kb_get hr1 k hlk
          cases q1
          rw [add_plain] at k1
          have hfz : wr.frozen? ⟨g, k, none⟩ = false := blk_frozen hh k
          have HS := Aside0.mk (HF.out.ls.set_ HU.out HY.out hlk (pt i k))
          have HB2 := Aside0.mk (HB.out.setCell (p := ⟨g, k, none⟩) hg (enc8 (pt i k)))
          have HPE := Aside0.mk (pt_enc i k)
          clear hr1 hh hgo
          go_wp2
          go_roundw
          case rel => exact ⟨k + 1, yss.set i (ys.set k (pt i k)), ys.set k (pt i k), by go_num, by rw [List.getElem?_set_self', HY.out]; rfl, by simp; omega, by simpa using hyl, ⟨by rw [HPE.out]; exact HF.out.set_ HU.out HY.out hlk _⟩, ⟨by rw [pat_succ]; exact take_set_succ ys k hlk _ _ HT.out⟩, ⟨by rw [HPE.out]; exact HB2.out⟩⟩
          case measure => simp [intOf]; omega
        · have hke : k = ys.length := by omega
          have HE := Aside0.mk (show ys = pat i ys.length by have := HT.out; rwa [hke, List.take_length] at this)
          clear hke hgo hr1
          go_wp2
          go_roundw
          case rel => exact ⟨i + 1, yss, by go_num, by omega, ⟨HF.out.next HY.out HE.out⟩, HB⟩
          case measure => simp [intOf]; omega
    · have hin : i = n := by omega
      subst hin
      have HP := Aside0.mk (show ∀ (j : Nat) (ys : List UInt8), yss[j]? = some ys → ys = pat j ys.length from fun j ys hy => HF.out.done j ys (by have := (List.getElem?_eq_some_iff.1 hy).1; rw [HF.out.len, HXN.out] at this; exact this) hy)
      have HL2 := Aside0.mk (show L2 mark wr base (.slice A i c) vs yss (.slice none 0 0) [] 0 from ⟨HF.out.ls, own_nil _ _ _ _, rfl, .inl rfl, fun j u ys h => by simp at h, fun j u j' u' h => by simp at h⟩)
      have HYN := Lib.hid (show yss.length = i by rw [HF.out.len, HXN.out])
      have HYL := Aside0.mk (show ∀ (j : Nat) (ys : List UInt8), yss[j]? = some ys → ys.length ≤ 1000000 from fun j ys hy => by
        have hjx : j < xss.length := by have := (List.getElem?_eq_some_iff.1 hy).1; rw [HF.out.len] at this; exact this
        rw [HF.out.lens j ys xss[j] hy (List.getElem?_eq_getElem _)]; exact HL.out j _ (List.getElem?_eq_getElem _))
      clear HF HL HXN HLS
      go_wp2
      obtain ⟨wo, rfl⟩ : ∃ wo : World, wo = wr := ⟨_, rfl⟩
      go_loopw [3, 6] (fun lv j wr => ∃ (k : Nat) (us : List Value), j = .int .i64 k ∧ k ≤ i ∧ Aside0 (L2 mark wr base (.slice A i c) vs yss lv us k) ∧ Aside0 (Below base w wr)) (fun _ j _ => i - (intOf j).toNat)
      case atStart => exact ⟨0, [], rfl, Nat.zero_le _, HL2, HB⟩
      case round =>
        clear HL2 HB
        obtain ⟨k, us, rfl, hk, HL2, HB⟩ := hrel
        by_cases hlt2 : k < i
        · have hvk : k < vs.length := by rw [HVN.out]; exact hlt2
          have hyk : k < yss.length := by rw [HYN.out]; exact hlt2
          obtain ⟨u, hu⟩ : ∃ u, vs[k]? = some u := ⟨_, List.getElem?_eq_getElem hvk⟩
          obtain ⟨ys, hy⟩ : ∃ ys, yss[k]? = some ys := ⟨_, List.getElem?_eq_getElem hyk⟩
          obtain ⟨A1, c1, rfl, hc1, hr1⟩ := (HL2.out.ls.row k u ys hu hy).reads
          obtain ⟨go, co, e1, hcell, hgo⟩ := row_cell HL2.out.ls.outer k _ hu
          injection e1 with e1 e2 e3
          subst e1
          have HY := Aside0.mk hy
          have HYK := Lib.hid (HYL.out k ys hy)
          have HL3 := Aside0.mk (HL2.out.start hu hy)
          clear hu hy e2 e3 hvk hyk hgo hr1 hc1
          go_wp2
          obtain ⟨wi, rfl⟩ : ∃ wi : World, wi = wr := ⟨_, rfl⟩
          go_loopw [7, 8] (fun x j wr => ∃ t : Nat, j = .int .i64 t ∧ t ≤ 4 ∧ Aside0 (L3 mark wr base (.slice (some ⟨go, 0, none⟩) i c) vs yss u3 us k x ys t) ∧ Aside0 (Below base w wr)) (fun _ j _ => 4 - (intOf j).toNat)
          case atStart => exact ⟨0, rfl, by omega, HL3, HB⟩
          case round =>
            clear HL3 HL2 HB hcell
            obtain ⟨t, rfl, ht, HL3, HB⟩ := hrel
            obtain ⟨A2, c2, e2, _, _⟩ := HL3.out.xrow.reads
            by_cases ht4 : t < 4
            · clear e2
              go_wp2_with (at_builtin; go_loud (refine app_one (W := wr) base rfl (.tmp 54) (.tmp 61) rfl u7 (ys ++ (mark k).take t) (mkb k t) (ys ++ (mark k).take (t + 1)) ?z1 _ ?c1 rfl rfl HL3.out.xrow ?b1 ?l1 ?_; (case z1 => rw [List.append_assoc, mark_take k t ht4]); (case c1 => rw [← mkb_enc]); (case b1 => exact Nat.le_trans hbase HB.out.size); (case l1 => have := HYK.out; simp [mark]; omega); intro v1 w1 ho1 hw1; have HN := Aside0.mk (HL3.out.step HY.out (Nat.le_trans hbase HB.out.size) ho1 hw1); have HBN := Aside0.mk (HB.out.trans (show Below base wr w1 from (by rcases hw1 with ⟨g, c, h1, _, hg⟩ | ⟨hg, _⟩; exact (Below.refl _ _).grown hg (Nat.le_trans hbase HB.out.size) (fun q hq => by cases hq; exact HL3.out.xrow.base_le g (by rw [h1]; rfl)); exact (Below.refl _ _).grown hg (Nat.le_trans hbase HB.out.size) (fun q hq => by cases hq)))); clear ho1 hw1))
              go_roundw
              case rel => exact ⟨t + 1, by go_num, by omega, HN, HBN⟩
              case measure => simp [intOf]; omega
            · obtain rfl : t = 4 := by omega
              obtain ⟨m, hm⟩ : ∃ m, (ys ++ (mark k).take 4).length = m := ⟨_, rfl⟩
              rw [hm] at e2
              clear hm
              subst e2
              go_wp2_with (at_builtin; go_loud (refine print_append (P := Try.prog) (w0 := wr) base rfl (.tmp 63) (.tmp 65) 35 22 (.slice none 0 0) 24 rfl Try.underlying35 info22 rfl (by decide) u3 us (.slice A2 m c2) rfl rfl rfl HL3.out.l2.outer2 (Below.refl _ _) (Nat.le_trans hbase HB.out.size) ?l1 ?_; (case l1 => have := HL3.out.l2.ulen; omega); intro v1 w1 ho1 _ hg1 hat1; have HN := Aside0.mk (HL3.out.next HY.out (List.take_of_length_le (by simp [mark])) ho1 hg1 hat1); have HBN := Aside0.mk (HB.out.grown hg1 (Nat.le_trans hbase HB.out.size) (fun q hq => own_base HL3.out.l2.outer2 q hq)); clear ho1 hg1 hat1))
              go_roundw
              case rel => exact ⟨k + 1, us ++ [.slice A2 m c2], by go_num, by omega, HN, HBN⟩
              case measure => simp [intOf]; omega
        · have hki : k = i := by omega
          subst hki
          obtain ⟨A3, c3, e3⟩ := own_slice HL2.out.outer2
          rw [HL2.out.ulen] at e3
          subst e3
          go_wp2
          go_loop [9] (fun j => ∃ a : Nat, j = .int .i64 a ∧ a ≤ k) (fun j => k - (intOf j).toNat)
          case atStart => exact ⟨0, rfl, Nat.zero_le _⟩
          case round =>
            obtain ⟨a, rfl, ha⟩ := hrel
            by_cases hak : a < k
            · have hva : a < vs.length := by rw [HVN.out]; exact hak
              have hya : a < yss.length := by rw [HYN.out]; exact hak
              have hua : a < us.length := by rw [HL2.out.ulen]; exact hak
              obtain ⟨u, hu⟩ : ∃ u, vs[a]? = some u := ⟨_, List.getElem?_eq_getElem hva⟩
              obtain ⟨x, hx⟩ : ∃ x, us[a]? = some x := ⟨_, List.getElem?_eq_getElem hua⟩
              obtain ⟨ys, hy⟩ : ∃ ys, yss[a]? = some ys := ⟨_, List.getElem?_eq_getElem hya⟩
              obtain ⟨A1, c1, rfl, hc1, hr1⟩ := (HL2.out.ls.row a u ys hu hy).reads
              have hxr := HL2.out.urow a x ys hx hy
              obtain ⟨A2, c2, e4, hc2, hr2⟩ := hxr.reads
              have hm4 : (ys ++ mark a).length = ys.length + 4 := by simp [mark]
              rw [hm4] at e4 hc2
              subst e4
              obtain ⟨g2, e5, _⟩ := hxr.form (by omega)
              subst e5
              obtain ⟨go, co, e1, hcell, hgo⟩ := row_cell HL2.out.ls.outer a _ hu
              injection e1 with e1 _ _
              subst e1
              obtain ⟨go2, co2, e1, hcell2, hgo2⟩ := row_cell HL2.out.outer2 a _ hx
              injection e1 with e1 _ _
              subst e1
              have HPAT := Aside0.mk (HP.out a ys hy)
              have hylen := HYL.out a ys hy
              have HR1 := Aside0.mk hr1
              have HR2 := Aside0.mk hr2
              have HM4 := Lib.hid hm4
              clear hu hx hy hva hya hua hgo hgo2 hr1 hr2 hm4 hxr
              go_wp2
              go_loop [11] (fun j => ∃ b : Nat, j = .int .i64 b ∧ b ≤ ys.length) (fun j => ys.length - (intOf j).toNat)
              case atStart => exact ⟨0, rfl, Nat.zero_le _⟩
              case round =>
                obtain ⟨b, rfl, hb⟩ := hrel
                by_cases hby : b < ys.length
                · obtain ⟨ad, q1, k1⟩ := kb_get HR1.out b hby
                  subst q1
                  have ht : (by8 ys b != ((a : Int) * 31 + (b : Int) % 7) % 256) = false := by
                    rw [bne_eq_false_iff_eq]
                    have h1 := pt_enc a b
                    unfold enc8 at h1
                    injection h1 with _ h1
                    rw [h1]; unfold by8
                    have : ys.getD b 0 = pt a b := by rw [HPAT.out]; simp [pat, hby]
                    rw [this]
                  go_wp2
                  go_round
                  case rel => exact ⟨b + 1, by go_num, by omega⟩
                  case measure => simp [intOf]; omega
                · have hbe : b = ys.length := by omega
                  subst hbe
                  go_wp2
                  go_loop [12] (fun j => ∃ t : Nat, j = .int .i64 t ∧ t ≤ 4) (fun j => 4 - (intOf j).toNat)
                  case atStart => exact ⟨0, rfl, Nat.zero_le _⟩
                  case round =>
                    obtain ⟨t, rfl, ht4⟩ := hrel
                    by_cases htl : t < 4
                    · obtain ⟨_, q1, k2⟩ := kb_get HR2.out (ys.length + t) (by rw [HM4.out]; omega)
                      cases q1
                      rw [add_plain] at k2
                      have ht : (by8 (ys ++ mark a) (ys.length + t) != (200 + (a : Int) * 5 + (t : Int)) % 256) = false := by
                        rw [bne_eq_false_iff_eq]
                        have h1 := mkb_enc a t
                        unfold enc8 at h1
                        injection h1 with _ h1
                        rw [h1]; unfold by8
                        have : (ys ++ mark a).getD (ys.length + t) 0 = mkb a t := by
                          rw [List.getD_eq_getElem?_getD, List.getElem?_append_right (by omega)]; simp [mark, htl]
                        rw [this]
                      go_wp2
                      go_round
                      case rel => exact ⟨t + 1, by go_num, by omega⟩
                      case measure => simp [intOf]; omega
                    · obtain rfl : t = 4 := by omega
                      go_wp2
                      go_round
                      case rel => exact ⟨a + 1, by go_num, by omega⟩
                      case measure => simp [intOf]; omega
            · go_wp2
              go_ret
              exact ⟨rfl, HB.out⟩
end Go.Proofs.Ytahaoakolgomdaa
