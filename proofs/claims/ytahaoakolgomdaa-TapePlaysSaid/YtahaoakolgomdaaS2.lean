/- The walk of crate.Put. -/
import Derived.Test.YtahaoakolgomdaaS1
namespace Go.Proofs.Ytahaoakolgomdaa
open Go.RowKit Go.Proofs.YtahaoakolgomdaaW.PrintWords Go.Proofs.YtahaoakolgomdaaW.PrintLast Go.Proofs.YtahaoakolgomdaaW.PrintMore
set_option linter.unusedVariables false
set_option linter.unusedSimpArgs false

theorem put_long (xs : List UInt8) (A : Option Addr) (c : Nat) (w : World) (hm : xs.length ≤ 9223372036854775807) (hn : 8000 < xs.length) :
    Calls Try.prog 22 #[.slice A xs.length c] w fun e w' => e = .returned (.tuple #[.slice none 0 0, .int .i64 3]) ∧ w' = w := by
  go_enter Try.func22, Try.ntmps22
  go_wp2
  go_ret2
  exact ⟨rfl, rfl⟩

theorem put_eq1 (xs : List UInt8) (zs : List UInt8) (h : zs = [0xc5, UInt8.ofNat (xs.length / 256), UInt8.ofNat xs.length] ++ xs) : zs.drop 1 = mid xs ∧ zs ++ le4 (crc (mid xs)) = putS xs := by
  subst h; exact ⟨rfl, rfl⟩
set_option maxHeartbeats 1000000 in
theorem put_calls (xs : List UInt8) (A : Option Addr) (c : Nat) (w : World) (h : kb.C w A xs.length xs) (hn : xs.length ≤ 8000) :
    Calls Try.prog 22 #[.slice A xs.length c] w fun e w' => ∃ v, e = .returned (.tuple #[v, .int .i64 0]) ∧ OwnB w' w.heap.size v (putS xs) ∧ Below w.heap.size w w' := by
  have H := Aside0.mk h
  clear h
  obtain ⟨zs, hz⟩ : ∃ zs : List UInt8, [0xc5, UInt8.ofNat (xs.length / 256), UInt8.ofNat xs.length] ++ xs = zs := ⟨_, rfl⟩
  have hz3 : zs.length = xs.length + 3 := by rw [← hz]; simp
  have hz1 : 1 ≤ zs.length := by omega
  have hz2 : zs.length ≤ 9000 := by omega
  have HZ3 := Lib.hid hz3
  have HZ := Lib.hid hz
  have HP := Aside0.mk (put_eq1 xs zs hz.symm)
  clear hz hz3
  have HL : Aside0 ([Value.int .u8 197, .int .u8 ((xs.length : Int) / 256), .int .u8 ((xs.length : Int) % 256)] = encs enc8 [0xc5, UInt8.ofNat (xs.length / 256), UInt8.ofNat xs.length]) := by
    constructor
    show _ = [enc8 _, enc8 _, enc8 _]
    rw [← enc8_ofNat xs.length, ← enc8_ofNat (xs.length / 256)]
    have : ((xs.length / 256 : Nat) : Int) % 256 = (xs.length : Int) / 256 := by omega
    rw [this]; rfl
  have HL2 : Aside0 ([Value.int .u8 (((crc (mid xs)).toNat : Int) % 256), .int .u8 (((crc (mid xs)).toNat : Int) / 256 % 256), .int .u8 (((crc (mid xs)).toNat : Int) / 65536 % 256), .int .u8 (((crc (mid xs)).toNat : Int) / 16777216)] = encs enc8 (le4 (crc (mid xs)))) := by
    constructor
    show _ = [enc8 _, enc8 _, enc8 _, enc8 _]
    generalize hq : (crc (mid xs)).toNat = q
    have hq2 : q < 4294967296 := by rw [← hq]; exact (crc (mid xs)).isLt
    rw [← enc8_ofNat q, ← enc8_ofNat (q / 256), ← enc8_ofNat (q / 65536), ← enc8_ofNat (q / 16777216)]
    have : ((q / 16777216 : Nat) : Int) % 256 = (q : Int) / 16777216 := by omega
    rw [this]; rfl
  go_enter Try.func22, Try.ntmps22
  go_wp2_with (first
    | (at_builtin; (refine app_bytes w.heap.size rfl (.tmp 16) (.tmp 17) rfl (.slice (some ⟨w.heap.size, 0, none⟩) 3 3) [0xc5, UInt8.ofNat (xs.length / 256), UInt8.ofNat xs.length] xs zs HZ.out A xs.length c rfl rfl ?o1 ?r1 ?b1 ?l1 ?_; (case o1 => exact OwnB.lit w _ [0xc5, UInt8.ofNat (xs.length / 256), UInt8.ofNat xs.length] _ HL.out (Nat.le_refl _) (by simp)); (case r1 => exact Kd.C_alloc H.out _); (case b1 => simp); (case l1 => simp; omega); intro v1 w1 ho1 hg1 hat1; have HB1 := Aside0.mk (show Below w.heap.size w w1 from ((Below.refl _ _).alloc (Nat.le_refl _) _).grown hg1 (by simp) (fun k hk => by cases hk; exact Nat.le_refl _)); have HO1 := Aside0.mk ho1; obtain ⟨A1, c1, rfl, hc1, hr1⟩ := ho1.reads; obtain ⟨A2, hcut, hrd, _⟩ := cut_lo A1 c1 zs 1 hz1 hc1; rw [HP.out.1] at hcut hrd; have hcut1 : ∀ W : World, (Instr.slice 22 (.slice A1 zs.length c1) (some (.int .i64 1)) none none).run Try.prog W = .ok (.slice A2 (mid xs).length (c1 - 1)) W := hcut; have HR2 := Aside0.mk (hrd _ hr1); clear hcut hrd hg1 hat1 ho1 hr1))
    | (go_at_call 21; refine (sum_calls (mid xs) A2 _ _ HR2.out).mono ?_; rintro e w' ⟨rfl, rfl⟩)
    | (at_builtin; go_loud (refine app_bytes w.heap.size rfl (.tmp 22) (.tmp 34) rfl (.slice A1 zs.length c1) zs (le4 (crc (mid xs))) (putS xs) HP.out.2 (some ⟨w'.heap.size, 0, none⟩) 4 4 rfl rfl ?o2 ?r2 ?b2 ?l2 ?_; (case o2 => exact HO1.out.below (below_alloc (Below.refl _ _) _)); (case r2 => exact lit_reads w' (le4 (crc (mid xs))) _ HL2.out (by simp [le4])); (case b2 => exact Nat.le_trans HB1.out.size (below_alloc (Below.refl _ _) _).size); (case l2 => omega); intro v3 w3 ho3 hg3 hat3; have HB3 := Aside0.mk (own_step (below_alloc HB1.out _) hg3 (fun k hk => HO1.out.base_le k hk)); have HO3 := Aside0.mk ho3; clear hg3 hat3 ho3)))
  go_ret2
  exact ⟨_, rfl, HO3.out, HB3.out⟩
end Go.Proofs.Ytahaoakolgomdaa
