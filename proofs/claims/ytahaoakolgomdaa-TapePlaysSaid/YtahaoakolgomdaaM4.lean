/- Plain laws of rows of crates. No program. -/
import Derived.Test.YtahaoakolgomdaaM1
namespace Go.Proofs.Ytahaoakolgomdaa
set_option linter.unusedVariables false
set_option linter.unusedSimpArgs false

/-- Crates one behind the other. -/
def cat (G : List (List UInt8)) : List UInt8 := (G.map putS).flatten
theorem cat_nil : cat [] = [] := rfl
theorem cat_cons (x : List UInt8) (G : List (List UInt8)) : cat (x :: G) = putS x ++ cat G := rfl
theorem cat_append (G H : List (List UInt8)) : cat (G ++ H) = cat G ++ cat H := by simp [cat]
theorem cat_snoc (G : List (List UInt8)) (x : List UInt8) : cat (G ++ [x]) = cat G ++ putS x := by rw [cat_append, cat_cons, cat_nil, List.append_nil]
theorem cat_len (G : List (List UInt8)) : 7 * G.length ≤ (cat G).length := by
  induction G with
  | nil => simp [cat]
  | cons x G ih => rw [cat_cons, List.length_append, putS_length, List.length_cons]; omega
def fits (G : List (List UInt8)) : Prop := ∀ x ∈ G, x.length ≤ 8000

theorem hd2_len (n : Nat) : (hd2 n).length = 2 := rfl
theorem putS_form (x : List UInt8) : putS x = [0xc5, UInt8.ofNat (x.length / 256), UInt8.ofNat x.length] ++ (x ++ le4 (crc (mid x))) := by
  simp [putS, mid, hd2]
theorem numAt_put (x r : List UInt8) (h : x.length ≤ 8000) : numAt (putS x ++ r) = x.length := by
  rw [putS_form]; unfold numAt
  show (UInt8.ofNat (x.length / 256)).toNat * 256 + (UInt8.ofNat x.length).toNat = x.length
  rw [UInt8.toNat_ofNat', UInt8.toNat_ofNat']; omega
theorem bodyAt_put (x r : List UInt8) (h : x.length ≤ 8000) : bodyAt (putS x ++ r) = x := by
  unfold bodyAt; rw [numAt_put x r h, putS_form]
  show (((x ++ le4 (crc (mid x))) ++ r)).take x.length = x
  rw [List.append_assoc, List.take_left' rfl]
theorem isCrate_put (x r : List UInt8) (h : x.length ≤ 8000) : isCrate (putS x ++ r) := by
  refine ⟨?_, ?_, ?_, ?_, ?_⟩
  · rw [List.length_append, putS_length]; omega
  · rw [putS_form]; rfl
  · rw [numAt_put x r h]; exact h
  · rw [numAt_put x r h, List.length_append, putS_length]; omega
  · rw [numAt_put x r h, bodyAt_put x r h, List.take_left' (putS_length x)]
theorem getD_drop (xs : List UInt8) (k : Nat) : (xs.drop k).getD 0 0 = xs.getD k 0 := by simp
/-- What stands at a place where some crate begins. -/
theorem getS_at (xs : List UInt8) (k : Nat) (x r : List UInt8) (h : xs.drop k = putS x ++ r) (hx : x.length ≤ 8000) : getS xs k = (x, ((k + x.length + 7 : Nat) : Int), 0) := by
  have hl : (xs.drop k).length = x.length + 7 + r.length := by rw [h, List.length_append, putS_length]
  rw [List.length_drop] at hl
  unfold getS
  rw [if_neg (by omega), Int.toNat_natCast, if_neg, h, if_pos (isCrate_put x r hx), bodyAt_put x r hx, numAt_put x r hx]
  · simp
  · rintro (e | e)
    · omega
    · rw [← getD_drop, h, putS_form] at e
      exact absurd e (show (0xc5 : UInt8) ≠ 0 by decide)
theorem allGo_succ (xs : List UInt8) (f : Nat) (k : Int) (out : List (List UInt8)) : allGo xs (f + 1) k out = if (getS xs k).2.2 = 0 then allGo xs f (getS xs k).2.1 (out ++ [(getS xs k).1]) else (out, k, if (getS xs k).2.2 = 170 then 0 else 171) := rfl
theorem allGo_cat (xs : List UInt8) : ∀ (G : List (List UInt8)) (k f : Nat) (out r : _), xs.drop k = cat G ++ r → fits G → allGo xs (G.length + f) k out = allGo xs f ((k + (cat G).length : Nat) : Int) (out ++ G) := by
  intro G
  induction G with
  | nil => intro k f out r h hf; simp [cat]
  | cons x G ih =>
    intro k f out r h hf
    rw [cat_cons, List.append_assoc] at h
    have hx := hf x (List.mem_cons_self ..)
    have hg := getS_at xs k x _ h hx
    have hd : xs.drop (k + x.length + 7) = cat G ++ r := by
      rw [show k + x.length + 7 = k + (x.length + 7) by omega, ← List.drop_drop, h, List.drop_left' (putS_length x)]
    rw [List.length_cons, show G.length + 1 + f = (G.length + f) + 1 by omega]
    rw [allGo_succ, hg, if_pos rfl]
    rw [ih (k + x.length + 7) f (out ++ [x]) r hd (fun y hy => hf y (List.mem_cons_of_mem _ hy)), cat_cons, List.length_append, putS_length]
    rw [show k + x.length + 7 + (cat G).length = k + (x.length + 7 + (cat G).length) by omega, List.append_assoc]; simp only [List.singleton_append]
/-- All, where something other than a crate follows. -/
theorem allS_stop (xs : List UInt8) (G : List (List UInt8)) (r : List UInt8) (h : xs = cat G ++ r) (hf : fits G) (hs : (getS xs (cat G).length).2.2 ≠ 0) :
    allS xs = (G, ((cat G).length : Int), if (getS xs (cat G).length).2.2 = 170 then 0 else 171) := by
  have hl := cat_len G
  have hxl : xs.length = (cat G).length + r.length := by rw [h, List.length_append]
  unfold allS
  rw [show xs.length + 1 = G.length + ((xs.length - G.length) + 1) by omega]
  have := allGo_cat xs G 0 ((xs.length - G.length) + 1) [] r (by rw [List.drop_zero]; exact h) hf
  rw [show ((0 : Nat) : Int) = 0 from rfl] at this
  rw [this]
  rw [allGo_succ, Nat.zero_add, if_neg hs, List.nil_append]
theorem getS_nought (xs r : List UInt8) (k : Nat) (h : xs.drop k = 0 :: r) : getS xs k = ([], 0, 170) := by
  have hl : (xs.drop k).length = r.length + 1 := by rw [h]; rfl
  rw [List.length_drop] at hl
  have h0 : xs.getD k 0 = 0 := by rw [← getD_drop, h]; rfl
  unfold getS
  rw [if_neg (by omega), Int.toNat_natCast, if_pos (.inr h0)]
theorem getS_end (xs : List UInt8) : getS xs xs.length = ([], 0, 170) := by
  unfold getS; rw [if_neg (by omega), if_pos (.inl rfl)]
/-- A crate that is cut short is none. -/
theorem getS_cut (xs : List UInt8) (k : Nat) (x : List UInt8) (n : Nat) (h : xs.drop k = (putS x).take n) (hx : x.length ≤ 8000) (h0 : 0 < n) (hn : n < x.length + 7) : getS xs k = ([], 0, 171) := by
  have hlp := putS_length x
  have hl : (xs.drop k).length = n := by rw [h, List.length_take]; omega
  have hl2 := hl
  rw [List.length_drop] at hl2
  have h00 : (xs.drop k).getD 0 0 = 0xc5 := by
    rw [h, List.getD_eq_getElem?_getD, List.getElem?_take_of_lt h0, putS_form]; rfl
  unfold getS
  rw [if_neg (by omega), Int.toNat_natCast, if_neg, if_neg]
  · intro hc
    have h7 := hc.1
    have hq := hc.2.2.2.1
    rw [hl] at h7 hq
    have e1 : (xs.drop k).getD 1 0 = UInt8.ofNat (x.length / 256) := by
      rw [h, List.getD_eq_getElem?_getD, List.getElem?_take_of_lt (by omega), putS_form]; rfl
    have e2 : (xs.drop k).getD 2 0 = UInt8.ofNat x.length := by
      rw [h, List.getD_eq_getElem?_getD, List.getElem?_take_of_lt (by omega), putS_form]; rfl
    have : numAt (xs.drop k) = x.length := by
      unfold numAt; rw [e1, e2, UInt8.toNat_ofNat', UInt8.toNat_ofNat']; omega
    omega
  · rintro (e | e)
    · omega
    · rw [← getD_drop, h00] at e; exact absurd e (by decide)
theorem allS_nought (G : List (List UInt8)) (more : List UInt8) (hf : fits G) : allS (cat G ++ 0 :: more) = (G, ((cat G).length : Int), 0) := by
  have hg := getS_nought (cat G ++ 0 :: more) more (cat G).length (by rw [List.drop_left' rfl])
  rw [allS_stop _ G _ rfl hf (by rw [hg]; decide), hg]; rfl
theorem allS_cat (G : List (List UInt8)) (hf : fits G) : allS (cat G) = (G, ((cat G).length : Int), 0) := by
  have hg := getS_end (cat G)
  rw [allS_stop _ G [] (by simp) hf (by rw [hg]; decide), hg]; rfl
/-- Cut anywhere: those that are whole. -/
theorem allS_take (G : List (List UInt8)) (hf : fits G) (n k : Nat) (hn : n ≤ G.length) (h1 : (cat (G.take n)).length ≤ k) (h2 : n < G.length → k < (cat (G.take (n + 1))).length) (hk : k ≤ (cat G).length) :
    allS ((cat G).take k) = (G.take n, ((cat (G.take n)).length : Int), if (cat (G.take n)).length = k then 0 else 171) := by
  have hft : fits (G.take n) := fun x hx => hf x (List.mem_of_mem_take hx)
  have hsplit : cat G = cat (G.take n) ++ cat (G.drop n) := by rw [← cat_append, List.take_append_drop]
  by_cases he : (cat (G.take n)).length = k
  · rw [if_pos he]
    have : (cat G).take k = cat (G.take n) := by rw [hsplit, List.take_left' he]
    rw [this, allS_cat _ hft]
  · rw [if_neg he]
    by_cases hnl : n < G.length
    · have hd : G.drop n = G[n] :: G.drop (n + 1) := (List.drop_eq_getElem_cons hnl)
      have hx := hf G[n] (List.getElem_mem _)
      have htk : (cat (G.take (n + 1))).length = (cat (G.take n)).length + (G[n].length + 7) := by
        rw [List.take_succ_eq_append_getElem hnl, cat_snoc, List.length_append, putS_length]
      have hk2 := h2 hnl
      have hxs : (cat G).take k = cat (G.take n) ++ (putS G[n]).take (k - (cat (G.take n)).length) := by
        rw [hsplit, hd, cat_cons, List.take_append, List.take_of_length_le (by omega)]
        congr 1
        rw [List.take_append_of_le_length (by rw [putS_length]; omega)]
      have hg := getS_cut ((cat G).take k) (cat (G.take n)).length G[n] (k - (cat (G.take n)).length) (by rw [hxs, List.drop_left' rfl]) hx (by omega) (by omega)
      rw [allS_stop _ (G.take n) _ hxs hft (by rw [hg]; decide), hg]; rfl
    · have : n = G.length := by omega
      subst this
      rw [List.take_length] at *
      omega
end Go.Proofs.Ytahaoakolgomdaa
