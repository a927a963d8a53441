/- Joined by merge.py from S37, S38, S41. -/
import Derived.Test.YtahaoakolgomdaaG1

/- The walk of lay. -/
namespace Go.Proofs.Ytahaoakolgomdaa
open Go.RowKit Go.Proofs.YtahaoakolgomdaaW.PrintWords Go.Proofs.YtahaoakolgomdaaW.PrintLast Go.Proofs.YtahaoakolgomdaaW.PrintMore
set_option linter.unusedVariables false
set_option linter.unusedSimpArgs false

/-- The state of lay while it goes: the spool; the tape's struct; what else there is; the rows; the two variables. -/
def LayL (p tp bt be : Nat) (s : Sp) (A : Option Addr) (n c : Nat) (l : List (List UInt8)) (R : Asr) (lost : Bool) (e : Int) (X : List Asr) : List Asr :=
  spoolA p s :: blkA tp (.cells #[.pointer (some ⟨p, 0, none⟩), .slice A n c, .bool lost] 105 (0, 0)) :: R :: rowsA (.slice A n c) l :: blkA bt (.cells #[.pointer (some ⟨tp, 0, none⟩)] 82 (0, 0)) :: blkA be (.cells #[.int .i64 e] 27 (0, 0)) :: X
section
variable {w0 w : World} {p tp bt be : Nat} {s : Sp} {A : Option Addr} {n c : Nat} {l : List (List UInt8)} {R : Asr} {lost : Bool} {e : Int} {X : List Asr}
theorem lay_tb (h : Has w0 w (LayL p tp bt be s A n c l R lost e X)) : w.cell? ⟨bt, 0, none⟩ = some (.pointer (some ⟨tp, 0, none⟩)) := by
  have := blk_cell (h.blk 4 (b := bt) (o := .cells #[.pointer (some ⟨tp, 0, none⟩)] 82 (0, 0)) rfl) 0
  simpa using this
theorem lay_eb (h : Has w0 w (LayL p tp bt be s A n c l R lost e X)) : w.cell? ⟨be, 0, none⟩ = some (.int .i64 e) ∧ w.frozen? ⟨be, 0, none⟩ = false := by
  have h1 := h.blk 5 (b := be) (o := .cells #[.int .i64 e] 27 (0, 0)) rfl
  have := blk_cell h1 0
  exact ⟨by simpa using this, blk_frozen h1 _⟩
theorem lay_tape (h : Has w0 w (LayL p tp bt be s A n c l R lost e X)) : w.cell? ⟨tp, 0, none⟩ = some (.pointer (some ⟨p, 0, none⟩)) ∧ w.cell? ⟨tp, 1, none⟩ = some (.slice A n c) ∧ w.cell? ⟨tp, 2, none⟩ = some (.bool lost) ∧ ∀ k, w.frozen? ⟨tp, k, none⟩ = false := by
  have h1 := h.blk 1 (b := tp) (o := .cells #[.pointer (some ⟨p, 0, none⟩), .slice A n c, .bool lost] 105 (0, 0)) rfl
  have a0 := blk_cell h1 0
  have a1 := blk_cell h1 1
  have a2 := blk_cell h1 2
  exact ⟨by simpa using a0, by simpa using a1, by simpa using a2, fun k => blk_frozen h1 _⟩
theorem lay_start (h : Has w0 w [spoolA p s, tapeB 105 tp p l false, R]) :
    ∃ A c, l.length ≤ c ∧ ∀ e, Has w0 ((w.alloc (.cells #[.pointer (some ⟨tp, 0, none⟩)] 82)).alloc (.cells #[.int .i64 e] 27)) (LayL p tp w.heap.size (w.heap.size + 1) s A l.length c l R false e []) := by
  obtain ⟨A, c, hc, _, h1⟩ := tape_open h 1 rfl
  refine ⟨A, c, hc, fun e => ?_⟩
  have h2 := h1.addO (.cells #[.pointer (some ⟨tp, 0, none⟩)] 82)
  have h3 := h2.addO (.cells #[.int .i64 e] 27)
  rw [show (w.alloc (.cells #[.pointer (some ⟨tp, 0, none⟩)] 82)).heap.size = w.heap.size + 1 by simp] at h3
  exact h3
theorem lay_setE (h : Has w0 w (LayL p tp bt be s A n c l R lost e X)) (e' : Int) : Has w0 (w.setCell ⟨be, 0, none⟩ (.int .i64 e')) (LayL p tp bt be s A n c l R lost e' X) :=
  h.put 5 (b := be) (cs := #[.int .i64 e]) (T := 27) rfl 0 (.int .i64 e') #[.int .i64 e'] (by simp)
theorem lay_done (h : Has w0 w (LayL p tp bt be s A n c l R lost e [])) (b : Bool) : Has w0 (w.setCell ⟨tp, 2, none⟩ (.bool b)).drew [spoolA p s, tapeB 105 tp p l b, R] := by
  have h1 := h.put 1 (b := tp) (cs := #[.pointer (some ⟨p, 0, none⟩), .slice A n c, .bool lost]) (T := 105) rfl 2 (.bool b) #[.pointer (some ⟨p, 0, none⟩), .slice A n c, .bool b] (by simp)
  have h2 := tape_shut h1 1 3 rfl rfl (by decide)
  exact (((h2.drop 5).drop 4).drop 3).drew
theorem lay_after (h : Has w0 w (LayL p tp bt be s A n c l R lost e X)) (b : Bool) : (w.setCell ⟨tp, 2, none⟩ (.bool b)).drew.cell? ⟨be, 0, none⟩ = some (.int .i64 e) := by
  have h1 := h.put 1 (b := tp) (cs := #[.pointer (some ⟨p, 0, none⟩), .slice A n c, .bool lost]) (T := 105) rfl 2 (.bool b) #[.pointer (some ⟨p, 0, none⟩), .slice A n c, .bool b] (by simp)
  have h2 := h1.drew
  have := blk_cell (h2.blk 5 (b := be) (o := .cells #[.int .i64 e] 27 (0, 0)) rfl) 0
  simpa using this
/-- The row is longer by one. -/
theorem lay_more (h : Has w0 w (LayL p tp bt be s A n c l R lost e [])) (hn : n = l.length) (r : List UInt8) (B : Option Addr) (m d : Nat) (hm : m = r.length) (hmd : m ≤ d) (hr : ReadsIn w0 R B r) (hm2 : m ≤ 100000) (hl : (n + 1) * 24 ≤ 140737488355328) :
    ∃ A7 d7 w7, (Builtin.append_ #[22, 22] 22 #[.slice (some ⟨w.heap.size, 0, none⟩) 0 0, .slice B m d]).run Try.prog (w.alloc (.cells #[] 5)) = .ok (.slice A7 m d7) w7 ∧
      ∃ A8 d8 w8, (Builtin.append_ #[35, 35] 35 #[.slice A n c, .slice (some ⟨w7.heap.size, 0, none⟩) 1 1]).run Try.prog (w7.alloc (.cells #[.slice A7 m d7] 22)) = .ok (.slice A8 (n + 1) d8) w8 ∧
        w7.cell? ⟨bt, 0, none⟩ = some (.pointer (some ⟨tp, 0, none⟩)) ∧ w7.cell? ⟨tp, 1, none⟩ = some (.slice A n c) ∧ w8.cell? ⟨bt, 0, none⟩ = some (.pointer (some ⟨tp, 0, none⟩)) ∧ w8.cell? ⟨tp, 1, none⟩ = some (.slice A n c) ∧
        w8.frozen? ⟨tp, 1, none⟩ = false ∧ Has w0 (w8.setCell ⟨tp, 1, none⟩ (.slice A8 (n + 1) d8)) (LayL p tp bt be s A8 (n + 1) d8 (l ++ [r]) R lost e []) := by
  subst hm hn
  have h6 : Has w0 (w.alloc (.cells #[] 5)) (LayL p tp bt be s A l.length c l R lost e [bytesA (.slice (some ⟨w.heap.size, 0, none⟩) 0 0) []]) :=
    h.addE (.bytes (OwnB.lit w w.heap.size [] #[] rfl (Nat.le_refl _) (by simp)) (below_alloc (Below.refl _ _) _))
  obtain ⟨A7, d7, w7, hr1, _, h7⟩ := bytes_run h6 6 (.slice (some ⟨w.heap.size, 0, none⟩) 0 0) [] r r rfl rfl 22 B r.length d (h6.in_ 2 rfl hr) hmd (by simp; omega)
  obtain ⟨A8, d8, w8, hr2, h8⟩ := rows_run h7 3 6 (by decide) (.slice A l.length c) (.slice A7 r.length d7) l r rfl rfl 35 hl
  have b8 := h8.blk 1 (b := tp) (o := .cells #[.pointer (some ⟨p, 0, none⟩), .slice A l.length c, .bool lost] 105 (0, 0)) rfl
  have t8 := blk_cell (h8.blk 4 (b := bt) (o := .cells #[.pointer (some ⟨tp, 0, none⟩)] 82 (0, 0)) rfl) 0
  have u8 := blk_cell b8 1
  refine ⟨A7, d7, w7, hr1, A8, d8, w8, hr2, lay_tb h7, (lay_tape h7).2.1, by simpa using t8, by simpa using u8, ?_, ?_⟩
  · exact blk_frozen b8 _
  · have h9 := h8.put 1 (b := tp) (cs := #[.pointer (some ⟨p, 0, none⟩), .slice A l.length c, .bool lost]) (T := 105) rfl 1 (.slice A8 (l.length + 1) d8) #[.pointer (some ⟨p, 0, none⟩), .slice A8 (l.length + 1) d8, .bool lost] (by simp)
    exact h9.drop 6
end
theorem step_of_run {ops : Array Oper} {Q : Exit → Act → World → Prop} {o : Oper} {a : Act} {K : Act → World → Prop} {E : Prop} {W w1 : World} {v u v1 : Value} (hgd : o.guard = none) (T : TypeId) (s x : Operand) (ho : o.op = .call { callee := .builtin .append, args := #[s, x], argTypes := #[T, T] }) (hs : a.eval s = v) (hx : a.eval x = u)
    (hr : (Builtin.append_ #[T, T] o.type #[v, u]).run Try.prog W = .ok v1 w1) (h : K (a.put o.dst v1) w1) : if Region.wanted o (yielded ops a.tmps) = true then Oper.wp Try.prog o a W K Q else E := by
  rw [if_pos (by simp [Region.wanted, hgd])]
  unfold Oper.wp execOp
  simp only [ho, resolve, invoke, builtin, Sem.run_bind, Sem.run_pure, Result.andThen_ok, List.map_toArray, List.map_cons, List.map_nil, hs, hx, hr]
  exact h
/-- What lay leaves. -/
def LaySays (w0 : World) (p tp : Nat) (t : Ts) (r : List UInt8) (R : Asr) (e : Ending) (w' : World) : Prop :=
  e = .returned (.int .i64 (t.lay r).1) ∧ Has w0 w' [spoolA p (t.lay r).2.sp, tapeB 105 tp p (t.lay r).2.l (t.lay r).2.lost, R]
theorem put_n (r : List UInt8) (A : Option Addr) (m c : Nat) (hm : m = r.length) (w : World) (h : kb.C w A r.length r) (hn : r.length ≤ 8000) :
    Calls Try.prog 22 #[.slice A m c] w fun e w' => ∃ A1 c1 n, n = (putS r).length ∧ e = .returned (.tuple #[.slice A1 n c1, .int .i64 0]) ∧ n ≤ c1 ∧ OwnB w' w.heap.size (.slice A1 n c1) (putS r) ∧ Below w.heap.size w w' := by
  subst hm
  refine (put_calls r A c w h hn).mono ?_
  rintro e w' ⟨v, rfl, ho, hb⟩
  obtain ⟨A1, c1, rfl, hc, _⟩ := ho.reads
  exact ⟨A1, c1, _, rfl, rfl, hc, ho, hb⟩
set_option maxHeartbeats 1000000 in
set_option maxRecDepth 100000 in
theorem lay_long {w0 w : World} {p tp : Nat} {R : Asr} {t : Ts} (H0 : Has w0 w [spoolA p t.sp, tapeB 105 tp p t.l false, R]) (r : List UInt8) (A : Option Addr) (m c : Nat) (hm : m = r.length) (hr : ReadsIn w0 R A r) (hl : 8000 < r.length) (hlost : t.lost = false) :
    Calls Try.prog 71 #[.pointer (some ⟨tp, 0, none⟩), .slice A m c] w (LaySays w0 p tp t r R) := by
  have hrm : r.length ≤ 9223372036854775807 := (H0.in_ 2 rfl hr).2.1
  obtain ⟨A1, c1, _, HL⟩ := lay_start H0
  have HL := Aside0.mk HL
  have HR := Aside0.mk (show t.lay r = (3, t) by unfold Ts.lay; rw [if_pos hl])
  have HT := Lib.hid hlost
  subst hm
  have hmf : ∀ (fn : Fn) (first cap : Array Value) (w : World), (Instr.makeFunc fn first cap).run Try.prog w = .ok (.func fn first cap) w := fun _ _ _ _ => rfl
  clear H0 hr hlost
  go_enter_defers Try.func71, Try.ntmps71
  go_wp2_with (go_at_call 22; refine (put_long r A c _ hrm hl).mono ?_; rintro e w1 ⟨rfl, hw⟩; obtain rfl := hw.symm; clear hw)
  refine leaves_cons (f := 74) (args := #[.pointer (some ⟨w.heap.size, 0, none⟩), .pointer (some ⟨w.heap.size + 1, 0, none⟩)]) (by simp) (by simp [go_sem]) ?_
  refine (lay_deferred _ tp _ _ 3 .returning (lay_tb (HL.out 3)) (lay_eb (HL.out 3)).1 (lay_tape (HL.out 3)).2.2.1 ((lay_tape (HL.out 3)).2.2.2 2)).mono ?_
  rintro e' u' w'' ⟨rfl, rfl, rfl⟩
  have hx := lay_after (HL.out 3) (decide ((3 : Int) = 190))
  have hy : LaySays w0 p tp t r R (.returned (.int .i64 3)) ((((w.alloc (.cells #[.pointer (some ⟨tp, 0, none⟩)] 82)).alloc (.cells #[.int .i64 3] 27)).setCell ⟨tp, 2, none⟩ (.bool false)).drew) := by
    unfold LaySays
    rw [HR.out, HT.out]
    exact ⟨rfl, lay_done (HL.out 3) false⟩
  have HY := Aside0.mk hy
  clear hy
  simp [Leaves, settle, results, Try.results71, go_sem]
  exact HY.out
set_option maxHeartbeats 2000000 in
set_option maxRecDepth 100000 in
theorem lay_short {w0 w : World} {p tp : Nat} {R : Asr} {t : Ts} (H0 : Has w0 w [spoolA p t.sp, tapeB 105 tp p t.l false, R]) (r : List UInt8) (A : Option Addr) (m c : Nat) (hm : m = r.length) (hmc : m ≤ c) (hr : ReadsIn w0 R A r) (hl : r.length ≤ 8000) (hok : t.Ok) :
    Calls Try.prog 71 #[.pointer (some ⟨tp, 0, none⟩), .slice A m c] w (LaySays w0 p tp t r R) := by
  have HR := Aside0.mk hr
  obtain ⟨A1, c1, _, HL⟩ := lay_start H0
  have HL := Aside0.mk (HL 0)
  have hmf : ∀ (fn : Fn) (first cap : Array Value) (w : World), (Instr.makeFunc fn first cap).run Try.prog w = .ok (.func fn first cap) w := fun _ _ _ _ => rfl
  obtain ⟨e1, s1, ha⟩ : ∃ e1 s1, t.sp.add (putS r) = (e1, s1) := ⟨_, _, rfl⟩
  obtain ⟨e2, s2, hs⟩ : ∃ e2 s2, s1.sync = (e2, s2) := ⟨_, _, rfl⟩
  have HA := Aside0.mk ha
  have HSY := Aside0.mk hs
  have HM := Lib.hid hm
  have hlen : (t.l.length + 1) * 24 ≤ 140737488355328 := by
    have h1 := hok.len
    have h2 := cat_len t.l
    have h3 := hok.sp.len
    have h4 := hok.sp.room
    omega
  have hm8 : m ≤ 8000 := by omega
  clear H0 hr
  by_cases h1 : e1 = 0
  · subst h1
    by_cases h2 : e2 = 0
    · subst h2
      have HY := Aside0.mk (show t.lay r = (0, ⟨s2, t.l ++ [r], false⟩) by unfold Ts.lay; rw [if_neg (by omega), ha, if_neg (by simp), hs, if_neg (by simp)])
      clear ha hs hm
      go_enter_defers Try.func71, Try.ntmps71
      go_upto_region 11 with (first
        | (go_at_call 22; refine (put_n r A m c HM.out _ (HL.out.in_ 2 rfl HR.out) hl).mono ?_; rintro e w1 ⟨A3, c3, n3, hn3, rfl, hc3, ho3, hb3⟩; have H1 : Aside0 (Has w0 w1 (LayL p tp w.heap.size (w.heap.size + 1) t.sp A1 t.l.length c1 t.l R false 0 [bytesA (.slice A3 n3 c3) (putS r)])) := Aside0.mk (HL.out.addE (.bytes ho3 hb3)); have HN3 := Lib.hid hn3; obtain ⟨x1, x2⟩ := lay_eb H1.out; have H2 := Aside0.mk (lay_setE H1.out 0); have y1 := lay_tb H2.out; obtain ⟨z0, z1, z2, z3⟩ := lay_tape H2.out; obtain ⟨v1, v2⟩ := lay_eb H2.out; clear ho3 hb3 hn3)
        | (go_at_call 41; refine (add_h H2.out 0 p t.sp rfl (putS r) n3 HN3.out A3 c3 (H2.out.readB 6 rfl).2.2 hc3 0 s1 HA.out).mono ?_; rintro e w3 ⟨rfl, hs3⟩; have H3 : Aside0 (Has w0 w3 (LayL p tp w.heap.size (w.heap.size + 1) s1 A1 t.l.length c1 t.l R false 0 [])) := Aside0.mk (Has.drop hs3 6); have q1 := lay_tb H3.out; obtain ⟨q2, q3, q4, q5⟩ := lay_tape H3.out; clear hs3)
        | (go_at_call 40; refine (sync_h H3.out 0 p s1 rfl 0 s2 HSY.out).mono ?_; rintro e w4 ⟨rfl, hs4⟩; have H4 : Aside0 (Has w0 w4 (LayL p tp w.heap.size (w.heap.size + 1) s2 A1 t.l.length c1 t.l R false 0 [])) := Aside0.mk hs4; have k1 := lay_tb H4.out; obtain ⟨k2, k3, k4, k5⟩ := lay_tape H4.out; clear hs4))
      have H5 := Aside0.mk H4.out.drew
      obtain ⟨A7, d7, w7, hr1, A8, d8, w8, hr2, ht7, hu7, ht8, hu8, hf8, h9⟩ := lay_more H5.out rfl r A m c HM.out hmc HR.out (by omega) hlen
      have H9 := Aside0.mk h9
      have HR1 := Aside0.mk hr1
      have HR2 := Aside0.mk hr2
      have ht4 : w4.drew.cell? ⟨w.heap.size, 0, none⟩ = some (.pointer (some ⟨tp, 0, none⟩)) := k1
      have hu4 : w4.drew.cell? ⟨tp, 1, none⟩ = some (.slice A1 t.l.length c1) := k3
      have n1 : (w4.alloc (.cells #[] 5)).cell? ⟨w.heap.size, 0, none⟩ = some (.pointer (some ⟨tp, 0, none⟩)) := pw_cell_below (below_alloc (Below.refl _ _) _) k1
      have n2 : (w4.alloc (.cells #[] 5)).cell? ⟨tp, 1, none⟩ = some (.slice A1 t.l.length c1) := pw_cell_below (below_alloc (Below.refl _ _) _) k3
      have n3 : (w7.alloc (.cells #[.slice A7 m d7] 22)).cell? ⟨w.heap.size, 0, none⟩ = some (.pointer (some ⟨tp, 0, none⟩)) := pw_cell_below (below_alloc (Below.refl _ _) _) ht7
      have n4 : (w7.alloc (.cells #[.slice A7 m d7] 22)).cell? ⟨tp, 1, none⟩ = some (.slice A1 t.l.length c1) := pw_cell_below (below_alloc (Below.refl _ _) _) hu7
      clear h9 H5 hr1 hr2 q1 q2 q3 q4 q5 y1 z0 z1 z2 z3 v1 v2 x1 x2
      go_cut [] from 34 to 45 (fun wx => Aside0 (Has w0 wx (LayL p tp w.heap.size (w.heap.size + 1) s2 A8 (t.l.length + 1) d8 (t.l ++ [r]) R false 0 [])))
      case first =>
        refine wp_region_noPanic ?_
        go_region_law ((first
          | refine step_of_run rfl 22 (.tmp 39) (.tmp 40) rfl (by rfl) (by rfl) HR1.out ?_
          | refine step_of_run rfl 35 (.tmp 38) (.tmp 42) rfl (by rfl) (by rfl) HR2.out ?_))
        all_goals (refine NoPanic.normal ?_; go_wp2_with fail; go_meet; exact H9)
      case rest =>
        obtain ⟨g1, g2⟩ := lay_eb hcut.out
        have H10 := Aside0.mk (lay_setE hcut.out 0)
        clear hcut H9 HR1 HR2 ht4 hu4 n1 n2 n3 n4 ht7 hu7 ht8 hu8 hf8 k1 k2 k3 k4 k5
        go_wp2_with fail
        refine leaves_cons (f := 74) (args := #[.pointer (some ⟨w.heap.size, 0, none⟩), .pointer (some ⟨w.heap.size + 1, 0, none⟩)]) (by simp) (by simp [go_sem]) ?_
        refine (lay_deferred _ tp _ _ 0 .returning (lay_tb H10.out) (lay_eb H10.out).1 (lay_tape H10.out).2.2.1 ((lay_tape H10.out).2.2.2 2)).mono ?_
        rintro e' u' w'' ⟨rfl, rfl, rfl⟩
        have hx := lay_after H10.out false
        have HYY := lay_done H10.out false
        have HY2 := Aside0.mk (show LaySays w0 p tp t r R (.returned (.int .i64 0)) _ from ⟨by rw [HY.out], by rw [HY.out]; exact HYY⟩)
        clear HYY
        simp [Leaves, settle, results, Try.results71, go_sem, hx]
        exact HY2.out
    · have hz : (e2 != 0) = true := by simpa using h2
      have HY := Aside0.mk (show t.lay r = (e2, ⟨s2, t.l, decide (e2 = 190)⟩) by unfold Ts.lay; rw [if_neg (by omega), ha, if_neg (by simp), hs, if_pos h2])
      clear h2 ha hs hm
      go_enter_defers Try.func71, Try.ntmps71
      go_wp2_with (first
        | (go_at_call 22; refine (put_n r A m c HM.out _ (HL.out.in_ 2 rfl HR.out) hl).mono ?_; rintro e w1 ⟨A3, c3, n3, hn3, rfl, hc3, ho3, hb3⟩; have H1 : Aside0 (Has w0 w1 (LayL p tp w.heap.size (w.heap.size + 1) t.sp A1 t.l.length c1 t.l R false 0 [bytesA (.slice A3 n3 c3) (putS r)])) := Aside0.mk (HL.out.addE (.bytes ho3 hb3)); have HN3 := Lib.hid hn3; obtain ⟨x1, x2⟩ := lay_eb H1.out; have H2 := Aside0.mk (lay_setE H1.out 0); have y1 := lay_tb H2.out; obtain ⟨z0, z1, z2, z3⟩ := lay_tape H2.out; obtain ⟨v1, v2⟩ := lay_eb H2.out; clear ho3 hb3 hn3)
        | (go_at_call 41; refine (add_h H2.out 0 p t.sp rfl (putS r) n3 HN3.out A3 c3 (H2.out.readB 6 rfl).2.2 hc3 0 s1 HA.out).mono ?_; rintro e w3 ⟨rfl, hs3⟩; have H3 : Aside0 (Has w0 w3 (LayL p tp w.heap.size (w.heap.size + 1) s1 A1 t.l.length c1 t.l R false 0 [])) := Aside0.mk (Has.drop hs3 6); have q1 := lay_tb H3.out; obtain ⟨q2, q3, q4, q5⟩ := lay_tape H3.out; clear hs3)
        | (go_at_call 40; refine (sync_h H3.out 0 p s1 rfl e2 s2 HSY.out).mono ?_; rintro e w4 ⟨rfl, hs4⟩; have H4 : Aside0 (Has w0 w4 (LayL p tp w.heap.size (w.heap.size + 1) s2 A1 t.l.length c1 t.l R false 0 [])) := Aside0.mk hs4; obtain ⟨g1, g2⟩ := lay_eb H4.out; have H5 := Aside0.mk (lay_setE H4.out e2); clear hs4))
      refine leaves_cons (f := 74) (args := #[.pointer (some ⟨w.heap.size, 0, none⟩), .pointer (some ⟨w.heap.size + 1, 0, none⟩)]) (by simp) (by simp [go_sem]) ?_
      refine (lay_deferred _ tp _ _ e2 .returning (lay_tb H5.out) (lay_eb H5.out).1 (lay_tape H5.out).2.2.1 ((lay_tape H5.out).2.2.2 2)).mono ?_
      rintro e' u' w'' ⟨rfl, rfl, rfl⟩
      have hx := lay_after H5.out (decide (e2 = 190))
      have HYY := lay_done H5.out (decide (e2 = 190))
      have HY2 := Aside0.mk (show LaySays w0 p tp t r R (.returned (.int .i64 e2)) _ from ⟨by rw [HY.out], by rw [HY.out]; exact HYY⟩)
      clear HYY
      generalize decide (e2 = 190) = bb at *
      simp [Leaves, settle, results, Try.results71, go_sem, hx]
      exact HY2.out
  · have hz : (e1 != 0) = true := by simpa using h1
    have HY := Aside0.mk (show t.lay r = (e1, ⟨s1, t.l, decide (e1 = 190)⟩) by unfold Ts.lay; rw [if_neg (by omega), ha, if_pos h1])
    clear h1 ha hs hm
    go_enter_defers Try.func71, Try.ntmps71
    go_wp2_with (first
      | (go_at_call 22; refine (put_n r A m c HM.out _ (HL.out.in_ 2 rfl HR.out) hl).mono ?_; rintro e w1 ⟨A3, c3, n3, hn3, rfl, hc3, ho3, hb3⟩; have H1 : Aside0 (Has w0 w1 (LayL p tp w.heap.size (w.heap.size + 1) t.sp A1 t.l.length c1 t.l R false 0 [bytesA (.slice A3 n3 c3) (putS r)])) := Aside0.mk (HL.out.addE (.bytes ho3 hb3)); have HN3 := Lib.hid hn3; obtain ⟨x1, x2⟩ := lay_eb H1.out; have H2 := Aside0.mk (lay_setE H1.out 0); have y1 := lay_tb H2.out; obtain ⟨z0, z1, z2, z3⟩ := lay_tape H2.out; obtain ⟨v1, v2⟩ := lay_eb H2.out; clear ho3 hb3 hn3)
      | (go_at_call 41; refine (add_h H2.out 0 p t.sp rfl (putS r) n3 HN3.out A3 c3 (H2.out.readB 6 rfl).2.2 hc3 e1 s1 HA.out).mono ?_; rintro e w3 ⟨rfl, hs3⟩; have H3 : Aside0 (Has w0 w3 (LayL p tp w.heap.size (w.heap.size + 1) s1 A1 t.l.length c1 t.l R false 0 [])) := Aside0.mk (Has.drop hs3 6); obtain ⟨g1, g2⟩ := lay_eb H3.out; have H4 := Aside0.mk (lay_setE H3.out e1); clear hs3))
    refine leaves_cons (f := 74) (args := #[.pointer (some ⟨w.heap.size, 0, none⟩), .pointer (some ⟨w.heap.size + 1, 0, none⟩)]) (by simp) (by simp [go_sem]) ?_
    refine (lay_deferred _ tp _ _ e1 .returning (lay_tb H4.out) (lay_eb H4.out).1 (lay_tape H4.out).2.2.1 ((lay_tape H4.out).2.2.2 2)).mono ?_
    rintro e' u' w'' ⟨rfl, rfl, rfl⟩
    have hx := lay_after H4.out (decide (e1 = 190))
    have HYY := lay_done H4.out (decide (e1 = 190))
    have HY2 := Aside0.mk (show LaySays w0 p tp t r R (.returned (.int .i64 e1)) _ from ⟨by rw [HY.out], by rw [HY.out]; exact HYY⟩)
    clear HYY
    generalize decide (e1 = 190) = bb at *
    simp [Leaves, settle, results, Try.results71, go_sem, hx]
    exact HY2.out
end Go.Proofs.Ytahaoakolgomdaa


/- Walks of the tape: Records. -/
namespace Go.Proofs.Ytahaoakolgomdaa
open Go.RowKit Go.Proofs.YtahaoakolgomdaaW.PrintWords Go.Proofs.YtahaoakolgomdaaW.PrintLast Go.Proofs.YtahaoakolgomdaaW.PrintMore
set_option linter.unusedVariables false
set_option linter.unusedSimpArgs false

theorem Star.app {w : World} : ∀ (l1 l2 : List Asr) (F1 F2 : Nat → Prop), Star l1 w F1 → Star l2 w F2 → (∀ k, F1 k → F2 k → False) → Star (l1 ++ l2) w fun k => F1 k ∨ F2 k
  | [], l2, F1, F2, _, h2, _ => Star.up _ _ _ h2 fun k hk => .inr hk
  | X :: l1, l2, F1, F2, ⟨G, H, a1, a2, a3, a4⟩, h2, hd => by
    have := Star.app l1 l2 H F2 a2 h2 fun k hh hf => hd k (a4 k (.inr hh)) hf
    refine ⟨G, fun k => H k ∨ F2 k, a1, this, fun k hg hh => ?_, fun k h => ?_⟩
    · rcases hh with hh | hh
      · exact a3 k hg hh
      · exact hd k (a4 k (.inl hg)) hh
    · rcases h with h | h | h
      · exact .inl (a4 k (.inl h))
      · exact .inl (a4 k (.inr h))
      · exact .inr h
/-- One of them, and the others as one; and what came. -/
theorem Has.one' {w0 w : World} {l : List Asr} (h : Has w0 w l) (i : Nat) (X : Asr) (hi : l[i]? = some X) :
    ∃ R : Asr, R = starA (l.set i empA) ∧ Has w0 w [X, R] ∧ ∀ (X' : Asr) (M : List Asr) (w1 : World), Has w0 w1 (X' :: R :: M) → Has w0 w1 (l.set i X' ++ M) := by
  obtain ⟨R, rfl, h1, _⟩ := h.one i X hi
  refine ⟨_, rfl, h1, fun X' M w1 h1 => ?_⟩
  obtain ⟨⟨F, ⟨G, H0, g1, ⟨H2, H3, m1, m2, m3, m4⟩, g3, g4⟩, h2⟩, h3⟩ := h1
  have hil : i < l.length := (List.getElem?_eq_some_iff.1 hi).1
  have a2 := Star.put_ g1 _ i empA H2 m1 (by rw [List.getElem?_set_self (by simpa using hil)]) fun k hg hh => g3 k hg (m4 k (.inl hh))
  rw [List.set_set] at a2
  have a3 := Star.app _ M _ H3 a2 m2 fun k hk hh => by
    rcases hk with hk | hk
    · exact g3 k hk (m4 k (.inr hh))
    · exact m3 k hk hh
  refine ⟨⟨_, a3, fun k hk => h2 k ?_⟩, h3⟩
  rcases hk with (hk | hk) | hk
  · exact g4 k (.inl hk)
  · exact g4 k (.inr (m4 k (.inl hk)))
  · exact g4 k (.inr (m4 k (.inr hk)))
theorem set_self_ {l : List Asr} {i : Nat} {X : Asr} (hi : l[i]? = some X) : l.set i X = l := by
  obtain ⟨h, rfl⟩ := List.getElem?_eq_some_iff.1 hi
  exact List.set_getElem_self h
theorem fits_getD {l : List (List UInt8)} (hf : fits l) (k : Nat) : (l.getD k []).length ≤ 8000 := by
  rw [List.getD_eq_getElem?_getD]
  cases h : l[k]? with
  | none => simp
  | some x => exact hf x (List.mem_of_getElem? h)
theorem rows_cap {w : World} {b n c : Nat} {A : Option Addr} {l : List (List UInt8)} (h : OwnL w b (.slice A n c) l) : n = l.length ∧ n ≤ c := by
  obtain ⟨A', c', e, h1, _⟩ := h.reads
  injection e with e1 e2 e3
  subst e2 e3
  exact ⟨rfl, h1⟩
theorem take_more {l : List (List UInt8)} {k : Nat} (h : k < l.length) : l.take k ++ [l.getD k []] = l.take (k + 1) := by
  rw [List.take_succ_eq_append_getElem h, List.getD_eq_getElem?_getD, List.getElem?_eq_getElem h]; rfl
set_option maxHeartbeats 1000000 in
set_option maxRecDepth 100000 in
/-- All records, in memory of their own. -/
theorem records_h {w0 w : World} {L : List Asr} (h : Has w0 w L) (i : Nat) {t p : Nat} {l : List (List UInt8)} {lost : Bool} (hi : L[i]? = some (tapeB 105 t p l lost)) (hl : l.length ≤ 1000000) (hf : fits l) (l1 : List (List UInt8)) (hl1 : l1 = if lost then [] else l) :
    Calls Try.prog 62 #[.pointer (some ⟨t, 0, none⟩)] w fun e w' => ∃ A c n, e = .returned (.slice A n c) ∧ n = l1.length ∧ n ≤ c ∧ Has w0 w' (L ++ [rowsA (.slice A n c) l1]) := by
  subst hl1
  cases lost
  · obtain ⟨R, _, h2, hgo⟩ := h.one' i _ hi
    obtain ⟨A, c, hlc, _, h3⟩ := tape_open h2 0 rfl
    have hc := h3.blk 0 (b := t) (o := .cells #[.pointer (some ⟨p, 0, none⟩), .slice A l.length c, .bool false] 105 (0, 0)) rfl
    have c1 := blk_cell hc 1
    simp at c1
    have HG := Aside0.mk hgo
    have H := Aside0.mk h2
    have HF := Aside0.mk hf
    obtain ⟨n, hn⟩ : ∃ n, n = l.length := ⟨_, rfl⟩
    rw [← hn] at c1 hl hlc
    have HN := Lib.hid hn
    have H3 : Aside0 (Has w0 w [blkA t (.cells #[.pointer (some ⟨p, 0, none⟩), .slice A n c, .bool false] 105 (0, 0)), R, rowsA (.slice A n c) l, rowsA (.slice none 0 0) []]) := Aside0.mk (by rw [hn]; exact h3.addE (Fresh.nilL _))
    have HI := Aside0.mk hi
    clear h hi h3 hc hf hn hgo h2
    go_enter Try.func62, Try.ntmps62
    go_wp2_with (go_at_call 70; refine (state_h H.out 0 rfl 0 rfl).mono ?_; rintro e w' ⟨rfl, hw⟩; obtain rfl := hw.symm; clear hw)
    go_loopw [3, 14] (fun v i wr => ∃ (k : Nat) (A1 : Option Addr) (c1 : Nat), i = .int .i64 k ∧ k ≤ n ∧ v = .slice A1 k c1 ∧ k ≤ c1 ∧ Aside0 (Has w0 wr [blkA t (.cells #[.pointer (some ⟨p, 0, none⟩), .slice A n c, .bool false] 105 (0, 0)), R, rowsA (.slice A n c) l, rowsA (.slice A1 k c1) (l.take k)])) (fun _ i _ => n - (intOf i).toNat)
    case atStart => exact ⟨0, none, 0, rfl, Nat.zero_le _, rfl, Nat.le_refl _, H3⟩
    case round =>
      obtain ⟨k, A1, d1, rfl, hk, rfl, hkc, HS⟩ := hrel
      by_cases hlt : k < n
      · have hrows := (HS.out.rows 2 rfl).reads
        obtain ⟨A', c', e1, _, hr⟩ := hrows
        injection e1 with e2 e3 e4
        subst e2 e4
        obtain ⟨ad, A2, c2, rfl, k1, l1, r1⟩ := klb_get hr k (by rw [← e3]; exact hlt)
        have HX8 := Lib.hid (fits_getD HF.out k)
        have HTM := Aside0.mk (take_more (l := l) (k := k) (by rw [← e3]; exact hlt))
        have HTL := Lib.hid (show (l.take k).length = k by rw [List.length_take]; omega)
        obtain ⟨x, hx⟩ : ∃ x, x = l.getD k [] := ⟨_, rfl⟩
        rw [← hx] at k1 l1 r1 HX8 HTM
        have hx8 := HX8.out
        have h6 : Has w0 (wr.alloc (.cells #[] 5)) [blkA t (.cells #[.pointer (some ⟨p, 0, none⟩), .slice (some ad) n c, .bool false] 105 (0, 0)), R, rowsA (.slice (some ad) n c) l, rowsA (.slice A1 k d1) (l.take k), bytesA (.slice (some ⟨wr.heap.size, 0, none⟩) 0 0) []] :=
          HS.out.addE (.bytes (OwnB.lit wr wr.heap.size [] #[] rfl (Nat.le_refl _) (by simp)) (below_alloc (Below.refl _ _) _))
        obtain ⟨A7, d7, w7, hr1, _, h7⟩ := bytes_run h6 4 (.slice (some ⟨wr.heap.size, 0, none⟩) 0 0) [] x x rfl rfl 22 A2 x.length c2 (Kd.C_below r1 (below_alloc (Below.refl _ _) _)) l1 (by simp; omega)
        obtain ⟨A8, d8, w8, hr2, h8⟩ := rows_run h7 3 4 (by decide) (.slice A1 k d1) (.slice A7 x.length d7) (l.take k) x rfl rfl 35 (by rw [HTL.out]; omega)
        rw [HTL.out, HTM.out] at h8
        rw [HTL.out] at hr2
        have H8 : Aside0 (Has w0 w8 [blkA t (.cells #[.pointer (some ⟨p, 0, none⟩), .slice (some ad) n c, .bool false] 105 (0, 0)), R, rowsA (.slice (some ad) n c) l, rowsA (.slice A8 (k + 1) d8) (l.take (k + 1))]) := Aside0.mk (h8.drop 4)
        have hk8 := Lib.hid (show k + 1 ≤ d8 from (rows_cap (h8.rows 3 rfl)).2)
        have HR1 := Aside0.mk hr1
        have HR2 := Aside0.mk hr2
        have hcell : k < n → wr.cell? (ad.add k) = some (.slice A2 x.length c2) := fun _ => k1
        clear h6 h7 h8 hr1 hr2 hr r1 hx e3
        go_wp2_with (first
          | (at_builtin; refine list_of_run rfl 22 (.tmp 19) (.tmp 20) rfl rfl rfl HR1.out ?_)
          | (at_builtin; refine list_of_run rfl 35 (.tmp 18) (.tmp 22) rfl rfl rfl HR2.out ?_))
        go_roundw
        case rel => exact ⟨k + 1, A8, d8, by go_num, by omega, rfl, hk8.out, H8⟩
        case measure => simp [intOf]; omega
      · have hkn : k = n := by omega
        subst hkn
        go_wp2_with fail
        go_ret
        have h9 := HS.out
        rw [List.take_of_length_le (by rw [← HN.out]; exact Nat.le_refl _), HN.out] at h9
        have h10 := (tape_shut h9 0 2 rfl rfl (by decide)).drop 2
        have h11 := HG.out _ _ _ h10
        rw [set_self_ HI.out] at h11
        refine ⟨A1, d1, k, rfl, HN.out, hkc, ?_⟩
        rw [HN.out]
        exact h11
  · have H := Aside0.mk h
    have HI := Aside0.mk hi
    clear h hi hf
    go_enter Try.func62, Try.ntmps62
    go_wp2_with (go_at_call 70; refine (state_h H.out i HI.out 190 rfl).mono ?_; rintro e w' ⟨rfl, hw⟩; obtain rfl := hw.symm; clear hw)
    go_ret
    exact ⟨none, 0, 0, rfl, rfl, Nat.le_refl _, H.out.addE (Fresh.nilL _)⟩
end Go.Proofs.Ytahaoakolgomdaa


/- Walks of the tape: Add, Pack. -/
namespace Go.Proofs.Ytahaoakolgomdaa
open Go.RowKit Go.Proofs.YtahaoakolgomdaaW.PrintWords Go.Proofs.YtahaoakolgomdaaW.PrintLast Go.Proofs.YtahaoakolgomdaaW.PrintMore
set_option linter.unusedVariables false
set_option linter.unusedSimpArgs false

/-- A tape and its spool, and other things. -/
def TapeL (p tp : Nat) (t : Ts) (R : Asr) : List Asr := [spoolA p t.sp, tapeB 105 tp p t.l t.lost, R]
theorem lay_calls {w0 w : World} {p tp : Nat} {R : Asr} {t : Ts} (H0 : Has w0 w (TapeL p tp t R)) (hok : t.Ok) (hlost : t.lost = false) (r : List UInt8) (A : Option Addr) (m c : Nat) (hm : m = r.length) (hmc : m ≤ c) (hr : ReadsIn w0 R A r) (e : Int) (t' : Ts) (ht : t.lay r = (e, t')) :
    Calls Try.prog 71 #[.pointer (some ⟨tp, 0, none⟩), .slice A m c] w fun e0 w' => e0 = .returned (.int .i64 e) ∧ Has w0 w' (TapeL p tp t' R) := by
  unfold TapeL at H0
  rw [hlost] at H0
  by_cases hl : 8000 < r.length
  · refine (lay_long H0 r A m c hm hr hl hlost).mono ?_
    rintro e0 w' ⟨rfl, h⟩
    rw [ht] at h ⊢
    exact ⟨rfl, h⟩
  · refine (lay_short H0 r A m c hm hmc hr (by omega) hok).mono ?_
    rintro e0 w' ⟨rfl, h⟩
    rw [ht] at h ⊢
    exact ⟨rfl, h⟩
theorem Ts.lay_lost {t t' : Ts} {r : List UInt8} (h : t.lay r = (0, t')) (hl : t.lost = false) : t'.lost = false := by
  unfold Ts.lay at h
  split at h
  · cases h
  · split at h
    · rename_i h2
      injection h with h3 _
      exact absurd h3 h2
    · split at h
      · rename_i h2
        injection h with h3 _
        exact absurd h3 h2
      · injection h with _ h4
        rw [← h4]
theorem tadd_calls {w0 w : World} {p tp : Nat} {R : Asr} {t : Ts} (H0 : Has w0 w (TapeL p tp t R)) (hok : t.Ok) (r : List UInt8) (A : Option Addr) (m c : Nat) (hm : m = r.length) (hmc : m ≤ c) (hr : ReadsIn w0 R A r) (e : Int) (t' : Ts) (ht : t.add r = (e, t')) :
    Calls Try.prog 57 #[.pointer (some ⟨tp, 0, none⟩), .slice A m c] w fun e0 w' => e0 = .returned (.int .i64 e) ∧ Has w0 w' (TapeL p tp t' R) := by
  have H := Aside0.mk H0
  cases hl : t.lost with
  | true =>
    have ht2 : (190, t) = (e, t') := by rw [← ht]; unfold Ts.add; rw [if_pos hl]
    injection ht2 with h1 h2
    subst h1 h2
    have HS := Aside0.mk (fun w' (h : Has w0 w' (TapeL p tp t R)) => state_h h 1 rfl 190 (by rw [hl]; rfl))
    clear H0 ht hl hr hm
    go_enter Try.func57, Try.ntmps57
    go_wp2_with (go_at_call 70; refine (HS.out _ H.out).mono ?_; rintro e w' ⟨rfl, hw⟩; obtain rfl := hw.symm; clear hw)
    go_ret
    exact ⟨rfl, H.out⟩
  | false =>
    have ht2 : t.lay r = (e, t') := by rw [← ht]; unfold Ts.add; rw [if_neg (by simp [hl])]
    have HC := Aside0.mk (lay_calls H0 hok hl r A m c hm hmc hr e t' ht2)
    have HS := Aside0.mk (fun w' (h : Has w0 w' (TapeL p tp t R)) => state_h h 1 rfl 0 (by rw [hl]; rfl))
    clear H0 ht hl hr ht2 hm
    go_enter Try.func57, Try.ntmps57
    go_wp2_with (first
      | (go_at_call 70; refine (HS.out _ H.out).mono ?_; rintro e w' ⟨rfl, hw⟩; obtain rfl := hw.symm; clear hw)
      | (go_at_call 71; refine HC.out.mono ?_; rintro e0 w' ⟨rfl, hs⟩; have H2 := Aside0.mk hs; clear hs))
    go_ret
    exact ⟨rfl, H2.out⟩
theorem tooLong_no {l : List (List UInt8)} (h : tooLong l = false) (k : Nat) : (l.getD k []).length ≤ 8000 := by
  refine fits_getD (fun x hx => ?_) k
  unfold tooLong at h
  rw [List.any_eq_false] at h
  have := h x hx
  simpa using this
theorem tooLong_yes {l : List (List UInt8)} (k : Nat) (hk : k < l.length) (h : 8000 < (l.getD k []).length) : tooLong l = true := by
  unfold tooLong
  rw [List.any_eq_true]
  refine ⟨l[k], List.getElem_mem _, ?_⟩
  rw [List.getD_eq_getElem?_getD, List.getElem?_eq_getElem hk] at h
  simpa using h
theorem drop_at {l : List (List UInt8)} {k : Nat} (h : k < l.length) : l.drop k = l.getD k [] :: l.drop (k + 1) := by
  rw [List.drop_eq_getElem_cons h, List.getD_eq_getElem?_getD, List.getElem?_eq_getElem h]; rfl
set_option maxHeartbeats 1000000 in
set_option maxRecDepth 100000 in
theorem pack_long {w0 w : World} {p tp : Nat} {R : Asr} {t : Ts} (H0 : Has w0 w (TapeL p tp t R)) (hlost : t.lost = false) (l : List (List UInt8)) (A : Option Addr) (c : Nat) (hk : klb.C w0 A l.length l) (ht : tooLong l = true) :
    Calls Try.prog 67 #[.pointer (some ⟨tp, 0, none⟩), .slice A l.length c] w fun e0 w' => e0 = .returned (.int .i64 3) ∧ Has w0 w' (TapeL p tp t R) := by
  have hm : l.length ≤ 9223372036854775807 := hk.2.1
  have K := Aside0.mk (Kd.C_below hk H0.old)
  have H := Aside0.mk H0
  have HT := Aside0.mk ht
  have HS := Aside0.mk (fun w' (h : Has w0 w' (TapeL p tp t R)) => state_h h 1 rfl 0 (by rw [hlost]; rfl))
  clear H0 hk ht hlost
  go_enter Try.func67, Try.ntmps67
  go_wp2_with (go_at_call 70; refine (HS.out _ H.out).mono ?_; rintro e w' ⟨rfl, hw⟩; obtain rfl := hw.symm; clear hw)
  go_loop [19] (fun i => ∃ k : Nat, i = .int .i64 k ∧ k ≤ l.length ∧ Aside0 (∀ j, j < k → (l.getD j []).length ≤ 8000)) (fun i => l.length - (intOf i).toNat)
  case atStart => exact ⟨0, rfl, Nat.zero_le _, ⟨fun j hj => by omega⟩⟩
  case round =>
    obtain ⟨k, rfl, hkl, HJ⟩ := hrel
    by_cases hlt : k < l.length
    · obtain ⟨ad, A2, c2, rfl, k1, l1, r1⟩ := klb_get K.out k hlt
      have hyes := Aside0.mk (fun h => tooLong_yes (l := l) k hlt h)
      obtain ⟨x, hx⟩ : ∃ x, x = l.getD k [] := ⟨_, rfl⟩
      have HX := Aside0.mk hx
      rw [← hx] at k1 l1 r1
      have hxm : x.length ≤ 9223372036854775807 := r1.2.1
      clear hx r1
      by_cases h8 : 8000 < x.length
      · have h8' : (8000 : Int) < (x.length : Int) := by omega
        go_wp2_with fail
        go_ret
        exact ⟨rfl, H.out⟩
      · have h8' : ¬ (8000 : Int) < (x.length : Int) := by omega
        go_wp2_with fail
        go_round
        case rel => exact ⟨k + 1, by go_num, by omega, ⟨fun j hj => by
          by_cases e : j = k
          · rw [e, ← HX.out]; omega
          · exact HJ.out j (by omega)⟩⟩
        case measure => simp [intOf]; omega
    · exfalso
      have h1 := HT.out
      unfold tooLong at h1
      rw [List.any_eq_true] at h1
      obtain ⟨x, hx, h2⟩ := h1
      obtain ⟨j, hj, rfl⟩ := List.getElem_of_mem hx
      have h3 := HJ.out j (by omega)
      rw [List.getD_eq_getElem?_getD, List.getElem?_eq_getElem hj] at h3
      simp at h2 h3
      omega
end Go.Proofs.Ytahaoakolgomdaa

