/-
  Part 17 of the proof: texts Uc Ub Tx Tz Ud Ue. No conditions.
-/
import Derived.Test.YtnnmdkglgnlenaaGreatDoorRows
import Derived.Test.YtnnmdkglgnlenaaGreatDoorPpc
import Derived.Test.YtnnmdkglgnlenaaGreatDoorPph
import Derived.Test.YtnnmdkglgnlenaaGreatDoorPpi
import Derived.Test.YtnnmdkglgnlenaaGreatDoorPpp
set_option linter.unusedVariables false
set_option linter.unusedSimpArgs false
set_option maxRecDepth 100000
set_option maxHeartbeats 4000000
namespace Go.Proofs.YtnnmdkglgnlenaaGreatDoor
open Go Go.RowKit Go.Vx
def termsG : List Bool → Nat → List Sym
  | [], _ => []
  | b :: r, i => (if b = true then [] else [⟨1, (i : Nat)⟩]) ++ termsG r (i + 1)
def namesL (k : Nat) : List Sym := (List.range k).map fun (i : Nat) => ⟨3, (i : Nat)⟩
def symbolsG (g : GD) : List Sym := termsG g.triv 0 ++ [⟨2, 0⟩] ++ namesL g.names
theorem termsG_no {l : List Bool} {i k : Nat} {b : Bool} (h : l[i]? = some b) (hb : b = false) : termsG (l.drop i) k = [⟨1, (k : Nat)⟩] ++ termsG (l.drop (i + 1)) (k + 1) := by rw [drop_get h, termsG, hb]; rfl
theorem termsG_yes {l : List Bool} {i k : Nat} {b : Bool} (h : l[i]? = some b) (hb : b = true) : termsG (l.drop i) k = termsG (l.drop (i + 1)) (k + 1) := by rw [drop_get h, termsG, hb]; rfl
theorem namesL_next (k : Nat) : namesL (k + 1) = namesL k ++ [⟨3, (k : Nat)⟩] := by unfold namesL; rw [List.range_succ, List.map_append]; rfl
theorem stand_next {g : GD} {z : Sym} {l : List Itm} {i : Nat} {x : Itm} (hx : l[i]? = some x) (h : ¬ behindG g x = some z) : (∃ y ∈ l.drop i, behindG g y = some z) ↔ (∃ y ∈ l.drop (i + 1), behindG g y = some z) := by
  rw [drop_get hx]
  constructor
  · rintro ⟨y, hy, hb⟩
    rcases List.mem_cons.1 hy with rfl | hy
    · exact absurd hb h
    · exact ⟨y, hy, hb⟩
  · rintro ⟨y, hy, hb⟩; exact ⟨y, List.mem_cons_of_mem _ hy, hb⟩
theorem stand_neg {s : SP} {z : Sym} {x : Itm} (h : x.p = -1 ∧ 0 ≤ x.dot) : behindG s.g x = some z ↔ (x.dot = 0 ∧ z.kind = 3 ∧ z.n = s.start) := by
  unfold behindG rightG
  rw [if_pos h.1]
  constructor
  · intro hb
    have hl := (List.getElem?_eq_some_iff.1 hb).1
    rw [List.length_singleton] at hl
    have : x.dot.toNat = 0 := by omega
    rw [this] at hb
    simp only [List.getElem?_cons_zero, Option.some.injEq] at hb
    rw [← hb]; exact ⟨by omega, rfl, rfl⟩
  · rintro ⟨h0, h1, h2⟩
    rw [h0]
    cases z; simp only at h1 h2; rw [h1, h2]; rfl
theorem stand_pos {s : SP} {z : Sym} {x : Itm} {y : PD} (h : 0 ≤ x.p) (h0 : 0 ≤ x.dot) (hy : s.prods[x.p.toNat]? = some y) : behindG s.g x = some z ↔ ∃ u, y.right[x.dot.toNat]? = some u ∧ u.kind = z.kind ∧ u.n = z.n := by
  unfold behindG
  rw [rightG_at (by omega) h hy]
  constructor
  · intro hb; exact ⟨z, hb, rfl, rfl⟩
  · rintro ⟨u, hu, h1, h2⟩
    rw [hu]; congr 1
    cases u; cases z; simp only at h1 h2; rw [h1, h2]
theorem symbolsRef_calls (s : SP) (w : World) (hS : SpR w s) (hnl : s.lex.length ≤ 100000000000) (hnn : s.names.length ≤ 100000000000) :
    Calls Tryz.prog 22 #[(.agg #[(.slice s.lA s.lex.length s.lc), (.slice s.nA s.names.length s.nc), (.int .i64 s.start), (.slice s.pA s.prods.length s.pc)])] w (Ret (fun v w' => ∃ A' c', v = .slice A' (symbolsG s.g).length c' ∧ NewRow w w' 32 2 Sym.cs (symbolsG s.g) A' c' ∧ Ext w w')) := by
  have hfn := hS.fn.by; have hfl := hS.fl.by
  refine calls_xc (n := 42) (f := fun s_ => [(.agg #[(.slice s.lA s.lex.length s.lc), (.slice s.nA s.names.length s.nc), (.int .i64 s.start), (.slice s.pA s.prods.length s.pc)])].getD s_ undef) Tryz.func22 rfl rfl (by simp) (fun s_ => by simp) ?_
  refine xc_seq ?_
  refine xc_region ?_
  refine xl_op (P := Tryz.prog) (some 1) rfl rfl (ox_box (v := (.agg #[(.slice s.lA s.lex.length s.lc), (.slice s.nA s.names.length s.nc), (.int .i64 s.start), (.slice s.pA s.prods.length s.pc)])) rfl ?_)
  intro w1 e1 z1 b1
  replace b1 : Blk w1 w.heap.size #[(.slice s.lA s.lex.length s.lc), (.slice s.nA s.names.length s.nc), (.int .i64 s.start), (.slice s.pA s.prods.length s.pc)] 26 := b1
  refine xl_op (P := Tryz.prog) (some 2) rfl rfl (ox_assign (v := (.slice none 0 0)) rfl ?_)
  refine xl_nil ?_
  refine xc_seq ?_
  refine xc_region ?_
  refine xl_op (P := Tryz.prog) (some 3) rfl rfl (ox_assign (v := (.slice none 0 0)) rfl ?_)
  refine xl_nil ?_
  refine xc_seq ?_
  refine xc_seq ?_
  refine xc_region ?_
  refine xl_op (P := Tryz.prog) (some 4) rfl rfl (ox_assign (v := (.int .i64 0)) rfl ?_)
  refine xl_nil ?_
  refine xc_block ?_
  refine xc_loopN (fun m_ f_ Wx => ∃ (i : Nat) (y : List Sym) (Ay : Option Addr) (cy : Nat), m_ = s.lex.length - i ∧ (i ≤ s.lex.length) ∧ (y ++ termsG (s.g.triv.drop i) i = termsG s.g.triv 0) ∧ (y.length ≤ i) ∧ f_ 1 = (.pointer (some ⟨w.heap.size, 0, none⟩)) ∧ f_ 2 = (.slice none 0 0) ∧ f_ 4 = (.int .i64 ((i : Nat))) ∧ f_ 3 = (.slice Ay y.length cy) ∧ Vx.Own Wx 32 2 (.slice Ay y.length cy) y.length (y.flatMap Sym.cs) ∧ (∀ k, ((.slice Ay y.length cy) : Value).ownBlock = some k → w1.heap.size ≤ k) ∧ Ext w1 Wx) (s.lex.length) ?_ ?_
  · exact ⟨0, [], none, 0, (by omega), (by omega), rfl, (by simp), rfl, rfl, (by first | exact rfl | exact (congrArg (Value.int .i64) (by omega))), rfl, (Vx.Own.nil _ _ _), (fun _k _h => by simp [Value.ownBlock] at _h), (Chg.refl _ _)⟩
  · rintro m_ f1 w2 ⟨i, y, Ay, cy, hm_f1, hi, hy, hyl, g1_f1, g2_f1, g4_f1, g3_f1, a0_f1, l0_f1, x1⟩
    have hx1 := x1.size
    refine xc_seq ?_
    refine xc_seq ?_
    refine xc_region ?_
    refine xl_op (P := Tryz.prog) (some 6) rfl rfl (ox_move (v := (.int .i64 ((i : Nat)))) g4_f1 ?_)
    refine xl_op (P := Tryz.prog) (some 7) rfl rfl (ox_fieldAddr (b := w.heap.size) (o := 0) tF_26_0 g1_f1 ?_)
    refine xl_op (P := Tryz.prog) (some 8) rfl rfl (ox_load (v := (.slice s.lA s.lex.length s.lc)) tA_22 rfl ((b1.ext x1).cell rfl) ?_)
    refine xl_op (P := Tryz.prog) (some 9) rfl rfl (ox_len (A := s.lA) (n := s.lex.length) (cp := s.lc) rfl tU_22 rfl ?_)
    refine xl_op (P := Tryz.prog) (some 10) rfl rfl (ox_lss (k := .i64) (a := ((i : Nat))) (b := (((s.lex.length : Nat) : Int))) rfl rfl ?_)
    refine xl_nil ?_
    refine xc_if (p := ((i : Nat) : Int) < (((s.lex.length : Nat) : Int))) rfl (fun h1 => ?_) (fun h1 => ?_)
    · skip
      refine xc_skip ?_
      refine xc_seq ?_
      refine xc_block ?_
      refine xc_seq ?_
      refine xc_region ?_
      refine xl_op (P := Tryz.prog) (some 13) rfl rfl (ox_fieldAddr (b := w.heap.size) (o := 0) tF_26_0 g1_f1 ?_)
      refine xl_op (P := Tryz.prog) (some 14) rfl rfl (ox_load (v := (.slice s.lA s.lex.length s.lc)) tA_22 rfl ((b1.ext x1).cell rfl) ?_)
      refine xl_op (P := Tryz.prog) (some 15) rfl rfl (ox_move (v := (.int .i64 ((i : Nat)))) g4_f1 ?_)
      have x2 : Ext w w2 := (Ext.trans e1 x1)
      obtain ⟨x_1, g_1, o_1, hx_1⟩ := row_may (A := s.lA) (cs := LR.cs) i LR.len (by decide) (RowA.ext hS.lex x2)
      obtain ⟨hx_2, hA_1, hc_1⟩ := hx_1 (by first | omega | (simp only [List.length_drop, List.length_replicate, List.length_set, List.length_append, List.length_map, List.length_singleton] at *; omega))
      refine xl_op (P := Tryz.prog) (some 16) rfl rfl (ox_ixA (b := g_1) (o := o_1) (i := ((i : Nat))) i tE_22 hA_1 rfl rfl rfl (by omega) ?_)
      refine xl_op (P := Tryz.prog) (some 17) rfl rfl (ox_fieldAddr (b := g_1) (o := (o_1 + i * 8)) tF_66_1 rfl ?_)
      refine xl_op (P := Tryz.prog) (some 18) rfl rfl (ox_load (v := (.bool x_1.trivia)) tA_4 rfl (CellsL.at1 hc_1 1 rfl) ?_)
      refine xl_op (P := Tryz.prog) (some 19) rfl rfl (ox_not (b := x_1.trivia) rfl ?_)
      refine xl_nil ?_
      refine xc_cond (b := (!x_1.trivia)) rfl (fun h2 => ?_) (fun h2 => ?_)
      · skip
        have h2' := h2
        try simp only [Bool.or_eq_true, Bool.and_eq_true, decide_eq_true_eq, Bool.or_eq_false_iff, Bool.and_eq_false_iff, decide_eq_false_iff_not, Bool.not_eq_true', Bool.not_eq_false'] at h2'
        refine xc_region ?_
        refine xl_op (P := Tryz.prog) (some 20) rfl rfl (ox_move (v := (.slice Ay y.length cy)) g3_f1 ?_)
        refine xl_op (P := Tryz.prog) (some 21) rfl rfl (ox_move (v := (.int .i64 ((i : Nat)))) g4_f1 ?_)
        refine xl_op (P := Tryz.prog) (some 22) rfl rfl (ox_mkStruct (ps := [(0, (.int .i64 1)), (1, (.int .i64 ((i : Nat))))]) (cs := #[(.int .i64 1), (.int .i64 ((i : Nat)))]) tZ_32 tP_32 rfl (by kernel_rfl) ?_)
        refine xl_op (P := Tryz.prog) (some 23) rfl rfl (ox_mkSlice (ps := [(0, (.agg #[(.int .i64 1), (.int .i64 ((i : Nat)))]))]) (zs := #[(.int .i64 0), (.int .i64 0)]) (cs := #[(.int .i64 1), (.int .i64 ((i : Nat)))]) tE_33 rfl (by decide) (by kernel_rfl) (by kernel_rfl) ?_)
        intro w3 e2 z2 b2
        replace b2 : Blk w3 w2.heap.size #[(.int .i64 1), (.int .i64 ((i : Nat)))] 32 := b2
        refine xl_op (P := Tryz.prog) (some 24) rfl rfl (ox_appD (l := y) (r := [(⟨1, (i : Nat)⟩ : Sym)]) (cs := Sym.cs) rfl tE_33 rfl (by decide) Sym.len Sym.one (v := (.slice Ay y.length cy)) rfl rfl (m := 1) rfl (a0_f1.ext e2) b2.all (by first | omega | (simp only [List.length_append, List.length_cons, List.length_nil]; omega)) (by decide) ?_)
        intro A1 c1 w4 o1 e3 at1 hc1
        have he3 := e3.size
        have low1 : ∀ _k, (Value.slice A1 (y ++ [(⟨1, (i : Nat)⟩ : Sym)]).length c1).ownBlock = some _k → w1.heap.size ≤ _k := fun _k _h => by rcases at1 with _e | _e <;> rw [_e] at _h; exact l0_f1 _k _h; exact (by cases _h; omega)
        refine xl_op (P := Tryz.prog) (some 3) rfl rfl (ox_assign (v := (.slice A1 ((y ++ [(⟨1, (i : Nat)⟩ : Sym)]).length) c1)) rfl ?_)
        refine xl_nil ?_
        refine xc_region ?_
        refine xl_op (P := Tryz.prog) (some 11) rfl rfl (ox_move (v := (.int .i64 ((i : Nat)))) g4_f1 ?_)
        refine xl_op (P := Tryz.prog) (some 12) rfl rfl (ox_add64 (a := ((i : Nat))) (b := 1) rfl rfl (by omega) ?_)
        refine xl_op (P := Tryz.prog) (some 4) rfl rfl (ox_assign (v := (.int .i64 ((i : Nat) + 1))) rfl ?_)
        refine xl_nil ?_
        have x3 : Ext w1 w4 := (Chg.trans (Ext.trans x1 e2) e3 (fun b hb hl => (absurd hl (by have _h := l0_f1 b hb; omega))))
        exact ⟨rfl, s.lex.length - (i + 1), by omega, i + 1, y ++ [(⟨1, (i : Nat)⟩ : Sym)], A1, c1, by omega, (by omega), (by rw [← hy, termsG_no (show s.g.triv[i]? = some x_1.trivia from map_get hx_2) (by simpa using h2)]; simp), (by first | omega | (simp only [List.length_append, List.length_cons, List.length_nil]; omega)), g1_f1, g2_f1, (by first | exact rfl | exact (congrArg (Value.int .i64) (by omega))), rfl, o1, low1, x3⟩
      · skip
        have h2' := h2
        try simp only [Bool.or_eq_true, Bool.and_eq_true, decide_eq_true_eq, Bool.or_eq_false_iff, Bool.and_eq_false_iff, decide_eq_false_iff_not, Bool.not_eq_true', Bool.not_eq_false'] at h2'
        refine xc_skip ?_
        refine xc_region ?_
        refine xl_op (P := Tryz.prog) (some 11) rfl rfl (ox_move (v := (.int .i64 ((i : Nat)))) g4_f1 ?_)
        refine xl_op (P := Tryz.prog) (some 12) rfl rfl (ox_add64 (a := ((i : Nat))) (b := 1) rfl rfl (by omega) ?_)
        refine xl_op (P := Tryz.prog) (some 4) rfl rfl (ox_assign (v := (.int .i64 ((i : Nat) + 1))) rfl ?_)
        refine xl_nil ?_
        exact ⟨rfl, s.lex.length - (i + 1), by omega, i + 1, y, Ay, cy, by omega, (by omega), (by rw [← hy, termsG_yes (show s.g.triv[i]? = some x_1.trivia from map_get hx_2) (by simpa using h2)]), (by first | omega | (simp only [List.length_append, List.length_cons, List.length_nil]; omega)), g1_f1, g2_f1, (by first | exact rfl | exact (congrArg (Value.int .i64) (by omega))), g3_f1, a0_f1, l0_f1, x1⟩
    · skip
      refine xc_exit ?_
      refine xc_seq ?_
      refine xc_region ?_
      refine xl_op (P := Tryz.prog) (some 25) rfl rfl (ox_move (v := (.slice Ay y.length cy)) g3_f1 ?_)
      refine xl_op (P := Tryz.prog) (some 26) rfl rfl (ox_mkStruct (ps := [(0, (.int .i64 2))]) (cs := #[(.int .i64 2), (.int .i64 0)]) tZ_32 tP_32 rfl (by kernel_rfl) ?_)
      refine xl_op (P := Tryz.prog) (some 27) rfl rfl (ox_mkSlice (ps := [(0, (.agg #[(.int .i64 2), (.int .i64 0)]))]) (zs := #[(.int .i64 0), (.int .i64 0)]) (cs := #[(.int .i64 2), (.int .i64 0)]) tE_33 rfl (by decide) (by kernel_rfl) (by kernel_rfl) ?_)
      intro w5 e4 z3 b3
      replace b3 : Blk w5 w2.heap.size #[(.int .i64 2), (.int .i64 0)] 32 := b3
      refine xl_op (P := Tryz.prog) (some 28) rfl rfl (ox_appD (l := y) (r := [(⟨2, 0⟩ : Sym)]) (cs := Sym.cs) rfl tE_33 rfl (by decide) Sym.len Sym.one (v := (.slice Ay y.length cy)) rfl rfl (m := 1) rfl (a0_f1.ext e4) b3.all (by first | omega | (simp only [List.length_append, List.length_cons, List.length_nil]; omega)) (by decide) ?_)
      intro A2 c2 w6 o2 e5 at2 hc2
      have he5 := e5.size
      have low2 : ∀ _k, (Value.slice A2 (y ++ [(⟨2, 0⟩ : Sym)]).length c2).ownBlock = some _k → w1.heap.size ≤ _k := fun _k _h => by rcases at2 with _e | _e <;> rw [_e] at _h; exact l0_f1 _k _h; exact (by cases _h; omega)
      refine xl_op (P := Tryz.prog) (some 3) rfl rfl (ox_assign (v := (.slice A2 ((y ++ [(⟨2, 0⟩ : Sym)]).length) c2)) rfl ?_)
      refine xl_nil ?_
      refine xc_seq ?_
      refine xc_seq ?_
      refine xc_region ?_
      refine xl_op (P := Tryz.prog) (some 5) rfl rfl (ox_assign (v := (.int .i64 0)) rfl ?_)
      refine xl_nil ?_
      refine xc_block ?_
      have hy9 : y = termsG s.g.triv 0 := by rw [← hy, List.drop_of_length_le (by rw [s.glex]; omega)]; simp [termsG]
      refine xc_loopN (fun m_ f_ Wx => ∃ (k : Nat) (z : List Sym) (Az : Option Addr) (cz : Nat), m_ = s.names.length - k ∧ (k ≤ s.names.length) ∧ (z = termsG s.g.triv 0 ++ [⟨2, 0⟩] ++ namesL k) ∧ (z.length ≤ s.lex.length + 1 + k) ∧ f_ 1 = (.pointer (some ⟨w.heap.size, 0, none⟩)) ∧ f_ 2 = (.slice none 0 0) ∧ f_ 4 = (.int .i64 ((i : Nat))) ∧ f_ 6 = (.int .i64 ((i : Nat))) ∧ f_ 7 = (.pointer (some ⟨w.heap.size, 0, none⟩)) ∧ f_ 8 = (.slice s.lA s.lex.length s.lc) ∧ f_ 9 = (.int .i64 (((s.lex.length : Nat) : Int))) ∧ f_ 10 = (.bool (decide (((i : Nat) : Int) < (((s.lex.length : Nat) : Int))))) ∧ f_ 25 = (.slice Ay y.length cy) ∧ f_ 26 = (.agg #[(.int .i64 2), (.int .i64 0)]) ∧ f_ 27 = (.slice (some ⟨w2.heap.size, 0, none⟩) 1 1) ∧ f_ 28 = (.slice A2 ((y ++ [(⟨2, 0⟩ : Sym)]).length) c2) ∧ f_ 5 = (.int .i64 ((k : Nat))) ∧ f_ 3 = (.slice Az z.length cz) ∧ Vx.Own Wx 32 2 (.slice Az z.length cz) z.length (z.flatMap Sym.cs) ∧ (∀ k, ((.slice Az z.length cz) : Value).ownBlock = some k → w1.heap.size ≤ k) ∧ (∀ k, ((.slice Az z.length cz) : Value).ownBlock = some k → ((.slice A2 ((y ++ [(⟨2, 0⟩ : Sym)]).length) c2) : Value).ownBlock = some k ∨ w6.heap.size ≤ k) ∧ Chg (fun b => ((.slice A2 ((y ++ [(⟨2, 0⟩ : Sym)]).length) c2) : Value).ownBlock = some b) w6 Wx) (s.names.length) ?_ ?_
      · exact ⟨0, y ++ [(⟨2, 0⟩ : Sym)], A2, c2, (by omega), (by omega), (by rw [← hy9]; simp [namesL]), (by first | omega | (simp only [List.length_append, List.length_cons, List.length_nil]; omega)), g1_f1, g2_f1, g4_f1, rfl, rfl, rfl, rfl, rfl, rfl, rfl, rfl, rfl, (by first | exact rfl | exact (congrArg (Value.int .i64) (by omega))), rfl, o2, low2, (fun k hk => .inl hk), (Chg.refl _ _)⟩
      · rintro m_ f2 w7 ⟨k, z, Az, cz, hm_f2, hk, hz, hzl, g1_f2, g2_f2, g4_f2, g6_f2, g7_f2, g8_f2, g9_f2, g10_f2, g25_f2, g26_f2, g27_f2, g28_f2, g5_f2, g3_f2, a0_f2, l0_f2, r0_f2, x4⟩
        have hx4 := x4.size
        refine xc_seq ?_
        refine xc_seq ?_
        refine xc_region ?_
        refine xl_op (P := Tryz.prog) (some 29) rfl rfl (ox_move (v := (.int .i64 ((k : Nat)))) g5_f2 ?_)
        refine xl_op (P := Tryz.prog) (some 30) rfl rfl (ox_fieldAddr (b := w.heap.size) (o := 0) tF_26_1 g1_f2 ?_)
        have q1 := (((b1.ext x1).ext e4).keep e5 (fun _h => (a0_f1.ext e4).ne_blk ((b1.ext x1).ext e4) (by decide) _ _h rfl))
        have q2 := (q1.keep x4 (fun _h => o2.ne_blk q1 (by decide) _ _h rfl))
        refine xl_op (P := Tryz.prog) (some 31) rfl rfl (ox_load (v := (.slice s.nA s.names.length s.nc)) tA_23 rfl (q2.cell rfl) ?_)
        refine xl_op (P := Tryz.prog) (some 32) rfl rfl (ox_len (A := s.nA) (n := s.names.length) (cp := s.nc) rfl tU_23 rfl ?_)
        refine xl_op (P := Tryz.prog) (some 33) rfl rfl (ox_lss (k := .i64) (a := ((k : Nat))) (b := (((s.names.length : Nat) : Int))) rfl rfl ?_)
        refine xl_nil ?_
        refine xc_if (p := ((k : Nat) : Int) < (((s.names.length : Nat) : Int))) rfl (fun h3 => ?_) (fun h3 => ?_)
        · skip
          refine xc_skip ?_
          refine xc_seq ?_
          refine xc_block ?_
          refine xc_region ?_
          refine xl_op (P := Tryz.prog) (some 36) rfl rfl (ox_move (v := (.slice Az z.length cz)) g3_f2 ?_)
          refine xl_op (P := Tryz.prog) (some 37) rfl rfl (ox_move (v := (.int .i64 ((k : Nat)))) g5_f2 ?_)
          refine xl_op (P := Tryz.prog) (some 38) rfl rfl (ox_mkStruct (ps := [(0, (.int .i64 3)), (1, (.int .i64 ((k : Nat))))]) (cs := #[(.int .i64 3), (.int .i64 ((k : Nat)))]) tZ_32 tP_32 rfl (by kernel_rfl) ?_)
          refine xl_op (P := Tryz.prog) (some 39) rfl rfl (ox_mkSlice (ps := [(0, (.agg #[(.int .i64 3), (.int .i64 ((k : Nat)))]))]) (zs := #[(.int .i64 0), (.int .i64 0)]) (cs := #[(.int .i64 3), (.int .i64 ((k : Nat)))]) tE_33 rfl (by decide) (by kernel_rfl) (by kernel_rfl) ?_)
          intro w8 e6 z4 b4
          replace b4 : Blk w8 w7.heap.size #[(.int .i64 3), (.int .i64 ((k : Nat)))] 32 := b4
          refine xl_op (P := Tryz.prog) (some 40) rfl rfl (ox_appD (l := z) (r := [(⟨3, (k : Nat)⟩ : Sym)]) (cs := Sym.cs) rfl tE_33 rfl (by decide) Sym.len Sym.one (v := (.slice Az z.length cz)) rfl rfl (m := 1) rfl (a0_f2.ext e6) b4.all (by first | omega | (simp only [List.length_append, List.length_cons, List.length_nil]; omega)) (by decide) ?_)
          intro A3 c3 w9 o3 e7 at3 hc3
          have he7 := e7.size
          have low3 : ∀ _k, (Value.slice A3 (z ++ [(⟨3, (k : Nat)⟩ : Sym)]).length c3).ownBlock = some _k → w1.heap.size ≤ _k := fun _k _h => by rcases at3 with _e | _e <;> rw [_e] at _h; exact l0_f2 _k _h; exact (by cases _h; omega)
          have rel1 : ∀ _k, (Value.slice A3 (z ++ [(⟨3, (k : Nat)⟩ : Sym)]).length c3).ownBlock = some _k → ((.slice A2 ((y ++ [(⟨2, 0⟩ : Sym)]).length) c2) : Value).ownBlock = some _k ∨ w6.heap.size ≤ _k := fun _k _h => by rcases at3 with _e | _e <;> rw [_e] at _h; exact r0_f2 _k _h; exact .inr (by cases _h; omega)
          refine xl_op (P := Tryz.prog) (some 3) rfl rfl (ox_assign (v := (.slice A3 ((z ++ [(⟨3, (k : Nat)⟩ : Sym)]).length) c3)) rfl ?_)
          refine xl_nil ?_
          refine xc_region ?_
          refine xl_op (P := Tryz.prog) (some 34) rfl rfl (ox_move (v := (.int .i64 ((k : Nat)))) g5_f2 ?_)
          refine xl_op (P := Tryz.prog) (some 35) rfl rfl (ox_add64 (a := ((k : Nat))) (b := 1) rfl rfl (by omega) ?_)
          refine xl_op (P := Tryz.prog) (some 5) rfl rfl (ox_assign (v := (.int .i64 ((k : Nat) + 1))) rfl ?_)
          refine xl_nil ?_
          have y1 : Chg (fun b => ((.slice A2 ((y ++ [(⟨2, 0⟩ : Sym)]).length) c2) : Value).ownBlock = some b) w6 w9 := (Chg.trans (Chg.ext (Chg.trans (Chg.refl (fun b => ((.slice A2 ((y ++ [(⟨2, 0⟩ : Sym)]).length) c2) : Value).ownBlock = some b) w6) x4 (fun b hb hl => hb)) e6) e7 (fun b hb hl => (r0_f2 b hb).elim (fun hb => hb) (fun _h => absurd hl (by omega))))
          exact ⟨rfl, s.names.length - (k + 1), by omega, k + 1, z ++ [(⟨3, (k : Nat)⟩ : Sym)], A3, c3, by omega, (by omega), (by rw [hz, namesL_next]; simp), (by first | omega | (simp only [List.length_append, List.length_cons, List.length_nil]; omega)), g1_f2, g2_f2, g4_f2, g6_f2, g7_f2, g8_f2, g9_f2, g10_f2, g25_f2, g26_f2, g27_f2, g28_f2, (by first | exact rfl | exact (congrArg (Value.int .i64) (by omega))), rfl, o3, low3, rel1, y1⟩
        · skip
          refine xc_exit ?_
          refine xc_seq ?_
          refine xc_region ?_
          refine xl_op (P := Tryz.prog) (some 41) rfl rfl (ox_move (v := (.slice Az z.length cz)) g3_f2 ?_)
          refine xl_op (P := Tryz.prog) (some 2) rfl rfl (ox_assign (v := (.slice Az z.length cz)) rfl ?_)
          refine xl_nil ?_
          refine xc_ret ?_
          change leaves _ _ _ _ _ _ _
          refine leaves_nil (n := 42) (rs := [.tmp 2]) (vs := [(.slice Az z.length cz)]) rfl ⟨⟨by decide, rfl⟩, trivial⟩ ?_
          have hq9 : z = symbolsG s.g := by rw [hz, show k = s.names.length by omega]; rfl
          have x5 : Ext w w7 := (Chg.trans (Chg.trans (Ext.trans (Ext.trans e1 x1) e4) e5 (fun b hb hl => (absurd hl (by have _h := l0_f1 b hb; omega)))) x4 (fun b hb hl => (absurd hl (by have _h := low2 b hb; omega))))
          exact ⟨_, _, by rw [← hq9]; rfl, by rw [← hq9]; exact ⟨a0_f2, fun k hk => by have _h := l0_f2 k hk; omega⟩, x5⟩
theorem stands_calls (s : SP) (l : List Itm) (A : Option Addr) (c : Nat) (z : Sym) (w : World) (hS : SpR w s) (hA : RowA w A (l.flatMap Itm.cs)) (hn : l.length ≤ 8796093022208) (hI : ∀ x ∈ l, okI s.g x) :
    Calls Tryz.prog 28 #[(.agg #[(.slice s.lA s.lex.length s.lc), (.slice s.nA s.names.length s.nc), (.int .i64 s.start), (.slice s.pA s.prods.length s.pc)]), (.slice A l.length c), (.agg #[(.int .i64 z.kind), (.int .i64 z.n)])] w (Ret (fun v w' => v = .bool (decide (∃ y ∈ l, behindG s.g y = some z)) ∧ Ext w w')) := by
  have hfn := hS.fn.by; have hfl := hS.fl.by; have hfp := hS.fp.le
  refine calls_xc (n := 64) (f := fun s_ => [(.agg #[(.slice s.lA s.lex.length s.lc), (.slice s.nA s.names.length s.nc), (.int .i64 s.start), (.slice s.pA s.prods.length s.pc)]), (.slice A l.length c), (.agg #[(.int .i64 z.kind), (.int .i64 z.n)])].getD s_ undef) Tryz.func28 rfl rfl (by simp) (fun s_ => by simp) ?_
  refine xc_seq ?_
  refine xc_region ?_
  refine xl_op (P := Tryz.prog) (some 3) rfl rfl (ox_box (v := (.agg #[(.slice s.lA s.lex.length s.lc), (.slice s.nA s.names.length s.nc), (.int .i64 s.start), (.slice s.pA s.prods.length s.pc)])) rfl ?_)
  intro w1 e1 z1 b1
  replace b1 : Blk w1 w.heap.size #[(.slice s.lA s.lex.length s.lc), (.slice s.nA s.names.length s.nc), (.int .i64 s.start), (.slice s.pA s.prods.length s.pc)] 26 := b1
  refine xl_op (P := Tryz.prog) (some 5) rfl rfl (ox_box (v := (.agg #[(.int .i64 z.kind), (.int .i64 z.n)])) rfl ?_)
  intro w2 e2 z2 b2
  replace b2 : Blk w2 w1.heap.size #[(.int .i64 z.kind), (.int .i64 z.n)] 32 := b2
  refine xl_op (P := Tryz.prog) (some 6) rfl rfl (ox_assign (v := (.bool false)) rfl ?_)
  refine xl_nil ?_
  refine xc_seq ?_
  refine xc_seq ?_
  refine xc_region ?_
  refine xl_op (P := Tryz.prog) (some 7) rfl rfl (ox_assign (v := (.int .i64 0)) rfl ?_)
  refine xl_nil ?_
  refine xc_block ?_
  refine xc_loopN (fun m_ f_ Wx => ∃ (i : Nat), m_ = l.length - i ∧ (i ≤ l.length) ∧ ((∃ y ∈ l, behindG s.g y = some z) ↔ (∃ y ∈ l.drop i, behindG s.g y = some z)) ∧ f_ 1 = (.slice A l.length c) ∧ f_ 3 = (.pointer (some ⟨w.heap.size, 0, none⟩)) ∧ f_ 5 = (.pointer (some ⟨w1.heap.size, 0, none⟩)) ∧ f_ 7 = (.int .i64 ((i : Nat))) ∧ Ext w2 Wx) (l.length) ?_ ?_
  · exact ⟨0, (by omega), (by omega), Iff.rfl, rfl, rfl, rfl, (by first | exact rfl | exact (congrArg (Value.int .i64) (by omega))), (Chg.refl _ _)⟩
  · rintro m_ f1 w3 ⟨i, hm_f1, hi, hq, g1_f1, g3_f1, g5_f1, g7_f1, x1⟩
    have hx1 := x1.size
    refine xc_seq ?_
    refine xc_seq ?_
    refine xc_region ?_
    refine xl_op (P := Tryz.prog) (some 9) rfl rfl (ox_move (v := (.int .i64 ((i : Nat)))) g7_f1 ?_)
    refine xl_op (P := Tryz.prog) (some 10) rfl rfl (ox_move (v := (.slice A l.length c)) g1_f1 ?_)
    refine xl_op (P := Tryz.prog) (some 11) rfl rfl (ox_len (A := A) (n := l.length) (cp := c) rfl tU_39 rfl ?_)
    refine xl_op (P := Tryz.prog) (some 12) rfl rfl (ox_lss (k := .i64) (a := ((i : Nat))) (b := (((l.length : Nat) : Int))) rfl rfl ?_)
    refine xl_nil ?_
    refine xc_if (p := ((i : Nat) : Int) < (((l.length : Nat) : Int))) rfl (fun h1 => ?_) (fun h1 => ?_)
    · skip
      refine xc_skip ?_
      refine xc_seq ?_
      refine xc_block ?_
      refine xc_seq ?_
      refine xc_seq ?_
      refine xc_region ?_
      refine xl_op (P := Tryz.prog) (some 15) rfl rfl (ox_move (v := (.slice A l.length c)) g1_f1 ?_)
      refine xl_op (P := Tryz.prog) (some 16) rfl rfl (ox_move (v := (.int .i64 ((i : Nat)))) g7_f1 ?_)
      have x2 : Ext w w3 := (Ext.trans (Ext.trans e1 e2) x1)
      obtain ⟨x_1, g_1, o_1, hx_1⟩ := row_may (A := A) (cs := Itm.cs) i Itm.len (by decide) (RowA.ext hA x2)
      obtain ⟨hx_2, hA_1, hc_1⟩ := hx_1 (by first | omega | (simp only [List.length_drop, List.length_replicate, List.length_set, List.length_append, List.length_map, List.length_singleton] at *; omega))
      have hok_x_1 := hI _ (List.mem_of_getElem? hx_2)
      have hok1_x_1 := hok_x_1.1; have hok2_x_1 := hok_x_1.2; rw [s.gprods] at hok1_x_1
      refine xl_op (P := Tryz.prog) (some 17) rfl rfl (ox_ixA (b := g_1) (o := o_1) (i := ((i : Nat))) i tE_39 hA_1 rfl rfl rfl (by omega) ?_)
      refine xl_op (P := Tryz.prog) (some 18) rfl rfl (ox_fieldAddr (b := g_1) (o := (o_1 + i * 2)) tF_42_0 rfl ?_)
      refine xl_op (P := Tryz.prog) (some 19) rfl rfl (ox_load (v := (.int .i64 x_1.p)) tA_3 rfl (CellsL.at1 hc_1 0 rfl) ?_)
      refine xl_op (P := Tryz.prog) (some 20) rfl rfl (ox_lss (k := .i64) (a := x_1.p) (b := 0) rfl rfl ?_)
      refine xl_nil ?_
      refine xc_if (p := (x_1.p : Int) < 0) rfl (fun h2 => ?_) (fun h2 => ?_)
      · skip
        refine xc_seq ?_
        refine xc_seq ?_
        refine xc_region ?_
        refine xl_op (P := Tryz.prog) (some 21) rfl rfl (ox_move (v := (.slice A l.length c)) g1_f1 ?_)
        refine xl_op (P := Tryz.prog) (some 22) rfl rfl (ox_move (v := (.int .i64 ((i : Nat)))) g7_f1 ?_)
        refine xl_op (P := Tryz.prog) (some 23) rfl rfl (ox_ixA (b := g_1) (o := o_1) (i := ((i : Nat))) i tE_39 hA_1 rfl rfl rfl (by omega) ?_)
        refine xl_op (P := Tryz.prog) (some 24) rfl rfl (ox_fieldAddr (b := g_1) (o := (o_1 + i * 2)) tF_42_1 rfl ?_)
        refine xl_op (P := Tryz.prog) (some 25) rfl rfl (ox_load (v := (.int .i64 x_1.dot)) tA_3 rfl (CellsL.at1 hc_1 1 rfl) ?_)
        refine xl_op (P := Tryz.prog) (some 26) rfl rfl (ox_eql (k := .i64) (a := x_1.dot) (b := 0) rfl rfl ?_)
        refine xl_op (P := Tryz.prog) (some 27) rfl rfl (ox_move (v := (.bool (decide ((x_1.dot : Int) = 0)))) rfl ?_)
        by_cases h3 : (x_1.dot : Int) = 0
        · skip
          refine xl_opg (P := Tryz.prog) (some 28) (j := 6) (b := true) rfl rfl (congrArg some (decide_eq_true h3)) (ox_loadN (vs := [(.int .i64 z.kind), (.int .i64 z.n)]) tA_32 tS_32 g5_f1 rfl ⟨(b2.ext x1).cell rfl, (b2.ext x1).cell rfl, trivial⟩ ?_)
          refine xl_opg (P := Tryz.prog) (some 29) (j := 6) (b := true) rfl rfl (congrArg some (decide_eq_true h3)) (ox_fieldAddr (b := w.heap.size) (o := 0) tF_26_2 g3_f1 ?_)
          refine xl_opg (P := Tryz.prog) (some 30) (j := 6) (b := true) rfl rfl (congrArg some (decide_eq_true h3)) (ox_load (v := (.int .i64 s.start)) tA_3 rfl (((b1.ext e2).ext x1).cell rfl) ?_)
          refine xl_opg (P := Tryz.prog) (some 31) (j := 6) (b := true) rfl rfl (congrArg some (decide_eq_true h3)) (ox_mkStruct (ps := [(0, (.int .i64 3)), (1, (.int .i64 s.start))]) (cs := #[(.int .i64 3), (.int .i64 s.start)]) tZ_32 tP_32 rfl (by kernel_rfl) ?_)
          refine xl_opg (P := Tryz.prog) (some 32) (j := 6) (b := true) rfl rfl (congrArg some (decide_eq_true h3)) (ox_eqlF (xs := [(.int .i64 z.kind), (.int .i64 z.n)]) (ys := [(.int .i64 3), (.int .i64 s.start)]) (p := ((z.kind : Int) = 3 ∧ (z.n : Int) = s.start)) fS_32 rfl rfl rfl rfl (by simp) ?_)
          refine xl_op (P := Tryz.prog) (some 33) rfl rfl (ox_pick_t (v := (.bool (decide (((z.kind : Int) = 3 ∧ (z.n : Int) = s.start))))) (congrArg Value.bool (decide_eq_true h3)) rfl ?_)
          refine xl_nil ?_
          refine xc_if (p := ((z.kind : Int) = 3 ∧ (z.n : Int) = s.start)) rfl (fun h4 => ?_) (fun h4 => ?_)
          · skip
            refine xc_seq ?_
            refine xc_region ?_
            refine xl_op (P := Tryz.prog) (some 6) rfl rfl (ox_assign (v := (.bool true)) rfl ?_)
            refine xl_nil ?_
            refine xc_ret ?_
            change leaves _ _ _ _ _ _ _
            refine leaves_nil (n := 64) (rs := [.tmp 6]) (vs := [(.bool true)]) rfl ⟨⟨by decide, rfl⟩, trivial⟩ ?_
            exact ⟨congrArg Value.bool (decide_eq_true ⟨_, List.mem_of_getElem? hx_2, (stand_neg (s := s) (z := z) (x := x_1) (by omega)).2 (by simp_all)⟩).symm, x2⟩
          · skip
            refine xc_skip ?_
            refine xc_exit ?_
            refine xc_region ?_
            refine xl_op (P := Tryz.prog) (some 13) rfl rfl (ox_move (v := (.int .i64 ((i : Nat)))) g7_f1 ?_)
            refine xl_op (P := Tryz.prog) (some 14) rfl rfl (ox_add64 (a := ((i : Nat))) (b := 1) rfl rfl (by omega) ?_)
            refine xl_op (P := Tryz.prog) (some 7) rfl rfl (ox_assign (v := (.int .i64 ((i : Nat) + 1))) rfl ?_)
            refine xl_nil ?_
            exact ⟨rfl, l.length - (i + 1), by omega, i + 1, by omega, (by omega), (hq.trans (stand_next hx_2 (fun hh => by have h9 := (stand_neg (s := s) (z := z) (x := x_1) (by omega)).1 hh; simp_all))), g1_f1, g3_f1, g5_f1, (by first | exact rfl | exact (congrArg (Value.int .i64) (by omega))), x1⟩
        · skip
          refine xl_skip (some 28) (j := 6) (b := true) false rfl rfl (congrArg some (decide_eq_false h3)) (by decide) ?_
          refine xl_skip (some 29) (j := 6) (b := true) false rfl rfl (congrArg some (decide_eq_false h3)) (by decide) ?_
          refine xl_skip (some 30) (j := 6) (b := true) false rfl rfl (congrArg some (decide_eq_false h3)) (by decide) ?_
          refine xl_skip (some 31) (j := 6) (b := true) false rfl rfl (congrArg some (decide_eq_false h3)) (by decide) ?_
          refine xl_skip (some 32) (j := 6) (b := true) false rfl rfl (congrArg some (decide_eq_false h3)) (by decide) ?_
          refine xl_op (P := Tryz.prog) (some 33) rfl rfl (ox_pick_f (v := (.bool false)) (congrArg Value.bool (decide_eq_false h3)) rfl ?_)
          refine xl_nil ?_
          refine xc_cond_f rfl ?_
          refine xc_skip ?_
          refine xc_exit ?_
          refine xc_region ?_
          refine xl_op (P := Tryz.prog) (some 13) rfl rfl (ox_move (v := (.int .i64 ((i : Nat)))) g7_f1 ?_)
          refine xl_op (P := Tryz.prog) (some 14) rfl rfl (ox_add64 (a := ((i : Nat))) (b := 1) rfl rfl (by omega) ?_)
          refine xl_op (P := Tryz.prog) (some 7) rfl rfl (ox_assign (v := (.int .i64 ((i : Nat) + 1))) rfl ?_)
          refine xl_nil ?_
          exact ⟨rfl, l.length - (i + 1), by omega, i + 1, by omega, (by omega), (hq.trans (stand_next hx_2 (fun hh => by have h9 := (stand_neg (s := s) (z := z) (x := x_1) (by omega)).1 hh; simp_all))), g1_f1, g3_f1, g5_f1, (by first | exact rfl | exact (congrArg (Value.int .i64) (by omega))), x1⟩
      · skip
        refine xc_skip ?_
        refine xc_seq ?_
        refine xc_regionE [] (fun W_ => Chg (fun _ => False) w3 W_) hmix ?_
        intro w4 e3 z3
        have hS1 : Chg (fun _ => False) w3 w4 := Ext.to e3
        refine xd_pure 0 (some 34) rfl rfl (by kernel_rfl) (v := (.pointer (some ⟨w.heap.size, 3, none⟩))) (.inl ⟨rfl, fun W_ hW_ => ox_fieldAddr (b := w.heap.size) (o := 0) tF_26_3 g3_f1 ⟨rfl, rfl⟩⟩) ?_
        refine xd_take 1 (some 35) rfl rfl (by kernel_rfl) (v := (.slice s.pA s.prods.length s.pc)) (.inl ⟨rfl, fun W_ hW_ => ox_load (v := (.slice s.pA s.prods.length s.pc)) tA_24 rfl ((((b1.ext e2).ext x1).ext hW_).cell rfl) ⟨rfl, rfl⟩⟩) hS1 ?_
        refine xd_pure 2 (some 36) rfl rfl (by kernel_rfl) (v := (.slice A l.length c)) (.inl ⟨rfl, fun W_ hW_ => ox_move (v := (.slice A l.length c)) g1_f1 ⟨rfl, rfl⟩⟩) ?_
        refine xd_pure 3 (some 37) rfl rfl (by kernel_rfl) (v := (.int .i64 ((i : Nat)))) (.inl ⟨rfl, fun W_ hW_ => ox_move (v := (.int .i64 ((i : Nat)))) g7_f1 ⟨rfl, rfl⟩⟩) ?_
        refine xd_pure 4 (some 38) rfl rfl (by kernel_rfl) (v := (.pointer (some ⟨g_1, o_1 + i * 2, none⟩))) (.inl ⟨rfl, fun W_ hW_ => ox_ixA (b := g_1) (o := o_1) (i := ((i : Nat))) i tE_39 hA_1 rfl rfl rfl (by omega) ⟨rfl, rfl⟩⟩) ?_
        refine xd_pure 5 (some 39) rfl rfl (by kernel_rfl) (v := (.pointer (some ⟨g_1, o_1 + i * 2, none⟩))) (.inl ⟨rfl, fun W_ hW_ => ox_fieldAddr (b := g_1) (o := (o_1 + i * 2)) tF_42_0 rfl ⟨rfl, rfl⟩⟩) ?_
        refine xd_take 6 (some 40) rfl rfl (by kernel_rfl) (v := (.int .i64 x_1.p)) (.inl ⟨rfl, fun W_ hW_ => ox_load (v := (.int .i64 x_1.p)) tA_3 rfl (CellsL.at1 (CellsL.keep hW_ not_false hc_1) 0 rfl) ⟨rfl, rfl⟩⟩) hS1 ?_
        obtain ⟨x_2, g_2, o_2, hx_3⟩ := row_may (A := s.pA) (cs := PD.cs) x_1.p.toNat PD.len (by decide) (RowA.ext hS.prods x2)
        obtain ⟨hx_4, hA_2, hc_2⟩ := hx_3 (by first | omega | (simp only [List.length_drop, List.length_replicate, List.length_set, List.length_append, List.length_map, List.length_singleton] at *; omega))
        have hfr_x_2 := (hS.fr _ (List.mem_of_getElem? hx_4)).le
        refine xd_pure 7 (some 41) rfl rfl (by kernel_rfl) (v := (.pointer (some ⟨g_2, o_2 + x_1.p.toNat * 2, none⟩))) (.inl ⟨rfl, fun W_ hW_ => ox_ixA (b := g_2) (o := o_2) (i := x_1.p) x_1.p.toNat tE_24 hA_2 rfl rfl (by omega) (by omega) ⟨rfl, rfl⟩⟩) ?_
        refine xd_pure 8 (some 42) rfl rfl (by kernel_rfl) (v := (.pointer (some ⟨g_2, o_2 + x_1.p.toNat * 2 + 1, none⟩))) (.inl ⟨rfl, fun W_ hW_ => ox_fieldAddr (b := g_2) (o := (o_2 + x_1.p.toNat * 2)) tF_37_1 rfl ⟨rfl, rfl⟩⟩) ?_
        refine xd_take 9 (some 43) rfl rfl (by kernel_rfl) (v := (.slice x_2.rA x_2.right.length x_2.rc)) (.inl ⟨rfl, fun W_ hW_ => ox_load (v := (.slice x_2.rA x_2.right.length x_2.rc)) tA_33 rfl (CellsL.at1 (CellsL.keep hW_ not_false hc_2) 1 rfl) ⟨rfl, rfl⟩⟩) hS1 ?_
        refine xd_pure 10 (some 8) rfl rfl (by kernel_rfl) (v := (.slice x_2.rA x_2.right.length x_2.rc)) (.inl ⟨rfl, fun W_ hW_ => ox_assign (v := (.slice x_2.rA x_2.right.length x_2.rc)) rfl ⟨rfl, rfl⟩⟩) ?_
        refine xd_done (by kernel_rfl) ?_ _
        refine xc_seq ?_
        by_cases h5 : (x_1.dot : Int) < (((x_2.right.length : Nat) : Int))
        · skip
          refine xc_regionE [] (fun W_ => Chg (fun _ => False) w4 W_) hmix ?_
          intro w5 e4 z4
          have hS2 : Chg (fun _ => False) w4 w5 := Ext.to e4
          refine xd_pure 0 (some 44) rfl rfl (by kernel_rfl) (v := (.slice A l.length c)) (.inl ⟨rfl, fun W_ hW_ => ox_move (v := (.slice A l.length c)) g1_f1 ⟨rfl, rfl⟩⟩) ?_
          refine xd_pure 1 (some 45) rfl rfl (by kernel_rfl) (v := (.int .i64 ((i : Nat)))) (.inl ⟨rfl, fun W_ hW_ => ox_move (v := (.int .i64 ((i : Nat)))) g7_f1 ⟨rfl, rfl⟩⟩) ?_
          have x3 : Ext w3 w5 := (Ext.trans e3 e4)
          refine xd_pure 2 (some 46) rfl rfl (by kernel_rfl) (v := (.pointer (some ⟨g_1, o_1 + i * 2, none⟩))) (.inl ⟨rfl, fun W_ hW_ => ox_ixA (b := g_1) (o := o_1) (i := ((i : Nat))) i tE_39 hA_1 rfl rfl rfl (by omega) ⟨rfl, rfl⟩⟩) ?_
          refine xd_pure 3 (some 47) rfl rfl (by kernel_rfl) (v := (.pointer (some ⟨g_1, o_1 + i * 2 + 1, none⟩))) (.inl ⟨rfl, fun W_ hW_ => ox_fieldAddr (b := g_1) (o := (o_1 + i * 2)) tF_42_1 rfl ⟨rfl, rfl⟩⟩) ?_
          refine xd_take 4 (some 48) rfl rfl (by kernel_rfl) (v := (.int .i64 x_1.dot)) (.inl ⟨rfl, fun W_ hW_ => ox_load (v := (.int .i64 x_1.dot)) tA_3 rfl (CellsL.at1 (CellsL.keep (Ext.trans e3 hW_) not_false hc_1) 1 rfl) ⟨rfl, rfl⟩⟩) hS2 ?_
          refine xd_pure 5 (some 49) rfl rfl (by kernel_rfl) (v := (.slice x_2.rA x_2.right.length x_2.rc)) (.inl ⟨rfl, fun W_ hW_ => ox_move (v := (.slice x_2.rA x_2.right.length x_2.rc)) rfl ⟨rfl, rfl⟩⟩) ?_
          refine xd_pure 6 (some 50) rfl rfl (by kernel_rfl) (v := (.int .i64 (((x_2.right.length : Nat) : Int)))) (.inl ⟨rfl, fun W_ hW_ => ox_len (A := x_2.rA) (n := x_2.right.length) (cp := x_2.rc) rfl tU_33 rfl ⟨rfl, rfl⟩⟩) ?_
          refine xd_pure 7 (some 51) rfl rfl (by kernel_rfl) (v := (.bool (decide ((x_1.dot : Int) < (((x_2.right.length : Nat) : Int)))))) (.inl ⟨rfl, fun W_ hW_ => ox_lss (k := .i64) (a := x_1.dot) (b := (((x_2.right.length : Nat) : Int))) rfl rfl ⟨rfl, rfl⟩⟩) ?_
          refine xd_pure 8 (some 52) rfl rfl (by kernel_rfl) (v := (.bool (decide ((x_1.dot : Int) < (((x_2.right.length : Nat) : Int)))))) (.inl ⟨rfl, fun W_ hW_ => ox_move (v := (.bool (decide ((x_1.dot : Int) < (((x_2.right.length : Nat) : Int)))))) rfl ⟨rfl, rfl⟩⟩) ?_
          refine xd_pure 9 (some 53) rfl rfl (by kernel_rfl) (v := (.slice x_2.rA x_2.right.length x_2.rc)) (.inl ⟨(wanted_of (j := 8) (b := true) rfl (congrArg some (decide_eq_true h5))), fun W_ hW_ => ox_move (v := (.slice x_2.rA x_2.right.length x_2.rc)) rfl ⟨rfl, rfl⟩⟩) ?_
          refine xd_pure 10 (some 54) rfl rfl (by kernel_rfl) (v := (.slice A l.length c)) (.inl ⟨(wanted_of (j := 8) (b := true) rfl (congrArg some (decide_eq_true h5))), fun W_ hW_ => ox_move (v := (.slice A l.length c)) g1_f1 ⟨rfl, rfl⟩⟩) ?_
          refine xd_pure 11 (some 55) rfl rfl (by kernel_rfl) (v := (.int .i64 ((i : Nat)))) (.inl ⟨(wanted_of (j := 8) (b := true) rfl (congrArg some (decide_eq_true h5))), fun W_ hW_ => ox_move (v := (.int .i64 ((i : Nat)))) g7_f1 ⟨rfl, rfl⟩⟩) ?_
          refine xd_pure 12 (some 56) rfl rfl (by kernel_rfl) (v := (.pointer (some ⟨g_1, o_1 + i * 2, none⟩))) (.inl ⟨(wanted_of (j := 8) (b := true) rfl (congrArg some (decide_eq_true h5))), fun W_ hW_ => ox_ixA (b := g_1) (o := o_1) (i := ((i : Nat))) i tE_39 hA_1 rfl rfl rfl (by omega) ⟨rfl, rfl⟩⟩) ?_
          refine xd_pure 13 (some 57) rfl rfl (by kernel_rfl) (v := (.pointer (some ⟨g_1, o_1 + i * 2 + 1, none⟩))) (.inl ⟨(wanted_of (j := 8) (b := true) rfl (congrArg some (decide_eq_true h5))), fun W_ hW_ => ox_fieldAddr (b := g_1) (o := (o_1 + i * 2)) tF_42_1 rfl ⟨rfl, rfl⟩⟩) ?_
          refine xd_take 14 (some 58) rfl rfl (by kernel_rfl) (v := (.int .i64 x_1.dot)) (.inl ⟨(wanted_of (j := 8) (b := true) rfl (congrArg some (decide_eq_true h5))), fun W_ hW_ => ox_load (v := (.int .i64 x_1.dot)) tA_3 rfl (CellsL.at1 (CellsL.keep (Ext.trans e3 hW_) not_false hc_1) 1 rfl) ⟨rfl, rfl⟩⟩) hS2 ?_
          have x4 : Ext w w4 := (Ext.trans x2 e3)
          obtain ⟨x_3, g_3, o_3, hx_5⟩ := row_may (A := x_2.rA) (cs := Sym.cs) x_1.dot.toNat Sym.len (by decide) (RowA.ext ((hS.right _ (List.mem_of_getElem? hx_4))) x4)
          obtain ⟨hx_6, hA_3, hc_3⟩ := hx_5 (by first | omega | (simp only [List.length_drop, List.length_replicate, List.length_set, List.length_append, List.length_map, List.length_singleton] at *; omega))
          refine xd_pure 15 (some 59) rfl rfl (by kernel_rfl) (v := (.pointer (some ⟨g_3, o_3 + x_1.dot.toNat * 2, none⟩))) (.inl ⟨(wanted_of (j := 8) (b := true) rfl (congrArg some (decide_eq_true h5))), fun W_ hW_ => ox_ixA (b := g_3) (o := o_3) (i := x_1.dot) x_1.dot.toNat tE_33 hA_3 rfl rfl (by omega) (by omega) ⟨rfl, rfl⟩⟩) ?_
          refine xd_take 16 (some 60) rfl rfl (by kernel_rfl) (v := (.agg #[(.int .i64 x_3.kind), (.int .i64 x_3.n)])) (.inl ⟨(wanted_of (j := 8) (b := true) rfl (congrArg some (decide_eq_true h5))), fun W_ hW_ => ox_loadN (vs := [(.int .i64 x_3.kind), (.int .i64 x_3.n)]) tA_32 tS_32 rfl rfl (CellsL.keep hW_ not_false hc_3) ⟨rfl, rfl⟩⟩) hS2 ?_
          refine xd_take 17 (some 61) rfl rfl (by kernel_rfl) (v := (.agg #[(.int .i64 z.kind), (.int .i64 z.n)])) (.inl ⟨(wanted_of (j := 8) (b := true) rfl (congrArg some (decide_eq_true h5))), fun W_ hW_ => ox_loadN (vs := [(.int .i64 z.kind), (.int .i64 z.n)]) tA_32 tS_32 g5_f1 rfl ⟨(((b2.ext x1).ext e3).ext hW_).cell rfl, (((b2.ext x1).ext e3).ext hW_).cell rfl, trivial⟩ ⟨rfl, rfl⟩⟩) hS2 ?_
          refine xd_pure 18 (some 62) rfl rfl (by kernel_rfl) (v := (.bool (decide (((x_3.kind : Int) = z.kind ∧ (x_3.n : Int) = z.n))))) (.inl ⟨(wanted_of (j := 8) (b := true) rfl (congrArg some (decide_eq_true h5))), fun W_ hW_ => ox_eqlF (xs := [(.int .i64 x_3.kind), (.int .i64 x_3.n)]) (ys := [(.int .i64 z.kind), (.int .i64 z.n)]) (p := ((x_3.kind : Int) = z.kind ∧ (x_3.n : Int) = z.n)) fS_32 rfl rfl rfl rfl (by simp) ⟨rfl, rfl⟩⟩) ?_
          refine xd_pure 19 (some 63) rfl rfl (by kernel_rfl) (v := (.bool (decide (((x_3.kind : Int) = z.kind ∧ (x_3.n : Int) = z.n))))) (.inl ⟨rfl, fun W_ hW_ => ox_pick_t (v := (.bool (decide (((x_3.kind : Int) = z.kind ∧ (x_3.n : Int) = z.n))))) (congrArg Value.bool (decide_eq_true h5)) rfl ⟨rfl, rfl⟩⟩) ?_
          refine xd_done (by kernel_rfl) ?_ _
          refine xc_if (p := ((x_3.kind : Int) = z.kind ∧ (x_3.n : Int) = z.n)) rfl (fun h6 => ?_) (fun h6 => ?_)
          · skip
            refine xc_seq ?_
            refine xc_region ?_
            refine xl_op (P := Tryz.prog) (some 6) rfl rfl (ox_assign (v := (.bool true)) rfl ?_)
            refine xl_nil ?_
            refine xc_ret ?_
            change leaves _ _ _ _ _ _ _
            refine leaves_nil (n := 64) (rs := [.tmp 6]) (vs := [(.bool true)]) rfl ⟨⟨by decide, rfl⟩, trivial⟩ ?_
            have x5 : Ext w w5 := (Ext.trans x4 e4)
            exact ⟨congrArg Value.bool (decide_eq_true ⟨_, List.mem_of_getElem? hx_2, (stand_pos (s := s) (z := z) (x := x_1) (by omega) hok2_x_1 hx_4).2 (by simp_all)⟩).symm, x5⟩
          · skip
            refine xc_skip ?_
            refine xc_region ?_
            refine xl_op (P := Tryz.prog) (some 13) rfl rfl (ox_move (v := (.int .i64 ((i : Nat)))) g7_f1 ?_)
            refine xl_op (P := Tryz.prog) (some 14) rfl rfl (ox_add64 (a := ((i : Nat))) (b := 1) rfl rfl (by omega) ?_)
            refine xl_op (P := Tryz.prog) (some 7) rfl rfl (ox_assign (v := (.int .i64 ((i : Nat) + 1))) rfl ?_)
            refine xl_nil ?_
            have x6 : Ext w2 w5 := (Ext.trans (Ext.trans x1 e3) e4)
            exact ⟨rfl, l.length - (i + 1), by omega, i + 1, by omega, (by omega), (hq.trans (stand_next hx_2 (fun hh => by have h9 := (stand_pos (s := s) (z := z) (x := x_1) (by omega) hok2_x_1 hx_4).1 hh; simp_all))), g1_f1, g3_f1, g5_f1, (by first | exact rfl | exact (congrArg (Value.int .i64) (by omega))), x6⟩
        · skip
          refine xc_regionE [] (fun W_ => Chg (fun _ => False) w4 W_) hmix ?_
          intro w6 e5 z5
          have hS3 : Chg (fun _ => False) w4 w6 := Ext.to e5
          refine xd_pure 0 (some 44) rfl rfl (by kernel_rfl) (v := (.slice A l.length c)) (.inl ⟨rfl, fun W_ hW_ => ox_move (v := (.slice A l.length c)) g1_f1 ⟨rfl, rfl⟩⟩) ?_
          refine xd_pure 1 (some 45) rfl rfl (by kernel_rfl) (v := (.int .i64 ((i : Nat)))) (.inl ⟨rfl, fun W_ hW_ => ox_move (v := (.int .i64 ((i : Nat)))) g7_f1 ⟨rfl, rfl⟩⟩) ?_
          have x7 : Ext w3 w6 := (Ext.trans e3 e5)
          refine xd_pure 2 (some 46) rfl rfl (by kernel_rfl) (v := (.pointer (some ⟨g_1, o_1 + i * 2, none⟩))) (.inl ⟨rfl, fun W_ hW_ => ox_ixA (b := g_1) (o := o_1) (i := ((i : Nat))) i tE_39 hA_1 rfl rfl rfl (by omega) ⟨rfl, rfl⟩⟩) ?_
          refine xd_pure 3 (some 47) rfl rfl (by kernel_rfl) (v := (.pointer (some ⟨g_1, o_1 + i * 2 + 1, none⟩))) (.inl ⟨rfl, fun W_ hW_ => ox_fieldAddr (b := g_1) (o := (o_1 + i * 2)) tF_42_1 rfl ⟨rfl, rfl⟩⟩) ?_
          refine xd_take 4 (some 48) rfl rfl (by kernel_rfl) (v := (.int .i64 x_1.dot)) (.inl ⟨rfl, fun W_ hW_ => ox_load (v := (.int .i64 x_1.dot)) tA_3 rfl (CellsL.at1 (CellsL.keep (Ext.trans e3 hW_) not_false hc_1) 1 rfl) ⟨rfl, rfl⟩⟩) hS3 ?_
          refine xd_pure 5 (some 49) rfl rfl (by kernel_rfl) (v := (.slice x_2.rA x_2.right.length x_2.rc)) (.inl ⟨rfl, fun W_ hW_ => ox_move (v := (.slice x_2.rA x_2.right.length x_2.rc)) rfl ⟨rfl, rfl⟩⟩) ?_
          refine xd_pure 6 (some 50) rfl rfl (by kernel_rfl) (v := (.int .i64 (((x_2.right.length : Nat) : Int)))) (.inl ⟨rfl, fun W_ hW_ => ox_len (A := x_2.rA) (n := x_2.right.length) (cp := x_2.rc) rfl tU_33 rfl ⟨rfl, rfl⟩⟩) ?_
          refine xd_pure 7 (some 51) rfl rfl (by kernel_rfl) (v := (.bool (decide ((x_1.dot : Int) < (((x_2.right.length : Nat) : Int)))))) (.inl ⟨rfl, fun W_ hW_ => ox_lss (k := .i64) (a := x_1.dot) (b := (((x_2.right.length : Nat) : Int))) rfl rfl ⟨rfl, rfl⟩⟩) ?_
          refine xd_pure 8 (some 52) rfl rfl (by kernel_rfl) (v := (.bool (decide ((x_1.dot : Int) < (((x_2.right.length : Nat) : Int)))))) (.inl ⟨rfl, fun W_ hW_ => ox_move (v := (.bool (decide ((x_1.dot : Int) < (((x_2.right.length : Nat) : Int)))))) rfl ⟨rfl, rfl⟩⟩) ?_
          refine xd_pure 9 (some 53) rfl rfl (by kernel_rfl) (v := undef) (.inr ⟨(wanted_not (j := 8) (b := true) (c := false) rfl (congrArg some (decide_eq_false h5)) (by decide)), rfl⟩) ?_
          refine xd_pure 10 (some 54) rfl rfl (by kernel_rfl) (v := undef) (.inr ⟨(wanted_not (j := 8) (b := true) (c := false) rfl (congrArg some (decide_eq_false h5)) (by decide)), rfl⟩) ?_
          refine xd_pure 11 (some 55) rfl rfl (by kernel_rfl) (v := undef) (.inr ⟨(wanted_not (j := 8) (b := true) (c := false) rfl (congrArg some (decide_eq_false h5)) (by decide)), rfl⟩) ?_
          refine xd_pure 12 (some 56) rfl rfl (by kernel_rfl) (v := undef) (.inr ⟨(wanted_not (j := 8) (b := true) (c := false) rfl (congrArg some (decide_eq_false h5)) (by decide)), rfl⟩) ?_
          refine xd_pure 13 (some 57) rfl rfl (by kernel_rfl) (v := undef) (.inr ⟨(wanted_not (j := 8) (b := true) (c := false) rfl (congrArg some (decide_eq_false h5)) (by decide)), rfl⟩) ?_
          refine xd_take 14 (some 58) rfl rfl (by kernel_rfl) (v := undef) (.inr ⟨(wanted_not (j := 8) (b := true) (c := false) rfl (congrArg some (decide_eq_false h5)) (by decide)), rfl⟩) hS3 ?_
          refine xd_pure 15 (some 59) rfl rfl (by kernel_rfl) (v := undef) (.inr ⟨(wanted_not (j := 8) (b := true) (c := false) rfl (congrArg some (decide_eq_false h5)) (by decide)), rfl⟩) ?_
          refine xd_take 16 (some 60) rfl rfl (by kernel_rfl) (v := undef) (.inr ⟨(wanted_not (j := 8) (b := true) (c := false) rfl (congrArg some (decide_eq_false h5)) (by decide)), rfl⟩) hS3 ?_
          refine xd_take 17 (some 61) rfl rfl (by kernel_rfl) (v := undef) (.inr ⟨(wanted_not (j := 8) (b := true) (c := false) rfl (congrArg some (decide_eq_false h5)) (by decide)), rfl⟩) hS3 ?_
          refine xd_pure 18 (some 62) rfl rfl (by kernel_rfl) (v := undef) (.inr ⟨(wanted_not (j := 8) (b := true) (c := false) rfl (congrArg some (decide_eq_false h5)) (by decide)), rfl⟩) ?_
          refine xd_pure 19 (some 63) rfl rfl (by kernel_rfl) (v := (.bool false)) (.inl ⟨rfl, fun W_ hW_ => ox_pick_f (v := (.bool false)) (congrArg Value.bool (decide_eq_false h5)) rfl ⟨rfl, rfl⟩⟩) ?_
          refine xd_done (by kernel_rfl) ?_ _
          refine xc_cond_f rfl ?_
          refine xc_skip ?_
          refine xc_region ?_
          refine xl_op (P := Tryz.prog) (some 13) rfl rfl (ox_move (v := (.int .i64 ((i : Nat)))) g7_f1 ?_)
          refine xl_op (P := Tryz.prog) (some 14) rfl rfl (ox_add64 (a := ((i : Nat))) (b := 1) rfl rfl (by omega) ?_)
          refine xl_op (P := Tryz.prog) (some 7) rfl rfl (ox_assign (v := (.int .i64 ((i : Nat) + 1))) rfl ?_)
          refine xl_nil ?_
          have x8 : Ext w2 w6 := (Ext.trans (Ext.trans x1 e3) e5)
          exact ⟨rfl, l.length - (i + 1), by omega, i + 1, by omega, (by omega), (hq.trans (stand_next hx_2 (fun hh => by have h9 := (stand_pos (s := s) (z := z) (x := x_1) (by omega) hok2_x_1 hx_4).1 hh; simp_all))), g1_f1, g3_f1, g5_f1, (by first | exact rfl | exact (congrArg (Value.int .i64) (by omega))), x8⟩
    · skip
      refine xc_exit ?_
      refine xc_seq ?_
      refine xc_region ?_
      refine xl_op (P := Tryz.prog) (some 6) rfl rfl (ox_assign (v := (.bool false)) rfl ?_)
      refine xl_nil ?_
      refine xc_ret ?_
      change leaves _ _ _ _ _ _ _
      refine leaves_nil (n := 64) (rs := [.tmp 6]) (vs := [(.bool false)]) rfl ⟨⟨by decide, rfl⟩, trivial⟩ ?_
      have x9 : Ext w w3 := (Ext.trans (Ext.trans e1 e2) x1)
      exact ⟨congrArg Value.bool (decide_eq_false (fun hh => by have h9 := hq.1 hh; rw [List.drop_of_length_le (by omega)] at h9; obtain ⟨y, hy, _⟩ := h9; cases hy)).symm, x9⟩
end Go.Proofs.YtnnmdkglgnlenaaGreatDoor
set_option linter.unusedVariables false
set_option linter.unusedSimpArgs false
set_option maxRecDepth 100000
set_option maxHeartbeats 4000000
namespace Go.Proofs.YtnnmdkglgnlenaaGreatDoor
open Go Go.RowKit Go.Vx
theorem cmpP_mem : ∀ (l : List Sym) (p z : Sym), z ∈ cmpP p l → z ∈ l
  | [], _, _, h => h
  | x :: l, p, z, h => by
    rw [cmpP] at h
    split at h
    · exact List.mem_cons_of_mem _ (cmpP_mem l p z h)
    · rcases List.mem_cons.1 h with rfl | h
      · exact List.mem_cons_self
      · exact List.mem_cons_of_mem _ (cmpP_mem l x z h)
theorem cmpP_has : ∀ (l : List Sym) (p z : Sym), z ∈ l → z = p ∨ z ∈ cmpP p l
  | [], _, _, h => by cases h
  | x :: l, p, z, h => by
    rw [cmpP]
    rcases List.mem_cons.1 h with rfl | h
    · split
      · rename_i e; exact .inl e
      · exact .inr List.mem_cons_self
    · split
      · exact cmpP_has l p z h
      · rcases cmpP_has l x z h with rfl | h
        · exact .inr List.mem_cons_self
        · exact .inr (List.mem_cons_of_mem _ h)
theorem leSym_anti {a b : Sym} (h1 : leSym a b = true) (h2 : leSym b a = true) : a = b := by
  rw [leSym_spec] at *
  cases a; cases b; simp only at h1 h2; congr 1 <;> omega
theorem cmpP_nodup : ∀ (l : List Sym) (p : Sym), l.Pairwise (leSym · · = true) → (∀ x ∈ l, leSym p x = true) → (cmpP p l).Nodup ∧ p ∉ cmpP p l
  | [], _, _, _ => ⟨List.nodup_nil, by intro h; cases h⟩
  | x :: l, p, hs, hp => by
    have h1 := List.pairwise_cons.1 hs
    rw [cmpP]
    split
    · exact cmpP_nodup l p h1.2 fun y hy => hp y (List.mem_cons_of_mem _ hy)
    · rename_i hne
      have ih := cmpP_nodup l x h1.2 h1.1
      refine ⟨List.nodup_cons.2 ⟨ih.2, ih.1⟩, fun hh => ?_⟩
      rcases List.mem_cons.1 hh with rfl | hh
      · exact hne rfl
      · exact hne (leSym_anti (h1.1 p (cmpP_mem l x p hh)) (hp x List.mem_cons_self))
theorem srtSym_sorted (l : List Sym) : (srtSym l).Pairwise (leSym · · = true) := by
  rw [srtSym_x]
  refine srtX_sorted (fun a b c h1 h2 => ?_) (fun a b => ?_) l
  · rw [leSym_spec] at *; omega
  · rw [Bool.or_eq_true, leSym_spec, leSym_spec]; omega
theorem srtSym_mem {l : List Sym} {x : Sym} : x ∈ srtSym l ↔ x ∈ l := List.mem_mergeSort
theorem compL_nodup {l : List Sym} (h : l.Pairwise (leSym · · = true)) : (compL l).Nodup := by
  cases l with
  | nil => exact List.nodup_nil
  | cons x l =>
    have h1 := List.pairwise_cons.1 h
    have := cmpP_nodup l x h1.2 h1.1
    exact List.nodup_cons.2 ⟨this.2, this.1⟩
theorem compL_mem {l : List Sym} {z : Sym} : z ∈ compL l ↔ z ∈ l := by
  cases l with
  | nil => exact Iff.rfl
  | cons x l =>
    rw [compL]
    constructor
    · intro h
      rcases List.mem_cons.1 h with rfl | h
      · exact List.mem_cons_self
      · exact List.mem_cons_of_mem _ (cmpP_mem l x z h)
    · intro h
      rcases List.mem_cons.1 h with rfl | h
      · exact List.mem_cons_self
      · rcases cmpP_has l x z h with rfl | h
        · exact List.mem_cons_self
        · exact List.mem_cons_of_mem _ h
theorem symsG_nodup (g : GD) (l : List Itm) : (symsG g l).Nodup := compL_nodup (srtSym_sorted _)
theorem symsG_mem {g : GD} {l : List Itm} {z : Sym} : z ∈ symsG g l ↔ ∃ x ∈ l, behindG g x = some z := by
  unfold symsG
  rw [compL_mem, srtSym_mem, List.mem_filterMap]
theorem arcTo_mem : ∀ {l : List Arc} {a : Arc}, (l.map Arc.sym).Nodup → a ∈ l → arcTo a.sym l = a.to
  | [], _, _, h => by cases h
  | b :: l, a, hn, h => by
    rw [List.map_cons] at hn
    have h1 := List.nodup_cons.1 hn
    rw [arcTo]
    rcases List.mem_cons.1 h with rfl | h
    · rw [if_pos ⟨rfl, rfl⟩]
    · rw [if_neg, arcTo_mem h1.2 h]
      rintro ⟨e1, e2⟩
      refine h1.1 ?_
      have : b.sym = a.sym := by
        cases hb : b.sym; cases ha : a.sym; rw [hb, ha] at e1 e2; simp only at e1 e2; rw [e1, e2]
      rw [this]; exact List.mem_map_of_mem h
theorem arcTo_some : ∀ {l : List Arc} {z : Sym}, 0 ≤ arcTo z l → ∃ a ∈ l, a.sym = z ∧ a.to = arcTo z l
  | [], _, h => by simp [arcTo] at h
  | b :: l, z, h => by
    rw [arcTo] at h ⊢
    split
    · rename_i e
      refine ⟨b, List.mem_cons_self, ?_, rfl⟩
      cases hb : b.sym; cases z; rw [hb] at e; simp only at e; rw [e.1, e.2]
    · rename_i e
      rw [if_neg e] at h
      obtain ⟨a, h1, h2, h3⟩ := arcTo_some h
      exact ⟨a, List.mem_cons_of_mem _ h1, h2, h3⟩
section
variable {st : List ASt} {k : Nat} {x : ASt}
theorem isS_of (hx : st[k]? = some x) : isS st (k : Nat) = true := by
  have := (List.getElem?_eq_some_iff.1 hx).1
  unfold isS; simp; omega
theorem itemsS_at (hx : st[k]? = some x) : itemsS st (k : Nat) = x.items := by unfold itemsS; rw [if_pos (isS_of hx)]; simp only [Int.toNat_natCast]; rw [bangA hx]
theorem kernS_at (hx : st[k]? = some x) : kernS st (k : Nat) = x.kernel := by unfold kernS; rw [if_pos (isS_of hx)]; simp only [Int.toNat_natCast]; rw [bangA hx]
theorem goS_at (hx : st[k]? = some x) (z : Sym) : goS st (k : Nat) z = arcTo z x.arcs := by unfold goS; rw [if_pos (isS_of hx)]; simp only [Int.toNat_natCast]; rw [bangA hx]
theorem symS_at (hx : st[k]? = some x) (h : k ≠ 0) : symS st (k : Nat) = (x.sym, true) := by
  unfold symS
  rw [if_neg (by rintro (h9 | h9); omega; rw [isS_of hx] at h9; cases h9)]
  simp only [Int.toNat_natCast]; rw [bangA hx]
theorem pathS_at (hx : st[k]? = some x) : pathS st (k : Nat) = (wayS st k (k : Nat)).reverse := by unfold pathS; rw [if_pos (isS_of hx)]; simp only [Int.toNat_natCast]
theorem runS_append : ∀ {l : List Sym} {q r : Int} (m : List Sym), runS st q l = r → 0 ≤ r → runS st q (l ++ m) = runS st r m
  | [], q, r, m, h, _ => by rw [runS] at h; rw [h]; rfl
  | z :: l, q, r, m, h, hr => by
    rw [runS] at h
    split at h
    · omega
    · rename_i hn
      rw [List.cons_append, runS, if_neg hn]
      exact runS_append m h hr
end
section
variable {g : GD} {st : List ASt} (h : Aut g st)
include h
theorem wayS_two : ∀ (f f' k : Nat) (x : ASt), st[k]? = some x → k ≤ f → k ≤ f' → wayS st f (k : Nat) = wayS st f' (k : Nat) := by
  intro f
  induction f with
  | zero =>
    intro f' k x hx h1 h2
    have : k = 0 := by omega
    subst this
    cases f' <;> simp [wayS]
  | succ f ih =>
    intro f' k x hx h1 h2
    by_cases hk : k = 0
    · subst hk; cases f' <;> simp [wayS]
    · obtain ⟨f'', rfl⟩ : ∃ n, f' = n + 1 := ⟨f' - 1, by omega⟩
      obtain ⟨m, y, e1, e2, e3, _⟩ := h.frm k x hx hk
      rw [wayS, wayS, if_neg (by omega), if_neg (by omega)]
      simp only [Int.toNat_natCast]
      rw [bangA hx, e1, ih f'' m y e3 (by omega) (by omega)]
theorem path_zero : pathS st 0 = [] := by
  obtain ⟨x, hx, _⟩ := h.first
  have := pathS_at hx
  simpa [wayS] using this
theorem path_next {k m : Nat} {x y : ASt} (hx : st[k]? = some x) (hk : k ≠ 0) (e1 : x.frm = (m : Nat)) (e2 : m < k) (e3 : st[m]? = some y) : pathS st (k : Nat) = pathS st (m : Nat) ++ [x.sym] := by
  rw [pathS_at hx, pathS_at e3]
  obtain ⟨f, hf⟩ : ∃ f, k = f + 1 := ⟨k - 1, by omega⟩
  have : wayS st k (k : Nat) = x.sym :: wayS st m (m : Nat) := by
    rw [← wayS_two h f m m y e3 (by omega) (Nat.le_refl _)]
    conv => lhs; rw [show wayS st k (k : Nat) = wayS st (f + 1) (k : Nat) by rw [← hf]]
    rw [wayS, if_neg (by omega)]
    simp only [Int.toNat_natCast]
    rw [bangA hx, e1]
  rw [this, List.reverse_cons]
theorem arcs_nodup {k : Nat} {x : ASt} (hx : st[k]? = some x) : (x.arcs.map Arc.sym).Nodup := by rw [h.arcs k x hx]; exact symsG_nodup _ _
theorem go_from {k m : Nat} {x y : ASt} (hy : st[m]? = some y) (ha : (⟨x.sym, (k : Nat)⟩ : Arc) ∈ y.arcs) : goS st (m : Nat) x.sym = (k : Nat) := by
  rw [goS_at hy]; exact arcTo_mem (arcs_nodup h hy) ha
theorem run_path : ∀ (k : Nat) (x : ASt), st[k]? = some x → runS st 0 (pathS st (k : Nat)) = (k : Nat) := by
  intro k
  induction k using Nat.strongRecOn with
  | ind k ih =>
    intro x hx
    by_cases hk : k = 0
    · subst hk
      have := path_zero h
      rw [show ((0 : Nat) : Int) = 0 from rfl, this]; rfl
    · obtain ⟨m, y, e1, e2, e3, e4, _⟩ := h.frm k x hx hk
      rw [path_next h hx hk e1 e2 e3, runS_append _ (ih m e2 y e3) (by omega), runS, go_from h e3 e4, if_neg (by omega)]; rfl
theorem path_len {k m : Nat} {x y : ASt} (hx : st[k]? = some x) (hk : k ≠ 0) (e1 : x.frm = (m : Nat)) (e2 : m < k) (e3 : st[m]? = some y) : (pathS st (k : Nat)).length = (pathS st (m : Nat)).length + 1 := by
  rw [path_next h hx hk e1 e2 e3, List.length_append]; rfl
theorem path_mono : ∀ (k j : Nat) (x y : ASt), j ≤ k → st[j]? = some x → st[k]? = some y → (pathS st (j : Nat)).length ≤ (pathS st (k : Nat)).length := by
  intro k
  induction k using Nat.strongRecOn with
  | ind k ih =>
    intro j x y hjk hx hy
    by_cases hj : j = 0
    · subst hj
      have := path_zero h
      rw [show ((0 : Nat) : Int) = 0 from rfl, this]; exact Nat.zero_le _
    · obtain ⟨m, u, e1, e2, e3, _⟩ := h.frm j x hx hj
      obtain ⟨m', u', d1, d2, d3, _⟩ := h.frm k y hy (by omega)
      rw [path_len h hx hj e1 e2 e3, path_len h hy (by omega) d1 d2 d3]
      have hm := h.mono j k x y hjk hx hy
      have := ih m' d2 m u u' (by omega) e3 d3
      omega
theorem kern_len {k : Nat} {x : ASt} (hx : st[k]? = some x) : x.kernel.length = x.kern.toNat ∧ x.kernel.length ≤ x.items.length ∧ x.items.take x.kernel.length = x.kernel := by
  have hk := h.p.kern x (List.mem_of_getElem? hx)
  have h1 : x.kernel.length = x.kern.toNat := by unfold ASt.kernel; rw [List.length_take]; omega
  exact ⟨h1, by omega, by rw [h1]; rfl⟩
end
theorem closF_rest (g : GD) (K : List Itm) : K.length ≤ (closF g K).1.length ∧ (∀ x ∈ (closF g K).1.drop K.length, x.dot = 0) := by
  refine fixN_inv (P := fun h : CS => K.length ≤ h.1.length ∧ ∀ x ∈ h.1.drop K.length, x.dot = 0) (fun h hp => ?_) _ _ ⟨Nat.le_refl _, by simp⟩
  unfold stepC
  split
  · split
    · refine ⟨by simp only [List.length_append]; omega, fun x hx => ?_⟩
      have hx : x ∈ (h.1 ++ newP K (bhS g h.1[h.2.2.toNat]!).n g.prods 0).drop K.length := hx
      rw [List.drop_append_of_le_length hp.1] at hx
      rcases List.mem_append.1 hx with hx | hx
      · exact hp.2 x hx
      · obtain ⟨i, p, _, _, h3, _⟩ := (newP_mem K _).1 hx
        rw [h3]
    · exact hp
  · exact hp
theorem closG_rest {g : GD} {K : List Itm} {i : Nat} {x : Itm} (hx : (closG g K)[i]? = some x) (hi : K.length ≤ i) : x.dot = 0 := by
  unfold closG at hx
  have hr := closF_rest g K
  have hl : ((closF g K).1.take K.length).length = K.length := by rw [List.length_take]; omega
  rw [List.getElem?_append_right (by omega)] at hx
  exact hr.2 x (srtItm_mem.1 (List.mem_of_getElem? hx))
def PassG (g : GD) (x : Itm) (row : List Sym) : Prop := x.dot.toNat ≤ (rightG g x.p).length ∧ x.dot.toNat ≤ row.length ∧ (rightG g x.p).take x.dot.toNat = row.drop (row.length - x.dot.toNat)
theorem PassG.zero {g : GD} {x : Itm} {row : List Sym} (h : x.dot = 0) : PassG g x row := by
  unfold PassG; rw [h]; simp
theorem PassG.over {g : GD} {y : Itm} {z : Sym} {row : List Sym} (h : PassG g y row) (h0 : 0 ≤ y.dot) (hb : behindG g y = some z) : PassG g ⟨y.p, y.dot + 1⟩ (row ++ [z]) := by
  unfold behindG at hb
  have hl := (List.getElem?_eq_some_iff.1 hb).1
  obtain ⟨h1, h2, h3⟩ := h
  have e : (y.dot + 1).toNat = y.dot.toNat + 1 := by omega
  unfold PassG
  simp only [e]
  refine ⟨hl, by rw [List.length_append, List.length_singleton]; omega, ?_⟩
  rw [List.take_add_one, hb, h3, List.length_append, List.length_singleton, show row.length + 1 - (y.dot.toNat + 1) = row.length - y.dot.toNat by omega, List.drop_append_of_le_length (by omega)]; rfl
section
variable {g : GD} {st : List ASt} (h : Aut g st)
include h
theorem path_pass : ∀ (k : Nat) (x : ASt), st[k]? = some x → ∀ y ∈ x.items, PassG g y (pathS st (k : Nat)) := by
  intro k
  induction k using Nat.strongRecOn with
  | ind k ih =>
    intro x hx y hy
    obtain ⟨i, hi⟩ := List.mem_iff_getElem?.1 hy
    have hk := kern_len h hx
    by_cases hik : x.kernel.length ≤ i
    · refine PassG.zero ?_
      rw [h.shape k x hx] at hi
      exact closG_rest hi hik
    · have hyk : y ∈ x.kernel := by
        rw [← hk.2.2]
        exact List.mem_of_getElem? (i := i) (by rw [List.getElem?_take, if_pos (by omega)]; exact hi)
      by_cases h0 : k = 0
      · subst h0
        obtain ⟨x0, e1, e2, _⟩ := h.first
        rw [hx] at e1; cases e1
        rw [e2, List.mem_singleton] at hyk
        exact PassG.zero (by rw [hyk])
      · obtain ⟨m, u, e1, e2, e3, _, e5⟩ := h.frm k x hx h0
        rw [e5] at hyk
        obtain ⟨v, d1, d2, rfl⟩ := overG_mem.1 hyk
        rw [path_next h hx h0 e1 e2 e3]
        exact (ih m e2 u e3 v d1).over (h.ok.ok u (List.mem_of_getElem? e3) v d1).1.2 d2
theorem kern_dots {k : Nat} {x : ASt} (hx : st[k]? = some x) (h0 : k ≠ 0) {y : Itm} (hy : y ∈ x.kernel) : 0 < y.dot := by
  obtain ⟨m, u, e1, e2, e3, _, e5⟩ := h.frm k x hx h0
  rw [e5] at hy
  obtain ⟨v, d1, _, rfl⟩ := overG_mem.1 hy
  have := (h.ok.ok u (List.mem_of_getElem? e3) v d1).1.2
  show 0 < v.dot + 1
  omega
theorem item_dots {k i : Nat} {x : ASt} (hx : st[k]? = some x) {y : Itm} (hy : x.items[i]? = some y) : (x.kernel.length ≤ i → y.dot = 0) ∧ (i < x.kernel.length → k ≠ 0 → y.dot ≠ 0) := by
  refine ⟨fun hi => ?_, fun hi h0 => ?_⟩
  · rw [h.shape k x hx] at hy; exact closG_rest hy hi
  · have hyk : y ∈ x.kernel := by
      rw [← (kern_len h hx).2.2]
      exact List.mem_of_getElem? (i := i) (by rw [List.getElem?_take, if_pos hi]; exact hy)
    have := kern_dots h hx h0 hyk
    omega
theorem go_stands {k : Nat} {x : ASt} (hx : st[k]? = some x) (z : Sym) : 0 ≤ goS st (k : Nat) z ↔ ∃ y ∈ x.items, behindG g y = some z := by
  rw [goS_at hx, ← symsG_mem, ← h.arcs k x hx]
  constructor
  · intro h9
    obtain ⟨a, h1, h2, _⟩ := arcTo_some h9
    rw [← h2]; exact List.mem_map_of_mem h1
  · intro h9
    obtain ⟨a, h1, rfl⟩ := List.mem_map.1 h9
    rw [arcTo_mem (arcs_nodup h hx) h1]
    obtain ⟨j, _, e, _⟩ := h.to k x a hx h1
    omega
theorem go_to {k : Nat} {x : ASt} (hx : st[k]? = some x) {z : Sym} (hz : 0 ≤ goS st (k : Nat) z) : ∃ (j : Nat) (y : ASt), goS st (k : Nat) z = (j : Nat) ∧ st[j]? = some y ∧ j ≠ 0 ∧ y.sym = z ∧ y.kernel = overG g z x.items ∧ (pathS st (j : Nat)).length ≤ (pathS st (k : Nat)).length + 1 := by
  obtain ⟨e, he, hb⟩ := (go_stands h hx z).1 hz
  rw [goS_at hx] at hz ⊢
  obtain ⟨a, h1, h2, h3⟩ := arcTo_some hz
  obtain ⟨j, y, e1, e2, e3, e4⟩ := h.to k x a hx h1
  rw [h2] at e3
  have hm : (⟨e.p, e.dot + 1⟩ : Itm) ∈ y.kernel := by rw [e3]; exact overG_mem.2 ⟨e, he, hb, rfl⟩
  have hed := (h.ok.ok x (List.mem_of_getElem? hx) e he).1.2
  have hj : j ≠ 0 := by
    rintro rfl
    obtain ⟨x0, d1, d2, _⟩ := h.first
    rw [e2] at d1; cases d1
    rw [d2, List.mem_singleton] at hm
    have : e.dot + 1 = 0 := congrArg Itm.dot hm
    omega
  obtain ⟨m, u, d1, d2, d3, _, d5⟩ := h.frm j y e2 hj
  have hs : y.sym = z := by
    rw [d5] at hm
    obtain ⟨v, c1, c2, c3⟩ := overG_mem.1 hm
    rw [Itm.mk.injEq] at c3
    obtain ⟨p1, p2⟩ := c3
    have : e = v := by
      cases e; cases v; simp only at p1 p2; congr 1; omega
    rw [this, c2] at hb
    exact Option.some.inj hb
  refine ⟨j, y, by rw [← h3, e1], e2, hj, hs, e3, ?_⟩
  rw [path_len h e2 hj d1 d2 d3]
  have := path_mono h k m u x (by omega) d3 hx
  omega
end
end Go.Proofs.YtnnmdkglgnlenaaGreatDoor
set_option linter.unusedVariables false
set_option linter.unusedSimpArgs false
set_option maxRecDepth 100000
set_option maxHeartbeats 4000000
namespace Go.Proofs.YtnnmdkglgnlenaaGreatDoor
open Go Go.RowKit Go.Vx
theorem pf_70 : plainF Tryz.prog 70 = true := by kernel_rfl
theorem pf_71 : plainF Tryz.prog 71 = true := by kernel_rfl
theorem smallT (n : Int) (w : World)  :
    Calls Tryz.prog 70 #[(.int .i64 n)] w (Ret (fun v w' => v = .agg #[.int .i64 1, .int .i64 n] ∧ Ext w w')) := by
  refine calls_xc (n := 5) (f := fun s_ => [(.int .i64 n)].getD s_ undef) Tryz.func70 rfl rfl (by simp) (fun s_ => by simp) ?_
  refine xc_seq ?_
  refine xc_region ?_
  refine xl_op (P := Tryz.prog) (some 2) rfl rfl (ox_alloc tZ_32 ?_)
  intro w1 e1 z1 b1
  replace b1 : Blk w1 w.heap.size #[(.int .i64 0), (.int .i64 0)] 32 := b1
  refine xl_nil ?_
  refine xc_seq ?_
  refine xc_region ?_
  refine xl_op (P := Tryz.prog) (some 3) rfl rfl (ox_move (v := (.int .i64 n)) rfl ?_)
  refine xl_op (P := Tryz.prog) (some 4) rfl rfl (ox_mkStruct (ps := [(0, (.int .i64 1)), (1, (.int .i64 n))]) (cs := #[(.int .i64 1), (.int .i64 n)]) tZ_32 tP_32 rfl (by kernel_rfl) ?_)
  refine xl_op (P := Tryz.prog) none rfl rfl (ox_store (n := 2) (vs := [(.int .i64 1), (.int .i64 n)]) tS_32 rfl (v := (.agg #[(.int .i64 1), (.int .i64 n)])) rfl rfl rfl rfl b1 (Nat.le_of_ble_eq_true rfl) ?_)
  intro w2 e2 z2 b2
  replace b2 : Blk w2 w.heap.size #[(.int .i64 1), (.int .i64 n)] 32 := blk_full b2 rfl
  refine xl_nil ?_
  refine xc_ret ?_
  change leaves _ _ _ _ _ _ _
  refine leaves_nil (n := 5) (rs := [.cell 2 32]) (vs := [(.agg #[(.int .i64 1), (.int .i64 n)])]) rfl ⟨⟨by decide, w.heap.size, 0, 2, [(.int .i64 1), (.int .i64 n)], rfl, tA_32, tS_32, rfl, ⟨b2.cell rfl, b2.cell rfl, trivial⟩, rfl⟩, trivial⟩ ?_
  have x1 : Ext w w2 := (Ext.chg1 e1 e2 (by omega))
  exact ⟨rfl, x1⟩
theorem smallN (n : Int) (w : World)  :
    Calls Tryz.prog 71 #[(.int .i64 n)] w (Ret (fun v w' => v = .agg #[.int .i64 3, .int .i64 n] ∧ Ext w w')) := by
  refine calls_xc (n := 5) (f := fun s_ => [(.int .i64 n)].getD s_ undef) Tryz.func71 rfl rfl (by simp) (fun s_ => by simp) ?_
  refine xc_seq ?_
  refine xc_region ?_
  refine xl_op (P := Tryz.prog) (some 2) rfl rfl (ox_alloc tZ_32 ?_)
  intro w1 e1 z1 b1
  replace b1 : Blk w1 w.heap.size #[(.int .i64 0), (.int .i64 0)] 32 := b1
  refine xl_nil ?_
  refine xc_seq ?_
  refine xc_region ?_
  refine xl_op (P := Tryz.prog) (some 3) rfl rfl (ox_move (v := (.int .i64 n)) rfl ?_)
  refine xl_op (P := Tryz.prog) (some 4) rfl rfl (ox_mkStruct (ps := [(0, (.int .i64 3)), (1, (.int .i64 n))]) (cs := #[(.int .i64 3), (.int .i64 n)]) tZ_32 tP_32 rfl (by kernel_rfl) ?_)
  refine xl_op (P := Tryz.prog) none rfl rfl (ox_store (n := 2) (vs := [(.int .i64 3), (.int .i64 n)]) tS_32 rfl (v := (.agg #[(.int .i64 3), (.int .i64 n)])) rfl rfl rfl rfl b1 (Nat.le_of_ble_eq_true rfl) ?_)
  intro w2 e2 z2 b2
  replace b2 : Blk w2 w.heap.size #[(.int .i64 3), (.int .i64 n)] 32 := blk_full b2 rfl
  refine xl_nil ?_
  refine xc_ret ?_
  change leaves _ _ _ _ _ _ _
  refine leaves_nil (n := 5) (rs := [.cell 2 32]) (vs := [(.agg #[(.int .i64 3), (.int .i64 n)])]) rfl ⟨⟨by decide, w.heap.size, 0, 2, [(.int .i64 3), (.int .i64 n)], rfl, tA_32, tS_32, rfl, ⟨b2.cell rfl, b2.cell rfl, trivial⟩, rfl⟩, trivial⟩ ?_
  have x1 : Ext w w2 := (Ext.chg1 e1 e2 (by omega))
  exact ⟨rfl, x1⟩
theorem small_calls  (w : World)  :
    Calls Tryz.prog 44 #[] w (Ret (fun v w' => ∃ s : SP, v = (.agg #[(.slice s.lA s.lex.length s.lc), (.slice s.nA s.names.length s.nc), (.int .i64 s.start), (.slice s.pA s.prods.length s.pc)]) ∧ SpR w' s ∧ s.g = smallG ∧ Ext w w')) := by
  refine calls_xc (n := 37) (f := fun s_ => [].getD s_ undef) Tryz.func44 rfl rfl (by simp) (fun s_ => by simp) ?_
  refine xc_seq ?_
  refine xc_region ?_
  refine xl_op (P := Tryz.prog) (some 0) rfl rfl (ox_alloc tZ_26 ?_)
  intro w1 e1 z1 b1
  replace b1 : Blk w1 w.heap.size #[(.slice none 0 0), (.slice none 0 0), (.int .i64 0), (.slice none 0 0)] 26 := b1
  refine xl_nil ?_
  refine xc_seq ?_
  refine xc_region ?_
  refine xl_op (P := Tryz.prog) (some 1) rfl rfl (ox_assign (v := (.func (.func 70) #[] #[])) rfl ?_)
  refine xl_nil ?_
  refine xc_seq ?_
  refine xc_region ?_
  refine xl_op (P := Tryz.prog) (some 2) rfl rfl (ox_assign (v := (.func (.func 71) #[] #[])) rfl ?_)
  refine xl_nil ?_
  refine xc_seq ?_
  refine xc_region ?_
  refine xl_op (P := Tryz.prog) (some 3) rfl rfl (ox_mkStruct (ps := [(0, (.string (⟨#[97]⟩)))]) (cs := #[(.string (⟨#[97]⟩)), (.bool false), (.int .i64 0), (.int .i64 0), (.int .i64 0), (.int .i64 0), (.int .i64 0), (.slice none 0 0)]) tZ_66 tP_66 rfl (by kernel_rfl) ?_)
  refine xl_op (P := Tryz.prog) (some 4) rfl rfl (ox_mkStruct (ps := [(0, (.string (⟨#[98]⟩)))]) (cs := #[(.string (⟨#[98]⟩)), (.bool false), (.int .i64 0), (.int .i64 0), (.int .i64 0), (.int .i64 0), (.int .i64 0), (.slice none 0 0)]) tZ_66 tP_66 rfl (by kernel_rfl) ?_)
  refine xl_op (P := Tryz.prog) (some 5) rfl rfl (ox_mkStruct (ps := [(0, (.string (⟨#[119]⟩))), (1, (.bool true))]) (cs := #[(.string (⟨#[119]⟩)), (.bool true), (.int .i64 0), (.int .i64 0), (.int .i64 0), (.int .i64 0), (.int .i64 0), (.slice none 0 0)]) tZ_66 tP_66 rfl (by kernel_rfl) ?_)
  refine xl_op (P := Tryz.prog) (some 6) rfl rfl (ox_mkStruct (ps := [(0, (.string (⟨#[99]⟩)))]) (cs := #[(.string (⟨#[99]⟩)), (.bool false), (.int .i64 0), (.int .i64 0), (.int .i64 0), (.int .i64 0), (.int .i64 0), (.slice none 0 0)]) tZ_66 tP_66 rfl (by kernel_rfl) ?_)
  refine xl_op (P := Tryz.prog) (some 7) rfl rfl (ox_mkSlice (ps := [(0, (.agg #[(.string (⟨#[97]⟩)), (.bool false), (.int .i64 0), (.int .i64 0), (.int .i64 0), (.int .i64 0), (.int .i64 0), (.slice none 0 0)])), (1, (.agg #[(.string (⟨#[98]⟩)), (.bool false), (.int .i64 0), (.int .i64 0), (.int .i64 0), (.int .i64 0), (.int .i64 0), (.slice none 0 0)])), (2, (.agg #[(.string (⟨#[119]⟩)), (.bool true), (.int .i64 0), (.int .i64 0), (.int .i64 0), (.int .i64 0), (.int .i64 0), (.slice none 0 0)])), (3, (.agg #[(.string (⟨#[99]⟩)), (.bool false), (.int .i64 0), (.int .i64 0), (.int .i64 0), (.int .i64 0), (.int .i64 0), (.slice none 0 0)]))]) (zs := #[(.string (⟨#[]⟩)), (.bool false), (.int .i64 0), (.int .i64 0), (.int .i64 0), (.int .i64 0), (.int .i64 0), (.slice none 0 0), (.string (⟨#[]⟩)), (.bool false), (.int .i64 0), (.int .i64 0), (.int .i64 0), (.int .i64 0), (.int .i64 0), (.slice none 0 0), (.string (⟨#[]⟩)), (.bool false), (.int .i64 0), (.int .i64 0), (.int .i64 0), (.int .i64 0), (.int .i64 0), (.slice none 0 0), (.string (⟨#[]⟩)), (.bool false), (.int .i64 0), (.int .i64 0), (.int .i64 0), (.int .i64 0), (.int .i64 0), (.slice none 0 0)]) (cs := #[(.string (⟨#[97]⟩)), (.bool false), (.int .i64 0), (.int .i64 0), (.int .i64 0), (.int .i64 0), (.int .i64 0), (.slice none 0 0), (.string (⟨#[98]⟩)), (.bool false), (.int .i64 0), (.int .i64 0), (.int .i64 0), (.int .i64 0), (.int .i64 0), (.slice none 0 0), (.string (⟨#[119]⟩)), (.bool true), (.int .i64 0), (.int .i64 0), (.int .i64 0), (.int .i64 0), (.int .i64 0), (.slice none 0 0), (.string (⟨#[99]⟩)), (.bool false), (.int .i64 0), (.int .i64 0), (.int .i64 0), (.int .i64 0), (.int .i64 0), (.slice none 0 0)]) tE_22 rfl (by decide) (by kernel_rfl) (by kernel_rfl) ?_)
  intro w2 e2 z2 b2
  replace b2 : Blk w2 w1.heap.size #[(.string (⟨#[97]⟩)), (.bool false), (.int .i64 0), (.int .i64 0), (.int .i64 0), (.int .i64 0), (.int .i64 0), (.slice none 0 0), (.string (⟨#[98]⟩)), (.bool false), (.int .i64 0), (.int .i64 0), (.int .i64 0), (.int .i64 0), (.int .i64 0), (.slice none 0 0), (.string (⟨#[119]⟩)), (.bool true), (.int .i64 0), (.int .i64 0), (.int .i64 0), (.int .i64 0), (.int .i64 0), (.slice none 0 0), (.string (⟨#[99]⟩)), (.bool false), (.int .i64 0), (.int .i64 0), (.int .i64 0), (.int .i64 0), (.int .i64 0), (.slice none 0 0)] 66 := b2
  refine xl_op (P := Tryz.prog) (some 8) rfl rfl (ox_mkSlice (ps := [(0, (.string (⟨#[83]⟩))), (1, (.string (⟨#[65]⟩))), (2, (.string (⟨#[66]⟩)))]) (zs := #[(.string (⟨#[]⟩)), (.string (⟨#[]⟩)), (.string (⟨#[]⟩))]) (cs := #[(.string (⟨#[83]⟩)), (.string (⟨#[65]⟩)), (.string (⟨#[66]⟩))]) tE_23 rfl (by decide) (by kernel_rfl) (by kernel_rfl) ?_)
  intro w3 e3 z3 b3
  replace b3 : Blk w3 w2.heap.size #[(.string (⟨#[83]⟩)), (.string (⟨#[65]⟩)), (.string (⟨#[66]⟩))] 9 := b3
  refine xl_op (P := Tryz.prog) (some 9) rfl rfl (ox_move (v := (.func (.func 71) #[] #[])) rfl ?_)
  refine xl_op (P := Tryz.prog) (some 10) rfl rfl (ox_callV (cap := []) (al := [(.int .i64 1)]) pf_71 rfl rfl (ret_mono (smallN 1 w3) ?_))
  rintro _ w4 ⟨rfl, e4⟩
  have he4 := e4.size
  refine xl_op (P := Tryz.prog) (some 11) rfl rfl (ox_move (v := (.func (.func 71) #[] #[])) rfl ?_)
  refine xl_op (P := Tryz.prog) (some 12) rfl rfl (ox_callV (cap := []) (al := [(.int .i64 2)]) pf_71 rfl rfl (ret_mono (smallN 2 w4) ?_))
  rintro _ w5 ⟨rfl, e5⟩
  have he5 := e5.size
  refine xl_op (P := Tryz.prog) (some 13) rfl rfl (ox_move (v := (.func (.func 70) #[] #[])) rfl ?_)
  refine xl_op (P := Tryz.prog) (some 14) rfl rfl (ox_callV (cap := []) (al := [(.int .i64 3)]) pf_70 rfl rfl (ret_mono (smallT 3 w5) ?_))
  rintro _ w6 ⟨rfl, e6⟩
  have he6 := e6.size
  refine xl_op (P := Tryz.prog) (some 15) rfl rfl (ox_mkSlice (ps := [(0, (.agg #[(.int .i64 3), (.int .i64 1)])), (1, (.agg #[(.int .i64 3), (.int .i64 2)])), (2, (.agg #[(.int .i64 1), (.int .i64 3)]))]) (zs := #[(.int .i64 0), (.int .i64 0), (.int .i64 0), (.int .i64 0), (.int .i64 0), (.int .i64 0)]) (cs := #[(.int .i64 3), (.int .i64 1), (.int .i64 3), (.int .i64 2), (.int .i64 1), (.int .i64 3)]) tE_33 rfl (by decide) (by kernel_rfl) (by kernel_rfl) ?_)
  intro w7 e7 z4 b4
  replace b4 : Blk w7 w6.heap.size #[(.int .i64 3), (.int .i64 1), (.int .i64 3), (.int .i64 2), (.int .i64 1), (.int .i64 3)] 32 := b4
  refine xl_op (P := Tryz.prog) (some 16) rfl rfl (ox_mkStruct (ps := [(0, (.int .i64 0)), (1, (.slice (some ⟨w6.heap.size, 0, none⟩) 3 3))]) (cs := #[(.int .i64 0), (.slice (some ⟨w6.heap.size, 0, none⟩) 3 3)]) tZ_37 tP_37 rfl (by kernel_rfl) ?_)
  refine xl_op (P := Tryz.prog) (some 17) rfl rfl (ox_mkStruct (ps := [(0, (.int .i64 2))]) (cs := #[(.int .i64 2), (.int .i64 0)]) tZ_32 tP_32 rfl (by kernel_rfl) ?_)
  refine xl_op (P := Tryz.prog) (some 18) rfl rfl (ox_mkSlice (ps := [(0, (.agg #[(.int .i64 2), (.int .i64 0)]))]) (zs := #[(.int .i64 0), (.int .i64 0)]) (cs := #[(.int .i64 2), (.int .i64 0)]) tE_33 rfl (by decide) (by kernel_rfl) (by kernel_rfl) ?_)
  intro w8 e8 z5 b5
  replace b5 : Blk w8 w7.heap.size #[(.int .i64 2), (.int .i64 0)] 32 := b5
  refine xl_op (P := Tryz.prog) (some 19) rfl rfl (ox_mkStruct (ps := [(0, (.int .i64 0)), (1, (.slice (some ⟨w7.heap.size, 0, none⟩) 1 1))]) (cs := #[(.int .i64 0), (.slice (some ⟨w7.heap.size, 0, none⟩) 1 1)]) tZ_37 tP_37 rfl (by kernel_rfl) ?_)
  refine xl_op (P := Tryz.prog) (some 20) rfl rfl (ox_move (v := (.func (.func 70) #[] #[])) rfl ?_)
  refine xl_op (P := Tryz.prog) (some 21) rfl rfl (ox_callV (cap := []) (al := [(.int .i64 0)]) pf_70 rfl rfl (ret_mono (smallT 0 w8) ?_))
  rintro _ w9 ⟨rfl, e9⟩
  have he9 := e9.size
  refine xl_op (P := Tryz.prog) (some 22) rfl rfl (ox_move (v := (.func (.func 71) #[] #[])) rfl ?_)
  refine xl_op (P := Tryz.prog) (some 23) rfl rfl (ox_callV (cap := []) (al := [(.int .i64 1)]) pf_71 rfl rfl (ret_mono (smallN 1 w9) ?_))
  rintro _ w10 ⟨rfl, e10⟩
  have he10 := e10.size
  refine xl_op (P := Tryz.prog) (some 24) rfl rfl (ox_mkSlice (ps := [(0, (.agg #[(.int .i64 1), (.int .i64 0)])), (1, (.agg #[(.int .i64 3), (.int .i64 1)]))]) (zs := #[(.int .i64 0), (.int .i64 0), (.int .i64 0), (.int .i64 0)]) (cs := #[(.int .i64 1), (.int .i64 0), (.int .i64 3), (.int .i64 1)]) tE_33 rfl (by decide) (by kernel_rfl) (by kernel_rfl) ?_)
  intro w11 e11 z6 b6
  replace b6 : Blk w11 w10.heap.size #[(.int .i64 1), (.int .i64 0), (.int .i64 3), (.int .i64 1)] 32 := b6
  refine xl_op (P := Tryz.prog) (some 25) rfl rfl (ox_mkStruct (ps := [(0, (.int .i64 1)), (1, (.slice (some ⟨w10.heap.size, 0, none⟩) 2 2))]) (cs := #[(.int .i64 1), (.slice (some ⟨w10.heap.size, 0, none⟩) 2 2)]) tZ_37 tP_37 rfl (by kernel_rfl) ?_)
  refine xl_op (P := Tryz.prog) (some 26) rfl rfl (ox_mkStruct (ps := [(0, (.int .i64 1))]) (cs := #[(.int .i64 1), (.slice none 0 0)]) tZ_37 tP_37 rfl (by kernel_rfl) ?_)
  refine xl_op (P := Tryz.prog) (some 27) rfl rfl (ox_move (v := (.func (.func 70) #[] #[])) rfl ?_)
  refine xl_op (P := Tryz.prog) (some 28) rfl rfl (ox_callV (cap := []) (al := [(.int .i64 1)]) pf_70 rfl rfl (ret_mono (smallT 1 w11) ?_))
  rintro _ w12 ⟨rfl, e12⟩
  have he12 := e12.size
  refine xl_op (P := Tryz.prog) (some 29) rfl rfl (ox_mkSlice (ps := [(0, (.agg #[(.int .i64 1), (.int .i64 1)]))]) (zs := #[(.int .i64 0), (.int .i64 0)]) (cs := #[(.int .i64 1), (.int .i64 1)]) tE_33 rfl (by decide) (by kernel_rfl) (by kernel_rfl) ?_)
  intro w13 e13 z7 b7
  replace b7 : Blk w13 w12.heap.size #[(.int .i64 1), (.int .i64 1)] 32 := b7
  refine xl_op (P := Tryz.prog) (some 30) rfl rfl (ox_mkStruct (ps := [(0, (.int .i64 2)), (1, (.slice (some ⟨w12.heap.size, 0, none⟩) 1 1))]) (cs := #[(.int .i64 2), (.slice (some ⟨w12.heap.size, 0, none⟩) 1 1)]) tZ_37 tP_37 rfl (by kernel_rfl) ?_)
  refine xl_op (P := Tryz.prog) (some 31) rfl rfl (ox_move (v := (.func (.func 71) #[] #[])) rfl ?_)
  refine xl_op (P := Tryz.prog) (some 32) rfl rfl (ox_callV (cap := []) (al := [(.int .i64 1)]) pf_71 rfl rfl (ret_mono (smallN 1 w13) ?_))
  rintro _ w14 ⟨rfl, e14⟩
  have he14 := e14.size
  refine xl_op (P := Tryz.prog) (some 33) rfl rfl (ox_mkSlice (ps := [(0, (.agg #[(.int .i64 3), (.int .i64 1)]))]) (zs := #[(.int .i64 0), (.int .i64 0)]) (cs := #[(.int .i64 3), (.int .i64 1)]) tE_33 rfl (by decide) (by kernel_rfl) (by kernel_rfl) ?_)
  intro w15 e15 z8 b8
  replace b8 : Blk w15 w14.heap.size #[(.int .i64 3), (.int .i64 1)] 32 := b8
  refine xl_op (P := Tryz.prog) (some 34) rfl rfl (ox_mkStruct (ps := [(0, (.int .i64 2)), (1, (.slice (some ⟨w14.heap.size, 0, none⟩) 1 1))]) (cs := #[(.int .i64 2), (.slice (some ⟨w14.heap.size, 0, none⟩) 1 1)]) tZ_37 tP_37 rfl (by kernel_rfl) ?_)
  refine xl_op (P := Tryz.prog) (some 35) rfl rfl (ox_mkSlice (ps := [(0, (.agg #[(.int .i64 0), (.slice (some ⟨w6.heap.size, 0, none⟩) 3 3)])), (1, (.agg #[(.int .i64 0), (.slice (some ⟨w7.heap.size, 0, none⟩) 1 1)])), (2, (.agg #[(.int .i64 1), (.slice (some ⟨w10.heap.size, 0, none⟩) 2 2)])), (3, (.agg #[(.int .i64 1), (.slice none 0 0)])), (4, (.agg #[(.int .i64 2), (.slice (some ⟨w12.heap.size, 0, none⟩) 1 1)])), (5, (.agg #[(.int .i64 2), (.slice (some ⟨w14.heap.size, 0, none⟩) 1 1)]))]) (zs := #[(.int .i64 0), (.slice none 0 0), (.int .i64 0), (.slice none 0 0), (.int .i64 0), (.slice none 0 0), (.int .i64 0), (.slice none 0 0), (.int .i64 0), (.slice none 0 0), (.int .i64 0), (.slice none 0 0)]) (cs := #[(.int .i64 0), (.slice (some ⟨w6.heap.size, 0, none⟩) 3 3), (.int .i64 0), (.slice (some ⟨w7.heap.size, 0, none⟩) 1 1), (.int .i64 1), (.slice (some ⟨w10.heap.size, 0, none⟩) 2 2), (.int .i64 1), (.slice none 0 0), (.int .i64 2), (.slice (some ⟨w12.heap.size, 0, none⟩) 1 1), (.int .i64 2), (.slice (some ⟨w14.heap.size, 0, none⟩) 1 1)]) tE_24 rfl (by decide) (by kernel_rfl) (by kernel_rfl) ?_)
  intro w16 e16 z9 b9
  replace b9 : Blk w16 w15.heap.size #[(.int .i64 0), (.slice (some ⟨w6.heap.size, 0, none⟩) 3 3), (.int .i64 0), (.slice (some ⟨w7.heap.size, 0, none⟩) 1 1), (.int .i64 1), (.slice (some ⟨w10.heap.size, 0, none⟩) 2 2), (.int .i64 1), (.slice none 0 0), (.int .i64 2), (.slice (some ⟨w12.heap.size, 0, none⟩) 1 1), (.int .i64 2), (.slice (some ⟨w14.heap.size, 0, none⟩) 1 1)] 37 := b9
  refine xl_op (P := Tryz.prog) (some 36) rfl rfl (ox_mkStruct (ps := [(0, (.slice (some ⟨w1.heap.size, 0, none⟩) 4 4)), (1, (.slice (some ⟨w2.heap.size, 0, none⟩) 3 3)), (3, (.slice (some ⟨w15.heap.size, 0, none⟩) 6 6))]) (cs := #[(.slice (some ⟨w1.heap.size, 0, none⟩) 4 4), (.slice (some ⟨w2.heap.size, 0, none⟩) 3 3), (.int .i64 0), (.slice (some ⟨w15.heap.size, 0, none⟩) 6 6)]) tZ_26 tP_26 rfl (by kernel_rfl) ?_)
  have q1 := (((((b1.ext e2).ext e3).ext e4).ext e5).ext e6)
  have q2 := (((((q1.ext e7).ext e8).ext e9).ext e10).ext e11)
  have q3 := ((((q2.ext e12).ext e13).ext e14).ext e15)
  refine xl_op (P := Tryz.prog) none rfl rfl (ox_store (n := 4) (vs := [(.slice (some ⟨w1.heap.size, 0, none⟩) 4 4), (.slice (some ⟨w2.heap.size, 0, none⟩) 3 3), (.int .i64 0), (.slice (some ⟨w15.heap.size, 0, none⟩) 6 6)]) tS_26 rfl (v := (.agg #[(.slice (some ⟨w1.heap.size, 0, none⟩) 4 4), (.slice (some ⟨w2.heap.size, 0, none⟩) 3 3), (.int .i64 0), (.slice (some ⟨w15.heap.size, 0, none⟩) 6 6)])) rfl rfl rfl rfl (q3.ext e16) (Nat.le_of_ble_eq_true rfl) ?_)
  intro w17 e17 z10 b10
  replace b10 : Blk w17 w.heap.size #[(.slice (some ⟨w1.heap.size, 0, none⟩) 4 4), (.slice (some ⟨w2.heap.size, 0, none⟩) 3 3), (.int .i64 0), (.slice (some ⟨w15.heap.size, 0, none⟩) 6 6)] 26 := blk_full b10 rfl
  refine xl_nil ?_
  refine xc_ret ?_
  change leaves _ _ _ _ _ _ _
  refine leaves_nil (n := 37) (rs := [.cell 0 26]) (vs := [(.agg #[(.slice (some ⟨w1.heap.size, 0, none⟩) 4 4), (.slice (some ⟨w2.heap.size, 0, none⟩) 3 3), (.int .i64 0), (.slice (some ⟨w15.heap.size, 0, none⟩) 6 6)])]) rfl ⟨⟨by decide, w.heap.size, 0, 4, [(.slice (some ⟨w1.heap.size, 0, none⟩) 4 4), (.slice (some ⟨w2.heap.size, 0, none⟩) 3 3), (.int .i64 0), (.slice (some ⟨w15.heap.size, 0, none⟩) 6 6)], rfl, tA_26, tS_26, rfl, ⟨b10.cell rfl, b10.cell rfl, b10.cell rfl, b10.cell rfl, trivial⟩, rfl⟩, trivial⟩ ?_
  have q4 := (((((b4.ext e8).ext e9).ext e10).ext e11).ext e12)
  have q5 := ((((q4.ext e13).ext e14).ext e15).ext e16)
  have q6 := (q5.keep1 e17 (q5.ne (q3.ext e16) (by decide)))
  have q7 := ((((b5.ext e9).ext e10).ext e11).ext e12)
  have q8 := ((((q7.ext e13).ext e14).ext e15).ext e16)
  have q9 := (q8.keep1 e17 (q8.ne (q3.ext e16) (by decide)))
  have q10 := ((((b6.ext e12).ext e13).ext e14).ext e15)
  have q11 := ((q10.ext e16).keep1 e17 ((q10.ext e16).ne (q3.ext e16) (by decide)))
  have q12 := ((((b7.ext e14).ext e15).ext e16).keep1 e17 ((((b7.ext e14).ext e15).ext e16).ne (q3.ext e16) (by decide)))
  have q13 := ((b8.ext e16).keep1 e17 ((b8.ext e16).ne (q3.ext e16) (by decide)))
  have q14 := (((((b2.ext e3).ext e4).ext e5).ext e6).ext e7)
  have q15 := ((((q14.ext e8).ext e9).ext e10).ext e11)
  have q16 := ((((q15.ext e12).ext e13).ext e14).ext e15)
  have q17 := ((q16.ext e16).keep1 e17 ((q16.ext e16).ne (q3.ext e16) (by decide)))
  have q18 := (((((b3.ext e4).ext e5).ext e6).ext e7).ext e8)
  have q19 := ((((q18.ext e9).ext e10).ext e11).ext e12)
  have q20 := ((((q19.ext e13).ext e14).ext e15).ext e16)
  have q21 := (q20.keep1 e17 (q20.ne (q3.ext e16) (by decide)))
  have q22 := (b9.keep1 e17 (b9.ne (q3.ext e16) (by decide)))
  have hrow : ∀ y ∈ ([⟨0, some ⟨w6.heap.size, 0, none⟩, 3, [⟨3, 1⟩, ⟨3, 2⟩, ⟨1, 3⟩]⟩, ⟨0, some ⟨w7.heap.size, 0, none⟩, 1, [⟨2, 0⟩]⟩, ⟨1, some ⟨w10.heap.size, 0, none⟩, 2, [⟨1, 0⟩, ⟨3, 1⟩]⟩, ⟨1, none, 0, []⟩, ⟨2, some ⟨w12.heap.size, 0, none⟩, 1, [⟨1, 1⟩]⟩, ⟨2, some ⟨w14.heap.size, 0, none⟩, 1, [⟨3, 1⟩]⟩] : List PD), RowA w17 y.rA (y.right.flatMap Sym.cs) ∧ few 16 y.right.length y.rc := by
    intro y hy
    simp only [List.mem_cons, List.not_mem_nil, or_false] at hy
    rcases hy with rfl | rfl | rfl | rfl | rfl | rfl
    · exact ⟨⟨fun _ => rfl, q6.cell rfl, q6.cell rfl, q6.cell rfl, q6.cell rfl, q6.cell rfl, q6.cell rfl, trivial⟩, (by show 3 ≤ 3; decide), (by show 3 * 16 ≤ 140737488355328; decide)⟩
    · exact ⟨⟨fun _ => rfl, q9.cell rfl, q9.cell rfl, trivial⟩, (by show 1 ≤ 1; decide), (by show 1 * 16 ≤ 140737488355328; decide)⟩
    · exact ⟨⟨fun _ => rfl, q11.cell rfl, q11.cell rfl, q11.cell rfl, q11.cell rfl, trivial⟩, (by show 2 ≤ 2; decide), (by show 2 * 16 ≤ 140737488355328; decide)⟩
    · exact ⟨rfl, (by show 0 ≤ 0; decide), (by show 0 * 16 ≤ 140737488355328; decide)⟩
    · exact ⟨⟨fun _ => rfl, q12.cell rfl, q12.cell rfl, trivial⟩, (by show 1 ≤ 1; decide), (by show 1 * 16 ≤ 140737488355328; decide)⟩
    · exact ⟨⟨fun _ => rfl, q13.cell rfl, q13.cell rfl, trivial⟩, (by show 1 ≤ 1; decide), (by show 1 * 16 ≤ 140737488355328; decide)⟩
  have x1 : Ext w w17 := (Ext.chg1 (Ext.trans (Ext.trans (Ext.trans (Ext.trans (Ext.trans (Ext.trans (Ext.trans (Ext.trans (Ext.trans (Ext.trans (Ext.trans (Ext.trans (Ext.trans (Ext.trans (Ext.trans e1 e2) e3) e4) e5) e6) e7) e8) e9) e10) e11) e12) e13) e14) e15) e16) e17 (by omega))
  refine ⟨⟨some ⟨w1.heap.size, 0, none⟩, 4, [⟨⟨#[97]⟩, false, exZero⟩, ⟨⟨#[98]⟩, false, exZero⟩, ⟨⟨#[119]⟩, true, exZero⟩, ⟨⟨#[99]⟩, false, exZero⟩], some ⟨w2.heap.size, 0, none⟩, 3, [⟨#[83]⟩, ⟨#[65]⟩, ⟨#[66]⟩], 0, some ⟨w15.heap.size, 0, none⟩, 6, [⟨0, some ⟨w6.heap.size, 0, none⟩, 3, [⟨3, 1⟩, ⟨3, 2⟩, ⟨1, 3⟩]⟩, ⟨0, some ⟨w7.heap.size, 0, none⟩, 1, [⟨2, 0⟩]⟩, ⟨1, some ⟨w10.heap.size, 0, none⟩, 2, [⟨1, 0⟩, ⟨3, 1⟩]⟩, ⟨1, none, 0, []⟩, ⟨2, some ⟨w12.heap.size, 0, none⟩, 1, [⟨1, 1⟩]⟩, ⟨2, some ⟨w14.heap.size, 0, none⟩, 1, [⟨3, 1⟩]⟩]⟩, rfl, ⟨⟨fun _ => rfl, q17.cell rfl, q17.cell rfl, q17.cell rfl, q17.cell rfl, q17.cell rfl, q17.cell rfl, q17.cell rfl, q17.cell rfl, q17.cell rfl, q17.cell rfl, q17.cell rfl, q17.cell rfl, q17.cell rfl, q17.cell rfl, q17.cell rfl, q17.cell rfl, q17.cell rfl, q17.cell rfl, q17.cell rfl, q17.cell rfl, q17.cell rfl, q17.cell rfl, q17.cell rfl, q17.cell rfl, q17.cell rfl, q17.cell rfl, q17.cell rfl, q17.cell rfl, q17.cell rfl, q17.cell rfl, q17.cell rfl, q17.cell rfl, trivial⟩, ⟨fun _ => rfl, q21.cell rfl, q21.cell rfl, q21.cell rfl, trivial⟩, ⟨fun _ => rfl, q22.cell rfl, q22.cell rfl, q22.cell rfl, q22.cell rfl, q22.cell rfl, q22.cell rfl, q22.cell rfl, q22.cell rfl, q22.cell rfl, q22.cell rfl, q22.cell rfl, q22.cell rfl, trivial⟩, fun y hy => ?_, fun y hy => (hrow y hy).1, ⟨by show 4 ≤ 4; decide, by show 4 * 88 ≤ 140737488355328; decide⟩, ⟨by show 3 ≤ 3; decide, by show 3 * 16 ≤ 140737488355328; decide⟩, ⟨by show 6 ≤ 6; decide, by show 6 * 32 ≤ 140737488355328; decide⟩, fun y hy => (hrow y hy).2⟩, rfl, x1⟩
  simp only [List.mem_cons, List.not_mem_nil, or_false] at hy
  rcases hy with rfl | rfl | rfl | rfl <;> exact ⟨rfl, ⟨by decide, by decide⟩, trivial⟩
end Go.Proofs.YtnnmdkglgnlenaaGreatDoor
set_option linter.unusedVariables false
set_option linter.unusedSimpArgs false
set_option maxRecDepth 100000
set_option maxHeartbeats 4000000
namespace Go.Proofs.YtnnmdkglgnlenaaGreatDoor
open Go Go.RowKit Go.Vx
theorem row_name {α : Type} {P : Program} {f : FuncId} {as_ : Array Value} {w : World} {e sz : Nat} {cs : α → List Value} {L : List α} (h : Calls P f as_ w (Ret fun v w' => ∃ A c, v = .slice A L.length c ∧ NewRow w w' e sz cs L A c ∧ Ext w w')) : Calls P f as_ w (Ret fun v w' => ∃ l, l = L ∧ ∃ A c, v = .slice A l.length c ∧ NewRow w w' e sz cs l A c ∧ Ext w w') :=
  ret_mono h fun v w' ⟨A, c, h1, h2, h3⟩ => ⟨L, rfl, A, c, h1, h2, h3⟩
theorem RowA.blk {w : World} {b t : Nat} {cs : Array Value} {vs : List Value} (h : Blk w b cs t) (hv : cs.toList = vs) : RowA w (some ⟨b, 0, none⟩) vs := by
  subst hv
  exact ⟨fun _ => rfl, h.all⟩
theorem small_builtG : builtG smallG = some smallA := by
  unfold builtG
  rw [if_pos (by rw [small_check]), small_built]
theorem build_calls2 (s : SP) (w : World) (hS : SpR w s) (hT : TabP w) : Calls Tryz.prog 34 #[(.agg #[(.slice s.lA s.lex.length s.lc), (.slice s.nA s.names.length s.nc), (.int .i64 s.start), (.slice s.pA s.prods.length s.pc)])] w (Ret fun v w' => ∃ (p : Option Addr) (k a : Int), v = .tuple #[.pointer p, .agg #[.int .i64 k, .int .i64 a, .string ⟨#[]⟩]] ∧ Ext w w' ∧ ((k ≠ 0 ∧ p = none ∧ builtG s.g = none) ∨ (k = 0 ∧ a = 0 ∧ ∃ ba st, p = some ⟨ba, 0, none⟩ ∧ builtG s.g = some st ∧ AutX w.heap.size w' s ba st))) := by
  refine ret_mono (build_calls s w hS hT) ?_
  rintro v w' ⟨he, ⟨h1, rfl⟩ | ⟨h1, h2, rfl⟩ | ⟨h1, s2, ba, sA, sc, sts, h2, h3, h4, rfl⟩⟩
  · exact ⟨_, _, _, rfl, he, .inl ⟨h1, rfl, by unfold builtG; rw [if_neg h1]⟩⟩
  · exact ⟨_, _, _, rfl, he, .inl ⟨by decide, rfl, by unfold builtG; rw [if_pos h1, h2]⟩⟩
  · exact ⟨_, _, _, rfl, he, .inr ⟨rfl, rfl, ba, _, rfl, by unfold builtG; rw [if_pos h1, h2], ⟨⟨s2, sA, sc, sts, rfl, h3, h4⟩, Aut.of h1 h2⟩⟩⟩
theorem fS_75 : flatS Tryz.prog 75 [.int .i64, .int .i64, .str] = true := by kernel_rfl
theorem pf_13 : plainF Tryz.prog 13 = true := by kernel_rfl
theorem pf_23 : plainF Tryz.prog 23 = true := by kernel_rfl
theorem pf_24 : plainF Tryz.prog 24 = true := by kernel_rfl
theorem pf_25 : plainF Tryz.prog 25 = true := by kernel_rfl
theorem pf_26 : plainF Tryz.prog 26 = true := by kernel_rfl
theorem pf_30 : plainF Tryz.prog 30 = true := by kernel_rfl
theorem pf_31 : plainF Tryz.prog 31 = true := by kernel_rfl
theorem pf_34 : plainF Tryz.prog 34 = true := by kernel_rfl
theorem pf_44 : plainF Tryz.prog 44 = true := by kernel_rfl
theorem tU_28 : Tryz.prog.underlying 28 = some (.pointer 97) := by kernel_rfl
theorem tU_68 : Tryz.prog.underlying 68 = some (.func #[106] #[] false) := by kernel_rfl
theorem all_calls (ba : Nat) (w : World)  :
    Calls Tryz.prog 31 #[(.pointer (some ⟨ba, 0, none⟩))] w (Ret (fun v w' => ∃ b, v = .func (.func 54) #[] #[.pointer (some ⟨b, 0, none⟩)] ∧ Blk w' b #[.pointer (some ⟨ba, 0, none⟩)] 28 ∧ b = w.heap.size ∧ Ext w w')) := by
  refine calls_xc (n := 4) (f := fun s_ => [(.pointer (some ⟨ba, 0, none⟩))].getD s_ undef) Tryz.func31 rfl rfl (by simp) (fun s_ => by simp) ?_
  refine xc_seq ?_
  refine xc_region ?_
  refine xl_op (P := Tryz.prog) (some 1) rfl rfl (ox_box (v := (.pointer (some ⟨ba, 0, none⟩))) rfl ?_)
  intro w1 e1 z1 b1
  replace b1 : Blk w1 w.heap.size #[(.pointer (some ⟨ba, 0, none⟩))] 28 := b1
  refine xl_op (P := Tryz.prog) (some 2) rfl rfl (ox_assign (v := .nilFunc) rfl ?_)
  refine xl_nil ?_
  refine xc_seq ?_
  refine xc_region ?_
  refine xl_op (P := Tryz.prog) (some 3) rfl rfl (ox_mkFunc (cs := [(.pointer (some ⟨w.heap.size, 0, none⟩))]) rfl ?_)
  refine xl_op (P := Tryz.prog) (some 2) rfl rfl (ox_assign (v := (.func (.func 54) #[] #[(.pointer (some ⟨w.heap.size, 0, none⟩))])) rfl ?_)
  refine xl_nil ?_
  refine xc_ret ?_
  change leaves _ _ _ _ _ _ _
  refine leaves_nil (n := 4) (rs := [.tmp 2]) (vs := [(.func (.func 54) #[] #[(.pointer (some ⟨w.heap.size, 0, none⟩))])]) rfl ⟨⟨by decide, rfl⟩, trivial⟩ ?_
  exact ⟨_, rfl, b1, rfl, e1⟩
theorem built_calls (s : SP) (w : World) (hS : SpR w s) (hT : TabP w) :
    Calls Tryz.prog 9 #[(.agg #[(.slice s.lA s.lex.length s.lc), (.slice s.nA s.names.length s.nc), (.int .i64 s.start), (.slice s.pA s.prods.length s.pc)])] w (Ret (fun v w' => Ext w w' ∧ ((builtG s.g = none ∧ v = .pointer none) ∨ ∃ s1 ba st, s1.g = s.g ∧ builtG s.g = some st ∧ (∃ B, w.heap.size ≤ B ∧ AutX B w' s1 ba st) ∧ v = .pointer (some ⟨ba, 0, none⟩)))) := by
  refine calls_xc (n := 15) (f := fun s_ => [(.agg #[(.slice s.lA s.lex.length s.lc), (.slice s.nA s.names.length s.nc), (.int .i64 s.start), (.slice s.pA s.prods.length s.pc)])].getD s_ undef) Tryz.func9 rfl rfl (by simp) (fun s_ => by simp) ?_
  refine xc_seq ?_
  refine xc_region ?_
  refine xl_op (P := Tryz.prog) (some 1) rfl rfl (ox_box (v := (.agg #[(.slice s.lA s.lex.length s.lc), (.slice s.nA s.names.length s.nc), (.int .i64 s.start), (.slice s.pA s.prods.length s.pc)])) rfl ?_)
  intro w1 e1 z1 b1
  replace b1 : Blk w1 w.heap.size #[(.slice s.lA s.lex.length s.lc), (.slice s.nA s.names.length s.nc), (.int .i64 s.start), (.slice s.pA s.prods.length s.pc)] 26 := b1
  refine xl_op (P := Tryz.prog) (some 2) rfl rfl (ox_assign (v := (.pointer none)) rfl ?_)
  refine xl_nil ?_
  refine xc_seq ?_
  refine xc_region ?_
  refine xl_op (P := Tryz.prog) (some 6) rfl rfl (ox_loadN (vs := [(.slice s.lA s.lex.length s.lc), (.slice s.nA s.names.length s.nc), (.int .i64 s.start), (.slice s.pA s.prods.length s.pc)]) tA_26 tS_26 rfl rfl ⟨b1.cell rfl, b1.cell rfl, b1.cell rfl, b1.cell rfl, trivial⟩ ?_)
  have he28 := hS.ext e1
  refine xl_op (P := Tryz.prog) (some 7) rfl rfl (ox_callE (al := [(.agg #[(.slice s.lA s.lex.length s.lc), (.slice s.nA s.names.length s.nc), (.int .i64 s.start), (.slice s.pA s.prods.length s.pc)])]) pf_30 rfl (ret_mono (lend_calls s w1 he28) ?_))
  rintro _ w2 ⟨s_1, rfl, hL1, e2⟩
  have he2 := e2.size
  have hhL19 := LendR.spr hL1 (he28.ext e2)
  have hg_s_1 := LendR.g hL1
  have x1 : Ext w w2 := (Ext.trans e1 e2)
  refine xl_op (P := Tryz.prog) (some 8) rfl rfl (ox_callE (al := [(.agg #[(.slice s_1.lA s_1.lex.length s_1.lc), (.slice s_1.nA s_1.names.length s_1.nc), (.int .i64 s_1.start), (.slice s_1.pA s_1.prods.length s_1.pc)])]) pf_34 rfl (ret_mono (build_calls2 s_1 w2 hhL19 (TabIs.ext hT x1)) ?_))
  rintro _ w3 ⟨p1, k1, a1, rfl, e3, hb1⟩
  have he3 := e3.size
  refine xl_op (P := Tryz.prog) (some 5) rfl rfl (ox_move (v := (.tuple #[(.pointer p1), (.agg #[(.int .i64 k1), (.int .i64 a1), (.string (⟨#[]⟩))])])) rfl ?_)
  refine xl_op (P := Tryz.prog) (some 9) rfl rfl (ox_extract (vs := #[(.pointer p1), (.agg #[(.int .i64 k1), (.int .i64 a1), (.string (⟨#[]⟩))])]) (v := (.pointer p1)) rfl rfl ?_)
  refine xl_op (P := Tryz.prog) (some 10) rfl rfl (ox_extract (vs := #[(.pointer p1), (.agg #[(.int .i64 k1), (.int .i64 a1), (.string (⟨#[]⟩))])]) (v := (.agg #[(.int .i64 k1), (.int .i64 a1), (.string (⟨#[]⟩))])) rfl rfl ?_)
  refine xl_op (P := Tryz.prog) (some 4) rfl rfl (ox_alloc tZ_75 ?_)
  intro w4 e4 z2 b2
  replace b2 : Blk w4 w3.heap.size #[(.int .i64 0), (.int .i64 0), (.string (⟨#[]⟩))] 75 := b2
  refine xl_op (P := Tryz.prog) (some 3) rfl rfl (ox_assign (v := (.pointer p1)) rfl ?_)
  refine xl_op (P := Tryz.prog) none rfl rfl (ox_store (n := 3) (vs := [(.int .i64 k1), (.int .i64 a1), (.string (⟨#[]⟩))]) tS_75 rfl (v := (.agg #[(.int .i64 k1), (.int .i64 a1), (.string (⟨#[]⟩))])) rfl rfl rfl rfl b2 (Nat.le_of_ble_eq_true rfl) ?_)
  intro w5 e5 z3 b3
  replace b3 : Blk w5 w3.heap.size #[(.int .i64 k1), (.int .i64 a1), (.string (⟨#[]⟩))] 75 := blk_full b3 rfl
  refine xl_nil ?_
  refine xc_seq ?_
  refine xc_seq ?_
  refine xc_region ?_
  refine xl_op (P := Tryz.prog) (some 11) rfl rfl (ox_fieldAddr (b := w3.heap.size) (o := 0) tF_75_0 rfl ?_)
  refine xl_op (P := Tryz.prog) (some 12) rfl rfl (ox_load (v := (.int .i64 k1)) tA_73 rfl (b3.cell rfl) ?_)
  refine xl_op (P := Tryz.prog) (some 13) rfl rfl (ox_neq (k := .i64) (a := k1) (b := 0) rfl rfl ?_)
  refine xl_nil ?_
  refine xc_if (p := (k1 : Int) ≠ 0) rfl (fun h1 => ?_) (fun h1 => ?_)
  · skip
    obtain ⟨_, rfl, hn9⟩ := hb1.resolve_right (fun ⟨h9, _⟩ => by omega)
    refine xc_seq ?_
    refine xc_region ?_
    refine xl_op (P := Tryz.prog) (some 2) rfl rfl (ox_assign (v := (.pointer none)) rfl ?_)
    refine xl_nil ?_
    refine xc_ret ?_
    change leaves _ _ _ _ _ _ _
    refine leaves_nil (n := 15) (rs := [.tmp 2]) (vs := [(.pointer none)]) rfl ⟨⟨by decide, rfl⟩, trivial⟩ ?_
    have x2 : Ext w w5 := (Ext.chg1 (Ext.trans (Ext.trans x1 e3) e4) e5 (by omega))
    exact ⟨x2, .inl ⟨by rw [← hg_s_1]; exact hn9, rfl⟩⟩
  · skip
    obtain ⟨rfl, rfl, bax_1, stx_1, rfl, hgx_1, hXx_1⟩ := hb1.resolve_left (fun h9 => by omega)
    refine xc_skip ?_
    refine xc_seq ?_
    refine xc_region ?_
    refine xl_op (P := Tryz.prog) (some 14) rfl rfl (ox_move (v := (.pointer (some ⟨bax_1, 0, none⟩))) rfl ?_)
    refine xl_op (P := Tryz.prog) (some 2) rfl rfl (ox_assign (v := (.pointer (some ⟨bax_1, 0, none⟩))) rfl ?_)
    refine xl_nil ?_
    refine xc_ret ?_
    change leaves _ _ _ _ _ _ _
    refine leaves_nil (n := 15) (rs := [.tmp 2]) (vs := [(.pointer (some ⟨bax_1, 0, none⟩))]) rfl ⟨⟨by decide, rfl⟩, trivial⟩ ?_
    have x3 : Ext w w5 := (Ext.chg1 (Ext.trans (Ext.trans x1 e3) e4) e5 (by omega))
    have x4 : Ext w3 w5 := (Ext.chg1 e4 e5 (by omega))
    exact ⟨x3, .inr ⟨s_1, bax_1, stx_1, hg_s_1, by rw [← hg_s_1]; exact hgx_1, ⟨_, by omega, (AutX.ext hXx_1 x4)⟩, rfl⟩⟩
theorem known_calls  (w : World) (hT : TabP w) :
    Calls Tryz.prog 10 #[] w (Ret (fun v w' => v = .bool true ∧ Ext w w')) := by
  obtain ⟨⟨hf1, hf2, hf3, hf4⟩, hf5⟩ := small_facts
  refine calls_xc (n := 53) (f := fun s_ => [].getD s_ undef) Tryz.func10 rfl rfl (by simp) (fun s_ => by simp) ?_
  refine xc_seq ?_
  refine xc_region ?_
  refine xl_op (P := Tryz.prog) (some 0) rfl rfl (ox_assign (v := (.bool false)) rfl ?_)
  refine xl_nil ?_
  refine xc_seq ?_
  refine xc_region ?_
  refine xl_op (P := Tryz.prog) (some 5) rfl rfl (ox_callE (al := []) pf_44 rfl (ret_mono (small_calls w) ?_))
  rintro _ w1 ⟨sm, rfl, hSm, hsg, e1⟩
  have he1 := e1.size
  refine xl_op (P := Tryz.prog) (some 6) rfl rfl (ox_callE (al := [(.agg #[(.slice sm.lA sm.lex.length sm.lc), (.slice sm.nA sm.names.length sm.nc), (.int .i64 sm.start), (.slice sm.pA sm.prods.length sm.pc)])]) pf_34 rfl (ret_mono (build_calls2 sm w1 hSm (TabIs.ext hT e1)) ?_))
  rintro _ w2 ⟨p1, k1, a1, rfl, e2, hb1⟩
  have he2 := e2.size
  have hk9 : ¬ k1 ≠ 0 := fun h9 => by
    obtain ⟨_, _, h8⟩ := hb1.resolve_right (fun ⟨h7, _⟩ => h9 h7)
    rw [hsg, small_builtG] at h8; cases h8
  refine xl_op (P := Tryz.prog) (some 4) rfl rfl (ox_move (v := (.tuple #[(.pointer p1), (.agg #[(.int .i64 k1), (.int .i64 a1), (.string (⟨#[]⟩))])])) rfl ?_)
  obtain ⟨rfl, rfl, bax_1, stx_1, rfl, hgx_1, hXx_1⟩ := hb1.resolve_left (fun h9 => by omega)
  have hst9 : stx_1 = smallA := by have h9 := hgx_1; rw [hsg, small_builtG] at h9; exact (Option.some.inj h9).symm
  subst hst9
  refine xl_op (P := Tryz.prog) (some 7) rfl rfl (ox_extract (vs := #[(.pointer (some ⟨bax_1, 0, none⟩)), (.agg #[(.int .i64 0), (.int .i64 0), (.string (⟨#[]⟩))])]) (v := (.pointer (some ⟨bax_1, 0, none⟩))) rfl rfl ?_)
  refine xl_op (P := Tryz.prog) (some 8) rfl rfl (ox_extract (vs := #[(.pointer (some ⟨bax_1, 0, none⟩)), (.agg #[(.int .i64 0), (.int .i64 0), (.string (⟨#[]⟩))])]) (v := (.agg #[(.int .i64 0), (.int .i64 0), (.string (⟨#[]⟩))])) rfl rfl ?_)
  refine xl_op (P := Tryz.prog) (some 2) rfl rfl (ox_alloc tZ_75 ?_)
  intro w3 e3 z1 b1
  replace b1 : Blk w3 w2.heap.size #[(.int .i64 0), (.int .i64 0), (.string (⟨#[]⟩))] 75 := b1
  refine xl_op (P := Tryz.prog) (some 1) rfl rfl (ox_assign (v := (.pointer (some ⟨bax_1, 0, none⟩))) rfl ?_)
  refine xl_op (P := Tryz.prog) none rfl rfl (ox_store (n := 3) (vs := [(.int .i64 0), (.int .i64 0), (.string (⟨#[]⟩))]) tS_75 rfl (v := (.agg #[(.int .i64 0), (.int .i64 0), (.string (⟨#[]⟩))])) rfl rfl rfl rfl b1 (Nat.le_of_ble_eq_true rfl) ?_)
  intro w4 e4 z2 b2
  replace b2 : Blk w4 w2.heap.size #[(.int .i64 0), (.int .i64 0), (.string (⟨#[]⟩))] 75 := blk_full b2 rfl
  refine xl_nil ?_
  refine xc_seq ?_
  refine xc_seq ?_
  refine xc_region ?_
  refine xl_op (P := Tryz.prog) (some 9) rfl rfl (ox_loadN (vs := [(.int .i64 0), (.int .i64 0), (.string (⟨#[]⟩))]) tA_75 tS_75 rfl rfl ⟨b2.cell rfl, b2.cell rfl, b2.cell rfl, trivial⟩ ?_)
  refine xl_op (P := Tryz.prog) (some 10) rfl rfl (ox_mkStruct (ps := []) (cs := #[(.int .i64 0), (.int .i64 0), (.string (⟨#[]⟩))]) tZ_75 tP_75 rfl (by kernel_rfl) ?_)
  refine xl_op (P := Tryz.prog) (some 11) rfl rfl (ox_neqF (xs := [(.int .i64 0), (.int .i64 0), (.string (⟨#[]⟩))]) (ys := [(.int .i64 0), (.int .i64 0), (.string (⟨#[]⟩))]) (p := ((0 : Int) = 0 ∧ (0 : Int) = 0 ∧ (⟨#[]⟩ : ByteArray) = (⟨#[]⟩))) fS_75 rfl rfl rfl rfl (by simp) ?_)
  refine xl_op (P := Tryz.prog) (some 12) rfl rfl (ox_move (v := (.bool (!decide (((0 : Int) = 0 ∧ (0 : Int) = 0 ∧ (⟨#[]⟩ : ByteArray) = (⟨#[]⟩)))))) rfl ?_)
  refine xl_opg (P := Tryz.prog) (some 13) (j := 3) (b := false) rfl rfl (congrArg some (by simp : (!decide (((0 : Int) = 0 ∧ (0 : Int) = 0 ∧ (⟨#[]⟩ : ByteArray) = (⟨#[]⟩)))) = false)) (ox_move (v := (.pointer (some ⟨bax_1, 0, none⟩))) rfl ?_)
  refine xl_opg (P := Tryz.prog) (some 14) (j := 3) (b := false) rfl rfl (congrArg some (by simp : (!decide (((0 : Int) = 0 ∧ (0 : Int) = 0 ∧ (⟨#[]⟩ : ByteArray) = (⟨#[]⟩)))) = false)) (ox_eqlNil (p := (some ⟨bax_1, 0, none⟩ : Option Addr)) (q := none) tU_28 rfl rfl (.inr rfl) ?_)
  refine xl_op (P := Tryz.prog) (some 15) rfl rfl (ox_pick_f (v := (.bool (decide ((some ⟨bax_1, 0, none⟩ : Option Addr) = none)))) (congrArg Value.bool (by simp : (!decide (((0 : Int) = 0 ∧ (0 : Int) = 0 ∧ (⟨#[]⟩ : ByteArray) = (⟨#[]⟩)))) = false)) rfl ?_)
  refine xl_op (P := Tryz.prog) (some 16) rfl rfl (ox_move (v := (.bool (decide ((some ⟨bax_1, 0, none⟩ : Option Addr) = none)))) rfl ?_)
  refine xl_opg (P := Tryz.prog) (some 17) (j := 7) (b := false) rfl rfl (congrArg some (decide_eq_false (by simp))) (ox_move (v := (.pointer (some ⟨bax_1, 0, none⟩))) rfl ?_)
  refine xl_opg (P := Tryz.prog) (some 18) (j := 7) (b := false) rfl rfl (congrArg some (decide_eq_false (by simp))) (ox_callE (al := [(.pointer (some ⟨bax_1, 0, none⟩))]) pf_31 rfl (ret_mono (all_calls bax_1 w4) ?_))
  rintro _ w5 ⟨b3, rfl, hb2, _, e5⟩
  have he5 := e5.size
  have hhb29 := hb2.lt
  refine xl_opg (P := Tryz.prog) (some 19) (j := 7) (b := false) rfl rfl (congrArg some (decide_eq_false (by simp))) (ox_eqlFnil tU_68 rfl rfl ?_)
  refine xl_op (P := Tryz.prog) (some 20) rfl rfl (ox_pick_f (v := (.bool false)) (congrArg Value.bool (decide_eq_false (by simp))) rfl ?_)
  refine xl_nil ?_
  refine xc_cond_f rfl ?_
  refine xc_skip ?_
  refine xc_seq ?_
  refine xc_region ?_
  refine xl_op (P := Tryz.prog) (some 21) rfl rfl (ox_move (v := (.pointer (some ⟨bax_1, 0, none⟩))) rfl ?_)
  refine xl_op (P := Tryz.prog) (some 22) rfl rfl (ox_mkStruct (ps := [(0, (.int .i64 3)), (1, (.int .i64 1))]) (cs := #[(.int .i64 3), (.int .i64 1)]) tZ_32 tP_32 rfl (by kernel_rfl) ?_)
  refine xl_op (P := Tryz.prog) (some 23) rfl rfl (ox_mkSlice (ps := [(0, (.agg #[(.int .i64 3), (.int .i64 1)]))]) (zs := #[(.int .i64 0), (.int .i64 0)]) (cs := #[(.int .i64 3), (.int .i64 1)]) tE_33 rfl (by decide) (by kernel_rfl) (by kernel_rfl) ?_)
  intro w6 e6 z3 b4
  replace b4 : Blk w6 w5.heap.size #[(.int .i64 3), (.int .i64 1)] 32 := b4
  have x1 : Ext w2 w6 := (Ext.trans (Ext.trans (Ext.chg1 e3 e4 (by omega)) e5) e6)
  refine xl_op (P := Tryz.prog) (some 24) rfl rfl (ox_callE (al := [(.pointer (some ⟨bax_1, 0, none⟩)), (.slice (some ⟨w5.heap.size, 0, none⟩) 1 1)]) pf_13 rfl (ret_mono (autx_run (AutX.ext hXx_1 x1) ([(⟨3, 1⟩ : Sym)]) ((some ⟨w5.heap.size, 0, none⟩)) 1 (RowA.blk b4 rfl) (by decide)) ?_))
  rintro _ w7 ⟨rfl, e7⟩
  have he7 := e7.size
  refine xl_op (P := Tryz.prog) (some 3) rfl rfl (ox_assign (v := (.int .i64 (runS smallA 0 ([(⟨3, 1⟩ : Sym)])))) rfl ?_)
  refine xl_nil ?_
  refine xc_seq ?_
  refine xc_region ?_
  refine xl_op (P := Tryz.prog) (some 25) rfl rfl (ox_move (v := (.pointer (some ⟨bax_1, 0, none⟩))) rfl ?_)
  refine xl_op (P := Tryz.prog) (some 26) rfl rfl (ox_callE (al := [(.pointer (some ⟨bax_1, 0, none⟩))]) pf_23 rfl (ret_mono (autx_len (AutX.ext (AutX.ext hXx_1 x1) e7)) ?_))
  rintro _ w8 ⟨rfl, e8⟩
  have he8 := e8.size
  refine xl_op (P := Tryz.prog) (some 27) rfl rfl (ox_gtr (k := .i64) (a := ((smallA.length : Nat))) (b := 5) rfl rfl ?_)
  refine xl_op (P := Tryz.prog) (some 28) rfl rfl (ox_move (v := (.bool (decide ((5 : Int) < ((smallA.length : Nat)))))) rfl ?_)
  refine xl_opg (P := Tryz.prog) (some 29) (j := 3) (b := true) rfl rfl (congrArg some (decide_eq_true (by omega))) (ox_move (v := (.int .i64 (runS smallA 0 ([(⟨3, 1⟩ : Sym)])))) rfl ?_)
  refine xl_opg (P := Tryz.prog) (some 30) (j := 3) (b := true) rfl rfl (congrArg some (decide_eq_true (by omega))) (ox_gtr (k := .i64) (a := (runS smallA 0 ([(⟨3, 1⟩ : Sym)]))) (b := 0) rfl rfl ?_)
  refine xl_op (P := Tryz.prog) (some 31) rfl rfl (ox_pick_t (v := (.bool (decide ((0 : Int) < (runS smallA 0 ([(⟨3, 1⟩ : Sym)])))))) (congrArg Value.bool (decide_eq_true (by omega))) rfl ?_)
  refine xl_op (P := Tryz.prog) (some 32) rfl rfl (ox_move (v := (.bool (decide ((0 : Int) < (runS smallA 0 ([(⟨3, 1⟩ : Sym)])))))) rfl ?_)
  refine xl_opg (P := Tryz.prog) (some 33) (j := 7) (b := true) rfl rfl (congrArg some (decide_eq_true (by omega))) (ox_move (v := (.pointer (some ⟨bax_1, 0, none⟩))) rfl ?_)
  refine xl_opg (P := Tryz.prog) (some 34) (j := 7) (b := true) rfl rfl (congrArg some (decide_eq_true (by omega))) (ox_mkStruct (ps := [(0, (.int .i64 1)), (1, (.int .i64 3))]) (cs := #[(.int .i64 1), (.int .i64 3)]) tZ_32 tP_32 rfl (by kernel_rfl) ?_)
  refine xl_opg (P := Tryz.prog) (some 35) (j := 7) (b := true) rfl rfl (congrArg some (decide_eq_true (by omega))) (ox_mkSlice (ps := [(0, (.agg #[(.int .i64 1), (.int .i64 3)]))]) (zs := #[(.int .i64 0), (.int .i64 0)]) (cs := #[(.int .i64 1), (.int .i64 3)]) tE_33 rfl (by decide) (by kernel_rfl) (by kernel_rfl) ?_)
  intro w9 e9 z4 b5
  replace b5 : Blk w9 w8.heap.size #[(.int .i64 1), (.int .i64 3)] 32 := b5
  have x2 : Ext w7 w9 := (Ext.trans e8 e9)
  refine xl_opg (P := Tryz.prog) (some 36) (j := 7) (b := true) rfl rfl (congrArg some (decide_eq_true (by omega))) (ox_callE (al := [(.pointer (some ⟨bax_1, 0, none⟩)), (.slice (some ⟨w8.heap.size, 0, none⟩) 1 1)]) pf_13 rfl (ret_mono (autx_run (AutX.ext (AutX.ext (AutX.ext hXx_1 x1) e7) x2) ([(⟨1, 3⟩ : Sym)]) ((some ⟨w8.heap.size, 0, none⟩)) 1 (RowA.blk b5 rfl) (by decide)) ?_))
  rintro _ w10 ⟨rfl, e10⟩
  have he10 := e10.size
  refine xl_opg (P := Tryz.prog) (some 37) (j := 7) (b := true) rfl rfl (congrArg some (decide_eq_true (by omega))) (ox_eql (k := .i64) (a := (runS smallA 0 ([(⟨1, 3⟩ : Sym)]))) (b := (-1)) rfl rfl ?_)
  refine xl_op (P := Tryz.prog) (some 38) rfl rfl (ox_pick_t (v := (.bool (decide ((runS smallA 0 ([(⟨1, 3⟩ : Sym)]) : Int) = (-1))))) (congrArg Value.bool (decide_eq_true (by omega))) rfl ?_)
  refine xl_op (P := Tryz.prog) (some 39) rfl rfl (ox_move (v := (.bool (decide ((runS smallA 0 ([(⟨1, 3⟩ : Sym)]) : Int) = (-1))))) rfl ?_)
  refine xl_opg (P := Tryz.prog) (some 40) (j := 14) (b := true) rfl rfl (congrArg some (decide_eq_true (by omega))) (ox_move (v := (.pointer (some ⟨bax_1, 0, none⟩))) rfl ?_)
  have q1 := (AutX.ext (AutX.ext (AutX.ext (AutX.ext hXx_1 x1) e7) x2) e10)
  refine xl_opg (P := Tryz.prog) (some 41) (j := 14) (b := true) rfl rfl (congrArg some (decide_eq_true (by omega))) (ox_callE (al := [(.pointer (some ⟨bax_1, 0, none⟩)), (.int .i64 0)]) pf_25 rfl (ret_mono (autx_kern q1 0) ?_))
  rintro _ w11 ⟨A1, c1, rfl, hn1, e11⟩
  have he11 := e11.size
  refine xl_opg (P := Tryz.prog) (some 42) (j := 14) (b := true) rfl rfl (congrArg some (decide_eq_true (by omega))) (ox_mkStruct (ps := [(0, (.int .i64 (-1)))]) (cs := #[(.int .i64 (-1)), (.int .i64 0)]) tZ_42 tP_42 rfl (by kernel_rfl) ?_)
  refine xl_opg (P := Tryz.prog) (some 43) (j := 14) (b := true) rfl rfl (congrArg some (decide_eq_true (by omega))) (ox_mkSlice (ps := [(0, (.agg #[(.int .i64 (-1)), (.int .i64 0)]))]) (zs := #[(.int .i64 0), (.int .i64 0)]) (cs := #[(.int .i64 (-1)), (.int .i64 0)]) tE_39 rfl (by decide) (by kernel_rfl) (by kernel_rfl) ?_)
  intro w12 e12 z5 b6
  replace b6 : Blk w12 w11.heap.size #[(.int .i64 (-1)), (.int .i64 0)] 42 := b6
  refine xl_opg (P := Tryz.prog) (some 44) (j := 14) (b := true) rfl rfl (congrArg some (decide_eq_true (by omega))) (ox_callE (al := [(.slice A1 ((kernS smallA 0).length) c1), (.slice (some ⟨w11.heap.size, 0, none⟩) 1 1)]) pf_26 rfl (ret_mono (sameItems_calls (kernS smallA 0) ([(⟨-1, 0⟩ : Itm)]) A1 ((some ⟨w11.heap.size, 0, none⟩)) c1 1 w12 (Own.rowO (hn1.1.ext e12)) (RowA.blk b6 rfl) (by rw [hf4]; decide)) ?_))
  rintro _ w13 ⟨rfl, e13⟩
  have he13 := e13.size
  refine xl_op (P := Tryz.prog) (some 45) rfl rfl (ox_pick_t (v := (.bool (decide (kernS smallA 0 = [(⟨-1, 0⟩ : Itm)])))) (congrArg Value.bool (decide_eq_true (by omega))) rfl ?_)
  refine xl_op (P := Tryz.prog) (some 46) rfl rfl (ox_move (v := (.bool (decide (kernS smallA 0 = [(⟨-1, 0⟩ : Itm)])))) rfl ?_)
  refine xl_opg (P := Tryz.prog) (some 47) (j := 21) (b := true) rfl rfl (congrArg some (decide_eq_true hf4)) (ox_move (v := (.pointer (some ⟨bax_1, 0, none⟩))) rfl ?_)
  refine xl_opg (P := Tryz.prog) (some 48) (j := 21) (b := true) rfl rfl (congrArg some (decide_eq_true hf4)) (ox_move (v := (.int .i64 (runS smallA 0 ([(⟨3, 1⟩ : Sym)])))) rfl ?_)
  have x3 : Ext w10 w13 := (Ext.trans (Ext.trans e11 e12) e13)
  refine xl_opg (P := Tryz.prog) (some 49) (j := 21) (b := true) rfl rfl (congrArg some (decide_eq_true hf4)) (ox_callE (al := [(.pointer (some ⟨bax_1, 0, none⟩)), (.int .i64 (runS smallA 0 ([(⟨3, 1⟩ : Sym)])))]) pf_24 rfl (ret_mono (autx_path (AutX.ext q1 x3) (runS smallA 0 ([(⟨3, 1⟩ : Sym)]))) ?_))
  rintro _ w14 ⟨A2, c2, rfl, hn2, e14⟩
  have he14 := e14.size
  refine xl_opg (P := Tryz.prog) (some 50) (j := 21) (b := true) rfl rfl (congrArg some (decide_eq_true hf4)) (ox_len (A := A2) (n := ((pathS smallA (runS smallA 0 ([(⟨3, 1⟩ : Sym)]))).length)) (cp := c2) rfl tU_33 rfl ?_)
  refine xl_opg (P := Tryz.prog) (some 51) (j := 21) (b := true) rfl rfl (congrArg some (decide_eq_true hf4)) (ox_eql (k := .i64) (a := ((((pathS smallA (runS smallA 0 ([(⟨3, 1⟩ : Sym)]))).length : Nat) : Int))) (b := 1) rfl rfl ?_)
  refine xl_op (P := Tryz.prog) (some 52) rfl rfl (ox_pick_t (v := (.bool (decide (((((pathS smallA (runS smallA 0 ([(⟨3, 1⟩ : Sym)]))).length : Nat) : Int) : Int) = 1)))) (congrArg Value.bool (decide_eq_true hf4)) rfl ?_)
  refine xl_op (P := Tryz.prog) (some 0) rfl rfl (ox_assign (v := (.bool (decide (((((pathS smallA (runS smallA 0 ([(⟨3, 1⟩ : Sym)]))).length : Nat) : Int) : Int) = 1)))) rfl ?_)
  refine xl_nil ?_
  refine xc_ret ?_
  change leaves _ _ _ _ _ _ _
  refine leaves_nil (n := 53) (rs := [.tmp 0]) (vs := [(.bool (decide (((((pathS smallA (runS smallA 0 ([(⟨3, 1⟩ : Sym)]))).length : Nat) : Int) : Int) = 1)))]) rfl ⟨⟨by decide, rfl⟩, trivial⟩ ?_
  have x4 : Ext w w14 := (Ext.trans (Ext.trans (Ext.trans (Ext.trans (Ext.trans (Ext.trans (Ext.trans (Ext.trans (Ext.trans (Ext.trans (Ext.chg1 (Ext.trans (Ext.trans e1 e2) e3) e4 (by omega)) e5) e6) e7) e8) e9) e10) e11) e12) e13) e14)
  exact ⟨congrArg Value.bool (decide_eq_true (by omega)), x4⟩
end Go.Proofs.YtnnmdkglgnlenaaGreatDoor
set_option linter.unusedVariables false
set_option linter.unusedSimpArgs false
set_option maxRecDepth 100000
set_option maxHeartbeats 4000000
namespace Go.Proofs.YtnnmdkglgnlenaaGreatDoor
open Go Go.RowKit Go.Vx
theorem fm_drop {α : Type} {cs : α → List Value} {k : Nat} (hk : ∀ a, (cs a).length = k) : ∀ (i : Nat) (l : List α), (l.drop i).flatMap cs = (l.flatMap cs).drop (i * k)
  | 0, l => by simp
  | i + 1, [] => by simp
  | i + 1, x :: l => by
    rw [List.drop_succ_cons, fm_drop hk i l, List.flatMap_cons, List.drop_append]
    have h1 : (cs x).drop ((i + 1) * k) = [] := List.drop_of_length_le (by rw [hk, Nat.succ_mul]; omega)
    rw [h1, hk, Nat.succ_mul, Nat.add_sub_cancel]; rfl
theorem RowA.dropD {α : Type} {w : World} {A : Option Addr} {cs : α → List Value} {k c i0 : Nat} {l : List α} (hk : ∀ a, (cs a).length = k) (h1 : i0 ≤ l.length) (hc : l.length ≤ c) (h : RowA w A (l.flatMap cs)) : RowA w (sfA A c i0 k) ((l.drop i0).flatMap cs) := by
  rw [fm_drop hk]
  exact RowA.from i0 h1 hc h (fm_len hk l)
theorem pf_18 : plainF Tryz.prog 18 = true := by kernel_rfl
theorem passed_calls (s : SP) (x : Itm) (l : List Sym) (A : Option Addr) (c : Nat) (w : World) (hS : SpR w s) (hA : RowA w A (l.flatMap Sym.cs)) (hcap : l.length ≤ c) (hn : l.length ≤ 8796093022208) (hI : okI s.g x) (hP : PassG s.g x l) :
    Calls Tryz.prog 27 #[(.agg #[(.slice s.lA s.lex.length s.lc), (.slice s.nA s.names.length s.nc), (.int .i64 s.start), (.slice s.pA s.prods.length s.pc)]), (.agg #[(.int .i64 x.p), (.int .i64 x.dot)]), (.slice A l.length c)] w (Ret (fun v w' => v = .bool true ∧ Ext w w')) := by
  have hfp := hS.fp.le; have hok1 := hI.1; have hok2 := hI.2; rw [s.gprods] at hok1
  refine calls_xc (n := 48) (f := fun s_ => [(.agg #[(.slice s.lA s.lex.length s.lc), (.slice s.nA s.names.length s.nc), (.int .i64 s.start), (.slice s.pA s.prods.length s.pc)]), (.agg #[(.int .i64 x.p), (.int .i64 x.dot)]), (.slice A l.length c)].getD s_ undef) Tryz.func27 rfl rfl (by simp) (fun s_ => by simp) ?_
  refine xc_seq ?_
  refine xc_region ?_
  refine xl_op (P := Tryz.prog) (some 3) rfl rfl (ox_box (v := (.agg #[(.slice s.lA s.lex.length s.lc), (.slice s.nA s.names.length s.nc), (.int .i64 s.start), (.slice s.pA s.prods.length s.pc)])) rfl ?_)
  intro w1 e1 z1 b1
  replace b1 : Blk w1 w.heap.size #[(.slice s.lA s.lex.length s.lc), (.slice s.nA s.names.length s.nc), (.int .i64 s.start), (.slice s.pA s.prods.length s.pc)] 26 := b1
  refine xl_op (P := Tryz.prog) (some 4) rfl rfl (ox_box (v := (.agg #[(.int .i64 x.p), (.int .i64 x.dot)])) rfl ?_)
  intro w2 e2 z2 b2
  replace b2 : Blk w2 w1.heap.size #[(.int .i64 x.p), (.int .i64 x.dot)] 42 := b2
  refine xl_op (P := Tryz.prog) (some 6) rfl rfl (ox_assign (v := (.bool false)) rfl ?_)
  refine xl_nil ?_
  refine xc_seq ?_
  refine xc_region ?_
  refine xl_op (P := Tryz.prog) (some 8) rfl rfl (ox_fieldAddr (b := w.heap.size) (o := 0) tF_26_2 rfl ?_)
  refine xl_op (P := Tryz.prog) (some 9) rfl rfl (ox_load (v := (.int .i64 s.start)) tA_3 rfl ((b1.ext e2).cell rfl) ?_)
  refine xl_op (P := Tryz.prog) (some 10) rfl rfl (ox_mkStruct (ps := [(0, (.int .i64 3)), (1, (.int .i64 s.start))]) (cs := #[(.int .i64 3), (.int .i64 s.start)]) tZ_32 tP_32 rfl (by kernel_rfl) ?_)
  refine xl_op (P := Tryz.prog) (some 11) rfl rfl (ox_mkSlice (ps := [(0, (.agg #[(.int .i64 3), (.int .i64 s.start)]))]) (zs := #[(.int .i64 0), (.int .i64 0)]) (cs := #[(.int .i64 3), (.int .i64 s.start)]) tE_33 rfl (by decide) (by kernel_rfl) (by kernel_rfl) ?_)
  intro w3 e3 z3 b3
  replace b3 : Blk w3 w2.heap.size #[(.int .i64 3), (.int .i64 s.start)] 32 := b3
  refine xl_op (P := Tryz.prog) (some 7) rfl rfl (ox_assign (v := (.slice (some ⟨w2.heap.size, 0, none⟩) 1 1)) rfl ?_)
  refine xl_nil ?_
  refine xc_seq ?_
  refine xc_seq ?_
  refine xc_region ?_
  refine xl_op (P := Tryz.prog) (some 12) rfl rfl (ox_fieldAddr (b := w1.heap.size) (o := 0) tF_42_0 rfl ?_)
  refine xl_op (P := Tryz.prog) (some 13) rfl rfl (ox_load (v := (.int .i64 x.p)) tA_3 rfl ((b2.ext e3).cell rfl) ?_)
  refine xl_op (P := Tryz.prog) (some 14) rfl rfl (ox_geq (k := .i64) (a := x.p) (b := 0) rfl rfl ?_)
  refine xl_nil ?_
  refine xc_if (p := (0 : Int) ≤ x.p) rfl (fun h1 => ?_) (fun h1 => ?_)
  · skip
    refine xc_region ?_
    refine xl_op (P := Tryz.prog) (some 15) rfl rfl (ox_fieldAddr (b := w.heap.size) (o := 0) tF_26_3 rfl ?_)
    refine xl_op (P := Tryz.prog) (some 16) rfl rfl (ox_load (v := (.slice s.pA s.prods.length s.pc)) tA_24 rfl (((b1.ext e2).ext e3).cell rfl) ?_)
    refine xl_op (P := Tryz.prog) (some 17) rfl rfl (ox_fieldAddr (b := w1.heap.size) (o := 0) tF_42_0 rfl ?_)
    refine xl_op (P := Tryz.prog) (some 18) rfl rfl (ox_load (v := (.int .i64 x.p)) tA_3 rfl ((b2.ext e3).cell rfl) ?_)
    have x1 : Ext w w3 := (Ext.trans (Ext.trans e1 e2) e3)
    obtain ⟨x_1, g_1, o_1, hx_1⟩ := row_may (A := s.pA) (cs := PD.cs) x.p.toNat PD.len (by decide) (RowA.ext hS.prods x1)
    obtain ⟨hx_2, hA_1, hc_1⟩ := hx_1 (by first | omega | (simp only [List.length_drop, List.length_replicate, List.length_set, List.length_append, List.length_map, List.length_singleton] at *; omega))
    have hfr_x_1 := (hS.fr _ (List.mem_of_getElem? hx_2)).le
    refine xl_op (P := Tryz.prog) (some 19) rfl rfl (ox_ixA (b := g_1) (o := o_1) (i := x.p) x.p.toNat tE_24 hA_1 rfl rfl (by omega) (by omega) ?_)
    refine xl_op (P := Tryz.prog) (some 20) rfl rfl (ox_fieldAddr (b := g_1) (o := (o_1 + x.p.toNat * 2)) tF_37_1 rfl ?_)
    refine xl_op (P := Tryz.prog) (some 21) rfl rfl (ox_load (v := (.slice x_1.rA x_1.right.length x_1.rc)) tA_33 rfl (CellsL.at1 hc_1 1 rfl) ?_)
    refine xl_op (P := Tryz.prog) (some 7) rfl rfl (ox_assign (v := (.slice x_1.rA x_1.right.length x_1.rc)) rfl ?_)
    refine xl_nil ?_
    refine xc_seq ?_
    have hR : rightG s.g x.p = x_1.right := rightG_at (by omega) (by omega) hx_2
    have hcR9 := (hS.fr _ (List.mem_of_getElem? hx_2)).cap
    have hP9 := hP; unfold PassG at hP9; rw [hR] at hP9; obtain ⟨hp1, hp2, hp3⟩ := hP9
    refine xc_regionE [] (fun W_ => Chg (fun _ => False) w3 W_) hmix ?_
    intro w4 e4 z4
    have hS1 : Chg (fun _ => False) w3 w4 := Ext.to e4
    refine xd_pure 0 (some 22) rfl rfl (by kernel_rfl) (v := (.pointer (some ⟨w1.heap.size, 1, none⟩))) (.inl ⟨rfl, fun W_ hW_ => ox_fieldAddr (b := w1.heap.size) (o := 0) tF_42_1 rfl ⟨rfl, rfl⟩⟩) ?_
    refine xd_take 1 (some 23) rfl rfl (by kernel_rfl) (v := (.int .i64 x.dot)) (.inl ⟨rfl, fun W_ hW_ => ox_load (v := (.int .i64 x.dot)) tA_3 rfl (((b2.ext e3).ext hW_).cell rfl) ⟨rfl, rfl⟩⟩) hS1 ?_
    refine xd_pure 2 (some 24) rfl rfl (by kernel_rfl) (v := (.slice x_1.rA x_1.right.length x_1.rc)) (.inl ⟨rfl, fun W_ hW_ => ox_move (v := (.slice x_1.rA x_1.right.length x_1.rc)) rfl ⟨rfl, rfl⟩⟩) ?_
    refine xd_pure 3 (some 25) rfl rfl (by kernel_rfl) (v := (.int .i64 (((x_1.right.length : Nat) : Int)))) (.inl ⟨rfl, fun W_ hW_ => ox_len (A := x_1.rA) (n := x_1.right.length) (cp := x_1.rc) rfl tU_33 rfl ⟨rfl, rfl⟩⟩) ?_
    refine xd_pure 4 (some 26) rfl rfl (by kernel_rfl) (v := (.bool (decide ((x.dot : Int) ≤ (((x_1.right.length : Nat) : Int)))))) (.inl ⟨rfl, fun W_ hW_ => ox_leq (k := .i64) (a := x.dot) (b := (((x_1.right.length : Nat) : Int))) rfl rfl ⟨rfl, rfl⟩⟩) ?_
    refine xd_pure 5 (some 27) rfl rfl (by kernel_rfl) (v := (.bool (decide ((x.dot : Int) ≤ (((x_1.right.length : Nat) : Int)))))) (.inl ⟨rfl, fun W_ hW_ => ox_move (v := (.bool (decide ((x.dot : Int) ≤ (((x_1.right.length : Nat) : Int)))))) rfl ⟨rfl, rfl⟩⟩) ?_
    refine xd_pure 6 (some 28) rfl rfl (by kernel_rfl) (v := (.pointer (some ⟨w1.heap.size, 1, none⟩))) (.inl ⟨(wanted_of (j := 5) (b := true) rfl (congrArg some (decide_eq_true (by omega)))), fun W_ hW_ => ox_fieldAddr (b := w1.heap.size) (o := 0) tF_42_1 rfl ⟨rfl, rfl⟩⟩) ?_
    refine xd_take 7 (some 29) rfl rfl (by kernel_rfl) (v := (.int .i64 x.dot)) (.inl ⟨(wanted_of (j := 5) (b := true) rfl (congrArg some (decide_eq_true (by omega)))), fun W_ hW_ => ox_load (v := (.int .i64 x.dot)) tA_3 rfl (((b2.ext e3).ext hW_).cell rfl) ⟨rfl, rfl⟩⟩) hS1 ?_
    refine xd_pure 8 (some 30) rfl rfl (by kernel_rfl) (v := (.slice A l.length c)) (.inl ⟨(wanted_of (j := 5) (b := true) rfl (congrArg some (decide_eq_true (by omega)))), fun W_ hW_ => ox_move (v := (.slice A l.length c)) rfl ⟨rfl, rfl⟩⟩) ?_
    refine xd_pure 9 (some 31) rfl rfl (by kernel_rfl) (v := (.int .i64 (((l.length : Nat) : Int)))) (.inl ⟨(wanted_of (j := 5) (b := true) rfl (congrArg some (decide_eq_true (by omega)))), fun W_ hW_ => ox_len (A := A) (n := l.length) (cp := c) rfl tU_33 rfl ⟨rfl, rfl⟩⟩) ?_
    refine xd_pure 10 (some 32) rfl rfl (by kernel_rfl) (v := (.bool (decide ((x.dot : Int) ≤ (((l.length : Nat) : Int)))))) (.inl ⟨(wanted_of (j := 5) (b := true) rfl (congrArg some (decide_eq_true (by omega)))), fun W_ hW_ => ox_leq (k := .i64) (a := x.dot) (b := (((l.length : Nat) : Int))) rfl rfl ⟨rfl, rfl⟩⟩) ?_
    refine xd_pure 11 (some 33) rfl rfl (by kernel_rfl) (v := (.bool (decide ((x.dot : Int) ≤ (((l.length : Nat) : Int)))))) (.inl ⟨rfl, fun W_ hW_ => ox_pick_t (v := (.bool (decide ((x.dot : Int) ≤ (((l.length : Nat) : Int)))))) (congrArg Value.bool (decide_eq_true (by omega))) rfl ⟨rfl, rfl⟩⟩) ?_
    refine xd_pure 12 (some 34) rfl rfl (by kernel_rfl) (v := (.bool (decide ((x.dot : Int) ≤ (((l.length : Nat) : Int)))))) (.inl ⟨rfl, fun W_ hW_ => ox_move (v := (.bool (decide ((x.dot : Int) ≤ (((l.length : Nat) : Int)))))) rfl ⟨rfl, rfl⟩⟩) ?_
    refine xd_pure 13 (some 35) rfl rfl (by kernel_rfl) (v := (.slice x_1.rA x_1.right.length x_1.rc)) (.inl ⟨(wanted_of (j := 12) (b := true) rfl (congrArg some (decide_eq_true (by omega)))), fun W_ hW_ => ox_move (v := (.slice x_1.rA x_1.right.length x_1.rc)) rfl ⟨rfl, rfl⟩⟩) ?_
    refine xd_pure 14 (some 36) rfl rfl (by kernel_rfl) (v := (.pointer (some ⟨w1.heap.size, 1, none⟩))) (.inl ⟨(wanted_of (j := 12) (b := true) rfl (congrArg some (decide_eq_true (by omega)))), fun W_ hW_ => ox_fieldAddr (b := w1.heap.size) (o := 0) tF_42_1 rfl ⟨rfl, rfl⟩⟩) ?_
    refine xd_take 15 (some 37) rfl rfl (by kernel_rfl) (v := (.int .i64 x.dot)) (.inl ⟨(wanted_of (j := 12) (b := true) rfl (congrArg some (decide_eq_true (by omega)))), fun W_ hW_ => ox_load (v := (.int .i64 x.dot)) tA_3 rfl (((b2.ext e3).ext hW_).cell rfl) ⟨rfl, rfl⟩⟩) hS1 ?_
    refine xd_pure 16 (some 38) rfl rfl (by kernel_rfl) (v := (.slice x_1.rA x.dot.toNat x_1.rc)) (.inl ⟨(wanted_of (j := 12) (b := true) rfl (congrArg some (decide_eq_true (by omega)))), fun W_ hW_ => ox_sliceToN (A := x_1.rA) (cp := x_1.rc) (i := x.dot) x.dot.toNat tE_33 rfl rfl (by omega) (by omega) (by omega) ⟨rfl, rfl⟩⟩) ?_
    refine xd_pure 17 (some 39) rfl rfl (by kernel_rfl) (v := (.slice A l.length c)) (.inl ⟨(wanted_of (j := 12) (b := true) rfl (congrArg some (decide_eq_true (by omega)))), fun W_ hW_ => ox_move (v := (.slice A l.length c)) rfl ⟨rfl, rfl⟩⟩) ?_
    refine xd_pure 18 (some 40) rfl rfl (by kernel_rfl) (v := (.slice A l.length c)) (.inl ⟨(wanted_of (j := 12) (b := true) rfl (congrArg some (decide_eq_true (by omega)))), fun W_ hW_ => ox_move (v := (.slice A l.length c)) rfl ⟨rfl, rfl⟩⟩) ?_
    refine xd_pure 19 (some 41) rfl rfl (by kernel_rfl) (v := (.int .i64 (((l.length : Nat) : Int)))) (.inl ⟨(wanted_of (j := 12) (b := true) rfl (congrArg some (decide_eq_true (by omega)))), fun W_ hW_ => ox_len (A := A) (n := l.length) (cp := c) rfl tU_33 rfl ⟨rfl, rfl⟩⟩) ?_
    refine xd_pure 20 (some 42) rfl rfl (by kernel_rfl) (v := (.pointer (some ⟨w1.heap.size, 1, none⟩))) (.inl ⟨(wanted_of (j := 12) (b := true) rfl (congrArg some (decide_eq_true (by omega)))), fun W_ hW_ => ox_fieldAddr (b := w1.heap.size) (o := 0) tF_42_1 rfl ⟨rfl, rfl⟩⟩) ?_
    refine xd_take 21 (some 43) rfl rfl (by kernel_rfl) (v := (.int .i64 x.dot)) (.inl ⟨(wanted_of (j := 12) (b := true) rfl (congrArg some (decide_eq_true (by omega)))), fun W_ hW_ => ox_load (v := (.int .i64 x.dot)) tA_3 rfl (((b2.ext e3).ext hW_).cell rfl) ⟨rfl, rfl⟩⟩) hS1 ?_
    refine xd_pure 22 (some 44) rfl rfl (by kernel_rfl) (v := (.int .i64 (((l.length : Nat) : Int) - x.dot))) (.inl ⟨(wanted_of (j := 12) (b := true) rfl (congrArg some (decide_eq_true (by omega)))), fun W_ hW_ => ox_sub64 (a := (((l.length : Nat) : Int))) (b := x.dot) rfl rfl (by omega) ⟨rfl, rfl⟩⟩) ?_
    refine xd_pure 23 (some 45) rfl rfl (by kernel_rfl) (v := (.slice ((sfA A c ((l.length - x.dot.toNat)) 2)) ((l.length - ((l.length - x.dot.toNat)))) ((c - ((l.length - x.dot.toNat)))))) (.inl ⟨(wanted_of (j := 12) (b := true) rfl (congrArg some (decide_eq_true (by omega)))), fun W_ hW_ => ox_sliceFromV (A := A) (n := l.length) (cp := c) (i := (((l.length : Nat) : Int) - x.dot)) ((l.length - x.dot.toNat)) tE_33 rfl rfl (by omega) (by omega) ⟨rfl, rfl⟩⟩) ?_
    have x2 : Ext w w4 := (Ext.trans x1 e4)
    refine xd_oneW 24 (some 46) rfl rfl (by kernel_rfl) (wanted_of (j := 12) (b := true) rfl (congrArg some (decide_eq_true (by omega)))) (ox_callE (al := [(.slice x_1.rA x.dot.toNat x_1.rc), (.slice ((sfA A c ((l.length - x.dot.toNat)) 2)) ((l.length - ((l.length - x.dot.toNat)))) ((c - ((l.length - x.dot.toNat)))))]) pf_18 rfl (ret_mono ((by have h9 := sameSyms_calls (x_1.right.take x.dot.toNat) (l.drop (l.length - x.dot.toNat)) x_1.rA ((sfA A c ((l.length - x.dot.toNat)) 2)) x_1.rc ((c - ((l.length - x.dot.toNat)))) w4 (RowA.takeD (RowA.ext ((hS.right _ (List.mem_of_getElem? hx_2))) x2) Sym.len _) (RowA.dropD Sym.len (by omega) hcap (hA.ext x2)) (by rw [List.length_take]; omega); rw [List.length_take, Nat.min_eq_left hp1, List.length_drop] at h9; exact h9)) ?_))
    rintro _ w5 ⟨rfl, e5⟩
    have he5 := e5.size
    have hS2 : Chg (fun _ => False) w3 w5 := Chg.ext hS1 e5
    refine ⟨.inr fun _ => hS2, ?_⟩
    refine xd_pure 25 (some 47) rfl rfl (by kernel_rfl) (v := (.bool (decide (x_1.right.take x.dot.toNat = l.drop (l.length - x.dot.toNat))))) (.inl ⟨rfl, fun W_ hW_ => ox_pick_t (v := (.bool (decide (x_1.right.take x.dot.toNat = l.drop (l.length - x.dot.toNat))))) (congrArg Value.bool (decide_eq_true (by omega))) rfl ⟨rfl, rfl⟩⟩) ?_
    refine xd_pure 26 (some 6) rfl rfl (by kernel_rfl) (v := (.bool (decide (x_1.right.take x.dot.toNat = l.drop (l.length - x.dot.toNat))))) (.inl ⟨rfl, fun W_ hW_ => ox_assign (v := (.bool (decide (x_1.right.take x.dot.toNat = l.drop (l.length - x.dot.toNat))))) rfl ⟨rfl, rfl⟩⟩) ?_
    refine xd_done (by kernel_rfl) ?_ _
    refine xc_ret ?_
    change leaves _ _ _ _ _ _ _
    refine leaves_nil (n := 48) (rs := [.tmp 6]) (vs := [(.bool (decide (x_1.right.take x.dot.toNat = l.drop (l.length - x.dot.toNat))))]) rfl ⟨⟨by decide, rfl⟩, trivial⟩ ?_
    have x3 : Ext w w5 := (Ext.trans x2 e5)
    exact ⟨congrArg Value.bool (decide_eq_true hp3), x3⟩
  · skip
    refine xc_skip ?_
    refine xc_seq ?_
    have hR : rightG s.g x.p = [(⟨3, s.start⟩ : Sym)] := by rw [rightG, if_pos (by omega)]; rfl
    have hP9 := hP; unfold PassG at hP9; rw [hR] at hP9; obtain ⟨hp1, hp2, hp3⟩ := hP9
    simp only [List.length_singleton] at hp1
    refine xc_regionE [] (fun W_ => Chg (fun _ => False) w3 W_) hmix ?_
    intro w6 e6 z5
    have hS3 : Chg (fun _ => False) w3 w6 := Ext.to e6
    refine xd_pure 0 (some 22) rfl rfl (by kernel_rfl) (v := (.pointer (some ⟨w1.heap.size, 1, none⟩))) (.inl ⟨rfl, fun W_ hW_ => ox_fieldAddr (b := w1.heap.size) (o := 0) tF_42_1 rfl ⟨rfl, rfl⟩⟩) ?_
    refine xd_take 1 (some 23) rfl rfl (by kernel_rfl) (v := (.int .i64 x.dot)) (.inl ⟨rfl, fun W_ hW_ => ox_load (v := (.int .i64 x.dot)) tA_3 rfl (((b2.ext e3).ext hW_).cell rfl) ⟨rfl, rfl⟩⟩) hS3 ?_
    refine xd_pure 2 (some 24) rfl rfl (by kernel_rfl) (v := (.slice (some ⟨w2.heap.size, 0, none⟩) 1 1)) (.inl ⟨rfl, fun W_ hW_ => ox_move (v := (.slice (some ⟨w2.heap.size, 0, none⟩) 1 1)) rfl ⟨rfl, rfl⟩⟩) ?_
    refine xd_pure 3 (some 25) rfl rfl (by kernel_rfl) (v := (.int .i64 1)) (.inl ⟨rfl, fun W_ hW_ => ox_len (A := (some ⟨w2.heap.size, 0, none⟩)) (n := 1) (cp := 1) rfl tU_33 rfl ⟨rfl, rfl⟩⟩) ?_
    refine xd_pure 4 (some 26) rfl rfl (by kernel_rfl) (v := (.bool (decide ((x.dot : Int) ≤ 1)))) (.inl ⟨rfl, fun W_ hW_ => ox_leq (k := .i64) (a := x.dot) (b := 1) rfl rfl ⟨rfl, rfl⟩⟩) ?_
    refine xd_pure 5 (some 27) rfl rfl (by kernel_rfl) (v := (.bool (decide ((x.dot : Int) ≤ 1)))) (.inl ⟨rfl, fun W_ hW_ => ox_move (v := (.bool (decide ((x.dot : Int) ≤ 1)))) rfl ⟨rfl, rfl⟩⟩) ?_
    refine xd_pure 6 (some 28) rfl rfl (by kernel_rfl) (v := (.pointer (some ⟨w1.heap.size, 1, none⟩))) (.inl ⟨(wanted_of (j := 5) (b := true) rfl (congrArg some (decide_eq_true (by omega)))), fun W_ hW_ => ox_fieldAddr (b := w1.heap.size) (o := 0) tF_42_1 rfl ⟨rfl, rfl⟩⟩) ?_
    refine xd_take 7 (some 29) rfl rfl (by kernel_rfl) (v := (.int .i64 x.dot)) (.inl ⟨(wanted_of (j := 5) (b := true) rfl (congrArg some (decide_eq_true (by omega)))), fun W_ hW_ => ox_load (v := (.int .i64 x.dot)) tA_3 rfl (((b2.ext e3).ext hW_).cell rfl) ⟨rfl, rfl⟩⟩) hS3 ?_
    refine xd_pure 8 (some 30) rfl rfl (by kernel_rfl) (v := (.slice A l.length c)) (.inl ⟨(wanted_of (j := 5) (b := true) rfl (congrArg some (decide_eq_true (by omega)))), fun W_ hW_ => ox_move (v := (.slice A l.length c)) rfl ⟨rfl, rfl⟩⟩) ?_
    refine xd_pure 9 (some 31) rfl rfl (by kernel_rfl) (v := (.int .i64 (((l.length : Nat) : Int)))) (.inl ⟨(wanted_of (j := 5) (b := true) rfl (congrArg some (decide_eq_true (by omega)))), fun W_ hW_ => ox_len (A := A) (n := l.length) (cp := c) rfl tU_33 rfl ⟨rfl, rfl⟩⟩) ?_
    refine xd_pure 10 (some 32) rfl rfl (by kernel_rfl) (v := (.bool (decide ((x.dot : Int) ≤ (((l.length : Nat) : Int)))))) (.inl ⟨(wanted_of (j := 5) (b := true) rfl (congrArg some (decide_eq_true (by omega)))), fun W_ hW_ => ox_leq (k := .i64) (a := x.dot) (b := (((l.length : Nat) : Int))) rfl rfl ⟨rfl, rfl⟩⟩) ?_
    refine xd_pure 11 (some 33) rfl rfl (by kernel_rfl) (v := (.bool (decide ((x.dot : Int) ≤ (((l.length : Nat) : Int)))))) (.inl ⟨rfl, fun W_ hW_ => ox_pick_t (v := (.bool (decide ((x.dot : Int) ≤ (((l.length : Nat) : Int)))))) (congrArg Value.bool (decide_eq_true (by omega))) rfl ⟨rfl, rfl⟩⟩) ?_
    refine xd_pure 12 (some 34) rfl rfl (by kernel_rfl) (v := (.bool (decide ((x.dot : Int) ≤ (((l.length : Nat) : Int)))))) (.inl ⟨rfl, fun W_ hW_ => ox_move (v := (.bool (decide ((x.dot : Int) ≤ (((l.length : Nat) : Int)))))) rfl ⟨rfl, rfl⟩⟩) ?_
    refine xd_pure 13 (some 35) rfl rfl (by kernel_rfl) (v := (.slice (some ⟨w2.heap.size, 0, none⟩) 1 1)) (.inl ⟨(wanted_of (j := 12) (b := true) rfl (congrArg some (decide_eq_true (by omega)))), fun W_ hW_ => ox_move (v := (.slice (some ⟨w2.heap.size, 0, none⟩) 1 1)) rfl ⟨rfl, rfl⟩⟩) ?_
    refine xd_pure 14 (some 36) rfl rfl (by kernel_rfl) (v := (.pointer (some ⟨w1.heap.size, 1, none⟩))) (.inl ⟨(wanted_of (j := 12) (b := true) rfl (congrArg some (decide_eq_true (by omega)))), fun W_ hW_ => ox_fieldAddr (b := w1.heap.size) (o := 0) tF_42_1 rfl ⟨rfl, rfl⟩⟩) ?_
    refine xd_take 15 (some 37) rfl rfl (by kernel_rfl) (v := (.int .i64 x.dot)) (.inl ⟨(wanted_of (j := 12) (b := true) rfl (congrArg some (decide_eq_true (by omega)))), fun W_ hW_ => ox_load (v := (.int .i64 x.dot)) tA_3 rfl (((b2.ext e3).ext hW_).cell rfl) ⟨rfl, rfl⟩⟩) hS3 ?_
    refine xd_pure 16 (some 38) rfl rfl (by kernel_rfl) (v := (.slice (some ⟨w2.heap.size, 0, none⟩) x.dot.toNat 1)) (.inl ⟨(wanted_of (j := 12) (b := true) rfl (congrArg some (decide_eq_true (by omega)))), fun W_ hW_ => ox_sliceToN (A := (some ⟨w2.heap.size, 0, none⟩)) (cp := 1) (i := x.dot) x.dot.toNat tE_33 rfl rfl (by omega) (by omega) (by omega) ⟨rfl, rfl⟩⟩) ?_
    refine xd_pure 17 (some 39) rfl rfl (by kernel_rfl) (v := (.slice A l.length c)) (.inl ⟨(wanted_of (j := 12) (b := true) rfl (congrArg some (decide_eq_true (by omega)))), fun W_ hW_ => ox_move (v := (.slice A l.length c)) rfl ⟨rfl, rfl⟩⟩) ?_
    refine xd_pure 18 (some 40) rfl rfl (by kernel_rfl) (v := (.slice A l.length c)) (.inl ⟨(wanted_of (j := 12) (b := true) rfl (congrArg some (decide_eq_true (by omega)))), fun W_ hW_ => ox_move (v := (.slice A l.length c)) rfl ⟨rfl, rfl⟩⟩) ?_
    refine xd_pure 19 (some 41) rfl rfl (by kernel_rfl) (v := (.int .i64 (((l.length : Nat) : Int)))) (.inl ⟨(wanted_of (j := 12) (b := true) rfl (congrArg some (decide_eq_true (by omega)))), fun W_ hW_ => ox_len (A := A) (n := l.length) (cp := c) rfl tU_33 rfl ⟨rfl, rfl⟩⟩) ?_
    refine xd_pure 20 (some 42) rfl rfl (by kernel_rfl) (v := (.pointer (some ⟨w1.heap.size, 1, none⟩))) (.inl ⟨(wanted_of (j := 12) (b := true) rfl (congrArg some (decide_eq_true (by omega)))), fun W_ hW_ => ox_fieldAddr (b := w1.heap.size) (o := 0) tF_42_1 rfl ⟨rfl, rfl⟩⟩) ?_
    refine xd_take 21 (some 43) rfl rfl (by kernel_rfl) (v := (.int .i64 x.dot)) (.inl ⟨(wanted_of (j := 12) (b := true) rfl (congrArg some (decide_eq_true (by omega)))), fun W_ hW_ => ox_load (v := (.int .i64 x.dot)) tA_3 rfl (((b2.ext e3).ext hW_).cell rfl) ⟨rfl, rfl⟩⟩) hS3 ?_
    refine xd_pure 22 (some 44) rfl rfl (by kernel_rfl) (v := (.int .i64 (((l.length : Nat) : Int) - x.dot))) (.inl ⟨(wanted_of (j := 12) (b := true) rfl (congrArg some (decide_eq_true (by omega)))), fun W_ hW_ => ox_sub64 (a := (((l.length : Nat) : Int))) (b := x.dot) rfl rfl (by omega) ⟨rfl, rfl⟩⟩) ?_
    refine xd_pure 23 (some 45) rfl rfl (by kernel_rfl) (v := (.slice ((sfA A c ((l.length - x.dot.toNat)) 2)) ((l.length - ((l.length - x.dot.toNat)))) ((c - ((l.length - x.dot.toNat)))))) (.inl ⟨(wanted_of (j := 12) (b := true) rfl (congrArg some (decide_eq_true (by omega)))), fun W_ hW_ => ox_sliceFromV (A := A) (n := l.length) (cp := c) (i := (((l.length : Nat) : Int) - x.dot)) ((l.length - x.dot.toNat)) tE_33 rfl rfl (by omega) (by omega) ⟨rfl, rfl⟩⟩) ?_
    have x4 : Ext w w6 := (Ext.trans (Ext.trans (Ext.trans e1 e2) e3) e6)
    refine xd_oneW 24 (some 46) rfl rfl (by kernel_rfl) (wanted_of (j := 12) (b := true) rfl (congrArg some (decide_eq_true (by omega)))) (ox_callE (al := [(.slice (some ⟨w2.heap.size, 0, none⟩) x.dot.toNat 1), (.slice ((sfA A c ((l.length - x.dot.toNat)) 2)) ((l.length - ((l.length - x.dot.toNat)))) ((c - ((l.length - x.dot.toNat)))))]) pf_18 rfl (ret_mono ((by have h9 := sameSyms_calls ([(⟨3, s.start⟩ : Sym)].take x.dot.toNat) (l.drop (l.length - x.dot.toNat)) (some ⟨w2.heap.size, 0, none⟩) ((sfA A c ((l.length - x.dot.toNat)) 2)) 1 ((c - ((l.length - x.dot.toNat)))) w6 (RowA.takeD (RowA.blk (b3.ext e6) rfl) Sym.len _) (RowA.dropD Sym.len (by omega) hcap (hA.ext x4)) (by rw [List.length_take]; omega); rw [List.length_take, Nat.min_eq_left (by simp only [List.length_singleton]; omega), List.length_drop] at h9; exact h9)) ?_))
    rintro _ w7 ⟨rfl, e7⟩
    have he7 := e7.size
    have hS4 : Chg (fun _ => False) w3 w7 := Chg.ext hS3 e7
    refine ⟨.inr fun _ => hS4, ?_⟩
    refine xd_pure 25 (some 47) rfl rfl (by kernel_rfl) (v := (.bool (decide ([(⟨3, s.start⟩ : Sym)].take x.dot.toNat = l.drop (l.length - x.dot.toNat))))) (.inl ⟨rfl, fun W_ hW_ => ox_pick_t (v := (.bool (decide ([(⟨3, s.start⟩ : Sym)].take x.dot.toNat = l.drop (l.length - x.dot.toNat))))) (congrArg Value.bool (decide_eq_true (by omega))) rfl ⟨rfl, rfl⟩⟩) ?_
    refine xd_pure 26 (some 6) rfl rfl (by kernel_rfl) (v := (.bool (decide ([(⟨3, s.start⟩ : Sym)].take x.dot.toNat = l.drop (l.length - x.dot.toNat))))) (.inl ⟨rfl, fun W_ hW_ => ox_assign (v := (.bool (decide ([(⟨3, s.start⟩ : Sym)].take x.dot.toNat = l.drop (l.length - x.dot.toNat))))) rfl ⟨rfl, rfl⟩⟩) ?_
    refine xd_done (by kernel_rfl) ?_ _
    refine xc_ret ?_
    change leaves _ _ _ _ _ _ _
    refine leaves_nil (n := 48) (rs := [.tmp 6]) (vs := [(.bool (decide ([(⟨3, s.start⟩ : Sym)].take x.dot.toNat = l.drop (l.length - x.dot.toNat))))]) rfl ⟨⟨by decide, rfl⟩, trivial⟩ ?_
    have x5 : Ext w w7 := (Ext.trans x4 e7)
    exact ⟨congrArg Value.bool (decide_eq_true hp3), x5⟩
end Go.Proofs.YtnnmdkglgnlenaaGreatDoor
set_option linter.unusedVariables false
set_option linter.unusedSimpArgs false
set_option maxRecDepth 100000
set_option maxHeartbeats 4000000
namespace Go.Proofs.YtnnmdkglgnlenaaGreatDoor
open Go Go.RowKit Go.Vx
theorem built_calls2 (s : SP) (w : World) (hS : SpR w s) (hT : TabP w) : Calls Tryz.prog 9 #[(.agg #[(.slice s.lA s.lex.length s.lc), (.slice s.nA s.names.length s.nc), (.int .i64 s.start), (.slice s.pA s.prods.length s.pc)])] w (Ret fun v w' => ∃ p, v = .pointer p ∧ Ext w w' ∧ ((builtG s.g = none ∧ p = none) ∨ ∃ s1 ba st, p = some ⟨ba, 0, none⟩ ∧ s1.g = s.g ∧ builtG s.g = some st ∧ ∃ B, w.heap.size ≤ B ∧ AutX B w' s1 ba st)) := by
  refine ret_mono (built_calls s w hS hT) ?_
  rintro v w' ⟨he, ⟨h1, rfl⟩ | ⟨s1, ba, st, h1, h2, h3, rfl⟩⟩
  · exact ⟨_, rfl, he, .inl ⟨h1, rfl⟩⟩
  · exact ⟨_, rfl, he, .inr ⟨s1, ba, st, rfl, h1, h2, h3⟩⟩
theorem built_lex {s : SP} {st : List ASt} (h : builtG s.g = some st) : s.lex.length ≤ 64 ∧ s.names.length ≤ 128 ∧ s.prods.length ≤ 512 := by
  unfold builtG at h
  split at h
  · rename_i hc
    unfold checkE at hc
    split at hc
    · exact absurd hc (by decide)
    · rename_i hl
      have h3 : longG s.g = false := by simpa using hl
      unfold longG at h3
      simp only [Bool.or_eq_false_iff, decide_eq_false_iff_not] at h3
      have h4 := s.glex
      have h5 := s.gprods
      have h6 : s.g.names = s.names.length := rfl
      omega
  · cases h
theorem termsG_len : ∀ (l : List Bool) (i : Nat), (termsG l i).length ≤ l.length
  | [], _ => Nat.le_refl _
  | b :: r, i => by
    have := termsG_len r (i + 1)
    rw [termsG, List.length_append, List.length_cons]
    split
    · simp only [List.length_nil]; omega
    · simp only [List.length_singleton]; omega
theorem symbolsG_len (g : GD) : (symbolsG g).length ≤ g.triv.length + 1 + g.names := by
  have := termsG_len g.triv 0
  unfold symbolsG namesL
  simp only [List.length_append, List.length_map, List.length_range, List.length_singleton]
  omega
theorem path_le {g : GD} {st : List ASt} (h : Aut g st) : ∀ (k : Nat) (x : ASt), st[k]? = some x → (pathS st (k : Nat)).length ≤ k := by
  intro k
  induction k using Nat.strongRecOn with
  | ind k ih =>
    intro x hx
    by_cases hk : k = 0
    · subst hk
      have := path_zero h
      rw [show ((0 : Nat) : Int) = 0 from rfl, this]; exact Nat.le_refl _
    · obtain ⟨m, y, e1, e2, e3, _⟩ := h.frm k x hx hk
      have := ih m e2 y e3
      rw [path_len h hx hk e1 e2 e3]; omega
theorem pf_10 : plainF Tryz.prog 10 = true := by kernel_rfl
theorem pf_15 : plainF Tryz.prog 15 = true := by kernel_rfl
theorem pf_22 : plainF Tryz.prog 22 = true := by kernel_rfl
theorem pf_27 : plainF Tryz.prog 27 = true := by kernel_rfl
theorem pf_28 : plainF Tryz.prog 28 = true := by kernel_rfl
theorem pf_29 : plainF Tryz.prog 29 = true := by kernel_rfl
theorem pf_9 : plainF Tryz.prog 9 = true := by kernel_rfl
theorem paths_calls (s : SP) (w : World) (hS : SpR w s) (hT : TabP w) :
    Calls Tryz.prog 5 #[(.agg #[(.slice s.lA s.lex.length s.lc), (.slice s.nA s.names.length s.nc), (.int .i64 s.start), (.slice s.pA s.prods.length s.pc)])] w (Ret (fun v w' => v = .bool true ∧ Ext w w')) := by
  refine calls_xc (n := 180) (f := fun s_ => [(.agg #[(.slice s.lA s.lex.length s.lc), (.slice s.nA s.names.length s.nc), (.int .i64 s.start), (.slice s.pA s.prods.length s.pc)])].getD s_ undef) Tryz.func5 rfl rfl (by simp) (fun s_ => by simp) ?_
  refine xc_seq ?_
  refine xc_region ?_
  refine xl_op (P := Tryz.prog) (some 1) rfl rfl (ox_box (v := (.agg #[(.slice s.lA s.lex.length s.lc), (.slice s.nA s.names.length s.nc), (.int .i64 s.start), (.slice s.pA s.prods.length s.pc)])) rfl ?_)
  intro w1 e1 z1 b1
  replace b1 : Blk w1 w.heap.size #[(.slice s.lA s.lex.length s.lc), (.slice s.nA s.names.length s.nc), (.int .i64 s.start), (.slice s.pA s.prods.length s.pc)] 26 := b1
  refine xl_op (P := Tryz.prog) (some 2) rfl rfl (ox_assign (v := (.bool false)) rfl ?_)
  refine xl_nil ?_
  refine xc_seq ?_
  refine xc_region ?_
  refine xl_op (P := Tryz.prog) (some 15) rfl rfl (ox_loadN (vs := [(.slice s.lA s.lex.length s.lc), (.slice s.nA s.names.length s.nc), (.int .i64 s.start), (.slice s.pA s.prods.length s.pc)]) tA_26 tS_26 rfl rfl ⟨b1.cell rfl, b1.cell rfl, b1.cell rfl, b1.cell rfl, trivial⟩ ?_)
  refine xl_op (P := Tryz.prog) (some 16) rfl rfl (ox_callE (al := [(.agg #[(.slice s.lA s.lex.length s.lc), (.slice s.nA s.names.length s.nc), (.int .i64 s.start), (.slice s.pA s.prods.length s.pc)])]) pf_9 rfl (ret_mono (built_calls2 s w1 (hS.ext e1) (TabIs.ext hT e1)) ?_))
  rintro _ w2 ⟨p1, rfl, e2, hb1⟩
  have he2 := e2.size
  refine xl_op (P := Tryz.prog) (some 3) rfl rfl (ox_assign (v := (.pointer p1)) rfl ?_)
  refine xl_nil ?_
  refine xc_seq ?_
  refine xc_seq ?_
  refine xc_region ?_
  refine xl_op (P := Tryz.prog) (some 17) rfl rfl (ox_move (v := (.pointer p1)) rfl ?_)
  refine xl_op (P := Tryz.prog) (some 18) rfl rfl (ox_eqlNil (p := p1) (q := none) tU_28 rfl rfl (.inr rfl) ?_)
  refine xl_nil ?_
  refine xc_if (p := p1 = none) rfl (fun h1 => ?_) (fun h1 => ?_)
  · skip
    refine xc_seq ?_
    refine xc_region ?_
    have x1 : Ext w w2 := (Ext.trans e1 e2)
    refine xl_op (P := Tryz.prog) (some 19) rfl rfl (ox_callE (al := []) pf_10 rfl (ret_mono (known_calls w2 (TabIs.ext hT x1)) ?_))
    rintro _ w3 ⟨rfl, e3⟩
    have he3 := e3.size
    refine xl_op (P := Tryz.prog) (some 2) rfl rfl (ox_assign (v := (.bool true)) rfl ?_)
    refine xl_nil ?_
    refine xc_ret ?_
    change leaves _ _ _ _ _ _ _
    refine leaves_nil (n := 180) (rs := [.tmp 2]) (vs := [(.bool true)]) rfl ⟨⟨by decide, rfl⟩, trivial⟩ ?_
    have x2 : Ext w w3 := (Ext.trans x1 e3)
    exact ⟨rfl, x2⟩
  · skip
    obtain ⟨s1_, ba_, st, rfl, hg1_, hbu_, B_, hB_, hX_⟩ := hb1.resolve_left (fun ⟨_, h9⟩ => h1 h9)
    have haut : Aut s.g st := hg1_ ▸ hX_.aut
    have hbig := haut.big
    have hlx := built_lex hbu_
    refine xc_skip ?_
    refine xc_seq ?_
    refine xc_region ?_
    refine xl_op (P := Tryz.prog) (some 20) rfl rfl (ox_loadN (vs := [(.slice s.lA s.lex.length s.lc), (.slice s.nA s.names.length s.nc), (.int .i64 s.start), (.slice s.pA s.prods.length s.pc)]) tA_26 tS_26 rfl rfl ⟨(b1.ext e2).cell rfl, (b1.ext e2).cell rfl, (b1.ext e2).cell rfl, (b1.ext e2).cell rfl, trivial⟩ ?_)
    have x3 : Ext w w2 := (Ext.trans e1 e2)
    refine xl_op (P := Tryz.prog) (some 21) rfl rfl (ox_callE (al := [(.agg #[(.slice s.lA s.lex.length s.lc), (.slice s.nA s.names.length s.nc), (.int .i64 s.start), (.slice s.pA s.prods.length s.pc)])]) pf_22 rfl (ret_mono (symbolsRef_calls s w2 (hS.ext x3) (by omega) (by omega)) ?_))
    rintro _ w4 ⟨A1, c1, rfl, hn1, e4⟩
    have he4 := e4.size
    have hsyl := symbolsG_len s.g; rw [s.glex, show s.g.names = s.names.length from rfl] at hsyl
    refine xl_op (P := Tryz.prog) (some 4) rfl rfl (ox_assign (v := (.slice A1 ((symbolsG s.g).length) c1)) rfl ?_)
    refine xl_nil ?_
    refine xc_seq ?_
    refine xc_seq ?_
    refine xc_region ?_
    refine xl_op (P := Tryz.prog) (some 5) rfl rfl (ox_assign (v := (.int .i64 0)) rfl ?_)
    refine xl_nil ?_
    refine xc_block ?_
    refine xc_loopN (fun m_ f_ Wx => ∃ (n : Nat), m_ = st.length - n ∧ (n ≤ st.length) ∧ f_ 1 = (.pointer (some ⟨w.heap.size, 0, none⟩)) ∧ f_ 3 = (.pointer (some ⟨ba_, 0, none⟩)) ∧ f_ 4 = (.slice A1 ((symbolsG s.g).length) c1) ∧ f_ 5 = (.int .i64 ((n : Nat))) ∧ Ext w4 Wx) (st.length) ?_ ?_
    · exact ⟨0, (by omega), (by omega), rfl, rfl, rfl, (by first | exact rfl | exact (congrArg (Value.int .i64) (by omega))), (Chg.refl _ _)⟩
    · rintro m_ f1 w5 ⟨n, hm_f1, hn, g1_f1, g3_f1, g4_f1, g5_f1, x4⟩
      have hx4 := x4.size
      refine xc_seq ?_
      refine xc_seq ?_
      refine xc_region ?_
      refine xl_op (P := Tryz.prog) (some 22) rfl rfl (ox_move (v := (.int .i64 ((n : Nat)))) g5_f1 ?_)
      refine xl_op (P := Tryz.prog) (some 23) rfl rfl (ox_move (v := (.pointer (some ⟨ba_, 0, none⟩))) g3_f1 ?_)
      have x5 : Ext w2 w5 := (Ext.trans e4 x4)
      refine xl_op (P := Tryz.prog) (some 24) rfl rfl (ox_callE (al := [(.pointer (some ⟨ba_, 0, none⟩))]) pf_23 rfl (ret_mono (autx_len (AutX.ext hX_ x5)) ?_))
      rintro _ w6 ⟨rfl, e5⟩
      have he5 := e5.size
      refine xl_op (P := Tryz.prog) (some 25) rfl rfl (ox_lss (k := .i64) (a := ((n : Nat))) (b := ((st.length : Nat))) rfl rfl ?_)
      refine xl_nil ?_
      refine xc_if (p := ((n : Nat) : Int) < ((st.length : Nat))) rfl (fun h2 => ?_) (fun h2 => ?_)
      · skip
        have hnl : n < st.length := by omega
        obtain ⟨xs, hx⟩ := get_ex hnl
        refine xc_skip ?_
        refine xc_seq ?_
        refine xc_block ?_
        refine xc_seq ?_
        refine xc_region ?_
        refine xl_op (P := Tryz.prog) (some 28) rfl rfl (ox_move (v := (.pointer (some ⟨ba_, 0, none⟩))) g3_f1 ?_)
        refine xl_op (P := Tryz.prog) (some 29) rfl rfl (ox_move (v := (.int .i64 ((n : Nat)))) g5_f1 ?_)
        refine xl_op (P := Tryz.prog) (some 30) rfl rfl (ox_callE (al := [(.pointer (some ⟨ba_, 0, none⟩)), (.int .i64 ((n : Nat)))]) pf_24 rfl (ret_mono (row_name (autx_path (AutX.ext (AutX.ext hX_ x5) e5) ((n : Nat)))) ?_))
        rintro _ w7 ⟨pn, h_pn, A2, c2, rfl, hn2, e6⟩
        have he6 := e6.size
        have hpl : pn.length ≤ n := by rw [h_pn]; exact path_le haut n xs hx
        have hrun : runS st 0 pn = (n : Nat) := by rw [h_pn]; exact run_path haut n xs hx
        refine xl_op (P := Tryz.prog) (some 6) rfl rfl (ox_assign (v := (.slice A2 pn.length c2)) rfl ?_)
        refine xl_nil ?_
        refine xc_seq ?_
        refine xc_region ?_
        refine xl_op (P := Tryz.prog) (some 31) rfl rfl (ox_move (v := (.pointer (some ⟨ba_, 0, none⟩))) g3_f1 ?_)
        refine xl_op (P := Tryz.prog) (some 32) rfl rfl (ox_move (v := (.int .i64 ((n : Nat)))) g5_f1 ?_)
        refine xl_op (P := Tryz.prog) (some 33) rfl rfl (ox_callE (al := [(.pointer (some ⟨ba_, 0, none⟩)), (.int .i64 ((n : Nat)))]) pf_25 rfl (ret_mono (row_name (autx_kern (AutX.ext (AutX.ext (AutX.ext hX_ x5) e5) e6) ((n : Nat)))) ?_))
        rintro _ w8 ⟨kn, h_kn, A3, c3, rfl, hn3, e7⟩
        have he7 := e7.size
        have hke : kn = xs.kernel := h_kn.trans (kernS_at hx)
        refine xl_op (P := Tryz.prog) (some 7) rfl rfl (ox_assign (v := (.slice A3 kn.length c3)) rfl ?_)
        refine xl_nil ?_
        refine xc_seq ?_
        refine xc_region ?_
        refine xl_op (P := Tryz.prog) (some 34) rfl rfl (ox_move (v := (.pointer (some ⟨ba_, 0, none⟩))) g3_f1 ?_)
        refine xl_op (P := Tryz.prog) (some 35) rfl rfl (ox_move (v := (.int .i64 ((n : Nat)))) g5_f1 ?_)
        refine xl_op (P := Tryz.prog) (some 36) rfl rfl (ox_callE (al := [(.pointer (some ⟨ba_, 0, none⟩)), (.int .i64 ((n : Nat)))]) pf_15 rfl (ret_mono (row_name (autx_items (AutX.ext (AutX.ext (AutX.ext (AutX.ext hX_ x5) e5) e6) e7) ((n : Nat)))) ?_))
        rintro _ w9 ⟨itn, h_itn, A4, c4, rfl, hn4, e8⟩
        have he8 := e8.size
        have hie : itn = xs.items := h_itn.trans (itemsS_at hx)
        have hkl := kern_len haut hx
        rw [← hke, ← hie] at hkl
        have hktl : (itn.take kn.length).length = kn.length := by rw [List.length_take]; omega
        have hitl : itn.length ≤ 67240962 := by rw [hie]; exact (haut.lens xs (List.mem_of_getElem? hx)).1
        refine xl_op (P := Tryz.prog) (some 8) rfl rfl (ox_assign (v := (.slice A4 itn.length c4)) rfl ?_)
        refine xl_nil ?_
        refine xc_seq ?_
        refine xc_seq ?_
        refine xc_cut (fun f' W' => Ext w9 W' ∧ f' 1 = (.pointer (some ⟨w.heap.size, 0, none⟩)) ∧ f' 3 = (.pointer (some ⟨ba_, 0, none⟩)) ∧ f' 4 = (.slice A1 ((symbolsG s.g).length) c1) ∧ f' 5 = (.int .i64 ((n : Nat))) ∧ f' 6 = (.slice A2 pn.length c2) ∧ f' 7 = (.slice A3 kn.length c3) ∧ f' 8 = (.slice A4 itn.length c4) ∧ f' 71 = (.bool false)) ?_ ?_
        · skip
          refine xc_region ?_
          refine xl_op (P := Tryz.prog) (some 37) rfl rfl (ox_move (v := (.pointer (some ⟨ba_, 0, none⟩))) g3_f1 ?_)
          refine xl_op (P := Tryz.prog) (some 38) rfl rfl (ox_move (v := (.slice A2 pn.length c2)) rfl ?_)
          have q1 := (AutX.ext (AutX.ext (AutX.ext (AutX.ext (AutX.ext hX_ x5) e5) e6) e7) e8)
          refine xl_op (P := Tryz.prog) (some 39) rfl rfl (ox_callE (al := [(.pointer (some ⟨ba_, 0, none⟩)), (.slice A2 pn.length c2)]) pf_13 rfl (ret_mono (autx_run q1 pn A2 c2 (Own.rowO ((hn2.1.ext e7).ext e8)) (by omega)) ?_))
          rintro _ w10 ⟨rfl, e9⟩
          have he9 := e9.size
          refine xl_op (P := Tryz.prog) (some 40) rfl rfl (ox_move (v := (.int .i64 ((n : Nat)))) g5_f1 ?_)
          refine xl_op (P := Tryz.prog) (some 41) rfl rfl (ox_neq (k := .i64) (a := (runS st 0 pn)) (b := ((n : Nat))) rfl rfl ?_)
          refine xl_op (P := Tryz.prog) (some 42) rfl rfl (ox_move (v := (.bool (decide ((runS st 0 pn : Int) ≠ ((n : Nat)))))) rfl ?_)
          refine xl_opg (P := Tryz.prog) (some 43) (j := 5) (b := false) rfl rfl (congrArg some (decide_eq_false (fun h9 => h9 hrun))) (ox_move (v := (.slice A4 itn.length c4)) rfl ?_)
          refine xl_opg (P := Tryz.prog) (some 44) (j := 5) (b := false) rfl rfl (congrArg some (decide_eq_false (fun h9 => h9 hrun))) (ox_len (A := A4) (n := itn.length) (cp := c4) rfl tU_39 rfl ?_)
          refine xl_opg (P := Tryz.prog) (some 45) (j := 5) (b := false) rfl rfl (congrArg some (decide_eq_false (fun h9 => h9 hrun))) (ox_move (v := (.slice A3 kn.length c3)) rfl ?_)
          refine xl_opg (P := Tryz.prog) (some 46) (j := 5) (b := false) rfl rfl (congrArg some (decide_eq_false (fun h9 => h9 hrun))) (ox_len (A := A3) (n := kn.length) (cp := c3) rfl tU_39 rfl ?_)
          refine xl_opg (P := Tryz.prog) (some 47) (j := 5) (b := false) rfl rfl (congrArg some (decide_eq_false (fun h9 => h9 hrun))) (ox_lss (k := .i64) (a := (((itn.length : Nat) : Int))) (b := (((kn.length : Nat) : Int))) rfl rfl ?_)
          refine xl_op (P := Tryz.prog) (some 48) rfl rfl (ox_pick_f (v := (.bool (decide ((((itn.length : Nat) : Int) : Int) < (((kn.length : Nat) : Int)))))) (congrArg Value.bool (decide_eq_false (fun h9 => h9 hrun))) rfl ?_)
          refine xl_op (P := Tryz.prog) (some 49) rfl rfl (ox_move (v := (.bool (decide ((((itn.length : Nat) : Int) : Int) < (((kn.length : Nat) : Int)))))) rfl ?_)
          refine xl_opg (P := Tryz.prog) (some 50) (j := 12) (b := false) rfl rfl (congrArg some (decide_eq_false (by omega))) (ox_move (v := (.slice A4 itn.length c4)) rfl ?_)
          refine xl_opg (P := Tryz.prog) (some 51) (j := 12) (b := false) rfl rfl (congrArg some (decide_eq_false (by omega))) (ox_move (v := (.slice A3 kn.length c3)) rfl ?_)
          refine xl_opg (P := Tryz.prog) (some 52) (j := 12) (b := false) rfl rfl (congrArg some (decide_eq_false (by omega))) (ox_len (A := A3) (n := kn.length) (cp := c3) rfl tU_39 rfl ?_)
          have hci9 := Own.capn (hn4.1.ext e9)
          refine xl_opg (P := Tryz.prog) (some 53) (j := 12) (b := false) rfl rfl (congrArg some (decide_eq_false (by omega))) (ox_sliceToN (A := A4) (cp := c4) (i := (((kn.length : Nat) : Int))) ((kn).length) tE_39 rfl rfl (by omega) (by omega) (by omega) ?_)
          refine xl_opg (P := Tryz.prog) (some 54) (j := 12) (b := false) rfl rfl (congrArg some (decide_eq_false (by omega))) (ox_move (v := (.slice A3 kn.length c3)) rfl ?_)
          refine xl_opg (P := Tryz.prog) (some 55) (j := 12) (b := false) rfl rfl (congrArg some (decide_eq_false (by omega))) (ox_callE (al := [(.slice A4 ((kn).length) c4), (.slice A3 kn.length c3)]) pf_26 rfl (ret_mono ((by have h9 := sameItems_calls ((itn).take (kn).length) (kn) A4 A3 c4 c3 w10 (RowA.takeD (Own.rowO (hn4.1.ext e9)) Itm.len _) (Own.rowO ((hn3.1.ext e8).ext e9)) (by omega); rw [hktl] at h9; exact h9)) ?_))
          rintro _ w11 ⟨rfl, e10⟩
          have he10 := e10.size
          refine xl_opg (P := Tryz.prog) (some 56) (j := 12) (b := false) rfl rfl (congrArg some (decide_eq_false (by omega))) (ox_not (b := ((decide ((itn).take (kn).length = kn)))) rfl ?_)
          refine xl_op (P := Tryz.prog) (some 57) rfl rfl (ox_pick_f (v := (.bool (!(decide ((itn).take (kn).length = kn))))) (congrArg Value.bool (decide_eq_false (by omega))) rfl ?_)
          refine xl_op (P := Tryz.prog) (some 58) rfl rfl (ox_move (v := (.bool (!(decide ((itn).take (kn).length = kn))))) rfl ?_)
          refine xl_opg (P := Tryz.prog) (some 59) (j := 21) (b := false) rfl rfl (congrArg some (congrArg (fun b : Bool => !b) (decide_eq_true hkl.2.2))) (ox_move (v := (.int .i64 ((n : Nat)))) g5_f1 ?_)
          refine xl_opg (P := Tryz.prog) (some 60) (j := 21) (b := false) rfl rfl (congrArg some (congrArg (fun b : Bool => !b) (decide_eq_true hkl.2.2))) (ox_gtr (k := .i64) (a := ((n : Nat))) (b := 0) rfl rfl ?_)
          refine xl_opg (P := Tryz.prog) (some 61) (j := 21) (b := false) rfl rfl (congrArg some (congrArg (fun b : Bool => !b) (decide_eq_true hkl.2.2))) (ox_move (v := (.bool (decide ((0 : Int) < ((n : Nat)))))) rfl ?_)
          by_cases h3 : (0 : Int) < ((n : Nat))
          · skip
            have hmo : (pathS st ((n : Nat) - 1)).length ≤ (pathS st (n : Nat)).length := by
              rw [show ((n : Nat) : Int) - 1 = ((n - 1 : Nat) : Int) by omega]
              obtain ⟨u, hu⟩ := get_ex (l := st) (i := n - 1) (by omega)
              exact path_mono haut n (n - 1) u xs (by omega) hu hx
            refine xl_opg (P := Tryz.prog) (some 62) (j := 24) (b := true) rfl rfl (congrArg some (decide_eq_true h3)) (ox_move (v := (.slice A2 pn.length c2)) rfl ?_)
            refine xl_opg (P := Tryz.prog) (some 63) (j := 24) (b := true) rfl rfl (congrArg some (decide_eq_true h3)) (ox_len (A := A2) (n := pn.length) (cp := c2) rfl tU_33 rfl ?_)
            refine xl_opg (P := Tryz.prog) (some 64) (j := 24) (b := true) rfl rfl (congrArg some (decide_eq_true h3)) (ox_move (v := (.pointer (some ⟨ba_, 0, none⟩))) g3_f1 ?_)
            refine xl_opg (P := Tryz.prog) (some 65) (j := 24) (b := true) rfl rfl (congrArg some (decide_eq_true h3)) (ox_move (v := (.int .i64 ((n : Nat)))) g5_f1 ?_)
            refine xl_opg (P := Tryz.prog) (some 66) (j := 24) (b := true) rfl rfl (congrArg some (decide_eq_true h3)) (ox_sub64 (a := ((n : Nat))) (b := 1) rfl rfl (by omega) ?_)
            have x6 : Ext w9 w11 := (Ext.trans e9 e10)
            refine xl_opg (P := Tryz.prog) (some 67) (j := 24) (b := true) rfl rfl (congrArg some (decide_eq_true h3)) (ox_callE (al := [(.pointer (some ⟨ba_, 0, none⟩)), (.int .i64 ((n : Nat) - 1))]) pf_24 rfl (ret_mono (row_name (autx_path (AutX.ext q1 x6) ((n : Nat) - 1))) ?_))
            rintro _ w12 ⟨pm, h_pm, A5, c5, rfl, hn5, e11⟩
            have he11 := e11.size
            have hmo2 : pm.length ≤ pn.length := by rw [h_pm, h_pn]; exact hmo
            refine xl_opg (P := Tryz.prog) (some 68) (j := 24) (b := true) rfl rfl (congrArg some (decide_eq_true h3)) (ox_len (A := A5) (n := pm.length) (cp := c5) rfl tU_33 rfl ?_)
            refine xl_opg (P := Tryz.prog) (some 69) (j := 24) (b := true) rfl rfl (congrArg some (decide_eq_true h3)) (ox_lss (k := .i64) (a := (((pn.length : Nat) : Int))) (b := (((pm.length : Nat) : Int))) rfl rfl ?_)
            refine xl_opg (P := Tryz.prog) (some 70) (j := 21) (b := false) rfl rfl (congrArg some (congrArg (fun b : Bool => !b) (decide_eq_true hkl.2.2))) (ox_pick_t (v := (.bool (decide ((((pn.length : Nat) : Int) : Int) < (((pm.length : Nat) : Int)))))) (congrArg Value.bool (decide_eq_true h3)) rfl ?_)
            refine xl_op (P := Tryz.prog) (some 71) rfl rfl (ox_pick_f (v := (.bool (decide ((((pn.length : Nat) : Int) : Int) < (((pm.length : Nat) : Int)))))) (congrArg Value.bool (congrArg (fun b : Bool => !b) (decide_eq_true hkl.2.2))) rfl ?_)
            refine xl_nil ?_
            have x7 : Ext w9 w12 := (Ext.trans x6 e11)
            exact ⟨rfl, x7, g1_f1, g3_f1, g4_f1, g5_f1, rfl, rfl, rfl, (congrArg Value.bool (show ((decide ((((pn.length : Nat) : Int) : Int) < (((pm.length : Nat) : Int))))) = false from (decide_eq_false (by omega))))⟩
          · skip
            refine xl_skip (some 62) (j := 24) (b := true) false rfl rfl (congrArg some (decide_eq_false h3)) (by decide) ?_
            refine xl_skip (some 63) (j := 24) (b := true) false rfl rfl (congrArg some (decide_eq_false h3)) (by decide) ?_
            refine xl_skip (some 64) (j := 24) (b := true) false rfl rfl (congrArg some (decide_eq_false h3)) (by decide) ?_
            refine xl_skip (some 65) (j := 24) (b := true) false rfl rfl (congrArg some (decide_eq_false h3)) (by decide) ?_
            refine xl_skip (some 66) (j := 24) (b := true) false rfl rfl (congrArg some (decide_eq_false h3)) (by decide) ?_
            refine xl_skip (some 67) (j := 24) (b := true) false rfl rfl (congrArg some (decide_eq_false h3)) (by decide) ?_
            refine xl_skip (some 68) (j := 24) (b := true) false rfl rfl (congrArg some (decide_eq_false h3)) (by decide) ?_
            refine xl_skip (some 69) (j := 24) (b := true) false rfl rfl (congrArg some (decide_eq_false h3)) (by decide) ?_
            refine xl_opg (P := Tryz.prog) (some 70) (j := 21) (b := false) rfl rfl (congrArg some (congrArg (fun b : Bool => !b) (decide_eq_true hkl.2.2))) (ox_pick_f (v := (.bool false)) (congrArg Value.bool (decide_eq_false h3)) rfl ?_)
            refine xl_op (P := Tryz.prog) (some 71) rfl rfl (ox_pick_f (v := (.bool false)) (congrArg Value.bool (congrArg (fun b : Bool => !b) (decide_eq_true hkl.2.2))) rfl ?_)
            refine xl_nil ?_
            have x8 : Ext w9 w11 := (Ext.trans e9 e10)
            exact ⟨rfl, x8, g1_f1, g3_f1, g4_f1, g5_f1, rfl, rfl, rfl, rfl⟩
        rintro f2 w13 ⟨e12, g1_f2, g3_f2, g4_f2, g5_f2, g6_f2, g7_f2, g8_f2, g71_f2⟩
        have he12 := e12.size
        refine xc_cond_f g71_f2 ?_
        refine xc_skip ?_
        refine xc_seq ?_
        refine xc_seq ?_
        refine xc_region ?_
        refine xl_op (P := Tryz.prog) (some 9) rfl rfl (ox_assign (v := (.int .i64 0)) rfl ?_)
        refine xl_nil ?_
        refine xc_block ?_
        refine xc_loopN (fun m_ f_ Wx => ∃ (i : Nat), m_ = (itn).length - i ∧ (i ≤ (itn).length) ∧ f_ 1 = (.pointer (some ⟨w.heap.size, 0, none⟩)) ∧ f_ 3 = (.pointer (some ⟨ba_, 0, none⟩)) ∧ f_ 4 = (.slice A1 ((symbolsG s.g).length) c1) ∧ f_ 5 = (.int .i64 ((n : Nat))) ∧ f_ 6 = (.slice A2 pn.length c2) ∧ f_ 7 = (.slice A3 kn.length c3) ∧ f_ 8 = (.slice A4 itn.length c4) ∧ f_ 71 = (.bool false) ∧ f_ 9 = (.int .i64 ((i : Nat))) ∧ Ext w13 Wx) ((itn).length) ?_ ?_
        · exact ⟨0, (by omega), (by omega), g1_f2, g3_f2, g4_f2, g5_f2, g6_f2, g7_f2, g8_f2, g71_f2, (by first | exact rfl | exact (congrArg (Value.int .i64) (by omega))), (Chg.refl _ _)⟩
        · rintro m_ f3 w14 ⟨i, hm_f3, hi, g1_f3, g3_f3, g4_f3, g5_f3, g6_f3, g7_f3, g8_f3, g71_f3, g9_f3, x9⟩
          have hx9 := x9.size
          refine xc_seq ?_
          refine xc_seq ?_
          refine xc_region ?_
          refine xl_op (P := Tryz.prog) (some 72) rfl rfl (ox_move (v := (.int .i64 ((i : Nat)))) g9_f3 ?_)
          refine xl_op (P := Tryz.prog) (some 73) rfl rfl (ox_move (v := (.slice A4 itn.length c4)) g8_f3 ?_)
          refine xl_op (P := Tryz.prog) (some 74) rfl rfl (ox_len (A := A4) (n := itn.length) (cp := c4) rfl tU_39 rfl ?_)
          refine xl_op (P := Tryz.prog) (some 75) rfl rfl (ox_lss (k := .i64) (a := ((i : Nat))) (b := (((itn.length : Nat) : Int))) rfl rfl ?_)
          refine xl_nil ?_
          refine xc_if (p := ((i : Nat) : Int) < (((itn.length : Nat) : Int))) rfl (fun h4 => ?_) (fun h4 => ?_)
          · skip
            refine xc_skip ?_
            refine xc_seq ?_
            refine xc_block ?_
            refine xc_seq ?_
            obtain ⟨x_1, g_1, hx_1⟩ := own_may (A := A4) i Itm.len (by decide) ((hn4.1.ext e12).ext x9)
            obtain ⟨hx_2, hA_1, hc_1⟩ := hx_1 (by first | omega | (simp only [List.length_drop, List.length_replicate, List.length_set, List.length_append, List.length_map, List.length_singleton] at *; omega))
            have hit : xs.items[i]? = some x_1 := by rw [← hie]; exact hx_2
            have hdt := item_dots haut hx hit
            rw [← hke] at hdt
            have hps : PassG s.g x_1 (pn) := by rw [h_pn]; exact path_pass haut n xs hx x_1 (List.mem_of_getElem? hit)
            have hoi := (haut.ok.ok xs (List.mem_of_getElem? hx) x_1 (List.mem_of_getElem? hit)).1
            by_cases h5 : (((kn.length : Nat) : Int) : Int) ≤ ((i : Nat))
            · skip
              have hd0 : x_1.dot = 0 := hdt.1 (by omega)
              refine xc_regionE [] (fun W_ => Chg (fun _ => False) w14 W_) hmix ?_
              intro w15 e13 z2
              have hS1 : Chg (fun _ => False) w14 w15 := Ext.to e13
              have q2 := (((((b1.ext e2).ext e4).ext x4).ext e5).ext e6)
              refine xd_take 0 (some 78) rfl rfl (by kernel_rfl) (v := (.agg #[(.slice s.lA s.lex.length s.lc), (.slice s.nA s.names.length s.nc), (.int .i64 s.start), (.slice s.pA s.prods.length s.pc)])) (.inl ⟨rfl, fun W_ hW_ => ox_loadN (vs := [(.slice s.lA s.lex.length s.lc), (.slice s.nA s.names.length s.nc), (.int .i64 s.start), (.slice s.pA s.prods.length s.pc)]) tA_26 tS_26 g1_f3 rfl ⟨(((((q2.ext e7).ext e8).ext e12).ext x9).ext hW_).cell rfl, (((((q2.ext e7).ext e8).ext e12).ext x9).ext hW_).cell rfl, (((((q2.ext e7).ext e8).ext e12).ext x9).ext hW_).cell rfl, (((((q2.ext e7).ext e8).ext e12).ext x9).ext hW_).cell rfl, trivial⟩ ⟨rfl, rfl⟩⟩) hS1 ?_
              refine xd_pure 1 (some 79) rfl rfl (by kernel_rfl) (v := (.slice A4 itn.length c4)) (.inl ⟨rfl, fun W_ hW_ => ox_move (v := (.slice A4 itn.length c4)) g8_f3 ⟨rfl, rfl⟩⟩) ?_
              refine xd_pure 2 (some 80) rfl rfl (by kernel_rfl) (v := (.int .i64 ((i : Nat)))) (.inl ⟨rfl, fun W_ hW_ => ox_move (v := (.int .i64 ((i : Nat)))) g9_f3 ⟨rfl, rfl⟩⟩) ?_
              refine xd_pure 3 (some 81) rfl rfl (by kernel_rfl) (v := (.pointer (some ⟨g_1, 0 + i * 2, none⟩))) (.inl ⟨rfl, fun W_ hW_ => ox_ixA (b := g_1) (o := 0) (i := ((i : Nat))) i tE_39 hA_1 rfl rfl rfl (by omega) ⟨rfl, rfl⟩⟩) ?_
              refine xd_take 4 (some 82) rfl rfl (by kernel_rfl) (v := (.agg #[(.int .i64 x_1.p), (.int .i64 x_1.dot)])) (.inl ⟨rfl, fun W_ hW_ => ox_loadN (vs := [(.int .i64 x_1.p), (.int .i64 x_1.dot)]) tA_42 tS_42 rfl rfl (CellsL.keep hW_ not_false hc_1) ⟨rfl, rfl⟩⟩) hS1 ?_
              refine xd_pure 5 (some 83) rfl rfl (by kernel_rfl) (v := (.slice A2 pn.length c2)) (.inl ⟨rfl, fun W_ hW_ => ox_move (v := (.slice A2 pn.length c2)) g6_f3 ⟨rfl, rfl⟩⟩) ?_
              have x10 : Ext w w15 := (Ext.trans (Ext.trans (Ext.trans (Ext.trans (Ext.trans (Ext.trans (Ext.trans (Ext.trans (Ext.trans x3 e4) x4) e5) e6) e7) e8) e12) x9) e13)
              have q3 := ((((hn2.1.ext e7).ext e8).ext e12).ext x9)
              refine xd_one 6 (some 84) rfl rfl (by kernel_rfl) rfl (ox_callE (al := [(.agg #[(.slice s.lA s.lex.length s.lc), (.slice s.nA s.names.length s.nc), (.int .i64 s.start), (.slice s.pA s.prods.length s.pc)]), (.agg #[(.int .i64 x_1.p), (.int .i64 x_1.dot)]), (.slice A2 pn.length c2)]) pf_27 rfl (ret_mono (passed_calls s x_1 (pn) A2 c2 w15 (hS.ext x10) (Own.rowO (q3.ext e13)) (Own.capn (q3.ext e13)) (by omega) hoi hps) ?_))
              rintro _ w16 ⟨rfl, e14⟩
              have he14 := e14.size
              have hS2 : Chg (fun _ => False) w14 w16 := Chg.ext hS1 e14
              refine ⟨.inr fun _ => hS2, ?_⟩
              refine xd_pure 7 (some 85) rfl rfl (by kernel_rfl) (v := (.bool false)) (.inl ⟨rfl, fun W_ hW_ => ox_not (b := true) rfl ⟨rfl, rfl⟩⟩) ?_
              refine xd_pure 8 (some 86) rfl rfl (by kernel_rfl) (v := (.bool false)) (.inl ⟨rfl, fun W_ hW_ => ox_move (v := (.bool false)) rfl ⟨rfl, rfl⟩⟩) ?_
              refine xd_pure 9 (some 87) rfl rfl (by kernel_rfl) (v := (.int .i64 ((i : Nat)))) (.inl ⟨rfl, fun W_ hW_ => ox_move (v := (.int .i64 ((i : Nat)))) g9_f3 ⟨rfl, rfl⟩⟩) ?_
              refine xd_pure 10 (some 88) rfl rfl (by kernel_rfl) (v := (.slice A3 kn.length c3)) (.inl ⟨rfl, fun W_ hW_ => ox_move (v := (.slice A3 kn.length c3)) g7_f3 ⟨rfl, rfl⟩⟩) ?_
              refine xd_pure 11 (some 89) rfl rfl (by kernel_rfl) (v := (.int .i64 (((kn.length : Nat) : Int)))) (.inl ⟨rfl, fun W_ hW_ => ox_len (A := A3) (n := kn.length) (cp := c3) rfl tU_39 rfl ⟨rfl, rfl⟩⟩) ?_
              refine xd_pure 12 (some 90) rfl rfl (by kernel_rfl) (v := (.bool (decide ((((kn.length : Nat) : Int) : Int) ≤ ((i : Nat)))))) (.inl ⟨rfl, fun W_ hW_ => ox_geq (k := .i64) (a := ((i : Nat))) (b := (((kn.length : Nat) : Int))) rfl rfl ⟨rfl, rfl⟩⟩) ?_
              refine xd_pure 13 (some 91) rfl rfl (by kernel_rfl) (v := (.bool (decide ((((kn.length : Nat) : Int) : Int) ≤ ((i : Nat)))))) (.inl ⟨rfl, fun W_ hW_ => ox_move (v := (.bool (decide ((((kn.length : Nat) : Int) : Int) ≤ ((i : Nat)))))) rfl ⟨rfl, rfl⟩⟩) ?_
              refine xd_pure 14 (some 92) rfl rfl (by kernel_rfl) (v := (.slice A4 itn.length c4)) (.inl ⟨(wanted_of (j := 13) (b := true) rfl (congrArg some (decide_eq_true h5))), fun W_ hW_ => ox_move (v := (.slice A4 itn.length c4)) g8_f3 ⟨rfl, rfl⟩⟩) ?_
              refine xd_pure 15 (some 93) rfl rfl (by kernel_rfl) (v := (.int .i64 ((i : Nat)))) (.inl ⟨(wanted_of (j := 13) (b := true) rfl (congrArg some (decide_eq_true h5))), fun W_ hW_ => ox_move (v := (.int .i64 ((i : Nat)))) g9_f3 ⟨rfl, rfl⟩⟩) ?_
              have x11 : Ext w14 w16 := (Ext.trans e13 e14)
              refine xd_pure 16 (some 94) rfl rfl (by kernel_rfl) (v := (.pointer (some ⟨g_1, 0 + i * 2, none⟩))) (.inl ⟨(wanted_of (j := 13) (b := true) rfl (congrArg some (decide_eq_true h5))), fun W_ hW_ => ox_ixA (b := g_1) (o := 0) (i := ((i : Nat))) i tE_39 hA_1 rfl rfl rfl (by omega) ⟨rfl, rfl⟩⟩) ?_
              refine xd_pure 17 (some 95) rfl rfl (by kernel_rfl) (v := (.pointer (some ⟨g_1, 0 + i * 2 + 1, none⟩))) (.inl ⟨(wanted_of (j := 13) (b := true) rfl (congrArg some (decide_eq_true h5))), fun W_ hW_ => ox_fieldAddr (b := g_1) (o := (0 + i * 2)) tF_42_1 rfl ⟨rfl, rfl⟩⟩) ?_
              refine xd_take 18 (some 96) rfl rfl (by kernel_rfl) (v := (.int .i64 x_1.dot)) (.inl ⟨(wanted_of (j := 13) (b := true) rfl (congrArg some (decide_eq_true h5))), fun W_ hW_ => ox_load (v := (.int .i64 x_1.dot)) tA_3 rfl (CellsL.at1 (CellsL.keep hW_ not_false hc_1) 1 rfl) ⟨rfl, rfl⟩⟩) hS2 ?_
              refine xd_pure 19 (some 97) rfl rfl (by kernel_rfl) (v := (.bool (decide ((x_1.dot : Int) ≠ 0)))) (.inl ⟨(wanted_of (j := 13) (b := true) rfl (congrArg some (decide_eq_true h5))), fun W_ hW_ => ox_neq (k := .i64) (a := x_1.dot) (b := 0) rfl rfl ⟨rfl, rfl⟩⟩) ?_
              refine xd_pure 20 (some 98) rfl rfl (by kernel_rfl) (v := (.bool (decide ((x_1.dot : Int) ≠ 0)))) (.inl ⟨rfl, fun W_ hW_ => ox_pick_t (v := (.bool (decide ((x_1.dot : Int) ≠ 0)))) (congrArg Value.bool (decide_eq_true h5)) rfl ⟨rfl, rfl⟩⟩) ?_
              refine xd_pure 21 (some 99) rfl rfl (by kernel_rfl) (v := (.bool (decide ((x_1.dot : Int) ≠ 0)))) (.inl ⟨rfl, fun W_ hW_ => ox_pick_f (v := (.bool (decide ((x_1.dot : Int) ≠ 0)))) rfl rfl ⟨rfl, rfl⟩⟩) ?_
              refine xd_pure 22 (some 100) rfl rfl (by kernel_rfl) (v := (.bool (decide ((x_1.dot : Int) ≠ 0)))) (.inl ⟨rfl, fun W_ hW_ => ox_move (v := (.bool (decide ((x_1.dot : Int) ≠ 0)))) rfl ⟨rfl, rfl⟩⟩) ?_
              refine xd_pure 23 (some 101) rfl rfl (by kernel_rfl) (v := (.int .i64 ((i : Nat)))) (.inl ⟨(wanted_of (j := 22) (b := false) rfl (congrArg some (decide_eq_false (fun h9 => h9 hd0)))), fun W_ hW_ => ox_move (v := (.int .i64 ((i : Nat)))) g9_f3 ⟨rfl, rfl⟩⟩) ?_
              refine xd_pure 24 (some 102) rfl rfl (by kernel_rfl) (v := (.slice A3 kn.length c3)) (.inl ⟨(wanted_of (j := 22) (b := false) rfl (congrArg some (decide_eq_false (fun h9 => h9 hd0)))), fun W_ hW_ => ox_move (v := (.slice A3 kn.length c3)) g7_f3 ⟨rfl, rfl⟩⟩) ?_
              refine xd_pure 25 (some 103) rfl rfl (by kernel_rfl) (v := (.int .i64 (((kn.length : Nat) : Int)))) (.inl ⟨(wanted_of (j := 22) (b := false) rfl (congrArg some (decide_eq_false (fun h9 => h9 hd0)))), fun W_ hW_ => ox_len (A := A3) (n := kn.length) (cp := c3) rfl tU_39 rfl ⟨rfl, rfl⟩⟩) ?_
              refine xd_pure 26 (some 104) rfl rfl (by kernel_rfl) (v := (.bool (decide (((i : Nat) : Int) < (((kn.length : Nat) : Int)))))) (.inl ⟨(wanted_of (j := 22) (b := false) rfl (congrArg some (decide_eq_false (fun h9 => h9 hd0)))), fun W_ hW_ => ox_lss (k := .i64) (a := ((i : Nat))) (b := (((kn.length : Nat) : Int))) rfl rfl ⟨rfl, rfl⟩⟩) ?_
              refine xd_pure 27 (some 105) rfl rfl (by kernel_rfl) (v := (.bool (decide (((i : Nat) : Int) < (((kn.length : Nat) : Int)))))) (.inl ⟨(wanted_of (j := 22) (b := false) rfl (congrArg some (decide_eq_false (fun h9 => h9 hd0)))), fun W_ hW_ => ox_move (v := (.bool (decide (((i : Nat) : Int) < (((kn.length : Nat) : Int)))))) rfl ⟨rfl, rfl⟩⟩) ?_
              refine xd_pure 28 (some 106) rfl rfl (by kernel_rfl) (v := undef) (.inr ⟨(wanted_not (j := 27) (b := true) (c := false) rfl (congrArg some (decide_eq_false (by omega))) (by decide)), rfl⟩) ?_
              refine xd_pure 29 (some 107) rfl rfl (by kernel_rfl) (v := undef) (.inr ⟨(wanted_not (j := 27) (b := true) (c := false) rfl (congrArg some (decide_eq_false (by omega))) (by decide)), rfl⟩) ?_
              refine xd_pure 30 (some 108) rfl rfl (by kernel_rfl) (v := (.bool false)) (.inl ⟨(wanted_of (j := 22) (b := false) rfl (congrArg some (decide_eq_false (fun h9 => h9 hd0)))), fun W_ hW_ => ox_pick_f (v := (.bool false)) (congrArg Value.bool (decide_eq_false (by omega))) rfl ⟨rfl, rfl⟩⟩) ?_
              refine xd_pure 31 (some 109) rfl rfl (by kernel_rfl) (v := (.bool false)) (.inl ⟨(wanted_of (j := 22) (b := false) rfl (congrArg some (decide_eq_false (fun h9 => h9 hd0)))), fun W_ hW_ => ox_move (v := (.bool false)) rfl ⟨rfl, rfl⟩⟩) ?_
              refine xd_pure 32 (some 110) rfl rfl (by kernel_rfl) (v := undef) (.inr ⟨rfl, rfl⟩) ?_
              refine xd_pure 33 (some 111) rfl rfl (by kernel_rfl) (v := undef) (.inr ⟨rfl, rfl⟩) ?_
              refine xd_pure 34 (some 112) rfl rfl (by kernel_rfl) (v := undef) (.inr ⟨rfl, rfl⟩) ?_
              refine xd_pure 35 (some 113) rfl rfl (by kernel_rfl) (v := undef) (.inr ⟨rfl, rfl⟩) ?_
              refine xd_take 36 (some 114) rfl rfl (by kernel_rfl) (v := undef) (.inr ⟨rfl, rfl⟩) hS2 ?_
              refine xd_pure 37 (some 115) rfl rfl (by kernel_rfl) (v := undef) (.inr ⟨rfl, rfl⟩) ?_
              refine xd_pure 38 (some 116) rfl rfl (by kernel_rfl) (v := (.bool false)) (.inl ⟨(wanted_of (j := 22) (b := false) rfl (congrArg some (decide_eq_false (fun h9 => h9 hd0)))), fun W_ hW_ => ox_pick_f (v := (.bool false)) rfl rfl ⟨rfl, rfl⟩⟩) ?_
              refine xd_pure 39 (some 117) rfl rfl (by kernel_rfl) (v := (.bool false)) (.inl ⟨rfl, fun W_ hW_ => ox_pick_f (v := (.bool false)) (congrArg Value.bool (decide_eq_false (fun h9 => h9 hd0))) rfl ⟨rfl, rfl⟩⟩) ?_
              refine xd_done (by kernel_rfl) ?_ _
              refine xc_cond_f rfl ?_
              refine xc_skip ?_
              refine xc_region ?_
              refine xl_op (P := Tryz.prog) (some 76) rfl rfl (ox_move (v := (.int .i64 ((i : Nat)))) g9_f3 ?_)
              refine xl_op (P := Tryz.prog) (some 77) rfl rfl (ox_add64 (a := ((i : Nat))) (b := 1) rfl rfl (by omega) ?_)
              refine xl_op (P := Tryz.prog) (some 9) rfl rfl (ox_assign (v := (.int .i64 ((i : Nat) + 1))) rfl ?_)
              refine xl_nil ?_
              have x12 : Ext w13 w16 := (Ext.trans (Ext.trans x9 e13) e14)
              exact ⟨rfl, (itn).length - (i + 1), by omega, i + 1, by omega, (by omega), g1_f3, g3_f3, g4_f3, g5_f3, g6_f3, g7_f3, g8_f3, g71_f3, (by first | exact rfl | exact (congrArg (Value.int .i64) (by omega))), x12⟩
            · skip
              by_cases h6 : (0 : Int) < ((n : Nat))
              · skip
                have hd0 : ¬ x_1.dot = 0 := hdt.2 (by omega) (by omega)
                refine xc_regionE [] (fun W_ => Chg (fun _ => False) w14 W_) hmix ?_
                intro w17 e15 z3
                have hS3 : Chg (fun _ => False) w14 w17 := Ext.to e15
                have q4 := (((((b1.ext e2).ext e4).ext x4).ext e5).ext e6)
                refine xd_take 0 (some 78) rfl rfl (by kernel_rfl) (v := (.agg #[(.slice s.lA s.lex.length s.lc), (.slice s.nA s.names.length s.nc), (.int .i64 s.start), (.slice s.pA s.prods.length s.pc)])) (.inl ⟨rfl, fun W_ hW_ => ox_loadN (vs := [(.slice s.lA s.lex.length s.lc), (.slice s.nA s.names.length s.nc), (.int .i64 s.start), (.slice s.pA s.prods.length s.pc)]) tA_26 tS_26 g1_f3 rfl ⟨(((((q4.ext e7).ext e8).ext e12).ext x9).ext hW_).cell rfl, (((((q4.ext e7).ext e8).ext e12).ext x9).ext hW_).cell rfl, (((((q4.ext e7).ext e8).ext e12).ext x9).ext hW_).cell rfl, (((((q4.ext e7).ext e8).ext e12).ext x9).ext hW_).cell rfl, trivial⟩ ⟨rfl, rfl⟩⟩) hS3 ?_
                refine xd_pure 1 (some 79) rfl rfl (by kernel_rfl) (v := (.slice A4 itn.length c4)) (.inl ⟨rfl, fun W_ hW_ => ox_move (v := (.slice A4 itn.length c4)) g8_f3 ⟨rfl, rfl⟩⟩) ?_
                refine xd_pure 2 (some 80) rfl rfl (by kernel_rfl) (v := (.int .i64 ((i : Nat)))) (.inl ⟨rfl, fun W_ hW_ => ox_move (v := (.int .i64 ((i : Nat)))) g9_f3 ⟨rfl, rfl⟩⟩) ?_
                refine xd_pure 3 (some 81) rfl rfl (by kernel_rfl) (v := (.pointer (some ⟨g_1, 0 + i * 2, none⟩))) (.inl ⟨rfl, fun W_ hW_ => ox_ixA (b := g_1) (o := 0) (i := ((i : Nat))) i tE_39 hA_1 rfl rfl rfl (by omega) ⟨rfl, rfl⟩⟩) ?_
                refine xd_take 4 (some 82) rfl rfl (by kernel_rfl) (v := (.agg #[(.int .i64 x_1.p), (.int .i64 x_1.dot)])) (.inl ⟨rfl, fun W_ hW_ => ox_loadN (vs := [(.int .i64 x_1.p), (.int .i64 x_1.dot)]) tA_42 tS_42 rfl rfl (CellsL.keep hW_ not_false hc_1) ⟨rfl, rfl⟩⟩) hS3 ?_
                refine xd_pure 5 (some 83) rfl rfl (by kernel_rfl) (v := (.slice A2 pn.length c2)) (.inl ⟨rfl, fun W_ hW_ => ox_move (v := (.slice A2 pn.length c2)) g6_f3 ⟨rfl, rfl⟩⟩) ?_
                have x13 : Ext w w17 := (Ext.trans (Ext.trans (Ext.trans (Ext.trans (Ext.trans (Ext.trans (Ext.trans (Ext.trans (Ext.trans x3 e4) x4) e5) e6) e7) e8) e12) x9) e15)
                have q5 := ((((hn2.1.ext e7).ext e8).ext e12).ext x9)
                refine xd_one 6 (some 84) rfl rfl (by kernel_rfl) rfl (ox_callE (al := [(.agg #[(.slice s.lA s.lex.length s.lc), (.slice s.nA s.names.length s.nc), (.int .i64 s.start), (.slice s.pA s.prods.length s.pc)]), (.agg #[(.int .i64 x_1.p), (.int .i64 x_1.dot)]), (.slice A2 pn.length c2)]) pf_27 rfl (ret_mono (passed_calls s x_1 (pn) A2 c2 w17 (hS.ext x13) (Own.rowO (q5.ext e15)) (Own.capn (q5.ext e15)) (by omega) hoi hps) ?_))
                rintro _ w18 ⟨rfl, e16⟩
                have he16 := e16.size
                have hS4 : Chg (fun _ => False) w14 w18 := Chg.ext hS3 e16
                refine ⟨.inr fun _ => hS4, ?_⟩
                refine xd_pure 7 (some 85) rfl rfl (by kernel_rfl) (v := (.bool false)) (.inl ⟨rfl, fun W_ hW_ => ox_not (b := true) rfl ⟨rfl, rfl⟩⟩) ?_
                refine xd_pure 8 (some 86) rfl rfl (by kernel_rfl) (v := (.bool false)) (.inl ⟨rfl, fun W_ hW_ => ox_move (v := (.bool false)) rfl ⟨rfl, rfl⟩⟩) ?_
                refine xd_pure 9 (some 87) rfl rfl (by kernel_rfl) (v := (.int .i64 ((i : Nat)))) (.inl ⟨rfl, fun W_ hW_ => ox_move (v := (.int .i64 ((i : Nat)))) g9_f3 ⟨rfl, rfl⟩⟩) ?_
                refine xd_pure 10 (some 88) rfl rfl (by kernel_rfl) (v := (.slice A3 kn.length c3)) (.inl ⟨rfl, fun W_ hW_ => ox_move (v := (.slice A3 kn.length c3)) g7_f3 ⟨rfl, rfl⟩⟩) ?_
                refine xd_pure 11 (some 89) rfl rfl (by kernel_rfl) (v := (.int .i64 (((kn.length : Nat) : Int)))) (.inl ⟨rfl, fun W_ hW_ => ox_len (A := A3) (n := kn.length) (cp := c3) rfl tU_39 rfl ⟨rfl, rfl⟩⟩) ?_
                refine xd_pure 12 (some 90) rfl rfl (by kernel_rfl) (v := (.bool (decide ((((kn.length : Nat) : Int) : Int) ≤ ((i : Nat)))))) (.inl ⟨rfl, fun W_ hW_ => ox_geq (k := .i64) (a := ((i : Nat))) (b := (((kn.length : Nat) : Int))) rfl rfl ⟨rfl, rfl⟩⟩) ?_
                refine xd_pure 13 (some 91) rfl rfl (by kernel_rfl) (v := (.bool (decide ((((kn.length : Nat) : Int) : Int) ≤ ((i : Nat)))))) (.inl ⟨rfl, fun W_ hW_ => ox_move (v := (.bool (decide ((((kn.length : Nat) : Int) : Int) ≤ ((i : Nat)))))) rfl ⟨rfl, rfl⟩⟩) ?_
                refine xd_pure 14 (some 92) rfl rfl (by kernel_rfl) (v := undef) (.inr ⟨(wanted_not (j := 13) (b := true) (c := false) rfl (congrArg some (decide_eq_false h5)) (by decide)), rfl⟩) ?_
                refine xd_pure 15 (some 93) rfl rfl (by kernel_rfl) (v := undef) (.inr ⟨(wanted_not (j := 13) (b := true) (c := false) rfl (congrArg some (decide_eq_false h5)) (by decide)), rfl⟩) ?_
                refine xd_pure 16 (some 94) rfl rfl (by kernel_rfl) (v := undef) (.inr ⟨(wanted_not (j := 13) (b := true) (c := false) rfl (congrArg some (decide_eq_false h5)) (by decide)), rfl⟩) ?_
                refine xd_pure 17 (some 95) rfl rfl (by kernel_rfl) (v := undef) (.inr ⟨(wanted_not (j := 13) (b := true) (c := false) rfl (congrArg some (decide_eq_false h5)) (by decide)), rfl⟩) ?_
                refine xd_take 18 (some 96) rfl rfl (by kernel_rfl) (v := undef) (.inr ⟨(wanted_not (j := 13) (b := true) (c := false) rfl (congrArg some (decide_eq_false h5)) (by decide)), rfl⟩) hS4 ?_
                refine xd_pure 19 (some 97) rfl rfl (by kernel_rfl) (v := undef) (.inr ⟨(wanted_not (j := 13) (b := true) (c := false) rfl (congrArg some (decide_eq_false h5)) (by decide)), rfl⟩) ?_
                refine xd_pure 20 (some 98) rfl rfl (by kernel_rfl) (v := (.bool false)) (.inl ⟨rfl, fun W_ hW_ => ox_pick_f (v := (.bool false)) (congrArg Value.bool (decide_eq_false h5)) rfl ⟨rfl, rfl⟩⟩) ?_
                refine xd_pure 21 (some 99) rfl rfl (by kernel_rfl) (v := (.bool false)) (.inl ⟨rfl, fun W_ hW_ => ox_pick_f (v := (.bool false)) rfl rfl ⟨rfl, rfl⟩⟩) ?_
                refine xd_pure 22 (some 100) rfl rfl (by kernel_rfl) (v := (.bool false)) (.inl ⟨rfl, fun W_ hW_ => ox_move (v := (.bool false)) rfl ⟨rfl, rfl⟩⟩) ?_
                refine xd_pure 23 (some 101) rfl rfl (by kernel_rfl) (v := (.int .i64 ((i : Nat)))) (.inl ⟨rfl, fun W_ hW_ => ox_move (v := (.int .i64 ((i : Nat)))) g9_f3 ⟨rfl, rfl⟩⟩) ?_
                refine xd_pure 24 (some 102) rfl rfl (by kernel_rfl) (v := (.slice A3 kn.length c3)) (.inl ⟨rfl, fun W_ hW_ => ox_move (v := (.slice A3 kn.length c3)) g7_f3 ⟨rfl, rfl⟩⟩) ?_
                refine xd_pure 25 (some 103) rfl rfl (by kernel_rfl) (v := (.int .i64 (((kn.length : Nat) : Int)))) (.inl ⟨rfl, fun W_ hW_ => ox_len (A := A3) (n := kn.length) (cp := c3) rfl tU_39 rfl ⟨rfl, rfl⟩⟩) ?_
                refine xd_pure 26 (some 104) rfl rfl (by kernel_rfl) (v := (.bool (decide (((i : Nat) : Int) < (((kn.length : Nat) : Int)))))) (.inl ⟨rfl, fun W_ hW_ => ox_lss (k := .i64) (a := ((i : Nat))) (b := (((kn.length : Nat) : Int))) rfl rfl ⟨rfl, rfl⟩⟩) ?_
                refine xd_pure 27 (some 105) rfl rfl (by kernel_rfl) (v := (.bool (decide (((i : Nat) : Int) < (((kn.length : Nat) : Int)))))) (.inl ⟨rfl, fun W_ hW_ => ox_move (v := (.bool (decide (((i : Nat) : Int) < (((kn.length : Nat) : Int)))))) rfl ⟨rfl, rfl⟩⟩) ?_
                refine xd_pure 28 (some 106) rfl rfl (by kernel_rfl) (v := (.int .i64 ((n : Nat)))) (.inl ⟨(wanted_of (j := 27) (b := true) rfl (congrArg some (decide_eq_true (by omega)))), fun W_ hW_ => ox_move (v := (.int .i64 ((n : Nat)))) g5_f3 ⟨rfl, rfl⟩⟩) ?_
                refine xd_pure 29 (some 107) rfl rfl (by kernel_rfl) (v := (.bool (decide ((0 : Int) < ((n : Nat)))))) (.inl ⟨(wanted_of (j := 27) (b := true) rfl (congrArg some (decide_eq_true (by omega)))), fun W_ hW_ => ox_gtr (k := .i64) (a := ((n : Nat))) (b := 0) rfl rfl ⟨rfl, rfl⟩⟩) ?_
                refine xd_pure 30 (some 108) rfl rfl (by kernel_rfl) (v := (.bool (decide ((0 : Int) < ((n : Nat)))))) (.inl ⟨rfl, fun W_ hW_ => ox_pick_t (v := (.bool (decide ((0 : Int) < ((n : Nat)))))) (congrArg Value.bool (decide_eq_true (by omega))) rfl ⟨rfl, rfl⟩⟩) ?_
                refine xd_pure 31 (some 109) rfl rfl (by kernel_rfl) (v := (.bool (decide ((0 : Int) < ((n : Nat)))))) (.inl ⟨rfl, fun W_ hW_ => ox_move (v := (.bool (decide ((0 : Int) < ((n : Nat)))))) rfl ⟨rfl, rfl⟩⟩) ?_
                refine xd_pure 32 (some 110) rfl rfl (by kernel_rfl) (v := (.slice A4 itn.length c4)) (.inl ⟨(wanted_of (j := 31) (b := true) rfl (congrArg some (decide_eq_true h6))), fun W_ hW_ => ox_move (v := (.slice A4 itn.length c4)) g8_f3 ⟨rfl, rfl⟩⟩) ?_
                refine xd_pure 33 (some 111) rfl rfl (by kernel_rfl) (v := (.int .i64 ((i : Nat)))) (.inl ⟨(wanted_of (j := 31) (b := true) rfl (congrArg some (decide_eq_true h6))), fun W_ hW_ => ox_move (v := (.int .i64 ((i : Nat)))) g9_f3 ⟨rfl, rfl⟩⟩) ?_
                have x14 : Ext w14 w18 := (Ext.trans e15 e16)
                refine xd_pure 34 (some 112) rfl rfl (by kernel_rfl) (v := (.pointer (some ⟨g_1, 0 + i * 2, none⟩))) (.inl ⟨(wanted_of (j := 31) (b := true) rfl (congrArg some (decide_eq_true h6))), fun W_ hW_ => ox_ixA (b := g_1) (o := 0) (i := ((i : Nat))) i tE_39 hA_1 rfl rfl rfl (by omega) ⟨rfl, rfl⟩⟩) ?_
                refine xd_pure 35 (some 113) rfl rfl (by kernel_rfl) (v := (.pointer (some ⟨g_1, 0 + i * 2 + 1, none⟩))) (.inl ⟨(wanted_of (j := 31) (b := true) rfl (congrArg some (decide_eq_true h6))), fun W_ hW_ => ox_fieldAddr (b := g_1) (o := (0 + i * 2)) tF_42_1 rfl ⟨rfl, rfl⟩⟩) ?_
                refine xd_take 36 (some 114) rfl rfl (by kernel_rfl) (v := (.int .i64 x_1.dot)) (.inl ⟨(wanted_of (j := 31) (b := true) rfl (congrArg some (decide_eq_true h6))), fun W_ hW_ => ox_load (v := (.int .i64 x_1.dot)) tA_3 rfl (CellsL.at1 (CellsL.keep hW_ not_false hc_1) 1 rfl) ⟨rfl, rfl⟩⟩) hS4 ?_
                refine xd_pure 37 (some 115) rfl rfl (by kernel_rfl) (v := (.bool (decide ((x_1.dot : Int) = 0)))) (.inl ⟨(wanted_of (j := 31) (b := true) rfl (congrArg some (decide_eq_true h6))), fun W_ hW_ => ox_eql (k := .i64) (a := x_1.dot) (b := 0) rfl rfl ⟨rfl, rfl⟩⟩) ?_
                refine xd_pure 38 (some 116) rfl rfl (by kernel_rfl) (v := (.bool (decide ((x_1.dot : Int) = 0)))) (.inl ⟨rfl, fun W_ hW_ => ox_pick_t (v := (.bool (decide ((x_1.dot : Int) = 0)))) (congrArg Value.bool (decide_eq_true h6)) rfl ⟨rfl, rfl⟩⟩) ?_
                refine xd_pure 39 (some 117) rfl rfl (by kernel_rfl) (v := (.bool (decide ((x_1.dot : Int) = 0)))) (.inl ⟨rfl, fun W_ hW_ => ox_pick_f (v := (.bool (decide ((x_1.dot : Int) = 0)))) rfl rfl ⟨rfl, rfl⟩⟩) ?_
                refine xd_done (by kernel_rfl) ?_ _
                refine xc_cond_f (congrArg Value.bool (decide_eq_false hd0)) ?_
                refine xc_skip ?_
                refine xc_region ?_
                refine xl_op (P := Tryz.prog) (some 76) rfl rfl (ox_move (v := (.int .i64 ((i : Nat)))) g9_f3 ?_)
                refine xl_op (P := Tryz.prog) (some 77) rfl rfl (ox_add64 (a := ((i : Nat))) (b := 1) rfl rfl (by omega) ?_)
                refine xl_op (P := Tryz.prog) (some 9) rfl rfl (ox_assign (v := (.int .i64 ((i : Nat) + 1))) rfl ?_)
                refine xl_nil ?_
                have x15 : Ext w13 w18 := (Ext.trans (Ext.trans x9 e15) e16)
                exact ⟨rfl, (itn).length - (i + 1), by omega, i + 1, by omega, (by omega), g1_f3, g3_f3, g4_f3, g5_f3, g6_f3, g7_f3, g8_f3, g71_f3, (by first | exact rfl | exact (congrArg (Value.int .i64) (by omega))), x15⟩
              · skip
                refine xc_regionE [] (fun W_ => Chg (fun _ => False) w14 W_) hmix ?_
                intro w19 e17 z4
                have hS5 : Chg (fun _ => False) w14 w19 := Ext.to e17
                have q6 := (((((b1.ext e2).ext e4).ext x4).ext e5).ext e6)
                refine xd_take 0 (some 78) rfl rfl (by kernel_rfl) (v := (.agg #[(.slice s.lA s.lex.length s.lc), (.slice s.nA s.names.length s.nc), (.int .i64 s.start), (.slice s.pA s.prods.length s.pc)])) (.inl ⟨rfl, fun W_ hW_ => ox_loadN (vs := [(.slice s.lA s.lex.length s.lc), (.slice s.nA s.names.length s.nc), (.int .i64 s.start), (.slice s.pA s.prods.length s.pc)]) tA_26 tS_26 g1_f3 rfl ⟨(((((q6.ext e7).ext e8).ext e12).ext x9).ext hW_).cell rfl, (((((q6.ext e7).ext e8).ext e12).ext x9).ext hW_).cell rfl, (((((q6.ext e7).ext e8).ext e12).ext x9).ext hW_).cell rfl, (((((q6.ext e7).ext e8).ext e12).ext x9).ext hW_).cell rfl, trivial⟩ ⟨rfl, rfl⟩⟩) hS5 ?_
                refine xd_pure 1 (some 79) rfl rfl (by kernel_rfl) (v := (.slice A4 itn.length c4)) (.inl ⟨rfl, fun W_ hW_ => ox_move (v := (.slice A4 itn.length c4)) g8_f3 ⟨rfl, rfl⟩⟩) ?_
                refine xd_pure 2 (some 80) rfl rfl (by kernel_rfl) (v := (.int .i64 ((i : Nat)))) (.inl ⟨rfl, fun W_ hW_ => ox_move (v := (.int .i64 ((i : Nat)))) g9_f3 ⟨rfl, rfl⟩⟩) ?_
                refine xd_pure 3 (some 81) rfl rfl (by kernel_rfl) (v := (.pointer (some ⟨g_1, 0 + i * 2, none⟩))) (.inl ⟨rfl, fun W_ hW_ => ox_ixA (b := g_1) (o := 0) (i := ((i : Nat))) i tE_39 hA_1 rfl rfl rfl (by omega) ⟨rfl, rfl⟩⟩) ?_
                refine xd_take 4 (some 82) rfl rfl (by kernel_rfl) (v := (.agg #[(.int .i64 x_1.p), (.int .i64 x_1.dot)])) (.inl ⟨rfl, fun W_ hW_ => ox_loadN (vs := [(.int .i64 x_1.p), (.int .i64 x_1.dot)]) tA_42 tS_42 rfl rfl (CellsL.keep hW_ not_false hc_1) ⟨rfl, rfl⟩⟩) hS5 ?_
                refine xd_pure 5 (some 83) rfl rfl (by kernel_rfl) (v := (.slice A2 pn.length c2)) (.inl ⟨rfl, fun W_ hW_ => ox_move (v := (.slice A2 pn.length c2)) g6_f3 ⟨rfl, rfl⟩⟩) ?_
                have x16 : Ext w w19 := (Ext.trans (Ext.trans (Ext.trans (Ext.trans (Ext.trans (Ext.trans (Ext.trans (Ext.trans (Ext.trans x3 e4) x4) e5) e6) e7) e8) e12) x9) e17)
                have q7 := ((((hn2.1.ext e7).ext e8).ext e12).ext x9)
                refine xd_one 6 (some 84) rfl rfl (by kernel_rfl) rfl (ox_callE (al := [(.agg #[(.slice s.lA s.lex.length s.lc), (.slice s.nA s.names.length s.nc), (.int .i64 s.start), (.slice s.pA s.prods.length s.pc)]), (.agg #[(.int .i64 x_1.p), (.int .i64 x_1.dot)]), (.slice A2 pn.length c2)]) pf_27 rfl (ret_mono (passed_calls s x_1 (pn) A2 c2 w19 (hS.ext x16) (Own.rowO (q7.ext e17)) (Own.capn (q7.ext e17)) (by omega) hoi hps) ?_))
                rintro _ w20 ⟨rfl, e18⟩
                have he18 := e18.size
                have hS6 : Chg (fun _ => False) w14 w20 := Chg.ext hS5 e18
                refine ⟨.inr fun _ => hS6, ?_⟩
                refine xd_pure 7 (some 85) rfl rfl (by kernel_rfl) (v := (.bool false)) (.inl ⟨rfl, fun W_ hW_ => ox_not (b := true) rfl ⟨rfl, rfl⟩⟩) ?_
                refine xd_pure 8 (some 86) rfl rfl (by kernel_rfl) (v := (.bool false)) (.inl ⟨rfl, fun W_ hW_ => ox_move (v := (.bool false)) rfl ⟨rfl, rfl⟩⟩) ?_
                refine xd_pure 9 (some 87) rfl rfl (by kernel_rfl) (v := (.int .i64 ((i : Nat)))) (.inl ⟨rfl, fun W_ hW_ => ox_move (v := (.int .i64 ((i : Nat)))) g9_f3 ⟨rfl, rfl⟩⟩) ?_
                refine xd_pure 10 (some 88) rfl rfl (by kernel_rfl) (v := (.slice A3 kn.length c3)) (.inl ⟨rfl, fun W_ hW_ => ox_move (v := (.slice A3 kn.length c3)) g7_f3 ⟨rfl, rfl⟩⟩) ?_
                refine xd_pure 11 (some 89) rfl rfl (by kernel_rfl) (v := (.int .i64 (((kn.length : Nat) : Int)))) (.inl ⟨rfl, fun W_ hW_ => ox_len (A := A3) (n := kn.length) (cp := c3) rfl tU_39 rfl ⟨rfl, rfl⟩⟩) ?_
                refine xd_pure 12 (some 90) rfl rfl (by kernel_rfl) (v := (.bool (decide ((((kn.length : Nat) : Int) : Int) ≤ ((i : Nat)))))) (.inl ⟨rfl, fun W_ hW_ => ox_geq (k := .i64) (a := ((i : Nat))) (b := (((kn.length : Nat) : Int))) rfl rfl ⟨rfl, rfl⟩⟩) ?_
                refine xd_pure 13 (some 91) rfl rfl (by kernel_rfl) (v := (.bool (decide ((((kn.length : Nat) : Int) : Int) ≤ ((i : Nat)))))) (.inl ⟨rfl, fun W_ hW_ => ox_move (v := (.bool (decide ((((kn.length : Nat) : Int) : Int) ≤ ((i : Nat)))))) rfl ⟨rfl, rfl⟩⟩) ?_
                refine xd_pure 14 (some 92) rfl rfl (by kernel_rfl) (v := undef) (.inr ⟨(wanted_not (j := 13) (b := true) (c := false) rfl (congrArg some (decide_eq_false h5)) (by decide)), rfl⟩) ?_
                refine xd_pure 15 (some 93) rfl rfl (by kernel_rfl) (v := undef) (.inr ⟨(wanted_not (j := 13) (b := true) (c := false) rfl (congrArg some (decide_eq_false h5)) (by decide)), rfl⟩) ?_
                refine xd_pure 16 (some 94) rfl rfl (by kernel_rfl) (v := undef) (.inr ⟨(wanted_not (j := 13) (b := true) (c := false) rfl (congrArg some (decide_eq_false h5)) (by decide)), rfl⟩) ?_
                refine xd_pure 17 (some 95) rfl rfl (by kernel_rfl) (v := undef) (.inr ⟨(wanted_not (j := 13) (b := true) (c := false) rfl (congrArg some (decide_eq_false h5)) (by decide)), rfl⟩) ?_
                refine xd_take 18 (some 96) rfl rfl (by kernel_rfl) (v := undef) (.inr ⟨(wanted_not (j := 13) (b := true) (c := false) rfl (congrArg some (decide_eq_false h5)) (by decide)), rfl⟩) hS6 ?_
                refine xd_pure 19 (some 97) rfl rfl (by kernel_rfl) (v := undef) (.inr ⟨(wanted_not (j := 13) (b := true) (c := false) rfl (congrArg some (decide_eq_false h5)) (by decide)), rfl⟩) ?_
                refine xd_pure 20 (some 98) rfl rfl (by kernel_rfl) (v := (.bool false)) (.inl ⟨rfl, fun W_ hW_ => ox_pick_f (v := (.bool false)) (congrArg Value.bool (decide_eq_false h5)) rfl ⟨rfl, rfl⟩⟩) ?_
                refine xd_pure 21 (some 99) rfl rfl (by kernel_rfl) (v := (.bool false)) (.inl ⟨rfl, fun W_ hW_ => ox_pick_f (v := (.bool false)) rfl rfl ⟨rfl, rfl⟩⟩) ?_
                refine xd_pure 22 (some 100) rfl rfl (by kernel_rfl) (v := (.bool false)) (.inl ⟨rfl, fun W_ hW_ => ox_move (v := (.bool false)) rfl ⟨rfl, rfl⟩⟩) ?_
                refine xd_pure 23 (some 101) rfl rfl (by kernel_rfl) (v := (.int .i64 ((i : Nat)))) (.inl ⟨rfl, fun W_ hW_ => ox_move (v := (.int .i64 ((i : Nat)))) g9_f3 ⟨rfl, rfl⟩⟩) ?_
                refine xd_pure 24 (some 102) rfl rfl (by kernel_rfl) (v := (.slice A3 kn.length c3)) (.inl ⟨rfl, fun W_ hW_ => ox_move (v := (.slice A3 kn.length c3)) g7_f3 ⟨rfl, rfl⟩⟩) ?_
                refine xd_pure 25 (some 103) rfl rfl (by kernel_rfl) (v := (.int .i64 (((kn.length : Nat) : Int)))) (.inl ⟨rfl, fun W_ hW_ => ox_len (A := A3) (n := kn.length) (cp := c3) rfl tU_39 rfl ⟨rfl, rfl⟩⟩) ?_
                refine xd_pure 26 (some 104) rfl rfl (by kernel_rfl) (v := (.bool (decide (((i : Nat) : Int) < (((kn.length : Nat) : Int)))))) (.inl ⟨rfl, fun W_ hW_ => ox_lss (k := .i64) (a := ((i : Nat))) (b := (((kn.length : Nat) : Int))) rfl rfl ⟨rfl, rfl⟩⟩) ?_
                refine xd_pure 27 (some 105) rfl rfl (by kernel_rfl) (v := (.bool (decide (((i : Nat) : Int) < (((kn.length : Nat) : Int)))))) (.inl ⟨rfl, fun W_ hW_ => ox_move (v := (.bool (decide (((i : Nat) : Int) < (((kn.length : Nat) : Int)))))) rfl ⟨rfl, rfl⟩⟩) ?_
                refine xd_pure 28 (some 106) rfl rfl (by kernel_rfl) (v := (.int .i64 ((n : Nat)))) (.inl ⟨(wanted_of (j := 27) (b := true) rfl (congrArg some (decide_eq_true (by omega)))), fun W_ hW_ => ox_move (v := (.int .i64 ((n : Nat)))) g5_f3 ⟨rfl, rfl⟩⟩) ?_
                refine xd_pure 29 (some 107) rfl rfl (by kernel_rfl) (v := (.bool (decide ((0 : Int) < ((n : Nat)))))) (.inl ⟨(wanted_of (j := 27) (b := true) rfl (congrArg some (decide_eq_true (by omega)))), fun W_ hW_ => ox_gtr (k := .i64) (a := ((n : Nat))) (b := 0) rfl rfl ⟨rfl, rfl⟩⟩) ?_
                refine xd_pure 30 (some 108) rfl rfl (by kernel_rfl) (v := (.bool (decide ((0 : Int) < ((n : Nat)))))) (.inl ⟨rfl, fun W_ hW_ => ox_pick_t (v := (.bool (decide ((0 : Int) < ((n : Nat)))))) (congrArg Value.bool (decide_eq_true (by omega))) rfl ⟨rfl, rfl⟩⟩) ?_
                refine xd_pure 31 (some 109) rfl rfl (by kernel_rfl) (v := (.bool (decide ((0 : Int) < ((n : Nat)))))) (.inl ⟨rfl, fun W_ hW_ => ox_move (v := (.bool (decide ((0 : Int) < ((n : Nat)))))) rfl ⟨rfl, rfl⟩⟩) ?_
                refine xd_pure 32 (some 110) rfl rfl (by kernel_rfl) (v := undef) (.inr ⟨(wanted_not (j := 31) (b := true) (c := false) rfl (congrArg some (decide_eq_false h6)) (by decide)), rfl⟩) ?_
                refine xd_pure 33 (some 111) rfl rfl (by kernel_rfl) (v := undef) (.inr ⟨(wanted_not (j := 31) (b := true) (c := false) rfl (congrArg some (decide_eq_false h6)) (by decide)), rfl⟩) ?_
                refine xd_pure 34 (some 112) rfl rfl (by kernel_rfl) (v := undef) (.inr ⟨(wanted_not (j := 31) (b := true) (c := false) rfl (congrArg some (decide_eq_false h6)) (by decide)), rfl⟩) ?_
                refine xd_pure 35 (some 113) rfl rfl (by kernel_rfl) (v := undef) (.inr ⟨(wanted_not (j := 31) (b := true) (c := false) rfl (congrArg some (decide_eq_false h6)) (by decide)), rfl⟩) ?_
                refine xd_take 36 (some 114) rfl rfl (by kernel_rfl) (v := undef) (.inr ⟨(wanted_not (j := 31) (b := true) (c := false) rfl (congrArg some (decide_eq_false h6)) (by decide)), rfl⟩) hS6 ?_
                refine xd_pure 37 (some 115) rfl rfl (by kernel_rfl) (v := undef) (.inr ⟨(wanted_not (j := 31) (b := true) (c := false) rfl (congrArg some (decide_eq_false h6)) (by decide)), rfl⟩) ?_
                refine xd_pure 38 (some 116) rfl rfl (by kernel_rfl) (v := (.bool false)) (.inl ⟨rfl, fun W_ hW_ => ox_pick_f (v := (.bool false)) (congrArg Value.bool (decide_eq_false h6)) rfl ⟨rfl, rfl⟩⟩) ?_
                refine xd_pure 39 (some 117) rfl rfl (by kernel_rfl) (v := (.bool false)) (.inl ⟨rfl, fun W_ hW_ => ox_pick_f (v := (.bool false)) rfl rfl ⟨rfl, rfl⟩⟩) ?_
                refine xd_done (by kernel_rfl) ?_ _
                refine xc_cond_f rfl ?_
                refine xc_skip ?_
                refine xc_region ?_
                refine xl_op (P := Tryz.prog) (some 76) rfl rfl (ox_move (v := (.int .i64 ((i : Nat)))) g9_f3 ?_)
                refine xl_op (P := Tryz.prog) (some 77) rfl rfl (ox_add64 (a := ((i : Nat))) (b := 1) rfl rfl (by omega) ?_)
                refine xl_op (P := Tryz.prog) (some 9) rfl rfl (ox_assign (v := (.int .i64 ((i : Nat) + 1))) rfl ?_)
                refine xl_nil ?_
                have x17 : Ext w13 w20 := (Ext.trans (Ext.trans x9 e17) e18)
                exact ⟨rfl, (itn).length - (i + 1), by omega, i + 1, by omega, (by omega), g1_f3, g3_f3, g4_f3, g5_f3, g6_f3, g7_f3, g8_f3, g71_f3, (by first | exact rfl | exact (congrArg (Value.int .i64) (by omega))), x17⟩
          · skip
            refine xc_exit ?_
            refine xc_seq ?_
            refine xc_seq ?_
            refine xc_region ?_
            refine xl_op (P := Tryz.prog) (some 10) rfl rfl (ox_assign (v := (.int .i64 0)) rfl ?_)
            refine xl_nil ?_
            refine xc_block ?_
            refine xc_loopN (fun m_ f_ Wx => ∃ (m : Nat), m_ = n - m ∧ (m ≤ n) ∧ f_ 1 = (.pointer (some ⟨w.heap.size, 0, none⟩)) ∧ f_ 3 = (.pointer (some ⟨ba_, 0, none⟩)) ∧ f_ 4 = (.slice A1 ((symbolsG s.g).length) c1) ∧ f_ 5 = (.int .i64 ((n : Nat))) ∧ f_ 6 = (.slice A2 pn.length c2) ∧ f_ 7 = (.slice A3 kn.length c3) ∧ f_ 8 = (.slice A4 itn.length c4) ∧ f_ 71 = (.bool false) ∧ f_ 9 = (.int .i64 ((i : Nat))) ∧ f_ 72 = (.int .i64 ((i : Nat))) ∧ f_ 73 = (.slice A4 itn.length c4) ∧ f_ 74 = (.int .i64 (((itn.length : Nat) : Int))) ∧ f_ 75 = (.bool (decide (((i : Nat) : Int) < (((itn.length : Nat) : Int))))) ∧ f_ 10 = (.int .i64 ((m : Nat))) ∧ Ext w14 Wx) (n) ?_ ?_
            · exact ⟨0, (by omega), (by omega), g1_f3, g3_f3, g4_f3, g5_f3, g6_f3, g7_f3, g8_f3, g71_f3, g9_f3, rfl, rfl, rfl, rfl, (by first | exact rfl | exact (congrArg (Value.int .i64) (by omega))), (Chg.refl _ _)⟩
            · rintro m_ f4 w21 ⟨m, hm_f4, hm, g1_f4, g3_f4, g4_f4, g5_f4, g6_f4, g7_f4, g8_f4, g71_f4, g9_f4, g72_f4, g73_f4, g74_f4, g75_f4, g10_f4, x18⟩
              have hx18 := x18.size
              refine xc_seq ?_
              refine xc_seq ?_
              refine xc_region ?_
              refine xl_op (P := Tryz.prog) (some 118) rfl rfl (ox_move (v := (.int .i64 ((m : Nat)))) g10_f4 ?_)
              refine xl_op (P := Tryz.prog) (some 119) rfl rfl (ox_move (v := (.int .i64 ((n : Nat)))) g5_f4 ?_)
              refine xl_op (P := Tryz.prog) (some 120) rfl rfl (ox_lss (k := .i64) (a := ((m : Nat))) (b := ((n : Nat))) rfl rfl ?_)
              refine xl_nil ?_
              refine xc_if (p := ((m : Nat) : Int) < ((n : Nat))) rfl (fun h7 => ?_) (fun h7 => ?_)
              · skip
                refine xc_skip ?_
                refine xc_seq ?_
                refine xc_block ?_
                refine xc_seq ?_
                refine xc_region ?_
                refine xl_op (P := Tryz.prog) (some 123) rfl rfl (ox_move (v := (.pointer (some ⟨ba_, 0, none⟩))) g3_f4 ?_)
                refine xl_op (P := Tryz.prog) (some 124) rfl rfl (ox_move (v := (.int .i64 ((m : Nat)))) g10_f4 ?_)
                have x19 : Ext w8 w21 := (Ext.trans (Ext.trans (Ext.trans e8 e12) x9) x18)
                have q8 := (AutX.ext (AutX.ext (AutX.ext (AutX.ext (AutX.ext hX_ x5) e5) e6) e7) x19)
                refine xl_op (P := Tryz.prog) (some 125) rfl rfl (ox_callE (al := [(.pointer (some ⟨ba_, 0, none⟩)), (.int .i64 ((m : Nat)))]) pf_25 rfl (ret_mono (row_name (autx_kern q8 ((m : Nat)))) ?_))
                rintro _ w22 ⟨km, h_km, A6, c6, rfl, hn6, e19⟩
                have he19 := e19.size
                refine xl_op (P := Tryz.prog) (some 126) rfl rfl (ox_move (v := (.slice A3 kn.length c3)) g7_f4 ?_)
                have hne9 : ¬ km = kn := by
                  obtain ⟨u, hu⟩ := get_ex (l := st) (i := m) (by omega)
                  rw [h_km, kernS_at hu, hke]
                  exact haut.apart m n u xs (by omega) hu hx
                have hml9 : km.length ≤ 8796093022208 := by
                  obtain ⟨u, hu⟩ := get_ex (l := st) (i := m) (by omega)
                  have h9 := kern_len haut hu
                  rw [h_km, kernS_at hu]
                  have h8 := (haut.lens u (List.mem_of_getElem? hu)).1
                  omega
                have q9 := ((((hn3.1.ext e8).ext e12).ext x9).ext x18)
                refine xl_op (P := Tryz.prog) (some 127) rfl rfl (ox_callE (al := [(.slice A6 km.length c6), (.slice A3 kn.length c3)]) pf_26 rfl (ret_mono (sameItems_calls km kn A6 A3 c6 c3 w22 (Own.rowO hn6.1) (Own.rowO (q9.ext e19)) hml9) ?_))
                rintro _ w23 ⟨rfl, e20⟩
                have he20 := e20.size
                refine xl_nil ?_
                refine xc_cond_f (congrArg Value.bool (decide_eq_false hne9)) ?_
                refine xc_skip ?_
                refine xc_region ?_
                refine xl_op (P := Tryz.prog) (some 121) rfl rfl (ox_move (v := (.int .i64 ((m : Nat)))) g10_f4 ?_)
                refine xl_op (P := Tryz.prog) (some 122) rfl rfl (ox_add64 (a := ((m : Nat))) (b := 1) rfl rfl (by omega) ?_)
                refine xl_op (P := Tryz.prog) (some 10) rfl rfl (ox_assign (v := (.int .i64 ((m : Nat) + 1))) rfl ?_)
                refine xl_nil ?_
                have x20 : Ext w14 w23 := (Ext.trans (Ext.trans x18 e19) e20)
                exact ⟨rfl, n - (m + 1), by omega, m + 1, by omega, (by omega), g1_f4, g3_f4, g4_f4, g5_f4, g6_f4, g7_f4, g8_f4, g71_f4, g9_f4, g72_f4, g73_f4, g74_f4, g75_f4, (by first | exact rfl | exact (congrArg (Value.int .i64) (by omega))), x20⟩
              · skip
                refine xc_exit ?_
                refine xc_seq ?_
                refine xc_region ?_
                refine xl_op (P := Tryz.prog) (some 11) rfl rfl (ox_assign (v := (.int .i64 0)) rfl ?_)
                refine xl_nil ?_
                refine xc_block ?_
                refine xc_loopN (fun m_ f_ Wx => ∃ (k : Nat), m_ = (symbolsG s.g).length - k ∧ (k ≤ (symbolsG s.g).length) ∧ f_ 1 = (.pointer (some ⟨w.heap.size, 0, none⟩)) ∧ f_ 3 = (.pointer (some ⟨ba_, 0, none⟩)) ∧ f_ 4 = (.slice A1 ((symbolsG s.g).length) c1) ∧ f_ 5 = (.int .i64 ((n : Nat))) ∧ f_ 6 = (.slice A2 pn.length c2) ∧ f_ 7 = (.slice A3 kn.length c3) ∧ f_ 8 = (.slice A4 itn.length c4) ∧ f_ 71 = (.bool false) ∧ f_ 9 = (.int .i64 ((i : Nat))) ∧ f_ 72 = (.int .i64 ((i : Nat))) ∧ f_ 73 = (.slice A4 itn.length c4) ∧ f_ 74 = (.int .i64 (((itn.length : Nat) : Int))) ∧ f_ 75 = (.bool (decide (((i : Nat) : Int) < (((itn.length : Nat) : Int))))) ∧ f_ 10 = (.int .i64 ((m : Nat))) ∧ f_ 118 = (.int .i64 ((m : Nat))) ∧ f_ 119 = (.int .i64 ((n : Nat))) ∧ f_ 120 = (.bool (decide (((m : Nat) : Int) < ((n : Nat))))) ∧ f_ 11 = (.int .i64 ((k : Nat))) ∧ Ext w21 Wx) ((symbolsG s.g).length) ?_ ?_
                · exact ⟨0, (by omega), (by omega), g1_f4, g3_f4, g4_f4, g5_f4, g6_f4, g7_f4, g8_f4, g71_f4, g9_f4, g72_f4, g73_f4, g74_f4, g75_f4, g10_f4, rfl, rfl, rfl, (by first | exact rfl | exact (congrArg (Value.int .i64) (by omega))), (Chg.refl _ _)⟩
                · rintro m_ f5 w24 ⟨k, hm_f5, hk, g1_f5, g3_f5, g4_f5, g5_f5, g6_f5, g7_f5, g8_f5, g71_f5, g9_f5, g72_f5, g73_f5, g74_f5, g75_f5, g10_f5, g118_f5, g119_f5, g120_f5, g11_f5, x21⟩
                  have hx21 := x21.size
                  refine xc_seq ?_
                  refine xc_seq ?_
                  refine xc_region ?_
                  refine xl_op (P := Tryz.prog) (some 128) rfl rfl (ox_move (v := (.int .i64 ((k : Nat)))) g11_f5 ?_)
                  refine xl_op (P := Tryz.prog) (some 129) rfl rfl (ox_move (v := (.slice A1 ((symbolsG s.g).length) c1)) g4_f5 ?_)
                  refine xl_op (P := Tryz.prog) (some 130) rfl rfl (ox_len (A := A1) (n := ((symbolsG s.g).length)) (cp := c1) rfl tU_33 rfl ?_)
                  refine xl_op (P := Tryz.prog) (some 131) rfl rfl (ox_lss (k := .i64) (a := ((k : Nat))) (b := ((((symbolsG s.g).length : Nat) : Int))) rfl rfl ?_)
                  refine xl_nil ?_
                  refine xc_if (p := ((k : Nat) : Int) < ((((symbolsG s.g).length : Nat) : Int))) rfl (fun h8 => ?_) (fun h8 => ?_)
                  · skip
                    refine xc_skip ?_
                    refine xc_seq ?_
                    refine xc_block ?_
                    refine xc_seq ?_
                    refine xc_region ?_
                    refine xl_op (P := Tryz.prog) (some 134) rfl rfl (ox_move (v := (.pointer (some ⟨ba_, 0, none⟩))) g3_f5 ?_)
                    refine xl_op (P := Tryz.prog) (some 135) rfl rfl (ox_move (v := (.int .i64 ((n : Nat)))) g5_f5 ?_)
                    refine xl_op (P := Tryz.prog) (some 136) rfl rfl (ox_move (v := (.slice A1 ((symbolsG s.g).length) c1)) g4_f5 ?_)
                    refine xl_op (P := Tryz.prog) (some 137) rfl rfl (ox_move (v := (.int .i64 ((k : Nat)))) g11_f5 ?_)
                    have q10 := ((((hn1.1.ext x4).ext e5).ext e6).ext e7)
                    have q11 := ((((q10.ext e8).ext e12).ext x9).ext x18)
                    obtain ⟨x_2, g_2, hx_3⟩ := own_may (A := A1) k Sym.len (by decide) (q11.ext x21)
                    obtain ⟨hx_4, hA_2, hc_2⟩ := hx_3 (by first | omega | (simp only [List.length_drop, List.length_replicate, List.length_set, List.length_append, List.length_map, List.length_singleton] at *; omega))
                    refine xl_op (P := Tryz.prog) (some 138) rfl rfl (ox_ixA (b := g_2) (o := 0) (i := ((k : Nat))) k tE_33 hA_2 rfl rfl rfl (by omega) ?_)
                    refine xl_op (P := Tryz.prog) (some 139) rfl rfl (ox_loadN (vs := [(.int .i64 x_2.kind), (.int .i64 x_2.n)]) tA_32 tS_32 rfl rfl hc_2 ?_)
                    have x22 : Ext w8 w24 := (Ext.trans (Ext.trans (Ext.trans (Ext.trans e8 e12) x9) x18) x21)
                    have q12 := (AutX.ext (AutX.ext (AutX.ext (AutX.ext (AutX.ext hX_ x5) e5) e6) e7) x22)
                    refine xl_op (P := Tryz.prog) (some 140) rfl rfl (ox_callE (al := [(.pointer (some ⟨ba_, 0, none⟩)), (.int .i64 ((n : Nat))), (.agg #[(.int .i64 x_2.kind), (.int .i64 x_2.n)])]) pf_19 rfl (ret_mono (autx_go q12 ((n : Nat)) (⟨x_2.kind, x_2.n⟩ : Sym)) ?_))
                    rintro _ w25 ⟨rfl, e21⟩
                    have he21 := e21.size
                    refine xl_op (P := Tryz.prog) (some 12) rfl rfl (ox_assign (v := (.int .i64 (goS st ((n : Nat)) (⟨x_2.kind, x_2.n⟩ : Sym)))) rfl ?_)
                    refine xl_nil ?_
                    refine xc_seq ?_
                    refine xc_seq ?_
                    refine xc_regionE [8] (fun W_ => Chg (fun _ => False) w25 W_) hmix ?_
                    intro w26 e22 z5
                    have hS7 : Chg (fun _ => False) w25 w26 := Ext.to e22
                    refine xd_pure 0 (some 141) rfl rfl (by kernel_rfl) (v := (.int .i64 (goS st ((n : Nat)) (⟨x_2.kind, x_2.n⟩ : Sym)))) (.inl ⟨rfl, fun W_ hW_ => ox_move (v := (.int .i64 (goS st ((n : Nat)) (⟨x_2.kind, x_2.n⟩ : Sym)))) rfl ⟨rfl, rfl⟩⟩) ?_
                    refine xd_pure 1 (some 142) rfl rfl (by kernel_rfl) (v := (.bool (decide ((0 : Int) ≤ (goS st ((n : Nat)) (⟨x_2.kind, x_2.n⟩ : Sym)))))) (.inl ⟨rfl, fun W_ hW_ => ox_geq (k := .i64) (a := (goS st ((n : Nat)) (⟨x_2.kind, x_2.n⟩ : Sym))) (b := 0) rfl rfl ⟨rfl, rfl⟩⟩) ?_
                    have q13 := (((((b1.ext e2).ext e4).ext x4).ext e5).ext e6)
                    have q14 := (((((q13.ext e7).ext e8).ext e12).ext x9).ext x18)
                    refine xd_take 2 (some 143) rfl rfl (by kernel_rfl) (v := (.agg #[(.slice s.lA s.lex.length s.lc), (.slice s.nA s.names.length s.nc), (.int .i64 s.start), (.slice s.pA s.prods.length s.pc)])) (.inl ⟨rfl, fun W_ hW_ => ox_loadN (vs := [(.slice s.lA s.lex.length s.lc), (.slice s.nA s.names.length s.nc), (.int .i64 s.start), (.slice s.pA s.prods.length s.pc)]) tA_26 tS_26 g1_f5 rfl ⟨(((q14.ext x21).ext e21).ext hW_).cell rfl, (((q14.ext x21).ext e21).ext hW_).cell rfl, (((q14.ext x21).ext e21).ext hW_).cell rfl, (((q14.ext x21).ext e21).ext hW_).cell rfl, trivial⟩ ⟨rfl, rfl⟩⟩) hS7 ?_
                    refine xd_pure 3 (some 144) rfl rfl (by kernel_rfl) (v := (.slice A4 itn.length c4)) (.inl ⟨rfl, fun W_ hW_ => ox_move (v := (.slice A4 itn.length c4)) g8_f5 ⟨rfl, rfl⟩⟩) ?_
                    refine xd_pure 4 (some 145) rfl rfl (by kernel_rfl) (v := (.slice A1 ((symbolsG s.g).length) c1)) (.inl ⟨rfl, fun W_ hW_ => ox_move (v := (.slice A1 ((symbolsG s.g).length) c1)) g4_f5 ⟨rfl, rfl⟩⟩) ?_
                    refine xd_pure 5 (some 146) rfl rfl (by kernel_rfl) (v := (.int .i64 ((k : Nat)))) (.inl ⟨rfl, fun W_ hW_ => ox_move (v := (.int .i64 ((k : Nat)))) g11_f5 ⟨rfl, rfl⟩⟩) ?_
                    have x23 : Ext w24 w26 := (Ext.trans e21 e22)
                    refine xd_pure 6 (some 147) rfl rfl (by kernel_rfl) (v := (.pointer (some ⟨g_2, 0 + k * 2, none⟩))) (.inl ⟨rfl, fun W_ hW_ => ox_ixA (b := g_2) (o := 0) (i := ((k : Nat))) k tE_33 hA_2 rfl rfl rfl (by omega) ⟨rfl, rfl⟩⟩) ?_
                    refine xd_take 7 (some 148) rfl rfl (by kernel_rfl) (v := (.agg #[(.int .i64 x_2.kind), (.int .i64 x_2.n)])) (.inl ⟨rfl, fun W_ hW_ => ox_loadN (vs := [(.int .i64 x_2.kind), (.int .i64 x_2.n)]) tA_32 tS_32 rfl rfl (CellsL.keep (Ext.trans e21 hW_) not_false hc_2) ⟨rfl, rfl⟩⟩) hS7 ?_
                    have hgs : 0 ≤ goS st (n : Nat) (⟨x_2.kind, x_2.n⟩ : Sym) ↔ ∃ y ∈ itn, behindG s.g y = some (⟨x_2.kind, x_2.n⟩ : Sym) := by rw [hie]; exact go_stands haut hx _
                    have x24 : Ext w w26 := (Ext.trans (Ext.trans (Ext.trans (Ext.trans (Ext.trans (Ext.trans (Ext.trans (Ext.trans (Ext.trans (Ext.trans (Ext.trans (Ext.trans x3 e4) x4) e5) e6) e7) e8) e12) x9) x18) x21) e21) e22)
                    have q15 := ((((hn4.1.ext e12).ext x9).ext x18).ext x21)
                    refine xd_one 8 (some 149) rfl rfl (by kernel_rfl) rfl (ox_callE (al := [(.agg #[(.slice s.lA s.lex.length s.lc), (.slice s.nA s.names.length s.nc), (.int .i64 s.start), (.slice s.pA s.prods.length s.pc)]), (.slice A4 itn.length c4), (.agg #[(.int .i64 x_2.kind), (.int .i64 x_2.n)])]) pf_28 rfl (ret_mono (stands_calls s (itn) A4 c4 (⟨x_2.kind, x_2.n⟩ : Sym) w26 (hS.ext x24) (Own.rowO ((q15.ext e21).ext e22)) (by omega) (fun y hy => by rw [hie] at hy; exact (haut.ok.ok xs (List.mem_of_getElem? hx) y hy).1)) ?_))
                    rintro _ w27 ⟨rfl, e23⟩
                    have he23 := e23.size
                    refine ⟨.inl (by decide), ?_⟩
                    refine xd_pure 9 (some 150) rfl rfl (by kernel_rfl) (v := (.bool (decide (((decide ((0 : Int) ≤ (goS st ((n : Nat)) (⟨x_2.kind, x_2.n⟩ : Sym))))) ≠ ((decide (∃ y ∈ itn, behindG s.g y = some (⟨x_2.kind, x_2.n⟩ : Sym)))))))) (.inl ⟨rfl, fun W_ hW_ => ox_neqBool (a := ((decide ((0 : Int) ≤ (goS st ((n : Nat)) (⟨x_2.kind, x_2.n⟩ : Sym)))))) (b := ((decide (∃ y ∈ itn, behindG s.g y = some (⟨x_2.kind, x_2.n⟩ : Sym))))) tU_4 rfl rfl ⟨rfl, rfl⟩⟩) ?_
                    refine xd_done (by kernel_rfl) ?_ _
                    refine xc_cond_f (congrArg Value.bool (decide_eq_false (fun h9 => h9 (decide_eq_decide.2 hgs)))) ?_
                    refine xc_skip ?_
                    refine xc_seq ?_
                    refine xc_region ?_
                    refine xl_op (P := Tryz.prog) (some 151) rfl rfl (ox_move (v := (.int .i64 (goS st ((n : Nat)) (⟨x_2.kind, x_2.n⟩ : Sym)))) rfl ?_)
                    refine xl_op (P := Tryz.prog) (some 152) rfl rfl (ox_geq (k := .i64) (a := (goS st ((n : Nat)) (⟨x_2.kind, x_2.n⟩ : Sym))) (b := 0) rfl rfl ?_)
                    refine xl_nil ?_
                    refine xc_if (p := (0 : Int) ≤ (goS st ((n : Nat)) (⟨x_2.kind, x_2.n⟩ : Sym))) rfl (fun h9 => ?_) (fun h9 => ?_)
                    · skip
                      have hsy : symS st (goS st ((n : Nat)) (⟨x_2.kind, x_2.n⟩ : Sym)) = ((⟨x_2.kind, x_2.n⟩ : Sym), true) := by obtain ⟨j, y, e1, e2, e3, e4, _, e6⟩ := go_to haut hx h9; rw [e1, symS_at e2 e3, e4]
                      have hpj : (pathS st (goS st ((n : Nat)) (⟨x_2.kind, x_2.n⟩ : Sym))).length ≤ (pn).length + 1 := by obtain ⟨j, y, e1, e2, e3, e4, _, e6⟩ := go_to haut hx h9; rw [e1, h_pn]; exact e6
                      refine xc_seq ?_
                      refine xc_region ?_
                      refine xl_op (P := Tryz.prog) (some 154) rfl rfl (ox_move (v := (.pointer (some ⟨ba_, 0, none⟩))) g3_f5 ?_)
                      refine xl_op (P := Tryz.prog) (some 155) rfl rfl (ox_move (v := (.int .i64 (goS st ((n : Nat)) (⟨x_2.kind, x_2.n⟩ : Sym)))) rfl ?_)
                      have x25 : Ext w24 w27 := (Ext.trans x23 e23)
                      refine xl_op (P := Tryz.prog) (some 156) rfl rfl (ox_callE (al := [(.pointer (some ⟨ba_, 0, none⟩)), (.int .i64 (goS st ((n : Nat)) (⟨x_2.kind, x_2.n⟩ : Sym)))]) pf_29 rfl (ret_mono (autx_sym (AutX.ext q12 x25) (goS st ((n : Nat)) (⟨x_2.kind, x_2.n⟩ : Sym))) ?_))
                      rintro _ w28 ⟨rfl, e24⟩
                      have he24 := e24.size
                      refine xl_op (P := Tryz.prog) (some 153) rfl rfl (ox_move (v := (.tuple #[(.agg #[(.int .i64 ((symS st (goS st ((n : Nat)) (⟨x_2.kind, x_2.n⟩ : Sym))).1.kind)), (.int .i64 ((symS st (goS st ((n : Nat)) (⟨x_2.kind, x_2.n⟩ : Sym))).1.n))]), (.bool ((symS st (goS st ((n : Nat)) (⟨x_2.kind, x_2.n⟩ : Sym))).2))])) rfl ?_)
                      refine xl_op (P := Tryz.prog) (some 157) rfl rfl (ox_extract (vs := #[(.agg #[(.int .i64 ((symS st (goS st ((n : Nat)) (⟨x_2.kind, x_2.n⟩ : Sym))).1.kind)), (.int .i64 ((symS st (goS st ((n : Nat)) (⟨x_2.kind, x_2.n⟩ : Sym))).1.n))]), (.bool ((symS st (goS st ((n : Nat)) (⟨x_2.kind, x_2.n⟩ : Sym))).2))]) (v := (.agg #[(.int .i64 ((symS st (goS st ((n : Nat)) (⟨x_2.kind, x_2.n⟩ : Sym))).1.kind)), (.int .i64 ((symS st (goS st ((n : Nat)) (⟨x_2.kind, x_2.n⟩ : Sym))).1.n))])) rfl rfl ?_)
                      refine xl_op (P := Tryz.prog) (some 158) rfl rfl (ox_extract (vs := #[(.agg #[(.int .i64 ((symS st (goS st ((n : Nat)) (⟨x_2.kind, x_2.n⟩ : Sym))).1.kind)), (.int .i64 ((symS st (goS st ((n : Nat)) (⟨x_2.kind, x_2.n⟩ : Sym))).1.n))]), (.bool ((symS st (goS st ((n : Nat)) (⟨x_2.kind, x_2.n⟩ : Sym))).2))]) (v := (.bool ((symS st (goS st ((n : Nat)) (⟨x_2.kind, x_2.n⟩ : Sym))).2))) rfl rfl ?_)
                      refine xl_op (P := Tryz.prog) (some 13) rfl rfl (ox_alloc tZ_32 ?_)
                      intro w29 e25 z6 b2
                      replace b2 : Blk w29 w28.heap.size #[(.int .i64 0), (.int .i64 0)] 32 := b2
                      refine xl_op (P := Tryz.prog) none rfl rfl (ox_store (n := 2) (vs := [(.int .i64 ((symS st (goS st ((n : Nat)) (⟨x_2.kind, x_2.n⟩ : Sym))).1.kind)), (.int .i64 ((symS st (goS st ((n : Nat)) (⟨x_2.kind, x_2.n⟩ : Sym))).1.n))]) tS_32 rfl (v := (.agg #[(.int .i64 ((symS st (goS st ((n : Nat)) (⟨x_2.kind, x_2.n⟩ : Sym))).1.kind)), (.int .i64 ((symS st (goS st ((n : Nat)) (⟨x_2.kind, x_2.n⟩ : Sym))).1.n))])) rfl rfl rfl rfl b2 (Nat.le_of_ble_eq_true rfl) ?_)
                      intro w30 e26 z7 b3
                      replace b3 : Blk w30 w28.heap.size #[(.int .i64 ((symS st (goS st ((n : Nat)) (⟨x_2.kind, x_2.n⟩ : Sym))).1.kind)), (.int .i64 ((symS st (goS st ((n : Nat)) (⟨x_2.kind, x_2.n⟩ : Sym))).1.n))] 32 := blk_full b3 rfl
                      refine xl_op (P := Tryz.prog) (some 14) rfl rfl (ox_assign (v := (.bool ((symS st (goS st ((n : Nat)) (⟨x_2.kind, x_2.n⟩ : Sym))).2))) rfl ?_)
                      refine xl_nil ?_
                      refine xc_seq ?_
                      refine xc_regionE [] (fun W_ => Chg (fun _ => False) w30 W_) hmix ?_
                      intro w31 e27 z8
                      have hS8 : Chg (fun _ => False) w30 w31 := Ext.to e27
                      refine xd_pure 0 (some 159) rfl rfl (by kernel_rfl) (v := (.bool ((symS st (goS st ((n : Nat)) (⟨x_2.kind, x_2.n⟩ : Sym))).2))) (.inl ⟨rfl, fun W_ hW_ => ox_move (v := (.bool ((symS st (goS st ((n : Nat)) (⟨x_2.kind, x_2.n⟩ : Sym))).2))) rfl ⟨rfl, rfl⟩⟩) ?_
                      refine xd_pure 1 (some 160) rfl rfl (by kernel_rfl) (v := (.bool (!((symS st (goS st ((n : Nat)) (⟨x_2.kind, x_2.n⟩ : Sym))).2)))) (.inl ⟨rfl, fun W_ hW_ => ox_not (b := (((symS st (goS st ((n : Nat)) (⟨x_2.kind, x_2.n⟩ : Sym))).2))) rfl ⟨rfl, rfl⟩⟩) ?_
                      refine xd_pure 2 (some 161) rfl rfl (by kernel_rfl) (v := (.bool (!((symS st (goS st ((n : Nat)) (⟨x_2.kind, x_2.n⟩ : Sym))).2)))) (.inl ⟨rfl, fun W_ hW_ => ox_move (v := (.bool (!((symS st (goS st ((n : Nat)) (⟨x_2.kind, x_2.n⟩ : Sym))).2)))) rfl ⟨rfl, rfl⟩⟩) ?_
                      refine xd_take 3 (some 162) rfl rfl (by kernel_rfl) (v := (.agg #[(.int .i64 ((symS st (goS st ((n : Nat)) (⟨x_2.kind, x_2.n⟩ : Sym))).1.kind)), (.int .i64 ((symS st (goS st ((n : Nat)) (⟨x_2.kind, x_2.n⟩ : Sym))).1.n))])) (.inl ⟨(wanted_of (j := 2) (b := false) rfl (congrArg some (by rw [hsy]; rfl))), fun W_ hW_ => ox_loadN (vs := [(.int .i64 ((symS st (goS st ((n : Nat)) (⟨x_2.kind, x_2.n⟩ : Sym))).1.kind)), (.int .i64 ((symS st (goS st ((n : Nat)) (⟨x_2.kind, x_2.n⟩ : Sym))).1.n))]) tA_32 tS_32 rfl rfl ⟨(b3.ext hW_).cell rfl, (b3.ext hW_).cell rfl, trivial⟩ ⟨rfl, rfl⟩⟩) hS8 ?_
                      refine xd_pure 4 (some 163) rfl rfl (by kernel_rfl) (v := (.slice A1 ((symbolsG s.g).length) c1)) (.inl ⟨(wanted_of (j := 2) (b := false) rfl (congrArg some (by rw [hsy]; rfl))), fun W_ hW_ => ox_move (v := (.slice A1 ((symbolsG s.g).length) c1)) g4_f5 ⟨rfl, rfl⟩⟩) ?_
                      refine xd_pure 5 (some 164) rfl rfl (by kernel_rfl) (v := (.int .i64 ((k : Nat)))) (.inl ⟨(wanted_of (j := 2) (b := false) rfl (congrArg some (by rw [hsy]; rfl))), fun W_ hW_ => ox_move (v := (.int .i64 ((k : Nat)))) g11_f5 ⟨rfl, rfl⟩⟩) ?_
                      have x26 : Ext w24 w31 := (Ext.trans (Ext.chg1 (Ext.trans (Ext.trans x25 e24) e25) e26 (by omega)) e27)
                      refine xd_pure 6 (some 165) rfl rfl (by kernel_rfl) (v := (.pointer (some ⟨g_2, 0 + k * 2, none⟩))) (.inl ⟨(wanted_of (j := 2) (b := false) rfl (congrArg some (by rw [hsy]; rfl))), fun W_ hW_ => ox_ixA (b := g_2) (o := 0) (i := ((k : Nat))) k tE_33 hA_2 rfl rfl rfl (by omega) ⟨rfl, rfl⟩⟩) ?_
                      refine xd_take 7 (some 166) rfl rfl (by kernel_rfl) (v := (.agg #[(.int .i64 x_2.kind), (.int .i64 x_2.n)])) (.inl ⟨(wanted_of (j := 2) (b := false) rfl (congrArg some (by rw [hsy]; rfl))), fun W_ hW_ => ox_loadN (vs := [(.int .i64 x_2.kind), (.int .i64 x_2.n)]) tA_32 tS_32 rfl rfl (CellsL.keep (Ext.trans (Ext.chg1 (Ext.trans (Ext.trans x25 e24) e25) e26 (by omega)) hW_) not_false hc_2) ⟨rfl, rfl⟩⟩) hS8 ?_
                      refine xd_pure 8 (some 167) rfl rfl (by kernel_rfl) (v := (.bool (!decide ((((symS st (goS st ((n : Nat)) (⟨x_2.kind, x_2.n⟩ : Sym))).1.kind : Int) = x_2.kind ∧ ((symS st (goS st ((n : Nat)) (⟨x_2.kind, x_2.n⟩ : Sym))).1.n : Int) = x_2.n))))) (.inl ⟨(wanted_of (j := 2) (b := false) rfl (congrArg some (by rw [hsy]; rfl))), fun W_ hW_ => ox_neqF (xs := [(.int .i64 ((symS st (goS st ((n : Nat)) (⟨x_2.kind, x_2.n⟩ : Sym))).1.kind)), (.int .i64 ((symS st (goS st ((n : Nat)) (⟨x_2.kind, x_2.n⟩ : Sym))).1.n))]) (ys := [(.int .i64 x_2.kind), (.int .i64 x_2.n)]) (p := (((symS st (goS st ((n : Nat)) (⟨x_2.kind, x_2.n⟩ : Sym))).1.kind : Int) = x_2.kind ∧ ((symS st (goS st ((n : Nat)) (⟨x_2.kind, x_2.n⟩ : Sym))).1.n : Int) = x_2.n)) fS_32 rfl rfl rfl rfl (by simp) ⟨rfl, rfl⟩⟩) ?_
                      refine xd_pure 9 (some 168) rfl rfl (by kernel_rfl) (v := (.bool (!decide ((((symS st (goS st ((n : Nat)) (⟨x_2.kind, x_2.n⟩ : Sym))).1.kind : Int) = x_2.kind ∧ ((symS st (goS st ((n : Nat)) (⟨x_2.kind, x_2.n⟩ : Sym))).1.n : Int) = x_2.n))))) (.inl ⟨rfl, fun W_ hW_ => ox_pick_f (v := (.bool (!decide ((((symS st (goS st ((n : Nat)) (⟨x_2.kind, x_2.n⟩ : Sym))).1.kind : Int) = x_2.kind ∧ ((symS st (goS st ((n : Nat)) (⟨x_2.kind, x_2.n⟩ : Sym))).1.n : Int) = x_2.n))))) (congrArg Value.bool (by rw [hsy]; rfl)) rfl ⟨rfl, rfl⟩⟩) ?_
                      refine xd_pure 10 (some 169) rfl rfl (by kernel_rfl) (v := (.bool (!decide ((((symS st (goS st ((n : Nat)) (⟨x_2.kind, x_2.n⟩ : Sym))).1.kind : Int) = x_2.kind ∧ ((symS st (goS st ((n : Nat)) (⟨x_2.kind, x_2.n⟩ : Sym))).1.n : Int) = x_2.n))))) (.inl ⟨rfl, fun W_ hW_ => ox_move (v := (.bool (!decide ((((symS st (goS st ((n : Nat)) (⟨x_2.kind, x_2.n⟩ : Sym))).1.kind : Int) = x_2.kind ∧ ((symS st (goS st ((n : Nat)) (⟨x_2.kind, x_2.n⟩ : Sym))).1.n : Int) = x_2.n))))) rfl ⟨rfl, rfl⟩⟩) ?_
                      refine xd_pure 11 (some 170) rfl rfl (by kernel_rfl) (v := (.pointer (some ⟨ba_, 0, none⟩))) (.inl ⟨(wanted_of (j := 10) (b := false) rfl (congrArg some (by rw [hsy]; simp))), fun W_ hW_ => ox_move (v := (.pointer (some ⟨ba_, 0, none⟩))) g3_f5 ⟨rfl, rfl⟩⟩) ?_
                      refine xd_pure 12 (some 171) rfl rfl (by kernel_rfl) (v := (.int .i64 (goS st ((n : Nat)) (⟨x_2.kind, x_2.n⟩ : Sym)))) (.inl ⟨(wanted_of (j := 10) (b := false) rfl (congrArg some (by rw [hsy]; simp))), fun W_ hW_ => ox_move (v := (.int .i64 (goS st ((n : Nat)) (⟨x_2.kind, x_2.n⟩ : Sym)))) rfl ⟨rfl, rfl⟩⟩) ?_
                      refine xd_pure 15 (some 174) rfl rfl (by kernel_rfl) (v := (.slice A2 pn.length c2)) (.inl ⟨(wanted_of (j := 10) (b := false) rfl (congrArg some (by rw [hsy]; simp))), fun W_ hW_ => ox_move (v := (.slice A2 pn.length c2)) g6_f5 ⟨rfl, rfl⟩⟩) ?_
                      refine xd_pure 16 (some 175) rfl rfl (by kernel_rfl) (v := (.int .i64 (((pn.length : Nat) : Int)))) (.inl ⟨(wanted_of (j := 10) (b := false) rfl (congrArg some (by rw [hsy]; simp))), fun W_ hW_ => ox_len (A := A2) (n := pn.length) (cp := c2) rfl tU_33 rfl ⟨rfl, rfl⟩⟩) ?_
                      refine xd_pure 17 (some 176) rfl rfl (by kernel_rfl) (v := (.int .i64 (((pn.length : Nat) : Int) + 1))) (.inl ⟨(wanted_of (j := 10) (b := false) rfl (congrArg some (by rw [hsy]; simp))), fun W_ hW_ => ox_add64 (a := (((pn.length : Nat) : Int))) (b := 1) rfl rfl (by omega) ⟨rfl, rfl⟩⟩) ?_
                      have x27 : Ext w27 w31 := (Ext.trans (Ext.chg1 (Ext.trans e24 e25) e26 (by omega)) e27)
                      refine xd_oneW 13 (some 172) rfl rfl (by kernel_rfl) (wanted_of (j := 10) (b := false) rfl (congrArg some (by rw [hsy]; simp))) (ox_callE (al := [(.pointer (some ⟨ba_, 0, none⟩)), (.int .i64 (goS st ((n : Nat)) (⟨x_2.kind, x_2.n⟩ : Sym)))]) pf_24 rfl (ret_mono (row_name (autx_path (AutX.ext (AutX.ext q12 x25) x27) (goS st ((n : Nat)) (⟨x_2.kind, x_2.n⟩ : Sym)))) ?_))
                      rintro _ w32 ⟨pt, h_pt, A7, c7, rfl, hn7, e28⟩
                      have he28 := e28.size
                      have hpj2 : pt.length ≤ pn.length + 1 := by rw [h_pt]; exact hpj
                      have hS9 : Chg (fun _ => False) w30 w32 := Chg.ext hS8 e28
                      refine ⟨.inr fun _ => hS9, ?_⟩
                      refine xd_pure 14 (some 173) rfl rfl (by kernel_rfl) (v := (.int .i64 (((pt.length : Nat) : Int)))) (.inl ⟨(wanted_of (j := 10) (b := false) rfl (congrArg some (by rw [hsy]; simp))), fun W_ hW_ => ox_len (A := A7) (n := pt.length) (cp := c7) rfl tU_33 rfl ⟨rfl, rfl⟩⟩) ?_
                      refine xd_pure 18 (some 177) rfl rfl (by kernel_rfl) (v := (.bool (decide ((((pn.length : Nat) : Int) + 1 : Int) < (((pt.length : Nat) : Int)))))) (.inl ⟨(wanted_of (j := 10) (b := false) rfl (congrArg some (by rw [hsy]; simp))), fun W_ hW_ => ox_gtr (k := .i64) (a := (((pt.length : Nat) : Int))) (b := (((pn.length : Nat) : Int) + 1)) rfl rfl ⟨rfl, rfl⟩⟩) ?_
                      refine xd_pure 19 (some 178) rfl rfl (by kernel_rfl) (v := (.bool (decide ((((pn.length : Nat) : Int) + 1 : Int) < (((pt.length : Nat) : Int)))))) (.inl ⟨rfl, fun W_ hW_ => ox_pick_f (v := (.bool (decide ((((pn.length : Nat) : Int) + 1 : Int) < (((pt.length : Nat) : Int)))))) (congrArg Value.bool (by rw [hsy]; simp)) rfl ⟨rfl, rfl⟩⟩) ?_
                      refine xd_done (by kernel_rfl) ?_ _
                      refine xc_cond_f (congrArg Value.bool (decide_eq_false (by omega))) ?_
                      refine xc_skip ?_
                      refine xc_region ?_
                      refine xl_op (P := Tryz.prog) (some 132) rfl rfl (ox_move (v := (.int .i64 ((k : Nat)))) g11_f5 ?_)
                      refine xl_op (P := Tryz.prog) (some 133) rfl rfl (ox_add64 (a := ((k : Nat))) (b := 1) rfl rfl (by omega) ?_)
                      refine xl_op (P := Tryz.prog) (some 11) rfl rfl (ox_assign (v := (.int .i64 ((k : Nat) + 1))) rfl ?_)
                      refine xl_nil ?_
                      have x28 : Ext w21 w32 := (Ext.trans (Ext.trans (Ext.chg1 (Ext.trans (Ext.trans (Ext.trans (Ext.trans (Ext.trans x21 e21) e22) e23) e24) e25) e26 (by omega)) e27) e28)
                      exact ⟨rfl, (symbolsG s.g).length - (k + 1), by omega, k + 1, by omega, (by omega), g1_f5, g3_f5, g4_f5, g5_f5, g6_f5, g7_f5, g8_f5, g71_f5, g9_f5, g72_f5, g73_f5, g74_f5, g75_f5, g10_f5, g118_f5, g119_f5, g120_f5, (by first | exact rfl | exact (congrArg (Value.int .i64) (by omega))), x28⟩
                    · skip
                      refine xc_skip ?_
                      refine xc_region ?_
                      refine xl_op (P := Tryz.prog) (some 132) rfl rfl (ox_move (v := (.int .i64 ((k : Nat)))) g11_f5 ?_)
                      refine xl_op (P := Tryz.prog) (some 133) rfl rfl (ox_add64 (a := ((k : Nat))) (b := 1) rfl rfl (by omega) ?_)
                      refine xl_op (P := Tryz.prog) (some 11) rfl rfl (ox_assign (v := (.int .i64 ((k : Nat) + 1))) rfl ?_)
                      refine xl_nil ?_
                      have x29 : Ext w21 w27 := (Ext.trans (Ext.trans (Ext.trans x21 e21) e22) e23)
                      exact ⟨rfl, (symbolsG s.g).length - (k + 1), by omega, k + 1, by omega, (by omega), g1_f5, g3_f5, g4_f5, g5_f5, g6_f5, g7_f5, g8_f5, g71_f5, g9_f5, g72_f5, g73_f5, g74_f5, g75_f5, g10_f5, g118_f5, g119_f5, g120_f5, (by first | exact rfl | exact (congrArg (Value.int .i64) (by omega))), x29⟩
                  · skip
                    refine xc_exit ?_
                    refine xc_region ?_
                    refine xl_op (P := Tryz.prog) (some 26) rfl rfl (ox_move (v := (.int .i64 ((n : Nat)))) g5_f5 ?_)
                    refine xl_op (P := Tryz.prog) (some 27) rfl rfl (ox_add64 (a := ((n : Nat))) (b := 1) rfl rfl (by omega) ?_)
                    refine xl_op (P := Tryz.prog) (some 5) rfl rfl (ox_assign (v := (.int .i64 ((n : Nat) + 1))) rfl ?_)
                    refine xl_nil ?_
                    have x30 : Ext w4 w24 := (Ext.trans (Ext.trans (Ext.trans (Ext.trans (Ext.trans (Ext.trans (Ext.trans (Ext.trans x4 e5) e6) e7) e8) e12) x9) x18) x21)
                    exact ⟨rfl, st.length - (n + 1), by omega, n + 1, by omega, (by omega), g1_f5, g3_f5, g4_f5, (by first | exact rfl | exact (congrArg (Value.int .i64) (by omega))), x30⟩
      · skip
        refine xc_exit ?_
        refine xc_seq ?_
        refine xc_region ?_
        have x31 : Ext w w6 := (Ext.trans (Ext.trans (Ext.trans x3 e4) x4) e5)
        refine xl_op (P := Tryz.prog) (some 179) rfl rfl (ox_callE (al := []) pf_10 rfl (ret_mono (known_calls w6 (TabIs.ext hT x31)) ?_))
        rintro _ w33 ⟨rfl, e29⟩
        have he29 := e29.size
        refine xl_op (P := Tryz.prog) (some 2) rfl rfl (ox_assign (v := (.bool true)) rfl ?_)
        refine xl_nil ?_
        refine xc_ret ?_
        change leaves _ _ _ _ _ _ _
        refine leaves_nil (n := 180) (rs := [.tmp 2]) (vs := [(.bool true)]) rfl ⟨⟨by decide, rfl⟩, trivial⟩ ?_
        have x32 : Ext w w33 := (Ext.trans x31 e29)
        exact ⟨rfl, x32⟩
end Go.Proofs.YtnnmdkglgnlenaaGreatDoor
