/-
  tree.New, the store's counter, slices.Clone of a row of nodes. No conditions.
-/
import Derived.Test.YthhbnodnpajljaaVxi
import Derived.Test.YthhbnodnpajljaaRows
import Derived.Test.YthhbnodnpajljaaDt
import Derived.Test.YthhbnodnpajljaaDa
import Derived.Test.YthhbnodnpajljaaDb
set_option linter.unusedVariables false
set_option linter.unusedSimpArgs false
set_option maxRecDepth 100000
set_option maxHeartbeats 4000000
namespace Go.Proofs.Ythhbnodnpajljaa
open Go Go.RowKit Go.Vx


theorem tF_138_2 : fieldT Try.prog 138 2 = some 0 := by kernel_rfl
theorem tP_140 : placesT Try.prog 140 = some #[(0, 1)] := by kernel_rfl
theorem tZ_140 : zeroOf Try.prog 140 = some (.agg #[(.int .i64 0)]) := by kernel_rfl

theorem new_calls  (w : World)  :
    Calls Try.prog 41 #[] w (Ret (fun v w' => v = .pointer (some ⟨w.heap.size, 0, none⟩) ∧ Blk w' w.heap.size #[.int .i64 0] 140 ∧ w'.heap.size = w.heap.size + 1 ∧ Ext w w')) := by
  refine calls_xc (n := 3) (f := fun s_ => [].getD s_ undef) Try.func41 rfl rfl (by simp) (fun s_ => by simp) ?_
  refine xc_seq ?_
  refine xc_region ?_
  refine xl_op (P := Try.prog) (some 0) rfl rfl (ox_assign (v := (.pointer none)) rfl ?_)
  refine xl_nil ?_
  refine xc_seq ?_
  refine xc_region ?_
  refine xl_op (P := Try.prog) (some 1) rfl rfl (ox_mkStruct (ps := []) (cs := #[(.int .i64 0)]) tZ_140 tP_140 rfl (by kernel_rfl) ?_)
  refine xl_op (P := Try.prog) (some 2) rfl rfl (ox_box (v := (.agg #[(.int .i64 0)])) rfl ?_)
  intro w1 e1 z1 b1
  replace b1 : Blk w1 w.heap.size #[(.int .i64 0)] 140 := b1
  refine xl_op (P := Try.prog) (some 0) rfl rfl (ox_assign (v := (.pointer (some ⟨w.heap.size, 0, none⟩))) rfl ?_)
  refine xl_nil ?_
  refine xc_ret ?_
  change leaves _ _ _ _ _ _ _
  refine leaves_nil (n := 3) (rs := [.tmp 0]) (vs := [(.pointer (some ⟨w.heap.size, 0, none⟩))]) rfl ⟨⟨by decide, rfl⟩, trivial⟩ ?_
  exact ⟨rfl, b1, z1, e1⟩

theorem run_addInt64 {w : World} {b : Nat} {x y : Int} {t : TypeId} (h : Blk w b #[.int .i64 x] t) (hr : -9223372036854775808 ≤ x + y ∧ x + y ≤ 9223372036854775807) :
    (callFunc 72 [.pointer (some ⟨b, 0, none⟩), .int .i64 y].toArray).run Try.prog w = .ok (.value (.int .i64 (x + y))) (w.setCell ⟨b, 0, none⟩ (.int .i64 (x + y))) :=
  run_call_add (P := Try.prog) Try.func72 (by kernel_rfl) (by kernel_rfl) (by kernel_rfl) .i64 (by kernel_rfl) (h.cell rfl) (h.frozen 0) (by rw [show Op.intArith .add .i64 x y = pure (.int .i64 (IntKind.i64.wrap (x + y))) from rfl, wrap_in hr]; rfl)

theorem add_calls (b : Nat) (c d : Int) (w : World) (hb : Blk w b #[.int .i64 c] 140) (hr : -9223372036854775808 ≤ c + d ∧ c + d ≤ 9223372036854775807) :
    Calls Try.prog 64 #[(.pointer (some ⟨b, 0, none⟩)), (.int .i64 d)] w (Ret (fun v w' => v = .int .i64 (c + d) ∧ Chg1 b w w' ∧ w'.heap.size = w.heap.size ∧ Blk w' b #[.int .i64 (c + d)] 140)) := by
  refine calls_xc (n := 10) (f := fun s_ => [(.pointer (some ⟨b, 0, none⟩)), (.int .i64 d)].getD s_ undef) Try.func64 rfl rfl (by simp) (fun s_ => by simp) ?_
  refine xc_seq ?_
  refine xc_region ?_
  refine xl_op (P := Try.prog) (some 4) rfl rfl (ox_assign (v := (.int .i64 0)) rfl ?_)
  refine xl_nil ?_
  refine xc_seq ?_
  refine xc_region ?_
  refine xl_op (P := Try.prog) (some 5) rfl rfl (ox_move (v := (.pointer (some ⟨b, 0, none⟩))) rfl ?_)
  refine xl_op (P := Try.prog) (some 6) rfl rfl (ox_nilCheck (p := ⟨b, 0, none⟩) rfl ?_)
  refine xl_op (P := Try.prog) (some 7) rfl rfl (ox_fieldAddr (b := b) (o := 0) tF_138_2 rfl ?_)
  refine xl_op (P := Try.prog) (some 8) rfl rfl (ox_move (v := (.int .i64 d)) rfl ?_)
  refine xl_op (P := Try.prog) (some 9) rfl rfl (ox_extern (al := [(.pointer (some ⟨b, 0, none⟩)), (.int .i64 d)]) rfl (run_addInt64 hb hr) ?_)
  obtain ⟨e1, z1, b1⟩ := set_one (v := .int .i64 (c + d)) hb
  obtain ⟨w1, hw1⟩ : ∃ w1, w1 = w.setCell ⟨b, 0, none⟩ (.int .i64 (c + d)) := ⟨_, rfl⟩
  rw [← hw1] at e1 z1 b1 ⊢
  refine xl_op (P := Try.prog) (some 4) rfl rfl (ox_assign (v := (.int .i64 (c + d))) rfl ?_)
  refine xl_nil ?_
  refine xc_ret ?_
  change leaves _ _ _ _ _ _ _
  refine leaves_nil (n := 10) (rs := [.tmp 4]) (vs := [(.int .i64 (c + d))]) rfl ⟨⟨by decide, rfl⟩, trivial⟩ ?_
  exact ⟨rfl, e1, z1, b1⟩

theorem clone_nil  (w : World)  :
    Calls Try.prog 66 #[(.slice none 0 0)] w (Ret (fun v w' => v = .slice none 0 0 ∧ w = w')) := by
  refine calls_xc (n := 8) (f := fun s_ => [(.slice none 0 0)].getD s_ undef) Try.func66 rfl rfl (by simp) (fun s_ => by simp) ?_
  refine xc_seq ?_
  refine xc_region ?_
  refine xl_op (P := Try.prog) (some 2) rfl rfl (ox_assign (v := (.slice none 0 0)) rfl ?_)
  refine xl_nil ?_
  refine xc_seq ?_
  refine xc_seq ?_
  refine xc_region ?_
  refine xl_op (P := Try.prog) (some 3) rfl rfl (ox_move (v := (.slice none 0 0)) rfl ?_)
  refine xl_op (P := Try.prog) (some 4) rfl rfl (ox_eqlSlice (A := none) (B := none) (n := 0) (c := 0) (n' := 0) (c' := 0) tU_28 rfl rfl (.inl rfl) ?_)
  refine xl_nil ?_
  refine xc_cond_t (congrArg Value.bool (decide_eq_true rfl)) ?_
  refine xc_seq ?_
  refine xc_region ?_
  refine xl_op (P := Try.prog) (some 2) rfl rfl (ox_assign (v := (.slice none 0 0)) rfl ?_)
  refine xl_nil ?_
  refine xc_ret ?_
  change leaves _ _ _ _ _ _ _
  refine leaves_nil (n := 8) (rs := [.tmp 2]) (vs := [(.slice none 0 0)]) rfl ⟨⟨by decide, rfl⟩, trivial⟩ ?_
  first | exact ⟨rfl, rfl⟩ | (exfalso; simp at *)

theorem clone_some (g o : Nat) (c : Nat) (vs : List Value) (w : World) (hv : CellsL w g o vs) (h1 : vs.all Value.oneCell' = true) (hn : vs.length ≤ 1073741824) :
    Calls Try.prog 66 #[(.slice (some ⟨g, o, none⟩) vs.length c)] w (Ret (fun v w' => ∃ ka kc, v = kidsV ka vs.length kc ∧ vs.length ≤ kc ∧ (match ka with | none => vs = [] | some k => ∃ cur, Blk w' k cur 36 ∧ cur.toList.take vs.length = vs ∧ w.heap.size ≤ k) ∧ Ext w w')) := by
  refine calls_xc (n := 8) (f := fun s_ => [(.slice (some ⟨g, o, none⟩) vs.length c)].getD s_ undef) Try.func66 rfl rfl (by simp) (fun s_ => by simp) ?_
  refine xc_seq ?_
  refine xc_region ?_
  refine xl_op (P := Try.prog) (some 2) rfl rfl (ox_assign (v := (.slice none 0 0)) rfl ?_)
  refine xl_nil ?_
  refine xc_seq ?_
  refine xc_seq ?_
  refine xc_region ?_
  refine xl_op (P := Try.prog) (some 3) rfl rfl (ox_move (v := (.slice (some ⟨g, o, none⟩) vs.length c)) rfl ?_)
  refine xl_op (P := Try.prog) (some 4) rfl rfl (ox_eqlSlice (A := (some ⟨g, o, none⟩)) (B := none) (n := vs.length) (c := c) (n' := 0) (c' := 0) tU_28 rfl rfl (.inr rfl) ?_)
  refine xl_nil ?_
  refine xc_cond_f (congrArg Value.bool (decide_eq_false (by simp))) ?_
  refine xc_skip ?_
  refine xc_seq ?_
  refine xc_region ?_
  refine xl_op (P := Try.prog) (some 5) rfl rfl (ox_mkSlice (ps := []) (zs := #[]) (cs := #[]) tE_28 rfl (by decide) (by kernel_rfl) (by kernel_rfl) ?_)
  intro w1 e1 z1 b1
  replace b1 : Blk w1 w.heap.size #[] 36 := b1
  have o0 : Vx.Own w1 36 1 (.slice (some ⟨w.heap.size, 0, none⟩) 0 0) 0 [] := Vx.Own.lit (n := 0) (sz := 1) b1 rfl (by decide)
  refine xl_op (P := Try.prog) (some 6) rfl rfl (ox_move (v := (.slice (some ⟨g, o, none⟩) vs.length c)) rfl ?_)
  refine xl_op (P := Try.prog) (some 7) rfl rfl (ox_append (n := 0) (g := g) (o := o) (m := vs.length) (xs := ([])) (news := vs) rfl tE_28 rfl (by decide) (v := (.slice (some ⟨w.heap.size, 0, none⟩) 0 0)) rfl rfl o0 (by simp) (CellsL.keep e1 not_false hv) h1 (by omega) (by omega) ?_)
  intro v1 w2 o1 e2 at1 nil1
  have he2 := e2.size
  obtain ⟨A1, c1, rfl, hc1⟩ := o1.shape
  have low1 : ∀ _k, (Value.slice A1 (0 + vs.length) c1).ownBlock = some _k → w.heap.size ≤ _k := fun _k _h => by rcases at1 with _e | _e <;> rw [_e] at _h; exact (fun _k _h => by simp [Value.ownBlock] at _h; omega) _k _h; exact (by cases _h; omega)
  replace o1 : Vx.Own w2 36 1 (.slice A1 (0 + vs.length) c1) (0 + vs.length) (vs) := by simpa using o1
  refine xl_op (P := Try.prog) (some 2) rfl rfl (ox_assign (v := (.slice A1 (0 + vs.length) c1)) rfl ?_)
  refine xl_nil ?_
  refine xc_ret ?_
  change leaves _ _ _ _ _ _ _
  refine leaves_nil (n := 8) (rs := [.tmp 2]) (vs := [(.slice A1 (0 + vs.length) c1)]) rfl ⟨⟨by decide, rfl⟩, trivial⟩ ?_
  have E0 : Ext w w2 := Chg.trans e1 e2 (fun x hx hl => by simp [Value.ownBlock] at hx; omega)
  first
    | (exfalso; simp at *; done)
    | (rcases o1.form with ⟨h1, h2, h3⟩ | ⟨g1, cap1, cur1, h1, hb1, hn1, _, hs1, ht1⟩
       · simp at h1; obtain ⟨rfl, h1, rfl⟩ := h1; exact ⟨none, 0, by simp [one, kidsV, h3], by omega, h3, E0⟩
       · simp at h1; obtain ⟨rfl, rfl⟩ := h1; exact ⟨some g1, c1, by simp [one, kidsV], by omega, ⟨cur1, hb1, by simpa using ht1, by have := low1 g1 rfl; omega⟩, E0⟩)

theorem clone_calls (A : Option Addr) (n c : Nat) (vs : List Value) (w : World) (hA : RowA w A vs) (hc : (A = none → c = 0) ∧ ∀ a, A = some a → a = ⟨a.block, a.off, none⟩) (hl : vs.length = n) (h1 : vs.all Value.oneCell' = true) (hn : n ≤ 1073741824) :
    Calls Try.prog 66 #[.slice A n c] w (Ret fun v w' => ∃ ka kc, v = kidsV ka n kc ∧ n ≤ kc ∧ (match ka with | none => vs = [] | some k => ∃ cur, Blk w' k cur 36 ∧ cur.toList.take n = vs ∧ w.heap.size ≤ k) ∧ Ext w w') := by
  subst hl
  cases A with
  | none =>
    have hv : vs = [] := hA
    subst hv
    rw [hc.1 rfl]
    refine ret_mono (clone_nil w) ?_
    rintro _ _ ⟨rfl, rfl⟩
    exact ⟨none, 0, rfl, Nat.le_refl _, rfl, Chg.refl _ _⟩
  | some a =>
    have ha := hc.2 a rfl
    rw [ha]
    exact clone_some a.block a.off c vs w hA.2 h1 hn

end Go.Proofs.Ythhbnodnpajljaa
