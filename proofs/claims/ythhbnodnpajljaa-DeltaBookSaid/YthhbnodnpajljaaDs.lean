/-
  Small helpers of the laws. No conditions.
-/
import Derived.Test.YthhbnodnpajljaaVxi
import Derived.Test.YthhbnodnpajljaaRows
import Derived.Test.YthhbnodnpajljaaDed
import Derived.Test.YthhbnodnpajljaaDa
set_option linter.unusedVariables false
set_option linter.unusedSimpArgs false
set_option maxRecDepth 100000
set_option maxHeartbeats 4000000
namespace Go.Proofs.Ythhbnodnpajljaa
open Go Go.RowKit Go.Vx

theorem tmod_two (x n : Int) (hn : 0 < n) : (0 ≤ x.tmod n ∧ x.tmod n = x % n) ∨ (x.tmod n < 0 ∧ x.tmod n + n = x % n) := by
  have h1 := Int.emod_nonneg x (show n ≠ 0 by omega)
  have h2 := Int.emod_lt_of_pos x hn
  rw [Int.tmod_eq_emod]
  split
  · left; omega
  · right
    have : (n.natAbs : Int) = n := by omega
    omega

theorem tA_59 : isAggT Try.prog 59 = some true := by kernel_rfl
theorem tE_43 : sliceT Try.prog 43 = some (59, 3, 40, (.agg #[(.int .i64 0), (.int .i64 0), (.slice none 0 0)])) := by kernel_rfl
theorem tS_59 : sizeT Try.prog 59 = some 3 := by kernel_rfl
theorem tU_43 : Try.prog.underlying 43 = some (.slice 59) := by kernel_rfl

theorem within_calls (x n : Int) (w : World) (hn : 0 < n ∧ n ≤ 4611686018427387904) :
    Calls Try.prog 14 #[(.int .i64 x), (.int .i64 n)] w (Ret (fun v w' => v = .int .i64 (x % n) ∧ w = w')) := by
  have h1 := Int.emod_nonneg x (show n ≠ 0 by omega)
  have h2 := Int.emod_lt_of_pos x hn.1
  have h3 := tmod_two x n hn.1
  refine calls_xc (n := 14) (f := fun s_ => [(.int .i64 x), (.int .i64 n)].getD s_ undef) Try.func14 rfl rfl (by simp) (fun s_ => by simp) ?_
  refine xc_seq ?_
  refine xc_region ?_
  refine xl_op (P := Try.prog) (some 4) rfl rfl (ox_assign (v := (.int .i64 0)) rfl ?_)
  refine xl_nil ?_
  refine xc_seq ?_
  refine xc_region ?_
  refine xl_op (P := Try.prog) (some 5) rfl rfl (ox_move (v := (.int .i64 x)) rfl ?_)
  refine xl_op (P := Try.prog) (some 6) rfl rfl (ox_move (v := (.int .i64 n)) rfl ?_)
  refine xl_op (P := Try.prog) (some 7) rfl rfl (ox_rem (k := .i64) (a := x) (b := n) rfl rfl (by omega) ?_)
  refine xl_op (P := Try.prog) (some 0) rfl rfl (ox_assign (v := (.int .i64 ((x : Int).tmod n))) rfl ?_)
  refine xl_nil ?_
  refine xc_seq ?_
  refine xc_seq ?_
  refine xc_region ?_
  refine xl_op (P := Try.prog) (some 8) rfl rfl (ox_move (v := (.int .i64 ((x : Int).tmod n))) rfl ?_)
  refine xl_op (P := Try.prog) (some 9) rfl rfl (ox_lss (k := .i64) (a := ((x : Int).tmod n)) (b := 0) rfl rfl ?_)
  refine xl_nil ?_
  refine xc_if (p := ((x : Int).tmod n : Int) < 0) rfl (fun h1 => ?_) (fun h1 => ?_)
  · skip
    refine xc_region ?_
    refine xl_op (P := Try.prog) (some 10) rfl rfl (ox_move (v := (.int .i64 ((x : Int).tmod n))) rfl ?_)
    refine xl_op (P := Try.prog) (some 11) rfl rfl (ox_move (v := (.int .i64 n)) rfl ?_)
    refine xl_op (P := Try.prog) (some 12) rfl rfl (ox_add64 (a := ((x : Int).tmod n)) (b := n) rfl rfl (by omega) ?_)
    refine xl_op (P := Try.prog) (some 0) rfl rfl (ox_assign (v := (.int .i64 ((x : Int).tmod n + n))) rfl ?_)
    refine xl_nil ?_
    refine xc_seq ?_
    refine xc_region ?_
    refine xl_op (P := Try.prog) (some 13) rfl rfl (ox_move (v := (.int .i64 ((x : Int).tmod n + n))) rfl ?_)
    refine xl_op (P := Try.prog) (some 4) rfl rfl (ox_assign (v := (.int .i64 ((x : Int).tmod n + n))) rfl ?_)
    refine xl_nil ?_
    refine xc_ret ?_
    change leaves _ _ _ _ _ _ _
    refine leaves_nil (n := 14) (rs := [.tmp 4]) (vs := [(.int .i64 ((x : Int).tmod n + n))]) rfl ⟨⟨by decide, rfl⟩, trivial⟩ ?_
    exact ⟨congrArg (Value.int .i64) (by omega), rfl⟩
  · skip
    refine xc_skip ?_
    refine xc_seq ?_
    refine xc_region ?_
    refine xl_op (P := Try.prog) (some 13) rfl rfl (ox_move (v := (.int .i64 ((x : Int).tmod n))) rfl ?_)
    refine xl_op (P := Try.prog) (some 4) rfl rfl (ox_assign (v := (.int .i64 ((x : Int).tmod n))) rfl ?_)
    refine xl_nil ?_
    refine xc_ret ?_
    change leaves _ _ _ _ _ _ _
    refine leaves_nil (n := 14) (rs := [.tmp 4]) (vs := [(.int .i64 ((x : Int).tmod n))]) rfl ⟨⟨by decide, rfl⟩, trivial⟩ ?_
    exact ⟨congrArg (Value.int .i64) (by omega), rfl⟩

theorem turned_calls (l : List Ed) (A : Option Addr) (c : Nat) (w : World) (hA : RowA w A (edC l)) (hn : l.length * 40 ≤ 140737488351232) :
    Calls Try.prog 22 #[(.slice A l.length c)] w (Ret (fun v w' => ∃ A' c', v = .slice A' l.length c' ∧ Vx.Own w' 59 3 (.slice A' l.length c') l.length (edC l.reverse) ∧ (∀ k, (Value.slice A' l.length c').ownBlock = some k → w.heap.size ≤ k) ∧ Ext w w')) := by
  refine calls_xc (n := 20) (f := fun s_ => [(.slice A l.length c)].getD s_ undef) Try.func22 rfl rfl (by simp) (fun s_ => by simp) ?_
  refine xc_seq ?_
  refine xc_region ?_
  refine xl_op (P := Try.prog) (some 2) rfl rfl (ox_assign (v := (.slice none 0 0)) rfl ?_)
  refine xl_nil ?_
  refine xc_seq ?_
  refine xc_region ?_
  refine xl_op (P := Try.prog) (some 3) rfl rfl (ox_assign (v := (.slice none 0 0)) rfl ?_)
  refine xl_nil ?_
  refine xc_seq ?_
  refine xc_seq ?_
  refine xc_region ?_
  refine xl_op (P := Try.prog) (some 5) rfl rfl (ox_move (v := (.slice A l.length c)) rfl ?_)
  refine xl_op (P := Try.prog) (some 6) rfl rfl (ox_len (A := A) (n := l.length) (cp := c) rfl tU_43 rfl ?_)
  refine xl_op (P := Try.prog) (some 7) rfl rfl (ox_sub64 (a := (((l.length : Nat) : Int))) (b := 1) rfl rfl (by omega) ?_)
  refine xl_op (P := Try.prog) (some 4) rfl rfl (ox_assign (v := (.int .i64 (((l.length : Nat) : Int) - 1))) rfl ?_)
  refine xl_nil ?_
  refine xc_block ?_
  refine xc_loopN (fun m f W => ∃ (j : Nat) (Ao : Option Addr) (co : Nat), m = l.length - j ∧ j ≤ l.length ∧ f 0 = (.slice A l.length c) ∧ f 3 = (.slice Ao j co) ∧ f 4 = (.int .i64 (((l.length : Nat) : Int) - 1 - (j : Nat))) ∧ Vx.Own W 59 3 (.slice Ao j co) j (edC (l.reverse.take j)) ∧ (∀ k, ((.slice Ao j co) : Value).ownBlock = some k → w.heap.size ≤ k) ∧ Ext w W) (l.length) ?_ ?_
  · exact ⟨0, none, 0, by omega, by omega, rfl, rfl, (by first | exact rfl | exact (congrArg (Value.int .i64) (by omega))), (Vx.Own.nil _ _ _), (by simp [Value.ownBlock]), (Chg.refl _ _)⟩
  · rintro m f1 w1 ⟨j, Ao, co, hm, hj, g0_f1, g3_f1, g4_f1, o_f1, lo_f1, e_f1⟩
    have hzE := e_f1.size
    refine xc_seq ?_
    refine xc_seq ?_
    refine xc_region ?_
    refine xl_op (P := Try.prog) (some 8) rfl rfl (ox_move (v := (.int .i64 (((l.length : Nat) : Int) - 1 - (j : Nat)))) g4_f1 ?_)
    refine xl_op (P := Try.prog) (some 9) rfl rfl (ox_geq (k := .i64) (a := (((l.length : Nat) : Int) - 1 - (j : Nat))) (b := 0) rfl rfl ?_)
    refine xl_nil ?_
    refine xc_if (p := (0 : Int) ≤ (((l.length : Nat) : Int) - 1 - (j : Nat))) rfl (fun h1 => ?_) (fun h1 => ?_)
    · skip
      have hjl : j < l.length := by omega
      obtain ⟨e, he⟩ := get_ex (l := l) (i := l.length - 1 - j) (by omega)
      obtain ⟨g, o, rfl⟩ := hA.ex (by intro hh; cases l with | nil => simp at he | cons q l => simp [edC, Ed.cs] at hh)
      have hce : CellsL w1 g (o + (l.length - 1 - j) * 3) e.cs := CellsL.keep e_f1 not_false (cellsL_flat Ed.cs 3 (fun _ => rfl) hA.cells he)
      refine xc_skip ?_
      refine xc_seq ?_
      refine xc_block ?_
      refine xc_region ?_
      refine xl_op (P := Try.prog) (some 12) rfl rfl (ox_move (v := (.slice Ao j co)) g3_f1 ?_)
      refine xl_op (P := Try.prog) (some 13) rfl rfl (ox_move (v := (.slice (some ⟨g, o, none⟩) l.length c)) g0_f1 ?_)
      refine xl_op (P := Try.prog) (some 14) rfl rfl (ox_move (v := (.int .i64 (((l.length : Nat) : Int) - 1 - (j : Nat)))) g4_f1 ?_)
      refine xl_op (P := Try.prog) (some 15) rfl rfl (ox_indexAddr (b := g) (o := o) (i := (((l.length : Nat) : Int) - 1 - (j : Nat))) tE_43 rfl rfl (by omega) (by omega) ?_)
      refine xl_op (P := Try.prog) (some 16) rfl rfl (ox_loadN (vs := [(.int .i64 e.pl), (.int .i64 e.del), (.slice e.A e.n e.c)]) tA_59 tS_59 rfl rfl (by rw [show o + (((l.length : Nat) : Int) - 1 - (j : Nat)).toNat * 3 = o + (l.length - 1 - j) * 3 by omega]; exact hce) ?_)
      refine xl_op (P := Try.prog) (some 17) rfl rfl (ox_mkSlice (ps := [(0, (.agg #[(.int .i64 e.pl), (.int .i64 e.del), (.slice e.A e.n e.c)]))]) (zs := #[(.int .i64 0), (.int .i64 0), (.slice none 0 0)]) (cs := #[(.int .i64 e.pl), (.int .i64 e.del), (.slice e.A e.n e.c)]) tE_43 rfl (by decide) (by kernel_rfl) (by kernel_rfl) ?_)
      intro w2 e1 z1 b1
      replace b1 : Blk w2 w1.heap.size #[(.int .i64 e.pl), (.int .i64 e.del), (.slice e.A e.n e.c)] 59 := b1
      refine xl_op (P := Try.prog) (some 18) rfl rfl (ox_append (n := j) (g := w1.heap.size) (o := 0) (m := 1) (xs := ((edC (l.reverse.take j)))) (news := ([(.int .i64 e.pl), (.int .i64 e.del), (.slice e.A e.n e.c)])) rfl tE_43 rfl (by decide) (v := (.slice Ao j co)) rfl rfl (o_f1.ext e1) rfl b1.all rfl (by omega) (by omega) ?_)
      intro v1 w3 o1 e2 at1 nil1
      have he2 := e2.size
      obtain ⟨A1, c1, rfl, hc1⟩ := o1.shape
      have low1 : ∀ _k, (Value.slice A1 (j + 1) c1).ownBlock = some _k → w.heap.size ≤ _k := fun _k _h => by rcases at1 with _e | _e <;> rw [_e] at _h; exact lo_f1 _k _h; exact (by cases _h; omega)
      refine xl_op (P := Try.prog) (some 3) rfl rfl (ox_assign (v := (.slice A1 (j + 1) c1)) rfl ?_)
      refine xl_nil ?_
      refine xc_region ?_
      refine xl_op (P := Try.prog) (some 10) rfl rfl (ox_move (v := (.int .i64 (((l.length : Nat) : Int) - 1 - (j : Nat)))) g4_f1 ?_)
      refine xl_op (P := Try.prog) (some 11) rfl rfl (ox_sub64 (a := (((l.length : Nat) : Int) - 1 - (j : Nat))) (b := 1) rfl rfl (by omega) ?_)
      refine xl_op (P := Try.prog) (some 4) rfl rfl (ox_assign (v := (.int .i64 (((l.length : Nat) : Int) - 1 - (j : Nat) - 1))) rfl ?_)
      refine xl_nil ?_
      have ho9 := o1
      have hsz0 := e1.size
      have hsz1 := e2.size
      have htk : l.reverse.take (j + 1) = l.reverse.take j ++ [e] := take_succ' (by rw [List.getElem?_reverse (by omega)]; exact he)
      exact ⟨rfl, l.length - (j + 1), by omega, j + 1, A1, c1, by omega, by omega, g0_f1, rfl, (by first | exact rfl | exact (congrArg (Value.int .i64) (by omega))), (by rw [htk, edC, List.flatMap_append]; simpa [Ed.cs, edC] using ho9), (fun k hk => low1 k (ownBlock_len hk)), (Chg.trans (Ext.trans e_f1 e1) e2 (fun b hb hl => absurd hl (by have := lo_f1 b hb; omega)))⟩
    · skip
      refine xc_exit ?_
      refine xc_seq ?_
      refine xc_region ?_
      refine xl_op (P := Try.prog) (some 19) rfl rfl (ox_move (v := (.slice Ao j co)) g3_f1 ?_)
      refine xl_op (P := Try.prog) (some 2) rfl rfl (ox_assign (v := (.slice Ao j co)) rfl ?_)
      refine xl_nil ?_
      refine xc_ret ?_
      change leaves _ _ _ _ _ _ _
      refine leaves_nil (n := 20) (rs := [.tmp 2]) (vs := [(.slice Ao j co)]) rfl ⟨⟨by decide, rfl⟩, trivial⟩ ?_
      have hjl : j = l.length := by omega
      rw [hjl] at o_f1 lo_f1
      rw [List.take_of_length_le (by simp)] at o_f1
      exact ⟨Ao, co, by rw [hjl]; rfl, o_f1, lo_f1, e_f1⟩

end Go.Proofs.Ythhbnodnpajljaa
