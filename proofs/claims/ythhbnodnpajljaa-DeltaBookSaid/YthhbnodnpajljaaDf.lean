/-
  slices.Backward of a row of nodes, as an iterator. No conditions.
-/
import Derived.Test.YthhbnodnpajljaaVxi
import Derived.Test.YthhbnodnpajljaaRows
import Derived.Test.YthhbnodnpajljaaDu
import Derived.Test.YthhbnodnpajljaaDa
import Derived.Test.YthhbnodnpajljaaDb
set_option linter.unusedVariables false
set_option linter.unusedSimpArgs false
set_option maxRecDepth 100000
set_option maxHeartbeats 4000000
namespace Go.Proofs.Ythhbnodnpajljaa
open Go Go.RowKit Go.Vx




theorem back_calls (l B bx : Nat) (X : Nat → Prop) (A : Option Addr) (kids : List T) (cp : Nat) (J Jx : List (Nat × T) → (Nat → Prop) → World → Prop) (w : World) (hb : Blk w bx #[.slice A kids.length cp] 28) (hA : RowA w A (kids.map T.ptr)) (hXb : X bx ∨ bx < B) (hXA : ∀ a, A = some a → X a.block ∨ a.block < B) (hX : ∀ b, X b → B ≤ b ∧ b < w.heap.size) (hn : kids.length ≤ 4194304) (hy : IterY Try.prog l encB B (backI kids) J Jx) (h0 : J [] X w) :
    Calls Try.prog 73 #[(.func (.yield l) #[] #[]), (.pointer (some ⟨bx, 0, none⟩))] w (Ret (IterR B (backI kids) J Jx)) := by
  refine calls_xc (n := 19) (f := fun s_ => [(.func (.yield l) #[] #[]), (.pointer (some ⟨bx, 0, none⟩))].getD s_ undef) Try.func73 rfl rfl (by simp) (fun s_ => by simp) ?_
  refine xc_seq ?_
  refine xc_region ?_
  refine xl_op (P := Try.prog) (some 4) rfl rfl (ox_load (v := (.slice A kids.length cp)) tA_28 rfl (hb.cell rfl) ?_)
  refine xl_op (P := Try.prog) (some 5) rfl rfl (ox_len (A := A) (n := kids.length) (cp := cp) rfl tU_28 rfl ?_)
  refine xl_op (P := Try.prog) (some 6) rfl rfl (ox_sub64 (a := (((kids.length : Nat) : Int))) (b := 1) rfl rfl (by omega) ?_)
  refine xl_op (P := Try.prog) (some 3) rfl rfl (ox_assign (v := (.int .i64 (((kids.length : Nat) : Int) - 1))) rfl ?_)
  refine xl_nil ?_
  refine xc_block ?_
  refine xc_loopN (fun m f W => ∃ (j : Nat), m = kids.length - j ∧ j ≤ kids.length ∧ f 0 = (.func (.yield l) #[] #[]) ∧ f 1 = (.pointer (some ⟨bx, 0, none⟩)) ∧ f 3 = (.int .i64 (((kids.length : Nat) : Int) - 1 - (j : Nat))) ∧ Blk W bx #[.slice A kids.length cp] 28 ∧ RowA W A (kids.map T.ptr) ∧ (∀ b, X b → B ≤ b ∧ b < W.heap.size) ∧ J ((backI kids).take j) X W) (kids.length) ?_ ?_
  · exact ⟨0, by omega, by omega, rfl, rfl, (by first | exact rfl | exact (congrArg (Value.int .i64) (by omega))), hb, hA, hX, (by simpa using h0)⟩
  · rintro m f1 w1 ⟨j, hm, hj, g0_f1, g1_f1, g3_f1, b_f1, a_f1, x_f1, i_f1⟩
    have hbl := b_f1.lt
    refine xc_seq ?_
    refine xc_seq ?_
    refine xc_region ?_
    refine xl_op (P := Try.prog) (some 7) rfl rfl (ox_move (v := (.int .i64 (((kids.length : Nat) : Int) - 1 - (j : Nat)))) g3_f1 ?_)
    refine xl_op (P := Try.prog) (some 8) rfl rfl (ox_geq (k := .i64) (a := (((kids.length : Nat) : Int) - 1 - (j : Nat))) (b := 0) rfl rfl ?_)
    refine xl_nil ?_
    refine xc_if (p := (0 : Int) ≤ (((kids.length : Nat) : Int) - 1 - (j : Nat))) rfl (fun h1 => ?_) (fun h1 => ?_)
    · skip
      have hjl : j < kids.length := by omega
      obtain ⟨u, hu⟩ := get_ex (l := kids) (i := kids.length - 1 - j) (by omega)
      have hget := backI_get hjl hu
      have hpf := prefix_take hget
      have htk : (backI kids).take (j + 1) = (backI kids).take j ++ [(kids.length - 1 - j, u)] := take_succ' hget
      obtain ⟨g, o, rfl⟩ := a_f1.ex (by intro hh; rw [List.map_eq_nil_iff] at hh; rw [hh] at hu; simp at hu)
      have hcu := cellsL_get a_f1.cells (i := kids.length - 1 - j) (v := u.ptr) (by simp [hu])
      refine xc_skip ?_
      refine xc_seq ?_
      refine xc_block ?_
      refine xc_seq ?_
      refine xc_region ?_
      refine xl_op (P := Try.prog) (some 11) rfl rfl (ox_move (v := (.func (.yield l) #[] #[])) g0_f1 ?_)
      refine xl_op (P := Try.prog) (some 12) rfl rfl (ox_move (v := (.int .i64 (((kids.length : Nat) : Int) - 1 - (j : Nat)))) g3_f1 ?_)
      refine xl_op (P := Try.prog) (some 13) rfl rfl (ox_load (v := (.slice (some ⟨g, o, none⟩) kids.length cp)) tA_28 g1_f1 (b_f1.cell rfl) ?_)
      refine xl_op (P := Try.prog) (some 14) rfl rfl (ox_move (v := (.int .i64 (((kids.length : Nat) : Int) - 1 - (j : Nat)))) g3_f1 ?_)
      refine xl_op (P := Try.prog) (some 15) rfl rfl (ox_indexAddr (b := g) (o := o) (i := (((kids.length : Nat) : Int) - 1 - (j : Nat))) tE_28 rfl rfl (by omega) (by omega) ?_)
      refine xl_op (P := Try.prog) (some 16) rfl rfl (ox_load (v := (.pointer (some ⟨u.b, 0, none⟩))) tA_36 rfl (by rw [show (((kids.length : Nat) : Int) - 1 - (j : Nat)).toNat * 1 = kids.length - 1 - j by omega]; exact hcu) ?_)
      refine xl_op (P := Try.prog) (some 17) rfl rfl (ox_callY (al := [(.int .i64 (((kids.length : Nat) : Int) - 1 - (j : Nat))), (.pointer (some ⟨u.b, 0, none⟩))]) rfl rfl (yield_b (by have h := hy _ _ X _ hpf x_f1 i_f1; rw [show (encB (kids.length - 1 - j, u)) = #[(.int .i64 (((kids.length : Nat) : Int) - 1 - (j : Nat))), (.pointer (some ⟨u.b, 0, none⟩))] by simp [encB, T.ptr]; omega] at h; exact h) ?_))
      intro β1 w2 hj1 hx1
      refine xl_op (P := Try.prog) (some 18) rfl rfl (ox_not (b := β1) rfl ?_)
      refine xl_nil ?_
      refine xc_cond (b := (!β1)) rfl (fun h2 => ?_) (fun h2 => ?_)
      · skip
        have h2' := h2
        try simp only [Bool.or_eq_true, Bool.and_eq_true, decide_eq_true_eq, Bool.or_eq_false_iff, Bool.and_eq_false_iff, decide_eq_false_iff_not, Bool.not_eq_true', Bool.not_eq_false'] at h2'
        obtain ⟨hjx, hsz⟩ := hx1 (by simpa using h2)
        refine xc_ret ?_
        change leaves _ _ _ _ _ _ _
        refine leaves_nil (n := 19) (rs := []) (vs := []) rfl trivial ?_
        exact ⟨X, fun b hb => by have := x_f1 b hb; have := hsz.size; omega, .inr ⟨_, hpf, hjx⟩⟩
      · skip
        have h2' := h2
        try simp only [Bool.or_eq_true, Bool.and_eq_true, decide_eq_true_eq, Bool.or_eq_false_iff, Bool.and_eq_false_iff, decide_eq_false_iff_not, Bool.not_eq_true', Bool.not_eq_false'] at h2'
        obtain ⟨hji, hmi⟩ := hj1 (by simpa using h2)
        refine xc_skip ?_
        refine xc_region ?_
        refine xl_op (P := Try.prog) (some 9) rfl rfl (ox_move (v := (.int .i64 (((kids.length : Nat) : Int) - 1 - (j : Nat)))) g3_f1 ?_)
        refine xl_op (P := Try.prog) (some 10) rfl rfl (ox_sub64 (a := (((kids.length : Nat) : Int) - 1 - (j : Nat))) (b := 1) rfl rfl (by omega) ?_)
        refine xl_op (P := Try.prog) (some 3) rfl rfl (ox_assign (v := (.int .i64 (((kids.length : Nat) : Int) - 1 - (j : Nat) - 1))) rfl ?_)
        refine xl_nil ?_
        exact ⟨rfl, kids.length - (j + 1), by omega, j + 1, by omega, by omega, g0_f1, g1_f1, (by first | exact rfl | exact (congrArg (Value.int .i64) (by omega))), (b_f1.keep hmi (fun h => hXb.elim h.1 (by have := h.2; omega))), (a_f1.keep hmi (fun a ha h => (hXA a ha).elim h.1 (by have := h.2; omega))), (fun b hb => by have := x_f1 b hb; have := hmi.size; omega), (by rw [htk]; exact hji)⟩
    · skip
      refine xc_exit ?_
      change leaves _ _ _ _ _ _ _
      refine leaves_nil (n := 19) (rs := []) (vs := []) rfl trivial ?_
      exact ⟨X, x_f1, .inl (by rw [List.take_of_length_le (by rw [backI_len]; omega)] at i_f1; exact i_f1)⟩

end Go.Proofs.Ythhbnodnpajljaa
