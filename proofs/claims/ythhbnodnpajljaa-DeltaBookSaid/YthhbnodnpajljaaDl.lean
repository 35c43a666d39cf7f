/-
  The inner function of delta.part. No conditions.
-/
import Derived.Test.YthhbnodnpajljaaVxi
import Derived.Test.YthhbnodnpajljaaRows
import Derived.Test.YthhbnodnpajljaaDhk
set_option linter.unusedVariables false
set_option linter.unusedSimpArgs false
set_option maxRecDepth 100000
set_option maxHeartbeats 4000000
namespace Go.Proofs.Ythhbnodnpajljaa
open Go Go.RowKit Go.Vx


theorem tA_34 : isAggT Try.prog 34 = some false := by kernel_rfl
theorem tE_34 : sliceT Try.prog 34 = some (40, 4, 32, (.agg #[(.int .i64 0), (.int .i64 0), (.int .i64 0), (.int .i64 0)])) := by kernel_rfl
theorem tP_40 : placesT Try.prog 40 = some #[(0, 1), (1, 1), (2, 1), (3, 1)] := by kernel_rfl
theorem tS_3 : sizeT Try.prog 3 = some 1 := by kernel_rfl
theorem tS_34 : sizeT Try.prog 34 = some 1 := by kernel_rfl
theorem tZ_40 : zeroOf Try.prog 40 = some (.agg #[(.int .i64 0), (.int .i64 0), (.int .i64 0), (.int .i64 0)]) := by kernel_rfl

theorem upto_calls (bf bi bo : Nat) (frm into to up : Int) (out : List Hk) (A : Option Addr) (cp : Nat) (w : World) (hf : Blk w bf #[.int .i64 frm] 3) (hi : Blk w bi #[.int .i64 into] 3) (hne : bf ≠ bi) (ho : Blk w bo #[.slice A out.length cp] 34) (hw : Vx.Own w 40 4 (.slice A out.length cp) out.length (hkC out)) (hr : 0 ≤ to ∧ to ≤ 4194304 ∧ 0 ≤ up ∧ up ≤ 4194304 ∧ out.length ≤ 4194304) :
    Calls Try.prog 68 #[(.int .i64 to), (.int .i64 up), (.pointer (some ⟨bf, 0, none⟩)), (.pointer (some ⟨bi, 0, none⟩)), (.pointer (some ⟨bo, 0, none⟩))] w (Ret (fun v w' => ∃ A' cp', Blk w' bf #[.int .i64 (to + 1)] 3 ∧ Blk w' bi #[.int .i64 (up + 1)] 3 ∧ Blk w' bo #[.slice A' (hadd (frm, into, out) to up).2.2.length cp'] 34 ∧ Vx.Own w' 40 4 (.slice A' (hadd (frm, into, out) to up).2.2.length cp') (hadd (frm, into, out) to up).2.2.length (hkC (hadd (frm, into, out) to up).2.2) ∧ (∀ k, (Value.slice A' (hadd (frm, into, out) to up).2.2.length cp').ownBlock = some k → (Value.slice A out.length cp).ownBlock = some k ∨ w.heap.size ≤ k) ∧ Chg (fun b => (b = bf ∨ b = bi ∨ b = bo) ∨ (Value.slice A out.length cp).ownBlock = some b) w w')) := by
  refine calls_xc (n := 27) (f := fun s_ => [(.int .i64 to), (.int .i64 up), (.pointer (some ⟨bf, 0, none⟩)), (.pointer (some ⟨bi, 0, none⟩)), (.pointer (some ⟨bo, 0, none⟩))].getD s_ undef) Try.func68 rfl rfl (by simp) (fun s_ => by simp) ?_
  refine xc_seq ?_
  refine xc_seq ?_
  refine xc_region ?_
  refine xl_op (P := Try.prog) (some 7) rfl rfl (ox_move (v := (.int .i64 to)) rfl ?_)
  refine xl_op (P := Try.prog) (some 8) rfl rfl (ox_load (v := (.int .i64 frm)) tA_3 rfl (hf.cell rfl) ?_)
  refine xl_op (P := Try.prog) (some 9) rfl rfl (ox_gtr (k := .i64) (a := to) (b := frm) rfl rfl ?_)
  refine xl_op (P := Try.prog) (some 10) rfl rfl (ox_move (v := (.bool (decide ((frm : Int) < to)))) rfl ?_)
  refine xl_may (P := Try.prog) (some 11) (j := 3) (b := false) (((decide ((frm : Int) < to))) = false) (.bool (decide ((frm : Int) < to))) (.int .i64 up) rfl rfl rfl (may_b ((decide ((frm : Int) < to))) false) (fun hp => ox_move (v := (.int .i64 up)) rfl ⟨rfl, rfl⟩) ?_
  refine xl_may (P := Try.prog) (some 12) (j := 3) (b := false) (((decide ((frm : Int) < to))) = false) (.bool (decide ((frm : Int) < to))) (.int .i64 into) rfl rfl rfl (may_b ((decide ((frm : Int) < to))) false) (fun hp => ox_load (v := (.int .i64 into)) tA_3 rfl (hi.cell rfl) ⟨rfl, rfl⟩) ?_
  refine xl_may (P := Try.prog) (some 13) (j := 3) (b := false) (((decide ((frm : Int) < to))) = false) (.bool (decide ((frm : Int) < to))) (.bool (decide ((into : Int) < up))) rfl rfl rfl (may_b ((decide ((frm : Int) < to))) false) (fun hp => ox_gtr (k := .i64) (a := up) (b := into) (if_pos (α := Value) (t := (.int .i64 up)) (e := undef) hp) (if_pos (α := Value) (t := (.int .i64 into)) (e := undef) hp) ⟨rfl, rfl⟩) ?_
  refine xl_op (P := Try.prog) (some 14) rfl rfl (ox_pick_or (a := ((decide ((frm : Int) < to)))) (b := ((decide ((into : Int) < up)))) rfl rfl (fun ha => (if_pos (α := Value) (t := (.bool (decide ((into : Int) < up)))) (e := undef) ha)) ?_)
  refine xl_nil ?_
  refine xc_cond (b := (((decide ((frm : Int) < to))) || ((decide ((into : Int) < up))))) rfl (fun h1 => ?_) (fun h1 => ?_)
  · skip
    have h1' := h1
    try simp only [Bool.or_eq_true, Bool.and_eq_true, decide_eq_true_eq, Bool.or_eq_false_iff, Bool.and_eq_false_iff, decide_eq_false_iff_not, Bool.not_eq_true', Bool.not_eq_false'] at h1'
    refine xc_region ?_
    refine xl_op (P := Try.prog) (some 15) rfl rfl (ox_load (v := (.slice A out.length cp)) tA_34 rfl (ho.cell rfl) ?_)
    refine xl_op (P := Try.prog) (some 16) rfl rfl (ox_load (v := (.int .i64 frm)) tA_3 rfl (hf.cell rfl) ?_)
    refine xl_op (P := Try.prog) (some 17) rfl rfl (ox_move (v := (.int .i64 to)) rfl ?_)
    refine xl_op (P := Try.prog) (some 18) rfl rfl (ox_load (v := (.int .i64 into)) tA_3 rfl (hi.cell rfl) ?_)
    refine xl_op (P := Try.prog) (some 19) rfl rfl (ox_move (v := (.int .i64 up)) rfl ?_)
    refine xl_op (P := Try.prog) (some 20) rfl rfl (ox_mkStruct (ps := [(0, (.int .i64 frm)), (1, (.int .i64 to)), (2, (.int .i64 into)), (3, (.int .i64 up))]) (cs := #[(.int .i64 frm), (.int .i64 to), (.int .i64 into), (.int .i64 up)]) tZ_40 tP_40 rfl (by kernel_rfl) ?_)
    refine xl_op (P := Try.prog) (some 21) rfl rfl (ox_mkSlice (ps := [(0, (.agg #[(.int .i64 frm), (.int .i64 to), (.int .i64 into), (.int .i64 up)]))]) (zs := #[(.int .i64 0), (.int .i64 0), (.int .i64 0), (.int .i64 0)]) (cs := #[(.int .i64 frm), (.int .i64 to), (.int .i64 into), (.int .i64 up)]) tE_34 rfl (by decide) (by kernel_rfl) (by kernel_rfl) ?_)
    intro w1 e1 z1 b1
    replace b1 : Blk w1 w.heap.size #[(.int .i64 frm), (.int .i64 to), (.int .i64 into), (.int .i64 up)] 40 := b1
    refine xl_op (P := Try.prog) (some 22) rfl rfl (ox_append (n := out.length) (g := w.heap.size) (o := 0) (m := 1) (xs := ((hkC out))) (news := ([(.int .i64 frm), (.int .i64 to), (.int .i64 into), (.int .i64 up)])) rfl tE_34 rfl (by decide) (v := (.slice A out.length cp)) rfl rfl (hw.ext e1) rfl b1.all rfl (by omega) (by omega) ?_)
    intro v1 w2 o1 e2 at1 nil1
    have he2 := e2.size
    obtain ⟨A1, c1, rfl, hc1⟩ := o1.shape
    have low1 : ∀ _k, (Value.slice A1 (out.length + 1) c1).ownBlock = some _k → 0 ≤ _k := fun _k _h => by rcases at1 with _e | _e <;> rw [_e] at _h; exact (fun _k _h => Nat.zero_le _) _k _h; exact (by cases _h; omega)
    have q1 := ((ho.ext e1).keep e2 (fun _h => (hw.ext e1).ne_blk (ho.ext e1) (by decide) _ _h rfl))
    refine xl_op (P := Try.prog) none rfl rfl (ox_store (n := 1) (vs := [(.slice A1 (out.length + 1) c1)]) tS_34 rfl (v := (.slice A1 (out.length + 1) c1)) rfl rfl rfl rfl q1 (Nat.le_of_ble_eq_true rfl) ?_)
    intro w3 e3 z2 b2
    replace b2 : Blk w3 bo #[(.slice A1 (out.length + 1) c1)] 34 := b2
    refine xl_nil ?_
    refine xc_region ?_
    refine xl_op (P := Try.prog) (some 23) rfl rfl (ox_move (v := (.int .i64 to)) rfl ?_)
    refine xl_op (P := Try.prog) (some 24) rfl rfl (ox_add64 (a := to) (b := 1) rfl rfl (by omega) ?_)
    refine xl_op (P := Try.prog) (some 25) rfl rfl (ox_move (v := (.int .i64 up)) rfl ?_)
    refine xl_op (P := Try.prog) (some 26) rfl rfl (ox_add64 (a := up) (b := 1) rfl rfl (by omega) ?_)
    have q2 := ((hf.ext e1).keep e2 (fun _h => (hw.ext e1).ne_blk (hf.ext e1) (by decide) _ _h rfl))
    refine xl_op (P := Try.prog) none rfl rfl (ox_store (n := 1) (vs := [(.int .i64 (to + 1))]) tS_3 rfl (v := (.int .i64 (to + 1))) rfl rfl rfl rfl (q2.keep1 e3 (q2.ne q1 (by decide))) (Nat.le_of_ble_eq_true rfl) ?_)
    intro w4 e4 z3 b3
    replace b3 : Blk w4 bf #[(.int .i64 (to + 1))] 3 := b3
    have q3 := ((hi.ext e1).keep e2 (fun _h => (hw.ext e1).ne_blk (hi.ext e1) (by decide) _ _h rfl))
    have q4 := ((q3.keep1 e3 (q3.ne q1 (by decide))).keep1 e4 hne.symm)
    refine xl_op (P := Try.prog) none rfl rfl (ox_store (n := 1) (vs := [(.int .i64 (up + 1))]) tS_3 rfl (v := (.int .i64 (up + 1))) rfl rfl rfl rfl q4 (Nat.le_of_ble_eq_true rfl) ?_)
    intro w5 e5 z4 b4
    replace b4 : Blk w5 bi #[(.int .i64 (up + 1))] 3 := b4
    refine xl_nil ?_
    change leaves _ _ _ _ _ _ _
    refine leaves_nil (n := 27) (rs := []) (vs := []) rfl trivial ?_
    have q5 := (o1.keep1 e3 (fun k hk => o1.ne_blk q1 (by decide) k hk))
    have q6 := (q5.keep1 e4 (fun k hk => q5.ne_blk (q2.keep1 e3 (q2.ne q1 (by decide))) (by decide) k hk))
    have q7 := (q6.keep1 e5 (fun k hk => q6.ne_blk q4 (by decide) k hk))
    have hown9 := q7
    have q8 := (b3.keep1 e5 (by have _q := b3.lt; omega))
    have hq1 := q8
    have hq2 := b4
    have q9 := (b2.keep1 e4 (b2.ne (q2.keep1 e3 (q2.ne q1 (by decide))) (by decide)))
    have hq3 := (q9.keep1 e5 (q9.ne q4 (by decide)))
    have hif : (hadd (frm, into, out) to up).2.2 = out ++ [⟨frm, to, into, up⟩] := if_pos (show frm < to ∨ into < up by omega)
    have hln : (hadd (frm, into, out) to up).2.2.length = out.length + 1 := by rw [hif]; simp
    refine ⟨A1, c1, hq1, hq2, by rw [hln]; exact hq3, by rw [hln, hif, hkC_snoc]; exact hown9, ?_, (Chg.chg1 (Chg.chg1 (Chg.chg1 (Chg.trans (Chg.ext (Chg.refl (fun b => (b = bf ∨ b = bi ∨ b = bo) ∨ (Value.slice A out.length cp).ownBlock = some b) w) e1) e2 (fun b hb hl => .inr hb)) e3 (.inl (.inl (by simp)))) e4 (.inl (.inl (by simp)))) e5 (.inl (.inl (by simp))))⟩
    rw [hln]; intro k hk; rcases at1 with h9 | h9
    · rw [h9] at hk; exact .inl hk
    · rw [h9] at hk; cases hk; exact .inr (by omega)
  · skip
    have h1' := h1
    try simp only [Bool.or_eq_true, Bool.and_eq_true, decide_eq_true_eq, Bool.or_eq_false_iff, Bool.and_eq_false_iff, decide_eq_false_iff_not, Bool.not_eq_true', Bool.not_eq_false'] at h1'
    refine xc_skip ?_
    refine xc_region ?_
    refine xl_op (P := Try.prog) (some 23) rfl rfl (ox_move (v := (.int .i64 to)) rfl ?_)
    refine xl_op (P := Try.prog) (some 24) rfl rfl (ox_add64 (a := to) (b := 1) rfl rfl (by omega) ?_)
    refine xl_op (P := Try.prog) (some 25) rfl rfl (ox_move (v := (.int .i64 up)) rfl ?_)
    refine xl_op (P := Try.prog) (some 26) rfl rfl (ox_add64 (a := up) (b := 1) rfl rfl (by omega) ?_)
    refine xl_op (P := Try.prog) none rfl rfl (ox_store (n := 1) (vs := [(.int .i64 (to + 1))]) tS_3 rfl (v := (.int .i64 (to + 1))) rfl rfl rfl rfl hf (Nat.le_of_ble_eq_true rfl) ?_)
    intro w6 e6 z5 b5
    replace b5 : Blk w6 bf #[(.int .i64 (to + 1))] 3 := b5
    refine xl_op (P := Try.prog) none rfl rfl (ox_store (n := 1) (vs := [(.int .i64 (up + 1))]) tS_3 rfl (v := (.int .i64 (up + 1))) rfl rfl rfl rfl (hi.keep1 e6 hne.symm) (Nat.le_of_ble_eq_true rfl) ?_)
    intro w7 e7 z6 b6
    replace b6 : Blk w7 bi #[(.int .i64 (up + 1))] 3 := b6
    refine xl_nil ?_
    change leaves _ _ _ _ _ _ _
    refine leaves_nil (n := 27) (rs := []) (vs := []) rfl trivial ?_
    have q10 := (hw.keep1 e6 (fun k hk => hw.ne_blk hf (by decide) k hk))
    have q11 := (q10.keep1 e7 (fun k hk => q10.ne_blk (hi.keep1 e6 hne.symm) (by decide) k hk))
    have hown9 := q11
    have q12 := (b5.keep1 e7 (by have _q := b5.lt; omega))
    have hq1 := q12
    have hq2 := b6
    have q13 := ((ho.keep1 e6 (ho.ne hf (by decide))).keep1 e7 ((ho.keep1 e6 (ho.ne hf (by decide))).ne (hi.keep1 e6 hne.symm) (by decide)))
    have hq3 := q13
    have hif : (hadd (frm, into, out) to up).2.2 = out := if_neg (show ¬ (frm < to ∨ into < up) by omega)
    refine ⟨A, cp, hq1, hq2, by rw [hif]; exact hq3, by rw [hif]; exact hown9, ?_, (Chg.chg1 (Chg.chg1 (Chg.refl (fun b => (b = bf ∨ b = bi ∨ b = bo) ∨ (Value.slice A out.length cp).ownBlock = some b) w) e6 (.inl (.inl (by simp)))) e7 (.inl (.inl (by simp))))⟩
    rw [hif]; exact fun k hk => .inl hk

end Go.Proofs.Ythhbnodnpajljaa
