/-
  Small functions of the packages delta and tree: what each call comes to. No conditions.
-/
import Derived.Test.YthhbnodnpajljaaVxi
import Derived.Test.YthhbnodnpajljaaRows
import Derived.Test.YthhbnodnpajljaaVxg
import Derived.Test.YthhbnodnpajljaaRows
set_option linter.unusedVariables false
set_option linter.unusedSimpArgs false
set_option maxRecDepth 100000
set_option maxHeartbeats 4000000
namespace Go.Proofs.Ythhbnodnpajljaa
open Go Go.RowKit Go.Vx


theorem hmix : Try.prog.follows .mixedOrders = true := by kernel_rfl

theorem large_calls (a : Int) (w : World)  :
    Calls Try.prog 49 #[(.int .i64 a)] w (Ret (fun v w' => v = .bool (decide (a < 0 ∨ 262144 < a)) ∧ w = w')) := by
  refine calls_xc (n := 9) (f := fun s_ => [(.int .i64 a)].getD s_ undef) Try.func49 rfl rfl (by simp) (fun s_ => by simp) ?_
  refine xc_seq ?_
  refine xc_region ?_
  refine xl_op (P := Try.prog) (some 2) rfl rfl (ox_assign (v := (.bool false)) rfl ?_)
  refine xl_nil ?_
  refine xc_seq ?_
  refine xc_region ?_
  refine xl_op (P := Try.prog) (some 3) rfl rfl (ox_move (v := (.int .i64 a)) rfl ?_)
  refine xl_op (P := Try.prog) (some 4) rfl rfl (ox_lss (k := .i64) (a := a) (b := 0) rfl rfl ?_)
  refine xl_op (P := Try.prog) (some 5) rfl rfl (ox_move (v := (.bool (decide ((a : Int) < 0)))) rfl ?_)
  refine xl_may (P := Try.prog) (some 6) (j := 2) (b := false) (((decide ((a : Int) < 0))) = false) (.bool (decide ((a : Int) < 0))) (.int .i64 a) rfl rfl rfl (may_b ((decide ((a : Int) < 0))) false) (fun hp => ox_move (v := (.int .i64 a)) rfl ⟨rfl, rfl⟩) ?_
  refine xl_may (P := Try.prog) (some 7) (j := 2) (b := false) (((decide ((a : Int) < 0))) = false) (.bool (decide ((a : Int) < 0))) (.bool (decide ((262144 : Int) < a))) rfl rfl rfl (may_b ((decide ((a : Int) < 0))) false) (fun hp => ox_gtr (k := .i64) (a := a) (b := 262144) (if_pos (α := Value) (t := (.int .i64 a)) (e := undef) hp) rfl ⟨rfl, rfl⟩) ?_
  refine xl_op (P := Try.prog) (some 8) rfl rfl (ox_pick_or (a := ((decide ((a : Int) < 0)))) (b := ((decide ((262144 : Int) < a)))) rfl rfl (fun ha => (if_pos (α := Value) (t := (.bool (decide ((262144 : Int) < a)))) (e := undef) ha)) ?_)
  refine xl_op (P := Try.prog) (some 2) rfl rfl (ox_assign (v := (.bool (((decide ((a : Int) < 0))) || ((decide ((262144 : Int) < a)))))) rfl ?_)
  refine xl_nil ?_
  refine xc_ret ?_
  change leaves _ _ _ _ _ _ _
  refine leaves_nil (n := 9) (rs := [.tmp 2]) (vs := [(.bool (((decide ((a : Int) < 0))) || ((decide ((262144 : Int) < a)))))]) rfl ⟨⟨by decide, rfl⟩, trivial⟩ ?_
  exact ⟨by simp [one, *], rfl⟩

theorem bytes_calls (a : Int) (w : World)  :
    Calls Try.prog 65 #[(.int .i64 a)] w (Ret (fun v w' => v = .int .i64 (if a < 0 ∨ 262144 < a then 0 else a) ∧ w = w')) := by
  refine calls_xc (n := 10) (f := fun s_ => [(.int .i64 a)].getD s_ undef) Try.func65 rfl rfl (by simp) (fun s_ => by simp) ?_
  refine xc_seq ?_
  refine xc_region ?_
  refine xl_op (P := Try.prog) (some 2) rfl rfl (ox_assign (v := (.int .i64 0)) rfl ?_)
  refine xl_nil ?_
  refine xc_seq ?_
  refine xc_seq ?_
  refine xc_region ?_
  refine xl_op (P := Try.prog) (some 3) rfl rfl (ox_move (v := (.int .i64 a)) rfl ?_)
  refine xl_op (P := Try.prog) (some 4) rfl rfl (ox_lss (k := .i64) (a := a) (b := 0) rfl rfl ?_)
  refine xl_op (P := Try.prog) (some 5) rfl rfl (ox_move (v := (.bool (decide ((a : Int) < 0)))) rfl ?_)
  refine xl_may (P := Try.prog) (some 6) (j := 2) (b := false) (((decide ((a : Int) < 0))) = false) (.bool (decide ((a : Int) < 0))) (.int .i64 a) rfl rfl rfl (may_b ((decide ((a : Int) < 0))) false) (fun hp => ox_move (v := (.int .i64 a)) rfl ⟨rfl, rfl⟩) ?_
  refine xl_may (P := Try.prog) (some 7) (j := 2) (b := false) (((decide ((a : Int) < 0))) = false) (.bool (decide ((a : Int) < 0))) (.bool (decide ((262144 : Int) < a))) rfl rfl rfl (may_b ((decide ((a : Int) < 0))) false) (fun hp => ox_gtr (k := .i64) (a := a) (b := 262144) (if_pos (α := Value) (t := (.int .i64 a)) (e := undef) hp) rfl ⟨rfl, rfl⟩) ?_
  refine xl_op (P := Try.prog) (some 8) rfl rfl (ox_pick_or (a := ((decide ((a : Int) < 0)))) (b := ((decide ((262144 : Int) < a)))) rfl rfl (fun ha => (if_pos (α := Value) (t := (.bool (decide ((262144 : Int) < a)))) (e := undef) ha)) ?_)
  refine xl_nil ?_
  refine xc_cond (b := (((decide ((a : Int) < 0))) || ((decide ((262144 : Int) < a))))) rfl (fun h1 => ?_) (fun h1 => ?_)
  · skip
    have h1' := h1
    try simp only [Bool.or_eq_true, Bool.and_eq_true, decide_eq_true_eq, Bool.or_eq_false_iff, Bool.and_eq_false_iff, decide_eq_false_iff_not, Bool.not_eq_true', Bool.not_eq_false'] at h1'
    refine xc_seq ?_
    refine xc_region ?_
    refine xl_op (P := Try.prog) (some 2) rfl rfl (ox_assign (v := (.int .i64 0)) rfl ?_)
    refine xl_nil ?_
    refine xc_ret ?_
    change leaves _ _ _ _ _ _ _
    refine leaves_nil (n := 10) (rs := [.tmp 2]) (vs := [(.int .i64 0)]) rfl ⟨⟨by decide, rfl⟩, trivial⟩ ?_
    exact ⟨by simp [one, *], rfl⟩
  · skip
    have h1' := h1
    try simp only [Bool.or_eq_true, Bool.and_eq_true, decide_eq_true_eq, Bool.or_eq_false_iff, Bool.and_eq_false_iff, decide_eq_false_iff_not, Bool.not_eq_true', Bool.not_eq_false'] at h1'
    refine xc_skip ?_
    refine xc_seq ?_
    refine xc_region ?_
    refine xl_op (P := Try.prog) (some 9) rfl rfl (ox_move (v := (.int .i64 a)) rfl ?_)
    refine xl_op (P := Try.prog) (some 2) rfl rfl (ox_assign (v := (.int .i64 a)) rfl ?_)
    refine xl_nil ?_
    refine xc_ret ?_
    change leaves _ _ _ _ _ _ _
    refine leaves_nil (n := 10) (rs := [.tmp 2]) (vs := [(.int .i64 a)]) rfl ⟨⟨by decide, rfl⟩, trivial⟩ ?_
    exact ⟨by simp [one, *], rfl⟩

end Go.Proofs.Ythhbnodnpajljaa
