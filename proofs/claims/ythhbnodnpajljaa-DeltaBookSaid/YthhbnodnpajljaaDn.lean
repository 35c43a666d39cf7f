/-
  delta.Leaves. No conditions.
-/
import Derived.Test.YthhbnodnpajljaaVxi
import Derived.Test.YthhbnodnpajljaaRows
import Derived.Test.YthhbnodnpajljaaDm
set_option linter.unusedVariables false
set_option linter.unusedSimpArgs false
set_option maxRecDepth 100000
set_option maxHeartbeats 4000000
namespace Go.Proofs.Ythhbnodnpajljaa
open Go Go.RowKit Go.Vx


theorem pf_46 : plainF Try.prog 46 = true := by kernel_rfl

theorem dLeaves_calls (stv : Value) (ra rb : T) (w : World) (hPa : PN stv w ra) (hWa : WF ra) (hsa : sz ra ≤ 4194304) (hPb : PN stv w rb) (hWb : WF rb) (hsb : sz rb ≤ 4194304) :
    Calls Try.prog 15 #[(.pointer (some ⟨ra.b, 0, none⟩)), (.pointer (some ⟨rb.b, 0, none⟩))] w (Ret (fun v w' => ∃ A c, v = .slice A (hunks (ids (leafI ra)) (ids (leafI rb))).length c ∧ Vx.Own w' 40 4 (.slice A (hunks (ids (leafI ra)) (ids (leafI rb))).length c) (hunks (ids (leafI ra)) (ids (leafI rb))).length (hkC (hunks (ids (leafI ra)) (ids (leafI rb)))) ∧ (∀ k, (Value.slice A (hunks (ids (leafI ra)) (ids (leafI rb))).length c).ownBlock = some k → w.heap.size ≤ k) ∧ Ext w w')) := by
  refine calls_xc (n := 14) (f := fun s_ => [(.pointer (some ⟨ra.b, 0, none⟩)), (.pointer (some ⟨rb.b, 0, none⟩))].getD s_ undef) Try.func15 rfl rfl (by simp) (fun s_ => by simp) ?_
  refine xc_seq ?_
  refine xc_region ?_
  refine xl_op (P := Try.prog) (some 4) rfl rfl (ox_assign (v := (.slice none 0 0)) rfl ?_)
  refine xl_nil ?_
  refine xc_seq ?_
  refine xc_region ?_
  refine xl_op (P := Try.prog) (some 8) rfl rfl (ox_move (v := (.pointer (some ⟨ra.b, 0, none⟩))) rfl ?_)
  refine xl_op (P := Try.prog) (some 9) rfl rfl (ox_move (v := (.pointer (some ⟨rb.b, 0, none⟩))) rfl ?_)
  refine xl_op (P := Try.prog) (some 10) rfl rfl (ox_callE (al := [(.pointer (some ⟨ra.b, 0, none⟩)), (.pointer (some ⟨rb.b, 0, none⟩))]) pf_46 rfl (ret_mono (part_calls stv ra rb w hPa hWa hsa hPb hWb hsb) ?_))
  rintro _ w1 ⟨A, c, A3, c3, rfl, ho, ho3, hn, hn3, e1⟩
  have he1 := e1.size
  refine xl_op (P := Try.prog) (some 7) rfl rfl (ox_move (v := (.tuple #[(.slice A ((hunks (ids (leafI ra)) (ids (leafI rb))).length) c), (.slice A3 ((leafI rb).length) c3)])) rfl ?_)
  refine xl_op (P := Try.prog) (some 11) rfl rfl (ox_extract (vs := #[(.slice A ((hunks (ids (leafI ra)) (ids (leafI rb))).length) c), (.slice A3 ((leafI rb).length) c3)]) (v := (.slice A ((hunks (ids (leafI ra)) (ids (leafI rb))).length) c)) rfl rfl ?_)
  refine xl_op (P := Try.prog) (some 12) rfl rfl (ox_extract (vs := #[(.slice A ((hunks (ids (leafI ra)) (ids (leafI rb))).length) c), (.slice A3 ((leafI rb).length) c3)]) (v := (.slice A3 ((leafI rb).length) c3)) rfl rfl ?_)
  refine xl_op (P := Try.prog) (some 5) rfl rfl (ox_assign (v := (.slice A ((hunks (ids (leafI ra)) (ids (leafI rb))).length) c)) rfl ?_)
  refine xl_op (P := Try.prog) (some 6) rfl rfl (ox_assign (v := (.slice A3 ((leafI rb).length) c3)) rfl ?_)
  refine xl_nil ?_
  refine xc_seq ?_
  refine xc_region ?_
  refine xl_op (P := Try.prog) (some 13) rfl rfl (ox_move (v := (.slice A ((hunks (ids (leafI ra)) (ids (leafI rb))).length) c)) rfl ?_)
  refine xl_op (P := Try.prog) (some 4) rfl rfl (ox_assign (v := (.slice A ((hunks (ids (leafI ra)) (ids (leafI rb))).length) c)) rfl ?_)
  refine xl_nil ?_
  refine xc_ret ?_
  change leaves _ _ _ _ _ _ _
  refine leaves_nil (n := 14) (rs := [.tmp 4]) (vs := [(.slice A ((hunks (ids (leafI ra)) (ids (leafI rb))).length) c)]) rfl ⟨⟨by decide, rfl⟩, trivial⟩ ?_
  exact ⟨A, c, rfl, ho, hn, e1⟩

end Go.Proofs.Ythhbnodnpajljaa
