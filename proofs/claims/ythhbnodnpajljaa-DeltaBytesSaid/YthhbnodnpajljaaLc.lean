/-
  DeltaBytes returns true for every input: of a text and an edit of it the bytes that stay lie between the moved places beside them; places keep their order; a lesser bias is never behind. No conditions.
-/
import Derived.Test.YthhbnodnpajljaaRdb
import Derived.Test.YthhbnodnpajljaaEe
import Derived.WalkKit
import Derived.ProofKit
import Derived.OpenShut
import Derived.ShutString
import Derived.ChangeOld
import Derived.Below
import Derived.SizedLaws
import Derived.Carry
set_option linter.unusedVariables false
namespace Go.Proofs.Ythhbnodnpajljaa.deltaBytes
open Go.ChangeShapes Go.WideShapes Go.ChangeAt Go.RowKit Go.Vx
theorem own : ownKnob Try.prog.godebug = none := by kernel_rfl
theorem laidOut : laidOutB Try.prog = true := by kernel_rfl
set_option maxRecDepth 100000 in
set_option maxHeartbeats 2000000 in
theorem lifted (os : Os) (started : os.Started) (H : Type) (enc : TypeId × Value → H) :
    ReturnsInHanded {} Try.checked os 6 .any (Rows.deltaBytesSpec.pre6 enc Try.prog Try.f6 Rows.deltaBytesRow.domain false) (Rows.deltaBytesSpec.post enc Try.prog Try.f6 false true false false) := by
  refine returnsInHanded_of_change_sized (C := Try.checked) own started (by kernel_rfl) Try.func6
    (ChangeSpec.witness6 (enc := enc) (C := Try.checked) false ⟨#[], #[.slice none 0 0, .agg #[.int .i64 0, .int .i64 0, .slice none 0 0]], []⟩ 8 (by kernel_rfl) (by kernel_rfl) (by kernel_rfl) (by kernel_rfl)) ?_
  intro W base args ds gs before hval0 hW hcnd hsz0 _
  have hsz : (DataW.weightsEach Try.prog (Try.f6.params.toList ++ Rows.deltaBytesSpec.plain.varTypes Try.prog) (ds ++ gs)).all (· ≤ reachBytes) = true := hsz0
  have hval : ∀ (j : Nat) t v, Try.f6.params[j]? = some t → args[j]? = some v → Value.okWide Try.prog W .any base t v := hval0
  have hW' := hW
  obtain ⟨p, q, hA0, hV, rfl, hfz, hnd⟩ := hW
  have hA : DataW.TrodAll enc Try.prog W 0 (fun _ => true) true Try.f6.params.toList args.toList ds p := hA0
  rw [Try.params6] at hA hval hsz
  obtain ⟨v0, vs0, d0, ds0, p0, q0, hargs, rfl, rfl, h0, r0⟩ := trodAll_cons hA
  obtain ⟨v1, vs1, d1, ds1, p1, q1, rfl, rfl, rfl, h1, r1⟩ := trodAll_cons r0
  obtain ⟨rfl, rfl, rfl⟩ := trodAll_nil r1
  obtain rfl : args = #[v0, v1] := by cases args; simp_all
  obtain ⟨rfl, rfl⟩ := trodVars_none hV
  have k0 := h0
  have lt0 : ∀ x ∈ p0, x.block < W.heap.size := by obtain ⟨m, hm⟩ := k0; exact DataW.trod_lt m _ _ _ hm
  obtain ⟨n0, rd0⟩ := rdv_arg (j := 0) hsz rfl rfl h0
  obtain ⟨b0, len0, c0, rfl⟩ := okWide_slice Try.underlying57 (hval 0 57 v0 rfl rfl)
  obtain ⟨A0, cap0, l0, hcs0, hAn0, hlc0, hcm0, hcb0, hrow0⟩ := rd_bytes Try.underlying57 rd0
  obtain ⟨rfl, rfl, rfl⟩ : A0 = b0 ∧ l0.length = len0 ∧ cap0 = c0 := by have h := hcs0; simp [Value.cells] at h; exact ⟨h.1.symm, h.2.1.symm, h.2.2.symm⟩
  have k1 := h1
  have lt1 : ∀ x ∈ p1, x.block < W.heap.size := by obtain ⟨m, hm⟩ := k1; exact DataW.trod_lt m _ _ _ hm
  obtain ⟨n1, rd1⟩ := rdv_arg (j := 1) hsz rfl rfl h1
  obtain ⟨x1, rfl, hx1⟩ := rd_editv (hval 1 59 v1 rfl rfl) rd1
  clear hA0 hval0 hsz0
  refine Calls.mono (deltaBytes_calls l0 A0 cap0 x1 W hrow0 hlc0 hx1.1 hx1.2.1 hx1.2.2.1 hx1.2.2.2) ?_
  rintro e W' ⟨v, rfl, rfl, he⟩
  have bel := ext_below he
  exact ⟨_, rfl, _, _, _, [], _, [], hW', trodAll_mk1 (shut_bool Try.underlying4 _), (trodAll_cons_mk (Below.trod laidOut (by kernel_rfl) (of_decide_eq_true (by kernel_rfl)) k0 bel lt0) (trodAll_cons_mk (Below.trod laidOut (by kernel_rfl) (of_decide_eq_true (by kernel_rfl)) k1 bel lt1) trodAll_mk0)), rfl, bel.frame _, fun h => by cases h⟩
theorem over : Rows.deltaBytesRow.holds Try.pinned (OpenSpec.ofChange Rows.deltaBytesSpec) :=
  OpenClaim.holds_of_wide 6 Try.f6 rfl rfl rfl rfl rfl rfl rfl ⟨rfl, rfl, rfl, rfl, rfl⟩ rfl rfl rfl rfl rfl (by kernel_rfl) Try.func6 (by kernel_rfl)
    (of_decide_eq_true (by kernel_rfl)) (by unfold Func.isWrapper; first | (rw [if_pos (by decide +kernel)]; kernel_rfl) | (rw [if_neg (by decide +kernel)]; exact ⟨rfl, rfl⟩))
    (fun os started H enc _ => lifted os started H enc)
/-- The statement. -/
theorem proved : Rows.DeltaBytesSaid := over
#print axioms proved
end Go.Proofs.Ythhbnodnpajljaa.deltaBytes
