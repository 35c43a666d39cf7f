/-
  DeltaBook returns true for every input: lists that are told are the caller's own; written over and grown they stay apart, and what is told behind is as it must be. No conditions.
-/
import Derived.Test.YthhbnodnpajljaaRgc
import Derived.Test.YthhbnodnpajljaaMc
import Derived.WalkKit
import Derived.ProofKit
import Derived.OpenShut
import Derived.ShutString
import Derived.ChangeOld
import Derived.Below
import Derived.SizedLaws
import Derived.Carry
set_option linter.unusedVariables false
namespace Go.Proofs.Ythhbnodnpajljaa.deltaBook
open Go.ChangeShapes Go.WideShapes Go.ChangeAt Go.RowKit Go.Vx
theorem own : ownKnob Try.prog.godebug = none := by kernel_rfl
theorem laidOut : laidOutB Try.prog = true := by kernel_rfl
set_option maxRecDepth 100000 in
set_option maxHeartbeats 2000000 in
theorem lifted (os : Os) (started : os.Started) (H : Type) (enc : TypeId × Value → H) :
    ReturnsInHanded {} Try.checked os 8 .any (Rows.deltaBookSpec.pre6 enc Try.prog Try.f8 Rows.deltaBookRow.domain false) (Rows.deltaBookSpec.post enc Try.prog Try.f8 false true false false) := by
  refine returnsInHanded_of_change_sized (C := Try.checked) own started (by kernel_rfl) Try.func8
    (ChangeSpec.witness6 (enc := enc) (C := Try.checked) false ⟨#[], #[.slice none 0 0, .slice none 0 0], []⟩ 8 (by kernel_rfl) (by kernel_rfl) (by kernel_rfl) (by kernel_rfl)) ?_
  intro W base args ds gs before hval0 hW hcnd hsz0 _
  have hsz : (DataW.weightsEach Try.prog (Try.f8.params.toList ++ Rows.deltaBookSpec.plain.varTypes Try.prog) (ds ++ gs)).all (· ≤ reachBytes) = true := hsz0
  have hval : ∀ (j : Nat) t v, Try.f8.params[j]? = some t → args[j]? = some v → Value.okWide Try.prog W .any base t v := hval0
  have hW' := hW
  obtain ⟨p, q, hA0, hV, rfl, hfz, hnd⟩ := hW
  have hA : DataW.TrodAll enc Try.prog W 0 (fun _ => true) true Try.f8.params.toList args.toList ds p := hA0
  rw [Try.params8] at hA hval hsz
  obtain ⟨v0, vs0, d0, ds0, p0, q0, hargs, rfl, rfl, h0, r0⟩ := trodAll_cons hA
  obtain ⟨v1, vs1, d1, ds1, p1, q1, rfl, rfl, rfl, h1, r1⟩ := trodAll_cons r0
  obtain ⟨rfl, rfl, rfl⟩ := trodAll_nil r1
  obtain rfl : args = #[v0, v1] := by cases args; simp_all
  obtain ⟨rfl, rfl⟩ := trodVars_none hV
  have k0 := h0
  have lt0 : ∀ x ∈ p0, x.block < W.heap.size := by obtain ⟨m, hm⟩ := k0; exact DataW.trod_lt m _ _ _ hm
  obtain ⟨n0, rd0⟩ := rdv_arg (j := 0) hsz rfl rfl h0
  obtain ⟨b0, len0, c0, rfl⟩ := okWide_slice Try.underlying22 (hval 0 22 v0 rfl rfl)
  obtain ⟨A0, cap0, l0, hcs0, hAn0, hlc0, hcm0, hcb0, hrow0, hQ0⟩ := rd_parts Try.underlying22 rd0
  obtain ⟨rfl, rfl, rfl⟩ : A0 = b0 ∧ l0.length = len0 ∧ cap0 = c0 := by have h := hcs0; simp [Value.cells] at h; exact ⟨h.1.symm, h.2.1.symm, h.2.2.symm⟩
  have k1 := h1
  have lt1 : ∀ x ∈ p1, x.block < W.heap.size := by obtain ⟨m, hm⟩ := k1; exact DataW.trod_lt m _ _ _ hm
  obtain ⟨n1, rd1⟩ := rdv_arg (j := 1) hsz rfl rfl h1
  obtain ⟨b1, len1, c1, rfl⟩ := okWide_slice Try.underlying23 (hval 1 23 v1 rfl rfl)
  obtain ⟨A1, cap1, l1, hcs1, hAn1, hlc1, hcm1, hcb1, hrow1, hQ1⟩ := rd_pairs Try.underlying23 rd1
  obtain ⟨rfl, rfl, rfl⟩ : A1 = b1 ∧ l1.length = len1 ∧ cap1 = c1 := by have h := hcs1; simp [Value.cells] at h; exact ⟨h.1.symm, h.2.1.symm, h.2.2.symm⟩
  clear hA0 hval0 hsz0
  refine Calls.mono (deltaBook_calls l0 A0 cap0 l1 A1 cap1 W hrow0 (by omega) hQ0 hrow1 (by omega)) ?_
  rintro e W' ⟨v, rfl, rfl, he⟩
  have bel := ext_below he
  exact ⟨_, rfl, _, _, _, [], _, [], hW', trodAll_mk1 (shut_bool Try.underlying4 _), (trodAll_cons_mk (Below.trod laidOut (by kernel_rfl) (of_decide_eq_true (by kernel_rfl)) k0 bel lt0) (trodAll_cons_mk (Below.trod laidOut (by kernel_rfl) (of_decide_eq_true (by kernel_rfl)) k1 bel lt1) trodAll_mk0)), rfl, bel.frame _, fun h => by cases h⟩
theorem over : Rows.deltaBookRow.holds Try.pinned (OpenSpec.ofChange Rows.deltaBookSpec) :=
  OpenClaim.holds_of_wide 8 Try.f8 rfl rfl rfl rfl rfl rfl rfl ⟨rfl, rfl, rfl, rfl, rfl⟩ rfl rfl rfl rfl rfl (by kernel_rfl) Try.func8 (by kernel_rfl)
    (of_decide_eq_true (by kernel_rfl)) (by unfold Func.isWrapper; first | (rw [if_pos (by decide +kernel)]; kernel_rfl) | (rw [if_neg (by decide +kernel)]; exact ⟨rfl, rfl⟩))
    (fun os started H enc _ => lifted os started H enc)
/-- The statement. -/
theorem proved : Rows.DeltaBookSaid := over
#print axioms proved
end Go.Proofs.Ythhbnodnpajljaa.deltaBook
