/-
  The document's search and script; the comparing of two rows of steps. No conditions.
-/
import Derived.Test.YthhbnodnpajljaaVxi
import Derived.Test.YthhbnodnpajljaaRows
import Derived.Test.YthhbnodnpajljaaRgd
import Derived.Test.YthhbnodnpajljaaFc
set_option linter.unusedVariables false
set_option linter.unusedSimpArgs false
set_option maxRecDepth 100000
set_option maxHeartbeats 4000000
namespace Go.Proofs.Ythhbnodnpajljaa
open Go Go.RowKit Go.Vx

def FDp (x : Int) (t : T) (w : World) (v : Value) (w' : World) : Prop := v = .tuple #[.pointer ((findT x t).map fun y => ⟨y.b, 0, none⟩), .bool (findT x t).isSome] ∧ w = w'
def SCp (ra t : T) (w : World) (v : Value) (w' : World) : Prop := ∃ A c, v = .slice A (script (hasR ra) t).length c ∧ Vx.Own w' 88 9 (.slice A (script (hasR ra) t).length c) (script (hasR ra) t).length (opC (script (hasR ra) t)) ∧ (∀ k, (Value.slice A (script (hasR ra) t).length c).ownBlock = some k → w.heap.size ≤ k) ∧ Ext w w'
theorem opC_len (l : List OpD) : (opC l).length = l.length * 9 := by
  induction l with
  | nil => rfl
  | cons o l ih => simp only [opC, List.flatMap_cons, List.length_append, List.length_cons] at ih ⊢; simp only [OpD.cs, List.length_cons, List.length_nil]; omega
theorem opC_one (l : List OpD) : (opC l).all Value.oneCell' = true := by simp [opC, OpD.cs, Value.oneCell']
theorem fS_88 : flatS Try.prog 88 [some .i64, some .i64, some .i64, some .i64, some .i64, some .i64, some .i64, some .i64, some .i64] = true := by kernel_rfl
theorem pf_25 : plainF Try.prog 25 = true := by kernel_rfl
theorem pf_56 : plainF Try.prog 56 = true := by kernel_rfl
theorem tA_88 : isAggT Try.prog 88 = some true := by kernel_rfl
theorem tE_54 : sliceT Try.prog 54 = some (88, 9, 72, (.agg #[(.int .i64 0), (.int .i64 0), (.int .i64 0), (.int .i64 0), (.int .i64 0), (.int .i64 0), (.int .i64 0), (.int .i64 0), (.int .i64 0)])) := by kernel_rfl
theorem tF_86_2 : fieldT Try.prog 86 2 = some 2 := by kernel_rfl
theorem tF_86_4 : fieldT Try.prog 86 4 = some 4 := by kernel_rfl
theorem tP_88 : placesT Try.prog 88 = some #[(0, 1), (1, 1), (2, 1), (3, 1), (4, 1), (5, 4)] := by kernel_rfl
theorem tS_88 : sizeT Try.prog 88 = some 9 := by kernel_rfl
theorem tU_54 : Try.prog.underlying 54 = some (.slice 88) := by kernel_rfl
theorem tZ_88 : zeroOf Try.prog 88 = some (.agg #[(.int .i64 0), (.int .i64 0), (.int .i64 0), (.int .i64 0), (.int .i64 0), (.int .i64 0), (.int .i64 0), (.int .i64 0), (.int .i64 0)]) := by kernel_rfl

theorem find_step (t : T) (x : Int) (w : World) (hP : PR w t) (hs : sz t ≤ 4194304) (ih : ∀ u ∈ t.kids, ∀ W, PR W u → sz u ≤ 4194304 → Calls Try.prog 56 #[.pointer (some ⟨u.b, 0, none⟩), .int .i64 x] W (Ret (FDp x u W))) :
    Calls Try.prog 56 #[(.pointer (some ⟨t.b, 0, none⟩)), (.int .i64 x)] w (Ret (FDp x t w)) := by
  refine calls_xc (n := 39) (f := fun s_ => [(.pointer (some ⟨t.b, 0, none⟩)), (.int .i64 x)].getD s_ undef) Try.func56 rfl rfl (by simp) (fun s_ => by simp) ?_
  refine xc_seq ?_
  refine xc_region ?_
  refine xl_op (P := Try.prog) (some 4) rfl rfl (ox_assign (v := (.pointer none)) rfl ?_)
  refine xl_op (P := Try.prog) (some 5) rfl rfl (ox_assign (v := (.bool false)) rfl ?_)
  refine xl_nil ?_
  refine xc_seq ?_
  refine xc_seq ?_
  refine xc_region ?_
  refine xl_op (P := Try.prog) (some 9) rfl rfl (ox_move (v := (.pointer (some ⟨t.b, 0, none⟩))) rfl ?_)
  refine xl_op (P := Try.prog) (some 10) rfl rfl (ox_nilCheck (p := ⟨t.b, 0, none⟩) rfl ?_)
  refine xl_op (P := Try.prog) (some 11) rfl rfl (ox_fieldAddr (b := t.b) (o := 0) tF_86_0 rfl ?_)
  refine xl_op (P := Try.prog) (some 12) rfl rfl (ox_load (v := (.int .i64 t.id)) tA_3 rfl (hP.blk.cell rfl) ?_)
  refine xl_op (P := Try.prog) (some 13) rfl rfl (ox_move (v := (.int .i64 x)) rfl ?_)
  refine xl_op (P := Try.prog) (some 14) rfl rfl (ox_eql (k := .i64) (a := t.id) (b := x) rfl rfl ?_)
  refine xl_nil ?_
  refine xc_if (p := (t.id : Int) = x) rfl (fun h1 => ?_) (fun h1 => ?_)
  · skip
    refine xc_seq ?_
    refine xc_region ?_
    refine xl_op (P := Try.prog) (some 15) rfl rfl (ox_move (v := (.pointer (some ⟨t.b, 0, none⟩))) rfl ?_)
    refine xl_op (P := Try.prog) (some 4) rfl rfl (ox_assign (v := (.pointer (some ⟨t.b, 0, none⟩))) rfl ?_)
    refine xl_op (P := Try.prog) (some 5) rfl rfl (ox_assign (v := (.bool true)) rfl ?_)
    refine xl_nil ?_
    refine xc_ret ?_
    change leaves _ _ _ _ _ _ _
    refine leaves_nil (n := 39) (rs := [.tmp 4, .tmp 5]) (vs := [(.pointer (some ⟨t.b, 0, none⟩)), (.bool true)]) rfl ⟨⟨by decide, rfl⟩, ⟨by decide, rfl⟩, trivial⟩ ?_
    exact ⟨by rw [findT_hit h1]; rfl, rfl⟩
  · skip
    have hid0 : t.id ≠ x := h1
    refine xc_skip ?_
    refine xc_seq ?_
    refine xc_seq ?_
    refine xc_region ?_
    refine xl_op (P := Try.prog) (some 6) rfl rfl (ox_assign (v := (.int .i64 0)) rfl ?_)
    refine xl_nil ?_
    refine xc_block ?_
    refine xc_loopN (fun m f W => ∃ (i : Nat), m = t.kids.length - i ∧ i ≤ t.kids.length ∧ findL x (t.kids.take i) = none ∧ f 0 = (.pointer (some ⟨t.b, 0, none⟩)) ∧ f 1 = (.int .i64 x) ∧ f 6 = (.int .i64 ((i : Nat))) ∧ w = W) (t.kids.length) ?_ ?_
    · exact ⟨0, by omega, by omega, rfl, rfl, rfl, (by first | exact rfl | exact (congrArg (Value.int .i64) (by omega))), rfl⟩
    · rintro m f1 w1 ⟨i, hm, hi, hno, g0_f1, g1_f1, g6_f1, e_f1⟩
      subst e_f1
      refine xc_seq ?_
      refine xc_seq ?_
      refine xc_region ?_
      refine xl_op (P := Try.prog) (some 16) rfl rfl (ox_move (v := (.int .i64 ((i : Nat)))) g6_f1 ?_)
      refine xl_op (P := Try.prog) (some 17) rfl rfl (ox_move (v := (.pointer (some ⟨t.b, 0, none⟩))) g0_f1 ?_)
      refine xl_op (P := Try.prog) (some 18) rfl rfl (ox_nilCheck (p := ⟨t.b, 0, none⟩) rfl ?_)
      refine xl_op (P := Try.prog) (some 19) rfl rfl (ox_fieldAddr (b := t.b) (o := 0) tF_86_5 rfl ?_)
      refine xl_op (P := Try.prog) (some 20) rfl rfl (ox_load (v := (.slice ((t.ka.map fun k => ⟨k, 0, none⟩)) t.kids.length t.kc)) tA_29 rfl (hP.blk.cell rfl) ?_)
      refine xl_op (P := Try.prog) (some 21) rfl rfl (ox_len (A := ((t.ka.map fun k => ⟨k, 0, none⟩))) (n := t.kids.length) (cp := t.kc) rfl tU_29 rfl ?_)
      refine xl_op (P := Try.prog) (some 22) rfl rfl (ox_lss (k := .i64) (a := ((i : Nat))) (b := (((t.kids.length : Nat) : Int))) rfl rfl ?_)
      refine xl_nil ?_
      refine xc_if (p := ((i : Nat) : Int) < (((t.kids.length : Nat) : Int))) rfl (fun h2 => ?_) (fun h2 => ?_)
      · skip
        have hik : i < t.kids.length := by omega
        obtain ⟨u, hu⟩ := get_ex (l := t.kids) (i := i) hik
        have hum := List.mem_of_getElem? hu
        have hpu := PRL_mem hP.kids hum
        obtain ⟨k, hk⟩ := hP.ka_some (by intro h0; rw [h0] at hik; simp at hik)
        have hcu : w.cell? ⟨k, i, none⟩ = some u.ptr := hP.kid hk hu
        have hlk := szL_len t.kids; have hsk := sz_kids t
        refine xc_skip ?_
        refine xc_seq ?_
        refine xc_block ?_
        refine xc_seq ?_
        refine xc_region ?_
        refine xl_op (P := Try.prog) (some 26) rfl rfl (ox_move (v := (.pointer (some ⟨t.b, 0, none⟩))) g0_f1 ?_)
        refine xl_op (P := Try.prog) (some 27) rfl rfl (ox_nilCheck (p := ⟨t.b, 0, none⟩) rfl ?_)
        refine xl_op (P := Try.prog) (some 28) rfl rfl (ox_fieldAddr (b := t.b) (o := 0) tF_86_5 rfl ?_)
        refine xl_op (P := Try.prog) (some 29) rfl rfl (ox_load (v := (.slice (some ⟨k, 0, none⟩) t.kids.length t.kc)) tA_29 rfl ((refC_ka hk ▸ hP.blk : Blk w t.b #[(.int .i64 t.id), (.int .i64 t.kind), (.int .i64 t.n), (.int .i64 (sz t)), (.int .i64 t.lf.kind), (.int .i64 t.lf.skip), (.int .i64 t.lf.len), (.int .i64 t.lf.reach), (.slice (some ⟨k, 0, none⟩) t.kids.length t.kc)] 86).cell rfl) ?_)
        refine xl_op (P := Try.prog) (some 30) rfl rfl (ox_move (v := (.int .i64 ((i : Nat)))) g6_f1 ?_)
        refine xl_op (P := Try.prog) (some 31) rfl rfl (ox_indexAddr (b := k) (o := 0) (i := ((i : Nat))) tE_29 rfl rfl (by omega) (by omega) ?_)
        refine xl_op (P := Try.prog) (some 32) rfl rfl (ox_load (v := (.pointer (some ⟨u.b, 0, none⟩))) tA_38 rfl (by simpa [T.ptr] using hcu) ?_)
        refine xl_op (P := Try.prog) (some 33) rfl rfl (ox_move (v := (.int .i64 x)) g1_f1 ?_)
        refine xl_op (P := Try.prog) (some 34) rfl rfl (ox_callE (al := [(.pointer (some ⟨u.b, 0, none⟩)), (.int .i64 x)]) pf_56 rfl (ret_mono (ih u hum w hpu (by have := szL_mem hum; omega)) ?_))
        rintro _ _ ⟨rfl, rfl⟩
        refine xl_op (P := Try.prog) (some 25) rfl rfl (ox_move (v := (.tuple #[(.pointer (((findT x u).map fun y => ⟨y.b, 0, none⟩))), (.bool ((findT x u).isSome))])) rfl ?_)
        refine xl_op (P := Try.prog) (some 35) rfl rfl (ox_extract (vs := #[(.pointer (((findT x u).map fun y => ⟨y.b, 0, none⟩))), (.bool ((findT x u).isSome))]) (v := (.pointer (((findT x u).map fun y => ⟨y.b, 0, none⟩)))) rfl rfl ?_)
        refine xl_op (P := Try.prog) (some 36) rfl rfl (ox_extract (vs := #[(.pointer (((findT x u).map fun y => ⟨y.b, 0, none⟩))), (.bool ((findT x u).isSome))]) (v := (.bool ((findT x u).isSome))) rfl rfl ?_)
        refine xl_op (P := Try.prog) (some 7) rfl rfl (ox_assign (v := (.pointer (((findT x u).map fun y => ⟨y.b, 0, none⟩)))) rfl ?_)
        refine xl_op (P := Try.prog) (some 8) rfl rfl (ox_assign (v := (.bool ((findT x u).isSome))) rfl ?_)
        refine xl_nil ?_
        refine xc_seq ?_
        refine xc_region ?_
        refine xl_op (P := Try.prog) (some 37) rfl rfl (ox_move (v := (.bool ((findT x u).isSome))) rfl ?_)
        refine xl_nil ?_
        refine xc_cond (b := ((findT x u).isSome)) rfl (fun h3 => ?_) (fun h3 => ?_)
        · skip
          have h3' := h3
          try simp only [Bool.or_eq_true, Bool.and_eq_true, decide_eq_true_eq, Bool.or_eq_false_iff, Bool.and_eq_false_iff, decide_eq_false_iff_not, Bool.not_eq_true', Bool.not_eq_false'] at h3'
          obtain ⟨y, hy⟩ := Option.isSome_iff_exists.1 h3
          refine xc_seq ?_
          refine xc_region ?_
          refine xl_op (P := Try.prog) (some 38) rfl rfl (ox_move (v := (.pointer (((findT x u).map fun y => ⟨y.b, 0, none⟩)))) rfl ?_)
          refine xl_op (P := Try.prog) (some 4) rfl rfl (ox_assign (v := (.pointer (((findT x u).map fun y => ⟨y.b, 0, none⟩)))) rfl ?_)
          refine xl_op (P := Try.prog) (some 5) rfl rfl (ox_assign (v := (.bool true)) rfl ?_)
          refine xl_nil ?_
          refine xc_ret ?_
          change leaves _ _ _ _ _ _ _
          refine leaves_nil (n := 39) (rs := [.tmp 4, .tmp 5]) (vs := [(.pointer (((findT x u).map fun y => ⟨y.b, 0, none⟩))), (.bool true)]) rfl ⟨⟨by decide, rfl⟩, ⟨by decide, rfl⟩, trivial⟩ ?_
          exact ⟨by have h9 := (findT_miss hid0).trans (findL_here hno hu hy); rw [h9, hy]; rfl, rfl⟩
        · skip
          have h3' := h3
          try simp only [Bool.or_eq_true, Bool.and_eq_true, decide_eq_true_eq, Bool.or_eq_false_iff, Bool.and_eq_false_iff, decide_eq_false_iff_not, Bool.not_eq_true', Bool.not_eq_false'] at h3'
          have hnu : findT x u = none := by cases hq : findT x u with | none => rfl | some y => (rw [hq] at h3; simp at h3)
          refine xc_skip ?_
          refine xc_region ?_
          refine xl_op (P := Try.prog) (some 23) rfl rfl (ox_move (v := (.int .i64 ((i : Nat)))) g6_f1 ?_)
          refine xl_op (P := Try.prog) (some 24) rfl rfl (ox_add64 (a := ((i : Nat))) (b := 1) rfl rfl (by omega) ?_)
          refine xl_op (P := Try.prog) (some 6) rfl rfl (ox_assign (v := (.int .i64 ((i : Nat) + 1))) rfl ?_)
          refine xl_nil ?_
          exact ⟨rfl, t.kids.length - (i + 1), by omega, i + 1, by omega, by omega, findL_next hno hu hnu, g0_f1, g1_f1, (by first | exact rfl | exact (congrArg (Value.int .i64) (by omega))), rfl⟩
      · skip
        refine xc_exit ?_
        refine xc_seq ?_
        refine xc_region ?_
        refine xl_op (P := Try.prog) (some 4) rfl rfl (ox_assign (v := (.pointer none)) rfl ?_)
        refine xl_op (P := Try.prog) (some 5) rfl rfl (ox_assign (v := (.bool false)) rfl ?_)
        refine xl_nil ?_
        refine xc_ret ?_
        change leaves _ _ _ _ _ _ _
        refine leaves_nil (n := 39) (rs := [.tmp 4, .tmp 5]) (vs := [(.pointer none), (.bool false)]) rfl ⟨⟨by decide, rfl⟩, ⟨by decide, rfl⟩, trivial⟩ ?_
        exact ⟨by rw [findT_miss hid0, ← List.take_of_length_le (l := t.kids) (i := i) (by omega), hno]; rfl, rfl⟩

theorem find_calls (t : T) (x : Int) (w : World) (hP : PR w t) (hs : sz t ≤ 4194304)  : Calls Try.prog 56 #[.pointer (some ⟨t.b, 0, none⟩), .int .i64 x] w (Ret (FDp x t w)) := by
  have key : ∀ n : Nat, ∀ t : T, (sz t).toNat = n → ∀ w, PR w t → sz t ≤ 4194304 →  Calls Try.prog 56 #[.pointer (some ⟨t.b, 0, none⟩), .int .i64 x] w (Ret (FDp x t w)) := by
    intro n
    induction n using Nat.strongRecOn with
    | _ n ih =>
      intro t ht w hP hs 
      refine find_step t x w hP hs fun u hu W hW hz  => ih (sz u).toNat ?_ u rfl W hW hz 
      have h1 := szL_mem hu; have h2 := sz_pos u; have h3 := sz_kids t
      omega
  exact key _ t rfl w hP hs 

theorem refScript_step (ra t : T) (w : World) (hP : PR w t) (hs : sz t ≤ 4194304) (hPa : PR w ra) (hsa : sz ra ≤ 4194304) (ih : ∀ u ∈ t.kids, ∀ W, PR W u → sz u ≤ 4194304 → PR W ra → Calls Try.prog 25 #[.pointer (some ⟨ra.b, 0, none⟩), .pointer (some ⟨u.b, 0, none⟩)] W (Ret (SCp ra u W))) :
    Calls Try.prog 25 #[(.pointer (some ⟨ra.b, 0, none⟩)), (.pointer (some ⟨t.b, 0, none⟩))] w (Ret (SCp ra t w)) := by
  refine calls_xc (n := 75) (f := fun s_ => [(.pointer (some ⟨ra.b, 0, none⟩)), (.pointer (some ⟨t.b, 0, none⟩))].getD s_ undef) Try.func25 rfl rfl (by simp) (fun s_ => by simp) ?_
  refine xc_seq ?_
  refine xc_region ?_
  refine xl_op (P := Try.prog) (some 4) rfl rfl (ox_assign (v := (.slice none 0 0)) rfl ?_)
  refine xl_nil ?_
  refine xc_seq ?_
  refine xc_region ?_
  refine xl_op (P := Try.prog) (some 11) rfl rfl (ox_move (v := (.pointer (some ⟨ra.b, 0, none⟩))) rfl ?_)
  refine xl_op (P := Try.prog) (some 12) rfl rfl (ox_move (v := (.pointer (some ⟨t.b, 0, none⟩))) rfl ?_)
  refine xl_op (P := Try.prog) (some 13) rfl rfl (ox_nilCheck (p := ⟨t.b, 0, none⟩) rfl ?_)
  refine xl_op (P := Try.prog) (some 14) rfl rfl (ox_fieldAddr (b := t.b) (o := 0) tF_86_0 rfl ?_)
  refine xl_op (P := Try.prog) (some 15) rfl rfl (ox_load (v := (.int .i64 t.id)) tA_3 rfl (hP.blk.cell rfl) ?_)
  refine xl_op (P := Try.prog) (some 16) rfl rfl (ox_callE (al := [(.pointer (some ⟨ra.b, 0, none⟩)), (.int .i64 t.id)]) pf_56 rfl (ret_mono (find_calls ra t.id w (hPa.ext (Chg.refl _ _)) hsa) ?_))
  rintro _ _ ⟨rfl, rfl⟩
  refine xl_op (P := Try.prog) (some 10) rfl rfl (ox_move (v := (.tuple #[(.pointer (((findT t.id ra).map fun y => ⟨y.b, 0, none⟩))), (.bool ((findT t.id ra).isSome))])) rfl ?_)
  refine xl_op (P := Try.prog) (some 17) rfl rfl (ox_extract (vs := #[(.pointer (((findT t.id ra).map fun y => ⟨y.b, 0, none⟩))), (.bool ((findT t.id ra).isSome))]) (v := (.pointer (((findT t.id ra).map fun y => ⟨y.b, 0, none⟩)))) rfl rfl ?_)
  refine xl_op (P := Try.prog) (some 18) rfl rfl (ox_extract (vs := #[(.pointer (((findT t.id ra).map fun y => ⟨y.b, 0, none⟩))), (.bool ((findT t.id ra).isSome))]) (v := (.bool ((findT t.id ra).isSome))) rfl rfl ?_)
  refine xl_op (P := Try.prog) (some 5) rfl rfl (ox_assign (v := (.pointer (((findT t.id ra).map fun y => ⟨y.b, 0, none⟩)))) rfl ?_)
  refine xl_op (P := Try.prog) (some 6) rfl rfl (ox_assign (v := (.bool ((findT t.id ra).isSome))) rfl ?_)
  refine xl_nil ?_
  refine xc_seq ?_
  refine xc_seq ?_
  refine xc_region ?_
  refine xl_op (P := Try.prog) (some 19) rfl rfl (ox_move (v := (.bool ((findT t.id ra).isSome))) rfl ?_)
  refine xl_nil ?_
  refine xc_cond (b := ((findT t.id ra).isSome)) rfl (fun h1 => ?_) (fun h1 => ?_)
  · skip
    have h1' := h1
    try simp only [Bool.or_eq_true, Bool.and_eq_true, decide_eq_true_eq, Bool.or_eq_false_iff, Bool.and_eq_false_iff, decide_eq_false_iff_not, Bool.not_eq_true', Bool.not_eq_false'] at h1'
    have hhas : (hasR ra) t.id = true := h1
    refine xc_seq ?_
    refine xc_region ?_
    refine xl_op (P := Try.prog) (some 20) rfl rfl (ox_move (v := (.pointer (some ⟨t.b, 0, none⟩))) rfl ?_)
    refine xl_op (P := Try.prog) (some 21) rfl rfl (ox_nilCheck (p := ⟨t.b, 0, none⟩) rfl ?_)
    refine xl_op (P := Try.prog) (some 22) rfl rfl (ox_fieldAddr (b := t.b) (o := 0) tF_86_0 rfl ?_)
    refine xl_op (P := Try.prog) (some 23) rfl rfl (ox_load (v := (.int .i64 t.id)) tA_3 rfl (hP.blk.cell rfl) ?_)
    refine xl_op (P := Try.prog) (some 24) rfl rfl (ox_mkStruct (ps := [(0, (.int .i64 1)), (1, (.int .i64 t.id))]) (cs := #[(.int .i64 1), (.int .i64 t.id), (.int .i64 0), (.int .i64 0), (.int .i64 0), (.int .i64 0), (.int .i64 0), (.int .i64 0), (.int .i64 0)]) tZ_88 tP_88 rfl (by kernel_rfl) ?_)
    refine xl_op (P := Try.prog) (some 25) rfl rfl (ox_mkSlice (ps := [(0, (.agg #[(.int .i64 1), (.int .i64 t.id), (.int .i64 0), (.int .i64 0), (.int .i64 0), (.int .i64 0), (.int .i64 0), (.int .i64 0), (.int .i64 0)]))]) (zs := #[(.int .i64 0), (.int .i64 0), (.int .i64 0), (.int .i64 0), (.int .i64 0), (.int .i64 0), (.int .i64 0), (.int .i64 0), (.int .i64 0)]) (cs := #[(.int .i64 1), (.int .i64 t.id), (.int .i64 0), (.int .i64 0), (.int .i64 0), (.int .i64 0), (.int .i64 0), (.int .i64 0), (.int .i64 0)]) tE_54 rfl (by decide) (by kernel_rfl) (by kernel_rfl) ?_)
    intro w1 e1 z1 b1
    replace b1 : Blk w1 w.heap.size #[(.int .i64 1), (.int .i64 t.id), (.int .i64 0), (.int .i64 0), (.int .i64 0), (.int .i64 0), (.int .i64 0), (.int .i64 0), (.int .i64 0)] 88 := b1
    refine xl_op (P := Try.prog) (some 4) rfl rfl (ox_assign (v := (.slice (some ⟨w.heap.size, 0, none⟩) 1 1)) rfl ?_)
    refine xl_nil ?_
    refine xc_ret ?_
    change leaves _ _ _ _ _ _ _
    refine leaves_nil (n := 75) (rs := [.tmp 4]) (vs := [(.slice (some ⟨w.heap.size, 0, none⟩) 1 1)]) rfl ⟨⟨by decide, rfl⟩, trivial⟩ ?_
    exact ⟨some ⟨w.heap.size, 0, none⟩, 1, by rw [script_has hhas]; rfl, by rw [script_has hhas]; exact Vx.Own.lit (n := 1) (sz := 9) b1 rfl (by decide), fun k hk => by simp [Value.ownBlock] at hk; omega, e1⟩
  · skip
    have h1' := h1
    try simp only [Bool.or_eq_true, Bool.and_eq_true, decide_eq_true_eq, Bool.or_eq_false_iff, Bool.and_eq_false_iff, decide_eq_false_iff_not, Bool.not_eq_true', Bool.not_eq_false'] at h1'
    have hhas : (hasR ra) t.id = false := h1
    refine xc_skip ?_
    refine xc_seq ?_
    refine xc_seq ?_
    refine xc_region ?_
    refine xl_op (P := Try.prog) (some 26) rfl rfl (ox_move (v := (.pointer (some ⟨t.b, 0, none⟩))) rfl ?_)
    refine xl_op (P := Try.prog) (some 27) rfl rfl (ox_nilCheck (p := ⟨t.b, 0, none⟩) rfl ?_)
    refine xl_op (P := Try.prog) (some 28) rfl rfl (ox_fieldAddr (b := t.b) (o := 0) tF_86_1 rfl ?_)
    refine xl_op (P := Try.prog) (some 29) rfl rfl (ox_load (v := (.int .i64 t.kind)) tA_3 rfl (hP.blk.cell rfl) ?_)
    refine xl_op (P := Try.prog) (some 30) rfl rfl (ox_eql (k := .i64) (a := t.kind) (b := 1) rfl rfl ?_)
    refine xl_nil ?_
    refine xc_if (p := (t.kind : Int) = 1) rfl (fun h2 => ?_) (fun h2 => ?_)
    · skip
      have hkd : t.kind = 1 := h2
      refine xc_seq ?_
      refine xc_region ?_
      refine xl_op (P := Try.prog) (some 31) rfl rfl (ox_move (v := (.pointer (some ⟨t.b, 0, none⟩))) rfl ?_)
      refine xl_op (P := Try.prog) (some 32) rfl rfl (ox_nilCheck (p := ⟨t.b, 0, none⟩) rfl ?_)
      refine xl_op (P := Try.prog) (some 33) rfl rfl (ox_fieldAddr (b := t.b) (o := 0) tF_86_4 rfl ?_)
      refine xl_op (P := Try.prog) (some 34) rfl rfl (ox_loadN (vs := [(.int .i64 t.lf.kind), (.int .i64 t.lf.skip), (.int .i64 t.lf.len), (.int .i64 t.lf.reach)]) tA_84 tS_84 rfl rfl ⟨hP.blk.cell rfl, hP.blk.cell rfl, hP.blk.cell rfl, hP.blk.cell rfl, trivial⟩ ?_)
      refine xl_op (P := Try.prog) (some 35) rfl rfl (ox_mkStruct (ps := [(0, (.int .i64 2)), (5, (.agg #[(.int .i64 t.lf.kind), (.int .i64 t.lf.skip), (.int .i64 t.lf.len), (.int .i64 t.lf.reach)]))]) (cs := #[(.int .i64 2), (.int .i64 0), (.int .i64 0), (.int .i64 0), (.int .i64 0), (.int .i64 t.lf.kind), (.int .i64 t.lf.skip), (.int .i64 t.lf.len), (.int .i64 t.lf.reach)]) tZ_88 tP_88 rfl (by kernel_rfl) ?_)
      refine xl_op (P := Try.prog) (some 36) rfl rfl (ox_mkSlice (ps := [(0, (.agg #[(.int .i64 2), (.int .i64 0), (.int .i64 0), (.int .i64 0), (.int .i64 0), (.int .i64 t.lf.kind), (.int .i64 t.lf.skip), (.int .i64 t.lf.len), (.int .i64 t.lf.reach)]))]) (zs := #[(.int .i64 0), (.int .i64 0), (.int .i64 0), (.int .i64 0), (.int .i64 0), (.int .i64 0), (.int .i64 0), (.int .i64 0), (.int .i64 0)]) (cs := #[(.int .i64 2), (.int .i64 0), (.int .i64 0), (.int .i64 0), (.int .i64 0), (.int .i64 t.lf.kind), (.int .i64 t.lf.skip), (.int .i64 t.lf.len), (.int .i64 t.lf.reach)]) tE_54 rfl (by decide) (by kernel_rfl) (by kernel_rfl) ?_)
      intro w2 e2 z2 b2
      replace b2 : Blk w2 w.heap.size #[(.int .i64 2), (.int .i64 0), (.int .i64 0), (.int .i64 0), (.int .i64 0), (.int .i64 t.lf.kind), (.int .i64 t.lf.skip), (.int .i64 t.lf.len), (.int .i64 t.lf.reach)] 88 := b2
      refine xl_op (P := Try.prog) (some 4) rfl rfl (ox_assign (v := (.slice (some ⟨w.heap.size, 0, none⟩) 1 1)) rfl ?_)
      refine xl_nil ?_
      refine xc_ret ?_
      change leaves _ _ _ _ _ _ _
      refine leaves_nil (n := 75) (rs := [.tmp 4]) (vs := [(.slice (some ⟨w.heap.size, 0, none⟩) 1 1)]) rfl ⟨⟨by decide, rfl⟩, trivial⟩ ?_
      exact ⟨some ⟨w.heap.size, 0, none⟩, 1, by rw [script_leaf hhas hkd]; rfl, by rw [script_leaf hhas hkd]; exact Vx.Own.lit (n := 1) (sz := 9) b2 rfl (by decide), fun k hk => by simp [Value.ownBlock] at hk; omega, e2⟩
    · skip
      have hkd : t.kind ≠ 1 := h2
      refine xc_skip ?_
      refine xc_seq ?_
      refine xc_region ?_
      refine xl_op (P := Try.prog) (some 7) rfl rfl (ox_assign (v := (.slice none 0 0)) rfl ?_)
      refine xl_nil ?_
      refine xc_seq ?_
      refine xc_seq ?_
      refine xc_region ?_
      refine xl_op (P := Try.prog) (some 8) rfl rfl (ox_assign (v := (.int .i64 0)) rfl ?_)
      refine xl_nil ?_
      refine xc_block ?_
      refine xc_loopN (fun m f W => ∃ (i : Nat) (Ao : Option Addr) (co : Nat), m = t.kids.length - i ∧ i ≤ t.kids.length ∧ f 0 = (.pointer (some ⟨ra.b, 0, none⟩)) ∧ f 1 = (.pointer (some ⟨t.b, 0, none⟩)) ∧ f 7 = (.slice Ao ((scriptL (hasR ra) (t.kids.take i)).length) co) ∧ f 8 = (.int .i64 ((i : Nat))) ∧ Vx.Own W 88 9 (.slice Ao ((scriptL (hasR ra) (t.kids.take i)).length) co) (scriptL (hasR ra) (t.kids.take i)).length (opC (scriptL (hasR ra) (t.kids.take i))) ∧ (∀ k, ((.slice Ao ((scriptL (hasR ra) (t.kids.take i)).length) co) : Value).ownBlock = some k → w.heap.size ≤ k) ∧ Ext w W) (t.kids.length) ?_ ?_
      · exact ⟨0, none, 0, by omega, by omega, rfl, rfl, rfl, (by first | exact rfl | exact (congrArg (Value.int .i64) (by omega))), (by simpa [scriptL, opC] using Vx.Own.nil _ _ _), (by simp [Value.ownBlock]), (Chg.refl _ _)⟩
      · rintro m f1 w3 ⟨i, Ao, co, hm, hi, g0_f1, g1_f1, g7_f1, g8_f1, o_f1, lo_f1, e_f1⟩
        have hzE := e_f1.size
        refine xc_seq ?_
        refine xc_seq ?_
        refine xc_region ?_
        refine xl_op (P := Try.prog) (some 37) rfl rfl (ox_move (v := (.int .i64 ((i : Nat)))) g8_f1 ?_)
        refine xl_op (P := Try.prog) (some 38) rfl rfl (ox_move (v := (.pointer (some ⟨t.b, 0, none⟩))) g1_f1 ?_)
        refine xl_op (P := Try.prog) (some 39) rfl rfl (ox_nilCheck (p := ⟨t.b, 0, none⟩) rfl ?_)
        refine xl_op (P := Try.prog) (some 40) rfl rfl (ox_fieldAddr (b := t.b) (o := 0) tF_86_5 rfl ?_)
        refine xl_op (P := Try.prog) (some 41) rfl rfl (ox_load (v := (.slice ((t.ka.map fun k => ⟨k, 0, none⟩)) t.kids.length t.kc)) tA_29 rfl ((hP.blk.ext e_f1).cell rfl) ?_)
        refine xl_op (P := Try.prog) (some 42) rfl rfl (ox_len (A := ((t.ka.map fun k => ⟨k, 0, none⟩))) (n := t.kids.length) (cp := t.kc) rfl tU_29 rfl ?_)
        refine xl_op (P := Try.prog) (some 43) rfl rfl (ox_lss (k := .i64) (a := ((i : Nat))) (b := (((t.kids.length : Nat) : Int))) rfl rfl ?_)
        refine xl_nil ?_
        refine xc_if (p := ((i : Nat) : Int) < (((t.kids.length : Nat) : Int))) rfl (fun h3 => ?_) (fun h3 => ?_)
        · skip
          have hb5 := sz_kids t; have hb8 := szL_len t.kids
          have hik : i < t.kids.length := by omega
          obtain ⟨u, hu⟩ := get_ex (l := t.kids) (i := i) hik
          have hum := List.mem_of_getElem? hu
          have hpu := PRL_mem hP.kids hum
          obtain ⟨k, hk⟩ := hP.ka_some (by intro h0; rw [h0] at hik; simp at hik)
          have hcu : w.cell? ⟨k, i, none⟩ = some u.ptr := hP.kid hk hu
          have hlen : scriptL (hasR ra) (t.kids.take (i + 1)) = scriptL (hasR ra) (t.kids.take i) ++ script (hasR ra) u := by rw [take_succ' hu, scriptL_app]; simp [scriptL]
          have hb1 := script_len (hasR ra) u; have hb2 := scriptL_len (hasR ra) (t.kids.take i); have hb3 := szL_succ hu; have hb4 := szL_take t.kids (i + 1); have hb6 := szL_mem hum; have hb7 := szL_nonneg (t.kids.take i)
          refine xc_skip ?_
          refine xc_seq ?_
          refine xc_block ?_
          refine xc_seq ?_
          refine xc_region ?_
          refine xl_op (P := Try.prog) (some 46) rfl rfl (ox_move (v := (.pointer (some ⟨ra.b, 0, none⟩))) g0_f1 ?_)
          refine xl_op (P := Try.prog) (some 47) rfl rfl (ox_move (v := (.pointer (some ⟨t.b, 0, none⟩))) g1_f1 ?_)
          refine xl_op (P := Try.prog) (some 48) rfl rfl (ox_nilCheck (p := ⟨t.b, 0, none⟩) rfl ?_)
          refine xl_op (P := Try.prog) (some 49) rfl rfl (ox_fieldAddr (b := t.b) (o := 0) tF_86_5 rfl ?_)
          refine xl_op (P := Try.prog) (some 50) rfl rfl (ox_load (v := (.slice (some ⟨k, 0, none⟩) t.kids.length t.kc)) tA_29 rfl ((refC_ka hk ▸ (hP.blk.ext e_f1) : Blk w3 t.b #[(.int .i64 t.id), (.int .i64 t.kind), (.int .i64 t.n), (.int .i64 (sz t)), (.int .i64 t.lf.kind), (.int .i64 t.lf.skip), (.int .i64 t.lf.len), (.int .i64 t.lf.reach), (.slice (some ⟨k, 0, none⟩) t.kids.length t.kc)] 86).cell rfl) ?_)
          refine xl_op (P := Try.prog) (some 51) rfl rfl (ox_move (v := (.int .i64 ((i : Nat)))) g8_f1 ?_)
          refine xl_op (P := Try.prog) (some 52) rfl rfl (ox_indexAddr (b := k) (o := 0) (i := ((i : Nat))) tE_29 rfl rfl (by omega) (by omega) ?_)
          refine xl_op (P := Try.prog) (some 53) rfl rfl (ox_load (v := (.pointer (some ⟨u.b, 0, none⟩))) tA_38 rfl (by simpa [T.ptr] using Ext.cell hcu e_f1) ?_)
          refine xl_op (P := Try.prog) (some 54) rfl rfl (ox_callE (al := [(.pointer (some ⟨ra.b, 0, none⟩)), (.pointer (some ⟨u.b, 0, none⟩))]) pf_25 rfl (ret_mono (ih u hum w3 (hpu.ext e_f1) (by omega) (hPa.ext e_f1)) ?_))
          rintro _ w4 ⟨A2, c2, rfl, ho2, hl2, e3⟩
          have he3 := e3.size
          refine xl_op (P := Try.prog) (some 9) rfl rfl (ox_assign (v := (.slice A2 ((script (hasR ra) u).length) c2)) rfl ?_)
          refine xl_nil ?_
          refine xc_region ?_
          refine xl_op (P := Try.prog) (some 55) rfl rfl (ox_move (v := (.slice Ao ((scriptL (hasR ra) (t.kids.take i)).length) co)) g7_f1 ?_)
          refine xl_op (P := Try.prog) (some 56) rfl rfl (ox_move (v := (.slice A2 ((script (hasR ra) u).length) c2)) rfl ?_)
          refine xl_op (P := Try.prog) (some 57) rfl rfl (ox_appendR (n := ((scriptL (hasR ra) (t.kids.take i)).length)) (m := ((script (hasR ra) u).length)) (xs := ((opC (scriptL (hasR ra) (t.kids.take i))))) (news := ((opC (script (hasR ra) u)))) rfl tE_54 rfl (by decide) (v := (.slice Ao ((scriptL (hasR ra) (t.kids.take i)).length) co)) rfl rfl (o_f1.ext e3) (opC_len _) (Own.rowO ho2) (opC_one _) (by omega) (by omega) ?_)
          intro v1 w5 o1 e4 at1 nil1
          have he4 := e4.size
          obtain ⟨A1, c1, rfl, hc1⟩ := o1.shape
          have low1 : ∀ _k, (Value.slice A1 ((scriptL (hasR ra) (t.kids.take i)).length + (script (hasR ra) u).length) c1).ownBlock = some _k → w.heap.size ≤ _k := fun _k _h => by rcases at1 with _e | _e <;> rw [_e] at _h; exact lo_f1 _k _h; exact (by cases _h; omega)
          refine xl_op (P := Try.prog) (some 7) rfl rfl (ox_assign (v := (.slice A1 ((scriptL (hasR ra) (t.kids.take i)).length + (script (hasR ra) u).length) c1)) rfl ?_)
          refine xl_nil ?_
          refine xc_region ?_
          refine xl_op (P := Try.prog) (some 44) rfl rfl (ox_move (v := (.int .i64 ((i : Nat)))) g8_f1 ?_)
          refine xl_op (P := Try.prog) (some 45) rfl rfl (ox_add64 (a := ((i : Nat))) (b := 1) rfl rfl (by omega) ?_)
          refine xl_op (P := Try.prog) (some 8) rfl rfl (ox_assign (v := (.int .i64 ((i : Nat) + 1))) rfl ?_)
          refine xl_nil ?_
          have ho9 := o1
          have hsz0 := e3.size
          have hsz1 := e4.size
          exact ⟨rfl, t.kids.length - (i + 1), by omega, i + 1, A1, c1, by omega, by omega, g0_f1, g1_f1, (by rw [hlen, List.length_append]; rfl), (by first | exact rfl | exact (congrArg (Value.int .i64) (by omega))), (by rw [hlen, opC, List.flatMap_append, List.length_append]; exact ho9), (fun k hk => low1 k (ownBlock_len hk)), (Chg.trans (Ext.trans e_f1 e3) e4 (fun b hb hl => absurd hl (by have := lo_f1 b hb; omega)))⟩
        · skip
          have hb5 := sz_kids t; have hb8 := szL_len t.kids
          have hiq : i = t.kids.length := by omega
          have hb2 := scriptL_len (hasR ra) (t.kids.take i); have hb4 := szL_take t.kids i
          refine xc_exit ?_
          refine xc_seq ?_
          refine xc_regionE [] (fun W_ => Chg (fun x => ((.slice Ao ((scriptL (hasR ra) (t.kids.take i)).length) co) : Value).ownBlock = some x) w3 W_) hmix ?_
          intro w6 e5 z3
          have hS1 : Chg (fun x => ((.slice Ao ((scriptL (hasR ra) (t.kids.take i)).length) co) : Value).ownBlock = some x) w3 w6 := Ext.to e5
          refine xd_pure 0 (some 58) rfl rfl (by kernel_rfl) (v := (.slice Ao ((scriptL (hasR ra) (t.kids.take i)).length) co)) (.inl ⟨rfl, fun W_ hW_ => ox_move (v := (.slice Ao ((scriptL (hasR ra) (t.kids.take i)).length) co)) g7_f1 ⟨rfl, rfl⟩⟩) ?_
          refine xd_pure 1 (some 59) rfl rfl (by kernel_rfl) (v := (.pointer (some ⟨t.b, 0, none⟩))) (.inl ⟨rfl, fun W_ hW_ => ox_move (v := (.pointer (some ⟨t.b, 0, none⟩))) g1_f1 ⟨rfl, rfl⟩⟩) ?_
          refine xd_pure 2 (some 60) rfl rfl (by kernel_rfl) (v := (.pointer (some ⟨t.b, 0, none⟩))) (.inl ⟨rfl, fun W_ hW_ => ox_nilCheck (p := ⟨t.b, 0, none⟩) rfl ⟨rfl, rfl⟩⟩) ?_
          refine xd_pure 3 (some 61) rfl rfl (by kernel_rfl) (v := (.pointer (some ⟨t.b, 1, none⟩))) (.inl ⟨rfl, fun W_ hW_ => ox_fieldAddr (b := t.b) (o := 0) tF_86_1 rfl ⟨rfl, rfl⟩⟩) ?_
          refine xd_take 4 (some 62) rfl rfl (by kernel_rfl) (v := (.int .i64 t.kind)) (.inl ⟨rfl, fun W_ hW_ => ox_load (v := (.int .i64 t.kind)) tA_3 rfl (((hP.blk.ext e_f1).keep hW_ (fun _h => (o_f1).ne_blk (hP.blk.ext e_f1) (by decide) _ _h rfl)).cell rfl) ⟨rfl, rfl⟩⟩) hS1 ?_
          refine xd_pure 5 (some 63) rfl rfl (by kernel_rfl) (v := (.pointer (some ⟨t.b, 0, none⟩))) (.inl ⟨rfl, fun W_ hW_ => ox_move (v := (.pointer (some ⟨t.b, 0, none⟩))) g1_f1 ⟨rfl, rfl⟩⟩) ?_
          refine xd_pure 6 (some 64) rfl rfl (by kernel_rfl) (v := (.pointer (some ⟨t.b, 0, none⟩))) (.inl ⟨rfl, fun W_ hW_ => ox_nilCheck (p := ⟨t.b, 0, none⟩) rfl ⟨rfl, rfl⟩⟩) ?_
          refine xd_pure 7 (some 65) rfl rfl (by kernel_rfl) (v := (.pointer (some ⟨t.b, 2, none⟩))) (.inl ⟨rfl, fun W_ hW_ => ox_fieldAddr (b := t.b) (o := 0) tF_86_2 rfl ⟨rfl, rfl⟩⟩) ?_
          refine xd_take 8 (some 66) rfl rfl (by kernel_rfl) (v := (.int .i64 t.n)) (.inl ⟨rfl, fun W_ hW_ => ox_load (v := (.int .i64 t.n)) tA_3 rfl (((hP.blk.ext e_f1).keep hW_ (fun _h => (o_f1).ne_blk (hP.blk.ext e_f1) (by decide) _ _h rfl)).cell rfl) ⟨rfl, rfl⟩⟩) hS1 ?_
          refine xd_pure 9 (some 67) rfl rfl (by kernel_rfl) (v := (.pointer (some ⟨t.b, 0, none⟩))) (.inl ⟨rfl, fun W_ hW_ => ox_move (v := (.pointer (some ⟨t.b, 0, none⟩))) g1_f1 ⟨rfl, rfl⟩⟩) ?_
          refine xd_pure 10 (some 68) rfl rfl (by kernel_rfl) (v := (.pointer (some ⟨t.b, 0, none⟩))) (.inl ⟨rfl, fun W_ hW_ => ox_nilCheck (p := ⟨t.b, 0, none⟩) rfl ⟨rfl, rfl⟩⟩) ?_
          refine xd_pure 11 (some 69) rfl rfl (by kernel_rfl) (v := (.pointer (some ⟨t.b, 8, none⟩))) (.inl ⟨rfl, fun W_ hW_ => ox_fieldAddr (b := t.b) (o := 0) tF_86_5 rfl ⟨rfl, rfl⟩⟩) ?_
          refine xd_take 12 (some 70) rfl rfl (by kernel_rfl) (v := (.slice ((t.ka.map fun k => ⟨k, 0, none⟩)) t.kids.length t.kc)) (.inl ⟨rfl, fun W_ hW_ => ox_load (v := (.slice ((t.ka.map fun k => ⟨k, 0, none⟩)) t.kids.length t.kc)) tA_29 rfl (((hP.blk.ext e_f1).keep hW_ (fun _h => (o_f1).ne_blk (hP.blk.ext e_f1) (by decide) _ _h rfl)).cell rfl) ⟨rfl, rfl⟩⟩) hS1 ?_
          refine xd_pure 13 (some 71) rfl rfl (by kernel_rfl) (v := (.int .i64 (((t.kids.length : Nat) : Int)))) (.inl ⟨rfl, fun W_ hW_ => ox_len (A := ((t.ka.map fun k => ⟨k, 0, none⟩))) (n := t.kids.length) (cp := t.kc) rfl tU_29 rfl ⟨rfl, rfl⟩⟩) ?_
          refine xd_pure 14 (some 72) rfl rfl (by kernel_rfl) (v := (.agg #[(.int .i64 3), (.int .i64 0), (.int .i64 t.kind), (.int .i64 t.n), (.int .i64 (((t.kids.length : Nat) : Int))), (.int .i64 0), (.int .i64 0), (.int .i64 0), (.int .i64 0)])) (.inl ⟨rfl, fun W_ hW_ => ox_mkStruct (ps := [(0, (.int .i64 3)), (2, (.int .i64 t.kind)), (3, (.int .i64 t.n)), (4, (.int .i64 (((t.kids.length : Nat) : Int))))]) (cs := #[(.int .i64 3), (.int .i64 0), (.int .i64 t.kind), (.int .i64 t.n), (.int .i64 (((t.kids.length : Nat) : Int))), (.int .i64 0), (.int .i64 0), (.int .i64 0), (.int .i64 0)]) tZ_88 tP_88 rfl (by kernel_rfl) ⟨rfl, rfl⟩⟩) ?_
          refine xd_one 15 (some 73) rfl rfl (by kernel_rfl) rfl (ox_mkSlice (ps := [(0, (.agg #[(.int .i64 3), (.int .i64 0), (.int .i64 t.kind), (.int .i64 t.n), (.int .i64 (((t.kids.length : Nat) : Int))), (.int .i64 0), (.int .i64 0), (.int .i64 0), (.int .i64 0)]))]) (zs := #[(.int .i64 0), (.int .i64 0), (.int .i64 0), (.int .i64 0), (.int .i64 0), (.int .i64 0), (.int .i64 0), (.int .i64 0), (.int .i64 0)]) (cs := #[(.int .i64 3), (.int .i64 0), (.int .i64 t.kind), (.int .i64 t.n), (.int .i64 (((t.kids.length : Nat) : Int))), (.int .i64 0), (.int .i64 0), (.int .i64 0), (.int .i64 0)]) tE_54 rfl (by decide) (by kernel_rfl) (by kernel_rfl) ?_)
          intro w7 e6 z4 b3
          replace b3 : Blk w7 w6.heap.size #[(.int .i64 3), (.int .i64 0), (.int .i64 t.kind), (.int .i64 t.n), (.int .i64 (((t.kids.length : Nat) : Int))), (.int .i64 0), (.int .i64 0), (.int .i64 0), (.int .i64 0)] 88 := b3
          have hS2 : Chg (fun x => ((.slice Ao ((scriptL (hasR ra) (t.kids.take i)).length) co) : Value).ownBlock = some x) w3 w7 := Chg.ext hS1 e6
          refine ⟨.inr fun _ => hS2, ?_⟩
          refine xd_one 16 (some 74) rfl rfl (by kernel_rfl) rfl (ox_append (n := ((scriptL (hasR ra) (t.kids.take i)).length)) (g := w6.heap.size) (o := 0) (m := 1) (xs := ((opC (scriptL (hasR ra) (t.kids.take i))))) (news := ([(.int .i64 3), (.int .i64 0), (.int .i64 t.kind), (.int .i64 t.n), (.int .i64 (((t.kids.length : Nat) : Int))), (.int .i64 0), (.int .i64 0), (.int .i64 0), (.int .i64 0)])) rfl tE_54 rfl (by decide) (v := (.slice Ao ((scriptL (hasR ra) (t.kids.take i)).length) co)) rfl rfl ((o_f1.ext e5).ext e6) rfl b3.all rfl (by omega) (by omega) ?_)
          intro v2 w8 o2 e7 at2 nil2
          have he7 := e7.size
          obtain ⟨A2, c2, rfl, hc2⟩ := o2.shape
          have low2 : ∀ _k, (Value.slice A2 ((scriptL (hasR ra) (t.kids.take i)).length + 1) c2).ownBlock = some _k → w.heap.size ≤ _k := fun _k _h => by rcases at2 with _e | _e <;> rw [_e] at _h; exact lo_f1 _k _h; exact (by cases _h; omega)
          have hS3 : Chg (fun x => ((.slice Ao ((scriptL (hasR ra) (t.kids.take i)).length) co) : Value).ownBlock = some x) w3 w8 := Chg.trans hS2 e7 (fun x hx hl => hx)
          refine ⟨.inr fun _ => hS3, ?_⟩
          refine xd_pure 17 (some 4) rfl rfl (by kernel_rfl) (v := (.slice A2 ((scriptL (hasR ra) (t.kids.take i)).length + 1) c2)) (.inl ⟨rfl, fun W_ hW_ => ox_assign (v := (.slice A2 ((scriptL (hasR ra) (t.kids.take i)).length + 1) c2)) rfl ⟨rfl, rfl⟩⟩) ?_
          refine xd_done (by kernel_rfl) ?_ _
          refine xc_ret ?_
          change leaves _ _ _ _ _ _ _
          refine leaves_nil (n := 75) (rs := [.tmp 4]) (vs := [(.slice A2 ((scriptL (hasR ra) (t.kids.take i)).length + 1) c2)]) rfl ⟨⟨by decide, rfl⟩, trivial⟩ ?_
          have hO := o2
          have hsz0 := e5.size
          have hsz1 := e6.size
          have hsz2 := e7.size
          have hE := (Chg.trans (Ext.trans (Ext.trans e_f1 e5) e6) e7 (fun b hb hl => absurd hl (by have := lo_f1 b hb; omega)))
          have hsr : script (hasR ra) t = scriptL (hasR ra) (t.kids.take i) ++ [makeO t.kind t.n t.kids.length] := by rw [script_nodeR hhas hkd, hiq, List.take_length]
          have hsl : (script (hasR ra) t).length = (scriptL (hasR ra) (t.kids.take i)).length + 1 := by rw [hsr]; simp
          exact ⟨A2, c2, by rw [hsl]; rfl, by rw [hsl, hsr, opC_snoc]; simpa [OpD.cs, makeO, lf0] using hO, by rw [hsl]; exact low2, hE⟩

theorem refScript_calls (t : T) (ra : T) (w : World) (hP : PR w t) (hs : sz t ≤ 4194304) (hPa : PR w ra) (hsa : sz ra ≤ 4194304) : Calls Try.prog 25 #[.pointer (some ⟨ra.b, 0, none⟩), .pointer (some ⟨t.b, 0, none⟩)] w (Ret (SCp ra t w)) := by
  have key : ∀ n : Nat, ∀ t : T, (sz t).toNat = n → ∀ w, PR w t → sz t ≤ 4194304 → PR w ra → Calls Try.prog 25 #[.pointer (some ⟨ra.b, 0, none⟩), .pointer (some ⟨t.b, 0, none⟩)] w (Ret (SCp ra t w)) := by
    intro n
    induction n using Nat.strongRecOn with
    | _ n ih =>
      intro t ht w hP hs hPa
      refine refScript_step ra t w hP hs hPa hsa fun u hu W hW hz hPa => ih (sz u).toNat ?_ u rfl W hW hz hPa
      have h1 := szL_mem hu; have h2 := sz_pos u; have h3 := sz_kids t
      omega
  exact key _ t rfl w hP hs hPa

theorem sameOps_eq (L : List OpD) (Aa Ab : Option Addr) (ca cb : Nat) (w : World) (ha : RowA w Aa (opC L)) (hb : RowA w Ab (opC L)) (hn : L.length ≤ 4611686018427387904) :
    Calls Try.prog 23 #[(.slice Aa L.length ca), (.slice Ab L.length cb)] w (Ret (fun v w' => v = .bool true ∧ Ext w w')) := by
  refine calls_xc (n := 26) (f := fun s_ => [(.slice Aa L.length ca), (.slice Ab L.length cb)].getD s_ undef) Try.func23 rfl rfl (by simp) (fun s_ => by simp) ?_
  refine xc_seq ?_
  refine xc_region ?_
  refine xl_op (P := Try.prog) (some 4) rfl rfl (ox_assign (v := (.bool false)) rfl ?_)
  refine xl_nil ?_
  refine xc_seq ?_
  refine xc_seq ?_
  refine xc_region ?_
  refine xl_op (P := Try.prog) (some 6) rfl rfl (ox_move (v := (.slice Aa L.length ca)) rfl ?_)
  refine xl_op (P := Try.prog) (some 7) rfl rfl (ox_len (A := Aa) (n := L.length) (cp := ca) rfl tU_54 rfl ?_)
  refine xl_op (P := Try.prog) (some 8) rfl rfl (ox_move (v := (.slice Ab L.length cb)) rfl ?_)
  refine xl_op (P := Try.prog) (some 9) rfl rfl (ox_len (A := Ab) (n := L.length) (cp := cb) rfl tU_54 rfl ?_)
  refine xl_op (P := Try.prog) (some 10) rfl rfl (ox_neq (k := .i64) (a := (((L.length : Nat) : Int))) (b := (((L.length : Nat) : Int))) rfl rfl ?_)
  refine xl_nil ?_
  refine xc_cond_f (congrArg Value.bool (by simp : decide ((((L.length : Nat) : Int) : Int) ≠ (((L.length : Nat) : Int))) = false)) ?_
  refine xc_skip ?_
  refine xc_seq ?_
  refine xc_seq ?_
  refine xc_region ?_
  refine xl_op (P := Try.prog) (some 5) rfl rfl (ox_assign (v := (.int .i64 0)) rfl ?_)
  refine xl_nil ?_
  refine xc_block ?_
  refine xc_loopN (fun m f W => ∃ (k : Nat), m = L.length - k ∧ k ≤ L.length ∧ f 0 = (.slice Aa L.length ca) ∧ f 1 = (.slice Ab L.length cb) ∧ f 5 = (.int .i64 ((k : Nat))) ∧ Ext w W) (L.length) ?_ ?_
  · exact ⟨0, by omega, by omega, rfl, rfl, (by first | exact rfl | exact (congrArg (Value.int .i64) (by omega))), (Chg.refl _ _)⟩
  · rintro m f1 w1 ⟨k, hm, hk, g0_f1, g1_f1, g5_f1, e_f1⟩
    have hzE := e_f1.size
    refine xc_seq ?_
    refine xc_seq ?_
    refine xc_region ?_
    refine xl_op (P := Try.prog) (some 11) rfl rfl (ox_move (v := (.int .i64 ((k : Nat)))) g5_f1 ?_)
    refine xl_op (P := Try.prog) (some 12) rfl rfl (ox_move (v := (.slice Aa L.length ca)) g0_f1 ?_)
    refine xl_op (P := Try.prog) (some 13) rfl rfl (ox_len (A := Aa) (n := L.length) (cp := ca) rfl tU_54 rfl ?_)
    refine xl_op (P := Try.prog) (some 14) rfl rfl (ox_lss (k := .i64) (a := ((k : Nat))) (b := (((L.length : Nat) : Int))) rfl rfl ?_)
    refine xl_nil ?_
    refine xc_if (p := ((k : Nat) : Int) < (((L.length : Nat) : Int))) rfl (fun h1 => ?_) (fun h1 => ?_)
    · skip
      have hkl : k < L.length := by omega
      obtain ⟨z, hz⟩ := get_ex (l := L) (i := k) hkl
      obtain ⟨ga, oa, rfl⟩ := ha.ex (by intro hh; cases L with | nil => simp at hz | cons q l => simp [opC, OpD.cs] at hh)
      have hca : CellsL w ga (oa + k * 9) z.cs := cellsL_flat OpD.cs 9 (fun _ => rfl) ha.cells hz
      obtain ⟨gb, ob, rfl⟩ := hb.ex (by intro hh; cases L with | nil => simp at hz | cons q l => simp [opC, OpD.cs] at hh)
      have hcb : CellsL w gb (ob + k * 9) z.cs := cellsL_flat OpD.cs 9 (fun _ => rfl) hb.cells hz
      refine xc_skip ?_
      refine xc_seq ?_
      refine xc_block ?_
      refine xc_seq ?_
      refine xc_regionE [] (fun W_ => Chg (fun _ => False) w1 W_) hmix ?_
      intro w2 e1 z1
      have hS1 : Chg (fun _ => False) w1 w2 := Ext.to e1
      refine xd_pure 0 (some 17) rfl rfl (by kernel_rfl) (v := (.slice (some ⟨ga, oa, none⟩) L.length ca)) (.inl ⟨rfl, fun W_ hW_ => ox_move (v := (.slice (some ⟨ga, oa, none⟩) L.length ca)) g0_f1 ⟨rfl, rfl⟩⟩) ?_
      refine xd_pure 1 (some 18) rfl rfl (by kernel_rfl) (v := (.int .i64 ((k : Nat)))) (.inl ⟨rfl, fun W_ hW_ => ox_move (v := (.int .i64 ((k : Nat)))) g5_f1 ⟨rfl, rfl⟩⟩) ?_
      refine xd_pure 2 (some 19) rfl rfl (by kernel_rfl) (v := (.pointer (some ⟨ga, oa + k * 9, none⟩))) (.inl ⟨rfl, fun W_ hW_ => ox_indexAddr (b := ga) (o := oa) (i := ((k : Nat))) tE_54 rfl rfl (by omega) (by omega) ⟨rfl, rfl⟩⟩) ?_
      refine xd_take 3 (some 20) rfl rfl (by kernel_rfl) (v := (.agg #[(.int .i64 z.d), (.int .i64 z.id), (.int .i64 z.kind), (.int .i64 z.n), (.int .i64 z.kids), (.int .i64 z.lf.kind), (.int .i64 z.lf.skip), (.int .i64 z.lf.len), (.int .i64 z.lf.reach)])) (.inl ⟨rfl, fun W_ hW_ => ox_loadN (vs := [(.int .i64 z.d), (.int .i64 z.id), (.int .i64 z.kind), (.int .i64 z.n), (.int .i64 z.kids), (.int .i64 z.lf.kind), (.int .i64 z.lf.skip), (.int .i64 z.lf.len), (.int .i64 z.lf.reach)]) tA_88 tS_88 rfl rfl (by simpa [OpD.cs] using CellsL.keep (Ext.trans e_f1 hW_) not_false hca) ⟨rfl, rfl⟩⟩) hS1 ?_
      refine xd_pure 4 (some 21) rfl rfl (by kernel_rfl) (v := (.slice (some ⟨gb, ob, none⟩) L.length cb)) (.inl ⟨rfl, fun W_ hW_ => ox_move (v := (.slice (some ⟨gb, ob, none⟩) L.length cb)) g1_f1 ⟨rfl, rfl⟩⟩) ?_
      refine xd_pure 5 (some 22) rfl rfl (by kernel_rfl) (v := (.int .i64 ((k : Nat)))) (.inl ⟨rfl, fun W_ hW_ => ox_move (v := (.int .i64 ((k : Nat)))) g5_f1 ⟨rfl, rfl⟩⟩) ?_
      refine xd_pure 6 (some 23) rfl rfl (by kernel_rfl) (v := (.pointer (some ⟨gb, ob + k * 9, none⟩))) (.inl ⟨rfl, fun W_ hW_ => ox_indexAddr (b := gb) (o := ob) (i := ((k : Nat))) tE_54 rfl rfl (by omega) (by omega) ⟨rfl, rfl⟩⟩) ?_
      refine xd_take 7 (some 24) rfl rfl (by kernel_rfl) (v := (.agg #[(.int .i64 z.d), (.int .i64 z.id), (.int .i64 z.kind), (.int .i64 z.n), (.int .i64 z.kids), (.int .i64 z.lf.kind), (.int .i64 z.lf.skip), (.int .i64 z.lf.len), (.int .i64 z.lf.reach)])) (.inl ⟨rfl, fun W_ hW_ => ox_loadN (vs := [(.int .i64 z.d), (.int .i64 z.id), (.int .i64 z.kind), (.int .i64 z.n), (.int .i64 z.kids), (.int .i64 z.lf.kind), (.int .i64 z.lf.skip), (.int .i64 z.lf.len), (.int .i64 z.lf.reach)]) tA_88 tS_88 rfl rfl (by simpa [OpD.cs] using CellsL.keep (Ext.trans e_f1 hW_) not_false hcb) ⟨rfl, rfl⟩⟩) hS1 ?_
      refine xd_pure 8 (some 25) rfl rfl (by kernel_rfl) (v := (.bool (!decide (((z.d : Int) = z.d ∧ (z.id : Int) = z.id ∧ (z.kind : Int) = z.kind ∧ (z.n : Int) = z.n ∧ (z.kids : Int) = z.kids ∧ (z.lf.kind : Int) = z.lf.kind ∧ (z.lf.skip : Int) = z.lf.skip ∧ (z.lf.len : Int) = z.lf.len ∧ (z.lf.reach : Int) = z.lf.reach))))) (.inl ⟨rfl, fun W_ hW_ => ox_neqF (xs := [(.int .i64 z.d), (.int .i64 z.id), (.int .i64 z.kind), (.int .i64 z.n), (.int .i64 z.kids), (.int .i64 z.lf.kind), (.int .i64 z.lf.skip), (.int .i64 z.lf.len), (.int .i64 z.lf.reach)]) (ys := [(.int .i64 z.d), (.int .i64 z.id), (.int .i64 z.kind), (.int .i64 z.n), (.int .i64 z.kids), (.int .i64 z.lf.kind), (.int .i64 z.lf.skip), (.int .i64 z.lf.len), (.int .i64 z.lf.reach)]) (p := ((z.d : Int) = z.d ∧ (z.id : Int) = z.id ∧ (z.kind : Int) = z.kind ∧ (z.n : Int) = z.n ∧ (z.kids : Int) = z.kids ∧ (z.lf.kind : Int) = z.lf.kind ∧ (z.lf.skip : Int) = z.lf.skip ∧ (z.lf.len : Int) = z.lf.len ∧ (z.lf.reach : Int) = z.lf.reach)) fS_88 rfl rfl rfl rfl (by simp) ⟨rfl, rfl⟩⟩) ?_
      refine xd_done (by kernel_rfl) ?_ _
      refine xc_cond_f (congrArg Value.bool (by simp : (!decide (((z.d : Int) = z.d ∧ (z.id : Int) = z.id ∧ (z.kind : Int) = z.kind ∧ (z.n : Int) = z.n ∧ (z.kids : Int) = z.kids ∧ (z.lf.kind : Int) = z.lf.kind ∧ (z.lf.skip : Int) = z.lf.skip ∧ (z.lf.len : Int) = z.lf.len ∧ (z.lf.reach : Int) = z.lf.reach))) = false)) ?_
      refine xc_skip ?_
      refine xc_region ?_
      refine xl_op (P := Try.prog) (some 15) rfl rfl (ox_move (v := (.int .i64 ((k : Nat)))) g5_f1 ?_)
      refine xl_op (P := Try.prog) (some 16) rfl rfl (ox_add64 (a := ((k : Nat))) (b := 1) rfl rfl (by omega) ?_)
      refine xl_op (P := Try.prog) (some 5) rfl rfl (ox_assign (v := (.int .i64 ((k : Nat) + 1))) rfl ?_)
      refine xl_nil ?_
      have hsz0 := e1.size
      exact ⟨rfl, L.length - (k + 1), by omega, k + 1, by omega, by omega, g0_f1, g1_f1, (by first | exact rfl | exact (congrArg (Value.int .i64) (by omega))), (Ext.trans e_f1 e1)⟩
    · skip
      refine xc_exit ?_
      refine xc_seq ?_
      refine xc_region ?_
      refine xl_op (P := Try.prog) (some 4) rfl rfl (ox_assign (v := (.bool true)) rfl ?_)
      refine xl_nil ?_
      refine xc_ret ?_
      change leaves _ _ _ _ _ _ _
      refine leaves_nil (n := 26) (rs := [.tmp 4]) (vs := [(.bool true)]) rfl ⟨⟨by decide, rfl⟩, trivial⟩ ?_
      exact ⟨rfl, e_f1⟩

end Go.Proofs.Ythhbnodnpajljaa
