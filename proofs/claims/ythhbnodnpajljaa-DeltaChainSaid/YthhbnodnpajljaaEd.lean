/-
  The law DeltaChain, walked. No conditions.
-/
import Derived.Test.YthhbnodnpajljaaVxi
import Derived.Test.YthhbnodnpajljaaRows
import Derived.Test.YthhbnodnpajljaaEch
import Derived.Test.YthhbnodnpajljaaEa
import Derived.Test.YthhbnodnpajljaaDr
import Derived.Test.YthhbnodnpajljaaDp
import Derived.Test.YthhbnodnpajljaaDs
set_option linter.unusedVariables false
set_option linter.unusedSimpArgs false
set_option maxRecDepth 100000
set_option maxHeartbeats 4000000
namespace Go.Proofs.Ythhbnodnpajljaa
open Go Go.RowKit Go.Vx


theorem pf_17 : plainF Try.prog 17 = true := by kernel_rfl
theorem pf_18 : plainF Try.prog 18 = true := by kernel_rfl

theorem deltaChain_calls (pl bias : Int) (l1 l2 : List EB) (A1 A2 : Option Addr) (c1 c2 : Nat) (w : World) (hA1 : RowA w A1 (edC (l1.map EB.e))) (hn1 : l1.length * 40 ≤ 140737488351232) (hb1 : ∀ x ∈ l1, x.e.n ≤ 140737488351232) (hr1 : ∀ x ∈ l1, x.rd w) (hA2 : RowA w A2 (edC (l2.map EB.e))) (hn2 : l2.length * 40 ≤ 140737488351232) (hb2 : ∀ x ∈ l2, x.e.n ≤ 140737488351232) (hr2 : ∀ x ∈ l2, x.rd w) :
    Calls Try.prog 7 #[(.int .i64 pl), (.int .i64 bias), (.slice A1 l1.length c1), (.slice A2 l2.length c2)] w (Ret (fun v w' => v = .bool true ∧ Ext w w')) := by
  obtain ⟨pA, rA, hmA⟩ : ∃ p e, move pl bias ((l1.map EB.e).map Ed.e3) = (p, e) := ⟨_, _, rfl⟩
  obtain ⟨pB, rB, hmB⟩ : ∃ p e, move pl bias (((l1.map EB.e).map Ed.e3) ++ ((l2.map EB.e).map Ed.e3)) = (p, e) := ⟨_, _, rfl⟩
  obtain ⟨pC, rC, hmC⟩ : ∃ p e, move pA bias ((l2.map EB.e).map Ed.e3) = (p, e) := ⟨_, _, rfl⟩
  have hplain : l1.length + l2.length ≤ 4096 → (rA ≠ 0 → rA = rB ∧ pA = 0 ∧ pB = 0) ∧ (rA = 0 → pC = pB ∧ rC = rB) := fun hh => by
    have h9 := move_chain (p := pl) (bias := bias) (a := ((l1.map EB.e).map Ed.e3)) (b := ((l2.map EB.e).map Ed.e3)) (by simpa using hh)
    rw [hmA, hmB] at h9; simp only at h9; rw [hmC] at h9; exact h9
  refine calls_xc (n := 73) (f := fun s_ => [(.int .i64 pl), (.int .i64 bias), (.slice A1 l1.length c1), (.slice A2 l2.length c2)].getD s_ undef) Try.func7 rfl rfl (by simp) (fun s_ => by simp) ?_
  refine xc_seq ?_
  refine xc_region ?_
  refine xl_op (P := Try.prog) (some 8) rfl rfl (ox_assign (v := (.bool false)) rfl ?_)
  refine xl_nil ?_
  refine xc_seq ?_
  refine xc_seq ?_
  refine xc_region ?_
  refine xl_op (P := Try.prog) (some 16) rfl rfl (ox_callE (al := []) pf_17 rfl (ret_mono (head_calls w) ?_))
  rintro _ w1 ⟨rfl, e1⟩
  have he1 := e1.size
  refine xl_op (P := Try.prog) (some 17) rfl rfl (ox_not (b := true) rfl ?_)
  refine xl_nil ?_
  refine xc_cond_f rfl ?_
  refine xc_skip ?_
  refine xc_seq ?_
  refine xc_seq ?_
  refine xc_region ?_
  refine xl_op (P := Try.prog) (some 18) rfl rfl (ox_move (v := (.slice A1 l1.length c1)) rfl ?_)
  refine xl_op (P := Try.prog) (some 19) rfl rfl (ox_len (A := A1) (n := l1.length) (cp := c1) rfl tU_43 rfl ?_)
  refine xl_op (P := Try.prog) (some 20) rfl rfl (ox_move (v := (.slice A2 l2.length c2)) rfl ?_)
  refine xl_op (P := Try.prog) (some 21) rfl rfl (ox_len (A := A2) (n := l2.length) (cp := c2) rfl tU_43 rfl ?_)
  refine xl_op (P := Try.prog) (some 22) rfl rfl (ox_add64 (a := (((l1.length : Nat) : Int))) (b := (((l2.length : Nat) : Int))) rfl rfl (by omega) ?_)
  refine xl_op (P := Try.prog) (some 23) rfl rfl (ox_gtr (k := .i64) (a := (((l1.length : Nat) : Int) + (((l2.length : Nat) : Int)))) (b := 4096) rfl rfl ?_)
  refine xl_nil ?_
  refine xc_if (p := (4096 : Int) < (((l1.length : Nat) : Int) + (((l2.length : Nat) : Int)))) rfl (fun h1 => ?_) (fun h1 => ?_)
  · skip
    refine xc_seq ?_
    refine xc_region ?_
    refine xl_op (P := Try.prog) (some 8) rfl rfl (ox_assign (v := (.bool true)) rfl ?_)
    refine xl_nil ?_
    refine xc_ret ?_
    change leaves _ _ _ _ _ _ _
    refine leaves_nil (n := 73) (rs := [.tmp 8]) (vs := [(.bool true)]) rfl ⟨⟨by decide, rfl⟩, trivial⟩ ?_
    exact ⟨rfl, e1⟩
  · skip
    refine xc_skip ?_
    refine xc_seq ?_
    refine xc_region ?_
    refine xl_op (P := Try.prog) (some 25) rfl rfl (ox_move (v := (.int .i64 pl)) rfl ?_)
    refine xl_op (P := Try.prog) (some 26) rfl rfl (ox_move (v := (.int .i64 bias)) rfl ?_)
    refine xl_op (P := Try.prog) (some 27) rfl rfl (ox_move (v := (.slice A1 l1.length c1)) rfl ?_)
    refine xl_op (P := Try.prog) (some 28) rfl rfl (ox_callE (al := [(.slice A1 l1.length c1)]) pf_18 rfl (ret_mono (edits_calls l1 A1 c1 w1 (RowA.ext hA1 e1) hn1 hb1 (fun x hx => (hr1 x hx).ext e1)) ?_))
    rintro _ w2 ⟨gz1, cz1, ysz1, rfl, hcmz1, hOz1, hgz1, hCz1, e2⟩
    have he2 := e2.size
    have hylz1 : ysz1.length = l1.length := hCz1.1.symm
    have heqz1 := hCz1.e3
    refine xl_op (P := Try.prog) (some 29) rfl rfl (ox_callE (al := [(.int .i64 pl), (.int .i64 bias), (.slice (some ⟨gz1, 0, none⟩) l1.length cz1)]) pf_19 rfl (ret_mono ((by have h := move_calls pl bias ysz1 (some ⟨gz1, 0, none⟩) cz1 w2 (Own.front (ms := [edM]) hOz1 hylz1); rw [hylz1, heqz1, hmA] at h; exact h)) ?_))
    rintro _ w3 ⟨rfl, e3⟩
    have he3 := e3.size
    refine xl_op (P := Try.prog) (some 24) rfl rfl (ox_move (v := (.tuple #[(.int .i64 pA), (.int .i64 rA)])) rfl ?_)
    refine xl_op (P := Try.prog) (some 30) rfl rfl (ox_extract (vs := #[(.int .i64 pA), (.int .i64 rA)]) (v := (.int .i64 pA)) rfl rfl ?_)
    refine xl_op (P := Try.prog) (some 31) rfl rfl (ox_extract (vs := #[(.int .i64 pA), (.int .i64 rA)]) (v := (.int .i64 rA)) rfl rfl ?_)
    refine xl_op (P := Try.prog) (some 9) rfl rfl (ox_assign (v := (.int .i64 pA)) rfl ?_)
    refine xl_op (P := Try.prog) (some 10) rfl rfl (ox_assign (v := (.int .i64 rA)) rfl ?_)
    refine xl_nil ?_
    refine xc_seq ?_
    refine xc_region ?_
    refine xl_op (P := Try.prog) (some 32) rfl rfl (ox_move (v := (.slice A1 l1.length c1)) rfl ?_)
    refine xl_op (P := Try.prog) (some 33) rfl rfl (ox_callE (al := [(.slice A1 l1.length c1)]) pf_18 rfl (ret_mono (edits_calls l1 A1 c1 w3 (RowA.ext hA1 (Ext.trans (Ext.trans e1 e2) e3)) hn1 hb1 (fun x hx => (hr1 x hx).ext (Ext.trans (Ext.trans e1 e2) e3))) ?_))
    rintro _ w4 ⟨gz2, cz2, ysz2, rfl, hcmz2, hOz2, hgz2, hCz2, e4⟩
    have he4 := e4.size
    have hylz2 : ysz2.length = l1.length := hCz2.1.symm
    have heqz2 := hCz2.e3
    refine xl_op (P := Try.prog) (some 34) rfl rfl (ox_move (v := (.slice A2 l2.length c2)) rfl ?_)
    refine xl_op (P := Try.prog) (some 35) rfl rfl (ox_callE (al := [(.slice A2 l2.length c2)]) pf_18 rfl (ret_mono (edits_calls l2 A2 c2 w4 (RowA.ext hA2 (Ext.trans (Ext.trans (Ext.trans e1 e2) e3) e4)) hn2 hb2 (fun x hx => (hr2 x hx).ext (Ext.trans (Ext.trans (Ext.trans e1 e2) e3) e4))) ?_))
    rintro _ w5 ⟨gz3, cz3, ysz3, rfl, hcmz3, hOz3, hgz3, hCz3, e5⟩
    have he5 := e5.size
    have hylz3 : ysz3.length = l2.length := hCz3.1.symm
    have heqz3 := hCz3.e3
    have hall0 := ((hOz2.ext e5)).take (m := l1.length) (by omega)
    have htk0 : (edC (ysz2 ++ [edM])).take (l1.length * 3) = edC ysz2 := by rw [edC, List.flatMap_append]; exact List.take_left' (by have := edC_len ysz2; unfold edC at this; omega)
    rw [htk0] at hall0
    have hlall : ∀ _k, ((.slice (some ⟨gz2, 0, none⟩) l1.length cz2) : Value).ownBlock = some _k → w.heap.size ≤ _k := fun _k _h => by simp [Value.ownBlock] at _h; omega
    refine xl_op (P := Try.prog) (some 36) rfl rfl (ox_appendR (n := l1.length) (m := l2.length) (xs := ((edC ysz2))) (news := ((edC ysz3))) rfl tE_43 rfl (by decide) (v := (.slice (some ⟨gz2, 0, none⟩) l1.length cz2)) rfl rfl hall0 (by rw [edC_len, hylz3]) (Own.front (ms := [edM]) hOz3 hylz3) (edC_one _) (by omega) (by omega) ?_)
    intro v1 w6 o1 e6 at1 nil1
    have he6 := e6.size
    obtain ⟨A1, c1, rfl, hc1⟩ := o1.shape
    have low1 : ∀ _k, (Value.slice A1 (l1.length + l2.length) c1).ownBlock = some _k → w.heap.size ≤ _k := fun _k _h => by rcases at1 with _e | _e <;> rw [_e] at _h; exact hlall _k _h; exact (by cases _h; omega)
    refine xl_op (P := Try.prog) (some 11) rfl rfl (ox_assign (v := (.slice A1 (l1.length + l2.length) c1)) rfl ?_)
    refine xl_nil ?_
    refine xc_seq ?_
    refine xc_region ?_
    refine xl_op (P := Try.prog) (some 38) rfl rfl (ox_move (v := (.int .i64 pl)) rfl ?_)
    refine xl_op (P := Try.prog) (some 39) rfl rfl (ox_move (v := (.int .i64 bias)) rfl ?_)
    refine xl_op (P := Try.prog) (some 40) rfl rfl (ox_move (v := (.slice A1 (l1.length + l2.length) c1)) rfl ?_)
    refine xl_op (P := Try.prog) (some 41) rfl rfl (ox_callE (al := [(.int .i64 pl), (.int .i64 bias), (.slice A1 (l1.length + l2.length) c1)]) pf_19 rfl (ret_mono ((by have h := move_calls pl bias (ysz2 ++ ysz3) A1 c1 w6 (by rw [edC, List.flatMap_append]; exact Own.rowO o1); rw [List.length_append, hylz2, hylz3, List.map_append, heqz2, heqz3, hmB] at h; exact h)) ?_))
    rintro _ w7 ⟨rfl, e7⟩
    have he7 := e7.size
    refine xl_op (P := Try.prog) (some 37) rfl rfl (ox_move (v := (.tuple #[(.int .i64 pB), (.int .i64 rB)])) rfl ?_)
    refine xl_op (P := Try.prog) (some 42) rfl rfl (ox_extract (vs := #[(.int .i64 pB), (.int .i64 rB)]) (v := (.int .i64 pB)) rfl rfl ?_)
    refine xl_op (P := Try.prog) (some 43) rfl rfl (ox_extract (vs := #[(.int .i64 pB), (.int .i64 rB)]) (v := (.int .i64 rB)) rfl rfl ?_)
    refine xl_op (P := Try.prog) (some 12) rfl rfl (ox_assign (v := (.int .i64 pB)) rfl ?_)
    refine xl_op (P := Try.prog) (some 13) rfl rfl (ox_assign (v := (.int .i64 rB)) rfl ?_)
    refine xl_nil ?_
    refine xc_seq ?_
    refine xc_seq ?_
    refine xc_region ?_
    refine xl_op (P := Try.prog) (some 44) rfl rfl (ox_move (v := (.int .i64 rA)) rfl ?_)
    refine xl_op (P := Try.prog) (some 45) rfl rfl (ox_neq (k := .i64) (a := rA) (b := 0) rfl rfl ?_)
    refine xl_nil ?_
    refine xc_if (p := (rA : Int) ≠ 0) rfl (fun h2 => ?_) (fun h2 => ?_)
    · skip
      have hpl := hplain (by omega)
      obtain ⟨hq1, hq2, hq3⟩ := hpl.1 h2
      refine xc_seq ?_
      refine xc_region ?_
      refine xl_op (P := Try.prog) (some 46) rfl rfl (ox_move (v := (.int .i64 rA)) rfl ?_)
      refine xl_op (P := Try.prog) (some 47) rfl rfl (ox_move (v := (.int .i64 rB)) rfl ?_)
      refine xl_op (P := Try.prog) (some 48) rfl rfl (ox_eql (k := .i64) (a := rA) (b := rB) rfl rfl ?_)
      refine xl_op (P := Try.prog) (some 49) rfl rfl (ox_move (v := (.bool (decide ((rA : Int) = rB)))) rfl ?_)
      refine xl_opg (P := Try.prog) (some 50) (j := 3) (b := true) rfl rfl (congrArg some (decide_eq_true hq1)) (ox_move (v := (.int .i64 pA)) rfl ?_)
      refine xl_opg (P := Try.prog) (some 51) (j := 3) (b := true) rfl rfl (congrArg some (decide_eq_true hq1)) (ox_eql (k := .i64) (a := pA) (b := 0) rfl rfl ?_)
      refine xl_op (P := Try.prog) (some 52) rfl rfl (ox_pick_t (v := (.bool (decide ((pA : Int) = 0)))) (congrArg Value.bool (decide_eq_true hq1)) rfl ?_)
      refine xl_op (P := Try.prog) (some 53) rfl rfl (ox_move (v := (.bool (decide ((pA : Int) = 0)))) rfl ?_)
      refine xl_opg (P := Try.prog) (some 54) (j := 7) (b := true) rfl rfl (congrArg some (decide_eq_true hq2)) (ox_move (v := (.int .i64 pB)) rfl ?_)
      refine xl_opg (P := Try.prog) (some 55) (j := 7) (b := true) rfl rfl (congrArg some (decide_eq_true hq2)) (ox_eql (k := .i64) (a := pB) (b := 0) rfl rfl ?_)
      refine xl_op (P := Try.prog) (some 56) rfl rfl (ox_pick_t (v := (.bool (decide ((pB : Int) = 0)))) (congrArg Value.bool (decide_eq_true hq2)) rfl ?_)
      refine xl_op (P := Try.prog) (some 8) rfl rfl (ox_assign (v := (.bool (decide ((pB : Int) = 0)))) rfl ?_)
      refine xl_nil ?_
      refine xc_ret ?_
      change leaves _ _ _ _ _ _ _
      refine leaves_nil (n := 73) (rs := [.tmp 8]) (vs := [(.bool (decide ((pB : Int) = 0)))]) rfl ⟨⟨by decide, rfl⟩, trivial⟩ ?_
      exact ⟨(congrArg Value.bool (decide_eq_true hq3)), (Ext.trans (Chg.trans (Ext.trans (Ext.trans (Ext.trans (Ext.trans e1 e2) e3) e4) e5) e6 (fun b hb hl => absurd hl (by have := hlall b hb; omega))) e7)⟩
    · skip
      have hpl := hplain (by omega)
      obtain ⟨hq1, hq2⟩ := hpl.2 (by omega)
      refine xc_skip ?_
      refine xc_seq ?_
      refine xc_region ?_
      refine xl_op (P := Try.prog) (some 58) rfl rfl (ox_move (v := (.int .i64 pA)) rfl ?_)
      refine xl_op (P := Try.prog) (some 59) rfl rfl (ox_move (v := (.int .i64 bias)) rfl ?_)
      refine xl_op (P := Try.prog) (some 60) rfl rfl (ox_move (v := (.slice A2 l2.length c2)) rfl ?_)
      refine xl_op (P := Try.prog) (some 61) rfl rfl (ox_callE (al := [(.slice A2 l2.length c2)]) pf_18 rfl (ret_mono (edits_calls l2 A2 c2 w7 (RowA.ext hA2 (Ext.trans (Chg.trans (Ext.trans (Ext.trans (Ext.trans (Ext.trans e1 e2) e3) e4) e5) e6 (fun b hb hl => absurd hl (by have := hlall b hb; omega))) e7)) hn2 hb2 (fun x hx => (hr2 x hx).ext (Ext.trans (Chg.trans (Ext.trans (Ext.trans (Ext.trans (Ext.trans e1 e2) e3) e4) e5) e6 (fun b hb hl => absurd hl (by have := hlall b hb; omega))) e7))) ?_))
      rintro _ w8 ⟨gz4, cz4, ysz4, rfl, hcmz4, hOz4, hgz4, hCz4, e8⟩
      have he8 := e8.size
      have hylz4 : ysz4.length = l2.length := hCz4.1.symm
      have heqz4 := hCz4.e3
      refine xl_op (P := Try.prog) (some 62) rfl rfl (ox_callE (al := [(.int .i64 pA), (.int .i64 bias), (.slice (some ⟨gz4, 0, none⟩) l2.length cz4)]) pf_19 rfl (ret_mono ((by have h := move_calls pA bias ysz4 (some ⟨gz4, 0, none⟩) cz4 w8 (Own.front (ms := [edM]) hOz4 hylz4); rw [hylz4, heqz4, hmC] at h; exact h)) ?_))
      rintro _ w9 ⟨rfl, e9⟩
      have he9 := e9.size
      refine xl_op (P := Try.prog) (some 57) rfl rfl (ox_move (v := (.tuple #[(.int .i64 pC), (.int .i64 rC)])) rfl ?_)
      refine xl_op (P := Try.prog) (some 63) rfl rfl (ox_extract (vs := #[(.int .i64 pC), (.int .i64 rC)]) (v := (.int .i64 pC)) rfl rfl ?_)
      refine xl_op (P := Try.prog) (some 64) rfl rfl (ox_extract (vs := #[(.int .i64 pC), (.int .i64 rC)]) (v := (.int .i64 rC)) rfl rfl ?_)
      refine xl_op (P := Try.prog) (some 14) rfl rfl (ox_assign (v := (.int .i64 pC)) rfl ?_)
      refine xl_op (P := Try.prog) (some 15) rfl rfl (ox_assign (v := (.int .i64 rC)) rfl ?_)
      refine xl_nil ?_
      refine xc_seq ?_
      refine xc_region ?_
      refine xl_op (P := Try.prog) (some 65) rfl rfl (ox_move (v := (.int .i64 pC)) rfl ?_)
      refine xl_op (P := Try.prog) (some 66) rfl rfl (ox_move (v := (.int .i64 pB)) rfl ?_)
      refine xl_op (P := Try.prog) (some 67) rfl rfl (ox_eql (k := .i64) (a := pC) (b := pB) rfl rfl ?_)
      refine xl_op (P := Try.prog) (some 68) rfl rfl (ox_move (v := (.bool (decide ((pC : Int) = pB)))) rfl ?_)
      refine xl_opg (P := Try.prog) (some 69) (j := 3) (b := true) rfl rfl (congrArg some (decide_eq_true hq1)) (ox_move (v := (.int .i64 rC)) rfl ?_)
      refine xl_opg (P := Try.prog) (some 70) (j := 3) (b := true) rfl rfl (congrArg some (decide_eq_true hq1)) (ox_move (v := (.int .i64 rB)) rfl ?_)
      refine xl_opg (P := Try.prog) (some 71) (j := 3) (b := true) rfl rfl (congrArg some (decide_eq_true hq1)) (ox_eql (k := .i64) (a := rC) (b := rB) rfl rfl ?_)
      refine xl_op (P := Try.prog) (some 72) rfl rfl (ox_pick_t (v := (.bool (decide ((rC : Int) = rB)))) (congrArg Value.bool (decide_eq_true hq1)) rfl ?_)
      refine xl_op (P := Try.prog) (some 8) rfl rfl (ox_assign (v := (.bool (decide ((rC : Int) = rB)))) rfl ?_)
      refine xl_nil ?_
      refine xc_ret ?_
      change leaves _ _ _ _ _ _ _
      refine leaves_nil (n := 73) (rs := [.tmp 8]) (vs := [(.bool (decide ((rC : Int) = rB)))]) rfl ⟨⟨by decide, rfl⟩, trivial⟩ ?_
      exact ⟨(congrArg Value.bool (decide_eq_true hq2)), (Ext.trans (Ext.trans (Ext.trans (Chg.trans (Ext.trans (Ext.trans (Ext.trans (Ext.trans e1 e2) e3) e4) e5) e6 (fun b hb hl => absurd hl (by have := hlall b hb; omega))) e7) e8) e9)⟩

end Go.Proofs.Ythhbnodnpajljaa
