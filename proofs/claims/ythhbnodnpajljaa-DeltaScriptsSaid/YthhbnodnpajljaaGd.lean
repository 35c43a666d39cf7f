/-
  The law DeltaScripts, walked. No conditions.
-/
import Derived.Test.YthhbnodnpajljaaVxi
import Derived.Test.YthhbnodnpajljaaRows
import Derived.Test.YthhbnodnpajljaaGc
import Derived.Test.YthhbnodnpajljaaGa
import Derived.Test.YthhbnodnpajljaaDq
import Derived.Test.YthhbnodnpajljaaDs
set_option linter.unusedVariables false
set_option linter.unusedSimpArgs false
set_option maxRecDepth 100000
set_option maxHeartbeats 4000000
namespace Go.Proofs.Ythhbnodnpajljaa
open Go Go.RowKit Go.Vx


theorem pf_13 : plainF Try.prog 13 = true := by kernel_rfl
theorem pf_23 : plainF Try.prog 23 = true := by kernel_rfl
theorem tE_23 : sliceT Try.prog 23 = some (33, 2, 16, (.agg #[(.int .i64 0), (.int .i64 0)])) := by kernel_rfl
theorem tU_23 : Try.prog.underlying 23 = some (.slice 33) := by kernel_rfl
theorem tV_33 : arrT Try.prog 33 = some (2, 3, 1) := by kernel_rfl

theorem deltaScripts_calls (l : List PB) (A0 : Option Addr) (c0 : Nat) (ps : List (Int × Int)) (A1 : Option Addr) (c1 : Nat) (w : World) (hA0 : RowA w A0 (pbC l)) (hn0 : l.length ≤ 4611686018427387904) (hok : ∀ x ∈ l, x.ok w) (hA1 : RowA w A1 (prC ps)) (hn1 : ps.length ≤ 4611686018427387904) :
    Calls Try.prog 5 #[(.slice A0 l.length c0), (.slice A1 ps.length c1)] w (Ret (fun v w' => v = .bool true ∧ Ext w w')) := by
  refine calls_xc (n := 84) (f := fun s_ => [(.slice A0 l.length c0), (.slice A1 ps.length c1)].getD s_ undef) Try.func5 rfl rfl (by simp) (fun s_ => by simp) ?_
  refine xc_seq ?_
  refine xc_region ?_
  refine xl_op (P := Try.prog) (some 4) rfl rfl (ox_assign (v := (.bool false)) rfl ?_)
  refine xl_nil ?_
  refine xc_seq ?_
  refine xc_region ?_
  refine xl_op (P := Try.prog) (some 11) rfl rfl (ox_move (v := (.slice A0 l.length c0)) rfl ?_)
  refine xl_op (P := Try.prog) (some 12) rfl rfl (ox_callE (al := [(.slice A0 l.length c0)]) pf_13 rfl (ret_mono (grove_calls l A0 c0 w (RowA.ext hA0 (Chg.refl _ _)) (by omega) (fun x hx => (hok x hx).ext (Chg.refl _ _))) ?_))
  rintro _ w1 ⟨bg, s, ts, us, An, Ap, cn, cp, rfl, hGM, hlbg, hls, e1⟩
  have he1 := e1.size
  have hul := hGM.ok.len
  have hfew := hGM.few
  refine xl_op (P := Try.prog) (some 10) rfl rfl (ox_move (v := (.tuple #[(.pointer (some ⟨bg, 0, none⟩)), (.bool true)])) rfl ?_)
  refine xl_op (P := Try.prog) (some 13) rfl rfl (ox_extract (vs := #[(.pointer (some ⟨bg, 0, none⟩)), (.bool true)]) (v := (.pointer (some ⟨bg, 0, none⟩))) rfl rfl ?_)
  refine xl_op (P := Try.prog) (some 14) rfl rfl (ox_extract (vs := #[(.pointer (some ⟨bg, 0, none⟩)), (.bool true)]) (v := (.bool true)) rfl rfl ?_)
  refine xl_op (P := Try.prog) (some 5) rfl rfl (ox_assign (v := (.pointer (some ⟨bg, 0, none⟩))) rfl ?_)
  refine xl_op (P := Try.prog) (some 6) rfl rfl (ox_assign (v := (.bool true)) rfl ?_)
  refine xl_nil ?_
  refine xc_seq ?_
  refine xc_seq ?_
  refine xc_region ?_
  refine xl_op (P := Try.prog) (some 7) rfl rfl (ox_assign (v := (.int .i64 0)) rfl ?_)
  refine xl_nil ?_
  refine xc_block ?_
  have hEx1 := e1
  have hEx1z := hEx1.size
  refine xc_loopN (fun m f W => ∃ (i : Nat), m = ps.length - i ∧ i ≤ ps.length ∧ f 5 = (.pointer (some ⟨bg, 0, none⟩)) ∧ f 1 = (.slice A1 ps.length c1) ∧ f 7 = (.int .i64 ((i : Nat))) ∧ f 6 = (.bool true) ∧ Ext w1 W) (ps.length) ?_ ?_
  · exact ⟨0, by omega, by omega, rfl, rfl, (by first | exact rfl | exact (congrArg (Value.int .i64) (by omega))), rfl, (Chg.refl _ _)⟩
  · rintro m f1 w2 ⟨i, hm, hi, g5_f1, g1_f1, g7_f1, g6_f1, x_f1⟩
    have hzX := x_f1.size
    refine xc_seq ?_
    refine xc_seq ?_
    refine xc_region ?_
    refine xl_op (P := Try.prog) (some 15) rfl rfl (ox_move (v := (.int .i64 ((i : Nat)))) g7_f1 ?_)
    refine xl_op (P := Try.prog) (some 16) rfl rfl (ox_move (v := (.slice A1 ps.length c1)) g1_f1 ?_)
    refine xl_op (P := Try.prog) (some 17) rfl rfl (ox_len (A := A1) (n := ps.length) (cp := c1) rfl tU_23 rfl ?_)
    refine xl_op (P := Try.prog) (some 18) rfl rfl (ox_lss (k := .i64) (a := ((i : Nat))) (b := (((ps.length : Nat) : Int))) rfl rfl ?_)
    refine xl_op (P := Try.prog) (some 19) rfl rfl (ox_move (v := (.bool (decide (((i : Nat) : Int) < (((ps.length : Nat) : Int)))))) rfl ?_)
    refine xl_may (P := Try.prog) (some 20) (j := 4) (b := true) (((decide (((i : Nat) : Int) < (((ps.length : Nat) : Int))))) = true) (.bool (decide (((i : Nat) : Int) < (((ps.length : Nat) : Int))))) (.pointer (some ⟨bg, 0, none⟩)) rfl rfl rfl (may_b ((decide (((i : Nat) : Int) < (((ps.length : Nat) : Int))))) true) (fun hp => ox_move (v := (.pointer (some ⟨bg, 0, none⟩))) g5_f1 ⟨rfl, rfl⟩) ?_
    refine xl_may (P := Try.prog) (some 21) (j := 4) (b := true) (((decide (((i : Nat) : Int) < (((ps.length : Nat) : Int))))) = true) (.bool (decide (((i : Nat) : Int) < (((ps.length : Nat) : Int))))) (.pointer (some ⟨bg, 0, none⟩)) rfl rfl rfl (may_b ((decide (((i : Nat) : Int) < (((ps.length : Nat) : Int))))) true) (fun hp => ox_nilCheck (p := ⟨bg, 0, none⟩) (if_pos (α := Value) (t := (.pointer (some ⟨bg, 0, none⟩))) (e := undef) hp) ⟨rfl, rfl⟩) ?_
    refine xl_may (P := Try.prog) (some 22) (j := 4) (b := true) (((decide (((i : Nat) : Int) < (((ps.length : Nat) : Int))))) = true) (.bool (decide (((i : Nat) : Int) < (((ps.length : Nat) : Int))))) (.pointer (some ⟨bg, 1, none⟩)) rfl rfl rfl (may_b ((decide (((i : Nat) : Int) < (((ps.length : Nat) : Int))))) true) (fun hp => ox_fieldAddr (b := bg) (o := 0) tF_31_1 (if_pos (α := Value) (t := (.pointer (some ⟨bg, 0, none⟩))) (e := undef) hp) ⟨rfl, rfl⟩) ?_
    refine xl_may (P := Try.prog) (some 23) (j := 4) (b := true) (((decide (((i : Nat) : Int) < (((ps.length : Nat) : Int))))) = true) (.bool (decide (((i : Nat) : Int) < (((ps.length : Nat) : Int))))) (.slice An ts.length cn) rfl rfl rfl (may_b ((decide (((i : Nat) : Int) < (((ps.length : Nat) : Int))))) true) (fun hp => ox_load (v := (.slice An ts.length cn)) tA_28 (if_pos (α := Value) (t := (.pointer (some ⟨bg, 1, none⟩))) (e := undef) hp) ((hGM.g.ext x_f1).cell rfl) ⟨rfl, rfl⟩) ?_
    refine xl_may (P := Try.prog) (some 24) (j := 4) (b := true) (((decide (((i : Nat) : Int) < (((ps.length : Nat) : Int))))) = true) (.bool (decide (((i : Nat) : Int) < (((ps.length : Nat) : Int))))) (.int .i64 (((ts.length : Nat) : Int))) rfl rfl rfl (may_b ((decide (((i : Nat) : Int) < (((ps.length : Nat) : Int))))) true) (fun hp => ox_len (A := An) (n := ts.length) (cp := cn) rfl tU_28 (if_pos (α := Value) (t := (.slice An ts.length cn)) (e := undef) hp) ⟨rfl, rfl⟩) ?_
    refine xl_may (P := Try.prog) (some 25) (j := 4) (b := true) (((decide (((i : Nat) : Int) < (((ps.length : Nat) : Int))))) = true) (.bool (decide (((i : Nat) : Int) < (((ps.length : Nat) : Int))))) (.bool (decide ((0 : Int) < (((ts.length : Nat) : Int))))) rfl rfl rfl (may_b ((decide (((i : Nat) : Int) < (((ps.length : Nat) : Int))))) true) (fun hp => ox_gtr (k := .i64) (a := (((ts.length : Nat) : Int))) (b := 0) (if_pos (α := Value) (t := (.int .i64 (((ts.length : Nat) : Int)))) (e := undef) hp) rfl ⟨rfl, rfl⟩) ?_
    refine xl_op (P := Try.prog) (some 26) rfl rfl (ox_pick_and (a := ((decide (((i : Nat) : Int) < (((ps.length : Nat) : Int)))))) (b := ((decide ((0 : Int) < (((ts.length : Nat) : Int)))))) rfl (fun ha => (if_pos (α := Value) (t := (.bool (decide ((0 : Int) < (((ts.length : Nat) : Int)))))) (e := undef) ha)) rfl ?_)
    refine xl_nil ?_
    refine xc_cond (b := (((decide (((i : Nat) : Int) < (((ps.length : Nat) : Int))))) && ((decide ((0 : Int) < (((ts.length : Nat) : Int))))))) rfl (fun h1 => ?_) (fun h1 => ?_)
    · skip
      have h1' := h1
      try simp only [Bool.or_eq_true, Bool.and_eq_true, decide_eq_true_eq, Bool.or_eq_false_iff, Bool.and_eq_false_iff, decide_eq_false_iff_not, Bool.not_eq_true', Bool.not_eq_false'] at h1'
      have hil : i < ps.length := by omega
      have htp : 0 < ts.length := by omega
      obtain ⟨p, hp⟩ := get_ex (l := ps) (i := i) hil
      obtain ⟨g1, o1, rfl⟩ := hA1.ex (by intro hh; cases ps with | nil => simp at hp | cons q l => simp [prC, prCs] at hh)
      have hcpr : CellsL w g1 (o1 + i * 2) [.int .i64 p.1, .int .i64 p.2] := cellsL_flat prCs 2 (fun _ => rfl) hA1.cells hp
      obtain ⟨qa, hqa⟩ := mod_nat p.1 htp
      have hqa2 := mod_lt hqa htp
      obtain ⟨qb, hqb⟩ := mod_nat p.2 htp
      have hqb2 := mod_lt hqb htp
      obtain ⟨gn, gp, ta, ua, rfl, rfl, hta, hua, hcna, hcpa, hPa, hRa, hWa, hsa, hsua, hska⟩ := hGM.at hqa2
      obtain ⟨gn2, gp2, tb, ub, e8, e9, htb, hub, hcnb, hcpb, hPb, hRb, hWb, hsb, hsub, hskb⟩ := hGM.at hqb2
      cases e8; cases e9
      have hsa4 : sz ta ≤ 4194304 := by omega
      have hsb4 : sz tb ≤ 4194304 := by omega
      have hsua4 : sz ua ≤ 4194304 := by omega
      have hsub4 : sz ub ≤ 4194304 := by omega
      obtain ⟨S, hS⟩ : ∃ S, S = script (hasR ua) ub := ⟨_, rfl⟩
      have hSl : S.length ≤ 1500 := by have h1 := script_len (hasR ua) ub; rw [← hS] at h1; omega
      refine xc_skip ?_
      refine xc_seq ?_
      refine xc_block ?_
      refine xc_seq ?_
      refine xc_regionE [] (fun W_ => Chg (fun _ => False) w2 W_) hmix ?_
      intro w3 e2 z1
      have hS1 : Chg (fun _ => False) w2 w3 := Ext.to e2
      refine xd_pure 0 (some 29) rfl rfl (by kernel_rfl) (v := (.slice (some ⟨g1, o1, none⟩) ps.length c1)) (.inl ⟨rfl, fun W_ hW_ => ox_move (v := (.slice (some ⟨g1, o1, none⟩) ps.length c1)) g1_f1 ⟨rfl, rfl⟩⟩) ?_
      refine xd_pure 1 (some 30) rfl rfl (by kernel_rfl) (v := (.int .i64 ((i : Nat)))) (.inl ⟨rfl, fun W_ hW_ => ox_move (v := (.int .i64 ((i : Nat)))) g7_f1 ⟨rfl, rfl⟩⟩) ?_
      refine xd_pure 2 (some 31) rfl rfl (by kernel_rfl) (v := (.pointer (some ⟨g1, o1 + i * 2, none⟩))) (.inl ⟨rfl, fun W_ hW_ => ox_indexAddr (b := g1) (o := o1) (i := ((i : Nat))) tE_23 rfl rfl (by omega) (by omega) ⟨rfl, rfl⟩⟩) ?_
      refine xd_pure 3 (some 32) rfl rfl (by kernel_rfl) (v := (.pointer (some ⟨g1, o1 + i * 2, none⟩))) (.inl ⟨rfl, fun W_ hW_ => ox_indexArr (b := g1) (o := (o1 + i * 2)) (i := 0) tV_33 rfl rfl (by decide) (by decide) ⟨rfl, rfl⟩⟩) ?_
      refine xd_take 4 (some 33) rfl rfl (by kernel_rfl) (v := (.int .i64 p.1)) (.inl ⟨rfl, fun W_ hW_ => ox_load (v := (.int .i64 p.1)) tA_3 rfl (CellsL.keep (Ext.trans (Ext.trans hEx1 x_f1) hW_) not_false hcpr).1 ⟨rfl, rfl⟩⟩) hS1 ?_
      refine xd_pure 5 (some 34) rfl rfl (by kernel_rfl) (v := (.pointer (some ⟨bg, 0, none⟩))) (.inl ⟨rfl, fun W_ hW_ => ox_move (v := (.pointer (some ⟨bg, 0, none⟩))) g5_f1 ⟨rfl, rfl⟩⟩) ?_
      refine xd_pure 6 (some 35) rfl rfl (by kernel_rfl) (v := (.pointer (some ⟨bg, 0, none⟩))) (.inl ⟨rfl, fun W_ hW_ => ox_nilCheck (p := ⟨bg, 0, none⟩) rfl ⟨rfl, rfl⟩⟩) ?_
      refine xd_pure 7 (some 36) rfl rfl (by kernel_rfl) (v := (.pointer (some ⟨bg, 1, none⟩))) (.inl ⟨rfl, fun W_ hW_ => ox_fieldAddr (b := bg) (o := 0) tF_31_1 rfl ⟨rfl, rfl⟩⟩) ?_
      refine xd_take 8 (some 37) rfl rfl (by kernel_rfl) (v := (.slice (some ⟨gn, 0, none⟩) ts.length cn)) (.inl ⟨rfl, fun W_ hW_ => ox_load (v := (.slice (some ⟨gn, 0, none⟩) ts.length cn)) tA_28 rfl (((hGM.g.ext x_f1).ext hW_).cell rfl) ⟨rfl, rfl⟩⟩) hS1 ?_
      refine xd_pure 9 (some 38) rfl rfl (by kernel_rfl) (v := (.int .i64 (((ts.length : Nat) : Int)))) (.inl ⟨rfl, fun W_ hW_ => ox_len (A := (some ⟨gn, 0, none⟩)) (n := ts.length) (cp := cn) rfl tU_28 rfl ⟨rfl, rfl⟩⟩) ?_
      refine xd_take 10 (some 39) rfl rfl (by kernel_rfl) (v := (.int .i64 ((qa : Nat)))) (.inl ⟨rfl, fun W_ hW_ => ox_callE (al := [(.int .i64 p.1), (.int .i64 (((ts.length : Nat) : Int)))]) pf_14 rfl (ret_mono ((by have h := within_calls p.1 ((ts.length : Nat) : Int) W_ (by omega); rw [hqa] at h; exact h)) (by rintro _ _ ⟨rfl, rfl⟩; exact ⟨rfl, rfl⟩))⟩) hS1 ?_
      refine xd_pure 11 (some 8) rfl rfl (by kernel_rfl) (v := (.int .i64 ((qa : Nat)))) (.inl ⟨rfl, fun W_ hW_ => ox_assign (v := (.int .i64 ((qa : Nat)))) rfl ⟨rfl, rfl⟩⟩) ?_
      refine xd_done (by kernel_rfl) ?_ _
      refine xc_seq ?_
      refine xc_regionE [] (fun W_ => Chg (fun _ => False) w3 W_) hmix ?_
      intro w4 e3 z2
      have hS2 : Chg (fun _ => False) w3 w4 := Ext.to e3
      refine xd_pure 0 (some 40) rfl rfl (by kernel_rfl) (v := (.slice (some ⟨g1, o1, none⟩) ps.length c1)) (.inl ⟨rfl, fun W_ hW_ => ox_move (v := (.slice (some ⟨g1, o1, none⟩) ps.length c1)) g1_f1 ⟨rfl, rfl⟩⟩) ?_
      refine xd_pure 1 (some 41) rfl rfl (by kernel_rfl) (v := (.int .i64 ((i : Nat)))) (.inl ⟨rfl, fun W_ hW_ => ox_move (v := (.int .i64 ((i : Nat)))) g7_f1 ⟨rfl, rfl⟩⟩) ?_
      refine xd_pure 2 (some 42) rfl rfl (by kernel_rfl) (v := (.pointer (some ⟨g1, o1 + i * 2, none⟩))) (.inl ⟨rfl, fun W_ hW_ => ox_indexAddr (b := g1) (o := o1) (i := ((i : Nat))) tE_23 rfl rfl (by omega) (by omega) ⟨rfl, rfl⟩⟩) ?_
      refine xd_pure 3 (some 43) rfl rfl (by kernel_rfl) (v := (.pointer (some ⟨g1, o1 + i * 2 + 1, none⟩))) (.inl ⟨rfl, fun W_ hW_ => ox_indexArr (b := g1) (o := (o1 + i * 2)) (i := 1) tV_33 rfl rfl (by decide) (by decide) ⟨rfl, rfl⟩⟩) ?_
      refine xd_take 4 (some 44) rfl rfl (by kernel_rfl) (v := (.int .i64 p.2)) (.inl ⟨rfl, fun W_ hW_ => ox_load (v := (.int .i64 p.2)) tA_3 rfl (CellsL.keep (Ext.trans (Ext.trans (Ext.trans hEx1 x_f1) e2) hW_) not_false hcpr).2.1 ⟨rfl, rfl⟩⟩) hS2 ?_
      refine xd_pure 5 (some 45) rfl rfl (by kernel_rfl) (v := (.pointer (some ⟨bg, 0, none⟩))) (.inl ⟨rfl, fun W_ hW_ => ox_move (v := (.pointer (some ⟨bg, 0, none⟩))) g5_f1 ⟨rfl, rfl⟩⟩) ?_
      refine xd_pure 6 (some 46) rfl rfl (by kernel_rfl) (v := (.pointer (some ⟨bg, 0, none⟩))) (.inl ⟨rfl, fun W_ hW_ => ox_nilCheck (p := ⟨bg, 0, none⟩) rfl ⟨rfl, rfl⟩⟩) ?_
      refine xd_pure 7 (some 47) rfl rfl (by kernel_rfl) (v := (.pointer (some ⟨bg, 1, none⟩))) (.inl ⟨rfl, fun W_ hW_ => ox_fieldAddr (b := bg) (o := 0) tF_31_1 rfl ⟨rfl, rfl⟩⟩) ?_
      refine xd_take 8 (some 48) rfl rfl (by kernel_rfl) (v := (.slice (some ⟨gn, 0, none⟩) ts.length cn)) (.inl ⟨rfl, fun W_ hW_ => ox_load (v := (.slice (some ⟨gn, 0, none⟩) ts.length cn)) tA_28 rfl ((((hGM.g.ext x_f1).ext e2).ext hW_).cell rfl) ⟨rfl, rfl⟩⟩) hS2 ?_
      refine xd_pure 9 (some 49) rfl rfl (by kernel_rfl) (v := (.int .i64 (((ts.length : Nat) : Int)))) (.inl ⟨rfl, fun W_ hW_ => ox_len (A := (some ⟨gn, 0, none⟩)) (n := ts.length) (cp := cn) rfl tU_28 rfl ⟨rfl, rfl⟩⟩) ?_
      refine xd_take 10 (some 50) rfl rfl (by kernel_rfl) (v := (.int .i64 ((qb : Nat)))) (.inl ⟨rfl, fun W_ hW_ => ox_callE (al := [(.int .i64 p.2), (.int .i64 (((ts.length : Nat) : Int)))]) pf_14 rfl (ret_mono ((by have h := within_calls p.2 ((ts.length : Nat) : Int) W_ (by omega); rw [hqb] at h; exact h)) (by rintro _ _ ⟨rfl, rfl⟩; exact ⟨rfl, rfl⟩))⟩) hS2 ?_
      refine xd_pure 11 (some 9) rfl rfl (by kernel_rfl) (v := (.int .i64 ((qb : Nat)))) (.inl ⟨rfl, fun W_ hW_ => ox_assign (v := (.int .i64 ((qb : Nat)))) rfl ⟨rfl, rfl⟩⟩) ?_
      refine xd_done (by kernel_rfl) ?_ _
      refine xc_seq ?_
      refine xc_regionE [] (fun W_ => Chg (fun _ => False) w4 W_) hmix ?_
      intro w5 e4 z3
      have hS3 : Chg (fun _ => False) w4 w5 := Ext.to e4
      refine xd_pure 0 (some 51) rfl rfl (by kernel_rfl) (v := (.pointer (some ⟨bg, 0, none⟩))) (.inl ⟨rfl, fun W_ hW_ => ox_move (v := (.pointer (some ⟨bg, 0, none⟩))) g5_f1 ⟨rfl, rfl⟩⟩) ?_
      refine xd_pure 1 (some 52) rfl rfl (by kernel_rfl) (v := (.pointer (some ⟨bg, 0, none⟩))) (.inl ⟨rfl, fun W_ hW_ => ox_nilCheck (p := ⟨bg, 0, none⟩) rfl ⟨rfl, rfl⟩⟩) ?_
      refine xd_pure 2 (some 53) rfl rfl (by kernel_rfl) (v := (.pointer (some ⟨bg, 1, none⟩))) (.inl ⟨rfl, fun W_ hW_ => ox_fieldAddr (b := bg) (o := 0) tF_31_1 rfl ⟨rfl, rfl⟩⟩) ?_
      refine xd_take 3 (some 54) rfl rfl (by kernel_rfl) (v := (.slice (some ⟨gn, 0, none⟩) ts.length cn)) (.inl ⟨rfl, fun W_ hW_ => ox_load (v := (.slice (some ⟨gn, 0, none⟩) ts.length cn)) tA_28 rfl (((((hGM.g.ext x_f1).ext e2).ext e3).ext hW_).cell rfl) ⟨rfl, rfl⟩⟩) hS3 ?_
      refine xd_pure 4 (some 55) rfl rfl (by kernel_rfl) (v := (.int .i64 ((qa : Nat)))) (.inl ⟨rfl, fun W_ hW_ => ox_move (v := (.int .i64 ((qa : Nat)))) rfl ⟨rfl, rfl⟩⟩) ?_
      refine xd_pure 5 (some 56) rfl rfl (by kernel_rfl) (v := (.pointer (some ⟨gn, 0 + ((qa : Nat) : Int).toNat * 1, none⟩))) (.inl ⟨rfl, fun W_ hW_ => ox_indexAddr (b := gn) (o := 0) (i := ((qa : Nat))) tE_28 rfl rfl (by omega) (by omega) ⟨rfl, rfl⟩⟩) ?_
      refine xd_take 6 (some 57) rfl rfl (by kernel_rfl) (v := (.pointer (some ⟨ta.b, 0, none⟩))) (.inl ⟨rfl, fun W_ hW_ => ox_load (v := (.pointer (some ⟨ta.b, 0, none⟩))) tA_36 rfl (by simpa [T.ptr] using Ext.cell hcna (Ext.trans (Ext.trans (Ext.trans x_f1 e2) e3) hW_)) ⟨rfl, rfl⟩⟩) hS3 ?_
      refine xd_pure 7 (some 58) rfl rfl (by kernel_rfl) (v := (.pointer (some ⟨bg, 0, none⟩))) (.inl ⟨rfl, fun W_ hW_ => ox_move (v := (.pointer (some ⟨bg, 0, none⟩))) g5_f1 ⟨rfl, rfl⟩⟩) ?_
      refine xd_pure 8 (some 59) rfl rfl (by kernel_rfl) (v := (.pointer (some ⟨bg, 0, none⟩))) (.inl ⟨rfl, fun W_ hW_ => ox_nilCheck (p := ⟨bg, 0, none⟩) rfl ⟨rfl, rfl⟩⟩) ?_
      refine xd_pure 9 (some 60) rfl rfl (by kernel_rfl) (v := (.pointer (some ⟨bg, 1, none⟩))) (.inl ⟨rfl, fun W_ hW_ => ox_fieldAddr (b := bg) (o := 0) tF_31_1 rfl ⟨rfl, rfl⟩⟩) ?_
      refine xd_take 10 (some 61) rfl rfl (by kernel_rfl) (v := (.slice (some ⟨gn, 0, none⟩) ts.length cn)) (.inl ⟨rfl, fun W_ hW_ => ox_load (v := (.slice (some ⟨gn, 0, none⟩) ts.length cn)) tA_28 rfl (((((hGM.g.ext x_f1).ext e2).ext e3).ext hW_).cell rfl) ⟨rfl, rfl⟩⟩) hS3 ?_
      refine xd_pure 11 (some 62) rfl rfl (by kernel_rfl) (v := (.int .i64 ((qb : Nat)))) (.inl ⟨rfl, fun W_ hW_ => ox_move (v := (.int .i64 ((qb : Nat)))) rfl ⟨rfl, rfl⟩⟩) ?_
      refine xd_pure 12 (some 63) rfl rfl (by kernel_rfl) (v := (.pointer (some ⟨gn, 0 + ((qb : Nat) : Int).toNat * 1, none⟩))) (.inl ⟨rfl, fun W_ hW_ => ox_indexAddr (b := gn) (o := 0) (i := ((qb : Nat))) tE_28 rfl rfl (by omega) (by omega) ⟨rfl, rfl⟩⟩) ?_
      refine xd_take 13 (some 64) rfl rfl (by kernel_rfl) (v := (.pointer (some ⟨tb.b, 0, none⟩))) (.inl ⟨rfl, fun W_ hW_ => ox_load (v := (.pointer (some ⟨tb.b, 0, none⟩))) tA_36 rfl (by simpa [T.ptr] using Ext.cell hcnb (Ext.trans (Ext.trans (Ext.trans x_f1 e2) e3) hW_)) ⟨rfl, rfl⟩⟩) hS3 ?_
      refine xd_pure 15 (some 66) rfl rfl (by kernel_rfl) (v := (.pointer (some ⟨bg, 0, none⟩))) (.inl ⟨rfl, fun W_ hW_ => ox_move (v := (.pointer (some ⟨bg, 0, none⟩))) g5_f1 ⟨rfl, rfl⟩⟩) ?_
      refine xd_pure 16 (some 67) rfl rfl (by kernel_rfl) (v := (.pointer (some ⟨bg, 0, none⟩))) (.inl ⟨rfl, fun W_ hW_ => ox_nilCheck (p := ⟨bg, 0, none⟩) rfl ⟨rfl, rfl⟩⟩) ?_
      refine xd_pure 17 (some 68) rfl rfl (by kernel_rfl) (v := (.pointer (some ⟨bg, 2, none⟩))) (.inl ⟨rfl, fun W_ hW_ => ox_fieldAddr (b := bg) (o := 0) tF_31_2 rfl ⟨rfl, rfl⟩⟩) ?_
      refine xd_take 18 (some 69) rfl rfl (by kernel_rfl) (v := (.slice (some ⟨gp, 0, none⟩) us.length cp)) (.inl ⟨rfl, fun W_ hW_ => ox_load (v := (.slice (some ⟨gp, 0, none⟩) us.length cp)) tA_29 rfl (((((hGM.g.ext x_f1).ext e2).ext e3).ext hW_).cell rfl) ⟨rfl, rfl⟩⟩) hS3 ?_
      refine xd_pure 19 (some 70) rfl rfl (by kernel_rfl) (v := (.int .i64 ((qa : Nat)))) (.inl ⟨rfl, fun W_ hW_ => ox_move (v := (.int .i64 ((qa : Nat)))) rfl ⟨rfl, rfl⟩⟩) ?_
      refine xd_pure 20 (some 71) rfl rfl (by kernel_rfl) (v := (.pointer (some ⟨gp, 0 + ((qa : Nat) : Int).toNat * 1, none⟩))) (.inl ⟨rfl, fun W_ hW_ => ox_indexAddr (b := gp) (o := 0) (i := ((qa : Nat))) tE_29 rfl rfl (by omega) (by omega) ⟨rfl, rfl⟩⟩) ?_
      refine xd_take 21 (some 72) rfl rfl (by kernel_rfl) (v := (.pointer (some ⟨ua.b, 0, none⟩))) (.inl ⟨rfl, fun W_ hW_ => ox_load (v := (.pointer (some ⟨ua.b, 0, none⟩))) tA_38 rfl (by simpa [T.ptr] using Ext.cell hcpa (Ext.trans (Ext.trans (Ext.trans x_f1 e2) e3) hW_)) ⟨rfl, rfl⟩⟩) hS3 ?_
      refine xd_pure 22 (some 73) rfl rfl (by kernel_rfl) (v := (.pointer (some ⟨bg, 0, none⟩))) (.inl ⟨rfl, fun W_ hW_ => ox_move (v := (.pointer (some ⟨bg, 0, none⟩))) g5_f1 ⟨rfl, rfl⟩⟩) ?_
      refine xd_pure 23 (some 74) rfl rfl (by kernel_rfl) (v := (.pointer (some ⟨bg, 0, none⟩))) (.inl ⟨rfl, fun W_ hW_ => ox_nilCheck (p := ⟨bg, 0, none⟩) rfl ⟨rfl, rfl⟩⟩) ?_
      refine xd_pure 24 (some 75) rfl rfl (by kernel_rfl) (v := (.pointer (some ⟨bg, 2, none⟩))) (.inl ⟨rfl, fun W_ hW_ => ox_fieldAddr (b := bg) (o := 0) tF_31_2 rfl ⟨rfl, rfl⟩⟩) ?_
      refine xd_take 25 (some 76) rfl rfl (by kernel_rfl) (v := (.slice (some ⟨gp, 0, none⟩) us.length cp)) (.inl ⟨rfl, fun W_ hW_ => ox_load (v := (.slice (some ⟨gp, 0, none⟩) us.length cp)) tA_29 rfl (((((hGM.g.ext x_f1).ext e2).ext e3).ext hW_).cell rfl) ⟨rfl, rfl⟩⟩) hS3 ?_
      refine xd_pure 26 (some 77) rfl rfl (by kernel_rfl) (v := (.int .i64 ((qb : Nat)))) (.inl ⟨rfl, fun W_ hW_ => ox_move (v := (.int .i64 ((qb : Nat)))) rfl ⟨rfl, rfl⟩⟩) ?_
      refine xd_pure 27 (some 78) rfl rfl (by kernel_rfl) (v := (.pointer (some ⟨gp, 0 + ((qb : Nat) : Int).toNat * 1, none⟩))) (.inl ⟨rfl, fun W_ hW_ => ox_indexAddr (b := gp) (o := 0) (i := ((qb : Nat))) tE_29 rfl rfl (by omega) (by omega) ⟨rfl, rfl⟩⟩) ?_
      refine xd_take 28 (some 79) rfl rfl (by kernel_rfl) (v := (.pointer (some ⟨ub.b, 0, none⟩))) (.inl ⟨rfl, fun W_ hW_ => ox_load (v := (.pointer (some ⟨ub.b, 0, none⟩))) tA_38 rfl (by simpa [T.ptr] using Ext.cell hcpb (Ext.trans (Ext.trans (Ext.trans x_f1 e2) e3) hW_)) ⟨rfl, rfl⟩⟩) hS3 ?_
      refine xd_one 14 (some 65) rfl rfl (by kernel_rfl) rfl (ox_callE (al := [(.pointer (some ⟨ta.b, 0, none⟩)), (.pointer (some ⟨tb.b, 0, none⟩))]) pf_24 rfl (ret_mono ((by have h := script_calls (.pointer (some ⟨s, 0, none⟩)) ta tb w5 (hPa.ext (Ext.trans (Ext.trans (Ext.trans x_f1 e2) e3) e4)) hWa hsa4 (hPb.ext (Ext.trans (Ext.trans (Ext.trans x_f1 e2) e3) e4)) hWb hsb4; rw [script_two hska hskb, ← hS] at h; exact h)) ?_))
      rintro _ w6 ⟨Ah, ch, rfl, hoh, hnh, e5⟩
      have he5 := e5.size
      have hS4 : Chg (fun _ => False) w4 w6 := Chg.ext hS3 e5
      refine ⟨.inr fun _ => hS4, ?_⟩
      refine xd_one 29 (some 80) rfl rfl (by kernel_rfl) rfl (ox_callE (al := [(.pointer (some ⟨ua.b, 0, none⟩)), (.pointer (some ⟨ub.b, 0, none⟩))]) pf_25 rfl (ret_mono ((by have h := refScript_calls ub ua w6 (hRb.ext (Ext.trans (Ext.trans (Ext.trans (Ext.trans x_f1 e2) e3) e4) e5)) hsub4 (hRa.ext (Ext.trans (Ext.trans (Ext.trans (Ext.trans x_f1 e2) e3) e4) e5)) hsua4; unfold SCp at h; rw [← hS] at h; exact h)) ?_))
      rintro _ w7 ⟨Am, cm, rfl, hom, hnm, e6⟩
      have he6 := e6.size
      have hS5 : Chg (fun _ => False) w4 w7 := Chg.ext hS4 e6
      refine ⟨.inr fun _ => hS5, ?_⟩
      refine xd_one 30 (some 81) rfl rfl (by kernel_rfl) rfl (ox_callE (al := [(.slice Ah S.length ch), (.slice Am S.length cm)]) pf_23 rfl (ret_mono (sameOps_eq S Ah Am ch cm w7 ((Own.rowO hoh).ext e6) ((Own.rowO hom).ext (Chg.refl _ _)) (by omega)) ?_))
      rintro _ w8 ⟨rfl, e7⟩
      have he7 := e7.size
      have hS6 : Chg (fun _ => False) w4 w8 := Chg.ext hS5 e7
      refine ⟨.inr fun _ => hS6, ?_⟩
      refine xd_pure 31 (some 82) rfl rfl (by kernel_rfl) (v := (.bool false)) (.inl ⟨rfl, fun W_ hW_ => ox_not (b := true) rfl ⟨rfl, rfl⟩⟩) ?_
      refine xd_done (by kernel_rfl) ?_ _
      refine xc_cond_f rfl ?_
      refine xc_skip ?_
      refine xc_region ?_
      refine xl_op (P := Try.prog) (some 27) rfl rfl (ox_move (v := (.int .i64 ((i : Nat)))) g7_f1 ?_)
      refine xl_op (P := Try.prog) (some 28) rfl rfl (ox_add64 (a := ((i : Nat))) (b := 1) rfl rfl (by omega) ?_)
      refine xl_op (P := Try.prog) (some 7) rfl rfl (ox_assign (v := (.int .i64 ((i : Nat) + 1))) rfl ?_)
      refine xl_nil ?_
      have hsz0 := e2.size
      have hsz1 := e3.size
      have hsz2 := e4.size
      have hsz3 := e5.size
      have hsz4 := e6.size
      have hsz5 := e7.size
      exact ⟨rfl, ps.length - (i + 1), by omega, i + 1, by omega, by omega, g5_f1, g1_f1, (by first | exact rfl | exact (congrArg (Value.int .i64) (by omega))), g6_f1, (Ext.trans (Ext.trans (Ext.trans (Ext.trans (Ext.trans (Ext.trans x_f1 e2) e3) e4) e5) e6) e7)⟩
    · skip
      have h1' := h1
      try simp only [Bool.or_eq_true, Bool.and_eq_true, decide_eq_true_eq, Bool.or_eq_false_iff, Bool.and_eq_false_iff, decide_eq_false_iff_not, Bool.not_eq_true', Bool.not_eq_false'] at h1'
      refine xc_exit ?_
      refine xc_seq ?_
      refine xc_region ?_
      refine xl_op (P := Try.prog) (some 83) rfl rfl (ox_move (v := (.bool true)) g6_f1 ?_)
      refine xl_op (P := Try.prog) (some 4) rfl rfl (ox_assign (v := (.bool true)) rfl ?_)
      refine xl_nil ?_
      refine xc_ret ?_
      change leaves _ _ _ _ _ _ _
      refine leaves_nil (n := 84) (rs := [.tmp 4]) (vs := [(.bool true)]) rfl ⟨⟨by decide, rfl⟩, trivial⟩ ?_
      exact ⟨rfl, (Ext.trans hEx1 x_f1)⟩

end Go.Proofs.Ythhbnodnpajljaa
