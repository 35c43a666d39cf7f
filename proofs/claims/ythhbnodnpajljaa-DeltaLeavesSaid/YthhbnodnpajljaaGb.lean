/-
  The law DeltaLeaves, walked. No conditions.
-/
import Derived.Test.YthhbnodnpajljaaVxi
import Derived.Test.YthhbnodnpajljaaRows
import Derived.Test.YthhbnodnpajljaaRgb
import Derived.Test.YthhbnodnpajljaaGa
import Derived.Test.YthhbnodnpajljaaFc
import Derived.Test.YthhbnodnpajljaaDn
import Derived.Test.YthhbnodnpajljaaDs
set_option linter.unusedVariables false
set_option linter.unusedSimpArgs false
set_option maxRecDepth 100000
set_option maxHeartbeats 4000000
namespace Go.Proofs.Ythhbnodnpajljaa
open Go Go.RowKit Go.Vx


theorem pf_13 : plainF Try.prog 13 = true := by kernel_rfl
theorem pf_16 : plainF Try.prog 16 = true := by kernel_rfl
theorem tE_23 : sliceT Try.prog 23 = some (33, 2, 16, (.agg #[(.int .i64 0), (.int .i64 0)])) := by kernel_rfl
theorem tU_23 : Try.prog.underlying 23 = some (.slice 33) := by kernel_rfl
theorem tV_33 : arrT Try.prog 33 = some (2, 3, 1) := by kernel_rfl

theorem deltaLeaves_calls (l : List PB) (A0 : Option Addr) (c0 : Nat) (ps : List (Int × Int)) (A1 : Option Addr) (c1 : Nat) (w : World) (hA0 : RowA w A0 (pbC l)) (hn0 : l.length ≤ 4611686018427387904) (hok : ∀ x ∈ l, x.ok w) (hA1 : RowA w A1 (prC ps)) (hn1 : ps.length ≤ 4611686018427387904) :
    Calls Try.prog 3 #[(.slice A0 l.length c0), (.slice A1 ps.length c1)] w (Ret (fun v w' => v = .bool true ∧ Ext w w')) := by
  refine calls_xc (n := 105) (f := fun s_ => [(.slice A0 l.length c0), (.slice A1 ps.length c1)].getD s_ undef) Try.func3 rfl rfl (by simp) (fun s_ => by simp) ?_
  refine xc_seq ?_
  refine xc_region ?_
  refine xl_op (P := Try.prog) (some 4) rfl rfl (ox_assign (v := (.bool false)) rfl ?_)
  refine xl_nil ?_
  refine xc_seq ?_
  refine xc_region ?_
  refine xl_op (P := Try.prog) (some 14) rfl rfl (ox_move (v := (.slice A0 l.length c0)) rfl ?_)
  refine xl_op (P := Try.prog) (some 15) rfl rfl (ox_callE (al := [(.slice A0 l.length c0)]) pf_13 rfl (ret_mono (grove_calls l A0 c0 w (RowA.ext hA0 (Chg.refl _ _)) (by omega) (fun x hx => (hok x hx).ext (Chg.refl _ _))) ?_))
  rintro _ w1 ⟨bg, s, ts, us, An, Ap, cn, cp, rfl, hGM, hlbg, hls, e1⟩
  have he1 := e1.size
  have hul := hGM.ok.len
  have hfew := hGM.few
  refine xl_op (P := Try.prog) (some 13) rfl rfl (ox_move (v := (.tuple #[(.pointer (some ⟨bg, 0, none⟩)), (.bool true)])) rfl ?_)
  refine xl_op (P := Try.prog) (some 16) rfl rfl (ox_extract (vs := #[(.pointer (some ⟨bg, 0, none⟩)), (.bool true)]) (v := (.pointer (some ⟨bg, 0, none⟩))) rfl rfl ?_)
  refine xl_op (P := Try.prog) (some 17) rfl rfl (ox_extract (vs := #[(.pointer (some ⟨bg, 0, none⟩)), (.bool true)]) (v := (.bool true)) rfl rfl ?_)
  refine xl_op (P := Try.prog) (some 5) rfl rfl (ox_assign (v := (.pointer (some ⟨bg, 0, none⟩))) rfl ?_)
  refine xl_op (P := Try.prog) (some 6) rfl rfl (ox_assign (v := (.bool true)) rfl ?_)
  refine xl_nil ?_
  refine xc_seq ?_
  refine xc_seq ?_
  refine xc_region ?_
  refine xl_op (P := Try.prog) (some 7) rfl rfl (ox_assign (v := (.int .i64 0)) rfl ?_)
  refine xl_nil ?_
  refine xc_block ?_
  have hEx1 := e1
  have hEx1z := hEx1.size
  refine xc_loopN (fun m f W => ∃ (i : Nat), m = ps.length - i ∧ i ≤ ps.length ∧ f 5 = (.pointer (some ⟨bg, 0, none⟩)) ∧ f 1 = (.slice A1 ps.length c1) ∧ f 7 = (.int .i64 ((i : Nat))) ∧ f 6 = (.bool true) ∧ Ext w1 W) (ps.length) ?_ ?_
  · exact ⟨0, by omega, by omega, rfl, rfl, (by first | exact rfl | exact (congrArg (Value.int .i64) (by omega))), rfl, (Chg.refl _ _)⟩
  · rintro m f1 w2 ⟨i, hm, hi, g5_f1, g1_f1, g7_f1, g6_f1, x_f1⟩
    have hzX := x_f1.size
    refine xc_seq ?_
    refine xc_seq ?_
    refine xc_region ?_
    refine xl_op (P := Try.prog) (some 18) rfl rfl (ox_move (v := (.int .i64 ((i : Nat)))) g7_f1 ?_)
    refine xl_op (P := Try.prog) (some 19) rfl rfl (ox_move (v := (.slice A1 ps.length c1)) g1_f1 ?_)
    refine xl_op (P := Try.prog) (some 20) rfl rfl (ox_len (A := A1) (n := ps.length) (cp := c1) rfl tU_23 rfl ?_)
    refine xl_op (P := Try.prog) (some 21) rfl rfl (ox_lss (k := .i64) (a := ((i : Nat))) (b := (((ps.length : Nat) : Int))) rfl rfl ?_)
    refine xl_op (P := Try.prog) (some 22) rfl rfl (ox_move (v := (.bool (decide (((i : Nat) : Int) < (((ps.length : Nat) : Int)))))) rfl ?_)
    refine xl_may (P := Try.prog) (some 23) (j := 4) (b := true) (((decide (((i : Nat) : Int) < (((ps.length : Nat) : Int))))) = true) (.bool (decide (((i : Nat) : Int) < (((ps.length : Nat) : Int))))) (.pointer (some ⟨bg, 0, none⟩)) rfl rfl rfl (may_b ((decide (((i : Nat) : Int) < (((ps.length : Nat) : Int))))) true) (fun hp => ox_move (v := (.pointer (some ⟨bg, 0, none⟩))) g5_f1 ⟨rfl, rfl⟩) ?_
    refine xl_may (P := Try.prog) (some 24) (j := 4) (b := true) (((decide (((i : Nat) : Int) < (((ps.length : Nat) : Int))))) = true) (.bool (decide (((i : Nat) : Int) < (((ps.length : Nat) : Int))))) (.pointer (some ⟨bg, 0, none⟩)) rfl rfl rfl (may_b ((decide (((i : Nat) : Int) < (((ps.length : Nat) : Int))))) true) (fun hp => ox_nilCheck (p := ⟨bg, 0, none⟩) (if_pos (α := Value) (t := (.pointer (some ⟨bg, 0, none⟩))) (e := undef) hp) ⟨rfl, rfl⟩) ?_
    refine xl_may (P := Try.prog) (some 25) (j := 4) (b := true) (((decide (((i : Nat) : Int) < (((ps.length : Nat) : Int))))) = true) (.bool (decide (((i : Nat) : Int) < (((ps.length : Nat) : Int))))) (.pointer (some ⟨bg, 1, none⟩)) rfl rfl rfl (may_b ((decide (((i : Nat) : Int) < (((ps.length : Nat) : Int))))) true) (fun hp => ox_fieldAddr (b := bg) (o := 0) tF_31_1 (if_pos (α := Value) (t := (.pointer (some ⟨bg, 0, none⟩))) (e := undef) hp) ⟨rfl, rfl⟩) ?_
    refine xl_may (P := Try.prog) (some 26) (j := 4) (b := true) (((decide (((i : Nat) : Int) < (((ps.length : Nat) : Int))))) = true) (.bool (decide (((i : Nat) : Int) < (((ps.length : Nat) : Int))))) (.slice An ts.length cn) rfl rfl rfl (may_b ((decide (((i : Nat) : Int) < (((ps.length : Nat) : Int))))) true) (fun hp => ox_load (v := (.slice An ts.length cn)) tA_28 (if_pos (α := Value) (t := (.pointer (some ⟨bg, 1, none⟩))) (e := undef) hp) ((hGM.g.ext x_f1).cell rfl) ⟨rfl, rfl⟩) ?_
    refine xl_may (P := Try.prog) (some 27) (j := 4) (b := true) (((decide (((i : Nat) : Int) < (((ps.length : Nat) : Int))))) = true) (.bool (decide (((i : Nat) : Int) < (((ps.length : Nat) : Int))))) (.int .i64 (((ts.length : Nat) : Int))) rfl rfl rfl (may_b ((decide (((i : Nat) : Int) < (((ps.length : Nat) : Int))))) true) (fun hp => ox_len (A := An) (n := ts.length) (cp := cn) rfl tU_28 (if_pos (α := Value) (t := (.slice An ts.length cn)) (e := undef) hp) ⟨rfl, rfl⟩) ?_
    refine xl_may (P := Try.prog) (some 28) (j := 4) (b := true) (((decide (((i : Nat) : Int) < (((ps.length : Nat) : Int))))) = true) (.bool (decide (((i : Nat) : Int) < (((ps.length : Nat) : Int))))) (.bool (decide ((0 : Int) < (((ts.length : Nat) : Int))))) rfl rfl rfl (may_b ((decide (((i : Nat) : Int) < (((ps.length : Nat) : Int))))) true) (fun hp => ox_gtr (k := .i64) (a := (((ts.length : Nat) : Int))) (b := 0) (if_pos (α := Value) (t := (.int .i64 (((ts.length : Nat) : Int)))) (e := undef) hp) rfl ⟨rfl, rfl⟩) ?_
    refine xl_op (P := Try.prog) (some 29) rfl rfl (ox_pick_and (a := ((decide (((i : Nat) : Int) < (((ps.length : Nat) : Int)))))) (b := ((decide ((0 : Int) < (((ts.length : Nat) : Int)))))) rfl (fun ha => (if_pos (α := Value) (t := (.bool (decide ((0 : Int) < (((ts.length : Nat) : Int)))))) (e := undef) ha)) rfl ?_)
    refine xl_nil ?_
    refine xc_cond (b := (((decide (((i : Nat) : Int) < (((ps.length : Nat) : Int))))) && ((decide ((0 : Int) < (((ts.length : Nat) : Int))))))) rfl (fun h1 => ?_) (fun h1 => ?_)
    · skip
      have h1' := h1
      try simp only [Bool.or_eq_true, Bool.and_eq_true, decide_eq_true_eq, Bool.or_eq_false_iff, Bool.and_eq_false_iff, decide_eq_false_iff_not, Bool.not_eq_true', Bool.not_eq_false'] at h1'
      have hil : i < ps.length := by omega
      have htp : 0 < ts.length := by omega
      obtain ⟨p, hp⟩ := get_ex (l := ps) (i := i) hil
      obtain ⟨g1, o1, rfl⟩ := hA1.ex (by intro hh; cases ps with | nil => simp at hp | cons q l => simp [prC, prCs] at hh)
      have hcpr : CellsL w g1 (o1 + i * 2) [.int .i64 p.1, .int .i64 p.2] := cellsL_flat prCs 2 (fun _ => rfl) hA1.cells hp
      obtain ⟨qa, hqa⟩ := mod_nat p.1 htp
      have hqa2 := mod_lt hqa htp
      obtain ⟨qb, hqb⟩ := mod_nat p.2 htp
      have hqb2 := mod_lt hqb htp
      obtain ⟨gn, gp, ta, ua, rfl, rfl, hta, hua, hcna, hcpa, hPa, hRa, hWa, hsa, hsua, hska⟩ := hGM.at hqa2
      obtain ⟨gn2, gp2, tb, ub, e8, e9, htb, hub, hcnb, hcpb, hPb, hRb, hWb, hsb, hsub, hskb⟩ := hGM.at hqb2
      cases e8; cases e9
      have hsa4 : sz ta ≤ 4194304 := by omega
      have hsb4 : sz tb ≤ 4194304 := by omega
      have hsua4 : sz ua ≤ 4194304 := by omega
      have hsub4 : sz ub ≤ 4194304 := by omega
      obtain ⟨H, hH⟩ : ∃ H, H = hunks ((rl ua).map T.id) ((rl ub).map T.id) := ⟨_, rfl⟩
      have hHl : H.length ≤ 1501 := by have h1 := hunks_len ((rl ua).map T.id) ((rl ub).map T.id); have h2 := rl_len ua; rw [← hH, List.length_map] at h1; omega
      refine xc_skip ?_
      refine xc_seq ?_
      refine xc_block ?_
      refine xc_seq ?_
      refine xc_regionE [] (fun W_ => Chg (fun _ => False) w2 W_) hmix ?_
      intro w3 e2 z1
      have hS1 : Chg (fun _ => False) w2 w3 := Ext.to e2
      refine xd_pure 0 (some 32) rfl rfl (by kernel_rfl) (v := (.slice (some ⟨g1, o1, none⟩) ps.length c1)) (.inl ⟨rfl, fun W_ hW_ => ox_move (v := (.slice (some ⟨g1, o1, none⟩) ps.length c1)) g1_f1 ⟨rfl, rfl⟩⟩) ?_
      refine xd_pure 1 (some 33) rfl rfl (by kernel_rfl) (v := (.int .i64 ((i : Nat)))) (.inl ⟨rfl, fun W_ hW_ => ox_move (v := (.int .i64 ((i : Nat)))) g7_f1 ⟨rfl, rfl⟩⟩) ?_
      refine xd_pure 2 (some 34) rfl rfl (by kernel_rfl) (v := (.pointer (some ⟨g1, o1 + i * 2, none⟩))) (.inl ⟨rfl, fun W_ hW_ => ox_indexAddr (b := g1) (o := o1) (i := ((i : Nat))) tE_23 rfl rfl (by omega) (by omega) ⟨rfl, rfl⟩⟩) ?_
      refine xd_pure 3 (some 35) rfl rfl (by kernel_rfl) (v := (.pointer (some ⟨g1, o1 + i * 2, none⟩))) (.inl ⟨rfl, fun W_ hW_ => ox_indexArr (b := g1) (o := (o1 + i * 2)) (i := 0) tV_33 rfl rfl (by decide) (by decide) ⟨rfl, rfl⟩⟩) ?_
      refine xd_take 4 (some 36) rfl rfl (by kernel_rfl) (v := (.int .i64 p.1)) (.inl ⟨rfl, fun W_ hW_ => ox_load (v := (.int .i64 p.1)) tA_3 rfl (CellsL.keep (Ext.trans (Ext.trans hEx1 x_f1) hW_) not_false hcpr).1 ⟨rfl, rfl⟩⟩) hS1 ?_
      refine xd_pure 5 (some 37) rfl rfl (by kernel_rfl) (v := (.pointer (some ⟨bg, 0, none⟩))) (.inl ⟨rfl, fun W_ hW_ => ox_move (v := (.pointer (some ⟨bg, 0, none⟩))) g5_f1 ⟨rfl, rfl⟩⟩) ?_
      refine xd_pure 6 (some 38) rfl rfl (by kernel_rfl) (v := (.pointer (some ⟨bg, 0, none⟩))) (.inl ⟨rfl, fun W_ hW_ => ox_nilCheck (p := ⟨bg, 0, none⟩) rfl ⟨rfl, rfl⟩⟩) ?_
      refine xd_pure 7 (some 39) rfl rfl (by kernel_rfl) (v := (.pointer (some ⟨bg, 1, none⟩))) (.inl ⟨rfl, fun W_ hW_ => ox_fieldAddr (b := bg) (o := 0) tF_31_1 rfl ⟨rfl, rfl⟩⟩) ?_
      refine xd_take 8 (some 40) rfl rfl (by kernel_rfl) (v := (.slice (some ⟨gn, 0, none⟩) ts.length cn)) (.inl ⟨rfl, fun W_ hW_ => ox_load (v := (.slice (some ⟨gn, 0, none⟩) ts.length cn)) tA_28 rfl (((hGM.g.ext x_f1).ext hW_).cell rfl) ⟨rfl, rfl⟩⟩) hS1 ?_
      refine xd_pure 9 (some 41) rfl rfl (by kernel_rfl) (v := (.int .i64 (((ts.length : Nat) : Int)))) (.inl ⟨rfl, fun W_ hW_ => ox_len (A := (some ⟨gn, 0, none⟩)) (n := ts.length) (cp := cn) rfl tU_28 rfl ⟨rfl, rfl⟩⟩) ?_
      refine xd_take 10 (some 42) rfl rfl (by kernel_rfl) (v := (.int .i64 ((qa : Nat)))) (.inl ⟨rfl, fun W_ hW_ => ox_callE (al := [(.int .i64 p.1), (.int .i64 (((ts.length : Nat) : Int)))]) pf_14 rfl (ret_mono ((by have h := within_calls p.1 ((ts.length : Nat) : Int) W_ (by omega); rw [hqa] at h; exact h)) (by rintro _ _ ⟨rfl, rfl⟩; exact ⟨rfl, rfl⟩))⟩) hS1 ?_
      refine xd_pure 11 (some 8) rfl rfl (by kernel_rfl) (v := (.int .i64 ((qa : Nat)))) (.inl ⟨rfl, fun W_ hW_ => ox_assign (v := (.int .i64 ((qa : Nat)))) rfl ⟨rfl, rfl⟩⟩) ?_
      refine xd_done (by kernel_rfl) ?_ _
      refine xc_seq ?_
      refine xc_regionE [] (fun W_ => Chg (fun _ => False) w3 W_) hmix ?_
      intro w4 e3 z2
      have hS2 : Chg (fun _ => False) w3 w4 := Ext.to e3
      refine xd_pure 0 (some 43) rfl rfl (by kernel_rfl) (v := (.slice (some ⟨g1, o1, none⟩) ps.length c1)) (.inl ⟨rfl, fun W_ hW_ => ox_move (v := (.slice (some ⟨g1, o1, none⟩) ps.length c1)) g1_f1 ⟨rfl, rfl⟩⟩) ?_
      refine xd_pure 1 (some 44) rfl rfl (by kernel_rfl) (v := (.int .i64 ((i : Nat)))) (.inl ⟨rfl, fun W_ hW_ => ox_move (v := (.int .i64 ((i : Nat)))) g7_f1 ⟨rfl, rfl⟩⟩) ?_
      refine xd_pure 2 (some 45) rfl rfl (by kernel_rfl) (v := (.pointer (some ⟨g1, o1 + i * 2, none⟩))) (.inl ⟨rfl, fun W_ hW_ => ox_indexAddr (b := g1) (o := o1) (i := ((i : Nat))) tE_23 rfl rfl (by omega) (by omega) ⟨rfl, rfl⟩⟩) ?_
      refine xd_pure 3 (some 46) rfl rfl (by kernel_rfl) (v := (.pointer (some ⟨g1, o1 + i * 2 + 1, none⟩))) (.inl ⟨rfl, fun W_ hW_ => ox_indexArr (b := g1) (o := (o1 + i * 2)) (i := 1) tV_33 rfl rfl (by decide) (by decide) ⟨rfl, rfl⟩⟩) ?_
      refine xd_take 4 (some 47) rfl rfl (by kernel_rfl) (v := (.int .i64 p.2)) (.inl ⟨rfl, fun W_ hW_ => ox_load (v := (.int .i64 p.2)) tA_3 rfl (CellsL.keep (Ext.trans (Ext.trans (Ext.trans hEx1 x_f1) e2) hW_) not_false hcpr).2.1 ⟨rfl, rfl⟩⟩) hS2 ?_
      refine xd_pure 5 (some 48) rfl rfl (by kernel_rfl) (v := (.pointer (some ⟨bg, 0, none⟩))) (.inl ⟨rfl, fun W_ hW_ => ox_move (v := (.pointer (some ⟨bg, 0, none⟩))) g5_f1 ⟨rfl, rfl⟩⟩) ?_
      refine xd_pure 6 (some 49) rfl rfl (by kernel_rfl) (v := (.pointer (some ⟨bg, 0, none⟩))) (.inl ⟨rfl, fun W_ hW_ => ox_nilCheck (p := ⟨bg, 0, none⟩) rfl ⟨rfl, rfl⟩⟩) ?_
      refine xd_pure 7 (some 50) rfl rfl (by kernel_rfl) (v := (.pointer (some ⟨bg, 1, none⟩))) (.inl ⟨rfl, fun W_ hW_ => ox_fieldAddr (b := bg) (o := 0) tF_31_1 rfl ⟨rfl, rfl⟩⟩) ?_
      refine xd_take 8 (some 51) rfl rfl (by kernel_rfl) (v := (.slice (some ⟨gn, 0, none⟩) ts.length cn)) (.inl ⟨rfl, fun W_ hW_ => ox_load (v := (.slice (some ⟨gn, 0, none⟩) ts.length cn)) tA_28 rfl ((((hGM.g.ext x_f1).ext e2).ext hW_).cell rfl) ⟨rfl, rfl⟩⟩) hS2 ?_
      refine xd_pure 9 (some 52) rfl rfl (by kernel_rfl) (v := (.int .i64 (((ts.length : Nat) : Int)))) (.inl ⟨rfl, fun W_ hW_ => ox_len (A := (some ⟨gn, 0, none⟩)) (n := ts.length) (cp := cn) rfl tU_28 rfl ⟨rfl, rfl⟩⟩) ?_
      refine xd_take 10 (some 53) rfl rfl (by kernel_rfl) (v := (.int .i64 ((qb : Nat)))) (.inl ⟨rfl, fun W_ hW_ => ox_callE (al := [(.int .i64 p.2), (.int .i64 (((ts.length : Nat) : Int)))]) pf_14 rfl (ret_mono ((by have h := within_calls p.2 ((ts.length : Nat) : Int) W_ (by omega); rw [hqb] at h; exact h)) (by rintro _ _ ⟨rfl, rfl⟩; exact ⟨rfl, rfl⟩))⟩) hS2 ?_
      refine xd_pure 11 (some 9) rfl rfl (by kernel_rfl) (v := (.int .i64 ((qb : Nat)))) (.inl ⟨rfl, fun W_ hW_ => ox_assign (v := (.int .i64 ((qb : Nat)))) rfl ⟨rfl, rfl⟩⟩) ?_
      refine xd_done (by kernel_rfl) ?_ _
      refine xc_seq ?_
      refine xc_regionE [] (fun W_ => Chg (fun _ => False) w4 W_) hmix ?_
      intro w5 e4 z3
      have hS3 : Chg (fun _ => False) w4 w5 := Ext.to e4
      refine xd_pure 0 (some 54) rfl rfl (by kernel_rfl) (v := (.pointer (some ⟨bg, 0, none⟩))) (.inl ⟨rfl, fun W_ hW_ => ox_move (v := (.pointer (some ⟨bg, 0, none⟩))) g5_f1 ⟨rfl, rfl⟩⟩) ?_
      refine xd_pure 1 (some 55) rfl rfl (by kernel_rfl) (v := (.pointer (some ⟨bg, 0, none⟩))) (.inl ⟨rfl, fun W_ hW_ => ox_nilCheck (p := ⟨bg, 0, none⟩) rfl ⟨rfl, rfl⟩⟩) ?_
      refine xd_pure 2 (some 56) rfl rfl (by kernel_rfl) (v := (.pointer (some ⟨bg, 1, none⟩))) (.inl ⟨rfl, fun W_ hW_ => ox_fieldAddr (b := bg) (o := 0) tF_31_1 rfl ⟨rfl, rfl⟩⟩) ?_
      refine xd_take 3 (some 57) rfl rfl (by kernel_rfl) (v := (.slice (some ⟨gn, 0, none⟩) ts.length cn)) (.inl ⟨rfl, fun W_ hW_ => ox_load (v := (.slice (some ⟨gn, 0, none⟩) ts.length cn)) tA_28 rfl (((((hGM.g.ext x_f1).ext e2).ext e3).ext hW_).cell rfl) ⟨rfl, rfl⟩⟩) hS3 ?_
      refine xd_pure 4 (some 58) rfl rfl (by kernel_rfl) (v := (.int .i64 ((qa : Nat)))) (.inl ⟨rfl, fun W_ hW_ => ox_move (v := (.int .i64 ((qa : Nat)))) rfl ⟨rfl, rfl⟩⟩) ?_
      refine xd_pure 5 (some 59) rfl rfl (by kernel_rfl) (v := (.pointer (some ⟨gn, 0 + ((qa : Nat) : Int).toNat * 1, none⟩))) (.inl ⟨rfl, fun W_ hW_ => ox_indexAddr (b := gn) (o := 0) (i := ((qa : Nat))) tE_28 rfl rfl (by omega) (by omega) ⟨rfl, rfl⟩⟩) ?_
      refine xd_take 6 (some 60) rfl rfl (by kernel_rfl) (v := (.pointer (some ⟨ta.b, 0, none⟩))) (.inl ⟨rfl, fun W_ hW_ => ox_load (v := (.pointer (some ⟨ta.b, 0, none⟩))) tA_36 rfl (by simpa [T.ptr] using Ext.cell hcna (Ext.trans (Ext.trans (Ext.trans x_f1 e2) e3) hW_)) ⟨rfl, rfl⟩⟩) hS3 ?_
      refine xd_pure 7 (some 61) rfl rfl (by kernel_rfl) (v := (.pointer (some ⟨bg, 0, none⟩))) (.inl ⟨rfl, fun W_ hW_ => ox_move (v := (.pointer (some ⟨bg, 0, none⟩))) g5_f1 ⟨rfl, rfl⟩⟩) ?_
      refine xd_pure 8 (some 62) rfl rfl (by kernel_rfl) (v := (.pointer (some ⟨bg, 0, none⟩))) (.inl ⟨rfl, fun W_ hW_ => ox_nilCheck (p := ⟨bg, 0, none⟩) rfl ⟨rfl, rfl⟩⟩) ?_
      refine xd_pure 9 (some 63) rfl rfl (by kernel_rfl) (v := (.pointer (some ⟨bg, 1, none⟩))) (.inl ⟨rfl, fun W_ hW_ => ox_fieldAddr (b := bg) (o := 0) tF_31_1 rfl ⟨rfl, rfl⟩⟩) ?_
      refine xd_take 10 (some 64) rfl rfl (by kernel_rfl) (v := (.slice (some ⟨gn, 0, none⟩) ts.length cn)) (.inl ⟨rfl, fun W_ hW_ => ox_load (v := (.slice (some ⟨gn, 0, none⟩) ts.length cn)) tA_28 rfl (((((hGM.g.ext x_f1).ext e2).ext e3).ext hW_).cell rfl) ⟨rfl, rfl⟩⟩) hS3 ?_
      refine xd_pure 11 (some 65) rfl rfl (by kernel_rfl) (v := (.int .i64 ((qb : Nat)))) (.inl ⟨rfl, fun W_ hW_ => ox_move (v := (.int .i64 ((qb : Nat)))) rfl ⟨rfl, rfl⟩⟩) ?_
      refine xd_pure 12 (some 66) rfl rfl (by kernel_rfl) (v := (.pointer (some ⟨gn, 0 + ((qb : Nat) : Int).toNat * 1, none⟩))) (.inl ⟨rfl, fun W_ hW_ => ox_indexAddr (b := gn) (o := 0) (i := ((qb : Nat))) tE_28 rfl rfl (by omega) (by omega) ⟨rfl, rfl⟩⟩) ?_
      refine xd_take 13 (some 67) rfl rfl (by kernel_rfl) (v := (.pointer (some ⟨tb.b, 0, none⟩))) (.inl ⟨rfl, fun W_ hW_ => ox_load (v := (.pointer (some ⟨tb.b, 0, none⟩))) tA_36 rfl (by simpa [T.ptr] using Ext.cell hcnb (Ext.trans (Ext.trans (Ext.trans x_f1 e2) e3) hW_)) ⟨rfl, rfl⟩⟩) hS3 ?_
      refine xd_one 14 (some 68) rfl rfl (by kernel_rfl) rfl (ox_callE (al := [(.pointer (some ⟨ta.b, 0, none⟩)), (.pointer (some ⟨tb.b, 0, none⟩))]) pf_15 rfl (ret_mono ((by have h := dLeaves_calls (.pointer (some ⟨s, 0, none⟩)) ta tb w5 (hPa.ext (Ext.trans (Ext.trans (Ext.trans x_f1 e2) e3) e4)) hWa hsa4 (hPb.ext (Ext.trans (Ext.trans (Ext.trans x_f1 e2) e3) e4)) hWb hsb4; rw [hunks_two hWa hWb hska hskb, ← hH] at h; exact h)) ?_))
      rintro _ w6 ⟨Ah, ch, rfl, hoh, hnh, e5⟩
      have he5 := e5.size
      have hS4 : Chg (fun _ => False) w4 w6 := Chg.ext hS3 e5
      refine ⟨.inr fun _ => hS4, ?_⟩
      refine xd_pure 15 (some 10) rfl rfl (by kernel_rfl) (v := (.slice Ah H.length ch)) (.inl ⟨rfl, fun W_ hW_ => ox_assign (v := (.slice Ah H.length ch)) rfl ⟨rfl, rfl⟩⟩) ?_
      refine xd_done (by kernel_rfl) ?_ _
      refine xc_seq ?_
      refine xc_regionE [] (fun W_ => Chg (fun _ => False) w6 W_) hmix ?_
      intro w7 e6 z4
      have hS5 : Chg (fun _ => False) w6 w7 := Ext.to e6
      refine xd_pure 0 (some 69) rfl rfl (by kernel_rfl) (v := (.pointer (some ⟨bg, 0, none⟩))) (.inl ⟨rfl, fun W_ hW_ => ox_move (v := (.pointer (some ⟨bg, 0, none⟩))) g5_f1 ⟨rfl, rfl⟩⟩) ?_
      refine xd_pure 1 (some 70) rfl rfl (by kernel_rfl) (v := (.pointer (some ⟨bg, 0, none⟩))) (.inl ⟨rfl, fun W_ hW_ => ox_nilCheck (p := ⟨bg, 0, none⟩) rfl ⟨rfl, rfl⟩⟩) ?_
      refine xd_pure 2 (some 71) rfl rfl (by kernel_rfl) (v := (.pointer (some ⟨bg, 2, none⟩))) (.inl ⟨rfl, fun W_ hW_ => ox_fieldAddr (b := bg) (o := 0) tF_31_2 rfl ⟨rfl, rfl⟩⟩) ?_
      have q1 := ((((hGM.g.ext x_f1).ext e2).ext e3).ext e4)
      refine xd_take 3 (some 72) rfl rfl (by kernel_rfl) (v := (.slice (some ⟨gp, 0, none⟩) us.length cp)) (.inl ⟨rfl, fun W_ hW_ => ox_load (v := (.slice (some ⟨gp, 0, none⟩) us.length cp)) tA_29 rfl (((q1.ext e5).ext hW_).cell rfl) ⟨rfl, rfl⟩⟩) hS5 ?_
      refine xd_pure 4 (some 73) rfl rfl (by kernel_rfl) (v := (.int .i64 ((qa : Nat)))) (.inl ⟨rfl, fun W_ hW_ => ox_move (v := (.int .i64 ((qa : Nat)))) rfl ⟨rfl, rfl⟩⟩) ?_
      refine xd_pure 5 (some 74) rfl rfl (by kernel_rfl) (v := (.pointer (some ⟨gp, 0 + ((qa : Nat) : Int).toNat * 1, none⟩))) (.inl ⟨rfl, fun W_ hW_ => ox_indexAddr (b := gp) (o := 0) (i := ((qa : Nat))) tE_29 rfl rfl (by omega) (by omega) ⟨rfl, rfl⟩⟩) ?_
      refine xd_take 6 (some 75) rfl rfl (by kernel_rfl) (v := (.pointer (some ⟨ua.b, 0, none⟩))) (.inl ⟨rfl, fun W_ hW_ => ox_load (v := (.pointer (some ⟨ua.b, 0, none⟩))) tA_38 rfl (by simpa [T.ptr] using Ext.cell hcpa (Ext.trans (Ext.trans (Ext.trans (Ext.trans (Ext.trans x_f1 e2) e3) e4) e5) hW_)) ⟨rfl, rfl⟩⟩) hS5 ?_
      refine xd_pure 7 (some 76) rfl rfl (by kernel_rfl) (v := (.pointer (some ⟨bg, 0, none⟩))) (.inl ⟨rfl, fun W_ hW_ => ox_move (v := (.pointer (some ⟨bg, 0, none⟩))) g5_f1 ⟨rfl, rfl⟩⟩) ?_
      refine xd_pure 8 (some 77) rfl rfl (by kernel_rfl) (v := (.pointer (some ⟨bg, 0, none⟩))) (.inl ⟨rfl, fun W_ hW_ => ox_nilCheck (p := ⟨bg, 0, none⟩) rfl ⟨rfl, rfl⟩⟩) ?_
      refine xd_pure 9 (some 78) rfl rfl (by kernel_rfl) (v := (.pointer (some ⟨bg, 2, none⟩))) (.inl ⟨rfl, fun W_ hW_ => ox_fieldAddr (b := bg) (o := 0) tF_31_2 rfl ⟨rfl, rfl⟩⟩) ?_
      have q2 := ((((hGM.g.ext x_f1).ext e2).ext e3).ext e4)
      refine xd_take 10 (some 79) rfl rfl (by kernel_rfl) (v := (.slice (some ⟨gp, 0, none⟩) us.length cp)) (.inl ⟨rfl, fun W_ hW_ => ox_load (v := (.slice (some ⟨gp, 0, none⟩) us.length cp)) tA_29 rfl (((q2.ext e5).ext hW_).cell rfl) ⟨rfl, rfl⟩⟩) hS5 ?_
      refine xd_pure 11 (some 80) rfl rfl (by kernel_rfl) (v := (.int .i64 ((qb : Nat)))) (.inl ⟨rfl, fun W_ hW_ => ox_move (v := (.int .i64 ((qb : Nat)))) rfl ⟨rfl, rfl⟩⟩) ?_
      refine xd_pure 12 (some 81) rfl rfl (by kernel_rfl) (v := (.pointer (some ⟨gp, 0 + ((qb : Nat) : Int).toNat * 1, none⟩))) (.inl ⟨rfl, fun W_ hW_ => ox_indexAddr (b := gp) (o := 0) (i := ((qb : Nat))) tE_29 rfl rfl (by omega) (by omega) ⟨rfl, rfl⟩⟩) ?_
      refine xd_take 13 (some 82) rfl rfl (by kernel_rfl) (v := (.pointer (some ⟨ub.b, 0, none⟩))) (.inl ⟨rfl, fun W_ hW_ => ox_load (v := (.pointer (some ⟨ub.b, 0, none⟩))) tA_38 rfl (by simpa [T.ptr] using Ext.cell hcpb (Ext.trans (Ext.trans (Ext.trans (Ext.trans (Ext.trans x_f1 e2) e3) e4) e5) hW_)) ⟨rfl, rfl⟩⟩) hS5 ?_
      refine xd_one 14 (some 83) rfl rfl (by kernel_rfl) rfl (ox_callE (al := [(.pointer (some ⟨ua.b, 0, none⟩)), (.pointer (some ⟨ub.b, 0, none⟩))]) pf_16 rfl (ret_mono ((by have h := refHunks_calls ua ub w7 (hRa.ext (Ext.trans (Ext.trans (Ext.trans (Ext.trans (Ext.trans x_f1 e2) e3) e4) e5) e6)) hsua4 (hRb.ext (Ext.trans (Ext.trans (Ext.trans (Ext.trans (Ext.trans x_f1 e2) e3) e4) e5) e6)) hsub4; rw [← hH] at h; exact h)) ?_))
      rintro _ w8 ⟨Am, cm, rfl, hom, hnm, e7⟩
      have he7 := e7.size
      have hS6 : Chg (fun _ => False) w6 w8 := Chg.ext hS5 e7
      refine ⟨.inr fun _ => hS6, ?_⟩
      refine xd_pure 15 (some 11) rfl rfl (by kernel_rfl) (v := (.slice Am H.length cm)) (.inl ⟨rfl, fun W_ hW_ => ox_assign (v := (.slice Am H.length cm)) rfl ⟨rfl, rfl⟩⟩) ?_
      refine xd_done (by kernel_rfl) ?_ _
      refine xc_seq ?_
      refine xc_seq ?_
      refine xc_region ?_
      refine xl_op (P := Try.prog) (some 84) rfl rfl (ox_move (v := (.slice Ah H.length ch)) rfl ?_)
      refine xl_op (P := Try.prog) (some 85) rfl rfl (ox_len (A := Ah) (n := H.length) (cp := ch) rfl tU_34 rfl ?_)
      refine xl_op (P := Try.prog) (some 86) rfl rfl (ox_move (v := (.slice Am H.length cm)) rfl ?_)
      refine xl_op (P := Try.prog) (some 87) rfl rfl (ox_len (A := Am) (n := H.length) (cp := cm) rfl tU_34 rfl ?_)
      refine xl_op (P := Try.prog) (some 88) rfl rfl (ox_neq (k := .i64) (a := (((H.length : Nat) : Int))) (b := (((H.length : Nat) : Int))) rfl rfl ?_)
      refine xl_nil ?_
      refine xc_cond_f (congrArg Value.bool (by simp : decide ((((H.length : Nat) : Int) : Int) ≠ (((H.length : Nat) : Int))) = false)) ?_
      refine xc_skip ?_
      refine xc_seq ?_
      refine xc_region ?_
      refine xl_op (P := Try.prog) (some 12) rfl rfl (ox_assign (v := (.int .i64 0)) rfl ?_)
      refine xl_nil ?_
      refine xc_block ?_
      have hoh2 := hoh.ext (Ext.trans e6 e7)
      have hom2 := hom.ext (Chg.refl _ _)
      have hEx2 := (Ext.trans (Ext.trans (Ext.trans (Ext.trans (Ext.trans (Ext.trans (Ext.trans hEx1 x_f1) e2) e3) e4) e5) e6) e7)
      have hEx2z := hEx2.size
      have hEx3 := (Ext.trans (Ext.trans (Ext.trans (Ext.trans (Ext.trans (Ext.trans x_f1 e2) e3) e4) e5) e6) e7)
      have hEx3z := hEx3.size
      refine xc_loopN (fun m f W => ∃ (k : Nat), m = H.length - k ∧ k ≤ H.length ∧ f 5 = (.pointer (some ⟨bg, 0, none⟩)) ∧ f 6 = (.bool true) ∧ f 1 = (.slice (some ⟨g1, o1, none⟩) ps.length c1) ∧ f 7 = (.int .i64 ((i : Nat))) ∧ f 10 = (.slice Ah H.length ch) ∧ f 11 = (.slice Am H.length cm) ∧ f 12 = (.int .i64 ((k : Nat))) ∧ Ext w8 W) (H.length) ?_ ?_
      · exact ⟨0, by omega, by omega, g5_f1, g6_f1, g1_f1, g7_f1, rfl, rfl, (by first | exact rfl | exact (congrArg (Value.int .i64) (by omega))), (Chg.refl _ _)⟩
      · rintro m f2 w9 ⟨k, hm, hk, g5_f2, g6_f2, g1_f2, g7_f2, g10_f2, g11_f2, g12_f2, x_f2⟩
        have hzY := x_f2.size
        refine xc_seq ?_
        refine xc_seq ?_
        refine xc_region ?_
        refine xl_op (P := Try.prog) (some 89) rfl rfl (ox_move (v := (.int .i64 ((k : Nat)))) g12_f2 ?_)
        refine xl_op (P := Try.prog) (some 90) rfl rfl (ox_move (v := (.slice Ah H.length ch)) g10_f2 ?_)
        refine xl_op (P := Try.prog) (some 91) rfl rfl (ox_len (A := Ah) (n := H.length) (cp := ch) rfl tU_34 rfl ?_)
        refine xl_op (P := Try.prog) (some 92) rfl rfl (ox_lss (k := .i64) (a := ((k : Nat))) (b := (((H.length : Nat) : Int))) rfl rfl ?_)
        refine xl_nil ?_
        refine xc_if (p := ((k : Nat) : Int) < (((H.length : Nat) : Int))) rfl (fun h2 => ?_) (fun h2 => ?_)
        · skip
          have hkl : k < H.length := by omega
          obtain ⟨z, hz⟩ := get_ex (l := H) (i := k) hkl
          obtain ⟨goh, c9oh, heqoh, _⟩ := hoh2.some_of (by omega)
          simp only [Value.slice.injEq, true_and] at heqoh
          obtain ⟨rfl, rfl⟩ := heqoh
          have hcoh := Own.hk hoh2 hz
          obtain ⟨gom, c9om, heqom, _⟩ := hom2.some_of (by omega)
          simp only [Value.slice.injEq, true_and] at heqom
          obtain ⟨rfl, rfl⟩ := heqom
          have hcom := Own.hk hom2 hz
          refine xc_skip ?_
          refine xc_seq ?_
          refine xc_block ?_
          refine xc_seq ?_
          refine xc_regionE [] (fun W_ => Chg (fun _ => False) w9 W_) hmix ?_
          intro w10 e8 z5
          have hS7 : Chg (fun _ => False) w9 w10 := Ext.to e8
          refine xd_pure 0 (some 95) rfl rfl (by kernel_rfl) (v := (.slice (some ⟨goh, 0, none⟩) H.length ch)) (.inl ⟨rfl, fun W_ hW_ => ox_move (v := (.slice (some ⟨goh, 0, none⟩) H.length ch)) g10_f2 ⟨rfl, rfl⟩⟩) ?_
          refine xd_pure 1 (some 96) rfl rfl (by kernel_rfl) (v := (.int .i64 ((k : Nat)))) (.inl ⟨rfl, fun W_ hW_ => ox_move (v := (.int .i64 ((k : Nat)))) g12_f2 ⟨rfl, rfl⟩⟩) ?_
          refine xd_pure 2 (some 97) rfl rfl (by kernel_rfl) (v := (.pointer (some ⟨goh, 0 + ((k : Nat) : Int).toNat * 4, none⟩))) (.inl ⟨rfl, fun W_ hW_ => ox_indexAddr (b := goh) (o := 0) (i := ((k : Nat))) tE_34 rfl rfl (by omega) (by omega) ⟨rfl, rfl⟩⟩) ?_
          refine xd_take 3 (some 98) rfl rfl (by kernel_rfl) (v := (.agg #[(.int .i64 z.frm), (.int .i64 z.to), (.int .i64 z.into), (.int .i64 z.upto)])) (.inl ⟨rfl, fun W_ hW_ => ox_loadN (vs := [(.int .i64 z.frm), (.int .i64 z.to), (.int .i64 z.into), (.int .i64 z.upto)]) tA_40 tS_40 rfl rfl (by simpa [hkCs] using CellsL.keep (Ext.trans x_f2 hW_) not_false hcoh) ⟨rfl, rfl⟩⟩) hS7 ?_
          refine xd_pure 4 (some 99) rfl rfl (by kernel_rfl) (v := (.slice (some ⟨gom, 0, none⟩) H.length cm)) (.inl ⟨rfl, fun W_ hW_ => ox_move (v := (.slice (some ⟨gom, 0, none⟩) H.length cm)) g11_f2 ⟨rfl, rfl⟩⟩) ?_
          refine xd_pure 5 (some 100) rfl rfl (by kernel_rfl) (v := (.int .i64 ((k : Nat)))) (.inl ⟨rfl, fun W_ hW_ => ox_move (v := (.int .i64 ((k : Nat)))) g12_f2 ⟨rfl, rfl⟩⟩) ?_
          refine xd_pure 6 (some 101) rfl rfl (by kernel_rfl) (v := (.pointer (some ⟨gom, 0 + ((k : Nat) : Int).toNat * 4, none⟩))) (.inl ⟨rfl, fun W_ hW_ => ox_indexAddr (b := gom) (o := 0) (i := ((k : Nat))) tE_34 rfl rfl (by omega) (by omega) ⟨rfl, rfl⟩⟩) ?_
          refine xd_take 7 (some 102) rfl rfl (by kernel_rfl) (v := (.agg #[(.int .i64 z.frm), (.int .i64 z.to), (.int .i64 z.into), (.int .i64 z.upto)])) (.inl ⟨rfl, fun W_ hW_ => ox_loadN (vs := [(.int .i64 z.frm), (.int .i64 z.to), (.int .i64 z.into), (.int .i64 z.upto)]) tA_40 tS_40 rfl rfl (by simpa [hkCs] using CellsL.keep (Ext.trans x_f2 hW_) not_false hcom) ⟨rfl, rfl⟩⟩) hS7 ?_
          refine xd_pure 8 (some 103) rfl rfl (by kernel_rfl) (v := (.bool (!decide (((z.frm : Int) = z.frm ∧ (z.to : Int) = z.to ∧ (z.into : Int) = z.into ∧ (z.upto : Int) = z.upto))))) (.inl ⟨rfl, fun W_ hW_ => ox_neqF (xs := [(.int .i64 z.frm), (.int .i64 z.to), (.int .i64 z.into), (.int .i64 z.upto)]) (ys := [(.int .i64 z.frm), (.int .i64 z.to), (.int .i64 z.into), (.int .i64 z.upto)]) (p := ((z.frm : Int) = z.frm ∧ (z.to : Int) = z.to ∧ (z.into : Int) = z.into ∧ (z.upto : Int) = z.upto)) fS_40 rfl rfl rfl rfl (by simp) ⟨rfl, rfl⟩⟩) ?_
          refine xd_done (by kernel_rfl) ?_ _
          refine xc_cond_f (congrArg Value.bool (by simp : (!decide (((z.frm : Int) = z.frm ∧ (z.to : Int) = z.to ∧ (z.into : Int) = z.into ∧ (z.upto : Int) = z.upto))) = false)) ?_
          refine xc_skip ?_
          refine xc_region ?_
          refine xl_op (P := Try.prog) (some 93) rfl rfl (ox_move (v := (.int .i64 ((k : Nat)))) g12_f2 ?_)
          refine xl_op (P := Try.prog) (some 94) rfl rfl (ox_add64 (a := ((k : Nat))) (b := 1) rfl rfl (by omega) ?_)
          refine xl_op (P := Try.prog) (some 12) rfl rfl (ox_assign (v := (.int .i64 ((k : Nat) + 1))) rfl ?_)
          refine xl_nil ?_
          have hsz0 := e8.size
          exact ⟨rfl, H.length - (k + 1), by omega, k + 1, by omega, by omega, g5_f2, g6_f2, g1_f2, g7_f2, g10_f2, g11_f2, (by first | exact rfl | exact (congrArg (Value.int .i64) (by omega))), (Ext.trans x_f2 e8)⟩
        · skip
          refine xc_exit ?_
          refine xc_region ?_
          refine xl_op (P := Try.prog) (some 30) rfl rfl (ox_move (v := (.int .i64 ((i : Nat)))) g7_f2 ?_)
          refine xl_op (P := Try.prog) (some 31) rfl rfl (ox_add64 (a := ((i : Nat))) (b := 1) rfl rfl (by omega) ?_)
          refine xl_op (P := Try.prog) (some 7) rfl rfl (ox_assign (v := (.int .i64 ((i : Nat) + 1))) rfl ?_)
          refine xl_nil ?_
          exact ⟨rfl, ps.length - (i + 1), by omega, i + 1, by omega, by omega, g5_f2, g1_f2, (by first | exact rfl | exact (congrArg (Value.int .i64) (by omega))), g6_f2, (Ext.trans hEx3 x_f2)⟩
    · skip
      have h1' := h1
      try simp only [Bool.or_eq_true, Bool.and_eq_true, decide_eq_true_eq, Bool.or_eq_false_iff, Bool.and_eq_false_iff, decide_eq_false_iff_not, Bool.not_eq_true', Bool.not_eq_false'] at h1'
      refine xc_exit ?_
      refine xc_seq ?_
      refine xc_region ?_
      refine xl_op (P := Try.prog) (some 104) rfl rfl (ox_move (v := (.bool true)) g6_f1 ?_)
      refine xl_op (P := Try.prog) (some 4) rfl rfl (ox_assign (v := (.bool true)) rfl ?_)
      refine xl_nil ?_
      refine xc_ret ?_
      change leaves _ _ _ _ _ _ _
      refine leaves_nil (n := 105) (rs := [.tmp 4]) (vs := [(.bool true)]) rfl ⟨⟨by decide, rfl⟩, trivial⟩ ?_
      exact ⟨rfl, (Ext.trans hEx1 x_f1)⟩

end Go.Proofs.Ythhbnodnpajljaa
