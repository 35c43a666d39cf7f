/-
  The law DeltaBook, walked. No conditions.
-/
import Derived.Test.YthhbnodnpajljaaVxi
import Derived.Test.YthhbnodnpajljaaRows
import Derived.Test.YthhbnodnpajljaaVxj
import Derived.Test.YthhbnodnpajljaaMb
import Derived.Test.YthhbnodnpajljaaIa
import Derived.Test.YthhbnodnpajljaaGa
import Derived.Test.YthhbnodnpajljaaGc
import Derived.Test.YthhbnodnpajljaaFc
import Derived.Test.YthhbnodnpajljaaDn
import Derived.Test.YthhbnodnpajljaaDq
import Derived.Test.YthhbnodnpajljaaDs
set_option linter.unusedVariables false
set_option linter.unusedSimpArgs false
set_option maxRecDepth 100000
set_option maxHeartbeats 4000000
namespace Go.Proofs.Ythhbnodnpajljaa
open Go Go.RowKit Go.Vx


theorem pf_13 : plainF Try.prog 13 = true := by kernel_rfl
theorem pf_16 : plainF Try.prog 16 = true := by kernel_rfl
theorem pf_23 : plainF Try.prog 23 = true := by kernel_rfl
theorem pf_27 : plainF Try.prog 27 = true := by kernel_rfl
theorem pf_28 : plainF Try.prog 28 = true := by kernel_rfl
theorem pf_29 : plainF Try.prog 29 = true := by kernel_rfl
theorem pf_30 : plainF Try.prog 30 = true := by kernel_rfl
theorem pf_31 : plainF Try.prog 31 = true := by kernel_rfl
theorem tE_23 : sliceT Try.prog 23 = some (33, 2, 16, (.agg #[(.int .i64 0), (.int .i64 0)])) := by kernel_rfl
theorem tU_23 : Try.prog.underlying 23 = some (.slice 33) := by kernel_rfl
theorem tV_33 : arrT Try.prog 33 = some (2, 3, 1) := by kernel_rfl

theorem deltaBook_calls (l : List PB) (A0 : Option Addr) (c0 : Nat) (ps : List (Int × Int)) (A1 : Option Addr) (c1 : Nat) (w : World) (hA0 : RowA w A0 (pbC l)) (hn0 : l.length ≤ 4611686018427387904) (hok : ∀ x ∈ l, x.ok w) (hA1 : RowA w A1 (prC ps)) (hn1 : ps.length ≤ 4611686018427387904) :
    Calls Try.prog 8 #[(.slice A0 l.length c0), (.slice A1 ps.length c1)] w (Ret (fun v w' => v = .bool true ∧ Ext w w')) := by
  refine calls_xc (n := 234) (f := fun s_ => [(.slice A0 l.length c0), (.slice A1 ps.length c1)].getD s_ undef) Try.func8 rfl rfl (by simp) (fun s_ => by simp) ?_
  refine xc_seq ?_
  refine xc_region ?_
  refine xl_op (P := Try.prog) (some 4) rfl rfl (ox_assign (v := (.bool false)) rfl ?_)
  refine xl_nil ?_
  refine xc_seq ?_
  refine xc_region ?_
  refine xl_op (P := Try.prog) (some 21) rfl rfl (ox_move (v := (.slice A0 l.length c0)) rfl ?_)
  refine xl_op (P := Try.prog) (some 22) rfl rfl (ox_callE (al := [(.slice A0 l.length c0)]) pf_13 rfl (ret_mono (grove_calls l A0 c0 w (RowA.ext hA0 (Chg.refl _ _)) (by omega) (fun x hx => (hok x hx).ext (Chg.refl _ _))) ?_))
  rintro _ w1 ⟨bg, s, ts, us, An, Ap, cn, cp, rfl, hGM, hlbg, hls, e1⟩
  have he1 := e1.size
  have hul := hGM.ok.len
  have hfew := hGM.few
  refine xl_op (P := Try.prog) (some 20) rfl rfl (ox_move (v := (.tuple #[(.pointer (some ⟨bg, 0, none⟩)), (.bool true)])) rfl ?_)
  refine xl_op (P := Try.prog) (some 23) rfl rfl (ox_extract (vs := #[(.pointer (some ⟨bg, 0, none⟩)), (.bool true)]) (v := (.pointer (some ⟨bg, 0, none⟩))) rfl rfl ?_)
  refine xl_op (P := Try.prog) (some 24) rfl rfl (ox_extract (vs := #[(.pointer (some ⟨bg, 0, none⟩)), (.bool true)]) (v := (.bool true)) rfl rfl ?_)
  refine xl_op (P := Try.prog) (some 5) rfl rfl (ox_assign (v := (.pointer (some ⟨bg, 0, none⟩))) rfl ?_)
  refine xl_op (P := Try.prog) (some 6) rfl rfl (ox_assign (v := (.bool true)) rfl ?_)
  refine xl_nil ?_
  refine xc_seq ?_
  refine xc_seq ?_
  refine xc_region ?_
  refine xl_op (P := Try.prog) (some 25) rfl rfl (ox_move (v := (.bool true)) rfl ?_)
  refine xl_op (P := Try.prog) (some 26) rfl rfl (ox_not (b := true) rfl ?_)
  refine xl_nil ?_
  refine xc_cond_f rfl ?_
  refine xc_skip ?_
  refine xc_seq ?_
  refine xc_region ?_
  refine xl_op (P := Try.prog) (some 7) rfl rfl (ox_assign (v := (.slice none 0 0)) rfl ?_)
  refine xl_nil ?_
  refine xc_seq ?_
  refine xc_region ?_
  refine xl_op (P := Try.prog) (some 8) rfl rfl (ox_assign (v := (.slice none 0 0)) rfl ?_)
  refine xl_nil ?_
  refine xc_seq ?_
  refine xc_region ?_
  refine xl_op (P := Try.prog) (some 9) rfl rfl (ox_assign (v := (.slice none 0 0)) rfl ?_)
  refine xl_nil ?_
  refine xc_seq ?_
  refine xc_region ?_
  refine xl_op (P := Try.prog) (some 10) rfl rfl (ox_assign (v := (.slice none 0 0)) rfl ?_)
  refine xl_nil ?_
  refine xc_seq ?_
  refine xc_seq ?_
  refine xc_region ?_
  refine xl_op (P := Try.prog) (some 11) rfl rfl (ox_assign (v := (.int .i64 0)) rfl ?_)
  refine xl_nil ?_
  refine xc_block ?_
  have hEw := e1
  have hEz := hEw.size
  have hEg : Ext w1 w1 := (Chg.refl _ _)
  have hEgz := hEg.size
  refine xc_loopN (fun m f W => ∃ (i : Nat) (LH : List Sl3) (LW : List Sl3) (LO : List Sl3) (LX : List Sl3) (Hs : List (List Hk)) (Os : List (List OpD)) (A7 : Option Addr) (c7 : Nat) (A8 : Option Addr) (c8 : Nat) (A9 : Option Addr) (c9 : Nat) (A10 : Option Addr) (c10 : Nat), m = ps.length - i ∧ i ≤ ps.length ∧ LH.length ≤ 4 * i ∧ LO.length = LH.length ∧ i ≤ 12 ∧ f 5 = (.pointer (some ⟨bg, 0, none⟩)) ∧ f 1 = (.slice A1 ps.length c1) ∧ f 6 = (.bool true) ∧ f 11 = (.int .i64 ((i : Nat))) ∧ f 7 = (.slice A7 LH.length c7) ∧ f 8 = (.slice A8 LO.length c8) ∧ f 9 = (.slice A9 LW.length c9) ∧ f 10 = (.slice A10 LX.length c10) ∧ Vx.Own W 34 1 (.slice A7 LH.length c7) LH.length (LH.map Sl3.v) ∧ Vx.Own W 54 1 (.slice A8 LO.length c8) LO.length (LO.map Sl3.v) ∧ Vx.Own W 34 1 (.slice A9 LW.length c9) LW.length (LW.map Sl3.v) ∧ Vx.Own W 54 1 (.slice A10 LX.length c10) LX.length (LX.map Sl3.v) ∧ RB 40 4 hkC w.heap.size W LH LW Hs ∧ RB 88 9 opC w.heap.size W LO LX Os ∧ (∀ k, ((.slice A7 LH.length c7) : Value).ownBlock = some k → w1.heap.size ≤ k) ∧ (∀ k, ((.slice A8 LO.length c8) : Value).ownBlock = some k → w1.heap.size ≤ k) ∧ (∀ k, ((.slice A9 LW.length c9) : Value).ownBlock = some k → w1.heap.size ≤ k) ∧ (∀ k, ((.slice A10 LX.length c10) : Value).ownBlock = some k → w1.heap.size ≤ k) ∧ (∀ k, ((.slice A7 LH.length c7) : Value).ownBlock = some k → ((.slice A9 LW.length c9) : Value).ownBlock = some k → False) ∧ (∀ k, ((.slice A8 LO.length c8) : Value).ownBlock = some k → ((.slice A10 LX.length c10) : Value).ownBlock = some k → False) ∧ Ext w1 W) (ps.length) ?_ ?_
  · exact ⟨0, [], [], [], [], [], [], none, 0, none, 0, none, 0, none, 0, by omega, by omega, by simp, rfl, by omega, rfl, rfl, rfl, (by first | exact rfl | exact (congrArg (Value.int .i64) (by omega))), rfl, rfl, rfl, rfl, (Vx.Own.nil _ _ _), (Vx.Own.nil _ _ _), (Vx.Own.nil _ _ _), (Vx.Own.nil _ _ _), RB.nil, RB.nil, (by simp [Value.ownBlock]), (by simp [Value.ownBlock]), (by simp [Value.ownBlock]), (by simp [Value.ownBlock]), (by simp [Value.ownBlock]), (by simp [Value.ownBlock]), (Chg.refl _ _)⟩
  · rintro m f1 w2 ⟨i, LH, LW, LO, LX, Hs, Os, A7, c7, A8, c8, A9, c9, A10, c10, hm, hi, hcl, hpl, hi12, g5_f1, g1_f1, g6_f1, g11_f1, g7_f1, g8_f1, g9_f1, g10_f1, o7_f1, o8_f1, o9_f1, o10_f1, rb_f1, ro_f1, lo7_f1, lo8_f1, lo9_f1, lo10_f1, ne7_f1, ne8_f1, x_f1⟩
    have hzX := x_f1.size
    have hml0 : LW.length = LH.length := by rw [rb_f1.ml, rb_f1.ll]
    have hql0 : LX.length = LO.length := by rw [ro_f1.ml, ro_f1.ll]
    refine xc_seq ?_
    refine xc_seq ?_
    refine xc_region ?_
    refine xl_op (P := Try.prog) (some 27) rfl rfl (ox_move (v := (.int .i64 ((i : Nat)))) g11_f1 ?_)
    refine xl_op (P := Try.prog) (some 28) rfl rfl (ox_move (v := (.slice A1 ps.length c1)) g1_f1 ?_)
    refine xl_op (P := Try.prog) (some 29) rfl rfl (ox_len (A := A1) (n := ps.length) (cp := c1) rfl tU_23 rfl ?_)
    refine xl_op (P := Try.prog) (some 30) rfl rfl (ox_lss (k := .i64) (a := ((i : Nat))) (b := (((ps.length : Nat) : Int))) rfl rfl ?_)
    refine xl_op (P := Try.prog) (some 31) rfl rfl (ox_move (v := (.bool (decide (((i : Nat) : Int) < (((ps.length : Nat) : Int)))))) rfl ?_)
    refine xl_may (P := Try.prog) (some 32) (j := 4) (b := true) (((decide (((i : Nat) : Int) < (((ps.length : Nat) : Int))))) = true) (.bool (decide (((i : Nat) : Int) < (((ps.length : Nat) : Int))))) (.int .i64 ((i : Nat))) rfl rfl rfl (may_b ((decide (((i : Nat) : Int) < (((ps.length : Nat) : Int))))) true) (fun hp => ox_move (v := (.int .i64 ((i : Nat)))) g11_f1 ⟨rfl, rfl⟩) ?_
    refine xl_may (P := Try.prog) (some 33) (j := 4) (b := true) (((decide (((i : Nat) : Int) < (((ps.length : Nat) : Int))))) = true) (.bool (decide (((i : Nat) : Int) < (((ps.length : Nat) : Int))))) (.bool (decide (((i : Nat) : Int) < 12))) rfl rfl rfl (may_b ((decide (((i : Nat) : Int) < (((ps.length : Nat) : Int))))) true) (fun hp => ox_lss (k := .i64) (a := ((i : Nat))) (b := 12) (if_pos (α := Value) (t := (.int .i64 ((i : Nat)))) (e := undef) hp) rfl ⟨rfl, rfl⟩) ?_
    refine xl_op (P := Try.prog) (some 34) rfl rfl (ox_pick_and (a := ((decide (((i : Nat) : Int) < (((ps.length : Nat) : Int)))))) (b := ((decide (((i : Nat) : Int) < 12)))) rfl (fun ha => (if_pos (α := Value) (t := (.bool (decide (((i : Nat) : Int) < 12)))) (e := undef) ha)) rfl ?_)
    refine xl_op (P := Try.prog) (some 35) rfl rfl (ox_move (v := (.bool (((decide (((i : Nat) : Int) < (((ps.length : Nat) : Int))))) && ((decide (((i : Nat) : Int) < 12)))))) rfl ?_)
    refine xl_may (P := Try.prog) (some 36) (j := 8) (b := true) (((((decide (((i : Nat) : Int) < (((ps.length : Nat) : Int))))) && ((decide (((i : Nat) : Int) < 12))))) = true) (.bool (((decide (((i : Nat) : Int) < (((ps.length : Nat) : Int))))) && ((decide (((i : Nat) : Int) < 12))))) (.pointer (some ⟨bg, 0, none⟩)) rfl rfl rfl (may_b ((((decide (((i : Nat) : Int) < (((ps.length : Nat) : Int))))) && ((decide (((i : Nat) : Int) < 12))))) true) (fun hp => ox_move (v := (.pointer (some ⟨bg, 0, none⟩))) g5_f1 ⟨rfl, rfl⟩) ?_
    refine xl_may (P := Try.prog) (some 37) (j := 8) (b := true) (((((decide (((i : Nat) : Int) < (((ps.length : Nat) : Int))))) && ((decide (((i : Nat) : Int) < 12))))) = true) (.bool (((decide (((i : Nat) : Int) < (((ps.length : Nat) : Int))))) && ((decide (((i : Nat) : Int) < 12))))) (.pointer (some ⟨bg, 0, none⟩)) rfl rfl rfl (may_b ((((decide (((i : Nat) : Int) < (((ps.length : Nat) : Int))))) && ((decide (((i : Nat) : Int) < 12))))) true) (fun hp => ox_nilCheck (p := ⟨bg, 0, none⟩) (if_pos (α := Value) (t := (.pointer (some ⟨bg, 0, none⟩))) (e := undef) hp) ⟨rfl, rfl⟩) ?_
    refine xl_may (P := Try.prog) (some 38) (j := 8) (b := true) (((((decide (((i : Nat) : Int) < (((ps.length : Nat) : Int))))) && ((decide (((i : Nat) : Int) < 12))))) = true) (.bool (((decide (((i : Nat) : Int) < (((ps.length : Nat) : Int))))) && ((decide (((i : Nat) : Int) < 12))))) (.pointer (some ⟨bg, 1, none⟩)) rfl rfl rfl (may_b ((((decide (((i : Nat) : Int) < (((ps.length : Nat) : Int))))) && ((decide (((i : Nat) : Int) < 12))))) true) (fun hp => ox_fieldAddr (b := bg) (o := 0) tF_31_1 (if_pos (α := Value) (t := (.pointer (some ⟨bg, 0, none⟩))) (e := undef) hp) ⟨rfl, rfl⟩) ?_
    refine xl_may (P := Try.prog) (some 39) (j := 8) (b := true) (((((decide (((i : Nat) : Int) < (((ps.length : Nat) : Int))))) && ((decide (((i : Nat) : Int) < 12))))) = true) (.bool (((decide (((i : Nat) : Int) < (((ps.length : Nat) : Int))))) && ((decide (((i : Nat) : Int) < 12))))) (.slice An ts.length cn) rfl rfl rfl (may_b ((((decide (((i : Nat) : Int) < (((ps.length : Nat) : Int))))) && ((decide (((i : Nat) : Int) < 12))))) true) (fun hp => ox_load (v := (.slice An ts.length cn)) tA_28 (if_pos (α := Value) (t := (.pointer (some ⟨bg, 1, none⟩))) (e := undef) hp) ((hGM.g.ext x_f1).cell rfl) ⟨rfl, rfl⟩) ?_
    refine xl_may (P := Try.prog) (some 40) (j := 8) (b := true) (((((decide (((i : Nat) : Int) < (((ps.length : Nat) : Int))))) && ((decide (((i : Nat) : Int) < 12))))) = true) (.bool (((decide (((i : Nat) : Int) < (((ps.length : Nat) : Int))))) && ((decide (((i : Nat) : Int) < 12))))) (.int .i64 (((ts.length : Nat) : Int))) rfl rfl rfl (may_b ((((decide (((i : Nat) : Int) < (((ps.length : Nat) : Int))))) && ((decide (((i : Nat) : Int) < 12))))) true) (fun hp => ox_len (A := An) (n := ts.length) (cp := cn) rfl tU_28 (if_pos (α := Value) (t := (.slice An ts.length cn)) (e := undef) hp) ⟨rfl, rfl⟩) ?_
    refine xl_may (P := Try.prog) (some 41) (j := 8) (b := true) (((((decide (((i : Nat) : Int) < (((ps.length : Nat) : Int))))) && ((decide (((i : Nat) : Int) < 12))))) = true) (.bool (((decide (((i : Nat) : Int) < (((ps.length : Nat) : Int))))) && ((decide (((i : Nat) : Int) < 12))))) (.bool (decide ((0 : Int) < (((ts.length : Nat) : Int))))) rfl rfl rfl (may_b ((((decide (((i : Nat) : Int) < (((ps.length : Nat) : Int))))) && ((decide (((i : Nat) : Int) < 12))))) true) (fun hp => ox_gtr (k := .i64) (a := (((ts.length : Nat) : Int))) (b := 0) (if_pos (α := Value) (t := (.int .i64 (((ts.length : Nat) : Int)))) (e := undef) hp) rfl ⟨rfl, rfl⟩) ?_
    refine xl_op (P := Try.prog) (some 42) rfl rfl (ox_pick_and (a := ((((decide (((i : Nat) : Int) < (((ps.length : Nat) : Int))))) && ((decide (((i : Nat) : Int) < 12)))))) (b := ((decide ((0 : Int) < (((ts.length : Nat) : Int)))))) rfl (fun ha => (if_pos (α := Value) (t := (.bool (decide ((0 : Int) < (((ts.length : Nat) : Int)))))) (e := undef) ha)) rfl ?_)
    refine xl_nil ?_
    refine xc_cond (b := (((((decide (((i : Nat) : Int) < (((ps.length : Nat) : Int))))) && ((decide (((i : Nat) : Int) < 12))))) && ((decide ((0 : Int) < (((ts.length : Nat) : Int))))))) rfl (fun h1 => ?_) (fun h1 => ?_)
    · skip
      have h1' := h1
      try simp only [Bool.or_eq_true, Bool.and_eq_true, decide_eq_true_eq, Bool.or_eq_false_iff, Bool.and_eq_false_iff, decide_eq_false_iff_not, Bool.not_eq_true', Bool.not_eq_false'] at h1'
      have hil : i < ps.length := by omega
      have htp : 0 < ts.length := by omega
      obtain ⟨p, hp⟩ := get_ex (l := ps) (i := i) hil
      obtain ⟨g1, o1, rfl⟩ := hA1.ex (by intro hh; cases ps with | nil => simp at hp | cons q l => simp [prC, prCs] at hh)
      have hcpr : CellsL w g1 (o1 + i * 2) [.int .i64 p.1, .int .i64 p.2] := cellsL_flat prCs 2 (fun _ => rfl) hA1.cells hp
      obtain ⟨qa, hqa⟩ := mod_nat p.1 htp
      have hqa2 := mod_lt hqa htp
      obtain ⟨qb, hqb⟩ := mod_nat p.2 htp
      have hqb2 := mod_lt hqb htp
      obtain ⟨gn, gp, ta, ua, rfl, rfl, hta, hua, hcna, hcpa, hPa, hRa, hWa, hsa, hsua, hska⟩ := hGM.at hqa2
      obtain ⟨gn2, gp2, tb, ub, e8, e9, htb, hub, hcnb, hcpb, hPb, hRb, hWb, hsb, hsub, hskb⟩ := hGM.at hqb2
      cases e8; cases e9
      have hsa4 : sz ta ≤ 4194304 := by omega
      have hsb4 : sz tb ≤ 4194304 := by omega
      have hsua4 : sz ua ≤ 4194304 := by omega
      have hsub4 : sz ub ≤ 4194304 := by omega
      obtain ⟨H, hH⟩ : ∃ H, H = hunks ((rl ua).map T.id) ((rl ub).map T.id) := ⟨_, rfl⟩
      have hHl : H.length ≤ 1501 := by have h1 := hunks_len ((rl ua).map T.id) ((rl ub).map T.id); have h2 := rl_len ua; rw [← hH, List.length_map] at h1; omega
      obtain ⟨S, hS⟩ : ∃ S, S = script (hasR ua) ub := ⟨_, rfl⟩
      have hSl : S.length ≤ 1500 := by have h1 := script_len (hasR ua) ub; rw [← hS] at h1; omega
      have hi12 : i < 12 := by omega
      refine xc_skip ?_
      refine xc_seq ?_
      refine xc_block ?_
      refine xc_seq ?_
      refine xc_regionE [] (fun W_ => Chg (fun _ => False) w2 W_) hmix ?_
      intro w3 e2 z1
      have hS1 : Chg (fun _ => False) w2 w3 := Ext.to e2
      refine xd_pure 0 (some 45) rfl rfl (by kernel_rfl) (v := (.slice (some ⟨g1, o1, none⟩) ps.length c1)) (.inl ⟨rfl, fun W_ hW_ => ox_move (v := (.slice (some ⟨g1, o1, none⟩) ps.length c1)) g1_f1 ⟨rfl, rfl⟩⟩) ?_
      refine xd_pure 1 (some 46) rfl rfl (by kernel_rfl) (v := (.int .i64 ((i : Nat)))) (.inl ⟨rfl, fun W_ hW_ => ox_move (v := (.int .i64 ((i : Nat)))) g11_f1 ⟨rfl, rfl⟩⟩) ?_
      refine xd_pure 2 (some 47) rfl rfl (by kernel_rfl) (v := (.pointer (some ⟨g1, o1 + i * 2, none⟩))) (.inl ⟨rfl, fun W_ hW_ => ox_indexAddr (b := g1) (o := o1) (i := ((i : Nat))) tE_23 rfl rfl (by omega) (by omega) ⟨rfl, rfl⟩⟩) ?_
      refine xd_pure 3 (some 48) rfl rfl (by kernel_rfl) (v := (.pointer (some ⟨g1, o1 + i * 2, none⟩))) (.inl ⟨rfl, fun W_ hW_ => ox_indexArr (b := g1) (o := (o1 + i * 2)) (i := 0) tV_33 rfl rfl (by decide) (by decide) ⟨rfl, rfl⟩⟩) ?_
      refine xd_take 4 (some 49) rfl rfl (by kernel_rfl) (v := (.int .i64 p.1)) (.inl ⟨rfl, fun W_ hW_ => ox_load (v := (.int .i64 p.1)) tA_3 rfl (CellsL.keep (Ext.trans (Ext.trans hEw x_f1) hW_) not_false hcpr).1 ⟨rfl, rfl⟩⟩) hS1 ?_
      refine xd_pure 5 (some 50) rfl rfl (by kernel_rfl) (v := (.pointer (some ⟨bg, 0, none⟩))) (.inl ⟨rfl, fun W_ hW_ => ox_move (v := (.pointer (some ⟨bg, 0, none⟩))) g5_f1 ⟨rfl, rfl⟩⟩) ?_
      refine xd_pure 6 (some 51) rfl rfl (by kernel_rfl) (v := (.pointer (some ⟨bg, 0, none⟩))) (.inl ⟨rfl, fun W_ hW_ => ox_nilCheck (p := ⟨bg, 0, none⟩) rfl ⟨rfl, rfl⟩⟩) ?_
      refine xd_pure 7 (some 52) rfl rfl (by kernel_rfl) (v := (.pointer (some ⟨bg, 1, none⟩))) (.inl ⟨rfl, fun W_ hW_ => ox_fieldAddr (b := bg) (o := 0) tF_31_1 rfl ⟨rfl, rfl⟩⟩) ?_
      refine xd_take 8 (some 53) rfl rfl (by kernel_rfl) (v := (.slice (some ⟨gn, 0, none⟩) ts.length cn)) (.inl ⟨rfl, fun W_ hW_ => ox_load (v := (.slice (some ⟨gn, 0, none⟩) ts.length cn)) tA_28 rfl (((hGM.g.ext x_f1).ext hW_).cell rfl) ⟨rfl, rfl⟩⟩) hS1 ?_
      refine xd_pure 9 (some 54) rfl rfl (by kernel_rfl) (v := (.int .i64 (((ts.length : Nat) : Int)))) (.inl ⟨rfl, fun W_ hW_ => ox_len (A := (some ⟨gn, 0, none⟩)) (n := ts.length) (cp := cn) rfl tU_28 rfl ⟨rfl, rfl⟩⟩) ?_
      refine xd_take 10 (some 55) rfl rfl (by kernel_rfl) (v := (.int .i64 ((qa : Nat)))) (.inl ⟨rfl, fun W_ hW_ => ox_callE (al := [(.int .i64 p.1), (.int .i64 (((ts.length : Nat) : Int)))]) pf_14 rfl (ret_mono ((by have h := within_calls p.1 ((ts.length : Nat) : Int) W_ (by omega); rw [hqa] at h; exact h)) (by rintro _ _ ⟨rfl, rfl⟩; exact ⟨rfl, rfl⟩))⟩) hS1 ?_
      refine xd_pure 11 (some 12) rfl rfl (by kernel_rfl) (v := (.int .i64 ((qa : Nat)))) (.inl ⟨rfl, fun W_ hW_ => ox_assign (v := (.int .i64 ((qa : Nat)))) rfl ⟨rfl, rfl⟩⟩) ?_
      refine xd_done (by kernel_rfl) ?_ _
      refine xc_seq ?_
      refine xc_regionE [] (fun W_ => Chg (fun _ => False) w3 W_) hmix ?_
      intro w4 e3 z2
      have hS2 : Chg (fun _ => False) w3 w4 := Ext.to e3
      refine xd_pure 0 (some 56) rfl rfl (by kernel_rfl) (v := (.slice (some ⟨g1, o1, none⟩) ps.length c1)) (.inl ⟨rfl, fun W_ hW_ => ox_move (v := (.slice (some ⟨g1, o1, none⟩) ps.length c1)) g1_f1 ⟨rfl, rfl⟩⟩) ?_
      refine xd_pure 1 (some 57) rfl rfl (by kernel_rfl) (v := (.int .i64 ((i : Nat)))) (.inl ⟨rfl, fun W_ hW_ => ox_move (v := (.int .i64 ((i : Nat)))) g11_f1 ⟨rfl, rfl⟩⟩) ?_
      refine xd_pure 2 (some 58) rfl rfl (by kernel_rfl) (v := (.pointer (some ⟨g1, o1 + i * 2, none⟩))) (.inl ⟨rfl, fun W_ hW_ => ox_indexAddr (b := g1) (o := o1) (i := ((i : Nat))) tE_23 rfl rfl (by omega) (by omega) ⟨rfl, rfl⟩⟩) ?_
      refine xd_pure 3 (some 59) rfl rfl (by kernel_rfl) (v := (.pointer (some ⟨g1, o1 + i * 2 + 1, none⟩))) (.inl ⟨rfl, fun W_ hW_ => ox_indexArr (b := g1) (o := (o1 + i * 2)) (i := 1) tV_33 rfl rfl (by decide) (by decide) ⟨rfl, rfl⟩⟩) ?_
      refine xd_take 4 (some 60) rfl rfl (by kernel_rfl) (v := (.int .i64 p.2)) (.inl ⟨rfl, fun W_ hW_ => ox_load (v := (.int .i64 p.2)) tA_3 rfl (CellsL.keep (Ext.trans (Ext.trans (Ext.trans hEw x_f1) e2) hW_) not_false hcpr).2.1 ⟨rfl, rfl⟩⟩) hS2 ?_
      refine xd_pure 5 (some 61) rfl rfl (by kernel_rfl) (v := (.pointer (some ⟨bg, 0, none⟩))) (.inl ⟨rfl, fun W_ hW_ => ox_move (v := (.pointer (some ⟨bg, 0, none⟩))) g5_f1 ⟨rfl, rfl⟩⟩) ?_
      refine xd_pure 6 (some 62) rfl rfl (by kernel_rfl) (v := (.pointer (some ⟨bg, 0, none⟩))) (.inl ⟨rfl, fun W_ hW_ => ox_nilCheck (p := ⟨bg, 0, none⟩) rfl ⟨rfl, rfl⟩⟩) ?_
      refine xd_pure 7 (some 63) rfl rfl (by kernel_rfl) (v := (.pointer (some ⟨bg, 1, none⟩))) (.inl ⟨rfl, fun W_ hW_ => ox_fieldAddr (b := bg) (o := 0) tF_31_1 rfl ⟨rfl, rfl⟩⟩) ?_
      refine xd_take 8 (some 64) rfl rfl (by kernel_rfl) (v := (.slice (some ⟨gn, 0, none⟩) ts.length cn)) (.inl ⟨rfl, fun W_ hW_ => ox_load (v := (.slice (some ⟨gn, 0, none⟩) ts.length cn)) tA_28 rfl ((((hGM.g.ext x_f1).ext e2).ext hW_).cell rfl) ⟨rfl, rfl⟩⟩) hS2 ?_
      refine xd_pure 9 (some 65) rfl rfl (by kernel_rfl) (v := (.int .i64 (((ts.length : Nat) : Int)))) (.inl ⟨rfl, fun W_ hW_ => ox_len (A := (some ⟨gn, 0, none⟩)) (n := ts.length) (cp := cn) rfl tU_28 rfl ⟨rfl, rfl⟩⟩) ?_
      refine xd_take 10 (some 66) rfl rfl (by kernel_rfl) (v := (.int .i64 ((qb : Nat)))) (.inl ⟨rfl, fun W_ hW_ => ox_callE (al := [(.int .i64 p.2), (.int .i64 (((ts.length : Nat) : Int)))]) pf_14 rfl (ret_mono ((by have h := within_calls p.2 ((ts.length : Nat) : Int) W_ (by omega); rw [hqb] at h; exact h)) (by rintro _ _ ⟨rfl, rfl⟩; exact ⟨rfl, rfl⟩))⟩) hS2 ?_
      refine xd_pure 11 (some 13) rfl rfl (by kernel_rfl) (v := (.int .i64 ((qb : Nat)))) (.inl ⟨rfl, fun W_ hW_ => ox_assign (v := (.int .i64 ((qb : Nat)))) rfl ⟨rfl, rfl⟩⟩) ?_
      refine xd_done (by kernel_rfl) ?_ _
      refine xc_seq ?_
      refine xc_region ?_
      refine xl_op (P := Try.prog) (some 67) rfl rfl (ox_move (v := (.pointer (some ⟨bg, 0, none⟩))) g5_f1 ?_)
      refine xl_op (P := Try.prog) (some 68) rfl rfl (ox_nilCheck (p := ⟨bg, 0, none⟩) rfl ?_)
      refine xl_op (P := Try.prog) (some 69) rfl rfl (ox_fieldAddr (b := bg) (o := 0) tF_31_1 rfl ?_)
      refine xl_op (P := Try.prog) (some 70) rfl rfl (ox_load (v := (.slice (some ⟨gn, 0, none⟩) ts.length cn)) tA_28 rfl ((((hGM.g.ext x_f1).ext e2).ext e3).cell rfl) ?_)
      refine xl_op (P := Try.prog) (some 71) rfl rfl (ox_move (v := (.int .i64 ((qb : Nat)))) rfl ?_)
      refine xl_op (P := Try.prog) (some 72) rfl rfl (ox_indexAddr (b := gn) (o := 0) (i := ((qb : Nat))) tE_28 rfl rfl (by omega) (by omega) ?_)
      refine xl_op (P := Try.prog) (some 73) rfl rfl (ox_load (v := (.pointer (some ⟨tb.b, 0, none⟩))) tA_36 rfl (by simpa [T.ptr] using Ext.cell hcnb (Ext.trans (Ext.trans x_f1 e2) e3)) ?_)
      refine xl_op (P := Try.prog) (some 74) rfl rfl (ox_callE (al := [(.pointer (some ⟨tb.b, 0, none⟩))]) pf_26 rfl (ret_mono (rows_calls (.pointer (some ⟨s, 0, none⟩)) tb w4 (hPb.ext (Ext.trans (Ext.trans x_f1 e2) e3)) hWb hsb4) ?_))
      rintro _ w5 ⟨A14, c14, rfl, ho14, hl14, e4⟩
      have he4 := e4.size
      have hnn := nodes_len tb
      have hsp := sz_pos tb
      refine xl_op (P := Try.prog) (some 14) rfl rfl (ox_assign (v := (.slice A14 ((nodes tb).length) c14)) rfl ?_)
      refine xl_nil ?_
      refine xc_seq ?_
      refine xc_seq ?_
      refine xc_region ?_
      refine xl_op (P := Try.prog) (some 15) rfl rfl (ox_assign (v := (.int .i64 0)) rfl ?_)
      refine xl_nil ?_
      refine xc_block ?_
      refine xc_loopN (fun m f W => ∃ (k : Nat) (LHx : List Sl3) (LWx : List Sl3) (LOx : List Sl3) (LXx : List Sl3) (Hsx : List (List Hk)) (Osx : List (List OpD)) (A7x : Option Addr) (c7x : Nat) (A8x : Option Addr) (c8x : Nat) (A9x : Option Addr) (c9x : Nat) (A10x : Option Addr) (c10x : Nat), m = 4 - k ∧ k ≤ 4 ∧ LHx.length ≤ 4 * i + k ∧ LOx.length = LHx.length ∧ f 5 = (.pointer (some ⟨bg, 0, none⟩)) ∧ f 1 = (.slice (some ⟨g1, o1, none⟩) ps.length c1) ∧ f 6 = (.bool true) ∧ f 11 = (.int .i64 ((i : Nat))) ∧ f 12 = (.int .i64 ((qa : Nat))) ∧ f 13 = (.int .i64 ((qb : Nat))) ∧ f 14 = (.slice A14 ((nodes tb).length) c14) ∧ f 15 = (.int .i64 ((k : Nat))) ∧ f 7 = (.slice A7x LHx.length c7x) ∧ f 8 = (.slice A8x LOx.length c8x) ∧ f 9 = (.slice A9x LWx.length c9x) ∧ f 10 = (.slice A10x LXx.length c10x) ∧ Vx.Own W 34 1 (.slice A7x LHx.length c7x) LHx.length (LHx.map Sl3.v) ∧ Vx.Own W 54 1 (.slice A8x LOx.length c8x) LOx.length (LOx.map Sl3.v) ∧ Vx.Own W 34 1 (.slice A9x LWx.length c9x) LWx.length (LWx.map Sl3.v) ∧ Vx.Own W 54 1 (.slice A10x LXx.length c10x) LXx.length (LXx.map Sl3.v) ∧ RB 40 4 hkC w.heap.size W LHx LWx Hsx ∧ RB 88 9 opC w.heap.size W LOx LXx Osx ∧ (∀ k, ((.slice A7x LHx.length c7x) : Value).ownBlock = some k → w1.heap.size ≤ k) ∧ (∀ k, ((.slice A8x LOx.length c8x) : Value).ownBlock = some k → w1.heap.size ≤ k) ∧ (∀ k, ((.slice A9x LWx.length c9x) : Value).ownBlock = some k → w1.heap.size ≤ k) ∧ (∀ k, ((.slice A10x LXx.length c10x) : Value).ownBlock = some k → w1.heap.size ≤ k) ∧ (∀ k, ((.slice A7x LHx.length c7x) : Value).ownBlock = some k → ((.slice A9x LWx.length c9x) : Value).ownBlock = some k → False) ∧ (∀ k, ((.slice A8x LOx.length c8x) : Value).ownBlock = some k → ((.slice A10x LXx.length c10x) : Value).ownBlock = some k → False) ∧ Ext w1 W ∧ Vx.Own W 70 6 (.slice A14 ((nodes tb).length) c14) (nodes tb).length (rwC (nodes tb))) (4) ?_ ?_
      · exact ⟨0, LH, LW, LO, LX, Hs, Os, A7, c7, A8, c8, A9, c9, A10, c10, by omega, by omega, by omega, by omega, g5_f1, g1_f1, g6_f1, g11_f1, rfl, rfl, rfl, (by first | exact rfl | exact (congrArg (Value.int .i64) (by omega))), g7_f1, g8_f1, g9_f1, g10_f1, (((o7_f1.ext e2).ext e3).ext e4), (((o8_f1.ext e2).ext e3).ext e4), (((o9_f1.ext e2).ext e3).ext e4), (((o10_f1.ext e2).ext e3).ext e4), (rb_f1.ext (Ext.trans (Ext.trans e2 e3) e4)), (ro_f1.ext (Ext.trans (Ext.trans e2 e3) e4)), (fun k hk => lo7_f1 k (ownBlock_len hk)), (fun k hk => lo8_f1 k (ownBlock_len hk)), (fun k hk => lo9_f1 k (ownBlock_len hk)), (fun k hk => lo10_f1 k (ownBlock_len hk)), (fun k h1 h2 => ne7_f1 k (ownBlock_len h1) (ownBlock_len h2)), (fun k h1 h2 => ne8_f1 k (ownBlock_len h1) (ownBlock_len h2)), (Ext.trans (Ext.trans (Ext.trans x_f1 e2) e3) e4), ho14⟩
      · rintro m f2 w6 ⟨k, LHx, LWx, LOx, LXx, Hsx, Osx, A7x, c7x, A8x, c8x, A9x, c9x, A10x, c10x, hm, hk, hclx, hplx, g5_f2, g1_f2, g6_f2, g11_f2, g12_f2, g13_f2, g14_f2, g15_f2, g7_f2, g8_f2, g9_f2, g10_f2, o7_f2, o8_f2, o9_f2, o10_f2, rb_f2, ro_f2, lo7_f2, lo8_f2, lo9_f2, lo10_f2, ne7_f2, ne8_f2, x_f2, r14_f2⟩
        have hzY := x_f2.size
        have hmlx : LWx.length = LHx.length := by rw [rb_f2.ml, rb_f2.ll]
        have hqlx : LXx.length = LOx.length := by rw [ro_f2.ml, ro_f2.ll]
        refine xc_seq ?_
        refine xc_seq ?_
        refine xc_region ?_
        refine xl_op (P := Try.prog) (some 75) rfl rfl (ox_move (v := (.int .i64 ((k : Nat)))) g15_f2 ?_)
        refine xl_op (P := Try.prog) (some 76) rfl rfl (ox_lss (k := .i64) (a := ((k : Nat))) (b := 4) rfl rfl ?_)
        refine xl_nil ?_
        refine xc_if (p := ((k : Nat) : Int) < 4) rfl (fun h2 => ?_) (fun h2 => ?_)
        · skip
          refine xc_skip ?_
          refine xc_seq ?_
          refine xc_block ?_
          refine xc_seq ?_
          refine xc_regionE [] (fun W_ => Chg (fun _ => False) w6 W_) hmix ?_
          intro w7 e5 z3
          have hS3 : Chg (fun _ => False) w6 w7 := Ext.to e5
          refine xd_pure 0 (some 79) rfl rfl (by kernel_rfl) (v := (.pointer (some ⟨bg, 0, none⟩))) (.inl ⟨rfl, fun W_ hW_ => ox_move (v := (.pointer (some ⟨bg, 0, none⟩))) g5_f2 ⟨rfl, rfl⟩⟩) ?_
          refine xd_pure 1 (some 80) rfl rfl (by kernel_rfl) (v := (.pointer (some ⟨bg, 0, none⟩))) (.inl ⟨rfl, fun W_ hW_ => ox_nilCheck (p := ⟨bg, 0, none⟩) rfl ⟨rfl, rfl⟩⟩) ?_
          refine xd_pure 2 (some 81) rfl rfl (by kernel_rfl) (v := (.pointer (some ⟨bg, 1, none⟩))) (.inl ⟨rfl, fun W_ hW_ => ox_fieldAddr (b := bg) (o := 0) tF_31_1 rfl ⟨rfl, rfl⟩⟩) ?_
          refine xd_take 3 (some 82) rfl rfl (by kernel_rfl) (v := (.slice (some ⟨gn, 0, none⟩) ts.length cn)) (.inl ⟨rfl, fun W_ hW_ => ox_load (v := (.slice (some ⟨gn, 0, none⟩) ts.length cn)) tA_28 rfl (((hGM.g.ext x_f2).ext hW_).cell rfl) ⟨rfl, rfl⟩⟩) hS3 ?_
          refine xd_pure 4 (some 83) rfl rfl (by kernel_rfl) (v := (.int .i64 ((qa : Nat)))) (.inl ⟨rfl, fun W_ hW_ => ox_move (v := (.int .i64 ((qa : Nat)))) g12_f2 ⟨rfl, rfl⟩⟩) ?_
          refine xd_pure 5 (some 84) rfl rfl (by kernel_rfl) (v := (.pointer (some ⟨gn, 0 + ((qa : Nat) : Int).toNat * 1, none⟩))) (.inl ⟨rfl, fun W_ hW_ => ox_indexAddr (b := gn) (o := 0) (i := ((qa : Nat))) tE_28 rfl rfl (by omega) (by omega) ⟨rfl, rfl⟩⟩) ?_
          refine xd_take 6 (some 85) rfl rfl (by kernel_rfl) (v := (.pointer (some ⟨ta.b, 0, none⟩))) (.inl ⟨rfl, fun W_ hW_ => ox_load (v := (.pointer (some ⟨ta.b, 0, none⟩))) tA_36 rfl (by simpa [T.ptr] using Ext.cell hcna (Ext.trans x_f2 hW_)) ⟨rfl, rfl⟩⟩) hS3 ?_
          refine xd_pure 7 (some 86) rfl rfl (by kernel_rfl) (v := (.pointer (some ⟨bg, 0, none⟩))) (.inl ⟨rfl, fun W_ hW_ => ox_move (v := (.pointer (some ⟨bg, 0, none⟩))) g5_f2 ⟨rfl, rfl⟩⟩) ?_
          refine xd_pure 8 (some 87) rfl rfl (by kernel_rfl) (v := (.pointer (some ⟨bg, 0, none⟩))) (.inl ⟨rfl, fun W_ hW_ => ox_nilCheck (p := ⟨bg, 0, none⟩) rfl ⟨rfl, rfl⟩⟩) ?_
          refine xd_pure 9 (some 88) rfl rfl (by kernel_rfl) (v := (.pointer (some ⟨bg, 1, none⟩))) (.inl ⟨rfl, fun W_ hW_ => ox_fieldAddr (b := bg) (o := 0) tF_31_1 rfl ⟨rfl, rfl⟩⟩) ?_
          refine xd_take 10 (some 89) rfl rfl (by kernel_rfl) (v := (.slice (some ⟨gn, 0, none⟩) ts.length cn)) (.inl ⟨rfl, fun W_ hW_ => ox_load (v := (.slice (some ⟨gn, 0, none⟩) ts.length cn)) tA_28 rfl (((hGM.g.ext x_f2).ext hW_).cell rfl) ⟨rfl, rfl⟩⟩) hS3 ?_
          refine xd_pure 11 (some 90) rfl rfl (by kernel_rfl) (v := (.int .i64 ((qb : Nat)))) (.inl ⟨rfl, fun W_ hW_ => ox_move (v := (.int .i64 ((qb : Nat)))) g13_f2 ⟨rfl, rfl⟩⟩) ?_
          refine xd_pure 12 (some 91) rfl rfl (by kernel_rfl) (v := (.pointer (some ⟨gn, 0 + ((qb : Nat) : Int).toNat * 1, none⟩))) (.inl ⟨rfl, fun W_ hW_ => ox_indexAddr (b := gn) (o := 0) (i := ((qb : Nat))) tE_28 rfl rfl (by omega) (by omega) ⟨rfl, rfl⟩⟩) ?_
          refine xd_take 13 (some 92) rfl rfl (by kernel_rfl) (v := (.pointer (some ⟨tb.b, 0, none⟩))) (.inl ⟨rfl, fun W_ hW_ => ox_load (v := (.pointer (some ⟨tb.b, 0, none⟩))) tA_36 rfl (by simpa [T.ptr] using Ext.cell hcnb (Ext.trans x_f2 hW_)) ⟨rfl, rfl⟩⟩) hS3 ?_
          refine xd_one 14 (some 93) rfl rfl (by kernel_rfl) rfl (ox_callE (al := [(.pointer (some ⟨ta.b, 0, none⟩)), (.pointer (some ⟨tb.b, 0, none⟩))]) pf_15 rfl (ret_mono ((by have h := dLeaves_calls (.pointer (some ⟨s, 0, none⟩)) ta tb w7 (hPa.ext (Ext.trans x_f2 e5)) hWa hsa4 (hPb.ext (Ext.trans x_f2 e5)) hWb hsb4; rw [hunks_two hWa hWb hska hskb, ← hH] at h; exact h)) ?_))
          rintro _ w8 ⟨Ah, ch, rfl, hoh, hnh, e6⟩
          have he6 := e6.size
          have hS4 : Chg (fun _ => False) w6 w8 := Chg.ext hS3 e6
          refine ⟨.inr fun _ => hS4, ?_⟩
          refine xd_pure 15 (some 16) rfl rfl (by kernel_rfl) (v := (.slice Ah H.length ch)) (.inl ⟨rfl, fun W_ hW_ => ox_assign (v := (.slice Ah H.length ch)) rfl ⟨rfl, rfl⟩⟩) ?_
          refine xd_done (by kernel_rfl) ?_ _
          refine xc_seq ?_
          refine xc_regionE [] (fun W_ => Chg (fun _ => False) w8 W_) hmix ?_
          intro w9 e7 z4
          have hS5 : Chg (fun _ => False) w8 w9 := Ext.to e7
          refine xd_pure 0 (some 94) rfl rfl (by kernel_rfl) (v := (.pointer (some ⟨bg, 0, none⟩))) (.inl ⟨rfl, fun W_ hW_ => ox_move (v := (.pointer (some ⟨bg, 0, none⟩))) g5_f2 ⟨rfl, rfl⟩⟩) ?_
          refine xd_pure 1 (some 95) rfl rfl (by kernel_rfl) (v := (.pointer (some ⟨bg, 0, none⟩))) (.inl ⟨rfl, fun W_ hW_ => ox_nilCheck (p := ⟨bg, 0, none⟩) rfl ⟨rfl, rfl⟩⟩) ?_
          refine xd_pure 2 (some 96) rfl rfl (by kernel_rfl) (v := (.pointer (some ⟨bg, 1, none⟩))) (.inl ⟨rfl, fun W_ hW_ => ox_fieldAddr (b := bg) (o := 0) tF_31_1 rfl ⟨rfl, rfl⟩⟩) ?_
          refine xd_take 3 (some 97) rfl rfl (by kernel_rfl) (v := (.slice (some ⟨gn, 0, none⟩) ts.length cn)) (.inl ⟨rfl, fun W_ hW_ => ox_load (v := (.slice (some ⟨gn, 0, none⟩) ts.length cn)) tA_28 rfl (((((hGM.g.ext x_f2).ext e5).ext e6).ext hW_).cell rfl) ⟨rfl, rfl⟩⟩) hS5 ?_
          refine xd_pure 4 (some 98) rfl rfl (by kernel_rfl) (v := (.int .i64 ((qa : Nat)))) (.inl ⟨rfl, fun W_ hW_ => ox_move (v := (.int .i64 ((qa : Nat)))) g12_f2 ⟨rfl, rfl⟩⟩) ?_
          refine xd_pure 5 (some 99) rfl rfl (by kernel_rfl) (v := (.pointer (some ⟨gn, 0 + ((qa : Nat) : Int).toNat * 1, none⟩))) (.inl ⟨rfl, fun W_ hW_ => ox_indexAddr (b := gn) (o := 0) (i := ((qa : Nat))) tE_28 rfl rfl (by omega) (by omega) ⟨rfl, rfl⟩⟩) ?_
          refine xd_take 6 (some 100) rfl rfl (by kernel_rfl) (v := (.pointer (some ⟨ta.b, 0, none⟩))) (.inl ⟨rfl, fun W_ hW_ => ox_load (v := (.pointer (some ⟨ta.b, 0, none⟩))) tA_36 rfl (by simpa [T.ptr] using Ext.cell hcna (Ext.trans (Ext.trans (Ext.trans x_f2 e5) e6) hW_)) ⟨rfl, rfl⟩⟩) hS5 ?_
          refine xd_pure 7 (some 101) rfl rfl (by kernel_rfl) (v := (.pointer (some ⟨bg, 0, none⟩))) (.inl ⟨rfl, fun W_ hW_ => ox_move (v := (.pointer (some ⟨bg, 0, none⟩))) g5_f2 ⟨rfl, rfl⟩⟩) ?_
          refine xd_pure 8 (some 102) rfl rfl (by kernel_rfl) (v := (.pointer (some ⟨bg, 0, none⟩))) (.inl ⟨rfl, fun W_ hW_ => ox_nilCheck (p := ⟨bg, 0, none⟩) rfl ⟨rfl, rfl⟩⟩) ?_
          refine xd_pure 9 (some 103) rfl rfl (by kernel_rfl) (v := (.pointer (some ⟨bg, 1, none⟩))) (.inl ⟨rfl, fun W_ hW_ => ox_fieldAddr (b := bg) (o := 0) tF_31_1 rfl ⟨rfl, rfl⟩⟩) ?_
          refine xd_take 10 (some 104) rfl rfl (by kernel_rfl) (v := (.slice (some ⟨gn, 0, none⟩) ts.length cn)) (.inl ⟨rfl, fun W_ hW_ => ox_load (v := (.slice (some ⟨gn, 0, none⟩) ts.length cn)) tA_28 rfl (((((hGM.g.ext x_f2).ext e5).ext e6).ext hW_).cell rfl) ⟨rfl, rfl⟩⟩) hS5 ?_
          refine xd_pure 11 (some 105) rfl rfl (by kernel_rfl) (v := (.int .i64 ((qb : Nat)))) (.inl ⟨rfl, fun W_ hW_ => ox_move (v := (.int .i64 ((qb : Nat)))) g13_f2 ⟨rfl, rfl⟩⟩) ?_
          refine xd_pure 12 (some 106) rfl rfl (by kernel_rfl) (v := (.pointer (some ⟨gn, 0 + ((qb : Nat) : Int).toNat * 1, none⟩))) (.inl ⟨rfl, fun W_ hW_ => ox_indexAddr (b := gn) (o := 0) (i := ((qb : Nat))) tE_28 rfl rfl (by omega) (by omega) ⟨rfl, rfl⟩⟩) ?_
          refine xd_take 13 (some 107) rfl rfl (by kernel_rfl) (v := (.pointer (some ⟨tb.b, 0, none⟩))) (.inl ⟨rfl, fun W_ hW_ => ox_load (v := (.pointer (some ⟨tb.b, 0, none⟩))) tA_36 rfl (by simpa [T.ptr] using Ext.cell hcnb (Ext.trans (Ext.trans (Ext.trans x_f2 e5) e6) hW_)) ⟨rfl, rfl⟩⟩) hS5 ?_
          refine xd_one 14 (some 108) rfl rfl (by kernel_rfl) rfl (ox_callE (al := [(.pointer (some ⟨ta.b, 0, none⟩)), (.pointer (some ⟨tb.b, 0, none⟩))]) pf_24 rfl (ret_mono ((by have h := script_calls (.pointer (some ⟨s, 0, none⟩)) ta tb w9 (hPa.ext (Ext.trans (Ext.trans (Ext.trans x_f2 e5) e6) e7)) hWa hsa4 (hPb.ext (Ext.trans (Ext.trans (Ext.trans x_f2 e5) e6) e7)) hWb hsb4; rw [script_two hska hskb, ← hS] at h; exact h)) ?_))
          rintro _ w10 ⟨As, cs, rfl, hos, hns, e8⟩
          have he8 := e8.size
          have hS6 : Chg (fun _ => False) w8 w10 := Chg.ext hS5 e8
          refine ⟨.inr fun _ => hS6, ?_⟩
          refine xd_pure 15 (some 17) rfl rfl (by kernel_rfl) (v := (.slice As S.length cs)) (.inl ⟨rfl, fun W_ hW_ => ox_assign (v := (.slice As S.length cs)) rfl ⟨rfl, rfl⟩⟩) ?_
          refine xd_done (by kernel_rfl) ?_ _
          refine xc_seq ?_
          refine xc_seq ?_
          refine xc_regionE [] (fun W_ => Chg (fun _ => False) w10 W_) hmix ?_
          intro w11 e9 z5
          have hS7 : Chg (fun _ => False) w10 w11 := Ext.to e9
          refine xd_pure 0 (some 109) rfl rfl (by kernel_rfl) (v := (.slice Ah H.length ch)) (.inl ⟨rfl, fun W_ hW_ => ox_move (v := (.slice Ah H.length ch)) rfl ⟨rfl, rfl⟩⟩) ?_
          refine xd_pure 1 (some 110) rfl rfl (by kernel_rfl) (v := (.pointer (some ⟨bg, 0, none⟩))) (.inl ⟨rfl, fun W_ hW_ => ox_move (v := (.pointer (some ⟨bg, 0, none⟩))) g5_f2 ⟨rfl, rfl⟩⟩) ?_
          refine xd_pure 2 (some 111) rfl rfl (by kernel_rfl) (v := (.pointer (some ⟨bg, 0, none⟩))) (.inl ⟨rfl, fun W_ hW_ => ox_nilCheck (p := ⟨bg, 0, none⟩) rfl ⟨rfl, rfl⟩⟩) ?_
          refine xd_pure 3 (some 112) rfl rfl (by kernel_rfl) (v := (.pointer (some ⟨bg, 2, none⟩))) (.inl ⟨rfl, fun W_ hW_ => ox_fieldAddr (b := bg) (o := 0) tF_31_2 rfl ⟨rfl, rfl⟩⟩) ?_
          have q1 := ((((hGM.g.ext x_f2).ext e5).ext e6).ext e7)
          refine xd_take 4 (some 113) rfl rfl (by kernel_rfl) (v := (.slice (some ⟨gp, 0, none⟩) us.length cp)) (.inl ⟨rfl, fun W_ hW_ => ox_load (v := (.slice (some ⟨gp, 0, none⟩) us.length cp)) tA_29 rfl (((q1.ext e8).ext hW_).cell rfl) ⟨rfl, rfl⟩⟩) hS7 ?_
          refine xd_pure 5 (some 114) rfl rfl (by kernel_rfl) (v := (.int .i64 ((qa : Nat)))) (.inl ⟨rfl, fun W_ hW_ => ox_move (v := (.int .i64 ((qa : Nat)))) g12_f2 ⟨rfl, rfl⟩⟩) ?_
          refine xd_pure 6 (some 115) rfl rfl (by kernel_rfl) (v := (.pointer (some ⟨gp, 0 + ((qa : Nat) : Int).toNat * 1, none⟩))) (.inl ⟨rfl, fun W_ hW_ => ox_indexAddr (b := gp) (o := 0) (i := ((qa : Nat))) tE_29 rfl rfl (by omega) (by omega) ⟨rfl, rfl⟩⟩) ?_
          refine xd_take 7 (some 116) rfl rfl (by kernel_rfl) (v := (.pointer (some ⟨ua.b, 0, none⟩))) (.inl ⟨rfl, fun W_ hW_ => ox_load (v := (.pointer (some ⟨ua.b, 0, none⟩))) tA_38 rfl (by simpa [T.ptr] using Ext.cell hcpa (Ext.trans (Ext.trans (Ext.trans (Ext.trans (Ext.trans x_f2 e5) e6) e7) e8) hW_)) ⟨rfl, rfl⟩⟩) hS7 ?_
          refine xd_pure 8 (some 117) rfl rfl (by kernel_rfl) (v := (.pointer (some ⟨bg, 0, none⟩))) (.inl ⟨rfl, fun W_ hW_ => ox_move (v := (.pointer (some ⟨bg, 0, none⟩))) g5_f2 ⟨rfl, rfl⟩⟩) ?_
          refine xd_pure 9 (some 118) rfl rfl (by kernel_rfl) (v := (.pointer (some ⟨bg, 0, none⟩))) (.inl ⟨rfl, fun W_ hW_ => ox_nilCheck (p := ⟨bg, 0, none⟩) rfl ⟨rfl, rfl⟩⟩) ?_
          refine xd_pure 10 (some 119) rfl rfl (by kernel_rfl) (v := (.pointer (some ⟨bg, 2, none⟩))) (.inl ⟨rfl, fun W_ hW_ => ox_fieldAddr (b := bg) (o := 0) tF_31_2 rfl ⟨rfl, rfl⟩⟩) ?_
          have q2 := ((((hGM.g.ext x_f2).ext e5).ext e6).ext e7)
          refine xd_take 11 (some 120) rfl rfl (by kernel_rfl) (v := (.slice (some ⟨gp, 0, none⟩) us.length cp)) (.inl ⟨rfl, fun W_ hW_ => ox_load (v := (.slice (some ⟨gp, 0, none⟩) us.length cp)) tA_29 rfl (((q2.ext e8).ext hW_).cell rfl) ⟨rfl, rfl⟩⟩) hS7 ?_
          refine xd_pure 12 (some 121) rfl rfl (by kernel_rfl) (v := (.int .i64 ((qb : Nat)))) (.inl ⟨rfl, fun W_ hW_ => ox_move (v := (.int .i64 ((qb : Nat)))) g13_f2 ⟨rfl, rfl⟩⟩) ?_
          refine xd_pure 13 (some 122) rfl rfl (by kernel_rfl) (v := (.pointer (some ⟨gp, 0 + ((qb : Nat) : Int).toNat * 1, none⟩))) (.inl ⟨rfl, fun W_ hW_ => ox_indexAddr (b := gp) (o := 0) (i := ((qb : Nat))) tE_29 rfl rfl (by omega) (by omega) ⟨rfl, rfl⟩⟩) ?_
          refine xd_take 14 (some 123) rfl rfl (by kernel_rfl) (v := (.pointer (some ⟨ub.b, 0, none⟩))) (.inl ⟨rfl, fun W_ hW_ => ox_load (v := (.pointer (some ⟨ub.b, 0, none⟩))) tA_38 rfl (by simpa [T.ptr] using Ext.cell hcpb (Ext.trans (Ext.trans (Ext.trans (Ext.trans (Ext.trans x_f2 e5) e6) e7) e8) hW_)) ⟨rfl, rfl⟩⟩) hS7 ?_
          refine xd_one 15 (some 124) rfl rfl (by kernel_rfl) rfl (ox_callE (al := [(.pointer (some ⟨ua.b, 0, none⟩)), (.pointer (some ⟨ub.b, 0, none⟩))]) pf_16 rfl (ret_mono ((by have h := refHunks_calls ua ub w11 (hRa.ext (Ext.trans (Ext.trans (Ext.trans (Ext.trans (Ext.trans x_f2 e5) e6) e7) e8) e9)) hsua4 (hRb.ext (Ext.trans (Ext.trans (Ext.trans (Ext.trans (Ext.trans x_f2 e5) e6) e7) e8) e9)) hsub4; rw [← hH] at h; exact h)) ?_))
          rintro _ w12 ⟨Am, cm, rfl, hom, hnm, e10⟩
          have he10 := e10.size
          have hS8 : Chg (fun _ => False) w10 w12 := Chg.ext hS7 e10
          refine ⟨.inr fun _ => hS8, ?_⟩
          refine xd_one 16 (some 125) rfl rfl (by kernel_rfl) rfl (ox_callE (al := [(.slice Ah H.length ch), (.slice Am H.length cm)]) pf_27 rfl (ret_mono (sameHunks_eq H Ah Am ch cm w12 (Own.rowO ((((hoh.ext e7).ext e8).ext e9).ext e10)) ((Own.rowO hom).ext (Chg.refl _ _)) (by omega)) ?_))
          rintro _ w13 ⟨rfl, e11⟩
          have he11 := e11.size
          have hS9 : Chg (fun _ => False) w10 w13 := Chg.ext hS8 e11
          refine ⟨.inr fun _ => hS9, ?_⟩
          refine xd_pure 17 (some 126) rfl rfl (by kernel_rfl) (v := (.bool false)) (.inl ⟨rfl, fun W_ hW_ => ox_not (b := true) rfl ⟨rfl, rfl⟩⟩) ?_
          refine xd_pure 18 (some 127) rfl rfl (by kernel_rfl) (v := (.bool false)) (.inl ⟨rfl, fun W_ hW_ => ox_move (v := (.bool false)) rfl ⟨rfl, rfl⟩⟩) ?_
          refine xd_pure 19 (some 128) rfl rfl (by kernel_rfl) (v := (.slice As S.length cs)) (.inl ⟨rfl, fun W_ hW_ => ox_move (v := (.slice As S.length cs)) rfl ⟨rfl, rfl⟩⟩) ?_
          refine xd_pure 20 (some 129) rfl rfl (by kernel_rfl) (v := (.pointer (some ⟨bg, 0, none⟩))) (.inl ⟨rfl, fun W_ hW_ => ox_move (v := (.pointer (some ⟨bg, 0, none⟩))) g5_f2 ⟨rfl, rfl⟩⟩) ?_
          refine xd_pure 21 (some 130) rfl rfl (by kernel_rfl) (v := (.pointer (some ⟨bg, 0, none⟩))) (.inl ⟨rfl, fun W_ hW_ => ox_nilCheck (p := ⟨bg, 0, none⟩) rfl ⟨rfl, rfl⟩⟩) ?_
          refine xd_pure 22 (some 131) rfl rfl (by kernel_rfl) (v := (.pointer (some ⟨bg, 2, none⟩))) (.inl ⟨rfl, fun W_ hW_ => ox_fieldAddr (b := bg) (o := 0) tF_31_2 rfl ⟨rfl, rfl⟩⟩) ?_
          have q3 := ((((hGM.g.ext x_f2).ext e5).ext e6).ext e7)
          refine xd_take 23 (some 132) rfl rfl (by kernel_rfl) (v := (.slice (some ⟨gp, 0, none⟩) us.length cp)) (.inl ⟨rfl, fun W_ hW_ => ox_load (v := (.slice (some ⟨gp, 0, none⟩) us.length cp)) tA_29 rfl (((q3.ext e8).ext hW_).cell rfl) ⟨rfl, rfl⟩⟩) hS9 ?_
          refine xd_pure 24 (some 133) rfl rfl (by kernel_rfl) (v := (.int .i64 ((qa : Nat)))) (.inl ⟨rfl, fun W_ hW_ => ox_move (v := (.int .i64 ((qa : Nat)))) g12_f2 ⟨rfl, rfl⟩⟩) ?_
          refine xd_pure 25 (some 134) rfl rfl (by kernel_rfl) (v := (.pointer (some ⟨gp, 0 + ((qa : Nat) : Int).toNat * 1, none⟩))) (.inl ⟨rfl, fun W_ hW_ => ox_indexAddr (b := gp) (o := 0) (i := ((qa : Nat))) tE_29 rfl rfl (by omega) (by omega) ⟨rfl, rfl⟩⟩) ?_
          refine xd_take 26 (some 135) rfl rfl (by kernel_rfl) (v := (.pointer (some ⟨ua.b, 0, none⟩))) (.inl ⟨rfl, fun W_ hW_ => ox_load (v := (.pointer (some ⟨ua.b, 0, none⟩))) tA_38 rfl (by simpa [T.ptr] using Ext.cell hcpa (Ext.trans (Ext.trans (Ext.trans (Ext.trans (Ext.trans x_f2 e5) e6) e7) e8) hW_)) ⟨rfl, rfl⟩⟩) hS9 ?_
          refine xd_pure 27 (some 136) rfl rfl (by kernel_rfl) (v := (.pointer (some ⟨bg, 0, none⟩))) (.inl ⟨rfl, fun W_ hW_ => ox_move (v := (.pointer (some ⟨bg, 0, none⟩))) g5_f2 ⟨rfl, rfl⟩⟩) ?_
          refine xd_pure 28 (some 137) rfl rfl (by kernel_rfl) (v := (.pointer (some ⟨bg, 0, none⟩))) (.inl ⟨rfl, fun W_ hW_ => ox_nilCheck (p := ⟨bg, 0, none⟩) rfl ⟨rfl, rfl⟩⟩) ?_
          refine xd_pure 29 (some 138) rfl rfl (by kernel_rfl) (v := (.pointer (some ⟨bg, 2, none⟩))) (.inl ⟨rfl, fun W_ hW_ => ox_fieldAddr (b := bg) (o := 0) tF_31_2 rfl ⟨rfl, rfl⟩⟩) ?_
          have q4 := ((((hGM.g.ext x_f2).ext e5).ext e6).ext e7)
          refine xd_take 30 (some 139) rfl rfl (by kernel_rfl) (v := (.slice (some ⟨gp, 0, none⟩) us.length cp)) (.inl ⟨rfl, fun W_ hW_ => ox_load (v := (.slice (some ⟨gp, 0, none⟩) us.length cp)) tA_29 rfl (((q4.ext e8).ext hW_).cell rfl) ⟨rfl, rfl⟩⟩) hS9 ?_
          refine xd_pure 31 (some 140) rfl rfl (by kernel_rfl) (v := (.int .i64 ((qb : Nat)))) (.inl ⟨rfl, fun W_ hW_ => ox_move (v := (.int .i64 ((qb : Nat)))) g13_f2 ⟨rfl, rfl⟩⟩) ?_
          refine xd_pure 32 (some 141) rfl rfl (by kernel_rfl) (v := (.pointer (some ⟨gp, 0 + ((qb : Nat) : Int).toNat * 1, none⟩))) (.inl ⟨rfl, fun W_ hW_ => ox_indexAddr (b := gp) (o := 0) (i := ((qb : Nat))) tE_29 rfl rfl (by omega) (by omega) ⟨rfl, rfl⟩⟩) ?_
          refine xd_take 33 (some 142) rfl rfl (by kernel_rfl) (v := (.pointer (some ⟨ub.b, 0, none⟩))) (.inl ⟨rfl, fun W_ hW_ => ox_load (v := (.pointer (some ⟨ub.b, 0, none⟩))) tA_38 rfl (by simpa [T.ptr] using Ext.cell hcpb (Ext.trans (Ext.trans (Ext.trans (Ext.trans (Ext.trans x_f2 e5) e6) e7) e8) hW_)) ⟨rfl, rfl⟩⟩) hS9 ?_
          refine xd_oneW 34 (some 143) rfl rfl (by kernel_rfl) rfl (ox_callE (al := [(.pointer (some ⟨ua.b, 0, none⟩)), (.pointer (some ⟨ub.b, 0, none⟩))]) pf_25 rfl (ret_mono ((by have h := refScript_calls ub ua w13 (hRb.ext (Ext.trans (Ext.trans (Ext.trans (Ext.trans (Ext.trans (Ext.trans (Ext.trans x_f2 e5) e6) e7) e8) e9) e10) e11)) hsub4 (hRa.ext (Ext.trans (Ext.trans (Ext.trans (Ext.trans (Ext.trans (Ext.trans (Ext.trans x_f2 e5) e6) e7) e8) e9) e10) e11)) hsua4; unfold SCp at h; rw [← hS] at h; exact h)) ?_))
          rintro _ w14 ⟨Ar, cr, rfl, hor, hnr, e12⟩
          have he12 := e12.size
          have hS10 : Chg (fun _ => False) w10 w14 := Chg.ext hS9 e12
          refine ⟨.inr fun _ => hS10, ?_⟩
          have q5 := ((((hos.ext e9).ext e10).ext e11).ext e12)
          refine xd_oneW 35 (some 144) rfl rfl (by kernel_rfl) rfl (ox_callE (al := [(.slice As S.length cs), (.slice Ar S.length cr)]) pf_23 rfl (ret_mono (sameOps_eq S As Ar cs cr w14 (Own.rowO q5) ((Own.rowO hor).ext (Chg.refl _ _)) (by omega)) ?_))
          rintro _ w15 ⟨rfl, e13⟩
          have he13 := e13.size
          have hS11 : Chg (fun _ => False) w10 w15 := Chg.ext hS10 e13
          refine ⟨.inr fun _ => hS11, ?_⟩
          refine xd_pure 36 (some 145) rfl rfl (by kernel_rfl) (v := (.bool false)) (.inl ⟨rfl, fun W_ hW_ => ox_not (b := true) rfl ⟨rfl, rfl⟩⟩) ?_
          refine xd_pure 37 (some 146) rfl rfl (by kernel_rfl) (v := (.bool false)) (.inl ⟨rfl, fun W_ hW_ => ox_pick_f (v := (.bool false)) rfl rfl ⟨rfl, rfl⟩⟩) ?_
          refine xd_done (by kernel_rfl) ?_ _
          refine xc_cond_f rfl ?_
          refine xc_skip ?_
          refine xc_seq ?_
          refine xc_seq ?_
          refine xc_region ?_
          refine xl_op (P := Try.prog) (some 147) rfl rfl (ox_move (v := (.int .i64 ((k : Nat)))) g15_f2 ?_)
          refine xl_op (P := Try.prog) (some 148) rfl rfl (ox_eql (k := .i64) (a := ((k : Nat))) (b := 1) rfl rfl ?_)
          refine xl_nil ?_
          refine xc_if (p := ((k : Nat) : Int) = 1) rfl (fun h3 => ?_) (fun h3 => ?_)
          · skip
            refine xc_seq ?_
            refine xc_region ?_
            refine xl_op (P := Try.prog) (some 149) rfl rfl (ox_move (v := (.slice Ah H.length ch)) rfl ?_)
            refine xl_op (P := Try.prog) (some 150) rfl rfl (ox_move (v := (.slice As S.length cs)) rfl ?_)
            have q6 := (((((hoh.ext e7).ext e8).ext e9).ext e10).ext e11)
            have hh8 := ((q6.ext e12).ext e13)
            have hs8 := (q5.ext e13)
            refine xl_op (P := Try.prog) (some 151) rfl rfl (ox_callE (al := [(.slice Ah H.length ch), (.slice As S.length cs)]) pf_28 rfl (ret_mono (overwritten_calls H S Ah As ch cs w15 hh8 hs8 (by omega) (by omega)) ?_))
            rintro _ w16 e14
            have he14 := e14.size
            refine xl_nil ?_
            refine xc_exit ?_
            refine xc_region ?_
            refine xl_op (P := Try.prog) (some 77) rfl rfl (ox_move (v := (.int .i64 ((k : Nat)))) g15_f2 ?_)
            refine xl_op (P := Try.prog) (some 78) rfl rfl (ox_add64 (a := ((k : Nat))) (b := 1) rfl rfl (by omega) ?_)
            refine xl_op (P := Try.prog) (some 15) rfl rfl (ox_assign (v := (.int .i64 ((k : Nat) + 1))) rfl ?_)
            refine xl_nil ?_
            have hsz0 := e5.size
            have hsz1 := e6.size
            have hsz2 := e7.size
            have hsz3 := e8.size
            have hsz4 := e9.size
            have hsz5 := e10.size
            have hsz6 := e11.size
            have hsz7 := e12.size
            have hsz8 := e13.size
            have hsz9 := e14.size
            have q7 := ((((o7_f2.ext e5).ext e6).ext e7).ext e8)
            have q8 := ((((q7.ext e9).ext e10).ext e11).ext e12)
            have q9 := ((q8.ext e13).keep e14 (fun k hk hh => hh.elim (fun h9 => (q8.ext e13).ne_own hh8 (by decide) k hk h9) (fun h9 => (q8.ext e13).ne_own hs8 (by decide) k hk h9)))
            have q10 := ((((o8_f2.ext e5).ext e6).ext e7).ext e8)
            have q11 := ((((q10.ext e9).ext e10).ext e11).ext e12)
            have q12 := ((q11.ext e13).keep e14 (fun k hk hh => hh.elim (fun h9 => (q11.ext e13).ne_own hh8 (by decide) k hk h9) (fun h9 => (q11.ext e13).ne_own hs8 (by decide) k hk h9)))
            have q13 := ((((o9_f2.ext e5).ext e6).ext e7).ext e8)
            have q14 := ((((q13.ext e9).ext e10).ext e11).ext e12)
            have q15 := ((q14.ext e13).keep e14 (fun k hk hh => hh.elim (fun h9 => (q14.ext e13).ne_own hh8 (by decide) k hk h9) (fun h9 => (q14.ext e13).ne_own hs8 (by decide) k hk h9)))
            have q16 := ((((o10_f2.ext e5).ext e6).ext e7).ext e8)
            have q17 := ((((q16.ext e9).ext e10).ext e11).ext e12)
            have q18 := ((q17.ext e13).keep e14 (fun k hk hh => hh.elim (fun h9 => (q17.ext e13).ne_own hh8 (by decide) k hk h9) (fun h9 => (q17.ext e13).ne_own hs8 (by decide) k hk h9)))
            have q19 := ((((r14_f2.ext e5).ext e6).ext e7).ext e8)
            have q20 := ((((q19.ext e9).ext e10).ext e11).ext e12)
            have q21 := ((q20.ext e13).keep e14 (fun k hk hh => hh.elim (fun h9 => (q20.ext e13).ne_own hh8 (by decide) k hk h9) (fun h9 => (q20.ext e13).ne_own hs8 (by decide) k hk h9)))
            exact ⟨rfl, 4 - (k + 1), by omega, k + 1, LHx, LWx, LOx, LXx, Hsx, Osx, A7x, c7x, A8x, c8x, A9x, c9x, A10x, c10x, by omega, by omega, by omega, by omega, g5_f2, g1_f2, g6_f2, g11_f2, g12_f2, g13_f2, g14_f2, (by first | exact rfl | exact (congrArg (Value.int .i64) (by omega))), g7_f2, g8_f2, g9_f2, g10_f2, q9, q12, q15, q18, (rb_f2.ext (Chg.trans (Ext.trans (Ext.trans (Ext.trans (Ext.trans (Ext.trans (Ext.trans (Ext.trans (Ext.trans e5 e6) e7) e8) e9) e10) e11) e12) e13) e14 (fun b hb hl => absurd hl (by have _h := (show w6.heap.size ≤ b from hb.elim (fun h9 => by have _a := hnh b h9; omega) (fun h9 => by have _a := hns b h9; omega)); omega)))), (ro_f2.ext (Chg.trans (Ext.trans (Ext.trans (Ext.trans (Ext.trans (Ext.trans (Ext.trans (Ext.trans (Ext.trans e5 e6) e7) e8) e9) e10) e11) e12) e13) e14 (fun b hb hl => absurd hl (by have _h := (show w6.heap.size ≤ b from hb.elim (fun h9 => by have _a := hnh b h9; omega) (fun h9 => by have _a := hns b h9; omega)); omega)))), (fun k hk => lo7_f2 k (ownBlock_len hk)), (fun k hk => lo8_f2 k (ownBlock_len hk)), (fun k hk => lo9_f2 k (ownBlock_len hk)), (fun k hk => lo10_f2 k (ownBlock_len hk)), (fun k h1 h2 => ne7_f2 k (ownBlock_len h1) (ownBlock_len h2)), (fun k h1 h2 => ne8_f2 k (ownBlock_len h1) (ownBlock_len h2)), (Chg.trans (Ext.trans (Ext.trans (Ext.trans (Ext.trans (Ext.trans (Ext.trans (Ext.trans (Ext.trans (Ext.trans x_f2 e5) e6) e7) e8) e9) e10) e11) e12) e13) e14 (fun b hb hl => absurd hl (by have _h := (show w6.heap.size ≤ b from hb.elim (fun h9 => by have _a := hnh b h9; omega) (fun h9 => by have _a := hns b h9; omega)); omega))), q21⟩
          · skip
            refine xc_skip ?_
            refine xc_seq ?_
            refine xc_region ?_
            refine xl_op (P := Try.prog) (some 152) rfl rfl (ox_move (v := (.slice A7x LHx.length c7x)) g7_f2 ?_)
            refine xl_op (P := Try.prog) (some 153) rfl rfl (ox_move (v := (.slice Ah H.length ch)) rfl ?_)
            refine xl_op (P := Try.prog) (some 154) rfl rfl (ox_mkSlice (ps := [(0, (.slice Ah H.length ch))]) (zs := #[(.slice none 0 0)]) (cs := #[(.slice Ah H.length ch)]) tE_62 rfl (by decide) (by kernel_rfl) (by kernel_rfl) ?_)
            intro w17 e15 z6 b1
            replace b1 : Blk w17 w15.heap.size #[(.slice Ah H.length ch)] 34 := b1
            have q22 := ((((o9_f2.ext e5).ext e6).ext e7).ext e8)
            have q23 := ((((q22.ext e9).ext e10).ext e11).ext e12)
            have q24 := ((((o7_f2.ext e5).ext e6).ext e7).ext e8)
            have q25 := ((((q24.ext e9).ext e10).ext e11).ext e12)
            refine xl_op (P := Try.prog) (some 155) rfl rfl (ox_append (n := LHx.length) (g := w15.heap.size) (o := 0) (m := 1) (xs := ((LHx.map Sl3.v))) (news := ([(.slice Ah H.length ch)])) rfl tE_62 rfl (by decide) (v := (.slice A7x LHx.length c7x)) rfl rfl ((q25.ext e13).ext e15) rfl b1.all rfl (by omega) (by omega) ?_)
            have hlt155 := ((q23.ext e13).ext e15)
            intro v1 w18 o1 e16 at1 nil1
            have he16 := e16.size
            obtain ⟨A1, c1, rfl, hc1⟩ := o1.shape
            have low1 : ∀ _k, (Value.slice A1 (LHx.length + 1) c1).ownBlock = some _k → w1.heap.size ≤ _k := fun _k _h => by rcases at1 with _e | _e <;> rw [_e] at _h; exact lo7_f2 _k _h; exact (by cases _h; omega)
            have ne7_155 : ∀ k, ((.slice A1 (LHx.length + 1) c1) : Value).ownBlock = some k → ((.slice A9x LWx.length c9x) : Value).ownBlock = some k → False := own_twoA at1 hlt155 (fun k h1 h2 => ne7_f2 k h1 h2)
            refine xl_op (P := Try.prog) (some 7) rfl rfl (ox_assign (v := (.slice A1 (LHx.length + 1) c1)) rfl ?_)
            refine xl_nil ?_
            refine xc_seq ?_
            refine xc_region ?_
            refine xl_op (P := Try.prog) (some 156) rfl rfl (ox_move (v := (.slice A8x LOx.length c8x)) g8_f2 ?_)
            refine xl_op (P := Try.prog) (some 157) rfl rfl (ox_move (v := (.slice As S.length cs)) rfl ?_)
            refine xl_op (P := Try.prog) (some 158) rfl rfl (ox_mkSlice (ps := [(0, (.slice As S.length cs))]) (zs := #[(.slice none 0 0)]) (cs := #[(.slice As S.length cs)]) tE_63 rfl (by decide) (by kernel_rfl) (by kernel_rfl) ?_)
            intro w19 e17 z7 b2
            replace b2 : Blk w19 w18.heap.size #[(.slice As S.length cs)] 54 := b2
            have q26 := ((((o10_f2.ext e5).ext e6).ext e7).ext e8)
            have q27 := ((((q26.ext e9).ext e10).ext e11).ext e12)
            have q28 := (((q27.ext e13).ext e15).keep e16 (fun _k _hk => ((q27.ext e13).ext e15).ne_own ((q25.ext e13).ext e15) (by decide) _k _hk))
            have q29 := ((((o8_f2.ext e5).ext e6).ext e7).ext e8)
            have q30 := ((((q29.ext e9).ext e10).ext e11).ext e12)
            have q31 := (((q30.ext e13).ext e15).keep e16 (fun _k _hk => ((q30.ext e13).ext e15).ne_own ((q25.ext e13).ext e15) (by decide) _k _hk))
            refine xl_op (P := Try.prog) (some 159) rfl rfl (ox_append (n := LOx.length) (g := w18.heap.size) (o := 0) (m := 1) (xs := ((LOx.map Sl3.v))) (news := ([(.slice As S.length cs)])) rfl tE_63 rfl (by decide) (v := (.slice A8x LOx.length c8x)) rfl rfl (q31.ext e17) rfl b2.all rfl (by omega) (by omega) ?_)
            have hlt159 := (q28.ext e17)
            intro v2 w20 o2 e18 at2 nil2
            have he18 := e18.size
            obtain ⟨A2, c2, rfl, hc2⟩ := o2.shape
            have low2 : ∀ _k, (Value.slice A2 (LOx.length + 1) c2).ownBlock = some _k → w1.heap.size ≤ _k := fun _k _h => by rcases at2 with _e | _e <;> rw [_e] at _h; exact lo8_f2 _k _h; exact (by cases _h; omega)
            have ne8_159 : ∀ k, ((.slice A2 (LOx.length + 1) c2) : Value).ownBlock = some k → ((.slice A10x LXx.length c10x) : Value).ownBlock = some k → False := own_twoA at2 hlt159 (fun k h1 h2 => ne8_f2 k h1 h2)
            refine xl_op (P := Try.prog) (some 8) rfl rfl (ox_assign (v := (.slice A2 (LOx.length + 1) c2)) rfl ?_)
            refine xl_nil ?_
            refine xc_seq ?_
            refine xc_region ?_
            refine xl_op (P := Try.prog) (some 160) rfl rfl (ox_move (v := (.slice A9x LWx.length c9x)) g9_f2 ?_)
            refine xl_op (P := Try.prog) (some 161) rfl rfl (ox_mkSlice (ps := []) (zs := #[]) (cs := #[]) tE_34 rfl (by decide) (by kernel_rfl) (by kernel_rfl) ?_)
            intro w21 e19 z8 b3
            replace b3 : Blk w21 w20.heap.size #[] 40 := b3
            refine xl_op (P := Try.prog) (some 162) rfl rfl (ox_move (v := (.slice Ah H.length ch)) rfl ?_)
            have q32 := (((((hoh.ext e7).ext e8).ext e9).ext e10).ext e11)
            have q33 := ((((q32.ext e12).ext e13).ext e15).keep e16 (fun _k _hk => (((q32.ext e12).ext e13).ext e15).ne_own ((q25.ext e13).ext e15) (by decide) _k _hk))
            have q34 := ((q33.ext e17).keep e18 (fun _k _hk => (q33.ext e17).ne_own (q31.ext e17) (by decide) _k _hk))
            refine xl_op (P := Try.prog) (some 163) rfl rfl (ox_appendR (n := 0) (m := H.length) (xs := ([])) (news := ((hkC H))) rfl tE_34 rfl (by decide) (v := (.slice (some ⟨w20.heap.size, 0, none⟩) 0 0)) rfl rfl (Vx.Own.lit (n := 0) (sz := 4) b3 rfl (by decide)) (hkC_len _) (Own.rowO (q34.ext e19)) (hkC_one _) (by omega) (by omega) ?_)
            intro v3 w22 o3 e20 at3 nil3
            have he20 := e20.size
            obtain ⟨A3, c3, rfl, hc3⟩ := o3.shape
            have low3 : ∀ _k, (Value.slice A3 (0 + H.length) c3).ownBlock = some _k → w20.heap.size ≤ _k := fun _k _h => by rcases at3 with _e | _e <;> rw [_e] at _h; exact (fun _k _h => by simp [Value.ownBlock] at _h; omega) _k _h; exact (by cases _h; omega)
            replace o3 : Vx.Own w22 40 4 (.slice A3 (0 + H.length) c3) (0 + H.length) ((hkC H)) := by simpa using o3
            refine xl_op (P := Try.prog) (some 164) rfl rfl (ox_mkSlice (ps := [(0, (.slice A3 (0 + H.length) c3))]) (zs := #[(.slice none 0 0)]) (cs := #[(.slice A3 (0 + H.length) c3)]) tE_62 rfl (by decide) (by kernel_rfl) (by kernel_rfl) ?_)
            intro w23 e21 z9 b4
            replace b4 : Blk w23 w22.heap.size #[(.slice A3 (0 + H.length) c3)] 34 := b4
            have q35 := ((o1.ext e17).keep e18 (fun _k _hk => (o1.ext e17).ne_own (q31.ext e17) (by decide) _k _hk))
            have q36 := ((q35.ext e19).keep e20 (fun _k _hk => (q35.ext e19).ne_own (Vx.Own.lit (n := 0) (sz := 4) b3 rfl (by decide)) (by decide) _k _hk))
            have q37 := (((q23.ext e13).ext e15).keep e16 (fun k hk hh => ne7_f2 k hh hk))
            have q38 := ((q37.ext e17).keep e18 (fun _k _hk => (q37.ext e17).ne_own (q31.ext e17) (by decide) _k _hk))
            have q39 := ((q38.ext e19).keep e20 (fun _k _hk => (q38.ext e19).ne_own (Vx.Own.lit (n := 0) (sz := 4) b3 rfl (by decide)) (by decide) _k _hk))
            refine xl_op (P := Try.prog) (some 165) rfl rfl (ox_append (n := LWx.length) (g := w22.heap.size) (o := 0) (m := 1) (xs := ((LWx.map Sl3.v))) (news := ([(.slice A3 (0 + H.length) c3)])) rfl tE_62 rfl (by decide) (v := (.slice A9x LWx.length c9x)) rfl rfl (q39.ext e21) rfl b4.all rfl (by omega) (by omega) ?_)
            have hlt165 := (q36.ext e21)
            intro v4 w24 o4 e22 at4 nil4
            have he22 := e22.size
            obtain ⟨A4, c4, rfl, hc4⟩ := o4.shape
            have low4 : ∀ _k, (Value.slice A4 (LWx.length + 1) c4).ownBlock = some _k → w1.heap.size ≤ _k := fun _k _h => by rcases at4 with _e | _e <;> rw [_e] at _h; exact lo9_f2 _k _h; exact (by cases _h; omega)
            have ne9_165 : ∀ k, ((.slice A1 (LHx.length + 1) c1) : Value).ownBlock = some k → ((.slice A4 (LWx.length + 1) c4) : Value).ownBlock = some k → False := own_twoB at4 hlt165 (fun k h1 h2 => ne7_155 k h1 h2)
            refine xl_op (P := Try.prog) (some 9) rfl rfl (ox_assign (v := (.slice A4 (LWx.length + 1) c4)) rfl ?_)
            refine xl_nil ?_
            refine xc_region ?_
            refine xl_op (P := Try.prog) (some 166) rfl rfl (ox_move (v := (.slice A10x LXx.length c10x)) g10_f2 ?_)
            refine xl_op (P := Try.prog) (some 167) rfl rfl (ox_mkSlice (ps := []) (zs := #[]) (cs := #[]) tE_54 rfl (by decide) (by kernel_rfl) (by kernel_rfl) ?_)
            intro w25 e23 z10 b5
            replace b5 : Blk w25 w24.heap.size #[] 88 := b5
            refine xl_op (P := Try.prog) (some 168) rfl rfl (ox_move (v := (.slice As S.length cs)) rfl ?_)
            have q40 := (((q5.ext e13).ext e15).keep e16 (fun _k _hk => ((q5.ext e13).ext e15).ne_own ((q25.ext e13).ext e15) (by decide) _k _hk))
            have q41 := ((q40.ext e17).keep e18 (fun _k _hk => (q40.ext e17).ne_own (q31.ext e17) (by decide) _k _hk))
            have q42 := ((q41.ext e19).keep e20 (fun _k _hk => (q41.ext e19).ne_own (Vx.Own.lit (n := 0) (sz := 4) b3 rfl (by decide)) (by decide) _k _hk))
            have q43 := ((q42.ext e21).keep e22 (fun _k _hk => (q42.ext e21).ne_own (q39.ext e21) (by decide) _k _hk))
            refine xl_op (P := Try.prog) (some 169) rfl rfl (ox_appendR (n := 0) (m := S.length) (xs := ([])) (news := ((opC S))) rfl tE_54 rfl (by decide) (v := (.slice (some ⟨w24.heap.size, 0, none⟩) 0 0)) rfl rfl (Vx.Own.lit (n := 0) (sz := 9) b5 rfl (by decide)) (opC_len _) (Own.rowO (q43.ext e23)) (opC_one _) (by omega) (by omega) ?_)
            intro v5 w26 o5 e24 at5 nil5
            have he24 := e24.size
            obtain ⟨A5, c5, rfl, hc5⟩ := o5.shape
            have low5 : ∀ _k, (Value.slice A5 (0 + S.length) c5).ownBlock = some _k → w24.heap.size ≤ _k := fun _k _h => by rcases at5 with _e | _e <;> rw [_e] at _h; exact (fun _k _h => by simp [Value.ownBlock] at _h; omega) _k _h; exact (by cases _h; omega)
            replace o5 : Vx.Own w26 88 9 (.slice A5 (0 + S.length) c5) (0 + S.length) ((opC S)) := by simpa using o5
            refine xl_op (P := Try.prog) (some 170) rfl rfl (ox_mkSlice (ps := [(0, (.slice A5 (0 + S.length) c5))]) (zs := #[(.slice none 0 0)]) (cs := #[(.slice A5 (0 + S.length) c5)]) tE_63 rfl (by decide) (by kernel_rfl) (by kernel_rfl) ?_)
            intro w27 e25 z11 b6
            replace b6 : Blk w27 w26.heap.size #[(.slice A5 (0 + S.length) c5)] 54 := b6
            have q44 := ((o2.ext e19).keep e20 (fun _k _hk => (o2.ext e19).ne_own (Vx.Own.lit (n := 0) (sz := 4) b3 rfl (by decide)) (by decide) _k _hk))
            have q45 := ((q44.ext e21).keep e22 (fun _k _hk => (q44.ext e21).ne_own (q39.ext e21) (by decide) _k _hk))
            have q46 := ((q45.ext e23).keep e24 (fun _k _hk => (q45.ext e23).ne_own (Vx.Own.lit (n := 0) (sz := 9) b5 rfl (by decide)) (by decide) _k _hk))
            have q47 := ((q28.ext e17).keep e18 (fun k hk hh => ne8_f2 k hh hk))
            have q48 := ((q47.ext e19).keep e20 (fun _k _hk => (q47.ext e19).ne_own (Vx.Own.lit (n := 0) (sz := 4) b3 rfl (by decide)) (by decide) _k _hk))
            have q49 := ((q48.ext e21).keep e22 (fun _k _hk => (q48.ext e21).ne_own (q39.ext e21) (by decide) _k _hk))
            have q50 := ((q49.ext e23).keep e24 (fun _k _hk => (q49.ext e23).ne_own (Vx.Own.lit (n := 0) (sz := 9) b5 rfl (by decide)) (by decide) _k _hk))
            refine xl_op (P := Try.prog) (some 171) rfl rfl (ox_append (n := LXx.length) (g := w26.heap.size) (o := 0) (m := 1) (xs := ((LXx.map Sl3.v))) (news := ([(.slice A5 (0 + S.length) c5)])) rfl tE_63 rfl (by decide) (v := (.slice A10x LXx.length c10x)) rfl rfl (q50.ext e25) rfl b6.all rfl (by omega) (by omega) ?_)
            have hlt171 := (q46.ext e25)
            intro v6 w28 o6 e26 at6 nil6
            have he26 := e26.size
            obtain ⟨A6, c6, rfl, hc6⟩ := o6.shape
            have low6 : ∀ _k, (Value.slice A6 (LXx.length + 1) c6).ownBlock = some _k → w1.heap.size ≤ _k := fun _k _h => by rcases at6 with _e | _e <;> rw [_e] at _h; exact lo10_f2 _k _h; exact (by cases _h; omega)
            have ne10_171 : ∀ k, ((.slice A2 (LOx.length + 1) c2) : Value).ownBlock = some k → ((.slice A6 (LXx.length + 1) c6) : Value).ownBlock = some k → False := own_twoB at6 hlt171 (fun k h1 h2 => ne8_159 k h1 h2)
            have hsy0 := e5.size
            have hsy1 := e6.size
            have hsy2 := e7.size
            have hsy3 := e8.size
            have hsy4 := e9.size
            have hsy5 := e10.size
            have hsy6 := e11.size
            have hsy7 := e12.size
            have hsy8 := e13.size
            have hsy9 := e15.size
            have hsy10 := e16.size
            have hsy11 := e17.size
            have hsy12 := e18.size
            have hsy13 := e19.size
            have hsy14 := e20.size
            have hsy15 := e21.size
            have hsy16 := e22.size
            have hsy17 := e23.size
            have hsy18 := e24.size
            have hsy19 := e25.size
            have hsy20 := e26.size
            have hK := (Chg.trans (Chg.ext (Chg.trans (Chg.ext (Chg.trans (Chg.ext (Chg.trans (Chg.ext (Chg.trans (Chg.ext (Chg.trans (Chg.ext (Chg.ext (Chg.ext (Chg.ext (Chg.ext (Chg.ext (Chg.ext (Chg.ext (Chg.ext (Chg.ext (Chg.refl (fun b => ((.slice A7x LHx.length c7x) : Value).ownBlock = some b ∨ ((.slice A8x LOx.length c8x) : Value).ownBlock = some b ∨ ((.slice A9x LWx.length c9x) : Value).ownBlock = some b ∨ ((.slice A10x LXx.length c10x) : Value).ownBlock = some b) w6) e5) e6) e7) e8) e9) e10) e11) e12) e13) e15) e16 (fun b hb hl => .inl hb)) e17) e18 (fun b hb hl => .inr (.inl hb))) e19) e20 (fun b hb hl => absurd hl (by simp [Value.ownBlock] at hb; omega))) e21) e22 (fun b hb hl => .inr (.inr (.inl hb)))) e23) e24 (fun b hb hl => absurd hl (by simp [Value.ownBlock] at hb; omega))) e25) e26 (fun b hb hl => .inr (.inr (.inr hb))))
            have rb8 := rb_f2.keep hK (fun _v _n _xs _h b hb hh => by rcases hh with h9 | h9 | h9 | h9; exact _h.ne_own o7_f2 (by decide) b hb h9; exact _h.ne_own o8_f2 (by decide) b hb h9; exact _h.ne_own o9_f2 (by decide) b hb h9; exact _h.ne_own o10_f2 (by decide) b hb h9)
            have q51 := ((q34.ext e19).keep e20 (fun k hk hh => by have _h := hoh.lt k hk; simp [Value.ownBlock] at hh; omega))
            have q52 := ((q51.ext e21).keep e22 (fun _k _hk => (q51.ext e21).ne_own (q39.ext e21) (by decide) _k _hk))
            have q53 := ((q52.ext e23).keep e24 (fun _k _hk => (q52.ext e23).ne_own (Vx.Own.lit (n := 0) (sz := 9) b5 rfl (by decide)) (by decide) _k _hk))
            have q54 := ((q53.ext e25).keep e26 (fun _k _hk => (q53.ext e25).ne_own (q50.ext e25) (by decide) _k _hk))
            have q55 := ((o3.ext e21).keep e22 (fun _k _hk => (o3.ext e21).ne_own (q39.ext e21) (by decide) _k _hk))
            have q56 := ((q55.ext e23).keep e24 (fun _k _hk => (q55.ext e23).ne_own (Vx.Own.lit (n := 0) (sz := 9) b5 rfl (by decide)) (by decide) _k _hk))
            have q57 := ((q56.ext e25).keep e26 (fun _k _hk => (q56.ext e25).ne_own (q50.ext e25) (by decide) _k _hk))
            have rb9 := rb8.snoc (x := ⟨Ah, H.length, ch⟩) (y := ⟨A3, 0 + H.length, c3⟩) (H := H) rfl (Nat.zero_add _) q54 q57 (by omega) (fun b hb => by have _a := hnh b hb; omega) (fun b hb j z hz hh => by have _a := hnh b hb; have _b := rb_f2.lt hz b hh; omega)
            have ro8 := ro_f2.keep hK (fun _v _n _xs _h b hb hh => by rcases hh with h9 | h9 | h9 | h9; exact _h.ne_own o7_f2 (by decide) b hb h9; exact _h.ne_own o8_f2 (by decide) b hb h9; exact _h.ne_own o9_f2 (by decide) b hb h9; exact _h.ne_own o10_f2 (by decide) b hb h9)
            have q58 := ((q43.ext e23).keep e24 (fun k hk hh => by have _h := hos.lt k hk; simp [Value.ownBlock] at hh; omega))
            have q59 := ((q58.ext e25).keep e26 (fun _k _hk => (q58.ext e25).ne_own (q50.ext e25) (by decide) _k _hk))
            have q60 := ((o5.ext e25).keep e26 (fun _k _hk => (o5.ext e25).ne_own (q50.ext e25) (by decide) _k _hk))
            have ro9 := ro8.snoc (x := ⟨As, S.length, cs⟩) (y := ⟨A5, 0 + S.length, c5⟩) (H := S) rfl (Nat.zero_add _) q59 q60 (by omega) (fun b hb => by have _a := hns b hb; omega) (fun b hb j z hz hh => by have _a := hns b hb; have _b := ro_f2.lt hz b hh; omega)
            refine xl_op (P := Try.prog) (some 10) rfl rfl (ox_assign (v := (.slice A6 (LXx.length + 1) c6)) rfl ?_)
            refine xl_nil ?_
            refine xc_region ?_
            refine xl_op (P := Try.prog) (some 77) rfl rfl (ox_move (v := (.int .i64 ((k : Nat)))) g15_f2 ?_)
            refine xl_op (P := Try.prog) (some 78) rfl rfl (ox_add64 (a := ((k : Nat))) (b := 1) rfl rfl (by omega) ?_)
            refine xl_op (P := Try.prog) (some 15) rfl rfl (ox_assign (v := (.int .i64 ((k : Nat) + 1))) rfl ?_)
            refine xl_nil ?_
            have hsz0 := e5.size
            have hsz1 := e6.size
            have hsz2 := e7.size
            have hsz3 := e8.size
            have hsz4 := e9.size
            have hsz5 := e10.size
            have hsz6 := e11.size
            have hsz7 := e12.size
            have hsz8 := e13.size
            have hsz9 := e15.size
            have hsz10 := e16.size
            have hsz11 := e17.size
            have hsz12 := e18.size
            have hsz13 := e19.size
            have hsz14 := e20.size
            have hsz15 := e21.size
            have hsz16 := e22.size
            have hsz17 := e23.size
            have hsz18 := e24.size
            have hsz19 := e25.size
            have hsz20 := e26.size
            have q61 := ((q36.ext e21).keep e22 (fun k hk hh => ne7_155 k hk hh))
            have q62 := ((q61.ext e23).keep e24 (fun _k _hk => (q61.ext e23).ne_own (Vx.Own.lit (n := 0) (sz := 9) b5 rfl (by decide)) (by decide) _k _hk))
            have q63 := ((q62.ext e25).keep e26 (fun _k _hk => (q62.ext e25).ne_own (q50.ext e25) (by decide) _k _hk))
            have q64 := ((q46.ext e25).keep e26 (fun k hk hh => ne8_159 k hk hh))
            have q65 := ((o4.ext e23).keep e24 (fun _k _hk => (o4.ext e23).ne_own (Vx.Own.lit (n := 0) (sz := 9) b5 rfl (by decide)) (by decide) _k _hk))
            have q66 := ((q65.ext e25).keep e26 (fun _k _hk => (q65.ext e25).ne_own (q50.ext e25) (by decide) _k _hk))
            have q67 := ((((r14_f2.ext e5).ext e6).ext e7).ext e8)
            have q68 := ((((q67.ext e9).ext e10).ext e11).ext e12)
            have q69 := (((q68.ext e13).ext e15).keep e16 (fun _k _hk => ((q68.ext e13).ext e15).ne_own ((q25.ext e13).ext e15) (by decide) _k _hk))
            have q70 := ((q69.ext e17).keep e18 (fun _k _hk => (q69.ext e17).ne_own (q31.ext e17) (by decide) _k _hk))
            have q71 := ((q70.ext e19).keep e20 (fun _k _hk => (q70.ext e19).ne_own (Vx.Own.lit (n := 0) (sz := 4) b3 rfl (by decide)) (by decide) _k _hk))
            have q72 := ((q71.ext e21).keep e22 (fun _k _hk => (q71.ext e21).ne_own (q39.ext e21) (by decide) _k _hk))
            have q73 := ((q72.ext e23).keep e24 (fun _k _hk => (q72.ext e23).ne_own (Vx.Own.lit (n := 0) (sz := 9) b5 rfl (by decide)) (by decide) _k _hk))
            have q74 := ((q73.ext e25).keep e26 (fun _k _hk => (q73.ext e25).ne_own (q50.ext e25) (by decide) _k _hk))
            exact ⟨rfl, 4 - (k + 1), by omega, k + 1, LHx ++ [⟨Ah, H.length, ch⟩], LWx ++ [⟨A3, 0 + H.length, c3⟩], LOx ++ [⟨As, S.length, cs⟩], LXx ++ [⟨A5, 0 + S.length, c5⟩], Hsx ++ [H], Osx ++ [S], A1, c1, A2, c2, A4, c4, A6, c6, by omega, by omega, by rw [List.length_append]; simp; omega, by rw [List.length_append, List.length_append]; simp; omega, g5_f2, g1_f2, g6_f2, g11_f2, g12_f2, g13_f2, g14_f2, (by first | exact rfl | exact (congrArg (Value.int .i64) (by omega))), (by rw [List.length_append]; rfl), (by rw [List.length_append]; rfl), (by rw [List.length_append]; rfl), (by rw [List.length_append]; rfl), (by have h9 := q63; rw [List.length_append, List.map_append]; exact h9), (by have h9 := q64; rw [List.length_append, List.map_append]; exact h9), (by have h9 := q66; rw [List.length_append, List.map_append]; exact h9), (by have h9 := o6; rw [List.length_append, List.map_append]; exact h9), rb9, ro9, (fun k hk => low1 k (ownBlock_len hk)), (fun k hk => low2 k (ownBlock_len hk)), (fun k hk => low4 k (ownBlock_len hk)), (fun k hk => low6 k (ownBlock_len hk)), (fun k h1 h2 => ne9_165 k (ownBlock_len h1) (ownBlock_len h2)), (fun k h1 h2 => ne10_171 k (ownBlock_len h1) (ownBlock_len h2)), (Chg.trans (Ext.trans (Chg.trans (Ext.trans (Chg.trans (Ext.trans (Chg.trans (Ext.trans (Chg.trans (Ext.trans (Chg.trans (Ext.trans (Ext.trans (Ext.trans (Ext.trans (Ext.trans (Ext.trans (Ext.trans (Ext.trans (Ext.trans (Ext.trans x_f2 e5) e6) e7) e8) e9) e10) e11) e12) e13) e15) e16 (fun b hb hl => absurd hl (by have _h := lo7_f2 b hb; omega))) e17) e18 (fun b hb hl => absurd hl (by have _h := lo8_f2 b hb; omega))) e19) e20 (fun b hb hl => absurd hl (by simp [Value.ownBlock] at hb; omega))) e21) e22 (fun b hb hl => absurd hl (by have _h := lo9_f2 b hb; omega))) e23) e24 (fun b hb hl => absurd hl (by simp [Value.ownBlock] at hb; omega))) e25) e26 (fun b hb hl => absurd hl (by have _h := lo10_f2 b hb; omega))), q74⟩
        · skip
          refine xc_exit ?_
          refine xc_seq ?_
          refine xc_region ?_
          refine xl_op (P := Try.prog) (some 172) rfl rfl (ox_move (v := (.pointer (some ⟨bg, 0, none⟩))) g5_f2 ?_)
          refine xl_op (P := Try.prog) (some 173) rfl rfl (ox_nilCheck (p := ⟨bg, 0, none⟩) rfl ?_)
          refine xl_op (P := Try.prog) (some 174) rfl rfl (ox_fieldAddr (b := bg) (o := 0) tF_31_1 rfl ?_)
          refine xl_op (P := Try.prog) (some 175) rfl rfl (ox_load (v := (.slice (some ⟨gn, 0, none⟩) ts.length cn)) tA_28 rfl ((hGM.g.ext x_f2).cell rfl) ?_)
          refine xl_op (P := Try.prog) (some 176) rfl rfl (ox_move (v := (.int .i64 ((qb : Nat)))) g13_f2 ?_)
          refine xl_op (P := Try.prog) (some 177) rfl rfl (ox_indexAddr (b := gn) (o := 0) (i := ((qb : Nat))) tE_28 rfl rfl (by omega) (by omega) ?_)
          refine xl_op (P := Try.prog) (some 178) rfl rfl (ox_load (v := (.pointer (some ⟨tb.b, 0, none⟩))) tA_36 rfl (by simpa [T.ptr] using Ext.cell hcnb x_f2) ?_)
          refine xl_op (P := Try.prog) (some 179) rfl rfl (ox_callE (al := [(.pointer (some ⟨tb.b, 0, none⟩))]) pf_26 rfl (ret_mono (rows_calls (.pointer (some ⟨s, 0, none⟩)) tb w6 (hPb.ext x_f2) hWb hsb4) ?_))
          rintro _ w29 ⟨A18, c18, rfl, ho18, hl18, e27⟩
          have he27 := e27.size
          have hr14 := (r14_f2.ext e27)
          have htb0 : (nodes tb)[0]? = some tb := by cases tb; rfl
          obtain ⟨g14, z14, heq14, _⟩ := hr14.some_of (by omega)
          simp only [Value.slice.injEq, true_and] at heq14
          obtain ⟨rfl, rfl⟩ := heq14
          have hc14 := Own.cells hr14 (o := 0) (vs := rowC tb) (fun j v hj => by have h9 := flat_get rowC 6 (fun _ => rfl) htb0 j v hj; simpa [rwC] using h9)
          obtain ⟨g18, z18, heq18, _⟩ := ho18.some_of (by omega)
          simp only [Value.slice.injEq, true_and] at heq18
          obtain ⟨rfl, rfl⟩ := heq18
          have hc18 := Own.cells ho18 (o := 0) (vs := rowC tb) (fun j v hj => by have h9 := flat_get rowC 6 (fun _ => rfl) htb0 j v hj; simpa [rwC] using h9)
          refine xl_op (P := Try.prog) (some 18) rfl rfl (ox_assign (v := (.slice (some ⟨g18, 0, none⟩) ((nodes tb).length) c18)) rfl ?_)
          refine xl_nil ?_
          refine xc_seq ?_
          refine xc_regionE [] (fun W_ => Chg (fun _ => False) w29 W_) hmix ?_
          intro w30 e28 z12
          have hS12 : Chg (fun _ => False) w29 w30 := Ext.to e28
          refine xd_pure 0 (some 180) rfl rfl (by kernel_rfl) (v := (.slice (some ⟨g14, 0, none⟩) ((nodes tb).length) c14)) (.inl ⟨rfl, fun W_ hW_ => ox_move (v := (.slice (some ⟨g14, 0, none⟩) ((nodes tb).length) c14)) g14_f2 ⟨rfl, rfl⟩⟩) ?_
          refine xd_pure 1 (some 181) rfl rfl (by kernel_rfl) (v := (.int .i64 ((((nodes tb).length : Nat) : Int)))) (.inl ⟨rfl, fun W_ hW_ => ox_len (A := (some ⟨g14, 0, none⟩)) (n := ((nodes tb).length)) (cp := c14) rfl tU_64 rfl ⟨rfl, rfl⟩⟩) ?_
          refine xd_pure 2 (some 182) rfl rfl (by kernel_rfl) (v := (.bool (decide (((((nodes tb).length : Nat) : Int) : Int) = 0)))) (.inl ⟨rfl, fun W_ hW_ => ox_eql (k := .i64) (a := ((((nodes tb).length : Nat) : Int))) (b := 0) rfl rfl ⟨rfl, rfl⟩⟩) ?_
          refine xd_pure 3 (some 183) rfl rfl (by kernel_rfl) (v := (.bool (decide (((((nodes tb).length : Nat) : Int) : Int) = 0)))) (.inl ⟨rfl, fun W_ hW_ => ox_move (v := (.bool (decide (((((nodes tb).length : Nat) : Int) : Int) = 0)))) rfl ⟨rfl, rfl⟩⟩) ?_
          refine xd_pure 4 (some 184) rfl rfl (by kernel_rfl) (v := (.slice (some ⟨g14, 0, none⟩) ((nodes tb).length) c14)) (.inl ⟨(wanted_of (j := 3) (b := false) rfl (congrArg some (decide_eq_false (by omega)))), fun W_ hW_ => ox_move (v := (.slice (some ⟨g14, 0, none⟩) ((nodes tb).length) c14)) g14_f2 ⟨rfl, rfl⟩⟩) ?_
          refine xd_pure 5 (some 185) rfl rfl (by kernel_rfl) (v := (.slice (some ⟨g18, 0, none⟩) ((nodes tb).length) c18)) (.inl ⟨(wanted_of (j := 3) (b := false) rfl (congrArg some (decide_eq_false (by omega)))), fun W_ hW_ => ox_move (v := (.slice (some ⟨g18, 0, none⟩) ((nodes tb).length) c18)) rfl ⟨rfl, rfl⟩⟩) ?_
          refine xd_oneW 6 (some 186) rfl rfl (by kernel_rfl) (wanted_of (j := 3) (b := false) rfl (congrArg some (decide_eq_false (by omega)))) (ox_callE (al := [(.slice (some ⟨g14, 0, none⟩) ((nodes tb).length) c14), (.slice (some ⟨g18, 0, none⟩) ((nodes tb).length) c18)]) pf_29 rfl (ret_mono (rowsE_calls (nodes tb) (nodes tb) (some ⟨g14, 0, none⟩) (some ⟨g18, 0, none⟩) c14 c18 w30 ((Own.rowO hr14).ext e28) ((Own.rowO ho18).ext e28) rfl (by omega) (fun i x y hx hy => by rw [hx] at hy; cases hy; exact ⟨rfl, rfl, rfl, rfl, rfl⟩)) ?_))
          rintro _ w31 ⟨rfl, e29⟩
          have he29 := e29.size
          have hS13 : Chg (fun _ => False) w29 w31 := Chg.ext hS12 e29
          refine ⟨.inr fun _ => hS13, ?_⟩
          refine xd_pure 7 (some 187) rfl rfl (by kernel_rfl) (v := (.bool false)) (.inl ⟨(wanted_of (j := 3) (b := false) rfl (congrArg some (decide_eq_false (by omega)))), fun W_ hW_ => ox_not (b := true) rfl ⟨rfl, rfl⟩⟩) ?_
          refine xd_pure 8 (some 188) rfl rfl (by kernel_rfl) (v := (.bool false)) (.inl ⟨rfl, fun W_ hW_ => ox_pick_f (v := (.bool false)) (congrArg Value.bool (decide_eq_false (by omega))) rfl ⟨rfl, rfl⟩⟩) ?_
          refine xd_pure 9 (some 189) rfl rfl (by kernel_rfl) (v := (.bool false)) (.inl ⟨rfl, fun W_ hW_ => ox_move (v := (.bool false)) rfl ⟨rfl, rfl⟩⟩) ?_
          refine xd_pure 10 (some 190) rfl rfl (by kernel_rfl) (v := (.slice (some ⟨g18, 0, none⟩) ((nodes tb).length) c18)) (.inl ⟨rfl, fun W_ hW_ => ox_move (v := (.slice (some ⟨g18, 0, none⟩) ((nodes tb).length) c18)) rfl ⟨rfl, rfl⟩⟩) ?_
          refine xd_pure 11 (some 191) rfl rfl (by kernel_rfl) (v := (.pointer (some ⟨g18, 0, none⟩))) (.inl ⟨rfl, fun W_ hW_ => ox_indexAddr (b := g18) (o := 0) (i := 0) tE_64 rfl rfl (by omega) (by omega) ⟨rfl, rfl⟩⟩) ?_
          refine xd_pure 12 (some 192) rfl rfl (by kernel_rfl) (v := (.pointer (some ⟨g18, 5, none⟩))) (.inl ⟨rfl, fun W_ hW_ => ox_fieldAddr (b := g18) (o := 0) tF_70_5 rfl ⟨rfl, rfl⟩⟩) ?_
          refine xd_take 13 (some 193) rfl rfl (by kernel_rfl) (v := (.int .i64 tb.id)) (.inl ⟨rfl, fun W_ hW_ => ox_load (v := (.int .i64 tb.id)) tA_3 rfl (CellsL.keep hW_ not_false hc18).2.2.2.2.2.1 ⟨rfl, rfl⟩⟩) hS13 ?_
          refine xd_pure 14 (some 194) rfl rfl (by kernel_rfl) (v := (.slice (some ⟨g14, 0, none⟩) ((nodes tb).length) c14)) (.inl ⟨rfl, fun W_ hW_ => ox_move (v := (.slice (some ⟨g14, 0, none⟩) ((nodes tb).length) c14)) g14_f2 ⟨rfl, rfl⟩⟩) ?_
          refine xd_pure 15 (some 195) rfl rfl (by kernel_rfl) (v := (.pointer (some ⟨g14, 0, none⟩))) (.inl ⟨rfl, fun W_ hW_ => ox_indexAddr (b := g14) (o := 0) (i := 0) tE_64 rfl rfl (by omega) (by omega) ⟨rfl, rfl⟩⟩) ?_
          refine xd_pure 16 (some 196) rfl rfl (by kernel_rfl) (v := (.pointer (some ⟨g14, 5, none⟩))) (.inl ⟨rfl, fun W_ hW_ => ox_fieldAddr (b := g14) (o := 0) tF_70_5 rfl ⟨rfl, rfl⟩⟩) ?_
          refine xd_take 17 (some 197) rfl rfl (by kernel_rfl) (v := (.int .i64 tb.id)) (.inl ⟨rfl, fun W_ hW_ => ox_load (v := (.int .i64 tb.id)) tA_3 rfl (CellsL.keep hW_ not_false hc14).2.2.2.2.2.1 ⟨rfl, rfl⟩⟩) hS13 ?_
          refine xd_pure 18 (some 198) rfl rfl (by kernel_rfl) (v := (.bool (decide ((tb.id : Int) ≠ tb.id)))) (.inl ⟨rfl, fun W_ hW_ => ox_neq (k := .i64) (a := tb.id) (b := tb.id) rfl rfl ⟨rfl, rfl⟩⟩) ?_
          refine xd_pure 19 (some 199) rfl rfl (by kernel_rfl) (v := (.bool (decide ((tb.id : Int) ≠ tb.id)))) (.inl ⟨rfl, fun W_ hW_ => ox_pick_f (v := (.bool (decide ((tb.id : Int) ≠ tb.id)))) rfl rfl ⟨rfl, rfl⟩⟩) ?_
          refine xd_done (by kernel_rfl) ?_ _
          refine xc_cond_f (congrArg Value.bool (by simp : decide ((tb.id : Int) ≠ tb.id) = false)) ?_
          refine xc_skip ?_
          refine xc_region ?_
          refine xl_op (P := Try.prog) (some 43) rfl rfl (ox_move (v := (.int .i64 ((i : Nat)))) g11_f2 ?_)
          refine xl_op (P := Try.prog) (some 44) rfl rfl (ox_add64 (a := ((i : Nat))) (b := 1) rfl rfl (by omega) ?_)
          refine xl_op (P := Try.prog) (some 11) rfl rfl (ox_assign (v := (.int .i64 ((i : Nat) + 1))) rfl ?_)
          refine xl_nil ?_
          have hsz0 := e27.size
          have hsz1 := e28.size
          have hsz2 := e29.size
          exact ⟨rfl, ps.length - (i + 1), by omega, i + 1, LHx, LWx, LOx, LXx, Hsx, Osx, A7x, c7x, A8x, c8x, A9x, c9x, A10x, c10x, by omega, by omega, by omega, by omega, by omega, g5_f2, g1_f2, g6_f2, (by first | exact rfl | exact (congrArg (Value.int .i64) (by omega))), g7_f2, g8_f2, g9_f2, g10_f2, (((o7_f2.ext e27).ext e28).ext e29), (((o8_f2.ext e27).ext e28).ext e29), (((o9_f2.ext e27).ext e28).ext e29), (((o10_f2.ext e27).ext e28).ext e29), (rb_f2.ext (Ext.trans (Ext.trans e27 e28) e29)), (ro_f2.ext (Ext.trans (Ext.trans e27 e28) e29)), (fun k hk => lo7_f2 k (ownBlock_len hk)), (fun k hk => lo8_f2 k (ownBlock_len hk)), (fun k hk => lo9_f2 k (ownBlock_len hk)), (fun k hk => lo10_f2 k (ownBlock_len hk)), (fun k h1 h2 => ne7_f2 k (ownBlock_len h1) (ownBlock_len h2)), (fun k h1 h2 => ne8_f2 k (ownBlock_len h1) (ownBlock_len h2)), (Ext.trans (Ext.trans (Ext.trans x_f2 e27) e28) e29)⟩
    · skip
      have h1' := h1
      try simp only [Bool.or_eq_true, Bool.and_eq_true, decide_eq_true_eq, Bool.or_eq_false_iff, Bool.and_eq_false_iff, decide_eq_false_iff_not, Bool.not_eq_true', Bool.not_eq_false'] at h1'
      skip
      refine xc_exit ?_
      refine xc_seq ?_
      refine xc_seq ?_
      refine xc_region ?_
      refine xl_op (P := Try.prog) (some 19) rfl rfl (ox_assign (v := (.int .i64 0)) rfl ?_)
      refine xl_nil ?_
      refine xc_block ?_
      have hl48 : LH.length ≤ 64 := by omega
      have o5_7 := o7_f1
      have o5_8 := o8_f1
      have o5_9 := o9_f1
      have o5_10 := o10_f1
      have hrb5 := rb_f1
      have hro5 := ro_f1
      have hml5 : LW.length = LH.length := by rw [hrb5.ml, hrb5.ll]
      have hql5 : LX.length = LO.length := by rw [hro5.ml, hro5.ll]
      have hE5 := Ext.trans hEw x_f1
      have hE5z := hE5.size
      refine xc_loopN (fun m f W => ∃ (i : Nat), m = LH.length - i ∧ i ≤ LH.length ∧ f 19 = (.int .i64 ((i : Nat))) ∧ f 7 = (.slice A7 LH.length c7) ∧ f 8 = (.slice A8 LO.length c8) ∧ f 9 = (.slice A9 LW.length c9) ∧ f 10 = (.slice A10 LX.length c10) ∧ Ext w2 W) (LH.length) ?_ ?_
      · exact ⟨0, by omega, by omega, (by first | exact rfl | exact (congrArg (Value.int .i64) (by omega))), g7_f1, g8_f1, g9_f1, g10_f1, (Chg.refl _ _)⟩
      · rintro m f3 w32 ⟨i, hm, hi, g19_f3, g7_f3, g8_f3, g9_f3, g10_f3, y_f3⟩
        have hzZ := y_f3.size
        refine xc_seq ?_
        refine xc_seq ?_
        refine xc_region ?_
        refine xl_op (P := Try.prog) (some 200) rfl rfl (ox_move (v := (.int .i64 ((i : Nat)))) g19_f3 ?_)
        refine xl_op (P := Try.prog) (some 201) rfl rfl (ox_move (v := (.slice A7 LH.length c7)) g7_f3 ?_)
        refine xl_op (P := Try.prog) (some 202) rfl rfl (ox_len (A := A7) (n := LH.length) (cp := c7) rfl tU_62 rfl ?_)
        refine xl_op (P := Try.prog) (some 203) rfl rfl (ox_lss (k := .i64) (a := ((i : Nat))) (b := (((LH.length : Nat) : Int))) rfl rfl ?_)
        refine xl_nil ?_
        refine xc_if (p := ((i : Nat) : Int) < (((LH.length : Nat) : Int))) rfl (fun h4 => ?_) (fun h4 => ?_)
        · skip
          have hil : i < LH.length := by omega
          obtain ⟨Ax, cx, Ay, cy, H, hx, hy, hox, hoy, hHl⟩ := hrb5.at2 hil
          obtain ⟨Au, cu, Av, cv, S, hu, hv, hou, hov, hSl⟩ := hro5.at2 (j := i) (by omega)
          obtain ⟨g7, z7, heq7, _⟩ := o5_7.some_of (by first | omega | (rw [hml5]; omega) | (rw [hql5]; omega))
          simp only [Value.slice.injEq, true_and] at heq7
          obtain ⟨rfl, rfl⟩ := heq7
          obtain ⟨g8, z8, heq8, _⟩ := o5_8.some_of (by first | omega | (rw [hml5]; omega) | (rw [hql5]; omega))
          simp only [Value.slice.injEq, true_and] at heq8
          obtain ⟨rfl, rfl⟩ := heq8
          obtain ⟨g9, z9, heq9, _⟩ := o5_9.some_of (by first | omega | (rw [hml5]; omega) | (rw [hql5]; omega))
          simp only [Value.slice.injEq, true_and] at heq9
          obtain ⟨rfl, rfl⟩ := heq9
          obtain ⟨g10, z10, heq10, _⟩ := o5_10.some_of (by first | omega | (rw [hml5]; omega) | (rw [hql5]; omega))
          simp only [Value.slice.injEq, true_and] at heq10
          obtain ⟨rfl, rfl⟩ := heq10
          refine xc_skip ?_
          refine xc_seq ?_
          refine xc_block ?_
          refine xc_seq ?_
          refine xc_regionE [] (fun W_ => Chg (fun _ => False) w32 W_) hmix ?_
          intro w33 e30 z13
          have hS14 : Chg (fun _ => False) w32 w33 := Ext.to e30
          refine xd_pure 0 (some 206) rfl rfl (by kernel_rfl) (v := (.slice (some ⟨g7, 0, none⟩) LH.length c7)) (.inl ⟨rfl, fun W_ hW_ => ox_move (v := (.slice (some ⟨g7, 0, none⟩) LH.length c7)) g7_f3 ⟨rfl, rfl⟩⟩) ?_
          refine xd_pure 1 (some 207) rfl rfl (by kernel_rfl) (v := (.int .i64 ((i : Nat)))) (.inl ⟨rfl, fun W_ hW_ => ox_move (v := (.int .i64 ((i : Nat)))) g19_f3 ⟨rfl, rfl⟩⟩) ?_
          refine xd_pure 2 (some 208) rfl rfl (by kernel_rfl) (v := (.pointer (some ⟨g7, 0 + i * 1, none⟩))) (.inl ⟨rfl, fun W_ hW_ => ox_indexAddr (b := g7) (o := 0) (i := ((i : Nat))) tE_62 rfl rfl (by omega) (by first | omega | (rw [hml5]; omega) | (rw [hql5]; omega)) ⟨rfl, rfl⟩⟩) ?_
          refine xd_take 3 (some 209) rfl rfl (by kernel_rfl) (v := (.slice Ax H.length cx)) (.inl ⟨rfl, fun W_ hW_ => ox_load (v := (.slice Ax H.length cx)) tA_34 rfl (Ext.cell (Own.rowv o5_7 hx) (Ext.trans y_f3 hW_)) ⟨rfl, rfl⟩⟩) hS14 ?_
          refine xd_pure 4 (some 210) rfl rfl (by kernel_rfl) (v := (.slice (some ⟨g9, 0, none⟩) LW.length c9)) (.inl ⟨rfl, fun W_ hW_ => ox_move (v := (.slice (some ⟨g9, 0, none⟩) LW.length c9)) g9_f3 ⟨rfl, rfl⟩⟩) ?_
          refine xd_pure 5 (some 211) rfl rfl (by kernel_rfl) (v := (.int .i64 ((i : Nat)))) (.inl ⟨rfl, fun W_ hW_ => ox_move (v := (.int .i64 ((i : Nat)))) g19_f3 ⟨rfl, rfl⟩⟩) ?_
          refine xd_pure 6 (some 212) rfl rfl (by kernel_rfl) (v := (.pointer (some ⟨g9, 0 + i * 1, none⟩))) (.inl ⟨rfl, fun W_ hW_ => ox_indexAddr (b := g9) (o := 0) (i := ((i : Nat))) tE_62 rfl rfl (by omega) (by first | omega | (rw [hml5]; omega) | (rw [hql5]; omega)) ⟨rfl, rfl⟩⟩) ?_
          refine xd_take 7 (some 213) rfl rfl (by kernel_rfl) (v := (.slice Ay H.length cy)) (.inl ⟨rfl, fun W_ hW_ => ox_load (v := (.slice Ay H.length cy)) tA_34 rfl (Ext.cell (Own.rowv o5_9 hy) (Ext.trans y_f3 hW_)) ⟨rfl, rfl⟩⟩) hS14 ?_
          refine xd_one 8 (some 214) rfl rfl (by kernel_rfl) rfl (ox_callE (al := [(.slice Ax H.length cx), (.slice Ay H.length cy)]) pf_27 rfl (ret_mono (sameHunks_eq H Ax Ay cx cy w33 ((Own.rowO hox).ext (Ext.trans y_f3 e30)) ((Own.rowO hoy).ext (Ext.trans y_f3 e30)) hHl) ?_))
          rintro _ w34 ⟨rfl, e31⟩
          have he31 := e31.size
          have hS15 : Chg (fun _ => False) w32 w34 := Chg.ext hS14 e31
          refine ⟨.inr fun _ => hS15, ?_⟩
          refine xd_pure 9 (some 215) rfl rfl (by kernel_rfl) (v := (.bool false)) (.inl ⟨rfl, fun W_ hW_ => ox_not (b := true) rfl ⟨rfl, rfl⟩⟩) ?_
          refine xd_pure 10 (some 216) rfl rfl (by kernel_rfl) (v := (.bool false)) (.inl ⟨rfl, fun W_ hW_ => ox_move (v := (.bool false)) rfl ⟨rfl, rfl⟩⟩) ?_
          refine xd_pure 11 (some 217) rfl rfl (by kernel_rfl) (v := (.slice (some ⟨g8, 0, none⟩) LO.length c8)) (.inl ⟨rfl, fun W_ hW_ => ox_move (v := (.slice (some ⟨g8, 0, none⟩) LO.length c8)) g8_f3 ⟨rfl, rfl⟩⟩) ?_
          refine xd_pure 12 (some 218) rfl rfl (by kernel_rfl) (v := (.int .i64 ((i : Nat)))) (.inl ⟨rfl, fun W_ hW_ => ox_move (v := (.int .i64 ((i : Nat)))) g19_f3 ⟨rfl, rfl⟩⟩) ?_
          refine xd_pure 13 (some 219) rfl rfl (by kernel_rfl) (v := (.pointer (some ⟨g8, 0 + i * 1, none⟩))) (.inl ⟨rfl, fun W_ hW_ => ox_indexAddr (b := g8) (o := 0) (i := ((i : Nat))) tE_63 rfl rfl (by omega) (by first | omega | (rw [hml5]; omega) | (rw [hql5]; omega)) ⟨rfl, rfl⟩⟩) ?_
          refine xd_take 14 (some 220) rfl rfl (by kernel_rfl) (v := (.slice Au S.length cu)) (.inl ⟨rfl, fun W_ hW_ => ox_load (v := (.slice Au S.length cu)) tA_54 rfl (Ext.cell (Own.rowv o5_8 hu) (Ext.trans y_f3 hW_)) ⟨rfl, rfl⟩⟩) hS15 ?_
          refine xd_pure 15 (some 221) rfl rfl (by kernel_rfl) (v := (.slice (some ⟨g10, 0, none⟩) LX.length c10)) (.inl ⟨rfl, fun W_ hW_ => ox_move (v := (.slice (some ⟨g10, 0, none⟩) LX.length c10)) g10_f3 ⟨rfl, rfl⟩⟩) ?_
          refine xd_pure 16 (some 222) rfl rfl (by kernel_rfl) (v := (.int .i64 ((i : Nat)))) (.inl ⟨rfl, fun W_ hW_ => ox_move (v := (.int .i64 ((i : Nat)))) g19_f3 ⟨rfl, rfl⟩⟩) ?_
          refine xd_pure 17 (some 223) rfl rfl (by kernel_rfl) (v := (.pointer (some ⟨g10, 0 + i * 1, none⟩))) (.inl ⟨rfl, fun W_ hW_ => ox_indexAddr (b := g10) (o := 0) (i := ((i : Nat))) tE_63 rfl rfl (by omega) (by first | omega | (rw [hml5]; omega) | (rw [hql5]; omega)) ⟨rfl, rfl⟩⟩) ?_
          refine xd_take 18 (some 224) rfl rfl (by kernel_rfl) (v := (.slice Av S.length cv)) (.inl ⟨rfl, fun W_ hW_ => ox_load (v := (.slice Av S.length cv)) tA_54 rfl (Ext.cell (Own.rowv o5_10 hv) (Ext.trans y_f3 hW_)) ⟨rfl, rfl⟩⟩) hS15 ?_
          refine xd_oneW 19 (some 225) rfl rfl (by kernel_rfl) rfl (ox_callE (al := [(.slice Au S.length cu), (.slice Av S.length cv)]) pf_23 rfl (ret_mono (sameOps_eq S Au Av cu cv w34 ((Own.rowO hou).ext (Ext.trans (Ext.trans y_f3 e30) e31)) ((Own.rowO hov).ext (Ext.trans (Ext.trans y_f3 e30) e31)) (by omega)) ?_))
          rintro _ w35 ⟨rfl, e32⟩
          have he32 := e32.size
          have hS16 : Chg (fun _ => False) w32 w35 := Chg.ext hS15 e32
          refine ⟨.inr fun _ => hS16, ?_⟩
          refine xd_pure 20 (some 226) rfl rfl (by kernel_rfl) (v := (.bool false)) (.inl ⟨rfl, fun W_ hW_ => ox_not (b := true) rfl ⟨rfl, rfl⟩⟩) ?_
          refine xd_pure 21 (some 227) rfl rfl (by kernel_rfl) (v := (.bool false)) (.inl ⟨rfl, fun W_ hW_ => ox_pick_f (v := (.bool false)) rfl rfl ⟨rfl, rfl⟩⟩) ?_
          refine xd_done (by kernel_rfl) ?_ _
          refine xc_cond_f rfl ?_
          refine xc_skip ?_
          refine xc_region ?_
          refine xl_op (P := Try.prog) (some 204) rfl rfl (ox_move (v := (.int .i64 ((i : Nat)))) g19_f3 ?_)
          refine xl_op (P := Try.prog) (some 205) rfl rfl (ox_add64 (a := ((i : Nat))) (b := 1) rfl rfl (by omega) ?_)
          refine xl_op (P := Try.prog) (some 19) rfl rfl (ox_assign (v := (.int .i64 ((i : Nat) + 1))) rfl ?_)
          refine xl_nil ?_
          have hsz0 := e30.size
          have hsz1 := e31.size
          have hsz2 := e32.size
          exact ⟨rfl, LH.length - (i + 1), by omega, i + 1, by omega, by omega, (by first | exact rfl | exact (congrArg (Value.int .i64) (by omega))), g7_f3, g8_f3, g9_f3, g10_f3, (Ext.trans (Ext.trans (Ext.trans y_f3 e30) e31) e32)⟩
        · skip
          refine xc_exit ?_
          refine xc_seq ?_
          refine xc_region ?_
          refine xl_op (P := Try.prog) (some 228) rfl rfl (ox_move (v := (.slice A7 LH.length c7)) g7_f3 ?_)
          have hx5 := y_f3
          have hx5z := hx5.size
          refine xl_op (P := Try.prog) (some 229) rfl rfl (ox_callE (al := [(.slice A7 LH.length c7)]) pf_30 rfl (ret_mono (grownHunks_calls LH A7 c7 w32 (o5_7.ext hx5) ((hrb5.ext hx5).g1) hrb5.ap hl48 hrb5.few) ?_))
          rintro _ w36 ⟨rfl, e33⟩
          have he33 := e33.size
          have hC1 := e33
          refine xl_op (P := Try.prog) (some 230) rfl rfl (ox_move (v := (.bool true)) rfl ?_)
          refine xl_opg (P := Try.prog) (some 231) (j := 2) (b := true) rfl rfl rfl (ox_move (v := (.slice A8 LO.length c8)) g8_f3 ?_)
          refine xl_opg (P := Try.prog) (some 232) (j := 2) (b := true) rfl rfl rfl (ox_callE (al := [(.slice A8 LO.length c8)]) pf_31 rfl (ret_mono (grownOps_calls LO A8 c8 w36 ((o5_8.ext hx5).keep hC1 ((hrb5.ext hx5).off (o5_8.ext hx5) (by decide))) (((hro5.ext hx5).g1).keep hC1 (fun v n xs h => (hrb5.ext hx5).off h (by decide))) hro5.ap (by omega) hro5.few) ?_))
          rintro _ w37 ⟨rfl, e34⟩
          have he34 := e34.size
          have hC2 := e34
          refine xl_op (P := Try.prog) (some 233) rfl rfl (ox_pick_t (v := (.bool true)) rfl rfl ?_)
          refine xl_op (P := Try.prog) (some 4) rfl rfl (ox_assign (v := (.bool true)) rfl ?_)
          refine xl_nil ?_
          refine xc_ret ?_
          change leaves _ _ _ _ _ _ _
          refine leaves_nil (n := 234) (rs := [.tmp 4]) (vs := [(.bool true)]) rfl ⟨⟨by decide, rfl⟩, trivial⟩ ?_
          exact ⟨rfl, Chg.trans (Chg.trans (Ext.trans hE5 hx5) hC1 (fun b ⟨j, x, hx, hb⟩ hl => absurd hl (by have _h := hrb5.lo j x hx b hb; omega))) hC2 (fun b ⟨j, x, hx, hb⟩ hl => absurd hl (by have _h := hro5.lo j x hx b hb; omega))⟩

end Go.Proofs.Ythhbnodnpajljaa
