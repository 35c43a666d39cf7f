/-
  The law DeltaRanges, walked. No conditions.
-/
import Derived.Test.YthhbnodnpajljaaVxi
import Derived.Test.YthhbnodnpajljaaRows
import Derived.Test.YthhbnodnpajljaaRjb
import Derived.Test.YthhbnodnpajljaaJa
import Derived.Test.YthhbnodnpajljaaJb
import Derived.Test.YthhbnodnpajljaaGa
import Derived.Test.YthhbnodnpajljaaDs
set_option linter.unusedVariables false
set_option linter.unusedSimpArgs false
set_option maxRecDepth 100000
set_option maxHeartbeats 4000000
namespace Go.Proofs.Ythhbnodnpajljaa
open Go Go.RowKit Go.Vx


theorem fS_79 : flatS Try.prog 79 [some .i64, some .i64] = true := by kernel_rfl
theorem pf_13 : plainF Try.prog 13 = true := by kernel_rfl
theorem pf_32 : plainF Try.prog 32 = true := by kernel_rfl
theorem pf_33 : plainF Try.prog 33 = true := by kernel_rfl
theorem pf_58 : plainF Try.prog 58 = true := by kernel_rfl
theorem tA_74 : isAggT Try.prog 74 = some false := by kernel_rfl
theorem tA_76 : isAggT Try.prog 76 = some false := by kernel_rfl
theorem tE_23 : sliceT Try.prog 23 = some (33, 2, 16, (.agg #[(.int .i64 0), (.int .i64 0)])) := by kernel_rfl
theorem tS_74 : sizeT Try.prog 74 = some 1 := by kernel_rfl
theorem tS_76 : sizeT Try.prog 76 = some 1 := by kernel_rfl
theorem tU_23 : Try.prog.underlying 23 = some (.slice 33) := by kernel_rfl
theorem tU_76 : Try.prog.underlying 76 = some (.slice 79) := by kernel_rfl
theorem tV_33 : arrT Try.prog 33 = some (2, 3, 1) := by kernel_rfl
theorem tZ_4 : zeroOf Try.prog 4 = some (.bool false) := by kernel_rfl
theorem tZ_74 : zeroOf Try.prog 74 = some .nilFunc := by kernel_rfl
theorem tZ_76 : zeroOf Try.prog 76 = some (.slice none 0 0) := by kernel_rfl

theorem deltaRanges_calls (l : List PB) (A0 : Option Addr) (c0 : Nat) (ps : List (Int × Int)) (A1 : Option Addr) (c1 : Nat) (lv : Int) (w : World) (hA0 : RowA w A0 (pbC l)) (hn0 : l.length ≤ 4611686018427387904) (hok : ∀ x ∈ l, x.ok w) (hA1 : RowA w A1 (prC ps)) (hn1 : ps.length ≤ 4611686018427387904) :
    Calls Try.prog 9 #[(.slice A0 l.length c0), (.slice A1 ps.length c1), (.int .i64 lv)] w (Ret (fun v w' => v = .bool true ∧ Ext w w')) := by
  refine calls_xc (n := 161) (f := fun s_ => [(.slice A0 l.length c0), (.slice A1 ps.length c1), (.int .i64 lv)].getD s_ undef) Try.func9 rfl rfl (by simp) (fun s_ => by simp) ?_
  refine xc_seq ?_
  refine xc_region ?_
  refine xl_op (P := Try.prog) (some 5) rfl rfl (ox_box (v := (.int .i64 lv)) rfl ?_)
  intro w1 e1 z1 b1
  replace b1 : Blk w1 w.heap.size #[(.int .i64 lv)] 3 := b1
  refine xl_op (P := Try.prog) (some 6) rfl rfl (ox_alloc tZ_4 ?_)
  intro w2 e2 z2 b2
  replace b2 : Blk w2 w1.heap.size #[(.bool false)] 4 := b2
  refine xl_nil ?_
  refine xc_seq ?_
  refine xc_region ?_
  refine xl_op (P := Try.prog) (some 20) rfl rfl (ox_move (v := (.slice A0 l.length c0)) rfl ?_)
  refine xl_op (P := Try.prog) (some 21) rfl rfl (ox_callE (al := [(.slice A0 l.length c0)]) pf_13 rfl (ret_mono (grove_calls l A0 c0 w2 (RowA.ext hA0 (Ext.trans e1 e2)) (by omega) (fun x hx => (hok x hx).ext (Ext.trans e1 e2))) ?_))
  rintro _ w3 ⟨bg, s, ts, us, An, Ap, cn, cp, rfl, hGM, hlbg, hls, e3⟩
  have he3 := e3.size
  have hul := hGM.ok.len
  have hfew := hGM.few
  refine xl_op (P := Try.prog) (some 19) rfl rfl (ox_move (v := (.tuple #[(.pointer (some ⟨bg, 0, none⟩)), (.bool true)])) rfl ?_)
  refine xl_op (P := Try.prog) (some 22) rfl rfl (ox_extract (vs := #[(.pointer (some ⟨bg, 0, none⟩)), (.bool true)]) (v := (.pointer (some ⟨bg, 0, none⟩))) rfl rfl ?_)
  refine xl_op (P := Try.prog) (some 23) rfl rfl (ox_extract (vs := #[(.pointer (some ⟨bg, 0, none⟩)), (.bool true)]) (v := (.bool true)) rfl rfl ?_)
  refine xl_op (P := Try.prog) (some 7) rfl rfl (ox_assign (v := (.pointer (some ⟨bg, 0, none⟩))) rfl ?_)
  refine xl_op (P := Try.prog) (some 8) rfl rfl (ox_assign (v := (.bool true)) rfl ?_)
  refine xl_nil ?_
  refine xc_seq ?_
  refine xc_seq ?_
  refine xc_region ?_
  refine xl_op (P := Try.prog) (some 9) rfl rfl (ox_assign (v := (.int .i64 0)) rfl ?_)
  refine xl_nil ?_
  refine xc_block ?_
  obtain ⟨vb5, hvb5⟩ : ∃ b, b = w.heap.size := ⟨_, rfl⟩
  have hBvb5 : Blk w3 vb5 #[(.int .i64 lv)] 3 := by subst hvb5; exact ((b1.ext e2).ext e3)
  have hLvb5 := hBvb5.lt
  obtain ⟨vb6, hvb6⟩ : ∃ b, b = w1.heap.size := ⟨_, rfl⟩
  have hBvb6 : Blk w3 vb6 #[(.bool false)] 4 := by subst hvb6; exact (b2.ext e3)
  have hLvb6 := hBvb6.lt
  have hEx1 := (Ext.trans (Ext.trans e1 e2) e3)
  have hEx1z := hEx1.size
  refine xc_loopD (fun m f ds W => ∃ (i : Nat) (Ds : List Nat), m = ps.length - i ∧ i ≤ ps.length ∧ ds = List.map dmark Ds ∧ f 5 = (.pointer (some ⟨vb5, 0, none⟩)) ∧ f 6 = (.pointer (some ⟨vb6, 0, none⟩)) ∧ f 7 = (.pointer (some ⟨bg, 0, none⟩)) ∧ f 8 = (.bool true) ∧ f 1 = (.slice A1 ps.length c1) ∧ f 9 = (.int .i64 ((i : Nat))) ∧ Blk W vb5 #[.int .i64 lv] 3 ∧ Blk W vb6 #[.bool false] 4 ∧ Ext w3 W ∧ (∀ D ∈ Ds, w.heap.size ≤ D ∧ W.heap[D]? = some (.deferred (some []))) ∧ Ds.Nodup) (ps.length) ?_ ?_
  · exact ⟨0, [], by omega, by omega, rfl, (by subst hvb5; exact rfl), (by subst hvb6; exact rfl), rfl, rfl, rfl, (by first | exact rfl | exact (congrArg (Value.int .i64) (by omega))), hBvb5, hBvb6, (Chg.refl _ _), (by simp), List.nodup_nil⟩
  · rintro m f1 _ w4 ⟨i, Ds, hm, hi, rfl, g5_f1, g6_f1, g7_f1, g8_f1, g1_f1, g9_f1, blk_vb5_f1, blk_vb6_f1, x_f1, md_f1, nd_f1⟩
    have hmd := md_f1; have hnd := nd_f1
    have hzX := x_f1.size
    refine xc_seq ?_
    refine xc_seq ?_
    refine xc_region ?_
    refine xl_op (P := Try.prog) (some 24) rfl rfl (ox_move (v := (.int .i64 ((i : Nat)))) g9_f1 ?_)
    refine xl_op (P := Try.prog) (some 25) rfl rfl (ox_move (v := (.slice A1 ps.length c1)) g1_f1 ?_)
    refine xl_op (P := Try.prog) (some 26) rfl rfl (ox_len (A := A1) (n := ps.length) (cp := c1) rfl tU_23 rfl ?_)
    refine xl_op (P := Try.prog) (some 27) rfl rfl (ox_lss (k := .i64) (a := ((i : Nat))) (b := (((ps.length : Nat) : Int))) rfl rfl ?_)
    refine xl_op (P := Try.prog) (some 28) rfl rfl (ox_move (v := (.bool (decide (((i : Nat) : Int) < (((ps.length : Nat) : Int)))))) rfl ?_)
    refine xl_may (P := Try.prog) (some 29) (j := 4) (b := true) (((decide (((i : Nat) : Int) < (((ps.length : Nat) : Int))))) = true) (.bool (decide (((i : Nat) : Int) < (((ps.length : Nat) : Int))))) (.pointer (some ⟨bg, 0, none⟩)) rfl rfl rfl (may_b ((decide (((i : Nat) : Int) < (((ps.length : Nat) : Int))))) true) (fun hp => ox_move (v := (.pointer (some ⟨bg, 0, none⟩))) g7_f1 ⟨rfl, rfl⟩) ?_
    refine xl_may (P := Try.prog) (some 30) (j := 4) (b := true) (((decide (((i : Nat) : Int) < (((ps.length : Nat) : Int))))) = true) (.bool (decide (((i : Nat) : Int) < (((ps.length : Nat) : Int))))) (.pointer (some ⟨bg, 0, none⟩)) rfl rfl rfl (may_b ((decide (((i : Nat) : Int) < (((ps.length : Nat) : Int))))) true) (fun hp => ox_nilCheck (p := ⟨bg, 0, none⟩) (if_pos (α := Value) (t := (.pointer (some ⟨bg, 0, none⟩))) (e := undef) hp) ⟨rfl, rfl⟩) ?_
    refine xl_may (P := Try.prog) (some 31) (j := 4) (b := true) (((decide (((i : Nat) : Int) < (((ps.length : Nat) : Int))))) = true) (.bool (decide (((i : Nat) : Int) < (((ps.length : Nat) : Int))))) (.pointer (some ⟨bg, 1, none⟩)) rfl rfl rfl (may_b ((decide (((i : Nat) : Int) < (((ps.length : Nat) : Int))))) true) (fun hp => ox_fieldAddr (b := bg) (o := 0) tF_31_1 (if_pos (α := Value) (t := (.pointer (some ⟨bg, 0, none⟩))) (e := undef) hp) ⟨rfl, rfl⟩) ?_
    refine xl_may (P := Try.prog) (some 32) (j := 4) (b := true) (((decide (((i : Nat) : Int) < (((ps.length : Nat) : Int))))) = true) (.bool (decide (((i : Nat) : Int) < (((ps.length : Nat) : Int))))) (.slice An ts.length cn) rfl rfl rfl (may_b ((decide (((i : Nat) : Int) < (((ps.length : Nat) : Int))))) true) (fun hp => ox_load (v := (.slice An ts.length cn)) tA_28 (if_pos (α := Value) (t := (.pointer (some ⟨bg, 1, none⟩))) (e := undef) hp) ((hGM.g.ext x_f1).cell rfl) ⟨rfl, rfl⟩) ?_
    refine xl_may (P := Try.prog) (some 33) (j := 4) (b := true) (((decide (((i : Nat) : Int) < (((ps.length : Nat) : Int))))) = true) (.bool (decide (((i : Nat) : Int) < (((ps.length : Nat) : Int))))) (.int .i64 (((ts.length : Nat) : Int))) rfl rfl rfl (may_b ((decide (((i : Nat) : Int) < (((ps.length : Nat) : Int))))) true) (fun hp => ox_len (A := An) (n := ts.length) (cp := cn) rfl tU_28 (if_pos (α := Value) (t := (.slice An ts.length cn)) (e := undef) hp) ⟨rfl, rfl⟩) ?_
    refine xl_may (P := Try.prog) (some 34) (j := 4) (b := true) (((decide (((i : Nat) : Int) < (((ps.length : Nat) : Int))))) = true) (.bool (decide (((i : Nat) : Int) < (((ps.length : Nat) : Int))))) (.bool (decide ((0 : Int) < (((ts.length : Nat) : Int))))) rfl rfl rfl (may_b ((decide (((i : Nat) : Int) < (((ps.length : Nat) : Int))))) true) (fun hp => ox_gtr (k := .i64) (a := (((ts.length : Nat) : Int))) (b := 0) (if_pos (α := Value) (t := (.int .i64 (((ts.length : Nat) : Int)))) (e := undef) hp) rfl ⟨rfl, rfl⟩) ?_
    refine xl_op (P := Try.prog) (some 35) rfl rfl (ox_pick_and (a := ((decide (((i : Nat) : Int) < (((ps.length : Nat) : Int)))))) (b := ((decide ((0 : Int) < (((ts.length : Nat) : Int)))))) rfl (fun ha => (if_pos (α := Value) (t := (.bool (decide ((0 : Int) < (((ts.length : Nat) : Int)))))) (e := undef) ha)) rfl ?_)
    refine xl_nil ?_
    refine xc_cond (b := (((decide (((i : Nat) : Int) < (((ps.length : Nat) : Int))))) && ((decide ((0 : Int) < (((ts.length : Nat) : Int))))))) rfl (fun h1 => ?_) (fun h1 => ?_)
    · skip
      have h1' := h1
      try simp only [Bool.or_eq_true, Bool.and_eq_true, decide_eq_true_eq, Bool.or_eq_false_iff, Bool.and_eq_false_iff, decide_eq_false_iff_not, Bool.not_eq_true', Bool.not_eq_false'] at h1'
      have hil : i < ps.length := by omega
      have htp : 0 < ts.length := by omega
      obtain ⟨p, hp⟩ := get_ex (l := ps) (i := i) hil
      obtain ⟨g1, o1, rfl⟩ := hA1.ex (by intro hh; cases ps with | nil => simp at hp | cons q l => simp [prC, prCs] at hh)
      have hcpr : CellsL w g1 (o1 + i * 2) [.int .i64 p.1, .int .i64 p.2] := cellsL_flat prCs 2 (fun _ => rfl) hA1.cells hp
      obtain ⟨qa, hqa⟩ := mod_nat p.1 htp
      have hqa2 := mod_lt hqa htp
      obtain ⟨qb, hqb⟩ := mod_nat p.2 htp
      have hqb2 := mod_lt hqb htp
      obtain ⟨gn, gp, ta, ua, rfl, rfl, hta, hua, hcna, hcpa, hPa, hRa, hWa, hsa, hsua, hska⟩ := hGM.at hqa2
      obtain ⟨gn2, gp2, tb, ub, e8, e9, htb, hub, hcnb, hcpb, hPb, hRb, hWb, hsb, hsub, hskb⟩ := hGM.at hqb2
      cases e8; cases e9
      have hsa4 : sz ta ≤ 4194304 := by omega
      have hsb4 : sz tb ≤ 4194304 := by omega
      have hsua4 : sz ua ≤ 4194304 := by omega
      have hsub4 : sz ub ≤ 4194304 := by omega
      obtain ⟨H, hH⟩ : ∃ H, H = hunks (ids (leafI ta)) (ids (leafI tb)) := ⟨_, rfl⟩
      have hHu : H = hunks ((rl ua).map T.id) ((rl ub).map T.id) := by rw [hH, hunks_two hWa hWb hska hskb]
      obtain ⟨S, hS⟩ : ∃ S, S = spans (rl tb) H := ⟨_, rfl⟩
      have hSu : S = spans (rl ub) H := by rw [hS, spans_skel tb ub hskb]
      have hSl : S.length ≤ 1501 := by have h1 := hunks_len ((rl ua).map T.id) ((rl ub).map T.id); have h2 := rl_len ua; have h3 := spans_len (rl tb) H; rw [← hHu, List.length_map] at h1; rw [← hS] at h3; omega
      refine xc_skip ?_
      refine xc_seq ?_
      refine xc_block ?_
      refine xc_seq ?_
      refine xc_regionE [] (fun W_ => Chg (fun _ => False) w4 W_) hmix ?_
      intro w5 e4 z3
      have hS1 : Chg (fun _ => False) w4 w5 := Ext.to e4
      refine xd_pure 0 (some 38) rfl rfl (by kernel_rfl) (v := (.slice (some ⟨g1, o1, none⟩) ps.length c1)) (.inl ⟨rfl, fun W_ hW_ => ox_move (v := (.slice (some ⟨g1, o1, none⟩) ps.length c1)) g1_f1 ⟨rfl, rfl⟩⟩) ?_
      refine xd_pure 1 (some 39) rfl rfl (by kernel_rfl) (v := (.int .i64 ((i : Nat)))) (.inl ⟨rfl, fun W_ hW_ => ox_move (v := (.int .i64 ((i : Nat)))) g9_f1 ⟨rfl, rfl⟩⟩) ?_
      refine xd_pure 2 (some 40) rfl rfl (by kernel_rfl) (v := (.pointer (some ⟨g1, o1 + i * 2, none⟩))) (.inl ⟨rfl, fun W_ hW_ => ox_indexAddr (b := g1) (o := o1) (i := ((i : Nat))) tE_23 rfl rfl (by omega) (by omega) ⟨rfl, rfl⟩⟩) ?_
      refine xd_pure 3 (some 41) rfl rfl (by kernel_rfl) (v := (.pointer (some ⟨g1, o1 + i * 2, none⟩))) (.inl ⟨rfl, fun W_ hW_ => ox_indexArr (b := g1) (o := (o1 + i * 2)) (i := 0) tV_33 rfl rfl (by decide) (by decide) ⟨rfl, rfl⟩⟩) ?_
      refine xd_take 4 (some 42) rfl rfl (by kernel_rfl) (v := (.int .i64 p.1)) (.inl ⟨rfl, fun W_ hW_ => ox_load (v := (.int .i64 p.1)) tA_3 rfl (CellsL.keep (Ext.trans (Ext.trans hEx1 x_f1) hW_) not_false hcpr).1 ⟨rfl, rfl⟩⟩) hS1 ?_
      refine xd_pure 5 (some 43) rfl rfl (by kernel_rfl) (v := (.pointer (some ⟨bg, 0, none⟩))) (.inl ⟨rfl, fun W_ hW_ => ox_move (v := (.pointer (some ⟨bg, 0, none⟩))) g7_f1 ⟨rfl, rfl⟩⟩) ?_
      refine xd_pure 6 (some 44) rfl rfl (by kernel_rfl) (v := (.pointer (some ⟨bg, 0, none⟩))) (.inl ⟨rfl, fun W_ hW_ => ox_nilCheck (p := ⟨bg, 0, none⟩) rfl ⟨rfl, rfl⟩⟩) ?_
      refine xd_pure 7 (some 45) rfl rfl (by kernel_rfl) (v := (.pointer (some ⟨bg, 1, none⟩))) (.inl ⟨rfl, fun W_ hW_ => ox_fieldAddr (b := bg) (o := 0) tF_31_1 rfl ⟨rfl, rfl⟩⟩) ?_
      refine xd_take 8 (some 46) rfl rfl (by kernel_rfl) (v := (.slice (some ⟨gn, 0, none⟩) ts.length cn)) (.inl ⟨rfl, fun W_ hW_ => ox_load (v := (.slice (some ⟨gn, 0, none⟩) ts.length cn)) tA_28 rfl (((hGM.g.ext x_f1).ext hW_).cell rfl) ⟨rfl, rfl⟩⟩) hS1 ?_
      refine xd_pure 9 (some 47) rfl rfl (by kernel_rfl) (v := (.int .i64 (((ts.length : Nat) : Int)))) (.inl ⟨rfl, fun W_ hW_ => ox_len (A := (some ⟨gn, 0, none⟩)) (n := ts.length) (cp := cn) rfl tU_28 rfl ⟨rfl, rfl⟩⟩) ?_
      refine xd_take 10 (some 48) rfl rfl (by kernel_rfl) (v := (.int .i64 ((qa : Nat)))) (.inl ⟨rfl, fun W_ hW_ => ox_callE (al := [(.int .i64 p.1), (.int .i64 (((ts.length : Nat) : Int)))]) pf_14 rfl (ret_mono ((by have h := within_calls p.1 ((ts.length : Nat) : Int) W_ (by omega); rw [hqa] at h; exact h)) (by rintro _ _ ⟨rfl, rfl⟩; exact ⟨rfl, rfl⟩))⟩) hS1 ?_
      refine xd_pure 11 (some 10) rfl rfl (by kernel_rfl) (v := (.int .i64 ((qa : Nat)))) (.inl ⟨rfl, fun W_ hW_ => ox_assign (v := (.int .i64 ((qa : Nat)))) rfl ⟨rfl, rfl⟩⟩) ?_
      refine xd_done (by kernel_rfl) ?_ _
      refine xc_seq ?_
      refine xc_regionE [] (fun W_ => Chg (fun _ => False) w5 W_) hmix ?_
      intro w6 e5 z4
      have hS2 : Chg (fun _ => False) w5 w6 := Ext.to e5
      refine xd_pure 0 (some 49) rfl rfl (by kernel_rfl) (v := (.slice (some ⟨g1, o1, none⟩) ps.length c1)) (.inl ⟨rfl, fun W_ hW_ => ox_move (v := (.slice (some ⟨g1, o1, none⟩) ps.length c1)) g1_f1 ⟨rfl, rfl⟩⟩) ?_
      refine xd_pure 1 (some 50) rfl rfl (by kernel_rfl) (v := (.int .i64 ((i : Nat)))) (.inl ⟨rfl, fun W_ hW_ => ox_move (v := (.int .i64 ((i : Nat)))) g9_f1 ⟨rfl, rfl⟩⟩) ?_
      refine xd_pure 2 (some 51) rfl rfl (by kernel_rfl) (v := (.pointer (some ⟨g1, o1 + i * 2, none⟩))) (.inl ⟨rfl, fun W_ hW_ => ox_indexAddr (b := g1) (o := o1) (i := ((i : Nat))) tE_23 rfl rfl (by omega) (by omega) ⟨rfl, rfl⟩⟩) ?_
      refine xd_pure 3 (some 52) rfl rfl (by kernel_rfl) (v := (.pointer (some ⟨g1, o1 + i * 2 + 1, none⟩))) (.inl ⟨rfl, fun W_ hW_ => ox_indexArr (b := g1) (o := (o1 + i * 2)) (i := 1) tV_33 rfl rfl (by decide) (by decide) ⟨rfl, rfl⟩⟩) ?_
      refine xd_take 4 (some 53) rfl rfl (by kernel_rfl) (v := (.int .i64 p.2)) (.inl ⟨rfl, fun W_ hW_ => ox_load (v := (.int .i64 p.2)) tA_3 rfl (CellsL.keep (Ext.trans (Ext.trans (Ext.trans hEx1 x_f1) e4) hW_) not_false hcpr).2.1 ⟨rfl, rfl⟩⟩) hS2 ?_
      refine xd_pure 5 (some 54) rfl rfl (by kernel_rfl) (v := (.pointer (some ⟨bg, 0, none⟩))) (.inl ⟨rfl, fun W_ hW_ => ox_move (v := (.pointer (some ⟨bg, 0, none⟩))) g7_f1 ⟨rfl, rfl⟩⟩) ?_
      refine xd_pure 6 (some 55) rfl rfl (by kernel_rfl) (v := (.pointer (some ⟨bg, 0, none⟩))) (.inl ⟨rfl, fun W_ hW_ => ox_nilCheck (p := ⟨bg, 0, none⟩) rfl ⟨rfl, rfl⟩⟩) ?_
      refine xd_pure 7 (some 56) rfl rfl (by kernel_rfl) (v := (.pointer (some ⟨bg, 1, none⟩))) (.inl ⟨rfl, fun W_ hW_ => ox_fieldAddr (b := bg) (o := 0) tF_31_1 rfl ⟨rfl, rfl⟩⟩) ?_
      refine xd_take 8 (some 57) rfl rfl (by kernel_rfl) (v := (.slice (some ⟨gn, 0, none⟩) ts.length cn)) (.inl ⟨rfl, fun W_ hW_ => ox_load (v := (.slice (some ⟨gn, 0, none⟩) ts.length cn)) tA_28 rfl ((((hGM.g.ext x_f1).ext e4).ext hW_).cell rfl) ⟨rfl, rfl⟩⟩) hS2 ?_
      refine xd_pure 9 (some 58) rfl rfl (by kernel_rfl) (v := (.int .i64 (((ts.length : Nat) : Int)))) (.inl ⟨rfl, fun W_ hW_ => ox_len (A := (some ⟨gn, 0, none⟩)) (n := ts.length) (cp := cn) rfl tU_28 rfl ⟨rfl, rfl⟩⟩) ?_
      refine xd_take 10 (some 59) rfl rfl (by kernel_rfl) (v := (.int .i64 ((qb : Nat)))) (.inl ⟨rfl, fun W_ hW_ => ox_callE (al := [(.int .i64 p.2), (.int .i64 (((ts.length : Nat) : Int)))]) pf_14 rfl (ret_mono ((by have h := within_calls p.2 ((ts.length : Nat) : Int) W_ (by omega); rw [hqb] at h; exact h)) (by rintro _ _ ⟨rfl, rfl⟩; exact ⟨rfl, rfl⟩))⟩) hS2 ?_
      refine xd_pure 11 (some 11) rfl rfl (by kernel_rfl) (v := (.int .i64 ((qb : Nat)))) (.inl ⟨rfl, fun W_ hW_ => ox_assign (v := (.int .i64 ((qb : Nat)))) rfl ⟨rfl, rfl⟩⟩) ?_
      refine xd_done (by kernel_rfl) ?_ _
      refine xc_seq ?_
      have hw0vb12 : w6.heap.size = w6.heap.size := rfl
      refine xc_cut (fun f' W' => ∃ vb bx by_ : Nat, f' 12 = .pointer (some ⟨vb, 0, none⟩) ∧ f' 5 = (.pointer (some ⟨vb5, 0, none⟩)) ∧ f' 6 = (.pointer (some ⟨vb6, 0, none⟩)) ∧ f' 7 = (.pointer (some ⟨bg, 0, none⟩)) ∧ f' 1 = (.slice (some ⟨g1, o1, none⟩) ps.length c1) ∧ f' 8 = (.bool true) ∧ f' 9 = (.int .i64 ((i : Nat))) ∧ f' 10 = (.int .i64 ((qa : Nat))) ∧ f' 11 = (.int .i64 ((qb : Nat))) ∧ Blk W' vb #[(.func (.func 58) #[] #[(.pointer (some ⟨bx, 0, none⟩)), (.pointer (some ⟨by_, 0, none⟩))])] 74 ∧ Blk W' bx #[(.pointer (some ⟨ta.b, 0, none⟩))] 36 ∧ Blk W' by_ #[(.pointer (some ⟨tb.b, 0, none⟩))] 36 ∧ w6.heap.size ≤ vb ∧ w6.heap.size ≤ bx ∧ w6.heap.size ≤ by_ ∧ Ext w6 W') ?_ ?_
      · skip
        refine xc_regionE [16] (fun W_ => Chg (fun _ => False) w6 W_) hmix ?_
        intro w7 e6 z5
        have hS3 : Chg (fun _ => False) w6 w7 := Ext.to e6
        refine xd_pure 0 (some 60) rfl rfl (by kernel_rfl) (v := (.pointer (some ⟨bg, 0, none⟩))) (.inl ⟨rfl, fun W_ hW_ => ox_move (v := (.pointer (some ⟨bg, 0, none⟩))) g7_f1 ⟨rfl, rfl⟩⟩) ?_
        refine xd_pure 1 (some 61) rfl rfl (by kernel_rfl) (v := (.pointer (some ⟨bg, 0, none⟩))) (.inl ⟨rfl, fun W_ hW_ => ox_nilCheck (p := ⟨bg, 0, none⟩) rfl ⟨rfl, rfl⟩⟩) ?_
        refine xd_pure 2 (some 62) rfl rfl (by kernel_rfl) (v := (.pointer (some ⟨bg, 1, none⟩))) (.inl ⟨rfl, fun W_ hW_ => ox_fieldAddr (b := bg) (o := 0) tF_31_1 rfl ⟨rfl, rfl⟩⟩) ?_
        refine xd_take 3 (some 63) rfl rfl (by kernel_rfl) (v := (.slice (some ⟨gn, 0, none⟩) ts.length cn)) (.inl ⟨rfl, fun W_ hW_ => ox_load (v := (.slice (some ⟨gn, 0, none⟩) ts.length cn)) tA_28 rfl (((((hGM.g.ext x_f1).ext e4).ext e5).ext hW_).cell rfl) ⟨rfl, rfl⟩⟩) hS3 ?_
        refine xd_pure 4 (some 64) rfl rfl (by kernel_rfl) (v := (.int .i64 ((qa : Nat)))) (.inl ⟨rfl, fun W_ hW_ => ox_move (v := (.int .i64 ((qa : Nat)))) rfl ⟨rfl, rfl⟩⟩) ?_
        refine xd_pure 5 (some 65) rfl rfl (by kernel_rfl) (v := (.pointer (some ⟨gn, 0 + ((qa : Nat) : Int).toNat * 1, none⟩))) (.inl ⟨rfl, fun W_ hW_ => ox_indexAddr (b := gn) (o := 0) (i := ((qa : Nat))) tE_28 rfl rfl (by omega) (by omega) ⟨rfl, rfl⟩⟩) ?_
        refine xd_take 6 (some 66) rfl rfl (by kernel_rfl) (v := (.pointer (some ⟨ta.b, 0, none⟩))) (.inl ⟨rfl, fun W_ hW_ => ox_load (v := (.pointer (some ⟨ta.b, 0, none⟩))) tA_36 rfl (by simpa [T.ptr] using Ext.cell hcna (Ext.trans (Ext.trans (Ext.trans x_f1 e4) e5) hW_)) ⟨rfl, rfl⟩⟩) hS3 ?_
        refine xd_pure 7 (some 67) rfl rfl (by kernel_rfl) (v := (.pointer (some ⟨bg, 0, none⟩))) (.inl ⟨rfl, fun W_ hW_ => ox_move (v := (.pointer (some ⟨bg, 0, none⟩))) g7_f1 ⟨rfl, rfl⟩⟩) ?_
        refine xd_pure 8 (some 68) rfl rfl (by kernel_rfl) (v := (.pointer (some ⟨bg, 0, none⟩))) (.inl ⟨rfl, fun W_ hW_ => ox_nilCheck (p := ⟨bg, 0, none⟩) rfl ⟨rfl, rfl⟩⟩) ?_
        refine xd_pure 9 (some 69) rfl rfl (by kernel_rfl) (v := (.pointer (some ⟨bg, 1, none⟩))) (.inl ⟨rfl, fun W_ hW_ => ox_fieldAddr (b := bg) (o := 0) tF_31_1 rfl ⟨rfl, rfl⟩⟩) ?_
        refine xd_take 10 (some 70) rfl rfl (by kernel_rfl) (v := (.slice (some ⟨gn, 0, none⟩) ts.length cn)) (.inl ⟨rfl, fun W_ hW_ => ox_load (v := (.slice (some ⟨gn, 0, none⟩) ts.length cn)) tA_28 rfl (((((hGM.g.ext x_f1).ext e4).ext e5).ext hW_).cell rfl) ⟨rfl, rfl⟩⟩) hS3 ?_
        refine xd_pure 11 (some 71) rfl rfl (by kernel_rfl) (v := (.int .i64 ((qb : Nat)))) (.inl ⟨rfl, fun W_ hW_ => ox_move (v := (.int .i64 ((qb : Nat)))) rfl ⟨rfl, rfl⟩⟩) ?_
        refine xd_pure 12 (some 72) rfl rfl (by kernel_rfl) (v := (.pointer (some ⟨gn, 0 + ((qb : Nat) : Int).toNat * 1, none⟩))) (.inl ⟨rfl, fun W_ hW_ => ox_indexAddr (b := gn) (o := 0) (i := ((qb : Nat))) tE_28 rfl rfl (by omega) (by omega) ⟨rfl, rfl⟩⟩) ?_
        refine xd_take 13 (some 73) rfl rfl (by kernel_rfl) (v := (.pointer (some ⟨tb.b, 0, none⟩))) (.inl ⟨rfl, fun W_ hW_ => ox_load (v := (.pointer (some ⟨tb.b, 0, none⟩))) tA_36 rfl (by simpa [T.ptr] using Ext.cell hcnb (Ext.trans (Ext.trans (Ext.trans x_f1 e4) e5) hW_)) ⟨rfl, rfl⟩⟩) hS3 ?_
        refine xd_two 14 15 (some 74) (some 12) rfl rfl rfl rfl (by kernel_rfl) rfl rfl (ox_callE (al := [(.pointer (some ⟨ta.b, 0, none⟩)), (.pointer (some ⟨tb.b, 0, none⟩))]) pf_32 rfl (ret_mono (rangesF_calls ta.b tb.b w7) ?_)) (ox_alloc tZ_74 ?_)
        · skip
          rintro _ w8 ⟨bx, by_, rfl, hbx, hby, hbxl, hbyl, e7⟩
          have he7 := e7.size
          have hbxl0 := fun {m : Nat} (h : m ≤ w7.heap.size) => Nat.le_trans h hbxl; have hbyl0 := fun {m : Nat} (h : m ≤ w7.heap.size) => Nat.le_trans h hbyl
          have hS4 : Chg (fun _ => False) w6 w8 := Chg.ext hS3 e7
          refine ⟨.inr fun _ => hS4, ?_⟩
          refine xd_one 15 (some 12) rfl rfl (by kernel_rfl) rfl (ox_alloc tZ_74 ?_)
          intro w9 e9 z7 b4
          replace b4 : Blk w9 w8.heap.size #[.nilFunc] 74 := b4
          have hS5 : Chg (fun _ => False) w6 w9 := Chg.ext hS4 e9
          refine ⟨.inr fun _ => hS5, ?_⟩
          refine xd_one 16 none rfl rfl (by kernel_rfl) rfl (ox_store (n := 1) (vs := [(.func (.func 58) #[] #[(.pointer (some ⟨bx, 0, none⟩)), (.pointer (some ⟨by_, 0, none⟩))])]) tS_74 rfl (v := (.func (.func 58) #[] #[(.pointer (some ⟨bx, 0, none⟩)), (.pointer (some ⟨by_, 0, none⟩))])) rfl rfl rfl rfl b4 (Nat.le_of_ble_eq_true rfl) ?_)
          intro w10 e10 z8 b5
          replace b5 : Blk w10 w8.heap.size #[(.func (.func 58) #[] #[(.pointer (some ⟨bx, 0, none⟩)), (.pointer (some ⟨by_, 0, none⟩))])] 74 := b5
          refine ⟨.inl (by decide), ?_⟩
          refine xd_done (by kernel_rfl) ?_ _
          have hs92 := e6.size
          have hs93 := e7.size
          have hs94 := e9.size
          have hs95 := e10.size
          have q1 := ((hbx.ext e9).keep1 e10 ((hbx.ext e9).ne b4 (by decide)))
          have q2 := ((hby.ext e9).keep1 e10 ((hby.ext e9).ne b4 (by decide)))
          exact ⟨rfl, _, bx, by_, rfl, g5_f1, g6_f1, g7_f1, g1_f1, g8_f1, g9_f1, rfl, rfl, b5, q1, q2, by omega, hbxl0 (by omega), hbyl0 (by omega), (Ext.chg1 (Ext.trans (Ext.trans e6 e7) e9) e10 (by omega))⟩
        · skip
          intro w11 e8 z6 b3
          replace b3 : Blk w11 w7.heap.size #[.nilFunc] 74 := b3
          have hS6 : Chg (fun _ => False) w6 w11 := Chg.ext hS3 e8
          refine ⟨.inr fun _ => hS6, ?_⟩
          refine xd_one 14 (some 74) rfl rfl (by kernel_rfl) rfl (ox_callE (al := [(.pointer (some ⟨ta.b, 0, none⟩)), (.pointer (some ⟨tb.b, 0, none⟩))]) pf_32 rfl (ret_mono (rangesF_calls ta.b tb.b w11) ?_))
          rintro _ w12 ⟨bx, by_, rfl, hbx, hby, hbxl, hbyl, e11⟩
          have he11 := e11.size
          have hbxl0 := fun {m : Nat} (h : m ≤ w11.heap.size) => Nat.le_trans h hbxl; have hbyl0 := fun {m : Nat} (h : m ≤ w11.heap.size) => Nat.le_trans h hbyl
          have hS7 : Chg (fun _ => False) w6 w12 := Chg.ext hS6 e11
          refine ⟨.inr fun _ => hS7, ?_⟩
          refine xd_one 16 none rfl rfl (by kernel_rfl) rfl (ox_store (n := 1) (vs := [(.func (.func 58) #[] #[(.pointer (some ⟨bx, 0, none⟩)), (.pointer (some ⟨by_, 0, none⟩))])]) tS_74 rfl (v := (.func (.func 58) #[] #[(.pointer (some ⟨bx, 0, none⟩)), (.pointer (some ⟨by_, 0, none⟩))])) rfl rfl rfl rfl (b3.ext e11) (Nat.le_of_ble_eq_true rfl) ?_)
          intro w13 e12 z9 b6
          replace b6 : Blk w13 w7.heap.size #[(.func (.func 58) #[] #[(.pointer (some ⟨bx, 0, none⟩)), (.pointer (some ⟨by_, 0, none⟩))])] 74 := b6
          refine ⟨.inl (by decide), ?_⟩
          refine xd_done (by kernel_rfl) ?_ _
          have hs92 := e6.size
          have hs93 := e8.size
          have hs94 := e11.size
          have hs95 := e12.size
          have q3 := (hbx.keep1 e12 (hbx.ne (b3.ext e11) (by decide)))
          have q4 := (hby.keep1 e12 (hby.ne (b3.ext e11) (by decide)))
          exact ⟨rfl, _, bx, by_, rfl, g5_f1, g6_f1, g7_f1, g1_f1, g8_f1, g9_f1, rfl, rfl, b6, q3, q4, by omega, hbxl0 (by omega), hbyl0 (by omega), (Ext.chg1 (Ext.trans (Ext.trans e6 e8) e11) e12 (by omega))⟩
      rintro f2 w14 ⟨vb12, bx, by_, gq_f2, g5_f2, g6_f2, g7_f2, g1_f2, g8_f2, g9_f2, g10_f2, g11_f2, hBvb12, hbx, hby, hLb12, hbxl, hbyl, hE7⟩
      have hzhE7 := hE7.size; have hltvb12 := hBvb12.lt
      have hbxlt := hbx.lt; have hbylt := hby.lt
      refine xc_seq ?_
      have hw0vb13 : w14.heap.size = w14.heap.size := rfl
      refine xc_cut (fun f' W' => ∃ (vb : Nat) (Aw : Option Addr) (cw : Nat), f' 13 = .pointer (some ⟨vb, 0, none⟩) ∧ f' 5 = (.pointer (some ⟨vb5, 0, none⟩)) ∧ f' 6 = (.pointer (some ⟨vb6, 0, none⟩)) ∧ f' 7 = (.pointer (some ⟨bg, 0, none⟩)) ∧ f' 1 = (.slice (some ⟨g1, o1, none⟩) ps.length c1) ∧ f' 8 = (.bool true) ∧ f' 9 = (.int .i64 ((i : Nat))) ∧ f' 10 = (.int .i64 ((qa : Nat))) ∧ f' 11 = (.int .i64 ((qb : Nat))) ∧ f' 12 = (.pointer (some ⟨vb12, 0, none⟩)) ∧ Blk W' vb #[.slice Aw S.length cw] 76 ∧ Vx.Own W' 79 2 (.slice Aw S.length cw) S.length (snC S) ∧ w14.heap.size ≤ vb ∧ Ext w14 W') ?_ ?_
      · skip
        refine xc_regionE [16] (fun W_ => Chg (fun _ => False) w14 W_) hmix ?_
        intro w15 e13 z10
        have hS8 : Chg (fun _ => False) w14 w15 := Ext.to e13
        refine xd_pure 0 (some 75) rfl rfl (by kernel_rfl) (v := (.pointer (some ⟨bg, 0, none⟩))) (.inl ⟨rfl, fun W_ hW_ => ox_move (v := (.pointer (some ⟨bg, 0, none⟩))) g7_f2 ⟨rfl, rfl⟩⟩) ?_
        refine xd_pure 1 (some 76) rfl rfl (by kernel_rfl) (v := (.pointer (some ⟨bg, 0, none⟩))) (.inl ⟨rfl, fun W_ hW_ => ox_nilCheck (p := ⟨bg, 0, none⟩) rfl ⟨rfl, rfl⟩⟩) ?_
        refine xd_pure 2 (some 77) rfl rfl (by kernel_rfl) (v := (.pointer (some ⟨bg, 2, none⟩))) (.inl ⟨rfl, fun W_ hW_ => ox_fieldAddr (b := bg) (o := 0) tF_31_2 rfl ⟨rfl, rfl⟩⟩) ?_
        have q5 := ((((hGM.g.ext x_f1).ext e4).ext e5).ext hE7)
        refine xd_take 3 (some 78) rfl rfl (by kernel_rfl) (v := (.slice (some ⟨gp, 0, none⟩) us.length cp)) (.inl ⟨rfl, fun W_ hW_ => ox_load (v := (.slice (some ⟨gp, 0, none⟩) us.length cp)) tA_29 rfl ((q5.ext hW_).cell rfl) ⟨rfl, rfl⟩⟩) hS8 ?_
        refine xd_pure 4 (some 79) rfl rfl (by kernel_rfl) (v := (.int .i64 ((qa : Nat)))) (.inl ⟨rfl, fun W_ hW_ => ox_move (v := (.int .i64 ((qa : Nat)))) g10_f2 ⟨rfl, rfl⟩⟩) ?_
        refine xd_pure 5 (some 80) rfl rfl (by kernel_rfl) (v := (.pointer (some ⟨gp, 0 + ((qa : Nat) : Int).toNat * 1, none⟩))) (.inl ⟨rfl, fun W_ hW_ => ox_indexAddr (b := gp) (o := 0) (i := ((qa : Nat))) tE_29 rfl rfl (by omega) (by omega) ⟨rfl, rfl⟩⟩) ?_
        refine xd_take 6 (some 81) rfl rfl (by kernel_rfl) (v := (.pointer (some ⟨ua.b, 0, none⟩))) (.inl ⟨rfl, fun W_ hW_ => ox_load (v := (.pointer (some ⟨ua.b, 0, none⟩))) tA_38 rfl (by simpa [T.ptr] using Ext.cell hcpa (Ext.trans (Ext.trans (Ext.trans (Ext.trans x_f1 e4) e5) hE7) hW_)) ⟨rfl, rfl⟩⟩) hS8 ?_
        refine xd_pure 7 (some 82) rfl rfl (by kernel_rfl) (v := (.pointer (some ⟨bg, 0, none⟩))) (.inl ⟨rfl, fun W_ hW_ => ox_move (v := (.pointer (some ⟨bg, 0, none⟩))) g7_f2 ⟨rfl, rfl⟩⟩) ?_
        refine xd_pure 8 (some 83) rfl rfl (by kernel_rfl) (v := (.pointer (some ⟨bg, 0, none⟩))) (.inl ⟨rfl, fun W_ hW_ => ox_nilCheck (p := ⟨bg, 0, none⟩) rfl ⟨rfl, rfl⟩⟩) ?_
        refine xd_pure 9 (some 84) rfl rfl (by kernel_rfl) (v := (.pointer (some ⟨bg, 2, none⟩))) (.inl ⟨rfl, fun W_ hW_ => ox_fieldAddr (b := bg) (o := 0) tF_31_2 rfl ⟨rfl, rfl⟩⟩) ?_
        have q6 := ((((hGM.g.ext x_f1).ext e4).ext e5).ext hE7)
        refine xd_take 10 (some 85) rfl rfl (by kernel_rfl) (v := (.slice (some ⟨gp, 0, none⟩) us.length cp)) (.inl ⟨rfl, fun W_ hW_ => ox_load (v := (.slice (some ⟨gp, 0, none⟩) us.length cp)) tA_29 rfl ((q6.ext hW_).cell rfl) ⟨rfl, rfl⟩⟩) hS8 ?_
        refine xd_pure 11 (some 86) rfl rfl (by kernel_rfl) (v := (.int .i64 ((qb : Nat)))) (.inl ⟨rfl, fun W_ hW_ => ox_move (v := (.int .i64 ((qb : Nat)))) g11_f2 ⟨rfl, rfl⟩⟩) ?_
        refine xd_pure 12 (some 87) rfl rfl (by kernel_rfl) (v := (.pointer (some ⟨gp, 0 + ((qb : Nat) : Int).toNat * 1, none⟩))) (.inl ⟨rfl, fun W_ hW_ => ox_indexAddr (b := gp) (o := 0) (i := ((qb : Nat))) tE_29 rfl rfl (by omega) (by omega) ⟨rfl, rfl⟩⟩) ?_
        refine xd_take 13 (some 88) rfl rfl (by kernel_rfl) (v := (.pointer (some ⟨ub.b, 0, none⟩))) (.inl ⟨rfl, fun W_ hW_ => ox_load (v := (.pointer (some ⟨ub.b, 0, none⟩))) tA_38 rfl (by simpa [T.ptr] using Ext.cell hcpb (Ext.trans (Ext.trans (Ext.trans (Ext.trans x_f1 e4) e5) hE7) hW_)) ⟨rfl, rfl⟩⟩) hS8 ?_
        refine xd_two 14 15 (some 89) (some 13) rfl rfl rfl rfl (by kernel_rfl) rfl rfl (ox_callE (al := [(.pointer (some ⟨ua.b, 0, none⟩)), (.pointer (some ⟨ub.b, 0, none⟩))]) pf_33 rfl (ret_mono ((by have h := refRanges_calls ua ub H w15 hHu (hRa.ext (Ext.trans (Ext.trans (Ext.trans (Ext.trans x_f1 e4) e5) hE7) e13)) hsua4 (hRb.ext (Ext.trans (Ext.trans (Ext.trans (Ext.trans x_f1 e4) e5) hE7) e13)) hsub4; rw [← hSu] at h; exact h)) ?_)) (ox_alloc tZ_76 ?_)
        · skip
          rintro _ w16 ⟨Aw, cw, rfl, how, hlw, e14⟩
          have he14 := e14.size
          have hS9 : Chg (fun _ => False) w14 w16 := Chg.ext hS8 e14
          refine ⟨.inr fun _ => hS9, ?_⟩
          refine xd_one 15 (some 13) rfl rfl (by kernel_rfl) rfl (ox_alloc tZ_76 ?_)
          intro w17 e16 z12 b8
          replace b8 : Blk w17 w16.heap.size #[(.slice none 0 0)] 76 := b8
          have hS10 : Chg (fun _ => False) w14 w17 := Chg.ext hS9 e16
          refine ⟨.inr fun _ => hS10, ?_⟩
          refine xd_one 16 none rfl rfl (by kernel_rfl) rfl (ox_store (n := 1) (vs := [(.slice Aw S.length cw)]) tS_76 rfl (v := (.slice Aw S.length cw)) rfl rfl rfl rfl b8 (Nat.le_of_ble_eq_true rfl) ?_)
          intro w18 e17 z13 b9
          replace b9 : Blk w18 w16.heap.size #[(.slice Aw S.length cw)] 76 := b9
          refine ⟨.inl (by decide), ?_⟩
          refine xd_done (by kernel_rfl) ?_ _
          have hs93 := e13.size
          have hs94 := e14.size
          have hs95 := e16.size
          have hs96 := e17.size
          have q7 := ((how.ext e16).keep1 e17 (fun k hk => (how.ext e16).ne_blk b8 (by decide) k hk))
          exact ⟨rfl, _, Aw, cw, rfl, g5_f2, g6_f2, g7_f2, g1_f2, g8_f2, g9_f2, g10_f2, g11_f2, gq_f2, b9, q7, by omega, (Ext.chg1 (Ext.trans (Ext.trans e13 e14) e16) e17 (by omega))⟩
        · skip
          intro w19 e15 z11 b7
          replace b7 : Blk w19 w15.heap.size #[(.slice none 0 0)] 76 := b7
          have hS11 : Chg (fun _ => False) w14 w19 := Chg.ext hS8 e15
          refine ⟨.inr fun _ => hS11, ?_⟩
          refine xd_one 14 (some 89) rfl rfl (by kernel_rfl) rfl (ox_callE (al := [(.pointer (some ⟨ua.b, 0, none⟩)), (.pointer (some ⟨ub.b, 0, none⟩))]) pf_33 rfl (ret_mono ((by have h := refRanges_calls ua ub H w19 hHu (hRa.ext (Ext.trans (Ext.trans (Ext.trans (Ext.trans (Ext.trans x_f1 e4) e5) hE7) e13) e15)) hsua4 (hRb.ext (Ext.trans (Ext.trans (Ext.trans (Ext.trans (Ext.trans x_f1 e4) e5) hE7) e13) e15)) hsub4; rw [← hSu] at h; exact h)) ?_))
          rintro _ w20 ⟨Aw, cw, rfl, how, hlw, e18⟩
          have he18 := e18.size
          have hS12 : Chg (fun _ => False) w14 w20 := Chg.ext hS11 e18
          refine ⟨.inr fun _ => hS12, ?_⟩
          refine xd_one 16 none rfl rfl (by kernel_rfl) rfl (ox_store (n := 1) (vs := [(.slice Aw S.length cw)]) tS_76 rfl (v := (.slice Aw S.length cw)) rfl rfl rfl rfl (b7.ext e18) (Nat.le_of_ble_eq_true rfl) ?_)
          intro w21 e19 z14 b10
          replace b10 : Blk w21 w15.heap.size #[(.slice Aw S.length cw)] 76 := b10
          refine ⟨.inl (by decide), ?_⟩
          refine xd_done (by kernel_rfl) ?_ _
          have hs93 := e13.size
          have hs94 := e15.size
          have hs95 := e18.size
          have hs96 := e19.size
          have q8 := (how.keep1 e19 (fun k hk => how.ne_blk (b7.ext e18) (by decide) k hk))
          exact ⟨rfl, _, Aw, cw, rfl, g5_f2, g6_f2, g7_f2, g1_f2, g8_f2, g9_f2, g10_f2, g11_f2, gq_f2, b10, q8, by omega, (Ext.chg1 (Ext.trans (Ext.trans e13 e15) e18) e19 (by omega))⟩
      rintro f3 w22 ⟨vb13, Aw, cw, gq_f3, g5_f3, g6_f3, g7_f3, g1_f3, g8_f3, g9_f3, g10_f3, g11_f3, g12_f3, hBvb13, how, hLb13, hE8⟩
      have hzhE8 := hE8.size; have hltvb13 := hBvb13.lt
      refine xc_seq ?_
      refine xc_seq ?_
      refine xc_region ?_
      refine xl_op (P := Try.prog) (some 90) rfl rfl (ox_load (v := (.func (.func 58) #[] #[(.pointer (some ⟨bx, 0, none⟩)), (.pointer (some ⟨by_, 0, none⟩))])) tA_74 g12_f3 ((hBvb12.ext hE8).cell rfl) ?_)
      refine xl_op (P := Try.prog) (some 91) rfl rfl (ox_eqlNilFunc (ps := #[128]) (rs := #[]) (vr := false) (by kernel_rfl) rfl rfl ?_)
      refine xl_nil ?_
      refine xc_cond_f rfl ?_
      refine xc_skip ?_
      refine xc_seq ?_
      refine xc_region ?_
      refine xl_op (P := Try.prog) (some 14) rfl rfl (ox_alloc tZ_3 ?_)
      intro w23 e20 z15 b11
      replace b11 : Blk w23 w22.heap.size #[(.int .i64 0)] 3 := b11
      refine xl_op (P := Try.prog) none rfl rfl (ox_store (n := 1) (vs := [(.int .i64 0)]) tS_3 rfl (v := (.int .i64 0)) rfl rfl rfl rfl b11 (Nat.le_of_ble_eq_true rfl) ?_)
      intro w24 e21 z16 b12
      replace b12 : Blk w24 w22.heap.size #[(.int .i64 0)] 3 := b12
      refine xl_nil ?_
      refine xc_seq ?_
      refine xc_seq ?_
      obtain ⟨nb, hnb⟩ : ∃ b, b = w22.heap.size := ⟨_, rfl⟩
      have hBnb : Blk w24 nb #[(.int .i64 0)] 3 := by subst hnb; exact b12
      have hLnb := hBnb.lt
      refine xc_region ?_
      have q9 := (((hBvb12.ext hE8).ext e20).keep1 e21 (((hBvb12.ext hE8).ext e20).ne b11 (by decide)))
      refine xl_op (P := Try.prog) (some 92) rfl rfl (ox_load (v := (.func (.func 58) #[] #[(.pointer (some ⟨bx, 0, none⟩)), (.pointer (some ⟨by_, 0, none⟩))])) tA_74 g12_f3 (q9.cell rfl) ?_)
      refine xl_nil ?_
      refine xc_cutD (fun f' ds' W' => ∃ (D : Nat) (nn : Int), ds' = dmark D :: List.map dmark Ds ∧ f' 5 = (.pointer (some ⟨vb5, 0, none⟩)) ∧ f' 6 = (.pointer (some ⟨vb6, 0, none⟩)) ∧ f' 7 = (.pointer (some ⟨bg, 0, none⟩)) ∧ f' 1 = (.slice (some ⟨g1, o1, none⟩) ps.length c1) ∧ f' 8 = (.bool true) ∧ f' 9 = (.int .i64 ((i : Nat))) ∧ f' 12 = (.pointer (some ⟨vb12, 0, none⟩)) ∧ f' 13 = (.pointer (some ⟨vb13, 0, none⟩)) ∧ f' 14 = (.pointer (some ⟨nb, 0, none⟩)) ∧ w24.heap.size ≤ D ∧ W'.heap[D]? = some (.deferred (some [])) ∧ Blk W' nb #[.int .i64 nn] 3 ∧ (nn = ((S.length : Nat) : Int) ∨ nn = lv) ∧ Chg1 nb w24 W') ?_ ?_
      · skip
        refine xc_block ?_
        have hlta := (hBnb).lt
        have hwgza := ((Ext.chg1 (Ext.trans (Ext.trans (Ext.trans (Ext.trans (Ext.trans x_f1 e4) e5) hE7) hE8) e20) e21 (by omega))).size
        have q10 := (((hbx.ext hE8).ext e20).keep1 e21 (((hbx.ext hE8).ext e20).ne b11 (by decide)))
        have q11 := (((hby.ext hE8).ext e20).keep1 e21 (((hby.ext hE8).ext e20).ne b11 (by decide)))
        have hita := ranges_iter (X := fun _ => False) (B := nb) (stv := (.pointer (some ⟨s, 0, none⟩))) hH q10 q11 (hPa.ext (Ext.chg1 (Ext.trans (Ext.trans (Ext.trans (Ext.trans (Ext.trans x_f1 e4) e5) hE7) hE8) e20) e21 (by omega))) hWa hsa4 (hPb.ext (Ext.chg1 (Ext.trans (Ext.trans (Ext.trans (Ext.trans (Ext.trans x_f1 e4) e5) hE7) hE8) e20) e21 (by omega))) hWb hsb4 (fun b hb => by have := PN.lt hPa b hb; omega) (fun b hb => by have := PN.lt hPb b hb; omega) (.inr (by omega)) (.inr (by omega)) (fun b h => h.elim) (by omega)
        rw [← hS] at hita
        have hI0a : rgJ w24 nb [] (fun _ => False) w24 := (⟨hBnb, fun b h => h.elim, Chg.refl _ _⟩ : RgI w24 nb ((([] : List Sn).length : Nat) : Int) (fun _ => False) w24)
        refine xc_range (ps := #[93]) (α := Sn) (gf := 58) (lb := #[.pointer (some ⟨bx, 0, none⟩), .pointer (some ⟨by_, 0, none⟩)]) (encs := encS) (B := nb) (X0 := fun _ => False) (xs := S) rfl pf_58 (fun _ => rfl) hita (by omega) (fun b h => h.elim) (rgJ w24 nb) (rgX w24 nb lv 2) (rgJ_stab hlta) (rgX_stab hlta) hI0a ?_ ?_ ?_
        · intro l₁a pre₁ x₁ Ya Wa hprea hYa hYla hl₁a hIa
          have hKa : RgI w24 nb ((pre₁.length : Nat) : Int) Ya Wa := hIa
          have hzhKa := hKa.chg.size
          have hpla := prefix_lt hprea; have hpaa := prefix_at hprea
          have q12 := ((how.ext e20).keep1 e21 (fun k hk => (how.ext e20).ne_blk b11 (by decide) k hk))
          have q13 := (q12.keep1 hKa.chg (fun k hk => q12.ne_blk hBnb (by decide) k hk))
          obtain ⟨gw, cw9, heqw, _⟩ := q13.some_of (by omega)
          simp only [Value.slice.injEq, true_and] at heqw
          obtain ⟨rfl, rfl⟩ := heqw
          refine xc_region ?_
          refine xl_op (P := Try.prog) (some 15) rfl rfl (ox_alloc tZ_79 ?_)
          intro w25 e22 z17 b13
          replace b13 : Blk w25 Wa.heap.size #[(.int .i64 0), (.int .i64 0)] 79 := b13
          refine xl_op (P := Try.prog) none rfl rfl (ox_store (n := 2) (vs := [(.int .i64 x₁.frm), (.int .i64 x₁.to)]) tS_79 rfl (v := (.agg #[(.int .i64 x₁.frm), (.int .i64 x₁.to)])) rfl rfl rfl rfl b13 (Nat.le_of_ble_eq_true rfl) ?_)
          intro w26 e23 z18 b14
          replace b14 : Blk w26 Wa.heap.size #[(.int .i64 x₁.frm), (.int .i64 x₁.to)] 79 := blk_full b14 rfl
          refine xl_nil ?_
          refine ⟨rfl, rfl, (Chg.chg1 (Chg.ext (Chg.refl (fun b => ¬ Ya b ∧ nb ≤ b) Wa) e22) e23 (by first | exact .inl ⟨fun h => by have := hKa.yl _ h; omega, by omega⟩ | exact .inl ⟨fun h => by have := (hYa _ h).2; omega, by omega⟩ | exact .inr (by omega))), fun W2a hcYa hsYa hlYa => ?_⟩
          have hszYa := hcYa.size
          refine xc_block ?_
          refine xc_seq ?_
          refine xc_seq ?_
          refine xc_region ?_
          have q14 := ((hKa.blk.ext e22).keep1 e23 ((hKa.blk.ext e22).ne b13 (by decide)))
          have q15 := (q14.keep hcYa (fun h => by have h1 := hKa.yl _ h; omega))
          refine xl_op (P := Try.prog) (some 94) rfl rfl (ox_load (v := (.int .i64 (((pre₁.length : Nat) : Int)))) tA_3 (by subst hnb; exact rfl) (q15.cell rfl) ?_)
          have q16 := ((((blk_vb5_f1.ext e4).ext e5).ext hE7).ext hE8)
          have q17 := ((q16.ext e20).keep1 e21 (by have _q := blk_vb5_f1.lt; omega))
          have q18 := (q17.keep1 hKa.chg (by have _q := blk_vb5_f1.lt; omega))
          have q19 := ((q18.ext e22).keep1 e23 ((q18.ext e22).ne b13 (by decide)))
          have q20 := (q19.keep hcYa (fun h => by have h1 := hKa.yl _ h; have h2 := (q17).lt; omega))
          refine xl_op (P := Try.prog) (some 95) rfl rfl (ox_load (v := (.int .i64 lv)) tA_3 g5_f3 (q20.cell rfl) ?_)
          refine xl_op (P := Try.prog) (some 96) rfl rfl (ox_eql (k := .i64) (a := (((pre₁.length : Nat) : Int))) (b := lv) rfl rfl ?_)
          refine xl_nil ?_
          refine xc_if (p := (((pre₁.length : Nat) : Int) : Int) = lv) rfl (fun h2 => ?_) (fun h2 => ?_)
          · skip
            have hnlv : ((pre₁.length : Nat) : Int) = lv := h2
            refine xc_exit ?_
            have hqa := q15
            rw [hnlv] at hqa
            exact ⟨(Chg.refl (fun b => ¬ Ya b ∧ nb ≤ b) W2a), rfl, hqa, hKa.yl, (Chg.trans (Chg.chg1 (Chg.ext hKa.chg e22) e23 (by first | exact .inl rfl | exact .inr (by omega))) hcYa (fun b hb hl => absurd hl (by have := hKa.yl b hb; omega)))⟩
          · skip
            refine xc_skip ?_
            refine xc_seq ?_
            refine xc_seq ?_
            refine xc_regionE [] (fun W_ => Chg (fun _ => False) W2a W_) hmix ?_
            intro w27 e24 z19
            have hS13 : Chg (fun _ => False) W2a w27 := Ext.to e24
            refine xd_take 0 (some 97) rfl rfl (by kernel_rfl) (v := (.int .i64 (((pre₁.length : Nat) : Int)))) (.inl ⟨rfl, fun W_ hW_ => ox_load (v := (.int .i64 (((pre₁.length : Nat) : Int)))) tA_3 (by subst hnb; exact rfl) ((q15.ext hW_).cell rfl) ⟨rfl, rfl⟩⟩) hS13 ?_
            have q21 := ((hBvb13.ext e20).keep1 e21 ((hBvb13.ext e20).ne b11 (by decide)))
            have q22 := (q21.keep1 hKa.chg (q21.ne hBnb (by decide)))
            have q23 := ((q22.ext e22).keep1 e23 ((q22.ext e22).ne b13 (by decide)))
            have q24 := (q23.keep hcYa (fun h => by have h1 := hKa.yl _ h; have h2 := (q21).lt; omega))
            refine xd_take 1 (some 98) rfl rfl (by kernel_rfl) (v := (.slice (some ⟨gw, 0, none⟩) S.length cw)) (.inl ⟨rfl, fun W_ hW_ => ox_load (v := (.slice (some ⟨gw, 0, none⟩) S.length cw)) tA_76 gq_f3 ((q24.ext hW_).cell rfl) ⟨rfl, rfl⟩⟩) hS13 ?_
            refine xd_pure 2 (some 99) rfl rfl (by kernel_rfl) (v := (.int .i64 (((S.length : Nat) : Int)))) (.inl ⟨rfl, fun W_ hW_ => ox_len (A := (some ⟨gw, 0, none⟩)) (n := S.length) (cp := cw) rfl tU_76 rfl ⟨rfl, rfl⟩⟩) ?_
            refine xd_pure 3 (some 100) rfl rfl (by kernel_rfl) (v := (.bool (decide ((((S.length : Nat) : Int) : Int) ≤ (((pre₁.length : Nat) : Int)))))) (.inl ⟨rfl, fun W_ hW_ => ox_geq (k := .i64) (a := (((pre₁.length : Nat) : Int))) (b := (((S.length : Nat) : Int))) rfl rfl ⟨rfl, rfl⟩⟩) ?_
            refine xd_pure 4 (some 101) rfl rfl (by kernel_rfl) (v := (.bool (decide ((((S.length : Nat) : Int) : Int) ≤ (((pre₁.length : Nat) : Int)))))) (.inl ⟨rfl, fun W_ hW_ => ox_move (v := (.bool (decide ((((S.length : Nat) : Int) : Int) ≤ (((pre₁.length : Nat) : Int)))))) rfl ⟨rfl, rfl⟩⟩) ?_
            have q25 := (b14.keep hcYa (fun h => by have := (hYa _ h).2; omega))
            refine xd_take 5 (some 102) rfl rfl (by kernel_rfl) (v := (.agg #[(.int .i64 x₁.frm), (.int .i64 x₁.to)])) (.inl ⟨(wanted_of (j := 4) (b := false) rfl (congrArg some (decide_eq_false (by omega)))), fun W_ hW_ => ox_loadN (vs := [(.int .i64 x₁.frm), (.int .i64 x₁.to)]) tA_79 tS_79 rfl rfl ⟨(q25.ext hW_).cell rfl, (q25.ext hW_).cell rfl, trivial⟩ ⟨rfl, rfl⟩⟩) hS13 ?_
            have q26 := ((hBvb13.ext e20).keep1 e21 ((hBvb13.ext e20).ne b11 (by decide)))
            have q27 := (q26.keep1 hKa.chg (q26.ne hBnb (by decide)))
            have q28 := ((q27.ext e22).keep1 e23 ((q27.ext e22).ne b13 (by decide)))
            have q29 := (q28.keep hcYa (fun h => by have h1 := hKa.yl _ h; have h2 := (q26).lt; omega))
            refine xd_take 6 (some 103) rfl rfl (by kernel_rfl) (v := (.slice (some ⟨gw, 0, none⟩) S.length cw)) (.inl ⟨(wanted_of (j := 4) (b := false) rfl (congrArg some (decide_eq_false (by omega)))), fun W_ hW_ => ox_load (v := (.slice (some ⟨gw, 0, none⟩) S.length cw)) tA_76 gq_f3 ((q29.ext hW_).cell rfl) ⟨rfl, rfl⟩⟩) hS13 ?_
            refine xd_take 7 (some 104) rfl rfl (by kernel_rfl) (v := (.int .i64 (((pre₁.length : Nat) : Int)))) (.inl ⟨(wanted_of (j := 4) (b := false) rfl (congrArg some (decide_eq_false (by omega)))), fun W_ hW_ => ox_load (v := (.int .i64 (((pre₁.length : Nat) : Int)))) tA_3 (by subst hnb; exact rfl) ((q15.ext hW_).cell rfl) ⟨rfl, rfl⟩⟩) hS13 ?_
            refine xd_pure 8 (some 105) rfl rfl (by kernel_rfl) (v := (.pointer (some ⟨gw, 0 + pre₁.length * 2, none⟩))) (.inl ⟨(wanted_of (j := 4) (b := false) rfl (congrArg some (decide_eq_false (by omega)))), fun W_ hW_ => ox_indexAddr (b := gw) (o := 0) (i := (((pre₁.length : Nat) : Int))) tE_76 rfl rfl (by omega) (by omega) ⟨rfl, rfl⟩⟩) ?_
            have q30 := ((q13.ext e22).keep1 e23 (fun k hk => by have _q := (q13.lt) k hk; omega))
            have q31 := (q30.keep hcYa (fun k hk h => by have h1 := hKa.yl _ h; have h2 := (q12).lt k hk; omega))
            refine xd_take 9 (some 106) rfl rfl (by kernel_rfl) (v := (.agg #[(.int .i64 x₁.frm), (.int .i64 x₁.to)])) (.inl ⟨(wanted_of (j := 4) (b := false) rfl (congrArg some (decide_eq_false (by omega)))), fun W_ hW_ => ox_loadN (vs := [(.int .i64 x₁.frm), (.int .i64 x₁.to)]) tA_79 tS_79 rfl rfl (by simpa [snCs] using Own.sn (q31.ext hW_) hpaa) ⟨rfl, rfl⟩⟩) hS13 ?_
            refine xd_pure 10 (some 107) rfl rfl (by kernel_rfl) (v := (.bool (!decide (((x₁.frm : Int) = x₁.frm ∧ (x₁.to : Int) = x₁.to))))) (.inl ⟨(wanted_of (j := 4) (b := false) rfl (congrArg some (decide_eq_false (by omega)))), fun W_ hW_ => ox_neqF (xs := [(.int .i64 x₁.frm), (.int .i64 x₁.to)]) (ys := [(.int .i64 x₁.frm), (.int .i64 x₁.to)]) (p := ((x₁.frm : Int) = x₁.frm ∧ (x₁.to : Int) = x₁.to)) fS_79 rfl rfl rfl rfl (by simp) ⟨rfl, rfl⟩⟩) ?_
            refine xd_pure 11 (some 108) rfl rfl (by kernel_rfl) (v := (.bool (!decide (((x₁.frm : Int) = x₁.frm ∧ (x₁.to : Int) = x₁.to))))) (.inl ⟨rfl, fun W_ hW_ => ox_pick_f (v := (.bool (!decide (((x₁.frm : Int) = x₁.frm ∧ (x₁.to : Int) = x₁.to))))) (congrArg Value.bool (decide_eq_false (by omega))) rfl ⟨rfl, rfl⟩⟩) ?_
            refine xd_done (by kernel_rfl) ?_ _
            refine xc_cond_f (congrArg Value.bool (by simp : (!decide (((x₁.frm : Int) = x₁.frm ∧ (x₁.to : Int) = x₁.to))) = false)) ?_
            refine xc_skip ?_
            refine xc_region ?_
            refine xl_op (P := Try.prog) (some 109) rfl rfl (ox_load (v := (.int .i64 (((pre₁.length : Nat) : Int)))) tA_3 (by subst hnb; exact rfl) ((q15.ext e24).cell rfl) ?_)
            refine xl_op (P := Try.prog) (some 110) rfl rfl (ox_add64 (a := (((pre₁.length : Nat) : Int))) (b := 1) rfl rfl (by omega) ?_)
            refine xl_op (P := Try.prog) none rfl rfl (ox_store (n := 1) (vs := [(.int .i64 (((pre₁.length : Nat) : Int) + 1))]) tS_3 (by subst hnb; exact rfl) (v := (.int .i64 (((pre₁.length : Nat) : Int) + 1))) rfl rfl rfl rfl (q15.ext e24) (Nat.le_of_ble_eq_true rfl) ?_)
            intro w28 e25 z20 b15
            replace b15 : Blk w28 nb #[(.int .i64 (((pre₁.length : Nat) : Int) + 1))] 3 := b15
            refine xl_nil ?_
            have hsza10 := e24.size
            have hsza11 := e25.size
            have hqa := b15
            refine ⟨(Chg.chg1 (Chg.ext (Chg.refl (fun b => ¬ Ya b ∧ nb ≤ b) W2a) e24) e25 (by first | exact .inl ⟨fun h => by have := hKa.yl _ h; omega, by omega⟩ | exact .inl ⟨fun h => by have := (hYa _ h).2; omega, by omega⟩ | exact .inr (by omega))), ?_⟩
            show RgI w24 nb (((pre₁ ++ [x₁]).length : Nat) : Int) Ya w28
            rw [len_snoc]
            exact ⟨hqa, hKa.yl, (Chg.chg1 (Chg.ext (Chg.trans (Chg.chg1 (Chg.ext hKa.chg e22) e23 (by first | exact .inl rfl | exact .inr (by omega))) hcYa (fun b hb hl => absurd hl (by have := hKa.yl b hb; omega))) e24) e25 (by first | exact .inl rfl | exact .inr (by omega)))⟩
        · skip
          intro Da Ya Wda hwDa hYa hYDa hIa hDa
          have hKda : RgI w24 nb ((S.length : Nat) : Int) Ya Wda := hIa
          have hzda := hKda.chg.size
          exact ⟨Da, _, rfl, g5_f3, g6_f3, g7_f3, g1_f3, g8_f3, g9_f3, g12_f3, gq_f3, (by subst hnb; exact rfl), hwDa, hDa, hKda.blk, .inl rfl, hKda.chg⟩
        · skip
          intro Da Ya c prea Wda hwDa hYa hYDa hprea hIa hDa
          obtain ⟨rfl, hKda⟩ := hIa
          refine xc_exit ?_
          exact ⟨Da, _, rfl, g5_f3, g6_f3, g7_f3, g1_f3, g8_f3, g9_f3, g12_f3, gq_f3, (by subst hnb; exact rfl), hwDa, hDa, hKda.blk, .inr rfl, hKda.chg⟩
      rintro f4 _ w29 ⟨Da, nn, rfl, g5_f4, g6_f4, g7_f4, g1_f4, g8_f4, g9_f4, g12_f4, g13_f4, g14_f4, hwDa, hDa, hnba, hnn, hca⟩
      have hzca := hca.size
      refine xc_seq ?_
      refine xc_seq ?_
      refine xc_region ?_
      refine xl_op (P := Try.prog) (some 111) rfl rfl (ox_load (v := (.int .i64 nn)) tA_3 g14_f4 (hnba.cell rfl) ?_)
      have q32 := ((hBvb13.ext e20).keep1 e21 ((hBvb13.ext e20).ne b11 (by decide)))
      have q33 := (q32.keep1 hca (q32.ne hBnb (by decide)))
      refine xl_op (P := Try.prog) (some 112) rfl rfl (ox_load (v := (.slice Aw S.length cw)) tA_76 g13_f4 (q33.cell rfl) ?_)
      refine xl_op (P := Try.prog) (some 113) rfl rfl (ox_len (A := Aw) (n := S.length) (cp := cw) rfl tU_76 rfl ?_)
      refine xl_op (P := Try.prog) (some 114) rfl rfl (ox_neq (k := .i64) (a := nn) (b := (((S.length : Nat) : Int))) rfl rfl ?_)
      refine xl_op (P := Try.prog) (some 115) rfl rfl (ox_move (v := (.bool (decide ((nn : Int) ≠ (((S.length : Nat) : Int)))))) rfl ?_)
      refine xl_may (P := Try.prog) (some 116) (j := 4) (b := true) (((decide ((nn : Int) ≠ (((S.length : Nat) : Int))))) = true) (.bool (decide ((nn : Int) ≠ (((S.length : Nat) : Int))))) (.int .i64 nn) rfl rfl rfl (may_b ((decide ((nn : Int) ≠ (((S.length : Nat) : Int))))) true) (fun hp => ox_load (v := (.int .i64 nn)) tA_3 g14_f4 (hnba.cell rfl) ⟨rfl, rfl⟩) ?_
      have q34 := ((((blk_vb5_f1.ext e4).ext e5).ext hE7).ext hE8)
      have q35 := ((q34.ext e20).keep1 e21 (by have _q := blk_vb5_f1.lt; omega))
      have q36 := (q35.keep1 hca (by have _q := blk_vb5_f1.lt; omega))
      refine xl_may (P := Try.prog) (some 117) (j := 4) (b := true) (((decide ((nn : Int) ≠ (((S.length : Nat) : Int))))) = true) (.bool (decide ((nn : Int) ≠ (((S.length : Nat) : Int))))) (.int .i64 lv) rfl rfl rfl (may_b ((decide ((nn : Int) ≠ (((S.length : Nat) : Int))))) true) (fun hp => ox_load (v := (.int .i64 lv)) tA_3 g5_f4 (q36.cell rfl) ⟨rfl, rfl⟩) ?_
      refine xl_may (P := Try.prog) (some 118) (j := 4) (b := true) (((decide ((nn : Int) ≠ (((S.length : Nat) : Int))))) = true) (.bool (decide ((nn : Int) ≠ (((S.length : Nat) : Int))))) (.bool (decide ((nn : Int) ≠ lv))) rfl rfl rfl (may_b ((decide ((nn : Int) ≠ (((S.length : Nat) : Int))))) true) (fun hp => ox_neq (k := .i64) (a := nn) (b := lv) (if_pos (α := Value) (t := (.int .i64 nn)) (e := undef) hp) (if_pos (α := Value) (t := (.int .i64 lv)) (e := undef) hp) ⟨rfl, rfl⟩) ?_
      refine xl_op (P := Try.prog) (some 119) rfl rfl (ox_pick_and (a := ((decide ((nn : Int) ≠ (((S.length : Nat) : Int)))))) (b := ((decide ((nn : Int) ≠ lv)))) rfl (fun ha => (if_pos (α := Value) (t := (.bool (decide ((nn : Int) ≠ lv)))) (e := undef) ha)) rfl ?_)
      refine xl_nil ?_
      refine xc_cond (b := (((decide ((nn : Int) ≠ (((S.length : Nat) : Int))))) && ((decide ((nn : Int) ≠ lv))))) rfl (fun h3 => ?_) (fun h3 => ?_)
      · skip
        have h3' := h3
        try simp only [Bool.or_eq_true, Bool.and_eq_true, decide_eq_true_eq, Bool.or_eq_false_iff, Bool.and_eq_false_iff, decide_eq_false_iff_not, Bool.not_eq_true', Bool.not_eq_false'] at h3'
        exfalso; simp only [Bool.and_eq_true, decide_eq_true_eq] at h3; omega
      · skip
        have h3' := h3
        try simp only [Bool.or_eq_true, Bool.and_eq_true, decide_eq_true_eq, Bool.or_eq_false_iff, Bool.and_eq_false_iff, decide_eq_false_iff_not, Bool.not_eq_true', Bool.not_eq_false'] at h3'
        refine xc_skip ?_
        refine xc_seq ?_
        refine xc_region ?_
        refine xl_op (P := Try.prog) none rfl rfl (ox_store (n := 1) (vs := [(.int .i64 0)]) tS_3 g14_f4 (v := (.int .i64 0)) rfl rfl rfl rfl hnba (Nat.le_of_ble_eq_true rfl) ?_)
        intro w30 e26 z21 b16
        replace b16 : Blk w30 nb #[(.int .i64 0)] 3 := b16
        refine xl_nil ?_
        refine xc_seq ?_
        refine xc_seq ?_
        refine xc_region ?_
        have q37 := ((q9.keep1 hca (q9.ne hBnb (by decide))).keep1 e26 ((q9.keep1 hca (q9.ne hBnb (by decide))).ne hnba (by decide)))
        refine xl_op (P := Try.prog) (some 120) rfl rfl (ox_load (v := (.func (.func 58) #[] #[(.pointer (some ⟨bx, 0, none⟩)), (.pointer (some ⟨by_, 0, none⟩))])) tA_74 g12_f4 (q37.cell rfl) ?_)
        refine xl_nil ?_
        refine xc_block ?_
        have hltb := (b16).lt
        have hwgzb := ((Ext.chg1 (Ext.chg1 (Ext.chg1 (Ext.trans (Ext.trans (Ext.trans (Ext.trans (Ext.trans x_f1 e4) e5) hE7) hE8) e20) e21 (by omega)) hca (by omega)) e26 (by omega))).size
        have q38 := (((hbx.ext hE8).ext e20).keep1 e21 (((hbx.ext hE8).ext e20).ne b11 (by decide)))
        have q39 := (q38.keep1 hca (q38.ne hBnb (by decide)))
        have q40 := (q39.keep1 e26 (q39.ne hnba (by decide)))
        have q41 := (((hby.ext hE8).ext e20).keep1 e21 (((hby.ext hE8).ext e20).ne b11 (by decide)))
        have q42 := (q41.keep1 hca (q41.ne hBnb (by decide)))
        have q43 := (q42.keep1 e26 (q42.ne hnba (by decide)))
        have hitb := ranges_iter (X := fun _ => False) (B := nb) (stv := (.pointer (some ⟨s, 0, none⟩))) hH q40 q43 (hPa.ext (Ext.chg1 (Ext.chg1 (Ext.chg1 (Ext.trans (Ext.trans (Ext.trans (Ext.trans (Ext.trans x_f1 e4) e5) hE7) hE8) e20) e21 (by omega)) hca (by omega)) e26 (by omega))) hWa hsa4 (hPb.ext (Ext.chg1 (Ext.chg1 (Ext.chg1 (Ext.trans (Ext.trans (Ext.trans (Ext.trans (Ext.trans x_f1 e4) e5) hE7) hE8) e20) e21 (by omega)) hca (by omega)) e26 (by omega))) hWb hsb4 (fun b hb => by have := PN.lt hPa b hb; omega) (fun b hb => by have := PN.lt hPb b hb; omega) (.inr (by omega)) (.inr (by omega)) (fun b h => h.elim) (by omega)
        rw [← hS] at hitb
        have hI0b : rgJ w30 nb [] (fun _ => False) w30 := (⟨b16, fun b h => h.elim, Chg.refl _ _⟩ : RgI w30 nb ((([] : List Sn).length : Nat) : Int) (fun _ => False) w30)
        refine xc_range (ps := #[121]) (α := Sn) (gf := 58) (lb := #[.pointer (some ⟨bx, 0, none⟩), .pointer (some ⟨by_, 0, none⟩)]) (encs := encS) (B := nb) (X0 := fun _ => False) (xs := S) rfl pf_58 (fun _ => rfl) hitb (by omega) (fun b h => h.elim) (rgJ w30 nb) (fun _ _ _ _ => False) (rgJ_stab hltb) (fun _ _ _ _ _ _ _ h => h.elim) hI0b ?_ ?_ ?_
        · intro l₁b pre₁ x₁ Yb Wb hpreb hYb hYlb hl₁b hIb
          have hKb : RgI w30 nb ((pre₁.length : Nat) : Int) Yb Wb := hIb
          have hzhKb := hKb.chg.size
          have hplb := prefix_lt hpreb; have hpab := prefix_at hpreb
          have q44 := ((how.ext e20).keep1 e21 (fun k hk => (how.ext e20).ne_blk b11 (by decide) k hk))
          have q45 := (q44.keep1 hca (fun k hk => q44.ne_blk hBnb (by decide) k hk))
          have q46 := (q45.keep1 e26 (fun k hk => q45.ne_blk hnba (by decide) k hk))
          have q47 := (q46.keep1 hKb.chg (fun k hk => q46.ne_blk b16 (by decide) k hk))
          obtain ⟨gw, cw9, heqw, _⟩ := q47.some_of (by omega)
          simp only [Value.slice.injEq, true_and] at heqw
          obtain ⟨rfl, rfl⟩ := heqw
          refine xc_region ?_
          refine xl_op (P := Try.prog) (some 16) rfl rfl (ox_alloc tZ_79 ?_)
          intro w31 e27 z22 b17
          replace b17 : Blk w31 Wb.heap.size #[(.int .i64 0), (.int .i64 0)] 79 := b17
          refine xl_op (P := Try.prog) none rfl rfl (ox_store (n := 2) (vs := [(.int .i64 x₁.frm), (.int .i64 x₁.to)]) tS_79 rfl (v := (.agg #[(.int .i64 x₁.frm), (.int .i64 x₁.to)])) rfl rfl rfl rfl b17 (Nat.le_of_ble_eq_true rfl) ?_)
          intro w32 e28 z23 b18
          replace b18 : Blk w32 Wb.heap.size #[(.int .i64 x₁.frm), (.int .i64 x₁.to)] 79 := blk_full b18 rfl
          refine xl_nil ?_
          refine ⟨rfl, rfl, (Chg.chg1 (Chg.ext (Chg.refl (fun b => ¬ Yb b ∧ nb ≤ b) Wb) e27) e28 (by first | exact .inl ⟨fun h => by have := hKb.yl _ h; omega, by omega⟩ | exact .inl ⟨fun h => by have := (hYb _ h).2; omega, by omega⟩ | exact .inr (by omega))), fun W2b hcYb hsYb hlYb => ?_⟩
          have hszYb := hcYb.size
          refine xc_block ?_
          refine xc_seq ?_
          refine xc_seq ?_
          refine xc_regionE [] (fun W_ => Chg (fun _ => False) W2b W_) hmix ?_
          intro w33 e29 z24
          have hS14 : Chg (fun _ => False) W2b w33 := Ext.to e29
          have q48 := ((hKb.blk.ext e27).keep1 e28 ((hKb.blk.ext e27).ne b17 (by decide)))
          have q49 := (q48.keep hcYb (fun h => by have h1 := hKb.yl _ h; omega))
          refine xd_take 0 (some 122) rfl rfl (by kernel_rfl) (v := (.int .i64 (((pre₁.length : Nat) : Int)))) (.inl ⟨rfl, fun W_ hW_ => ox_load (v := (.int .i64 (((pre₁.length : Nat) : Int)))) tA_3 g14_f4 ((q49.ext hW_).cell rfl) ⟨rfl, rfl⟩⟩) hS14 ?_
          have q50 := (q33.keep1 e26 (q33.ne hnba (by decide)))
          have q51 := (q50.keep1 hKb.chg (q50.ne b16 (by decide)))
          have q52 := ((q51.ext e27).keep1 e28 ((q51.ext e27).ne b17 (by decide)))
          have q53 := (q52.keep hcYb (fun h => by have h1 := hKb.yl _ h; have h2 := (q50).lt; omega))
          refine xd_take 1 (some 123) rfl rfl (by kernel_rfl) (v := (.slice (some ⟨gw, 0, none⟩) S.length cw)) (.inl ⟨rfl, fun W_ hW_ => ox_load (v := (.slice (some ⟨gw, 0, none⟩) S.length cw)) tA_76 g13_f4 ((q53.ext hW_).cell rfl) ⟨rfl, rfl⟩⟩) hS14 ?_
          refine xd_pure 2 (some 124) rfl rfl (by kernel_rfl) (v := (.int .i64 (((S.length : Nat) : Int)))) (.inl ⟨rfl, fun W_ hW_ => ox_len (A := (some ⟨gw, 0, none⟩)) (n := S.length) (cp := cw) rfl tU_76 rfl ⟨rfl, rfl⟩⟩) ?_
          refine xd_pure 3 (some 125) rfl rfl (by kernel_rfl) (v := (.bool (decide ((((S.length : Nat) : Int) : Int) ≤ (((pre₁.length : Nat) : Int)))))) (.inl ⟨rfl, fun W_ hW_ => ox_geq (k := .i64) (a := (((pre₁.length : Nat) : Int))) (b := (((S.length : Nat) : Int))) rfl rfl ⟨rfl, rfl⟩⟩) ?_
          refine xd_pure 4 (some 126) rfl rfl (by kernel_rfl) (v := (.bool (decide ((((S.length : Nat) : Int) : Int) ≤ (((pre₁.length : Nat) : Int)))))) (.inl ⟨rfl, fun W_ hW_ => ox_move (v := (.bool (decide ((((S.length : Nat) : Int) : Int) ≤ (((pre₁.length : Nat) : Int)))))) rfl ⟨rfl, rfl⟩⟩) ?_
          have q54 := (b18.keep hcYb (fun h => by have := (hYb _ h).2; omega))
          refine xd_take 5 (some 127) rfl rfl (by kernel_rfl) (v := (.agg #[(.int .i64 x₁.frm), (.int .i64 x₁.to)])) (.inl ⟨(wanted_of (j := 4) (b := false) rfl (congrArg some (decide_eq_false (by omega)))), fun W_ hW_ => ox_loadN (vs := [(.int .i64 x₁.frm), (.int .i64 x₁.to)]) tA_79 tS_79 rfl rfl ⟨(q54.ext hW_).cell rfl, (q54.ext hW_).cell rfl, trivial⟩ ⟨rfl, rfl⟩⟩) hS14 ?_
          have q55 := (q33.keep1 e26 (q33.ne hnba (by decide)))
          have q56 := (q55.keep1 hKb.chg (q55.ne b16 (by decide)))
          have q57 := ((q56.ext e27).keep1 e28 ((q56.ext e27).ne b17 (by decide)))
          have q58 := (q57.keep hcYb (fun h => by have h1 := hKb.yl _ h; have h2 := (q55).lt; omega))
          refine xd_take 6 (some 128) rfl rfl (by kernel_rfl) (v := (.slice (some ⟨gw, 0, none⟩) S.length cw)) (.inl ⟨(wanted_of (j := 4) (b := false) rfl (congrArg some (decide_eq_false (by omega)))), fun W_ hW_ => ox_load (v := (.slice (some ⟨gw, 0, none⟩) S.length cw)) tA_76 g13_f4 ((q58.ext hW_).cell rfl) ⟨rfl, rfl⟩⟩) hS14 ?_
          have q59 := ((hKb.blk.ext e27).keep1 e28 ((hKb.blk.ext e27).ne b17 (by decide)))
          have q60 := (q59.keep hcYb (fun h => by have h1 := hKb.yl _ h; omega))
          refine xd_take 7 (some 129) rfl rfl (by kernel_rfl) (v := (.int .i64 (((pre₁.length : Nat) : Int)))) (.inl ⟨(wanted_of (j := 4) (b := false) rfl (congrArg some (decide_eq_false (by omega)))), fun W_ hW_ => ox_load (v := (.int .i64 (((pre₁.length : Nat) : Int)))) tA_3 g14_f4 ((q60.ext hW_).cell rfl) ⟨rfl, rfl⟩⟩) hS14 ?_
          refine xd_pure 8 (some 130) rfl rfl (by kernel_rfl) (v := (.pointer (some ⟨gw, 0 + pre₁.length * 2, none⟩))) (.inl ⟨(wanted_of (j := 4) (b := false) rfl (congrArg some (decide_eq_false (by omega)))), fun W_ hW_ => ox_indexAddr (b := gw) (o := 0) (i := (((pre₁.length : Nat) : Int))) tE_76 rfl rfl (by omega) (by omega) ⟨rfl, rfl⟩⟩) ?_
          have q61 := ((q47.ext e27).keep1 e28 (fun k hk => by have _q := (q47.lt) k hk; omega))
          have q62 := (q61.keep hcYb (fun k hk h => by have h1 := hKb.yl _ h; have h2 := (q46).lt k hk; omega))
          refine xd_take 9 (some 131) rfl rfl (by kernel_rfl) (v := (.agg #[(.int .i64 x₁.frm), (.int .i64 x₁.to)])) (.inl ⟨(wanted_of (j := 4) (b := false) rfl (congrArg some (decide_eq_false (by omega)))), fun W_ hW_ => ox_loadN (vs := [(.int .i64 x₁.frm), (.int .i64 x₁.to)]) tA_79 tS_79 rfl rfl (by simpa [snCs] using Own.sn (q62.ext hW_) hpab) ⟨rfl, rfl⟩⟩) hS14 ?_
          refine xd_pure 10 (some 132) rfl rfl (by kernel_rfl) (v := (.bool (!decide (((x₁.frm : Int) = x₁.frm ∧ (x₁.to : Int) = x₁.to))))) (.inl ⟨(wanted_of (j := 4) (b := false) rfl (congrArg some (decide_eq_false (by omega)))), fun W_ hW_ => ox_neqF (xs := [(.int .i64 x₁.frm), (.int .i64 x₁.to)]) (ys := [(.int .i64 x₁.frm), (.int .i64 x₁.to)]) (p := ((x₁.frm : Int) = x₁.frm ∧ (x₁.to : Int) = x₁.to)) fS_79 rfl rfl rfl rfl (by simp) ⟨rfl, rfl⟩⟩) ?_
          refine xd_pure 11 (some 133) rfl rfl (by kernel_rfl) (v := (.bool (!decide (((x₁.frm : Int) = x₁.frm ∧ (x₁.to : Int) = x₁.to))))) (.inl ⟨rfl, fun W_ hW_ => ox_pick_f (v := (.bool (!decide (((x₁.frm : Int) = x₁.frm ∧ (x₁.to : Int) = x₁.to))))) (congrArg Value.bool (decide_eq_false (by omega))) rfl ⟨rfl, rfl⟩⟩) ?_
          refine xd_done (by kernel_rfl) ?_ _
          refine xc_cond_f (congrArg Value.bool (by simp : (!decide (((x₁.frm : Int) = x₁.frm ∧ (x₁.to : Int) = x₁.to))) = false)) ?_
          refine xc_skip ?_
          refine xc_seq ?_
          refine xc_region ?_
          refine xl_op (P := Try.prog) (some 17) rfl rfl (ox_alloc tZ_3 ?_)
          intro w34 e30 z25 b19
          replace b19 : Blk w34 w33.heap.size #[(.int .i64 0)] 3 := b19
          refine xl_op (P := Try.prog) none rfl rfl (ox_store (n := 1) (vs := [(.int .i64 0)]) tS_3 rfl (v := (.int .i64 0)) rfl rfl rfl rfl b19 (Nat.le_of_ble_eq_true rfl) ?_)
          intro w35 e31 z26 b20
          replace b20 : Blk w35 w33.heap.size #[(.int .i64 0)] 3 := b20
          refine xl_nil ?_
          refine xc_seq ?_
          refine xc_seq ?_
          obtain ⟨kb, hkb⟩ : ∃ b, b = w33.heap.size := ⟨_, rfl⟩
          have hBkb : Blk w35 kb #[(.int .i64 0)] 3 := by subst hkb; exact b20
          have hLkb := hBkb.lt
          refine xc_region ?_
          have q63 := (q37.keep1 hKb.chg (q37.ne b16 (by decide)))
          have q64 := ((q63.ext e27).keep1 e28 ((q63.ext e27).ne b17 (by decide)))
          have q65 := (q64.keep hcYb (fun h => by have h1 := hKb.yl _ h; have h2 := (q37).lt; omega))
          have q66 := (((q65.ext e29).ext e30).keep1 e31 (((q65.ext e29).ext e30).ne b19 (by decide)))
          refine xl_op (P := Try.prog) (some 134) rfl rfl (ox_load (v := (.func (.func 58) #[] #[(.pointer (some ⟨bx, 0, none⟩)), (.pointer (some ⟨by_, 0, none⟩))])) tA_74 g12_f4 (q66.cell rfl) ?_)
          refine xl_nil ?_
          refine xc_block ?_
          have hltc := (hBkb).lt
          have hwgzc := ((Ext.chg1 (Ext.trans (Ext.trans (Chg.trans (Ext.chg1 (Ext.trans (Ext.chg1 (Ext.chg1 (Ext.chg1 (Ext.chg1 (Ext.trans (Ext.trans (Ext.trans (Ext.trans (Ext.trans x_f1 e4) e5) hE7) hE8) e20) e21 (by omega)) hca (by omega)) e26 (by omega)) hKb.chg (by omega)) e27) e28 (by omega)) hcYb (fun b hb hl => absurd hl (by have := hKb.yl b hb; omega))) e29) e30) e31 (by omega))).size
          have q67 := (((hbx.ext hE8).ext e20).keep1 e21 (((hbx.ext hE8).ext e20).ne b11 (by decide)))
          have q68 := (q67.keep1 hca (q67.ne hBnb (by decide)))
          have q69 := (q68.keep1 e26 (q68.ne hnba (by decide)))
          have q70 := (q69.keep1 hKb.chg (q69.ne b16 (by decide)))
          have q71 := ((q70.ext e27).keep1 e28 ((q70.ext e27).ne b17 (by decide)))
          have q72 := (q71.keep hcYb (fun h => by have h1 := hKb.yl _ h; have h2 := (q69).lt; omega))
          have q73 := (((q72.ext e29).ext e30).keep1 e31 (((q72.ext e29).ext e30).ne b19 (by decide)))
          have q74 := (((hby.ext hE8).ext e20).keep1 e21 (((hby.ext hE8).ext e20).ne b11 (by decide)))
          have q75 := (q74.keep1 hca (q74.ne hBnb (by decide)))
          have q76 := (q75.keep1 e26 (q75.ne hnba (by decide)))
          have q77 := (q76.keep1 hKb.chg (q76.ne b16 (by decide)))
          have q78 := ((q77.ext e27).keep1 e28 ((q77.ext e27).ne b17 (by decide)))
          have q79 := (q78.keep hcYb (fun h => by have h1 := hKb.yl _ h; have h2 := (q76).lt; omega))
          have q80 := (((q79.ext e29).ext e30).keep1 e31 (((q79.ext e29).ext e30).ne b19 (by decide)))
          have hitc := ranges_iter (X := fun _ => False) (B := nb) (stv := (.pointer (some ⟨s, 0, none⟩))) hH q73 q80 (hPa.ext (Ext.chg1 (Ext.trans (Ext.trans (Chg.trans (Ext.chg1 (Ext.trans (Ext.chg1 (Ext.chg1 (Ext.chg1 (Ext.chg1 (Ext.trans (Ext.trans (Ext.trans (Ext.trans (Ext.trans x_f1 e4) e5) hE7) hE8) e20) e21 (by omega)) hca (by omega)) e26 (by omega)) hKb.chg (by omega)) e27) e28 (by omega)) hcYb (fun b hb hl => absurd hl (by have := hKb.yl b hb; omega))) e29) e30) e31 (by omega))) hWa hsa4 (hPb.ext (Ext.chg1 (Ext.trans (Ext.trans (Chg.trans (Ext.chg1 (Ext.trans (Ext.chg1 (Ext.chg1 (Ext.chg1 (Ext.chg1 (Ext.trans (Ext.trans (Ext.trans (Ext.trans (Ext.trans x_f1 e4) e5) hE7) hE8) e20) e21 (by omega)) hca (by omega)) e26 (by omega)) hKb.chg (by omega)) e27) e28 (by omega)) hcYb (fun b hb hl => absurd hl (by have := hKb.yl b hb; omega))) e29) e30) e31 (by omega))) hWb hsb4 (fun b hb => by have := PN.lt hPa b hb; omega) (fun b hb => by have := PN.lt hPb b hb; omega) (.inr (by omega)) (.inr (by omega)) (fun b h => h.elim) (by omega)
          rw [← hS] at hitc
          have hI0c : rgJ w35 kb [] (fun _ => False) w35 := (⟨hBkb, fun b h => h.elim, Chg.refl _ _⟩ : RgI w35 kb ((([] : List Sn).length : Nat) : Int) (fun _ => False) w35)
          refine xc_rangeN (ps := #[135]) (α := Sn) (gf := 58) (lb := #[.pointer (some ⟨bx, 0, none⟩), .pointer (some ⟨by_, 0, none⟩)]) (encs := encS) (B := nb) (X0 := fun _ => False) (xs := S) (loop_keep hlYb (Ext.chg1 (Ext.trans e29 e30) e31 (by omega)) not_false) rfl pf_58 (fun _ => rfl) hitc (by omega) (fun b h => h.elim) (rgJ w35 kb) (fun _ _ _ _ => False) (rgJ_stab hltc) (fun _ _ _ _ _ _ _ h => h.elim) hI0c ?_ ?_ ?_
          · intro l₁c pre₂ x₂ Yc Wc hprec hYc hYlc hl₁c hIc
            have hKc : RgI w35 kb ((pre₂.length : Nat) : Int) Yc Wc := hIc
            have hzhKc := hKc.chg.size
            have hplc := prefix_lt hprec; have hpac := prefix_at hprec
            refine xc_region ?_
            refine xl_op (P := Try.prog) (some 18) rfl rfl (ox_alloc tZ_79 ?_)
            intro w36 e32 z27 b21
            replace b21 : Blk w36 Wc.heap.size #[(.int .i64 0), (.int .i64 0)] 79 := b21
            refine xl_op (P := Try.prog) none rfl rfl (ox_store (n := 2) (vs := [(.int .i64 x₂.frm), (.int .i64 x₂.to)]) tS_79 rfl (v := (.agg #[(.int .i64 x₂.frm), (.int .i64 x₂.to)])) rfl rfl rfl rfl b21 (Nat.le_of_ble_eq_true rfl) ?_)
            intro w37 e33 z28 b22
            replace b22 : Blk w37 Wc.heap.size #[(.int .i64 x₂.frm), (.int .i64 x₂.to)] 79 := blk_full b22 rfl
            refine xl_nil ?_
            refine ⟨rfl, rfl, (Chg.chg1 (Chg.ext (Chg.refl (fun b => ¬ Yc b ∧ nb ≤ b) Wc) e32) e33 (by first | exact .inl ⟨fun h => by have := hKc.yl _ h; omega, by omega⟩ | exact .inl ⟨fun h => by have := (hYc _ h).2; omega, by omega⟩ | exact .inr (by omega))), fun W2c hcYc hsYc hlYc => ?_⟩
            have hszYc := hcYc.size
            refine xc_block ?_
            refine xc_seq ?_
            refine xc_seq ?_
            refine xc_regionE [] (fun W_ => Chg (fun _ => False) W2c W_) hmix ?_
            intro w38 e34 z29
            have hS15 : Chg (fun _ => False) W2c w38 := Ext.to e34
            have q81 := ((hKc.blk.ext e32).keep1 e33 ((hKc.blk.ext e32).ne b21 (by decide)))
            have q82 := (q81.keep hcYc (fun h => by have h1 := hKc.yl _ h; omega))
            refine xd_take 0 (some 136) rfl rfl (by kernel_rfl) (v := (.int .i64 (((pre₂.length : Nat) : Int)))) (.inl ⟨rfl, fun W_ hW_ => ox_load (v := (.int .i64 (((pre₂.length : Nat) : Int)))) tA_3 (by subst hkb; exact rfl) ((q82.ext hW_).cell rfl) ⟨rfl, rfl⟩⟩) hS15 ?_
            have q83 := (q33.keep1 e26 (q33.ne hnba (by decide)))
            have q84 := (q83.keep1 hKb.chg (q83.ne b16 (by decide)))
            have q85 := ((q84.ext e27).keep1 e28 ((q84.ext e27).ne b17 (by decide)))
            have q86 := (q85.keep hcYb (fun h => by have h1 := hKb.yl _ h; have h2 := (q83).lt; omega))
            have q87 := (((q86.ext e29).ext e30).keep1 e31 (((q86.ext e29).ext e30).ne b19 (by decide)))
            have q88 := (q87.keep1 hKc.chg (q87.ne hBkb (by decide)))
            have q89 := ((q88.ext e32).keep1 e33 ((q88.ext e32).ne b21 (by decide)))
            have q90 := (q89.keep hcYc (fun h => by have h1 := hKc.yl _ h; have h2 := (q87).lt; omega))
            refine xd_take 1 (some 137) rfl rfl (by kernel_rfl) (v := (.slice (some ⟨gw, 0, none⟩) S.length cw)) (.inl ⟨rfl, fun W_ hW_ => ox_load (v := (.slice (some ⟨gw, 0, none⟩) S.length cw)) tA_76 g13_f4 ((q90.ext hW_).cell rfl) ⟨rfl, rfl⟩⟩) hS15 ?_
            refine xd_pure 2 (some 138) rfl rfl (by kernel_rfl) (v := (.int .i64 (((S.length : Nat) : Int)))) (.inl ⟨rfl, fun W_ hW_ => ox_len (A := (some ⟨gw, 0, none⟩)) (n := S.length) (cp := cw) rfl tU_76 rfl ⟨rfl, rfl⟩⟩) ?_
            refine xd_pure 3 (some 139) rfl rfl (by kernel_rfl) (v := (.bool (decide ((((S.length : Nat) : Int) : Int) ≤ (((pre₂.length : Nat) : Int)))))) (.inl ⟨rfl, fun W_ hW_ => ox_geq (k := .i64) (a := (((pre₂.length : Nat) : Int))) (b := (((S.length : Nat) : Int))) rfl rfl ⟨rfl, rfl⟩⟩) ?_
            refine xd_pure 4 (some 140) rfl rfl (by kernel_rfl) (v := (.bool (decide ((((S.length : Nat) : Int) : Int) ≤ (((pre₂.length : Nat) : Int)))))) (.inl ⟨rfl, fun W_ hW_ => ox_move (v := (.bool (decide ((((S.length : Nat) : Int) : Int) ≤ (((pre₂.length : Nat) : Int)))))) rfl ⟨rfl, rfl⟩⟩) ?_
            have q91 := (b22.keep hcYc (fun h => by have := (hYc _ h).2; omega))
            refine xd_take 5 (some 141) rfl rfl (by kernel_rfl) (v := (.agg #[(.int .i64 x₂.frm), (.int .i64 x₂.to)])) (.inl ⟨(wanted_of (j := 4) (b := false) rfl (congrArg some (decide_eq_false (by omega)))), fun W_ hW_ => ox_loadN (vs := [(.int .i64 x₂.frm), (.int .i64 x₂.to)]) tA_79 tS_79 rfl rfl ⟨(q91.ext hW_).cell rfl, (q91.ext hW_).cell rfl, trivial⟩ ⟨rfl, rfl⟩⟩) hS15 ?_
            have q92 := (q33.keep1 e26 (q33.ne hnba (by decide)))
            have q93 := (q92.keep1 hKb.chg (q92.ne b16 (by decide)))
            have q94 := ((q93.ext e27).keep1 e28 ((q93.ext e27).ne b17 (by decide)))
            have q95 := (q94.keep hcYb (fun h => by have h1 := hKb.yl _ h; have h2 := (q92).lt; omega))
            have q96 := (((q95.ext e29).ext e30).keep1 e31 (((q95.ext e29).ext e30).ne b19 (by decide)))
            have q97 := (q96.keep1 hKc.chg (q96.ne hBkb (by decide)))
            have q98 := ((q97.ext e32).keep1 e33 ((q97.ext e32).ne b21 (by decide)))
            have q99 := (q98.keep hcYc (fun h => by have h1 := hKc.yl _ h; have h2 := (q96).lt; omega))
            refine xd_take 6 (some 142) rfl rfl (by kernel_rfl) (v := (.slice (some ⟨gw, 0, none⟩) S.length cw)) (.inl ⟨(wanted_of (j := 4) (b := false) rfl (congrArg some (decide_eq_false (by omega)))), fun W_ hW_ => ox_load (v := (.slice (some ⟨gw, 0, none⟩) S.length cw)) tA_76 g13_f4 ((q99.ext hW_).cell rfl) ⟨rfl, rfl⟩⟩) hS15 ?_
            have q100 := ((hKc.blk.ext e32).keep1 e33 ((hKc.blk.ext e32).ne b21 (by decide)))
            have q101 := (q100.keep hcYc (fun h => by have h1 := hKc.yl _ h; omega))
            refine xd_take 7 (some 143) rfl rfl (by kernel_rfl) (v := (.int .i64 (((pre₂.length : Nat) : Int)))) (.inl ⟨(wanted_of (j := 4) (b := false) rfl (congrArg some (decide_eq_false (by omega)))), fun W_ hW_ => ox_load (v := (.int .i64 (((pre₂.length : Nat) : Int)))) tA_3 (by subst hkb; exact rfl) ((q101.ext hW_).cell rfl) ⟨rfl, rfl⟩⟩) hS15 ?_
            refine xd_pure 8 (some 144) rfl rfl (by kernel_rfl) (v := (.pointer (some ⟨gw, 0 + pre₂.length * 2, none⟩))) (.inl ⟨(wanted_of (j := 4) (b := false) rfl (congrArg some (decide_eq_false (by omega)))), fun W_ hW_ => ox_indexAddr (b := gw) (o := 0) (i := (((pre₂.length : Nat) : Int))) tE_76 rfl rfl (by omega) (by omega) ⟨rfl, rfl⟩⟩) ?_
            have q102 := ((q47.ext e27).keep1 e28 (fun k hk => by have _q := (q47.lt) k hk; omega))
            have q103 := (q102.keep hcYb (fun k hk h => by have h1 := hKb.yl _ h; have h2 := (q46).lt k hk; omega))
            have q104 := (((q103.ext e29).ext e30).keep1 e31 (fun k hk => ((q103.ext e29).ext e30).ne_blk b19 (by decide) k hk))
            have q105 := (q104.keep1 hKc.chg (fun k hk => q104.ne_blk hBkb (by decide) k hk))
            have q106 := ((q105.ext e32).keep1 e33 (fun k hk => by have _q := (q105.lt) k hk; omega))
            have q107 := (q106.keep hcYc (fun k hk h => by have h1 := hKc.yl _ h; have h2 := (q104).lt k hk; omega))
            refine xd_take 9 (some 145) rfl rfl (by kernel_rfl) (v := (.agg #[(.int .i64 x₂.frm), (.int .i64 x₂.to)])) (.inl ⟨(wanted_of (j := 4) (b := false) rfl (congrArg some (decide_eq_false (by omega)))), fun W_ hW_ => ox_loadN (vs := [(.int .i64 x₂.frm), (.int .i64 x₂.to)]) tA_79 tS_79 rfl rfl (by simpa [snCs] using Own.sn (q107.ext hW_) hpac) ⟨rfl, rfl⟩⟩) hS15 ?_
            refine xd_pure 10 (some 146) rfl rfl (by kernel_rfl) (v := (.bool (!decide (((x₂.frm : Int) = x₂.frm ∧ (x₂.to : Int) = x₂.to))))) (.inl ⟨(wanted_of (j := 4) (b := false) rfl (congrArg some (decide_eq_false (by omega)))), fun W_ hW_ => ox_neqF (xs := [(.int .i64 x₂.frm), (.int .i64 x₂.to)]) (ys := [(.int .i64 x₂.frm), (.int .i64 x₂.to)]) (p := ((x₂.frm : Int) = x₂.frm ∧ (x₂.to : Int) = x₂.to)) fS_79 rfl rfl rfl rfl (by simp) ⟨rfl, rfl⟩⟩) ?_
            refine xd_pure 11 (some 147) rfl rfl (by kernel_rfl) (v := (.bool (!decide (((x₂.frm : Int) = x₂.frm ∧ (x₂.to : Int) = x₂.to))))) (.inl ⟨rfl, fun W_ hW_ => ox_pick_f (v := (.bool (!decide (((x₂.frm : Int) = x₂.frm ∧ (x₂.to : Int) = x₂.to))))) (congrArg Value.bool (decide_eq_false (by omega))) rfl ⟨rfl, rfl⟩⟩) ?_
            refine xd_done (by kernel_rfl) ?_ _
            refine xc_cond_f (congrArg Value.bool (by simp : (!decide (((x₂.frm : Int) = x₂.frm ∧ (x₂.to : Int) = x₂.to))) = false)) ?_
            refine xc_skip ?_
            refine xc_region ?_
            have q108 := ((hKc.blk.ext e32).keep1 e33 ((hKc.blk.ext e32).ne b21 (by decide)))
            have q109 := (q108.keep hcYc (fun h => by have h1 := hKc.yl _ h; omega))
            refine xl_op (P := Try.prog) (some 148) rfl rfl (ox_load (v := (.int .i64 (((pre₂.length : Nat) : Int)))) tA_3 (by subst hkb; exact rfl) ((q109.ext e34).cell rfl) ?_)
            refine xl_op (P := Try.prog) (some 149) rfl rfl (ox_add64 (a := (((pre₂.length : Nat) : Int))) (b := 1) rfl rfl (by omega) ?_)
            refine xl_op (P := Try.prog) none rfl rfl (ox_store (n := 1) (vs := [(.int .i64 (((pre₂.length : Nat) : Int) + 1))]) tS_3 (by subst hkb; exact rfl) (v := (.int .i64 (((pre₂.length : Nat) : Int) + 1))) rfl rfl rfl rfl (q109.ext e34) (Nat.le_of_ble_eq_true rfl) ?_)
            intro w39 e35 z30 b23
            replace b23 : Blk w39 kb #[(.int .i64 (((pre₂.length : Nat) : Int) + 1))] 3 := b23
            refine xl_nil ?_
            have hszc19 := e34.size
            have hszc20 := e35.size
            have hqc := b23
            refine ⟨(Chg.chg1 (Chg.ext (Chg.refl (fun b => ¬ Yc b ∧ nb ≤ b) W2c) e34) e35 (by first | exact .inl ⟨fun h => by have := hKc.yl _ h; omega, by omega⟩ | exact .inl ⟨fun h => by have := (hYc _ h).2; omega, by omega⟩ | exact .inr (by omega))), ?_⟩
            show RgI w35 kb (((pre₂ ++ [x₂]).length : Nat) : Int) Yc w39
            rw [len_snoc]
            exact ⟨hqc, hKc.yl, (Chg.chg1 (Chg.ext (Chg.trans (Chg.chg1 (Chg.ext hKc.chg e32) e33 (by first | exact .inl rfl | exact .inr (by omega))) hcYc (fun b hb hl => absurd hl (by have := hKc.yl b hb; omega))) e34) e35 (by first | exact .inl rfl | exact .inr (by omega)))⟩
          · skip
            intro Yc Wdc hYc hIc
            have hKdc : RgI w35 kb ((S.length : Nat) : Int) Yc Wdc := hIc
            have hzdc := hKdc.chg.size
            refine xc_seq ?_
            refine xc_seq ?_
            refine xc_region ?_
            refine xl_op (P := Try.prog) (some 150) rfl rfl (ox_load (v := (.int .i64 (((S.length : Nat) : Int)))) tA_3 (by subst hkb; exact rfl) (hKdc.blk.cell rfl) ?_)
            have q110 := (q33.keep1 e26 (q33.ne hnba (by decide)))
            have q111 := (q110.keep1 hKb.chg (q110.ne b16 (by decide)))
            have q112 := ((q111.ext e27).keep1 e28 ((q111.ext e27).ne b17 (by decide)))
            have q113 := (q112.keep hcYb (fun h => by have h1 := hKb.yl _ h; have h2 := (q110).lt; omega))
            have q114 := (((q113.ext e29).ext e30).keep1 e31 (((q113.ext e29).ext e30).ne b19 (by decide)))
            have q115 := (q114.keep1 hKdc.chg (q114.ne hBkb (by decide)))
            refine xl_op (P := Try.prog) (some 151) rfl rfl (ox_load (v := (.slice (some ⟨gw, 0, none⟩) S.length cw)) tA_76 g13_f4 (q115.cell rfl) ?_)
            refine xl_op (P := Try.prog) (some 152) rfl rfl (ox_len (A := (some ⟨gw, 0, none⟩)) (n := S.length) (cp := cw) rfl tU_76 rfl ?_)
            refine xl_op (P := Try.prog) (some 153) rfl rfl (ox_neq (k := .i64) (a := (((S.length : Nat) : Int))) (b := (((S.length : Nat) : Int))) rfl rfl ?_)
            refine xl_nil ?_
            refine xc_cond_f (congrArg Value.bool (by simp : decide ((((S.length : Nat) : Int) : Int) ≠ (((S.length : Nat) : Int))) = false)) ?_
            refine xc_skip ?_
            refine xc_region ?_
            have q116 := ((hKb.blk.ext e27).keep1 e28 ((hKb.blk.ext e27).ne b17 (by decide)))
            have q117 := (q116.keep hcYb (fun h => by have h1 := hKb.yl _ h; omega))
            have q118 := (((q117.ext e29).ext e30).keep1 e31 (by have _q := hKb.blk.lt; omega))
            have q119 := (q118.keep1 hKdc.chg (by have _q := hKb.blk.lt; omega))
            refine xl_op (P := Try.prog) (some 154) rfl rfl (ox_load (v := (.int .i64 (((pre₁.length : Nat) : Int)))) tA_3 g14_f4 (q119.cell rfl) ?_)
            refine xl_op (P := Try.prog) (some 155) rfl rfl (ox_add64 (a := (((pre₁.length : Nat) : Int))) (b := 1) rfl rfl (by omega) ?_)
            refine xl_op (P := Try.prog) none rfl rfl (ox_store (n := 1) (vs := [(.int .i64 (((pre₁.length : Nat) : Int) + 1))]) tS_3 g14_f4 (v := (.int .i64 (((pre₁.length : Nat) : Int) + 1))) rfl rfl rfl rfl q119 (Nat.le_of_ble_eq_true rfl) ?_)
            intro w40 e36 z31 b24
            replace b24 : Blk w40 nb #[(.int .i64 (((pre₁.length : Nat) : Int) + 1))] 3 := b24
            refine xl_nil ?_
            have hszb12 := e29.size
            have hszb13 := e30.size
            have hszb14 := e31.size
            have hszb15 := hKdc.chg.size
            have hszb16 := e36.size
            have hqb := b24
            refine ⟨(Chg.chg1 (Chg.chg1 (Chg.chg1 (Chg.ext (Chg.ext (Chg.refl (fun b => ¬ Yb b ∧ nb ≤ b) W2b) e29) e30) e31 (by first | exact .inl ⟨fun h => by have := hKb.yl _ h; omega, by omega⟩ | exact .inl ⟨fun h => by have := (hYb _ h).2; omega, by omega⟩ | exact .inr (by omega))) hKdc.chg (by first | exact .inl ⟨fun h => by have := hKb.yl _ h; omega, by omega⟩ | exact .inl ⟨fun h => by have := (hYb _ h).2; omega, by omega⟩ | exact .inr (by omega))) e36 (by first | exact .inl ⟨fun h => by have := hKb.yl _ h; omega, by omega⟩ | exact .inl ⟨fun h => by have := (hYb _ h).2; omega, by omega⟩ | exact .inr (by omega))), ?_⟩
            show RgI w30 nb (((pre₁ ++ [x₁]).length : Nat) : Int) Yb w40
            rw [len_snoc]
            exact ⟨hqb, hKb.yl, (Chg.chg1 (Chg.chg1 (Chg.chg1 (Chg.ext (Chg.ext (Chg.trans (Chg.chg1 (Chg.ext hKb.chg e27) e28 (by first | exact .inl rfl | exact .inr (by omega))) hcYb (fun b hb hl => absurd hl (by have := hKb.yl b hb; omega))) e29) e30) e31 (by first | exact .inl rfl | exact .inr (by omega))) hKdc.chg (by first | exact .inl rfl | exact .inr (by omega))) e36 (by first | exact .inl rfl | exact .inr (by omega)))⟩
          · skip
            intro Y c pre W hY hpre hI; exact hI.elim
        · skip
          intro Db Yb Wdb hwDb hYb hYDb hIb hDb
          have hKdb : RgI w30 nb ((S.length : Nat) : Int) Yb Wdb := hIb
          have hzdb := hKdb.chg.size
          refine xc_seq ?_
          refine xc_region ?_
          refine xl_op (P := Try.prog) (some 156) rfl rfl (ox_load (v := (.int .i64 (((S.length : Nat) : Int)))) tA_3 g14_f4 (hKdb.blk.cell rfl) ?_)
          have q120 := (q33.keep1 e26 (q33.ne hnba (by decide)))
          have q121 := (q120.keep1 hKdb.chg (q120.ne b16 (by decide)))
          refine xl_op (P := Try.prog) (some 157) rfl rfl (ox_load (v := (.slice Aw S.length cw)) tA_76 g13_f4 (q121.cell rfl) ?_)
          refine xl_op (P := Try.prog) (some 158) rfl rfl (ox_len (A := Aw) (n := S.length) (cp := cw) rfl tU_76 rfl ?_)
          refine xl_op (P := Try.prog) (some 159) rfl rfl (ox_neq (k := .i64) (a := (((S.length : Nat) : Int))) (b := (((S.length : Nat) : Int))) rfl rfl ?_)
          refine xl_nil ?_
          refine xc_cond_f (congrArg Value.bool (by simp : decide ((((S.length : Nat) : Int) : Int) ≠ (((S.length : Nat) : Int))) = false)) ?_
          refine xc_skip ?_
          refine xc_region ?_
          refine xl_op (P := Try.prog) (some 36) rfl rfl (ox_move (v := (.int .i64 ((i : Nat)))) g9_f4 ?_)
          refine xl_op (P := Try.prog) (some 37) rfl rfl (ox_add64 (a := ((i : Nat))) (b := 1) rfl rfl (by omega) ?_)
          refine xl_op (P := Try.prog) (some 9) rfl rfl (ox_assign (v := (.int .i64 ((i : Nat) + 1))) rfl ?_)
          refine xl_nil ?_
          have hsz0 := e4.size
          have hsz1 := e5.size
          have hsz2 := hE7.size
          have hsz3 := hE8.size
          have hsz4 := e20.size
          have hsz5 := e21.size
          have hsz6 := hca.size
          have hsz7 := e26.size
          have hsz8 := hKdb.chg.size
          have hEL : Ext w4 Wdb := (Ext.chg1 (Ext.chg1 (Ext.chg1 (Ext.chg1 (Ext.trans (Ext.trans (Ext.trans (Ext.trans e4 e5) hE7) hE8) e20) e21 (by omega)) hca (by omega)) e26 (by omega)) hKdb.chg (by omega))
          have hCa := (Chg.chg1 (Chg.chg1 (Chg.refl (fun x => x = nb) w29) e26 (by first | (left; rfl) | (right; omega))) hKdb.chg (by first | (left; rfl) | (right; omega)))
          have hCb := (Chg.refl (fun x => x = nb) Wdb)
          have hDal := mark_lt hDa; have hDbl := mark_lt hDb
          have hmd2 : ∀ D ∈ Db :: Da :: Ds, w.heap.size ≤ D ∧ Wdb.heap[D]? = some (.deferred (some [])) := by
            intro D hD; rcases List.mem_cons.1 hD with h | hD
            · subst h; exact ⟨by omega, mark_keep hDb hCb (mark_ne hDb hKdb.blk)⟩
            rcases List.mem_cons.1 hD with h | hD
            · subst h; exact ⟨by omega, mark_keep hDa hCa (mark_ne hDa hnba)⟩
            · exact ⟨(hmd D hD).1, mark_keep (hmd D hD).2 hEL not_false⟩
          have hnd2 : (Db :: Da :: Ds).Nodup := by
            refine List.nodup_cons.2 ⟨fun h => ?_, List.nodup_cons.2 ⟨fun h => ?_, hnd⟩⟩
            · rcases List.mem_cons.1 h with h | h
              · omega
              · have := mark_lt (hmd _ h).2; omega
            · have := mark_lt (hmd _ h).2; omega
          have q122 := ((((blk_vb5_f1.ext e4).ext e5).ext hE7).ext hE8)
          have q123 := ((q122.ext e20).keep1 e21 (by have _q := blk_vb5_f1.lt; omega))
          have q124 := (q123.keep1 hca (by have _q := blk_vb5_f1.lt; omega))
          have q125 := (q124.keep1 e26 (by have _q := blk_vb5_f1.lt; omega))
          have q126 := (q125.keep1 hKdb.chg (by have _q := blk_vb5_f1.lt; omega))
          have q127 := ((((blk_vb6_f1.ext e4).ext e5).ext hE7).ext hE8)
          have q128 := ((q127.ext e20).keep1 e21 ((q127.ext e20).ne b11 (by decide)))
          have q129 := (q128.keep1 hca (q128.ne hBnb (by decide)))
          have q130 := (q129.keep1 e26 (q129.ne hnba (by decide)))
          have q131 := (q130.keep1 hKdb.chg (q130.ne b16 (by decide)))
          exact ⟨ps.length - (i + 1), by omega, i + 1, Db :: Da :: Ds, by omega, by omega, rfl, g5_f4, g6_f4, g7_f4, g8_f4, g1_f4, (by first | exact rfl | exact (congrArg (Value.int .i64) (by omega))), q126, q131, (Ext.chg1 (Ext.chg1 (Ext.chg1 (Ext.chg1 (Ext.trans (Ext.trans (Ext.trans (Ext.trans (Ext.trans x_f1 e4) e5) hE7) hE8) e20) e21 (by omega)) hca (by omega)) e26 (by omega)) hKdb.chg (by omega)), hmd2, hnd2⟩
        · skip
          intro D Y c pre W hD hY hYD hpre hI hheap; exact hI.elim
    · skip
      have h1' := h1
      try simp only [Bool.or_eq_true, Bool.and_eq_true, decide_eq_true_eq, Bool.or_eq_false_iff, Bool.and_eq_false_iff, decide_eq_false_iff_not, Bool.not_eq_true', Bool.not_eq_false'] at h1'
      refine xc_exit ?_
      refine xc_seq ?_
      refine xc_region ?_
      refine xl_op (P := Try.prog) (some 160) rfl rfl (ox_move (v := (.bool true)) g8_f1 ?_)
      refine xl_op (P := Try.prog) none rfl rfl (ox_store (n := 1) (vs := [(.bool true)]) tS_4 g6_f1 (v := (.bool true)) rfl rfl rfl rfl blk_vb6_f1 (Nat.le_of_ble_eq_true rfl) ?_)
      intro w41 e37 z32 b25
      replace b25 : Blk w41 vb6 #[(.bool true)] 4 := b25
      refine xl_nil ?_
      refine xc_ret ?_
      change leaves _ _ _ _ _ _ _
      refine leaves_marks Ds _ (fun D hD => mark_keep (hmd D hD).2 e37 (mark_ne (hmd D hD).2 blk_vb6_f1)) hnd (fun w9 hc9 hs9 => ?_)
      have q132 := (b25.keep hc9 (fun h9 => mark_ne (hmd _ h9).2 blk_vb6_f1 rfl))
      refine leaves_cell1 (n := 161) (v := (.bool true)) rfl (by decide) g6_f1 tA_4 (q132.cell rfl) ?_
      exact ⟨rfl, (Chg.trans (Ext.chg1 (Ext.trans hEx1 x_f1) e37 (by omega)) hc9 (fun b hb hl => absurd hl (by have := (hmd b hb).1; omega)))⟩

end Go.Proofs.Ythhbnodnpajljaa
