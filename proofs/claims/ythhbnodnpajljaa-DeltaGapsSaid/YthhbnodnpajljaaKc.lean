/-
  The law DeltaGaps, walked. No conditions.
-/
import Derived.Test.YthhbnodnpajljaaVxi
import Derived.Test.YthhbnodnpajljaaRows
import Derived.Test.YthhbnodnpajljaaRka
import Derived.Test.YthhbnodnpajljaaKb
import Derived.Test.YthhbnodnpajljaaJb
import Derived.Test.YthhbnodnpajljaaJa
import Derived.Test.YthhbnodnpajljaaDn
import Derived.Test.YthhbnodnpajljaaGa
import Derived.Test.YthhbnodnpajljaaDs
set_option linter.unusedVariables false
set_option linter.unusedSimpArgs false
set_option maxRecDepth 100000
set_option maxHeartbeats 4000000
namespace Go.Proofs.Ythhbnodnpajljaa
open Go Go.RowKit Go.Vx


theorem fS_79 : flatS Try.prog 79 [some .i64, some .i64] = true := by kernel_rfl
theorem pf_13 : plainF Try.prog 13 = true := by kernel_rfl
theorem pf_32 : plainF Try.prog 32 = true := by kernel_rfl
theorem pf_34 : plainF Try.prog 34 = true := by kernel_rfl
theorem pf_58 : plainF Try.prog 58 = true := by kernel_rfl
theorem tA_76 : isAggT Try.prog 76 = some false := by kernel_rfl
theorem tE_23 : sliceT Try.prog 23 = some (33, 2, 16, (.agg #[(.int .i64 0), (.int .i64 0)])) := by kernel_rfl
theorem tF_40_0 : fieldT Try.prog 40 0 = some 0 := by kernel_rfl
theorem tF_40_1 : fieldT Try.prog 40 1 = some 1 := by kernel_rfl
theorem tS_76 : sizeT Try.prog 76 = some 1 := by kernel_rfl
theorem tU_23 : Try.prog.underlying 23 = some (.slice 33) := by kernel_rfl
theorem tU_76 : Try.prog.underlying 76 = some (.slice 79) := by kernel_rfl
theorem tV_33 : arrT Try.prog 33 = some (2, 3, 1) := by kernel_rfl
theorem tZ_76 : zeroOf Try.prog 76 = some (.slice none 0 0) := by kernel_rfl

theorem deltaGaps_calls (l : List PB) (A0 : Option Addr) (c0 : Nat) (ps : List (Int × Int)) (A1 : Option Addr) (c1 : Nat) (w : World) (hA0 : RowA w A0 (pbC l)) (hn0 : l.length ≤ 4611686018427387904) (hok : ∀ x ∈ l, x.ok w) (hA1 : RowA w A1 (prC ps)) (hn1 : ps.length ≤ 4611686018427387904) :
    Calls Try.prog 10 #[(.slice A0 l.length c0), (.slice A1 ps.length c1)] w (Ret (fun v w' => v = .bool true ∧ Ext w w')) := by
  refine calls_xc (n := 278) (f := fun s_ => [(.slice A0 l.length c0), (.slice A1 ps.length c1)].getD s_ undef) Try.func10 rfl rfl (by simp) (fun s_ => by simp) ?_
  refine xc_seq ?_
  refine xc_region ?_
  refine xl_op (P := Try.prog) (some 4) rfl rfl (ox_assign (v := (.bool false)) rfl ?_)
  refine xl_nil ?_
  refine xc_seq ?_
  refine xc_region ?_
  refine xl_op (P := Try.prog) (some 27) rfl rfl (ox_move (v := (.slice A0 l.length c0)) rfl ?_)
  refine xl_op (P := Try.prog) (some 28) rfl rfl (ox_callE (al := [(.slice A0 l.length c0)]) pf_13 rfl (ret_mono (grove_calls l A0 c0 w (RowA.ext hA0 (Chg.refl _ _)) (by omega) (fun x hx => (hok x hx).ext (Chg.refl _ _))) ?_))
  rintro _ w1 ⟨bg, s, ts, us, An, Ap, cn, cp, rfl, hGM, hlbg, hls, e1⟩
  have he1 := e1.size
  have hul := hGM.ok.len
  have hfew := hGM.few
  refine xl_op (P := Try.prog) (some 26) rfl rfl (ox_move (v := (.tuple #[(.pointer (some ⟨bg, 0, none⟩)), (.bool true)])) rfl ?_)
  refine xl_op (P := Try.prog) (some 29) rfl rfl (ox_extract (vs := #[(.pointer (some ⟨bg, 0, none⟩)), (.bool true)]) (v := (.pointer (some ⟨bg, 0, none⟩))) rfl rfl ?_)
  refine xl_op (P := Try.prog) (some 30) rfl rfl (ox_extract (vs := #[(.pointer (some ⟨bg, 0, none⟩)), (.bool true)]) (v := (.bool true)) rfl rfl ?_)
  refine xl_op (P := Try.prog) (some 5) rfl rfl (ox_assign (v := (.pointer (some ⟨bg, 0, none⟩))) rfl ?_)
  refine xl_op (P := Try.prog) (some 6) rfl rfl (ox_assign (v := (.bool true)) rfl ?_)
  refine xl_nil ?_
  refine xc_seq ?_
  refine xc_seq ?_
  refine xc_region ?_
  refine xl_op (P := Try.prog) (some 7) rfl rfl (ox_assign (v := (.int .i64 0)) rfl ?_)
  refine xl_nil ?_
  refine xc_block ?_
  have hEx1 := e1
  have hEx1z := hEx1.size
  refine xc_loopD (fun m f ds W => ∃ (i : Nat) (Ds : List Nat), m = ps.length - i ∧ i ≤ ps.length ∧ ds = List.map dmark Ds ∧ f 5 = (.pointer (some ⟨bg, 0, none⟩)) ∧ f 6 = (.bool true) ∧ f 1 = (.slice A1 ps.length c1) ∧ f 7 = (.int .i64 ((i : Nat))) ∧ Ext w1 W ∧ (∀ D ∈ Ds, w.heap.size ≤ D ∧ W.heap[D]? = some (.deferred (some []))) ∧ Ds.Nodup) (ps.length) ?_ ?_
  · exact ⟨0, [], by omega, by omega, rfl, rfl, rfl, rfl, (by first | exact rfl | exact (congrArg (Value.int .i64) (by omega))), (Chg.refl _ _), (by simp), List.nodup_nil⟩
  · rintro m f1 _ w2 ⟨i, Ds, hm, hi, rfl, g5_f1, g6_f1, g1_f1, g7_f1, x_f1, md_f1, nd_f1⟩
    have hmd := md_f1; have hnd := nd_f1
    have hzX := x_f1.size
    refine xc_seq ?_
    refine xc_seq ?_
    refine xc_region ?_
    refine xl_op (P := Try.prog) (some 31) rfl rfl (ox_move (v := (.int .i64 ((i : Nat)))) g7_f1 ?_)
    refine xl_op (P := Try.prog) (some 32) rfl rfl (ox_move (v := (.slice A1 ps.length c1)) g1_f1 ?_)
    refine xl_op (P := Try.prog) (some 33) rfl rfl (ox_len (A := A1) (n := ps.length) (cp := c1) rfl tU_23 rfl ?_)
    refine xl_op (P := Try.prog) (some 34) rfl rfl (ox_lss (k := .i64) (a := ((i : Nat))) (b := (((ps.length : Nat) : Int))) rfl rfl ?_)
    refine xl_op (P := Try.prog) (some 35) rfl rfl (ox_move (v := (.bool (decide (((i : Nat) : Int) < (((ps.length : Nat) : Int)))))) rfl ?_)
    refine xl_may (P := Try.prog) (some 36) (j := 4) (b := true) (((decide (((i : Nat) : Int) < (((ps.length : Nat) : Int))))) = true) (.bool (decide (((i : Nat) : Int) < (((ps.length : Nat) : Int))))) (.pointer (some ⟨bg, 0, none⟩)) rfl rfl rfl (may_b ((decide (((i : Nat) : Int) < (((ps.length : Nat) : Int))))) true) (fun hp => ox_move (v := (.pointer (some ⟨bg, 0, none⟩))) g5_f1 ⟨rfl, rfl⟩) ?_
    refine xl_may (P := Try.prog) (some 37) (j := 4) (b := true) (((decide (((i : Nat) : Int) < (((ps.length : Nat) : Int))))) = true) (.bool (decide (((i : Nat) : Int) < (((ps.length : Nat) : Int))))) (.pointer (some ⟨bg, 0, none⟩)) rfl rfl rfl (may_b ((decide (((i : Nat) : Int) < (((ps.length : Nat) : Int))))) true) (fun hp => ox_nilCheck (p := ⟨bg, 0, none⟩) (if_pos (α := Value) (t := (.pointer (some ⟨bg, 0, none⟩))) (e := undef) hp) ⟨rfl, rfl⟩) ?_
    refine xl_may (P := Try.prog) (some 38) (j := 4) (b := true) (((decide (((i : Nat) : Int) < (((ps.length : Nat) : Int))))) = true) (.bool (decide (((i : Nat) : Int) < (((ps.length : Nat) : Int))))) (.pointer (some ⟨bg, 1, none⟩)) rfl rfl rfl (may_b ((decide (((i : Nat) : Int) < (((ps.length : Nat) : Int))))) true) (fun hp => ox_fieldAddr (b := bg) (o := 0) tF_31_1 (if_pos (α := Value) (t := (.pointer (some ⟨bg, 0, none⟩))) (e := undef) hp) ⟨rfl, rfl⟩) ?_
    refine xl_may (P := Try.prog) (some 39) (j := 4) (b := true) (((decide (((i : Nat) : Int) < (((ps.length : Nat) : Int))))) = true) (.bool (decide (((i : Nat) : Int) < (((ps.length : Nat) : Int))))) (.slice An ts.length cn) rfl rfl rfl (may_b ((decide (((i : Nat) : Int) < (((ps.length : Nat) : Int))))) true) (fun hp => ox_load (v := (.slice An ts.length cn)) tA_28 (if_pos (α := Value) (t := (.pointer (some ⟨bg, 1, none⟩))) (e := undef) hp) ((hGM.g.ext x_f1).cell rfl) ⟨rfl, rfl⟩) ?_
    refine xl_may (P := Try.prog) (some 40) (j := 4) (b := true) (((decide (((i : Nat) : Int) < (((ps.length : Nat) : Int))))) = true) (.bool (decide (((i : Nat) : Int) < (((ps.length : Nat) : Int))))) (.int .i64 (((ts.length : Nat) : Int))) rfl rfl rfl (may_b ((decide (((i : Nat) : Int) < (((ps.length : Nat) : Int))))) true) (fun hp => ox_len (A := An) (n := ts.length) (cp := cn) rfl tU_28 (if_pos (α := Value) (t := (.slice An ts.length cn)) (e := undef) hp) ⟨rfl, rfl⟩) ?_
    refine xl_may (P := Try.prog) (some 41) (j := 4) (b := true) (((decide (((i : Nat) : Int) < (((ps.length : Nat) : Int))))) = true) (.bool (decide (((i : Nat) : Int) < (((ps.length : Nat) : Int))))) (.bool (decide ((0 : Int) < (((ts.length : Nat) : Int))))) rfl rfl rfl (may_b ((decide (((i : Nat) : Int) < (((ps.length : Nat) : Int))))) true) (fun hp => ox_gtr (k := .i64) (a := (((ts.length : Nat) : Int))) (b := 0) (if_pos (α := Value) (t := (.int .i64 (((ts.length : Nat) : Int)))) (e := undef) hp) rfl ⟨rfl, rfl⟩) ?_
    refine xl_op (P := Try.prog) (some 42) rfl rfl (ox_pick_and (a := ((decide (((i : Nat) : Int) < (((ps.length : Nat) : Int)))))) (b := ((decide ((0 : Int) < (((ts.length : Nat) : Int)))))) rfl (fun ha => (if_pos (α := Value) (t := (.bool (decide ((0 : Int) < (((ts.length : Nat) : Int)))))) (e := undef) ha)) rfl ?_)
    refine xl_nil ?_
    refine xc_cond (b := (((decide (((i : Nat) : Int) < (((ps.length : Nat) : Int))))) && ((decide ((0 : Int) < (((ts.length : Nat) : Int))))))) rfl (fun h1 => ?_) (fun h1 => ?_)
    · skip
      have h1' := h1
      try simp only [Bool.or_eq_true, Bool.and_eq_true, decide_eq_true_eq, Bool.or_eq_false_iff, Bool.and_eq_false_iff, decide_eq_false_iff_not, Bool.not_eq_true', Bool.not_eq_false'] at h1'
      have hil : i < ps.length := by omega
      have htp : 0 < ts.length := by omega
      obtain ⟨p, hp⟩ := get_ex (l := ps) (i := i) hil
      obtain ⟨g1, o1, rfl⟩ := hA1.ex (by intro hh; cases ps with | nil => simp at hp | cons q l => simp [prC, prCs] at hh)
      have hcpr : CellsL w g1 (o1 + i * 2) [.int .i64 p.1, .int .i64 p.2] := cellsL_flat prCs 2 (fun _ => rfl) hA1.cells hp
      obtain ⟨qa, hqa⟩ := mod_nat p.1 htp
      have hqa2 := mod_lt hqa htp
      obtain ⟨qb, hqb⟩ := mod_nat p.2 htp
      have hqb2 := mod_lt hqb htp
      obtain ⟨gn, gp, ta, ua, rfl, rfl, hta, hua, hcna, hcpa, hPa, hRa, hWa, hsa, hsua, hska⟩ := hGM.at hqa2
      obtain ⟨gn2, gp2, tb, ub, e8, e9, htb, hub, hcnb, hcpb, hPb, hRb, hWb, hsb, hsub, hskb⟩ := hGM.at hqb2
      cases e8; cases e9
      have hsa4 : sz ta ≤ 4194304 := by omega
      have hsb4 : sz tb ≤ 4194304 := by omega
      have hsua4 : sz ua ≤ 4194304 := by omega
      have hsub4 : sz ub ≤ 4194304 := by omega
      obtain ⟨Lm, hLm⟩ : ∃ l, l = (rl ta).map T.id := ⟨_, rfl⟩
      obtain ⟨Mm, hMm⟩ : ∃ l, l = (rl tb).map T.id := ⟨_, rfl⟩
      have hll : (rl ta).length = Lm.length := by rw [hLm, List.length_map]
      have hml : (rl tb).length = Mm.length := by rw [hMm, List.length_map]
      obtain ⟨H, hH⟩ : ∃ H, H = hunks (ids (leafI ta)) (ids (leafI tb)) := ⟨_, rfl⟩
      have hHL : H = hunks Lm Mm := by rw [hH, leafI_id2 hWa, leafI_id2 hWb, ← hLm, ← hMm]
      obtain ⟨S, hS⟩ : ∃ S, S = spans (rl tb) H := ⟨_, rfl⟩
      have hHl : H.length ≤ 1501 := by have h1 := hunks_len Lm Mm; have h2 := rl_len ta; rw [← hHL] at h1; omega
      have hSl : S.length ≤ 1501 := by have h3 := spans_len (rl tb) H; rw [← hS] at h3; omega
      have hrlb := rl_len tb; have hrla := rl_len ta
      refine xc_skip ?_
      refine xc_seq ?_
      refine xc_block ?_
      refine xc_seq ?_
      refine xc_regionE [] (fun W_ => Chg (fun _ => False) w2 W_) hmix ?_
      intro w3 e2 z1
      have hS1 : Chg (fun _ => False) w2 w3 := Ext.to e2
      refine xd_pure 0 (some 45) rfl rfl (by kernel_rfl) (v := (.pointer (some ⟨bg, 0, none⟩))) (.inl ⟨rfl, fun W_ hW_ => ox_move (v := (.pointer (some ⟨bg, 0, none⟩))) g5_f1 ⟨rfl, rfl⟩⟩) ?_
      refine xd_pure 1 (some 46) rfl rfl (by kernel_rfl) (v := (.pointer (some ⟨bg, 0, none⟩))) (.inl ⟨rfl, fun W_ hW_ => ox_nilCheck (p := ⟨bg, 0, none⟩) rfl ⟨rfl, rfl⟩⟩) ?_
      refine xd_pure 2 (some 47) rfl rfl (by kernel_rfl) (v := (.pointer (some ⟨bg, 1, none⟩))) (.inl ⟨rfl, fun W_ hW_ => ox_fieldAddr (b := bg) (o := 0) tF_31_1 rfl ⟨rfl, rfl⟩⟩) ?_
      refine xd_take 3 (some 48) rfl rfl (by kernel_rfl) (v := (.slice (some ⟨gn, 0, none⟩) ts.length cn)) (.inl ⟨rfl, fun W_ hW_ => ox_load (v := (.slice (some ⟨gn, 0, none⟩) ts.length cn)) tA_28 rfl (((hGM.g.ext x_f1).ext hW_).cell rfl) ⟨rfl, rfl⟩⟩) hS1 ?_
      refine xd_pure 4 (some 49) rfl rfl (by kernel_rfl) (v := (.slice (some ⟨g1, o1, none⟩) ps.length c1)) (.inl ⟨rfl, fun W_ hW_ => ox_move (v := (.slice (some ⟨g1, o1, none⟩) ps.length c1)) g1_f1 ⟨rfl, rfl⟩⟩) ?_
      refine xd_pure 5 (some 50) rfl rfl (by kernel_rfl) (v := (.int .i64 ((i : Nat)))) (.inl ⟨rfl, fun W_ hW_ => ox_move (v := (.int .i64 ((i : Nat)))) g7_f1 ⟨rfl, rfl⟩⟩) ?_
      refine xd_pure 6 (some 51) rfl rfl (by kernel_rfl) (v := (.pointer (some ⟨g1, o1 + i * 2, none⟩))) (.inl ⟨rfl, fun W_ hW_ => ox_indexAddr (b := g1) (o := o1) (i := ((i : Nat))) tE_23 rfl rfl (by omega) (by omega) ⟨rfl, rfl⟩⟩) ?_
      refine xd_pure 7 (some 52) rfl rfl (by kernel_rfl) (v := (.pointer (some ⟨g1, o1 + i * 2, none⟩))) (.inl ⟨rfl, fun W_ hW_ => ox_indexArr (b := g1) (o := (o1 + i * 2)) (i := 0) tV_33 rfl rfl (by decide) (by decide) ⟨rfl, rfl⟩⟩) ?_
      refine xd_take 8 (some 53) rfl rfl (by kernel_rfl) (v := (.int .i64 p.1)) (.inl ⟨rfl, fun W_ hW_ => ox_load (v := (.int .i64 p.1)) tA_3 rfl (CellsL.keep (Ext.trans (Ext.trans hEx1 x_f1) hW_) not_false hcpr).1 ⟨rfl, rfl⟩⟩) hS1 ?_
      refine xd_pure 9 (some 54) rfl rfl (by kernel_rfl) (v := (.pointer (some ⟨bg, 0, none⟩))) (.inl ⟨rfl, fun W_ hW_ => ox_move (v := (.pointer (some ⟨bg, 0, none⟩))) g5_f1 ⟨rfl, rfl⟩⟩) ?_
      refine xd_pure 10 (some 55) rfl rfl (by kernel_rfl) (v := (.pointer (some ⟨bg, 0, none⟩))) (.inl ⟨rfl, fun W_ hW_ => ox_nilCheck (p := ⟨bg, 0, none⟩) rfl ⟨rfl, rfl⟩⟩) ?_
      refine xd_pure 11 (some 56) rfl rfl (by kernel_rfl) (v := (.pointer (some ⟨bg, 1, none⟩))) (.inl ⟨rfl, fun W_ hW_ => ox_fieldAddr (b := bg) (o := 0) tF_31_1 rfl ⟨rfl, rfl⟩⟩) ?_
      refine xd_take 12 (some 57) rfl rfl (by kernel_rfl) (v := (.slice (some ⟨gn, 0, none⟩) ts.length cn)) (.inl ⟨rfl, fun W_ hW_ => ox_load (v := (.slice (some ⟨gn, 0, none⟩) ts.length cn)) tA_28 rfl (((hGM.g.ext x_f1).ext hW_).cell rfl) ⟨rfl, rfl⟩⟩) hS1 ?_
      refine xd_pure 13 (some 58) rfl rfl (by kernel_rfl) (v := (.int .i64 (((ts.length : Nat) : Int)))) (.inl ⟨rfl, fun W_ hW_ => ox_len (A := (some ⟨gn, 0, none⟩)) (n := ts.length) (cp := cn) rfl tU_28 rfl ⟨rfl, rfl⟩⟩) ?_
      refine xd_take 14 (some 59) rfl rfl (by kernel_rfl) (v := (.int .i64 ((qa : Nat)))) (.inl ⟨rfl, fun W_ hW_ => ox_callE (al := [(.int .i64 p.1), (.int .i64 (((ts.length : Nat) : Int)))]) pf_14 rfl (ret_mono ((by have h := within_calls p.1 ((ts.length : Nat) : Int) W_ (by omega); rw [hqa] at h; exact h)) (by rintro _ _ ⟨rfl, rfl⟩; exact ⟨rfl, rfl⟩))⟩) hS1 ?_
      refine xd_pure 15 (some 60) rfl rfl (by kernel_rfl) (v := (.pointer (some ⟨gn, 0 + ((qa : Nat) : Int).toNat * 1, none⟩))) (.inl ⟨rfl, fun W_ hW_ => ox_indexAddr (b := gn) (o := 0) (i := ((qa : Nat))) tE_28 rfl rfl (by omega) (by omega) ⟨rfl, rfl⟩⟩) ?_
      refine xd_take 16 (some 61) rfl rfl (by kernel_rfl) (v := (.pointer (some ⟨ta.b, 0, none⟩))) (.inl ⟨rfl, fun W_ hW_ => ox_load (v := (.pointer (some ⟨ta.b, 0, none⟩))) tA_36 rfl (by simpa [T.ptr] using Ext.cell hcna (Ext.trans x_f1 hW_)) ⟨rfl, rfl⟩⟩) hS1 ?_
      refine xd_pure 17 (some 8) rfl rfl (by kernel_rfl) (v := (.pointer (some ⟨ta.b, 0, none⟩))) (.inl ⟨rfl, fun W_ hW_ => ox_assign (v := (.pointer (some ⟨ta.b, 0, none⟩))) rfl ⟨rfl, rfl⟩⟩) ?_
      refine xd_done (by kernel_rfl) ?_ _
      refine xc_seq ?_
      refine xc_regionE [] (fun W_ => Chg (fun _ => False) w3 W_) hmix ?_
      intro w4 e3 z2
      have hS2 : Chg (fun _ => False) w3 w4 := Ext.to e3
      refine xd_pure 0 (some 62) rfl rfl (by kernel_rfl) (v := (.pointer (some ⟨bg, 0, none⟩))) (.inl ⟨rfl, fun W_ hW_ => ox_move (v := (.pointer (some ⟨bg, 0, none⟩))) g5_f1 ⟨rfl, rfl⟩⟩) ?_
      refine xd_pure 1 (some 63) rfl rfl (by kernel_rfl) (v := (.pointer (some ⟨bg, 0, none⟩))) (.inl ⟨rfl, fun W_ hW_ => ox_nilCheck (p := ⟨bg, 0, none⟩) rfl ⟨rfl, rfl⟩⟩) ?_
      refine xd_pure 2 (some 64) rfl rfl (by kernel_rfl) (v := (.pointer (some ⟨bg, 1, none⟩))) (.inl ⟨rfl, fun W_ hW_ => ox_fieldAddr (b := bg) (o := 0) tF_31_1 rfl ⟨rfl, rfl⟩⟩) ?_
      refine xd_take 3 (some 65) rfl rfl (by kernel_rfl) (v := (.slice (some ⟨gn, 0, none⟩) ts.length cn)) (.inl ⟨rfl, fun W_ hW_ => ox_load (v := (.slice (some ⟨gn, 0, none⟩) ts.length cn)) tA_28 rfl ((((hGM.g.ext x_f1).ext e2).ext hW_).cell rfl) ⟨rfl, rfl⟩⟩) hS2 ?_
      refine xd_pure 4 (some 66) rfl rfl (by kernel_rfl) (v := (.slice (some ⟨g1, o1, none⟩) ps.length c1)) (.inl ⟨rfl, fun W_ hW_ => ox_move (v := (.slice (some ⟨g1, o1, none⟩) ps.length c1)) g1_f1 ⟨rfl, rfl⟩⟩) ?_
      refine xd_pure 5 (some 67) rfl rfl (by kernel_rfl) (v := (.int .i64 ((i : Nat)))) (.inl ⟨rfl, fun W_ hW_ => ox_move (v := (.int .i64 ((i : Nat)))) g7_f1 ⟨rfl, rfl⟩⟩) ?_
      refine xd_pure 6 (some 68) rfl rfl (by kernel_rfl) (v := (.pointer (some ⟨g1, o1 + i * 2, none⟩))) (.inl ⟨rfl, fun W_ hW_ => ox_indexAddr (b := g1) (o := o1) (i := ((i : Nat))) tE_23 rfl rfl (by omega) (by omega) ⟨rfl, rfl⟩⟩) ?_
      refine xd_pure 7 (some 69) rfl rfl (by kernel_rfl) (v := (.pointer (some ⟨g1, o1 + i * 2 + 1, none⟩))) (.inl ⟨rfl, fun W_ hW_ => ox_indexArr (b := g1) (o := (o1 + i * 2)) (i := 1) tV_33 rfl rfl (by decide) (by decide) ⟨rfl, rfl⟩⟩) ?_
      refine xd_take 8 (some 70) rfl rfl (by kernel_rfl) (v := (.int .i64 p.2)) (.inl ⟨rfl, fun W_ hW_ => ox_load (v := (.int .i64 p.2)) tA_3 rfl (CellsL.keep (Ext.trans (Ext.trans (Ext.trans hEx1 x_f1) e2) hW_) not_false hcpr).2.1 ⟨rfl, rfl⟩⟩) hS2 ?_
      refine xd_pure 9 (some 71) rfl rfl (by kernel_rfl) (v := (.pointer (some ⟨bg, 0, none⟩))) (.inl ⟨rfl, fun W_ hW_ => ox_move (v := (.pointer (some ⟨bg, 0, none⟩))) g5_f1 ⟨rfl, rfl⟩⟩) ?_
      refine xd_pure 10 (some 72) rfl rfl (by kernel_rfl) (v := (.pointer (some ⟨bg, 0, none⟩))) (.inl ⟨rfl, fun W_ hW_ => ox_nilCheck (p := ⟨bg, 0, none⟩) rfl ⟨rfl, rfl⟩⟩) ?_
      refine xd_pure 11 (some 73) rfl rfl (by kernel_rfl) (v := (.pointer (some ⟨bg, 1, none⟩))) (.inl ⟨rfl, fun W_ hW_ => ox_fieldAddr (b := bg) (o := 0) tF_31_1 rfl ⟨rfl, rfl⟩⟩) ?_
      refine xd_take 12 (some 74) rfl rfl (by kernel_rfl) (v := (.slice (some ⟨gn, 0, none⟩) ts.length cn)) (.inl ⟨rfl, fun W_ hW_ => ox_load (v := (.slice (some ⟨gn, 0, none⟩) ts.length cn)) tA_28 rfl ((((hGM.g.ext x_f1).ext e2).ext hW_).cell rfl) ⟨rfl, rfl⟩⟩) hS2 ?_
      refine xd_pure 13 (some 75) rfl rfl (by kernel_rfl) (v := (.int .i64 (((ts.length : Nat) : Int)))) (.inl ⟨rfl, fun W_ hW_ => ox_len (A := (some ⟨gn, 0, none⟩)) (n := ts.length) (cp := cn) rfl tU_28 rfl ⟨rfl, rfl⟩⟩) ?_
      refine xd_take 14 (some 76) rfl rfl (by kernel_rfl) (v := (.int .i64 ((qb : Nat)))) (.inl ⟨rfl, fun W_ hW_ => ox_callE (al := [(.int .i64 p.2), (.int .i64 (((ts.length : Nat) : Int)))]) pf_14 rfl (ret_mono ((by have h := within_calls p.2 ((ts.length : Nat) : Int) W_ (by omega); rw [hqb] at h; exact h)) (by rintro _ _ ⟨rfl, rfl⟩; exact ⟨rfl, rfl⟩))⟩) hS2 ?_
      refine xd_pure 15 (some 77) rfl rfl (by kernel_rfl) (v := (.pointer (some ⟨gn, 0 + ((qb : Nat) : Int).toNat * 1, none⟩))) (.inl ⟨rfl, fun W_ hW_ => ox_indexAddr (b := gn) (o := 0) (i := ((qb : Nat))) tE_28 rfl rfl (by omega) (by omega) ⟨rfl, rfl⟩⟩) ?_
      refine xd_take 16 (some 78) rfl rfl (by kernel_rfl) (v := (.pointer (some ⟨tb.b, 0, none⟩))) (.inl ⟨rfl, fun W_ hW_ => ox_load (v := (.pointer (some ⟨tb.b, 0, none⟩))) tA_36 rfl (by simpa [T.ptr] using Ext.cell hcnb (Ext.trans (Ext.trans x_f1 e2) hW_)) ⟨rfl, rfl⟩⟩) hS2 ?_
      refine xd_pure 17 (some 9) rfl rfl (by kernel_rfl) (v := (.pointer (some ⟨tb.b, 0, none⟩))) (.inl ⟨rfl, fun W_ hW_ => ox_assign (v := (.pointer (some ⟨tb.b, 0, none⟩))) rfl ⟨rfl, rfl⟩⟩) ?_
      refine xd_done (by kernel_rfl) ?_ _
      refine xc_seq ?_
      refine xc_region ?_
      refine xl_op (P := Try.prog) (some 80) rfl rfl (ox_move (v := (.pointer (some ⟨ta.b, 0, none⟩))) rfl ?_)
      refine xl_op (P := Try.prog) (some 81) rfl rfl (ox_callE (al := [(.pointer (some ⟨ta.b, 0, none⟩))]) pf_34 rfl (ret_mono ((by have h := lvs_calls (.pointer (some ⟨s, 0, none⟩)) ta w4 (hPa.ext (Ext.trans (Ext.trans x_f1 e2) e3)) hWa hsa4; rw [← hLm, hll] at h; exact h)) ?_))
      rintro _ w5 ⟨Al, cl, Aq, cq9, rfl, hol, hoq9, e4⟩
      have he4 := e4.size
      refine xl_op (P := Try.prog) (some 79) rfl rfl (ox_move (v := (.tuple #[(.slice Al Lm.length cl), (.slice Aq ((Lm.length + 1)) cq9), (.bool true)])) rfl ?_)
      refine xl_op (P := Try.prog) (some 82) rfl rfl (ox_extract (vs := #[(.slice Al Lm.length cl), (.slice Aq ((Lm.length + 1)) cq9), (.bool true)]) (v := (.slice Al Lm.length cl)) rfl rfl ?_)
      refine xl_op (P := Try.prog) (some 83) rfl rfl (ox_extract (vs := #[(.slice Al Lm.length cl), (.slice Aq ((Lm.length + 1)) cq9), (.bool true)]) (v := (.slice Aq ((Lm.length + 1)) cq9)) rfl rfl ?_)
      refine xl_op (P := Try.prog) (some 84) rfl rfl (ox_extract (vs := #[(.slice Al Lm.length cl), (.slice Aq ((Lm.length + 1)) cq9), (.bool true)]) (v := (.bool true)) rfl rfl ?_)
      refine xl_op (P := Try.prog) (some 10) rfl rfl (ox_assign (v := (.slice Al Lm.length cl)) rfl ?_)
      refine xl_op (P := Try.prog) (some 11) rfl rfl (ox_assign (v := (.slice Aq ((Lm.length + 1)) cq9)) rfl ?_)
      refine xl_op (P := Try.prog) (some 12) rfl rfl (ox_assign (v := (.bool true)) rfl ?_)
      refine xl_nil ?_
      refine xc_seq ?_
      refine xc_region ?_
      refine xl_op (P := Try.prog) (some 86) rfl rfl (ox_move (v := (.pointer (some ⟨tb.b, 0, none⟩))) rfl ?_)
      refine xl_op (P := Try.prog) (some 87) rfl rfl (ox_callE (al := [(.pointer (some ⟨tb.b, 0, none⟩))]) pf_34 rfl (ret_mono ((by have h := lvs_calls (.pointer (some ⟨s, 0, none⟩)) tb w5 (hPb.ext (Ext.trans (Ext.trans (Ext.trans x_f1 e2) e3) e4)) hWb hsb4; rw [← hMm, hml] at h; exact h)) ?_))
      rintro _ w6 ⟨Am, cm, At, ct, rfl, hom, hot, e5⟩
      have he5 := e5.size
      refine xl_op (P := Try.prog) (some 85) rfl rfl (ox_move (v := (.tuple #[(.slice Am Mm.length cm), (.slice At ((Mm.length + 1)) ct), (.bool true)])) rfl ?_)
      refine xl_op (P := Try.prog) (some 88) rfl rfl (ox_extract (vs := #[(.slice Am Mm.length cm), (.slice At ((Mm.length + 1)) ct), (.bool true)]) (v := (.slice Am Mm.length cm)) rfl rfl ?_)
      refine xl_op (P := Try.prog) (some 89) rfl rfl (ox_extract (vs := #[(.slice Am Mm.length cm), (.slice At ((Mm.length + 1)) ct), (.bool true)]) (v := (.slice At ((Mm.length + 1)) ct)) rfl rfl ?_)
      refine xl_op (P := Try.prog) (some 90) rfl rfl (ox_extract (vs := #[(.slice Am Mm.length cm), (.slice At ((Mm.length + 1)) ct), (.bool true)]) (v := (.bool true)) rfl rfl ?_)
      refine xl_op (P := Try.prog) (some 13) rfl rfl (ox_assign (v := (.slice Am Mm.length cm)) rfl ?_)
      refine xl_op (P := Try.prog) (some 14) rfl rfl (ox_assign (v := (.slice At ((Mm.length + 1)) ct)) rfl ?_)
      refine xl_op (P := Try.prog) (some 15) rfl rfl (ox_assign (v := (.bool true)) rfl ?_)
      refine xl_nil ?_
      refine xc_seq ?_
      refine xc_region ?_
      refine xl_op (P := Try.prog) (some 91) rfl rfl (ox_move (v := (.pointer (some ⟨ta.b, 0, none⟩))) rfl ?_)
      refine xl_op (P := Try.prog) (some 92) rfl rfl (ox_move (v := (.pointer (some ⟨tb.b, 0, none⟩))) rfl ?_)
      refine xl_op (P := Try.prog) (some 93) rfl rfl (ox_callE (al := [(.pointer (some ⟨ta.b, 0, none⟩)), (.pointer (some ⟨tb.b, 0, none⟩))]) pf_15 rfl (ret_mono ((by have h := dLeaves_calls (.pointer (some ⟨s, 0, none⟩)) ta tb w6 (hPa.ext (Ext.trans (Ext.trans (Ext.trans (Ext.trans x_f1 e2) e3) e4) e5)) hWa hsa4 (hPb.ext (Ext.trans (Ext.trans (Ext.trans (Ext.trans x_f1 e2) e3) e4) e5)) hWb hsb4; rw [← hH] at h; exact h)) ?_))
      rintro _ w7 ⟨Ah, ch, rfl, hoh, hnh, e6⟩
      have he6 := e6.size
      refine xl_op (P := Try.prog) (some 16) rfl rfl (ox_assign (v := (.slice Ah H.length ch)) rfl ?_)
      refine xl_nil ?_
      refine xc_seq ?_
      refine xc_region ?_
      refine xl_op (P := Try.prog) (some 94) rfl rfl (ox_move (v := (.pointer (some ⟨ta.b, 0, none⟩))) rfl ?_)
      refine xl_op (P := Try.prog) (some 95) rfl rfl (ox_move (v := (.pointer (some ⟨tb.b, 0, none⟩))) rfl ?_)
      refine xl_op (P := Try.prog) (some 96) rfl rfl (ox_callE (al := [(.pointer (some ⟨ta.b, 0, none⟩)), (.pointer (some ⟨tb.b, 0, none⟩))]) pf_32 rfl (ret_mono (rangesF_calls ta.b tb.b w7) ?_))
      rintro _ w8 ⟨bx, by_, rfl, hbx, hby, hbxl, hbyl, e7⟩
      have he7 := e7.size
      have hbxlt := hbx.lt; have hbylt := hby.lt
      refine xl_op (P := Try.prog) (some 17) rfl rfl (ox_assign (v := (.func (.func 58) #[] #[(.pointer (some ⟨bx, 0, none⟩)), (.pointer (some ⟨by_, 0, none⟩))])) rfl ?_)
      refine xl_nil ?_
      refine xc_seq ?_
      refine xc_seq ?_
      refine xc_region ?_
      refine xl_op (P := Try.prog) (some 97) rfl rfl (ox_move (v := (.bool true)) rfl ?_)
      refine xl_op (P := Try.prog) (some 98) rfl rfl (ox_not (b := true) rfl ?_)
      refine xl_op (P := Try.prog) (some 99) rfl rfl (ox_move (v := (.bool false)) rfl ?_)
      refine xl_opg (P := Try.prog) (some 100) (j := 2) (b := false) rfl rfl rfl (ox_move (v := (.bool true)) rfl ?_)
      refine xl_opg (P := Try.prog) (some 101) (j := 2) (b := false) rfl rfl rfl (ox_not (b := true) rfl ?_)
      refine xl_op (P := Try.prog) (some 102) rfl rfl (ox_pick_f (v := (.bool false)) rfl rfl ?_)
      refine xl_op (P := Try.prog) (some 103) rfl rfl (ox_move (v := (.bool false)) rfl ?_)
      refine xl_opg (P := Try.prog) (some 104) (j := 6) (b := false) rfl rfl rfl (ox_move (v := (.func (.func 58) #[] #[(.pointer (some ⟨bx, 0, none⟩)), (.pointer (some ⟨by_, 0, none⟩))])) rfl ?_)
      refine xl_opg (P := Try.prog) (some 105) (j := 6) (b := false) rfl rfl rfl (ox_eqlNilFunc (ps := #[128]) (rs := #[]) (vr := false) (by kernel_rfl) rfl rfl ?_)
      refine xl_op (P := Try.prog) (some 106) rfl rfl (ox_pick_f (v := (.bool false)) rfl rfl ?_)
      refine xl_nil ?_
      refine xc_cond_f rfl ?_
      refine xc_skip ?_
      refine xc_seq ?_
      refine xc_region ?_
      refine xl_op (P := Try.prog) (some 18) rfl rfl (ox_alloc tZ_76 ?_)
      intro w9 e8 z3 b1
      replace b1 : Blk w9 w8.heap.size #[(.slice none 0 0)] 76 := b1
      refine xl_nil ?_
      refine xc_seq ?_
      refine xc_seq ?_
      obtain ⟨nb, hnb⟩ : ∃ b, b = w8.heap.size := ⟨_, rfl⟩
      have hBnb : Blk w9 nb #[(.slice none 0 0)] 76 := by subst hnb; exact b1
      have hLnb := hBnb.lt
      refine xc_region ?_
      refine xl_op (P := Try.prog) (some 107) rfl rfl (ox_move (v := (.func (.func 58) #[] #[(.pointer (some ⟨bx, 0, none⟩)), (.pointer (some ⟨by_, 0, none⟩))])) rfl ?_)
      refine xl_nil ?_
      refine xc_block ?_
      have hltr := (hBnb).lt
      have hwgz := ((Ext.trans (Ext.trans (Ext.trans (Ext.trans (Ext.trans (Ext.trans (Ext.trans x_f1 e2) e3) e4) e5) e6) e7) e8)).size
      have hitr := ranges_iter (X := fun _ => False) (B := nb) (stv := (.pointer (some ⟨s, 0, none⟩))) hH (hbx.ext e8) (hby.ext e8) (hPa.ext (Ext.trans (Ext.trans (Ext.trans (Ext.trans (Ext.trans (Ext.trans (Ext.trans x_f1 e2) e3) e4) e5) e6) e7) e8)) hWa hsa4 (hPb.ext (Ext.trans (Ext.trans (Ext.trans (Ext.trans (Ext.trans (Ext.trans (Ext.trans x_f1 e2) e3) e4) e5) e6) e7) e8)) hWb hsb4 (fun b hb => by have := PN.lt hPa b hb; omega) (fun b hb => by have := PN.lt hPb b hb; omega) (.inr (by omega)) (.inr (by omega)) (fun b h => h.elim) (by omega)
      rw [← hS] at hitr
      have hI0r : spJ w9 nb [] (fun _ => False) w9 := (show ∃ A c, SpJ w9 nb [] A c (fun _ => False) w9 from ⟨none, 0, hBnb, Vx.Own.nil _ _ _, fun b h => h.elim, fun k hk => by simp [Value.ownBlock] at hk, Chg.refl _ _⟩)
      refine xc_range (ps := #[108]) (α := Sn) (gf := 58) (lb := #[.pointer (some ⟨bx, 0, none⟩), .pointer (some ⟨by_, 0, none⟩)]) (encs := encS) (B := nb) (X0 := fun _ => False) (xs := S) rfl pf_58 (fun _ => rfl) hitr (by omega) (fun b h => h.elim) (spJ w9 nb) (fun _ _ _ _ => False) (spJ_stab hltr) (fun _ _ _ _ _ _ _ h => h.elim) hI0r ?_ ?_ ?_
      · intro l₁r pre₁ x₁ Yr Wr hprer hYr hYlr hl₁r hIr
        obtain ⟨Ar, cr, hK⟩ := hIr
        have hzK := hK.chg.size
        have hplr := prefix_lt hprer
        refine xc_region ?_
        refine xl_op (P := Try.prog) (some 19) rfl rfl (ox_alloc tZ_79 ?_)
        intro w10 e9 z4 b2
        replace b2 : Blk w10 Wr.heap.size #[(.int .i64 0), (.int .i64 0)] 79 := b2
        refine xl_op (P := Try.prog) none rfl rfl (ox_store (n := 2) (vs := [(.int .i64 x₁.frm), (.int .i64 x₁.to)]) tS_79 rfl (v := (.agg #[(.int .i64 x₁.frm), (.int .i64 x₁.to)])) rfl rfl rfl rfl b2 (Nat.le_of_ble_eq_true rfl) ?_)
        intro w11 e10 z5 b3
        replace b3 : Blk w11 Wr.heap.size #[(.int .i64 x₁.frm), (.int .i64 x₁.to)] 79 := blk_full b3 rfl
        refine xl_nil ?_
        refine ⟨rfl, rfl, (Chg.chg1 (Chg.ext (Chg.refl (fun b => ¬ Yr b ∧ nb ≤ b) Wr) e9) e10 (by first | exact .inl ⟨fun h => by have := hK.yl _ h; omega, by omega⟩ | exact .inl ⟨fun h => by have := (hYr _ h).2; omega, by omega⟩ | exact .inr (by omega))), fun W2r hcYr hsYr hlYr => ?_⟩
        have hszYr := hcYr.size
        refine xc_block ?_
        refine xc_region ?_
        have q1 := ((hK.blk.ext e9).keep1 e10 ((hK.blk.ext e9).ne b2 (by decide)))
        have q2 := (q1.keep hcYr (fun h => by have h1 := hK.yl _ h; omega))
        refine xl_op (P := Try.prog) (some 109) rfl rfl (ox_load (v := (.slice Ar pre₁.length cr)) tA_76 (by subst hnb; exact rfl) (q2.cell rfl) ?_)
        have q3 := (b3.keep hcYr (fun h => by have := (hYr _ h).2; omega))
        refine xl_op (P := Try.prog) (some 110) rfl rfl (ox_loadN (vs := [(.int .i64 x₁.frm), (.int .i64 x₁.to)]) tA_79 tS_79 rfl rfl ⟨q3.cell rfl, q3.cell rfl, trivial⟩ ?_)
        refine xl_op (P := Try.prog) (some 111) rfl rfl (ox_mkSlice (ps := [(0, (.agg #[(.int .i64 x₁.frm), (.int .i64 x₁.to)]))]) (zs := #[(.int .i64 0), (.int .i64 0)]) (cs := #[(.int .i64 x₁.frm), (.int .i64 x₁.to)]) tE_76 rfl (by decide) (by kernel_rfl) (by kernel_rfl) ?_)
        intro w12 e11 z6 b4
        replace b4 : Blk w12 W2r.heap.size #[(.int .i64 x₁.frm), (.int .i64 x₁.to)] 79 := b4
        have q4 := ((hK.own.ext e9).keep1 e10 (fun k hk => by have _q := (hK.own.lt) k hk; omega))
        have q5 := (q4.keep hcYr (fun _k _hk => (hK.no _k _hk).1))
        refine xl_op (P := Try.prog) (some 112) rfl rfl (ox_append (n := pre₁.length) (g := W2r.heap.size) (o := 0) (m := 1) (xs := ((snC pre₁))) (news := ([(.int .i64 x₁.frm), (.int .i64 x₁.to)])) rfl tE_76 rfl (by decide) (v := (.slice Ar pre₁.length cr)) rfl rfl (q5.ext e11) rfl b4.all rfl (by omega) (by omega) ?_)
        intro v1 w13 o1 e12 at1 nil1
        have he12 := e12.size
        obtain ⟨A1, c1, rfl, hc1⟩ := o1.shape
        have low1 : ∀ _k, (Value.slice A1 (pre₁.length + 1) c1).ownBlock = some _k → w9.heap.size ≤ _k := fun _k _h => by rcases at1 with _e | _e <;> rw [_e] at _h; exact (fun _k _h => (hK.no _k _h).2) _k _h; exact (by cases _h; omega)
        have q6 := ((q2.ext e11).keep e12 (fun _h => (q5.ext e11).ne_blk (q2.ext e11) (by decide) _ _h rfl))
        refine xl_op (P := Try.prog) none rfl rfl (ox_store (n := 1) (vs := [(.slice A1 (pre₁.length + 1) c1)]) tS_76 (by subst hnb; exact rfl) (v := (.slice A1 (pre₁.length + 1) c1)) rfl rfl rfl rfl q6 (Nat.le_of_ble_eq_true rfl) ?_)
        intro w14 e13 z7 b5
        replace b5 : Blk w14 nb #[(.slice A1 (pre₁.length + 1) c1)] 76 := b5
        refine xl_nil ?_
        have hszr8 := e9.size
        have hszr9 := e10.size
        have hszr10 := hcYr.size
        have hszr11 := e11.size
        have hszr12 := e12.size
        have hszr13 := e13.size
        have hq0 := b5
        have q7 := (o1.keep1 e13 (fun k hk => o1.ne_blk q6 (by decide) k hk))
        have hq1 := q7
        have hnew : ∀ k, (Value.slice A1 (pre₁.length + 1) c1).ownBlock = some k → ¬ Yr k ∧ w9.heap.size ≤ k := by
          intro k hk; rcases at1 with h9 | h9
          · rw [h9] at hk; exact hK.no k hk
          · rw [h9] at hk; cases hk; exact ⟨fun hy => by have := (hYr _ hy).2; omega, by omega⟩
        have hln : (pre₁ ++ [x₁]).length = pre₁.length + 1 := by simp
        refine ⟨(Chg.chg1 (Chg.trans (Chg.ext (Chg.refl (fun b => ¬ Yr b ∧ nb ≤ b) W2r) e11) e12 (fun b hb hl => ⟨(hK.no b hb).1, by have := (hK.no b hb).2; omega⟩)) e13 (by first | exact .inl ⟨fun h => by have := hK.yl _ h; omega, by omega⟩ | exact .inl ⟨fun h => by have := (hYr _ h).2; omega, by omega⟩ | exact .inr (by omega))), A1, c1, by rw [hln]; exact hq0, by rw [hln, snC_snoc]; exact hq1, hK.yl, by rw [hln]; exact hnew, (Chg.chg1 (Chg.trans (Chg.ext (Chg.trans (Chg.chg1 (Chg.ext hK.chg e9) e10 (by first | exact .inl rfl | exact .inr (by omega))) hcYr (fun b hb hl => absurd hl (by have := hK.yl b hb; omega))) e11) e12 (fun b hb hl => absurd hl (by have := (hK.no b hb).2; omega))) e13 (by first | exact .inl rfl | exact .inr (by omega)))⟩
      · skip
        intro D9 Yd Wd hwD9 hYd hYD9 hId hD9
        obtain ⟨Ar, cr, hK⟩ := hId
        have hzK := hK.chg.size
        refine xc_seq ?_
        refine xc_region ?_
        refine xl_op (P := Try.prog) (some 20) rfl rfl (ox_assign (v := (.int .i64 0)) rfl ?_)
        refine xl_nil ?_
        refine xc_seq ?_
        refine xc_region ?_
        refine xl_op (P := Try.prog) (some 21) rfl rfl (ox_assign (v := (.int .i64 0)) rfl ?_)
        refine xl_nil ?_
        refine xc_seq ?_
        refine xc_region ?_
        refine xl_op (P := Try.prog) (some 22) rfl rfl (ox_assign (v := (.int .i64 0)) rfl ?_)
        refine xl_nil ?_
        refine xc_seq ?_
        refine xc_seq ?_
        refine xc_region ?_
        refine xl_op (P := Try.prog) (some 23) rfl rfl (ox_assign (v := (.int .i64 0)) rfl ?_)
        refine xl_nil ?_
        refine xc_block ?_
        have q8 := (((((hol.ext e5).ext e6).ext e7).ext e8).keep1 hK.chg (fun k hk => ((((hol.ext e5).ext e6).ext e7).ext e8).ne_blk hBnb (by decide) k hk))
        have hru_ol := q8
        have q9 := ((((hom.ext e6).ext e7).ext e8).keep1 hK.chg (fun k hk => (((hom.ext e6).ext e7).ext e8).ne_blk hBnb (by decide) k hk))
        have hru_om := q9
        have q10 := ((((hot.ext e6).ext e7).ext e8).keep1 hK.chg (fun k hk => (((hot.ext e6).ext e7).ext e8).ne_blk hBnb (by decide) k hk))
        have hru_ot := q10
        have q11 := (((hoh.ext e7).ext e8).keep1 hK.chg (fun k hk => ((hoh.ext e7).ext e8).ne_blk hBnb (by decide) k hk))
        have hru_oh := q11
        have hru_osp := hK.own
        have hru_bnb := hK.blk
        have q12 := ((((hGM.g.ext x_f1).ext e2).ext e3).ext e4)
        have q13 := (((((q12.ext e5).ext e6).ext e7).ext e8).keep1 hK.chg (((((q12.ext e5).ext e6).ext e7).ext e8).ne hBnb (by decide)))
        have hru_bbg := q13
        have hEx2 := (Ext.chg1 (Ext.trans (Ext.trans (Ext.trans (Ext.trans (Ext.trans (Ext.trans (Ext.trans (Ext.trans hEx1 x_f1) e2) e3) e4) e5) e6) e7) e8) hK.chg (by omega))
        have hEx2z := hEx2.size
        have hEx3 := (Ext.chg1 (Ext.trans (Ext.trans (Ext.trans (Ext.trans (Ext.trans (Ext.trans (Ext.trans x_f1 e2) e3) e4) e5) e6) e7) e8) hK.chg (by omega))
        have hEx3z := hEx3.size
        have hEx4 := (Ext.chg1 (Ext.trans (Ext.trans (Ext.trans (Ext.trans (Ext.trans (Ext.trans e2 e3) e4) e5) e6) e7) e8) hK.chg (by omega))
        have hEx4z := hEx4.size
        refine xc_loopN (fun m f W => ∃ (k : Nat) (fr : Int) (into : Int), m = H.length + 1 - k ∧ k ≤ H.length + 1 ∧ gapAt Lm Mm H k fr into ∧ f 5 = (.pointer (some ⟨bg, 0, none⟩)) ∧ f 6 = (.bool true) ∧ f 7 = (.int .i64 ((i : Nat))) ∧ f 1 = (.slice (some ⟨g1, o1, none⟩) ps.length c1) ∧ f 10 = (.slice Al Lm.length cl) ∧ f 13 = (.slice Am Mm.length cm) ∧ f 14 = (.slice At ((Mm.length + 1)) ct) ∧ f 16 = (.slice Ah H.length ch) ∧ f 18 = (.pointer (some ⟨nb, 0, none⟩)) ∧ f 20 = (.int .i64 fr) ∧ f 21 = (.int .i64 into) ∧ f 22 = (.int .i64 ((((spans (rl tb) (H.take k)).length : Nat) : Int))) ∧ f 23 = (.int .i64 ((k : Nat))) ∧ Ext Wd W) (H.length + 1) ?_ ?_
        · exact ⟨0, 0, 0, by omega, by omega, by rw [hHL]; exact gap_start _ _, g5_f1, g6_f1, g7_f1, g1_f1, rfl, rfl, rfl, rfl, (by subst hnb; exact rfl), (by first | exact rfl | exact (congrArg (Value.int .i64) (by omega))), (by first | exact rfl | exact (congrArg (Value.int .i64) (by omega))), (by first | exact rfl | exact (congrArg (Value.int .i64) (by omega))), (by first | exact rfl | exact (congrArg (Value.int .i64) (by omega))), (Chg.refl _ _)⟩
        · rintro m f2 w15 ⟨k, fr, into, hm, hk, hg, g5_f2, g6_f2, g7_f2, g1_f2, g10_f2, g13_f2, g14_f2, g16_f2, g18_f2, g20_f2, g21_f2, g22_f2, g23_f2, x_f2⟩
          have hzU := x_f2.size
          refine xc_seq ?_
          refine xc_seq ?_
          refine xc_region ?_
          refine xl_op (P := Try.prog) (some 113) rfl rfl (ox_move (v := (.int .i64 ((k : Nat)))) g23_f2 ?_)
          refine xl_op (P := Try.prog) (some 114) rfl rfl (ox_move (v := (.slice Ah H.length ch)) g16_f2 ?_)
          refine xl_op (P := Try.prog) (some 115) rfl rfl (ox_len (A := Ah) (n := H.length) (cp := ch) rfl tU_34 rfl ?_)
          refine xl_op (P := Try.prog) (some 116) rfl rfl (ox_leq (k := .i64) (a := ((k : Nat))) (b := (((H.length : Nat) : Int))) rfl rfl ?_)
          refine xl_nil ?_
          refine xc_if (p := ((k : Nat) : Int) ≤ (((H.length : Nat) : Int))) rfl (fun h2 => ?_) (fun h2 => ?_)
          · skip
            refine xc_skip ?_
            refine xc_seq ?_
            refine xc_block ?_
            refine xc_seq ?_
            refine xc_region ?_
            refine xl_op (P := Try.prog) (some 119) rfl rfl (ox_move (v := (.slice Al Lm.length cl)) g10_f2 ?_)
            refine xl_op (P := Try.prog) (some 120) rfl rfl (ox_len (A := Al) (n := Lm.length) (cp := cl) rfl tU_42 rfl ?_)
            refine xl_op (P := Try.prog) (some 121) rfl rfl (ox_move (v := (.slice Al Lm.length cl)) g10_f2 ?_)
            refine xl_op (P := Try.prog) (some 122) rfl rfl (ox_len (A := Al) (n := Lm.length) (cp := cl) rfl tU_42 rfl ?_)
            refine xl_op (P := Try.prog) (some 123) rfl rfl (ox_move (v := (.slice Am Mm.length cm)) g13_f2 ?_)
            refine xl_op (P := Try.prog) (some 124) rfl rfl (ox_len (A := Am) (n := Mm.length) (cp := cm) rfl tU_42 rfl ?_)
            refine xl_op (P := Try.prog) (some 125) rfl rfl (ox_move (v := (.slice Am Mm.length cm)) g13_f2 ?_)
            refine xl_op (P := Try.prog) (some 126) rfl rfl (ox_len (A := Am) (n := Mm.length) (cp := cm) rfl tU_42 rfl ?_)
            refine xl_op (P := Try.prog) (some 127) rfl rfl (ox_mkStruct (ps := [(0, (.int .i64 (((Lm.length : Nat) : Int)))), (1, (.int .i64 (((Lm.length : Nat) : Int)))), (2, (.int .i64 (((Mm.length : Nat) : Int)))), (3, (.int .i64 (((Mm.length : Nat) : Int))))]) (cs := #[(.int .i64 (((Lm.length : Nat) : Int))), (.int .i64 (((Lm.length : Nat) : Int))), (.int .i64 (((Mm.length : Nat) : Int))), (.int .i64 (((Mm.length : Nat) : Int)))]) tZ_40 tP_40 rfl (by kernel_rfl) ?_)
            refine xl_op (P := Try.prog) (some 24) rfl rfl (ox_alloc tZ_40 ?_)
            intro w16 e14 z8 b6
            replace b6 : Blk w16 w15.heap.size #[(.int .i64 0), (.int .i64 0), (.int .i64 0), (.int .i64 0)] 40 := b6
            refine xl_op (P := Try.prog) none rfl rfl (ox_store (n := 4) (vs := [(.int .i64 (((Lm.length : Nat) : Int))), (.int .i64 (((Lm.length : Nat) : Int))), (.int .i64 (((Mm.length : Nat) : Int))), (.int .i64 (((Mm.length : Nat) : Int)))]) tS_40 rfl (v := (.agg #[(.int .i64 (((Lm.length : Nat) : Int))), (.int .i64 (((Lm.length : Nat) : Int))), (.int .i64 (((Mm.length : Nat) : Int))), (.int .i64 (((Mm.length : Nat) : Int)))])) rfl rfl rfl rfl b6 (Nat.le_of_ble_eq_true rfl) ?_)
            intro w17 e15 z9 b7
            replace b7 : Blk w17 w15.heap.size #[(.int .i64 (((Lm.length : Nat) : Int))), (.int .i64 (((Lm.length : Nat) : Int))), (.int .i64 (((Mm.length : Nat) : Int))), (.int .i64 (((Mm.length : Nat) : Int)))] 40 := blk_full b7 rfl
            refine xl_nil ?_
            refine xc_seq ?_
            refine xc_seq ?_
            obtain ⟨v24, hv24⟩ : ∃ b, b = w15.heap.size := ⟨_, rfl⟩
            have hBv24 : Blk w17 v24 #[(.int .i64 (((Lm.length : Nat) : Int))), (.int .i64 (((Lm.length : Nat) : Int))), (.int .i64 (((Mm.length : Nat) : Int))), (.int .i64 (((Mm.length : Nat) : Int)))] 40 := by subst hv24; exact b7
            have hLv24 := hBv24.lt
            refine xc_region ?_
            refine xl_op (P := Try.prog) (some 128) rfl rfl (ox_move (v := (.int .i64 ((k : Nat)))) g23_f2 ?_)
            refine xl_op (P := Try.prog) (some 129) rfl rfl (ox_move (v := (.slice Ah H.length ch)) g16_f2 ?_)
            refine xl_op (P := Try.prog) (some 130) rfl rfl (ox_len (A := Ah) (n := H.length) (cp := ch) rfl tU_34 rfl ?_)
            refine xl_op (P := Try.prog) (some 131) rfl rfl (ox_lss (k := .i64) (a := ((k : Nat))) (b := (((H.length : Nat) : Int))) rfl rfl ?_)
            refine xl_nil ?_
            refine xc_cut (fun f' W' => ∃ xh : Hk, f' 5 = (.pointer (some ⟨bg, 0, none⟩)) ∧ f' 6 = (.bool true) ∧ f' 7 = (.int .i64 ((i : Nat))) ∧ f' 1 = (.slice (some ⟨g1, o1, none⟩) ps.length c1) ∧ f' 10 = (.slice Al Lm.length cl) ∧ f' 13 = (.slice Am Mm.length cm) ∧ f' 14 = (.slice At ((Mm.length + 1)) ct) ∧ f' 16 = (.slice Ah H.length ch) ∧ f' 18 = (.pointer (some ⟨nb, 0, none⟩)) ∧ f' 20 = (.int .i64 fr) ∧ f' 21 = (.int .i64 into) ∧ f' 22 = (.int .i64 ((((spans (rl tb) (H.take k)).length : Nat) : Int))) ∧ f' 23 = (.int .i64 ((k : Nat))) ∧ f' 24 = (.pointer (some ⟨v24, 0, none⟩)) ∧ Blk W' v24 #[.int .i64 xh.frm, .int .i64 xh.to, .int .i64 xh.into, .int .i64 xh.upto] 40 ∧ GapX Lm Mm H k fr into xh ∧ (H[k]? = some xh ∨ (k = H.length ∧ xh = ⟨(Lm.length : Nat), (Lm.length : Nat), (Mm.length : Nat), (Mm.length : Nat)⟩)) ∧ Chg1 v24 w17 W') ?_ ?_
            · skip
              refine xc_if (p := ((k : Nat) : Int) < (((H.length : Nat) : Int))) rfl (fun h3 => ?_) (fun h3 => ?_)
              · skip
                obtain ⟨h, hh⟩ := get_ex (l := H) (i := k) (by omega)
                obtain ⟨hX, hne9, hst9⟩ := gap_real hg hh
                have hb9 := hX.bd; have hr9 := hX.run.le
                have q14 := (((Vx.Own.ext hru_oh x_f2).ext e14).keep1 e15 (fun k hk => by have _q := ((Vx.Own.ext hru_oh x_f2).lt) k hk; omega))
                obtain ⟨gh, ch9, heqh, _⟩ := q14.some_of (by omega)
                simp only [Value.slice.injEq, true_and] at heqh
                obtain ⟨rfl, rfl⟩ := heqh
                refine xc_seq ?_
                refine xc_region ?_
                refine xl_op (P := Try.prog) (some 132) rfl rfl (ox_move (v := (.slice (some ⟨gh, 0, none⟩) H.length ch)) g16_f2 ?_)
                refine xl_op (P := Try.prog) (some 133) rfl rfl (ox_move (v := (.int .i64 ((k : Nat)))) g23_f2 ?_)
                refine xl_op (P := Try.prog) (some 134) rfl rfl (ox_indexAddr (b := gh) (o := 0) (i := ((k : Nat))) tE_34 rfl rfl (by omega) (by omega) ?_)
                refine xl_op (P := Try.prog) (some 135) rfl rfl (ox_loadN (vs := [(.int .i64 h.frm), (.int .i64 h.to), (.int .i64 h.into), (.int .i64 h.upto)]) tA_40 tS_40 rfl rfl (by simpa [hkCs] using Own.hk q14 hh) ?_)
                refine xl_op (P := Try.prog) none rfl rfl (ox_store (n := 4) (vs := [(.int .i64 h.frm), (.int .i64 h.to), (.int .i64 h.into), (.int .i64 h.upto)]) tS_40 (by subst hv24; exact rfl) (v := (.agg #[(.int .i64 h.frm), (.int .i64 h.to), (.int .i64 h.into), (.int .i64 h.upto)])) rfl rfl rfl rfl hBv24 (Nat.le_of_ble_eq_true rfl) ?_)
                intro w18 e16 z10 b8
                replace b8 : Blk w18 v24 #[(.int .i64 h.frm), (.int .i64 h.to), (.int .i64 h.into), (.int .i64 h.upto)] 40 := blk_full b8 rfl
                refine xl_nil ?_
                refine xc_seq ?_
                by_cases hft : h.frm = h.to
                · skip
                  by_cases hk0 : 0 < k
                  · skip
                    refine xc_region ?_
                    refine xl_op (P := Try.prog) (some 136) rfl rfl (ox_fieldAddr (b := v24) (o := 0) tF_40_0 (by subst hv24; exact rfl) ?_)
                    refine xl_op (P := Try.prog) (some 137) rfl rfl (ox_load (v := (.int .i64 h.frm)) tA_3 rfl (b8.cell rfl) ?_)
                    refine xl_op (P := Try.prog) (some 138) rfl rfl (ox_fieldAddr (b := v24) (o := 0) tF_40_1 (by subst hv24; exact rfl) ?_)
                    refine xl_op (P := Try.prog) (some 139) rfl rfl (ox_load (v := (.int .i64 h.to)) tA_3 rfl (b8.cell rfl) ?_)
                    refine xl_op (P := Try.prog) (some 140) rfl rfl (ox_gtr (k := .i64) (a := h.frm) (b := h.to) rfl rfl ?_)
                    refine xl_op (P := Try.prog) (some 141) rfl rfl (ox_move (v := (.bool (decide ((h.to : Int) < h.frm)))) rfl ?_)
                    refine xl_opg (P := Try.prog) (some 142) (j := 5) (b := false) rfl rfl (congrArg some (decide_eq_false (by omega))) (ox_fieldAddr (b := v24) (o := 0) tF_40_2 (by subst hv24; exact rfl) ?_)
                    refine xl_opg (P := Try.prog) (some 143) (j := 5) (b := false) rfl rfl (congrArg some (decide_eq_false (by omega))) (ox_load (v := (.int .i64 h.into)) tA_3 rfl (b8.cell rfl) ?_)
                    refine xl_opg (P := Try.prog) (some 144) (j := 5) (b := false) rfl rfl (congrArg some (decide_eq_false (by omega))) (ox_fieldAddr (b := v24) (o := 0) tF_40_3 (by subst hv24; exact rfl) ?_)
                    refine xl_opg (P := Try.prog) (some 145) (j := 5) (b := false) rfl rfl (congrArg some (decide_eq_false (by omega))) (ox_load (v := (.int .i64 h.upto)) tA_3 rfl (b8.cell rfl) ?_)
                    refine xl_opg (P := Try.prog) (some 146) (j := 5) (b := false) rfl rfl (congrArg some (decide_eq_false (by omega))) (ox_gtr (k := .i64) (a := h.into) (b := h.upto) rfl rfl ?_)
                    refine xl_op (P := Try.prog) (some 147) rfl rfl (ox_pick_f (v := (.bool (decide ((h.upto : Int) < h.into)))) (congrArg Value.bool (decide_eq_false (by omega))) rfl ?_)
                    refine xl_op (P := Try.prog) (some 148) rfl rfl (ox_move (v := (.bool (decide ((h.upto : Int) < h.into)))) rfl ?_)
                    refine xl_opg (P := Try.prog) (some 149) (j := 12) (b := false) rfl rfl (congrArg some (decide_eq_false (by omega))) (ox_fieldAddr (b := v24) (o := 0) tF_40_0 (by subst hv24; exact rfl) ?_)
                    refine xl_opg (P := Try.prog) (some 150) (j := 12) (b := false) rfl rfl (congrArg some (decide_eq_false (by omega))) (ox_load (v := (.int .i64 h.frm)) tA_3 rfl (b8.cell rfl) ?_)
                    refine xl_opg (P := Try.prog) (some 151) (j := 12) (b := false) rfl rfl (congrArg some (decide_eq_false (by omega))) (ox_fieldAddr (b := v24) (o := 0) tF_40_1 (by subst hv24; exact rfl) ?_)
                    refine xl_opg (P := Try.prog) (some 152) (j := 12) (b := false) rfl rfl (congrArg some (decide_eq_false (by omega))) (ox_load (v := (.int .i64 h.to)) tA_3 rfl (b8.cell rfl) ?_)
                    refine xl_opg (P := Try.prog) (some 153) (j := 12) (b := false) rfl rfl (congrArg some (decide_eq_false (by omega))) (ox_eql (k := .i64) (a := h.frm) (b := h.to) rfl rfl ?_)
                    refine xl_opg (P := Try.prog) (some 154) (j := 12) (b := false) rfl rfl (congrArg some (decide_eq_false (by omega))) (ox_move (v := (.bool (decide ((h.frm : Int) = h.to)))) rfl ?_)
                    refine xl_opg (P := Try.prog) (some 155) (j := 18) (b := true) rfl rfl (congrArg some (decide_eq_true (by omega))) (ox_fieldAddr (b := v24) (o := 0) tF_40_2 (by subst hv24; exact rfl) ?_)
                    refine xl_opg (P := Try.prog) (some 156) (j := 18) (b := true) rfl rfl (congrArg some (decide_eq_true (by omega))) (ox_load (v := (.int .i64 h.into)) tA_3 rfl (b8.cell rfl) ?_)
                    refine xl_opg (P := Try.prog) (some 157) (j := 18) (b := true) rfl rfl (congrArg some (decide_eq_true (by omega))) (ox_fieldAddr (b := v24) (o := 0) tF_40_3 (by subst hv24; exact rfl) ?_)
                    refine xl_opg (P := Try.prog) (some 158) (j := 18) (b := true) rfl rfl (congrArg some (decide_eq_true (by omega))) (ox_load (v := (.int .i64 h.upto)) tA_3 rfl (b8.cell rfl) ?_)
                    refine xl_opg (P := Try.prog) (some 159) (j := 18) (b := true) rfl rfl (congrArg some (decide_eq_true (by omega))) (ox_eql (k := .i64) (a := h.into) (b := h.upto) rfl rfl ?_)
                    refine xl_opg (P := Try.prog) (some 160) (j := 12) (b := false) rfl rfl (congrArg some (decide_eq_false (by omega))) (ox_pick_t (v := (.bool (decide ((h.into : Int) = h.upto)))) (congrArg Value.bool (decide_eq_true (by omega))) rfl ?_)
                    refine xl_op (P := Try.prog) (some 161) rfl rfl (ox_pick_f (v := (.bool (decide ((h.into : Int) = h.upto)))) (congrArg Value.bool (decide_eq_false (by omega))) rfl ?_)
                    refine xl_op (P := Try.prog) (some 162) rfl rfl (ox_move (v := (.bool (decide ((h.into : Int) = h.upto)))) rfl ?_)
                    refine xl_opg (P := Try.prog) (some 163) (j := 26) (b := false) rfl rfl (congrArg some (decide_eq_false (by omega))) (ox_move (v := (.int .i64 ((k : Nat)))) g23_f2 ?_)
                    refine xl_opg (P := Try.prog) (some 164) (j := 26) (b := false) rfl rfl (congrArg some (decide_eq_false (by omega))) (ox_gtr (k := .i64) (a := ((k : Nat))) (b := 0) rfl rfl ?_)
                    refine xl_opg (P := Try.prog) (some 165) (j := 26) (b := false) rfl rfl (congrArg some (decide_eq_false (by omega))) (ox_move (v := (.bool (decide ((0 : Int) < ((k : Nat)))))) rfl ?_)
                    refine xl_opg (P := Try.prog) (some 166) (j := 29) (b := true) rfl rfl (congrArg some (decide_eq_true (by omega))) (ox_fieldAddr (b := v24) (o := 0) tF_40_0 (by subst hv24; exact rfl) ?_)
                    refine xl_opg (P := Try.prog) (some 167) (j := 29) (b := true) rfl rfl (congrArg some (decide_eq_true (by omega))) (ox_load (v := (.int .i64 h.frm)) tA_3 rfl (b8.cell rfl) ?_)
                    refine xl_opg (P := Try.prog) (some 168) (j := 29) (b := true) rfl rfl (congrArg some (decide_eq_true (by omega))) (ox_move (v := (.int .i64 fr)) g20_f2 ?_)
                    refine xl_opg (P := Try.prog) (some 169) (j := 29) (b := true) rfl rfl (congrArg some (decide_eq_true (by omega))) (ox_eql (k := .i64) (a := h.frm) (b := fr) rfl rfl ?_)
                    refine xl_opg (P := Try.prog) (some 170) (j := 26) (b := false) rfl rfl (congrArg some (decide_eq_false (by omega))) (ox_pick_t (v := (.bool (decide ((h.frm : Int) = fr)))) (congrArg Value.bool (decide_eq_true (by omega))) rfl ?_)
                    refine xl_op (P := Try.prog) (some 171) rfl rfl (ox_pick_f (v := (.bool (decide ((h.frm : Int) = fr)))) (congrArg Value.bool (decide_eq_false (by omega))) rfl ?_)
                    refine xl_nil ?_
                    refine xc_cond_f (congrArg Value.bool (decide_eq_false (by have := hst9 hk0; omega))) ?_
                    refine xc_skip ?_
                    exact ⟨rfl, h, g5_f2, g6_f2, g7_f2, g1_f2, g10_f2, g13_f2, g14_f2, g16_f2, g18_f2, g20_f2, g21_f2, g22_f2, g23_f2, (by subst hv24; exact rfl), b8, hX, .inl hh, (Chg.chg1 (Chg.refl (fun x => x = v24) w17) e16 (.inl rfl))⟩
                  · skip
                    refine xc_region ?_
                    refine xl_op (P := Try.prog) (some 136) rfl rfl (ox_fieldAddr (b := v24) (o := 0) tF_40_0 (by subst hv24; exact rfl) ?_)
                    refine xl_op (P := Try.prog) (some 137) rfl rfl (ox_load (v := (.int .i64 h.frm)) tA_3 rfl (b8.cell rfl) ?_)
                    refine xl_op (P := Try.prog) (some 138) rfl rfl (ox_fieldAddr (b := v24) (o := 0) tF_40_1 (by subst hv24; exact rfl) ?_)
                    refine xl_op (P := Try.prog) (some 139) rfl rfl (ox_load (v := (.int .i64 h.to)) tA_3 rfl (b8.cell rfl) ?_)
                    refine xl_op (P := Try.prog) (some 140) rfl rfl (ox_gtr (k := .i64) (a := h.frm) (b := h.to) rfl rfl ?_)
                    refine xl_op (P := Try.prog) (some 141) rfl rfl (ox_move (v := (.bool (decide ((h.to : Int) < h.frm)))) rfl ?_)
                    refine xl_opg (P := Try.prog) (some 142) (j := 5) (b := false) rfl rfl (congrArg some (decide_eq_false (by omega))) (ox_fieldAddr (b := v24) (o := 0) tF_40_2 (by subst hv24; exact rfl) ?_)
                    refine xl_opg (P := Try.prog) (some 143) (j := 5) (b := false) rfl rfl (congrArg some (decide_eq_false (by omega))) (ox_load (v := (.int .i64 h.into)) tA_3 rfl (b8.cell rfl) ?_)
                    refine xl_opg (P := Try.prog) (some 144) (j := 5) (b := false) rfl rfl (congrArg some (decide_eq_false (by omega))) (ox_fieldAddr (b := v24) (o := 0) tF_40_3 (by subst hv24; exact rfl) ?_)
                    refine xl_opg (P := Try.prog) (some 145) (j := 5) (b := false) rfl rfl (congrArg some (decide_eq_false (by omega))) (ox_load (v := (.int .i64 h.upto)) tA_3 rfl (b8.cell rfl) ?_)
                    refine xl_opg (P := Try.prog) (some 146) (j := 5) (b := false) rfl rfl (congrArg some (decide_eq_false (by omega))) (ox_gtr (k := .i64) (a := h.into) (b := h.upto) rfl rfl ?_)
                    refine xl_op (P := Try.prog) (some 147) rfl rfl (ox_pick_f (v := (.bool (decide ((h.upto : Int) < h.into)))) (congrArg Value.bool (decide_eq_false (by omega))) rfl ?_)
                    refine xl_op (P := Try.prog) (some 148) rfl rfl (ox_move (v := (.bool (decide ((h.upto : Int) < h.into)))) rfl ?_)
                    refine xl_opg (P := Try.prog) (some 149) (j := 12) (b := false) rfl rfl (congrArg some (decide_eq_false (by omega))) (ox_fieldAddr (b := v24) (o := 0) tF_40_0 (by subst hv24; exact rfl) ?_)
                    refine xl_opg (P := Try.prog) (some 150) (j := 12) (b := false) rfl rfl (congrArg some (decide_eq_false (by omega))) (ox_load (v := (.int .i64 h.frm)) tA_3 rfl (b8.cell rfl) ?_)
                    refine xl_opg (P := Try.prog) (some 151) (j := 12) (b := false) rfl rfl (congrArg some (decide_eq_false (by omega))) (ox_fieldAddr (b := v24) (o := 0) tF_40_1 (by subst hv24; exact rfl) ?_)
                    refine xl_opg (P := Try.prog) (some 152) (j := 12) (b := false) rfl rfl (congrArg some (decide_eq_false (by omega))) (ox_load (v := (.int .i64 h.to)) tA_3 rfl (b8.cell rfl) ?_)
                    refine xl_opg (P := Try.prog) (some 153) (j := 12) (b := false) rfl rfl (congrArg some (decide_eq_false (by omega))) (ox_eql (k := .i64) (a := h.frm) (b := h.to) rfl rfl ?_)
                    refine xl_opg (P := Try.prog) (some 154) (j := 12) (b := false) rfl rfl (congrArg some (decide_eq_false (by omega))) (ox_move (v := (.bool (decide ((h.frm : Int) = h.to)))) rfl ?_)
                    refine xl_opg (P := Try.prog) (some 155) (j := 18) (b := true) rfl rfl (congrArg some (decide_eq_true (by omega))) (ox_fieldAddr (b := v24) (o := 0) tF_40_2 (by subst hv24; exact rfl) ?_)
                    refine xl_opg (P := Try.prog) (some 156) (j := 18) (b := true) rfl rfl (congrArg some (decide_eq_true (by omega))) (ox_load (v := (.int .i64 h.into)) tA_3 rfl (b8.cell rfl) ?_)
                    refine xl_opg (P := Try.prog) (some 157) (j := 18) (b := true) rfl rfl (congrArg some (decide_eq_true (by omega))) (ox_fieldAddr (b := v24) (o := 0) tF_40_3 (by subst hv24; exact rfl) ?_)
                    refine xl_opg (P := Try.prog) (some 158) (j := 18) (b := true) rfl rfl (congrArg some (decide_eq_true (by omega))) (ox_load (v := (.int .i64 h.upto)) tA_3 rfl (b8.cell rfl) ?_)
                    refine xl_opg (P := Try.prog) (some 159) (j := 18) (b := true) rfl rfl (congrArg some (decide_eq_true (by omega))) (ox_eql (k := .i64) (a := h.into) (b := h.upto) rfl rfl ?_)
                    refine xl_opg (P := Try.prog) (some 160) (j := 12) (b := false) rfl rfl (congrArg some (decide_eq_false (by omega))) (ox_pick_t (v := (.bool (decide ((h.into : Int) = h.upto)))) (congrArg Value.bool (decide_eq_true (by omega))) rfl ?_)
                    refine xl_op (P := Try.prog) (some 161) rfl rfl (ox_pick_f (v := (.bool (decide ((h.into : Int) = h.upto)))) (congrArg Value.bool (decide_eq_false (by omega))) rfl ?_)
                    refine xl_op (P := Try.prog) (some 162) rfl rfl (ox_move (v := (.bool (decide ((h.into : Int) = h.upto)))) rfl ?_)
                    refine xl_opg (P := Try.prog) (some 163) (j := 26) (b := false) rfl rfl (congrArg some (decide_eq_false (by omega))) (ox_move (v := (.int .i64 ((k : Nat)))) g23_f2 ?_)
                    refine xl_opg (P := Try.prog) (some 164) (j := 26) (b := false) rfl rfl (congrArg some (decide_eq_false (by omega))) (ox_gtr (k := .i64) (a := ((k : Nat))) (b := 0) rfl rfl ?_)
                    refine xl_opg (P := Try.prog) (some 165) (j := 26) (b := false) rfl rfl (congrArg some (decide_eq_false (by omega))) (ox_move (v := (.bool (decide ((0 : Int) < ((k : Nat)))))) rfl ?_)
                    refine xl_skip (some 166) (j := 29) (b := true) false rfl rfl (congrArg some (decide_eq_false (by omega))) (by decide) ?_
                    refine xl_skip (some 167) (j := 29) (b := true) false rfl rfl (congrArg some (decide_eq_false (by omega))) (by decide) ?_
                    refine xl_skip (some 168) (j := 29) (b := true) false rfl rfl (congrArg some (decide_eq_false (by omega))) (by decide) ?_
                    refine xl_skip (some 169) (j := 29) (b := true) false rfl rfl (congrArg some (decide_eq_false (by omega))) (by decide) ?_
                    refine xl_opg (P := Try.prog) (some 170) (j := 26) (b := false) rfl rfl (congrArg some (decide_eq_false (by omega))) (ox_pick_f (v := (.bool false)) (congrArg Value.bool (decide_eq_false (by omega))) rfl ?_)
                    refine xl_op (P := Try.prog) (some 171) rfl rfl (ox_pick_f (v := (.bool false)) (congrArg Value.bool (decide_eq_false (by omega))) rfl ?_)
                    refine xl_nil ?_
                    refine xc_cond_f rfl ?_
                    refine xc_skip ?_
                    exact ⟨rfl, h, g5_f2, g6_f2, g7_f2, g1_f2, g10_f2, g13_f2, g14_f2, g16_f2, g18_f2, g20_f2, g21_f2, g22_f2, g23_f2, (by subst hv24; exact rfl), b8, hX, .inl hh, (Chg.chg1 (Chg.refl (fun x => x = v24) w17) e16 (.inl rfl))⟩
                · skip
                  by_cases hk0 : 0 < k
                  · skip
                    refine xc_region ?_
                    refine xl_op (P := Try.prog) (some 136) rfl rfl (ox_fieldAddr (b := v24) (o := 0) tF_40_0 (by subst hv24; exact rfl) ?_)
                    refine xl_op (P := Try.prog) (some 137) rfl rfl (ox_load (v := (.int .i64 h.frm)) tA_3 rfl (b8.cell rfl) ?_)
                    refine xl_op (P := Try.prog) (some 138) rfl rfl (ox_fieldAddr (b := v24) (o := 0) tF_40_1 (by subst hv24; exact rfl) ?_)
                    refine xl_op (P := Try.prog) (some 139) rfl rfl (ox_load (v := (.int .i64 h.to)) tA_3 rfl (b8.cell rfl) ?_)
                    refine xl_op (P := Try.prog) (some 140) rfl rfl (ox_gtr (k := .i64) (a := h.frm) (b := h.to) rfl rfl ?_)
                    refine xl_op (P := Try.prog) (some 141) rfl rfl (ox_move (v := (.bool (decide ((h.to : Int) < h.frm)))) rfl ?_)
                    refine xl_opg (P := Try.prog) (some 142) (j := 5) (b := false) rfl rfl (congrArg some (decide_eq_false (by omega))) (ox_fieldAddr (b := v24) (o := 0) tF_40_2 (by subst hv24; exact rfl) ?_)
                    refine xl_opg (P := Try.prog) (some 143) (j := 5) (b := false) rfl rfl (congrArg some (decide_eq_false (by omega))) (ox_load (v := (.int .i64 h.into)) tA_3 rfl (b8.cell rfl) ?_)
                    refine xl_opg (P := Try.prog) (some 144) (j := 5) (b := false) rfl rfl (congrArg some (decide_eq_false (by omega))) (ox_fieldAddr (b := v24) (o := 0) tF_40_3 (by subst hv24; exact rfl) ?_)
                    refine xl_opg (P := Try.prog) (some 145) (j := 5) (b := false) rfl rfl (congrArg some (decide_eq_false (by omega))) (ox_load (v := (.int .i64 h.upto)) tA_3 rfl (b8.cell rfl) ?_)
                    refine xl_opg (P := Try.prog) (some 146) (j := 5) (b := false) rfl rfl (congrArg some (decide_eq_false (by omega))) (ox_gtr (k := .i64) (a := h.into) (b := h.upto) rfl rfl ?_)
                    refine xl_op (P := Try.prog) (some 147) rfl rfl (ox_pick_f (v := (.bool (decide ((h.upto : Int) < h.into)))) (congrArg Value.bool (decide_eq_false (by omega))) rfl ?_)
                    refine xl_op (P := Try.prog) (some 148) rfl rfl (ox_move (v := (.bool (decide ((h.upto : Int) < h.into)))) rfl ?_)
                    refine xl_opg (P := Try.prog) (some 149) (j := 12) (b := false) rfl rfl (congrArg some (decide_eq_false (by omega))) (ox_fieldAddr (b := v24) (o := 0) tF_40_0 (by subst hv24; exact rfl) ?_)
                    refine xl_opg (P := Try.prog) (some 150) (j := 12) (b := false) rfl rfl (congrArg some (decide_eq_false (by omega))) (ox_load (v := (.int .i64 h.frm)) tA_3 rfl (b8.cell rfl) ?_)
                    refine xl_opg (P := Try.prog) (some 151) (j := 12) (b := false) rfl rfl (congrArg some (decide_eq_false (by omega))) (ox_fieldAddr (b := v24) (o := 0) tF_40_1 (by subst hv24; exact rfl) ?_)
                    refine xl_opg (P := Try.prog) (some 152) (j := 12) (b := false) rfl rfl (congrArg some (decide_eq_false (by omega))) (ox_load (v := (.int .i64 h.to)) tA_3 rfl (b8.cell rfl) ?_)
                    refine xl_opg (P := Try.prog) (some 153) (j := 12) (b := false) rfl rfl (congrArg some (decide_eq_false (by omega))) (ox_eql (k := .i64) (a := h.frm) (b := h.to) rfl rfl ?_)
                    refine xl_opg (P := Try.prog) (some 154) (j := 12) (b := false) rfl rfl (congrArg some (decide_eq_false (by omega))) (ox_move (v := (.bool (decide ((h.frm : Int) = h.to)))) rfl ?_)
                    refine xl_skip (some 155) (j := 18) (b := true) false rfl rfl (congrArg some (decide_eq_false (by omega))) (by decide) ?_
                    refine xl_skip (some 156) (j := 18) (b := true) false rfl rfl (congrArg some (decide_eq_false (by omega))) (by decide) ?_
                    refine xl_skip (some 157) (j := 18) (b := true) false rfl rfl (congrArg some (decide_eq_false (by omega))) (by decide) ?_
                    refine xl_skip (some 158) (j := 18) (b := true) false rfl rfl (congrArg some (decide_eq_false (by omega))) (by decide) ?_
                    refine xl_skip (some 159) (j := 18) (b := true) false rfl rfl (congrArg some (decide_eq_false (by omega))) (by decide) ?_
                    refine xl_opg (P := Try.prog) (some 160) (j := 12) (b := false) rfl rfl (congrArg some (decide_eq_false (by omega))) (ox_pick_f (v := (.bool false)) (congrArg Value.bool (decide_eq_false (by omega))) rfl ?_)
                    refine xl_op (P := Try.prog) (some 161) rfl rfl (ox_pick_f (v := (.bool false)) (congrArg Value.bool (decide_eq_false (by omega))) rfl ?_)
                    refine xl_op (P := Try.prog) (some 162) rfl rfl (ox_move (v := (.bool false)) rfl ?_)
                    refine xl_opg (P := Try.prog) (some 163) (j := 26) (b := false) rfl rfl rfl (ox_move (v := (.int .i64 ((k : Nat)))) g23_f2 ?_)
                    refine xl_opg (P := Try.prog) (some 164) (j := 26) (b := false) rfl rfl rfl (ox_gtr (k := .i64) (a := ((k : Nat))) (b := 0) rfl rfl ?_)
                    refine xl_opg (P := Try.prog) (some 165) (j := 26) (b := false) rfl rfl rfl (ox_move (v := (.bool (decide ((0 : Int) < ((k : Nat)))))) rfl ?_)
                    refine xl_opg (P := Try.prog) (some 166) (j := 29) (b := true) rfl rfl (congrArg some (decide_eq_true (by omega))) (ox_fieldAddr (b := v24) (o := 0) tF_40_0 (by subst hv24; exact rfl) ?_)
                    refine xl_opg (P := Try.prog) (some 167) (j := 29) (b := true) rfl rfl (congrArg some (decide_eq_true (by omega))) (ox_load (v := (.int .i64 h.frm)) tA_3 rfl (b8.cell rfl) ?_)
                    refine xl_opg (P := Try.prog) (some 168) (j := 29) (b := true) rfl rfl (congrArg some (decide_eq_true (by omega))) (ox_move (v := (.int .i64 fr)) g20_f2 ?_)
                    refine xl_opg (P := Try.prog) (some 169) (j := 29) (b := true) rfl rfl (congrArg some (decide_eq_true (by omega))) (ox_eql (k := .i64) (a := h.frm) (b := fr) rfl rfl ?_)
                    refine xl_opg (P := Try.prog) (some 170) (j := 26) (b := false) rfl rfl rfl (ox_pick_t (v := (.bool (decide ((h.frm : Int) = fr)))) (congrArg Value.bool (decide_eq_true (by omega))) rfl ?_)
                    refine xl_op (P := Try.prog) (some 171) rfl rfl (ox_pick_f (v := (.bool (decide ((h.frm : Int) = fr)))) rfl rfl ?_)
                    refine xl_nil ?_
                    refine xc_cond_f (congrArg Value.bool (decide_eq_false (by have := hst9 hk0; omega))) ?_
                    refine xc_skip ?_
                    exact ⟨rfl, h, g5_f2, g6_f2, g7_f2, g1_f2, g10_f2, g13_f2, g14_f2, g16_f2, g18_f2, g20_f2, g21_f2, g22_f2, g23_f2, (by subst hv24; exact rfl), b8, hX, .inl hh, (Chg.chg1 (Chg.refl (fun x => x = v24) w17) e16 (.inl rfl))⟩
                  · skip
                    refine xc_region ?_
                    refine xl_op (P := Try.prog) (some 136) rfl rfl (ox_fieldAddr (b := v24) (o := 0) tF_40_0 (by subst hv24; exact rfl) ?_)
                    refine xl_op (P := Try.prog) (some 137) rfl rfl (ox_load (v := (.int .i64 h.frm)) tA_3 rfl (b8.cell rfl) ?_)
                    refine xl_op (P := Try.prog) (some 138) rfl rfl (ox_fieldAddr (b := v24) (o := 0) tF_40_1 (by subst hv24; exact rfl) ?_)
                    refine xl_op (P := Try.prog) (some 139) rfl rfl (ox_load (v := (.int .i64 h.to)) tA_3 rfl (b8.cell rfl) ?_)
                    refine xl_op (P := Try.prog) (some 140) rfl rfl (ox_gtr (k := .i64) (a := h.frm) (b := h.to) rfl rfl ?_)
                    refine xl_op (P := Try.prog) (some 141) rfl rfl (ox_move (v := (.bool (decide ((h.to : Int) < h.frm)))) rfl ?_)
                    refine xl_opg (P := Try.prog) (some 142) (j := 5) (b := false) rfl rfl (congrArg some (decide_eq_false (by omega))) (ox_fieldAddr (b := v24) (o := 0) tF_40_2 (by subst hv24; exact rfl) ?_)
                    refine xl_opg (P := Try.prog) (some 143) (j := 5) (b := false) rfl rfl (congrArg some (decide_eq_false (by omega))) (ox_load (v := (.int .i64 h.into)) tA_3 rfl (b8.cell rfl) ?_)
                    refine xl_opg (P := Try.prog) (some 144) (j := 5) (b := false) rfl rfl (congrArg some (decide_eq_false (by omega))) (ox_fieldAddr (b := v24) (o := 0) tF_40_3 (by subst hv24; exact rfl) ?_)
                    refine xl_opg (P := Try.prog) (some 145) (j := 5) (b := false) rfl rfl (congrArg some (decide_eq_false (by omega))) (ox_load (v := (.int .i64 h.upto)) tA_3 rfl (b8.cell rfl) ?_)
                    refine xl_opg (P := Try.prog) (some 146) (j := 5) (b := false) rfl rfl (congrArg some (decide_eq_false (by omega))) (ox_gtr (k := .i64) (a := h.into) (b := h.upto) rfl rfl ?_)
                    refine xl_op (P := Try.prog) (some 147) rfl rfl (ox_pick_f (v := (.bool (decide ((h.upto : Int) < h.into)))) (congrArg Value.bool (decide_eq_false (by omega))) rfl ?_)
                    refine xl_op (P := Try.prog) (some 148) rfl rfl (ox_move (v := (.bool (decide ((h.upto : Int) < h.into)))) rfl ?_)
                    refine xl_opg (P := Try.prog) (some 149) (j := 12) (b := false) rfl rfl (congrArg some (decide_eq_false (by omega))) (ox_fieldAddr (b := v24) (o := 0) tF_40_0 (by subst hv24; exact rfl) ?_)
                    refine xl_opg (P := Try.prog) (some 150) (j := 12) (b := false) rfl rfl (congrArg some (decide_eq_false (by omega))) (ox_load (v := (.int .i64 h.frm)) tA_3 rfl (b8.cell rfl) ?_)
                    refine xl_opg (P := Try.prog) (some 151) (j := 12) (b := false) rfl rfl (congrArg some (decide_eq_false (by omega))) (ox_fieldAddr (b := v24) (o := 0) tF_40_1 (by subst hv24; exact rfl) ?_)
                    refine xl_opg (P := Try.prog) (some 152) (j := 12) (b := false) rfl rfl (congrArg some (decide_eq_false (by omega))) (ox_load (v := (.int .i64 h.to)) tA_3 rfl (b8.cell rfl) ?_)
                    refine xl_opg (P := Try.prog) (some 153) (j := 12) (b := false) rfl rfl (congrArg some (decide_eq_false (by omega))) (ox_eql (k := .i64) (a := h.frm) (b := h.to) rfl rfl ?_)
                    refine xl_opg (P := Try.prog) (some 154) (j := 12) (b := false) rfl rfl (congrArg some (decide_eq_false (by omega))) (ox_move (v := (.bool (decide ((h.frm : Int) = h.to)))) rfl ?_)
                    refine xl_skip (some 155) (j := 18) (b := true) false rfl rfl (congrArg some (decide_eq_false (by omega))) (by decide) ?_
                    refine xl_skip (some 156) (j := 18) (b := true) false rfl rfl (congrArg some (decide_eq_false (by omega))) (by decide) ?_
                    refine xl_skip (some 157) (j := 18) (b := true) false rfl rfl (congrArg some (decide_eq_false (by omega))) (by decide) ?_
                    refine xl_skip (some 158) (j := 18) (b := true) false rfl rfl (congrArg some (decide_eq_false (by omega))) (by decide) ?_
                    refine xl_skip (some 159) (j := 18) (b := true) false rfl rfl (congrArg some (decide_eq_false (by omega))) (by decide) ?_
                    refine xl_opg (P := Try.prog) (some 160) (j := 12) (b := false) rfl rfl (congrArg some (decide_eq_false (by omega))) (ox_pick_f (v := (.bool false)) (congrArg Value.bool (decide_eq_false (by omega))) rfl ?_)
                    refine xl_op (P := Try.prog) (some 161) rfl rfl (ox_pick_f (v := (.bool false)) (congrArg Value.bool (decide_eq_false (by omega))) rfl ?_)
                    refine xl_op (P := Try.prog) (some 162) rfl rfl (ox_move (v := (.bool false)) rfl ?_)
                    refine xl_opg (P := Try.prog) (some 163) (j := 26) (b := false) rfl rfl rfl (ox_move (v := (.int .i64 ((k : Nat)))) g23_f2 ?_)
                    refine xl_opg (P := Try.prog) (some 164) (j := 26) (b := false) rfl rfl rfl (ox_gtr (k := .i64) (a := ((k : Nat))) (b := 0) rfl rfl ?_)
                    refine xl_opg (P := Try.prog) (some 165) (j := 26) (b := false) rfl rfl rfl (ox_move (v := (.bool (decide ((0 : Int) < ((k : Nat)))))) rfl ?_)
                    refine xl_skip (some 166) (j := 29) (b := true) false rfl rfl (congrArg some (decide_eq_false (by omega))) (by decide) ?_
                    refine xl_skip (some 167) (j := 29) (b := true) false rfl rfl (congrArg some (decide_eq_false (by omega))) (by decide) ?_
                    refine xl_skip (some 168) (j := 29) (b := true) false rfl rfl (congrArg some (decide_eq_false (by omega))) (by decide) ?_
                    refine xl_skip (some 169) (j := 29) (b := true) false rfl rfl (congrArg some (decide_eq_false (by omega))) (by decide) ?_
                    refine xl_opg (P := Try.prog) (some 170) (j := 26) (b := false) rfl rfl rfl (ox_pick_f (v := (.bool false)) (congrArg Value.bool (decide_eq_false (by omega))) rfl ?_)
                    refine xl_op (P := Try.prog) (some 171) rfl rfl (ox_pick_f (v := (.bool false)) rfl rfl ?_)
                    refine xl_nil ?_
                    refine xc_cond_f rfl ?_
                    refine xc_skip ?_
                    exact ⟨rfl, h, g5_f2, g6_f2, g7_f2, g1_f2, g10_f2, g13_f2, g14_f2, g16_f2, g18_f2, g20_f2, g21_f2, g22_f2, g23_f2, (by subst hv24; exact rfl), b8, hX, .inl hh, (Chg.chg1 (Chg.refl (fun x => x = v24) w17) e16 (.inl rfl))⟩
              · skip
                refine xc_skip ?_
                exact ⟨rfl, ⟨(Lm.length : Nat), (Lm.length : Nat), (Mm.length : Nat), (Mm.length : Nat)⟩, g5_f2, g6_f2, g7_f2, g1_f2, g10_f2, g13_f2, g14_f2, g16_f2, g18_f2, g20_f2, g21_f2, g22_f2, g23_f2, (by subst hv24; exact rfl), hBv24, gap_last hg (by omega), .inr ⟨by omega, rfl⟩, (Chg.refl (fun x => x = v24) w17)⟩
            rintro f3 w19 ⟨xh, g5_f3, g6_f3, g7_f3, g1_f3, g10_f3, g13_f3, g14_f3, g16_f3, g18_f3, g20_f3, g21_f3, g22_f3, g23_f3, g24_f3, hB9, hX, hwh, hc9⟩
            have hx1 := hX.run.le; have hx2 := hX.run.eq; have hx3 := hX.run.fl; have hx4 := hX.run.tl; have hx5 := hX.run.a0; have hx6 := hX.run.b0
            obtain ⟨hx7, hx8, hx9, hx10⟩ := hX.bd
            have hzc9 := hc9.size
            have q15 := (((Vx.Own.ext hru_ot x_f2).ext e14).keep1 e15 (fun k hk => ((Vx.Own.ext hru_ot x_f2).ext e14).ne_blk b6 (by decide) k hk))
            have q16 := (q15.keep1 hc9 (fun k hk => q15.ne_blk hBv24 (by decide) k hk))
            obtain ⟨gt, c9t, heqt, _⟩ := q16.some_of (by omega)
            simp only [Value.slice.injEq, true_and] at heqt
            obtain ⟨rfl, rfl⟩ := heqt
            refine xc_seq ?_
            refine xc_seq ?_
            refine xc_region ?_
            refine xl_op (P := Try.prog) (some 172) rfl rfl (ox_fieldAddr (b := v24) (o := 0) tF_40_0 g24_f3 ?_)
            refine xl_op (P := Try.prog) (some 173) rfl rfl (ox_load (v := (.int .i64 xh.frm)) tA_3 rfl (hB9.cell rfl) ?_)
            refine xl_op (P := Try.prog) (some 174) rfl rfl (ox_move (v := (.int .i64 fr)) g20_f3 ?_)
            refine xl_op (P := Try.prog) (some 175) rfl rfl (ox_sub64 (a := xh.frm) (b := fr) rfl rfl (by omega) ?_)
            refine xl_op (P := Try.prog) (some 176) rfl rfl (ox_fieldAddr (b := v24) (o := 0) tF_40_2 g24_f3 ?_)
            refine xl_op (P := Try.prog) (some 177) rfl rfl (ox_load (v := (.int .i64 xh.into)) tA_3 rfl (hB9.cell rfl) ?_)
            refine xl_op (P := Try.prog) (some 178) rfl rfl (ox_move (v := (.int .i64 into)) g21_f3 ?_)
            refine xl_op (P := Try.prog) (some 179) rfl rfl (ox_sub64 (a := xh.into) (b := into) rfl rfl (by omega) ?_)
            refine xl_op (P := Try.prog) (some 180) rfl rfl (ox_neq (k := .i64) (a := (xh.frm - fr)) (b := (xh.into - into)) rfl rfl ?_)
            refine xl_op (P := Try.prog) (some 181) rfl rfl (ox_move (v := (.bool (decide ((xh.frm - fr : Int) ≠ (xh.into - into))))) rfl ?_)
            refine xl_opg (P := Try.prog) (some 182) (j := 9) (b := false) rfl rfl (congrArg some (decide_eq_false (by omega))) (ox_fieldAddr (b := v24) (o := 0) tF_40_0 g24_f3 ?_)
            refine xl_opg (P := Try.prog) (some 183) (j := 9) (b := false) rfl rfl (congrArg some (decide_eq_false (by omega))) (ox_load (v := (.int .i64 xh.frm)) tA_3 rfl (hB9.cell rfl) ?_)
            refine xl_opg (P := Try.prog) (some 184) (j := 9) (b := false) rfl rfl (congrArg some (decide_eq_false (by omega))) (ox_move (v := (.int .i64 fr)) g20_f3 ?_)
            refine xl_opg (P := Try.prog) (some 185) (j := 9) (b := false) rfl rfl (congrArg some (decide_eq_false (by omega))) (ox_lss (k := .i64) (a := xh.frm) (b := fr) rfl rfl ?_)
            refine xl_op (P := Try.prog) (some 186) rfl rfl (ox_pick_f (v := (.bool (decide ((xh.frm : Int) < fr)))) (congrArg Value.bool (decide_eq_false (by omega))) rfl ?_)
            refine xl_op (P := Try.prog) (some 187) rfl rfl (ox_move (v := (.bool (decide ((xh.frm : Int) < fr)))) rfl ?_)
            refine xl_opg (P := Try.prog) (some 188) (j := 15) (b := false) rfl rfl (congrArg some (decide_eq_false (by omega))) (ox_fieldAddr (b := v24) (o := 0) tF_40_1 g24_f3 ?_)
            refine xl_opg (P := Try.prog) (some 189) (j := 15) (b := false) rfl rfl (congrArg some (decide_eq_false (by omega))) (ox_load (v := (.int .i64 xh.to)) tA_3 rfl (hB9.cell rfl) ?_)
            refine xl_opg (P := Try.prog) (some 190) (j := 15) (b := false) rfl rfl (congrArg some (decide_eq_false (by omega))) (ox_move (v := (.slice Al Lm.length cl)) g10_f3 ?_)
            refine xl_opg (P := Try.prog) (some 191) (j := 15) (b := false) rfl rfl (congrArg some (decide_eq_false (by omega))) (ox_len (A := Al) (n := Lm.length) (cp := cl) rfl tU_42 rfl ?_)
            refine xl_opg (P := Try.prog) (some 192) (j := 15) (b := false) rfl rfl (congrArg some (decide_eq_false (by omega))) (ox_gtr (k := .i64) (a := xh.to) (b := (((Lm.length : Nat) : Int))) rfl rfl ?_)
            refine xl_op (P := Try.prog) (some 193) rfl rfl (ox_pick_f (v := (.bool (decide ((((Lm.length : Nat) : Int) : Int) < xh.to)))) (congrArg Value.bool (decide_eq_false (by omega))) rfl ?_)
            refine xl_op (P := Try.prog) (some 194) rfl rfl (ox_move (v := (.bool (decide ((((Lm.length : Nat) : Int) : Int) < xh.to)))) rfl ?_)
            refine xl_opg (P := Try.prog) (some 195) (j := 22) (b := false) rfl rfl (congrArg some (decide_eq_false (by omega))) (ox_fieldAddr (b := v24) (o := 0) tF_40_3 g24_f3 ?_)
            refine xl_opg (P := Try.prog) (some 196) (j := 22) (b := false) rfl rfl (congrArg some (decide_eq_false (by omega))) (ox_load (v := (.int .i64 xh.upto)) tA_3 rfl (hB9.cell rfl) ?_)
            refine xl_opg (P := Try.prog) (some 197) (j := 22) (b := false) rfl rfl (congrArg some (decide_eq_false (by omega))) (ox_move (v := (.slice Am Mm.length cm)) g13_f3 ?_)
            refine xl_opg (P := Try.prog) (some 198) (j := 22) (b := false) rfl rfl (congrArg some (decide_eq_false (by omega))) (ox_len (A := Am) (n := Mm.length) (cp := cm) rfl tU_42 rfl ?_)
            refine xl_opg (P := Try.prog) (some 199) (j := 22) (b := false) rfl rfl (congrArg some (decide_eq_false (by omega))) (ox_gtr (k := .i64) (a := xh.upto) (b := (((Mm.length : Nat) : Int))) rfl rfl ?_)
            refine xl_op (P := Try.prog) (some 200) rfl rfl (ox_pick_f (v := (.bool (decide ((((Mm.length : Nat) : Int) : Int) < xh.upto)))) (congrArg Value.bool (decide_eq_false (by omega))) rfl ?_)
            refine xl_nil ?_
            refine xc_cond_f (congrArg Value.bool (decide_eq_false (by omega))) ?_
            refine xc_skip ?_
            refine xc_seq ?_
            refine xc_seq ?_
            refine xc_region ?_
            refine xl_op (P := Try.prog) (some 25) rfl rfl (ox_assign (v := (.int .i64 0)) rfl ?_)
            refine xl_nil ?_
            refine xc_block ?_
            have q17 := (((Vx.Own.ext hru_ol x_f2).ext e14).keep1 e15 (fun k hk => ((Vx.Own.ext hru_ol x_f2).ext e14).ne_blk b6 (by decide) k hk))
            have q18 := (q17.keep1 hc9 (fun k hk => q17.ne_blk hBv24 (by decide) k hk))
            have hrv_ol := q18
            have q19 := (((Vx.Own.ext hru_om x_f2).ext e14).keep1 e15 (fun k hk => ((Vx.Own.ext hru_om x_f2).ext e14).ne_blk b6 (by decide) k hk))
            have q20 := (q19.keep1 hc9 (fun k hk => q19.ne_blk hBv24 (by decide) k hk))
            have hrv_om := q20
            have hrv_ot := q16
            have q21 := (((Vx.Own.ext hru_oh x_f2).ext e14).keep1 e15 (fun k hk => by have _q := ((Vx.Own.ext hru_oh x_f2).lt) k hk; omega))
            have q22 := (q21.keep1 hc9 (fun k hk => by have _q := (hru_oh).lt k hk; omega))
            have hrv_oh := q22
            have q23 := (((Vx.Own.ext hru_osp x_f2).ext e14).keep1 e15 (fun k hk => ((Vx.Own.ext hru_osp x_f2).ext e14).ne_blk b6 (by decide) k hk))
            have q24 := (q23.keep1 hc9 (fun k hk => q23.ne_blk hBv24 (by decide) k hk))
            have hrv_osp := q24
            have q25 := (((Blk.ext hru_bnb x_f2).ext e14).keep1 e15 (((Blk.ext hru_bnb x_f2).ext e14).ne b6 (by decide)))
            have q26 := (q25.keep1 hc9 (q25.ne hBv24 (by decide)))
            have hrv_bnb := q26
            have q27 := (((Blk.ext hru_bbg x_f2).ext e14).keep1 e15 (((Blk.ext hru_bbg x_f2).ext e14).ne b6 (by decide)))
            have q28 := (q27.keep1 hc9 (q27.ne hBv24 (by decide)))
            have hrv_bbg := q28
            have hrv_bv24 := hB9
            have hEx5 := (Ext.chg1 (Ext.chg1 (Ext.trans (Ext.trans hEx2 x_f2) e14) e15 (by omega)) hc9 (by omega))
            have hEx5z := hEx5.size
            have hEx6 := (Ext.chg1 (Ext.chg1 (Ext.trans (Ext.trans hEx3 x_f2) e14) e15 (by omega)) hc9 (by omega))
            have hEx6z := hEx6.size
            have hEx7 := (Ext.chg1 (Ext.chg1 (Ext.trans (Ext.trans hEx4 x_f2) e14) e15 (by omega)) hc9 (by omega))
            have hEx7z := hEx7.size
            have hEx8 := (Ext.chg1 (Ext.chg1 (Ext.trans x_f2 e14) e15 (by omega)) hc9 (by omega))
            have hEx8z := hEx8.size
            have hEx9 := (Ext.chg1 (Ext.chg1 e14 e15 (by omega)) hc9 (by omega))
            have hEx9z := hEx9.size
            refine xc_loopN (fun m f W => ∃ (j : Nat), m = (xh.frm - fr).toNat - j ∧ (j : Int) ≤ xh.frm - fr ∧ f 5 = (.pointer (some ⟨bg, 0, none⟩)) ∧ f 6 = (.bool true) ∧ f 7 = (.int .i64 ((i : Nat))) ∧ f 1 = (.slice (some ⟨g1, o1, none⟩) ps.length c1) ∧ f 10 = (.slice Al Lm.length cl) ∧ f 13 = (.slice Am Mm.length cm) ∧ f 14 = (.slice (some ⟨gt, 0, none⟩) ((Mm.length + 1)) ct) ∧ f 16 = (.slice Ah H.length ch) ∧ f 18 = (.pointer (some ⟨nb, 0, none⟩)) ∧ f 20 = (.int .i64 fr) ∧ f 21 = (.int .i64 into) ∧ f 22 = (.int .i64 ((((spans (rl tb) (H.take k)).length : Nat) : Int))) ∧ f 23 = (.int .i64 ((k : Nat))) ∧ f 24 = (.pointer (some ⟨v24, 0, none⟩)) ∧ f 25 = (.int .i64 ((j : Nat))) ∧ Ext w19 W) ((xh.frm - fr).toNat) ?_ ?_
            · exact ⟨0, by omega, by omega, g5_f3, g6_f3, g7_f3, g1_f3, g10_f3, g13_f3, g14_f3, g16_f3, g18_f3, g20_f3, g21_f3, g22_f3, g23_f3, g24_f3, (by first | exact rfl | exact (congrArg (Value.int .i64) (by omega))), (Chg.refl _ _)⟩
            · rintro m f4 w20 ⟨j, hm, hj, g5_f4, g6_f4, g7_f4, g1_f4, g10_f4, g13_f4, g14_f4, g16_f4, g18_f4, g20_f4, g21_f4, g22_f4, g23_f4, g24_f4, g25_f4, x_f4⟩
              have hzV := x_f4.size
              refine xc_seq ?_
              refine xc_seq ?_
              refine xc_region ?_
              refine xl_op (P := Try.prog) (some 201) rfl rfl (ox_move (v := (.int .i64 ((j : Nat)))) g25_f4 ?_)
              refine xl_op (P := Try.prog) (some 202) rfl rfl (ox_fieldAddr (b := v24) (o := 0) tF_40_0 g24_f4 ?_)
              refine xl_op (P := Try.prog) (some 203) rfl rfl (ox_load (v := (.int .i64 xh.frm)) tA_3 rfl ((Blk.ext hrv_bv24 x_f4).cell rfl) ?_)
              refine xl_op (P := Try.prog) (some 204) rfl rfl (ox_move (v := (.int .i64 fr)) g20_f4 ?_)
              refine xl_op (P := Try.prog) (some 205) rfl rfl (ox_sub64 (a := xh.frm) (b := fr) rfl rfl (by omega) ?_)
              refine xl_op (P := Try.prog) (some 206) rfl rfl (ox_lss (k := .i64) (a := ((j : Nat))) (b := (xh.frm - fr)) rfl rfl ?_)
              refine xl_nil ?_
              refine xc_if (p := ((j : Nat) : Int) < (xh.frm - fr)) rfl (fun h4 => ?_) (fun h4 => ?_)
              · skip
                obtain ⟨xv, hxl, hxm⟩ := hX.run.same j (by omega)
                have hgl := get_len hxl; have hgm := get_len hxm; have ha0 := hX.run.a0; have hb0 := hX.run.b0
                obtain ⟨gl, c9gl, heqgl, _⟩ := (Vx.Own.ext hrv_ol x_f4).some_of (by omega)
                simp only [Value.slice.injEq, true_and] at heqgl
                obtain ⟨rfl, rfl⟩ := heqgl
                obtain ⟨gm, c9gm, heqgm, _⟩ := (Vx.Own.ext hrv_om x_f4).some_of (by omega)
                simp only [Value.slice.injEq, true_and] at heqgm
                obtain ⟨rfl, rfl⟩ := heqgm
                refine xc_skip ?_
                refine xc_seq ?_
                refine xc_block ?_
                refine xc_seq ?_
                refine xc_regionE [] (fun W_ => Chg (fun _ => False) w20 W_) hmix ?_
                intro w21 e17 z11
                have hS3 : Chg (fun _ => False) w20 w21 := Ext.to e17
                refine xd_pure 0 (some 209) rfl rfl (by kernel_rfl) (v := (.slice (some ⟨gl, 0, none⟩) Lm.length cl)) (.inl ⟨rfl, fun W_ hW_ => ox_move (v := (.slice (some ⟨gl, 0, none⟩) Lm.length cl)) g10_f4 ⟨rfl, rfl⟩⟩) ?_
                refine xd_pure 1 (some 210) rfl rfl (by kernel_rfl) (v := (.int .i64 fr)) (.inl ⟨rfl, fun W_ hW_ => ox_move (v := (.int .i64 fr)) g20_f4 ⟨rfl, rfl⟩⟩) ?_
                refine xd_pure 2 (some 211) rfl rfl (by kernel_rfl) (v := (.int .i64 ((j : Nat)))) (.inl ⟨rfl, fun W_ hW_ => ox_move (v := (.int .i64 ((j : Nat)))) g25_f4 ⟨rfl, rfl⟩⟩) ?_
                refine xd_pure 3 (some 212) rfl rfl (by kernel_rfl) (v := (.int .i64 (fr + ((j : Nat))))) (.inl ⟨rfl, fun W_ hW_ => ox_add64 (a := fr) (b := ((j : Nat))) rfl rfl (by omega) ⟨rfl, rfl⟩⟩) ?_
                refine xd_pure 4 (some 213) rfl rfl (by kernel_rfl) (v := (.pointer (some ⟨gl, 0 + (fr + ((j : Nat))).toNat * 1, none⟩))) (.inl ⟨rfl, fun W_ hW_ => ox_indexAddr (b := gl) (o := 0) (i := (fr + ((j : Nat)))) tE_42 rfl rfl (by omega) (by omega) ⟨rfl, rfl⟩⟩) ?_
                refine xd_take 5 (some 214) rfl rfl (by kernel_rfl) (v := (.int .i64 xv)) (.inl ⟨rfl, fun W_ hW_ => ox_load (v := (.int .i64 xv)) tA_3 rfl (Own.atI ((Vx.Own.ext hrv_ol x_f4).ext hW_) hxl) ⟨rfl, rfl⟩⟩) hS3 ?_
                refine xd_pure 6 (some 215) rfl rfl (by kernel_rfl) (v := (.slice (some ⟨gm, 0, none⟩) Mm.length cm)) (.inl ⟨rfl, fun W_ hW_ => ox_move (v := (.slice (some ⟨gm, 0, none⟩) Mm.length cm)) g13_f4 ⟨rfl, rfl⟩⟩) ?_
                refine xd_pure 7 (some 216) rfl rfl (by kernel_rfl) (v := (.int .i64 into)) (.inl ⟨rfl, fun W_ hW_ => ox_move (v := (.int .i64 into)) g21_f4 ⟨rfl, rfl⟩⟩) ?_
                refine xd_pure 8 (some 217) rfl rfl (by kernel_rfl) (v := (.int .i64 ((j : Nat)))) (.inl ⟨rfl, fun W_ hW_ => ox_move (v := (.int .i64 ((j : Nat)))) g25_f4 ⟨rfl, rfl⟩⟩) ?_
                refine xd_pure 9 (some 218) rfl rfl (by kernel_rfl) (v := (.int .i64 (into + ((j : Nat))))) (.inl ⟨rfl, fun W_ hW_ => ox_add64 (a := into) (b := ((j : Nat))) rfl rfl (by omega) ⟨rfl, rfl⟩⟩) ?_
                refine xd_pure 10 (some 219) rfl rfl (by kernel_rfl) (v := (.pointer (some ⟨gm, 0 + (into + ((j : Nat))).toNat * 1, none⟩))) (.inl ⟨rfl, fun W_ hW_ => ox_indexAddr (b := gm) (o := 0) (i := (into + ((j : Nat)))) tE_42 rfl rfl (by omega) (by omega) ⟨rfl, rfl⟩⟩) ?_
                refine xd_take 11 (some 220) rfl rfl (by kernel_rfl) (v := (.int .i64 xv)) (.inl ⟨rfl, fun W_ hW_ => ox_load (v := (.int .i64 xv)) tA_3 rfl (Own.atI ((Vx.Own.ext hrv_om x_f4).ext hW_) hxm) ⟨rfl, rfl⟩⟩) hS3 ?_
                refine xd_pure 12 (some 221) rfl rfl (by kernel_rfl) (v := (.bool (decide ((xv : Int) ≠ xv)))) (.inl ⟨rfl, fun W_ hW_ => ox_neq (k := .i64) (a := xv) (b := xv) rfl rfl ⟨rfl, rfl⟩⟩) ?_
                refine xd_done (by kernel_rfl) ?_ _
                refine xc_cond_f (congrArg Value.bool (by simp : decide ((xv : Int) ≠ xv) = false)) ?_
                refine xc_skip ?_
                refine xc_region ?_
                refine xl_op (P := Try.prog) (some 207) rfl rfl (ox_move (v := (.int .i64 ((j : Nat)))) g25_f4 ?_)
                refine xl_op (P := Try.prog) (some 208) rfl rfl (ox_add64 (a := ((j : Nat))) (b := 1) rfl rfl (by omega) ?_)
                refine xl_op (P := Try.prog) (some 25) rfl rfl (ox_assign (v := (.int .i64 ((j : Nat) + 1))) rfl ?_)
                refine xl_nil ?_
                have hsz0 := e17.size
                exact ⟨rfl, (xh.frm - fr).toNat - (j + 1), by omega, j + 1, by omega, by omega, g5_f4, g6_f4, g7_f4, g1_f4, g10_f4, g13_f4, g14_f4, g16_f4, g18_f4, g20_f4, g21_f4, g22_f4, g23_f4, g24_f4, (by first | exact rfl | exact (congrArg (Value.int .i64) (by omega))), (Ext.trans x_f4 e17)⟩
              · skip
                refine xc_exit ?_
                refine xc_seq ?_
                refine xc_seq ?_
                refine xc_regionE [] (fun W_ => Chg (fun _ => False) w20 W_) hmix ?_
                intro w22 e18 z12
                have hS4 : Chg (fun _ => False) w20 w22 := Ext.to e18
                refine xd_pure 0 (some 222) rfl rfl (by kernel_rfl) (v := (.slice (some ⟨gt, 0, none⟩) ((Mm.length + 1)) ct)) (.inl ⟨rfl, fun W_ hW_ => ox_move (v := (.slice (some ⟨gt, 0, none⟩) ((Mm.length + 1)) ct)) g14_f4 ⟨rfl, rfl⟩⟩) ?_
                refine xd_pure 1 (some 223) rfl rfl (by kernel_rfl) (v := (.pointer (some ⟨v24, 2, none⟩))) (.inl ⟨rfl, fun W_ hW_ => ox_fieldAddr (b := v24) (o := 0) tF_40_2 g24_f4 ⟨rfl, rfl⟩⟩) ?_
                refine xd_take 2 (some 224) rfl rfl (by kernel_rfl) (v := (.int .i64 xh.into)) (.inl ⟨rfl, fun W_ hW_ => ox_load (v := (.int .i64 xh.into)) tA_3 rfl (((Blk.ext hrv_bv24 x_f4).ext hW_).cell rfl) ⟨rfl, rfl⟩⟩) hS4 ?_
                refine xd_pure 3 (some 225) rfl rfl (by kernel_rfl) (v := (.pointer (some ⟨gt, 0 + (xh.into).toNat * 1, none⟩))) (.inl ⟨rfl, fun W_ hW_ => ox_indexAddr (b := gt) (o := 0) (i := xh.into) tE_42 rfl rfl (by omega) (by omega) ⟨rfl, rfl⟩⟩) ?_
                refine xd_take 4 (some 226) rfl rfl (by kernel_rfl) (v := (.int .i64 (wdL ((rl tb).take xh.into.toNat)))) (.inl ⟨rfl, fun W_ hW_ => ox_load (v := (.int .i64 (wdL ((rl tb).take xh.into.toNat)))) tA_3 rfl (by simpa using Own.at1 ((Vx.Own.ext hrv_ot x_f4).ext hW_) (bgC_get (rl tb) (j := xh.into.toNat) (n := Mm.length + 1) (by omega))) ⟨rfl, rfl⟩⟩) hS4 ?_
                refine xd_pure 5 (some 227) rfl rfl (by kernel_rfl) (v := (.slice (some ⟨gt, 0, none⟩) ((Mm.length + 1)) ct)) (.inl ⟨rfl, fun W_ hW_ => ox_move (v := (.slice (some ⟨gt, 0, none⟩) ((Mm.length + 1)) ct)) g14_f4 ⟨rfl, rfl⟩⟩) ?_
                refine xd_pure 6 (some 228) rfl rfl (by kernel_rfl) (v := (.pointer (some ⟨v24, 3, none⟩))) (.inl ⟨rfl, fun W_ hW_ => ox_fieldAddr (b := v24) (o := 0) tF_40_3 g24_f4 ⟨rfl, rfl⟩⟩) ?_
                refine xd_take 7 (some 229) rfl rfl (by kernel_rfl) (v := (.int .i64 xh.upto)) (.inl ⟨rfl, fun W_ hW_ => ox_load (v := (.int .i64 xh.upto)) tA_3 rfl (((Blk.ext hrv_bv24 x_f4).ext hW_).cell rfl) ⟨rfl, rfl⟩⟩) hS4 ?_
                refine xd_pure 8 (some 230) rfl rfl (by kernel_rfl) (v := (.pointer (some ⟨gt, 0 + (xh.upto).toNat * 1, none⟩))) (.inl ⟨rfl, fun W_ hW_ => ox_indexAddr (b := gt) (o := 0) (i := xh.upto) tE_42 rfl rfl (by omega) (by omega) ⟨rfl, rfl⟩⟩) ?_
                refine xd_take 9 (some 231) rfl rfl (by kernel_rfl) (v := (.int .i64 (wdL ((rl tb).take xh.upto.toNat)))) (.inl ⟨rfl, fun W_ hW_ => ox_load (v := (.int .i64 (wdL ((rl tb).take xh.upto.toNat)))) tA_3 rfl (by simpa using Own.at1 ((Vx.Own.ext hrv_ot x_f4).ext hW_) (bgC_get (rl tb) (j := xh.upto.toNat) (n := Mm.length + 1) (by omega))) ⟨rfl, rfl⟩⟩) hS4 ?_
                refine xd_pure 10 (some 232) rfl rfl (by kernel_rfl) (v := (.bool (decide ((wdL ((rl tb).take xh.into.toNat) : Int) < (wdL ((rl tb).take xh.upto.toNat)))))) (.inl ⟨rfl, fun W_ hW_ => ox_lss (k := .i64) (a := (wdL ((rl tb).take xh.into.toNat))) (b := (wdL ((rl tb).take xh.upto.toNat))) rfl rfl ⟨rfl, rfl⟩⟩) ?_
                refine xd_done (by kernel_rfl) ?_ _
                refine xc_if (p := (wdL ((rl tb).take xh.into.toNat) : Int) < (wdL ((rl tb).take xh.upto.toNat))) rfl (fun h5 => ?_) (fun h5 => ?_)
                · skip
                  have hlt : (spanH (rl tb) xh).frm < (spanH (rl tb) xh).to := h5
                  have hh9 : H[k]? = some xh := by rcases hwh with h8 | ⟨_, h8⟩; exact h8; rw [h8] at hlt; exact absurd hlt (Int.lt_irrefl _)
                  obtain ⟨htd, htl⟩ := span_told hh9 hlt
                  rw [← hS] at htd
                  have htdl := get_len htd
                  obtain ⟨gs, c9s, heqs, _⟩ := ((Vx.Own.ext hrv_osp x_f4).ext e18).some_of (by omega)
                  simp only [Value.slice.injEq, true_and] at heqs
                  obtain ⟨rfl, rfl⟩ := heqs
                  refine xc_seq ?_
                  refine xc_seq ?_
                  refine xc_regionE [] (fun W_ => Chg (fun _ => False) w22 W_) hmix ?_
                  intro w23 e19 z13
                  have hS5 : Chg (fun _ => False) w22 w23 := Ext.to e19
                  refine xd_pure 0 (some 233) rfl rfl (by kernel_rfl) (v := (.int .i64 ((((spans (rl tb) (H.take k)).length : Nat) : Int)))) (.inl ⟨rfl, fun W_ hW_ => ox_move (v := (.int .i64 ((((spans (rl tb) (H.take k)).length : Nat) : Int)))) g22_f4 ⟨rfl, rfl⟩⟩) ?_
                  refine xd_take 1 (some 234) rfl rfl (by kernel_rfl) (v := (.slice (some ⟨gs, 0, none⟩) S.length cr)) (.inl ⟨rfl, fun W_ hW_ => ox_load (v := (.slice (some ⟨gs, 0, none⟩) S.length cr)) tA_76 g18_f4 ((((Blk.ext hrv_bnb x_f4).ext e18).ext hW_).cell rfl) ⟨rfl, rfl⟩⟩) hS5 ?_
                  refine xd_pure 2 (some 235) rfl rfl (by kernel_rfl) (v := (.int .i64 (((S.length : Nat) : Int)))) (.inl ⟨rfl, fun W_ hW_ => ox_len (A := (some ⟨gs, 0, none⟩)) (n := S.length) (cp := cr) rfl tU_76 rfl ⟨rfl, rfl⟩⟩) ?_
                  refine xd_pure 3 (some 236) rfl rfl (by kernel_rfl) (v := (.bool (decide ((((S.length : Nat) : Int) : Int) ≤ ((((spans (rl tb) (H.take k)).length : Nat) : Int)))))) (.inl ⟨rfl, fun W_ hW_ => ox_geq (k := .i64) (a := ((((spans (rl tb) (H.take k)).length : Nat) : Int))) (b := (((S.length : Nat) : Int))) rfl rfl ⟨rfl, rfl⟩⟩) ?_
                  refine xd_pure 4 (some 237) rfl rfl (by kernel_rfl) (v := (.bool (decide ((((S.length : Nat) : Int) : Int) ≤ ((((spans (rl tb) (H.take k)).length : Nat) : Int)))))) (.inl ⟨rfl, fun W_ hW_ => ox_move (v := (.bool (decide ((((S.length : Nat) : Int) : Int) ≤ ((((spans (rl tb) (H.take k)).length : Nat) : Int)))))) rfl ⟨rfl, rfl⟩⟩) ?_
                  refine xd_take 5 (some 238) rfl rfl (by kernel_rfl) (v := (.slice (some ⟨gs, 0, none⟩) S.length cr)) (.inl ⟨(wanted_of (j := 4) (b := false) rfl (congrArg some (decide_eq_false (by omega)))), fun W_ hW_ => ox_load (v := (.slice (some ⟨gs, 0, none⟩) S.length cr)) tA_76 g18_f4 ((((Blk.ext hrv_bnb x_f4).ext e18).ext hW_).cell rfl) ⟨rfl, rfl⟩⟩) hS5 ?_
                  refine xd_pure 6 (some 239) rfl rfl (by kernel_rfl) (v := (.int .i64 ((((spans (rl tb) (H.take k)).length : Nat) : Int)))) (.inl ⟨(wanted_of (j := 4) (b := false) rfl (congrArg some (decide_eq_false (by omega)))), fun W_ hW_ => ox_move (v := (.int .i64 ((((spans (rl tb) (H.take k)).length : Nat) : Int)))) g22_f4 ⟨rfl, rfl⟩⟩) ?_
                  refine xd_pure 7 (some 240) rfl rfl (by kernel_rfl) (v := (.pointer (some ⟨gs, 0 + (spans (rl tb) (H.take k)).length * 2, none⟩))) (.inl ⟨(wanted_of (j := 4) (b := false) rfl (congrArg some (decide_eq_false (by omega)))), fun W_ hW_ => ox_indexAddr (b := gs) (o := 0) (i := ((((spans (rl tb) (H.take k)).length : Nat) : Int))) tE_76 rfl rfl (by omega) (by omega) ⟨rfl, rfl⟩⟩) ?_
                  refine xd_take 8 (some 241) rfl rfl (by kernel_rfl) (v := (.agg #[(.int .i64 (wdL ((rl tb).take xh.into.toNat))), (.int .i64 (wdL ((rl tb).take xh.upto.toNat)))])) (.inl ⟨(wanted_of (j := 4) (b := false) rfl (congrArg some (decide_eq_false (by omega)))), fun W_ hW_ => ox_loadN (vs := [(.int .i64 (wdL ((rl tb).take xh.into.toNat))), (.int .i64 (wdL ((rl tb).take xh.upto.toNat)))]) tA_79 tS_79 rfl rfl (by simpa [snCs, spanH] using Own.sn (((Vx.Own.ext hrv_osp x_f4).ext e18).ext hW_) htd) ⟨rfl, rfl⟩⟩) hS5 ?_
                  refine xd_pure 9 (some 242) rfl rfl (by kernel_rfl) (v := (.slice (some ⟨gt, 0, none⟩) ((Mm.length + 1)) ct)) (.inl ⟨(wanted_of (j := 4) (b := false) rfl (congrArg some (decide_eq_false (by omega)))), fun W_ hW_ => ox_move (v := (.slice (some ⟨gt, 0, none⟩) ((Mm.length + 1)) ct)) g14_f4 ⟨rfl, rfl⟩⟩) ?_
                  refine xd_pure 10 (some 243) rfl rfl (by kernel_rfl) (v := (.pointer (some ⟨v24, 2, none⟩))) (.inl ⟨(wanted_of (j := 4) (b := false) rfl (congrArg some (decide_eq_false (by omega)))), fun W_ hW_ => ox_fieldAddr (b := v24) (o := 0) tF_40_2 g24_f4 ⟨rfl, rfl⟩⟩) ?_
                  refine xd_take 11 (some 244) rfl rfl (by kernel_rfl) (v := (.int .i64 xh.into)) (.inl ⟨(wanted_of (j := 4) (b := false) rfl (congrArg some (decide_eq_false (by omega)))), fun W_ hW_ => ox_load (v := (.int .i64 xh.into)) tA_3 rfl ((((Blk.ext hrv_bv24 x_f4).ext e18).ext hW_).cell rfl) ⟨rfl, rfl⟩⟩) hS5 ?_
                  refine xd_pure 12 (some 245) rfl rfl (by kernel_rfl) (v := (.pointer (some ⟨gt, 0 + (xh.into).toNat * 1, none⟩))) (.inl ⟨(wanted_of (j := 4) (b := false) rfl (congrArg some (decide_eq_false (by omega)))), fun W_ hW_ => ox_indexAddr (b := gt) (o := 0) (i := xh.into) tE_42 rfl rfl (by omega) (by omega) ⟨rfl, rfl⟩⟩) ?_
                  refine xd_take 13 (some 246) rfl rfl (by kernel_rfl) (v := (.int .i64 (wdL ((rl tb).take xh.into.toNat)))) (.inl ⟨(wanted_of (j := 4) (b := false) rfl (congrArg some (decide_eq_false (by omega)))), fun W_ hW_ => ox_load (v := (.int .i64 (wdL ((rl tb).take xh.into.toNat)))) tA_3 rfl (by simpa using Own.at1 (((Vx.Own.ext hrv_ot x_f4).ext e18).ext hW_) (bgC_get (rl tb) (j := xh.into.toNat) (n := Mm.length + 1) (by omega))) ⟨rfl, rfl⟩⟩) hS5 ?_
                  refine xd_pure 14 (some 247) rfl rfl (by kernel_rfl) (v := (.slice (some ⟨gt, 0, none⟩) ((Mm.length + 1)) ct)) (.inl ⟨(wanted_of (j := 4) (b := false) rfl (congrArg some (decide_eq_false (by omega)))), fun W_ hW_ => ox_move (v := (.slice (some ⟨gt, 0, none⟩) ((Mm.length + 1)) ct)) g14_f4 ⟨rfl, rfl⟩⟩) ?_
                  refine xd_pure 15 (some 248) rfl rfl (by kernel_rfl) (v := (.pointer (some ⟨v24, 3, none⟩))) (.inl ⟨(wanted_of (j := 4) (b := false) rfl (congrArg some (decide_eq_false (by omega)))), fun W_ hW_ => ox_fieldAddr (b := v24) (o := 0) tF_40_3 g24_f4 ⟨rfl, rfl⟩⟩) ?_
                  refine xd_take 16 (some 249) rfl rfl (by kernel_rfl) (v := (.int .i64 xh.upto)) (.inl ⟨(wanted_of (j := 4) (b := false) rfl (congrArg some (decide_eq_false (by omega)))), fun W_ hW_ => ox_load (v := (.int .i64 xh.upto)) tA_3 rfl ((((Blk.ext hrv_bv24 x_f4).ext e18).ext hW_).cell rfl) ⟨rfl, rfl⟩⟩) hS5 ?_
                  refine xd_pure 17 (some 250) rfl rfl (by kernel_rfl) (v := (.pointer (some ⟨gt, 0 + (xh.upto).toNat * 1, none⟩))) (.inl ⟨(wanted_of (j := 4) (b := false) rfl (congrArg some (decide_eq_false (by omega)))), fun W_ hW_ => ox_indexAddr (b := gt) (o := 0) (i := xh.upto) tE_42 rfl rfl (by omega) (by omega) ⟨rfl, rfl⟩⟩) ?_
                  refine xd_take 18 (some 251) rfl rfl (by kernel_rfl) (v := (.int .i64 (wdL ((rl tb).take xh.upto.toNat)))) (.inl ⟨(wanted_of (j := 4) (b := false) rfl (congrArg some (decide_eq_false (by omega)))), fun W_ hW_ => ox_load (v := (.int .i64 (wdL ((rl tb).take xh.upto.toNat)))) tA_3 rfl (by simpa using Own.at1 (((Vx.Own.ext hrv_ot x_f4).ext e18).ext hW_) (bgC_get (rl tb) (j := xh.upto.toNat) (n := Mm.length + 1) (by omega))) ⟨rfl, rfl⟩⟩) hS5 ?_
                  refine xd_pure 19 (some 252) rfl rfl (by kernel_rfl) (v := (.agg #[(.int .i64 (wdL ((rl tb).take xh.into.toNat))), (.int .i64 (wdL ((rl tb).take xh.upto.toNat)))])) (.inl ⟨(wanted_of (j := 4) (b := false) rfl (congrArg some (decide_eq_false (by omega)))), fun W_ hW_ => ox_mkStruct (ps := [(0, (.int .i64 (wdL ((rl tb).take xh.into.toNat)))), (1, (.int .i64 (wdL ((rl tb).take xh.upto.toNat))))]) (cs := #[(.int .i64 (wdL ((rl tb).take xh.into.toNat))), (.int .i64 (wdL ((rl tb).take xh.upto.toNat)))]) tZ_79 tP_79 rfl (by kernel_rfl) ⟨rfl, rfl⟩⟩) ?_
                  refine xd_pure 20 (some 253) rfl rfl (by kernel_rfl) (v := (.bool (!decide (((wdL ((rl tb).take xh.into.toNat) : Int) = (wdL ((rl tb).take xh.into.toNat)) ∧ (wdL ((rl tb).take xh.upto.toNat) : Int) = (wdL ((rl tb).take xh.upto.toNat))))))) (.inl ⟨(wanted_of (j := 4) (b := false) rfl (congrArg some (decide_eq_false (by omega)))), fun W_ hW_ => ox_neqF (xs := [(.int .i64 (wdL ((rl tb).take xh.into.toNat))), (.int .i64 (wdL ((rl tb).take xh.upto.toNat)))]) (ys := [(.int .i64 (wdL ((rl tb).take xh.into.toNat))), (.int .i64 (wdL ((rl tb).take xh.upto.toNat)))]) (p := ((wdL ((rl tb).take xh.into.toNat) : Int) = (wdL ((rl tb).take xh.into.toNat)) ∧ (wdL ((rl tb).take xh.upto.toNat) : Int) = (wdL ((rl tb).take xh.upto.toNat)))) fS_79 rfl rfl rfl rfl (by simp) ⟨rfl, rfl⟩⟩) ?_
                  refine xd_pure 21 (some 254) rfl rfl (by kernel_rfl) (v := (.bool (!decide (((wdL ((rl tb).take xh.into.toNat) : Int) = (wdL ((rl tb).take xh.into.toNat)) ∧ (wdL ((rl tb).take xh.upto.toNat) : Int) = (wdL ((rl tb).take xh.upto.toNat))))))) (.inl ⟨rfl, fun W_ hW_ => ox_pick_f (v := (.bool (!decide (((wdL ((rl tb).take xh.into.toNat) : Int) = (wdL ((rl tb).take xh.into.toNat)) ∧ (wdL ((rl tb).take xh.upto.toNat) : Int) = (wdL ((rl tb).take xh.upto.toNat))))))) (congrArg Value.bool (decide_eq_false (by omega))) rfl ⟨rfl, rfl⟩⟩) ?_
                  refine xd_done (by kernel_rfl) ?_ _
                  refine xc_cond_f (congrArg Value.bool (by simp : (!decide (((wdL ((rl tb).take xh.into.toNat) : Int) = (wdL ((rl tb).take xh.into.toNat)) ∧ (wdL ((rl tb).take xh.upto.toNat) : Int) = (wdL ((rl tb).take xh.upto.toNat))))) = false)) ?_
                  refine xc_skip ?_
                  refine xc_region ?_
                  refine xl_op (P := Try.prog) (some 255) rfl rfl (ox_move (v := (.int .i64 ((((spans (rl tb) (H.take k)).length : Nat) : Int)))) g22_f4 ?_)
                  refine xl_op (P := Try.prog) (some 256) rfl rfl (ox_add64 (a := ((((spans (rl tb) (H.take k)).length : Nat) : Int))) (b := 1) rfl rfl (by omega) ?_)
                  refine xl_op (P := Try.prog) (some 22) rfl rfl (ox_assign (v := (.int .i64 ((((spans (rl tb) (H.take k)).length : Nat) : Int) + 1))) rfl ?_)
                  refine xl_nil ?_
                  refine xc_seq ?_
                  refine xc_region ?_
                  refine xl_op (P := Try.prog) (some 257) rfl rfl (ox_fieldAddr (b := v24) (o := 0) tF_40_1 g24_f4 ?_)
                  have q29 := (((Blk.ext hrv_bv24 x_f4).ext e18).ext e19)
                  refine xl_op (P := Try.prog) (some 258) rfl rfl (ox_load (v := (.int .i64 xh.to)) tA_3 rfl (q29.cell rfl) ?_)
                  refine xl_op (P := Try.prog) (some 20) rfl rfl (ox_assign (v := (.int .i64 xh.to)) rfl ?_)
                  refine xl_nil ?_
                  refine xc_region ?_
                  refine xl_op (P := Try.prog) (some 259) rfl rfl (ox_fieldAddr (b := v24) (o := 0) tF_40_3 g24_f4 ?_)
                  refine xl_op (P := Try.prog) (some 260) rfl rfl (ox_load (v := (.int .i64 xh.upto)) tA_3 rfl (q29.cell rfl) ?_)
                  refine xl_op (P := Try.prog) (some 21) rfl rfl (ox_assign (v := (.int .i64 xh.upto)) rfl ?_)
                  refine xl_nil ?_
                  refine xc_region ?_
                  refine xl_op (P := Try.prog) (some 117) rfl rfl (ox_move (v := (.int .i64 ((k : Nat)))) g23_f4 ?_)
                  refine xl_op (P := Try.prog) (some 118) rfl rfl (ox_add64 (a := ((k : Nat))) (b := 1) rfl rfl (by omega) ?_)
                  refine xl_op (P := Try.prog) (some 23) rfl rfl (ox_assign (v := (.int .i64 ((k : Nat) + 1))) rfl ?_)
                  refine xl_nil ?_
                  have hsz0 := e18.size
                  have hsz1 := e19.size
                  exact ⟨rfl, H.length + 1 - (k + 1), by omega, k + 1, xh.to, xh.upto, by omega, by omega, hX.next, g5_f4, g6_f4, g7_f4, g1_f4, g10_f4, g13_f4, g14_f4, g16_f4, g18_f4, (by first | exact rfl | exact (congrArg (Value.int .i64) (by omega))), (by first | exact rfl | exact (congrArg (Value.int .i64) (by omega))), (by first | exact rfl | exact (congrArg (Value.int .i64) (by omega))), (by first | exact rfl | exact (congrArg (Value.int .i64) (by omega))), (Ext.trans (Ext.trans (Ext.trans hEx8 x_f4) e18) e19)⟩
                · skip
                  have hlt : ¬ (spanH (rl tb) xh).frm < (spanH (rl tb) xh).to := h5
                  have htl : (spans (rl tb) (H.take (k + 1))).length = (spans (rl tb) (H.take k)).length := by rcases hwh with h8 | ⟨h8, _⟩; rw [spans_no h8 hlt]; rw [List.take_of_length_le (by omega), List.take_of_length_le (by omega)]
                  refine xc_skip ?_
                  refine xc_seq ?_
                  refine xc_region ?_
                  refine xl_op (P := Try.prog) (some 257) rfl rfl (ox_fieldAddr (b := v24) (o := 0) tF_40_1 g24_f4 ?_)
                  refine xl_op (P := Try.prog) (some 258) rfl rfl (ox_load (v := (.int .i64 xh.to)) tA_3 rfl (((Blk.ext hrv_bv24 x_f4).ext e18).cell rfl) ?_)
                  refine xl_op (P := Try.prog) (some 20) rfl rfl (ox_assign (v := (.int .i64 xh.to)) rfl ?_)
                  refine xl_nil ?_
                  refine xc_region ?_
                  refine xl_op (P := Try.prog) (some 259) rfl rfl (ox_fieldAddr (b := v24) (o := 0) tF_40_3 g24_f4 ?_)
                  refine xl_op (P := Try.prog) (some 260) rfl rfl (ox_load (v := (.int .i64 xh.upto)) tA_3 rfl (((Blk.ext hrv_bv24 x_f4).ext e18).cell rfl) ?_)
                  refine xl_op (P := Try.prog) (some 21) rfl rfl (ox_assign (v := (.int .i64 xh.upto)) rfl ?_)
                  refine xl_nil ?_
                  refine xc_region ?_
                  refine xl_op (P := Try.prog) (some 117) rfl rfl (ox_move (v := (.int .i64 ((k : Nat)))) g23_f4 ?_)
                  refine xl_op (P := Try.prog) (some 118) rfl rfl (ox_add64 (a := ((k : Nat))) (b := 1) rfl rfl (by omega) ?_)
                  refine xl_op (P := Try.prog) (some 23) rfl rfl (ox_assign (v := (.int .i64 ((k : Nat) + 1))) rfl ?_)
                  refine xl_nil ?_
                  have hsz0 := e18.size
                  exact ⟨rfl, H.length + 1 - (k + 1), by omega, k + 1, xh.to, xh.upto, by omega, by omega, hX.next, g5_f4, g6_f4, g7_f4, g1_f4, g10_f4, g13_f4, g14_f4, g16_f4, g18_f4, (by first | exact rfl | exact (congrArg (Value.int .i64) (by omega))), (by first | exact rfl | exact (congrArg (Value.int .i64) (by omega))), (by rw [htl]; exact g22_f4), (by first | exact rfl | exact (congrArg (Value.int .i64) (by omega))), (Ext.trans (Ext.trans hEx8 x_f4) e18)⟩
          · skip
            obtain ⟨hfr9, hin9⟩ := gap_end hg (by omega)
            have htd9 : (spans (rl tb) (H.take k)).length = S.length := by rw [List.take_of_length_le (by omega), ← hS]
            refine xc_exit ?_
            refine xc_seq ?_
            refine xc_region ?_
            refine xl_op (P := Try.prog) (some 261) rfl rfl (ox_move (v := (.int .i64 ((((spans (rl tb) (H.take k)).length : Nat) : Int)))) g22_f2 ?_)
            refine xl_op (P := Try.prog) (some 262) rfl rfl (ox_load (v := (.slice Ar S.length cr)) tA_76 g18_f2 ((Blk.ext hru_bnb x_f2).cell rfl) ?_)
            refine xl_op (P := Try.prog) (some 263) rfl rfl (ox_len (A := Ar) (n := S.length) (cp := cr) rfl tU_76 rfl ?_)
            refine xl_op (P := Try.prog) (some 264) rfl rfl (ox_neq (k := .i64) (a := ((((spans (rl tb) (H.take k)).length : Nat) : Int))) (b := (((S.length : Nat) : Int))) rfl rfl ?_)
            refine xl_op (P := Try.prog) (some 265) rfl rfl (ox_move (v := (.bool (decide (((((spans (rl tb) (H.take k)).length : Nat) : Int) : Int) ≠ (((S.length : Nat) : Int)))))) rfl ?_)
            refine xl_opg (P := Try.prog) (some 266) (j := 4) (b := false) rfl rfl (congrArg some (decide_eq_false (by omega))) (ox_move (v := (.int .i64 fr)) g20_f2 ?_)
            refine xl_opg (P := Try.prog) (some 267) (j := 4) (b := false) rfl rfl (congrArg some (decide_eq_false (by omega))) (ox_move (v := (.slice Al Lm.length cl)) g10_f2 ?_)
            refine xl_opg (P := Try.prog) (some 268) (j := 4) (b := false) rfl rfl (congrArg some (decide_eq_false (by omega))) (ox_len (A := Al) (n := Lm.length) (cp := cl) rfl tU_42 rfl ?_)
            refine xl_opg (P := Try.prog) (some 269) (j := 4) (b := false) rfl rfl (congrArg some (decide_eq_false (by omega))) (ox_neq (k := .i64) (a := fr) (b := (((Lm.length : Nat) : Int))) rfl rfl ?_)
            refine xl_op (P := Try.prog) (some 270) rfl rfl (ox_pick_f (v := (.bool (decide ((fr : Int) ≠ (((Lm.length : Nat) : Int)))))) (congrArg Value.bool (decide_eq_false (by omega))) rfl ?_)
            refine xl_op (P := Try.prog) (some 271) rfl rfl (ox_move (v := (.bool (decide ((fr : Int) ≠ (((Lm.length : Nat) : Int)))))) rfl ?_)
            refine xl_opg (P := Try.prog) (some 272) (j := 10) (b := false) rfl rfl (congrArg some (decide_eq_false (by omega))) (ox_move (v := (.int .i64 into)) g21_f2 ?_)
            refine xl_opg (P := Try.prog) (some 273) (j := 10) (b := false) rfl rfl (congrArg some (decide_eq_false (by omega))) (ox_move (v := (.slice Am Mm.length cm)) g13_f2 ?_)
            refine xl_opg (P := Try.prog) (some 274) (j := 10) (b := false) rfl rfl (congrArg some (decide_eq_false (by omega))) (ox_len (A := Am) (n := Mm.length) (cp := cm) rfl tU_42 rfl ?_)
            refine xl_opg (P := Try.prog) (some 275) (j := 10) (b := false) rfl rfl (congrArg some (decide_eq_false (by omega))) (ox_neq (k := .i64) (a := into) (b := (((Mm.length : Nat) : Int))) rfl rfl ?_)
            refine xl_op (P := Try.prog) (some 276) rfl rfl (ox_pick_f (v := (.bool (decide ((into : Int) ≠ (((Mm.length : Nat) : Int)))))) (congrArg Value.bool (decide_eq_false (by omega))) rfl ?_)
            refine xl_nil ?_
            refine xc_cond_f (congrArg Value.bool (decide_eq_false (by omega))) ?_
            refine xc_skip ?_
            refine xc_region ?_
            refine xl_op (P := Try.prog) (some 43) rfl rfl (ox_move (v := (.int .i64 ((i : Nat)))) g7_f2 ?_)
            refine xl_op (P := Try.prog) (some 44) rfl rfl (ox_add64 (a := ((i : Nat))) (b := 1) rfl rfl (by omega) ?_)
            refine xl_op (P := Try.prog) (some 7) rfl rfl (ox_assign (v := (.int .i64 ((i : Nat) + 1))) rfl ?_)
            refine xl_nil ?_
            have hEL := (Ext.trans hEx4 x_f2)
            have hED := x_f2
            have hDl := mark_lt hD9
            have hmd2 : ∀ D ∈ D9 :: Ds, w.heap.size ≤ D ∧ w15.heap[D]? = some (.deferred (some [])) := by
              intro D hD; rcases List.mem_cons.1 hD with h | hD
              · subst h; exact ⟨by omega, mark_keep hD9 hED not_false⟩
              · exact ⟨(hmd D hD).1, mark_keep (hmd D hD).2 hEL not_false⟩
            have hnd2 : (D9 :: Ds).Nodup := List.nodup_cons.2 ⟨fun h => by have := mark_lt (hmd _ h).2; omega, hnd⟩
            exact ⟨ps.length - (i + 1), by omega, i + 1, D9 :: Ds, by omega, by omega, rfl, g5_f2, g6_f2, g1_f2, (by first | exact rfl | exact (congrArg (Value.int .i64) (by omega))), (Ext.trans hEx3 x_f2), hmd2, hnd2⟩
      · skip
        intro D Y c pre W hD hY hYD hpre hI hheap; exact hI.elim
    · skip
      have h1' := h1
      try simp only [Bool.or_eq_true, Bool.and_eq_true, decide_eq_true_eq, Bool.or_eq_false_iff, Bool.and_eq_false_iff, decide_eq_false_iff_not, Bool.not_eq_true', Bool.not_eq_false'] at h1'
      refine xc_exit ?_
      refine xc_seq ?_
      refine xc_region ?_
      refine xl_op (P := Try.prog) (some 277) rfl rfl (ox_move (v := (.bool true)) g6_f1 ?_)
      refine xl_op (P := Try.prog) (some 4) rfl rfl (ox_assign (v := (.bool true)) rfl ?_)
      refine xl_nil ?_
      refine xc_ret ?_
      change leaves _ _ _ _ _ _ _
      refine leaves_marks Ds _ (fun D hD => (hmd D hD).2) hnd (fun w9 hc9 hs9 => ?_)
      refine leaves_nil (n := 278) (rs := [.tmp 4]) (vs := [(.bool true)]) rfl ⟨⟨by decide, rfl⟩, trivial⟩ ?_
      exact ⟨rfl, (Chg.trans (Ext.trans hEx1 x_f1) hc9 (fun b hb hl => absurd hl (by have := (hmd b hb).1; omega)))⟩

end Go.Proofs.Ythhbnodnpajljaa
