/-
  The law DeltaMakes, walked. No conditions.
-/
import Derived.Test.YthhbnodnpajljaaVxi
import Derived.Test.YthhbnodnpajljaaRows
import Derived.Test.YthhbnodnpajljaaRia
import Derived.Test.YthhbnodnpajljaaIa
import Derived.Test.YthhbnodnpajljaaHc
import Derived.Test.YthhbnodnpajljaaGa
import Derived.Test.YthhbnodnpajljaaDq
import Derived.Test.YthhbnodnpajljaaDs
set_option linter.unusedVariables false
set_option linter.unusedSimpArgs false
set_option maxRecDepth 100000
set_option maxHeartbeats 4000000
namespace Go.Proofs.Ythhbnodnpajljaa
open Go Go.RowKit Go.Vx

theorem ne_two {x y b c d : Bool} (h : x = b) (h' : y = c) (r : (b != c) = d) : (x != y) = d := by rw [h, h']; exact r

theorem pf_13 : plainF Try.prog 13 = true := by kernel_rfl
theorem pf_29 : plainF Try.prog 29 = true := by kernel_rfl
theorem pf_36 : plainF Try.prog 36 = true := by kernel_rfl
theorem pf_38 : plainF Try.prog 38 = true := by kernel_rfl
theorem pf_39 : plainF Try.prog 39 = true := by kernel_rfl
theorem tE_23 : sliceT Try.prog 23 = some (33, 2, 16, (.agg #[(.int .i64 0), (.int .i64 0)])) := by kernel_rfl
theorem tU_23 : Try.prog.underlying 23 = some (.slice 33) := by kernel_rfl
theorem tV_33 : arrT Try.prog 33 = some (2, 3, 1) := by kernel_rfl

theorem deltaMakes_calls (l : List PB) (A0 : Option Addr) (c0 : Nat) (ps : List (Int × Int)) (A1 : Option Addr) (c1 : Nat) (w : World) (hA0 : RowA w A0 (pbC l)) (hn0 : l.length ≤ 4611686018427387904) (hok : ∀ x ∈ l, x.ok w) (hA1 : RowA w A1 (prC ps)) (hn1 : ps.length ≤ 8796093022208) :
    Calls Try.prog 12 #[(.slice A0 l.length c0), (.slice A1 ps.length c1)] w (Ret (fun v w' => v = .bool true ∧ Ext w w')) := by
  refine calls_xc (n := 158) (f := fun s_ => [(.slice A0 l.length c0), (.slice A1 ps.length c1)].getD s_ undef) Try.func12 rfl rfl (by simp) (fun s_ => by simp) ?_
  refine xc_seq ?_
  refine xc_region ?_
  refine xl_op (P := Try.prog) (some 4) rfl rfl (ox_assign (v := (.bool false)) rfl ?_)
  refine xl_nil ?_
  refine xc_seq ?_
  refine xc_region ?_
  refine xl_op (P := Try.prog) (some 19) rfl rfl (ox_move (v := (.slice A0 l.length c0)) rfl ?_)
  refine xl_op (P := Try.prog) (some 20) rfl rfl (ox_callE (al := [(.slice A0 l.length c0)]) pf_13 rfl (ret_mono (grove_calls l A0 c0 w (RowA.ext hA0 (Chg.refl _ _)) (by omega) (fun x hx => (hok x hx).ext (Chg.refl _ _))) ?_))
  rintro _ w1 ⟨bg, s, ts, us, An, Ap, cn, cp, rfl, hGM, hlbg, hls, e1⟩
  have he1 := e1.size
  have hul := hGM.ok.len
  have hfew := hGM.few
  have hEg := e1
  have hzg := hEg.size
  have hlsg := hGM.st.lt
  have hbgs : ¬ bg = s := fun h => Blk.ne hGM.g hGM.st (by decide) h
  refine xl_op (P := Try.prog) (some 18) rfl rfl (ox_move (v := (.tuple #[(.pointer (some ⟨bg, 0, none⟩)), (.bool true)])) rfl ?_)
  refine xl_op (P := Try.prog) (some 21) rfl rfl (ox_extract (vs := #[(.pointer (some ⟨bg, 0, none⟩)), (.bool true)]) (v := (.pointer (some ⟨bg, 0, none⟩))) rfl rfl ?_)
  refine xl_op (P := Try.prog) (some 22) rfl rfl (ox_extract (vs := #[(.pointer (some ⟨bg, 0, none⟩)), (.bool true)]) (v := (.bool true)) rfl rfl ?_)
  refine xl_op (P := Try.prog) (some 5) rfl rfl (ox_assign (v := (.pointer (some ⟨bg, 0, none⟩))) rfl ?_)
  refine xl_op (P := Try.prog) (some 6) rfl rfl (ox_assign (v := (.bool true)) rfl ?_)
  refine xl_nil ?_
  refine xc_seq ?_
  refine xc_seq ?_
  refine xc_region ?_
  refine xl_op (P := Try.prog) (some 7) rfl rfl (ox_assign (v := (.int .i64 0)) rfl ?_)
  refine xl_nil ?_
  refine xc_block ?_
  have hst2 := hGM.st.ext (Chg.refl _ _)
  have hC0 : Chg1 s w1 w1 := Ext.to (Chg.refl _ _)
  refine xc_loopN (fun m f W => ∃ (i : Nat) (cq : Int), m = ps.length - i ∧ i ≤ ps.length ∧ (((ts.length : Nat) : Int) ≤ cq ∧ cq ≤ ((ts.length : Nat) : Int) + 1500 * (i : Nat)) ∧ f 5 = (.pointer (some ⟨bg, 0, none⟩)) ∧ f 1 = (.slice A1 ps.length c1) ∧ f 6 = (.bool true) ∧ f 7 = (.int .i64 ((i : Nat))) ∧ Blk W s #[.int .i64 cq] 140 ∧ Chg1 s w1 W) (ps.length) ?_ ?_
  · exact ⟨0, ((ts.length : Nat) : Int), by omega, by omega, by omega, rfl, rfl, rfl, (by first | exact rfl | exact (congrArg (Value.int .i64) (by omega))), hst2, hC0⟩
  · rintro m f1 w2 ⟨i, cq, hm, hi, hcq, g5_f1, g1_f1, g6_f1, g7_f1, blk_s_f1, c_f1⟩
    have hzC := c_f1.size
    refine xc_seq ?_
    refine xc_seq ?_
    refine xc_region ?_
    refine xl_op (P := Try.prog) (some 23) rfl rfl (ox_move (v := (.int .i64 ((i : Nat)))) g7_f1 ?_)
    refine xl_op (P := Try.prog) (some 24) rfl rfl (ox_move (v := (.slice A1 ps.length c1)) g1_f1 ?_)
    refine xl_op (P := Try.prog) (some 25) rfl rfl (ox_len (A := A1) (n := ps.length) (cp := c1) rfl tU_23 rfl ?_)
    refine xl_op (P := Try.prog) (some 26) rfl rfl (ox_lss (k := .i64) (a := ((i : Nat))) (b := (((ps.length : Nat) : Int))) rfl rfl ?_)
    refine xl_op (P := Try.prog) (some 27) rfl rfl (ox_move (v := (.bool (decide (((i : Nat) : Int) < (((ps.length : Nat) : Int)))))) rfl ?_)
    refine xl_may (P := Try.prog) (some 28) (j := 4) (b := true) (((decide (((i : Nat) : Int) < (((ps.length : Nat) : Int))))) = true) (.bool (decide (((i : Nat) : Int) < (((ps.length : Nat) : Int))))) (.pointer (some ⟨bg, 0, none⟩)) rfl rfl rfl (may_b ((decide (((i : Nat) : Int) < (((ps.length : Nat) : Int))))) true) (fun hp => ox_move (v := (.pointer (some ⟨bg, 0, none⟩))) g5_f1 ⟨rfl, rfl⟩) ?_
    refine xl_may (P := Try.prog) (some 29) (j := 4) (b := true) (((decide (((i : Nat) : Int) < (((ps.length : Nat) : Int))))) = true) (.bool (decide (((i : Nat) : Int) < (((ps.length : Nat) : Int))))) (.pointer (some ⟨bg, 0, none⟩)) rfl rfl rfl (may_b ((decide (((i : Nat) : Int) < (((ps.length : Nat) : Int))))) true) (fun hp => ox_nilCheck (p := ⟨bg, 0, none⟩) (if_pos (α := Value) (t := (.pointer (some ⟨bg, 0, none⟩))) (e := undef) hp) ⟨rfl, rfl⟩) ?_
    refine xl_may (P := Try.prog) (some 30) (j := 4) (b := true) (((decide (((i : Nat) : Int) < (((ps.length : Nat) : Int))))) = true) (.bool (decide (((i : Nat) : Int) < (((ps.length : Nat) : Int))))) (.pointer (some ⟨bg, 1, none⟩)) rfl rfl rfl (may_b ((decide (((i : Nat) : Int) < (((ps.length : Nat) : Int))))) true) (fun hp => ox_fieldAddr (b := bg) (o := 0) tF_31_1 (if_pos (α := Value) (t := (.pointer (some ⟨bg, 0, none⟩))) (e := undef) hp) ⟨rfl, rfl⟩) ?_
    refine xl_may (P := Try.prog) (some 31) (j := 4) (b := true) (((decide (((i : Nat) : Int) < (((ps.length : Nat) : Int))))) = true) (.bool (decide (((i : Nat) : Int) < (((ps.length : Nat) : Int))))) (.slice An ts.length cn) rfl rfl rfl (may_b ((decide (((i : Nat) : Int) < (((ps.length : Nat) : Int))))) true) (fun hp => ox_load (v := (.slice An ts.length cn)) tA_28 (if_pos (α := Value) (t := (.pointer (some ⟨bg, 1, none⟩))) (e := undef) hp) ((hGM.g.keep c_f1 hbgs).cell rfl) ⟨rfl, rfl⟩) ?_
    refine xl_may (P := Try.prog) (some 32) (j := 4) (b := true) (((decide (((i : Nat) : Int) < (((ps.length : Nat) : Int))))) = true) (.bool (decide (((i : Nat) : Int) < (((ps.length : Nat) : Int))))) (.int .i64 (((ts.length : Nat) : Int))) rfl rfl rfl (may_b ((decide (((i : Nat) : Int) < (((ps.length : Nat) : Int))))) true) (fun hp => ox_len (A := An) (n := ts.length) (cp := cn) rfl tU_28 (if_pos (α := Value) (t := (.slice An ts.length cn)) (e := undef) hp) ⟨rfl, rfl⟩) ?_
    refine xl_may (P := Try.prog) (some 33) (j := 4) (b := true) (((decide (((i : Nat) : Int) < (((ps.length : Nat) : Int))))) = true) (.bool (decide (((i : Nat) : Int) < (((ps.length : Nat) : Int))))) (.bool (decide ((0 : Int) < (((ts.length : Nat) : Int))))) rfl rfl rfl (may_b ((decide (((i : Nat) : Int) < (((ps.length : Nat) : Int))))) true) (fun hp => ox_gtr (k := .i64) (a := (((ts.length : Nat) : Int))) (b := 0) (if_pos (α := Value) (t := (.int .i64 (((ts.length : Nat) : Int)))) (e := undef) hp) rfl ⟨rfl, rfl⟩) ?_
    refine xl_op (P := Try.prog) (some 34) rfl rfl (ox_pick_and (a := ((decide (((i : Nat) : Int) < (((ps.length : Nat) : Int)))))) (b := ((decide ((0 : Int) < (((ts.length : Nat) : Int)))))) rfl (fun ha => (if_pos (α := Value) (t := (.bool (decide ((0 : Int) < (((ts.length : Nat) : Int)))))) (e := undef) ha)) rfl ?_)
    refine xl_nil ?_
    refine xc_cond (b := (((decide (((i : Nat) : Int) < (((ps.length : Nat) : Int))))) && ((decide ((0 : Int) < (((ts.length : Nat) : Int))))))) rfl (fun h1 => ?_) (fun h1 => ?_)
    · skip
      have h1' := h1
      try simp only [Bool.or_eq_true, Bool.and_eq_true, decide_eq_true_eq, Bool.or_eq_false_iff, Bool.and_eq_false_iff, decide_eq_false_iff_not, Bool.not_eq_true', Bool.not_eq_false'] at h1'
      have hil : i < ps.length := by omega
      have htp : 0 < ts.length := by omega
      obtain ⟨p, hp⟩ := get_ex (l := ps) (i := i) hil
      obtain ⟨g1, o1, rfl⟩ := hA1.ex (by intro hh; cases ps with | nil => simp at hp | cons q l => simp [prC, prCs] at hh)
      have hcpr : CellsL w g1 (o1 + i * 2) [.int .i64 p.1, .int .i64 p.2] := cellsL_flat prCs 2 (fun _ => rfl) hA1.cells hp
      obtain ⟨qa, hqa⟩ := mod_nat p.1 htp
      have hqa2 := mod_lt hqa htp
      obtain ⟨qb, hqb⟩ := mod_nat p.2 htp
      have hqb2 := mod_lt hqb htp
      obtain ⟨gn, gp, ta, ua, rfl, rfl, hta, hua, hcna, hcpa, hPa, hRa, hWa, hsa, hsua, hska⟩ := hGM.at hqa2
      obtain ⟨gn2, gp2, tb, ub, e8, e9, htb, hub, hcnb, hcpb, hPb, hRb, hWb, hsb, hsub, hskb⟩ := hGM.at hqb2
      cases e8; cases e9
      have hsa4 : sz ta ≤ 4194304 := by omega
      have hsb4 : sz tb ≤ 4194304 := by omega
      have hsua4 : sz ua ≤ 4194304 := by omega
      have hsub4 : sz ub ≤ 4194304 := by omega
      have hgns : ¬ gn = s := fun h => Own.ne_blk hGM.on hGM.st (by decide) gn rfl h
      have htam := List.mem_of_getElem? hta
      have htbm := List.mem_of_getElem? htb
      obtain ⟨S, hS⟩ : ∃ S, S = script (hasR ta) tb := ⟨_, rfl⟩
      have hSl : S.length ≤ 1500 := by have h1 := script_len (hasR ta) tb; rw [← hS] at h1; omega
      have hSr : ∀ o ∈ S, opR o := by rw [hS]; exact script_opR hsb4
      have hend := makes_end hGM.ok htam htbm
      rw [← hS] at hend
      refine xc_skip ?_
      refine xc_seq ?_
      refine xc_block ?_
      refine xc_seq ?_
      refine xc_regionE [] (fun W_ => Chg (fun _ => False) w2 W_) hmix ?_
      intro w3 e2 z1
      have hS1 : Chg (fun _ => False) w2 w3 := Ext.to e2
      refine xd_pure 0 (some 37) rfl rfl (by kernel_rfl) (v := (.pointer (some ⟨bg, 0, none⟩))) (.inl ⟨rfl, fun W_ hW_ => ox_move (v := (.pointer (some ⟨bg, 0, none⟩))) g5_f1 ⟨rfl, rfl⟩⟩) ?_
      refine xd_pure 1 (some 38) rfl rfl (by kernel_rfl) (v := (.pointer (some ⟨bg, 0, none⟩))) (.inl ⟨rfl, fun W_ hW_ => ox_nilCheck (p := ⟨bg, 0, none⟩) rfl ⟨rfl, rfl⟩⟩) ?_
      refine xd_pure 2 (some 39) rfl rfl (by kernel_rfl) (v := (.pointer (some ⟨bg, 1, none⟩))) (.inl ⟨rfl, fun W_ hW_ => ox_fieldAddr (b := bg) (o := 0) tF_31_1 rfl ⟨rfl, rfl⟩⟩) ?_
      refine xd_take 3 (some 40) rfl rfl (by kernel_rfl) (v := (.slice (some ⟨gn, 0, none⟩) ts.length cn)) (.inl ⟨rfl, fun W_ hW_ => ox_load (v := (.slice (some ⟨gn, 0, none⟩) ts.length cn)) tA_28 rfl (((hGM.g.keep c_f1 hbgs).ext hW_).cell rfl) ⟨rfl, rfl⟩⟩) hS1 ?_
      refine xd_pure 4 (some 41) rfl rfl (by kernel_rfl) (v := (.slice (some ⟨g1, o1, none⟩) ps.length c1)) (.inl ⟨rfl, fun W_ hW_ => ox_move (v := (.slice (some ⟨g1, o1, none⟩) ps.length c1)) g1_f1 ⟨rfl, rfl⟩⟩) ?_
      refine xd_pure 5 (some 42) rfl rfl (by kernel_rfl) (v := (.int .i64 ((i : Nat)))) (.inl ⟨rfl, fun W_ hW_ => ox_move (v := (.int .i64 ((i : Nat)))) g7_f1 ⟨rfl, rfl⟩⟩) ?_
      refine xd_pure 6 (some 43) rfl rfl (by kernel_rfl) (v := (.pointer (some ⟨g1, o1 + i * 2, none⟩))) (.inl ⟨rfl, fun W_ hW_ => ox_indexAddr (b := g1) (o := o1) (i := ((i : Nat))) tE_23 rfl rfl (by omega) (by omega) ⟨rfl, rfl⟩⟩) ?_
      refine xd_pure 7 (some 44) rfl rfl (by kernel_rfl) (v := (.pointer (some ⟨g1, o1 + i * 2, none⟩))) (.inl ⟨rfl, fun W_ hW_ => ox_indexArr (b := g1) (o := (o1 + i * 2)) (i := 0) tV_33 rfl rfl (by decide) (by decide) ⟨rfl, rfl⟩⟩) ?_
      refine xd_take 8 (some 45) rfl rfl (by kernel_rfl) (v := (.int .i64 p.1)) (.inl ⟨rfl, fun W_ hW_ => ox_load (v := (.int .i64 p.1)) tA_3 rfl (CellsL.keep (Ext.trans (Ext.chg1 hEg c_f1 hls) hW_) not_false hcpr).1 ⟨rfl, rfl⟩⟩) hS1 ?_
      refine xd_pure 9 (some 46) rfl rfl (by kernel_rfl) (v := (.pointer (some ⟨bg, 0, none⟩))) (.inl ⟨rfl, fun W_ hW_ => ox_move (v := (.pointer (some ⟨bg, 0, none⟩))) g5_f1 ⟨rfl, rfl⟩⟩) ?_
      refine xd_pure 10 (some 47) rfl rfl (by kernel_rfl) (v := (.pointer (some ⟨bg, 0, none⟩))) (.inl ⟨rfl, fun W_ hW_ => ox_nilCheck (p := ⟨bg, 0, none⟩) rfl ⟨rfl, rfl⟩⟩) ?_
      refine xd_pure 11 (some 48) rfl rfl (by kernel_rfl) (v := (.pointer (some ⟨bg, 1, none⟩))) (.inl ⟨rfl, fun W_ hW_ => ox_fieldAddr (b := bg) (o := 0) tF_31_1 rfl ⟨rfl, rfl⟩⟩) ?_
      refine xd_take 12 (some 49) rfl rfl (by kernel_rfl) (v := (.slice (some ⟨gn, 0, none⟩) ts.length cn)) (.inl ⟨rfl, fun W_ hW_ => ox_load (v := (.slice (some ⟨gn, 0, none⟩) ts.length cn)) tA_28 rfl (((hGM.g.keep c_f1 hbgs).ext hW_).cell rfl) ⟨rfl, rfl⟩⟩) hS1 ?_
      refine xd_pure 13 (some 50) rfl rfl (by kernel_rfl) (v := (.int .i64 (((ts.length : Nat) : Int)))) (.inl ⟨rfl, fun W_ hW_ => ox_len (A := (some ⟨gn, 0, none⟩)) (n := ts.length) (cp := cn) rfl tU_28 rfl ⟨rfl, rfl⟩⟩) ?_
      refine xd_take 14 (some 51) rfl rfl (by kernel_rfl) (v := (.int .i64 ((qa : Nat)))) (.inl ⟨rfl, fun W_ hW_ => ox_callE (al := [(.int .i64 p.1), (.int .i64 (((ts.length : Nat) : Int)))]) pf_14 rfl (ret_mono ((by have h := within_calls p.1 ((ts.length : Nat) : Int) W_ (by omega); rw [hqa] at h; exact h)) (by rintro _ _ ⟨rfl, rfl⟩; exact ⟨rfl, rfl⟩))⟩) hS1 ?_
      refine xd_pure 15 (some 52) rfl rfl (by kernel_rfl) (v := (.pointer (some ⟨gn, 0 + ((qa : Nat) : Int).toNat * 1, none⟩))) (.inl ⟨rfl, fun W_ hW_ => ox_indexAddr (b := gn) (o := 0) (i := ((qa : Nat))) tE_28 rfl rfl (by omega) (by omega) ⟨rfl, rfl⟩⟩) ?_
      refine xd_take 16 (some 53) rfl rfl (by kernel_rfl) (v := (.pointer (some ⟨ta.b, 0, none⟩))) (.inl ⟨rfl, fun W_ hW_ => ox_load (v := (.pointer (some ⟨ta.b, 0, none⟩))) tA_36 rfl (by simpa [T.ptr] using Chg.cell hcna (Chg.ext c_f1 hW_) hgns) ⟨rfl, rfl⟩⟩) hS1 ?_
      refine xd_pure 17 (some 8) rfl rfl (by kernel_rfl) (v := (.pointer (some ⟨ta.b, 0, none⟩))) (.inl ⟨rfl, fun W_ hW_ => ox_assign (v := (.pointer (some ⟨ta.b, 0, none⟩))) rfl ⟨rfl, rfl⟩⟩) ?_
      refine xd_done (by kernel_rfl) ?_ _
      refine xc_seq ?_
      refine xc_regionE [] (fun W_ => Chg (fun _ => False) w3 W_) hmix ?_
      intro w4 e3 z2
      have hS2 : Chg (fun _ => False) w3 w4 := Ext.to e3
      refine xd_pure 0 (some 54) rfl rfl (by kernel_rfl) (v := (.pointer (some ⟨bg, 0, none⟩))) (.inl ⟨rfl, fun W_ hW_ => ox_move (v := (.pointer (some ⟨bg, 0, none⟩))) g5_f1 ⟨rfl, rfl⟩⟩) ?_
      refine xd_pure 1 (some 55) rfl rfl (by kernel_rfl) (v := (.pointer (some ⟨bg, 0, none⟩))) (.inl ⟨rfl, fun W_ hW_ => ox_nilCheck (p := ⟨bg, 0, none⟩) rfl ⟨rfl, rfl⟩⟩) ?_
      refine xd_pure 2 (some 56) rfl rfl (by kernel_rfl) (v := (.pointer (some ⟨bg, 1, none⟩))) (.inl ⟨rfl, fun W_ hW_ => ox_fieldAddr (b := bg) (o := 0) tF_31_1 rfl ⟨rfl, rfl⟩⟩) ?_
      refine xd_take 3 (some 57) rfl rfl (by kernel_rfl) (v := (.slice (some ⟨gn, 0, none⟩) ts.length cn)) (.inl ⟨rfl, fun W_ hW_ => ox_load (v := (.slice (some ⟨gn, 0, none⟩) ts.length cn)) tA_28 rfl ((((hGM.g.keep c_f1 hbgs).ext e2).ext hW_).cell rfl) ⟨rfl, rfl⟩⟩) hS2 ?_
      refine xd_pure 4 (some 58) rfl rfl (by kernel_rfl) (v := (.slice (some ⟨g1, o1, none⟩) ps.length c1)) (.inl ⟨rfl, fun W_ hW_ => ox_move (v := (.slice (some ⟨g1, o1, none⟩) ps.length c1)) g1_f1 ⟨rfl, rfl⟩⟩) ?_
      refine xd_pure 5 (some 59) rfl rfl (by kernel_rfl) (v := (.int .i64 ((i : Nat)))) (.inl ⟨rfl, fun W_ hW_ => ox_move (v := (.int .i64 ((i : Nat)))) g7_f1 ⟨rfl, rfl⟩⟩) ?_
      refine xd_pure 6 (some 60) rfl rfl (by kernel_rfl) (v := (.pointer (some ⟨g1, o1 + i * 2, none⟩))) (.inl ⟨rfl, fun W_ hW_ => ox_indexAddr (b := g1) (o := o1) (i := ((i : Nat))) tE_23 rfl rfl (by omega) (by omega) ⟨rfl, rfl⟩⟩) ?_
      refine xd_pure 7 (some 61) rfl rfl (by kernel_rfl) (v := (.pointer (some ⟨g1, o1 + i * 2 + 1, none⟩))) (.inl ⟨rfl, fun W_ hW_ => ox_indexArr (b := g1) (o := (o1 + i * 2)) (i := 1) tV_33 rfl rfl (by decide) (by decide) ⟨rfl, rfl⟩⟩) ?_
      refine xd_take 8 (some 62) rfl rfl (by kernel_rfl) (v := (.int .i64 p.2)) (.inl ⟨rfl, fun W_ hW_ => ox_load (v := (.int .i64 p.2)) tA_3 rfl (CellsL.keep (Ext.trans (Ext.trans (Ext.chg1 hEg c_f1 hls) e2) hW_) not_false hcpr).2.1 ⟨rfl, rfl⟩⟩) hS2 ?_
      refine xd_pure 9 (some 63) rfl rfl (by kernel_rfl) (v := (.pointer (some ⟨bg, 0, none⟩))) (.inl ⟨rfl, fun W_ hW_ => ox_move (v := (.pointer (some ⟨bg, 0, none⟩))) g5_f1 ⟨rfl, rfl⟩⟩) ?_
      refine xd_pure 10 (some 64) rfl rfl (by kernel_rfl) (v := (.pointer (some ⟨bg, 0, none⟩))) (.inl ⟨rfl, fun W_ hW_ => ox_nilCheck (p := ⟨bg, 0, none⟩) rfl ⟨rfl, rfl⟩⟩) ?_
      refine xd_pure 11 (some 65) rfl rfl (by kernel_rfl) (v := (.pointer (some ⟨bg, 1, none⟩))) (.inl ⟨rfl, fun W_ hW_ => ox_fieldAddr (b := bg) (o := 0) tF_31_1 rfl ⟨rfl, rfl⟩⟩) ?_
      refine xd_take 12 (some 66) rfl rfl (by kernel_rfl) (v := (.slice (some ⟨gn, 0, none⟩) ts.length cn)) (.inl ⟨rfl, fun W_ hW_ => ox_load (v := (.slice (some ⟨gn, 0, none⟩) ts.length cn)) tA_28 rfl ((((hGM.g.keep c_f1 hbgs).ext e2).ext hW_).cell rfl) ⟨rfl, rfl⟩⟩) hS2 ?_
      refine xd_pure 13 (some 67) rfl rfl (by kernel_rfl) (v := (.int .i64 (((ts.length : Nat) : Int)))) (.inl ⟨rfl, fun W_ hW_ => ox_len (A := (some ⟨gn, 0, none⟩)) (n := ts.length) (cp := cn) rfl tU_28 rfl ⟨rfl, rfl⟩⟩) ?_
      refine xd_take 14 (some 68) rfl rfl (by kernel_rfl) (v := (.int .i64 ((qb : Nat)))) (.inl ⟨rfl, fun W_ hW_ => ox_callE (al := [(.int .i64 p.2), (.int .i64 (((ts.length : Nat) : Int)))]) pf_14 rfl (ret_mono ((by have h := within_calls p.2 ((ts.length : Nat) : Int) W_ (by omega); rw [hqb] at h; exact h)) (by rintro _ _ ⟨rfl, rfl⟩; exact ⟨rfl, rfl⟩))⟩) hS2 ?_
      refine xd_pure 15 (some 69) rfl rfl (by kernel_rfl) (v := (.pointer (some ⟨gn, 0 + ((qb : Nat) : Int).toNat * 1, none⟩))) (.inl ⟨rfl, fun W_ hW_ => ox_indexAddr (b := gn) (o := 0) (i := ((qb : Nat))) tE_28 rfl rfl (by omega) (by omega) ⟨rfl, rfl⟩⟩) ?_
      refine xd_take 16 (some 70) rfl rfl (by kernel_rfl) (v := (.pointer (some ⟨tb.b, 0, none⟩))) (.inl ⟨rfl, fun W_ hW_ => ox_load (v := (.pointer (some ⟨tb.b, 0, none⟩))) tA_36 rfl (by simpa [T.ptr] using Chg.cell hcnb (Chg.ext (Chg.ext c_f1 e2) hW_) hgns) ⟨rfl, rfl⟩⟩) hS2 ?_
      refine xd_pure 17 (some 9) rfl rfl (by kernel_rfl) (v := (.pointer (some ⟨tb.b, 0, none⟩))) (.inl ⟨rfl, fun W_ hW_ => ox_assign (v := (.pointer (some ⟨tb.b, 0, none⟩))) rfl ⟨rfl, rfl⟩⟩) ?_
      refine xd_done (by kernel_rfl) ?_ _
      refine xc_seq ?_
      refine xc_region ?_
      refine xl_op (P := Try.prog) (some 71) rfl rfl (ox_move (v := (.pointer (some ⟨ta.b, 0, none⟩))) rfl ?_)
      refine xl_op (P := Try.prog) (some 72) rfl rfl (ox_move (v := (.pointer (some ⟨tb.b, 0, none⟩))) rfl ?_)
      refine xl_op (P := Try.prog) (some 73) rfl rfl (ox_callE (al := [(.pointer (some ⟨ta.b, 0, none⟩)), (.pointer (some ⟨tb.b, 0, none⟩))]) pf_24 rfl (ret_mono ((by have h := script_calls (.pointer (some ⟨s, 0, none⟩)) ta tb w4 (PN.keep (Chg.ext (Chg.ext c_f1 e2) e3) hPa (fun b hb hh => PN.off hGM.st (by decide) (by decide) hPa b hb hh)) hWa hsa4 (PN.keep (Chg.ext (Chg.ext c_f1 e2) e3) hPb (fun b hb hh => PN.off hGM.st (by decide) (by decide) hPb b hb hh)) hWb hsb4; rw [has_self, ← hS] at h; exact h)) ?_))
      rintro _ w5 ⟨Ah, ch, rfl, hoh, hnh, e4⟩
      have he4 := e4.size
      refine xl_op (P := Try.prog) (some 10) rfl rfl (ox_assign (v := (.slice Ah S.length ch)) rfl ?_)
      refine xl_nil ?_
      refine xc_seq ?_
      refine xc_region ?_
      refine xl_op (P := Try.prog) (some 75) rfl rfl (ox_move (v := (.pointer (some ⟨bg, 0, none⟩))) g5_f1 ?_)
      refine xl_op (P := Try.prog) (some 76) rfl rfl (ox_nilCheck (p := ⟨bg, 0, none⟩) rfl ?_)
      refine xl_op (P := Try.prog) (some 77) rfl rfl (ox_fieldAddr (b := bg) (o := 0) tF_31_0 rfl ?_)
      have q1 := ((((hGM.g.keep c_f1 hbgs).ext e2).ext e3).ext e4)
      refine xl_op (P := Try.prog) (some 78) rfl rfl (ox_load (v := (.pointer (some ⟨s, 0, none⟩))) tA_27 rfl (q1.cell rfl) ?_)
      refine xl_op (P := Try.prog) (some 79) rfl rfl (ox_move (v := (.pointer (some ⟨ta.b, 0, none⟩))) rfl ?_)
      refine xl_op (P := Try.prog) (some 80) rfl rfl (ox_move (v := (.slice Ah S.length ch)) rfl ?_)
      have hsls := ((((blk_s_f1.ext e2).ext e3).ext e4)).lt
      have hzh := (Chg.ext (Chg.ext (Chg.ext c_f1 e2) e3) e4).size
      refine xl_op (P := Try.prog) (some 81) rfl rfl (ox_callE (al := [(.pointer (some ⟨s, 0, none⟩)), (.pointer (some ⟨ta.b, 0, none⟩)), (.slice Ah S.length ch)]) pf_36 rfl (ret_mono ((by have h := apply_calls s cq ((ts.length : Nat) : Int) ta S Ah ch w5 (((blk_s_f1.ext e2).ext e3).ext e4) (by omega) (by omega) (PN.keep (Chg.ext (Chg.ext (Chg.ext c_f1 e2) e3) e4) hPa (fun b hb hh => PN.off hGM.st (by decide) (by decide) hPa b hb hh)) hWa hsa4 (hGM.ok.nid htam) (hGM.ok.uniq htam) (Own.rowO (hoh.ext (Chg.refl _ _))) (slice_off hnh (by omega)) hSr (by omega); rw [hend] at h; exact h)) ?_))
      rintro _ w6 ⟨oa, ea, cn9, rfl, ⟨rfl, pp, rfl, hpp, hskp, hszp, hwp, hidp⟩, hs9, hcn1, hcn2, e5⟩
      have he5 := e5.size
      have htwo := makes_two hGM.ok htam htbm hskp hidp
      have hnl2 := two_len htwo
      have hnn1 := nodes_len pp; have hnn2 := nodes_len tb; have hnn3 := nodes_len ta
      refine xl_op (P := Try.prog) (some 74) rfl rfl (ox_move (v := (.tuple #[(.pointer (some ⟨pp.b, 0, none⟩)), (.int .i64 0)])) rfl ?_)
      refine xl_op (P := Try.prog) (some 82) rfl rfl (ox_extract (vs := #[(.pointer (some ⟨pp.b, 0, none⟩)), (.int .i64 0)]) (v := (.pointer (some ⟨pp.b, 0, none⟩))) rfl rfl ?_)
      refine xl_op (P := Try.prog) (some 83) rfl rfl (ox_extract (vs := #[(.pointer (some ⟨pp.b, 0, none⟩)), (.int .i64 0)]) (v := (.int .i64 0)) rfl rfl ?_)
      refine xl_op (P := Try.prog) (some 11) rfl rfl (ox_assign (v := (.pointer (some ⟨pp.b, 0, none⟩))) rfl ?_)
      refine xl_op (P := Try.prog) (some 12) rfl rfl (ox_assign (v := (.int .i64 0)) rfl ?_)
      refine xl_nil ?_
      refine xc_seq ?_
      refine xc_seq ?_
      refine xc_region ?_
      refine xl_op (P := Try.prog) (some 84) rfl rfl (ox_move (v := (.pointer (some ⟨pp.b, 0, none⟩))) rfl ?_)
      refine xl_op (P := Try.prog) (some 85) rfl rfl (ox_eqlNil (p := (some ⟨pp.b, 0, none⟩ : Option Addr)) (q := none) tU_36 rfl rfl (.inr rfl) ?_)
      refine xl_op (P := Try.prog) (some 86) rfl rfl (ox_move (v := (.bool (decide ((some ⟨pp.b, 0, none⟩ : Option Addr) = none)))) rfl ?_)
      refine xl_opg (P := Try.prog) (some 87) (j := 2) (b := false) rfl rfl (congrArg some (decide_eq_false (by simp))) (ox_move (v := (.int .i64 0)) rfl ?_)
      refine xl_opg (P := Try.prog) (some 88) (j := 2) (b := false) rfl rfl (congrArg some (decide_eq_false (by simp))) (ox_neq (k := .i64) (a := 0) (b := 0) rfl rfl ?_)
      refine xl_op (P := Try.prog) (some 89) rfl rfl (ox_pick_f (v := (.bool (decide ((0 : Int) ≠ 0)))) (congrArg Value.bool (decide_eq_false (by simp))) rfl ?_)
      refine xl_nil ?_
      refine xc_cond_f (congrArg Value.bool (by decide : decide ((0 : Int) ≠ 0) = false)) ?_
      refine xc_skip ?_
      refine xc_seq ?_
      refine xc_region ?_
      refine xl_op (P := Try.prog) (some 90) rfl rfl (ox_move (v := (.pointer (some ⟨ta.b, 0, none⟩))) rfl ?_)
      refine xl_op (P := Try.prog) (some 91) rfl rfl (ox_callE (al := [(.pointer (some ⟨ta.b, 0, none⟩))]) pf_38 rfl (ret_mono (numbers_calls (.pointer (some ⟨s, 0, none⟩)) ta w6 (PN.keep (Chg.chg1 (Chg.ext (Chg.ext (Chg.ext c_f1 e2) e3) e4) e5 (by first | (left; rfl) | (right; omega))) hPa (fun b hb hh => PN.off hGM.st (by decide) (by decide) hPa b hb hh)) hWa hsa4) ?_))
      rintro _ w7 ⟨A13, c13, rfl, ho13, hl13, e6⟩
      have he6 := e6.size
      refine xl_op (P := Try.prog) (some 13) rfl rfl (ox_assign (v := (.slice A13 ((nodes ta).length) c13)) rfl ?_)
      refine xl_nil ?_
      refine xc_seq ?_
      refine xc_region ?_
      refine xl_op (P := Try.prog) (some 92) rfl rfl (ox_move (v := (.pointer (some ⟨pp.b, 0, none⟩))) rfl ?_)
      refine xl_op (P := Try.prog) (some 93) rfl rfl (ox_callE (al := [(.pointer (some ⟨pp.b, 0, none⟩))]) pf_26 rfl (ret_mono (rows_calls (.pointer (some ⟨s, 0, none⟩)) pp w7 (hpp.ext e6) hwp hszp) ?_))
      rintro _ w8 ⟨A14, c14, rfl, ho14, hl14, e7⟩
      have he7 := e7.size
      refine xl_op (P := Try.prog) (some 14) rfl rfl (ox_assign (v := (.slice A14 ((nodes pp).length) c14)) rfl ?_)
      refine xl_nil ?_
      refine xc_seq ?_
      refine xc_region ?_
      refine xl_op (P := Try.prog) (some 94) rfl rfl (ox_move (v := (.pointer (some ⟨tb.b, 0, none⟩))) rfl ?_)
      refine xl_op (P := Try.prog) (some 95) rfl rfl (ox_callE (al := [(.pointer (some ⟨tb.b, 0, none⟩))]) pf_26 rfl (ret_mono (rows_calls (.pointer (some ⟨s, 0, none⟩)) tb w8 (PN.keep (Chg.ext (Chg.ext (Chg.chg1 (Chg.ext (Chg.ext (Chg.ext c_f1 e2) e3) e4) e5 (by first | (left; rfl) | (right; omega))) e6) e7) hPb (fun b hb hh => PN.off hGM.st (by decide) (by decide) hPb b hb hh)) hWb hsb4) ?_))
      rintro _ w9 ⟨A15, c15, rfl, ho15, hl15, e8⟩
      have he8 := e8.size
      refine xl_op (P := Try.prog) (some 15) rfl rfl (ox_assign (v := (.slice A15 ((nodes tb).length) c15)) rfl ?_)
      refine xl_nil ?_
      refine xc_seq ?_
      refine xc_seq ?_
      refine xc_region ?_
      refine xl_op (P := Try.prog) (some 96) rfl rfl (ox_move (v := (.slice A14 ((nodes pp).length) c14)) rfl ?_)
      refine xl_op (P := Try.prog) (some 97) rfl rfl (ox_move (v := (.slice A15 ((nodes tb).length) c15)) rfl ?_)
      refine xl_op (P := Try.prog) (some 98) rfl rfl (ox_callE (al := [(.slice A14 ((nodes pp).length) c14), (.slice A15 ((nodes tb).length) c15)]) pf_29 rfl (ret_mono (rowsE_calls (nodes pp) (nodes tb) A14 A15 c14 c15 w9 (Own.rowO (ho14.ext e8)) (Own.rowO (ho15.ext (Chg.refl _ _))) hnl2 (by omega) (fun i x y hx hy => (two_get htwo hx hy).1)) ?_))
      rintro _ w10 ⟨rfl, e9⟩
      have he9 := e9.size
      refine xl_op (P := Try.prog) (some 99) rfl rfl (ox_not (b := true) rfl ?_)
      refine xl_nil ?_
      refine xc_cond_f rfl ?_
      refine xc_skip ?_
      refine xc_seq ?_
      refine xc_seq ?_
      refine xc_region ?_
      refine xl_op (P := Try.prog) (some 16) rfl rfl (ox_assign (v := (.int .i64 0)) rfl ?_)
      refine xl_nil ?_
      refine xc_block ?_
      have hsr := ((((hs9.ext e6).ext e7).ext e8).ext e9)
      have hCr := (Chg.ext (Chg.ext (Chg.ext (Chg.ext (Chg.chg1 (Chg.ext (Chg.ext (Chg.ext c_f1 e2) e3) e4) e5 (by first | (left; rfl) | (right; omega))) e6) e7) e8) e9)
      have hzr := hCr.size
      have hr13 := ho13.ext (Ext.trans (Ext.trans e7 e8) e9)
      have hr14 := ho14.ext (Ext.trans e8 e9)
      have hr15 := ho15.ext e9
      have hEx1 := (Ext.trans (Ext.trans (Ext.trans (Ext.trans (Ext.chg1 (Ext.trans (Ext.trans (Ext.trans (Ext.chg1 hEg c_f1 hls) e2) e3) e4) e5 (by omega)) e6) e7) e8) e9)
      have hEx1z := hEx1.size
      refine xc_loopN (fun m f W => ∃ (k : Nat), m = (nodes pp).length - k ∧ k ≤ (nodes pp).length ∧ f 5 = (.pointer (some ⟨bg, 0, none⟩)) ∧ f 1 = (.slice (some ⟨g1, o1, none⟩) ps.length c1) ∧ f 6 = (.bool true) ∧ f 7 = (.int .i64 ((i : Nat))) ∧ f 8 = (.pointer (some ⟨ta.b, 0, none⟩)) ∧ f 9 = (.pointer (some ⟨tb.b, 0, none⟩)) ∧ f 13 = (.slice A13 ((nodes ta).length) c13) ∧ f 14 = (.slice A14 ((nodes pp).length) c14) ∧ f 15 = (.slice A15 ((nodes tb).length) c15) ∧ f 16 = (.int .i64 ((k : Nat))) ∧ Ext w10 W) ((nodes pp).length) ?_ ?_
      · exact ⟨0, by omega, by omega, g5_f1, g1_f1, g6_f1, g7_f1, rfl, rfl, rfl, rfl, rfl, (by first | exact rfl | exact (congrArg (Value.int .i64) (by omega))), (Chg.refl _ _)⟩
      · rintro m f2 w11 ⟨k, hm, hk, g5_f2, g1_f2, g6_f2, g7_f2, g8_f2, g9_f2, g13_f2, g14_f2, g15_f2, g16_f2, x_f2⟩
        have hzX2 := x_f2.size
        refine xc_seq ?_
        refine xc_seq ?_
        refine xc_region ?_
        refine xl_op (P := Try.prog) (some 100) rfl rfl (ox_move (v := (.int .i64 ((k : Nat)))) g16_f2 ?_)
        refine xl_op (P := Try.prog) (some 101) rfl rfl (ox_move (v := (.slice A14 ((nodes pp).length) c14)) g14_f2 ?_)
        refine xl_op (P := Try.prog) (some 102) rfl rfl (ox_len (A := A14) (n := ((nodes pp).length)) (cp := c14) rfl tU_64 rfl ?_)
        refine xl_op (P := Try.prog) (some 103) rfl rfl (ox_lss (k := .i64) (a := ((k : Nat))) (b := ((((nodes pp).length : Nat) : Int))) rfl rfl ?_)
        refine xl_nil ?_
        refine xc_if (p := ((k : Nat) : Int) < ((((nodes pp).length : Nat) : Int))) rfl (fun h2 => ?_) (fun h2 => ?_)
        · skip
          have hkl : k < (nodes pp).length := by omega
          obtain ⟨x, hx⟩ := get_ex (l := nodes pp) (i := k) hkl
          obtain ⟨y, hy⟩ := get_ex (l := nodes tb) (i := k) (by omega)
          have hxy := (two_get htwo hx hy).2
          obtain ⟨g14, c914, heq14, _⟩ := hr14.some_of (by omega)
          simp only [Value.slice.injEq, true_and] at heq14
          obtain ⟨rfl, rfl⟩ := heq14
          have hc14 := hr14.cells (flat_get rowC 6 (fun _ => rfl) hx)
          obtain ⟨g15, c915, heq15, _⟩ := hr15.some_of (by omega)
          simp only [Value.slice.injEq, true_and] at heq15
          obtain ⟨rfl, rfl⟩ := heq15
          have hc15 := hr15.cells (flat_get rowC 6 (fun _ => rfl) hy)
          refine xc_skip ?_
          refine xc_seq ?_
          refine xc_block ?_
          refine xc_seq ?_
          rcases hxy with ⟨hhy, hxe⟩ | ⟨hhy, hhx, hxe⟩
          · skip
            have hhx := hhy; rw [← hxe] at hhx
            refine xc_regionE [] (fun W_ => Chg (fun _ => False) w11 W_) hmix ?_
            intro w12 e10 z3
            have hS3 : Chg (fun _ => False) w11 w12 := Ext.to e10
            refine xd_pure 0 (some 106) rfl rfl (by kernel_rfl) (v := (.slice A13 ((nodes ta).length) c13)) (.inl ⟨rfl, fun W_ hW_ => ox_move (v := (.slice A13 ((nodes ta).length) c13)) g13_f2 ⟨rfl, rfl⟩⟩) ?_
            refine xd_pure 1 (some 107) rfl rfl (by kernel_rfl) (v := (.slice (some ⟨g15, 0, none⟩) ((nodes tb).length) c15)) (.inl ⟨rfl, fun W_ hW_ => ox_move (v := (.slice (some ⟨g15, 0, none⟩) ((nodes tb).length) c15)) g15_f2 ⟨rfl, rfl⟩⟩) ?_
            refine xd_pure 2 (some 108) rfl rfl (by kernel_rfl) (v := (.int .i64 ((k : Nat)))) (.inl ⟨rfl, fun W_ hW_ => ox_move (v := (.int .i64 ((k : Nat)))) g16_f2 ⟨rfl, rfl⟩⟩) ?_
            refine xd_pure 3 (some 109) rfl rfl (by kernel_rfl) (v := (.pointer (some ⟨g15, 0 + ((k : Nat) : Int).toNat * 6, none⟩))) (.inl ⟨rfl, fun W_ hW_ => ox_indexAddr (b := g15) (o := 0) (i := ((k : Nat))) tE_64 rfl rfl (by omega) (by omega) ⟨rfl, rfl⟩⟩) ?_
            refine xd_pure 4 (some 110) rfl rfl (by kernel_rfl) (v := (.pointer (some ⟨g15, 0 + ((k : Nat) : Int).toNat * 6 + 5, none⟩))) (.inl ⟨rfl, fun W_ hW_ => ox_fieldAddr (b := g15) (o := (0 + ((k : Nat) : Int).toNat * 6)) tF_70_5 rfl ⟨rfl, rfl⟩⟩) ?_
            refine xd_take 5 (some 111) rfl rfl (by kernel_rfl) (v := (.int .i64 y.id)) (.inl ⟨rfl, fun W_ hW_ => ox_load (v := (.int .i64 y.id)) tA_3 rfl (by simpa using (CellsL.keep (Ext.trans x_f2 hW_) not_false hc15).2.2.2.2.2.1) ⟨rfl, rfl⟩⟩) hS3 ?_
            refine xd_take 6 (some 112) rfl rfl (by kernel_rfl) (v := (.bool true)) (.inl ⟨rfl, fun W_ hW_ => ox_callE (al := [(.slice A13 ((nodes ta).length) c13), (.int .i64 y.id)]) pf_39 rfl (ret_mono ((by have h := has_calls ((nodes ta).map T.id) A13 c13 y.id W_ (by rw [List.map_map]; exact RowA.ext (Own.rowO hr13) (Ext.trans x_f2 hW_)) (by simp; omega); rw [← hasR_mem, hhy, List.length_map] at h; exact h)) (by rintro _ _ ⟨rfl, rfl⟩; exact ⟨rfl, rfl⟩))⟩) hS3 ?_
            refine xd_pure 7 (some 113) rfl rfl (by kernel_rfl) (v := (.slice (some ⟨g14, 0, none⟩) ((nodes pp).length) c14)) (.inl ⟨rfl, fun W_ hW_ => ox_move (v := (.slice (some ⟨g14, 0, none⟩) ((nodes pp).length) c14)) g14_f2 ⟨rfl, rfl⟩⟩) ?_
            refine xd_pure 8 (some 114) rfl rfl (by kernel_rfl) (v := (.int .i64 ((k : Nat)))) (.inl ⟨rfl, fun W_ hW_ => ox_move (v := (.int .i64 ((k : Nat)))) g16_f2 ⟨rfl, rfl⟩⟩) ?_
            refine xd_pure 9 (some 115) rfl rfl (by kernel_rfl) (v := (.pointer (some ⟨g14, 0 + ((k : Nat) : Int).toNat * 6, none⟩))) (.inl ⟨rfl, fun W_ hW_ => ox_indexAddr (b := g14) (o := 0) (i := ((k : Nat))) tE_64 rfl rfl (by omega) (by omega) ⟨rfl, rfl⟩⟩) ?_
            refine xd_pure 10 (some 116) rfl rfl (by kernel_rfl) (v := (.pointer (some ⟨g14, 0 + ((k : Nat) : Int).toNat * 6 + 5, none⟩))) (.inl ⟨rfl, fun W_ hW_ => ox_fieldAddr (b := g14) (o := (0 + ((k : Nat) : Int).toNat * 6)) tF_70_5 rfl ⟨rfl, rfl⟩⟩) ?_
            refine xd_take 11 (some 117) rfl rfl (by kernel_rfl) (v := (.int .i64 x.id)) (.inl ⟨rfl, fun W_ hW_ => ox_load (v := (.int .i64 x.id)) tA_3 rfl (by simpa using (CellsL.keep (Ext.trans x_f2 hW_) not_false hc14).2.2.2.2.2.1) ⟨rfl, rfl⟩⟩) hS3 ?_
            refine xd_pure 12 (some 118) rfl rfl (by kernel_rfl) (v := (.slice (some ⟨g15, 0, none⟩) ((nodes tb).length) c15)) (.inl ⟨rfl, fun W_ hW_ => ox_move (v := (.slice (some ⟨g15, 0, none⟩) ((nodes tb).length) c15)) g15_f2 ⟨rfl, rfl⟩⟩) ?_
            refine xd_pure 13 (some 119) rfl rfl (by kernel_rfl) (v := (.int .i64 ((k : Nat)))) (.inl ⟨rfl, fun W_ hW_ => ox_move (v := (.int .i64 ((k : Nat)))) g16_f2 ⟨rfl, rfl⟩⟩) ?_
            refine xd_pure 14 (some 120) rfl rfl (by kernel_rfl) (v := (.pointer (some ⟨g15, 0 + ((k : Nat) : Int).toNat * 6, none⟩))) (.inl ⟨rfl, fun W_ hW_ => ox_indexAddr (b := g15) (o := 0) (i := ((k : Nat))) tE_64 rfl rfl (by omega) (by omega) ⟨rfl, rfl⟩⟩) ?_
            refine xd_pure 15 (some 121) rfl rfl (by kernel_rfl) (v := (.pointer (some ⟨g15, 0 + ((k : Nat) : Int).toNat * 6 + 5, none⟩))) (.inl ⟨rfl, fun W_ hW_ => ox_fieldAddr (b := g15) (o := (0 + ((k : Nat) : Int).toNat * 6)) tF_70_5 rfl ⟨rfl, rfl⟩⟩) ?_
            refine xd_take 16 (some 122) rfl rfl (by kernel_rfl) (v := (.int .i64 y.id)) (.inl ⟨rfl, fun W_ hW_ => ox_load (v := (.int .i64 y.id)) tA_3 rfl (by simpa using (CellsL.keep (Ext.trans x_f2 hW_) not_false hc15).2.2.2.2.2.1) ⟨rfl, rfl⟩⟩) hS3 ?_
            refine xd_pure 17 (some 123) rfl rfl (by kernel_rfl) (v := (.bool (decide ((x.id : Int) = y.id)))) (.inl ⟨rfl, fun W_ hW_ => ox_eql (k := .i64) (a := x.id) (b := y.id) rfl rfl ⟨rfl, rfl⟩⟩) ?_
            refine xd_pure 18 (some 124) rfl rfl (by kernel_rfl) (v := (.bool ((true != (decide ((x.id : Int) = y.id)))))) (.inl ⟨rfl, fun W_ hW_ => ox_neqBool (a := true) (b := ((decide ((x.id : Int) = y.id)))) tU_4 rfl rfl ⟨rfl, rfl⟩⟩) ?_
            refine xd_pure 19 (some 125) rfl rfl (by kernel_rfl) (v := (.bool ((true != (decide ((x.id : Int) = y.id)))))) (.inl ⟨rfl, fun W_ hW_ => ox_move (v := (.bool ((true != (decide ((x.id : Int) = y.id)))))) rfl ⟨rfl, rfl⟩⟩) ?_
            refine xd_pure 20 (some 126) rfl rfl (by kernel_rfl) (v := (.slice A13 ((nodes ta).length) c13)) (.inl ⟨(wanted_of (j := 19) (b := false) rfl (congrArg some (ne_two (show true = true from rfl) (show (decide ((x.id : Int) = y.id)) = true from (decide_eq_true hxe)) rfl))), fun W_ hW_ => ox_move (v := (.slice A13 ((nodes ta).length) c13)) g13_f2 ⟨rfl, rfl⟩⟩) ?_
            refine xd_pure 21 (some 127) rfl rfl (by kernel_rfl) (v := (.slice (some ⟨g14, 0, none⟩) ((nodes pp).length) c14)) (.inl ⟨(wanted_of (j := 19) (b := false) rfl (congrArg some (ne_two (show true = true from rfl) (show (decide ((x.id : Int) = y.id)) = true from (decide_eq_true hxe)) rfl))), fun W_ hW_ => ox_move (v := (.slice (some ⟨g14, 0, none⟩) ((nodes pp).length) c14)) g14_f2 ⟨rfl, rfl⟩⟩) ?_
            refine xd_pure 22 (some 128) rfl rfl (by kernel_rfl) (v := (.int .i64 ((k : Nat)))) (.inl ⟨(wanted_of (j := 19) (b := false) rfl (congrArg some (ne_two (show true = true from rfl) (show (decide ((x.id : Int) = y.id)) = true from (decide_eq_true hxe)) rfl))), fun W_ hW_ => ox_move (v := (.int .i64 ((k : Nat)))) g16_f2 ⟨rfl, rfl⟩⟩) ?_
            refine xd_pure 23 (some 129) rfl rfl (by kernel_rfl) (v := (.pointer (some ⟨g14, 0 + ((k : Nat) : Int).toNat * 6, none⟩))) (.inl ⟨(wanted_of (j := 19) (b := false) rfl (congrArg some (ne_two (show true = true from rfl) (show (decide ((x.id : Int) = y.id)) = true from (decide_eq_true hxe)) rfl))), fun W_ hW_ => ox_indexAddr (b := g14) (o := 0) (i := ((k : Nat))) tE_64 rfl rfl (by omega) (by omega) ⟨rfl, rfl⟩⟩) ?_
            refine xd_pure 24 (some 130) rfl rfl (by kernel_rfl) (v := (.pointer (some ⟨g14, 0 + ((k : Nat) : Int).toNat * 6 + 5, none⟩))) (.inl ⟨(wanted_of (j := 19) (b := false) rfl (congrArg some (ne_two (show true = true from rfl) (show (decide ((x.id : Int) = y.id)) = true from (decide_eq_true hxe)) rfl))), fun W_ hW_ => ox_fieldAddr (b := g14) (o := (0 + ((k : Nat) : Int).toNat * 6)) tF_70_5 rfl ⟨rfl, rfl⟩⟩) ?_
            refine xd_take 25 (some 131) rfl rfl (by kernel_rfl) (v := (.int .i64 x.id)) (.inl ⟨(wanted_of (j := 19) (b := false) rfl (congrArg some (ne_two (show true = true from rfl) (show (decide ((x.id : Int) = y.id)) = true from (decide_eq_true hxe)) rfl))), fun W_ hW_ => ox_load (v := (.int .i64 x.id)) tA_3 rfl (by simpa using (CellsL.keep (Ext.trans x_f2 hW_) not_false hc14).2.2.2.2.2.1) ⟨rfl, rfl⟩⟩) hS3 ?_
            refine xd_take 26 (some 132) rfl rfl (by kernel_rfl) (v := (.bool true)) (.inl ⟨(wanted_of (j := 19) (b := false) rfl (congrArg some (ne_two (show true = true from rfl) (show (decide ((x.id : Int) = y.id)) = true from (decide_eq_true hxe)) rfl))), fun W_ hW_ => ox_callE (al := [(.slice A13 ((nodes ta).length) c13), (.int .i64 x.id)]) pf_39 rfl (ret_mono ((by have h := has_calls ((nodes ta).map T.id) A13 c13 x.id W_ (by rw [List.map_map]; exact RowA.ext (Own.rowO hr13) (Ext.trans x_f2 hW_)) (by simp; omega); rw [← hasR_mem, hhx, List.length_map] at h; exact h)) (by rintro _ _ ⟨rfl, rfl⟩; exact ⟨rfl, rfl⟩))⟩) hS3 ?_
            refine xd_pure 27 (some 133) rfl rfl (by kernel_rfl) (v := (.slice A13 ((nodes ta).length) c13)) (.inl ⟨(wanted_of (j := 19) (b := false) rfl (congrArg some (ne_two (show true = true from rfl) (show (decide ((x.id : Int) = y.id)) = true from (decide_eq_true hxe)) rfl))), fun W_ hW_ => ox_move (v := (.slice A13 ((nodes ta).length) c13)) g13_f2 ⟨rfl, rfl⟩⟩) ?_
            refine xd_pure 28 (some 134) rfl rfl (by kernel_rfl) (v := (.slice (some ⟨g15, 0, none⟩) ((nodes tb).length) c15)) (.inl ⟨(wanted_of (j := 19) (b := false) rfl (congrArg some (ne_two (show true = true from rfl) (show (decide ((x.id : Int) = y.id)) = true from (decide_eq_true hxe)) rfl))), fun W_ hW_ => ox_move (v := (.slice (some ⟨g15, 0, none⟩) ((nodes tb).length) c15)) g15_f2 ⟨rfl, rfl⟩⟩) ?_
            refine xd_pure 29 (some 135) rfl rfl (by kernel_rfl) (v := (.int .i64 ((k : Nat)))) (.inl ⟨(wanted_of (j := 19) (b := false) rfl (congrArg some (ne_two (show true = true from rfl) (show (decide ((x.id : Int) = y.id)) = true from (decide_eq_true hxe)) rfl))), fun W_ hW_ => ox_move (v := (.int .i64 ((k : Nat)))) g16_f2 ⟨rfl, rfl⟩⟩) ?_
            refine xd_pure 30 (some 136) rfl rfl (by kernel_rfl) (v := (.pointer (some ⟨g15, 0 + ((k : Nat) : Int).toNat * 6, none⟩))) (.inl ⟨(wanted_of (j := 19) (b := false) rfl (congrArg some (ne_two (show true = true from rfl) (show (decide ((x.id : Int) = y.id)) = true from (decide_eq_true hxe)) rfl))), fun W_ hW_ => ox_indexAddr (b := g15) (o := 0) (i := ((k : Nat))) tE_64 rfl rfl (by omega) (by omega) ⟨rfl, rfl⟩⟩) ?_
            refine xd_pure 31 (some 137) rfl rfl (by kernel_rfl) (v := (.pointer (some ⟨g15, 0 + ((k : Nat) : Int).toNat * 6 + 5, none⟩))) (.inl ⟨(wanted_of (j := 19) (b := false) rfl (congrArg some (ne_two (show true = true from rfl) (show (decide ((x.id : Int) = y.id)) = true from (decide_eq_true hxe)) rfl))), fun W_ hW_ => ox_fieldAddr (b := g15) (o := (0 + ((k : Nat) : Int).toNat * 6)) tF_70_5 rfl ⟨rfl, rfl⟩⟩) ?_
            refine xd_take 32 (some 138) rfl rfl (by kernel_rfl) (v := (.int .i64 y.id)) (.inl ⟨(wanted_of (j := 19) (b := false) rfl (congrArg some (ne_two (show true = true from rfl) (show (decide ((x.id : Int) = y.id)) = true from (decide_eq_true hxe)) rfl))), fun W_ hW_ => ox_load (v := (.int .i64 y.id)) tA_3 rfl (by simpa using (CellsL.keep (Ext.trans x_f2 hW_) not_false hc15).2.2.2.2.2.1) ⟨rfl, rfl⟩⟩) hS3 ?_
            refine xd_take 33 (some 139) rfl rfl (by kernel_rfl) (v := (.bool true)) (.inl ⟨(wanted_of (j := 19) (b := false) rfl (congrArg some (ne_two (show true = true from rfl) (show (decide ((x.id : Int) = y.id)) = true from (decide_eq_true hxe)) rfl))), fun W_ hW_ => ox_callE (al := [(.slice A13 ((nodes ta).length) c13), (.int .i64 y.id)]) pf_39 rfl (ret_mono ((by have h := has_calls ((nodes ta).map T.id) A13 c13 y.id W_ (by rw [List.map_map]; exact RowA.ext (Own.rowO hr13) (Ext.trans x_f2 hW_)) (by simp; omega); rw [← hasR_mem, hhy, List.length_map] at h; exact h)) (by rintro _ _ ⟨rfl, rfl⟩; exact ⟨rfl, rfl⟩))⟩) hS3 ?_
            refine xd_pure 34 (some 140) rfl rfl (by kernel_rfl) (v := (.bool ((true != true)))) (.inl ⟨(wanted_of (j := 19) (b := false) rfl (congrArg some (ne_two (show true = true from rfl) (show (decide ((x.id : Int) = y.id)) = true from (decide_eq_true hxe)) rfl))), fun W_ hW_ => ox_neqBool (a := true) (b := true) tU_4 rfl rfl ⟨rfl, rfl⟩⟩) ?_
            refine xd_pure 35 (some 141) rfl rfl (by kernel_rfl) (v := (.bool ((true != true)))) (.inl ⟨rfl, fun W_ hW_ => ox_pick_f (v := (.bool ((true != true)))) (congrArg Value.bool (ne_two (show true = true from rfl) (show (decide ((x.id : Int) = y.id)) = true from (decide_eq_true hxe)) rfl)) rfl ⟨rfl, rfl⟩⟩) ?_
            refine xd_done (by kernel_rfl) ?_ _
            refine xc_cond_f (congrArg Value.bool (ne_two (show true = true from rfl) (show true = true from rfl) rfl)) ?_
            refine xc_skip ?_
            refine xc_region ?_
            refine xl_op (P := Try.prog) (some 104) rfl rfl (ox_move (v := (.int .i64 ((k : Nat)))) g16_f2 ?_)
            refine xl_op (P := Try.prog) (some 105) rfl rfl (ox_add64 (a := ((k : Nat))) (b := 1) rfl rfl (by omega) ?_)
            refine xl_op (P := Try.prog) (some 16) rfl rfl (ox_assign (v := (.int .i64 ((k : Nat) + 1))) rfl ?_)
            refine xl_nil ?_
            have hsz0 := e10.size
            exact ⟨rfl, (nodes pp).length - (k + 1), by omega, k + 1, by omega, by omega, g5_f2, g1_f2, g6_f2, g7_f2, g8_f2, g9_f2, g13_f2, g14_f2, g15_f2, (by first | exact rfl | exact (congrArg (Value.int .i64) (by omega))), (Ext.trans x_f2 e10)⟩
          · skip
            refine xc_regionE [] (fun W_ => Chg (fun _ => False) w11 W_) hmix ?_
            intro w13 e11 z4
            have hS4 : Chg (fun _ => False) w11 w13 := Ext.to e11
            refine xd_pure 0 (some 106) rfl rfl (by kernel_rfl) (v := (.slice A13 ((nodes ta).length) c13)) (.inl ⟨rfl, fun W_ hW_ => ox_move (v := (.slice A13 ((nodes ta).length) c13)) g13_f2 ⟨rfl, rfl⟩⟩) ?_
            refine xd_pure 1 (some 107) rfl rfl (by kernel_rfl) (v := (.slice (some ⟨g15, 0, none⟩) ((nodes tb).length) c15)) (.inl ⟨rfl, fun W_ hW_ => ox_move (v := (.slice (some ⟨g15, 0, none⟩) ((nodes tb).length) c15)) g15_f2 ⟨rfl, rfl⟩⟩) ?_
            refine xd_pure 2 (some 108) rfl rfl (by kernel_rfl) (v := (.int .i64 ((k : Nat)))) (.inl ⟨rfl, fun W_ hW_ => ox_move (v := (.int .i64 ((k : Nat)))) g16_f2 ⟨rfl, rfl⟩⟩) ?_
            refine xd_pure 3 (some 109) rfl rfl (by kernel_rfl) (v := (.pointer (some ⟨g15, 0 + ((k : Nat) : Int).toNat * 6, none⟩))) (.inl ⟨rfl, fun W_ hW_ => ox_indexAddr (b := g15) (o := 0) (i := ((k : Nat))) tE_64 rfl rfl (by omega) (by omega) ⟨rfl, rfl⟩⟩) ?_
            refine xd_pure 4 (some 110) rfl rfl (by kernel_rfl) (v := (.pointer (some ⟨g15, 0 + ((k : Nat) : Int).toNat * 6 + 5, none⟩))) (.inl ⟨rfl, fun W_ hW_ => ox_fieldAddr (b := g15) (o := (0 + ((k : Nat) : Int).toNat * 6)) tF_70_5 rfl ⟨rfl, rfl⟩⟩) ?_
            refine xd_take 5 (some 111) rfl rfl (by kernel_rfl) (v := (.int .i64 y.id)) (.inl ⟨rfl, fun W_ hW_ => ox_load (v := (.int .i64 y.id)) tA_3 rfl (by simpa using (CellsL.keep (Ext.trans x_f2 hW_) not_false hc15).2.2.2.2.2.1) ⟨rfl, rfl⟩⟩) hS4 ?_
            refine xd_take 6 (some 112) rfl rfl (by kernel_rfl) (v := (.bool false)) (.inl ⟨rfl, fun W_ hW_ => ox_callE (al := [(.slice A13 ((nodes ta).length) c13), (.int .i64 y.id)]) pf_39 rfl (ret_mono ((by have h := has_calls ((nodes ta).map T.id) A13 c13 y.id W_ (by rw [List.map_map]; exact RowA.ext (Own.rowO hr13) (Ext.trans x_f2 hW_)) (by simp; omega); rw [← hasR_mem, hhy, List.length_map] at h; exact h)) (by rintro _ _ ⟨rfl, rfl⟩; exact ⟨rfl, rfl⟩))⟩) hS4 ?_
            refine xd_pure 7 (some 113) rfl rfl (by kernel_rfl) (v := (.slice (some ⟨g14, 0, none⟩) ((nodes pp).length) c14)) (.inl ⟨rfl, fun W_ hW_ => ox_move (v := (.slice (some ⟨g14, 0, none⟩) ((nodes pp).length) c14)) g14_f2 ⟨rfl, rfl⟩⟩) ?_
            refine xd_pure 8 (some 114) rfl rfl (by kernel_rfl) (v := (.int .i64 ((k : Nat)))) (.inl ⟨rfl, fun W_ hW_ => ox_move (v := (.int .i64 ((k : Nat)))) g16_f2 ⟨rfl, rfl⟩⟩) ?_
            refine xd_pure 9 (some 115) rfl rfl (by kernel_rfl) (v := (.pointer (some ⟨g14, 0 + ((k : Nat) : Int).toNat * 6, none⟩))) (.inl ⟨rfl, fun W_ hW_ => ox_indexAddr (b := g14) (o := 0) (i := ((k : Nat))) tE_64 rfl rfl (by omega) (by omega) ⟨rfl, rfl⟩⟩) ?_
            refine xd_pure 10 (some 116) rfl rfl (by kernel_rfl) (v := (.pointer (some ⟨g14, 0 + ((k : Nat) : Int).toNat * 6 + 5, none⟩))) (.inl ⟨rfl, fun W_ hW_ => ox_fieldAddr (b := g14) (o := (0 + ((k : Nat) : Int).toNat * 6)) tF_70_5 rfl ⟨rfl, rfl⟩⟩) ?_
            refine xd_take 11 (some 117) rfl rfl (by kernel_rfl) (v := (.int .i64 x.id)) (.inl ⟨rfl, fun W_ hW_ => ox_load (v := (.int .i64 x.id)) tA_3 rfl (by simpa using (CellsL.keep (Ext.trans x_f2 hW_) not_false hc14).2.2.2.2.2.1) ⟨rfl, rfl⟩⟩) hS4 ?_
            refine xd_pure 12 (some 118) rfl rfl (by kernel_rfl) (v := (.slice (some ⟨g15, 0, none⟩) ((nodes tb).length) c15)) (.inl ⟨rfl, fun W_ hW_ => ox_move (v := (.slice (some ⟨g15, 0, none⟩) ((nodes tb).length) c15)) g15_f2 ⟨rfl, rfl⟩⟩) ?_
            refine xd_pure 13 (some 119) rfl rfl (by kernel_rfl) (v := (.int .i64 ((k : Nat)))) (.inl ⟨rfl, fun W_ hW_ => ox_move (v := (.int .i64 ((k : Nat)))) g16_f2 ⟨rfl, rfl⟩⟩) ?_
            refine xd_pure 14 (some 120) rfl rfl (by kernel_rfl) (v := (.pointer (some ⟨g15, 0 + ((k : Nat) : Int).toNat * 6, none⟩))) (.inl ⟨rfl, fun W_ hW_ => ox_indexAddr (b := g15) (o := 0) (i := ((k : Nat))) tE_64 rfl rfl (by omega) (by omega) ⟨rfl, rfl⟩⟩) ?_
            refine xd_pure 15 (some 121) rfl rfl (by kernel_rfl) (v := (.pointer (some ⟨g15, 0 + ((k : Nat) : Int).toNat * 6 + 5, none⟩))) (.inl ⟨rfl, fun W_ hW_ => ox_fieldAddr (b := g15) (o := (0 + ((k : Nat) : Int).toNat * 6)) tF_70_5 rfl ⟨rfl, rfl⟩⟩) ?_
            refine xd_take 16 (some 122) rfl rfl (by kernel_rfl) (v := (.int .i64 y.id)) (.inl ⟨rfl, fun W_ hW_ => ox_load (v := (.int .i64 y.id)) tA_3 rfl (by simpa using (CellsL.keep (Ext.trans x_f2 hW_) not_false hc15).2.2.2.2.2.1) ⟨rfl, rfl⟩⟩) hS4 ?_
            refine xd_pure 17 (some 123) rfl rfl (by kernel_rfl) (v := (.bool (decide ((x.id : Int) = y.id)))) (.inl ⟨rfl, fun W_ hW_ => ox_eql (k := .i64) (a := x.id) (b := y.id) rfl rfl ⟨rfl, rfl⟩⟩) ?_
            refine xd_pure 18 (some 124) rfl rfl (by kernel_rfl) (v := (.bool ((false != (decide ((x.id : Int) = y.id)))))) (.inl ⟨rfl, fun W_ hW_ => ox_neqBool (a := false) (b := ((decide ((x.id : Int) = y.id)))) tU_4 rfl rfl ⟨rfl, rfl⟩⟩) ?_
            refine xd_pure 19 (some 125) rfl rfl (by kernel_rfl) (v := (.bool ((false != (decide ((x.id : Int) = y.id)))))) (.inl ⟨rfl, fun W_ hW_ => ox_move (v := (.bool ((false != (decide ((x.id : Int) = y.id)))))) rfl ⟨rfl, rfl⟩⟩) ?_
            refine xd_pure 20 (some 126) rfl rfl (by kernel_rfl) (v := (.slice A13 ((nodes ta).length) c13)) (.inl ⟨(wanted_of (j := 19) (b := false) rfl (congrArg some (ne_two (show false = false from rfl) (show (decide ((x.id : Int) = y.id)) = false from (decide_eq_false hxe)) rfl))), fun W_ hW_ => ox_move (v := (.slice A13 ((nodes ta).length) c13)) g13_f2 ⟨rfl, rfl⟩⟩) ?_
            refine xd_pure 21 (some 127) rfl rfl (by kernel_rfl) (v := (.slice (some ⟨g14, 0, none⟩) ((nodes pp).length) c14)) (.inl ⟨(wanted_of (j := 19) (b := false) rfl (congrArg some (ne_two (show false = false from rfl) (show (decide ((x.id : Int) = y.id)) = false from (decide_eq_false hxe)) rfl))), fun W_ hW_ => ox_move (v := (.slice (some ⟨g14, 0, none⟩) ((nodes pp).length) c14)) g14_f2 ⟨rfl, rfl⟩⟩) ?_
            refine xd_pure 22 (some 128) rfl rfl (by kernel_rfl) (v := (.int .i64 ((k : Nat)))) (.inl ⟨(wanted_of (j := 19) (b := false) rfl (congrArg some (ne_two (show false = false from rfl) (show (decide ((x.id : Int) = y.id)) = false from (decide_eq_false hxe)) rfl))), fun W_ hW_ => ox_move (v := (.int .i64 ((k : Nat)))) g16_f2 ⟨rfl, rfl⟩⟩) ?_
            refine xd_pure 23 (some 129) rfl rfl (by kernel_rfl) (v := (.pointer (some ⟨g14, 0 + ((k : Nat) : Int).toNat * 6, none⟩))) (.inl ⟨(wanted_of (j := 19) (b := false) rfl (congrArg some (ne_two (show false = false from rfl) (show (decide ((x.id : Int) = y.id)) = false from (decide_eq_false hxe)) rfl))), fun W_ hW_ => ox_indexAddr (b := g14) (o := 0) (i := ((k : Nat))) tE_64 rfl rfl (by omega) (by omega) ⟨rfl, rfl⟩⟩) ?_
            refine xd_pure 24 (some 130) rfl rfl (by kernel_rfl) (v := (.pointer (some ⟨g14, 0 + ((k : Nat) : Int).toNat * 6 + 5, none⟩))) (.inl ⟨(wanted_of (j := 19) (b := false) rfl (congrArg some (ne_two (show false = false from rfl) (show (decide ((x.id : Int) = y.id)) = false from (decide_eq_false hxe)) rfl))), fun W_ hW_ => ox_fieldAddr (b := g14) (o := (0 + ((k : Nat) : Int).toNat * 6)) tF_70_5 rfl ⟨rfl, rfl⟩⟩) ?_
            refine xd_take 25 (some 131) rfl rfl (by kernel_rfl) (v := (.int .i64 x.id)) (.inl ⟨(wanted_of (j := 19) (b := false) rfl (congrArg some (ne_two (show false = false from rfl) (show (decide ((x.id : Int) = y.id)) = false from (decide_eq_false hxe)) rfl))), fun W_ hW_ => ox_load (v := (.int .i64 x.id)) tA_3 rfl (by simpa using (CellsL.keep (Ext.trans x_f2 hW_) not_false hc14).2.2.2.2.2.1) ⟨rfl, rfl⟩⟩) hS4 ?_
            refine xd_take 26 (some 132) rfl rfl (by kernel_rfl) (v := (.bool false)) (.inl ⟨(wanted_of (j := 19) (b := false) rfl (congrArg some (ne_two (show false = false from rfl) (show (decide ((x.id : Int) = y.id)) = false from (decide_eq_false hxe)) rfl))), fun W_ hW_ => ox_callE (al := [(.slice A13 ((nodes ta).length) c13), (.int .i64 x.id)]) pf_39 rfl (ret_mono ((by have h := has_calls ((nodes ta).map T.id) A13 c13 x.id W_ (by rw [List.map_map]; exact RowA.ext (Own.rowO hr13) (Ext.trans x_f2 hW_)) (by simp; omega); rw [← hasR_mem, hhx, List.length_map] at h; exact h)) (by rintro _ _ ⟨rfl, rfl⟩; exact ⟨rfl, rfl⟩))⟩) hS4 ?_
            refine xd_pure 27 (some 133) rfl rfl (by kernel_rfl) (v := (.slice A13 ((nodes ta).length) c13)) (.inl ⟨(wanted_of (j := 19) (b := false) rfl (congrArg some (ne_two (show false = false from rfl) (show (decide ((x.id : Int) = y.id)) = false from (decide_eq_false hxe)) rfl))), fun W_ hW_ => ox_move (v := (.slice A13 ((nodes ta).length) c13)) g13_f2 ⟨rfl, rfl⟩⟩) ?_
            refine xd_pure 28 (some 134) rfl rfl (by kernel_rfl) (v := (.slice (some ⟨g15, 0, none⟩) ((nodes tb).length) c15)) (.inl ⟨(wanted_of (j := 19) (b := false) rfl (congrArg some (ne_two (show false = false from rfl) (show (decide ((x.id : Int) = y.id)) = false from (decide_eq_false hxe)) rfl))), fun W_ hW_ => ox_move (v := (.slice (some ⟨g15, 0, none⟩) ((nodes tb).length) c15)) g15_f2 ⟨rfl, rfl⟩⟩) ?_
            refine xd_pure 29 (some 135) rfl rfl (by kernel_rfl) (v := (.int .i64 ((k : Nat)))) (.inl ⟨(wanted_of (j := 19) (b := false) rfl (congrArg some (ne_two (show false = false from rfl) (show (decide ((x.id : Int) = y.id)) = false from (decide_eq_false hxe)) rfl))), fun W_ hW_ => ox_move (v := (.int .i64 ((k : Nat)))) g16_f2 ⟨rfl, rfl⟩⟩) ?_
            refine xd_pure 30 (some 136) rfl rfl (by kernel_rfl) (v := (.pointer (some ⟨g15, 0 + ((k : Nat) : Int).toNat * 6, none⟩))) (.inl ⟨(wanted_of (j := 19) (b := false) rfl (congrArg some (ne_two (show false = false from rfl) (show (decide ((x.id : Int) = y.id)) = false from (decide_eq_false hxe)) rfl))), fun W_ hW_ => ox_indexAddr (b := g15) (o := 0) (i := ((k : Nat))) tE_64 rfl rfl (by omega) (by omega) ⟨rfl, rfl⟩⟩) ?_
            refine xd_pure 31 (some 137) rfl rfl (by kernel_rfl) (v := (.pointer (some ⟨g15, 0 + ((k : Nat) : Int).toNat * 6 + 5, none⟩))) (.inl ⟨(wanted_of (j := 19) (b := false) rfl (congrArg some (ne_two (show false = false from rfl) (show (decide ((x.id : Int) = y.id)) = false from (decide_eq_false hxe)) rfl))), fun W_ hW_ => ox_fieldAddr (b := g15) (o := (0 + ((k : Nat) : Int).toNat * 6)) tF_70_5 rfl ⟨rfl, rfl⟩⟩) ?_
            refine xd_take 32 (some 138) rfl rfl (by kernel_rfl) (v := (.int .i64 y.id)) (.inl ⟨(wanted_of (j := 19) (b := false) rfl (congrArg some (ne_two (show false = false from rfl) (show (decide ((x.id : Int) = y.id)) = false from (decide_eq_false hxe)) rfl))), fun W_ hW_ => ox_load (v := (.int .i64 y.id)) tA_3 rfl (by simpa using (CellsL.keep (Ext.trans x_f2 hW_) not_false hc15).2.2.2.2.2.1) ⟨rfl, rfl⟩⟩) hS4 ?_
            refine xd_take 33 (some 139) rfl rfl (by kernel_rfl) (v := (.bool false)) (.inl ⟨(wanted_of (j := 19) (b := false) rfl (congrArg some (ne_two (show false = false from rfl) (show (decide ((x.id : Int) = y.id)) = false from (decide_eq_false hxe)) rfl))), fun W_ hW_ => ox_callE (al := [(.slice A13 ((nodes ta).length) c13), (.int .i64 y.id)]) pf_39 rfl (ret_mono ((by have h := has_calls ((nodes ta).map T.id) A13 c13 y.id W_ (by rw [List.map_map]; exact RowA.ext (Own.rowO hr13) (Ext.trans x_f2 hW_)) (by simp; omega); rw [← hasR_mem, hhy, List.length_map] at h; exact h)) (by rintro _ _ ⟨rfl, rfl⟩; exact ⟨rfl, rfl⟩))⟩) hS4 ?_
            refine xd_pure 34 (some 140) rfl rfl (by kernel_rfl) (v := (.bool ((false != false)))) (.inl ⟨(wanted_of (j := 19) (b := false) rfl (congrArg some (ne_two (show false = false from rfl) (show (decide ((x.id : Int) = y.id)) = false from (decide_eq_false hxe)) rfl))), fun W_ hW_ => ox_neqBool (a := false) (b := false) tU_4 rfl rfl ⟨rfl, rfl⟩⟩) ?_
            refine xd_pure 35 (some 141) rfl rfl (by kernel_rfl) (v := (.bool ((false != false)))) (.inl ⟨rfl, fun W_ hW_ => ox_pick_f (v := (.bool ((false != false)))) (congrArg Value.bool (ne_two (show false = false from rfl) (show (decide ((x.id : Int) = y.id)) = false from (decide_eq_false hxe)) rfl)) rfl ⟨rfl, rfl⟩⟩) ?_
            refine xd_done (by kernel_rfl) ?_ _
            refine xc_cond_f (congrArg Value.bool (ne_two (show false = false from rfl) (show false = false from rfl) rfl)) ?_
            refine xc_skip ?_
            refine xc_region ?_
            refine xl_op (P := Try.prog) (some 104) rfl rfl (ox_move (v := (.int .i64 ((k : Nat)))) g16_f2 ?_)
            refine xl_op (P := Try.prog) (some 105) rfl rfl (ox_add64 (a := ((k : Nat))) (b := 1) rfl rfl (by omega) ?_)
            refine xl_op (P := Try.prog) (some 16) rfl rfl (ox_assign (v := (.int .i64 ((k : Nat) + 1))) rfl ?_)
            refine xl_nil ?_
            have hsz0 := e11.size
            exact ⟨rfl, (nodes pp).length - (k + 1), by omega, k + 1, by omega, by omega, g5_f2, g1_f2, g6_f2, g7_f2, g8_f2, g9_f2, g13_f2, g14_f2, g15_f2, (by first | exact rfl | exact (congrArg (Value.int .i64) (by omega))), (Ext.trans x_f2 e11)⟩
        · skip
          refine xc_exit ?_
          refine xc_seq ?_
          refine xc_region ?_
          refine xl_op (P := Try.prog) (some 142) rfl rfl (ox_move (v := (.pointer (some ⟨tb.b, 0, none⟩))) g9_f2 ?_)
          refine xl_op (P := Try.prog) (some 143) rfl rfl (ox_move (v := (.pointer (some ⟨tb.b, 0, none⟩))) g9_f2 ?_)
          refine xl_op (P := Try.prog) (some 144) rfl rfl (ox_callE (al := [(.pointer (some ⟨tb.b, 0, none⟩)), (.pointer (some ⟨tb.b, 0, none⟩))]) pf_24 rfl (ret_mono ((by have h := script_calls (.pointer (some ⟨s, 0, none⟩)) tb tb w11 (PN.keep (Chg.ext hCr x_f2) hPb (fun b hb hh => PN.off hGM.st (by decide) (by decide) hPb b hb hh)) hWb hsb4 (PN.keep (Chg.ext hCr x_f2) hPb (fun b hb hh => PN.off hGM.st (by decide) (by decide) hPb b hb hh)) hWb hsb4; rw [has_self, script_self] at h; exact h)) ?_))
          rintro _ w14 ⟨Az, cz, rfl, hoz, hnz, e12⟩
          have he12 := e12.size
          obtain ⟨gz, cz9, heqz, _⟩ := hoz.some_of Nat.zero_lt_one
          simp only [Value.slice.injEq, true_and] at heqz
          obtain ⟨rfl, rfl⟩ := heqz
          refine xl_op (P := Try.prog) (some 17) rfl rfl (ox_assign (v := (.slice (some ⟨gz, 0, none⟩) 1 cz)) rfl ?_)
          refine xl_nil ?_
          refine xc_seq ?_
          refine xc_regionE [] (fun W_ => Chg (fun _ => False) w14 W_) hmix ?_
          intro w15 e13 z5
          have hS5 : Chg (fun _ => False) w14 w15 := Ext.to e13
          refine xd_pure 0 (some 145) rfl rfl (by kernel_rfl) (v := (.slice (some ⟨gz, 0, none⟩) 1 cz)) (.inl ⟨rfl, fun W_ hW_ => ox_move (v := (.slice (some ⟨gz, 0, none⟩) 1 cz)) rfl ⟨rfl, rfl⟩⟩) ?_
          refine xd_pure 1 (some 146) rfl rfl (by kernel_rfl) (v := (.int .i64 1)) (.inl ⟨rfl, fun W_ hW_ => ox_len (A := (some ⟨gz, 0, none⟩)) (n := 1) (cp := cz) rfl tU_54 rfl ⟨rfl, rfl⟩⟩) ?_
          refine xd_pure 2 (some 147) rfl rfl (by kernel_rfl) (v := (.bool (decide ((1 : Int) ≠ 1)))) (.inl ⟨rfl, fun W_ hW_ => ox_neq (k := .i64) (a := 1) (b := 1) rfl rfl ⟨rfl, rfl⟩⟩) ?_
          refine xd_pure 3 (some 148) rfl rfl (by kernel_rfl) (v := (.bool (decide ((1 : Int) ≠ 1)))) (.inl ⟨rfl, fun W_ hW_ => ox_move (v := (.bool (decide ((1 : Int) ≠ 1)))) rfl ⟨rfl, rfl⟩⟩) ?_
          refine xd_pure 4 (some 149) rfl rfl (by kernel_rfl) (v := (.slice (some ⟨gz, 0, none⟩) 1 cz)) (.inl ⟨(wanted_of (j := 3) (b := false) rfl (congrArg some (by decide : decide ((1 : Int) ≠ 1) = false))), fun W_ hW_ => ox_move (v := (.slice (some ⟨gz, 0, none⟩) 1 cz)) rfl ⟨rfl, rfl⟩⟩) ?_
          refine xd_pure 5 (some 150) rfl rfl (by kernel_rfl) (v := (.pointer (some ⟨gz, 0 + (0 : Int).toNat * 9, none⟩))) (.inl ⟨(wanted_of (j := 3) (b := false) rfl (congrArg some (by decide : decide ((1 : Int) ≠ 1) = false))), fun W_ hW_ => ox_indexAddr (b := gz) (o := 0) (i := 0) tE_54 rfl rfl (by omega) (by omega) ⟨rfl, rfl⟩⟩) ?_
          refine xd_take 6 (some 151) rfl rfl (by kernel_rfl) (v := (.agg #[(.int .i64 1), (.int .i64 tb.id), (.int .i64 0), (.int .i64 0), (.int .i64 0), (.int .i64 0), (.int .i64 0), (.int .i64 0), (.int .i64 0)])) (.inl ⟨(wanted_of (j := 3) (b := false) rfl (congrArg some (by decide : decide ((1 : Int) ≠ 1) = false))), fun W_ hW_ => ox_loadN (vs := [(.int .i64 1), (.int .i64 tb.id), (.int .i64 0), (.int .i64 0), (.int .i64 0), (.int .i64 0), (.int .i64 0), (.int .i64 0), (.int .i64 0)]) tA_88 tS_88 rfl rfl (by have h9 := Own.opv (hoz.ext hW_) (i := 0) (e := keepO tb.id) rfl; simpa [OpD.cs, keepO, lf0] using h9) ⟨rfl, rfl⟩⟩) hS5 ?_
          refine xd_pure 7 (some 152) rfl rfl (by kernel_rfl) (v := (.pointer (some ⟨tb.b, 0, none⟩))) (.inl ⟨(wanted_of (j := 3) (b := false) rfl (congrArg some (by decide : decide ((1 : Int) ≠ 1) = false))), fun W_ hW_ => ox_move (v := (.pointer (some ⟨tb.b, 0, none⟩))) g9_f2 ⟨rfl, rfl⟩⟩) ?_
          refine xd_take 8 (some 153) rfl rfl (by kernel_rfl) (v := (.int .i64 tb.id)) (.inl ⟨(wanted_of (j := 3) (b := false) rfl (congrArg some (by decide : decide ((1 : Int) ≠ 1) = false))), fun W_ hW_ => ox_callE (al := [(.pointer (some ⟨tb.b, 0, none⟩))]) pf_40 rfl (ret_mono (number_calls (.pointer (some ⟨s, 0, none⟩)) tb _ (PN.keep (Chg.ext (Chg.ext (Chg.ext hCr x_f2) e12) hW_) hPb (fun b hb hh => PN.off hGM.st (by decide) (by decide) hPb b hb hh))) (by rintro _ _ ⟨rfl, rfl⟩; exact ⟨rfl, rfl⟩))⟩) hS5 ?_
          refine xd_pure 9 (some 154) rfl rfl (by kernel_rfl) (v := (.agg #[(.int .i64 1), (.int .i64 tb.id), (.int .i64 0), (.int .i64 0), (.int .i64 0), (.int .i64 0), (.int .i64 0), (.int .i64 0), (.int .i64 0)])) (.inl ⟨(wanted_of (j := 3) (b := false) rfl (congrArg some (by decide : decide ((1 : Int) ≠ 1) = false))), fun W_ hW_ => ox_mkStruct (ps := [(0, (.int .i64 1)), (1, (.int .i64 tb.id))]) (cs := #[(.int .i64 1), (.int .i64 tb.id), (.int .i64 0), (.int .i64 0), (.int .i64 0), (.int .i64 0), (.int .i64 0), (.int .i64 0), (.int .i64 0)]) tZ_88 tP_88 rfl (by kernel_rfl) ⟨rfl, rfl⟩⟩) ?_
          refine xd_pure 10 (some 155) rfl rfl (by kernel_rfl) (v := (.bool (!decide (((1 : Int) = 1 ∧ (tb.id : Int) = tb.id ∧ (0 : Int) = 0 ∧ (0 : Int) = 0 ∧ (0 : Int) = 0 ∧ (0 : Int) = 0 ∧ (0 : Int) = 0 ∧ (0 : Int) = 0 ∧ (0 : Int) = 0))))) (.inl ⟨(wanted_of (j := 3) (b := false) rfl (congrArg some (by decide : decide ((1 : Int) ≠ 1) = false))), fun W_ hW_ => ox_neqF (xs := [(.int .i64 1), (.int .i64 tb.id), (.int .i64 0), (.int .i64 0), (.int .i64 0), (.int .i64 0), (.int .i64 0), (.int .i64 0), (.int .i64 0)]) (ys := [(.int .i64 1), (.int .i64 tb.id), (.int .i64 0), (.int .i64 0), (.int .i64 0), (.int .i64 0), (.int .i64 0), (.int .i64 0), (.int .i64 0)]) (p := ((1 : Int) = 1 ∧ (tb.id : Int) = tb.id ∧ (0 : Int) = 0 ∧ (0 : Int) = 0 ∧ (0 : Int) = 0 ∧ (0 : Int) = 0 ∧ (0 : Int) = 0 ∧ (0 : Int) = 0 ∧ (0 : Int) = 0)) fS_88 rfl rfl rfl rfl (by simp) ⟨rfl, rfl⟩⟩) ?_
          refine xd_pure 11 (some 156) rfl rfl (by kernel_rfl) (v := (.bool (!decide (((1 : Int) = 1 ∧ (tb.id : Int) = tb.id ∧ (0 : Int) = 0 ∧ (0 : Int) = 0 ∧ (0 : Int) = 0 ∧ (0 : Int) = 0 ∧ (0 : Int) = 0 ∧ (0 : Int) = 0 ∧ (0 : Int) = 0))))) (.inl ⟨rfl, fun W_ hW_ => ox_pick_f (v := (.bool (!decide (((1 : Int) = 1 ∧ (tb.id : Int) = tb.id ∧ (0 : Int) = 0 ∧ (0 : Int) = 0 ∧ (0 : Int) = 0 ∧ (0 : Int) = 0 ∧ (0 : Int) = 0 ∧ (0 : Int) = 0 ∧ (0 : Int) = 0))))) (congrArg Value.bool (by decide : decide ((1 : Int) ≠ 1) = false)) rfl ⟨rfl, rfl⟩⟩) ?_
          refine xd_done (by kernel_rfl) ?_ _
          refine xc_cond_f (congrArg Value.bool (by simp : (!decide (((1 : Int) = 1 ∧ (tb.id : Int) = tb.id ∧ (0 : Int) = 0 ∧ (0 : Int) = 0 ∧ (0 : Int) = 0 ∧ (0 : Int) = 0 ∧ (0 : Int) = 0 ∧ (0 : Int) = 0 ∧ (0 : Int) = 0))) = false)) ?_
          refine xc_skip ?_
          refine xc_region ?_
          refine xl_op (P := Try.prog) (some 35) rfl rfl (ox_move (v := (.int .i64 ((i : Nat)))) g7_f2 ?_)
          refine xl_op (P := Try.prog) (some 36) rfl rfl (ox_add64 (a := ((i : Nat))) (b := 1) rfl rfl (by omega) ?_)
          refine xl_op (P := Try.prog) (some 7) rfl rfl (ox_assign (v := (.int .i64 ((i : Nat) + 1))) rfl ?_)
          refine xl_nil ?_
          have hq_s := (((hsr.ext x_f2).ext e12).ext e13)
          have hsz0 := e12.size
          have hsz1 := e13.size
          exact ⟨rfl, ps.length - (i + 1), by omega, i + 1, cn9, by omega, by omega, by omega, g5_f2, g1_f2, g6_f2, (by first | exact rfl | exact (congrArg (Value.int .i64) (by omega))), hq_s, (Chg.ext (Chg.ext (Chg.ext hCr x_f2) e12) e13)⟩
    · skip
      have h1' := h1
      try simp only [Bool.or_eq_true, Bool.and_eq_true, decide_eq_true_eq, Bool.or_eq_false_iff, Bool.and_eq_false_iff, decide_eq_false_iff_not, Bool.not_eq_true', Bool.not_eq_false'] at h1'
      refine xc_exit ?_
      refine xc_seq ?_
      refine xc_region ?_
      refine xl_op (P := Try.prog) (some 157) rfl rfl (ox_move (v := (.bool true)) g6_f1 ?_)
      refine xl_op (P := Try.prog) (some 4) rfl rfl (ox_assign (v := (.bool true)) rfl ?_)
      refine xl_nil ?_
      refine xc_ret ?_
      change leaves _ _ _ _ _ _ _
      refine leaves_nil (n := 158) (rs := [.tmp 4]) (vs := [(.bool true)]) rfl ⟨⟨by decide, rfl⟩, trivial⟩ ?_
      exact ⟨rfl, (Ext.chg1 hEg c_f1 hls)⟩

end Go.Proofs.Ythhbnodnpajljaa
