/-
  The law DeltaMoves, walked. No conditions.
-/
import Derived.Test.YthhbnodnpajljaaVxi
import Derived.Test.YthhbnodnpajljaaRows
import Derived.Test.YthhbnodnpajljaaEa
import Derived.Test.YthhbnodnpajljaaEb
import Derived.Test.YthhbnodnpajljaaDr
import Derived.Test.YthhbnodnpajljaaDp
import Derived.Test.YthhbnodnpajljaaDs
set_option linter.unusedVariables false
set_option linter.unusedSimpArgs false
set_option maxRecDepth 100000
set_option maxHeartbeats 4000000
namespace Go.Proofs.Ythhbnodnpajljaa
open Go Go.RowKit Go.Vx

theorem ownO_block {w : World} {e : TypeId} {sz n cap : Nat} {a : Addr} {xs : List Value} (h : Vx.Own w e sz (.slice (some a) n cap) n xs) : (Value.slice (some a) n cap).ownBlock = some a.block := by
  rcases h.form with ⟨h1, _⟩ | ⟨g, cp, cur, h1, _⟩
  · cases h1
  · simp only [Value.slice.injEq, Option.some.injEq] at h1; rw [h1.1]; rfl

theorem pf_17 : plainF Try.prog 17 = true := by kernel_rfl
theorem pf_18 : plainF Try.prog 18 = true := by kernel_rfl
theorem pf_20 : plainF Try.prog 20 = true := by kernel_rfl
theorem pf_21 : plainF Try.prog 21 = true := by kernel_rfl
theorem pf_22 : plainF Try.prog 22 = true := by kernel_rfl

theorem deltaMoves_calls (ps : List Int) (A0 : Option Addr) (c0 : Nat) (bias : Int) (l : List EB) (A : Option Addr) (c : Nat) (w : World) (hP0 : RowA w A0 (ps.map fun i => .int .i64 i)) (hpn : ps.length ≤ 140737488351232) (hA : RowA w A (edC (l.map EB.e))) (hn : l.length * 40 ≤ 140737488351232) (hb : ∀ x ∈ l, x.e.n ≤ 140737488351232) (hr : ∀ x ∈ l, x.rd w) :
    Calls Try.prog 4 #[(.slice A0 ps.length c0), (.int .i64 bias), (.slice A l.length c)] w (Ret (fun v w' => v = .bool true ∧ Ext w w')) := by
  refine calls_xc (n := 101) (f := fun s_ => [(.slice A0 ps.length c0), (.int .i64 bias), (.slice A l.length c)].getD s_ undef) Try.func4 rfl rfl (by simp) (fun s_ => by simp) ?_
  refine xc_seq ?_
  refine xc_region ?_
  refine xl_op (P := Try.prog) (some 6) rfl rfl (ox_assign (v := (.bool false)) rfl ?_)
  refine xl_nil ?_
  refine xc_seq ?_
  refine xc_seq ?_
  refine xc_region ?_
  refine xl_op (P := Try.prog) (some 18) rfl rfl (ox_callE (al := []) pf_17 rfl (ret_mono (head_calls w) ?_))
  rintro _ w1 ⟨rfl, e1⟩
  have he1 := e1.size
  refine xl_op (P := Try.prog) (some 19) rfl rfl (ox_not (b := true) rfl ?_)
  refine xl_nil ?_
  refine xc_cond_f rfl ?_
  refine xc_skip ?_
  refine xc_seq ?_
  refine xc_region ?_
  refine xl_op (P := Try.prog) (some 20) rfl rfl (ox_move (v := (.slice A l.length c)) rfl ?_)
  refine xl_op (P := Try.prog) (some 21) rfl rfl (ox_callE (al := [(.slice A l.length c)]) pf_18 rfl (ret_mono (edits_calls l A c w1 (RowA.ext hA e1) hn hb (fun x hx => (hr x hx).ext e1)) ?_))
  rintro _ w2 ⟨gm, cm, ys0, rfl, hcm, hO, hgm, hC, e2⟩
  have he2 := e2.size
  have hlgm := hO.lt gm rfl
  have hlw : w.heap.size ≤ gm := by omega
  refine xl_op (P := Try.prog) (some 7) rfl rfl (ox_assign (v := (.slice (some ⟨gm, 0, none⟩) l.length cm)) rfl ?_)
  refine xl_nil ?_
  refine xc_seq ?_
  refine xc_seq ?_
  refine xc_region ?_
  refine xl_op (P := Try.prog) (some 8) rfl rfl (ox_assign (v := (.int .i64 0)) rfl ?_)
  refine xl_nil ?_
  refine xc_block ?_
  refine xc_loopN (fun m f W => ∃ (r : Nat) (L : List EB) (ys : List Ed) (lo : Nat) (A1 : Option Addr) (c1 : Nat), m = 2 - r ∧ r ≤ 2 ∧ L.length = l.length ∧ (∀ x ∈ L, x ∈ l) ∧ f 0 = (.slice A0 ps.length c0) ∧ f 1 = (.int .i64 bias) ∧ f 2 = (.slice A1 l.length c1) ∧ f 7 = (.slice (some ⟨gm, 0, none⟩) l.length cm) ∧ f 8 = (.int .i64 ((r : Nat))) ∧ Vx.Own W 59 3 (.slice (some ⟨gm, 0, none⟩) ((l.length + 1)) cm) (l.length + 1) (edC (ys ++ [edM])) ∧ CpyL lo W L ys ∧ RowA W A1 (edC (L.map EB.e)) ∧ Ext w W) (2) ?_ ?_
  · exact ⟨0, l, ys0, w1.heap.size, A, c, by omega, by omega, rfl, fun _ h => h, rfl, rfl, rfl, rfl, (by first | exact rfl | exact (congrArg (Value.int .i64) (by omega))), hO, hC, (RowA.ext hA (Ext.trans e1 e2)), (Ext.trans e1 e2)⟩
  · rintro m f1 w3 ⟨r, L, ys, lo, A1, c1, hm, hr2, hL, hLm, g0_f1, g1_f1, g2_f1, g7_f1, g8_f1, om_f1, cp_f1, row_f1, e_f1⟩
    have hzE := e_f1.size
    have hyl : ys.length = l.length := by rw [← cp_f1.1, hL]
    have heq := cp_f1.e3
    refine xc_seq ?_
    refine xc_seq ?_
    refine xc_region ?_
    refine xl_op (P := Try.prog) (some 22) rfl rfl (ox_move (v := (.int .i64 ((r : Nat)))) g8_f1 ?_)
    refine xl_op (P := Try.prog) (some 23) rfl rfl (ox_lss (k := .i64) (a := ((r : Nat))) (b := 2) rfl rfl ?_)
    refine xl_nil ?_
    refine xc_if (p := ((r : Nat) : Int) < 2) rfl (fun h1 => ?_) (fun h1 => ?_)
    · skip
      refine xc_skip ?_
      refine xc_seq ?_
      refine xc_block ?_
      refine xc_seq ?_
      refine xc_seq ?_
      refine xc_region ?_
      refine xl_op (P := Try.prog) (some 9) rfl rfl (ox_assign (v := (.int .i64 0)) rfl ?_)
      refine xl_nil ?_
      refine xc_block ?_
      refine xc_loopN (fun m f W => ∃ (i : Nat), m = ps.length - i ∧ i ≤ ps.length ∧ f 0 = (.slice A0 ps.length c0) ∧ f 1 = (.int .i64 bias) ∧ f 2 = (.slice A1 l.length c1) ∧ f 7 = (.slice (some ⟨gm, 0, none⟩) l.length cm) ∧ f 8 = (.int .i64 ((r : Nat))) ∧ f 9 = (.int .i64 ((i : Nat))) ∧ Vx.Own W 59 3 (.slice (some ⟨gm, 0, none⟩) ((l.length + 1)) cm) (l.length + 1) (edC (ys ++ [edM])) ∧ CpyL lo W L ys ∧ RowA W A1 (edC (L.map EB.e)) ∧ Ext w W) (ps.length) ?_ ?_
      · exact ⟨0, by omega, by omega, g0_f1, g1_f1, g2_f1, g7_f1, g8_f1, (by first | exact rfl | exact (congrArg (Value.int .i64) (by omega))), om_f1, cp_f1, row_f1, e_f1⟩
      · rintro m f2 w4 ⟨i, hm, hi, g0_f2, g1_f2, g2_f2, g7_f2, g8_f2, g9_f2, om_f2, cp_f2, row_f2, e_f2⟩
        have hzE := e_f2.size
        refine xc_seq ?_
        refine xc_seq ?_
        refine xc_region ?_
        refine xl_op (P := Try.prog) (some 26) rfl rfl (ox_move (v := (.int .i64 ((i : Nat)))) g9_f2 ?_)
        refine xl_op (P := Try.prog) (some 27) rfl rfl (ox_move (v := (.slice A0 ps.length c0)) g0_f2 ?_)
        refine xl_op (P := Try.prog) (some 28) rfl rfl (ox_len (A := A0) (n := ps.length) (cp := c0) rfl tU_42 rfl ?_)
        refine xl_op (P := Try.prog) (some 29) rfl rfl (ox_lss (k := .i64) (a := ((i : Nat))) (b := (((ps.length : Nat) : Int))) rfl rfl ?_)
        refine xl_nil ?_
        refine xc_if (p := ((i : Nat) : Int) < (((ps.length : Nat) : Int))) rfl (fun h2 => ?_) (fun h2 => ?_)
        · skip
          have hil : i < ps.length := by omega
          obtain ⟨p, hp⟩ := get_ex (l := ps) (i := i) hil
          obtain ⟨g0, o0, rfl⟩ := hP0.ex (by intro hh; cases ps with | nil => simp at hp | cons q l => simp at hh)
          have hcp : w.cell? ⟨g0, o0 + i, none⟩ = some (.int .i64 p) := cellsL_get hP0.cells (by simp [hp])
          refine xc_skip ?_
          refine xc_seq ?_
          refine xc_block ?_
          refine xc_seq ?_
          refine xc_region ?_
          refine xl_op (P := Try.prog) (some 33) rfl rfl (ox_move (v := (.slice (some ⟨g0, o0, none⟩) ps.length c0)) g0_f2 ?_)
          refine xl_op (P := Try.prog) (some 34) rfl rfl (ox_move (v := (.int .i64 ((i : Nat)))) g9_f2 ?_)
          refine xl_op (P := Try.prog) (some 35) rfl rfl (ox_indexAddr (b := g0) (o := o0) (i := ((i : Nat))) tE_42 rfl rfl (by omega) (by omega) ?_)
          refine xl_op (P := Try.prog) (some 36) rfl rfl (ox_load (v := (.int .i64 p)) tA_3 rfl (by simpa using Ext.cell hcp e_f2) ?_)
          refine xl_op (P := Try.prog) (some 37) rfl rfl (ox_move (v := (.int .i64 bias)) g1_f2 ?_)
          refine xl_op (P := Try.prog) (some 38) rfl rfl (ox_move (v := (.slice (some ⟨gm, 0, none⟩) l.length cm)) g7_f2 ?_)
          refine xl_op (P := Try.prog) (some 39) rfl rfl (ox_callE (al := [(.int .i64 p), (.int .i64 bias), (.slice (some ⟨gm, 0, none⟩) l.length cm)]) pf_19 rfl (ret_mono ((by have h := move_calls p bias ys (some ⟨gm, 0, none⟩) cm w4 (Own.front (ms := [edM]) om_f2 hyl); rw [hyl, heq] at h; exact h)) ?_))
          rintro _ w5 ⟨rfl, e3⟩
          have he3 := e3.size
          refine xl_op (P := Try.prog) (some 32) rfl rfl (ox_move (v := (.tuple #[(.int .i64 ((move p bias ((L.map EB.e).map Ed.e3)).1)), (.int .i64 ((move p bias ((L.map EB.e).map Ed.e3)).2))])) rfl ?_)
          refine xl_op (P := Try.prog) (some 40) rfl rfl (ox_extract (vs := #[(.int .i64 ((move p bias ((L.map EB.e).map Ed.e3)).1)), (.int .i64 ((move p bias ((L.map EB.e).map Ed.e3)).2))]) (v := (.int .i64 ((move p bias ((L.map EB.e).map Ed.e3)).1))) rfl rfl ?_)
          refine xl_op (P := Try.prog) (some 41) rfl rfl (ox_extract (vs := #[(.int .i64 ((move p bias ((L.map EB.e).map Ed.e3)).1)), (.int .i64 ((move p bias ((L.map EB.e).map Ed.e3)).2))]) (v := (.int .i64 ((move p bias ((L.map EB.e).map Ed.e3)).2))) rfl rfl ?_)
          refine xl_op (P := Try.prog) (some 10) rfl rfl (ox_assign (v := (.int .i64 ((move p bias ((L.map EB.e).map Ed.e3)).1))) rfl ?_)
          refine xl_op (P := Try.prog) (some 11) rfl rfl (ox_assign (v := (.int .i64 ((move p bias ((L.map EB.e).map Ed.e3)).2))) rfl ?_)
          refine xl_nil ?_
          refine xc_seq ?_
          refine xc_region ?_
          refine xl_op (P := Try.prog) (some 43) rfl rfl (ox_move (v := (.slice (some ⟨g0, o0, none⟩) ps.length c0)) g0_f2 ?_)
          refine xl_op (P := Try.prog) (some 44) rfl rfl (ox_move (v := (.int .i64 ((i : Nat)))) g9_f2 ?_)
          refine xl_op (P := Try.prog) (some 45) rfl rfl (ox_indexAddr (b := g0) (o := o0) (i := ((i : Nat))) tE_42 rfl rfl (by omega) (by omega) ?_)
          refine xl_op (P := Try.prog) (some 46) rfl rfl (ox_load (v := (.int .i64 p)) tA_3 rfl (by simpa using Ext.cell hcp (Ext.trans e_f2 e3)) ?_)
          refine xl_op (P := Try.prog) (some 47) rfl rfl (ox_move (v := (.int .i64 bias)) g1_f2 ?_)
          refine xl_op (P := Try.prog) (some 48) rfl rfl (ox_move (v := (.slice A1 l.length c1)) g2_f2 ?_)
          refine xl_op (P := Try.prog) (some 49) rfl rfl (ox_callE (al := [(.int .i64 p), (.int .i64 bias), (.slice A1 l.length c1)]) pf_20 rfl (ret_mono ((by have h := refMove_calls p bias (L.map EB.e) A1 c1 w5 (RowA.ext row_f2 e3); rw [List.length_map, hL] at h; exact h)) ?_))
          rintro _ w6 ⟨rfl, e4⟩
          have he4 := e4.size
          refine xl_op (P := Try.prog) (some 42) rfl rfl (ox_move (v := (.tuple #[(.int .i64 ((move p bias ((L.map EB.e).map Ed.e3)).1)), (.int .i64 ((move p bias ((L.map EB.e).map Ed.e3)).2))])) rfl ?_)
          refine xl_op (P := Try.prog) (some 50) rfl rfl (ox_extract (vs := #[(.int .i64 ((move p bias ((L.map EB.e).map Ed.e3)).1)), (.int .i64 ((move p bias ((L.map EB.e).map Ed.e3)).2))]) (v := (.int .i64 ((move p bias ((L.map EB.e).map Ed.e3)).1))) rfl rfl ?_)
          refine xl_op (P := Try.prog) (some 51) rfl rfl (ox_extract (vs := #[(.int .i64 ((move p bias ((L.map EB.e).map Ed.e3)).1)), (.int .i64 ((move p bias ((L.map EB.e).map Ed.e3)).2))]) (v := (.int .i64 ((move p bias ((L.map EB.e).map Ed.e3)).2))) rfl rfl ?_)
          refine xl_op (P := Try.prog) (some 12) rfl rfl (ox_assign (v := (.int .i64 ((move p bias ((L.map EB.e).map Ed.e3)).1))) rfl ?_)
          refine xl_op (P := Try.prog) (some 13) rfl rfl (ox_assign (v := (.int .i64 ((move p bias ((L.map EB.e).map Ed.e3)).2))) rfl ?_)
          refine xl_nil ?_
          refine xc_seq ?_
          refine xc_region ?_
          refine xl_op (P := Try.prog) (some 52) rfl rfl (ox_move (v := (.int .i64 ((move p bias ((L.map EB.e).map Ed.e3)).1))) rfl ?_)
          refine xl_op (P := Try.prog) (some 53) rfl rfl (ox_move (v := (.int .i64 ((move p bias ((L.map EB.e).map Ed.e3)).1))) rfl ?_)
          refine xl_op (P := Try.prog) (some 54) rfl rfl (ox_neq (k := .i64) (a := ((move p bias ((L.map EB.e).map Ed.e3)).1)) (b := ((move p bias ((L.map EB.e).map Ed.e3)).1)) rfl rfl ?_)
          refine xl_op (P := Try.prog) (some 55) rfl rfl (ox_move (v := (.bool (decide (((move p bias ((L.map EB.e).map Ed.e3)).1 : Int) ≠ ((move p bias ((L.map EB.e).map Ed.e3)).1))))) rfl ?_)
          refine xl_opg (P := Try.prog) (some 56) (j := 3) (b := false) rfl rfl (congrArg some (by simp : decide (((move p bias ((L.map EB.e).map Ed.e3)).1 : Int) ≠ ((move p bias ((L.map EB.e).map Ed.e3)).1)) = false)) (ox_move (v := (.int .i64 ((move p bias ((L.map EB.e).map Ed.e3)).2))) rfl ?_)
          refine xl_opg (P := Try.prog) (some 57) (j := 3) (b := false) rfl rfl (congrArg some (by simp : decide (((move p bias ((L.map EB.e).map Ed.e3)).1 : Int) ≠ ((move p bias ((L.map EB.e).map Ed.e3)).1)) = false)) (ox_move (v := (.int .i64 ((move p bias ((L.map EB.e).map Ed.e3)).2))) rfl ?_)
          refine xl_opg (P := Try.prog) (some 58) (j := 3) (b := false) rfl rfl (congrArg some (by simp : decide (((move p bias ((L.map EB.e).map Ed.e3)).1 : Int) ≠ ((move p bias ((L.map EB.e).map Ed.e3)).1)) = false)) (ox_neq (k := .i64) (a := ((move p bias ((L.map EB.e).map Ed.e3)).2)) (b := ((move p bias ((L.map EB.e).map Ed.e3)).2)) rfl rfl ?_)
          refine xl_op (P := Try.prog) (some 59) rfl rfl (ox_pick_f (v := (.bool (decide (((move p bias ((L.map EB.e).map Ed.e3)).2 : Int) ≠ ((move p bias ((L.map EB.e).map Ed.e3)).2))))) (congrArg Value.bool (by simp : decide (((move p bias ((L.map EB.e).map Ed.e3)).1 : Int) ≠ ((move p bias ((L.map EB.e).map Ed.e3)).1)) = false)) rfl ?_)
          refine xl_op (P := Try.prog) (some 60) rfl rfl (ox_move (v := (.bool (decide (((move p bias ((L.map EB.e).map Ed.e3)).2 : Int) ≠ ((move p bias ((L.map EB.e).map Ed.e3)).2))))) rfl ?_)
          refine xl_opg (P := Try.prog) (some 61) (j := 8) (b := false) rfl rfl (congrArg some (by simp : decide (((move p bias ((L.map EB.e).map Ed.e3)).2 : Int) ≠ ((move p bias ((L.map EB.e).map Ed.e3)).2)) = false)) (ox_move (v := (.slice (some ⟨gm, 0, none⟩) l.length cm)) g7_f2 ?_)
          refine xl_opg (P := Try.prog) (some 62) (j := 8) (b := false) rfl rfl (congrArg some (by simp : decide (((move p bias ((L.map EB.e).map Ed.e3)).2 : Int) ≠ ((move p bias ((L.map EB.e).map Ed.e3)).2)) = false)) (ox_move (v := (.slice A1 l.length c1)) g2_f2 ?_)
          refine xl_opg (P := Try.prog) (some 63) (j := 8) (b := false) rfl rfl (congrArg some (by simp : decide (((move p bias ((L.map EB.e).map Ed.e3)).2 : Int) ≠ ((move p bias ((L.map EB.e).map Ed.e3)).2)) = false)) (ox_callE (al := [(.slice (some ⟨gm, 0, none⟩) l.length cm), (.slice A1 l.length c1)]) pf_21 rfl (ret_mono ((by have h := left_calls L ys gm cm lo A1 c1 w6 (by rw [hL]; exact ((om_f2.ext e3).ext e4)) (by omega) ((cp_f2.ext e3).ext e4) (RowA.ext (RowA.ext row_f2 e3) e4) (by omega) (fun x hx => hb x (hLm x hx)) (fun x hx => (hr x (hLm x hx)).ext (Ext.trans (Ext.trans e_f2 e3) e4)); rw [hL] at h; exact h)) ?_))
          rintro _ w7 ⟨rfl, e5⟩
          have he5 := e5.size
          refine xl_opg (P := Try.prog) (some 64) (j := 8) (b := false) rfl rfl (congrArg some (by simp : decide (((move p bias ((L.map EB.e).map Ed.e3)).2 : Int) ≠ ((move p bias ((L.map EB.e).map Ed.e3)).2)) = false)) (ox_not (b := true) rfl ?_)
          refine xl_op (P := Try.prog) (some 65) rfl rfl (ox_pick_f (v := (.bool false)) (congrArg Value.bool (by simp : decide (((move p bias ((L.map EB.e).map Ed.e3)).2 : Int) ≠ ((move p bias ((L.map EB.e).map Ed.e3)).2)) = false)) rfl ?_)
          refine xl_nil ?_
          refine xc_cond_f rfl ?_
          refine xc_skip ?_
          refine xc_region ?_
          refine xl_op (P := Try.prog) (some 30) rfl rfl (ox_move (v := (.int .i64 ((i : Nat)))) g9_f2 ?_)
          refine xl_op (P := Try.prog) (some 31) rfl rfl (ox_add64 (a := ((i : Nat))) (b := 1) rfl rfl (by omega) ?_)
          refine xl_op (P := Try.prog) (some 9) rfl rfl (ox_assign (v := (.int .i64 ((i : Nat) + 1))) rfl ?_)
          refine xl_nil ?_
          have hq_om := (((om_f2.ext e3).ext e4).ext e5)
          have hq_cp := (((cp_f2.ext e3).ext e4).ext e5)
          have q1 := (RowA.ext (RowA.ext (RowA.ext row_f2 e3) e4) e5)
          have hq_row := q1
          have hsz0 := e3.size
          have hsz1 := e4.size
          have hsz2 := e5.size
          exact ⟨rfl, ps.length - (i + 1), by omega, i + 1, by omega, by omega, g0_f2, g1_f2, g2_f2, g7_f2, g8_f2, (by first | exact rfl | exact (congrArg (Value.int .i64) (by omega))), hq_om, hq_cp, hq_row, (Ext.trans (Ext.trans (Ext.trans e_f2 e3) e4) e5)⟩
        · skip
          refine xc_exit ?_
          refine xc_seq ?_
          refine xc_seq ?_
          refine xc_region ?_
          refine xl_op (P := Try.prog) (some 66) rfl rfl (ox_move (v := (.slice A0 ps.length c0)) g0_f2 ?_)
          refine xl_op (P := Try.prog) (some 67) rfl rfl (ox_len (A := A0) (n := ps.length) (cp := c0) rfl tU_42 rfl ?_)
          refine xl_op (P := Try.prog) (some 68) rfl rfl (ox_gtr (k := .i64) (a := (((ps.length : Nat) : Int))) (b := 0) rfl rfl ?_)
          refine xl_nil ?_
          refine xc_if (p := (0 : Int) < (((ps.length : Nat) : Int))) rfl (fun h3 => ?_) (fun h3 => ?_)
          · skip
            have hil : 0 < ps.length := by omega
            obtain ⟨p, hp⟩ := get_ex (l := ps) (i := 0) hil
            obtain ⟨g0, o0, rfl⟩ := hP0.ex (by intro hh; cases ps with | nil => simp at hp | cons q l => simp at hh)
            have hcp : w.cell? ⟨g0, o0 + 0, none⟩ = some (.int .i64 p) := cellsL_get hP0.cells (by simp [hp])
            refine xc_seq ?_
            refine xc_region ?_
            refine xl_op (P := Try.prog) (some 70) rfl rfl (ox_move (v := (.slice (some ⟨g0, o0, none⟩) ps.length c0)) g0_f2 ?_)
            refine xl_op (P := Try.prog) (some 71) rfl rfl (ox_indexAddr (b := g0) (o := o0) (i := 0) tE_42 rfl rfl (by omega) (by omega) ?_)
            refine xl_op (P := Try.prog) (some 72) rfl rfl (ox_load (v := (.int .i64 p)) tA_3 rfl (by simpa using Ext.cell hcp e_f2) ?_)
            refine xl_op (P := Try.prog) (some 73) rfl rfl (ox_move (v := (.int .i64 bias)) g1_f2 ?_)
            refine xl_op (P := Try.prog) (some 74) rfl rfl (ox_move (v := (.slice (some ⟨gm, 0, none⟩) l.length cm)) g7_f2 ?_)
            refine xl_op (P := Try.prog) (some 75) rfl rfl (ox_callE (al := [(.int .i64 p), (.int .i64 bias), (.slice (some ⟨gm, 0, none⟩) l.length cm)]) pf_19 rfl (ret_mono ((by have h := move_calls p bias ys (some ⟨gm, 0, none⟩) cm w4 (Own.front (ms := [edM]) om_f2 hyl); rw [hyl, heq] at h; exact h)) ?_))
            rintro _ w8 ⟨rfl, e6⟩
            have he6 := e6.size
            refine xl_op (P := Try.prog) (some 69) rfl rfl (ox_move (v := (.tuple #[(.int .i64 ((move p bias ((L.map EB.e).map Ed.e3)).1)), (.int .i64 ((move p bias ((L.map EB.e).map Ed.e3)).2))])) rfl ?_)
            refine xl_op (P := Try.prog) (some 76) rfl rfl (ox_extract (vs := #[(.int .i64 ((move p bias ((L.map EB.e).map Ed.e3)).1)), (.int .i64 ((move p bias ((L.map EB.e).map Ed.e3)).2))]) (v := (.int .i64 ((move p bias ((L.map EB.e).map Ed.e3)).1))) rfl rfl ?_)
            refine xl_op (P := Try.prog) (some 77) rfl rfl (ox_extract (vs := #[(.int .i64 ((move p bias ((L.map EB.e).map Ed.e3)).1)), (.int .i64 ((move p bias ((L.map EB.e).map Ed.e3)).2))]) (v := (.int .i64 ((move p bias ((L.map EB.e).map Ed.e3)).2))) rfl rfl ?_)
            refine xl_op (P := Try.prog) (some 14) rfl rfl (ox_assign (v := (.int .i64 ((move p bias ((L.map EB.e).map Ed.e3)).1))) rfl ?_)
            refine xl_op (P := Try.prog) (some 15) rfl rfl (ox_assign (v := (.int .i64 ((move p bias ((L.map EB.e).map Ed.e3)).2))) rfl ?_)
            refine xl_nil ?_
            refine xc_seq ?_
            refine xc_region ?_
            refine xl_op (P := Try.prog) (some 79) rfl rfl (ox_move (v := (.slice (some ⟨g0, o0, none⟩) ps.length c0)) g0_f2 ?_)
            refine xl_op (P := Try.prog) (some 80) rfl rfl (ox_indexAddr (b := g0) (o := o0) (i := 0) tE_42 rfl rfl (by omega) (by omega) ?_)
            refine xl_op (P := Try.prog) (some 81) rfl rfl (ox_load (v := (.int .i64 p)) tA_3 rfl (by simpa using Ext.cell hcp (Ext.trans e_f2 e6)) ?_)
            refine xl_op (P := Try.prog) (some 82) rfl rfl (ox_move (v := (.int .i64 bias)) g1_f2 ?_)
            refine xl_op (P := Try.prog) (some 83) rfl rfl (ox_move (v := (.slice A1 l.length c1)) g2_f2 ?_)
            refine xl_op (P := Try.prog) (some 84) rfl rfl (ox_callE (al := [(.int .i64 p), (.int .i64 bias), (.slice A1 l.length c1)]) pf_20 rfl (ret_mono ((by have h := refMove_calls p bias (L.map EB.e) A1 c1 w8 (RowA.ext row_f2 e6); rw [List.length_map, hL] at h; exact h)) ?_))
            rintro _ w9 ⟨rfl, e7⟩
            have he7 := e7.size
            refine xl_op (P := Try.prog) (some 78) rfl rfl (ox_move (v := (.tuple #[(.int .i64 ((move p bias ((L.map EB.e).map Ed.e3)).1)), (.int .i64 ((move p bias ((L.map EB.e).map Ed.e3)).2))])) rfl ?_)
            refine xl_op (P := Try.prog) (some 85) rfl rfl (ox_extract (vs := #[(.int .i64 ((move p bias ((L.map EB.e).map Ed.e3)).1)), (.int .i64 ((move p bias ((L.map EB.e).map Ed.e3)).2))]) (v := (.int .i64 ((move p bias ((L.map EB.e).map Ed.e3)).1))) rfl rfl ?_)
            refine xl_op (P := Try.prog) (some 86) rfl rfl (ox_extract (vs := #[(.int .i64 ((move p bias ((L.map EB.e).map Ed.e3)).1)), (.int .i64 ((move p bias ((L.map EB.e).map Ed.e3)).2))]) (v := (.int .i64 ((move p bias ((L.map EB.e).map Ed.e3)).2))) rfl rfl ?_)
            refine xl_op (P := Try.prog) (some 16) rfl rfl (ox_assign (v := (.int .i64 ((move p bias ((L.map EB.e).map Ed.e3)).1))) rfl ?_)
            refine xl_op (P := Try.prog) (some 17) rfl rfl (ox_assign (v := (.int .i64 ((move p bias ((L.map EB.e).map Ed.e3)).2))) rfl ?_)
            refine xl_nil ?_
            refine xc_seq ?_
            refine xc_region ?_
            refine xl_op (P := Try.prog) (some 87) rfl rfl (ox_move (v := (.int .i64 ((move p bias ((L.map EB.e).map Ed.e3)).1))) rfl ?_)
            refine xl_op (P := Try.prog) (some 88) rfl rfl (ox_move (v := (.int .i64 ((move p bias ((L.map EB.e).map Ed.e3)).1))) rfl ?_)
            refine xl_op (P := Try.prog) (some 89) rfl rfl (ox_neq (k := .i64) (a := ((move p bias ((L.map EB.e).map Ed.e3)).1)) (b := ((move p bias ((L.map EB.e).map Ed.e3)).1)) rfl rfl ?_)
            refine xl_op (P := Try.prog) (some 90) rfl rfl (ox_move (v := (.bool (decide (((move p bias ((L.map EB.e).map Ed.e3)).1 : Int) ≠ ((move p bias ((L.map EB.e).map Ed.e3)).1))))) rfl ?_)
            refine xl_opg (P := Try.prog) (some 91) (j := 3) (b := false) rfl rfl (congrArg some (by simp : decide (((move p bias ((L.map EB.e).map Ed.e3)).1 : Int) ≠ ((move p bias ((L.map EB.e).map Ed.e3)).1)) = false)) (ox_move (v := (.int .i64 ((move p bias ((L.map EB.e).map Ed.e3)).2))) rfl ?_)
            refine xl_opg (P := Try.prog) (some 92) (j := 3) (b := false) rfl rfl (congrArg some (by simp : decide (((move p bias ((L.map EB.e).map Ed.e3)).1 : Int) ≠ ((move p bias ((L.map EB.e).map Ed.e3)).1)) = false)) (ox_move (v := (.int .i64 ((move p bias ((L.map EB.e).map Ed.e3)).2))) rfl ?_)
            refine xl_opg (P := Try.prog) (some 93) (j := 3) (b := false) rfl rfl (congrArg some (by simp : decide (((move p bias ((L.map EB.e).map Ed.e3)).1 : Int) ≠ ((move p bias ((L.map EB.e).map Ed.e3)).1)) = false)) (ox_neq (k := .i64) (a := ((move p bias ((L.map EB.e).map Ed.e3)).2)) (b := ((move p bias ((L.map EB.e).map Ed.e3)).2)) rfl rfl ?_)
            refine xl_op (P := Try.prog) (some 94) rfl rfl (ox_pick_f (v := (.bool (decide (((move p bias ((L.map EB.e).map Ed.e3)).2 : Int) ≠ ((move p bias ((L.map EB.e).map Ed.e3)).2))))) (congrArg Value.bool (by simp : decide (((move p bias ((L.map EB.e).map Ed.e3)).1 : Int) ≠ ((move p bias ((L.map EB.e).map Ed.e3)).1)) = false)) rfl ?_)
            refine xl_nil ?_
            refine xc_cond_f (congrArg Value.bool (by simp : decide (((move p bias ((L.map EB.e).map Ed.e3)).2 : Int) ≠ ((move p bias ((L.map EB.e).map Ed.e3)).2)) = false)) ?_
            refine xc_skip ?_
            refine xc_seq ?_
            refine xc_region ?_
            refine xl_op (P := Try.prog) (some 95) rfl rfl (ox_move (v := (.slice A1 l.length c1)) g2_f2 ?_)
            refine xl_op (P := Try.prog) (some 96) rfl rfl (ox_callE (al := [(.slice A1 l.length c1)]) pf_22 rfl (ret_mono ((by have h := turned_calls (L.map EB.e) A1 c1 w9 (RowA.ext (RowA.ext row_f2 e6) e7) (by rw [List.length_map, hL]; omega); rw [List.length_map, hL] at h; exact h)) ?_))
            rintro _ w10 ⟨A2, cc2, rfl, hT, hTl, e8⟩
            have he8 := e8.size
            rw [← List.map_reverse] at hT
            have hrow2 : RowA w10 A2 (edC (L.reverse.map EB.e)) := Own.rowO hT
            have hgm9 : gm < w9.heap.size := ((om_f2.ext e6).ext e7).lt gm rfl
            refine xl_op (P := Try.prog) (some 2) rfl rfl (ox_assign (v := (.slice A2 l.length cc2)) rfl ?_)
            refine xl_nil ?_
            refine xc_region ?_
            refine xl_op (P := Try.prog) (some 97) rfl rfl (ox_move (v := (.slice (some ⟨gm, 0, none⟩) l.length cm)) g7_f2 ?_)
            refine xl_op (P := Try.prog) (some 98) rfl rfl (ox_move (v := (.slice A2 l.length cc2)) rfl ?_)
            refine xl_op (P := Try.prog) (some 99) rfl rfl (ox_callE (al := [(.slice A2 l.length cc2)]) pf_18 rfl (ret_mono ((by have h := edits_calls L.reverse A2 cc2 w10 hrow2 (by rw [List.length_reverse, hL]; exact hn) (fun x hx => hb x (hLm x (by simpa using hx))) (fun x hx => (hr x (hLm x (by simpa using hx))).ext (Ext.trans (Ext.trans (Ext.trans e_f2 e6) e7) e8)); rw [List.length_reverse, hL] at h; exact h)) ?_))
            rintro _ w11 ⟨g2, c2, ys2, rfl, hc2, hO2, hg2, hC2, e9⟩
            have he9 := e9.size
            have hy2 : ys2.length = l.length := by rw [← hC2.1, List.length_reverse, hL]
            have q2 := ((((om_f2.ext e6).ext e7).ext e8).ext e9)
            refine xl_op (P := Try.prog) (some 100) rfl rfl (ox_copyN (g := gm) (N := l.length + 1) (cap := cm) (xs := edC (ys ++ [edM])) (cs := edC ys2) rfl tE_43 rfl rfl q2 (by omega) (by rw [edC_len, hy2]) (Own.front (ms := [edM]) hO2 hy2).2 (edC_one _) ?_)
            intro w12 e10 z1 hO1
            rw [setL_edC ys ys2 [edM] (by omega)] at hO1
            replace e10 : Chg1 gm w11 w12 := e10
            refine xl_nil ?_
            refine xc_region ?_
            refine xl_op (P := Try.prog) (some 24) rfl rfl (ox_move (v := (.int .i64 ((r : Nat)))) g8_f2 ?_)
            refine xl_op (P := Try.prog) (some 25) rfl rfl (ox_add64 (a := ((r : Nat))) (b := 1) rfl rfl (by omega) ?_)
            refine xl_op (P := Try.prog) (some 8) rfl rfl (ox_assign (v := (.int .i64 ((r : Nat) + 1))) rfl ?_)
            refine xl_nil ?_
            have hq_om := hO1
            have q3 := (hC2.keep e10 (fun _g _cur _hb _hl _hh => (q2).ne_blk _hb (by decide) _ rfl _hh.symm))
            have hq_cp2 := q3
            have q4 := (RowA.keep (RowA.ext hrow2 e9) e10 (fun a ha hh => by have h1 := hTl a.block (by subst ha; exact ownO_block hT); have h2 : a.block = gm := hh; omega))
            have hq_row := q4
            have hsz0 := e6.size
            have hsz1 := e7.size
            have hsz2 := e8.size
            have hsz3 := e9.size
            have hsz4 := e10.size
            exact ⟨rfl, 2 - (r + 1), by omega, r + 1, L.reverse, ys2, w10.heap.size, A2, cc2, by omega, by omega, by rw [List.length_reverse, hL], fun x hx => hLm x (by simpa using hx), g0_f2, g1_f2, rfl, g7_f2, (by first | exact rfl | exact (congrArg (Value.int .i64) (by omega))), hq_om, hq_cp2, hq_row, (Ext.chg1 (Ext.trans (Ext.trans (Ext.trans (Ext.trans e_f2 e6) e7) e8) e9) e10 (by omega))⟩
          · skip
            refine xc_skip ?_
            refine xc_seq ?_
            refine xc_region ?_
            refine xl_op (P := Try.prog) (some 95) rfl rfl (ox_move (v := (.slice A1 l.length c1)) g2_f2 ?_)
            refine xl_op (P := Try.prog) (some 96) rfl rfl (ox_callE (al := [(.slice A1 l.length c1)]) pf_22 rfl (ret_mono ((by have h := turned_calls (L.map EB.e) A1 c1 w4 row_f2 (by rw [List.length_map, hL]; omega); rw [List.length_map, hL] at h; exact h)) ?_))
            rintro _ w13 ⟨A2, cc2, rfl, hT, hTl, e11⟩
            have he11 := e11.size
            rw [← List.map_reverse] at hT
            have hrow2 : RowA w13 A2 (edC (L.reverse.map EB.e)) := Own.rowO hT
            have hgm9 : gm < w4.heap.size := om_f2.lt gm rfl
            refine xl_op (P := Try.prog) (some 2) rfl rfl (ox_assign (v := (.slice A2 l.length cc2)) rfl ?_)
            refine xl_nil ?_
            refine xc_region ?_
            refine xl_op (P := Try.prog) (some 97) rfl rfl (ox_move (v := (.slice (some ⟨gm, 0, none⟩) l.length cm)) g7_f2 ?_)
            refine xl_op (P := Try.prog) (some 98) rfl rfl (ox_move (v := (.slice A2 l.length cc2)) rfl ?_)
            refine xl_op (P := Try.prog) (some 99) rfl rfl (ox_callE (al := [(.slice A2 l.length cc2)]) pf_18 rfl (ret_mono ((by have h := edits_calls L.reverse A2 cc2 w13 hrow2 (by rw [List.length_reverse, hL]; exact hn) (fun x hx => hb x (hLm x (by simpa using hx))) (fun x hx => (hr x (hLm x (by simpa using hx))).ext (Ext.trans e_f2 e11)); rw [List.length_reverse, hL] at h; exact h)) ?_))
            rintro _ w14 ⟨g2, c2, ys2, rfl, hc2, hO2, hg2, hC2, e12⟩
            have he12 := e12.size
            have hy2 : ys2.length = l.length := by rw [← hC2.1, List.length_reverse, hL]
            refine xl_op (P := Try.prog) (some 100) rfl rfl (ox_copyN (g := gm) (N := l.length + 1) (cap := cm) (xs := edC (ys ++ [edM])) (cs := edC ys2) rfl tE_43 rfl rfl ((om_f2.ext e11).ext e12) (by omega) (by rw [edC_len, hy2]) (Own.front (ms := [edM]) hO2 hy2).2 (edC_one _) ?_)
            intro w15 e13 z2 hO2
            rw [setL_edC ys ys2 [edM] (by omega)] at hO2
            replace e13 : Chg1 gm w14 w15 := e13
            refine xl_nil ?_
            refine xc_region ?_
            refine xl_op (P := Try.prog) (some 24) rfl rfl (ox_move (v := (.int .i64 ((r : Nat)))) g8_f2 ?_)
            refine xl_op (P := Try.prog) (some 25) rfl rfl (ox_add64 (a := ((r : Nat))) (b := 1) rfl rfl (by omega) ?_)
            refine xl_op (P := Try.prog) (some 8) rfl rfl (ox_assign (v := (.int .i64 ((r : Nat) + 1))) rfl ?_)
            refine xl_nil ?_
            have hq_om := hO2
            have q5 := (hC2.keep e13 (fun _g _cur _hb _hl _hh => (((om_f2.ext e11).ext e12)).ne_blk _hb (by decide) _ rfl _hh.symm))
            have hq_cp2 := q5
            have q6 := (RowA.keep (RowA.ext hrow2 e12) e13 (fun a ha hh => by have h1 := hTl a.block (by subst ha; exact ownO_block hT); have h2 : a.block = gm := hh; omega))
            have hq_row := q6
            have hsz0 := e11.size
            have hsz1 := e12.size
            have hsz2 := e13.size
            exact ⟨rfl, 2 - (r + 1), by omega, r + 1, L.reverse, ys2, w13.heap.size, A2, cc2, by omega, by omega, by rw [List.length_reverse, hL], fun x hx => hLm x (by simpa using hx), g0_f2, g1_f2, rfl, g7_f2, (by first | exact rfl | exact (congrArg (Value.int .i64) (by omega))), hq_om, hq_cp2, hq_row, (Ext.chg1 (Ext.trans (Ext.trans e_f2 e11) e12) e13 (by omega))⟩
    · skip
      refine xc_exit ?_
      refine xc_seq ?_
      refine xc_region ?_
      refine xl_op (P := Try.prog) (some 6) rfl rfl (ox_assign (v := (.bool true)) rfl ?_)
      refine xl_nil ?_
      refine xc_ret ?_
      change leaves _ _ _ _ _ _ _
      refine leaves_nil (n := 101) (rs := [.tmp 6]) (vs := [(.bool true)]) rfl ⟨⟨by decide, rfl⟩, trivial⟩ ?_
      exact ⟨rfl, e_f1⟩

end Go.Proofs.Ythhbnodnpajljaa
