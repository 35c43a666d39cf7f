/-
  The law DeltaApplies, walked. No conditions.
-/
import Derived.Test.YthhbnodnpajljaaVxi
import Derived.Test.YthhbnodnpajljaaRows
import Derived.Test.YthhbnodnpajljaaRaq
import Derived.Test.YthhbnodnpajljaaHc
import Derived.Test.YthhbnodnpajljaaGa
import Derived.Test.YthhbnodnpajljaaDs
set_option linter.unusedVariables false
set_option linter.unusedSimpArgs false
set_option maxRecDepth 100000
set_option maxHeartbeats 40000000
namespace Go.Proofs.Ythhbnodnpajljaa
open Go Go.RowKit Go.Vx

theorem ne_two {x y b c d : Bool} (h : x = b) (h' : y = c) (r : (b != c) = d) : (x != y) = d := by rw [h, h']; exact r
theorem gok_ids {ts us : List T} (h : GOk ts us) : ts.map T.id = us.map T.id := by
  have h1 : (ts.map skel).map T.id = (us.map skel).map T.id := by rw [h.sk]
  rw [List.map_map, List.map_map] at h1
  have h2 : T.id ∘ skel = T.id := funext fun t => skel_id t
  rwa [h2] at h1
/-- copy onto a row that is owned, of as many elements; the source may be nil -/
theorem ox_copyR {P : Program} {ρ : Operand → Value} {w : World} {K : Value → World → Prop} {dst : Option Tmp} {ty : TypeId} {pos : String} {af : Array Edge} {gd : Option (Nat × Bool)} {c : Call} {x y : Operand} {t e : TypeId} {sz by_ : Nat} {z : Value} {g n N cp cap cp' : Nat} {A : Option Addr} {xs cs : List Value}
    (hc : c = { callee := .builtin .copy, args := #[x, y], argTypes := #[t, t] }) (ht : sliceT P t = some (e, sz, by_, z)) (hx : ρ x = .slice (some ⟨g, 0, none⟩) n cp) (hy : ρ y = .slice A n cp') (hA : RowA w A cs) (ho : Vx.Own w e sz (.slice (some ⟨g, 0, none⟩) N cap) N xs) (hN : n ≤ N)
    (hl : cs.length = n * sz) (h1 : cs.all Value.oneCell' = true) (h : ∀ w', Chg1 g w w' → w'.heap.size = w.heap.size → Vx.Own w' e sz (.slice (some ⟨g, 0, none⟩) N cap) N (setL xs 0 cs) → K (.int .i64 (n : Nat)) w') :
    OpX P ⟨dst, .call c, ty, pos, af, gd⟩ ρ w K := by
  cases A with
  | some a =>
    by_cases hcs : cs = []
    · subst hcs
      have hn0 : n * sz = 0 := by simpa using hl.symm
      subst hc
      obtain ⟨hu, i, hi, hz, hs, hby⟩ := slice_of ht
      refine ox_val (v := .int .i64 (n : Nat)) (w' := w) ?_ (h w (Chg.refl _ _) rfl (by simpa [setL] using ho))
      simp [execOp, resolve, invoke, builtin, Builtin.copy_, hx, hy, Sem.run_bind, Result.andThen, run_underlying hu, Builtin.lenOf, Builtin.firstCells, sizeOf, typeInfo, hi, hs, loadCells, hn0, loadCellsFrom, storeCells, goInt]
    · have ha := hA.1 hcs
      rw [ha] at hy
      exact ox_copyN hc ht hx hy ho hN hl hA.2 h1 h
  | none =>
    have hn : cs = [] := hA
    subst hn
    subst hc
    obtain ⟨hu, i, hi, hz, hs, hby⟩ := slice_of ht
    refine ox_val (v := .int .i64 (n : Nat)) (w' := w) ?_ (h w (Chg.refl _ _) rfl (by simpa [setL] using ho))
    simp [execOp, resolve, invoke, builtin, Builtin.copy_, hx, hy, Sem.run_bind, Result.andThen, run_underlying hu, Builtin.lenOf, Builtin.firstCells, sizeOf, typeInfo, hi, hs, storeCells, goInt]
theorem pf_13 : plainF Try.prog 13 = true := by kernel_rfl
theorem pf_23 : plainF Try.prog 23 = true := by kernel_rfl
theorem pf_35 : plainF Try.prog 35 = true := by kernel_rfl
theorem pf_36 : plainF Try.prog 36 = true := by kernel_rfl
theorem tU_38 : Try.prog.underlying 38 = some (.pointer 86) := by kernel_rfl

theorem deltaApplies_calls (l : List PB) (A0 : Option Addr) (c0 : Nat) (at9 : Int) (lo : List OpD) (A2 : Option Addr) (c2 : Nat) (rl9 : List Int) (A3 : Option Addr) (c3 : Nat) (w : World) (hA0 : RowA w A0 (pbC l)) (hn0 : l.length ≤ 4611686018427387904) (hok : ∀ x ∈ l, x.ok w) (hA2 : RowA w A2 (opC lo)) (hn2 : lo.length ≤ 4611686018427387904) (hQ2 : ∀ x ∈ lo, opR x) (hA3 : RowA w A3 (rl9.map fun i => .int .i64 i)) (hn3 : rl9.length ≤ 4611686018427387904) :
    Calls Try.prog 11 #[(.slice A0 l.length c0), (.int .i64 at9), (.slice A2 lo.length c2), (.slice A3 rl9.length c3)] w (Ret (fun v w' => v = .bool true ∧ Ext w w')) := by
  refine calls_xc (n := 224) (f := fun s_ => [(.slice A0 l.length c0), (.int .i64 at9), (.slice A2 lo.length c2), (.slice A3 rl9.length c3)].getD s_ undef) Try.func11 rfl rfl (by simp) (fun s_ => by simp) ?_
  refine xc_seq ?_
  refine xc_region ?_
  refine xl_op (P := Try.prog) (some 8) rfl rfl (ox_assign (v := (.bool false)) rfl ?_)
  refine xl_nil ?_
  refine xc_seq ?_
  refine xc_region ?_
  refine xl_op (P := Try.prog) (some 26) rfl rfl (ox_move (v := (.slice A0 l.length c0)) rfl ?_)
  refine xl_op (P := Try.prog) (some 27) rfl rfl (ox_callE (al := [(.slice A0 l.length c0)]) pf_13 rfl (ret_mono (grove_calls l A0 c0 w (RowA.ext hA0 (Chg.refl _ _)) (by omega) (fun x hx => (hok x hx).ext (Chg.refl _ _))) ?_))
  rintro _ w1 ⟨bg, s, ts, us, An, Ap, cn, cp, rfl, hGM, hlbg, hls, e1⟩
  have he1 := e1.size
  have hul := hGM.ok.len
  have hfew := hGM.few
  have hEg := e1
  have hzg := hEg.size
  have hlsg := hGM.st.lt
  refine xl_op (P := Try.prog) (some 25) rfl rfl (ox_move (v := (.tuple #[(.pointer (some ⟨bg, 0, none⟩)), (.bool true)])) rfl ?_)
  refine xl_op (P := Try.prog) (some 28) rfl rfl (ox_extract (vs := #[(.pointer (some ⟨bg, 0, none⟩)), (.bool true)]) (v := (.pointer (some ⟨bg, 0, none⟩))) rfl rfl ?_)
  refine xl_op (P := Try.prog) (some 29) rfl rfl (ox_extract (vs := #[(.pointer (some ⟨bg, 0, none⟩)), (.bool true)]) (v := (.bool true)) rfl rfl ?_)
  refine xl_op (P := Try.prog) (some 9) rfl rfl (ox_assign (v := (.pointer (some ⟨bg, 0, none⟩))) rfl ?_)
  refine xl_op (P := Try.prog) (some 10) rfl rfl (ox_assign (v := (.bool true)) rfl ?_)
  refine xl_nil ?_
  refine xc_seq ?_
  refine xc_seq ?_
  refine xc_region ?_
  refine xl_op (P := Try.prog) (some 30) rfl rfl (ox_move (v := (.bool true)) rfl ?_)
  refine xl_op (P := Try.prog) (some 31) rfl rfl (ox_not (b := true) rfl ?_)
  refine xl_op (P := Try.prog) (some 32) rfl rfl (ox_move (v := (.bool false)) rfl ?_)
  refine xl_opg (P := Try.prog) (some 33) (j := 2) (b := false) rfl rfl rfl (ox_move (v := (.pointer (some ⟨bg, 0, none⟩))) rfl ?_)
  refine xl_opg (P := Try.prog) (some 34) (j := 2) (b := false) rfl rfl rfl (ox_nilCheck (p := ⟨bg, 0, none⟩) rfl ?_)
  refine xl_opg (P := Try.prog) (some 35) (j := 2) (b := false) rfl rfl rfl (ox_fieldAddr (b := bg) (o := 0) tF_31_1 rfl ?_)
  refine xl_opg (P := Try.prog) (some 36) (j := 2) (b := false) rfl rfl rfl (ox_load (v := (.slice An ts.length cn)) tA_28 rfl (hGM.g.cell rfl) ?_)
  refine xl_opg (P := Try.prog) (some 37) (j := 2) (b := false) rfl rfl rfl (ox_len (A := An) (n := ts.length) (cp := cn) rfl tU_28 rfl ?_)
  refine xl_opg (P := Try.prog) (some 38) (j := 2) (b := false) rfl rfl rfl (ox_eql (k := .i64) (a := (((ts.length : Nat) : Int))) (b := 0) rfl rfl ?_)
  refine xl_op (P := Try.prog) (some 39) rfl rfl (ox_pick_f (v := (.bool (decide ((((ts.length : Nat) : Int) : Int) = 0)))) rfl rfl ?_)
  refine xl_nil ?_
  refine xc_if (p := (((ts.length : Nat) : Int) : Int) = 0) rfl (fun h1 => ?_) (fun h1 => ?_)
  · skip
    refine xc_seq ?_
    refine xc_region ?_
    refine xl_op (P := Try.prog) (some 40) rfl rfl (ox_move (v := (.bool true)) rfl ?_)
    refine xl_op (P := Try.prog) (some 8) rfl rfl (ox_assign (v := (.bool true)) rfl ?_)
    refine xl_nil ?_
    refine xc_ret ?_
    change leaves _ _ _ _ _ _ _
    refine leaves_nil (n := 224) (rs := [.tmp 8]) (vs := [(.bool true)]) rfl ⟨⟨by decide, rfl⟩, trivial⟩ ?_
    exact ⟨rfl, e1⟩
  · skip
    have htp : 0 < ts.length := by omega
    refine xc_skip ?_
    refine xc_seq ?_
    refine xc_region ?_
    refine xl_op (P := Try.prog) (some 11) rfl rfl (ox_assign (v := (.slice none 0 0)) rfl ?_)
    refine xl_nil ?_
    refine xc_seq ?_
    refine xc_seq ?_
    refine xc_region ?_
    refine xl_op (P := Try.prog) (some 12) rfl rfl (ox_assign (v := (.int .i64 0)) rfl ?_)
    refine xl_nil ?_
    refine xc_block ?_
    obtain ⟨gn, gp, t0, u0, rfl, rfl, _⟩ := hGM.at (i := 0) (by omega)
    have hEx1 := e1
    have hEx1z := hEx1.size
    refine xc_loopN (fun m f W => ∃ (i6 : Nat) (Ai : Option Addr) (ci : Nat), m = us.length - i6 ∧ i6 ≤ us.length ∧ f 1 = (.int .i64 at9) ∧ f 2 = (.slice A2 lo.length c2) ∧ f 3 = (.slice A3 rl9.length c3) ∧ f 9 = (.pointer (some ⟨bg, 0, none⟩)) ∧ f 10 = (.bool true) ∧ f 11 = (.slice Ai i6 ci) ∧ f 12 = (.int .i64 ((i6 : Nat))) ∧ Vx.Own W 3 1 (.slice Ai i6 ci) i6 ((us.take i6).map fun u => .int .i64 u.id) ∧ (∀ k, ((.slice Ai i6 ci) : Value).ownBlock = some k → w1.heap.size ≤ k) ∧ Ext w1 W) (us.length) ?_ ?_
    · exact ⟨0, none, 0, by omega, by omega, rfl, rfl, rfl, rfl, rfl, rfl, (by first | exact rfl | exact (congrArg (Value.int .i64) (by omega))), (Vx.Own.nil _ _ _), (by simp [Value.ownBlock]), (Chg.refl _ _)⟩
    · rintro m f1 w2 ⟨i6, Ai, ci, hm, hi6, g1_f1, g2_f1, g3_f1, g9_f1, g10_f1, g11_f1, g12_f1, ids_f1, li_f1, x_f1⟩
      have hzX := x_f1.size
      refine xc_seq ?_
      refine xc_seq ?_
      refine xc_region ?_
      refine xl_op (P := Try.prog) (some 41) rfl rfl (ox_move (v := (.int .i64 ((i6 : Nat)))) g12_f1 ?_)
      refine xl_op (P := Try.prog) (some 42) rfl rfl (ox_move (v := (.pointer (some ⟨bg, 0, none⟩))) g9_f1 ?_)
      refine xl_op (P := Try.prog) (some 43) rfl rfl (ox_nilCheck (p := ⟨bg, 0, none⟩) rfl ?_)
      refine xl_op (P := Try.prog) (some 44) rfl rfl (ox_fieldAddr (b := bg) (o := 0) tF_31_2 rfl ?_)
      refine xl_op (P := Try.prog) (some 45) rfl rfl (ox_load (v := (.slice (some ⟨gp, 0, none⟩) us.length cp)) tA_29 rfl ((hGM.g.ext x_f1).cell rfl) ?_)
      refine xl_op (P := Try.prog) (some 46) rfl rfl (ox_len (A := (some ⟨gp, 0, none⟩)) (n := us.length) (cp := cp) rfl tU_29 rfl ?_)
      refine xl_op (P := Try.prog) (some 47) rfl rfl (ox_lss (k := .i64) (a := ((i6 : Nat))) (b := (((us.length : Nat) : Int))) rfl rfl ?_)
      refine xl_nil ?_
      refine xc_if (p := ((i6 : Nat) : Int) < (((us.length : Nat) : Int))) rfl (fun h2 => ?_) (fun h2 => ?_)
      · skip
        have hil : i6 < us.length := by omega
        obtain ⟨_, _, t6, u6, e8, e9, ht6, hu6, _, hc6, _, hR6, _⟩ := hGM.at (i := i6) (by omega)
        cases e8; cases e9
        refine xc_skip ?_
        refine xc_seq ?_
        refine xc_block ?_
        refine xc_region ?_
        refine xl_op (P := Try.prog) (some 50) rfl rfl (ox_move (v := (.slice Ai i6 ci)) g11_f1 ?_)
        refine xl_op (P := Try.prog) (some 51) rfl rfl (ox_move (v := (.pointer (some ⟨bg, 0, none⟩))) g9_f1 ?_)
        refine xl_op (P := Try.prog) (some 52) rfl rfl (ox_nilCheck (p := ⟨bg, 0, none⟩) rfl ?_)
        refine xl_op (P := Try.prog) (some 53) rfl rfl (ox_fieldAddr (b := bg) (o := 0) tF_31_2 rfl ?_)
        refine xl_op (P := Try.prog) (some 54) rfl rfl (ox_load (v := (.slice (some ⟨gp, 0, none⟩) us.length cp)) tA_29 rfl ((hGM.g.ext x_f1).cell rfl) ?_)
        refine xl_op (P := Try.prog) (some 55) rfl rfl (ox_move (v := (.int .i64 ((i6 : Nat)))) g12_f1 ?_)
        refine xl_op (P := Try.prog) (some 56) rfl rfl (ox_indexAddr (b := gp) (o := 0) (i := ((i6 : Nat))) tE_29 rfl rfl (by omega) (by omega) ?_)
        refine xl_op (P := Try.prog) (some 57) rfl rfl (ox_load (v := (.pointer (some ⟨u6.b, 0, none⟩))) tA_38 rfl (by simpa [T.ptr] using Ext.cell hc6 x_f1) ?_)
        refine xl_op (P := Try.prog) (some 58) rfl rfl (ox_nilCheck (p := ⟨u6.b, 0, none⟩) rfl ?_)
        refine xl_op (P := Try.prog) (some 59) rfl rfl (ox_fieldAddr (b := u6.b) (o := 0) tF_86_0 rfl ?_)
        refine xl_op (P := Try.prog) (some 60) rfl rfl (ox_load (v := (.int .i64 u6.id)) tA_3 rfl ((hR6.blk.ext x_f1).cell rfl) ?_)
        refine xl_op (P := Try.prog) (some 61) rfl rfl (ox_mkSlice (ps := [(0, (.int .i64 u6.id))]) (zs := #[(.int .i64 0)]) (cs := #[(.int .i64 u6.id)]) tE_42 rfl (by decide) (by kernel_rfl) (by kernel_rfl) ?_)
        intro w3 e2 z1 b1
        replace b1 : Blk w3 w2.heap.size #[(.int .i64 u6.id)] 3 := b1
        refine xl_op (P := Try.prog) (some 62) rfl rfl (ox_append (n := i6) (g := w2.heap.size) (o := 0) (m := 1) (xs := (((us.take i6).map fun u => .int .i64 u.id))) (news := ([(.int .i64 u6.id)])) rfl tE_42 rfl (by decide) (v := (.slice Ai i6 ci)) rfl rfl (ids_f1.ext e2) rfl b1.all rfl (by omega) (by omega) ?_)
        intro v1 w4 o1 e3 at1 nil1
        have he3 := e3.size
        obtain ⟨A1, c1, rfl, hc1⟩ := o1.shape
        have low1 : ∀ _k, (Value.slice A1 (i6 + 1) c1).ownBlock = some _k → w1.heap.size ≤ _k := fun _k _h => by rcases at1 with _e | _e <;> rw [_e] at _h; exact li_f1 _k _h; exact (by cases _h; omega)
        refine xl_op (P := Try.prog) (some 11) rfl rfl (ox_assign (v := (.slice A1 (i6 + 1) c1)) rfl ?_)
        refine xl_nil ?_
        refine xc_region ?_
        refine xl_op (P := Try.prog) (some 48) rfl rfl (ox_move (v := (.int .i64 ((i6 : Nat)))) g12_f1 ?_)
        refine xl_op (P := Try.prog) (some 49) rfl rfl (ox_add64 (a := ((i6 : Nat))) (b := 1) rfl rfl (by omega) ?_)
        refine xl_op (P := Try.prog) (some 12) rfl rfl (ox_assign (v := (.int .i64 ((i6 : Nat) + 1))) rfl ?_)
        refine xl_nil ?_
        have ho9 := o1
        have hsz0 := e2.size
        have hsz1 := e3.size
        have htk : us.take (i6 + 1) = us.take i6 ++ [u6] := take_succ' hu6
        exact ⟨rfl, us.length - (i6 + 1), by omega, i6 + 1, A1, c1, by omega, by omega, g1_f1, g2_f1, g3_f1, g9_f1, g10_f1, rfl, (by first | exact rfl | exact (congrArg (Value.int .i64) (by omega))), (by rw [htk, List.map_append]; exact ho9), (fun k hk => low1 k (ownBlock_len hk)), (Chg.trans (Ext.trans x_f1 e2) e3 (fun b hb hl => absurd hl (by have := li_f1 b hb; omega)))⟩
      · skip
        refine xc_exit ?_
        refine xc_seq ?_
        refine xc_region ?_
        refine xl_op (P := Try.prog) (some 13) rfl rfl (ox_assign (v := (.slice none 0 0)) rfl ?_)
        refine xl_nil ?_
        refine xc_seq ?_
        refine xc_seq ?_
        refine xc_region ?_
        refine xl_op (P := Try.prog) (some 14) rfl rfl (ox_assign (v := (.int .i64 0)) rfl ?_)
        refine xl_nil ?_
        refine xc_block ?_
        have hi6e : i6 = us.length := by omega
        have hids := ids_f1
        have hidl := li_f1
        rw [hi6e, List.take_length] at hids
        have hI : us.length = i6 := hi6e.symm
        have hEx2 := (Ext.trans hEx1 x_f1)
        have hEx2z := hEx2.size
        have hEx3 := x_f1
        have hEx3z := hEx3.size
        refine xc_loopN (fun m f W => ∃ (i11 : Nat) (M : List OpD) (Am : Option Addr) (cm : Nat), m = lo.length - i11 ∧ i11 ≤ lo.length ∧ M.length = i11 ∧ i11 ≤ 300 ∧ (∀ o ∈ M, opR o) ∧ f 1 = (.int .i64 at9) ∧ f 2 = (.slice A2 lo.length c2) ∧ f 3 = (.slice A3 rl9.length c3) ∧ f 9 = (.pointer (some ⟨bg, 0, none⟩)) ∧ f 10 = (.bool true) ∧ f 11 = (.slice Ai i6 ci) ∧ f 13 = (.slice Am M.length cm) ∧ f 14 = (.int .i64 ((i11 : Nat))) ∧ Vx.Own W 88 9 (.slice Am M.length cm) M.length (opC M) ∧ (∀ k, ((.slice Am M.length cm) : Value).ownBlock = some k → w2.heap.size ≤ k) ∧ Ext w2 W) (lo.length) ?_ ?_
        · exact ⟨0, [], none, 0, by omega, by omega, rfl, by omega, by simp, g1_f1, g2_f1, g3_f1, g9_f1, g10_f1, g11_f1, rfl, (by first | exact rfl | exact (congrArg (Value.int .i64) (by omega))), (Vx.Own.nil _ _ _), (by simp [Value.ownBlock]), (Chg.refl _ _)⟩
        · rintro m f2 w5 ⟨i11, M, Am, cm, hm, hi11, hMl, hM3, hM, g1_f2, g2_f2, g3_f2, g9_f2, g10_f2, g11_f2, g13_f2, g14_f2, mine_f2, lm_f2, x_f2⟩
          have hzX := x_f2.size
          refine xc_seq ?_
          refine xc_seq ?_
          refine xc_region ?_
          refine xl_op (P := Try.prog) (some 63) rfl rfl (ox_move (v := (.int .i64 ((i11 : Nat)))) g14_f2 ?_)
          refine xl_op (P := Try.prog) (some 64) rfl rfl (ox_move (v := (.slice A2 lo.length c2)) g2_f2 ?_)
          refine xl_op (P := Try.prog) (some 65) rfl rfl (ox_len (A := A2) (n := lo.length) (cp := c2) rfl tU_54 rfl ?_)
          refine xl_op (P := Try.prog) (some 66) rfl rfl (ox_lss (k := .i64) (a := ((i11 : Nat))) (b := (((lo.length : Nat) : Int))) rfl rfl ?_)
          refine xl_op (P := Try.prog) (some 67) rfl rfl (ox_move (v := (.bool (decide (((i11 : Nat) : Int) < (((lo.length : Nat) : Int)))))) rfl ?_)
          by_cases h3 : ((i11 : Nat) : Int) < (((lo.length : Nat) : Int))
          · skip
            refine xl_opg (P := Try.prog) (some 68) (j := 4) (b := true) rfl rfl (congrArg some (decide_eq_true h3)) (ox_move (v := (.int .i64 ((i11 : Nat)))) g14_f2 ?_)
            refine xl_opg (P := Try.prog) (some 69) (j := 4) (b := true) rfl rfl (congrArg some (decide_eq_true h3)) (ox_lss (k := .i64) (a := ((i11 : Nat))) (b := 300) rfl rfl ?_)
            refine xl_op (P := Try.prog) (some 70) rfl rfl (ox_pick_t (v := (.bool (decide (((i11 : Nat) : Int) < 300)))) (congrArg Value.bool (decide_eq_true h3)) rfl ?_)
            refine xl_nil ?_
            refine xc_if (p := ((i11 : Nat) : Int) < 300) rfl (fun h4 => ?_) (fun h4 => ?_)
            · skip
              have hil : i11 < lo.length := by omega
              obtain ⟨x, hx⟩ := get_ex (l := lo) (i := i11) hil
              have hxr := hQ2 x (List.mem_of_getElem? hx)
              obtain ⟨g2, o2, rfl⟩ := hA2.ex (by intro hh; cases lo with | nil => simp at hx | cons q l => simp [opC, OpD.cs] at hh)
              have hcx : CellsL w g2 (o2 + i11 * 9) x.cs := cellsL_flat OpD.cs 9 (fun _ => rfl) hA2.cells hx
              refine xc_skip ?_
              refine xc_seq ?_
              refine xc_block ?_
              refine xc_seq ?_
              refine xc_region ?_
              refine xl_op (P := Try.prog) (some 73) rfl rfl (ox_move (v := (.slice (some ⟨g2, o2, none⟩) lo.length c2)) g2_f2 ?_)
              refine xl_op (P := Try.prog) (some 74) rfl rfl (ox_move (v := (.int .i64 ((i11 : Nat)))) g14_f2 ?_)
              refine xl_op (P := Try.prog) (some 75) rfl rfl (ox_indexAddr (b := g2) (o := o2) (i := ((i11 : Nat))) tE_54 rfl rfl (by omega) (by omega) ?_)
              refine xl_op (P := Try.prog) (some 76) rfl rfl (ox_loadN (vs := [(.int .i64 x.d), (.int .i64 x.id), (.int .i64 x.kind), (.int .i64 x.n), (.int .i64 x.kids), (.int .i64 x.lf.kind), (.int .i64 x.lf.skip), (.int .i64 x.lf.len), (.int .i64 x.lf.reach)]) tA_88 tS_88 rfl rfl (CellsL.keep (Ext.trans hEx2 x_f2) not_false hcx) ?_)
              refine xl_op (P := Try.prog) (some 15) rfl rfl (ox_alloc tZ_88 ?_)
              intro w6 e4 z2 b2
              replace b2 : Blk w6 w5.heap.size #[(.int .i64 0), (.int .i64 0), (.int .i64 0), (.int .i64 0), (.int .i64 0), (.int .i64 0), (.int .i64 0), (.int .i64 0), (.int .i64 0)] 88 := b2
              refine xl_op (P := Try.prog) none rfl rfl (ox_store (n := 9) (vs := [(.int .i64 x.d), (.int .i64 x.id), (.int .i64 x.kind), (.int .i64 x.n), (.int .i64 x.kids), (.int .i64 x.lf.kind), (.int .i64 x.lf.skip), (.int .i64 x.lf.len), (.int .i64 x.lf.reach)]) tS_88 rfl (v := (.agg #[(.int .i64 x.d), (.int .i64 x.id), (.int .i64 x.kind), (.int .i64 x.n), (.int .i64 x.kids), (.int .i64 x.lf.kind), (.int .i64 x.lf.skip), (.int .i64 x.lf.len), (.int .i64 x.lf.reach)])) rfl rfl rfl rfl b2 (Nat.le_of_ble_eq_true rfl) ?_)
              intro w7 e5 z3 b3
              replace b3 : Blk w7 w5.heap.size #[(.int .i64 x.d), (.int .i64 x.id), (.int .i64 x.kind), (.int .i64 x.n), (.int .i64 x.kids), (.int .i64 x.lf.kind), (.int .i64 x.lf.skip), (.int .i64 x.lf.len), (.int .i64 x.lf.reach)] 88 := blk_full b3 rfl
              refine xl_nil ?_
              refine xc_seq ?_
              refine xc_seq ?_
              refine xc_region ?_
              refine xl_op (P := Try.prog) (some 77) rfl rfl (ox_move (v := (.slice A3 rl9.length c3)) g3_f2 ?_)
              refine xl_op (P := Try.prog) (some 78) rfl rfl (ox_len (A := A3) (n := rl9.length) (cp := c3) rfl tU_42 rfl ?_)
              refine xl_op (P := Try.prog) (some 79) rfl rfl (ox_gtr (k := .i64) (a := (((rl9.length : Nat) : Int))) (b := 0) rfl rfl ?_)
              refine xl_op (P := Try.prog) (some 80) rfl rfl (ox_move (v := (.bool (decide ((0 : Int) < (((rl9.length : Nat) : Int)))))) rfl ?_)
              by_cases h5 : (0 : Int) < (((rl9.length : Nat) : Int))
              · skip
                have htm := tmod_bd i11 (n := rl9.length) (by omega)
                obtain ⟨rv, hrv⟩ := get_ex (l := rl9) (i := (((i11 : Nat) : Int).tmod ((rl9.length : Nat) : Int)).toNat) (by omega)
                obtain ⟨g3, o3, rfl⟩ := hA3.ex (by intro hh; cases rl9 with | nil => simp at hrv | cons q l => simp at hh)
                have hc3 : w.cell? ⟨g3, o3 + (((i11 : Nat) : Int).tmod ((rl9.length : Nat) : Int)).toNat, none⟩ = some (.int .i64 rv) := cellsL_get hA3.cells (by simp [hrv])
                refine xl_opg (P := Try.prog) (some 81) (j := 3) (b := true) rfl rfl (congrArg some (decide_eq_true h5)) (ox_move (v := (.slice (some ⟨g3, o3, none⟩) rl9.length c3)) g3_f2 ?_)
                refine xl_opg (P := Try.prog) (some 82) (j := 3) (b := true) rfl rfl (congrArg some (decide_eq_true h5)) (ox_move (v := (.int .i64 ((i11 : Nat)))) g14_f2 ?_)
                refine xl_opg (P := Try.prog) (some 83) (j := 3) (b := true) rfl rfl (congrArg some (decide_eq_true h5)) (ox_move (v := (.slice (some ⟨g3, o3, none⟩) rl9.length c3)) g3_f2 ?_)
                refine xl_opg (P := Try.prog) (some 84) (j := 3) (b := true) rfl rfl (congrArg some (decide_eq_true h5)) (ox_len (A := (some ⟨g3, o3, none⟩)) (n := rl9.length) (cp := c3) rfl tU_42 rfl ?_)
                refine xl_opg (P := Try.prog) (some 85) (j := 3) (b := true) rfl rfl (congrArg some (decide_eq_true h5)) (ox_rem (k := .i64) (a := ((i11 : Nat))) (b := (((rl9.length : Nat) : Int))) rfl rfl (by omega) ?_)
                refine xl_opg (P := Try.prog) (some 86) (j := 3) (b := true) rfl rfl (congrArg some (decide_eq_true h5)) (ox_indexAddr (b := g3) (o := o3) (i := (((i11 : Nat) : Int).tmod (((rl9.length : Nat) : Int)))) tE_42 rfl rfl (by omega) (by omega) ?_)
                refine xl_opg (P := Try.prog) (some 87) (j := 3) (b := true) rfl rfl (congrArg some (decide_eq_true h5)) (ox_load (v := (.int .i64 rv)) tA_3 rfl (by simpa using Ext.cell hc3 (Ext.chg1 (Ext.trans (Ext.trans hEx2 x_f2) e4) e5 (by omega))) ?_)
                refine xl_opg (P := Try.prog) (some 88) (j := 3) (b := true) rfl rfl (congrArg some (decide_eq_true h5)) (ox_andI (k := .i64) (a := rv) (b := 1) rfl rfl ?_)
                refine xl_opg (P := Try.prog) (some 89) (j := 3) (b := true) rfl rfl (congrArg some (decide_eq_true h5)) (ox_eql (k := .i64) (a := (andI .i64 rv 1)) (b := 0) rfl rfl ?_)
                refine xl_op (P := Try.prog) (some 90) rfl rfl (ox_pick_t (v := (.bool (decide ((andI .i64 rv 1 : Int) = 0)))) (congrArg Value.bool (decide_eq_true h5)) rfl ?_)
                refine xl_op (P := Try.prog) (some 91) rfl rfl (ox_move (v := (.bool (decide ((andI .i64 rv 1 : Int) = 0)))) rfl ?_)
                by_cases h6 : (andI .i64 rv 1 : Int) = 0
                · skip
                  refine xl_opg (P := Try.prog) (some 92) (j := 14) (b := true) rfl rfl (congrArg some (decide_eq_true h6)) (ox_fieldAddr (b := w5.heap.size) (o := 0) tF_88_1 rfl ?_)
                  refine xl_opg (P := Try.prog) (some 93) (j := 14) (b := true) rfl rfl (congrArg some (decide_eq_true h6)) (ox_load (v := (.int .i64 x.id)) tA_3 rfl (b3.cell rfl) ?_)
                  refine xl_opg (P := Try.prog) (some 94) (j := 14) (b := true) rfl rfl (congrArg some (decide_eq_true h6)) (ox_neq (k := .i64) (a := x.id) (b := 0) rfl rfl ?_)
                  refine xl_op (P := Try.prog) (some 95) rfl rfl (ox_pick_t (v := (.bool (decide ((x.id : Int) ≠ 0)))) (congrArg Value.bool (decide_eq_true h6)) rfl ?_)
                  refine xl_nil ?_
                  refine xc_if (p := (x.id : Int) ≠ 0) rfl (fun h7 => ?_) (fun h7 => ?_)
                  · skip
                    obtain ⟨qi, hqi⟩ := mod_nat x.id (n := i6) (by omega)
                    have hqi2 := mod_lt hqi (by omega)
                    obtain ⟨ui, hui⟩ := get_ex (l := us) (i := qi) (by omega)
                    have hids1 := hids.ext (Ext.chg1 (Ext.trans x_f2 e4) e5 (by omega))
                    rw [hI] at hids1
                    obtain ⟨gi, ci9, heqi, _⟩ := hids1.some_of (by omega)
                    simp only [Value.slice.injEq, true_and] at heqi
                    obtain ⟨rfl, rfl⟩ := heqi
                    have hci : w7.cell? ⟨gi, qi, none⟩ = some (.int .i64 ui.id) := (hids1.cells (o := qi) (vs := [.int .i64 ui.id]) (by intro j v hj; cases j with | zero => (simp at hj; subst hj; simp [hui]) | succ j => simp at hj)).1
                    refine xc_region ?_
                    refine xl_op (P := Try.prog) (some 96) rfl rfl (ox_move (v := (.slice (some ⟨gi, 0, none⟩) i6 ci)) g11_f2 ?_)
                    refine xl_op (P := Try.prog) (some 97) rfl rfl (ox_fieldAddr (b := w5.heap.size) (o := 0) tF_88_1 rfl ?_)
                    refine xl_op (P := Try.prog) (some 98) rfl rfl (ox_load (v := (.int .i64 x.id)) tA_3 rfl (b3.cell rfl) ?_)
                    refine xl_op (P := Try.prog) (some 99) rfl rfl (ox_move (v := (.slice (some ⟨gi, 0, none⟩) i6 ci)) g11_f2 ?_)
                    refine xl_op (P := Try.prog) (some 100) rfl rfl (ox_len (A := (some ⟨gi, 0, none⟩)) (n := i6) (cp := ci) rfl tU_42 rfl ?_)
                    refine xl_op (P := Try.prog) (some 101) rfl rfl (ox_callE (al := [(.int .i64 x.id), (.int .i64 (((i6 : Nat) : Int)))]) pf_14 rfl (ret_mono ((by have h := within_calls x.id ((i6 : Nat) : Int) w7 (by omega); rw [hqi] at h; exact h)) ?_))
                    rintro _ _ ⟨rfl, rfl⟩
                    refine xl_op (P := Try.prog) (some 102) rfl rfl (ox_indexAddr (b := gi) (o := 0) (i := ((qi : Nat))) tE_42 rfl rfl (by omega) (by omega) ?_)
                    refine xl_op (P := Try.prog) (some 103) rfl rfl (ox_load (v := (.int .i64 ui.id)) tA_3 rfl (by simpa using hci) ?_)
                    refine xl_op (P := Try.prog) (some 104) rfl rfl (ox_fieldAddr (b := w5.heap.size) (o := 0) tF_88_1 rfl ?_)
                    refine xl_op (P := Try.prog) none rfl rfl (ox_store (n := 1) (vs := [(.int .i64 ui.id)]) tS_3 rfl (v := (.int .i64 ui.id)) rfl rfl rfl rfl b3 (Nat.le_of_ble_eq_true rfl) ?_)
                    intro w8 e6 z4 b4
                    replace b4 : Blk w8 w5.heap.size #[(.int .i64 x.d), (.int .i64 ui.id), (.int .i64 x.kind), (.int .i64 x.n), (.int .i64 x.kids), (.int .i64 x.lf.kind), (.int .i64 x.lf.skip), (.int .i64 x.lf.len), (.int .i64 x.lf.reach)] 88 := b4
                    refine xl_nil ?_
                    refine xc_region ?_
                    refine xl_op (P := Try.prog) (some 105) rfl rfl (ox_move (v := (.slice Am M.length cm)) g13_f2 ?_)
                    refine xl_op (P := Try.prog) (some 106) rfl rfl (ox_loadN (vs := [(.int .i64 x.d), (.int .i64 ui.id), (.int .i64 x.kind), (.int .i64 x.n), (.int .i64 x.kids), (.int .i64 x.lf.kind), (.int .i64 x.lf.skip), (.int .i64 x.lf.len), (.int .i64 x.lf.reach)]) tA_88 tS_88 rfl rfl ⟨b4.cell rfl, b4.cell rfl, b4.cell rfl, b4.cell rfl, b4.cell rfl, b4.cell rfl, b4.cell rfl, b4.cell rfl, b4.cell rfl, trivial⟩ ?_)
                    refine xl_op (P := Try.prog) (some 107) rfl rfl (ox_mkSlice (ps := [(0, (.agg #[(.int .i64 x.d), (.int .i64 ui.id), (.int .i64 x.kind), (.int .i64 x.n), (.int .i64 x.kids), (.int .i64 x.lf.kind), (.int .i64 x.lf.skip), (.int .i64 x.lf.len), (.int .i64 x.lf.reach)]))]) (zs := #[(.int .i64 0), (.int .i64 0), (.int .i64 0), (.int .i64 0), (.int .i64 0), (.int .i64 0), (.int .i64 0), (.int .i64 0), (.int .i64 0)]) (cs := #[(.int .i64 x.d), (.int .i64 ui.id), (.int .i64 x.kind), (.int .i64 x.n), (.int .i64 x.kids), (.int .i64 x.lf.kind), (.int .i64 x.lf.skip), (.int .i64 x.lf.len), (.int .i64 x.lf.reach)]) tE_54 rfl (by decide) (by kernel_rfl) (by kernel_rfl) ?_)
                    intro w9 e7 z5 b5
                    replace b5 : Blk w9 w8.heap.size #[(.int .i64 x.d), (.int .i64 ui.id), (.int .i64 x.kind), (.int .i64 x.n), (.int .i64 x.kids), (.int .i64 x.lf.kind), (.int .i64 x.lf.skip), (.int .i64 x.lf.len), (.int .i64 x.lf.reach)] 88 := b5
                    have q1 := ((mine_f2.ext e4).keep1 e5 (fun k hk => by have _q := (mine_f2.lt) k hk; omega))
                    have q2 := (q1.keep1 e6 (fun k hk => by have _q := (mine_f2.lt) k hk; omega))
                    refine xl_op (P := Try.prog) (some 108) rfl rfl (ox_append (n := M.length) (g := w8.heap.size) (o := 0) (m := 1) (xs := ((opC M))) (news := ([(.int .i64 x.d), (.int .i64 ui.id), (.int .i64 x.kind), (.int .i64 x.n), (.int .i64 x.kids), (.int .i64 x.lf.kind), (.int .i64 x.lf.skip), (.int .i64 x.lf.len), (.int .i64 x.lf.reach)])) rfl tE_54 rfl (by decide) (v := (.slice Am M.length cm)) rfl rfl (q2.ext e7) rfl b5.all rfl (by omega) (by omega) ?_)
                    intro v2 w10 o2 e8 at2 nil2
                    have he8 := e8.size
                    obtain ⟨A2, c2, rfl, hc2⟩ := o2.shape
                    have low2 : ∀ _k, (Value.slice A2 (M.length + 1) c2).ownBlock = some _k → w2.heap.size ≤ _k := fun _k _h => by rcases at2 with _e | _e <;> rw [_e] at _h; exact lm_f2 _k _h; exact (by cases _h; omega)
                    refine xl_op (P := Try.prog) (some 13) rfl rfl (ox_assign (v := (.slice A2 (M.length + 1) c2)) rfl ?_)
                    refine xl_nil ?_
                    refine xc_region ?_
                    refine xl_op (P := Try.prog) (some 71) rfl rfl (ox_move (v := (.int .i64 ((i11 : Nat)))) g14_f2 ?_)
                    refine xl_op (P := Try.prog) (some 72) rfl rfl (ox_add64 (a := ((i11 : Nat))) (b := 1) rfl rfl (by omega) ?_)
                    refine xl_op (P := Try.prog) (some 14) rfl rfl (ox_assign (v := (.int .i64 ((i11 : Nat) + 1))) rfl ?_)
                    refine xl_nil ?_
                    have ho9 := o2
                    have hsz0 := e4.size
                    have hsz1 := e5.size
                    have hsz2 := e6.size
                    have hsz3 := e7.size
                    have hsz4 := e8.size
                    have hl9 : (M ++ [(⟨x.d, ui.id, x.kind, x.n, x.kids, x.lf⟩ : OpD)]).length = M.length + 1 := by simp
                    exact ⟨rfl, lo.length - (i11 + 1), by omega, i11 + 1, (M ++ [(⟨x.d, ui.id, x.kind, x.n, x.kids, x.lf⟩ : OpD)]), A2, c2, by omega, by omega, by rw [hl9]; omega, by omega, fun y hy => by rcases List.mem_append.1 hy with h | h; exact hM y h; simp at h; subst h; exact hxr, g1_f2, g2_f2, g3_f2, g9_f2, g10_f2, g11_f2, (by rw [hl9]; rfl), (by first | exact rfl | exact (congrArg (Value.int .i64) (by omega))), (by rw [hl9, opC_snoc]; exact ho9), (by rw [hl9]; exact low2), (Chg.trans (Ext.trans (Ext.chg1 (Ext.chg1 (Ext.trans x_f2 e4) e5 (by omega)) e6 (by omega)) e7) e8 (fun b hb hl => absurd hl (by have := lm_f2 b hb; omega)))⟩
                  · skip
                    refine xc_skip ?_
                    refine xc_region ?_
                    refine xl_op (P := Try.prog) (some 105) rfl rfl (ox_move (v := (.slice Am M.length cm)) g13_f2 ?_)
                    refine xl_op (P := Try.prog) (some 106) rfl rfl (ox_loadN (vs := [(.int .i64 x.d), (.int .i64 x.id), (.int .i64 x.kind), (.int .i64 x.n), (.int .i64 x.kids), (.int .i64 x.lf.kind), (.int .i64 x.lf.skip), (.int .i64 x.lf.len), (.int .i64 x.lf.reach)]) tA_88 tS_88 rfl rfl ⟨b3.cell rfl, b3.cell rfl, b3.cell rfl, b3.cell rfl, b3.cell rfl, b3.cell rfl, b3.cell rfl, b3.cell rfl, b3.cell rfl, trivial⟩ ?_)
                    refine xl_op (P := Try.prog) (some 107) rfl rfl (ox_mkSlice (ps := [(0, (.agg #[(.int .i64 x.d), (.int .i64 x.id), (.int .i64 x.kind), (.int .i64 x.n), (.int .i64 x.kids), (.int .i64 x.lf.kind), (.int .i64 x.lf.skip), (.int .i64 x.lf.len), (.int .i64 x.lf.reach)]))]) (zs := #[(.int .i64 0), (.int .i64 0), (.int .i64 0), (.int .i64 0), (.int .i64 0), (.int .i64 0), (.int .i64 0), (.int .i64 0), (.int .i64 0)]) (cs := #[(.int .i64 x.d), (.int .i64 x.id), (.int .i64 x.kind), (.int .i64 x.n), (.int .i64 x.kids), (.int .i64 x.lf.kind), (.int .i64 x.lf.skip), (.int .i64 x.lf.len), (.int .i64 x.lf.reach)]) tE_54 rfl (by decide) (by kernel_rfl) (by kernel_rfl) ?_)
                    intro w11 e9 z6 b6
                    replace b6 : Blk w11 w7.heap.size #[(.int .i64 x.d), (.int .i64 x.id), (.int .i64 x.kind), (.int .i64 x.n), (.int .i64 x.kids), (.int .i64 x.lf.kind), (.int .i64 x.lf.skip), (.int .i64 x.lf.len), (.int .i64 x.lf.reach)] 88 := b6
                    have q3 := ((mine_f2.ext e4).keep1 e5 (fun k hk => by have _q := (mine_f2.lt) k hk; omega))
                    refine xl_op (P := Try.prog) (some 108) rfl rfl (ox_append (n := M.length) (g := w7.heap.size) (o := 0) (m := 1) (xs := ((opC M))) (news := ([(.int .i64 x.d), (.int .i64 x.id), (.int .i64 x.kind), (.int .i64 x.n), (.int .i64 x.kids), (.int .i64 x.lf.kind), (.int .i64 x.lf.skip), (.int .i64 x.lf.len), (.int .i64 x.lf.reach)])) rfl tE_54 rfl (by decide) (v := (.slice Am M.length cm)) rfl rfl (q3.ext e9) rfl b6.all rfl (by omega) (by omega) ?_)
                    intro v3 w12 o3 e10 at3 nil3
                    have he10 := e10.size
                    obtain ⟨A3, c3, rfl, hc3⟩ := o3.shape
                    have low3 : ∀ _k, (Value.slice A3 (M.length + 1) c3).ownBlock = some _k → w2.heap.size ≤ _k := fun _k _h => by rcases at3 with _e | _e <;> rw [_e] at _h; exact lm_f2 _k _h; exact (by cases _h; omega)
                    refine xl_op (P := Try.prog) (some 13) rfl rfl (ox_assign (v := (.slice A3 (M.length + 1) c3)) rfl ?_)
                    refine xl_nil ?_
                    refine xc_region ?_
                    refine xl_op (P := Try.prog) (some 71) rfl rfl (ox_move (v := (.int .i64 ((i11 : Nat)))) g14_f2 ?_)
                    refine xl_op (P := Try.prog) (some 72) rfl rfl (ox_add64 (a := ((i11 : Nat))) (b := 1) rfl rfl (by omega) ?_)
                    refine xl_op (P := Try.prog) (some 14) rfl rfl (ox_assign (v := (.int .i64 ((i11 : Nat) + 1))) rfl ?_)
                    refine xl_nil ?_
                    have ho9 := o3
                    have hsz0 := e4.size
                    have hsz1 := e5.size
                    have hsz2 := e9.size
                    have hsz3 := e10.size
                    have hl9 : (M ++ [(⟨x.d, x.id, x.kind, x.n, x.kids, x.lf⟩ : OpD)]).length = M.length + 1 := by simp
                    exact ⟨rfl, lo.length - (i11 + 1), by omega, i11 + 1, (M ++ [(⟨x.d, x.id, x.kind, x.n, x.kids, x.lf⟩ : OpD)]), A3, c3, by omega, by omega, by rw [hl9]; omega, by omega, fun y hy => by rcases List.mem_append.1 hy with h | h; exact hM y h; simp at h; subst h; exact hxr, g1_f2, g2_f2, g3_f2, g9_f2, g10_f2, g11_f2, (by rw [hl9]; rfl), (by first | exact rfl | exact (congrArg (Value.int .i64) (by omega))), (by rw [hl9, opC_snoc]; exact ho9), (by rw [hl9]; exact low3), (Chg.trans (Ext.trans (Ext.chg1 (Ext.trans x_f2 e4) e5 (by omega)) e9) e10 (fun b hb hl => absurd hl (by have := lm_f2 b hb; omega)))⟩
                · skip
                  refine xl_skip (some 92) (j := 14) (b := true) false rfl rfl (congrArg some (decide_eq_false h6)) (by decide) ?_
                  refine xl_skip (some 93) (j := 14) (b := true) false rfl rfl (congrArg some (decide_eq_false h6)) (by decide) ?_
                  refine xl_skip (some 94) (j := 14) (b := true) false rfl rfl (congrArg some (decide_eq_false h6)) (by decide) ?_
                  refine xl_op (P := Try.prog) (some 95) rfl rfl (ox_pick_f (v := (.bool false)) (congrArg Value.bool (decide_eq_false h6)) rfl ?_)
                  refine xl_nil ?_
                  refine xc_cond_f rfl ?_
                  refine xc_skip ?_
                  refine xc_region ?_
                  refine xl_op (P := Try.prog) (some 105) rfl rfl (ox_move (v := (.slice Am M.length cm)) g13_f2 ?_)
                  refine xl_op (P := Try.prog) (some 106) rfl rfl (ox_loadN (vs := [(.int .i64 x.d), (.int .i64 x.id), (.int .i64 x.kind), (.int .i64 x.n), (.int .i64 x.kids), (.int .i64 x.lf.kind), (.int .i64 x.lf.skip), (.int .i64 x.lf.len), (.int .i64 x.lf.reach)]) tA_88 tS_88 rfl rfl ⟨b3.cell rfl, b3.cell rfl, b3.cell rfl, b3.cell rfl, b3.cell rfl, b3.cell rfl, b3.cell rfl, b3.cell rfl, b3.cell rfl, trivial⟩ ?_)
                  refine xl_op (P := Try.prog) (some 107) rfl rfl (ox_mkSlice (ps := [(0, (.agg #[(.int .i64 x.d), (.int .i64 x.id), (.int .i64 x.kind), (.int .i64 x.n), (.int .i64 x.kids), (.int .i64 x.lf.kind), (.int .i64 x.lf.skip), (.int .i64 x.lf.len), (.int .i64 x.lf.reach)]))]) (zs := #[(.int .i64 0), (.int .i64 0), (.int .i64 0), (.int .i64 0), (.int .i64 0), (.int .i64 0), (.int .i64 0), (.int .i64 0), (.int .i64 0)]) (cs := #[(.int .i64 x.d), (.int .i64 x.id), (.int .i64 x.kind), (.int .i64 x.n), (.int .i64 x.kids), (.int .i64 x.lf.kind), (.int .i64 x.lf.skip), (.int .i64 x.lf.len), (.int .i64 x.lf.reach)]) tE_54 rfl (by decide) (by kernel_rfl) (by kernel_rfl) ?_)
                  intro w13 e11 z7 b7
                  replace b7 : Blk w13 w7.heap.size #[(.int .i64 x.d), (.int .i64 x.id), (.int .i64 x.kind), (.int .i64 x.n), (.int .i64 x.kids), (.int .i64 x.lf.kind), (.int .i64 x.lf.skip), (.int .i64 x.lf.len), (.int .i64 x.lf.reach)] 88 := b7
                  have q4 := ((mine_f2.ext e4).keep1 e5 (fun k hk => by have _q := (mine_f2.lt) k hk; omega))
                  refine xl_op (P := Try.prog) (some 108) rfl rfl (ox_append (n := M.length) (g := w7.heap.size) (o := 0) (m := 1) (xs := ((opC M))) (news := ([(.int .i64 x.d), (.int .i64 x.id), (.int .i64 x.kind), (.int .i64 x.n), (.int .i64 x.kids), (.int .i64 x.lf.kind), (.int .i64 x.lf.skip), (.int .i64 x.lf.len), (.int .i64 x.lf.reach)])) rfl tE_54 rfl (by decide) (v := (.slice Am M.length cm)) rfl rfl (q4.ext e11) rfl b7.all rfl (by omega) (by omega) ?_)
                  intro v4 w14 o4 e12 at4 nil4
                  have he12 := e12.size
                  obtain ⟨A4, c4, rfl, hc4⟩ := o4.shape
                  have low4 : ∀ _k, (Value.slice A4 (M.length + 1) c4).ownBlock = some _k → w2.heap.size ≤ _k := fun _k _h => by rcases at4 with _e | _e <;> rw [_e] at _h; exact lm_f2 _k _h; exact (by cases _h; omega)
                  refine xl_op (P := Try.prog) (some 13) rfl rfl (ox_assign (v := (.slice A4 (M.length + 1) c4)) rfl ?_)
                  refine xl_nil ?_
                  refine xc_region ?_
                  refine xl_op (P := Try.prog) (some 71) rfl rfl (ox_move (v := (.int .i64 ((i11 : Nat)))) g14_f2 ?_)
                  refine xl_op (P := Try.prog) (some 72) rfl rfl (ox_add64 (a := ((i11 : Nat))) (b := 1) rfl rfl (by omega) ?_)
                  refine xl_op (P := Try.prog) (some 14) rfl rfl (ox_assign (v := (.int .i64 ((i11 : Nat) + 1))) rfl ?_)
                  refine xl_nil ?_
                  have ho9 := o4
                  have hsz0 := e4.size
                  have hsz1 := e5.size
                  have hsz2 := e11.size
                  have hsz3 := e12.size
                  have hl9 : (M ++ [(⟨x.d, x.id, x.kind, x.n, x.kids, x.lf⟩ : OpD)]).length = M.length + 1 := by simp
                  exact ⟨rfl, lo.length - (i11 + 1), by omega, i11 + 1, (M ++ [(⟨x.d, x.id, x.kind, x.n, x.kids, x.lf⟩ : OpD)]), A4, c4, by omega, by omega, by rw [hl9]; omega, by omega, fun y hy => by rcases List.mem_append.1 hy with h | h; exact hM y h; simp at h; subst h; exact hxr, g1_f2, g2_f2, g3_f2, g9_f2, g10_f2, g11_f2, (by rw [hl9]; rfl), (by first | exact rfl | exact (congrArg (Value.int .i64) (by omega))), (by rw [hl9, opC_snoc]; exact ho9), (by rw [hl9]; exact low4), (Chg.trans (Ext.trans (Ext.chg1 (Ext.trans x_f2 e4) e5 (by omega)) e11) e12 (fun b hb hl => absurd hl (by have := lm_f2 b hb; omega)))⟩
              · skip
                refine xl_skip (some 81) (j := 3) (b := true) false rfl rfl (congrArg some (decide_eq_false h5)) (by decide) ?_
                refine xl_skip (some 82) (j := 3) (b := true) false rfl rfl (congrArg some (decide_eq_false h5)) (by decide) ?_
                refine xl_skip (some 83) (j := 3) (b := true) false rfl rfl (congrArg some (decide_eq_false h5)) (by decide) ?_
                refine xl_skip (some 84) (j := 3) (b := true) false rfl rfl (congrArg some (decide_eq_false h5)) (by decide) ?_
                refine xl_skip (some 85) (j := 3) (b := true) false rfl rfl (congrArg some (decide_eq_false h5)) (by decide) ?_
                refine xl_skip (some 86) (j := 3) (b := true) false rfl rfl (congrArg some (decide_eq_false h5)) (by decide) ?_
                refine xl_skip (some 87) (j := 3) (b := true) false rfl rfl (congrArg some (decide_eq_false h5)) (by decide) ?_
                refine xl_skip (some 88) (j := 3) (b := true) false rfl rfl (congrArg some (decide_eq_false h5)) (by decide) ?_
                refine xl_skip (some 89) (j := 3) (b := true) false rfl rfl (congrArg some (decide_eq_false h5)) (by decide) ?_
                refine xl_op (P := Try.prog) (some 90) rfl rfl (ox_pick_f (v := (.bool false)) (congrArg Value.bool (decide_eq_false h5)) rfl ?_)
                refine xl_op (P := Try.prog) (some 91) rfl rfl (ox_move (v := (.bool false)) rfl ?_)
                refine xl_skip (some 92) (j := 14) (b := true) false rfl rfl rfl (by decide) ?_
                refine xl_skip (some 93) (j := 14) (b := true) false rfl rfl rfl (by decide) ?_
                refine xl_skip (some 94) (j := 14) (b := true) false rfl rfl rfl (by decide) ?_
                refine xl_op (P := Try.prog) (some 95) rfl rfl (ox_pick_f (v := (.bool false)) rfl rfl ?_)
                refine xl_nil ?_
                refine xc_cond_f rfl ?_
                refine xc_skip ?_
                refine xc_region ?_
                refine xl_op (P := Try.prog) (some 105) rfl rfl (ox_move (v := (.slice Am M.length cm)) g13_f2 ?_)
                refine xl_op (P := Try.prog) (some 106) rfl rfl (ox_loadN (vs := [(.int .i64 x.d), (.int .i64 x.id), (.int .i64 x.kind), (.int .i64 x.n), (.int .i64 x.kids), (.int .i64 x.lf.kind), (.int .i64 x.lf.skip), (.int .i64 x.lf.len), (.int .i64 x.lf.reach)]) tA_88 tS_88 rfl rfl ⟨b3.cell rfl, b3.cell rfl, b3.cell rfl, b3.cell rfl, b3.cell rfl, b3.cell rfl, b3.cell rfl, b3.cell rfl, b3.cell rfl, trivial⟩ ?_)
                refine xl_op (P := Try.prog) (some 107) rfl rfl (ox_mkSlice (ps := [(0, (.agg #[(.int .i64 x.d), (.int .i64 x.id), (.int .i64 x.kind), (.int .i64 x.n), (.int .i64 x.kids), (.int .i64 x.lf.kind), (.int .i64 x.lf.skip), (.int .i64 x.lf.len), (.int .i64 x.lf.reach)]))]) (zs := #[(.int .i64 0), (.int .i64 0), (.int .i64 0), (.int .i64 0), (.int .i64 0), (.int .i64 0), (.int .i64 0), (.int .i64 0), (.int .i64 0)]) (cs := #[(.int .i64 x.d), (.int .i64 x.id), (.int .i64 x.kind), (.int .i64 x.n), (.int .i64 x.kids), (.int .i64 x.lf.kind), (.int .i64 x.lf.skip), (.int .i64 x.lf.len), (.int .i64 x.lf.reach)]) tE_54 rfl (by decide) (by kernel_rfl) (by kernel_rfl) ?_)
                intro w15 e13 z8 b8
                replace b8 : Blk w15 w7.heap.size #[(.int .i64 x.d), (.int .i64 x.id), (.int .i64 x.kind), (.int .i64 x.n), (.int .i64 x.kids), (.int .i64 x.lf.kind), (.int .i64 x.lf.skip), (.int .i64 x.lf.len), (.int .i64 x.lf.reach)] 88 := b8
                have q5 := ((mine_f2.ext e4).keep1 e5 (fun k hk => by have _q := (mine_f2.lt) k hk; omega))
                refine xl_op (P := Try.prog) (some 108) rfl rfl (ox_append (n := M.length) (g := w7.heap.size) (o := 0) (m := 1) (xs := ((opC M))) (news := ([(.int .i64 x.d), (.int .i64 x.id), (.int .i64 x.kind), (.int .i64 x.n), (.int .i64 x.kids), (.int .i64 x.lf.kind), (.int .i64 x.lf.skip), (.int .i64 x.lf.len), (.int .i64 x.lf.reach)])) rfl tE_54 rfl (by decide) (v := (.slice Am M.length cm)) rfl rfl (q5.ext e13) rfl b8.all rfl (by omega) (by omega) ?_)
                intro v5 w16 o5 e14 at5 nil5
                have he14 := e14.size
                obtain ⟨A5, c5, rfl, hc5⟩ := o5.shape
                have low5 : ∀ _k, (Value.slice A5 (M.length + 1) c5).ownBlock = some _k → w2.heap.size ≤ _k := fun _k _h => by rcases at5 with _e | _e <;> rw [_e] at _h; exact lm_f2 _k _h; exact (by cases _h; omega)
                refine xl_op (P := Try.prog) (some 13) rfl rfl (ox_assign (v := (.slice A5 (M.length + 1) c5)) rfl ?_)
                refine xl_nil ?_
                refine xc_region ?_
                refine xl_op (P := Try.prog) (some 71) rfl rfl (ox_move (v := (.int .i64 ((i11 : Nat)))) g14_f2 ?_)
                refine xl_op (P := Try.prog) (some 72) rfl rfl (ox_add64 (a := ((i11 : Nat))) (b := 1) rfl rfl (by omega) ?_)
                refine xl_op (P := Try.prog) (some 14) rfl rfl (ox_assign (v := (.int .i64 ((i11 : Nat) + 1))) rfl ?_)
                refine xl_nil ?_
                have ho9 := o5
                have hsz0 := e4.size
                have hsz1 := e5.size
                have hsz2 := e13.size
                have hsz3 := e14.size
                have hl9 : (M ++ [(⟨x.d, x.id, x.kind, x.n, x.kids, x.lf⟩ : OpD)]).length = M.length + 1 := by simp
                exact ⟨rfl, lo.length - (i11 + 1), by omega, i11 + 1, (M ++ [(⟨x.d, x.id, x.kind, x.n, x.kids, x.lf⟩ : OpD)]), A5, c5, by omega, by omega, by rw [hl9]; omega, by omega, fun y hy => by rcases List.mem_append.1 hy with h | h; exact hM y h; simp at h; subst h; exact hxr, g1_f2, g2_f2, g3_f2, g9_f2, g10_f2, g11_f2, (by rw [hl9]; rfl), (by first | exact rfl | exact (congrArg (Value.int .i64) (by omega))), (by rw [hl9, opC_snoc]; exact ho9), (by rw [hl9]; exact low5), (Chg.trans (Ext.trans (Ext.chg1 (Ext.trans x_f2 e4) e5 (by omega)) e13) e14 (fun b hb hl => absurd hl (by have := lm_f2 b hb; omega)))⟩
            · skip
              refine xc_exit ?_
              refine xc_seq ?_
              refine xc_region ?_
              refine xl_op (P := Try.prog) (some 109) rfl rfl (ox_move (v := (.int .i64 at9)) g1_f2 ?_)
              refine xl_op (P := Try.prog) (some 110) rfl rfl (ox_move (v := (.pointer (some ⟨bg, 0, none⟩))) g9_f2 ?_)
              refine xl_op (P := Try.prog) (some 111) rfl rfl (ox_nilCheck (p := ⟨bg, 0, none⟩) rfl ?_)
              refine xl_op (P := Try.prog) (some 112) rfl rfl (ox_fieldAddr (b := bg) (o := 0) tF_31_1 rfl ?_)
              refine xl_op (P := Try.prog) (some 113) rfl rfl (ox_load (v := (.slice (some ⟨gn, 0, none⟩) ts.length cn)) tA_28 rfl ((hGM.g.ext (Ext.trans hEx3 x_f2)).cell rfl) ?_)
              refine xl_op (P := Try.prog) (some 114) rfl rfl (ox_len (A := (some ⟨gn, 0, none⟩)) (n := ts.length) (cp := cn) rfl tU_28 rfl ?_)
              obtain ⟨qa, hqa⟩ := mod_nat at9 htp
              have hqa2 := mod_lt hqa htp
              obtain ⟨_, _, ta, ua, e8, e9, hta, hua, hcna, hcpa, hPa, hRa, hWa, hsa, hsua, hska⟩ := hGM.at hqa2
              cases e8; cases e9
              have hbgs : ¬ bg = s := fun h => Blk.ne hGM.g hGM.st (by decide) h
              have hgns : ¬ gn = s := fun h => Own.ne_blk hGM.on hGM.st (by decide) gn rfl h
              have hgps : ¬ gp = s := fun h => Own.ne_blk hGM.op hGM.st (by decide) gp rfl h
              have htam := List.mem_of_getElem? hta
              refine xl_op (P := Try.prog) (some 115) rfl rfl (ox_callE (al := [(.int .i64 at9), (.int .i64 (((ts.length : Nat) : Int)))]) pf_14 rfl (ret_mono ((by have h := within_calls at9 ((ts.length : Nat) : Int) w5 (by omega); rw [hqa] at h; exact h)) ?_))
              rintro _ _ ⟨rfl, rfl⟩
              refine xl_op (P := Try.prog) (some 16) rfl rfl (ox_assign (v := (.int .i64 ((qa : Nat)))) rfl ?_)
              refine xl_nil ?_
              refine xc_seq ?_
              have hml18 := (mine_f2).lt
              refine xc_region ?_
              refine xl_op (P := Try.prog) (some 116) rfl rfl (ox_mkSlice (ps := []) (zs := #[]) (cs := #[]) tE_54 rfl (by decide) (by kernel_rfl) (by kernel_rfl) ?_)
              intro w17 e15 z9 b9
              replace b9 : Blk w17 w5.heap.size #[] 88 := b9
              refine xl_op (P := Try.prog) (some 117) rfl rfl (ox_move (v := (.slice Am M.length cm)) g13_f2 ?_)
              refine xl_op (P := Try.prog) (some 118) rfl rfl (ox_appendR (n := 0) (m := M.length) (xs := ([])) (news := ((opC M))) rfl tE_54 rfl (by decide) (v := (.slice (some ⟨w5.heap.size, 0, none⟩) 0 0)) rfl rfl (Vx.Own.lit (n := 0) (sz := 9) b9 rfl (by decide)) (opC_len _) (Own.rowO (mine_f2.ext e15)) (opC_one _) (by omega) (by omega) ?_)
              intro v6 w18 o6 e16 at6 nil6
              have he16 := e16.size
              obtain ⟨A6, c6, rfl, hc6⟩ := o6.shape
              have low6 : ∀ _k, (Value.slice A6 (0 + M.length) c6).ownBlock = some _k → w5.heap.size ≤ _k := fun _k _h => by rcases at6 with _e | _e <;> rw [_e] at _h; exact (fun _k _h => by simp [Value.ownBlock] at _h; omega) _k _h; exact (by cases _h; omega)
              replace o6 : Vx.Own w18 88 9 (.slice A6 (0 + M.length) c6) (0 + M.length) ((opC M)) := by simpa using o6
              refine xl_op (P := Try.prog) (some 119) rfl rfl (ox_mkStruct (ps := [(0, (.int .i64 77))]) (cs := #[(.int .i64 77), (.int .i64 0), (.int .i64 0), (.int .i64 0), (.int .i64 0), (.int .i64 0), (.int .i64 0), (.int .i64 0), (.int .i64 0)]) tZ_88 tP_88 rfl (by kernel_rfl) ?_)
              refine xl_op (P := Try.prog) (some 120) rfl rfl (ox_mkSlice (ps := [(0, (.agg #[(.int .i64 77), (.int .i64 0), (.int .i64 0), (.int .i64 0), (.int .i64 0), (.int .i64 0), (.int .i64 0), (.int .i64 0), (.int .i64 0)]))]) (zs := #[(.int .i64 0), (.int .i64 0), (.int .i64 0), (.int .i64 0), (.int .i64 0), (.int .i64 0), (.int .i64 0), (.int .i64 0), (.int .i64 0)]) (cs := #[(.int .i64 77), (.int .i64 0), (.int .i64 0), (.int .i64 0), (.int .i64 0), (.int .i64 0), (.int .i64 0), (.int .i64 0), (.int .i64 0)]) tE_54 rfl (by decide) (by kernel_rfl) (by kernel_rfl) ?_)
              intro w19 e17 z10 b10
              replace b10 : Blk w19 w18.heap.size #[(.int .i64 77), (.int .i64 0), (.int .i64 0), (.int .i64 0), (.int .i64 0), (.int .i64 0), (.int .i64 0), (.int .i64 0), (.int .i64 0)] 88 := b10
              refine xl_op (P := Try.prog) (some 121) rfl rfl (ox_append (n := (0 + M.length)) (g := w18.heap.size) (o := 0) (m := 1) (xs := ((opC M))) (news := ([(.int .i64 77), (.int .i64 0), (.int .i64 0), (.int .i64 0), (.int .i64 0), (.int .i64 0), (.int .i64 0), (.int .i64 0), (.int .i64 0)])) rfl tE_54 rfl (by decide) (v := (.slice A6 (0 + M.length) c6)) rfl rfl (o6.ext e17) rfl b10.all rfl (by omega) (by omega) ?_)
              intro v7 w20 o7 e18 at7 nil7
              have he18 := e18.size
              obtain ⟨A7, c7, rfl, hc7⟩ := o7.shape
              have low7 : ∀ _k, (Value.slice A7 (0 + M.length + 1) c7).ownBlock = some _k → w5.heap.size ≤ _k := fun _k _h => by rcases at7 with _e | _e <;> rw [_e] at _h; exact low6 _k _h; exact (by cases _h; omega)
              refine xl_op (P := Try.prog) (some 122) rfl rfl (ox_move (v := (.slice Am M.length cm)) g13_f2 ?_)
              refine xl_op (P := Try.prog) (some 123) rfl rfl (ox_len (A := Am) (n := M.length) (cp := cm) rfl tU_54 rfl ?_)
              refine xl_op (P := Try.prog) (some 124) rfl rfl (ox_sliceToN (A := A7) (cp := c7) (i := (((M.length : Nat) : Int))) M.length tE_54 rfl rfl (by omega) (by omega) (by omega) ?_)
              refine xl_op (P := Try.prog) (some 17) rfl rfl (ox_assign (v := (.slice A7 M.length c7)) rfl ?_)
              refine xl_nil ?_
              refine xc_seq ?_
              refine xc_seq ?_
              refine xc_region ?_
              refine xl_op (P := Try.prog) (some 18) rfl rfl (ox_assign (v := (.int .i64 0)) rfl ?_)
              refine xl_nil ?_
              refine xc_block ?_
              have q6 := ((mine_f2.ext e15).keep e16 (fun _k _hk _hh => by have h1 := hml18 _k _hk; have h2 : w5.heap.size ≤ _k := (fun _k _h => by simp [Value.ownBlock] at _h; omega) _k _hh; omega))
              have q7 := ((q6.ext e17).keep e18 (fun _k _hk _hh => by have h1 := hml18 _k _hk; have h2 : w5.heap.size ≤ _k := low6 _k _hh; omega))
              have hmine0 := q7
              have hgiv0 := o7
              have hlgv := low7
              obtain ⟨gv, cv, heqv, hcv0⟩ := hgiv0.some_of (by omega)
              simp only [Value.slice.injEq, true_and] at heqv
              obtain ⟨rfl, rfl⟩ := heqv
              have hgvl : w1.heap.size ≤ gv := by have := hlgv gv rfl; omega
              have hgvs : gv ≠ s := by omega
              have hids2 := hids.ext (Chg.trans (Ext.trans (Chg.trans (Ext.trans x_f2 e15) e16 (fun b hb hl => absurd hl (by have := (fun _k _h => by simp [Value.ownBlock] at _h; omega) b hb; omega))) e17) e18 (fun b hb hl => absurd hl (by have := low6 b hb; omega)))
              have hst2 := hGM.st.ext (Chg.trans (Ext.trans (Chg.trans (Ext.trans (Ext.trans hEx3 x_f2) e15) e16 (fun b hb hl => absurd hl (by have := (fun _k _h => by simp [Value.ownBlock] at _h; omega) b hb; omega))) e17) e18 (fun b hb hl => absurd hl (by have := low6 b hb; omega)))
              have hC0 : Chg1 s w1 w20 := Ext.to (Chg.trans (Ext.trans (Chg.trans (Ext.trans (Ext.trans hEx3 x_f2) e15) e16 (fun b hb hl => absurd hl (by have := (fun _k _h => by simp [Value.ownBlock] at _h; omega) b hb; omega))) e17) e18 (fun b hb hl => absurd hl (by have := low6 b hb; omega)))
              have hmk0 : Vx.Own w20 88 9 (.slice (some ⟨gv, 0, none⟩) (M.length + 1) c7) (M.length + 1) (opC (M ++ [opM])) := by simpa [opC, OpD.cs, lf0] using hgiv0
              have hMn : M.length ≤ 300 := by omega
              have hlm0 := lm_f2
              obtain ⟨NM, hNM⟩ : ∃ NM, NM = M.length := ⟨_, rfl⟩
              refine xc_loopN (fun m f W => ∃ (r : Nat) (M : List OpD) (Am : Option Addr) (cm : Nat) (cq : Int), m = 2 - r ∧ r ≤ 2 ∧ M.length = NM ∧ (∀ o ∈ M, opR o) ∧ (((ts.length : Nat) : Int) ≤ cq ∧ cq ≤ ((ts.length : Nat) : Int) + 300 * (r : Nat)) ∧ f 9 = (.pointer (some ⟨bg, 0, none⟩)) ∧ f 11 = (.slice Ai i6 ci) ∧ f 13 = (.slice Am NM cm) ∧ f 16 = (.int .i64 ((qa : Nat))) ∧ f 17 = (.slice (some ⟨gv, 0, none⟩) NM c7) ∧ f 18 = (.int .i64 ((r : Nat))) ∧ Vx.Own W 88 9 (.slice Am NM cm) NM (opC M) ∧ Vx.Own W 88 9 (.slice (some ⟨gv, 0, none⟩) ((NM + 1)) c7) (NM + 1) (opC (M ++ [opM])) ∧ Vx.Own W 3 1 (.slice Ai i6 ci) i6 (us.map fun u => .int .i64 u.id) ∧ Blk W s #[.int .i64 cq] 140 ∧ (∀ k, ((.slice Am NM cm) : Value).ownBlock = some k → w1.heap.size ≤ k) ∧ Chg1 s w1 W) (2) ?_ ?_
              · exact ⟨0, M, Am, cm, ((ts.length : Nat) : Int), by omega, by omega, hNM.symm, hM, by omega, g9_f2, g11_f2, (by rw [hNM]; exact g13_f2), rfl, (by rw [hNM]; rfl), (by first | exact rfl | exact (congrArg (Value.int .i64) (by omega))), (by rw [hNM]; exact hmine0), (by rw [hNM]; exact hmk0), (by rw [hI] at hids2; exact hids2), hst2, (by rw [hNM]; exact fun k hk => by have := hlm0 k hk; omega), hC0⟩
              · rintro m f3 w21 ⟨r, M, Am, cm, cq, hm, hr2, hMN, hM, hcq, g9_f3, g11_f3, g13_f3, g16_f3, g17_f3, g18_f3, mine_f3, given_f3, ids_f3, blk_s_f3, lm_f3, c_f3⟩
                have hzC := c_f3.size
                refine xc_seq ?_
                refine xc_seq ?_
                refine xc_region ?_
                refine xl_op (P := Try.prog) (some 125) rfl rfl (ox_move (v := (.int .i64 ((r : Nat)))) g18_f3 ?_)
                refine xl_op (P := Try.prog) (some 126) rfl rfl (ox_lss (k := .i64) (a := ((r : Nat))) (b := 2) rfl rfl ?_)
                refine xl_nil ?_
                refine xc_if (p := ((r : Nat) : Int) < 2) rfl (fun h8 => ?_) (fun h8 => ?_)
                · skip
                  refine xc_skip ?_
                  refine xc_seq ?_
                  refine xc_block ?_
                  refine xc_seq ?_
                  refine xc_region ?_
                  refine xl_op (P := Try.prog) (some 130) rfl rfl (ox_move (v := (.pointer (some ⟨bg, 0, none⟩))) g9_f3 ?_)
                  refine xl_op (P := Try.prog) (some 131) rfl rfl (ox_nilCheck (p := ⟨bg, 0, none⟩) rfl ?_)
                  refine xl_op (P := Try.prog) (some 132) rfl rfl (ox_fieldAddr (b := bg) (o := 0) tF_31_2 rfl ?_)
                  refine xl_op (P := Try.prog) (some 133) rfl rfl (ox_load (v := (.slice (some ⟨gp, 0, none⟩) us.length cp)) tA_29 rfl ((hGM.g.keep c_f3 hbgs).cell rfl) ?_)
                  refine xl_op (P := Try.prog) (some 134) rfl rfl (ox_move (v := (.int .i64 ((qa : Nat)))) g16_f3 ?_)
                  refine xl_op (P := Try.prog) (some 135) rfl rfl (ox_indexAddr (b := gp) (o := 0) (i := ((qa : Nat))) tE_29 rfl rfl (by omega) (by omega) ?_)
                  refine xl_op (P := Try.prog) (some 136) rfl rfl (ox_load (v := (.pointer (some ⟨ua.b, 0, none⟩))) tA_38 rfl (by simpa [T.ptr] using Chg.cell hcpa c_f3 hgps) ?_)
                  refine xl_op (P := Try.prog) (some 137) rfl rfl (ox_move (v := (.slice Am NM cm)) g13_f3 ?_)
                  refine xl_op (P := Try.prog) (some 138) rfl rfl (ox_callE (al := [(.pointer (some ⟨ua.b, 0, none⟩)), (.slice Am NM cm)]) pf_35 rfl (ret_mono ((by have h := refApply_calls ua M Am cm w21 (PR.keep c_f3 hRa (fun b hb hh => PR.off hGM.st (by decide) (by decide) hRa b hb hh)) (by omega) (Own.rowO mine_f3) (by omega); rw [hMN] at h; exact h)) ?_))
                  rintro _ w22 ⟨oa, ea, rfl, hra, e19⟩
                  have he19 := e19.size
                  refine xl_op (P := Try.prog) (some 129) rfl rfl (ox_move (v := (.tuple #[(.pointer oa), (.int .i64 ea)])) rfl ?_)
                  refine xl_op (P := Try.prog) (some 139) rfl rfl (ox_extract (vs := #[(.pointer oa), (.int .i64 ea)]) (v := (.pointer oa)) rfl rfl ?_)
                  refine xl_op (P := Try.prog) (some 140) rfl rfl (ox_extract (vs := #[(.pointer oa), (.int .i64 ea)]) (v := (.int .i64 ea)) rfl rfl ?_)
                  refine xl_op (P := Try.prog) (some 19) rfl rfl (ox_assign (v := (.pointer oa)) rfl ?_)
                  refine xl_op (P := Try.prog) (some 20) rfl rfl (ox_assign (v := (.int .i64 ea)) rfl ?_)
                  refine xl_nil ?_
                  refine xc_seq ?_
                  have hsA := (blk_s_f3.ext e19)
                  refine xc_regionE [] (fun W_ => Chg (fun x => x = s) w22 W_) hmix ?_
                  intro w23 e20 z11
                  have hS1 : Chg (fun x => x = s) w22 w23 := Ext.to e20
                  refine xd_pure 0 (some 142) rfl rfl (by kernel_rfl) (v := (.pointer (some ⟨bg, 0, none⟩))) (.inl ⟨rfl, fun W_ hW_ => ox_move (v := (.pointer (some ⟨bg, 0, none⟩))) g9_f3 ⟨rfl, rfl⟩⟩) ?_
                  refine xd_pure 1 (some 143) rfl rfl (by kernel_rfl) (v := (.pointer (some ⟨bg, 0, none⟩))) (.inl ⟨rfl, fun W_ hW_ => ox_nilCheck (p := ⟨bg, 0, none⟩) rfl ⟨rfl, rfl⟩⟩) ?_
                  refine xd_pure 2 (some 144) rfl rfl (by kernel_rfl) (v := (.pointer (some ⟨bg, 0, none⟩))) (.inl ⟨rfl, fun W_ hW_ => ox_fieldAddr (b := bg) (o := 0) tF_31_0 rfl ⟨rfl, rfl⟩⟩) ?_
                  refine xd_take 3 (some 145) rfl rfl (by kernel_rfl) (v := (.pointer (some ⟨s, 0, none⟩))) (.inl ⟨rfl, fun W_ hW_ => ox_load (v := (.pointer (some ⟨s, 0, none⟩))) tA_27 rfl ((((hGM.g.keep c_f3 hbgs).ext e19).keep hW_ hbgs).cell rfl) ⟨rfl, rfl⟩⟩) hS1 ?_
                  refine xd_pure 4 (some 146) rfl rfl (by kernel_rfl) (v := (.pointer (some ⟨bg, 0, none⟩))) (.inl ⟨rfl, fun W_ hW_ => ox_move (v := (.pointer (some ⟨bg, 0, none⟩))) g9_f3 ⟨rfl, rfl⟩⟩) ?_
                  refine xd_pure 5 (some 147) rfl rfl (by kernel_rfl) (v := (.pointer (some ⟨bg, 0, none⟩))) (.inl ⟨rfl, fun W_ hW_ => ox_nilCheck (p := ⟨bg, 0, none⟩) rfl ⟨rfl, rfl⟩⟩) ?_
                  refine xd_pure 6 (some 148) rfl rfl (by kernel_rfl) (v := (.pointer (some ⟨bg, 1, none⟩))) (.inl ⟨rfl, fun W_ hW_ => ox_fieldAddr (b := bg) (o := 0) tF_31_1 rfl ⟨rfl, rfl⟩⟩) ?_
                  refine xd_take 7 (some 149) rfl rfl (by kernel_rfl) (v := (.slice (some ⟨gn, 0, none⟩) ts.length cn)) (.inl ⟨rfl, fun W_ hW_ => ox_load (v := (.slice (some ⟨gn, 0, none⟩) ts.length cn)) tA_28 rfl ((((hGM.g.keep c_f3 hbgs).ext e19).keep hW_ hbgs).cell rfl) ⟨rfl, rfl⟩⟩) hS1 ?_
                  refine xd_pure 8 (some 150) rfl rfl (by kernel_rfl) (v := (.int .i64 ((qa : Nat)))) (.inl ⟨rfl, fun W_ hW_ => ox_move (v := (.int .i64 ((qa : Nat)))) g16_f3 ⟨rfl, rfl⟩⟩) ?_
                  refine xd_pure 9 (some 151) rfl rfl (by kernel_rfl) (v := (.pointer (some ⟨gn, 0 + ((qa : Nat) : Int).toNat * 1, none⟩))) (.inl ⟨rfl, fun W_ hW_ => ox_indexAddr (b := gn) (o := 0) (i := ((qa : Nat))) tE_28 rfl rfl (by omega) (by omega) ⟨rfl, rfl⟩⟩) ?_
                  refine xd_take 10 (some 152) rfl rfl (by kernel_rfl) (v := (.pointer (some ⟨ta.b, 0, none⟩))) (.inl ⟨rfl, fun W_ hW_ => ox_load (v := (.pointer (some ⟨ta.b, 0, none⟩))) tA_36 rfl (by simpa [T.ptr] using Chg.cell hcna (Chg.trans (Chg.ext c_f3 e19) hW_ (fun x hx hl => hx)) hgns) ⟨rfl, rfl⟩⟩) hS1 ?_
                  refine xd_pure 11 (some 153) rfl rfl (by kernel_rfl) (v := (.slice (some ⟨gv, 0, none⟩) NM c7)) (.inl ⟨rfl, fun W_ hW_ => ox_move (v := (.slice (some ⟨gv, 0, none⟩) NM c7)) g17_f3 ⟨rfl, rfl⟩⟩) ?_
                  refine xd_one 12 (some 154) rfl rfl (by kernel_rfl) rfl (ox_callE (al := [(.pointer (some ⟨s, 0, none⟩)), (.pointer (some ⟨ta.b, 0, none⟩)), (.slice (some ⟨gv, 0, none⟩) NM c7)]) pf_36 rfl (ret_mono ((by have h := apply_calls s cq ((ts.length : Nat) : Int) ta M (some ⟨gv, 0, none⟩) c7 w23 ((blk_s_f3.ext e19).ext e20) (by omega) (by omega) (PN.keep (Chg.ext (Chg.ext c_f3 e19) e20) hPa (fun b hb hh => PN.off hGM.st (by decide) (by decide) hPa b hb hh)) hWa (by omega) (hGM.ok.nid htam) (hGM.ok.uniq htam) (Own.frontO (ms := [opM]) ((given_f3.ext e19).ext e20) hMN) (fun a ha => by cases ha; exact hgvs) hM (by omega); rw [hMN] at h; exact h)) ?_))
                  rintro _ w24 ⟨ob, eb, cn9, rfl, hrb, hs9, hcn1, hcn2, e21⟩
                  have he21 := e21.size
                  have hS2 : Chg (fun x => x = s) w22 w24 := Chg.chg1 hS1 e21 (by first | (right; omega) | (left; simp))
                  refine ⟨.inr fun _ => hS2, ?_⟩
                  refine xd_pure 13 (some 141) rfl rfl (by kernel_rfl) (v := (.tuple #[(.pointer ob), (.int .i64 eb)])) (.inl ⟨rfl, fun W_ hW_ => ox_move (v := (.tuple #[(.pointer ob), (.int .i64 eb)])) rfl ⟨rfl, rfl⟩⟩) ?_
                  refine xd_pure 14 (some 155) rfl rfl (by kernel_rfl) (v := (.pointer ob)) (.inl ⟨rfl, fun W_ hW_ => ox_extract (vs := #[(.pointer ob), (.int .i64 eb)]) (v := (.pointer ob)) rfl rfl ⟨rfl, rfl⟩⟩) ?_
                  refine xd_pure 15 (some 156) rfl rfl (by kernel_rfl) (v := (.int .i64 eb)) (.inl ⟨rfl, fun W_ hW_ => ox_extract (vs := #[(.pointer ob), (.int .i64 eb)]) (v := (.int .i64 eb)) rfl rfl ⟨rfl, rfl⟩⟩) ?_
                  refine xd_pure 16 (some 21) rfl rfl (by kernel_rfl) (v := (.pointer ob)) (.inl ⟨rfl, fun W_ hW_ => ox_assign (v := (.pointer ob)) rfl ⟨rfl, rfl⟩⟩) ?_
                  refine xd_pure 17 (some 22) rfl rfl (by kernel_rfl) (v := (.int .i64 eb)) (.inl ⟨rfl, fun W_ hW_ => ox_assign (v := (.int .i64 eb)) rfl ⟨rfl, rfl⟩⟩) ?_
                  refine xd_done (by kernel_rfl) ?_ _
                  refine xc_seq ?_
                  refine xc_seq ?_
                  have hC12 : Chg1 s w22 w24 := (Chg.chg1 (Chg.ext (Chg.refl (fun x => x = s) w22) e20) e21 (by left; rfl))
                  obtain ⟨rfl, hoab⟩ := two_res (find_two hska (fun x hx => (hGM.ok.nid htam x hx).2)) hra hrb
                  have hstw := hs9
                  rcases hoab with ⟨rfl, rfl⟩ | ⟨y, ⟨pa, rfl, hpa, hska2, hza⟩, ⟨pb, rfl, hpb, hskb2, hzb, hwb, hidb⟩⟩
                  · skip
                    refine xc_region ?_
                    refine xl_op (P := Try.prog) (some 157) rfl rfl (ox_move (v := (.int .i64 eb)) rfl ?_)
                    refine xl_op (P := Try.prog) (some 158) rfl rfl (ox_move (v := (.int .i64 eb)) rfl ?_)
                    refine xl_op (P := Try.prog) (some 159) rfl rfl (ox_neq (k := .i64) (a := eb) (b := eb) rfl rfl ?_)
                    refine xl_op (P := Try.prog) (some 160) rfl rfl (ox_move (v := (.bool (decide ((eb : Int) ≠ eb)))) rfl ?_)
                    refine xl_opg (P := Try.prog) (some 161) (j := 3) (b := false) rfl rfl (congrArg some (by simp : decide ((eb : Int) ≠ eb) = false)) (ox_move (v := (.pointer none)) rfl ?_)
                    refine xl_opg (P := Try.prog) (some 162) (j := 3) (b := false) rfl rfl (congrArg some (by simp : decide ((eb : Int) ≠ eb) = false)) (ox_eqlNil (p := none) (q := none) tU_36 rfl rfl (.inr rfl) ?_)
                    refine xl_opg (P := Try.prog) (some 163) (j := 3) (b := false) rfl rfl (congrArg some (by simp : decide ((eb : Int) ≠ eb) = false)) (ox_move (v := (.pointer none)) rfl ?_)
                    refine xl_opg (P := Try.prog) (some 164) (j := 3) (b := false) rfl rfl (congrArg some (by simp : decide ((eb : Int) ≠ eb) = false)) (ox_eqlNil (p := none) (q := none) tU_38 rfl rfl (.inr rfl) ?_)
                    refine xl_opg (P := Try.prog) (some 165) (j := 3) (b := false) rfl rfl (congrArg some (by simp : decide ((eb : Int) ≠ eb) = false)) (ox_neqBool (a := ((decide ((none : Option Addr) = none)))) (b := ((decide ((none : Option Addr) = none)))) tU_4 rfl rfl ?_)
                    refine xl_op (P := Try.prog) (some 166) rfl rfl (ox_pick_f (v := (.bool (((decide ((none : Option Addr) = none)) != (decide ((none : Option Addr) = none)))))) (congrArg Value.bool (by simp : decide ((eb : Int) ≠ eb) = false)) rfl ?_)
                    refine xl_op (P := Try.prog) (some 167) rfl rfl (ox_move (v := (.bool (((decide ((none : Option Addr) = none)) != (decide ((none : Option Addr) = none)))))) rfl ?_)
                    refine xl_opg (P := Try.prog) (some 168) (j := 10) (b := false) rfl rfl (congrArg some (ne_two (show (decide ((none : Option Addr) = none)) = true from (decide_eq_true rfl)) (show (decide ((none : Option Addr) = none)) = true from (decide_eq_true rfl)) rfl)) (ox_move (v := (.slice (some ⟨gv, 0, none⟩) NM c7)) g17_f3 ?_)
                    refine xl_opg (P := Try.prog) (some 169) (j := 10) (b := false) rfl rfl (congrArg some (ne_two (show (decide ((none : Option Addr) = none)) = true from (decide_eq_true rfl)) (show (decide ((none : Option Addr) = none)) = true from (decide_eq_true rfl)) rfl)) (ox_move (v := (.slice Am NM cm)) g13_f3 ?_)
                    have q8 := (((given_f3.ext e19).ext e20).keep1 e21 (fun k hk => ((given_f3.ext e19).ext e20).ne_blk ((blk_s_f3.ext e19).ext e20) (by decide) k hk))
                    have q9 := (((mine_f3.ext e19).ext e20).keep1 e21 (fun k hk => ((mine_f3.ext e19).ext e20).ne_blk ((blk_s_f3.ext e19).ext e20) (by decide) k hk))
                    refine xl_opg (P := Try.prog) (some 170) (j := 10) (b := false) rfl rfl (congrArg some (ne_two (show (decide ((none : Option Addr) = none)) = true from (decide_eq_true rfl)) (show (decide ((none : Option Addr) = none)) = true from (decide_eq_true rfl)) rfl)) (ox_callE (al := [(.slice (some ⟨gv, 0, none⟩) NM c7), (.slice Am NM cm)]) pf_23 rfl (ret_mono ((by have h := sameOps_eq M (some ⟨gv, 0, none⟩) Am c7 cm w24 (Own.frontO (ms := [opM]) q8 hMN) (Own.rowO q9) (by omega); rw [hMN] at h; exact h)) ?_))
                    rintro _ w25 ⟨rfl, e22⟩
                    have he22 := e22.size
                    refine xl_opg (P := Try.prog) (some 171) (j := 10) (b := false) rfl rfl (congrArg some (ne_two (show (decide ((none : Option Addr) = none)) = true from (decide_eq_true rfl)) (show (decide ((none : Option Addr) = none)) = true from (decide_eq_true rfl)) rfl)) (ox_not (b := true) rfl ?_)
                    refine xl_op (P := Try.prog) (some 172) rfl rfl (ox_pick_f (v := (.bool false)) (congrArg Value.bool (ne_two (show (decide ((none : Option Addr) = none)) = true from (decide_eq_true rfl)) (show (decide ((none : Option Addr) = none)) = true from (decide_eq_true rfl)) rfl)) rfl ?_)
                    refine xl_op (P := Try.prog) (some 173) rfl rfl (ox_move (v := (.bool false)) rfl ?_)
                    refine xl_opg (P := Try.prog) (some 174) (j := 16) (b := false) rfl rfl rfl (ox_move (v := (.slice (some ⟨gv, 0, none⟩) NM c7)) g17_f3 ?_)
                    refine xl_opg (P := Try.prog) (some 175) (j := 16) (b := false) rfl rfl rfl (ox_move (v := (.slice Am NM cm)) g13_f3 ?_)
                    refine xl_opg (P := Try.prog) (some 176) (j := 16) (b := false) rfl rfl rfl (ox_len (A := Am) (n := NM) (cp := cm) rfl tU_54 rfl ?_)
                    refine xl_opg (P := Try.prog) (some 177) (j := 16) (b := false) rfl rfl rfl (ox_add64 (a := (((NM : Nat) : Int))) (b := 1) rfl rfl (by omega) ?_)
                    refine xl_opg (P := Try.prog) (some 178) (j := 16) (b := false) rfl rfl rfl (ox_sliceToN (A := (some ⟨gv, 0, none⟩)) (cp := c7) (i := (((NM : Nat) : Int) + 1)) ((NM + 1)) tE_54 rfl rfl (by omega) (by omega) (by omega) ?_)
                    refine xl_opg (P := Try.prog) (some 179) (j := 16) (b := false) rfl rfl rfl (ox_move (v := (.slice Am NM cm)) g13_f3 ?_)
                    refine xl_opg (P := Try.prog) (some 180) (j := 16) (b := false) rfl rfl rfl (ox_len (A := Am) (n := NM) (cp := cm) rfl tU_54 rfl ?_)
                    refine xl_opg (P := Try.prog) (some 181) (j := 16) (b := false) rfl rfl rfl (ox_indexAddr (b := gv) (o := 0) (i := (((NM : Nat) : Int))) tE_54 rfl rfl (by omega) (by omega) ?_)
                    refine xl_opg (P := Try.prog) (some 182) (j := 16) (b := false) rfl rfl rfl (ox_fieldAddr (b := gv) (o := (0 + (((NM : Nat) : Int) : Int).toNat * 9)) tF_88_0 rfl ?_)
                    refine xl_opg (P := Try.prog) (some 183) (j := 16) (b := false) rfl rfl rfl (ox_load (v := (.int .i64 77)) tA_3 rfl (by have h9 := Own.opv (q8.ext e22) (i := NM) (e := opM) (by rw [← hMN]; simp); simpa [OpD.cs] using h9.1) ?_)
                    refine xl_opg (P := Try.prog) (some 184) (j := 16) (b := false) rfl rfl rfl (ox_neq (k := .i64) (a := 77) (b := 77) rfl rfl ?_)
                    refine xl_op (P := Try.prog) (some 185) rfl rfl (ox_pick_f (v := (.bool (decide ((77 : Int) ≠ 77)))) rfl rfl ?_)
                    refine xl_nil ?_
                    refine xc_cond_f (congrArg Value.bool (by decide : decide ((77 : Int) ≠ 77) = false)) ?_
                    refine xc_skip ?_
                    refine xc_seq ?_
                    refine xc_seq ?_
                    refine xc_region ?_
                    refine xl_op (P := Try.prog) (some 186) rfl rfl (ox_move (v := (.pointer none)) rfl ?_)
                    refine xl_op (P := Try.prog) (some 187) rfl rfl (ox_neqNil (p := none) (q := none) tU_36 rfl rfl (.inr rfl) ?_)
                    refine xl_op (P := Try.prog) (some 188) rfl rfl (ox_move (v := (.bool (decide ((none : Option Addr) ≠ none)))) rfl ?_)
                    refine xl_skip (some 189) (j := 2) (b := true) false rfl rfl (congrArg some (decide_eq_false (by simp))) (by decide) ?_
                    refine xl_skip (some 190) (j := 2) (b := true) false rfl rfl (congrArg some (decide_eq_false (by simp))) (by decide) ?_
                    refine xl_op (P := Try.prog) (some 191) rfl rfl (ox_pick_f (v := (.bool false)) (congrArg Value.bool (decide_eq_false (by simp))) rfl ?_)
                    refine xl_op (P := Try.prog) (some 192) rfl rfl (ox_move (v := (.bool false)) rfl ?_)
                    refine xl_skip (some 193) (j := 6) (b := true) false rfl rfl rfl (by decide) ?_
                    refine xl_skip (some 194) (j := 6) (b := true) false rfl rfl rfl (by decide) ?_
                    refine xl_skip (some 195) (j := 6) (b := true) false rfl rfl rfl (by decide) ?_
                    refine xl_skip (some 196) (j := 6) (b := true) false rfl rfl rfl (by decide) ?_
                    refine xl_skip (some 197) (j := 6) (b := true) false rfl rfl rfl (by decide) ?_
                    refine xl_op (P := Try.prog) (some 198) rfl rfl (ox_pick_f (v := (.bool false)) rfl rfl ?_)
                    refine xl_op (P := Try.prog) (some 199) rfl rfl (ox_move (v := (.bool false)) rfl ?_)
                    refine xl_skip (some 200) (j := 13) (b := true) false rfl rfl rfl (by decide) ?_
                    refine xl_skip (some 201) (j := 13) (b := true) false rfl rfl rfl (by decide) ?_
                    refine xl_skip (some 202) (j := 13) (b := true) false rfl rfl rfl (by decide) ?_
                    refine xl_skip (some 203) (j := 13) (b := true) false rfl rfl rfl (by decide) ?_
                    refine xl_skip (some 204) (j := 13) (b := true) false rfl rfl rfl (by decide) ?_
                    refine xl_op (P := Try.prog) (some 205) rfl rfl (ox_pick_f (v := (.bool false)) rfl rfl ?_)
                    refine xl_nil ?_
                    refine xc_cond_f rfl ?_
                    refine xc_skip ?_
                    refine xc_seq ?_
                    refine xc_region ?_
                    refine xl_op (P := Try.prog) (some 23) rfl rfl (ox_assign (v := (.slice none 0 0)) rfl ?_)
                    refine xl_nil ?_
                    refine xc_seq ?_
                    refine xc_seq ?_
                    refine xc_region ?_
                    refine xl_op (P := Try.prog) (some 206) rfl rfl (ox_move (v := (.slice Am NM cm)) g13_f3 ?_)
                    refine xl_op (P := Try.prog) (some 207) rfl rfl (ox_len (A := Am) (n := NM) (cp := cm) rfl tU_54 rfl ?_)
                    refine xl_op (P := Try.prog) (some 208) rfl rfl (ox_sub64 (a := (((NM : Nat) : Int))) (b := 1) rfl rfl (by omega) ?_)
                    refine xl_op (P := Try.prog) (some 24) rfl rfl (ox_assign (v := (.int .i64 (((NM : Nat) : Int) - 1))) rfl ?_)
                    refine xl_nil ?_
                    refine xc_block ?_
                    have hr0 := (q9.ext e22)
                    have hr1 := (q8.ext e22)
                    have q10 := (((ids_f3.ext e19).ext e20).keep1 e21 (fun k hk => ((ids_f3.ext e19).ext e20).ne_blk ((blk_s_f3.ext e19).ext e20) (by decide) k hk))
                    have hr2 := (q10.ext e22)
                    have hr3 := (hs9.ext e22)
                    have hCr := (Chg.ext (Chg.chg1 (Chg.ext (Chg.ext c_f3 e19) e20) e21 (by first | (left; rfl) | (right; omega))) e22)
                    have hzr := hCr.size
                    have hlgr : gv < w25.heap.size := hr1.lt gv rfl
                    refine xc_loopN (fun m f W => ∃ (j : Nat) (Ab : Option Addr) (cb : Nat), m = NM - j ∧ j ≤ NM ∧ f 9 = (.pointer (some ⟨bg, 0, none⟩)) ∧ f 11 = (.slice Ai i6 ci) ∧ f 13 = (.slice Am NM cm) ∧ f 16 = (.int .i64 ((qa : Nat))) ∧ f 17 = (.slice (some ⟨gv, 0, none⟩) NM c7) ∧ f 18 = (.int .i64 ((r : Nat))) ∧ f 23 = (.slice Ab j cb) ∧ f 24 = (.int .i64 (((NM : Nat) : Int) - 1 - (j : Nat))) ∧ Vx.Own W 88 9 (.slice Ab j cb) j (opC (M.reverse.take j)) ∧ (∀ k, ((.slice Ab j cb) : Value).ownBlock = some k → w25.heap.size ≤ k) ∧ Ext w25 W) (NM) ?_ ?_
                    · exact ⟨0, none, 0, by omega, by omega, g9_f3, g11_f3, g13_f3, g16_f3, g17_f3, g18_f3, rfl, (by first | exact rfl | exact (congrArg (Value.int .i64) (by omega))), (Vx.Own.nil _ _ _), (by simp [Value.ownBlock]), (Chg.refl _ _)⟩
                    · rintro m f4 w26 ⟨j, Ab, cb, hm, hj, g9_f4, g11_f4, g13_f4, g16_f4, g17_f4, g18_f4, g23_f4, g24_f4, back_f4, lb_f4, x_f4⟩
                      have hzX := x_f4.size
                      refine xc_seq ?_
                      refine xc_seq ?_
                      refine xc_region ?_
                      refine xl_op (P := Try.prog) (some 209) rfl rfl (ox_move (v := (.int .i64 (((NM : Nat) : Int) - 1 - (j : Nat)))) g24_f4 ?_)
                      refine xl_op (P := Try.prog) (some 210) rfl rfl (ox_geq (k := .i64) (a := (((NM : Nat) : Int) - 1 - (j : Nat))) (b := 0) rfl rfl ?_)
                      refine xl_nil ?_
                      refine xc_if (p := (0 : Int) ≤ (((NM : Nat) : Int) - 1 - (j : Nat))) rfl (fun h9 => ?_) (fun h9 => ?_)
                      · skip
                        have hjl : j < NM := by omega
                        obtain ⟨z, hz⟩ := get_ex (l := M) (i := NM - 1 - j) (by omega)
                        obtain ⟨gm, cm9, heqm, _⟩ := hr0.some_of (by omega)
                        simp only [Value.slice.injEq, true_and] at heqm
                        obtain ⟨rfl, rfl⟩ := heqm
                        have hcz := Own.opv hr0 hz
                        refine xc_skip ?_
                        refine xc_seq ?_
                        refine xc_block ?_
                        refine xc_region ?_
                        refine xl_op (P := Try.prog) (some 213) rfl rfl (ox_move (v := (.slice Ab j cb)) g23_f4 ?_)
                        refine xl_op (P := Try.prog) (some 214) rfl rfl (ox_move (v := (.slice (some ⟨gm, 0, none⟩) NM cm)) g13_f4 ?_)
                        refine xl_op (P := Try.prog) (some 215) rfl rfl (ox_move (v := (.int .i64 (((NM : Nat) : Int) - 1 - (j : Nat)))) g24_f4 ?_)
                        refine xl_op (P := Try.prog) (some 216) rfl rfl (ox_indexAddr (b := gm) (o := 0) (i := (((NM : Nat) : Int) - 1 - (j : Nat))) tE_54 rfl rfl (by omega) (by omega) ?_)
                        refine xl_op (P := Try.prog) (some 217) rfl rfl (ox_loadN (vs := [(.int .i64 z.d), (.int .i64 z.id), (.int .i64 z.kind), (.int .i64 z.n), (.int .i64 z.kids), (.int .i64 z.lf.kind), (.int .i64 z.lf.skip), (.int .i64 z.lf.len), (.int .i64 z.lf.reach)]) tA_88 tS_88 rfl rfl (by rw [show 0 + (((NM : Nat) : Int) - 1 - (j : Nat)).toNat * 9 = (NM - 1 - j) * 9 by omega]; exact CellsL.keep x_f4 not_false hcz) ?_)
                        refine xl_op (P := Try.prog) (some 218) rfl rfl (ox_mkSlice (ps := [(0, (.agg #[(.int .i64 z.d), (.int .i64 z.id), (.int .i64 z.kind), (.int .i64 z.n), (.int .i64 z.kids), (.int .i64 z.lf.kind), (.int .i64 z.lf.skip), (.int .i64 z.lf.len), (.int .i64 z.lf.reach)]))]) (zs := #[(.int .i64 0), (.int .i64 0), (.int .i64 0), (.int .i64 0), (.int .i64 0), (.int .i64 0), (.int .i64 0), (.int .i64 0), (.int .i64 0)]) (cs := #[(.int .i64 z.d), (.int .i64 z.id), (.int .i64 z.kind), (.int .i64 z.n), (.int .i64 z.kids), (.int .i64 z.lf.kind), (.int .i64 z.lf.skip), (.int .i64 z.lf.len), (.int .i64 z.lf.reach)]) tE_54 rfl (by decide) (by kernel_rfl) (by kernel_rfl) ?_)
                        intro w27 e23 z12 b11
                        replace b11 : Blk w27 w26.heap.size #[(.int .i64 z.d), (.int .i64 z.id), (.int .i64 z.kind), (.int .i64 z.n), (.int .i64 z.kids), (.int .i64 z.lf.kind), (.int .i64 z.lf.skip), (.int .i64 z.lf.len), (.int .i64 z.lf.reach)] 88 := b11
                        refine xl_op (P := Try.prog) (some 219) rfl rfl (ox_append (n := j) (g := w26.heap.size) (o := 0) (m := 1) (xs := ((opC (M.reverse.take j)))) (news := ([(.int .i64 z.d), (.int .i64 z.id), (.int .i64 z.kind), (.int .i64 z.n), (.int .i64 z.kids), (.int .i64 z.lf.kind), (.int .i64 z.lf.skip), (.int .i64 z.lf.len), (.int .i64 z.lf.reach)])) rfl tE_54 rfl (by decide) (v := (.slice Ab j cb)) rfl rfl (back_f4.ext e23) rfl b11.all rfl (by omega) (by omega) ?_)
                        intro v8 w28 o8 e24 at8 nil8
                        have he24 := e24.size
                        obtain ⟨A8, c8, rfl, hc8⟩ := o8.shape
                        have low8 : ∀ _k, (Value.slice A8 (j + 1) c8).ownBlock = some _k → w25.heap.size ≤ _k := fun _k _h => by rcases at8 with _e | _e <;> rw [_e] at _h; exact lb_f4 _k _h; exact (by cases _h; omega)
                        refine xl_op (P := Try.prog) (some 23) rfl rfl (ox_assign (v := (.slice A8 (j + 1) c8)) rfl ?_)
                        refine xl_nil ?_
                        refine xc_region ?_
                        refine xl_op (P := Try.prog) (some 211) rfl rfl (ox_move (v := (.int .i64 (((NM : Nat) : Int) - 1 - (j : Nat)))) g24_f4 ?_)
                        refine xl_op (P := Try.prog) (some 212) rfl rfl (ox_sub64 (a := (((NM : Nat) : Int) - 1 - (j : Nat))) (b := 1) rfl rfl (by omega) ?_)
                        refine xl_op (P := Try.prog) (some 24) rfl rfl (ox_assign (v := (.int .i64 (((NM : Nat) : Int) - 1 - (j : Nat) - 1))) rfl ?_)
                        refine xl_nil ?_
                        have ho9 := o8
                        have hsz0 := e23.size
                        have hsz1 := e24.size
                        have htk : M.reverse.take (j + 1) = M.reverse.take j ++ [z] := take_succ' (by rw [List.getElem?_reverse (by omega)]; rw [hMN]; exact hz)
                        exact ⟨rfl, NM - (j + 1), by omega, j + 1, A8, c8, by omega, by omega, g9_f4, g11_f4, g13_f4, g16_f4, g17_f4, g18_f4, rfl, (by first | exact rfl | exact (congrArg (Value.int .i64) (by omega))), (by rw [htk, opC, List.flatMap_append]; simpa [OpD.cs, opC] using ho9), (fun k hk => low8 k (ownBlock_len hk)), (Chg.trans (Ext.trans x_f4 e23) e24 (fun b hb hl => absurd hl (by have := lb_f4 b hb; omega)))⟩
                      · skip
                        refine xc_exit ?_
                        refine xc_seq ?_
                        refine xc_region ?_
                        refine xl_op (P := Try.prog) (some 220) rfl rfl (ox_move (v := (.slice Ab j cb)) g23_f4 ?_)
                        refine xl_op (P := Try.prog) (some 13) rfl rfl (ox_assign (v := (.slice Ab j cb)) rfl ?_)
                        refine xl_nil ?_
                        refine xc_region ?_
                        refine xl_op (P := Try.prog) (some 221) rfl rfl (ox_move (v := (.slice (some ⟨gv, 0, none⟩) NM c7)) g17_f4 ?_)
                        refine xl_op (P := Try.prog) (some 222) rfl rfl (ox_move (v := (.slice Ab j cb)) rfl ?_)
                        have hjN : j = NM := by omega
                        have hbk := back_f4
                        have hlb := lb_f4
                        rw [hjN, List.take_of_length_le (by rw [List.length_reverse]; omega)] at hbk
                        rw [hjN] at hlb
                        have hbr := Own.rowO hbk
                        refine xl_op (P := Try.prog) (some 223) rfl rfl (ox_copyR (n := NM) (cp' := cb) (g := gv) (N := NM + 1) (cap := c7) (xs := opC (M ++ [opM])) (cs := opC M.reverse) rfl tE_54 rfl (by rw [hjN]; rfl) hbr (Vx.Own.ext hr1 x_f4) (by omega) (by rw [opC_len, List.length_reverse, hMN]) (opC_one _) ?_)
                        intro w29 e25 z13 hO1
                        rw [setL_opC M M.reverse [opM] (by simp)] at hO1
                        replace e25 : Chg1 gv w26 w29 := e25
                        refine xl_nil ?_
                        refine xc_region ?_
                        refine xl_op (P := Try.prog) (some 127) rfl rfl (ox_move (v := (.int .i64 ((r : Nat)))) g18_f4 ?_)
                        refine xl_op (P := Try.prog) (some 128) rfl rfl (ox_add64 (a := ((r : Nat))) (b := 1) rfl rfl (by omega) ?_)
                        refine xl_op (P := Try.prog) (some 18) rfl rfl (ox_assign (v := (.int .i64 ((r : Nat) + 1))) rfl ?_)
                        refine xl_nil ?_
                        have q11 := (hbk.keep1 e25 (fun k hk hh => by have h1 := hlb k hk; have h2 : k = gv := hh; omega))
                        have hq_back := q11
                        have hq_given := hO1
                        have q12 := ((Vx.Own.ext hr2 x_f4).keep1 e25 (fun k hk => fun hh => (Vx.Own.ext hr2 x_f4).ne_own (Vx.Own.ext hr1 x_f4) (by decide) k hk (by rw [hh]; rfl)))
                        have hq_ids := q12
                        have q13 := ((Blk.ext hr3 x_f4).keep1 e25 (fun hh => (Vx.Own.ext hr1 x_f4).ne_blk (Blk.ext hr3 x_f4) (by decide) _ rfl hh.symm))
                        have hq_s := q13
                        have hsz0 := e25.size
                        exact ⟨rfl, 2 - (r + 1), by omega, r + 1, M.reverse, Ab, cb, cn9, by omega, by omega, by rw [List.length_reverse]; exact hMN, fun o ho => hM o (by simpa using ho), by omega, g9_f4, g11_f4, (by rw [← hjN]; rfl), g16_f4, g17_f4, (by first | exact rfl | exact (congrArg (Value.int .i64) (by omega))), hq_back, hq_given, hq_ids, hq_s, (fun k hk => by have := hlb k hk; omega), (Chg.chg1 (Chg.ext hCr x_f4) e25 (by first | (left; rfl) | (right; omega)))⟩
                  · skip
                    have hsw := hs9
                    have hpa2 : PR w24 pa := PR.keep hC12 hpa (fun b hb hh => PR.off hsA (by decide) (by decide) hpa b hb hh)
                    have hskab : skz ((ts.length : Nat) : Int) pb = skel pa := hskb2.trans hska2.symm
                    have hosm : ∀ x ∈ us.map T.id, x ≤ ((ts.length : Nat) : Int) := by intro x hx; rw [← gok_ids hGM.ok] at hx; obtain ⟨t, ht, rfl⟩ := List.mem_map.1 hx; exact (hGM.ok.nid ht t (nodes_self t)).2
                    refine xc_region ?_
                    refine xl_op (P := Try.prog) (some 157) rfl rfl (ox_move (v := (.int .i64 eb)) rfl ?_)
                    refine xl_op (P := Try.prog) (some 158) rfl rfl (ox_move (v := (.int .i64 eb)) rfl ?_)
                    refine xl_op (P := Try.prog) (some 159) rfl rfl (ox_neq (k := .i64) (a := eb) (b := eb) rfl rfl ?_)
                    refine xl_op (P := Try.prog) (some 160) rfl rfl (ox_move (v := (.bool (decide ((eb : Int) ≠ eb)))) rfl ?_)
                    refine xl_opg (P := Try.prog) (some 161) (j := 3) (b := false) rfl rfl (congrArg some (by simp : decide ((eb : Int) ≠ eb) = false)) (ox_move (v := (.pointer (some ⟨pb.b, 0, none⟩))) rfl ?_)
                    refine xl_opg (P := Try.prog) (some 162) (j := 3) (b := false) rfl rfl (congrArg some (by simp : decide ((eb : Int) ≠ eb) = false)) (ox_eqlNil (p := (some ⟨pb.b, 0, none⟩ : Option Addr)) (q := none) tU_36 rfl rfl (.inr rfl) ?_)
                    refine xl_opg (P := Try.prog) (some 163) (j := 3) (b := false) rfl rfl (congrArg some (by simp : decide ((eb : Int) ≠ eb) = false)) (ox_move (v := (.pointer (some ⟨pa.b, 0, none⟩))) rfl ?_)
                    refine xl_opg (P := Try.prog) (some 164) (j := 3) (b := false) rfl rfl (congrArg some (by simp : decide ((eb : Int) ≠ eb) = false)) (ox_eqlNil (p := (some ⟨pa.b, 0, none⟩ : Option Addr)) (q := none) tU_38 rfl rfl (.inr rfl) ?_)
                    refine xl_opg (P := Try.prog) (some 165) (j := 3) (b := false) rfl rfl (congrArg some (by simp : decide ((eb : Int) ≠ eb) = false)) (ox_neqBool (a := ((decide ((some ⟨pb.b, 0, none⟩ : Option Addr) = none)))) (b := ((decide ((some ⟨pa.b, 0, none⟩ : Option Addr) = none)))) tU_4 rfl rfl ?_)
                    refine xl_op (P := Try.prog) (some 166) rfl rfl (ox_pick_f (v := (.bool (((decide ((some ⟨pb.b, 0, none⟩ : Option Addr) = none)) != (decide ((some ⟨pa.b, 0, none⟩ : Option Addr) = none)))))) (congrArg Value.bool (by simp : decide ((eb : Int) ≠ eb) = false)) rfl ?_)
                    refine xl_op (P := Try.prog) (some 167) rfl rfl (ox_move (v := (.bool (((decide ((some ⟨pb.b, 0, none⟩ : Option Addr) = none)) != (decide ((some ⟨pa.b, 0, none⟩ : Option Addr) = none)))))) rfl ?_)
                    refine xl_opg (P := Try.prog) (some 168) (j := 10) (b := false) rfl rfl (congrArg some (ne_two (show (decide ((some ⟨pb.b, 0, none⟩ : Option Addr) = none)) = false from (decide_eq_false (by simp))) (show (decide ((some ⟨pa.b, 0, none⟩ : Option Addr) = none)) = false from (decide_eq_false (by simp))) rfl)) (ox_move (v := (.slice (some ⟨gv, 0, none⟩) NM c7)) g17_f3 ?_)
                    refine xl_opg (P := Try.prog) (some 169) (j := 10) (b := false) rfl rfl (congrArg some (ne_two (show (decide ((some ⟨pb.b, 0, none⟩ : Option Addr) = none)) = false from (decide_eq_false (by simp))) (show (decide ((some ⟨pa.b, 0, none⟩ : Option Addr) = none)) = false from (decide_eq_false (by simp))) rfl)) (ox_move (v := (.slice Am NM cm)) g13_f3 ?_)
                    have q14 := (((given_f3.ext e19).ext e20).keep1 e21 (fun k hk => ((given_f3.ext e19).ext e20).ne_blk ((blk_s_f3.ext e19).ext e20) (by decide) k hk))
                    have q15 := (((mine_f3.ext e19).ext e20).keep1 e21 (fun k hk => ((mine_f3.ext e19).ext e20).ne_blk ((blk_s_f3.ext e19).ext e20) (by decide) k hk))
                    refine xl_opg (P := Try.prog) (some 170) (j := 10) (b := false) rfl rfl (congrArg some (ne_two (show (decide ((some ⟨pb.b, 0, none⟩ : Option Addr) = none)) = false from (decide_eq_false (by simp))) (show (decide ((some ⟨pa.b, 0, none⟩ : Option Addr) = none)) = false from (decide_eq_false (by simp))) rfl)) (ox_callE (al := [(.slice (some ⟨gv, 0, none⟩) NM c7), (.slice Am NM cm)]) pf_23 rfl (ret_mono ((by have h := sameOps_eq M (some ⟨gv, 0, none⟩) Am c7 cm w24 (Own.frontO (ms := [opM]) q14 hMN) (Own.rowO q15) (by omega); rw [hMN] at h; exact h)) ?_))
                    rintro _ w30 ⟨rfl, e26⟩
                    have he26 := e26.size
                    refine xl_opg (P := Try.prog) (some 171) (j := 10) (b := false) rfl rfl (congrArg some (ne_two (show (decide ((some ⟨pb.b, 0, none⟩ : Option Addr) = none)) = false from (decide_eq_false (by simp))) (show (decide ((some ⟨pa.b, 0, none⟩ : Option Addr) = none)) = false from (decide_eq_false (by simp))) rfl)) (ox_not (b := true) rfl ?_)
                    refine xl_op (P := Try.prog) (some 172) rfl rfl (ox_pick_f (v := (.bool false)) (congrArg Value.bool (ne_two (show (decide ((some ⟨pb.b, 0, none⟩ : Option Addr) = none)) = false from (decide_eq_false (by simp))) (show (decide ((some ⟨pa.b, 0, none⟩ : Option Addr) = none)) = false from (decide_eq_false (by simp))) rfl)) rfl ?_)
                    refine xl_op (P := Try.prog) (some 173) rfl rfl (ox_move (v := (.bool false)) rfl ?_)
                    refine xl_opg (P := Try.prog) (some 174) (j := 16) (b := false) rfl rfl rfl (ox_move (v := (.slice (some ⟨gv, 0, none⟩) NM c7)) g17_f3 ?_)
                    refine xl_opg (P := Try.prog) (some 175) (j := 16) (b := false) rfl rfl rfl (ox_move (v := (.slice Am NM cm)) g13_f3 ?_)
                    refine xl_opg (P := Try.prog) (some 176) (j := 16) (b := false) rfl rfl rfl (ox_len (A := Am) (n := NM) (cp := cm) rfl tU_54 rfl ?_)
                    refine xl_opg (P := Try.prog) (some 177) (j := 16) (b := false) rfl rfl rfl (ox_add64 (a := (((NM : Nat) : Int))) (b := 1) rfl rfl (by omega) ?_)
                    refine xl_opg (P := Try.prog) (some 178) (j := 16) (b := false) rfl rfl rfl (ox_sliceToN (A := (some ⟨gv, 0, none⟩)) (cp := c7) (i := (((NM : Nat) : Int) + 1)) ((NM + 1)) tE_54 rfl rfl (by omega) (by omega) (by omega) ?_)
                    refine xl_opg (P := Try.prog) (some 179) (j := 16) (b := false) rfl rfl rfl (ox_move (v := (.slice Am NM cm)) g13_f3 ?_)
                    refine xl_opg (P := Try.prog) (some 180) (j := 16) (b := false) rfl rfl rfl (ox_len (A := Am) (n := NM) (cp := cm) rfl tU_54 rfl ?_)
                    refine xl_opg (P := Try.prog) (some 181) (j := 16) (b := false) rfl rfl rfl (ox_indexAddr (b := gv) (o := 0) (i := (((NM : Nat) : Int))) tE_54 rfl rfl (by omega) (by omega) ?_)
                    refine xl_opg (P := Try.prog) (some 182) (j := 16) (b := false) rfl rfl rfl (ox_fieldAddr (b := gv) (o := (0 + (((NM : Nat) : Int) : Int).toNat * 9)) tF_88_0 rfl ?_)
                    refine xl_opg (P := Try.prog) (some 183) (j := 16) (b := false) rfl rfl rfl (ox_load (v := (.int .i64 77)) tA_3 rfl (by have h9 := Own.opv (q14.ext e26) (i := NM) (e := opM) (by rw [← hMN]; simp); simpa [OpD.cs] using h9.1) ?_)
                    refine xl_opg (P := Try.prog) (some 184) (j := 16) (b := false) rfl rfl rfl (ox_neq (k := .i64) (a := 77) (b := 77) rfl rfl ?_)
                    refine xl_op (P := Try.prog) (some 185) rfl rfl (ox_pick_f (v := (.bool (decide ((77 : Int) ≠ 77)))) rfl rfl ?_)
                    refine xl_nil ?_
                    refine xc_cond_f (congrArg Value.bool (by decide : decide ((77 : Int) ≠ 77) = false)) ?_
                    refine xc_skip ?_
                    refine xc_seq ?_
                    refine xc_seq ?_
                    refine xc_region ?_
                    refine xl_op (P := Try.prog) (some 186) rfl rfl (ox_move (v := (.pointer (some ⟨pb.b, 0, none⟩))) rfl ?_)
                    refine xl_op (P := Try.prog) (some 187) rfl rfl (ox_neqNil (p := (some ⟨pb.b, 0, none⟩ : Option Addr)) (q := none) tU_36 rfl rfl (.inr rfl) ?_)
                    refine xl_op (P := Try.prog) (some 188) rfl rfl (ox_move (v := (.bool (decide ((some ⟨pb.b, 0, none⟩ : Option Addr) ≠ none)))) rfl ?_)
                    refine xl_opg (P := Try.prog) (some 189) (j := 2) (b := true) rfl rfl (congrArg some (decide_eq_true (by simp))) (ox_move (v := (.pointer (some ⟨pa.b, 0, none⟩))) rfl ?_)
                    refine xl_opg (P := Try.prog) (some 190) (j := 2) (b := true) rfl rfl (congrArg some (decide_eq_true (by simp))) (ox_neqNil (p := (some ⟨pa.b, 0, none⟩ : Option Addr)) (q := none) tU_38 rfl rfl (.inr rfl) ?_)
                    refine xl_op (P := Try.prog) (some 191) rfl rfl (ox_pick_t (v := (.bool (decide ((some ⟨pa.b, 0, none⟩ : Option Addr) ≠ none)))) (congrArg Value.bool (decide_eq_true (by simp))) rfl ?_)
                    refine xl_op (P := Try.prog) (some 192) rfl rfl (ox_move (v := (.bool (decide ((some ⟨pa.b, 0, none⟩ : Option Addr) ≠ none)))) rfl ?_)
                    refine xl_opg (P := Try.prog) (some 193) (j := 6) (b := true) rfl rfl (congrArg some (decide_eq_true (by simp))) (ox_move (v := (.pointer (some ⟨pa.b, 0, none⟩))) rfl ?_)
                    refine xl_opg (P := Try.prog) (some 194) (j := 6) (b := true) rfl rfl (congrArg some (decide_eq_true (by simp))) (ox_nilCheck (p := ⟨pa.b, 0, none⟩) rfl ?_)
                    refine xl_opg (P := Try.prog) (some 195) (j := 6) (b := true) rfl rfl (congrArg some (decide_eq_true (by simp))) (ox_fieldAddr (b := pa.b) (o := 0) tF_86_3 rfl ?_)
                    refine xl_opg (P := Try.prog) (some 196) (j := 6) (b := true) rfl rfl (congrArg some (decide_eq_true (by simp))) (ox_load (v := (.int .i64 (sz pa))) tA_3 rfl ((hpa2.blk.ext e26).cell rfl) ?_)
                    refine xl_opg (P := Try.prog) (some 197) (j := 6) (b := true) rfl rfl (congrArg some (decide_eq_true (by simp))) (ox_leq (k := .i64) (a := (sz pa)) (b := 3000) rfl rfl ?_)
                    refine xl_op (P := Try.prog) (some 198) rfl rfl (ox_pick_t (v := (.bool (decide ((sz pa : Int) ≤ 3000)))) (congrArg Value.bool (decide_eq_true (by simp))) rfl ?_)
                    refine xl_op (P := Try.prog) (some 199) rfl rfl (ox_move (v := (.bool (decide ((sz pa : Int) ≤ 3000)))) rfl ?_)
                    by_cases h10 : (sz pa : Int) ≤ 3000
                    · skip
                      refine xl_opg (P := Try.prog) (some 200) (j := 13) (b := true) rfl rfl (congrArg some (decide_eq_true h10)) (ox_move (v := (.pointer (some ⟨pb.b, 0, none⟩))) rfl ?_)
                      refine xl_opg (P := Try.prog) (some 201) (j := 13) (b := true) rfl rfl (congrArg some (decide_eq_true h10)) (ox_move (v := (.pointer (some ⟨pa.b, 0, none⟩))) rfl ?_)
                      refine xl_opg (P := Try.prog) (some 202) (j := 13) (b := true) rfl rfl (congrArg some (decide_eq_true h10)) (ox_move (v := (.slice Ai i6 ci)) g11_f3 ?_)
                      have q16 := (((ids_f3.ext e19).ext e20).keep1 e21 (fun k hk => ((ids_f3.ext e19).ext e20).ne_blk ((blk_s_f3.ext e19).ext e20) (by decide) k hk))
                      refine xl_opg (P := Try.prog) (some 203) (j := 13) (b := true) rfl rfl (congrArg some (decide_eq_true h10)) (ox_callE (al := [(.pointer (some ⟨pb.b, 0, none⟩)), (.pointer (some ⟨pa.b, 0, none⟩)), (.slice Ai i6 ci)]) pf_37 rfl (ret_mono ((by have h := alike_calls (.pointer (some ⟨s, 0, none⟩)) ((ts.length : Nat) : Int) (us.map T.id) Ai ci pb pa w30 (PN.keep (Chg.ext (Chg.refl (fun x => x = s) w24) e26) hpb (fun b hb hh => PN.off hs9 (by decide) (by decide) hpb b hb hh)) (PR.keep (Chg.ext (Chg.refl (fun x => x = s) w24) e26) hpa2 (fun b hb hh => PR.off hs9 (by decide) (by decide) hpa2 b hb hh)) hskab hidb (by rw [List.map_map]; exact Own.rowO (q16.ext e26)) hosm (by simp; omega) hzb; rw [List.length_map, hI] at h; exact h)) ?_))
                      rintro _ w31 ⟨rfl, e27⟩
                      have he27 := e27.size
                      refine xl_opg (P := Try.prog) (some 204) (j := 13) (b := true) rfl rfl (congrArg some (decide_eq_true h10)) (ox_not (b := true) rfl ?_)
                      refine xl_op (P := Try.prog) (some 205) rfl rfl (ox_pick_t (v := (.bool false)) (congrArg Value.bool (decide_eq_true h10)) rfl ?_)
                      refine xl_nil ?_
                      refine xc_cond_f rfl ?_
                      refine xc_skip ?_
                      refine xc_seq ?_
                      refine xc_region ?_
                      refine xl_op (P := Try.prog) (some 23) rfl rfl (ox_assign (v := (.slice none 0 0)) rfl ?_)
                      refine xl_nil ?_
                      refine xc_seq ?_
                      refine xc_seq ?_
                      refine xc_region ?_
                      refine xl_op (P := Try.prog) (some 206) rfl rfl (ox_move (v := (.slice Am NM cm)) g13_f3 ?_)
                      refine xl_op (P := Try.prog) (some 207) rfl rfl (ox_len (A := Am) (n := NM) (cp := cm) rfl tU_54 rfl ?_)
                      refine xl_op (P := Try.prog) (some 208) rfl rfl (ox_sub64 (a := (((NM : Nat) : Int))) (b := 1) rfl rfl (by omega) ?_)
                      refine xl_op (P := Try.prog) (some 24) rfl rfl (ox_assign (v := (.int .i64 (((NM : Nat) : Int) - 1))) rfl ?_)
                      refine xl_nil ?_
                      refine xc_block ?_
                      have hr0 := ((q15.ext e26).ext e27)
                      have hr1 := ((q14.ext e26).ext e27)
                      have hr2 := ((q16.ext e26).ext e27)
                      have hr3 := ((hs9.ext e26).ext e27)
                      have hCr := (Chg.ext (Chg.ext (Chg.chg1 (Chg.ext (Chg.ext c_f3 e19) e20) e21 (by first | (left; rfl) | (right; omega))) e26) e27)
                      have hzr := hCr.size
                      have hlgr : gv < w31.heap.size := hr1.lt gv rfl
                      refine xc_loopN (fun m f W => ∃ (j : Nat) (Ab : Option Addr) (cb : Nat), m = NM - j ∧ j ≤ NM ∧ f 9 = (.pointer (some ⟨bg, 0, none⟩)) ∧ f 11 = (.slice Ai i6 ci) ∧ f 13 = (.slice Am NM cm) ∧ f 16 = (.int .i64 ((qa : Nat))) ∧ f 17 = (.slice (some ⟨gv, 0, none⟩) NM c7) ∧ f 18 = (.int .i64 ((r : Nat))) ∧ f 23 = (.slice Ab j cb) ∧ f 24 = (.int .i64 (((NM : Nat) : Int) - 1 - (j : Nat))) ∧ Vx.Own W 88 9 (.slice Ab j cb) j (opC (M.reverse.take j)) ∧ (∀ k, ((.slice Ab j cb) : Value).ownBlock = some k → w31.heap.size ≤ k) ∧ Ext w31 W) (NM) ?_ ?_
                      · exact ⟨0, none, 0, by omega, by omega, g9_f3, g11_f3, g13_f3, g16_f3, g17_f3, g18_f3, rfl, (by first | exact rfl | exact (congrArg (Value.int .i64) (by omega))), (Vx.Own.nil _ _ _), (by simp [Value.ownBlock]), (Chg.refl _ _)⟩
                      · rintro m f5 w32 ⟨j, Ab, cb, hm, hj, g9_f5, g11_f5, g13_f5, g16_f5, g17_f5, g18_f5, g23_f5, g24_f5, back_f5, lb_f5, x_f5⟩
                        have hzX := x_f5.size
                        refine xc_seq ?_
                        refine xc_seq ?_
                        refine xc_region ?_
                        refine xl_op (P := Try.prog) (some 209) rfl rfl (ox_move (v := (.int .i64 (((NM : Nat) : Int) - 1 - (j : Nat)))) g24_f5 ?_)
                        refine xl_op (P := Try.prog) (some 210) rfl rfl (ox_geq (k := .i64) (a := (((NM : Nat) : Int) - 1 - (j : Nat))) (b := 0) rfl rfl ?_)
                        refine xl_nil ?_
                        refine xc_if (p := (0 : Int) ≤ (((NM : Nat) : Int) - 1 - (j : Nat))) rfl (fun h11 => ?_) (fun h11 => ?_)
                        · skip
                          have hjl : j < NM := by omega
                          obtain ⟨z, hz⟩ := get_ex (l := M) (i := NM - 1 - j) (by omega)
                          obtain ⟨gm, cm9, heqm, _⟩ := hr0.some_of (by omega)
                          simp only [Value.slice.injEq, true_and] at heqm
                          obtain ⟨rfl, rfl⟩ := heqm
                          have hcz := Own.opv hr0 hz
                          refine xc_skip ?_
                          refine xc_seq ?_
                          refine xc_block ?_
                          refine xc_region ?_
                          refine xl_op (P := Try.prog) (some 213) rfl rfl (ox_move (v := (.slice Ab j cb)) g23_f5 ?_)
                          refine xl_op (P := Try.prog) (some 214) rfl rfl (ox_move (v := (.slice (some ⟨gm, 0, none⟩) NM cm)) g13_f5 ?_)
                          refine xl_op (P := Try.prog) (some 215) rfl rfl (ox_move (v := (.int .i64 (((NM : Nat) : Int) - 1 - (j : Nat)))) g24_f5 ?_)
                          refine xl_op (P := Try.prog) (some 216) rfl rfl (ox_indexAddr (b := gm) (o := 0) (i := (((NM : Nat) : Int) - 1 - (j : Nat))) tE_54 rfl rfl (by omega) (by omega) ?_)
                          refine xl_op (P := Try.prog) (some 217) rfl rfl (ox_loadN (vs := [(.int .i64 z.d), (.int .i64 z.id), (.int .i64 z.kind), (.int .i64 z.n), (.int .i64 z.kids), (.int .i64 z.lf.kind), (.int .i64 z.lf.skip), (.int .i64 z.lf.len), (.int .i64 z.lf.reach)]) tA_88 tS_88 rfl rfl (by rw [show 0 + (((NM : Nat) : Int) - 1 - (j : Nat)).toNat * 9 = (NM - 1 - j) * 9 by omega]; exact CellsL.keep x_f5 not_false hcz) ?_)
                          refine xl_op (P := Try.prog) (some 218) rfl rfl (ox_mkSlice (ps := [(0, (.agg #[(.int .i64 z.d), (.int .i64 z.id), (.int .i64 z.kind), (.int .i64 z.n), (.int .i64 z.kids), (.int .i64 z.lf.kind), (.int .i64 z.lf.skip), (.int .i64 z.lf.len), (.int .i64 z.lf.reach)]))]) (zs := #[(.int .i64 0), (.int .i64 0), (.int .i64 0), (.int .i64 0), (.int .i64 0), (.int .i64 0), (.int .i64 0), (.int .i64 0), (.int .i64 0)]) (cs := #[(.int .i64 z.d), (.int .i64 z.id), (.int .i64 z.kind), (.int .i64 z.n), (.int .i64 z.kids), (.int .i64 z.lf.kind), (.int .i64 z.lf.skip), (.int .i64 z.lf.len), (.int .i64 z.lf.reach)]) tE_54 rfl (by decide) (by kernel_rfl) (by kernel_rfl) ?_)
                          intro w33 e28 z14 b12
                          replace b12 : Blk w33 w32.heap.size #[(.int .i64 z.d), (.int .i64 z.id), (.int .i64 z.kind), (.int .i64 z.n), (.int .i64 z.kids), (.int .i64 z.lf.kind), (.int .i64 z.lf.skip), (.int .i64 z.lf.len), (.int .i64 z.lf.reach)] 88 := b12
                          refine xl_op (P := Try.prog) (some 219) rfl rfl (ox_append (n := j) (g := w32.heap.size) (o := 0) (m := 1) (xs := ((opC (M.reverse.take j)))) (news := ([(.int .i64 z.d), (.int .i64 z.id), (.int .i64 z.kind), (.int .i64 z.n), (.int .i64 z.kids), (.int .i64 z.lf.kind), (.int .i64 z.lf.skip), (.int .i64 z.lf.len), (.int .i64 z.lf.reach)])) rfl tE_54 rfl (by decide) (v := (.slice Ab j cb)) rfl rfl (back_f5.ext e28) rfl b12.all rfl (by omega) (by omega) ?_)
                          intro v9 w34 o9 e29 at9 nil9
                          have he29 := e29.size
                          obtain ⟨A9, c9, rfl, hc9⟩ := o9.shape
                          have low9 : ∀ _k, (Value.slice A9 (j + 1) c9).ownBlock = some _k → w31.heap.size ≤ _k := fun _k _h => by rcases at9 with _e | _e <;> rw [_e] at _h; exact lb_f5 _k _h; exact (by cases _h; omega)
                          refine xl_op (P := Try.prog) (some 23) rfl rfl (ox_assign (v := (.slice A9 (j + 1) c9)) rfl ?_)
                          refine xl_nil ?_
                          refine xc_region ?_
                          refine xl_op (P := Try.prog) (some 211) rfl rfl (ox_move (v := (.int .i64 (((NM : Nat) : Int) - 1 - (j : Nat)))) g24_f5 ?_)
                          refine xl_op (P := Try.prog) (some 212) rfl rfl (ox_sub64 (a := (((NM : Nat) : Int) - 1 - (j : Nat))) (b := 1) rfl rfl (by omega) ?_)
                          refine xl_op (P := Try.prog) (some 24) rfl rfl (ox_assign (v := (.int .i64 (((NM : Nat) : Int) - 1 - (j : Nat) - 1))) rfl ?_)
                          refine xl_nil ?_
                          have ho9 := o9
                          have hsz0 := e28.size
                          have hsz1 := e29.size
                          have htk : M.reverse.take (j + 1) = M.reverse.take j ++ [z] := take_succ' (by rw [List.getElem?_reverse (by omega)]; rw [hMN]; exact hz)
                          exact ⟨rfl, NM - (j + 1), by omega, j + 1, A9, c9, by omega, by omega, g9_f5, g11_f5, g13_f5, g16_f5, g17_f5, g18_f5, rfl, (by first | exact rfl | exact (congrArg (Value.int .i64) (by omega))), (by rw [htk, opC, List.flatMap_append]; simpa [OpD.cs, opC] using ho9), (fun k hk => low9 k (ownBlock_len hk)), (Chg.trans (Ext.trans x_f5 e28) e29 (fun b hb hl => absurd hl (by have := lb_f5 b hb; omega)))⟩
                        · skip
                          refine xc_exit ?_
                          refine xc_seq ?_
                          refine xc_region ?_
                          refine xl_op (P := Try.prog) (some 220) rfl rfl (ox_move (v := (.slice Ab j cb)) g23_f5 ?_)
                          refine xl_op (P := Try.prog) (some 13) rfl rfl (ox_assign (v := (.slice Ab j cb)) rfl ?_)
                          refine xl_nil ?_
                          refine xc_region ?_
                          refine xl_op (P := Try.prog) (some 221) rfl rfl (ox_move (v := (.slice (some ⟨gv, 0, none⟩) NM c7)) g17_f5 ?_)
                          refine xl_op (P := Try.prog) (some 222) rfl rfl (ox_move (v := (.slice Ab j cb)) rfl ?_)
                          have hjN : j = NM := by omega
                          have hbk := back_f5
                          have hlb := lb_f5
                          rw [hjN, List.take_of_length_le (by rw [List.length_reverse]; omega)] at hbk
                          rw [hjN] at hlb
                          have hbr := Own.rowO hbk
                          refine xl_op (P := Try.prog) (some 223) rfl rfl (ox_copyR (n := NM) (cp' := cb) (g := gv) (N := NM + 1) (cap := c7) (xs := opC (M ++ [opM])) (cs := opC M.reverse) rfl tE_54 rfl (by rw [hjN]; rfl) hbr (Vx.Own.ext hr1 x_f5) (by omega) (by rw [opC_len, List.length_reverse, hMN]) (opC_one _) ?_)
                          intro w35 e30 z15 hO2
                          rw [setL_opC M M.reverse [opM] (by simp)] at hO2
                          replace e30 : Chg1 gv w32 w35 := e30
                          refine xl_nil ?_
                          refine xc_region ?_
                          refine xl_op (P := Try.prog) (some 127) rfl rfl (ox_move (v := (.int .i64 ((r : Nat)))) g18_f5 ?_)
                          refine xl_op (P := Try.prog) (some 128) rfl rfl (ox_add64 (a := ((r : Nat))) (b := 1) rfl rfl (by omega) ?_)
                          refine xl_op (P := Try.prog) (some 18) rfl rfl (ox_assign (v := (.int .i64 ((r : Nat) + 1))) rfl ?_)
                          refine xl_nil ?_
                          have q17 := (hbk.keep1 e30 (fun k hk hh => by have h1 := hlb k hk; have h2 : k = gv := hh; omega))
                          have hq_back := q17
                          have hq_given := hO2
                          have q18 := ((Vx.Own.ext hr2 x_f5).keep1 e30 (fun k hk => fun hh => (Vx.Own.ext hr2 x_f5).ne_own (Vx.Own.ext hr1 x_f5) (by decide) k hk (by rw [hh]; rfl)))
                          have hq_ids := q18
                          have q19 := ((Blk.ext hr3 x_f5).keep1 e30 (fun hh => (Vx.Own.ext hr1 x_f5).ne_blk (Blk.ext hr3 x_f5) (by decide) _ rfl hh.symm))
                          have hq_s := q19
                          have hsz0 := e30.size
                          exact ⟨rfl, 2 - (r + 1), by omega, r + 1, M.reverse, Ab, cb, cn9, by omega, by omega, by rw [List.length_reverse]; exact hMN, fun o ho => hM o (by simpa using ho), by omega, g9_f5, g11_f5, (by rw [← hjN]; rfl), g16_f5, g17_f5, (by first | exact rfl | exact (congrArg (Value.int .i64) (by omega))), hq_back, hq_given, hq_ids, hq_s, (fun k hk => by have := hlb k hk; omega), (Chg.chg1 (Chg.ext hCr x_f5) e30 (by first | (left; rfl) | (right; omega)))⟩
                    · skip
                      refine xl_skip (some 200) (j := 13) (b := true) false rfl rfl (congrArg some (decide_eq_false h10)) (by decide) ?_
                      refine xl_skip (some 201) (j := 13) (b := true) false rfl rfl (congrArg some (decide_eq_false h10)) (by decide) ?_
                      refine xl_skip (some 202) (j := 13) (b := true) false rfl rfl (congrArg some (decide_eq_false h10)) (by decide) ?_
                      refine xl_skip (some 203) (j := 13) (b := true) false rfl rfl (congrArg some (decide_eq_false h10)) (by decide) ?_
                      refine xl_skip (some 204) (j := 13) (b := true) false rfl rfl (congrArg some (decide_eq_false h10)) (by decide) ?_
                      refine xl_op (P := Try.prog) (some 205) rfl rfl (ox_pick_f (v := (.bool false)) (congrArg Value.bool (decide_eq_false h10)) rfl ?_)
                      refine xl_nil ?_
                      refine xc_cond_f rfl ?_
                      refine xc_skip ?_
                      refine xc_seq ?_
                      refine xc_region ?_
                      refine xl_op (P := Try.prog) (some 23) rfl rfl (ox_assign (v := (.slice none 0 0)) rfl ?_)
                      refine xl_nil ?_
                      refine xc_seq ?_
                      refine xc_seq ?_
                      refine xc_region ?_
                      refine xl_op (P := Try.prog) (some 206) rfl rfl (ox_move (v := (.slice Am NM cm)) g13_f3 ?_)
                      refine xl_op (P := Try.prog) (some 207) rfl rfl (ox_len (A := Am) (n := NM) (cp := cm) rfl tU_54 rfl ?_)
                      refine xl_op (P := Try.prog) (some 208) rfl rfl (ox_sub64 (a := (((NM : Nat) : Int))) (b := 1) rfl rfl (by omega) ?_)
                      refine xl_op (P := Try.prog) (some 24) rfl rfl (ox_assign (v := (.int .i64 (((NM : Nat) : Int) - 1))) rfl ?_)
                      refine xl_nil ?_
                      refine xc_block ?_
                      have hr0 := (q15.ext e26)
                      have hr1 := (q14.ext e26)
                      have q20 := (((ids_f3.ext e19).ext e20).keep1 e21 (fun k hk => ((ids_f3.ext e19).ext e20).ne_blk ((blk_s_f3.ext e19).ext e20) (by decide) k hk))
                      have hr2 := (q20.ext e26)
                      have hr3 := (hs9.ext e26)
                      have hCr := (Chg.ext (Chg.chg1 (Chg.ext (Chg.ext c_f3 e19) e20) e21 (by first | (left; rfl) | (right; omega))) e26)
                      have hzr := hCr.size
                      have hlgr : gv < w30.heap.size := hr1.lt gv rfl
                      refine xc_loopN (fun m f W => ∃ (j : Nat) (Ab : Option Addr) (cb : Nat), m = NM - j ∧ j ≤ NM ∧ f 9 = (.pointer (some ⟨bg, 0, none⟩)) ∧ f 11 = (.slice Ai i6 ci) ∧ f 13 = (.slice Am NM cm) ∧ f 16 = (.int .i64 ((qa : Nat))) ∧ f 17 = (.slice (some ⟨gv, 0, none⟩) NM c7) ∧ f 18 = (.int .i64 ((r : Nat))) ∧ f 23 = (.slice Ab j cb) ∧ f 24 = (.int .i64 (((NM : Nat) : Int) - 1 - (j : Nat))) ∧ Vx.Own W 88 9 (.slice Ab j cb) j (opC (M.reverse.take j)) ∧ (∀ k, ((.slice Ab j cb) : Value).ownBlock = some k → w30.heap.size ≤ k) ∧ Ext w30 W) (NM) ?_ ?_
                      · exact ⟨0, none, 0, by omega, by omega, g9_f3, g11_f3, g13_f3, g16_f3, g17_f3, g18_f3, rfl, (by first | exact rfl | exact (congrArg (Value.int .i64) (by omega))), (Vx.Own.nil _ _ _), (by simp [Value.ownBlock]), (Chg.refl _ _)⟩
                      · rintro m f6 w36 ⟨j, Ab, cb, hm, hj, g9_f6, g11_f6, g13_f6, g16_f6, g17_f6, g18_f6, g23_f6, g24_f6, back_f6, lb_f6, x_f6⟩
                        have hzX := x_f6.size
                        refine xc_seq ?_
                        refine xc_seq ?_
                        refine xc_region ?_
                        refine xl_op (P := Try.prog) (some 209) rfl rfl (ox_move (v := (.int .i64 (((NM : Nat) : Int) - 1 - (j : Nat)))) g24_f6 ?_)
                        refine xl_op (P := Try.prog) (some 210) rfl rfl (ox_geq (k := .i64) (a := (((NM : Nat) : Int) - 1 - (j : Nat))) (b := 0) rfl rfl ?_)
                        refine xl_nil ?_
                        refine xc_if (p := (0 : Int) ≤ (((NM : Nat) : Int) - 1 - (j : Nat))) rfl (fun h12 => ?_) (fun h12 => ?_)
                        · skip
                          have hjl : j < NM := by omega
                          obtain ⟨z, hz⟩ := get_ex (l := M) (i := NM - 1 - j) (by omega)
                          obtain ⟨gm, cm9, heqm, _⟩ := hr0.some_of (by omega)
                          simp only [Value.slice.injEq, true_and] at heqm
                          obtain ⟨rfl, rfl⟩ := heqm
                          have hcz := Own.opv hr0 hz
                          refine xc_skip ?_
                          refine xc_seq ?_
                          refine xc_block ?_
                          refine xc_region ?_
                          refine xl_op (P := Try.prog) (some 213) rfl rfl (ox_move (v := (.slice Ab j cb)) g23_f6 ?_)
                          refine xl_op (P := Try.prog) (some 214) rfl rfl (ox_move (v := (.slice (some ⟨gm, 0, none⟩) NM cm)) g13_f6 ?_)
                          refine xl_op (P := Try.prog) (some 215) rfl rfl (ox_move (v := (.int .i64 (((NM : Nat) : Int) - 1 - (j : Nat)))) g24_f6 ?_)
                          refine xl_op (P := Try.prog) (some 216) rfl rfl (ox_indexAddr (b := gm) (o := 0) (i := (((NM : Nat) : Int) - 1 - (j : Nat))) tE_54 rfl rfl (by omega) (by omega) ?_)
                          refine xl_op (P := Try.prog) (some 217) rfl rfl (ox_loadN (vs := [(.int .i64 z.d), (.int .i64 z.id), (.int .i64 z.kind), (.int .i64 z.n), (.int .i64 z.kids), (.int .i64 z.lf.kind), (.int .i64 z.lf.skip), (.int .i64 z.lf.len), (.int .i64 z.lf.reach)]) tA_88 tS_88 rfl rfl (by rw [show 0 + (((NM : Nat) : Int) - 1 - (j : Nat)).toNat * 9 = (NM - 1 - j) * 9 by omega]; exact CellsL.keep x_f6 not_false hcz) ?_)
                          refine xl_op (P := Try.prog) (some 218) rfl rfl (ox_mkSlice (ps := [(0, (.agg #[(.int .i64 z.d), (.int .i64 z.id), (.int .i64 z.kind), (.int .i64 z.n), (.int .i64 z.kids), (.int .i64 z.lf.kind), (.int .i64 z.lf.skip), (.int .i64 z.lf.len), (.int .i64 z.lf.reach)]))]) (zs := #[(.int .i64 0), (.int .i64 0), (.int .i64 0), (.int .i64 0), (.int .i64 0), (.int .i64 0), (.int .i64 0), (.int .i64 0), (.int .i64 0)]) (cs := #[(.int .i64 z.d), (.int .i64 z.id), (.int .i64 z.kind), (.int .i64 z.n), (.int .i64 z.kids), (.int .i64 z.lf.kind), (.int .i64 z.lf.skip), (.int .i64 z.lf.len), (.int .i64 z.lf.reach)]) tE_54 rfl (by decide) (by kernel_rfl) (by kernel_rfl) ?_)
                          intro w37 e31 z16 b13
                          replace b13 : Blk w37 w36.heap.size #[(.int .i64 z.d), (.int .i64 z.id), (.int .i64 z.kind), (.int .i64 z.n), (.int .i64 z.kids), (.int .i64 z.lf.kind), (.int .i64 z.lf.skip), (.int .i64 z.lf.len), (.int .i64 z.lf.reach)] 88 := b13
                          refine xl_op (P := Try.prog) (some 219) rfl rfl (ox_append (n := j) (g := w36.heap.size) (o := 0) (m := 1) (xs := ((opC (M.reverse.take j)))) (news := ([(.int .i64 z.d), (.int .i64 z.id), (.int .i64 z.kind), (.int .i64 z.n), (.int .i64 z.kids), (.int .i64 z.lf.kind), (.int .i64 z.lf.skip), (.int .i64 z.lf.len), (.int .i64 z.lf.reach)])) rfl tE_54 rfl (by decide) (v := (.slice Ab j cb)) rfl rfl (back_f6.ext e31) rfl b13.all rfl (by omega) (by omega) ?_)
                          intro v10 w38 o10 e32 at10 nil10
                          have he32 := e32.size
                          obtain ⟨A10, c10, rfl, hc10⟩ := o10.shape
                          have low10 : ∀ _k, (Value.slice A10 (j + 1) c10).ownBlock = some _k → w30.heap.size ≤ _k := fun _k _h => by rcases at10 with _e | _e <;> rw [_e] at _h; exact lb_f6 _k _h; exact (by cases _h; omega)
                          refine xl_op (P := Try.prog) (some 23) rfl rfl (ox_assign (v := (.slice A10 (j + 1) c10)) rfl ?_)
                          refine xl_nil ?_
                          refine xc_region ?_
                          refine xl_op (P := Try.prog) (some 211) rfl rfl (ox_move (v := (.int .i64 (((NM : Nat) : Int) - 1 - (j : Nat)))) g24_f6 ?_)
                          refine xl_op (P := Try.prog) (some 212) rfl rfl (ox_sub64 (a := (((NM : Nat) : Int) - 1 - (j : Nat))) (b := 1) rfl rfl (by omega) ?_)
                          refine xl_op (P := Try.prog) (some 24) rfl rfl (ox_assign (v := (.int .i64 (((NM : Nat) : Int) - 1 - (j : Nat) - 1))) rfl ?_)
                          refine xl_nil ?_
                          have ho9 := o10
                          have hsz0 := e31.size
                          have hsz1 := e32.size
                          have htk : M.reverse.take (j + 1) = M.reverse.take j ++ [z] := take_succ' (by rw [List.getElem?_reverse (by omega)]; rw [hMN]; exact hz)
                          exact ⟨rfl, NM - (j + 1), by omega, j + 1, A10, c10, by omega, by omega, g9_f6, g11_f6, g13_f6, g16_f6, g17_f6, g18_f6, rfl, (by first | exact rfl | exact (congrArg (Value.int .i64) (by omega))), (by rw [htk, opC, List.flatMap_append]; simpa [OpD.cs, opC] using ho9), (fun k hk => low10 k (ownBlock_len hk)), (Chg.trans (Ext.trans x_f6 e31) e32 (fun b hb hl => absurd hl (by have := lb_f6 b hb; omega)))⟩
                        · skip
                          refine xc_exit ?_
                          refine xc_seq ?_
                          refine xc_region ?_
                          refine xl_op (P := Try.prog) (some 220) rfl rfl (ox_move (v := (.slice Ab j cb)) g23_f6 ?_)
                          refine xl_op (P := Try.prog) (some 13) rfl rfl (ox_assign (v := (.slice Ab j cb)) rfl ?_)
                          refine xl_nil ?_
                          refine xc_region ?_
                          refine xl_op (P := Try.prog) (some 221) rfl rfl (ox_move (v := (.slice (some ⟨gv, 0, none⟩) NM c7)) g17_f6 ?_)
                          refine xl_op (P := Try.prog) (some 222) rfl rfl (ox_move (v := (.slice Ab j cb)) rfl ?_)
                          have hjN : j = NM := by omega
                          have hbk := back_f6
                          have hlb := lb_f6
                          rw [hjN, List.take_of_length_le (by rw [List.length_reverse]; omega)] at hbk
                          rw [hjN] at hlb
                          have hbr := Own.rowO hbk
                          refine xl_op (P := Try.prog) (some 223) rfl rfl (ox_copyR (n := NM) (cp' := cb) (g := gv) (N := NM + 1) (cap := c7) (xs := opC (M ++ [opM])) (cs := opC M.reverse) rfl tE_54 rfl (by rw [hjN]; rfl) hbr (Vx.Own.ext hr1 x_f6) (by omega) (by rw [opC_len, List.length_reverse, hMN]) (opC_one _) ?_)
                          intro w39 e33 z17 hO3
                          rw [setL_opC M M.reverse [opM] (by simp)] at hO3
                          replace e33 : Chg1 gv w36 w39 := e33
                          refine xl_nil ?_
                          refine xc_region ?_
                          refine xl_op (P := Try.prog) (some 127) rfl rfl (ox_move (v := (.int .i64 ((r : Nat)))) g18_f6 ?_)
                          refine xl_op (P := Try.prog) (some 128) rfl rfl (ox_add64 (a := ((r : Nat))) (b := 1) rfl rfl (by omega) ?_)
                          refine xl_op (P := Try.prog) (some 18) rfl rfl (ox_assign (v := (.int .i64 ((r : Nat) + 1))) rfl ?_)
                          refine xl_nil ?_
                          have q21 := (hbk.keep1 e33 (fun k hk hh => by have h1 := hlb k hk; have h2 : k = gv := hh; omega))
                          have hq_back := q21
                          have hq_given := hO3
                          have q22 := ((Vx.Own.ext hr2 x_f6).keep1 e33 (fun k hk => fun hh => (Vx.Own.ext hr2 x_f6).ne_own (Vx.Own.ext hr1 x_f6) (by decide) k hk (by rw [hh]; rfl)))
                          have hq_ids := q22
                          have q23 := ((Blk.ext hr3 x_f6).keep1 e33 (fun hh => (Vx.Own.ext hr1 x_f6).ne_blk (Blk.ext hr3 x_f6) (by decide) _ rfl hh.symm))
                          have hq_s := q23
                          have hsz0 := e33.size
                          exact ⟨rfl, 2 - (r + 1), by omega, r + 1, M.reverse, Ab, cb, cn9, by omega, by omega, by rw [List.length_reverse]; exact hMN, fun o ho => hM o (by simpa using ho), by omega, g9_f6, g11_f6, (by rw [← hjN]; rfl), g16_f6, g17_f6, (by first | exact rfl | exact (congrArg (Value.int .i64) (by omega))), hq_back, hq_given, hq_ids, hq_s, (fun k hk => by have := hlb k hk; omega), (Chg.chg1 (Chg.ext hCr x_f6) e33 (by first | (left; rfl) | (right; omega)))⟩
                · skip
                  refine xc_exit ?_
                  refine xc_seq ?_
                  refine xc_region ?_
                  refine xl_op (P := Try.prog) (some 8) rfl rfl (ox_assign (v := (.bool true)) rfl ?_)
                  refine xl_nil ?_
                  refine xc_ret ?_
                  change leaves _ _ _ _ _ _ _
                  refine leaves_nil (n := 224) (rs := [.tmp 8]) (vs := [(.bool true)]) rfl ⟨⟨by decide, rfl⟩, trivial⟩ ?_
                  exact ⟨rfl, Ext.chg1 hEg c_f3 hls⟩
          · skip
            refine xl_skip (some 68) (j := 4) (b := true) false rfl rfl (congrArg some (decide_eq_false h3)) (by decide) ?_
            refine xl_skip (some 69) (j := 4) (b := true) false rfl rfl (congrArg some (decide_eq_false h3)) (by decide) ?_
            refine xl_op (P := Try.prog) (some 70) rfl rfl (ox_pick_f (v := (.bool false)) (congrArg Value.bool (decide_eq_false h3)) rfl ?_)
            refine xl_nil ?_
            refine xc_cond_f rfl ?_
            refine xc_exit ?_
            refine xc_seq ?_
            refine xc_region ?_
            refine xl_op (P := Try.prog) (some 109) rfl rfl (ox_move (v := (.int .i64 at9)) g1_f2 ?_)
            refine xl_op (P := Try.prog) (some 110) rfl rfl (ox_move (v := (.pointer (some ⟨bg, 0, none⟩))) g9_f2 ?_)
            refine xl_op (P := Try.prog) (some 111) rfl rfl (ox_nilCheck (p := ⟨bg, 0, none⟩) rfl ?_)
            refine xl_op (P := Try.prog) (some 112) rfl rfl (ox_fieldAddr (b := bg) (o := 0) tF_31_1 rfl ?_)
            refine xl_op (P := Try.prog) (some 113) rfl rfl (ox_load (v := (.slice (some ⟨gn, 0, none⟩) ts.length cn)) tA_28 rfl ((hGM.g.ext (Ext.trans hEx3 x_f2)).cell rfl) ?_)
            refine xl_op (P := Try.prog) (some 114) rfl rfl (ox_len (A := (some ⟨gn, 0, none⟩)) (n := ts.length) (cp := cn) rfl tU_28 rfl ?_)
            obtain ⟨qa, hqa⟩ := mod_nat at9 htp
            have hqa2 := mod_lt hqa htp
            obtain ⟨_, _, ta, ua, e8, e9, hta, hua, hcna, hcpa, hPa, hRa, hWa, hsa, hsua, hska⟩ := hGM.at hqa2
            cases e8; cases e9
            have hbgs : ¬ bg = s := fun h => Blk.ne hGM.g hGM.st (by decide) h
            have hgns : ¬ gn = s := fun h => Own.ne_blk hGM.on hGM.st (by decide) gn rfl h
            have hgps : ¬ gp = s := fun h => Own.ne_blk hGM.op hGM.st (by decide) gp rfl h
            have htam := List.mem_of_getElem? hta
            refine xl_op (P := Try.prog) (some 115) rfl rfl (ox_callE (al := [(.int .i64 at9), (.int .i64 (((ts.length : Nat) : Int)))]) pf_14 rfl (ret_mono ((by have h := within_calls at9 ((ts.length : Nat) : Int) w5 (by omega); rw [hqa] at h; exact h)) ?_))
            rintro _ _ ⟨rfl, rfl⟩
            refine xl_op (P := Try.prog) (some 16) rfl rfl (ox_assign (v := (.int .i64 ((qa : Nat)))) rfl ?_)
            refine xl_nil ?_
            refine xc_seq ?_
            have hml18 := (mine_f2).lt
            refine xc_region ?_
            refine xl_op (P := Try.prog) (some 116) rfl rfl (ox_mkSlice (ps := []) (zs := #[]) (cs := #[]) tE_54 rfl (by decide) (by kernel_rfl) (by kernel_rfl) ?_)
            intro w40 e34 z18 b14
            replace b14 : Blk w40 w5.heap.size #[] 88 := b14
            refine xl_op (P := Try.prog) (some 117) rfl rfl (ox_move (v := (.slice Am M.length cm)) g13_f2 ?_)
            refine xl_op (P := Try.prog) (some 118) rfl rfl (ox_appendR (n := 0) (m := M.length) (xs := ([])) (news := ((opC M))) rfl tE_54 rfl (by decide) (v := (.slice (some ⟨w5.heap.size, 0, none⟩) 0 0)) rfl rfl (Vx.Own.lit (n := 0) (sz := 9) b14 rfl (by decide)) (opC_len _) (Own.rowO (mine_f2.ext e34)) (opC_one _) (by omega) (by omega) ?_)
            intro v11 w41 o11 e35 at11 nil11
            have he35 := e35.size
            obtain ⟨A11, c11, rfl, hc11⟩ := o11.shape
            have low11 : ∀ _k, (Value.slice A11 (0 + M.length) c11).ownBlock = some _k → w5.heap.size ≤ _k := fun _k _h => by rcases at11 with _e | _e <;> rw [_e] at _h; exact (fun _k _h => by simp [Value.ownBlock] at _h; omega) _k _h; exact (by cases _h; omega)
            replace o11 : Vx.Own w41 88 9 (.slice A11 (0 + M.length) c11) (0 + M.length) ((opC M)) := by simpa using o11
            refine xl_op (P := Try.prog) (some 119) rfl rfl (ox_mkStruct (ps := [(0, (.int .i64 77))]) (cs := #[(.int .i64 77), (.int .i64 0), (.int .i64 0), (.int .i64 0), (.int .i64 0), (.int .i64 0), (.int .i64 0), (.int .i64 0), (.int .i64 0)]) tZ_88 tP_88 rfl (by kernel_rfl) ?_)
            refine xl_op (P := Try.prog) (some 120) rfl rfl (ox_mkSlice (ps := [(0, (.agg #[(.int .i64 77), (.int .i64 0), (.int .i64 0), (.int .i64 0), (.int .i64 0), (.int .i64 0), (.int .i64 0), (.int .i64 0), (.int .i64 0)]))]) (zs := #[(.int .i64 0), (.int .i64 0), (.int .i64 0), (.int .i64 0), (.int .i64 0), (.int .i64 0), (.int .i64 0), (.int .i64 0), (.int .i64 0)]) (cs := #[(.int .i64 77), (.int .i64 0), (.int .i64 0), (.int .i64 0), (.int .i64 0), (.int .i64 0), (.int .i64 0), (.int .i64 0), (.int .i64 0)]) tE_54 rfl (by decide) (by kernel_rfl) (by kernel_rfl) ?_)
            intro w42 e36 z19 b15
            replace b15 : Blk w42 w41.heap.size #[(.int .i64 77), (.int .i64 0), (.int .i64 0), (.int .i64 0), (.int .i64 0), (.int .i64 0), (.int .i64 0), (.int .i64 0), (.int .i64 0)] 88 := b15
            refine xl_op (P := Try.prog) (some 121) rfl rfl (ox_append (n := (0 + M.length)) (g := w41.heap.size) (o := 0) (m := 1) (xs := ((opC M))) (news := ([(.int .i64 77), (.int .i64 0), (.int .i64 0), (.int .i64 0), (.int .i64 0), (.int .i64 0), (.int .i64 0), (.int .i64 0), (.int .i64 0)])) rfl tE_54 rfl (by decide) (v := (.slice A11 (0 + M.length) c11)) rfl rfl (o11.ext e36) rfl b15.all rfl (by omega) (by omega) ?_)
            intro v12 w43 o12 e37 at12 nil12
            have he37 := e37.size
            obtain ⟨A12, c12, rfl, hc12⟩ := o12.shape
            have low12 : ∀ _k, (Value.slice A12 (0 + M.length + 1) c12).ownBlock = some _k → w5.heap.size ≤ _k := fun _k _h => by rcases at12 with _e | _e <;> rw [_e] at _h; exact low11 _k _h; exact (by cases _h; omega)
            refine xl_op (P := Try.prog) (some 122) rfl rfl (ox_move (v := (.slice Am M.length cm)) g13_f2 ?_)
            refine xl_op (P := Try.prog) (some 123) rfl rfl (ox_len (A := Am) (n := M.length) (cp := cm) rfl tU_54 rfl ?_)
            refine xl_op (P := Try.prog) (some 124) rfl rfl (ox_sliceToN (A := A12) (cp := c12) (i := (((M.length : Nat) : Int))) M.length tE_54 rfl rfl (by omega) (by omega) (by omega) ?_)
            refine xl_op (P := Try.prog) (some 17) rfl rfl (ox_assign (v := (.slice A12 M.length c12)) rfl ?_)
            refine xl_nil ?_
            refine xc_seq ?_
            refine xc_seq ?_
            refine xc_region ?_
            refine xl_op (P := Try.prog) (some 18) rfl rfl (ox_assign (v := (.int .i64 0)) rfl ?_)
            refine xl_nil ?_
            refine xc_block ?_
            have q24 := ((mine_f2.ext e34).keep e35 (fun _k _hk _hh => by have h1 := hml18 _k _hk; have h2 : w5.heap.size ≤ _k := (fun _k _h => by simp [Value.ownBlock] at _h; omega) _k _hh; omega))
            have q25 := ((q24.ext e36).keep e37 (fun _k _hk _hh => by have h1 := hml18 _k _hk; have h2 : w5.heap.size ≤ _k := low11 _k _hh; omega))
            have hmine0 := q25
            have hgiv0 := o12
            have hlgv := low12
            obtain ⟨gv, cv, heqv, hcv0⟩ := hgiv0.some_of (by omega)
            simp only [Value.slice.injEq, true_and] at heqv
            obtain ⟨rfl, rfl⟩ := heqv
            have hgvl : w1.heap.size ≤ gv := by have := hlgv gv rfl; omega
            have hgvs : gv ≠ s := by omega
            have hids2 := hids.ext (Chg.trans (Ext.trans (Chg.trans (Ext.trans x_f2 e34) e35 (fun b hb hl => absurd hl (by have := (fun _k _h => by simp [Value.ownBlock] at _h; omega) b hb; omega))) e36) e37 (fun b hb hl => absurd hl (by have := low11 b hb; omega)))
            have hst2 := hGM.st.ext (Chg.trans (Ext.trans (Chg.trans (Ext.trans (Ext.trans hEx3 x_f2) e34) e35 (fun b hb hl => absurd hl (by have := (fun _k _h => by simp [Value.ownBlock] at _h; omega) b hb; omega))) e36) e37 (fun b hb hl => absurd hl (by have := low11 b hb; omega)))
            have hC0 : Chg1 s w1 w43 := Ext.to (Chg.trans (Ext.trans (Chg.trans (Ext.trans (Ext.trans hEx3 x_f2) e34) e35 (fun b hb hl => absurd hl (by have := (fun _k _h => by simp [Value.ownBlock] at _h; omega) b hb; omega))) e36) e37 (fun b hb hl => absurd hl (by have := low11 b hb; omega)))
            have hmk0 : Vx.Own w43 88 9 (.slice (some ⟨gv, 0, none⟩) (M.length + 1) c12) (M.length + 1) (opC (M ++ [opM])) := by simpa [opC, OpD.cs, lf0] using hgiv0
            have hMn : M.length ≤ 300 := by omega
            have hlm0 := lm_f2
            obtain ⟨NM, hNM⟩ : ∃ NM, NM = M.length := ⟨_, rfl⟩
            refine xc_loopN (fun m f W => ∃ (r : Nat) (M : List OpD) (Am : Option Addr) (cm : Nat) (cq : Int), m = 2 - r ∧ r ≤ 2 ∧ M.length = NM ∧ (∀ o ∈ M, opR o) ∧ (((ts.length : Nat) : Int) ≤ cq ∧ cq ≤ ((ts.length : Nat) : Int) + 300 * (r : Nat)) ∧ f 9 = (.pointer (some ⟨bg, 0, none⟩)) ∧ f 11 = (.slice Ai i6 ci) ∧ f 13 = (.slice Am NM cm) ∧ f 16 = (.int .i64 ((qa : Nat))) ∧ f 17 = (.slice (some ⟨gv, 0, none⟩) NM c12) ∧ f 18 = (.int .i64 ((r : Nat))) ∧ Vx.Own W 88 9 (.slice Am NM cm) NM (opC M) ∧ Vx.Own W 88 9 (.slice (some ⟨gv, 0, none⟩) ((NM + 1)) c12) (NM + 1) (opC (M ++ [opM])) ∧ Vx.Own W 3 1 (.slice Ai i6 ci) i6 (us.map fun u => .int .i64 u.id) ∧ Blk W s #[.int .i64 cq] 140 ∧ (∀ k, ((.slice Am NM cm) : Value).ownBlock = some k → w1.heap.size ≤ k) ∧ Chg1 s w1 W) (2) ?_ ?_
            · exact ⟨0, M, Am, cm, ((ts.length : Nat) : Int), by omega, by omega, hNM.symm, hM, by omega, g9_f2, g11_f2, (by rw [hNM]; exact g13_f2), rfl, (by rw [hNM]; rfl), (by first | exact rfl | exact (congrArg (Value.int .i64) (by omega))), (by rw [hNM]; exact hmine0), (by rw [hNM]; exact hmk0), (by rw [hI] at hids2; exact hids2), hst2, (by rw [hNM]; exact fun k hk => by have := hlm0 k hk; omega), hC0⟩
            · rintro m f7 w44 ⟨r, M, Am, cm, cq, hm, hr2, hMN, hM, hcq, g9_f7, g11_f7, g13_f7, g16_f7, g17_f7, g18_f7, mine_f7, given_f7, ids_f7, blk_s_f7, lm_f7, c_f7⟩
              have hzC := c_f7.size
              refine xc_seq ?_
              refine xc_seq ?_
              refine xc_region ?_
              refine xl_op (P := Try.prog) (some 125) rfl rfl (ox_move (v := (.int .i64 ((r : Nat)))) g18_f7 ?_)
              refine xl_op (P := Try.prog) (some 126) rfl rfl (ox_lss (k := .i64) (a := ((r : Nat))) (b := 2) rfl rfl ?_)
              refine xl_nil ?_
              refine xc_if (p := ((r : Nat) : Int) < 2) rfl (fun h13 => ?_) (fun h13 => ?_)
              · skip
                refine xc_skip ?_
                refine xc_seq ?_
                refine xc_block ?_
                refine xc_seq ?_
                refine xc_region ?_
                refine xl_op (P := Try.prog) (some 130) rfl rfl (ox_move (v := (.pointer (some ⟨bg, 0, none⟩))) g9_f7 ?_)
                refine xl_op (P := Try.prog) (some 131) rfl rfl (ox_nilCheck (p := ⟨bg, 0, none⟩) rfl ?_)
                refine xl_op (P := Try.prog) (some 132) rfl rfl (ox_fieldAddr (b := bg) (o := 0) tF_31_2 rfl ?_)
                refine xl_op (P := Try.prog) (some 133) rfl rfl (ox_load (v := (.slice (some ⟨gp, 0, none⟩) us.length cp)) tA_29 rfl ((hGM.g.keep c_f7 hbgs).cell rfl) ?_)
                refine xl_op (P := Try.prog) (some 134) rfl rfl (ox_move (v := (.int .i64 ((qa : Nat)))) g16_f7 ?_)
                refine xl_op (P := Try.prog) (some 135) rfl rfl (ox_indexAddr (b := gp) (o := 0) (i := ((qa : Nat))) tE_29 rfl rfl (by omega) (by omega) ?_)
                refine xl_op (P := Try.prog) (some 136) rfl rfl (ox_load (v := (.pointer (some ⟨ua.b, 0, none⟩))) tA_38 rfl (by simpa [T.ptr] using Chg.cell hcpa c_f7 hgps) ?_)
                refine xl_op (P := Try.prog) (some 137) rfl rfl (ox_move (v := (.slice Am NM cm)) g13_f7 ?_)
                refine xl_op (P := Try.prog) (some 138) rfl rfl (ox_callE (al := [(.pointer (some ⟨ua.b, 0, none⟩)), (.slice Am NM cm)]) pf_35 rfl (ret_mono ((by have h := refApply_calls ua M Am cm w44 (PR.keep c_f7 hRa (fun b hb hh => PR.off hGM.st (by decide) (by decide) hRa b hb hh)) (by omega) (Own.rowO mine_f7) (by omega); rw [hMN] at h; exact h)) ?_))
                rintro _ w45 ⟨oa, ea, rfl, hra, e38⟩
                have he38 := e38.size
                refine xl_op (P := Try.prog) (some 129) rfl rfl (ox_move (v := (.tuple #[(.pointer oa), (.int .i64 ea)])) rfl ?_)
                refine xl_op (P := Try.prog) (some 139) rfl rfl (ox_extract (vs := #[(.pointer oa), (.int .i64 ea)]) (v := (.pointer oa)) rfl rfl ?_)
                refine xl_op (P := Try.prog) (some 140) rfl rfl (ox_extract (vs := #[(.pointer oa), (.int .i64 ea)]) (v := (.int .i64 ea)) rfl rfl ?_)
                refine xl_op (P := Try.prog) (some 19) rfl rfl (ox_assign (v := (.pointer oa)) rfl ?_)
                refine xl_op (P := Try.prog) (some 20) rfl rfl (ox_assign (v := (.int .i64 ea)) rfl ?_)
                refine xl_nil ?_
                refine xc_seq ?_
                have hsA := (blk_s_f7.ext e38)
                refine xc_regionE [] (fun W_ => Chg (fun x => x = s) w45 W_) hmix ?_
                intro w46 e39 z20
                have hS3 : Chg (fun x => x = s) w45 w46 := Ext.to e39
                refine xd_pure 0 (some 142) rfl rfl (by kernel_rfl) (v := (.pointer (some ⟨bg, 0, none⟩))) (.inl ⟨rfl, fun W_ hW_ => ox_move (v := (.pointer (some ⟨bg, 0, none⟩))) g9_f7 ⟨rfl, rfl⟩⟩) ?_
                refine xd_pure 1 (some 143) rfl rfl (by kernel_rfl) (v := (.pointer (some ⟨bg, 0, none⟩))) (.inl ⟨rfl, fun W_ hW_ => ox_nilCheck (p := ⟨bg, 0, none⟩) rfl ⟨rfl, rfl⟩⟩) ?_
                refine xd_pure 2 (some 144) rfl rfl (by kernel_rfl) (v := (.pointer (some ⟨bg, 0, none⟩))) (.inl ⟨rfl, fun W_ hW_ => ox_fieldAddr (b := bg) (o := 0) tF_31_0 rfl ⟨rfl, rfl⟩⟩) ?_
                refine xd_take 3 (some 145) rfl rfl (by kernel_rfl) (v := (.pointer (some ⟨s, 0, none⟩))) (.inl ⟨rfl, fun W_ hW_ => ox_load (v := (.pointer (some ⟨s, 0, none⟩))) tA_27 rfl ((((hGM.g.keep c_f7 hbgs).ext e38).keep hW_ hbgs).cell rfl) ⟨rfl, rfl⟩⟩) hS3 ?_
                refine xd_pure 4 (some 146) rfl rfl (by kernel_rfl) (v := (.pointer (some ⟨bg, 0, none⟩))) (.inl ⟨rfl, fun W_ hW_ => ox_move (v := (.pointer (some ⟨bg, 0, none⟩))) g9_f7 ⟨rfl, rfl⟩⟩) ?_
                refine xd_pure 5 (some 147) rfl rfl (by kernel_rfl) (v := (.pointer (some ⟨bg, 0, none⟩))) (.inl ⟨rfl, fun W_ hW_ => ox_nilCheck (p := ⟨bg, 0, none⟩) rfl ⟨rfl, rfl⟩⟩) ?_
                refine xd_pure 6 (some 148) rfl rfl (by kernel_rfl) (v := (.pointer (some ⟨bg, 1, none⟩))) (.inl ⟨rfl, fun W_ hW_ => ox_fieldAddr (b := bg) (o := 0) tF_31_1 rfl ⟨rfl, rfl⟩⟩) ?_
                refine xd_take 7 (some 149) rfl rfl (by kernel_rfl) (v := (.slice (some ⟨gn, 0, none⟩) ts.length cn)) (.inl ⟨rfl, fun W_ hW_ => ox_load (v := (.slice (some ⟨gn, 0, none⟩) ts.length cn)) tA_28 rfl ((((hGM.g.keep c_f7 hbgs).ext e38).keep hW_ hbgs).cell rfl) ⟨rfl, rfl⟩⟩) hS3 ?_
                refine xd_pure 8 (some 150) rfl rfl (by kernel_rfl) (v := (.int .i64 ((qa : Nat)))) (.inl ⟨rfl, fun W_ hW_ => ox_move (v := (.int .i64 ((qa : Nat)))) g16_f7 ⟨rfl, rfl⟩⟩) ?_
                refine xd_pure 9 (some 151) rfl rfl (by kernel_rfl) (v := (.pointer (some ⟨gn, 0 + ((qa : Nat) : Int).toNat * 1, none⟩))) (.inl ⟨rfl, fun W_ hW_ => ox_indexAddr (b := gn) (o := 0) (i := ((qa : Nat))) tE_28 rfl rfl (by omega) (by omega) ⟨rfl, rfl⟩⟩) ?_
                refine xd_take 10 (some 152) rfl rfl (by kernel_rfl) (v := (.pointer (some ⟨ta.b, 0, none⟩))) (.inl ⟨rfl, fun W_ hW_ => ox_load (v := (.pointer (some ⟨ta.b, 0, none⟩))) tA_36 rfl (by simpa [T.ptr] using Chg.cell hcna (Chg.trans (Chg.ext c_f7 e38) hW_ (fun x hx hl => hx)) hgns) ⟨rfl, rfl⟩⟩) hS3 ?_
                refine xd_pure 11 (some 153) rfl rfl (by kernel_rfl) (v := (.slice (some ⟨gv, 0, none⟩) NM c12)) (.inl ⟨rfl, fun W_ hW_ => ox_move (v := (.slice (some ⟨gv, 0, none⟩) NM c12)) g17_f7 ⟨rfl, rfl⟩⟩) ?_
                refine xd_one 12 (some 154) rfl rfl (by kernel_rfl) rfl (ox_callE (al := [(.pointer (some ⟨s, 0, none⟩)), (.pointer (some ⟨ta.b, 0, none⟩)), (.slice (some ⟨gv, 0, none⟩) NM c12)]) pf_36 rfl (ret_mono ((by have h := apply_calls s cq ((ts.length : Nat) : Int) ta M (some ⟨gv, 0, none⟩) c12 w46 ((blk_s_f7.ext e38).ext e39) (by omega) (by omega) (PN.keep (Chg.ext (Chg.ext c_f7 e38) e39) hPa (fun b hb hh => PN.off hGM.st (by decide) (by decide) hPa b hb hh)) hWa (by omega) (hGM.ok.nid htam) (hGM.ok.uniq htam) (Own.frontO (ms := [opM]) ((given_f7.ext e38).ext e39) hMN) (fun a ha => by cases ha; exact hgvs) hM (by omega); rw [hMN] at h; exact h)) ?_))
                rintro _ w47 ⟨ob, eb, cn9, rfl, hrb, hs9, hcn1, hcn2, e40⟩
                have he40 := e40.size
                have hS4 : Chg (fun x => x = s) w45 w47 := Chg.chg1 hS3 e40 (by first | (right; omega) | (left; simp))
                refine ⟨.inr fun _ => hS4, ?_⟩
                refine xd_pure 13 (some 141) rfl rfl (by kernel_rfl) (v := (.tuple #[(.pointer ob), (.int .i64 eb)])) (.inl ⟨rfl, fun W_ hW_ => ox_move (v := (.tuple #[(.pointer ob), (.int .i64 eb)])) rfl ⟨rfl, rfl⟩⟩) ?_
                refine xd_pure 14 (some 155) rfl rfl (by kernel_rfl) (v := (.pointer ob)) (.inl ⟨rfl, fun W_ hW_ => ox_extract (vs := #[(.pointer ob), (.int .i64 eb)]) (v := (.pointer ob)) rfl rfl ⟨rfl, rfl⟩⟩) ?_
                refine xd_pure 15 (some 156) rfl rfl (by kernel_rfl) (v := (.int .i64 eb)) (.inl ⟨rfl, fun W_ hW_ => ox_extract (vs := #[(.pointer ob), (.int .i64 eb)]) (v := (.int .i64 eb)) rfl rfl ⟨rfl, rfl⟩⟩) ?_
                refine xd_pure 16 (some 21) rfl rfl (by kernel_rfl) (v := (.pointer ob)) (.inl ⟨rfl, fun W_ hW_ => ox_assign (v := (.pointer ob)) rfl ⟨rfl, rfl⟩⟩) ?_
                refine xd_pure 17 (some 22) rfl rfl (by kernel_rfl) (v := (.int .i64 eb)) (.inl ⟨rfl, fun W_ hW_ => ox_assign (v := (.int .i64 eb)) rfl ⟨rfl, rfl⟩⟩) ?_
                refine xd_done (by kernel_rfl) ?_ _
                refine xc_seq ?_
                refine xc_seq ?_
                have hC12 : Chg1 s w45 w47 := (Chg.chg1 (Chg.ext (Chg.refl (fun x => x = s) w45) e39) e40 (by left; rfl))
                obtain ⟨rfl, hoab⟩ := two_res (find_two hska (fun x hx => (hGM.ok.nid htam x hx).2)) hra hrb
                have hstw := hs9
                rcases hoab with ⟨rfl, rfl⟩ | ⟨y, ⟨pa, rfl, hpa, hska2, hza⟩, ⟨pb, rfl, hpb, hskb2, hzb, hwb, hidb⟩⟩
                · skip
                  refine xc_region ?_
                  refine xl_op (P := Try.prog) (some 157) rfl rfl (ox_move (v := (.int .i64 eb)) rfl ?_)
                  refine xl_op (P := Try.prog) (some 158) rfl rfl (ox_move (v := (.int .i64 eb)) rfl ?_)
                  refine xl_op (P := Try.prog) (some 159) rfl rfl (ox_neq (k := .i64) (a := eb) (b := eb) rfl rfl ?_)
                  refine xl_op (P := Try.prog) (some 160) rfl rfl (ox_move (v := (.bool (decide ((eb : Int) ≠ eb)))) rfl ?_)
                  refine xl_opg (P := Try.prog) (some 161) (j := 3) (b := false) rfl rfl (congrArg some (by simp : decide ((eb : Int) ≠ eb) = false)) (ox_move (v := (.pointer none)) rfl ?_)
                  refine xl_opg (P := Try.prog) (some 162) (j := 3) (b := false) rfl rfl (congrArg some (by simp : decide ((eb : Int) ≠ eb) = false)) (ox_eqlNil (p := none) (q := none) tU_36 rfl rfl (.inr rfl) ?_)
                  refine xl_opg (P := Try.prog) (some 163) (j := 3) (b := false) rfl rfl (congrArg some (by simp : decide ((eb : Int) ≠ eb) = false)) (ox_move (v := (.pointer none)) rfl ?_)
                  refine xl_opg (P := Try.prog) (some 164) (j := 3) (b := false) rfl rfl (congrArg some (by simp : decide ((eb : Int) ≠ eb) = false)) (ox_eqlNil (p := none) (q := none) tU_38 rfl rfl (.inr rfl) ?_)
                  refine xl_opg (P := Try.prog) (some 165) (j := 3) (b := false) rfl rfl (congrArg some (by simp : decide ((eb : Int) ≠ eb) = false)) (ox_neqBool (a := ((decide ((none : Option Addr) = none)))) (b := ((decide ((none : Option Addr) = none)))) tU_4 rfl rfl ?_)
                  refine xl_op (P := Try.prog) (some 166) rfl rfl (ox_pick_f (v := (.bool (((decide ((none : Option Addr) = none)) != (decide ((none : Option Addr) = none)))))) (congrArg Value.bool (by simp : decide ((eb : Int) ≠ eb) = false)) rfl ?_)
                  refine xl_op (P := Try.prog) (some 167) rfl rfl (ox_move (v := (.bool (((decide ((none : Option Addr) = none)) != (decide ((none : Option Addr) = none)))))) rfl ?_)
                  refine xl_opg (P := Try.prog) (some 168) (j := 10) (b := false) rfl rfl (congrArg some (ne_two (show (decide ((none : Option Addr) = none)) = true from (decide_eq_true rfl)) (show (decide ((none : Option Addr) = none)) = true from (decide_eq_true rfl)) rfl)) (ox_move (v := (.slice (some ⟨gv, 0, none⟩) NM c12)) g17_f7 ?_)
                  refine xl_opg (P := Try.prog) (some 169) (j := 10) (b := false) rfl rfl (congrArg some (ne_two (show (decide ((none : Option Addr) = none)) = true from (decide_eq_true rfl)) (show (decide ((none : Option Addr) = none)) = true from (decide_eq_true rfl)) rfl)) (ox_move (v := (.slice Am NM cm)) g13_f7 ?_)
                  have q26 := (((given_f7.ext e38).ext e39).keep1 e40 (fun k hk => ((given_f7.ext e38).ext e39).ne_blk ((blk_s_f7.ext e38).ext e39) (by decide) k hk))
                  have q27 := (((mine_f7.ext e38).ext e39).keep1 e40 (fun k hk => ((mine_f7.ext e38).ext e39).ne_blk ((blk_s_f7.ext e38).ext e39) (by decide) k hk))
                  refine xl_opg (P := Try.prog) (some 170) (j := 10) (b := false) rfl rfl (congrArg some (ne_two (show (decide ((none : Option Addr) = none)) = true from (decide_eq_true rfl)) (show (decide ((none : Option Addr) = none)) = true from (decide_eq_true rfl)) rfl)) (ox_callE (al := [(.slice (some ⟨gv, 0, none⟩) NM c12), (.slice Am NM cm)]) pf_23 rfl (ret_mono ((by have h := sameOps_eq M (some ⟨gv, 0, none⟩) Am c12 cm w47 (Own.frontO (ms := [opM]) q26 hMN) (Own.rowO q27) (by omega); rw [hMN] at h; exact h)) ?_))
                  rintro _ w48 ⟨rfl, e41⟩
                  have he41 := e41.size
                  refine xl_opg (P := Try.prog) (some 171) (j := 10) (b := false) rfl rfl (congrArg some (ne_two (show (decide ((none : Option Addr) = none)) = true from (decide_eq_true rfl)) (show (decide ((none : Option Addr) = none)) = true from (decide_eq_true rfl)) rfl)) (ox_not (b := true) rfl ?_)
                  refine xl_op (P := Try.prog) (some 172) rfl rfl (ox_pick_f (v := (.bool false)) (congrArg Value.bool (ne_two (show (decide ((none : Option Addr) = none)) = true from (decide_eq_true rfl)) (show (decide ((none : Option Addr) = none)) = true from (decide_eq_true rfl)) rfl)) rfl ?_)
                  refine xl_op (P := Try.prog) (some 173) rfl rfl (ox_move (v := (.bool false)) rfl ?_)
                  refine xl_opg (P := Try.prog) (some 174) (j := 16) (b := false) rfl rfl rfl (ox_move (v := (.slice (some ⟨gv, 0, none⟩) NM c12)) g17_f7 ?_)
                  refine xl_opg (P := Try.prog) (some 175) (j := 16) (b := false) rfl rfl rfl (ox_move (v := (.slice Am NM cm)) g13_f7 ?_)
                  refine xl_opg (P := Try.prog) (some 176) (j := 16) (b := false) rfl rfl rfl (ox_len (A := Am) (n := NM) (cp := cm) rfl tU_54 rfl ?_)
                  refine xl_opg (P := Try.prog) (some 177) (j := 16) (b := false) rfl rfl rfl (ox_add64 (a := (((NM : Nat) : Int))) (b := 1) rfl rfl (by omega) ?_)
                  refine xl_opg (P := Try.prog) (some 178) (j := 16) (b := false) rfl rfl rfl (ox_sliceToN (A := (some ⟨gv, 0, none⟩)) (cp := c12) (i := (((NM : Nat) : Int) + 1)) ((NM + 1)) tE_54 rfl rfl (by omega) (by omega) (by omega) ?_)
                  refine xl_opg (P := Try.prog) (some 179) (j := 16) (b := false) rfl rfl rfl (ox_move (v := (.slice Am NM cm)) g13_f7 ?_)
                  refine xl_opg (P := Try.prog) (some 180) (j := 16) (b := false) rfl rfl rfl (ox_len (A := Am) (n := NM) (cp := cm) rfl tU_54 rfl ?_)
                  refine xl_opg (P := Try.prog) (some 181) (j := 16) (b := false) rfl rfl rfl (ox_indexAddr (b := gv) (o := 0) (i := (((NM : Nat) : Int))) tE_54 rfl rfl (by omega) (by omega) ?_)
                  refine xl_opg (P := Try.prog) (some 182) (j := 16) (b := false) rfl rfl rfl (ox_fieldAddr (b := gv) (o := (0 + (((NM : Nat) : Int) : Int).toNat * 9)) tF_88_0 rfl ?_)
                  refine xl_opg (P := Try.prog) (some 183) (j := 16) (b := false) rfl rfl rfl (ox_load (v := (.int .i64 77)) tA_3 rfl (by have h9 := Own.opv (q26.ext e41) (i := NM) (e := opM) (by rw [← hMN]; simp); simpa [OpD.cs] using h9.1) ?_)
                  refine xl_opg (P := Try.prog) (some 184) (j := 16) (b := false) rfl rfl rfl (ox_neq (k := .i64) (a := 77) (b := 77) rfl rfl ?_)
                  refine xl_op (P := Try.prog) (some 185) rfl rfl (ox_pick_f (v := (.bool (decide ((77 : Int) ≠ 77)))) rfl rfl ?_)
                  refine xl_nil ?_
                  refine xc_cond_f (congrArg Value.bool (by decide : decide ((77 : Int) ≠ 77) = false)) ?_
                  refine xc_skip ?_
                  refine xc_seq ?_
                  refine xc_seq ?_
                  refine xc_region ?_
                  refine xl_op (P := Try.prog) (some 186) rfl rfl (ox_move (v := (.pointer none)) rfl ?_)
                  refine xl_op (P := Try.prog) (some 187) rfl rfl (ox_neqNil (p := none) (q := none) tU_36 rfl rfl (.inr rfl) ?_)
                  refine xl_op (P := Try.prog) (some 188) rfl rfl (ox_move (v := (.bool (decide ((none : Option Addr) ≠ none)))) rfl ?_)
                  refine xl_skip (some 189) (j := 2) (b := true) false rfl rfl (congrArg some (decide_eq_false (by simp))) (by decide) ?_
                  refine xl_skip (some 190) (j := 2) (b := true) false rfl rfl (congrArg some (decide_eq_false (by simp))) (by decide) ?_
                  refine xl_op (P := Try.prog) (some 191) rfl rfl (ox_pick_f (v := (.bool false)) (congrArg Value.bool (decide_eq_false (by simp))) rfl ?_)
                  refine xl_op (P := Try.prog) (some 192) rfl rfl (ox_move (v := (.bool false)) rfl ?_)
                  refine xl_skip (some 193) (j := 6) (b := true) false rfl rfl rfl (by decide) ?_
                  refine xl_skip (some 194) (j := 6) (b := true) false rfl rfl rfl (by decide) ?_
                  refine xl_skip (some 195) (j := 6) (b := true) false rfl rfl rfl (by decide) ?_
                  refine xl_skip (some 196) (j := 6) (b := true) false rfl rfl rfl (by decide) ?_
                  refine xl_skip (some 197) (j := 6) (b := true) false rfl rfl rfl (by decide) ?_
                  refine xl_op (P := Try.prog) (some 198) rfl rfl (ox_pick_f (v := (.bool false)) rfl rfl ?_)
                  refine xl_op (P := Try.prog) (some 199) rfl rfl (ox_move (v := (.bool false)) rfl ?_)
                  refine xl_skip (some 200) (j := 13) (b := true) false rfl rfl rfl (by decide) ?_
                  refine xl_skip (some 201) (j := 13) (b := true) false rfl rfl rfl (by decide) ?_
                  refine xl_skip (some 202) (j := 13) (b := true) false rfl rfl rfl (by decide) ?_
                  refine xl_skip (some 203) (j := 13) (b := true) false rfl rfl rfl (by decide) ?_
                  refine xl_skip (some 204) (j := 13) (b := true) false rfl rfl rfl (by decide) ?_
                  refine xl_op (P := Try.prog) (some 205) rfl rfl (ox_pick_f (v := (.bool false)) rfl rfl ?_)
                  refine xl_nil ?_
                  refine xc_cond_f rfl ?_
                  refine xc_skip ?_
                  refine xc_seq ?_
                  refine xc_region ?_
                  refine xl_op (P := Try.prog) (some 23) rfl rfl (ox_assign (v := (.slice none 0 0)) rfl ?_)
                  refine xl_nil ?_
                  refine xc_seq ?_
                  refine xc_seq ?_
                  refine xc_region ?_
                  refine xl_op (P := Try.prog) (some 206) rfl rfl (ox_move (v := (.slice Am NM cm)) g13_f7 ?_)
                  refine xl_op (P := Try.prog) (some 207) rfl rfl (ox_len (A := Am) (n := NM) (cp := cm) rfl tU_54 rfl ?_)
                  refine xl_op (P := Try.prog) (some 208) rfl rfl (ox_sub64 (a := (((NM : Nat) : Int))) (b := 1) rfl rfl (by omega) ?_)
                  refine xl_op (P := Try.prog) (some 24) rfl rfl (ox_assign (v := (.int .i64 (((NM : Nat) : Int) - 1))) rfl ?_)
                  refine xl_nil ?_
                  refine xc_block ?_
                  have hr0 := (q27.ext e41)
                  have hr1 := (q26.ext e41)
                  have q28 := (((ids_f7.ext e38).ext e39).keep1 e40 (fun k hk => ((ids_f7.ext e38).ext e39).ne_blk ((blk_s_f7.ext e38).ext e39) (by decide) k hk))
                  have hr2 := (q28.ext e41)
                  have hr3 := (hs9.ext e41)
                  have hCr := (Chg.ext (Chg.chg1 (Chg.ext (Chg.ext c_f7 e38) e39) e40 (by first | (left; rfl) | (right; omega))) e41)
                  have hzr := hCr.size
                  have hlgr : gv < w48.heap.size := hr1.lt gv rfl
                  refine xc_loopN (fun m f W => ∃ (j : Nat) (Ab : Option Addr) (cb : Nat), m = NM - j ∧ j ≤ NM ∧ f 9 = (.pointer (some ⟨bg, 0, none⟩)) ∧ f 11 = (.slice Ai i6 ci) ∧ f 13 = (.slice Am NM cm) ∧ f 16 = (.int .i64 ((qa : Nat))) ∧ f 17 = (.slice (some ⟨gv, 0, none⟩) NM c12) ∧ f 18 = (.int .i64 ((r : Nat))) ∧ f 23 = (.slice Ab j cb) ∧ f 24 = (.int .i64 (((NM : Nat) : Int) - 1 - (j : Nat))) ∧ Vx.Own W 88 9 (.slice Ab j cb) j (opC (M.reverse.take j)) ∧ (∀ k, ((.slice Ab j cb) : Value).ownBlock = some k → w48.heap.size ≤ k) ∧ Ext w48 W) (NM) ?_ ?_
                  · exact ⟨0, none, 0, by omega, by omega, g9_f7, g11_f7, g13_f7, g16_f7, g17_f7, g18_f7, rfl, (by first | exact rfl | exact (congrArg (Value.int .i64) (by omega))), (Vx.Own.nil _ _ _), (by simp [Value.ownBlock]), (Chg.refl _ _)⟩
                  · rintro m f8 w49 ⟨j, Ab, cb, hm, hj, g9_f8, g11_f8, g13_f8, g16_f8, g17_f8, g18_f8, g23_f8, g24_f8, back_f8, lb_f8, x_f8⟩
                    have hzX := x_f8.size
                    refine xc_seq ?_
                    refine xc_seq ?_
                    refine xc_region ?_
                    refine xl_op (P := Try.prog) (some 209) rfl rfl (ox_move (v := (.int .i64 (((NM : Nat) : Int) - 1 - (j : Nat)))) g24_f8 ?_)
                    refine xl_op (P := Try.prog) (some 210) rfl rfl (ox_geq (k := .i64) (a := (((NM : Nat) : Int) - 1 - (j : Nat))) (b := 0) rfl rfl ?_)
                    refine xl_nil ?_
                    refine xc_if (p := (0 : Int) ≤ (((NM : Nat) : Int) - 1 - (j : Nat))) rfl (fun h14 => ?_) (fun h14 => ?_)
                    · skip
                      have hjl : j < NM := by omega
                      obtain ⟨z, hz⟩ := get_ex (l := M) (i := NM - 1 - j) (by omega)
                      obtain ⟨gm, cm9, heqm, _⟩ := hr0.some_of (by omega)
                      simp only [Value.slice.injEq, true_and] at heqm
                      obtain ⟨rfl, rfl⟩ := heqm
                      have hcz := Own.opv hr0 hz
                      refine xc_skip ?_
                      refine xc_seq ?_
                      refine xc_block ?_
                      refine xc_region ?_
                      refine xl_op (P := Try.prog) (some 213) rfl rfl (ox_move (v := (.slice Ab j cb)) g23_f8 ?_)
                      refine xl_op (P := Try.prog) (some 214) rfl rfl (ox_move (v := (.slice (some ⟨gm, 0, none⟩) NM cm)) g13_f8 ?_)
                      refine xl_op (P := Try.prog) (some 215) rfl rfl (ox_move (v := (.int .i64 (((NM : Nat) : Int) - 1 - (j : Nat)))) g24_f8 ?_)
                      refine xl_op (P := Try.prog) (some 216) rfl rfl (ox_indexAddr (b := gm) (o := 0) (i := (((NM : Nat) : Int) - 1 - (j : Nat))) tE_54 rfl rfl (by omega) (by omega) ?_)
                      refine xl_op (P := Try.prog) (some 217) rfl rfl (ox_loadN (vs := [(.int .i64 z.d), (.int .i64 z.id), (.int .i64 z.kind), (.int .i64 z.n), (.int .i64 z.kids), (.int .i64 z.lf.kind), (.int .i64 z.lf.skip), (.int .i64 z.lf.len), (.int .i64 z.lf.reach)]) tA_88 tS_88 rfl rfl (by rw [show 0 + (((NM : Nat) : Int) - 1 - (j : Nat)).toNat * 9 = (NM - 1 - j) * 9 by omega]; exact CellsL.keep x_f8 not_false hcz) ?_)
                      refine xl_op (P := Try.prog) (some 218) rfl rfl (ox_mkSlice (ps := [(0, (.agg #[(.int .i64 z.d), (.int .i64 z.id), (.int .i64 z.kind), (.int .i64 z.n), (.int .i64 z.kids), (.int .i64 z.lf.kind), (.int .i64 z.lf.skip), (.int .i64 z.lf.len), (.int .i64 z.lf.reach)]))]) (zs := #[(.int .i64 0), (.int .i64 0), (.int .i64 0), (.int .i64 0), (.int .i64 0), (.int .i64 0), (.int .i64 0), (.int .i64 0), (.int .i64 0)]) (cs := #[(.int .i64 z.d), (.int .i64 z.id), (.int .i64 z.kind), (.int .i64 z.n), (.int .i64 z.kids), (.int .i64 z.lf.kind), (.int .i64 z.lf.skip), (.int .i64 z.lf.len), (.int .i64 z.lf.reach)]) tE_54 rfl (by decide) (by kernel_rfl) (by kernel_rfl) ?_)
                      intro w50 e42 z21 b16
                      replace b16 : Blk w50 w49.heap.size #[(.int .i64 z.d), (.int .i64 z.id), (.int .i64 z.kind), (.int .i64 z.n), (.int .i64 z.kids), (.int .i64 z.lf.kind), (.int .i64 z.lf.skip), (.int .i64 z.lf.len), (.int .i64 z.lf.reach)] 88 := b16
                      refine xl_op (P := Try.prog) (some 219) rfl rfl (ox_append (n := j) (g := w49.heap.size) (o := 0) (m := 1) (xs := ((opC (M.reverse.take j)))) (news := ([(.int .i64 z.d), (.int .i64 z.id), (.int .i64 z.kind), (.int .i64 z.n), (.int .i64 z.kids), (.int .i64 z.lf.kind), (.int .i64 z.lf.skip), (.int .i64 z.lf.len), (.int .i64 z.lf.reach)])) rfl tE_54 rfl (by decide) (v := (.slice Ab j cb)) rfl rfl (back_f8.ext e42) rfl b16.all rfl (by omega) (by omega) ?_)
                      intro v13 w51 o13 e43 at13 nil13
                      have he43 := e43.size
                      obtain ⟨A13, c13, rfl, hc13⟩ := o13.shape
                      have low13 : ∀ _k, (Value.slice A13 (j + 1) c13).ownBlock = some _k → w48.heap.size ≤ _k := fun _k _h => by rcases at13 with _e | _e <;> rw [_e] at _h; exact lb_f8 _k _h; exact (by cases _h; omega)
                      refine xl_op (P := Try.prog) (some 23) rfl rfl (ox_assign (v := (.slice A13 (j + 1) c13)) rfl ?_)
                      refine xl_nil ?_
                      refine xc_region ?_
                      refine xl_op (P := Try.prog) (some 211) rfl rfl (ox_move (v := (.int .i64 (((NM : Nat) : Int) - 1 - (j : Nat)))) g24_f8 ?_)
                      refine xl_op (P := Try.prog) (some 212) rfl rfl (ox_sub64 (a := (((NM : Nat) : Int) - 1 - (j : Nat))) (b := 1) rfl rfl (by omega) ?_)
                      refine xl_op (P := Try.prog) (some 24) rfl rfl (ox_assign (v := (.int .i64 (((NM : Nat) : Int) - 1 - (j : Nat) - 1))) rfl ?_)
                      refine xl_nil ?_
                      have ho9 := o13
                      have hsz0 := e42.size
                      have hsz1 := e43.size
                      have htk : M.reverse.take (j + 1) = M.reverse.take j ++ [z] := take_succ' (by rw [List.getElem?_reverse (by omega)]; rw [hMN]; exact hz)
                      exact ⟨rfl, NM - (j + 1), by omega, j + 1, A13, c13, by omega, by omega, g9_f8, g11_f8, g13_f8, g16_f8, g17_f8, g18_f8, rfl, (by first | exact rfl | exact (congrArg (Value.int .i64) (by omega))), (by rw [htk, opC, List.flatMap_append]; simpa [OpD.cs, opC] using ho9), (fun k hk => low13 k (ownBlock_len hk)), (Chg.trans (Ext.trans x_f8 e42) e43 (fun b hb hl => absurd hl (by have := lb_f8 b hb; omega)))⟩
                    · skip
                      refine xc_exit ?_
                      refine xc_seq ?_
                      refine xc_region ?_
                      refine xl_op (P := Try.prog) (some 220) rfl rfl (ox_move (v := (.slice Ab j cb)) g23_f8 ?_)
                      refine xl_op (P := Try.prog) (some 13) rfl rfl (ox_assign (v := (.slice Ab j cb)) rfl ?_)
                      refine xl_nil ?_
                      refine xc_region ?_
                      refine xl_op (P := Try.prog) (some 221) rfl rfl (ox_move (v := (.slice (some ⟨gv, 0, none⟩) NM c12)) g17_f8 ?_)
                      refine xl_op (P := Try.prog) (some 222) rfl rfl (ox_move (v := (.slice Ab j cb)) rfl ?_)
                      have hjN : j = NM := by omega
                      have hbk := back_f8
                      have hlb := lb_f8
                      rw [hjN, List.take_of_length_le (by rw [List.length_reverse]; omega)] at hbk
                      rw [hjN] at hlb
                      have hbr := Own.rowO hbk
                      refine xl_op (P := Try.prog) (some 223) rfl rfl (ox_copyR (n := NM) (cp' := cb) (g := gv) (N := NM + 1) (cap := c12) (xs := opC (M ++ [opM])) (cs := opC M.reverse) rfl tE_54 rfl (by rw [hjN]; rfl) hbr (Vx.Own.ext hr1 x_f8) (by omega) (by rw [opC_len, List.length_reverse, hMN]) (opC_one _) ?_)
                      intro w52 e44 z22 hO4
                      rw [setL_opC M M.reverse [opM] (by simp)] at hO4
                      replace e44 : Chg1 gv w49 w52 := e44
                      refine xl_nil ?_
                      refine xc_region ?_
                      refine xl_op (P := Try.prog) (some 127) rfl rfl (ox_move (v := (.int .i64 ((r : Nat)))) g18_f8 ?_)
                      refine xl_op (P := Try.prog) (some 128) rfl rfl (ox_add64 (a := ((r : Nat))) (b := 1) rfl rfl (by omega) ?_)
                      refine xl_op (P := Try.prog) (some 18) rfl rfl (ox_assign (v := (.int .i64 ((r : Nat) + 1))) rfl ?_)
                      refine xl_nil ?_
                      have q29 := (hbk.keep1 e44 (fun k hk hh => by have h1 := hlb k hk; have h2 : k = gv := hh; omega))
                      have hq_back := q29
                      have hq_given := hO4
                      have q30 := ((Vx.Own.ext hr2 x_f8).keep1 e44 (fun k hk => fun hh => (Vx.Own.ext hr2 x_f8).ne_own (Vx.Own.ext hr1 x_f8) (by decide) k hk (by rw [hh]; rfl)))
                      have hq_ids := q30
                      have q31 := ((Blk.ext hr3 x_f8).keep1 e44 (fun hh => (Vx.Own.ext hr1 x_f8).ne_blk (Blk.ext hr3 x_f8) (by decide) _ rfl hh.symm))
                      have hq_s := q31
                      have hsz0 := e44.size
                      exact ⟨rfl, 2 - (r + 1), by omega, r + 1, M.reverse, Ab, cb, cn9, by omega, by omega, by rw [List.length_reverse]; exact hMN, fun o ho => hM o (by simpa using ho), by omega, g9_f8, g11_f8, (by rw [← hjN]; rfl), g16_f8, g17_f8, (by first | exact rfl | exact (congrArg (Value.int .i64) (by omega))), hq_back, hq_given, hq_ids, hq_s, (fun k hk => by have := hlb k hk; omega), (Chg.chg1 (Chg.ext hCr x_f8) e44 (by first | (left; rfl) | (right; omega)))⟩
                · skip
                  have hsw := hs9
                  have hpa2 : PR w47 pa := PR.keep hC12 hpa (fun b hb hh => PR.off hsA (by decide) (by decide) hpa b hb hh)
                  have hskab : skz ((ts.length : Nat) : Int) pb = skel pa := hskb2.trans hska2.symm
                  have hosm : ∀ x ∈ us.map T.id, x ≤ ((ts.length : Nat) : Int) := by intro x hx; rw [← gok_ids hGM.ok] at hx; obtain ⟨t, ht, rfl⟩ := List.mem_map.1 hx; exact (hGM.ok.nid ht t (nodes_self t)).2
                  refine xc_region ?_
                  refine xl_op (P := Try.prog) (some 157) rfl rfl (ox_move (v := (.int .i64 eb)) rfl ?_)
                  refine xl_op (P := Try.prog) (some 158) rfl rfl (ox_move (v := (.int .i64 eb)) rfl ?_)
                  refine xl_op (P := Try.prog) (some 159) rfl rfl (ox_neq (k := .i64) (a := eb) (b := eb) rfl rfl ?_)
                  refine xl_op (P := Try.prog) (some 160) rfl rfl (ox_move (v := (.bool (decide ((eb : Int) ≠ eb)))) rfl ?_)
                  refine xl_opg (P := Try.prog) (some 161) (j := 3) (b := false) rfl rfl (congrArg some (by simp : decide ((eb : Int) ≠ eb) = false)) (ox_move (v := (.pointer (some ⟨pb.b, 0, none⟩))) rfl ?_)
                  refine xl_opg (P := Try.prog) (some 162) (j := 3) (b := false) rfl rfl (congrArg some (by simp : decide ((eb : Int) ≠ eb) = false)) (ox_eqlNil (p := (some ⟨pb.b, 0, none⟩ : Option Addr)) (q := none) tU_36 rfl rfl (.inr rfl) ?_)
                  refine xl_opg (P := Try.prog) (some 163) (j := 3) (b := false) rfl rfl (congrArg some (by simp : decide ((eb : Int) ≠ eb) = false)) (ox_move (v := (.pointer (some ⟨pa.b, 0, none⟩))) rfl ?_)
                  refine xl_opg (P := Try.prog) (some 164) (j := 3) (b := false) rfl rfl (congrArg some (by simp : decide ((eb : Int) ≠ eb) = false)) (ox_eqlNil (p := (some ⟨pa.b, 0, none⟩ : Option Addr)) (q := none) tU_38 rfl rfl (.inr rfl) ?_)
                  refine xl_opg (P := Try.prog) (some 165) (j := 3) (b := false) rfl rfl (congrArg some (by simp : decide ((eb : Int) ≠ eb) = false)) (ox_neqBool (a := ((decide ((some ⟨pb.b, 0, none⟩ : Option Addr) = none)))) (b := ((decide ((some ⟨pa.b, 0, none⟩ : Option Addr) = none)))) tU_4 rfl rfl ?_)
                  refine xl_op (P := Try.prog) (some 166) rfl rfl (ox_pick_f (v := (.bool (((decide ((some ⟨pb.b, 0, none⟩ : Option Addr) = none)) != (decide ((some ⟨pa.b, 0, none⟩ : Option Addr) = none)))))) (congrArg Value.bool (by simp : decide ((eb : Int) ≠ eb) = false)) rfl ?_)
                  refine xl_op (P := Try.prog) (some 167) rfl rfl (ox_move (v := (.bool (((decide ((some ⟨pb.b, 0, none⟩ : Option Addr) = none)) != (decide ((some ⟨pa.b, 0, none⟩ : Option Addr) = none)))))) rfl ?_)
                  refine xl_opg (P := Try.prog) (some 168) (j := 10) (b := false) rfl rfl (congrArg some (ne_two (show (decide ((some ⟨pb.b, 0, none⟩ : Option Addr) = none)) = false from (decide_eq_false (by simp))) (show (decide ((some ⟨pa.b, 0, none⟩ : Option Addr) = none)) = false from (decide_eq_false (by simp))) rfl)) (ox_move (v := (.slice (some ⟨gv, 0, none⟩) NM c12)) g17_f7 ?_)
                  refine xl_opg (P := Try.prog) (some 169) (j := 10) (b := false) rfl rfl (congrArg some (ne_two (show (decide ((some ⟨pb.b, 0, none⟩ : Option Addr) = none)) = false from (decide_eq_false (by simp))) (show (decide ((some ⟨pa.b, 0, none⟩ : Option Addr) = none)) = false from (decide_eq_false (by simp))) rfl)) (ox_move (v := (.slice Am NM cm)) g13_f7 ?_)
                  have q32 := (((given_f7.ext e38).ext e39).keep1 e40 (fun k hk => ((given_f7.ext e38).ext e39).ne_blk ((blk_s_f7.ext e38).ext e39) (by decide) k hk))
                  have q33 := (((mine_f7.ext e38).ext e39).keep1 e40 (fun k hk => ((mine_f7.ext e38).ext e39).ne_blk ((blk_s_f7.ext e38).ext e39) (by decide) k hk))
                  refine xl_opg (P := Try.prog) (some 170) (j := 10) (b := false) rfl rfl (congrArg some (ne_two (show (decide ((some ⟨pb.b, 0, none⟩ : Option Addr) = none)) = false from (decide_eq_false (by simp))) (show (decide ((some ⟨pa.b, 0, none⟩ : Option Addr) = none)) = false from (decide_eq_false (by simp))) rfl)) (ox_callE (al := [(.slice (some ⟨gv, 0, none⟩) NM c12), (.slice Am NM cm)]) pf_23 rfl (ret_mono ((by have h := sameOps_eq M (some ⟨gv, 0, none⟩) Am c12 cm w47 (Own.frontO (ms := [opM]) q32 hMN) (Own.rowO q33) (by omega); rw [hMN] at h; exact h)) ?_))
                  rintro _ w53 ⟨rfl, e45⟩
                  have he45 := e45.size
                  refine xl_opg (P := Try.prog) (some 171) (j := 10) (b := false) rfl rfl (congrArg some (ne_two (show (decide ((some ⟨pb.b, 0, none⟩ : Option Addr) = none)) = false from (decide_eq_false (by simp))) (show (decide ((some ⟨pa.b, 0, none⟩ : Option Addr) = none)) = false from (decide_eq_false (by simp))) rfl)) (ox_not (b := true) rfl ?_)
                  refine xl_op (P := Try.prog) (some 172) rfl rfl (ox_pick_f (v := (.bool false)) (congrArg Value.bool (ne_two (show (decide ((some ⟨pb.b, 0, none⟩ : Option Addr) = none)) = false from (decide_eq_false (by simp))) (show (decide ((some ⟨pa.b, 0, none⟩ : Option Addr) = none)) = false from (decide_eq_false (by simp))) rfl)) rfl ?_)
                  refine xl_op (P := Try.prog) (some 173) rfl rfl (ox_move (v := (.bool false)) rfl ?_)
                  refine xl_opg (P := Try.prog) (some 174) (j := 16) (b := false) rfl rfl rfl (ox_move (v := (.slice (some ⟨gv, 0, none⟩) NM c12)) g17_f7 ?_)
                  refine xl_opg (P := Try.prog) (some 175) (j := 16) (b := false) rfl rfl rfl (ox_move (v := (.slice Am NM cm)) g13_f7 ?_)
                  refine xl_opg (P := Try.prog) (some 176) (j := 16) (b := false) rfl rfl rfl (ox_len (A := Am) (n := NM) (cp := cm) rfl tU_54 rfl ?_)
                  refine xl_opg (P := Try.prog) (some 177) (j := 16) (b := false) rfl rfl rfl (ox_add64 (a := (((NM : Nat) : Int))) (b := 1) rfl rfl (by omega) ?_)
                  refine xl_opg (P := Try.prog) (some 178) (j := 16) (b := false) rfl rfl rfl (ox_sliceToN (A := (some ⟨gv, 0, none⟩)) (cp := c12) (i := (((NM : Nat) : Int) + 1)) ((NM + 1)) tE_54 rfl rfl (by omega) (by omega) (by omega) ?_)
                  refine xl_opg (P := Try.prog) (some 179) (j := 16) (b := false) rfl rfl rfl (ox_move (v := (.slice Am NM cm)) g13_f7 ?_)
                  refine xl_opg (P := Try.prog) (some 180) (j := 16) (b := false) rfl rfl rfl (ox_len (A := Am) (n := NM) (cp := cm) rfl tU_54 rfl ?_)
                  refine xl_opg (P := Try.prog) (some 181) (j := 16) (b := false) rfl rfl rfl (ox_indexAddr (b := gv) (o := 0) (i := (((NM : Nat) : Int))) tE_54 rfl rfl (by omega) (by omega) ?_)
                  refine xl_opg (P := Try.prog) (some 182) (j := 16) (b := false) rfl rfl rfl (ox_fieldAddr (b := gv) (o := (0 + (((NM : Nat) : Int) : Int).toNat * 9)) tF_88_0 rfl ?_)
                  refine xl_opg (P := Try.prog) (some 183) (j := 16) (b := false) rfl rfl rfl (ox_load (v := (.int .i64 77)) tA_3 rfl (by have h9 := Own.opv (q32.ext e45) (i := NM) (e := opM) (by rw [← hMN]; simp); simpa [OpD.cs] using h9.1) ?_)
                  refine xl_opg (P := Try.prog) (some 184) (j := 16) (b := false) rfl rfl rfl (ox_neq (k := .i64) (a := 77) (b := 77) rfl rfl ?_)
                  refine xl_op (P := Try.prog) (some 185) rfl rfl (ox_pick_f (v := (.bool (decide ((77 : Int) ≠ 77)))) rfl rfl ?_)
                  refine xl_nil ?_
                  refine xc_cond_f (congrArg Value.bool (by decide : decide ((77 : Int) ≠ 77) = false)) ?_
                  refine xc_skip ?_
                  refine xc_seq ?_
                  refine xc_seq ?_
                  refine xc_region ?_
                  refine xl_op (P := Try.prog) (some 186) rfl rfl (ox_move (v := (.pointer (some ⟨pb.b, 0, none⟩))) rfl ?_)
                  refine xl_op (P := Try.prog) (some 187) rfl rfl (ox_neqNil (p := (some ⟨pb.b, 0, none⟩ : Option Addr)) (q := none) tU_36 rfl rfl (.inr rfl) ?_)
                  refine xl_op (P := Try.prog) (some 188) rfl rfl (ox_move (v := (.bool (decide ((some ⟨pb.b, 0, none⟩ : Option Addr) ≠ none)))) rfl ?_)
                  refine xl_opg (P := Try.prog) (some 189) (j := 2) (b := true) rfl rfl (congrArg some (decide_eq_true (by simp))) (ox_move (v := (.pointer (some ⟨pa.b, 0, none⟩))) rfl ?_)
                  refine xl_opg (P := Try.prog) (some 190) (j := 2) (b := true) rfl rfl (congrArg some (decide_eq_true (by simp))) (ox_neqNil (p := (some ⟨pa.b, 0, none⟩ : Option Addr)) (q := none) tU_38 rfl rfl (.inr rfl) ?_)
                  refine xl_op (P := Try.prog) (some 191) rfl rfl (ox_pick_t (v := (.bool (decide ((some ⟨pa.b, 0, none⟩ : Option Addr) ≠ none)))) (congrArg Value.bool (decide_eq_true (by simp))) rfl ?_)
                  refine xl_op (P := Try.prog) (some 192) rfl rfl (ox_move (v := (.bool (decide ((some ⟨pa.b, 0, none⟩ : Option Addr) ≠ none)))) rfl ?_)
                  refine xl_opg (P := Try.prog) (some 193) (j := 6) (b := true) rfl rfl (congrArg some (decide_eq_true (by simp))) (ox_move (v := (.pointer (some ⟨pa.b, 0, none⟩))) rfl ?_)
                  refine xl_opg (P := Try.prog) (some 194) (j := 6) (b := true) rfl rfl (congrArg some (decide_eq_true (by simp))) (ox_nilCheck (p := ⟨pa.b, 0, none⟩) rfl ?_)
                  refine xl_opg (P := Try.prog) (some 195) (j := 6) (b := true) rfl rfl (congrArg some (decide_eq_true (by simp))) (ox_fieldAddr (b := pa.b) (o := 0) tF_86_3 rfl ?_)
                  refine xl_opg (P := Try.prog) (some 196) (j := 6) (b := true) rfl rfl (congrArg some (decide_eq_true (by simp))) (ox_load (v := (.int .i64 (sz pa))) tA_3 rfl ((hpa2.blk.ext e45).cell rfl) ?_)
                  refine xl_opg (P := Try.prog) (some 197) (j := 6) (b := true) rfl rfl (congrArg some (decide_eq_true (by simp))) (ox_leq (k := .i64) (a := (sz pa)) (b := 3000) rfl rfl ?_)
                  refine xl_op (P := Try.prog) (some 198) rfl rfl (ox_pick_t (v := (.bool (decide ((sz pa : Int) ≤ 3000)))) (congrArg Value.bool (decide_eq_true (by simp))) rfl ?_)
                  refine xl_op (P := Try.prog) (some 199) rfl rfl (ox_move (v := (.bool (decide ((sz pa : Int) ≤ 3000)))) rfl ?_)
                  by_cases h15 : (sz pa : Int) ≤ 3000
                  · skip
                    refine xl_opg (P := Try.prog) (some 200) (j := 13) (b := true) rfl rfl (congrArg some (decide_eq_true h15)) (ox_move (v := (.pointer (some ⟨pb.b, 0, none⟩))) rfl ?_)
                    refine xl_opg (P := Try.prog) (some 201) (j := 13) (b := true) rfl rfl (congrArg some (decide_eq_true h15)) (ox_move (v := (.pointer (some ⟨pa.b, 0, none⟩))) rfl ?_)
                    refine xl_opg (P := Try.prog) (some 202) (j := 13) (b := true) rfl rfl (congrArg some (decide_eq_true h15)) (ox_move (v := (.slice Ai i6 ci)) g11_f7 ?_)
                    have q34 := (((ids_f7.ext e38).ext e39).keep1 e40 (fun k hk => ((ids_f7.ext e38).ext e39).ne_blk ((blk_s_f7.ext e38).ext e39) (by decide) k hk))
                    refine xl_opg (P := Try.prog) (some 203) (j := 13) (b := true) rfl rfl (congrArg some (decide_eq_true h15)) (ox_callE (al := [(.pointer (some ⟨pb.b, 0, none⟩)), (.pointer (some ⟨pa.b, 0, none⟩)), (.slice Ai i6 ci)]) pf_37 rfl (ret_mono ((by have h := alike_calls (.pointer (some ⟨s, 0, none⟩)) ((ts.length : Nat) : Int) (us.map T.id) Ai ci pb pa w53 (PN.keep (Chg.ext (Chg.refl (fun x => x = s) w47) e45) hpb (fun b hb hh => PN.off hs9 (by decide) (by decide) hpb b hb hh)) (PR.keep (Chg.ext (Chg.refl (fun x => x = s) w47) e45) hpa2 (fun b hb hh => PR.off hs9 (by decide) (by decide) hpa2 b hb hh)) hskab hidb (by rw [List.map_map]; exact Own.rowO (q34.ext e45)) hosm (by simp; omega) hzb; rw [List.length_map, hI] at h; exact h)) ?_))
                    rintro _ w54 ⟨rfl, e46⟩
                    have he46 := e46.size
                    refine xl_opg (P := Try.prog) (some 204) (j := 13) (b := true) rfl rfl (congrArg some (decide_eq_true h15)) (ox_not (b := true) rfl ?_)
                    refine xl_op (P := Try.prog) (some 205) rfl rfl (ox_pick_t (v := (.bool false)) (congrArg Value.bool (decide_eq_true h15)) rfl ?_)
                    refine xl_nil ?_
                    refine xc_cond_f rfl ?_
                    refine xc_skip ?_
                    refine xc_seq ?_
                    refine xc_region ?_
                    refine xl_op (P := Try.prog) (some 23) rfl rfl (ox_assign (v := (.slice none 0 0)) rfl ?_)
                    refine xl_nil ?_
                    refine xc_seq ?_
                    refine xc_seq ?_
                    refine xc_region ?_
                    refine xl_op (P := Try.prog) (some 206) rfl rfl (ox_move (v := (.slice Am NM cm)) g13_f7 ?_)
                    refine xl_op (P := Try.prog) (some 207) rfl rfl (ox_len (A := Am) (n := NM) (cp := cm) rfl tU_54 rfl ?_)
                    refine xl_op (P := Try.prog) (some 208) rfl rfl (ox_sub64 (a := (((NM : Nat) : Int))) (b := 1) rfl rfl (by omega) ?_)
                    refine xl_op (P := Try.prog) (some 24) rfl rfl (ox_assign (v := (.int .i64 (((NM : Nat) : Int) - 1))) rfl ?_)
                    refine xl_nil ?_
                    refine xc_block ?_
                    have hr0 := ((q33.ext e45).ext e46)
                    have hr1 := ((q32.ext e45).ext e46)
                    have hr2 := ((q34.ext e45).ext e46)
                    have hr3 := ((hs9.ext e45).ext e46)
                    have hCr := (Chg.ext (Chg.ext (Chg.chg1 (Chg.ext (Chg.ext c_f7 e38) e39) e40 (by first | (left; rfl) | (right; omega))) e45) e46)
                    have hzr := hCr.size
                    have hlgr : gv < w54.heap.size := hr1.lt gv rfl
                    refine xc_loopN (fun m f W => ∃ (j : Nat) (Ab : Option Addr) (cb : Nat), m = NM - j ∧ j ≤ NM ∧ f 9 = (.pointer (some ⟨bg, 0, none⟩)) ∧ f 11 = (.slice Ai i6 ci) ∧ f 13 = (.slice Am NM cm) ∧ f 16 = (.int .i64 ((qa : Nat))) ∧ f 17 = (.slice (some ⟨gv, 0, none⟩) NM c12) ∧ f 18 = (.int .i64 ((r : Nat))) ∧ f 23 = (.slice Ab j cb) ∧ f 24 = (.int .i64 (((NM : Nat) : Int) - 1 - (j : Nat))) ∧ Vx.Own W 88 9 (.slice Ab j cb) j (opC (M.reverse.take j)) ∧ (∀ k, ((.slice Ab j cb) : Value).ownBlock = some k → w54.heap.size ≤ k) ∧ Ext w54 W) (NM) ?_ ?_
                    · exact ⟨0, none, 0, by omega, by omega, g9_f7, g11_f7, g13_f7, g16_f7, g17_f7, g18_f7, rfl, (by first | exact rfl | exact (congrArg (Value.int .i64) (by omega))), (Vx.Own.nil _ _ _), (by simp [Value.ownBlock]), (Chg.refl _ _)⟩
                    · rintro m f9 w55 ⟨j, Ab, cb, hm, hj, g9_f9, g11_f9, g13_f9, g16_f9, g17_f9, g18_f9, g23_f9, g24_f9, back_f9, lb_f9, x_f9⟩
                      have hzX := x_f9.size
                      refine xc_seq ?_
                      refine xc_seq ?_
                      refine xc_region ?_
                      refine xl_op (P := Try.prog) (some 209) rfl rfl (ox_move (v := (.int .i64 (((NM : Nat) : Int) - 1 - (j : Nat)))) g24_f9 ?_)
                      refine xl_op (P := Try.prog) (some 210) rfl rfl (ox_geq (k := .i64) (a := (((NM : Nat) : Int) - 1 - (j : Nat))) (b := 0) rfl rfl ?_)
                      refine xl_nil ?_
                      refine xc_if (p := (0 : Int) ≤ (((NM : Nat) : Int) - 1 - (j : Nat))) rfl (fun h16 => ?_) (fun h16 => ?_)
                      · skip
                        have hjl : j < NM := by omega
                        obtain ⟨z, hz⟩ := get_ex (l := M) (i := NM - 1 - j) (by omega)
                        obtain ⟨gm, cm9, heqm, _⟩ := hr0.some_of (by omega)
                        simp only [Value.slice.injEq, true_and] at heqm
                        obtain ⟨rfl, rfl⟩ := heqm
                        have hcz := Own.opv hr0 hz
                        refine xc_skip ?_
                        refine xc_seq ?_
                        refine xc_block ?_
                        refine xc_region ?_
                        refine xl_op (P := Try.prog) (some 213) rfl rfl (ox_move (v := (.slice Ab j cb)) g23_f9 ?_)
                        refine xl_op (P := Try.prog) (some 214) rfl rfl (ox_move (v := (.slice (some ⟨gm, 0, none⟩) NM cm)) g13_f9 ?_)
                        refine xl_op (P := Try.prog) (some 215) rfl rfl (ox_move (v := (.int .i64 (((NM : Nat) : Int) - 1 - (j : Nat)))) g24_f9 ?_)
                        refine xl_op (P := Try.prog) (some 216) rfl rfl (ox_indexAddr (b := gm) (o := 0) (i := (((NM : Nat) : Int) - 1 - (j : Nat))) tE_54 rfl rfl (by omega) (by omega) ?_)
                        refine xl_op (P := Try.prog) (some 217) rfl rfl (ox_loadN (vs := [(.int .i64 z.d), (.int .i64 z.id), (.int .i64 z.kind), (.int .i64 z.n), (.int .i64 z.kids), (.int .i64 z.lf.kind), (.int .i64 z.lf.skip), (.int .i64 z.lf.len), (.int .i64 z.lf.reach)]) tA_88 tS_88 rfl rfl (by rw [show 0 + (((NM : Nat) : Int) - 1 - (j : Nat)).toNat * 9 = (NM - 1 - j) * 9 by omega]; exact CellsL.keep x_f9 not_false hcz) ?_)
                        refine xl_op (P := Try.prog) (some 218) rfl rfl (ox_mkSlice (ps := [(0, (.agg #[(.int .i64 z.d), (.int .i64 z.id), (.int .i64 z.kind), (.int .i64 z.n), (.int .i64 z.kids), (.int .i64 z.lf.kind), (.int .i64 z.lf.skip), (.int .i64 z.lf.len), (.int .i64 z.lf.reach)]))]) (zs := #[(.int .i64 0), (.int .i64 0), (.int .i64 0), (.int .i64 0), (.int .i64 0), (.int .i64 0), (.int .i64 0), (.int .i64 0), (.int .i64 0)]) (cs := #[(.int .i64 z.d), (.int .i64 z.id), (.int .i64 z.kind), (.int .i64 z.n), (.int .i64 z.kids), (.int .i64 z.lf.kind), (.int .i64 z.lf.skip), (.int .i64 z.lf.len), (.int .i64 z.lf.reach)]) tE_54 rfl (by decide) (by kernel_rfl) (by kernel_rfl) ?_)
                        intro w56 e47 z23 b17
                        replace b17 : Blk w56 w55.heap.size #[(.int .i64 z.d), (.int .i64 z.id), (.int .i64 z.kind), (.int .i64 z.n), (.int .i64 z.kids), (.int .i64 z.lf.kind), (.int .i64 z.lf.skip), (.int .i64 z.lf.len), (.int .i64 z.lf.reach)] 88 := b17
                        refine xl_op (P := Try.prog) (some 219) rfl rfl (ox_append (n := j) (g := w55.heap.size) (o := 0) (m := 1) (xs := ((opC (M.reverse.take j)))) (news := ([(.int .i64 z.d), (.int .i64 z.id), (.int .i64 z.kind), (.int .i64 z.n), (.int .i64 z.kids), (.int .i64 z.lf.kind), (.int .i64 z.lf.skip), (.int .i64 z.lf.len), (.int .i64 z.lf.reach)])) rfl tE_54 rfl (by decide) (v := (.slice Ab j cb)) rfl rfl (back_f9.ext e47) rfl b17.all rfl (by omega) (by omega) ?_)
                        intro v14 w57 o14 e48 at14 nil14
                        have he48 := e48.size
                        obtain ⟨A14, c14, rfl, hc14⟩ := o14.shape
                        have low14 : ∀ _k, (Value.slice A14 (j + 1) c14).ownBlock = some _k → w54.heap.size ≤ _k := fun _k _h => by rcases at14 with _e | _e <;> rw [_e] at _h; exact lb_f9 _k _h; exact (by cases _h; omega)
                        refine xl_op (P := Try.prog) (some 23) rfl rfl (ox_assign (v := (.slice A14 (j + 1) c14)) rfl ?_)
                        refine xl_nil ?_
                        refine xc_region ?_
                        refine xl_op (P := Try.prog) (some 211) rfl rfl (ox_move (v := (.int .i64 (((NM : Nat) : Int) - 1 - (j : Nat)))) g24_f9 ?_)
                        refine xl_op (P := Try.prog) (some 212) rfl rfl (ox_sub64 (a := (((NM : Nat) : Int) - 1 - (j : Nat))) (b := 1) rfl rfl (by omega) ?_)
                        refine xl_op (P := Try.prog) (some 24) rfl rfl (ox_assign (v := (.int .i64 (((NM : Nat) : Int) - 1 - (j : Nat) - 1))) rfl ?_)
                        refine xl_nil ?_
                        have ho9 := o14
                        have hsz0 := e47.size
                        have hsz1 := e48.size
                        have htk : M.reverse.take (j + 1) = M.reverse.take j ++ [z] := take_succ' (by rw [List.getElem?_reverse (by omega)]; rw [hMN]; exact hz)
                        exact ⟨rfl, NM - (j + 1), by omega, j + 1, A14, c14, by omega, by omega, g9_f9, g11_f9, g13_f9, g16_f9, g17_f9, g18_f9, rfl, (by first | exact rfl | exact (congrArg (Value.int .i64) (by omega))), (by rw [htk, opC, List.flatMap_append]; simpa [OpD.cs, opC] using ho9), (fun k hk => low14 k (ownBlock_len hk)), (Chg.trans (Ext.trans x_f9 e47) e48 (fun b hb hl => absurd hl (by have := lb_f9 b hb; omega)))⟩
                      · skip
                        refine xc_exit ?_
                        refine xc_seq ?_
                        refine xc_region ?_
                        refine xl_op (P := Try.prog) (some 220) rfl rfl (ox_move (v := (.slice Ab j cb)) g23_f9 ?_)
                        refine xl_op (P := Try.prog) (some 13) rfl rfl (ox_assign (v := (.slice Ab j cb)) rfl ?_)
                        refine xl_nil ?_
                        refine xc_region ?_
                        refine xl_op (P := Try.prog) (some 221) rfl rfl (ox_move (v := (.slice (some ⟨gv, 0, none⟩) NM c12)) g17_f9 ?_)
                        refine xl_op (P := Try.prog) (some 222) rfl rfl (ox_move (v := (.slice Ab j cb)) rfl ?_)
                        have hjN : j = NM := by omega
                        have hbk := back_f9
                        have hlb := lb_f9
                        rw [hjN, List.take_of_length_le (by rw [List.length_reverse]; omega)] at hbk
                        rw [hjN] at hlb
                        have hbr := Own.rowO hbk
                        refine xl_op (P := Try.prog) (some 223) rfl rfl (ox_copyR (n := NM) (cp' := cb) (g := gv) (N := NM + 1) (cap := c12) (xs := opC (M ++ [opM])) (cs := opC M.reverse) rfl tE_54 rfl (by rw [hjN]; rfl) hbr (Vx.Own.ext hr1 x_f9) (by omega) (by rw [opC_len, List.length_reverse, hMN]) (opC_one _) ?_)
                        intro w58 e49 z24 hO5
                        rw [setL_opC M M.reverse [opM] (by simp)] at hO5
                        replace e49 : Chg1 gv w55 w58 := e49
                        refine xl_nil ?_
                        refine xc_region ?_
                        refine xl_op (P := Try.prog) (some 127) rfl rfl (ox_move (v := (.int .i64 ((r : Nat)))) g18_f9 ?_)
                        refine xl_op (P := Try.prog) (some 128) rfl rfl (ox_add64 (a := ((r : Nat))) (b := 1) rfl rfl (by omega) ?_)
                        refine xl_op (P := Try.prog) (some 18) rfl rfl (ox_assign (v := (.int .i64 ((r : Nat) + 1))) rfl ?_)
                        refine xl_nil ?_
                        have q35 := (hbk.keep1 e49 (fun k hk hh => by have h1 := hlb k hk; have h2 : k = gv := hh; omega))
                        have hq_back := q35
                        have hq_given := hO5
                        have q36 := ((Vx.Own.ext hr2 x_f9).keep1 e49 (fun k hk => fun hh => (Vx.Own.ext hr2 x_f9).ne_own (Vx.Own.ext hr1 x_f9) (by decide) k hk (by rw [hh]; rfl)))
                        have hq_ids := q36
                        have q37 := ((Blk.ext hr3 x_f9).keep1 e49 (fun hh => (Vx.Own.ext hr1 x_f9).ne_blk (Blk.ext hr3 x_f9) (by decide) _ rfl hh.symm))
                        have hq_s := q37
                        have hsz0 := e49.size
                        exact ⟨rfl, 2 - (r + 1), by omega, r + 1, M.reverse, Ab, cb, cn9, by omega, by omega, by rw [List.length_reverse]; exact hMN, fun o ho => hM o (by simpa using ho), by omega, g9_f9, g11_f9, (by rw [← hjN]; rfl), g16_f9, g17_f9, (by first | exact rfl | exact (congrArg (Value.int .i64) (by omega))), hq_back, hq_given, hq_ids, hq_s, (fun k hk => by have := hlb k hk; omega), (Chg.chg1 (Chg.ext hCr x_f9) e49 (by first | (left; rfl) | (right; omega)))⟩
                  · skip
                    refine xl_skip (some 200) (j := 13) (b := true) false rfl rfl (congrArg some (decide_eq_false h15)) (by decide) ?_
                    refine xl_skip (some 201) (j := 13) (b := true) false rfl rfl (congrArg some (decide_eq_false h15)) (by decide) ?_
                    refine xl_skip (some 202) (j := 13) (b := true) false rfl rfl (congrArg some (decide_eq_false h15)) (by decide) ?_
                    refine xl_skip (some 203) (j := 13) (b := true) false rfl rfl (congrArg some (decide_eq_false h15)) (by decide) ?_
                    refine xl_skip (some 204) (j := 13) (b := true) false rfl rfl (congrArg some (decide_eq_false h15)) (by decide) ?_
                    refine xl_op (P := Try.prog) (some 205) rfl rfl (ox_pick_f (v := (.bool false)) (congrArg Value.bool (decide_eq_false h15)) rfl ?_)
                    refine xl_nil ?_
                    refine xc_cond_f rfl ?_
                    refine xc_skip ?_
                    refine xc_seq ?_
                    refine xc_region ?_
                    refine xl_op (P := Try.prog) (some 23) rfl rfl (ox_assign (v := (.slice none 0 0)) rfl ?_)
                    refine xl_nil ?_
                    refine xc_seq ?_
                    refine xc_seq ?_
                    refine xc_region ?_
                    refine xl_op (P := Try.prog) (some 206) rfl rfl (ox_move (v := (.slice Am NM cm)) g13_f7 ?_)
                    refine xl_op (P := Try.prog) (some 207) rfl rfl (ox_len (A := Am) (n := NM) (cp := cm) rfl tU_54 rfl ?_)
                    refine xl_op (P := Try.prog) (some 208) rfl rfl (ox_sub64 (a := (((NM : Nat) : Int))) (b := 1) rfl rfl (by omega) ?_)
                    refine xl_op (P := Try.prog) (some 24) rfl rfl (ox_assign (v := (.int .i64 (((NM : Nat) : Int) - 1))) rfl ?_)
                    refine xl_nil ?_
                    refine xc_block ?_
                    have hr0 := (q33.ext e45)
                    have hr1 := (q32.ext e45)
                    have q38 := (((ids_f7.ext e38).ext e39).keep1 e40 (fun k hk => ((ids_f7.ext e38).ext e39).ne_blk ((blk_s_f7.ext e38).ext e39) (by decide) k hk))
                    have hr2 := (q38.ext e45)
                    have hr3 := (hs9.ext e45)
                    have hCr := (Chg.ext (Chg.chg1 (Chg.ext (Chg.ext c_f7 e38) e39) e40 (by first | (left; rfl) | (right; omega))) e45)
                    have hzr := hCr.size
                    have hlgr : gv < w53.heap.size := hr1.lt gv rfl
                    refine xc_loopN (fun m f W => ∃ (j : Nat) (Ab : Option Addr) (cb : Nat), m = NM - j ∧ j ≤ NM ∧ f 9 = (.pointer (some ⟨bg, 0, none⟩)) ∧ f 11 = (.slice Ai i6 ci) ∧ f 13 = (.slice Am NM cm) ∧ f 16 = (.int .i64 ((qa : Nat))) ∧ f 17 = (.slice (some ⟨gv, 0, none⟩) NM c12) ∧ f 18 = (.int .i64 ((r : Nat))) ∧ f 23 = (.slice Ab j cb) ∧ f 24 = (.int .i64 (((NM : Nat) : Int) - 1 - (j : Nat))) ∧ Vx.Own W 88 9 (.slice Ab j cb) j (opC (M.reverse.take j)) ∧ (∀ k, ((.slice Ab j cb) : Value).ownBlock = some k → w53.heap.size ≤ k) ∧ Ext w53 W) (NM) ?_ ?_
                    · exact ⟨0, none, 0, by omega, by omega, g9_f7, g11_f7, g13_f7, g16_f7, g17_f7, g18_f7, rfl, (by first | exact rfl | exact (congrArg (Value.int .i64) (by omega))), (Vx.Own.nil _ _ _), (by simp [Value.ownBlock]), (Chg.refl _ _)⟩
                    · rintro m f10 w59 ⟨j, Ab, cb, hm, hj, g9_f10, g11_f10, g13_f10, g16_f10, g17_f10, g18_f10, g23_f10, g24_f10, back_f10, lb_f10, x_f10⟩
                      have hzX := x_f10.size
                      refine xc_seq ?_
                      refine xc_seq ?_
                      refine xc_region ?_
                      refine xl_op (P := Try.prog) (some 209) rfl rfl (ox_move (v := (.int .i64 (((NM : Nat) : Int) - 1 - (j : Nat)))) g24_f10 ?_)
                      refine xl_op (P := Try.prog) (some 210) rfl rfl (ox_geq (k := .i64) (a := (((NM : Nat) : Int) - 1 - (j : Nat))) (b := 0) rfl rfl ?_)
                      refine xl_nil ?_
                      refine xc_if (p := (0 : Int) ≤ (((NM : Nat) : Int) - 1 - (j : Nat))) rfl (fun h17 => ?_) (fun h17 => ?_)
                      · skip
                        have hjl : j < NM := by omega
                        obtain ⟨z, hz⟩ := get_ex (l := M) (i := NM - 1 - j) (by omega)
                        obtain ⟨gm, cm9, heqm, _⟩ := hr0.some_of (by omega)
                        simp only [Value.slice.injEq, true_and] at heqm
                        obtain ⟨rfl, rfl⟩ := heqm
                        have hcz := Own.opv hr0 hz
                        refine xc_skip ?_
                        refine xc_seq ?_
                        refine xc_block ?_
                        refine xc_region ?_
                        refine xl_op (P := Try.prog) (some 213) rfl rfl (ox_move (v := (.slice Ab j cb)) g23_f10 ?_)
                        refine xl_op (P := Try.prog) (some 214) rfl rfl (ox_move (v := (.slice (some ⟨gm, 0, none⟩) NM cm)) g13_f10 ?_)
                        refine xl_op (P := Try.prog) (some 215) rfl rfl (ox_move (v := (.int .i64 (((NM : Nat) : Int) - 1 - (j : Nat)))) g24_f10 ?_)
                        refine xl_op (P := Try.prog) (some 216) rfl rfl (ox_indexAddr (b := gm) (o := 0) (i := (((NM : Nat) : Int) - 1 - (j : Nat))) tE_54 rfl rfl (by omega) (by omega) ?_)
                        refine xl_op (P := Try.prog) (some 217) rfl rfl (ox_loadN (vs := [(.int .i64 z.d), (.int .i64 z.id), (.int .i64 z.kind), (.int .i64 z.n), (.int .i64 z.kids), (.int .i64 z.lf.kind), (.int .i64 z.lf.skip), (.int .i64 z.lf.len), (.int .i64 z.lf.reach)]) tA_88 tS_88 rfl rfl (by rw [show 0 + (((NM : Nat) : Int) - 1 - (j : Nat)).toNat * 9 = (NM - 1 - j) * 9 by omega]; exact CellsL.keep x_f10 not_false hcz) ?_)
                        refine xl_op (P := Try.prog) (some 218) rfl rfl (ox_mkSlice (ps := [(0, (.agg #[(.int .i64 z.d), (.int .i64 z.id), (.int .i64 z.kind), (.int .i64 z.n), (.int .i64 z.kids), (.int .i64 z.lf.kind), (.int .i64 z.lf.skip), (.int .i64 z.lf.len), (.int .i64 z.lf.reach)]))]) (zs := #[(.int .i64 0), (.int .i64 0), (.int .i64 0), (.int .i64 0), (.int .i64 0), (.int .i64 0), (.int .i64 0), (.int .i64 0), (.int .i64 0)]) (cs := #[(.int .i64 z.d), (.int .i64 z.id), (.int .i64 z.kind), (.int .i64 z.n), (.int .i64 z.kids), (.int .i64 z.lf.kind), (.int .i64 z.lf.skip), (.int .i64 z.lf.len), (.int .i64 z.lf.reach)]) tE_54 rfl (by decide) (by kernel_rfl) (by kernel_rfl) ?_)
                        intro w60 e50 z25 b18
                        replace b18 : Blk w60 w59.heap.size #[(.int .i64 z.d), (.int .i64 z.id), (.int .i64 z.kind), (.int .i64 z.n), (.int .i64 z.kids), (.int .i64 z.lf.kind), (.int .i64 z.lf.skip), (.int .i64 z.lf.len), (.int .i64 z.lf.reach)] 88 := b18
                        refine xl_op (P := Try.prog) (some 219) rfl rfl (ox_append (n := j) (g := w59.heap.size) (o := 0) (m := 1) (xs := ((opC (M.reverse.take j)))) (news := ([(.int .i64 z.d), (.int .i64 z.id), (.int .i64 z.kind), (.int .i64 z.n), (.int .i64 z.kids), (.int .i64 z.lf.kind), (.int .i64 z.lf.skip), (.int .i64 z.lf.len), (.int .i64 z.lf.reach)])) rfl tE_54 rfl (by decide) (v := (.slice Ab j cb)) rfl rfl (back_f10.ext e50) rfl b18.all rfl (by omega) (by omega) ?_)
                        intro v15 w61 o15 e51 at15 nil15
                        have he51 := e51.size
                        obtain ⟨A15, c15, rfl, hc15⟩ := o15.shape
                        have low15 : ∀ _k, (Value.slice A15 (j + 1) c15).ownBlock = some _k → w53.heap.size ≤ _k := fun _k _h => by rcases at15 with _e | _e <;> rw [_e] at _h; exact lb_f10 _k _h; exact (by cases _h; omega)
                        refine xl_op (P := Try.prog) (some 23) rfl rfl (ox_assign (v := (.slice A15 (j + 1) c15)) rfl ?_)
                        refine xl_nil ?_
                        refine xc_region ?_
                        refine xl_op (P := Try.prog) (some 211) rfl rfl (ox_move (v := (.int .i64 (((NM : Nat) : Int) - 1 - (j : Nat)))) g24_f10 ?_)
                        refine xl_op (P := Try.prog) (some 212) rfl rfl (ox_sub64 (a := (((NM : Nat) : Int) - 1 - (j : Nat))) (b := 1) rfl rfl (by omega) ?_)
                        refine xl_op (P := Try.prog) (some 24) rfl rfl (ox_assign (v := (.int .i64 (((NM : Nat) : Int) - 1 - (j : Nat) - 1))) rfl ?_)
                        refine xl_nil ?_
                        have ho9 := o15
                        have hsz0 := e50.size
                        have hsz1 := e51.size
                        have htk : M.reverse.take (j + 1) = M.reverse.take j ++ [z] := take_succ' (by rw [List.getElem?_reverse (by omega)]; rw [hMN]; exact hz)
                        exact ⟨rfl, NM - (j + 1), by omega, j + 1, A15, c15, by omega, by omega, g9_f10, g11_f10, g13_f10, g16_f10, g17_f10, g18_f10, rfl, (by first | exact rfl | exact (congrArg (Value.int .i64) (by omega))), (by rw [htk, opC, List.flatMap_append]; simpa [OpD.cs, opC] using ho9), (fun k hk => low15 k (ownBlock_len hk)), (Chg.trans (Ext.trans x_f10 e50) e51 (fun b hb hl => absurd hl (by have := lb_f10 b hb; omega)))⟩
                      · skip
                        refine xc_exit ?_
                        refine xc_seq ?_
                        refine xc_region ?_
                        refine xl_op (P := Try.prog) (some 220) rfl rfl (ox_move (v := (.slice Ab j cb)) g23_f10 ?_)
                        refine xl_op (P := Try.prog) (some 13) rfl rfl (ox_assign (v := (.slice Ab j cb)) rfl ?_)
                        refine xl_nil ?_
                        refine xc_region ?_
                        refine xl_op (P := Try.prog) (some 221) rfl rfl (ox_move (v := (.slice (some ⟨gv, 0, none⟩) NM c12)) g17_f10 ?_)
                        refine xl_op (P := Try.prog) (some 222) rfl rfl (ox_move (v := (.slice Ab j cb)) rfl ?_)
                        have hjN : j = NM := by omega
                        have hbk := back_f10
                        have hlb := lb_f10
                        rw [hjN, List.take_of_length_le (by rw [List.length_reverse]; omega)] at hbk
                        rw [hjN] at hlb
                        have hbr := Own.rowO hbk
                        refine xl_op (P := Try.prog) (some 223) rfl rfl (ox_copyR (n := NM) (cp' := cb) (g := gv) (N := NM + 1) (cap := c12) (xs := opC (M ++ [opM])) (cs := opC M.reverse) rfl tE_54 rfl (by rw [hjN]; rfl) hbr (Vx.Own.ext hr1 x_f10) (by omega) (by rw [opC_len, List.length_reverse, hMN]) (opC_one _) ?_)
                        intro w62 e52 z26 hO6
                        rw [setL_opC M M.reverse [opM] (by simp)] at hO6
                        replace e52 : Chg1 gv w59 w62 := e52
                        refine xl_nil ?_
                        refine xc_region ?_
                        refine xl_op (P := Try.prog) (some 127) rfl rfl (ox_move (v := (.int .i64 ((r : Nat)))) g18_f10 ?_)
                        refine xl_op (P := Try.prog) (some 128) rfl rfl (ox_add64 (a := ((r : Nat))) (b := 1) rfl rfl (by omega) ?_)
                        refine xl_op (P := Try.prog) (some 18) rfl rfl (ox_assign (v := (.int .i64 ((r : Nat) + 1))) rfl ?_)
                        refine xl_nil ?_
                        have q39 := (hbk.keep1 e52 (fun k hk hh => by have h1 := hlb k hk; have h2 : k = gv := hh; omega))
                        have hq_back := q39
                        have hq_given := hO6
                        have q40 := ((Vx.Own.ext hr2 x_f10).keep1 e52 (fun k hk => fun hh => (Vx.Own.ext hr2 x_f10).ne_own (Vx.Own.ext hr1 x_f10) (by decide) k hk (by rw [hh]; rfl)))
                        have hq_ids := q40
                        have q41 := ((Blk.ext hr3 x_f10).keep1 e52 (fun hh => (Vx.Own.ext hr1 x_f10).ne_blk (Blk.ext hr3 x_f10) (by decide) _ rfl hh.symm))
                        have hq_s := q41
                        have hsz0 := e52.size
                        exact ⟨rfl, 2 - (r + 1), by omega, r + 1, M.reverse, Ab, cb, cn9, by omega, by omega, by rw [List.length_reverse]; exact hMN, fun o ho => hM o (by simpa using ho), by omega, g9_f10, g11_f10, (by rw [← hjN]; rfl), g16_f10, g17_f10, (by first | exact rfl | exact (congrArg (Value.int .i64) (by omega))), hq_back, hq_given, hq_ids, hq_s, (fun k hk => by have := hlb k hk; omega), (Chg.chg1 (Chg.ext hCr x_f10) e52 (by first | (left; rfl) | (right; omega)))⟩
              · skip
                refine xc_exit ?_
                refine xc_seq ?_
                refine xc_region ?_
                refine xl_op (P := Try.prog) (some 8) rfl rfl (ox_assign (v := (.bool true)) rfl ?_)
                refine xl_nil ?_
                refine xc_ret ?_
                change leaves _ _ _ _ _ _ _
                refine leaves_nil (n := 224) (rs := [.tmp 8]) (vs := [(.bool true)]) rfl ⟨⟨by decide, rfl⟩, trivial⟩ ?_
                exact ⟨rfl, Ext.chg1 hEg c_f7 hls⟩

end Go.Proofs.Ythhbnodnpajljaa
