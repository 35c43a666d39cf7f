/-
  Copies of edits. No conditions.
-/
import Derived.Test.YthhbnodnpajljaaVxi
import Derived.Test.YthhbnodnpajljaaRows
import Derived.Test.YthhbnodnpajljaaDeb
import Derived.Test.YthhbnodnpajljaaDs
set_option linter.unusedVariables false
set_option linter.unusedSimpArgs false
set_option maxRecDepth 100000
set_option maxHeartbeats 4000000
namespace Go.Proofs.Ythhbnodnpajljaa
open Go Go.RowKit Go.Vx


theorem tA_57 : isAggT Try.prog 57 = some false := by kernel_rfl
theorem tE_57 : sliceT Try.prog 57 = some (5, 1, 1, (.int .u8 0)) := by kernel_rfl
theorem tF_59_2 : fieldT Try.prog 59 2 = some 2 := by kernel_rfl
theorem tP_59 : placesT Try.prog 59 = some #[(0, 1), (1, 1), (2, 1)] := by kernel_rfl
theorem tS_57 : sizeT Try.prog 57 = some 1 := by kernel_rfl
theorem tU_57 : Try.prog.underlying 57 = some (.slice 5) := by kernel_rfl
theorem tZ_59 : zeroOf Try.prog 59 = some (.agg #[(.int .i64 0), (.int .i64 0), (.slice none 0 0)]) := by kernel_rfl

theorem edits_calls (l : List EB) (A : Option Addr) (c : Nat) (w : World) (hA : RowA w A (edC (l.map EB.e))) (hn : l.length * 40 ≤ 140737488351232) (hb : ∀ x ∈ l, x.e.n ≤ 140737488351232) (hr : ∀ x ∈ l, x.rd w) :
    Calls Try.prog 18 #[(.slice A l.length c)] w (Ret (fun v w' => ∃ g c' ys, v = .slice (some ⟨g, 0, none⟩) l.length c' ∧ l.length + 1 ≤ c' ∧ Vx.Own w' 59 3 (.slice (some ⟨g, 0, none⟩) (l.length + 1) c') (l.length + 1) (edC (ys ++ [edM])) ∧ w.heap.size ≤ g ∧ CpyL w.heap.size w' l ys ∧ Ext w w')) := by
  refine calls_xc (n := 44) (f := fun s_ => [(.slice A l.length c)].getD s_ undef) Try.func18 rfl rfl (by simp) (fun s_ => by simp) ?_
  refine xc_seq ?_
  refine xc_region ?_
  refine xl_op (P := Try.prog) (some 2) rfl rfl (ox_assign (v := (.slice none 0 0)) rfl ?_)
  refine xl_nil ?_
  refine xc_seq ?_
  refine xc_region ?_
  refine xl_op (P := Try.prog) (some 3) rfl rfl (ox_assign (v := (.slice none 0 0)) rfl ?_)
  refine xl_nil ?_
  refine xc_seq ?_
  refine xc_seq ?_
  refine xc_region ?_
  refine xl_op (P := Try.prog) (some 4) rfl rfl (ox_assign (v := (.int .i64 0)) rfl ?_)
  refine xl_nil ?_
  refine xc_block ?_
  refine xc_loopN (fun m f W => ∃ (j : Nat) (ys : List Ed) (Ao : Option Addr) (co : Nat), m = l.length - j ∧ j ≤ l.length ∧ f 0 = (.slice A l.length c) ∧ f 3 = (.slice Ao j co) ∧ f 4 = (.int .i64 ((j : Nat))) ∧ Vx.Own W 59 3 (.slice Ao j co) j (edC ys) ∧ (∀ k, ((.slice Ao j co) : Value).ownBlock = some k → w.heap.size ≤ k) ∧ CpyL w.heap.size W (l.take j) ys ∧ Ext w W) (l.length) ?_ ?_
  · exact ⟨0, [], none, 0, by omega, by omega, rfl, rfl, (by first | exact rfl | exact (congrArg (Value.int .i64) (by omega))), (Vx.Own.nil _ _ _), (by simp [Value.ownBlock]), (CpyL.nil _ _), (Chg.refl _ _)⟩
  · rintro m f1 w1 ⟨j, ys, Ao, co, hm, hj, g0_f1, g3_f1, g4_f1, o_f1, lo_f1, cp_f1, e_f1⟩
    have hzE := e_f1.size
    refine xc_seq ?_
    refine xc_seq ?_
    refine xc_region ?_
    refine xl_op (P := Try.prog) (some 6) rfl rfl (ox_move (v := (.int .i64 ((j : Nat)))) g4_f1 ?_)
    refine xl_op (P := Try.prog) (some 7) rfl rfl (ox_move (v := (.slice A l.length c)) g0_f1 ?_)
    refine xl_op (P := Try.prog) (some 8) rfl rfl (ox_len (A := A) (n := l.length) (cp := c) rfl tU_43 rfl ?_)
    refine xl_op (P := Try.prog) (some 9) rfl rfl (ox_lss (k := .i64) (a := ((j : Nat))) (b := (((l.length : Nat) : Int))) rfl rfl ?_)
    refine xl_nil ?_
    refine xc_if (p := ((j : Nat) : Int) < (((l.length : Nat) : Int))) rfl (fun h1 => ?_) (fun h1 => ?_)
    · skip
      have hjl : j < l.length := by omega
      obtain ⟨x, hx⟩ := get_ex (l := l) (i := j) hjl
      have hxm := List.mem_of_getElem? hx
      have hbx := hb x hxm
      have hrx := hr x hxm
      have hlm : (l.map EB.e)[j]? = some x.e := by rw [List.getElem?_map, hx]; rfl
      obtain ⟨g, o, rfl⟩ := hA.ex (by intro hh; cases l with | nil => simp at hx | cons q l => simp [edC, Ed.cs] at hh)
      have hce : CellsL w g (o + j * 3) x.e.cs := cellsL_flat Ed.cs 3 (fun _ => rfl) hA.cells hlm
      refine xc_skip ?_
      refine xc_seq ?_
      refine xc_block ?_
      refine xc_seq ?_
      refine xc_region ?_
      refine xl_op (P := Try.prog) (some 12) rfl rfl (ox_move (v := (.slice (some ⟨g, o, none⟩) l.length c)) g0_f1 ?_)
      refine xl_op (P := Try.prog) (some 13) rfl rfl (ox_move (v := (.int .i64 ((j : Nat)))) g4_f1 ?_)
      refine xl_op (P := Try.prog) (some 14) rfl rfl (ox_indexAddr (b := g) (o := o) (i := ((j : Nat))) tE_43 rfl rfl (by omega) (by omega) ?_)
      refine xl_op (P := Try.prog) (some 15) rfl rfl (ox_loadN (vs := [(.int .i64 x.e.pl), (.int .i64 x.e.del), (.slice x.e.A x.e.n x.e.c)]) tA_59 tS_59 rfl rfl (CellsL.keep e_f1 not_false hce) ?_)
      refine xl_op (P := Try.prog) (some 5) rfl rfl (ox_alloc tZ_59 ?_)
      intro w2 e1 z1 b1
      replace b1 : Blk w2 w1.heap.size #[(.int .i64 0), (.int .i64 0), (.slice none 0 0)] 59 := b1
      refine xl_op (P := Try.prog) none rfl rfl (ox_store (n := 3) (vs := [(.int .i64 x.e.pl), (.int .i64 x.e.del), (.slice x.e.A x.e.n x.e.c)]) tS_59 rfl (v := (.agg #[(.int .i64 x.e.pl), (.int .i64 x.e.del), (.slice x.e.A x.e.n x.e.c)])) rfl rfl rfl rfl b1 (Nat.le_of_ble_eq_true rfl) ?_)
      intro w3 e2 z2 b2
      replace b2 : Blk w3 w1.heap.size #[(.int .i64 x.e.pl), (.int .i64 x.e.del), (.slice x.e.A x.e.n x.e.c)] 59 := b2
      refine xl_nil ?_
      refine xc_seq ?_
      refine xc_cut (fun f' W' => ∃ g9 c9, f' 0 = (.slice (some ⟨g, o, none⟩) l.length c) ∧ f' 3 = (.slice Ao j co) ∧ f' 4 = (.int .i64 ((j : Nat))) ∧ f' 5 = (.pointer (some ⟨w1.heap.size, 0, none⟩)) ∧ Blk W' w1.heap.size #[.int .i64 x.e.pl, .int .i64 x.e.del, .slice (some ⟨g9, 0, none⟩) x.e.n c9] 59 ∧ w3.heap.size ≤ g9 ∧ x.e.n + 1 ≤ c9 ∧ Vx.Own W' 5 1 (.slice (some ⟨g9, 0, none⟩) (x.e.n + 1) c9) (x.e.n + 1) (byC (x.bs ++ [165])) ∧ Chg (fun b => b = w1.heap.size) w3 W') ?_ ?_
      · skip
        refine xc_regionE [17] (fun W_ => Chg (fun _ => False) w3 W_) hmix ?_
        intro w4 e3 z3
        have hS1 : Chg (fun _ => False) w3 w4 := Ext.to e3
        refine xd_pure 1 (some 17) rfl rfl (by kernel_rfl) (v := (.slice (some ⟨g, o, none⟩) l.length c)) (.inl ⟨rfl, fun W_ hW_ => ox_move (v := (.slice (some ⟨g, o, none⟩) l.length c)) g0_f1 ⟨rfl, rfl⟩⟩) ?_
        refine xd_pure 2 (some 18) rfl rfl (by kernel_rfl) (v := (.int .i64 ((j : Nat)))) (.inl ⟨rfl, fun W_ hW_ => ox_move (v := (.int .i64 ((j : Nat)))) g4_f1 ⟨rfl, rfl⟩⟩) ?_
        refine xd_pure 3 (some 19) rfl rfl (by kernel_rfl) (v := (.pointer (some ⟨g, o + j * 3, none⟩))) (.inl ⟨rfl, fun W_ hW_ => ox_indexAddr (b := g) (o := o) (i := ((j : Nat))) tE_43 rfl rfl (by omega) (by omega) ⟨rfl, rfl⟩⟩) ?_
        refine xd_pure 4 (some 20) rfl rfl (by kernel_rfl) (v := (.pointer (some ⟨g, o + j * 3 + 2, none⟩))) (.inl ⟨rfl, fun W_ hW_ => ox_fieldAddr (b := g) (o := (o + j * 3)) tF_59_2 rfl ⟨rfl, rfl⟩⟩) ?_
        refine xd_take 5 (some 21) rfl rfl (by kernel_rfl) (v := (.slice x.e.A x.e.n x.e.c)) (.inl ⟨rfl, fun W_ hW_ => ox_load (v := (.slice x.e.A x.e.n x.e.c)) tA_57 rfl (CellsL.keep (Ext.trans (Ext.chg1 (Ext.trans e_f1 e1) e2 (by omega)) hW_) not_false hce).2.2.1 ⟨rfl, rfl⟩⟩) hS1 ?_
        refine xd_pure 9 (some 25) rfl rfl (by kernel_rfl) (v := (.slice (some ⟨g, o, none⟩) l.length c)) (.inl ⟨rfl, fun W_ hW_ => ox_move (v := (.slice (some ⟨g, o, none⟩) l.length c)) g0_f1 ⟨rfl, rfl⟩⟩) ?_
        refine xd_pure 10 (some 26) rfl rfl (by kernel_rfl) (v := (.int .i64 ((j : Nat)))) (.inl ⟨rfl, fun W_ hW_ => ox_move (v := (.int .i64 ((j : Nat)))) g4_f1 ⟨rfl, rfl⟩⟩) ?_
        refine xd_pure 11 (some 27) rfl rfl (by kernel_rfl) (v := (.pointer (some ⟨g, o + j * 3, none⟩))) (.inl ⟨rfl, fun W_ hW_ => ox_indexAddr (b := g) (o := o) (i := ((j : Nat))) tE_43 rfl rfl (by omega) (by omega) ⟨rfl, rfl⟩⟩) ?_
        refine xd_pure 12 (some 28) rfl rfl (by kernel_rfl) (v := (.pointer (some ⟨g, o + j * 3 + 2, none⟩))) (.inl ⟨rfl, fun W_ hW_ => ox_fieldAddr (b := g) (o := (o + j * 3)) tF_59_2 rfl ⟨rfl, rfl⟩⟩) ?_
        refine xd_take 13 (some 29) rfl rfl (by kernel_rfl) (v := (.slice x.e.A x.e.n x.e.c)) (.inl ⟨rfl, fun W_ hW_ => ox_load (v := (.slice x.e.A x.e.n x.e.c)) tA_57 rfl (CellsL.keep (Ext.trans (Ext.chg1 (Ext.trans e_f1 e1) e2 (by omega)) hW_) not_false hce).2.2.1 ⟨rfl, rfl⟩⟩) hS1 ?_
        refine xd_pure 14 (some 30) rfl rfl (by kernel_rfl) (v := (.int .i64 (((x.e.n : Nat) : Int)))) (.inl ⟨rfl, fun W_ hW_ => ox_len (A := x.e.A) (n := x.e.n) (cp := x.e.c) rfl tU_57 rfl ⟨rfl, rfl⟩⟩) ?_
        refine xd_two 0 7 (some 16) (some 23) rfl rfl rfl rfl (by kernel_rfl) rfl rfl (ox_mkSlice (ps := []) (zs := #[]) (cs := #[]) tE_57 rfl (by decide) (by kernel_rfl) (by kernel_rfl) ?_) (ox_mkSlice (ps := [(0, (.int .u8 165))]) (zs := #[(.int .u8 0)]) (cs := #[(.int .u8 165)]) tE_57 rfl (by decide) (by kernel_rfl) (by kernel_rfl) ?_)
        · skip
          intro w5 e4 z4 b3
          replace b3 : Blk w5 w4.heap.size #[] 5 := b3
          have hS2 : Chg (fun _ => False) w3 w5 := Chg.ext hS1 e4
          refine ⟨.inr fun _ => hS2, ?_⟩
          refine xd_two 6 7 (some 22) (some 23) rfl rfl rfl rfl (by kernel_rfl) rfl rfl (ox_appendR (n := 0) (m := x.e.n) (xs := ([])) (news := ((byC x.bs))) rfl tE_57 rfl (by decide) (v := (.slice (some ⟨w4.heap.size, 0, none⟩) 0 0)) rfl rfl (Vx.Own.lit (n := 0) (sz := 1) b3 rfl (by decide)) (by rw [byC_len, hrx.1, Nat.mul_one]) (RowA.ext hrx.2 (Ext.trans (Ext.trans (Ext.chg1 (Ext.trans e_f1 e1) e2 (by omega)) e3) e4)) (byC_one _) (by omega) (by omega) ?_) (ox_mkSlice (ps := [(0, (.int .u8 165))]) (zs := #[(.int .u8 0)]) (cs := #[(.int .u8 165)]) tE_57 rfl (by decide) (by kernel_rfl) (by kernel_rfl) ?_)
          · skip
            intro v1 w6 o1 e6 at1 nil1
            have he6 := e6.size
            obtain ⟨A1, c1, rfl, hc1⟩ := o1.shape
            have low1 : ∀ _k, (Value.slice A1 (0 + x.e.n) c1).ownBlock = some _k → w4.heap.size ≤ _k := fun _k _h => by rcases at1 with _e | _e <;> rw [_e] at _h; exact (fun _k _h => by simp [Value.ownBlock] at _h; omega) _k _h; exact (by cases _h; omega)
            replace o1 : Vx.Own w6 5 1 (.slice A1 (0 + x.e.n) c1) (0 + x.e.n) ((byC x.bs)) := by simpa using o1
            have hS3 : Chg (fun _ => False) w3 w6 := Chg.trans hS2 e6 (fun x hx hl => absurd hl (by have := (fun _k _h => by simp [Value.ownBlock] at _h; omega) x hx; omega))
            refine ⟨.inr fun _ => hS3, ?_⟩
            refine xd_one 7 (some 23) rfl rfl (by kernel_rfl) rfl (ox_mkSlice (ps := [(0, (.int .u8 165))]) (zs := #[(.int .u8 0)]) (cs := #[(.int .u8 165)]) tE_57 rfl (by decide) (by kernel_rfl) (by kernel_rfl) ?_)
            intro w7 e8 z7 b6
            replace b6 : Blk w7 w6.heap.size #[(.int .u8 165)] 5 := b6
            have hS4 : Chg (fun _ => False) w3 w7 := Chg.ext hS3 e8
            refine ⟨.inr fun _ => hS4, ?_⟩
            refine xd_one 8 (some 24) rfl rfl (by kernel_rfl) rfl (ox_append (n := (0 + x.e.n)) (g := w6.heap.size) (o := 0) (m := 1) (xs := ((byC x.bs))) (news := ([(.int .u8 165)])) rfl tE_57 rfl (by decide) (v := (.slice A1 (0 + x.e.n) c1)) rfl rfl (o1.ext e8) rfl b6.all rfl (by omega) (by omega) ?_)
            have nt1' : ∀ _k, ((.slice A1 (0 + x.e.n) c1) : Value).ownBlock = some _k → _k ≠ w6.heap.size := (fun _k _h => by have _q := (o1.lt) _k _h; omega)
            intro v2 w8 o2 e9 at2 nil2
            have he9 := e9.size
            obtain ⟨A2, c2, rfl, hc2⟩ := o2.shape
            have low2 : ∀ _k, (Value.slice A2 (0 + x.e.n + 1) c2).ownBlock = some _k → w4.heap.size ≤ _k := fun _k _h => by rcases at2 with _e | _e <;> rw [_e] at _h; exact low1 _k _h; exact (by cases _h; omega)
            have nt1 : ∀ _k, (Value.slice A2 (0 + x.e.n + 1) c2).ownBlock = some _k → _k ≠ w6.heap.size := fun _k _h => own_not at2 nt1' (b6).lt _k (ownBlock_len _h)
            have hS5 : Chg (fun _ => False) w3 w8 := Chg.trans hS4 e9 (fun x hx hl => absurd hl (by have := low1 x hx; omega))
            refine ⟨.inr fun _ => hS5, ?_⟩
            refine xd_pure 15 (some 31) rfl rfl (by kernel_rfl) (v := (.slice A2 x.e.n c2)) (.inl ⟨rfl, fun W_ hW_ => ox_sliceToN (A := A2) (cp := c2) (i := (((x.e.n : Nat) : Int))) x.e.n tE_57 rfl rfl (by omega) (by omega) (by omega) ⟨rfl, rfl⟩⟩) ?_
            refine xd_pure 16 (some 32) rfl rfl (by kernel_rfl) (v := (.pointer (some ⟨w1.heap.size, 2, none⟩))) (.inl ⟨rfl, fun W_ hW_ => ox_fieldAddr (b := w1.heap.size) (o := 0) tF_59_2 rfl ⟨rfl, rfl⟩⟩) ?_
            have q1 := (((b2.ext e3).ext e4).keep e6 (fun _h => (Vx.Own.lit (n := 0) (sz := 1) b3 rfl (by decide)).ne_blk ((b2.ext e3).ext e4) (by decide) _ _h rfl))
            have q2 := ((q1.ext e8).keep e9 (fun _h => (o1.ext e8).ne_blk (q1.ext e8) (by decide) _ _h rfl))
            refine xd_one 17 none rfl rfl (by kernel_rfl) rfl (ox_store (n := 1) (vs := [(.slice A2 x.e.n c2)]) tS_57 rfl (v := (.slice A2 x.e.n c2)) rfl rfl rfl rfl q2 (Nat.le_of_ble_eq_true rfl) ?_)
            intro w9 e10 z8 b7
            replace b7 : Blk w9 w1.heap.size #[(.int .i64 x.e.pl), (.int .i64 x.e.del), (.slice A2 x.e.n c2)] 59 := b7
            refine ⟨.inl (by decide), ?_⟩
            refine xd_done (by kernel_rfl) ?_ _
            have q3 := (o2.keep1 e10 (fun k hk => o2.ne_blk q2 (by decide) k hk))
            have hO := q3
            have hB := b7
            obtain ⟨g9, c9, heq, hc9⟩ := hO.some_of (by omega)
            simp only [Value.slice.injEq, true_and] at heq
            obtain ⟨rfl, rfl⟩ := heq
            have hg9 := low2 g9 rfl
            exact ⟨rfl, g9, _, g0_f1, g3_f1, g4_f1, rfl, hB, (by omega), (by omega), (by simpa [byC, Nat.add_comm] using hO), (Chg.chg1 (Chg.trans (Chg.ext (Chg.trans (Chg.ext (Chg.ext (Chg.refl (fun b => b = w1.heap.size) w3) e3) e4) e6 (fun b hb hl => absurd hl (by have := (fun _k _h => by simp [Value.ownBlock] at _h; omega) b hb; omega))) e8) e9 (fun b hb hl => absurd hl (by have := low1 b hb; omega))) e10 (by first | (left; rfl) | (right; omega)))⟩
          · skip
            intro w10 e7 z6 b5
            replace b5 : Blk w10 w5.heap.size #[(.int .u8 165)] 5 := b5
            have hS6 : Chg (fun _ => False) w3 w10 := Chg.ext hS2 e7
            refine ⟨.inr fun _ => hS6, ?_⟩
            have q4 := ((Vx.Own.lit (n := 0) (sz := 1) b3 rfl (by decide)).ext e7)
            refine xd_one 6 (some 22) rfl rfl (by kernel_rfl) rfl (ox_appendR (n := 0) (m := x.e.n) (xs := ([])) (news := ((byC x.bs))) rfl tE_57 rfl (by decide) (v := (.slice (some ⟨w4.heap.size, 0, none⟩) 0 0)) rfl rfl q4 (by rw [byC_len, hrx.1, Nat.mul_one]) (RowA.ext hrx.2 (Ext.trans (Ext.trans (Ext.trans (Ext.chg1 (Ext.trans e_f1 e1) e2 (by omega)) e3) e4) e7)) (byC_one _) (by omega) (by omega) ?_)
            have nt2' : ∀ _k, ((.slice (some ⟨w4.heap.size, 0, none⟩) 0 0) : Value).ownBlock = some _k → _k ≠ w5.heap.size := (fun _k _h => by have _q := ((Vx.Own.lit (n := 0) (sz := 1) b3 rfl (by decide)).lt) _k _h; omega)
            intro v3 w11 o3 e11 at3 nil3
            have he11 := e11.size
            obtain ⟨A3, c3, rfl, hc3⟩ := o3.shape
            have low3 : ∀ _k, (Value.slice A3 (0 + x.e.n) c3).ownBlock = some _k → w4.heap.size ≤ _k := fun _k _h => by rcases at3 with _e | _e <;> rw [_e] at _h; exact (fun _k _h => by simp [Value.ownBlock] at _h; omega) _k _h; exact (by cases _h; omega)
            replace o3 : Vx.Own w11 5 1 (.slice A3 (0 + x.e.n) c3) (0 + x.e.n) ((byC x.bs)) := by simpa using o3
            have nt2 : ∀ _k, (Value.slice A3 (0 + x.e.n) c3).ownBlock = some _k → _k ≠ w5.heap.size := fun _k _h => own_not at3 nt2' (b5).lt _k (ownBlock_len _h)
            have hS7 : Chg (fun _ => False) w3 w11 := Chg.trans hS6 e11 (fun x hx hl => absurd hl (by have := (fun _k _h => by simp [Value.ownBlock] at _h; omega) x hx; omega))
            refine ⟨.inr fun _ => hS7, ?_⟩
            refine xd_one 8 (some 24) rfl rfl (by kernel_rfl) rfl (ox_append (n := (0 + x.e.n)) (g := w5.heap.size) (o := 0) (m := 1) (xs := ((byC x.bs))) (news := ([(.int .u8 165)])) rfl tE_57 rfl (by decide) (v := (.slice A3 (0 + x.e.n) c3)) rfl rfl o3 rfl (b5.keep e11 (fun _h => nt2' _ _h rfl)).all rfl (by omega) (by omega) ?_)
            have nt3' : ∀ _k, ((.slice A3 (0 + x.e.n) c3) : Value).ownBlock = some _k → _k ≠ w5.heap.size := nt2
            intro v4 w12 o4 e12 at4 nil4
            have he12 := e12.size
            obtain ⟨A4, c4, rfl, hc4⟩ := o4.shape
            have low4 : ∀ _k, (Value.slice A4 (0 + x.e.n + 1) c4).ownBlock = some _k → w4.heap.size ≤ _k := fun _k _h => by rcases at4 with _e | _e <;> rw [_e] at _h; exact low3 _k _h; exact (by cases _h; omega)
            have nt3 : ∀ _k, (Value.slice A4 (0 + x.e.n + 1) c4).ownBlock = some _k → _k ≠ w5.heap.size := fun _k _h => own_not at4 nt3' ((b5.keep e11 (fun _h => nt2' _ _h rfl))).lt _k (ownBlock_len _h)
            have hS8 : Chg (fun _ => False) w3 w12 := Chg.trans hS7 e12 (fun x hx hl => absurd hl (by have := low3 x hx; omega))
            refine ⟨.inr fun _ => hS8, ?_⟩
            refine xd_pure 15 (some 31) rfl rfl (by kernel_rfl) (v := (.slice A4 x.e.n c4)) (.inl ⟨rfl, fun W_ hW_ => ox_sliceToN (A := A4) (cp := c4) (i := (((x.e.n : Nat) : Int))) x.e.n tE_57 rfl rfl (by omega) (by omega) (by omega) ⟨rfl, rfl⟩⟩) ?_
            refine xd_pure 16 (some 32) rfl rfl (by kernel_rfl) (v := (.pointer (some ⟨w1.heap.size, 2, none⟩))) (.inl ⟨rfl, fun W_ hW_ => ox_fieldAddr (b := w1.heap.size) (o := 0) tF_59_2 rfl ⟨rfl, rfl⟩⟩) ?_
            have q5 := ((((b2.ext e3).ext e4).ext e7).keep e11 (fun _h => q4.ne_blk (((b2.ext e3).ext e4).ext e7) (by decide) _ _h rfl))
            have q6 := (q5.keep e12 (fun _h => o3.ne_blk q5 (by decide) _ _h rfl))
            refine xd_one 17 none rfl rfl (by kernel_rfl) rfl (ox_store (n := 1) (vs := [(.slice A4 x.e.n c4)]) tS_57 rfl (v := (.slice A4 x.e.n c4)) rfl rfl rfl rfl q6 (Nat.le_of_ble_eq_true rfl) ?_)
            intro w13 e13 z9 b8
            replace b8 : Blk w13 w1.heap.size #[(.int .i64 x.e.pl), (.int .i64 x.e.del), (.slice A4 x.e.n c4)] 59 := b8
            refine ⟨.inl (by decide), ?_⟩
            refine xd_done (by kernel_rfl) ?_ _
            have q7 := (o4.keep1 e13 (fun k hk => o4.ne_blk q6 (by decide) k hk))
            have hO := q7
            have hB := b8
            obtain ⟨g9, c9, heq, hc9⟩ := hO.some_of (by omega)
            simp only [Value.slice.injEq, true_and] at heq
            obtain ⟨rfl, rfl⟩ := heq
            have hg9 := low4 g9 rfl
            exact ⟨rfl, g9, _, g0_f1, g3_f1, g4_f1, rfl, hB, (by omega), (by omega), (by simpa [byC, Nat.add_comm] using hO), (Chg.chg1 (Chg.trans (Chg.trans (Chg.ext (Chg.ext (Chg.ext (Chg.refl (fun b => b = w1.heap.size) w3) e3) e4) e7) e11 (fun b hb hl => absurd hl (by have := (fun _k _h => by simp [Value.ownBlock] at _h; omega) b hb; omega))) e12 (fun b hb hl => absurd hl (by have := low3 b hb; omega))) e13 (by first | (left; rfl) | (right; omega)))⟩
        · skip
          intro w14 e5 z5 b4
          replace b4 : Blk w14 w4.heap.size #[(.int .u8 165)] 5 := b4
          have hS9 : Chg (fun _ => False) w3 w14 := Chg.ext hS1 e5
          refine ⟨.inr fun _ => hS9, ?_⟩
          refine xd_one 0 (some 16) rfl rfl (by kernel_rfl) rfl (ox_mkSlice (ps := []) (zs := #[]) (cs := #[]) tE_57 rfl (by decide) (by kernel_rfl) (by kernel_rfl) ?_)
          intro w15 e14 z10 b9
          replace b9 : Blk w15 w14.heap.size #[] 5 := b9
          have hS10 : Chg (fun _ => False) w3 w15 := Chg.ext hS9 e14
          refine ⟨.inr fun _ => hS10, ?_⟩
          refine xd_one 6 (some 22) rfl rfl (by kernel_rfl) rfl (ox_appendR (n := 0) (m := x.e.n) (xs := ([])) (news := ((byC x.bs))) rfl tE_57 rfl (by decide) (v := (.slice (some ⟨w14.heap.size, 0, none⟩) 0 0)) rfl rfl (Vx.Own.lit (n := 0) (sz := 1) b9 rfl (by decide)) (by rw [byC_len, hrx.1, Nat.mul_one]) (RowA.ext hrx.2 (Ext.trans (Ext.trans (Ext.trans (Ext.chg1 (Ext.trans e_f1 e1) e2 (by omega)) e3) e5) e14)) (byC_one _) (by omega) (by omega) ?_)
          have nt4' : ∀ _k, ((.slice (some ⟨w14.heap.size, 0, none⟩) 0 0) : Value).ownBlock = some _k → _k ≠ w4.heap.size := (fun _k _h => by simp [Value.ownBlock] at _h; omega)
          intro v5 w16 o5 e15 at5 nil5
          have he15 := e15.size
          obtain ⟨A5, c5, rfl, hc5⟩ := o5.shape
          have low5 : ∀ _k, (Value.slice A5 (0 + x.e.n) c5).ownBlock = some _k → w14.heap.size ≤ _k := fun _k _h => by rcases at5 with _e | _e <;> rw [_e] at _h; exact (fun _k _h => by simp [Value.ownBlock] at _h; omega) _k _h; exact (by cases _h; omega)
          replace o5 : Vx.Own w16 5 1 (.slice A5 (0 + x.e.n) c5) (0 + x.e.n) ((byC x.bs)) := by simpa using o5
          have nt4 : ∀ _k, (Value.slice A5 (0 + x.e.n) c5).ownBlock = some _k → _k ≠ w4.heap.size := fun _k _h => own_not at5 nt4' ((b4.ext e14)).lt _k (ownBlock_len _h)
          have hS11 : Chg (fun _ => False) w3 w16 := Chg.trans hS10 e15 (fun x hx hl => absurd hl (by have := (fun _k _h => by simp [Value.ownBlock] at _h; omega) x hx; omega))
          refine ⟨.inr fun _ => hS11, ?_⟩
          have q8 := ((b4.ext e14).keep e15 (fun _h => nt4' _ _h rfl))
          refine xd_one 8 (some 24) rfl rfl (by kernel_rfl) rfl (ox_append (n := (0 + x.e.n)) (g := w4.heap.size) (o := 0) (m := 1) (xs := ((byC x.bs))) (news := ([(.int .u8 165)])) rfl tE_57 rfl (by decide) (v := (.slice A5 (0 + x.e.n) c5)) rfl rfl o5 rfl q8.all rfl (by omega) (by omega) ?_)
          have nt5' : ∀ _k, ((.slice A5 (0 + x.e.n) c5) : Value).ownBlock = some _k → _k ≠ w4.heap.size := nt4
          intro v6 w17 o6 e16 at6 nil6
          have he16 := e16.size
          obtain ⟨A6, c6, rfl, hc6⟩ := o6.shape
          have low6 : ∀ _k, (Value.slice A6 (0 + x.e.n + 1) c6).ownBlock = some _k → w14.heap.size ≤ _k := fun _k _h => by rcases at6 with _e | _e <;> rw [_e] at _h; exact low5 _k _h; exact (by cases _h; omega)
          have nt5 : ∀ _k, (Value.slice A6 (0 + x.e.n + 1) c6).ownBlock = some _k → _k ≠ w4.heap.size := fun _k _h => own_not at6 nt5' (q8).lt _k (ownBlock_len _h)
          have hS12 : Chg (fun _ => False) w3 w17 := Chg.trans hS11 e16 (fun x hx hl => absurd hl (by have := low5 x hx; omega))
          refine ⟨.inr fun _ => hS12, ?_⟩
          refine xd_pure 15 (some 31) rfl rfl (by kernel_rfl) (v := (.slice A6 x.e.n c6)) (.inl ⟨rfl, fun W_ hW_ => ox_sliceToN (A := A6) (cp := c6) (i := (((x.e.n : Nat) : Int))) x.e.n tE_57 rfl rfl (by omega) (by omega) (by omega) ⟨rfl, rfl⟩⟩) ?_
          refine xd_pure 16 (some 32) rfl rfl (by kernel_rfl) (v := (.pointer (some ⟨w1.heap.size, 2, none⟩))) (.inl ⟨rfl, fun W_ hW_ => ox_fieldAddr (b := w1.heap.size) (o := 0) tF_59_2 rfl ⟨rfl, rfl⟩⟩) ?_
          have q9 := ((((b2.ext e3).ext e5).ext e14).keep e15 (fun _h => (Vx.Own.lit (n := 0) (sz := 1) b9 rfl (by decide)).ne_blk (((b2.ext e3).ext e5).ext e14) (by decide) _ _h rfl))
          have q10 := (q9.keep e16 (fun _h => o5.ne_blk q9 (by decide) _ _h rfl))
          refine xd_one 17 none rfl rfl (by kernel_rfl) rfl (ox_store (n := 1) (vs := [(.slice A6 x.e.n c6)]) tS_57 rfl (v := (.slice A6 x.e.n c6)) rfl rfl rfl rfl q10 (Nat.le_of_ble_eq_true rfl) ?_)
          intro w18 e17 z11 b10
          replace b10 : Blk w18 w1.heap.size #[(.int .i64 x.e.pl), (.int .i64 x.e.del), (.slice A6 x.e.n c6)] 59 := b10
          refine ⟨.inl (by decide), ?_⟩
          refine xd_done (by kernel_rfl) ?_ _
          have q11 := (o6.keep1 e17 (fun k hk => o6.ne_blk q10 (by decide) k hk))
          have hO := q11
          have hB := b10
          obtain ⟨g9, c9, heq, hc9⟩ := hO.some_of (by omega)
          simp only [Value.slice.injEq, true_and] at heq
          obtain ⟨rfl, rfl⟩ := heq
          have hg9 := low6 g9 rfl
          exact ⟨rfl, g9, _, g0_f1, g3_f1, g4_f1, rfl, hB, (by omega), (by omega), (by simpa [byC, Nat.add_comm] using hO), (Chg.chg1 (Chg.trans (Chg.trans (Chg.ext (Chg.ext (Chg.ext (Chg.refl (fun b => b = w1.heap.size) w3) e3) e5) e14) e15 (fun b hb hl => absurd hl (by have := (fun _k _h => by simp [Value.ownBlock] at _h; omega) b hb; omega))) e16 (fun b hb hl => absurd hl (by have := low5 b hb; omega))) e17 (by first | (left; rfl) | (right; omega)))⟩
      rintro f2 w19 ⟨g9, c9, g0_f2, g3_f2, g4_f2, g5_f2, hB9, hg9, hc9, hO9, e18⟩
      have hze18 := e18.size
      replace e18 : Chg1 w1.heap.size w3 w19 := e18
      have hlw9 : w.heap.size ≤ g9 := by omega
      have hc1 : Cpy w.heap.size w19 x ⟨x.e.pl, x.e.del, some ⟨g9, 0, none⟩, x.e.n, c9⟩ := ⟨rfl, rfl, rfl, g9, rfl, hlw9, hc9, hO9⟩
      refine xc_region ?_
      refine xl_op (P := Try.prog) (some 33) rfl rfl (ox_move (v := (.slice Ao j co)) g3_f2 ?_)
      refine xl_op (P := Try.prog) (some 34) rfl rfl (ox_loadN (vs := [(.int .i64 x.e.pl), (.int .i64 x.e.del), (.slice (some ⟨g9, 0, none⟩) x.e.n c9)]) tA_59 tS_59 g5_f2 rfl ⟨hB9.cell rfl, hB9.cell rfl, hB9.cell rfl, trivial⟩ ?_)
      refine xl_op (P := Try.prog) (some 35) rfl rfl (ox_mkSlice (ps := [(0, (.agg #[(.int .i64 x.e.pl), (.int .i64 x.e.del), (.slice (some ⟨g9, 0, none⟩) x.e.n c9)]))]) (zs := #[(.int .i64 0), (.int .i64 0), (.slice none 0 0)]) (cs := #[(.int .i64 x.e.pl), (.int .i64 x.e.del), (.slice (some ⟨g9, 0, none⟩) x.e.n c9)]) tE_43 rfl (by decide) (by kernel_rfl) (by kernel_rfl) ?_)
      intro w20 e19 z12 b11
      replace b11 : Blk w20 w19.heap.size #[(.int .i64 x.e.pl), (.int .i64 x.e.del), (.slice (some ⟨g9, 0, none⟩) x.e.n c9)] 59 := b11
      have q12 := ((o_f1.ext e1).keep1 e2 (fun k hk => by have _q := (o_f1.lt) k hk; omega))
      have q13 := (q12.keep1 e18 (fun k hk => by have _q := (o_f1.lt) k hk; omega))
      refine xl_op (P := Try.prog) (some 36) rfl rfl (ox_append (n := j) (g := w19.heap.size) (o := 0) (m := 1) (xs := ((edC ys))) (news := ([(.int .i64 x.e.pl), (.int .i64 x.e.del), (.slice (some ⟨g9, 0, none⟩) x.e.n c9)])) rfl tE_43 rfl (by decide) (v := (.slice Ao j co)) rfl rfl (q13.ext e19) rfl b11.all rfl (by omega) (by omega) ?_)
      have nt6' : ∀ _k, ((.slice Ao j co) : Value).ownBlock = some _k → _k ≠ w1.heap.size := (fun _k _h => by have _q := (o_f1.lt) _k _h; omega)
      have nt7' : ∀ _k, ((.slice Ao j co) : Value).ownBlock = some _k → _k ≠ w19.heap.size := (fun _k _h => by have _q := (q13.lt) _k _h; omega)
      intro v7 w21 o7 e20 at7 nil7
      have he20 := e20.size
      obtain ⟨A7, c7, rfl, hc7⟩ := o7.shape
      have low7 : ∀ _k, (Value.slice A7 (j + 1) c7).ownBlock = some _k → w.heap.size ≤ _k := fun _k _h => by rcases at7 with _e | _e <;> rw [_e] at _h; exact lo_f1 _k _h; exact (by cases _h; omega)
      have nt6 : ∀ _k, (Value.slice A7 (j + 1) c7).ownBlock = some _k → _k ≠ w1.heap.size := fun _k _h => own_not at7 nt6' ((hB9.ext e19)).lt _k (ownBlock_len _h)
      have nt7 : ∀ _k, (Value.slice A7 (j + 1) c7).ownBlock = some _k → _k ≠ w19.heap.size := fun _k _h => own_not at7 nt7' (b11).lt _k (ownBlock_len _h)
      refine xl_op (P := Try.prog) (some 3) rfl rfl (ox_assign (v := (.slice A7 (j + 1) c7)) rfl ?_)
      refine xl_nil ?_
      refine xc_region ?_
      refine xl_op (P := Try.prog) (some 10) rfl rfl (ox_move (v := (.int .i64 ((j : Nat)))) g4_f2 ?_)
      refine xl_op (P := Try.prog) (some 11) rfl rfl (ox_add64 (a := ((j : Nat))) (b := 1) rfl rfl (by omega) ?_)
      refine xl_op (P := Try.prog) (some 4) rfl rfl (ox_assign (v := (.int .i64 ((j : Nat) + 1))) rfl ?_)
      refine xl_nil ?_
      have ho9 := o7
      have q14 := ((cp_f1.ext e1).keep e2 (fun _g _cur _hb _hl _hh => Blk.ne _hb b1 (by decide) _hh))
      have q15 := (q14.keep e18 (fun _g _cur _hb _hl _hh => Blk.ne _hb b2 (by decide) _hh))
      have q16 := ((q15.ext e19).keep e20 (fun _g _cur _hb _hl _hh => ((q13.ext e19)).ne_blk _hb (by decide) _ _hh rfl))
      have hcp9 := q16
      have q17 := ((hc1.ext e19).keep e20 (fun _g _cur _hb _hl _hh => ((q13.ext e19)).ne_blk _hb (by decide) _ _hh rfl))
      have hc19 := q17
      have hsz0 := e1.size
      have hsz1 := e2.size
      have hsz2 := e18.size
      have hsz3 := e19.size
      have hsz4 := e20.size
      have htk : l.take (j + 1) = l.take j ++ [x] := take_succ' hx
      have hyl : ys.length = j := by have := hcp9.1; rw [List.length_take] at this; omega
      exact ⟨rfl, l.length - (j + 1), by omega, j + 1, (ys ++ [⟨x.e.pl, x.e.del, some ⟨g9, 0, none⟩, x.e.n, c9⟩]), A7, c7, by omega, by omega, g0_f2, rfl, (by first | exact rfl | exact (congrArg (Value.int .i64) (by omega))), (by rw [edC, List.flatMap_append]; simpa [Ed.cs, edC] using ho9), (fun k hk => low7 k (ownBlock_len hk)), (by rw [htk]; exact hcp9.snoc hc19), (Chg.trans (Ext.trans (Ext.chg1 (Ext.chg1 (Ext.trans e_f1 e1) e2 (by omega)) e18 (by omega)) e19) e20 (fun b hb hl => absurd hl (by have := lo_f1 b hb; omega)))⟩
    · skip
      refine xc_exit ?_
      refine xc_seq ?_
      refine xc_region ?_
      refine xl_op (P := Try.prog) (some 37) rfl rfl (ox_move (v := (.slice Ao j co)) g3_f1 ?_)
      refine xl_op (P := Try.prog) (some 38) rfl rfl (ox_mkStruct (ps := [(0, (.int .i64 77))]) (cs := #[(.int .i64 77), (.int .i64 0), (.slice none 0 0)]) tZ_59 tP_59 rfl (by kernel_rfl) ?_)
      refine xl_op (P := Try.prog) (some 39) rfl rfl (ox_mkSlice (ps := [(0, (.agg #[(.int .i64 77), (.int .i64 0), (.slice none 0 0)]))]) (zs := #[(.int .i64 0), (.int .i64 0), (.slice none 0 0)]) (cs := #[(.int .i64 77), (.int .i64 0), (.slice none 0 0)]) tE_43 rfl (by decide) (by kernel_rfl) (by kernel_rfl) ?_)
      intro w22 e21 z13 b12
      replace b12 : Blk w22 w1.heap.size #[(.int .i64 77), (.int .i64 0), (.slice none 0 0)] 59 := b12
      refine xl_op (P := Try.prog) (some 40) rfl rfl (ox_append (n := j) (g := w1.heap.size) (o := 0) (m := 1) (xs := ((edC ys))) (news := ([(.int .i64 77), (.int .i64 0), (.slice none 0 0)])) rfl tE_43 rfl (by decide) (v := (.slice Ao j co)) rfl rfl (o_f1.ext e21) rfl b12.all rfl (by omega) (by omega) ?_)
      have nt8' : ∀ _k, ((.slice Ao j co) : Value).ownBlock = some _k → _k ≠ w1.heap.size := (fun _k _h => by have _q := (o_f1.lt) _k _h; omega)
      intro v8 w23 o8 e22 at8 nil8
      have he22 := e22.size
      obtain ⟨A8, c8, rfl, hc8⟩ := o8.shape
      have low8 : ∀ _k, (Value.slice A8 (j + 1) c8).ownBlock = some _k → w.heap.size ≤ _k := fun _k _h => by rcases at8 with _e | _e <;> rw [_e] at _h; exact lo_f1 _k _h; exact (by cases _h; omega)
      have nt8 : ∀ _k, (Value.slice A8 (j + 1) c8).ownBlock = some _k → _k ≠ w1.heap.size := fun _k _h => own_not at8 nt8' (b12).lt _k (ownBlock_len _h)
      refine xl_op (P := Try.prog) (some 41) rfl rfl (ox_move (v := (.slice A l.length c)) g0_f1 ?_)
      refine xl_op (P := Try.prog) (some 42) rfl rfl (ox_len (A := A) (n := l.length) (cp := c) rfl tU_43 rfl ?_)
      refine xl_op (P := Try.prog) (some 43) rfl rfl (ox_sliceToN (A := A8) (cp := c8) (i := (((l.length : Nat) : Int))) l.length tE_43 rfl rfl (by omega) (by omega) (by omega) ?_)
      refine xl_op (P := Try.prog) (some 2) rfl rfl (ox_assign (v := (.slice A8 l.length c8)) rfl ?_)
      refine xl_nil ?_
      refine xc_ret ?_
      change leaves _ _ _ _ _ _ _
      refine leaves_nil (n := 44) (rs := [.tmp 2]) (vs := [(.slice A8 l.length c8)]) rfl ⟨⟨by decide, rfl⟩, trivial⟩ ?_
      have hjl : j = l.length := by omega
      subst hjl
      have hO := o8
      have q18 := ((cp_f1.ext e21).keep e22 (fun _g _cur _hb _hl _hh => ((o_f1.ext e21)).ne_blk _hb (by decide) _ _hh rfl))
      have hcp9 := q18
      rw [List.take_length] at hcp9
      have hsz0 := e21.size
      have hsz1 := e22.size
      have hyl : ys.length = l.length := hcp9.1.symm
      have hlow := low8
      have hE9 := (Chg.trans (Ext.trans e_f1 e21) e22 (fun b hb hl => absurd hl (by have := lo_f1 b hb; omega)))
      obtain ⟨g9, c9, heq, hc9⟩ := hO.some_of (by omega)
      simp only [Value.slice.injEq, true_and] at heq
      obtain ⟨rfl, rfl⟩ := heq
      exact ⟨g9, _, ys, rfl, (by omega), (by simpa [edC, Ed.cs] using hO), hlow g9 rfl, hcp9, hE9⟩

end Go.Proofs.Ythhbnodnpajljaa
