/-
  The document's leaves, once, hunks. No conditions.
-/
import Derived.Test.YthhbnodnpajljaaVxi
import Derived.Test.YthhbnodnpajljaaRows
import Derived.Test.YthhbnodnpajljaaRfa
import Derived.Test.YthhbnodnpajljaaDeb
set_option linter.unusedVariables false
set_option linter.unusedSimpArgs false
set_option maxRecDepth 100000
set_option maxHeartbeats 4000000
namespace Go.Proofs.Ythhbnodnpajljaa
open Go Go.RowKit Go.Vx

def RLp (t : T) (w : World) (v : Value) (w' : World) : Prop := ∃ A c, v = .slice A (rl t).length c ∧ Vx.Own w' 38 1 (.slice A (rl t).length c) (rl t).length ((rl t).map T.ptr) ∧ (∀ k, (Value.slice A (rl t).length c).ownBlock = some k → w.heap.size ≤ k) ∧ Ext w w'
theorem pf_47 : plainF Try.prog 47 = true := by kernel_rfl
theorem pf_48 : plainF Try.prog 48 = true := by kernel_rfl
theorem tA_29 : isAggT Try.prog 29 = some false := by kernel_rfl
theorem tA_38 : isAggT Try.prog 38 = some false := by kernel_rfl
theorem tE_29 : sliceT Try.prog 29 = some (38, 1, 8, (.pointer none)) := by kernel_rfl
theorem tE_34 : sliceT Try.prog 34 = some (40, 4, 32, (.agg #[(.int .i64 0), (.int .i64 0), (.int .i64 0), (.int .i64 0)])) := by kernel_rfl
theorem tF_86_0 : fieldT Try.prog 86 0 = some 0 := by kernel_rfl
theorem tF_86_1 : fieldT Try.prog 86 1 = some 1 := by kernel_rfl
theorem tF_86_5 : fieldT Try.prog 86 5 = some 8 := by kernel_rfl
theorem tP_40 : placesT Try.prog 40 = some #[(0, 1), (1, 1), (2, 1), (3, 1)] := by kernel_rfl
theorem tU_29 : Try.prog.underlying 29 = some (.slice 38) := by kernel_rfl
theorem tZ_40 : zeroOf Try.prog 40 = some (.agg #[(.int .i64 0), (.int .i64 0), (.int .i64 0), (.int .i64 0)]) := by kernel_rfl

theorem refLeaves_step (t : T) (w : World) (hP : PR w t) (hs : sz t ≤ 4194304) (ih : ∀ u ∈ t.kids, ∀ W, PR W u → sz u ≤ 4194304 → Calls Try.prog 47 #[.pointer (some ⟨u.b, 0, none⟩)] W (Ret (RLp u W))) :
    Calls Try.prog 47 #[(.pointer (some ⟨t.b, 0, none⟩))] w (Ret (RLp t w)) := by
  refine calls_xc (n := 34) (f := fun s_ => [(.pointer (some ⟨t.b, 0, none⟩))].getD s_ undef) Try.func47 rfl rfl (by simp) (fun s_ => by simp) ?_
  refine xc_seq ?_
  refine xc_region ?_
  refine xl_op (P := Try.prog) (some 2) rfl rfl (ox_assign (v := (.slice none 0 0)) rfl ?_)
  refine xl_nil ?_
  refine xc_seq ?_
  refine xc_seq ?_
  refine xc_region ?_
  refine xl_op (P := Try.prog) (some 6) rfl rfl (ox_move (v := (.pointer (some ⟨t.b, 0, none⟩))) rfl ?_)
  refine xl_op (P := Try.prog) (some 7) rfl rfl (ox_nilCheck (p := ⟨t.b, 0, none⟩) rfl ?_)
  refine xl_op (P := Try.prog) (some 8) rfl rfl (ox_fieldAddr (b := t.b) (o := 0) tF_86_1 rfl ?_)
  refine xl_op (P := Try.prog) (some 9) rfl rfl (ox_load (v := (.int .i64 t.kind)) tA_3 rfl (hP.blk.cell rfl) ?_)
  refine xl_op (P := Try.prog) (some 10) rfl rfl (ox_eql (k := .i64) (a := t.kind) (b := 1) rfl rfl ?_)
  refine xl_nil ?_
  refine xc_if (p := (t.kind : Int) = 1) rfl (fun h1 => ?_) (fun h1 => ?_)
  · skip
    refine xc_seq ?_
    refine xc_region ?_
    refine xl_op (P := Try.prog) (some 11) rfl rfl (ox_move (v := (.pointer (some ⟨t.b, 0, none⟩))) rfl ?_)
    refine xl_op (P := Try.prog) (some 12) rfl rfl (ox_mkSlice (ps := [(0, (.pointer (some ⟨t.b, 0, none⟩)))]) (zs := #[(.pointer none)]) (cs := #[(.pointer (some ⟨t.b, 0, none⟩))]) tE_29 rfl (by decide) (by kernel_rfl) (by kernel_rfl) ?_)
    intro w1 e1 z1 b1
    replace b1 : Blk w1 w.heap.size #[(.pointer (some ⟨t.b, 0, none⟩))] 38 := b1
    refine xl_op (P := Try.prog) (some 2) rfl rfl (ox_assign (v := (.slice (some ⟨w.heap.size, 0, none⟩) 1 1)) rfl ?_)
    refine xl_nil ?_
    refine xc_ret ?_
    change leaves _ _ _ _ _ _ _
    refine leaves_nil (n := 34) (rs := [.tmp 2]) (vs := [(.slice (some ⟨w.heap.size, 0, none⟩) 1 1)]) rfl ⟨⟨by decide, rfl⟩, trivial⟩ ?_
    exact ⟨some ⟨w.heap.size, 0, none⟩, 1, by rw [rl_leaf h1]; rfl, by rw [rl_leaf h1]; exact Vx.Own.lit (n := 1) (sz := 1) b1 rfl (by decide), fun k hk => by simp [Value.ownBlock] at hk; omega, e1⟩
  · skip
    have hkd : t.kind ≠ 1 := h1
    refine xc_skip ?_
    refine xc_seq ?_
    refine xc_region ?_
    refine xl_op (P := Try.prog) (some 3) rfl rfl (ox_assign (v := (.slice none 0 0)) rfl ?_)
    refine xl_nil ?_
    refine xc_seq ?_
    refine xc_seq ?_
    refine xc_region ?_
    refine xl_op (P := Try.prog) (some 4) rfl rfl (ox_assign (v := (.int .i64 0)) rfl ?_)
    refine xl_nil ?_
    refine xc_block ?_
    refine xc_loopN (fun m f W => ∃ (i : Nat) (Ao : Option Addr) (co : Nat), m = t.kids.length - i ∧ i ≤ t.kids.length ∧ f 0 = (.pointer (some ⟨t.b, 0, none⟩)) ∧ f 3 = (.slice Ao ((rlL (t.kids.take i)).length) co) ∧ f 4 = (.int .i64 ((i : Nat))) ∧ Vx.Own W 38 1 (.slice Ao ((rlL (t.kids.take i)).length) co) (rlL (t.kids.take i)).length ((rlL (t.kids.take i)).map T.ptr) ∧ (∀ k, ((.slice Ao ((rlL (t.kids.take i)).length) co) : Value).ownBlock = some k → w.heap.size ≤ k) ∧ Ext w W) (t.kids.length) ?_ ?_
    · exact ⟨0, none, 0, by omega, by omega, rfl, rfl, (by first | exact rfl | exact (congrArg (Value.int .i64) (by omega))), (by simpa [rlL] using Vx.Own.nil _ _ _), (by simp [Value.ownBlock]), (Chg.refl _ _)⟩
    · rintro m f1 w2 ⟨i, Ao, co, hm, hi, g0_f1, g3_f1, g4_f1, o_f1, lo_f1, e_f1⟩
      have hzE := e_f1.size
      refine xc_seq ?_
      refine xc_seq ?_
      refine xc_region ?_
      refine xl_op (P := Try.prog) (some 13) rfl rfl (ox_move (v := (.int .i64 ((i : Nat)))) g4_f1 ?_)
      refine xl_op (P := Try.prog) (some 14) rfl rfl (ox_move (v := (.pointer (some ⟨t.b, 0, none⟩))) g0_f1 ?_)
      refine xl_op (P := Try.prog) (some 15) rfl rfl (ox_nilCheck (p := ⟨t.b, 0, none⟩) rfl ?_)
      refine xl_op (P := Try.prog) (some 16) rfl rfl (ox_fieldAddr (b := t.b) (o := 0) tF_86_5 rfl ?_)
      refine xl_op (P := Try.prog) (some 17) rfl rfl (ox_load (v := (.slice ((t.ka.map fun k => ⟨k, 0, none⟩)) t.kids.length t.kc)) tA_29 rfl ((hP.blk.ext e_f1).cell rfl) ?_)
      refine xl_op (P := Try.prog) (some 18) rfl rfl (ox_len (A := ((t.ka.map fun k => ⟨k, 0, none⟩))) (n := t.kids.length) (cp := t.kc) rfl tU_29 rfl ?_)
      refine xl_op (P := Try.prog) (some 19) rfl rfl (ox_lss (k := .i64) (a := ((i : Nat))) (b := (((t.kids.length : Nat) : Int))) rfl rfl ?_)
      refine xl_nil ?_
      refine xc_if (p := ((i : Nat) : Int) < (((t.kids.length : Nat) : Int))) rfl (fun h2 => ?_) (fun h2 => ?_)
      · skip
        have hik : i < t.kids.length := by omega
        obtain ⟨u, hu⟩ := get_ex (l := t.kids) (i := i) hik
        have hum := List.mem_of_getElem? hu
        have hpu := PRL_mem hP.kids hum
        obtain ⟨k, hk⟩ := hP.ka_some (by intro h0; rw [h0] at hik; simp at hik)
        have hcu : w.cell? ⟨k, i, none⟩ = some u.ptr := hP.kid hk hu
        have hlen : rlL (t.kids.take (i + 1)) = rlL (t.kids.take i) ++ rl u := by rw [take_succ' hu, rlL_app]; simp [rlL]
        have hb1 := rl_len u; have hb2 := rlL_len (t.kids.take i); have hb3 := szL_succ hu; have hb4 := szL_take t.kids (i + 1); have hb5 := sz_kids t; have hb6 := szL_mem hum; have hb7 := szL_nonneg (t.kids.take i); have hb8 := szL_len t.kids
        refine xc_skip ?_
        refine xc_seq ?_
        refine xc_block ?_
        refine xc_seq ?_
        refine xc_region ?_
        refine xl_op (P := Try.prog) (some 22) rfl rfl (ox_move (v := (.pointer (some ⟨t.b, 0, none⟩))) g0_f1 ?_)
        refine xl_op (P := Try.prog) (some 23) rfl rfl (ox_nilCheck (p := ⟨t.b, 0, none⟩) rfl ?_)
        refine xl_op (P := Try.prog) (some 24) rfl rfl (ox_fieldAddr (b := t.b) (o := 0) tF_86_5 rfl ?_)
        refine xl_op (P := Try.prog) (some 25) rfl rfl (ox_load (v := (.slice (some ⟨k, 0, none⟩) t.kids.length t.kc)) tA_29 rfl ((refC_ka hk ▸ (hP.blk.ext e_f1) : Blk w2 t.b #[(.int .i64 t.id), (.int .i64 t.kind), (.int .i64 t.n), (.int .i64 (sz t)), (.int .i64 t.lf.kind), (.int .i64 t.lf.skip), (.int .i64 t.lf.len), (.int .i64 t.lf.reach), (.slice (some ⟨k, 0, none⟩) t.kids.length t.kc)] 86).cell rfl) ?_)
        refine xl_op (P := Try.prog) (some 26) rfl rfl (ox_move (v := (.int .i64 ((i : Nat)))) g4_f1 ?_)
        refine xl_op (P := Try.prog) (some 27) rfl rfl (ox_indexAddr (b := k) (o := 0) (i := ((i : Nat))) tE_29 rfl rfl (by omega) (by omega) ?_)
        refine xl_op (P := Try.prog) (some 28) rfl rfl (ox_load (v := (.pointer (some ⟨u.b, 0, none⟩))) tA_38 rfl (by simpa [T.ptr] using Ext.cell hcu e_f1) ?_)
        refine xl_op (P := Try.prog) (some 29) rfl rfl (ox_callE (al := [(.pointer (some ⟨u.b, 0, none⟩))]) pf_47 rfl (ret_mono (ih u hum w2 (hpu.ext e_f1) (by omega)) ?_))
        rintro _ w3 ⟨A2, c2, rfl, ho2, hl2, e2⟩
        have he2 := e2.size
        refine xl_op (P := Try.prog) (some 5) rfl rfl (ox_assign (v := (.slice A2 ((rl u).length) c2)) rfl ?_)
        refine xl_nil ?_
        refine xc_region ?_
        refine xl_op (P := Try.prog) (some 30) rfl rfl (ox_move (v := (.slice Ao ((rlL (t.kids.take i)).length) co)) g3_f1 ?_)
        refine xl_op (P := Try.prog) (some 31) rfl rfl (ox_move (v := (.slice A2 ((rl u).length) c2)) rfl ?_)
        refine xl_op (P := Try.prog) (some 32) rfl rfl (ox_appendR (n := ((rlL (t.kids.take i)).length)) (m := ((rl u).length)) (xs := (((rlL (t.kids.take i)).map T.ptr))) (news := (((rl u).map T.ptr))) rfl tE_29 rfl (by decide) (v := (.slice Ao ((rlL (t.kids.take i)).length) co)) rfl rfl (o_f1.ext e2) (by simp) (Own.rowO ho2) (by simp [T.ptr, Value.oneCell']) (by omega) (by omega) ?_)
        intro v1 w4 o1 e3 at1 nil1
        have he3 := e3.size
        obtain ⟨A1, c1, rfl, hc1⟩ := o1.shape
        have low1 : ∀ _k, (Value.slice A1 ((rlL (t.kids.take i)).length + (rl u).length) c1).ownBlock = some _k → w.heap.size ≤ _k := fun _k _h => by rcases at1 with _e | _e <;> rw [_e] at _h; exact lo_f1 _k _h; exact (by cases _h; omega)
        refine xl_op (P := Try.prog) (some 3) rfl rfl (ox_assign (v := (.slice A1 ((rlL (t.kids.take i)).length + (rl u).length) c1)) rfl ?_)
        refine xl_nil ?_
        refine xc_region ?_
        refine xl_op (P := Try.prog) (some 20) rfl rfl (ox_move (v := (.int .i64 ((i : Nat)))) g4_f1 ?_)
        refine xl_op (P := Try.prog) (some 21) rfl rfl (ox_add64 (a := ((i : Nat))) (b := 1) rfl rfl (by omega) ?_)
        refine xl_op (P := Try.prog) (some 4) rfl rfl (ox_assign (v := (.int .i64 ((i : Nat) + 1))) rfl ?_)
        refine xl_nil ?_
        have ho9 := o1
        have hsz0 := e2.size
        have hsz1 := e3.size
        exact ⟨rfl, t.kids.length - (i + 1), by omega, i + 1, A1, c1, by omega, by omega, g0_f1, (by rw [hlen, List.length_append]; rfl), (by first | exact rfl | exact (congrArg (Value.int .i64) (by omega))), (by rw [hlen, List.map_append, List.length_append]; exact ho9), (fun k hk => low1 k (ownBlock_len hk)), (Chg.trans (Ext.trans e_f1 e2) e3 (fun b hb hl => absurd hl (by have := lo_f1 b hb; omega)))⟩
      · skip
        refine xc_exit ?_
        refine xc_seq ?_
        refine xc_region ?_
        refine xl_op (P := Try.prog) (some 33) rfl rfl (ox_move (v := (.slice Ao ((rlL (t.kids.take i)).length) co)) g3_f1 ?_)
        refine xl_op (P := Try.prog) (some 2) rfl rfl (ox_assign (v := (.slice Ao ((rlL (t.kids.take i)).length) co)) rfl ?_)
        refine xl_nil ?_
        refine xc_ret ?_
        change leaves _ _ _ _ _ _ _
        refine leaves_nil (n := 34) (rs := [.tmp 2]) (vs := [(.slice Ao ((rlL (t.kids.take i)).length) co)]) rfl ⟨⟨by decide, rfl⟩, trivial⟩ ?_
        have hiq : i = t.kids.length := by omega
        have hrl : rl t = rlL (t.kids.take i) := by rw [rl_node hkd, hiq, List.take_length]
        exact ⟨Ao, co, by rw [hrl]; rfl, by rw [hrl]; exact o_f1, by rw [hrl]; exact lo_f1, e_f1⟩

theorem refLeaves_calls (t : T) (w : World) (hP : PR w t) (hs : sz t ≤ 4194304) : Calls Try.prog 47 #[.pointer (some ⟨t.b, 0, none⟩)] w (Ret (RLp t w)) := by
  have key : ∀ n : Nat, ∀ t : T, (sz t).toNat = n → ∀ w, PR w t → sz t ≤ 4194304 → Calls Try.prog 47 #[.pointer (some ⟨t.b, 0, none⟩)] w (Ret (RLp t w)) := by
    intro n
    induction n using Nat.strongRecOn with
    | _ n ih =>
      intro t ht w hP hs
      refine refLeaves_step t w hP hs fun u hu W hW hz => ih (sz u).toNat ?_ u rfl W hW hz
      have h1 := szL_mem hu; have h2 := sz_pos u; have h3 := sz_kids t
      omega
  exact key _ t rfl w hP hs

theorem once_calls (ls : List T) (A : Option Addr) (c : Nat) (k : Int) (w : World) (hA : RowA w A (ls.map T.ptr)) (hR : PRL w ls) (hn : ls.length ≤ 4194304) :
    Calls Try.prog 48 #[(.slice A ls.length c), (.int .i64 k)] w (Ret (fun v w' => v = .int .i64 (onceR (ls.map T.id) k) ∧ w = w')) := by
  refine calls_xc (n := 37) (f := fun s_ => [(.slice A ls.length c), (.int .i64 k)].getD s_ undef) Try.func48 rfl rfl (by simp) (fun s_ => by simp) ?_
  refine xc_seq ?_
  refine xc_region ?_
  refine xl_op (P := Try.prog) (some 4) rfl rfl (ox_assign (v := (.int .i64 0)) rfl ?_)
  refine xl_nil ?_
  refine xc_seq ?_
  refine xc_region ?_
  refine xl_op (P := Try.prog) (some 5) rfl rfl (ox_assign (v := (.int .i64 (-1))) rfl ?_)
  refine xl_nil ?_
  refine xc_seq ?_
  refine xc_seq ?_
  refine xc_region ?_
  refine xl_op (P := Try.prog) (some 6) rfl rfl (ox_assign (v := (.int .i64 0)) rfl ?_)
  refine xl_nil ?_
  refine xc_block ?_
  refine xc_loopN (fun m f W => ∃ (i : Nat) (q : Int), m = ls.length - i ∧ i ≤ ls.length ∧ ((((ls.map T.id).take i).count k = 0 ∧ q = -1) ∨ (((ls.map T.id).take i).count k = 1 ∧ q = ((((ls.map T.id).take i).idxOf k : Nat) : Int))) ∧ f 0 = (.slice A ls.length c) ∧ f 1 = (.int .i64 k) ∧ f 5 = (.int .i64 q) ∧ f 6 = (.int .i64 ((i : Nat))) ∧ w = W) (ls.length) ?_ ?_
  · exact ⟨0, -1, by omega, by omega, by left; simp, rfl, rfl, (by first | exact rfl | exact (congrArg (Value.int .i64) (by omega))), (by first | exact rfl | exact (congrArg (Value.int .i64) (by omega))), rfl⟩
  · rintro m f1 w1 ⟨i, q, hm, hi, hq, g0_f1, g1_f1, g5_f1, g6_f1, e_f1⟩
    subst e_f1
    refine xc_seq ?_
    refine xc_seq ?_
    refine xc_region ?_
    refine xl_op (P := Try.prog) (some 7) rfl rfl (ox_move (v := (.int .i64 ((i : Nat)))) g6_f1 ?_)
    refine xl_op (P := Try.prog) (some 8) rfl rfl (ox_move (v := (.slice A ls.length c)) g0_f1 ?_)
    refine xl_op (P := Try.prog) (some 9) rfl rfl (ox_len (A := A) (n := ls.length) (cp := c) rfl tU_29 rfl ?_)
    refine xl_op (P := Try.prog) (some 10) rfl rfl (ox_lss (k := .i64) (a := ((i : Nat))) (b := (((ls.length : Nat) : Int))) rfl rfl ?_)
    refine xl_nil ?_
    refine xc_if (p := ((i : Nat) : Int) < (((ls.length : Nat) : Int))) rfl (fun h1 => ?_) (fun h1 => ?_)
    · skip
      have hil : i < ls.length := by omega
      obtain ⟨u, hu⟩ := get_ex (l := ls) (i := i) hil
      have hpu := hR.get hu
      have hki : (ls.map T.id)[i]? = some u.id := by rw [List.getElem?_map, hu]; rfl
      obtain ⟨g, o, rfl⟩ := hA.ex (by intro hh; cases ls with | nil => simp at hu | cons q l => simp at hh)
      have hcu : w.cell? ⟨g, o + i, none⟩ = some u.ptr := cellsL_get hA.cells (by simp [hu])
      refine xc_skip ?_
      refine xc_seq ?_
      refine xc_block ?_
      refine xc_seq ?_
      refine xc_seq ?_
      refine xc_region ?_
      refine xl_op (P := Try.prog) (some 13) rfl rfl (ox_move (v := (.slice (some ⟨g, o, none⟩) ls.length c)) g0_f1 ?_)
      refine xl_op (P := Try.prog) (some 14) rfl rfl (ox_move (v := (.int .i64 ((i : Nat)))) g6_f1 ?_)
      refine xl_op (P := Try.prog) (some 15) rfl rfl (ox_indexAddr (b := g) (o := o) (i := ((i : Nat))) tE_29 rfl rfl (by omega) (by omega) ?_)
      refine xl_op (P := Try.prog) (some 16) rfl rfl (ox_load (v := (.pointer (some ⟨u.b, 0, none⟩))) tA_38 rfl (by simpa [T.ptr] using hcu) ?_)
      refine xl_op (P := Try.prog) (some 17) rfl rfl (ox_nilCheck (p := ⟨u.b, 0, none⟩) rfl ?_)
      refine xl_op (P := Try.prog) (some 18) rfl rfl (ox_fieldAddr (b := u.b) (o := 0) tF_86_0 rfl ?_)
      refine xl_op (P := Try.prog) (some 19) rfl rfl (ox_load (v := (.int .i64 u.id)) tA_3 rfl (hpu.blk.cell rfl) ?_)
      refine xl_op (P := Try.prog) (some 20) rfl rfl (ox_move (v := (.int .i64 k)) g1_f1 ?_)
      refine xl_op (P := Try.prog) (some 21) rfl rfl (ox_eql (k := .i64) (a := u.id) (b := k) rfl rfl ?_)
      refine xl_op (P := Try.prog) (some 22) rfl rfl (ox_move (v := (.bool (decide ((u.id : Int) = k)))) rfl ?_)
      refine xl_may (P := Try.prog) (some 23) (j := 9) (b := true) (((decide ((u.id : Int) = k))) = true) (.bool (decide ((u.id : Int) = k))) (.int .i64 q) rfl rfl rfl (may_b ((decide ((u.id : Int) = k))) true) (fun hp => ox_move (v := (.int .i64 q)) g5_f1 ⟨rfl, rfl⟩) ?_
      refine xl_may (P := Try.prog) (some 24) (j := 9) (b := true) (((decide ((u.id : Int) = k))) = true) (.bool (decide ((u.id : Int) = k))) (.bool (decide ((0 : Int) ≤ q))) rfl rfl rfl (may_b ((decide ((u.id : Int) = k))) true) (fun hp => ox_geq (k := .i64) (a := q) (b := 0) (if_pos (α := Value) (t := (.int .i64 q)) (e := undef) hp) rfl ⟨rfl, rfl⟩) ?_
      refine xl_op (P := Try.prog) (some 25) rfl rfl (ox_pick_and (a := ((decide ((u.id : Int) = k)))) (b := ((decide ((0 : Int) ≤ q)))) rfl (fun ha => (if_pos (α := Value) (t := (.bool (decide ((0 : Int) ≤ q)))) (e := undef) ha)) rfl ?_)
      refine xl_nil ?_
      refine xc_cond (b := (((decide ((u.id : Int) = k))) && ((decide ((0 : Int) ≤ q))))) rfl (fun h2 => ?_) (fun h2 => ?_)
      · skip
        have h2' := h2
        try simp only [Bool.or_eq_true, Bool.and_eq_true, decide_eq_true_eq, Bool.or_eq_false_iff, Bool.and_eq_false_iff, decide_eq_false_iff_not, Bool.not_eq_true', Bool.not_eq_false'] at h2'
        have huk : u.id = k := h2'.1
        rw [huk] at hki
        have hq0 : 0 ≤ q := h2'.2
        refine xc_seq ?_
        refine xc_region ?_
        refine xl_op (P := Try.prog) (some 4) rfl rfl (ox_assign (v := (.int .i64 (-1))) rfl ?_)
        refine xl_nil ?_
        refine xc_ret ?_
        change leaves _ _ _ _ _ _ _
        refine leaves_nil (n := 37) (rs := [.tmp 4]) (vs := [(.int .i64 (-1))]) rfl ⟨⟨by decide, rfl⟩, trivial⟩ ?_
        exact ⟨by rw [onceR_none (once_twice hki (by rcases hq with h8 | h8; omega; exact h8.1))]; rfl, rfl⟩
      · skip
        have h2' := h2
        try simp only [Bool.or_eq_true, Bool.and_eq_true, decide_eq_true_eq, Bool.or_eq_false_iff, Bool.and_eq_false_iff, decide_eq_false_iff_not, Bool.not_eq_true', Bool.not_eq_false'] at h2'
        have hnq : ¬ (u.id = k ∧ 0 ≤ q) := fun hh => absurd h2 (by simp [hh.1, hh.2])
        refine xc_skip ?_
        refine xc_seq ?_
        refine xc_region ?_
        refine xl_op (P := Try.prog) (some 26) rfl rfl (ox_move (v := (.slice (some ⟨g, o, none⟩) ls.length c)) g0_f1 ?_)
        refine xl_op (P := Try.prog) (some 27) rfl rfl (ox_move (v := (.int .i64 ((i : Nat)))) g6_f1 ?_)
        refine xl_op (P := Try.prog) (some 28) rfl rfl (ox_indexAddr (b := g) (o := o) (i := ((i : Nat))) tE_29 rfl rfl (by omega) (by omega) ?_)
        refine xl_op (P := Try.prog) (some 29) rfl rfl (ox_load (v := (.pointer (some ⟨u.b, 0, none⟩))) tA_38 rfl (by simpa [T.ptr] using hcu) ?_)
        refine xl_op (P := Try.prog) (some 30) rfl rfl (ox_nilCheck (p := ⟨u.b, 0, none⟩) rfl ?_)
        refine xl_op (P := Try.prog) (some 31) rfl rfl (ox_fieldAddr (b := u.b) (o := 0) tF_86_0 rfl ?_)
        refine xl_op (P := Try.prog) (some 32) rfl rfl (ox_load (v := (.int .i64 u.id)) tA_3 rfl (hpu.blk.cell rfl) ?_)
        refine xl_op (P := Try.prog) (some 33) rfl rfl (ox_move (v := (.int .i64 k)) g1_f1 ?_)
        refine xl_op (P := Try.prog) (some 34) rfl rfl (ox_eql (k := .i64) (a := u.id) (b := k) rfl rfl ?_)
        refine xl_nil ?_
        refine xc_if (p := (u.id : Int) = k) rfl (fun h3 => ?_) (fun h3 => ?_)
        · skip
          rw [h3] at hki
          refine xc_region ?_
          refine xl_op (P := Try.prog) (some 35) rfl rfl (ox_move (v := (.int .i64 ((i : Nat)))) g6_f1 ?_)
          refine xl_op (P := Try.prog) (some 5) rfl rfl (ox_assign (v := (.int .i64 ((i : Nat)))) rfl ?_)
          refine xl_nil ?_
          refine xc_region ?_
          refine xl_op (P := Try.prog) (some 11) rfl rfl (ox_move (v := (.int .i64 ((i : Nat)))) g6_f1 ?_)
          refine xl_op (P := Try.prog) (some 12) rfl rfl (ox_add64 (a := ((i : Nat))) (b := 1) rfl rfl (by omega) ?_)
          refine xl_op (P := Try.prog) (some 6) rfl rfl (ox_assign (v := (.int .i64 ((i : Nat) + 1))) rfl ?_)
          refine xl_nil ?_
          exact ⟨rfl, ls.length - (i + 1), by omega, i + 1, ((i : Nat) : Int), by omega, by omega, by right; have h9 := once_hit hki (by omega); exact ⟨h9.1, by rw [h9.2]⟩, g0_f1, g1_f1, (by first | exact rfl | exact (congrArg (Value.int .i64) (by omega))), (by first | exact rfl | exact (congrArg (Value.int .i64) (by omega))), rfl⟩
        · skip
          have hne : u.id ≠ k := h3
          refine xc_skip ?_
          refine xc_region ?_
          refine xl_op (P := Try.prog) (some 11) rfl rfl (ox_move (v := (.int .i64 ((i : Nat)))) g6_f1 ?_)
          refine xl_op (P := Try.prog) (some 12) rfl rfl (ox_add64 (a := ((i : Nat))) (b := 1) rfl rfl (by omega) ?_)
          refine xl_op (P := Try.prog) (some 6) rfl rfl (ox_assign (v := (.int .i64 ((i : Nat) + 1))) rfl ?_)
          refine xl_nil ?_
          exact ⟨rfl, ls.length - (i + 1), by omega, i + 1, q, by omega, by omega, by have h9 := once_miss hki (k := k) hne; rcases hq with h8 | h8; exact .inl ⟨by omega, h8.2⟩; exact .inr ⟨by omega, by rw [h9.2 h8.1]; exact h8.2⟩, g0_f1, g1_f1, g5_f1, (by first | exact rfl | exact (congrArg (Value.int .i64) (by omega))), rfl⟩
    · skip
      refine xc_exit ?_
      refine xc_seq ?_
      refine xc_region ?_
      refine xl_op (P := Try.prog) (some 36) rfl rfl (ox_move (v := (.int .i64 q)) g5_f1 ?_)
      refine xl_op (P := Try.prog) (some 4) rfl rfl (ox_assign (v := (.int .i64 q)) rfl ?_)
      refine xl_nil ?_
      refine xc_ret ?_
      change leaves _ _ _ _ _ _ _
      refine leaves_nil (n := 37) (rs := [.tmp 4]) (vs := [(.int .i64 q)]) rfl ⟨⟨by decide, rfl⟩, trivial⟩ ?_
      have hti : (ls.map T.id).take i = ls.map T.id := List.take_of_length_le (by simp; omega)
      rw [hti] at hq
      exact ⟨by rcases hq with h8 | h8; rw [onceR_zero h8.1, h8.2]; rfl; rw [onceR_some h8.1, h8.2]; rfl, rfl⟩

theorem refHunks_calls (ra rb : T) (w : World) (hPa : PR w ra) (hsa : sz ra ≤ 4194304) (hPb : PR w rb) (hsb : sz rb ≤ 4194304) :
    Calls Try.prog 16 #[(.pointer (some ⟨ra.b, 0, none⟩)), (.pointer (some ⟨rb.b, 0, none⟩))] w (Ret (fun v w' => ∃ A c, v = .slice A (hunks ((rl ra).map T.id) ((rl rb).map T.id)).length c ∧ Vx.Own w' 40 4 (.slice A (hunks ((rl ra).map T.id) ((rl rb).map T.id)).length c) (hunks ((rl ra).map T.id) ((rl rb).map T.id)).length (hkC (hunks ((rl ra).map T.id) ((rl rb).map T.id))) ∧ (∀ k, (Value.slice A (hunks ((rl ra).map T.id) ((rl rb).map T.id)).length c).ownBlock = some k → w.heap.size ≤ k) ∧ Ext w w')) := by
  have hra := rl_len ra
  have hrb := rl_len rb
  refine calls_xc (n := 73) (f := fun s_ => [(.pointer (some ⟨ra.b, 0, none⟩)), (.pointer (some ⟨rb.b, 0, none⟩))].getD s_ undef) Try.func16 rfl rfl (by simp) (fun s_ => by simp) ?_
  refine xc_seq ?_
  refine xc_region ?_
  refine xl_op (P := Try.prog) (some 4) rfl rfl (ox_assign (v := (.slice none 0 0)) rfl ?_)
  refine xl_nil ?_
  refine xc_seq ?_
  refine xc_region ?_
  refine xl_op (P := Try.prog) (some 12) rfl rfl (ox_move (v := (.pointer (some ⟨ra.b, 0, none⟩))) rfl ?_)
  refine xl_op (P := Try.prog) (some 13) rfl rfl (ox_callE (al := [(.pointer (some ⟨ra.b, 0, none⟩))]) pf_47 rfl (ret_mono (refLeaves_calls ra w (hPa.ext (Chg.refl _ _)) hsa) ?_))
  rintro _ w1 ⟨Aa, ca, rfl, hoa, hla, e1⟩
  have he1 := e1.size
  refine xl_op (P := Try.prog) (some 5) rfl rfl (ox_assign (v := (.slice Aa ((rl ra).length) ca)) rfl ?_)
  refine xl_nil ?_
  refine xc_seq ?_
  refine xc_region ?_
  refine xl_op (P := Try.prog) (some 14) rfl rfl (ox_move (v := (.pointer (some ⟨rb.b, 0, none⟩))) rfl ?_)
  refine xl_op (P := Try.prog) (some 15) rfl rfl (ox_callE (al := [(.pointer (some ⟨rb.b, 0, none⟩))]) pf_47 rfl (ret_mono (refLeaves_calls rb w1 (hPb.ext e1) hsb) ?_))
  rintro _ w2 ⟨Ab, cb, rfl, hob, hlb, e2⟩
  have he2 := e2.size
  refine xl_op (P := Try.prog) (some 6) rfl rfl (ox_assign (v := (.slice Ab ((rl rb).length) cb)) rfl ?_)
  refine xl_nil ?_
  refine xc_seq ?_
  refine xc_region ?_
  refine xl_op (P := Try.prog) (some 7) rfl rfl (ox_assign (v := (.slice none 0 0)) rfl ?_)
  refine xl_nil ?_
  refine xc_seq ?_
  refine xc_region ?_
  refine xl_op (P := Try.prog) (some 8) rfl rfl (ox_assign (v := (.int .i64 0)) rfl ?_)
  refine xl_nil ?_
  refine xc_seq ?_
  refine xc_region ?_
  refine xl_op (P := Try.prog) (some 9) rfl rfl (ox_assign (v := (.int .i64 0)) rfl ?_)
  refine xl_nil ?_
  refine xc_seq ?_
  refine xc_seq ?_
  refine xc_region ?_
  refine xl_op (P := Try.prog) (some 10) rfl rfl (ox_assign (v := (.int .i64 0)) rfl ?_)
  refine xl_nil ?_
  refine xc_block ?_
  have hoa2 := hoa.ext e2
  have hEb := (Ext.trans e1 e2)
  refine xc_loopN (fun m f W => ∃ (i : Nat) (Ao : Option Addr) (co : Nat), m = (rl ra).length + 1 - i ∧ i ≤ (rl ra).length + 1 ∧ f 5 = (.slice Aa ((rl ra).length) ca) ∧ f 6 = (.slice Ab ((rl rb).length) cb) ∧ f 7 = (.slice Ao ((hst ((rl ra).map T.id) ((rl rb).map T.id) i).2.2.length) co) ∧ f 8 = (.int .i64 ((hst ((rl ra).map T.id) ((rl rb).map T.id) i).1)) ∧ f 9 = (.int .i64 ((hst ((rl ra).map T.id) ((rl rb).map T.id) i).2.1)) ∧ f 10 = (.int .i64 ((i : Nat))) ∧ Vx.Own W 40 4 (.slice Ao ((hst ((rl ra).map T.id) ((rl rb).map T.id) i).2.2.length) co) (hst ((rl ra).map T.id) ((rl rb).map T.id) i).2.2.length (hkC (hst ((rl ra).map T.id) ((rl rb).map T.id) i).2.2) ∧ (∀ k, ((.slice Ao ((hst ((rl ra).map T.id) ((rl rb).map T.id) i).2.2.length) co) : Value).ownBlock = some k → w2.heap.size ≤ k) ∧ Ext w2 W ∧ Ext w W) ((rl ra).length + 1) ?_ ?_
  · exact ⟨0, none, 0, by omega, by omega, rfl, rfl, rfl, (by first | exact rfl | exact (congrArg (Value.int .i64) (by omega))), (by first | exact rfl | exact (congrArg (Value.int .i64) (by omega))), (by first | exact rfl | exact (congrArg (Value.int .i64) (by omega))), (by simpa [hst, hgo, hkC] using Vx.Own.nil _ _ _), (by simp [Value.ownBlock]), (Chg.refl _ _), hEb⟩
  · rintro m f1 w3 ⟨i, Ao, co, hm, hi, g5_f1, g6_f1, g7_f1, g8_f1, g9_f1, g10_f1, o_f1, lo_f1, x_f1, e_f1⟩
    have hzE := e_f1.size
    have hzX := x_f1.size
    refine xc_seq ?_
    refine xc_seq ?_
    refine xc_region ?_
    refine xl_op (P := Try.prog) (some 16) rfl rfl (ox_move (v := (.int .i64 ((i : Nat)))) g10_f1 ?_)
    refine xl_op (P := Try.prog) (some 17) rfl rfl (ox_move (v := (.slice Aa ((rl ra).length) ca)) g5_f1 ?_)
    refine xl_op (P := Try.prog) (some 18) rfl rfl (ox_len (A := Aa) (n := ((rl ra).length)) (cp := ca) rfl tU_29 rfl ?_)
    refine xl_op (P := Try.prog) (some 19) rfl rfl (ox_leq (k := .i64) (a := ((i : Nat))) (b := ((((rl ra).length : Nat) : Int))) rfl rfl ?_)
    refine xl_nil ?_
    refine xc_if (p := ((i : Nat) : Int) ≤ ((((rl ra).length : Nat) : Int))) rfl (fun h1 => ?_) (fun h1 => ?_)
    · skip
      have hbd := hst_bd (l := ((rl ra).map T.id)) (m := ((rl rb).map T.id)) (i := i) (by simp; omega)
      rw [List.length_map] at hbd
      refine xc_skip ?_
      refine xc_seq ?_
      refine xc_block ?_
      refine xc_seq ?_
      refine xc_region ?_
      refine xl_op (P := Try.prog) (some 22) rfl rfl (ox_move (v := (.slice Ab ((rl rb).length) cb)) g6_f1 ?_)
      refine xl_op (P := Try.prog) (some 23) rfl rfl (ox_len (A := Ab) (n := ((rl rb).length)) (cp := cb) rfl tU_29 rfl ?_)
      refine xl_op (P := Try.prog) (some 11) rfl rfl (ox_assign (v := (.int .i64 ((((rl rb).length : Nat) : Int)))) rfl ?_)
      refine xl_nil ?_
      refine xc_seq ?_
      refine xc_seq ?_
      refine xc_region ?_
      refine xl_op (P := Try.prog) (some 24) rfl rfl (ox_move (v := (.int .i64 ((i : Nat)))) g10_f1 ?_)
      refine xl_op (P := Try.prog) (some 25) rfl rfl (ox_move (v := (.slice Aa ((rl ra).length) ca)) g5_f1 ?_)
      refine xl_op (P := Try.prog) (some 26) rfl rfl (ox_len (A := Aa) (n := ((rl ra).length)) (cp := ca) rfl tU_29 rfl ?_)
      refine xl_op (P := Try.prog) (some 27) rfl rfl (ox_lss (k := .i64) (a := ((i : Nat))) (b := ((((rl ra).length : Nat) : Int))) rfl rfl ?_)
      refine xl_nil ?_
      refine xc_if (p := ((i : Nat) : Int) < ((((rl ra).length : Nat) : Int))) rfl (fun h2 => ?_) (fun h2 => ?_)
      · skip
        have hil : i < (rl ra).length := by omega
        obtain ⟨u, hu⟩ := get_ex (l := rl ra) (i := i) hil
        have hpu := (rl_PR hPa).get hu
        have hki : ((rl ra).map T.id)[i]? = some u.id := by rw [List.getElem?_map, hu]; rfl
        obtain ⟨g, cap, heq, _⟩ := hoa2.some_of (by omega)
        simp only [Value.slice.injEq, true_and] at heq
        obtain ⟨rfl, rfl⟩ := heq
        have hcu : w2.cell? ⟨g, i, none⟩ = some u.ptr := (hoa2.cells (o := i) (vs := [u.ptr]) (by intro j v hj; cases j with | zero => (simp at hj; subst hj; simp [hu]) | succ j => simp at hj)).1
        have hbM := onceR_bd ((rl rb).map T.id) u.id; have hbL := onceR_bd ((rl ra).map T.id) u.id
        rw [List.length_map] at hbM hbL
        refine xc_seq ?_
        refine xc_region ?_
        refine xl_op (P := Try.prog) (some 28) rfl rfl (ox_move (v := (.slice Ab ((rl rb).length) cb)) g6_f1 ?_)
        refine xl_op (P := Try.prog) (some 29) rfl rfl (ox_move (v := (.slice (some ⟨g, 0, none⟩) ((rl ra).length) ca)) g5_f1 ?_)
        refine xl_op (P := Try.prog) (some 30) rfl rfl (ox_move (v := (.int .i64 ((i : Nat)))) g10_f1 ?_)
        refine xl_op (P := Try.prog) (some 31) rfl rfl (ox_indexAddr (b := g) (o := 0) (i := ((i : Nat))) tE_29 rfl rfl (by omega) (by omega) ?_)
        refine xl_op (P := Try.prog) (some 32) rfl rfl (ox_load (v := (.pointer (some ⟨u.b, 0, none⟩))) tA_38 rfl (by simpa [T.ptr] using Ext.cell hcu x_f1) ?_)
        refine xl_op (P := Try.prog) (some 33) rfl rfl (ox_nilCheck (p := ⟨u.b, 0, none⟩) rfl ?_)
        refine xl_op (P := Try.prog) (some 34) rfl rfl (ox_fieldAddr (b := u.b) (o := 0) tF_86_0 rfl ?_)
        refine xl_op (P := Try.prog) (some 35) rfl rfl (ox_load (v := (.int .i64 u.id)) tA_3 rfl ((hpu.blk.ext e_f1).cell rfl) ?_)
        refine xl_op (P := Try.prog) (some 36) rfl rfl (ox_callE (al := [(.slice Ab ((rl rb).length) cb), (.int .i64 u.id)]) pf_48 rfl (ret_mono (once_calls (rl rb) Ab cb u.id _ (Own.rowO (hob.ext x_f1)) ((rl_PR hPb).ext e_f1) (by have := rl_len rb; omega)) ?_))
        rintro _ _ ⟨rfl, rfl⟩
        refine xl_op (P := Try.prog) (some 11) rfl rfl (ox_assign (v := (.int .i64 (onceR ((rl rb).map T.id) u.id))) rfl ?_)
        refine xl_nil ?_
        refine xc_seq ?_
        refine xc_region ?_
        refine xl_op (P := Try.prog) (some 37) rfl rfl (ox_move (v := (.int .i64 (onceR ((rl rb).map T.id) u.id))) rfl ?_)
        refine xl_op (P := Try.prog) (some 38) rfl rfl (ox_move (v := (.int .i64 ((hst ((rl ra).map T.id) ((rl rb).map T.id) i).2.1))) g9_f1 ?_)
        refine xl_op (P := Try.prog) (some 39) rfl rfl (ox_lss (k := .i64) (a := (onceR ((rl rb).map T.id) u.id)) (b := ((hst ((rl ra).map T.id) ((rl rb).map T.id) i).2.1)) rfl rfl ?_)
        refine xl_op (P := Try.prog) (some 40) rfl rfl (ox_move (v := (.bool (decide ((onceR ((rl rb).map T.id) u.id : Int) < ((hst ((rl ra).map T.id) ((rl rb).map T.id) i).2.1))))) rfl ?_)
        refine xl_may (P := Try.prog) (some 41) (j := 3) (b := false) (((decide ((onceR ((rl rb).map T.id) u.id : Int) < ((hst ((rl ra).map T.id) ((rl rb).map T.id) i).2.1)))) = false) (.bool (decide ((onceR ((rl rb).map T.id) u.id : Int) < ((hst ((rl ra).map T.id) ((rl rb).map T.id) i).2.1)))) (.slice (some ⟨g, 0, none⟩) ((rl ra).length) ca) rfl rfl rfl (may_b ((decide ((onceR ((rl rb).map T.id) u.id : Int) < ((hst ((rl ra).map T.id) ((rl rb).map T.id) i).2.1)))) false) (fun hp => ox_move (v := (.slice (some ⟨g, 0, none⟩) ((rl ra).length) ca)) g5_f1 ⟨rfl, rfl⟩) ?_
        refine xl_may (P := Try.prog) (some 42) (j := 3) (b := false) (((decide ((onceR ((rl rb).map T.id) u.id : Int) < ((hst ((rl ra).map T.id) ((rl rb).map T.id) i).2.1)))) = false) (.bool (decide ((onceR ((rl rb).map T.id) u.id : Int) < ((hst ((rl ra).map T.id) ((rl rb).map T.id) i).2.1)))) (.slice (some ⟨g, 0, none⟩) ((rl ra).length) ca) rfl rfl rfl (may_b ((decide ((onceR ((rl rb).map T.id) u.id : Int) < ((hst ((rl ra).map T.id) ((rl rb).map T.id) i).2.1)))) false) (fun hp => ox_move (v := (.slice (some ⟨g, 0, none⟩) ((rl ra).length) ca)) g5_f1 ⟨rfl, rfl⟩) ?_
        refine xl_may (P := Try.prog) (some 43) (j := 3) (b := false) (((decide ((onceR ((rl rb).map T.id) u.id : Int) < ((hst ((rl ra).map T.id) ((rl rb).map T.id) i).2.1)))) = false) (.bool (decide ((onceR ((rl rb).map T.id) u.id : Int) < ((hst ((rl ra).map T.id) ((rl rb).map T.id) i).2.1)))) (.int .i64 ((i : Nat))) rfl rfl rfl (may_b ((decide ((onceR ((rl rb).map T.id) u.id : Int) < ((hst ((rl ra).map T.id) ((rl rb).map T.id) i).2.1)))) false) (fun hp => ox_move (v := (.int .i64 ((i : Nat)))) g10_f1 ⟨rfl, rfl⟩) ?_
        refine xl_may (P := Try.prog) (some 44) (j := 3) (b := false) (((decide ((onceR ((rl rb).map T.id) u.id : Int) < ((hst ((rl ra).map T.id) ((rl rb).map T.id) i).2.1)))) = false) (.bool (decide ((onceR ((rl rb).map T.id) u.id : Int) < ((hst ((rl ra).map T.id) ((rl rb).map T.id) i).2.1)))) (.pointer (some ⟨g, 0 + ((i : Nat) : Int).toNat * 1, none⟩)) rfl rfl rfl (may_b ((decide ((onceR ((rl rb).map T.id) u.id : Int) < ((hst ((rl ra).map T.id) ((rl rb).map T.id) i).2.1)))) false) (fun hp => ox_indexAddr (b := g) (o := 0) (i := ((i : Nat))) tE_29 (if_pos (α := Value) (t := (.slice (some ⟨g, 0, none⟩) ((rl ra).length) ca)) (e := undef) hp) (if_pos (α := Value) (t := (.int .i64 ((i : Nat)))) (e := undef) hp) (by omega) (by omega) ⟨rfl, rfl⟩) ?_
        refine xl_may (P := Try.prog) (some 45) (j := 3) (b := false) (((decide ((onceR ((rl rb).map T.id) u.id : Int) < ((hst ((rl ra).map T.id) ((rl rb).map T.id) i).2.1)))) = false) (.bool (decide ((onceR ((rl rb).map T.id) u.id : Int) < ((hst ((rl ra).map T.id) ((rl rb).map T.id) i).2.1)))) (.pointer (some ⟨u.b, 0, none⟩)) rfl rfl rfl (may_b ((decide ((onceR ((rl rb).map T.id) u.id : Int) < ((hst ((rl ra).map T.id) ((rl rb).map T.id) i).2.1)))) false) (fun hp => ox_load (v := (.pointer (some ⟨u.b, 0, none⟩))) tA_38 (if_pos (α := Value) (t := (.pointer (some ⟨g, 0 + ((i : Nat) : Int).toNat * 1, none⟩))) (e := undef) hp) (by simpa [T.ptr] using Ext.cell hcu x_f1) ⟨rfl, rfl⟩) ?_
        refine xl_may (P := Try.prog) (some 46) (j := 3) (b := false) (((decide ((onceR ((rl rb).map T.id) u.id : Int) < ((hst ((rl ra).map T.id) ((rl rb).map T.id) i).2.1)))) = false) (.bool (decide ((onceR ((rl rb).map T.id) u.id : Int) < ((hst ((rl ra).map T.id) ((rl rb).map T.id) i).2.1)))) (.pointer (some ⟨u.b, 0, none⟩)) rfl rfl rfl (may_b ((decide ((onceR ((rl rb).map T.id) u.id : Int) < ((hst ((rl ra).map T.id) ((rl rb).map T.id) i).2.1)))) false) (fun hp => ox_nilCheck (p := ⟨u.b, 0, none⟩) (if_pos (α := Value) (t := (.pointer (some ⟨u.b, 0, none⟩))) (e := undef) hp) ⟨rfl, rfl⟩) ?_
        refine xl_may (P := Try.prog) (some 47) (j := 3) (b := false) (((decide ((onceR ((rl rb).map T.id) u.id : Int) < ((hst ((rl ra).map T.id) ((rl rb).map T.id) i).2.1)))) = false) (.bool (decide ((onceR ((rl rb).map T.id) u.id : Int) < ((hst ((rl ra).map T.id) ((rl rb).map T.id) i).2.1)))) (.pointer (some ⟨u.b, 0, none⟩)) rfl rfl rfl (may_b ((decide ((onceR ((rl rb).map T.id) u.id : Int) < ((hst ((rl ra).map T.id) ((rl rb).map T.id) i).2.1)))) false) (fun hp => ox_fieldAddr (b := u.b) (o := 0) tF_86_0 (if_pos (α := Value) (t := (.pointer (some ⟨u.b, 0, none⟩))) (e := undef) hp) ⟨rfl, rfl⟩) ?_
        refine xl_may (P := Try.prog) (some 48) (j := 3) (b := false) (((decide ((onceR ((rl rb).map T.id) u.id : Int) < ((hst ((rl ra).map T.id) ((rl rb).map T.id) i).2.1)))) = false) (.bool (decide ((onceR ((rl rb).map T.id) u.id : Int) < ((hst ((rl ra).map T.id) ((rl rb).map T.id) i).2.1)))) (.int .i64 u.id) rfl rfl rfl (may_b ((decide ((onceR ((rl rb).map T.id) u.id : Int) < ((hst ((rl ra).map T.id) ((rl rb).map T.id) i).2.1)))) false) (fun hp => ox_load (v := (.int .i64 u.id)) tA_3 (if_pos (α := Value) (t := (.pointer (some ⟨u.b, 0, none⟩))) (e := undef) hp) ((hpu.blk.ext e_f1).cell rfl) ⟨rfl, rfl⟩) ?_
        refine xl_may (P := Try.prog) (some 49) (j := 3) (b := false) (((decide ((onceR ((rl rb).map T.id) u.id : Int) < ((hst ((rl ra).map T.id) ((rl rb).map T.id) i).2.1)))) = false) (.bool (decide ((onceR ((rl rb).map T.id) u.id : Int) < ((hst ((rl ra).map T.id) ((rl rb).map T.id) i).2.1)))) (.int .i64 (onceR ((rl ra).map T.id) u.id)) rfl rfl rfl (may_b ((decide ((onceR ((rl rb).map T.id) u.id : Int) < ((hst ((rl ra).map T.id) ((rl rb).map T.id) i).2.1)))) false) (fun hp => ox_callE (al := [(.slice (some ⟨g, 0, none⟩) ((rl ra).length) ca), (.int .i64 u.id)]) pf_48 (cons_eq (if_pos (α := Value) (t := (.slice (some ⟨g, 0, none⟩) ((rl ra).length) ca)) (e := undef) hp) (cons_eq (if_pos (α := Value) (t := (.int .i64 u.id)) (e := undef) hp) rfl)) (ret_mono (once_calls (rl ra) ((some ⟨g, 0, none⟩)) ca u.id _ (Own.rowO (hoa2.ext x_f1)) ((rl_PR hPa).ext e_f1) (by have := rl_len ra; omega)) (by rintro _ _ ⟨rfl, rfl⟩; exact ⟨rfl, rfl⟩))) ?_
        refine xl_may (P := Try.prog) (some 50) (j := 3) (b := false) (((decide ((onceR ((rl rb).map T.id) u.id : Int) < ((hst ((rl ra).map T.id) ((rl rb).map T.id) i).2.1)))) = false) (.bool (decide ((onceR ((rl rb).map T.id) u.id : Int) < ((hst ((rl ra).map T.id) ((rl rb).map T.id) i).2.1)))) (.bool (decide ((onceR ((rl ra).map T.id) u.id : Int) < 0))) rfl rfl rfl (may_b ((decide ((onceR ((rl rb).map T.id) u.id : Int) < ((hst ((rl ra).map T.id) ((rl rb).map T.id) i).2.1)))) false) (fun hp => ox_lss (k := .i64) (a := (onceR ((rl ra).map T.id) u.id)) (b := 0) (if_pos (α := Value) (t := (.int .i64 (onceR ((rl ra).map T.id) u.id))) (e := undef) hp) rfl ⟨rfl, rfl⟩) ?_
        refine xl_op (P := Try.prog) (some 51) rfl rfl (ox_pick_or (a := ((decide ((onceR ((rl rb).map T.id) u.id : Int) < ((hst ((rl ra).map T.id) ((rl rb).map T.id) i).2.1))))) (b := ((decide ((onceR ((rl ra).map T.id) u.id : Int) < 0)))) rfl rfl (fun ha => (if_pos (α := Value) (t := (.bool (decide ((onceR ((rl ra).map T.id) u.id : Int) < 0)))) (e := undef) ha)) ?_)
        refine xl_nil ?_
        refine xc_cond (b := (((decide ((onceR ((rl rb).map T.id) u.id : Int) < ((hst ((rl ra).map T.id) ((rl rb).map T.id) i).2.1)))) || ((decide ((onceR ((rl ra).map T.id) u.id : Int) < 0))))) rfl (fun h3 => ?_) (fun h3 => ?_)
        · skip
          have h3' := h3
          try simp only [Bool.or_eq_true, Bool.and_eq_true, decide_eq_true_eq, Bool.or_eq_false_iff, Bool.and_eq_false_iff, decide_eq_false_iff_not, Bool.not_eq_true', Bool.not_eq_false'] at h3'
          have hsk : onceR ((rl rb).map T.id) u.id < (hst ((rl ra).map T.id) ((rl rb).map T.id) i).2.1 ∨ onceR ((rl ra).map T.id) u.id < 0 := h3'
          refine xc_exit ?_
          refine xc_region ?_
          refine xl_op (P := Try.prog) (some 20) rfl rfl (ox_move (v := (.int .i64 ((i : Nat)))) g10_f1 ?_)
          refine xl_op (P := Try.prog) (some 21) rfl rfl (ox_add64 (a := ((i : Nat))) (b := 1) rfl rfl (by omega) ?_)
          refine xl_op (P := Try.prog) (some 10) rfl rfl (ox_assign (v := (.int .i64 ((i : Nat) + 1))) rfl ?_)
          refine xl_nil ?_
          have ho9 := o_f1
          have hnew : hst ((rl ra).map T.id) ((rl rb).map T.id) (i + 1) = hst ((rl ra).map T.id) ((rl rb).map T.id) i := by rw [hst_succ (by simpa using hil)]; exact hstep_skip hki (by omega) hsk
          exact ⟨rfl, (rl ra).length + 1 - (i + 1), by omega, i + 1, Ao, co, by omega, by omega, g5_f1, g6_f1, (by rw [hnew]; exact g7_f1), (by rw [hnew]; exact g8_f1), (by rw [hnew]; exact g9_f1), (by first | exact rfl | exact (congrArg (Value.int .i64) (by omega))), (by rw [hnew]; exact ho9), (by rw [hnew]; exact lo_f1), x_f1, e_f1⟩
        · skip
          have h3' := h3
          try simp only [Bool.or_eq_true, Bool.and_eq_true, decide_eq_true_eq, Bool.or_eq_false_iff, Bool.and_eq_false_iff, decide_eq_false_iff_not, Bool.not_eq_true', Bool.not_eq_false'] at h3'
          have hsk : ¬ (onceR ((rl rb).map T.id) u.id < (hst ((rl ra).map T.id) ((rl rb).map T.id) i).2.1 ∨ onceR ((rl ra).map T.id) u.id < 0) := by omega
          refine xc_skip ?_
          refine xc_seq ?_
          refine xc_seq ?_
          refine xc_region ?_
          refine xl_op (P := Try.prog) (some 52) rfl rfl (ox_move (v := (.int .i64 ((hst ((rl ra).map T.id) ((rl rb).map T.id) i).1))) g8_f1 ?_)
          refine xl_op (P := Try.prog) (some 53) rfl rfl (ox_move (v := (.int .i64 ((i : Nat)))) g10_f1 ?_)
          refine xl_op (P := Try.prog) (some 54) rfl rfl (ox_lss (k := .i64) (a := ((hst ((rl ra).map T.id) ((rl rb).map T.id) i).1)) (b := ((i : Nat))) rfl rfl ?_)
          refine xl_op (P := Try.prog) (some 55) rfl rfl (ox_move (v := (.bool (decide (((hst ((rl ra).map T.id) ((rl rb).map T.id) i).1 : Int) < ((i : Nat)))))) rfl ?_)
          refine xl_may (P := Try.prog) (some 56) (j := 3) (b := false) (((decide (((hst ((rl ra).map T.id) ((rl rb).map T.id) i).1 : Int) < ((i : Nat))))) = false) (.bool (decide (((hst ((rl ra).map T.id) ((rl rb).map T.id) i).1 : Int) < ((i : Nat))))) (.int .i64 ((hst ((rl ra).map T.id) ((rl rb).map T.id) i).2.1)) rfl rfl rfl (may_b ((decide (((hst ((rl ra).map T.id) ((rl rb).map T.id) i).1 : Int) < ((i : Nat))))) false) (fun hp => ox_move (v := (.int .i64 ((hst ((rl ra).map T.id) ((rl rb).map T.id) i).2.1))) g9_f1 ⟨rfl, rfl⟩) ?_
          refine xl_may (P := Try.prog) (some 57) (j := 3) (b := false) (((decide (((hst ((rl ra).map T.id) ((rl rb).map T.id) i).1 : Int) < ((i : Nat))))) = false) (.bool (decide (((hst ((rl ra).map T.id) ((rl rb).map T.id) i).1 : Int) < ((i : Nat))))) (.int .i64 (onceR ((rl rb).map T.id) u.id)) rfl rfl rfl (may_b ((decide (((hst ((rl ra).map T.id) ((rl rb).map T.id) i).1 : Int) < ((i : Nat))))) false) (fun hp => ox_move (v := (.int .i64 (onceR ((rl rb).map T.id) u.id))) rfl ⟨rfl, rfl⟩) ?_
          refine xl_may (P := Try.prog) (some 58) (j := 3) (b := false) (((decide (((hst ((rl ra).map T.id) ((rl rb).map T.id) i).1 : Int) < ((i : Nat))))) = false) (.bool (decide (((hst ((rl ra).map T.id) ((rl rb).map T.id) i).1 : Int) < ((i : Nat))))) (.bool (decide (((hst ((rl ra).map T.id) ((rl rb).map T.id) i).2.1 : Int) < (onceR ((rl rb).map T.id) u.id)))) rfl rfl rfl (may_b ((decide (((hst ((rl ra).map T.id) ((rl rb).map T.id) i).1 : Int) < ((i : Nat))))) false) (fun hp => ox_lss (k := .i64) (a := ((hst ((rl ra).map T.id) ((rl rb).map T.id) i).2.1)) (b := (onceR ((rl rb).map T.id) u.id)) (if_pos (α := Value) (t := (.int .i64 ((hst ((rl ra).map T.id) ((rl rb).map T.id) i).2.1))) (e := undef) hp) (if_pos (α := Value) (t := (.int .i64 (onceR ((rl rb).map T.id) u.id))) (e := undef) hp) ⟨rfl, rfl⟩) ?_
          refine xl_op (P := Try.prog) (some 59) rfl rfl (ox_pick_or (a := ((decide (((hst ((rl ra).map T.id) ((rl rb).map T.id) i).1 : Int) < ((i : Nat)))))) (b := ((decide (((hst ((rl ra).map T.id) ((rl rb).map T.id) i).2.1 : Int) < (onceR ((rl rb).map T.id) u.id))))) rfl rfl (fun ha => (if_pos (α := Value) (t := (.bool (decide (((hst ((rl ra).map T.id) ((rl rb).map T.id) i).2.1 : Int) < (onceR ((rl rb).map T.id) u.id))))) (e := undef) ha)) ?_)
          refine xl_nil ?_
          refine xc_cond (b := (((decide (((hst ((rl ra).map T.id) ((rl rb).map T.id) i).1 : Int) < ((i : Nat))))) || ((decide (((hst ((rl ra).map T.id) ((rl rb).map T.id) i).2.1 : Int) < (onceR ((rl rb).map T.id) u.id)))))) rfl (fun h4 => ?_) (fun h4 => ?_)
          · skip
            have h4' := h4
            try simp only [Bool.or_eq_true, Bool.and_eq_true, decide_eq_true_eq, Bool.or_eq_false_iff, Bool.and_eq_false_iff, decide_eq_false_iff_not, Bool.not_eq_true', Bool.not_eq_false'] at h4'
            have hadhpos : ((hst ((rl ra).map T.id) ((rl rb).map T.id) i).1 < ((i : Nat) : Int) ∨ (hst ((rl ra).map T.id) ((rl rb).map T.id) i).2.1 < (onceR ((rl rb).map T.id) u.id)) := by omega
            refine xc_region ?_
            refine xl_op (P := Try.prog) (some 60) rfl rfl (ox_move (v := (.slice Ao ((hst ((rl ra).map T.id) ((rl rb).map T.id) i).2.2.length) co)) g7_f1 ?_)
            refine xl_op (P := Try.prog) (some 61) rfl rfl (ox_move (v := (.int .i64 ((hst ((rl ra).map T.id) ((rl rb).map T.id) i).1))) g8_f1 ?_)
            refine xl_op (P := Try.prog) (some 62) rfl rfl (ox_move (v := (.int .i64 ((i : Nat)))) g10_f1 ?_)
            refine xl_op (P := Try.prog) (some 63) rfl rfl (ox_move (v := (.int .i64 ((hst ((rl ra).map T.id) ((rl rb).map T.id) i).2.1))) g9_f1 ?_)
            refine xl_op (P := Try.prog) (some 64) rfl rfl (ox_move (v := (.int .i64 (onceR ((rl rb).map T.id) u.id))) rfl ?_)
            refine xl_op (P := Try.prog) (some 65) rfl rfl (ox_mkStruct (ps := [(0, (.int .i64 ((hst ((rl ra).map T.id) ((rl rb).map T.id) i).1))), (1, (.int .i64 ((i : Nat)))), (2, (.int .i64 ((hst ((rl ra).map T.id) ((rl rb).map T.id) i).2.1))), (3, (.int .i64 (onceR ((rl rb).map T.id) u.id)))]) (cs := #[(.int .i64 ((hst ((rl ra).map T.id) ((rl rb).map T.id) i).1)), (.int .i64 ((i : Nat))), (.int .i64 ((hst ((rl ra).map T.id) ((rl rb).map T.id) i).2.1)), (.int .i64 (onceR ((rl rb).map T.id) u.id))]) tZ_40 tP_40 rfl (by kernel_rfl) ?_)
            refine xl_op (P := Try.prog) (some 66) rfl rfl (ox_mkSlice (ps := [(0, (.agg #[(.int .i64 ((hst ((rl ra).map T.id) ((rl rb).map T.id) i).1)), (.int .i64 ((i : Nat))), (.int .i64 ((hst ((rl ra).map T.id) ((rl rb).map T.id) i).2.1)), (.int .i64 (onceR ((rl rb).map T.id) u.id))]))]) (zs := #[(.int .i64 0), (.int .i64 0), (.int .i64 0), (.int .i64 0)]) (cs := #[(.int .i64 ((hst ((rl ra).map T.id) ((rl rb).map T.id) i).1)), (.int .i64 ((i : Nat))), (.int .i64 ((hst ((rl ra).map T.id) ((rl rb).map T.id) i).2.1)), (.int .i64 (onceR ((rl rb).map T.id) u.id))]) tE_34 rfl (by decide) (by kernel_rfl) (by kernel_rfl) ?_)
            intro w4 e3 z1 b1
            replace b1 : Blk w4 w3.heap.size #[(.int .i64 ((hst ((rl ra).map T.id) ((rl rb).map T.id) i).1)), (.int .i64 ((i : Nat))), (.int .i64 ((hst ((rl ra).map T.id) ((rl rb).map T.id) i).2.1)), (.int .i64 (onceR ((rl rb).map T.id) u.id))] 40 := b1
            refine xl_op (P := Try.prog) (some 67) rfl rfl (ox_append (n := ((hst ((rl ra).map T.id) ((rl rb).map T.id) i).2.2.length)) (g := w3.heap.size) (o := 0) (m := 1) (xs := ((hkC (hst ((rl ra).map T.id) ((rl rb).map T.id) i).2.2))) (news := ([(.int .i64 ((hst ((rl ra).map T.id) ((rl rb).map T.id) i).1)), (.int .i64 ((i : Nat))), (.int .i64 ((hst ((rl ra).map T.id) ((rl rb).map T.id) i).2.1)), (.int .i64 (onceR ((rl rb).map T.id) u.id))])) rfl tE_34 rfl (by decide) (v := (.slice Ao ((hst ((rl ra).map T.id) ((rl rb).map T.id) i).2.2.length) co)) rfl rfl (o_f1.ext e3) rfl b1.all rfl (by omega) (by omega) ?_)
            intro v1 w5 o1 e4 at1 nil1
            have he4 := e4.size
            obtain ⟨A1, c1, rfl, hc1⟩ := o1.shape
            have low1 : ∀ _k, (Value.slice A1 ((hst ((rl ra).map T.id) ((rl rb).map T.id) i).2.2.length + 1) c1).ownBlock = some _k → w2.heap.size ≤ _k := fun _k _h => by rcases at1 with _e | _e <;> rw [_e] at _h; exact lo_f1 _k _h; exact (by cases _h; omega)
            refine xl_op (P := Try.prog) (some 7) rfl rfl (ox_assign (v := (.slice A1 ((hst ((rl ra).map T.id) ((rl rb).map T.id) i).2.2.length + 1) c1)) rfl ?_)
            refine xl_nil ?_
            refine xc_seq ?_
            refine xc_region ?_
            refine xl_op (P := Try.prog) (some 68) rfl rfl (ox_move (v := (.int .i64 ((i : Nat)))) g10_f1 ?_)
            refine xl_op (P := Try.prog) (some 69) rfl rfl (ox_add64 (a := ((i : Nat))) (b := 1) rfl rfl (by omega) ?_)
            refine xl_op (P := Try.prog) (some 8) rfl rfl (ox_assign (v := (.int .i64 ((i : Nat) + 1))) rfl ?_)
            refine xl_nil ?_
            refine xc_region ?_
            refine xl_op (P := Try.prog) (some 70) rfl rfl (ox_move (v := (.int .i64 (onceR ((rl rb).map T.id) u.id))) rfl ?_)
            refine xl_op (P := Try.prog) (some 71) rfl rfl (ox_add64 (a := (onceR ((rl rb).map T.id) u.id)) (b := 1) rfl rfl (by omega) ?_)
            refine xl_op (P := Try.prog) (some 9) rfl rfl (ox_assign (v := (.int .i64 (onceR ((rl rb).map T.id) u.id + 1))) rfl ?_)
            refine xl_nil ?_
            refine xc_region ?_
            refine xl_op (P := Try.prog) (some 20) rfl rfl (ox_move (v := (.int .i64 ((i : Nat)))) g10_f1 ?_)
            refine xl_op (P := Try.prog) (some 21) rfl rfl (ox_add64 (a := ((i : Nat))) (b := 1) rfl rfl (by omega) ?_)
            refine xl_op (P := Try.prog) (some 10) rfl rfl (ox_assign (v := (.int .i64 ((i : Nat) + 1))) rfl ?_)
            refine xl_nil ?_
            have ho9 := o1
            have hsz0 := e3.size
            have hsz1 := e4.size
            have hnew : hst ((rl ra).map T.id) ((rl rb).map T.id) (i + 1) = hadd (hst ((rl ra).map T.id) ((rl rb).map T.id) i) (i : Nat) (onceR ((rl rb).map T.id) u.id) := by rw [hst_succ (by simpa using hil)]; exact hstep_add hki (by omega) hsk
            have hrow := hadd_pos hadhpos
            exact ⟨rfl, (rl ra).length + 1 - (i + 1), by omega, i + 1, A1, c1, by omega, by omega, g5_f1, g6_f1, (by rw [hnew, hrow, List.length_append]; rfl), (by first | exact (by rw [hnew]; rfl) | exact (by rw [hnew]; rfl).trans (congrArg (Value.int .i64) (by omega))), (by first | exact (by rw [hnew]; rfl) | exact (by rw [hnew]; rfl).trans (congrArg (Value.int .i64) (by omega))), (by first | exact rfl | exact (congrArg (Value.int .i64) (by omega))), (by rw [hnew, hrow, hkC_snoc, List.length_append]; exact ho9), (fun k hk => low1 k (ownBlock_len hk)), (Chg.trans (Ext.trans x_f1 e3) e4 (fun b hb hl => absurd hl (by have := lo_f1 b hb; omega))), (Chg.trans (Ext.trans e_f1 e3) e4 (fun b hb hl => absurd hl (by have := lo_f1 b hb; omega)))⟩
          · skip
            have h4' := h4
            try simp only [Bool.or_eq_true, Bool.and_eq_true, decide_eq_true_eq, Bool.or_eq_false_iff, Bool.and_eq_false_iff, decide_eq_false_iff_not, Bool.not_eq_true', Bool.not_eq_false'] at h4'
            have hadhneg : ¬ ((hst ((rl ra).map T.id) ((rl rb).map T.id) i).1 < ((i : Nat) : Int) ∨ (hst ((rl ra).map T.id) ((rl rb).map T.id) i).2.1 < (onceR ((rl rb).map T.id) u.id)) := by omega
            refine xc_skip ?_
            refine xc_seq ?_
            refine xc_region ?_
            refine xl_op (P := Try.prog) (some 68) rfl rfl (ox_move (v := (.int .i64 ((i : Nat)))) g10_f1 ?_)
            refine xl_op (P := Try.prog) (some 69) rfl rfl (ox_add64 (a := ((i : Nat))) (b := 1) rfl rfl (by omega) ?_)
            refine xl_op (P := Try.prog) (some 8) rfl rfl (ox_assign (v := (.int .i64 ((i : Nat) + 1))) rfl ?_)
            refine xl_nil ?_
            refine xc_region ?_
            refine xl_op (P := Try.prog) (some 70) rfl rfl (ox_move (v := (.int .i64 (onceR ((rl rb).map T.id) u.id))) rfl ?_)
            refine xl_op (P := Try.prog) (some 71) rfl rfl (ox_add64 (a := (onceR ((rl rb).map T.id) u.id)) (b := 1) rfl rfl (by omega) ?_)
            refine xl_op (P := Try.prog) (some 9) rfl rfl (ox_assign (v := (.int .i64 (onceR ((rl rb).map T.id) u.id + 1))) rfl ?_)
            refine xl_nil ?_
            refine xc_region ?_
            refine xl_op (P := Try.prog) (some 20) rfl rfl (ox_move (v := (.int .i64 ((i : Nat)))) g10_f1 ?_)
            refine xl_op (P := Try.prog) (some 21) rfl rfl (ox_add64 (a := ((i : Nat))) (b := 1) rfl rfl (by omega) ?_)
            refine xl_op (P := Try.prog) (some 10) rfl rfl (ox_assign (v := (.int .i64 ((i : Nat) + 1))) rfl ?_)
            refine xl_nil ?_
            have ho9 := o_f1
            have hnew : hst ((rl ra).map T.id) ((rl rb).map T.id) (i + 1) = hadd (hst ((rl ra).map T.id) ((rl rb).map T.id) i) (i : Nat) (onceR ((rl rb).map T.id) u.id) := by rw [hst_succ (by simpa using hil)]; exact hstep_add hki (by omega) hsk
            have hrow := hadd_neg hadhneg
            exact ⟨rfl, (rl ra).length + 1 - (i + 1), by omega, i + 1, Ao, co, by omega, by omega, g5_f1, g6_f1, (by rw [hnew, hrow]; exact g7_f1), (by first | exact (by rw [hnew]; rfl) | exact (by rw [hnew]; rfl).trans (congrArg (Value.int .i64) (by omega))), (by first | exact (by rw [hnew]; rfl) | exact (by rw [hnew]; rfl).trans (congrArg (Value.int .i64) (by omega))), (by first | exact rfl | exact (congrArg (Value.int .i64) (by omega))), (by rw [hnew, hrow]; exact ho9), (by rw [hnew, hrow]; exact lo_f1), x_f1, e_f1⟩
      · skip
        have hil : i = (rl ra).length := by omega
        refine xc_skip ?_
        refine xc_seq ?_
        refine xc_seq ?_
        refine xc_region ?_
        refine xl_op (P := Try.prog) (some 52) rfl rfl (ox_move (v := (.int .i64 ((hst ((rl ra).map T.id) ((rl rb).map T.id) i).1))) g8_f1 ?_)
        refine xl_op (P := Try.prog) (some 53) rfl rfl (ox_move (v := (.int .i64 ((i : Nat)))) g10_f1 ?_)
        refine xl_op (P := Try.prog) (some 54) rfl rfl (ox_lss (k := .i64) (a := ((hst ((rl ra).map T.id) ((rl rb).map T.id) i).1)) (b := ((i : Nat))) rfl rfl ?_)
        refine xl_op (P := Try.prog) (some 55) rfl rfl (ox_move (v := (.bool (decide (((hst ((rl ra).map T.id) ((rl rb).map T.id) i).1 : Int) < ((i : Nat)))))) rfl ?_)
        refine xl_may (P := Try.prog) (some 56) (j := 3) (b := false) (((decide (((hst ((rl ra).map T.id) ((rl rb).map T.id) i).1 : Int) < ((i : Nat))))) = false) (.bool (decide (((hst ((rl ra).map T.id) ((rl rb).map T.id) i).1 : Int) < ((i : Nat))))) (.int .i64 ((hst ((rl ra).map T.id) ((rl rb).map T.id) i).2.1)) rfl rfl rfl (may_b ((decide (((hst ((rl ra).map T.id) ((rl rb).map T.id) i).1 : Int) < ((i : Nat))))) false) (fun hp => ox_move (v := (.int .i64 ((hst ((rl ra).map T.id) ((rl rb).map T.id) i).2.1))) g9_f1 ⟨rfl, rfl⟩) ?_
        refine xl_may (P := Try.prog) (some 57) (j := 3) (b := false) (((decide (((hst ((rl ra).map T.id) ((rl rb).map T.id) i).1 : Int) < ((i : Nat))))) = false) (.bool (decide (((hst ((rl ra).map T.id) ((rl rb).map T.id) i).1 : Int) < ((i : Nat))))) (.int .i64 ((((rl rb).length : Nat) : Int))) rfl rfl rfl (may_b ((decide (((hst ((rl ra).map T.id) ((rl rb).map T.id) i).1 : Int) < ((i : Nat))))) false) (fun hp => ox_move (v := (.int .i64 ((((rl rb).length : Nat) : Int)))) rfl ⟨rfl, rfl⟩) ?_
        refine xl_may (P := Try.prog) (some 58) (j := 3) (b := false) (((decide (((hst ((rl ra).map T.id) ((rl rb).map T.id) i).1 : Int) < ((i : Nat))))) = false) (.bool (decide (((hst ((rl ra).map T.id) ((rl rb).map T.id) i).1 : Int) < ((i : Nat))))) (.bool (decide (((hst ((rl ra).map T.id) ((rl rb).map T.id) i).2.1 : Int) < ((((rl rb).length : Nat) : Int))))) rfl rfl rfl (may_b ((decide (((hst ((rl ra).map T.id) ((rl rb).map T.id) i).1 : Int) < ((i : Nat))))) false) (fun hp => ox_lss (k := .i64) (a := ((hst ((rl ra).map T.id) ((rl rb).map T.id) i).2.1)) (b := ((((rl rb).length : Nat) : Int))) (if_pos (α := Value) (t := (.int .i64 ((hst ((rl ra).map T.id) ((rl rb).map T.id) i).2.1))) (e := undef) hp) (if_pos (α := Value) (t := (.int .i64 ((((rl rb).length : Nat) : Int)))) (e := undef) hp) ⟨rfl, rfl⟩) ?_
        refine xl_op (P := Try.prog) (some 59) rfl rfl (ox_pick_or (a := ((decide (((hst ((rl ra).map T.id) ((rl rb).map T.id) i).1 : Int) < ((i : Nat)))))) (b := ((decide (((hst ((rl ra).map T.id) ((rl rb).map T.id) i).2.1 : Int) < ((((rl rb).length : Nat) : Int)))))) rfl rfl (fun ha => (if_pos (α := Value) (t := (.bool (decide (((hst ((rl ra).map T.id) ((rl rb).map T.id) i).2.1 : Int) < ((((rl rb).length : Nat) : Int)))))) (e := undef) ha)) ?_)
        refine xl_nil ?_
        refine xc_cond (b := (((decide (((hst ((rl ra).map T.id) ((rl rb).map T.id) i).1 : Int) < ((i : Nat))))) || ((decide (((hst ((rl ra).map T.id) ((rl rb).map T.id) i).2.1 : Int) < ((((rl rb).length : Nat) : Int))))))) rfl (fun h5 => ?_) (fun h5 => ?_)
        · skip
          have h5' := h5
          try simp only [Bool.or_eq_true, Bool.and_eq_true, decide_eq_true_eq, Bool.or_eq_false_iff, Bool.and_eq_false_iff, decide_eq_false_iff_not, Bool.not_eq_true', Bool.not_eq_false'] at h5'
          have hadhpos : ((hst ((rl ra).map T.id) ((rl rb).map T.id) i).1 < ((i : Nat) : Int) ∨ (hst ((rl ra).map T.id) ((rl rb).map T.id) i).2.1 < ((rl rb).length : Nat)) := by omega
          refine xc_region ?_
          refine xl_op (P := Try.prog) (some 60) rfl rfl (ox_move (v := (.slice Ao ((hst ((rl ra).map T.id) ((rl rb).map T.id) i).2.2.length) co)) g7_f1 ?_)
          refine xl_op (P := Try.prog) (some 61) rfl rfl (ox_move (v := (.int .i64 ((hst ((rl ra).map T.id) ((rl rb).map T.id) i).1))) g8_f1 ?_)
          refine xl_op (P := Try.prog) (some 62) rfl rfl (ox_move (v := (.int .i64 ((i : Nat)))) g10_f1 ?_)
          refine xl_op (P := Try.prog) (some 63) rfl rfl (ox_move (v := (.int .i64 ((hst ((rl ra).map T.id) ((rl rb).map T.id) i).2.1))) g9_f1 ?_)
          refine xl_op (P := Try.prog) (some 64) rfl rfl (ox_move (v := (.int .i64 ((((rl rb).length : Nat) : Int)))) rfl ?_)
          refine xl_op (P := Try.prog) (some 65) rfl rfl (ox_mkStruct (ps := [(0, (.int .i64 ((hst ((rl ra).map T.id) ((rl rb).map T.id) i).1))), (1, (.int .i64 ((i : Nat)))), (2, (.int .i64 ((hst ((rl ra).map T.id) ((rl rb).map T.id) i).2.1))), (3, (.int .i64 ((((rl rb).length : Nat) : Int))))]) (cs := #[(.int .i64 ((hst ((rl ra).map T.id) ((rl rb).map T.id) i).1)), (.int .i64 ((i : Nat))), (.int .i64 ((hst ((rl ra).map T.id) ((rl rb).map T.id) i).2.1)), (.int .i64 ((((rl rb).length : Nat) : Int)))]) tZ_40 tP_40 rfl (by kernel_rfl) ?_)
          refine xl_op (P := Try.prog) (some 66) rfl rfl (ox_mkSlice (ps := [(0, (.agg #[(.int .i64 ((hst ((rl ra).map T.id) ((rl rb).map T.id) i).1)), (.int .i64 ((i : Nat))), (.int .i64 ((hst ((rl ra).map T.id) ((rl rb).map T.id) i).2.1)), (.int .i64 ((((rl rb).length : Nat) : Int)))]))]) (zs := #[(.int .i64 0), (.int .i64 0), (.int .i64 0), (.int .i64 0)]) (cs := #[(.int .i64 ((hst ((rl ra).map T.id) ((rl rb).map T.id) i).1)), (.int .i64 ((i : Nat))), (.int .i64 ((hst ((rl ra).map T.id) ((rl rb).map T.id) i).2.1)), (.int .i64 ((((rl rb).length : Nat) : Int)))]) tE_34 rfl (by decide) (by kernel_rfl) (by kernel_rfl) ?_)
          intro w6 e5 z2 b2
          replace b2 : Blk w6 w3.heap.size #[(.int .i64 ((hst ((rl ra).map T.id) ((rl rb).map T.id) i).1)), (.int .i64 ((i : Nat))), (.int .i64 ((hst ((rl ra).map T.id) ((rl rb).map T.id) i).2.1)), (.int .i64 ((((rl rb).length : Nat) : Int)))] 40 := b2
          refine xl_op (P := Try.prog) (some 67) rfl rfl (ox_append (n := ((hst ((rl ra).map T.id) ((rl rb).map T.id) i).2.2.length)) (g := w3.heap.size) (o := 0) (m := 1) (xs := ((hkC (hst ((rl ra).map T.id) ((rl rb).map T.id) i).2.2))) (news := ([(.int .i64 ((hst ((rl ra).map T.id) ((rl rb).map T.id) i).1)), (.int .i64 ((i : Nat))), (.int .i64 ((hst ((rl ra).map T.id) ((rl rb).map T.id) i).2.1)), (.int .i64 ((((rl rb).length : Nat) : Int)))])) rfl tE_34 rfl (by decide) (v := (.slice Ao ((hst ((rl ra).map T.id) ((rl rb).map T.id) i).2.2.length) co)) rfl rfl (o_f1.ext e5) rfl b2.all rfl (by omega) (by omega) ?_)
          intro v2 w7 o2 e6 at2 nil2
          have he6 := e6.size
          obtain ⟨A2, c2, rfl, hc2⟩ := o2.shape
          have low2 : ∀ _k, (Value.slice A2 ((hst ((rl ra).map T.id) ((rl rb).map T.id) i).2.2.length + 1) c2).ownBlock = some _k → w2.heap.size ≤ _k := fun _k _h => by rcases at2 with _e | _e <;> rw [_e] at _h; exact lo_f1 _k _h; exact (by cases _h; omega)
          refine xl_op (P := Try.prog) (some 7) rfl rfl (ox_assign (v := (.slice A2 ((hst ((rl ra).map T.id) ((rl rb).map T.id) i).2.2.length + 1) c2)) rfl ?_)
          refine xl_nil ?_
          refine xc_seq ?_
          refine xc_region ?_
          refine xl_op (P := Try.prog) (some 68) rfl rfl (ox_move (v := (.int .i64 ((i : Nat)))) g10_f1 ?_)
          refine xl_op (P := Try.prog) (some 69) rfl rfl (ox_add64 (a := ((i : Nat))) (b := 1) rfl rfl (by omega) ?_)
          refine xl_op (P := Try.prog) (some 8) rfl rfl (ox_assign (v := (.int .i64 ((i : Nat) + 1))) rfl ?_)
          refine xl_nil ?_
          refine xc_region ?_
          refine xl_op (P := Try.prog) (some 70) rfl rfl (ox_move (v := (.int .i64 ((((rl rb).length : Nat) : Int)))) rfl ?_)
          refine xl_op (P := Try.prog) (some 71) rfl rfl (ox_add64 (a := ((((rl rb).length : Nat) : Int))) (b := 1) rfl rfl (by omega) ?_)
          refine xl_op (P := Try.prog) (some 9) rfl rfl (ox_assign (v := (.int .i64 ((((rl rb).length : Nat) : Int) + 1))) rfl ?_)
          refine xl_nil ?_
          refine xc_region ?_
          refine xl_op (P := Try.prog) (some 20) rfl rfl (ox_move (v := (.int .i64 ((i : Nat)))) g10_f1 ?_)
          refine xl_op (P := Try.prog) (some 21) rfl rfl (ox_add64 (a := ((i : Nat))) (b := 1) rfl rfl (by omega) ?_)
          refine xl_op (P := Try.prog) (some 10) rfl rfl (ox_assign (v := (.int .i64 ((i : Nat) + 1))) rfl ?_)
          refine xl_nil ?_
          have ho9 := o2
          have hsz0 := e5.size
          have hsz1 := e6.size
          have hnew : hst ((rl ra).map T.id) ((rl rb).map T.id) (i + 1) = hadd (hst ((rl ra).map T.id) ((rl rb).map T.id) i) (i : Nat) ((rl rb).length : Nat) := by rw [hst_last (by simpa using hil), List.length_map]
          have hrow := hadd_pos hadhpos
          exact ⟨rfl, (rl ra).length + 1 - (i + 1), by omega, i + 1, A2, c2, by omega, by omega, g5_f1, g6_f1, (by rw [hnew, hrow, List.length_append]; rfl), (by first | exact (by rw [hnew]; rfl) | exact (by rw [hnew]; rfl).trans (congrArg (Value.int .i64) (by omega))), (by first | exact (by rw [hnew]; rfl) | exact (by rw [hnew]; rfl).trans (congrArg (Value.int .i64) (by omega))), (by first | exact rfl | exact (congrArg (Value.int .i64) (by omega))), (by rw [hnew, hrow, hkC_snoc, List.length_append]; exact ho9), (fun k hk => low2 k (ownBlock_len hk)), (Chg.trans (Ext.trans x_f1 e5) e6 (fun b hb hl => absurd hl (by have := lo_f1 b hb; omega))), (Chg.trans (Ext.trans e_f1 e5) e6 (fun b hb hl => absurd hl (by have := lo_f1 b hb; omega)))⟩
        · skip
          have h5' := h5
          try simp only [Bool.or_eq_true, Bool.and_eq_true, decide_eq_true_eq, Bool.or_eq_false_iff, Bool.and_eq_false_iff, decide_eq_false_iff_not, Bool.not_eq_true', Bool.not_eq_false'] at h5'
          have hadhneg : ¬ ((hst ((rl ra).map T.id) ((rl rb).map T.id) i).1 < ((i : Nat) : Int) ∨ (hst ((rl ra).map T.id) ((rl rb).map T.id) i).2.1 < ((rl rb).length : Nat)) := by omega
          refine xc_skip ?_
          refine xc_seq ?_
          refine xc_region ?_
          refine xl_op (P := Try.prog) (some 68) rfl rfl (ox_move (v := (.int .i64 ((i : Nat)))) g10_f1 ?_)
          refine xl_op (P := Try.prog) (some 69) rfl rfl (ox_add64 (a := ((i : Nat))) (b := 1) rfl rfl (by omega) ?_)
          refine xl_op (P := Try.prog) (some 8) rfl rfl (ox_assign (v := (.int .i64 ((i : Nat) + 1))) rfl ?_)
          refine xl_nil ?_
          refine xc_region ?_
          refine xl_op (P := Try.prog) (some 70) rfl rfl (ox_move (v := (.int .i64 ((((rl rb).length : Nat) : Int)))) rfl ?_)
          refine xl_op (P := Try.prog) (some 71) rfl rfl (ox_add64 (a := ((((rl rb).length : Nat) : Int))) (b := 1) rfl rfl (by omega) ?_)
          refine xl_op (P := Try.prog) (some 9) rfl rfl (ox_assign (v := (.int .i64 ((((rl rb).length : Nat) : Int) + 1))) rfl ?_)
          refine xl_nil ?_
          refine xc_region ?_
          refine xl_op (P := Try.prog) (some 20) rfl rfl (ox_move (v := (.int .i64 ((i : Nat)))) g10_f1 ?_)
          refine xl_op (P := Try.prog) (some 21) rfl rfl (ox_add64 (a := ((i : Nat))) (b := 1) rfl rfl (by omega) ?_)
          refine xl_op (P := Try.prog) (some 10) rfl rfl (ox_assign (v := (.int .i64 ((i : Nat) + 1))) rfl ?_)
          refine xl_nil ?_
          have ho9 := o_f1
          have hnew : hst ((rl ra).map T.id) ((rl rb).map T.id) (i + 1) = hadd (hst ((rl ra).map T.id) ((rl rb).map T.id) i) (i : Nat) ((rl rb).length : Nat) := by rw [hst_last (by simpa using hil), List.length_map]
          have hrow := hadd_neg hadhneg
          exact ⟨rfl, (rl ra).length + 1 - (i + 1), by omega, i + 1, Ao, co, by omega, by omega, g5_f1, g6_f1, (by rw [hnew, hrow]; exact g7_f1), (by first | exact (by rw [hnew]; rfl) | exact (by rw [hnew]; rfl).trans (congrArg (Value.int .i64) (by omega))), (by first | exact (by rw [hnew]; rfl) | exact (by rw [hnew]; rfl).trans (congrArg (Value.int .i64) (by omega))), (by first | exact rfl | exact (congrArg (Value.int .i64) (by omega))), (by rw [hnew, hrow]; exact ho9), (by rw [hnew, hrow]; exact lo_f1), x_f1, e_f1⟩
    · skip
      refine xc_exit ?_
      refine xc_seq ?_
      refine xc_region ?_
      refine xl_op (P := Try.prog) (some 72) rfl rfl (ox_move (v := (.slice Ao ((hst ((rl ra).map T.id) ((rl rb).map T.id) i).2.2.length) co)) g7_f1 ?_)
      refine xl_op (P := Try.prog) (some 4) rfl rfl (ox_assign (v := (.slice Ao ((hst ((rl ra).map T.id) ((rl rb).map T.id) i).2.2.length) co)) rfl ?_)
      refine xl_nil ?_
      refine xc_ret ?_
      change leaves _ _ _ _ _ _ _
      refine leaves_nil (n := 73) (rs := [.tmp 4]) (vs := [(.slice Ao ((hst ((rl ra).map T.id) ((rl rb).map T.id) i).2.2.length) co)]) rfl ⟨⟨by decide, rfl⟩, trivial⟩ ?_
      have hiq : i = (rl ra).length + 1 := by omega
      have hH : hunks ((rl ra).map T.id) ((rl rb).map T.id) = (hst ((rl ra).map T.id) ((rl rb).map T.id) i).2.2 := (hst_hunks (by simpa using hiq)).symm
      exact ⟨Ao, co, by rw [hH]; rfl, by rw [hH]; exact o_f1, by rw [hH]; intro k hk; have := lo_f1 k hk; omega, e_f1⟩

end Go.Proofs.Ythhbnodnpajljaa
