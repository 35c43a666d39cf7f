/-
  delta.known: the nodes of a tree by their numbers. No conditions.
-/
import Derived.Test.YthhbnodnpajljaaVxi
import Derived.Test.YthhbnodnpajljaaRows
import Derived.Test.YthhbnodnpajljaaDy
import Derived.Test.YthhbnodnpajljaaDb
set_option linter.unusedVariables false
set_option linter.unusedSimpArgs false
set_option maxRecDepth 100000
set_option maxHeartbeats 4000000
namespace Go.Proofs.Ythhbnodnpajljaa
open Go Go.RowKit Go.Vx


theorem pf_40 : plainF Try.prog 40 = true := by kernel_rfl
theorem tA_111 : isAggT Try.prog 111 = some false := by kernel_rfl
theorem tS_111 : sizeT Try.prog 111 = some 1 := by kernel_rfl
theorem tU_111 : Try.prog.underlying 111 = some (.map 3 36) := by kernel_rfl
theorem tU_3 : Try.prog.underlying 3 = some (.int .i64) := by kernel_rfl
theorem tZ_111 : zeroOf Try.prog 111 = some (.map none) := by kernel_rfl

theorem known_calls (stv : Value) (root : T) (w : World) (hP : PN stv w root) (hW : WF root) (hsz : sz root ≤ 4194304) :
    Calls Try.prog 50 #[(.pointer (some ⟨root.b, 0, none⟩))] w (Ret (fun v w' => ∃ mb, v = .map (some mb) ∧ w.heap.size ≤ mb ∧ MapB encI w' mb (kn (walkT 0 root)) ∧ Ext w w')) := by
  refine calls_xc (n := 16) (f := fun s_ => [(.pointer (some ⟨root.b, 0, none⟩))].getD s_ undef) Try.func50 rfl rfl (by simp) (fun s_ => by simp) ?_
  refine xc_seq ?_
  refine xc_region ?_
  refine xl_op (P := Try.prog) (some 2) rfl rfl (ox_assign (v := (.map none)) rfl ?_)
  refine xl_nil ?_
  refine xc_seq ?_
  refine xc_region ?_
  refine xl_op (P := Try.prog) (some 6) rfl rfl (ox_makeMap (enc := (fun i : Int => .int .i64 i)) rfl ?_)
  intro w1 e1 z1 m1
  have he1 := e1.size
  refine xl_op (P := Try.prog) (some 3) rfl rfl (ox_alloc tZ_111 ?_)
  intro w2 e2 z2 b1
  replace b1 : Blk w2 w1.heap.size #[(.map none)] 111 := b1
  refine xl_op (P := Try.prog) none rfl rfl (ox_store (n := 1) (vs := [(.map (some w.heap.size))]) tS_111 rfl (v := (.map (some w.heap.size))) rfl rfl rfl rfl b1 (Nat.le_of_ble_eq_true rfl) ?_)
  intro w3 e3 z3 b2
  replace b2 : Blk w3 w1.heap.size #[(.map (some w.heap.size))] 111 := b2
  refine xl_nil ?_
  refine xc_seq ?_
  refine xc_seq ?_
  refine xc_region ?_
  refine xl_op (P := Try.prog) (some 7) rfl rfl (ox_move (v := (.pointer (some ⟨root.b, 0, none⟩))) rfl ?_)
  refine xl_op (P := Try.prog) (some 8) rfl rfl (ox_callE (al := [(.pointer (some ⟨root.b, 0, none⟩))]) pf_57 rfl (ret_mono (walkF_calls root.b w3) ?_))
  rintro _ w4 ⟨rfl, hbk, zbk, e4⟩
  have he4 := e4.size
  refine xl_nil ?_
  refine xc_block ?_
  have hE : Ext w w4 := (Ext.trans (Ext.chg1 (Ext.trans e1 e2) e3 (by omega)) e4)
  have hEs := hE.size
  have hbk0 := hbk.lt
  have htb0 := (b2.ext e4).lt
  have q1 := ((m1.ext e2).keep1 e3 (fun _h => (m1.ext e2).ne_blk b1 _h))
  have hmb0 := (q1.ext e4).lt
  have hlow : ∀ b ∈ blocks root, b < w.heap.size := PN.lt hP
  have hBX : ∀ b, b = w3.heap.size → w.heap.size ≤ b ∧ b < w4.heap.size := fun b hb => by subst hb; omega
  have hit := walk_iter (X := fun b => b = w3.heap.size) (B := w.heap.size) hbk (hP.ext hE) hW hsz hlow (.inl rfl) hBX (by omega)
  have hI0 : KnI w.heap.size w w1.heap.size w.heap.size [] (fun b => b = w3.heap.size) w4 := ⟨(b2.ext e4), (q1.ext e4), ⟨by omega, by omega⟩, ⟨by omega, by omega⟩, Ext.to hE⟩
  refine xc_range (ps := #[9, 10]) (α := Int × T) (gf := 69) (lb := #[.pointer (some ⟨w3.heap.size, 0, none⟩)]) (encs := encW) (B := w.heap.size) (X0 := fun b => b = w3.heap.size) (xs := walkT 0 root) rfl pf_69 (fun _ => rfl) hit (by omega) hBX (KnI w.heap.size w w1.heap.size w.heap.size) (fun _ _ _ _ => False) knI_stab (fun _ _ _ _ _ _ _ h => h.elim) hI0 ?_ ?_ ?_
  · intro l₁ pre₁ x₁ Y W hpre hY hYl hl₁ hI
    have hmem : x₁ ∈ walkT 0 root := hpre.subset (by simp)
    have hm := walkT_mem hmem
    have hpx : PN stv W x₁.2 := PN.keep hI.chg (hm.1 stv w hP) fun b hb h => by have := hlow b (hm.2.1 b hb); omega
    refine xc_region ?_
    refine xl_op (P := Try.prog) (some 5) rfl rfl (ox_assign (v := (.pointer (some ⟨x₁.2.b, 0, none⟩))) rfl ?_)
    refine xl_nil ?_
    refine ⟨rfl, rfl, Chg.refl _ _, fun W2 hcY hsY hlY => ?_⟩
    have hszY := hcY.size
    refine xc_block ?_
    refine xc_regionE [4] (fun W_ => Chg (fun _ => False) W2 W_) hmix ?_
    intro w5 e5 z4
    have hS1 : Chg (fun _ => False) W2 w5 := Ext.to e5
    refine xd_take 0 (some 11) rfl rfl (by kernel_rfl) (v := (.map (some w.heap.size))) (.inl ⟨rfl, fun W_ hW_ => ox_load (v := (.map (some w.heap.size))) tA_111 rfl (((hI.blk.keep hcY hI.ny.1).ext hW_).cell rfl) ⟨rfl, rfl⟩⟩) hS1 ?_
    refine xd_pure 1 (some 12) rfl rfl (by kernel_rfl) (v := (.pointer (some ⟨x₁.2.b, 0, none⟩))) (.inl ⟨rfl, fun W_ hW_ => ox_move (v := (.pointer (some ⟨x₁.2.b, 0, none⟩))) rfl ⟨rfl, rfl⟩⟩) ?_
    have q2 := (hpx.keep hcY (fun b hb h => by have := hlow b (hm.2.1 b hb); have := hY _ h; omega))
    refine xd_take 2 (some 13) rfl rfl (by kernel_rfl) (v := (.int .i64 x₁.2.id)) (.inl ⟨rfl, fun W_ hW_ => ox_callE (al := [(.pointer (some ⟨x₁.2.b, 0, none⟩))]) pf_40 rfl (ret_mono (number_calls stv x₁.2 _ (q2.ext hW_)) (by rintro _ _ ⟨rfl, rfl⟩; exact ⟨rfl, rfl⟩))⟩) hS1 ?_
    refine xd_pure 3 (some 14) rfl rfl (by kernel_rfl) (v := (.pointer (some ⟨x₁.2.b, 0, none⟩))) (.inl ⟨rfl, fun W_ hW_ => ox_move (v := (.pointer (some ⟨x₁.2.b, 0, none⟩))) rfl ⟨rfl, rfl⟩⟩) ?_
    refine xd_one 4 none rfl rfl (by kernel_rfl) rfl (ox_mapUpdate (enc := (fun i : Int => .int .i64 i)) (k := x₁.2.id) (v := (.pointer (some ⟨x₁.2.b, 0, none⟩))) (keyT_int tU_3) tU_111 ((hI.map.keep hcY hI.ny.2).ext e5) rfl rfl rfl ?_)
    intro w6 e6 z5 m2
    refine ⟨.inl (by decide), ?_⟩
    refine xd_done (by kernel_rfl) ?_ _
    have hM : Chg (fun b => b = w.heap.size) W2 w6 := Chg.chg1 (Ext.to e5) e6 (.inl rfl)
    have q3 := (((hI.blk.keep hcY hI.ny.1).ext e5).keep1 e6 (fun _h => ((hI.map.keep hcY hI.ny.2).ext e5).ne_blk ((hI.blk.keep hcY hI.ny.1).ext e5) _h.symm))
    have hb9 := q3
    refine ⟨hM.mono fun b _ hb => by subst hb; exact ⟨hI.ny.2, hI.low.2⟩, hb9, by rw [kn_snoc]; exact m2, hI.ny, hI.low, ?_⟩
    exact Chg.trans (Chg.trans hI.chg hcY fun b hb _ => (hY b hb).1) hM fun b hb _ => by subst hb; exact hI.low.2
  · skip
    intro D Y W hD hY hYD hI hheap
    refine xc_seq ?_
    refine xc_region ?_
    refine xl_op (P := Try.prog) (some 15) rfl rfl (ox_load (v := (.map (some w.heap.size))) tA_111 rfl (hI.blk.cell rfl) ?_)
    refine xl_op (P := Try.prog) (some 2) rfl rfl (ox_assign (v := (.map (some w.heap.size))) rfl ?_)
    refine xl_nil ?_
    refine xc_ret ?_
    change leaves _ _ _ _ _ _ _
    refine leaves_marks [D] _ (fun D' hD' => by simp at hD'; subst hD'; exact hheap) (by simp) (fun w9 hc9 hs9 => ?_)
    refine leaves_nil (n := 16) (rs := [.tmp 2]) (vs := [(.map (some w.heap.size))]) rfl ⟨⟨by decide, rfl⟩, trivial⟩ ?_
    exact ⟨_, rfl, hI.low.2, hI.map.keep hc9 (fun h => by simp at h; subst h; exact hI.ny.2 hYD), Chg.trans (Chg.trans (Chg.refl (fun _ => False) w) (hI.chg.mono fun b hl h => by omega) fun b h _ => h) hc9 fun b hb hl => by simp at hb; subst hb; omega⟩
  · skip
    intro D Y c pre W hD hY hYD hpre hI hheap; exact hI.elim

end Go.Proofs.Ythhbnodnpajljaa
