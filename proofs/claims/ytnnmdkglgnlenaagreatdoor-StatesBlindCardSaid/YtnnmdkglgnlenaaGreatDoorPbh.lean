/-
  Part 8 of the proof: texts Sj Sk Sl Sm St Su. No conditions.
-/
import Derived.Test.YtnnmdkglgnlenaaGreatDoorRows
import Derived.Test.YtnnmdkglgnlenaaGreatDoorPbc
import Derived.Test.YtnnmdkglgnlenaaGreatDoorPbf
import Derived.Test.YtnnmdkglgnlenaaGreatDoorPbg
set_option linter.unusedVariables false
set_option linter.unusedSimpArgs false
set_option maxRecDepth 100000
set_option maxHeartbeats 4000000
namespace Go.Proofs.YtnnmdkglgnlenaaGreatDoor
open Go Go.RowKit Go.Vx
def sumR (τ : Sym → Int) (most : Int) (h : List Int) : List Sym → Int → Int
  | [], n => n
  | x :: r, n => sumR τ most h r (if most + 1 < n + (if x.kind = 3 then h[x.n.toNat]! else τ x) then most + 1 else n + (if x.kind = 3 then h[x.n.toNat]! else τ x))
def stepS (add most : Int) (τ : Sym → Int) : List P2 → List Int → Bool → List Int × Bool
  | [], h, g => (h, g)
  | p :: r, h, g => if sumR τ most h p.2 add < h[p.1.toNat]! then stepS add most τ r (h.set p.1.toNat (sumR τ most h p.2 add)) true else stepS add most τ r h g
theorem sumR_next {τ : Sym → Int} {most n m : Int} {h : List Int} {l : List Sym} {k : Nat} {y : Sym} (hy : l[k]? = some y) (hm : (if y.kind = 3 then h[y.n.toNat]! else τ y) = m) : sumR τ most h (l.drop k) n = sumR τ most h (l.drop (k + 1)) (if most + 1 < n + m then most + 1 else n + m) := by
  rw [drop_get hy, sumR, hm]
theorem stepS_yes {add most : Int} {τ : Sym → Int} {p : P2} {r : List P2} {h : List Int} {g : Bool} {n : Int} (hn : sumR τ most h p.2 add = n) (h1 : n < h[p.1.toNat]!) : stepS add most τ (p :: r) h g = stepS add most τ r (h.set p.1.toNat n) true := by rw [stepS, hn, if_pos h1]
theorem stepS_no {add most : Int} {τ : Sym → Int} {p : P2} {r : List P2} {h : List Int} {g : Bool} {n : Int} (hn : sumR τ most h p.2 add = n) (h1 : ¬ (n < h[p.1.toNat]!)) : stepS add most τ (p :: r) h g = stepS add most τ r h g := by rw [stepS, hn, if_neg h1]
theorem rep_next {n i : Nat} {m : Int} (h : i < n) : (List.replicate i m ++ List.replicate (n - i) 0).set i m = List.replicate (i + 1) m ++ List.replicate (n - (i + 1)) 0 := by
  obtain ⟨d, hd⟩ : ∃ d, n - i = d + 1 := ⟨n - i - 1, by omega⟩
  rw [hd, List.replicate_succ, List.set_append_right _ _ (by simp), List.length_replicate, Nat.sub_self, List.set_cons_zero, List.replicate_succ', List.append_assoc, show n - (i + 1) = d by omega]
  rfl
def sumN (h : List Int) : Nat := (h.map Int.toNat).sum
theorem sumN_set : ∀ {h : List Int} {i : Nat} {n : Int}, i < h.length → n < h[i]! → 0 ≤ n → sumN (h.set i n) < sumN h
  | [], _, _, h, _, _ => by simp at h
  | x :: h, 0, n, _, h2, h3 => by simp at h2; simp only [sumN, List.set_cons_zero, List.map_cons, List.sum_cons]; omega
  | x :: h, i + 1, n, h1, h2, h3 => by
    have := sumN_set (h := h) (i := i) (n := n) (by simpa using h1) (by simpa using h2) h3
    simp only [sumN, List.set_cons_succ, List.map_cons, List.sum_cons] at this ⊢; omega
theorem get_bound {h : List Int} {b : Int} (hb : ∀ v ∈ h, 0 ≤ v ∧ v ≤ b) (h0 : 0 ≤ b) (i : Nat) : 0 ≤ h[i]! ∧ h[i]! ≤ b := by
  by_cases hi : i < h.length
  · exact hb _ (List.mem_of_getElem? (bang hi))
  · rw [List.getElem!_eq_getElem?_getD, List.getElem?_eq_none (by omega)]; exact ⟨Int.le_refl _, h0⟩
theorem sumR_nonneg {τ : Sym → Int} {most : Int} {h : List Int} (hm : 0 ≤ most) (hτ : ∀ x, 0 ≤ τ x ∧ τ x ≤ 1073741824) (hb : ∀ v ∈ h, 0 ≤ v ∧ v ≤ most + 1) : ∀ (l : List Sym) (n : Int), 0 ≤ n → 0 ≤ sumR τ most h l n
  | [], _, hn => hn
  | x :: r, n, hn => by
    rw [sumR]
    refine sumR_nonneg hm hτ hb r _ ?_
    have h1 := get_bound hb (by omega) x.n.toNat; have h2 := hτ x
    split <;> split <;> omega
theorem stepS_all {add most : Int} {τ : Sym → Int} {nm : Nat} (hadd : 0 ≤ add ∧ add ≤ 1073741824) (hmost : 0 ≤ most ∧ most ≤ 1073741824) (hτ : ∀ x, 0 ≤ τ x ∧ τ x ≤ 1073741824) : ∀ (l : List P2) (h : List Int) (g : Bool), (∀ p ∈ l, p.1.toNat < nm) → (h.length = nm ∧ ∀ v ∈ h, 0 ≤ v ∧ v ≤ most + 1) →
    ((stepS add most τ l h g).1.length = nm ∧ ∀ v ∈ (stepS add most τ l h g).1, 0 ≤ v ∧ v ≤ most + 1) ∧ sumN (stepS add most τ l h g).1 ≤ sumN h ∧ ((stepS add most τ l h g).2 = true → g = true ∨ sumN (stepS add most τ l h g).1 < sumN h)
  | [], h, g, _, hI => ⟨hI, Nat.le_refl _, fun e => .inl e⟩
  | p :: r, h, g, hl, hI => by
    simp only [stepS]; split
    · rename_i hc
      have h0 := sumR_nonneg (τ := τ) (h := h) hmost.1 hτ hI.2 p.2 add hadd.1
      have hb := get_bound hI.2 (by omega) p.1.toNat
      have hi := hl p List.mem_cons_self
      obtain ⟨h1, h2, h3⟩ := stepS_all (nm := nm) hadd hmost hτ r (h.set p.1.toNat (sumR τ most h p.2 add)) true (fun q hq => hl q (List.mem_cons_of_mem _ hq)) ⟨by rw [List.length_set]; exact hI.1, fun v hv => by
        rcases List.mem_or_eq_of_mem_set hv with h9 | h9
        · exact hI.2 v h9
        · omega⟩
      have h4 := sumN_set (h := h) (i := p.1.toNat) (n := sumR τ most h p.2 add) (by omega) hc h0
      exact ⟨h1, by omega, fun _ => .inr (by omega)⟩
    · exact stepS_all hadd hmost hτ r h g (fun q hq => hl q (List.mem_cons_of_mem _ hq)) hI
theorem stepS_inv {add most : Int} {τ : Sym → Int} {g : GD} {h : List Int} (hG : GoodG g) (hadd : 0 ≤ add ∧ add ≤ 1073741824) (hmost : 0 ≤ most ∧ most ≤ 1073741824) (hτ : ∀ x, 0 ≤ τ x ∧ τ x ≤ 1073741824) (hI : h.length = g.names ∧ ∀ v ∈ h, 0 ≤ v ∧ v ≤ most + 1) (hg : (stepS add most τ g.prods h false).2 = true) :
    ((stepS add most τ g.prods h false).1.length = g.names ∧ ∀ v ∈ (stepS add most τ g.prods h false).1, 0 ≤ v ∧ v ≤ most + 1) ∧ sumN (stepS add most τ g.prods h false).1 < sumN h := by
  obtain ⟨h1, _, h3⟩ := stepS_all (nm := g.names) hadd hmost hτ g.prods h false (fun p hp => by have := hG.2 p hp; omega) hI
  exact ⟨h1, (h3 hg).resolve_left (by decide)⟩
def sumsG (add most : Int) (τ : Sym → Int) (g : GD) : List Int := fixN (fun h => stepS add most τ g.prods h false) (sumN (List.replicate g.names (most + 1)) + 1) (List.replicate g.names (most + 1))
theorem pf_124 : plainF Tryz.prog 124 = true := by kernel_rfl
theorem pf_125 : plainF Tryz.prog 125 = true := by kernel_rfl
theorem tA_148 : isAggT Tryz.prog 148 = some false := by kernel_rfl
theorem tE_27 : sliceT Tryz.prog 27 = some (3, 1, 8, (.int .i64 0)) := by kernel_rfl
theorem tS_3 : sizeT Tryz.prog 3 = some 1 := by kernel_rfl
theorem tU_27 : Tryz.prog.underlying 27 = some (.slice 3) := by kernel_rfl
theorem sums1_calls (s : SP) (bs ba bg bm n c : Nat) (A : Option Addr) (h0 : List Int) (add most : Int) (τ : Sym → Int) (G : Nat) (CB : List Value) (w0 : World) (w : World) (hbs : Blk w bs #[(.slice s.lA s.lex.length s.lc), (.slice s.nA s.names.length s.nc), (.int .i64 s.start), (.slice s.pA s.prods.length s.pc)] 26) (hba : Blk w ba #[.int .i64 add] 3) (hbg : Blk w bg #[.func (.func G) #[] CB.toArray] 148) (hbm : Blk w bm #[.int .i64 most] 3) (hE0 : Ext w0 w) (hlow : ∀ k, (Value.slice A n c).ownBlock = some k → w0.heap.size ≤ k) (hS : SpR w0 s) (hG : GoodG s.g) (hn : n = s.names.length) (hO : Vx.Own w 3 1 (.slice A n c) n (h0.flatMap ints)) (hb0 : ∀ v ∈ h0, 0 ≤ v ∧ v ≤ most + 1) (hna : ∀ k, (Value.slice A n c).ownBlock = some k → k ≠ ba ∧ k ≠ bm) (hadd : 0 ≤ add ∧ add ≤ 1073741824) (hmost : 0 ≤ most ∧ most ≤ 1073741824) (hp : plainF Tryz.prog G = true) (hτ : ∀ x, 0 ≤ τ x ∧ τ x ≤ 1073741824) (hg : ∀ x W, Calls Tryz.prog G ([Value.agg (Sym.cs x).toArray] ++ CB).toArray W (Ret fun v W' => v = .int .i64 (τ x) ∧ Ext W W')) :
    Calls Tryz.prog 125 #[(.slice A n c), (.pointer (some ⟨bs, 0, none⟩)), (.pointer (some ⟨ba, 0, none⟩)), (.pointer (some ⟨bg, 0, none⟩)), (.pointer (some ⟨bm, 0, none⟩))] w (Ret (fun v w' => v = .tuple #[.slice A n c, .bool (stepS add most τ s.g.prods h0 false).2] ∧ Vx.Own w' 3 1 (.slice A n c) n (((stepS add most τ s.g.prods h0 false).1).flatMap ints) ∧ Chg (fun b => (Value.slice A n c).ownBlock = some b) w w')) := by
  have hfp := hS.fp.le; have hfn := hS.fn.le
  have hsz0_ := hE0.size
  refine calls_xc (n := 64) (f := fun s_ => [(.slice A n c), (.pointer (some ⟨bs, 0, none⟩)), (.pointer (some ⟨ba, 0, none⟩)), (.pointer (some ⟨bg, 0, none⟩)), (.pointer (some ⟨bm, 0, none⟩))].getD s_ undef) Tryz.func125 rfl rfl (by simp) (fun s_ => by simp) ?_
  refine xc_seq ?_
  refine xc_region ?_
  refine xl_op (P := Tryz.prog) (some 6) rfl rfl (ox_assign (v := (.slice none 0 0)) rfl ?_)
  refine xl_op (P := Tryz.prog) (some 7) rfl rfl (ox_assign (v := (.bool false)) rfl ?_)
  refine xl_nil ?_
  refine xc_seq ?_
  refine xc_region ?_
  refine xl_op (P := Tryz.prog) (some 8) rfl rfl (ox_assign (v := (.bool false)) rfl ?_)
  refine xl_nil ?_
  refine xc_seq ?_
  refine xc_seq ?_
  refine xc_region ?_
  refine xl_op (P := Tryz.prog) (some 14) rfl rfl (ox_fieldAddr (b := bs) (o := 0) tF_26_3 rfl ?_)
  refine xl_op (P := Tryz.prog) (some 15) rfl rfl (ox_load (v := (.slice s.pA s.prods.length s.pc)) tA_24 rfl (hbs.cell rfl) ?_)
  refine xl_op (P := Tryz.prog) (some 16) rfl rfl (ox_len (A := s.pA) (n := s.prods.length) (cp := s.pc) rfl tU_24 rfl ?_)
  refine xl_op (P := Tryz.prog) (some 17) rfl rfl (ox_move (v := (.int .i64 0)) rfl ?_)
  refine xl_nil ?_
  refine xc_block ?_
  refine xc_loopN (fun m_ f_ Wx => ∃ (i : Nat) (g : Bool) (h : List Int), m_ = s.prods.length - i ∧ (i ≤ s.prods.length) ∧ (stepS add most τ s.g.prods h0 false = stepS add most τ (s.g.prods.drop i) h g) ∧ (∀ v ∈ h, 0 ≤ v ∧ v ≤ most + 1) ∧ f_ 0 = (.slice A n c) ∧ f_ 2 = (.pointer (some ⟨ba, 0, none⟩)) ∧ f_ 3 = (.pointer (some ⟨bg, 0, none⟩)) ∧ f_ 4 = (.pointer (some ⟨bm, 0, none⟩)) ∧ f_ 6 = (.slice none 0 0) ∧ f_ 7 = (.bool false) ∧ f_ 15 = (.slice s.pA s.prods.length s.pc) ∧ f_ 16 = (.int .i64 (((s.prods.length : Nat) : Int))) ∧ f_ 17 = (.int .i64 ((i : Nat))) ∧ f_ 8 = (.bool g) ∧ Vx.Own Wx 3 1 (.slice A n c) n (h.flatMap ints) ∧ Chg (fun b => ((.slice A n c) : Value).ownBlock = some b) w Wx) (s.prods.length) ?_ ?_
  · exact ⟨0, false, h0, (by omega), (by omega), rfl, hb0, rfl, rfl, rfl, rfl, rfl, rfl, rfl, rfl, (by first | exact rfl | exact (congrArg (Value.int .i64) (by omega))), rfl, hO, (Chg.refl _ _)⟩
  · rintro m_ f1 w1 ⟨i, g, h, hm_f1, hi, hq, hb, g0_f1, g2_f1, g3_f1, g4_f1, g6_f1, g7_f1, g15_f1, g16_f1, g17_f1, g8_f1, o0_f1, x1⟩
    have hx1 := x1.size
    have hl_h : h.length = n := by have _q := (o0_f1).len; rw [fm_len ints_len] at _q; omega
    refine xc_seq ?_
    refine xc_region ?_
    refine xl_op (P := Tryz.prog) (some 18) rfl rfl (ox_lss (k := .i64) (a := ((i : Nat))) (b := (((s.prods.length : Nat) : Int))) g17_f1 g16_f1 ?_)
    refine xl_nil ?_
    refine xc_seq ?_
    refine xc_if (p := ((i : Nat) : Int) < (((s.prods.length : Nat) : Int))) rfl (fun h1 => ?_) (fun h1 => ?_)
    · skip
      refine xc_skip ?_
      refine xc_seq ?_
      refine xc_block ?_
      refine xc_seq ?_
      refine xc_region ?_
      have x2 : Ext w0 w1 := (Chg.trans hE0 x1 (fun b hb hl => (absurd hl (by have _h := hlow b hb; omega))))
      obtain ⟨x_1, g_1, o_1, hx_1⟩ := row_may (A := s.pA) (cs := PD.cs) i PD.len (by decide) (RowA.ext hS.prods x2)
      obtain ⟨hx_2, hA_1, hc_1⟩ := hx_1 (by first | omega | (simp only [List.length_drop, List.length_replicate, List.length_set, List.length_append, List.length_map, List.length_singleton] at *; omega))
      have hfr_x_1 := (hS.fr _ (List.mem_of_getElem? hx_2)).le
      have hgd_x_1 := hG.2 _ (List.mem_of_getElem? (map_get (f := PD.d) hx_2))
      have hgl_x_1 : 0 ≤ x_1.left ∧ x_1.left < (s.names.length : Int) := ⟨hgd_x_1.1, hgd_x_1.2.1⟩
      refine xl_op (P := Tryz.prog) (some 19) rfl rfl (ox_ixA (b := g_1) (o := o_1) (i := ((i : Nat))) i tE_24 hA_1 g15_f1 g17_f1 rfl (by omega) ?_)
      refine xl_op (P := Tryz.prog) (some 20) rfl rfl (ox_loadN (vs := [(.int .i64 x_1.left), (.slice x_1.rA x_1.right.length x_1.rc)]) tA_37 tS_37 rfl rfl hc_1 ?_)
      refine xl_op (P := Tryz.prog) (some 10) rfl rfl (ox_alloc tZ_37 ?_)
      intro w2 e1 z1 b1
      replace b1 : Blk w2 w1.heap.size #[(.int .i64 0), (.slice none 0 0)] 37 := b1
      refine xl_op (P := Tryz.prog) none rfl rfl (ox_store (n := 2) (vs := [(.int .i64 x_1.left), (.slice x_1.rA x_1.right.length x_1.rc)]) tS_37 rfl (v := (.agg #[(.int .i64 x_1.left), (.slice x_1.rA x_1.right.length x_1.rc)])) rfl rfl rfl rfl b1 (Nat.le_of_ble_eq_true rfl) ?_)
      intro w3 e2 z2 b2
      replace b2 : Blk w3 w1.heap.size #[(.int .i64 x_1.left), (.slice x_1.rA x_1.right.length x_1.rc)] 37 := blk_full b2 rfl
      refine xl_nil ?_
      refine xc_seq ?_
      refine xc_region ?_
      have q1 := (hba.keep x1 (fun h9 => (hna _ h9).1 rfl))
      have q2 := ((q1.ext e1).keep1 e2 ((q1.ext e1).ne b1 (by decide)))
      refine xl_op (P := Tryz.prog) (some 21) rfl rfl (ox_load (v := (.int .i64 add)) tA_3 g2_f1 (q2.cell rfl) ?_)
      refine xl_op (P := Tryz.prog) (some 11) rfl rfl (ox_assign (v := (.int .i64 add)) rfl ?_)
      refine xl_nil ?_
      refine xc_seq ?_
      refine xc_seq ?_
      refine xc_region ?_
      refine xl_op (P := Tryz.prog) (some 22) rfl rfl (ox_fieldAddr (b := w1.heap.size) (o := 0) tF_37_1 rfl ?_)
      refine xl_op (P := Tryz.prog) (some 23) rfl rfl (ox_load (v := (.slice x_1.rA x_1.right.length x_1.rc)) tA_33 rfl (b2.cell rfl) ?_)
      refine xl_op (P := Tryz.prog) (some 24) rfl rfl (ox_len (A := x_1.rA) (n := x_1.right.length) (cp := x_1.rc) rfl tU_33 rfl ?_)
      refine xl_op (P := Tryz.prog) (some 25) rfl rfl (ox_move (v := (.int .i64 0)) rfl ?_)
      refine xl_nil ?_
      refine xc_block ?_
      refine xc_loopN (fun m_ f_ Wx => ∃ (k : Nat) (q : Int), m_ = x_1.right.length - k ∧ (k ≤ x_1.right.length) ∧ (sumR τ most h x_1.right add = sumR τ most h (x_1.right.drop k) q) ∧ (0 ≤ q ∧ q ≤ 1073741825) ∧ f_ 0 = (.slice A n c) ∧ f_ 2 = (.pointer (some ⟨ba, 0, none⟩)) ∧ f_ 3 = (.pointer (some ⟨bg, 0, none⟩)) ∧ f_ 4 = (.pointer (some ⟨bm, 0, none⟩)) ∧ f_ 6 = (.slice none 0 0) ∧ f_ 7 = (.bool false) ∧ f_ 15 = (.slice s.pA s.prods.length s.pc) ∧ f_ 16 = (.int .i64 (((s.prods.length : Nat) : Int))) ∧ f_ 17 = (.int .i64 ((i : Nat))) ∧ f_ 8 = (.bool g) ∧ f_ 18 = (.bool (decide (((i : Nat) : Int) < (((s.prods.length : Nat) : Int))))) ∧ f_ 19 = (.pointer (some ⟨g_1, o_1 + i * 2, none⟩)) ∧ f_ 20 = (.agg #[(.int .i64 x_1.left), (.slice x_1.rA x_1.right.length x_1.rc)]) ∧ f_ 10 = (.pointer (some ⟨w1.heap.size, 0, none⟩)) ∧ f_ 21 = (.int .i64 add) ∧ f_ 22 = (.pointer (some ⟨w1.heap.size, 1, none⟩)) ∧ f_ 23 = (.slice x_1.rA x_1.right.length x_1.rc) ∧ f_ 24 = (.int .i64 (((x_1.right.length : Nat) : Int))) ∧ f_ 25 = (.int .i64 ((k : Nat))) ∧ f_ 11 = (.int .i64 q) ∧ Ext w3 Wx) (x_1.right.length) ?_ ?_
      · exact ⟨0, add, (by omega), (by omega), rfl, (by omega), g0_f1, g2_f1, g3_f1, g4_f1, g6_f1, g7_f1, g15_f1, g16_f1, g17_f1, g8_f1, rfl, rfl, rfl, rfl, rfl, rfl, rfl, rfl, (by first | exact rfl | exact (congrArg (Value.int .i64) (by omega))), (by first | exact rfl | exact (congrArg (Value.int .i64) (by omega))), (Chg.refl _ _)⟩
      · rintro m_ f2 w4 ⟨k, q, hm_f2, hk, hk2, hn2, g0_f2, g2_f2, g3_f2, g4_f2, g6_f2, g7_f2, g15_f2, g16_f2, g17_f2, g8_f2, g18_f2, g19_f2, g20_f2, g10_f2, g21_f2, g22_f2, g23_f2, g24_f2, g25_f2, g11_f2, x3⟩
        have hx3 := x3.size
        refine xc_seq ?_
        refine xc_region ?_
        refine xl_op (P := Tryz.prog) (some 26) rfl rfl (ox_lss (k := .i64) (a := ((k : Nat))) (b := (((x_1.right.length : Nat) : Int))) g25_f2 g24_f2 ?_)
        refine xl_nil ?_
        refine xc_seq ?_
        refine xc_if (p := ((k : Nat) : Int) < (((x_1.right.length : Nat) : Int))) rfl (fun h2 => ?_) (fun h2 => ?_)
        · skip
          refine xc_skip ?_
          refine xc_seq ?_
          refine xc_block ?_
          refine xc_seq ?_
          refine xc_region ?_
          have x4 : Ext w0 w4 := (Ext.trans (Ext.chg1 (Ext.trans x2 e1) e2 (by omega)) x3)
          obtain ⟨x_2, g_2, o_2, hx_3⟩ := row_may (A := x_1.rA) (cs := Sym.cs) k Sym.len (by decide) (RowA.ext ((hS.right _ (List.mem_of_getElem? hx_2))) x4)
          obtain ⟨hx_4, hA_2, hc_2⟩ := hx_3 (by first | omega | (simp only [List.length_drop, List.length_replicate, List.length_set, List.length_append, List.length_map, List.length_singleton] at *; omega))
          refine xl_op (P := Tryz.prog) (some 27) rfl rfl (ox_ixA (b := g_2) (o := o_2) (i := ((k : Nat))) k tE_33 hA_2 g23_f2 g25_f2 rfl (by omega) ?_)
          refine xl_op (P := Tryz.prog) (some 28) rfl rfl (ox_loadN (vs := [(.int .i64 x_2.kind), (.int .i64 x_2.n)]) tA_32 tS_32 rfl rfl hc_2 ?_)
          refine xl_op (P := Tryz.prog) (some 13) rfl rfl (ox_alloc tZ_32 ?_)
          intro w5 e3 z3 b3
          replace b3 : Blk w5 w4.heap.size #[(.int .i64 0), (.int .i64 0)] 32 := b3
          refine xl_op (P := Tryz.prog) none rfl rfl (ox_store (n := 2) (vs := [(.int .i64 x_2.kind), (.int .i64 x_2.n)]) tS_32 rfl (v := (.agg #[(.int .i64 x_2.kind), (.int .i64 x_2.n)])) rfl rfl rfl rfl b3 (Nat.le_of_ble_eq_true rfl) ?_)
          intro w6 e4 z4 b4
          replace b4 : Blk w6 w4.heap.size #[(.int .i64 x_2.kind), (.int .i64 x_2.n)] 32 := blk_full b4 rfl
          refine xl_nil ?_
          refine xc_seq ?_
          refine xc_seq ?_
          refine xc_region ?_
          refine xl_op (P := Tryz.prog) (some 29) rfl rfl (ox_fieldAddr (b := w4.heap.size) (o := 0) tF_32_0 rfl ?_)
          refine xl_op (P := Tryz.prog) (some 30) rfl rfl (ox_load (v := (.int .i64 x_2.kind)) tA_3 rfl (b4.cell rfl) ?_)
          refine xl_op (P := Tryz.prog) (some 31) rfl rfl (ox_eql (k := .i64) (a := x_2.kind) (b := 3) rfl rfl ?_)
          refine xl_nil ?_
          refine xc_if (p := (x_2.kind : Int) = 3) rfl (fun h3 => ?_) (fun h3 => ?_)
          · skip
            have hsy_ := hgd_x_1.2.2 x_2 (List.mem_of_getElem? hx_4)
            have hτ_ := hτ x_2
            have hsn_ := symE_name hsy_ (by omega); have hgn : s.g.names = s.names.length := rfl
            refine xc_region ?_
            refine xl_op (P := Tryz.prog) (some 32) rfl rfl (ox_move (v := (.int .i64 q)) g11_f2 ?_)
            refine xl_op (P := Tryz.prog) (some 33) rfl rfl (ox_move (v := (.slice A n c)) g0_f2 ?_)
            refine xl_op (P := Tryz.prog) (some 34) rfl rfl (ox_fieldAddr (b := w4.heap.size) (o := 0) tF_32_1 rfl ?_)
            refine xl_op (P := Tryz.prog) (some 35) rfl rfl (ox_load (v := (.int .i64 x_2.n)) tA_3 rfl (b4.cell rfl) ?_)
            have q3 := ((o0_f1.ext e1).keep1 e2 (fun k hk => (o0_f1.ext e1).ne_blk b1 (by decide) k hk))
            have q4 := (((q3.ext x3).ext e3).keep1 e4 (fun k hk => ((q3.ext x3).ext e3).ne_blk b3 (by decide) k hk))
            obtain ⟨x_3, g_3, hx_5⟩ := own_may (A := A) x_2.n.toNat ints_len (by decide) q4
            obtain ⟨hx_6, hA_3, hc_3⟩ := hx_5 (by first | omega | (simp only [List.length_drop, List.length_replicate, List.length_set, List.length_append, List.length_map, List.length_singleton] at *; omega))
            have hby_ := hb _ (List.mem_of_getElem? hx_6)
            refine xl_op (P := Tryz.prog) (some 36) rfl rfl (ox_ixA (b := g_3) (o := 0) (i := x_2.n) x_2.n.toNat tE_27 hA_3 rfl rfl (by omega) (by omega) ?_)
            refine xl_op (P := Tryz.prog) (some 37) rfl rfl (ox_load (v := (.int .i64 x_3)) tA_3 rfl (CellsL.at1 hc_3 0 rfl) ?_)
            refine xl_op (P := Tryz.prog) (some 38) rfl rfl (ox_add64 (a := q) (b := x_3) rfl rfl (by omega) ?_)
            refine xl_op (P := Tryz.prog) (some 11) rfl rfl (ox_assign (v := (.int .i64 (q + x_3))) rfl ?_)
            refine xl_nil ?_
            refine xc_region ?_
            refine xl_op (P := Tryz.prog) (some 44) rfl rfl (ox_move (v := (.int .i64 (q + x_3))) rfl ?_)
            have q5 := (hbm.keep x1 (fun h9 => (hna _ h9).2 rfl))
            have q6 := ((q5.ext e1).keep1 e2 ((q5.ext e1).ne b1 (by decide)))
            have q7 := (((q6.ext x3).ext e3).keep1 e4 (((q6.ext x3).ext e3).ne b3 (by decide)))
            refine xl_op (P := Tryz.prog) (some 45) rfl rfl (ox_load (v := (.int .i64 most)) tA_3 g4_f2 (q7.cell rfl) ?_)
            refine xl_op (P := Tryz.prog) (some 46) rfl rfl (ox_add64 (a := most) (b := 1) rfl rfl (by omega) ?_)
            refine xl_op (P := Tryz.prog) (some 47) rfl rfl (ox_min (k := .i64) (a := (q + x_3)) (b := (most + 1)) rfl rfl rfl ?_)
            refine xl_op (P := Tryz.prog) (some 11) rfl rfl (ox_assign (v := (.int .i64 (if most + 1 < q + x_3 then most + 1 else q + x_3))) rfl ?_)
            refine xl_nil ?_
            refine xc_region ?_
            refine xl_op (P := Tryz.prog) (some 48) rfl rfl (ox_add64 (a := ((k : Nat))) (b := 1) g25_f2 rfl (by omega) ?_)
            refine xl_op (P := Tryz.prog) (some 25) rfl rfl (ox_move (v := (.int .i64 ((k : Nat) + 1))) rfl ?_)
            refine xl_nil ?_
            have x5 : Ext w3 w6 := (Ext.chg1 (Ext.trans x3 e3) e4 (by omega))
            exact ⟨rfl, x_1.right.length - (k + 1), by omega, k + 1, (if most + 1 < q + x_3 then most + 1 else q + x_3), by omega, (by omega), (hk2.trans (sumR_next hx_4 (by rw [if_pos (by omega), bang_of hx_6]))), (by split <;> omega), g0_f2, g2_f2, g3_f2, g4_f2, g6_f2, g7_f2, g15_f2, g16_f2, g17_f2, g8_f2, g18_f2, g19_f2, g20_f2, g10_f2, g21_f2, g22_f2, g23_f2, g24_f2, (by first | exact rfl | exact (congrArg (Value.int .i64) (by omega))), (by first | exact rfl | exact (congrArg (Value.int .i64) (by omega))), x5⟩
          · skip
            have hsy_ := hgd_x_1.2.2 x_2 (List.mem_of_getElem? hx_4)
            have hτ_ := hτ x_2
            refine xc_region ?_
            refine xl_op (P := Tryz.prog) (some 39) rfl rfl (ox_move (v := (.int .i64 q)) g11_f2 ?_)
            have q8 := (hbg.keep x1 (fun _h => hO.ne_blk hbg (by decide) _ _h rfl))
            have q9 := ((q8.ext e1).keep1 e2 ((q8.ext e1).ne b1 (by decide)))
            have q10 := (((q9.ext x3).ext e3).keep1 e4 (((q9.ext x3).ext e3).ne b3 (by decide)))
            refine xl_op (P := Tryz.prog) (some 40) rfl rfl (ox_load (v := (.func (.func G) #[] CB.toArray)) tA_148 g3_f2 (q10.cell rfl) ?_)
            refine xl_op (P := Tryz.prog) (some 41) rfl rfl (ox_loadN (vs := [(.int .i64 x_2.kind), (.int .i64 x_2.n)]) tA_32 tS_32 rfl rfl ⟨b4.cell rfl, b4.cell rfl, trivial⟩ ?_)
            refine xl_op (P := Tryz.prog) (some 42) rfl rfl (ox_callV (cap := CB) (al := [(.agg #[(.int .i64 x_2.kind), (.int .i64 x_2.n)])]) hp rfl rfl (ret_mono (hg x_2 w6) ?_))
            rintro _ w7 ⟨rfl, e5⟩
            have he5 := e5.size
            refine xl_op (P := Tryz.prog) (some 43) rfl rfl (ox_add64 (a := q) (b := (τ x_2)) rfl rfl (by omega) ?_)
            refine xl_op (P := Tryz.prog) (some 11) rfl rfl (ox_assign (v := (.int .i64 (q + (τ x_2)))) rfl ?_)
            refine xl_nil ?_
            refine xc_region ?_
            refine xl_op (P := Tryz.prog) (some 44) rfl rfl (ox_move (v := (.int .i64 (q + (τ x_2)))) rfl ?_)
            have q11 := (hbm.keep x1 (fun h9 => (hna _ h9).2 rfl))
            have q12 := ((q11.ext e1).keep1 e2 ((q11.ext e1).ne b1 (by decide)))
            have q13 := (((q12.ext x3).ext e3).keep1 e4 (((q12.ext x3).ext e3).ne b3 (by decide)))
            refine xl_op (P := Tryz.prog) (some 45) rfl rfl (ox_load (v := (.int .i64 most)) tA_3 g4_f2 ((q13.ext e5).cell rfl) ?_)
            refine xl_op (P := Tryz.prog) (some 46) rfl rfl (ox_add64 (a := most) (b := 1) rfl rfl (by omega) ?_)
            refine xl_op (P := Tryz.prog) (some 47) rfl rfl (ox_min (k := .i64) (a := (q + (τ x_2))) (b := (most + 1)) rfl rfl rfl ?_)
            refine xl_op (P := Tryz.prog) (some 11) rfl rfl (ox_assign (v := (.int .i64 (if most + 1 < q + (τ x_2) then most + 1 else q + (τ x_2)))) rfl ?_)
            refine xl_nil ?_
            refine xc_region ?_
            refine xl_op (P := Tryz.prog) (some 48) rfl rfl (ox_add64 (a := ((k : Nat))) (b := 1) g25_f2 rfl (by omega) ?_)
            refine xl_op (P := Tryz.prog) (some 25) rfl rfl (ox_move (v := (.int .i64 ((k : Nat) + 1))) rfl ?_)
            refine xl_nil ?_
            have x6 : Ext w3 w7 := (Ext.trans (Ext.chg1 (Ext.trans x3 e3) e4 (by omega)) e5)
            exact ⟨rfl, x_1.right.length - (k + 1), by omega, k + 1, (if most + 1 < q + (τ x_2) then most + 1 else q + (τ x_2)), by omega, (by omega), (hk2.trans (sumR_next hx_4 (by rw [if_neg (by omega)]))), (by split <;> omega), g0_f2, g2_f2, g3_f2, g4_f2, g6_f2, g7_f2, g15_f2, g16_f2, g17_f2, g8_f2, g18_f2, g19_f2, g20_f2, g10_f2, g21_f2, g22_f2, g23_f2, g24_f2, (by first | exact rfl | exact (congrArg (Value.int .i64) (by omega))), (by first | exact rfl | exact (congrArg (Value.int .i64) (by omega))), x6⟩
        · skip
          have hn_ : sumR τ most h x_1.right add = q := by rw [hk2, List.drop_of_length_le (by omega)]; rfl
          refine xc_exit ?_
          refine xc_seq ?_
          refine xc_region ?_
          refine xl_op (P := Tryz.prog) (some 49) rfl rfl (ox_move (v := (.int .i64 q)) g11_f2 ?_)
          refine xl_op (P := Tryz.prog) (some 50) rfl rfl (ox_move (v := (.slice A n c)) g0_f2 ?_)
          refine xl_op (P := Tryz.prog) (some 51) rfl rfl (ox_fieldAddr (b := w1.heap.size) (o := 0) tF_37_0 g10_f2 ?_)
          refine xl_op (P := Tryz.prog) (some 52) rfl rfl (ox_load (v := (.int .i64 x_1.left)) tA_3 rfl ((b2.ext x3).cell rfl) ?_)
          have q14 := ((o0_f1.ext e1).keep1 e2 (fun k hk => (o0_f1.ext e1).ne_blk b1 (by decide) k hk))
          obtain ⟨x_4, g_4, hx_7⟩ := own_may (A := A) x_1.left.toNat ints_len (by decide) (q14.ext x3)
          obtain ⟨hx_8, hA_4, hc_4⟩ := hx_7 (by first | omega | (simp only [List.length_drop, List.length_replicate, List.length_set, List.length_append, List.length_map, List.length_singleton] at *; omega))
          refine xl_op (P := Tryz.prog) (some 53) rfl rfl (ox_ixA (b := g_4) (o := 0) (i := x_1.left) x_1.left.toNat tE_27 hA_4 rfl rfl (by omega) (by omega) ?_)
          refine xl_op (P := Tryz.prog) (some 54) rfl rfl (ox_load (v := (.int .i64 x_4)) tA_3 rfl (CellsL.at1 hc_4 0 rfl) ?_)
          refine xl_op (P := Tryz.prog) (some 55) rfl rfl (ox_lss (k := .i64) (a := q) (b := x_4) rfl rfl ?_)
          refine xl_nil ?_
          refine xc_if (p := (q : Int) < x_4) rfl (fun h4 => ?_) (fun h4 => ?_)
          · skip
            refine xc_region ?_
            refine xl_op (P := Tryz.prog) (some 56) rfl rfl (ox_move (v := (.slice A n c)) g0_f2 ?_)
            refine xl_op (P := Tryz.prog) (some 57) rfl rfl (ox_fieldAddr (b := w1.heap.size) (o := 0) tF_37_0 g10_f2 ?_)
            refine xl_op (P := Tryz.prog) (some 58) rfl rfl (ox_load (v := (.int .i64 x_1.left)) tA_3 rfl ((b2.ext x3).cell rfl) ?_)
            refine xl_op (P := Tryz.prog) (some 59) rfl rfl (ox_move (v := (.int .i64 q)) g11_f2 ?_)
            refine xl_op (P := Tryz.prog) (some 60) rfl rfl (ox_ixA (b := g_4) (o := 0) (i := x_1.left) x_1.left.toNat tE_27 hA_4 rfl rfl (by omega) (by omega) ?_)
            refine xl_op (P := Tryz.prog) none rfl rfl (ox_stE (i := x_1.left.toNat) (off := 0) (vs := [(.int .i64 q)]) (b := (q : Int)) ints_len tS_3 hA_4 rfl (v := (.int .i64 q)) rfl rfl rfl rfl (q14.ext x3) hx_8 rfl (by decide) (by omega) ?_)
            intro w8 e6 z5 o1
            refine xl_op (P := Tryz.prog) (some 8) rfl rfl (ox_assign (v := (.bool true)) rfl ?_)
            refine xl_nil ?_
            refine xc_region ?_
            refine xl_op (P := Tryz.prog) (some 61) rfl rfl (ox_add64 (a := ((i : Nat))) (b := 1) g17_f2 rfl (by omega) ?_)
            refine xl_op (P := Tryz.prog) (some 17) rfl rfl (ox_move (v := (.int .i64 ((i : Nat) + 1))) rfl ?_)
            refine xl_nil ?_
            have y1 : Chg (fun b => ((.slice A n c) : Value).ownBlock = some b) w w8 := (Chg.trans (Chg.ext (Chg.chg1 (Chg.ext (Chg.trans (Chg.refl (fun b => ((.slice A n c) : Value).ownBlock = some b) w) x1 (fun b hb hl => hb)) e1) e2 (.inr (by omega))) x3) e6 (fun b hb hl => hb))
            exact ⟨rfl, s.prods.length - (i + 1), by omega, i + 1, true, (h.set x_1.left.toNat q), by omega, (by omega), (hq.trans ((congrArg (fun z => stepS add most τ z h g) (SP.dp hx_2)).trans (stepS_yes (p := x_1.d) (n := q) hn_ (by show q < h[x_1.left.toNat]!; rw [bang_of hx_8]; omega)))), (fun v hv => by rcases List.mem_or_eq_of_mem_set hv with h9 | h9; exact hb v h9; (subst h9; have _q := hb _ (List.mem_of_getElem? hx_8); omega)), g0_f2, g2_f2, g3_f2, g4_f2, g6_f2, g7_f2, g15_f2, g16_f2, (by first | exact rfl | exact (congrArg (Value.int .i64) (by omega))), rfl, o1, y1⟩
          · skip
            refine xc_skip ?_
            refine xc_region ?_
            refine xl_op (P := Tryz.prog) (some 61) rfl rfl (ox_add64 (a := ((i : Nat))) (b := 1) g17_f2 rfl (by omega) ?_)
            refine xl_op (P := Tryz.prog) (some 17) rfl rfl (ox_move (v := (.int .i64 ((i : Nat) + 1))) rfl ?_)
            refine xl_nil ?_
            have y2 : Chg (fun b => ((.slice A n c) : Value).ownBlock = some b) w w4 := (Chg.ext (Chg.chg1 (Chg.ext (Chg.trans (Chg.refl (fun b => ((.slice A n c) : Value).ownBlock = some b) w) x1 (fun b hb hl => hb)) e1) e2 (.inr (by omega))) x3)
            exact ⟨rfl, s.prods.length - (i + 1), by omega, i + 1, g, h, by omega, (by omega), (hq.trans ((congrArg (fun z => stepS add most τ z h g) (SP.dp hx_2)).trans (stepS_no (p := x_1.d) (n := q) hn_ (by show ¬ (q < h[x_1.left.toNat]!); rw [bang_of hx_8]; omega)))), hb, g0_f2, g2_f2, g3_f2, g4_f2, g6_f2, g7_f2, g15_f2, g16_f2, (by first | exact rfl | exact (congrArg (Value.int .i64) (by omega))), g8_f2, (q14.ext x3), y2⟩
    · skip
      refine xc_exit ?_
      refine xc_seq ?_
      refine xc_region ?_
      refine xl_op (P := Tryz.prog) (some 62) rfl rfl (ox_move (v := (.slice A n c)) g0_f1 ?_)
      refine xl_op (P := Tryz.prog) (some 63) rfl rfl (ox_move (v := (.bool g)) g8_f1 ?_)
      refine xl_op (P := Tryz.prog) (some 6) rfl rfl (ox_assign (v := (.slice A n c)) rfl ?_)
      refine xl_op (P := Tryz.prog) (some 7) rfl rfl (ox_assign (v := (.bool g)) rfl ?_)
      refine xl_nil ?_
      refine xc_ret ?_
      change leaves _ _ _ _ _ _ _
      refine leaves_nil (n := 64) (rs := [.tmp 6, .tmp 7]) (vs := [(.slice A n c), (.bool g)]) rfl ⟨⟨by decide, rfl⟩, ⟨by decide, rfl⟩, trivial⟩ ?_
      have y3 : Chg (fun b => ((.slice A n c) : Value).ownBlock = some b) w w1 := (Chg.trans (Chg.refl (fun b => ((.slice A n c) : Value).ownBlock = some b) w) x1 (fun b hb hl => hb))
      exact ⟨by rw [hq, List.drop_of_length_le (by rw [s.gprods]; omega)]; rfl, by rw [hq, List.drop_of_length_le (by rw [s.gprods]; omega)]; exact o0_f1, y3⟩
theorem sums_calls (s : SP) (add most : Int) (τ : Sym → Int) (G : Nat) (CB : List Value) (w : World) (hS : SpR w s) (hG : GoodG s.g) (hadd : 0 ≤ add ∧ add ≤ 1073741824) (hmost : 0 ≤ most ∧ most ≤ 1073741824) (hp : plainF Tryz.prog G = true) (hτ : ∀ x, 0 ≤ τ x ∧ τ x ≤ 1073741824) (hg : ∀ x W, Calls Tryz.prog G ([Value.agg (Sym.cs x).toArray] ++ CB).toArray W (Ret fun v W' => v = .int .i64 (τ x) ∧ Ext W W')) :
    Calls Tryz.prog 92 #[(.agg #[(.slice s.lA s.lex.length s.lc), (.slice s.nA s.names.length s.nc), (.int .i64 s.start), (.slice s.pA s.prods.length s.pc)]), (.int .i64 add), (.int .i64 most), (.func (.func G) #[] CB.toArray)] w (Ret (fun v w' => ∃ A, v = .slice A s.names.length s.names.length ∧ Vx.Own w' 3 1 (.slice A s.names.length s.names.length) s.names.length ((sumsG add most τ s.g).flatMap ints) ∧ (∀ k, (Value.slice A s.names.length s.names.length).ownBlock = some k → w.heap.size ≤ k) ∧ Ext w w')) := by
  have hfn := hS.fn.le
  refine calls_xc (n := 29) (f := fun s_ => [(.agg #[(.slice s.lA s.lex.length s.lc), (.slice s.nA s.names.length s.nc), (.int .i64 s.start), (.slice s.pA s.prods.length s.pc)]), (.int .i64 add), (.int .i64 most), (.func (.func G) #[] CB.toArray)].getD s_ undef) Tryz.func92 rfl rfl (by simp) (fun s_ => by simp) ?_
  refine xc_seq ?_
  refine xc_region ?_
  refine xl_op (P := Tryz.prog) (some 4) rfl rfl (ox_box (v := (.agg #[(.slice s.lA s.lex.length s.lc), (.slice s.nA s.names.length s.nc), (.int .i64 s.start), (.slice s.pA s.prods.length s.pc)])) rfl ?_)
  intro w1 e1 z1 b1
  replace b1 : Blk w1 w.heap.size #[(.slice s.lA s.lex.length s.lc), (.slice s.nA s.names.length s.nc), (.int .i64 s.start), (.slice s.pA s.prods.length s.pc)] 26 := b1
  refine xl_op (P := Tryz.prog) (some 5) rfl rfl (ox_box (v := (.int .i64 add)) rfl ?_)
  intro w2 e2 z2 b2
  replace b2 : Blk w2 w1.heap.size #[(.int .i64 add)] 3 := b2
  refine xl_op (P := Tryz.prog) (some 6) rfl rfl (ox_box (v := (.int .i64 most)) rfl ?_)
  intro w3 e3 z3 b3
  replace b3 : Blk w3 w2.heap.size #[(.int .i64 most)] 3 := b3
  refine xl_op (P := Tryz.prog) (some 7) rfl rfl (ox_box (v := (.func (.func G) #[] CB.toArray)) rfl ?_)
  intro w4 e4 z4 b4
  replace b4 : Blk w4 w3.heap.size #[(.func (.func G) #[] CB.toArray)] 148 := b4
  refine xl_op (P := Tryz.prog) (some 8) rfl rfl (ox_assign (v := (.slice none 0 0)) rfl ?_)
  refine xl_nil ?_
  refine xc_seq ?_
  refine xc_region ?_
  refine xl_op (P := Tryz.prog) (some 11) rfl rfl (ox_fieldAddr (b := w.heap.size) (o := 0) tF_26_1 rfl ?_)
  refine xl_op (P := Tryz.prog) (some 12) rfl rfl (ox_load (v := (.slice s.nA s.names.length s.nc)) tA_23 rfl ((((b1.ext e2).ext e3).ext e4).cell rfl) ?_)
  refine xl_op (P := Tryz.prog) (some 13) rfl rfl (ox_len (A := s.nA) (n := s.names.length) (cp := s.nc) rfl tU_23 rfl ?_)
  refine xl_op (P := Tryz.prog) (some 14) rfl rfl (ox_makeD (n := s.names.length) (l := ((List.replicate s.names.length 0))) (cs := ints) tE_27 rfl rfl (by omega) (by omega) (made_ints _) ?_)
  intro A1 w5 o1 e5 lo1
  have he5 := e5.size
  refine xl_op (P := Tryz.prog) (some 9) rfl rfl (ox_assign (v := (.slice A1 s.names.length s.names.length)) rfl ?_)
  refine xl_nil ?_
  refine xc_seq ?_
  refine xc_seq ?_
  refine xc_region ?_
  refine xl_op (P := Tryz.prog) (some 15) rfl rfl (ox_move (v := (.slice A1 s.names.length s.names.length)) rfl ?_)
  refine xl_op (P := Tryz.prog) (some 16) rfl rfl (ox_len (A := A1) (n := s.names.length) (cp := s.names.length) rfl tU_27 rfl ?_)
  refine xl_op (P := Tryz.prog) (some 17) rfl rfl (ox_move (v := (.int .i64 0)) rfl ?_)
  refine xl_nil ?_
  refine xc_block ?_
  refine xc_loopN (fun m_ f_ Wx => ∃ (i : Nat) (h : List Int), m_ = s.names.length - i ∧ (i ≤ s.names.length) ∧ (h = List.replicate i (most + 1) ++ List.replicate (s.names.length - i) 0) ∧ f_ 4 = (.pointer (some ⟨w.heap.size, 0, none⟩)) ∧ f_ 5 = (.pointer (some ⟨w1.heap.size, 0, none⟩)) ∧ f_ 6 = (.pointer (some ⟨w2.heap.size, 0, none⟩)) ∧ f_ 7 = (.pointer (some ⟨w3.heap.size, 0, none⟩)) ∧ f_ 8 = (.slice none 0 0) ∧ f_ 9 = (.slice A1 s.names.length s.names.length) ∧ f_ 16 = (.int .i64 (((s.names.length : Nat) : Int))) ∧ f_ 17 = (.int .i64 ((i : Nat))) ∧ Vx.Own Wx 3 1 (.slice A1 s.names.length s.names.length) s.names.length (h.flatMap ints) ∧ Chg (fun b => ((.slice A1 s.names.length s.names.length) : Value).ownBlock = some b) w5 Wx) (s.names.length) ?_ ?_
  · exact ⟨0, (List.replicate s.names.length 0), (by omega), (by omega), (by simp), rfl, rfl, rfl, rfl, rfl, rfl, rfl, (by first | exact rfl | exact (congrArg (Value.int .i64) (by omega))), o1, (Chg.refl _ _)⟩
  · rintro m_ f1 w6 ⟨i, h, hm_f1, hi, hq, g4_f1, g5_f1, g6_f1, g7_f1, g8_f1, g9_f1, g16_f1, g17_f1, o0_f1, x1⟩
    have hx1 := x1.size
    have hl_h : h.length = s.names.length := by have _q := (o0_f1).len; rw [fm_len ints_len] at _q; omega
    refine xc_seq ?_
    refine xc_region ?_
    refine xl_op (P := Tryz.prog) (some 18) rfl rfl (ox_lss (k := .i64) (a := ((i : Nat))) (b := (((s.names.length : Nat) : Int))) g17_f1 g16_f1 ?_)
    refine xl_nil ?_
    refine xc_seq ?_
    refine xc_if (p := ((i : Nat) : Int) < (((s.names.length : Nat) : Int))) rfl (fun h1 => ?_) (fun h1 => ?_)
    · skip
      refine xc_skip ?_
      refine xc_seq ?_
      refine xc_block ?_
      refine xc_seq ?_
      refine xc_region ?_
      refine xl_op (P := Tryz.prog) (some 19) rfl rfl (ox_move (v := (.int .i64 ((i : Nat)))) g17_f1 ?_)
      refine xl_op (P := Tryz.prog) (some 10) rfl rfl (ox_assign (v := (.int .i64 ((i : Nat)))) rfl ?_)
      refine xl_nil ?_
      refine xc_region ?_
      refine xl_op (P := Tryz.prog) (some 20) rfl rfl (ox_move (v := (.slice A1 s.names.length s.names.length)) g9_f1 ?_)
      refine xl_op (P := Tryz.prog) (some 21) rfl rfl (ox_move (v := (.int .i64 ((i : Nat)))) rfl ?_)
      have q1 := (((b3.ext e4).ext e5).keep x1 (fun _h => by have _q := lo1 _ _h; have _q2 := b3.lt; omega))
      refine xl_op (P := Tryz.prog) (some 22) rfl rfl (ox_load (v := (.int .i64 most)) tA_3 g6_f1 (q1.cell rfl) ?_)
      refine xl_op (P := Tryz.prog) (some 23) rfl rfl (ox_add64 (a := most) (b := 1) rfl rfl (by omega) ?_)
      obtain ⟨x_1, g_1, hx_1⟩ := own_may (A := A1) i ints_len (by decide) o0_f1
      obtain ⟨hx_2, hA_1, hc_1⟩ := hx_1 (by first | omega | (simp only [List.length_drop, List.length_replicate, List.length_set, List.length_append, List.length_map, List.length_singleton] at *; omega))
      refine xl_op (P := Tryz.prog) (some 24) rfl rfl (ox_ixA (b := g_1) (o := 0) (i := ((i : Nat))) i tE_27 hA_1 rfl rfl rfl (by omega) ?_)
      refine xl_op (P := Tryz.prog) none rfl rfl (ox_stE (i := i) (off := 0) (vs := [(.int .i64 (most + 1))]) (b := ((most + 1) : Int)) ints_len tS_3 hA_1 rfl (v := (.int .i64 (most + 1))) rfl rfl rfl rfl o0_f1 hx_2 rfl (by decide) (by omega) ?_)
      intro w7 e6 z6 o2
      refine xl_nil ?_
      refine xc_region ?_
      refine xl_op (P := Tryz.prog) (some 25) rfl rfl (ox_add64 (a := ((i : Nat))) (b := 1) g17_f1 rfl (by omega) ?_)
      refine xl_op (P := Tryz.prog) (some 17) rfl rfl (ox_move (v := (.int .i64 ((i : Nat) + 1))) rfl ?_)
      refine xl_nil ?_
      have y1 : Chg (fun b => ((.slice A1 s.names.length s.names.length) : Value).ownBlock = some b) w5 w7 := (Chg.trans (Chg.trans (Chg.refl (fun b => ((.slice A1 s.names.length s.names.length) : Value).ownBlock = some b) w5) x1 (fun b hb hl => hb)) e6 (fun b hb hl => hb))
      exact ⟨rfl, s.names.length - (i + 1), by omega, i + 1, (h.set i ((most + 1))), by omega, (by omega), (by rw [hq]; exact rep_next (by omega)), g4_f1, g5_f1, g6_f1, g7_f1, g8_f1, g9_f1, g16_f1, (by first | exact rfl | exact (congrArg (Value.int .i64) (by omega))), o2, y1⟩
    · skip
      refine xc_exit ?_
      refine xc_seq ?_
      refine xc_region ?_
      refine xl_op (P := Tryz.prog) (some 26) rfl rfl (ox_move (v := (.slice A1 s.names.length s.names.length)) g9_f1 ?_)
      refine xl_op (P := Tryz.prog) (some 27) rfl rfl (ox_mkFunc (cs := [(.pointer (some ⟨w.heap.size, 0, none⟩)), (.pointer (some ⟨w1.heap.size, 0, none⟩)), (.pointer (some ⟨w3.heap.size, 0, none⟩)), (.pointer (some ⟨w2.heap.size, 0, none⟩))]) (cons_eq g4_f1 (cons_eq g5_f1 (cons_eq g7_f1 (cons_eq g6_f1 rfl)))) ?_)
      have hrep : h = List.replicate s.names.length (most + 1) := by rw [hq, show i = s.names.length from (by omega)]; simp
      have q2 := (((((b1.ext e2).ext e3).ext e4).ext e5).keep x1 (fun _h => o1.ne_blk ((((b1.ext e2).ext e3).ext e4).ext e5) (by decide) _ _h rfl))
      have q3 := ((((b2.ext e3).ext e4).ext e5).keep x1 (fun _h => by have _q := lo1 _ _h; have _q2 := b2.lt; omega))
      have q4 := ((b4.ext e5).keep x1 (fun _h => o1.ne_blk (b4.ext e5) (by decide) _ _h rfl))
      have q5 := (((b3.ext e4).ext e5).keep x1 (fun _h => by have _q := lo1 _ _h; have _q2 := b3.lt; omega))
      have hoR := o0_f1
      rw [hrep] at hoR
      have x2 : Ext w w6 := (Chg.trans (Ext.trans (Ext.trans (Ext.trans (Ext.trans e1 e2) e3) e4) e5) x1 (fun b hb hl => (absurd hl (by have _h := lo1 b hb; omega))))
      refine xl_op (P := Tryz.prog) (some 28) rfl rfl (ox_callE (al := [(.slice A1 s.names.length s.names.length), (.func (.func 125) #[] #[(.pointer (some ⟨w.heap.size, 0, none⟩)), (.pointer (some ⟨w1.heap.size, 0, none⟩)), (.pointer (some ⟨w3.heap.size, 0, none⟩)), (.pointer (some ⟨w2.heap.size, 0, none⟩))])]) pf_124 rfl (ret_mono (fixedI s.names.length s.names.length A1 _ (fun h => stepS add most τ s.g.prods h false) sumN (fun h => h.length = s.names.length ∧ ∀ v ∈ h, 0 ≤ v ∧ v ≤ most + 1) 125 [(.pointer (some ⟨w.heap.size, 0, none⟩)), (.pointer (some ⟨w1.heap.size, 0, none⟩)), (.pointer (some ⟨w3.heap.size, 0, none⟩)), (.pointer (some ⟨w2.heap.size, 0, none⟩))] w6 hoR pf_125 ⟨List.length_replicate, fun v hv => by rw [List.eq_of_mem_replicate hv]; omega⟩ (fun h hI hg => stepS_inv hG hadd hmost hτ hI hg) (fun h W hI hO' hc => sums1_calls s w.heap.size w1.heap.size w3.heap.size w2.heap.size s.names.length s.names.length A1 h add most τ G CB w W (q2.keep hc (fun _h => hoR.ne_blk q2 (by decide) _ _h rfl)) (q3.keep hc (fun _h => by have _a := lo1 _ _h; omega)) (q4.keep hc (fun _h => hoR.ne_blk q4 (by decide) _ _h rfl)) (q5.keep hc (fun _h => by have _a := lo1 _ _h; omega)) (Chg.trans x2 hc (fun b hb hl => absurd hl (by have _h := lo1 b hb; omega))) (fun k hk => by have _h := lo1 k hk; omega) hS hG rfl hO' hI.2 (fun k hk => by have _h := lo1 k hk; constructor <;> omega) hadd hmost hp hτ hg)) ?_))
      rintro _ w8 ⟨rfl, o3, y2⟩
      have hy2 := y2.size
      refine xl_op (P := Tryz.prog) (some 8) rfl rfl (ox_assign (v := (.slice A1 s.names.length s.names.length)) rfl ?_)
      refine xl_nil ?_
      refine xc_ret ?_
      change leaves _ _ _ _ _ _ _
      refine leaves_nil (n := 29) (rs := [.tmp 8]) (vs := [(.slice A1 s.names.length s.names.length)]) rfl ⟨⟨by decide, rfl⟩, trivial⟩ ?_
      have x3 : Ext w w8 := (Chg.trans x2 y2 (fun b hb hl => (absurd hl (by have _h := lo1 b hb; omega))))
      exact ⟨A1, rfl, by have h9 := o3; exact h9, fun k hk => by have _h := lo1 k hk; omega, x3⟩
end Go.Proofs.YtnnmdkglgnlenaaGreatDoor
set_option linter.unusedVariables false
set_option linter.unusedSimpArgs false
set_option maxRecDepth 100000
set_option maxHeartbeats 4000000
namespace Go.Proofs.YtnnmdkglgnlenaaGreatDoor
open Go Go.RowKit Go.Vx
abbrev RS := (List Bool × List Bool) × Bool
def markR (x : Sym) (st : RS) : RS :=
  if x.kind = 1 then ((st.1.1, st.1.2.set x.n.toNat true), st.2 || !st.1.2[x.n.toNat]!)
  else if x.kind = 3 then ((st.1.1.set x.n.toNat true, st.1.2), st.2 || !st.1.1[x.n.toNat]!) else st
def rowR : List Sym → RS → RS
  | [], st => st
  | x :: r, st => rowR r (markR x st)
def stepR : List P2 → RS → RS
  | [], st => st
  | p :: r, st => if st.1.1[p.1.toNat]! = true then stepR r (rowR p.2 st) else stepR r st
theorem stepR_yes {p : P2} {r : List P2} {st : RS} (h : st.1.1[p.1.toNat]! = true) : stepR (p :: r) st = stepR r (rowR p.2 st) := by rw [stepR, if_pos h]
theorem stepR_no {p : P2} {r : List P2} {st : RS} (h : st.1.1[p.1.toNat]! = false) : stepR (p :: r) st = stepR r st := by rw [stepR, if_neg (by rw [h]; decide)]
theorem rowR_next {l : List Sym} {k : Nat} {y : Sym} {st st' : RS} (hy : l[k]? = some y) (h : markR y st = st') : rowR (l.drop k) st = rowR (l.drop (k + 1)) st' := by rw [drop_get hy, rowR, h]
theorem markR_term {x : Sym} {a b : List Bool} {g y : Bool} (hk : x.kind = 1) (hy : b[x.n.toNat]! = y) : markR x ((a, b), g) = ((a, b.set x.n.toNat true), g || !y) := by unfold markR; rw [if_pos hk]; simp only [hy]
theorem markR_name {x : Sym} {a b : List Bool} {g y : Bool} (hk : x.kind = 3) (hy : a[x.n.toNat]! = y) : markR x ((a, b), g) = ((a.set x.n.toNat true, b), g || !y) := by unfold markR; rw [if_neg (by omega), if_pos hk]; simp only [hy]
theorem markR_else {x : Sym} {st : RS} (h1 : ¬ (x.kind = 1)) (h3 : ¬ (x.kind = 3)) : markR x st = st := by unfold markR; rw [if_neg h1, if_neg h3]
theorem tA_163 : isAggT Tryz.prog 163 = some true := by kernel_rfl
theorem tF_163_0 : fieldT Tryz.prog 163 0 = some 0 := by kernel_rfl
theorem tF_163_1 : fieldT Tryz.prog 163 1 = some 1 := by kernel_rfl
theorem tS_163 : sizeT Tryz.prog 163 = some 2 := by kernel_rfl
theorem tZ_163 : zeroOf Tryz.prog 163 = some (.agg #[(.slice none 0 0), (.slice none 0 0)]) := by kernel_rfl
theorem reached1_calls (s : SP) (bs n c m d : Nat) (A B : Option Addr) (a0 b0 : List Bool) (w0 : World) (w : World) (hbs : Blk w bs #[(.slice s.lA s.lex.length s.lc), (.slice s.nA s.names.length s.nc), (.int .i64 s.start), (.slice s.pA s.prods.length s.pc)] 26) (hE0 : Ext w0 w) (hloA : ∀ k, (Value.slice A n c).ownBlock = some k → w0.heap.size ≤ k) (hloB : ∀ k, (Value.slice B m d).ownBlock = some k → w0.heap.size ≤ k) (hne : ∀ k, (Value.slice A n c).ownBlock = some k → (Value.slice B m d).ownBlock = some k → False) (hS : SpR w0 s) (hG : GoodG s.g) (hn : n = s.names.length) (hm : m = s.lex.length) (hA : Vx.Own w 4 1 (.slice A n c) n (a0.flatMap bools)) (hB : Vx.Own w 4 1 (.slice B m d) m (b0.flatMap bools)) :
    Calls Tryz.prog 119 #[(.agg #[(.slice A n c), (.slice B m d)]), (.pointer (some ⟨bs, 0, none⟩))] w (Ret (fun v w' => v = .tuple #[.agg #[.slice A n c, .slice B m d], .bool (stepR s.g.prods ((a0, b0), false)).2] ∧ Vx.Own w' 4 1 (.slice A n c) n (((stepR s.g.prods ((a0, b0), false)).1.1).flatMap bools) ∧ Vx.Own w' 4 1 (.slice B m d) m (((stepR s.g.prods ((a0, b0), false)).1.2).flatMap bools) ∧ Chg (fun b => (Value.slice A n c).ownBlock = some b ∨ (Value.slice B m d).ownBlock = some b) w w')) := by
  have hfp := hS.fp.le; have hfn := hS.fn.le; have hfl := hS.fl.le
  have hsz0_ := hE0.size
  refine calls_xc (n := 61) (f := fun s_ => [(.agg #[(.slice A n c), (.slice B m d)]), (.pointer (some ⟨bs, 0, none⟩))].getD s_ undef) Tryz.func119 rfl rfl (by simp) (fun s_ => by simp) ?_
  refine xc_seq ?_
  refine xc_region ?_
  refine xl_op (P := Tryz.prog) (some 2) rfl rfl (ox_box (v := (.agg #[(.slice A n c), (.slice B m d)])) rfl ?_)
  intro w1 e1 z1 b1
  replace b1 : Blk w1 w.heap.size #[(.slice A n c), (.slice B m d)] 163 := b1
  refine xl_op (P := Tryz.prog) (some 3) rfl rfl (ox_alloc tZ_163 ?_)
  intro w2 e2 z2 b2
  replace b2 : Blk w2 w1.heap.size #[(.slice none 0 0), (.slice none 0 0)] 163 := b2
  refine xl_op (P := Tryz.prog) (some 4) rfl rfl (ox_assign (v := (.bool false)) rfl ?_)
  refine xl_nil ?_
  refine xc_seq ?_
  refine xc_region ?_
  refine xl_op (P := Tryz.prog) (some 5) rfl rfl (ox_assign (v := (.bool false)) rfl ?_)
  refine xl_nil ?_
  refine xc_seq ?_
  refine xc_seq ?_
  refine xc_region ?_
  refine xl_op (P := Tryz.prog) (some 11) rfl rfl (ox_fieldAddr (b := bs) (o := 0) tF_26_3 rfl ?_)
  refine xl_op (P := Tryz.prog) (some 12) rfl rfl (ox_load (v := (.slice s.pA s.prods.length s.pc)) tA_24 rfl (((hbs.ext e1).ext e2).cell rfl) ?_)
  refine xl_op (P := Tryz.prog) (some 13) rfl rfl (ox_len (A := s.pA) (n := s.prods.length) (cp := s.pc) rfl tU_24 rfl ?_)
  refine xl_op (P := Tryz.prog) (some 14) rfl rfl (ox_move (v := (.int .i64 0)) rfl ?_)
  refine xl_nil ?_
  refine xc_block ?_
  refine xc_loopN (fun m_ f_ Wx => ∃ (i : Nat) (g : Bool) (a : List Bool) (b : List Bool), m_ = s.prods.length - i ∧ (i ≤ s.prods.length) ∧ (stepR s.g.prods ((a0, b0), false) = stepR (s.g.prods.drop i) ((a, b), g)) ∧ f_ 2 = (.pointer (some ⟨w.heap.size, 0, none⟩)) ∧ f_ 3 = (.pointer (some ⟨w1.heap.size, 0, none⟩)) ∧ f_ 4 = (.bool false) ∧ f_ 12 = (.slice s.pA s.prods.length s.pc) ∧ f_ 13 = (.int .i64 (((s.prods.length : Nat) : Int))) ∧ f_ 14 = (.int .i64 ((i : Nat))) ∧ f_ 5 = (.bool g) ∧ Vx.Own Wx 4 1 (.slice A n c) n (a.flatMap bools) ∧ Vx.Own Wx 4 1 (.slice B m d) m (b.flatMap bools) ∧ Chg (fun b => ((.slice A n c) : Value).ownBlock = some b ∨ ((.slice B m d) : Value).ownBlock = some b) w2 Wx) (s.prods.length) ?_ ?_
  · exact ⟨0, false, a0, b0, (by omega), (by omega), rfl, rfl, rfl, rfl, rfl, rfl, (by first | exact rfl | exact (congrArg (Value.int .i64) (by omega))), rfl, ((hA.ext e1).ext e2), ((hB.ext e1).ext e2), (Chg.refl _ _)⟩
  · rintro m_ f1 w3 ⟨i, g, a, b, hm_f1, hi, hq, g2_f1, g3_f1, g4_f1, g12_f1, g13_f1, g14_f1, g5_f1, o0_f1, o1_f1, x1⟩
    have hx1 := x1.size
    have hl_a : a.length = n := by have _q := (o0_f1).len; rw [fm_len bools_len] at _q; omega
    have hl_b : b.length = m := by have _q := (o1_f1).len; rw [fm_len bools_len] at _q; omega
    refine xc_seq ?_
    refine xc_region ?_
    refine xl_op (P := Tryz.prog) (some 15) rfl rfl (ox_lss (k := .i64) (a := ((i : Nat))) (b := (((s.prods.length : Nat) : Int))) g14_f1 g13_f1 ?_)
    refine xl_nil ?_
    refine xc_seq ?_
    refine xc_if (p := ((i : Nat) : Int) < (((s.prods.length : Nat) : Int))) rfl (fun h1 => ?_) (fun h1 => ?_)
    · skip
      refine xc_skip ?_
      refine xc_seq ?_
      refine xc_block ?_
      refine xc_seq ?_
      refine xc_region ?_
      have x2 : Ext w0 w3 := (Chg.trans (Ext.trans (Ext.trans hE0 e1) e2) x1 (fun b hb hl => hb.elim (fun hb => (absurd hl (by have _h := hloA b hb; omega))) (fun hb => (absurd hl (by have _h := hloB b hb; omega)))))
      obtain ⟨x_1, g_1, o_1, hx_1⟩ := row_may (A := s.pA) (cs := PD.cs) i PD.len (by decide) (RowA.ext hS.prods x2)
      obtain ⟨hx_2, hA_1, hc_1⟩ := hx_1 (by first | omega | (simp only [List.length_drop, List.length_replicate, List.length_set, List.length_append, List.length_map, List.length_singleton] at *; omega))
      have hfr_x_1 := (hS.fr _ (List.mem_of_getElem? hx_2)).le
      have hgd_x_1 := hG.2 _ (List.mem_of_getElem? (map_get (f := PD.d) hx_2))
      have hgl_x_1 : 0 ≤ x_1.left ∧ x_1.left < (s.names.length : Int) := ⟨hgd_x_1.1, hgd_x_1.2.1⟩
      refine xl_op (P := Tryz.prog) (some 16) rfl rfl (ox_ixA (b := g_1) (o := o_1) (i := ((i : Nat))) i tE_24 hA_1 g12_f1 g14_f1 rfl (by omega) ?_)
      refine xl_op (P := Tryz.prog) (some 17) rfl rfl (ox_loadN (vs := [(.int .i64 x_1.left), (.slice x_1.rA x_1.right.length x_1.rc)]) tA_37 tS_37 rfl rfl hc_1 ?_)
      refine xl_op (P := Tryz.prog) (some 7) rfl rfl (ox_alloc tZ_37 ?_)
      intro w4 e3 z3 b3
      replace b3 : Blk w4 w3.heap.size #[(.int .i64 0), (.slice none 0 0)] 37 := b3
      refine xl_op (P := Tryz.prog) none rfl rfl (ox_store (n := 2) (vs := [(.int .i64 x_1.left), (.slice x_1.rA x_1.right.length x_1.rc)]) tS_37 rfl (v := (.agg #[(.int .i64 x_1.left), (.slice x_1.rA x_1.right.length x_1.rc)])) rfl rfl rfl rfl b3 (Nat.le_of_ble_eq_true rfl) ?_)
      intro w5 e4 z4 b4
      replace b4 : Blk w5 w3.heap.size #[(.int .i64 x_1.left), (.slice x_1.rA x_1.right.length x_1.rc)] 37 := blk_full b4 rfl
      refine xl_nil ?_
      refine xc_seq ?_
      refine xc_seq ?_
      refine xc_region ?_
      refine xl_op (P := Tryz.prog) (some 18) rfl rfl (ox_fieldAddr (b := w.heap.size) (o := 0) tF_163_0 g2_f1 ?_)
      have q1 := ((b1.ext e2).keep x1 (fun hb => hb.elim (fun _h => ((hA.ext e1).ext e2).ne_blk (b1.ext e2) (by decide) _ _h rfl) (fun _h => ((hB.ext e1).ext e2).ne_blk (b1.ext e2) (by decide) _ _h rfl)))
      have q2 := ((q1.ext e3).keep1 e4 ((q1.ext e3).ne b3 (by decide)))
      refine xl_op (P := Tryz.prog) (some 19) rfl rfl (ox_load (v := (.slice A n c)) tA_144 rfl (q2.cell rfl) ?_)
      refine xl_op (P := Tryz.prog) (some 20) rfl rfl (ox_fieldAddr (b := w3.heap.size) (o := 0) tF_37_0 rfl ?_)
      refine xl_op (P := Tryz.prog) (some 21) rfl rfl (ox_load (v := (.int .i64 x_1.left)) tA_3 rfl (b4.cell rfl) ?_)
      have q3 := ((o0_f1.ext e3).keep1 e4 (fun k hk => (o0_f1.ext e3).ne_blk b3 (by decide) k hk))
      obtain ⟨x_2, g_2, hx_3⟩ := own_may (A := A) x_1.left.toNat bools_len (by decide) q3
      obtain ⟨hx_4, hA_2, hc_2⟩ := hx_3 (by first | omega | (simp only [List.length_drop, List.length_replicate, List.length_set, List.length_append, List.length_map, List.length_singleton] at *; omega))
      refine xl_op (P := Tryz.prog) (some 22) rfl rfl (ox_ixA (b := g_2) (o := 0) (i := x_1.left) x_1.left.toNat tE_144 hA_2 rfl rfl (by omega) (by omega) ?_)
      refine xl_op (P := Tryz.prog) (some 23) rfl rfl (ox_load (v := (.bool x_2)) tA_4 rfl (CellsL.at1 hc_2 0 rfl) ?_)
      refine xl_op (P := Tryz.prog) (some 24) rfl rfl (ox_not (b := x_2) rfl ?_)
      refine xl_nil ?_
      refine xc_cond (b := (!x_2)) rfl (fun h2 => ?_) (fun h2 => ?_)
      · skip
        have h2' := h2
        try simp only [Bool.or_eq_true, Bool.and_eq_true, decide_eq_true_eq, Bool.or_eq_false_iff, Bool.and_eq_false_iff, decide_eq_false_iff_not, Bool.not_eq_true', Bool.not_eq_false'] at h2'
        have hy_ : x_2 = false := by simpa using h2
        refine xc_exit ?_
        refine xc_region ?_
        refine xl_op (P := Tryz.prog) (some 58) rfl rfl (ox_add64 (a := ((i : Nat))) (b := 1) g14_f1 rfl (by omega) ?_)
        refine xl_op (P := Tryz.prog) (some 14) rfl rfl (ox_move (v := (.int .i64 ((i : Nat) + 1))) rfl ?_)
        refine xl_nil ?_
        have q4 := ((o1_f1.ext e3).keep1 e4 (fun k hk => (o1_f1.ext e3).ne_blk b3 (by decide) k hk))
        have y1 : Chg (fun b => ((.slice A n c) : Value).ownBlock = some b ∨ ((.slice B m d) : Value).ownBlock = some b) w2 w5 := (Chg.chg1 (Chg.ext (Chg.trans (Chg.refl (fun b => ((.slice A n c) : Value).ownBlock = some b ∨ ((.slice B m d) : Value).ownBlock = some b) w2) x1 (fun b hb hl => hb)) e3) e4 (.inr (by omega)))
        exact ⟨rfl, s.prods.length - (i + 1), by omega, i + 1, g, a, b, by omega, (by omega), (hq.trans ((congrArg (fun z => stepR z ((a, b), g)) (SP.dp hx_2)).trans (stepR_no (p := x_1.d) (by show a[x_1.left.toNat]! = false; rw [bang_of hx_4]; exact hy_)))), g2_f1, g3_f1, g4_f1, g12_f1, g13_f1, (by first | exact rfl | exact (congrArg (Value.int .i64) (by omega))), g5_f1, q3, q4, y1⟩
      · skip
        have h2' := h2
        try simp only [Bool.or_eq_true, Bool.and_eq_true, decide_eq_true_eq, Bool.or_eq_false_iff, Bool.and_eq_false_iff, decide_eq_false_iff_not, Bool.not_eq_true', Bool.not_eq_false'] at h2'
        have hy_ : x_2 = true := by simpa using h2
        refine xc_skip ?_
        refine xc_seq ?_
        refine xc_region ?_
        refine xl_op (P := Tryz.prog) (some 25) rfl rfl (ox_fieldAddr (b := w3.heap.size) (o := 0) tF_37_1 rfl ?_)
        refine xl_op (P := Tryz.prog) (some 26) rfl rfl (ox_load (v := (.slice x_1.rA x_1.right.length x_1.rc)) tA_33 rfl (b4.cell rfl) ?_)
        refine xl_op (P := Tryz.prog) (some 27) rfl rfl (ox_len (A := x_1.rA) (n := x_1.right.length) (cp := x_1.rc) rfl tU_33 rfl ?_)
        refine xl_op (P := Tryz.prog) (some 28) rfl rfl (ox_move (v := (.int .i64 0)) rfl ?_)
        refine xl_nil ?_
        refine xc_block ?_
        have q5 := ((o1_f1.ext e3).keep1 e4 (fun k hk => (o1_f1.ext e3).ne_blk b3 (by decide) k hk))
        refine xc_loopN (fun m_ f_ Wx => ∃ (k : Nat) (g' : Bool) (a' : List Bool) (b' : List Bool), m_ = x_1.right.length - k ∧ (k ≤ x_1.right.length) ∧ (rowR x_1.right ((a, b), g) = rowR (x_1.right.drop k) ((a', b'), g')) ∧ f_ 2 = (.pointer (some ⟨w.heap.size, 0, none⟩)) ∧ f_ 3 = (.pointer (some ⟨w1.heap.size, 0, none⟩)) ∧ f_ 4 = (.bool false) ∧ f_ 12 = (.slice s.pA s.prods.length s.pc) ∧ f_ 13 = (.int .i64 (((s.prods.length : Nat) : Int))) ∧ f_ 14 = (.int .i64 ((i : Nat))) ∧ f_ 15 = (.bool (decide (((i : Nat) : Int) < (((s.prods.length : Nat) : Int))))) ∧ f_ 16 = (.pointer (some ⟨g_1, o_1 + i * 2, none⟩)) ∧ f_ 17 = (.agg #[(.int .i64 x_1.left), (.slice x_1.rA x_1.right.length x_1.rc)]) ∧ f_ 7 = (.pointer (some ⟨w3.heap.size, 0, none⟩)) ∧ f_ 18 = (.pointer (some ⟨w.heap.size, 0, none⟩)) ∧ f_ 19 = (.slice A n c) ∧ f_ 20 = (.pointer (some ⟨w3.heap.size, 0, none⟩)) ∧ f_ 21 = (.int .i64 x_1.left) ∧ f_ 22 = (.pointer (some ⟨g_2, 0 + x_1.left.toNat * 1, none⟩)) ∧ f_ 23 = (.bool x_2) ∧ f_ 24 = (.bool (!x_2)) ∧ f_ 25 = (.pointer (some ⟨w3.heap.size, 1, none⟩)) ∧ f_ 26 = (.slice x_1.rA x_1.right.length x_1.rc) ∧ f_ 27 = (.int .i64 (((x_1.right.length : Nat) : Int))) ∧ f_ 28 = (.int .i64 ((k : Nat))) ∧ f_ 5 = (.bool g') ∧ Vx.Own Wx 4 1 (.slice A n c) n (a'.flatMap bools) ∧ Vx.Own Wx 4 1 (.slice B m d) m (b'.flatMap bools) ∧ Chg (fun b => ((.slice A n c) : Value).ownBlock = some b ∨ ((.slice B m d) : Value).ownBlock = some b) w5 Wx) (x_1.right.length) ?_ ?_
        · exact ⟨0, g, a, b, (by omega), (by omega), rfl, g2_f1, g3_f1, g4_f1, g12_f1, g13_f1, g14_f1, rfl, rfl, rfl, rfl, rfl, rfl, rfl, rfl, rfl, rfl, rfl, rfl, rfl, rfl, (by first | exact rfl | exact (congrArg (Value.int .i64) (by omega))), g5_f1, q3, q5, (Chg.refl _ _)⟩
        · rintro m_ f2 w6 ⟨k, g', a', b', hm_f2, hk, hk2, g2_f2, g3_f2, g4_f2, g12_f2, g13_f2, g14_f2, g15_f2, g16_f2, g17_f2, g7_f2, g18_f2, g19_f2, g20_f2, g21_f2, g22_f2, g23_f2, g24_f2, g25_f2, g26_f2, g27_f2, g28_f2, g5_f2, o0_f2, o1_f2, x3⟩
          have hx3 := x3.size
          have hl_a' : a'.length = n := by have _q := (o0_f2).len; rw [fm_len bools_len] at _q; omega
          have hl_b' : b'.length = m := by have _q := (o1_f2).len; rw [fm_len bools_len] at _q; omega
          refine xc_seq ?_
          refine xc_region ?_
          refine xl_op (P := Tryz.prog) (some 29) rfl rfl (ox_lss (k := .i64) (a := ((k : Nat))) (b := (((x_1.right.length : Nat) : Int))) g28_f2 g27_f2 ?_)
          refine xl_nil ?_
          refine xc_seq ?_
          refine xc_if (p := ((k : Nat) : Int) < (((x_1.right.length : Nat) : Int))) rfl (fun h3 => ?_) (fun h3 => ?_)
          · skip
            refine xc_skip ?_
            refine xc_seq ?_
            refine xc_block ?_
            refine xc_seq ?_
            refine xc_region ?_
            have x4 : Ext w0 w6 := (Chg.trans (Ext.chg1 (Ext.trans x2 e3) e4 (by omega)) x3 (fun b hb hl => hb.elim (fun hb => (absurd hl (by have _h := hloA b hb; omega))) (fun hb => (absurd hl (by have _h := hloB b hb; omega)))))
            obtain ⟨x_3, g_3, o_3, hx_5⟩ := row_may (A := x_1.rA) (cs := Sym.cs) k Sym.len (by decide) (RowA.ext ((hS.right _ (List.mem_of_getElem? hx_2))) x4)
            obtain ⟨hx_6, hA_3, hc_3⟩ := hx_5 (by first | omega | (simp only [List.length_drop, List.length_replicate, List.length_set, List.length_append, List.length_map, List.length_singleton] at *; omega))
            refine xl_op (P := Tryz.prog) (some 30) rfl rfl (ox_ixA (b := g_3) (o := o_3) (i := ((k : Nat))) k tE_33 hA_3 g26_f2 g28_f2 rfl (by omega) ?_)
            refine xl_op (P := Tryz.prog) (some 31) rfl rfl (ox_loadN (vs := [(.int .i64 x_3.kind), (.int .i64 x_3.n)]) tA_32 tS_32 rfl rfl hc_3 ?_)
            refine xl_op (P := Tryz.prog) (some 9) rfl rfl (ox_alloc tZ_32 ?_)
            intro w7 e5 z5 b5
            replace b5 : Blk w7 w6.heap.size #[(.int .i64 0), (.int .i64 0)] 32 := b5
            refine xl_op (P := Tryz.prog) none rfl rfl (ox_store (n := 2) (vs := [(.int .i64 x_3.kind), (.int .i64 x_3.n)]) tS_32 rfl (v := (.agg #[(.int .i64 x_3.kind), (.int .i64 x_3.n)])) rfl rfl rfl rfl b5 (Nat.le_of_ble_eq_true rfl) ?_)
            intro w8 e6 z6 b6
            replace b6 : Blk w8 w6.heap.size #[(.int .i64 x_3.kind), (.int .i64 x_3.n)] 32 := blk_full b6 rfl
            refine xl_nil ?_
            refine xc_seq ?_
            refine xc_region ?_
            refine xl_op (P := Tryz.prog) (some 10) rfl rfl (ox_assign (v := (.pointer none)) rfl ?_)
            refine xl_nil ?_
            refine xc_seq ?_
            refine xc_seq ?_
            refine xc_region ?_
            refine xl_op (P := Tryz.prog) (some 32) rfl rfl (ox_fieldAddr (b := w6.heap.size) (o := 0) tF_32_0 rfl ?_)
            refine xl_op (P := Tryz.prog) (some 33) rfl rfl (ox_load (v := (.int .i64 x_3.kind)) tA_3 rfl (b6.cell rfl) ?_)
            refine xl_nil ?_
            refine xc_block ?_
            refine xc_seq ?_
            refine xc_region ?_
            refine xl_op (P := Tryz.prog) (some 35) rfl rfl (ox_eql (k := .i64) (a := x_3.kind) (b := 1) rfl rfl ?_)
            refine xl_op (P := Tryz.prog) (some 34) rfl rfl (ox_assign (v := (.bool (decide ((x_3.kind : Int) = 1)))) rfl ?_)
            refine xl_nil ?_
            refine xc_if (p := (x_3.kind : Int) = 1) rfl (fun h4 => ?_) (fun h4 => ?_)
            · skip
              have hsy_ := hgd_x_1.2.2 x_3 (List.mem_of_getElem? hx_6)
              have hst_ := (symE_term hsy_ (by omega)).1; have hgl_ := s.glex
              refine xc_region ?_
              refine xl_op (P := Tryz.prog) (some 36) rfl rfl (ox_fieldAddr (b := w.heap.size) (o := 0) tF_163_1 g2_f2 ?_)
              have q6 := (q2.keep x3 (fun hb => hb.elim (fun _h => q3.ne_blk q2 (by decide) _ _h rfl) (fun _h => q5.ne_blk q2 (by decide) _ _h rfl)))
              have q7 := ((q6.ext e5).keep1 e6 ((q6.ext e5).ne b5 (by decide)))
              refine xl_op (P := Tryz.prog) (some 37) rfl rfl (ox_load (v := (.slice B m d)) tA_144 rfl (q7.cell rfl) ?_)
              refine xl_op (P := Tryz.prog) (some 38) rfl rfl (ox_fieldAddr (b := w6.heap.size) (o := 0) tF_32_1 rfl ?_)
              refine xl_op (P := Tryz.prog) (some 39) rfl rfl (ox_load (v := (.int .i64 x_3.n)) tA_3 rfl (b6.cell rfl) ?_)
              have q8 := ((o1_f2.ext e5).keep1 e6 (fun k hk => (o1_f2.ext e5).ne_blk b5 (by decide) k hk))
              obtain ⟨x_4, g_4, hx_7⟩ := own_may (A := B) x_3.n.toNat bools_len (by decide) q8
              obtain ⟨hx_8, hA_4, hc_4⟩ := hx_7 (by first | omega | (simp only [List.length_drop, List.length_replicate, List.length_set, List.length_append, List.length_map, List.length_singleton] at *; omega))
              refine xl_op (P := Tryz.prog) (some 40) rfl rfl (ox_ixA (b := g_4) (o := 0) (i := x_3.n) x_3.n.toNat tE_144 hA_4 rfl rfl (by omega) (by omega) ?_)
              refine xl_op (P := Tryz.prog) (some 10) rfl rfl (ox_assign (v := (.pointer (some ⟨g_4, 0 + x_3.n.toNat * 1, none⟩))) rfl ?_)
              refine xl_nil ?_
              refine xc_seq ?_
              refine xc_region ?_
              refine xl_op (P := Tryz.prog) (some 48) rfl rfl (ox_move (v := (.bool g')) g5_f2 ?_)
              refine xl_op (P := Tryz.prog) (some 49) rfl rfl (ox_move (v := (.bool g')) rfl ?_)
              refine xl_may (P := Tryz.prog) (some 50) (j := 1) (b := false) (g' = false) (.bool g') (.pointer (some ⟨g_4, 0 + x_3.n.toNat * 1, none⟩)) rfl rfl rfl (may_b g' false) (fun hp => ox_move (v := (.pointer (some ⟨g_4, 0 + x_3.n.toNat * 1, none⟩))) rfl ⟨rfl, rfl⟩) ?_
              refine xl_may (P := Tryz.prog) (some 51) (j := 1) (b := false) (g' = false) (.bool g') (.pointer (some ⟨g_4, 0 + x_3.n.toNat * 1, none⟩)) rfl rfl rfl (may_b g' false) (fun hp => ox_nilCheck (p := ⟨g_4, 0 + x_3.n.toNat * 1, none⟩) (if_pos (α := Value) (t := (.pointer (some ⟨g_4, 0 + x_3.n.toNat * 1, none⟩))) (e := undef) hp) ⟨rfl, rfl⟩) ?_
              refine xl_may (P := Tryz.prog) (some 52) (j := 1) (b := false) (g' = false) (.bool g') (.bool x_4) rfl rfl rfl (may_b g' false) (fun hp => ox_load (v := (.bool x_4)) tA_4 (if_pos (α := Value) (t := (.pointer (some ⟨g_4, 0 + x_3.n.toNat * 1, none⟩))) (e := undef) hp) (CellsL.at1 hc_4 0 rfl) ⟨rfl, rfl⟩) ?_
              refine xl_may (P := Tryz.prog) (some 53) (j := 1) (b := false) (g' = false) (.bool g') (.bool (!x_4)) rfl rfl rfl (may_b g' false) (fun hp => ox_not (b := x_4) (if_pos (α := Value) (t := (.bool x_4)) (e := undef) hp) ⟨rfl, rfl⟩) ?_
              refine xl_op (P := Tryz.prog) (some 54) rfl rfl (ox_pick_or (a := g') (b := ((!x_4))) rfl rfl (fun ha => (if_pos (α := Value) (t := (.bool (!x_4))) (e := undef) ha)) ?_)
              refine xl_op (P := Tryz.prog) (some 5) rfl rfl (ox_assign (v := (.bool (g' || ((!x_4))))) rfl ?_)
              refine xl_nil ?_
              refine xc_region ?_
              refine xl_op (P := Tryz.prog) (some 55) rfl rfl (ox_move (v := (.pointer (some ⟨g_4, 0 + x_3.n.toNat * 1, none⟩))) rfl ?_)
              refine xl_op (P := Tryz.prog) (some 56) rfl rfl (ox_nilCheck (p := ⟨g_4, 0 + x_3.n.toNat * 1, none⟩) rfl ?_)
              refine xl_op (P := Tryz.prog) none rfl rfl (ox_stE (i := x_3.n.toNat) (off := 0) (vs := [(.bool true)]) (b := (true : Bool)) bools_len tS_4 hA_4 rfl (v := (.bool true)) rfl rfl rfl rfl q8 hx_8 rfl (by decide) (by omega) ?_)
              intro w9 e7 z7 o1
              refine xl_nil ?_
              refine xc_region ?_
              refine xl_op (P := Tryz.prog) (some 57) rfl rfl (ox_add64 (a := ((k : Nat))) (b := 1) g28_f2 rfl (by omega) ?_)
              refine xl_op (P := Tryz.prog) (some 28) rfl rfl (ox_move (v := (.int .i64 ((k : Nat) + 1))) rfl ?_)
              refine xl_nil ?_
              have q9 := ((o0_f2.ext e5).keep1 e6 (fun k hk => (o0_f2.ext e5).ne_blk b5 (by decide) k hk))
              have q10 := (q9.keep e7 (fun _k _hk _hh => hne _k _hk _hh))
              have y2 : Chg (fun b => ((.slice A n c) : Value).ownBlock = some b ∨ ((.slice B m d) : Value).ownBlock = some b) w5 w9 := (Chg.trans (Chg.chg1 (Chg.ext (Chg.trans (Chg.refl (fun b => ((.slice A n c) : Value).ownBlock = some b ∨ ((.slice B m d) : Value).ownBlock = some b) w5) x3 (fun b hb hl => hb)) e5) e6 (.inr (by omega))) e7 (fun b hb hl => .inr hb))
              exact ⟨rfl, x_1.right.length - (k + 1), by omega, k + 1, ((g' || ((!x_4)))), a', (b'.set x_3.n.toNat true), by omega, (by omega), (hk2.trans (rowR_next hx_6 (markR_term (by omega) (bang_of hx_8)))), g2_f2, g3_f2, g4_f2, g12_f2, g13_f2, g14_f2, g15_f2, g16_f2, g17_f2, g7_f2, g18_f2, g19_f2, g20_f2, g21_f2, g22_f2, g23_f2, g24_f2, g25_f2, g26_f2, g27_f2, (by first | exact rfl | exact (congrArg (Value.int .i64) (by omega))), rfl, q10, o1, y2⟩
            · skip
              have hsy_ := hgd_x_1.2.2 x_3 (List.mem_of_getElem? hx_6)
              refine xc_seq ?_
              refine xc_region ?_
              refine xl_op (P := Tryz.prog) (some 42) rfl rfl (ox_eql (k := .i64) (a := x_3.kind) (b := 3) rfl rfl ?_)
              refine xl_op (P := Tryz.prog) (some 41) rfl rfl (ox_assign (v := (.bool (decide ((x_3.kind : Int) = 3)))) rfl ?_)
              refine xl_nil ?_
              refine xc_if (p := (x_3.kind : Int) = 3) rfl (fun h5 => ?_) (fun h5 => ?_)
              · skip
                have hsn_ := symE_name hsy_ (by omega); have hgn : s.g.names = s.names.length := rfl
                refine xc_region ?_
                refine xl_op (P := Tryz.prog) (some 43) rfl rfl (ox_fieldAddr (b := w.heap.size) (o := 0) tF_163_0 g2_f2 ?_)
                have q11 := (q2.keep x3 (fun hb => hb.elim (fun _h => q3.ne_blk q2 (by decide) _ _h rfl) (fun _h => q5.ne_blk q2 (by decide) _ _h rfl)))
                have q12 := ((q11.ext e5).keep1 e6 ((q11.ext e5).ne b5 (by decide)))
                refine xl_op (P := Tryz.prog) (some 44) rfl rfl (ox_load (v := (.slice A n c)) tA_144 rfl (q12.cell rfl) ?_)
                refine xl_op (P := Tryz.prog) (some 45) rfl rfl (ox_fieldAddr (b := w6.heap.size) (o := 0) tF_32_1 rfl ?_)
                refine xl_op (P := Tryz.prog) (some 46) rfl rfl (ox_load (v := (.int .i64 x_3.n)) tA_3 rfl (b6.cell rfl) ?_)
                have q13 := ((o0_f2.ext e5).keep1 e6 (fun k hk => (o0_f2.ext e5).ne_blk b5 (by decide) k hk))
                obtain ⟨x_5, g_5, hx_9⟩ := own_may (A := A) x_3.n.toNat bools_len (by decide) q13
                obtain ⟨hx_10, hA_5, hc_5⟩ := hx_9 (by first | omega | (simp only [List.length_drop, List.length_replicate, List.length_set, List.length_append, List.length_map, List.length_singleton] at *; omega))
                refine xl_op (P := Tryz.prog) (some 47) rfl rfl (ox_ixA (b := g_5) (o := 0) (i := x_3.n) x_3.n.toNat tE_144 hA_5 rfl rfl (by omega) (by omega) ?_)
                refine xl_op (P := Tryz.prog) (some 10) rfl rfl (ox_assign (v := (.pointer (some ⟨g_5, 0 + x_3.n.toNat * 1, none⟩))) rfl ?_)
                refine xl_nil ?_
                refine xc_seq ?_
                refine xc_region ?_
                refine xl_op (P := Tryz.prog) (some 48) rfl rfl (ox_move (v := (.bool g')) g5_f2 ?_)
                refine xl_op (P := Tryz.prog) (some 49) rfl rfl (ox_move (v := (.bool g')) rfl ?_)
                refine xl_may (P := Tryz.prog) (some 50) (j := 1) (b := false) (g' = false) (.bool g') (.pointer (some ⟨g_5, 0 + x_3.n.toNat * 1, none⟩)) rfl rfl rfl (may_b g' false) (fun hp => ox_move (v := (.pointer (some ⟨g_5, 0 + x_3.n.toNat * 1, none⟩))) rfl ⟨rfl, rfl⟩) ?_
                refine xl_may (P := Tryz.prog) (some 51) (j := 1) (b := false) (g' = false) (.bool g') (.pointer (some ⟨g_5, 0 + x_3.n.toNat * 1, none⟩)) rfl rfl rfl (may_b g' false) (fun hp => ox_nilCheck (p := ⟨g_5, 0 + x_3.n.toNat * 1, none⟩) (if_pos (α := Value) (t := (.pointer (some ⟨g_5, 0 + x_3.n.toNat * 1, none⟩))) (e := undef) hp) ⟨rfl, rfl⟩) ?_
                refine xl_may (P := Tryz.prog) (some 52) (j := 1) (b := false) (g' = false) (.bool g') (.bool x_5) rfl rfl rfl (may_b g' false) (fun hp => ox_load (v := (.bool x_5)) tA_4 (if_pos (α := Value) (t := (.pointer (some ⟨g_5, 0 + x_3.n.toNat * 1, none⟩))) (e := undef) hp) (CellsL.at1 hc_5 0 rfl) ⟨rfl, rfl⟩) ?_
                refine xl_may (P := Tryz.prog) (some 53) (j := 1) (b := false) (g' = false) (.bool g') (.bool (!x_5)) rfl rfl rfl (may_b g' false) (fun hp => ox_not (b := x_5) (if_pos (α := Value) (t := (.bool x_5)) (e := undef) hp) ⟨rfl, rfl⟩) ?_
                refine xl_op (P := Tryz.prog) (some 54) rfl rfl (ox_pick_or (a := g') (b := ((!x_5))) rfl rfl (fun ha => (if_pos (α := Value) (t := (.bool (!x_5))) (e := undef) ha)) ?_)
                refine xl_op (P := Tryz.prog) (some 5) rfl rfl (ox_assign (v := (.bool (g' || ((!x_5))))) rfl ?_)
                refine xl_nil ?_
                refine xc_region ?_
                refine xl_op (P := Tryz.prog) (some 55) rfl rfl (ox_move (v := (.pointer (some ⟨g_5, 0 + x_3.n.toNat * 1, none⟩))) rfl ?_)
                refine xl_op (P := Tryz.prog) (some 56) rfl rfl (ox_nilCheck (p := ⟨g_5, 0 + x_3.n.toNat * 1, none⟩) rfl ?_)
                refine xl_op (P := Tryz.prog) none rfl rfl (ox_stE (i := x_3.n.toNat) (off := 0) (vs := [(.bool true)]) (b := (true : Bool)) bools_len tS_4 hA_5 rfl (v := (.bool true)) rfl rfl rfl rfl q13 hx_10 rfl (by decide) (by omega) ?_)
                intro w10 e8 z8 o2
                refine xl_nil ?_
                refine xc_region ?_
                refine xl_op (P := Tryz.prog) (some 57) rfl rfl (ox_add64 (a := ((k : Nat))) (b := 1) g28_f2 rfl (by omega) ?_)
                refine xl_op (P := Tryz.prog) (some 28) rfl rfl (ox_move (v := (.int .i64 ((k : Nat) + 1))) rfl ?_)
                refine xl_nil ?_
                have q14 := ((o1_f2.ext e5).keep1 e6 (fun k hk => (o1_f2.ext e5).ne_blk b5 (by decide) k hk))
                have q15 := (q14.keep e8 (fun _k _hk _hh => hne _k _hh _hk))
                have y3 : Chg (fun b => ((.slice A n c) : Value).ownBlock = some b ∨ ((.slice B m d) : Value).ownBlock = some b) w5 w10 := (Chg.trans (Chg.chg1 (Chg.ext (Chg.trans (Chg.refl (fun b => ((.slice A n c) : Value).ownBlock = some b ∨ ((.slice B m d) : Value).ownBlock = some b) w5) x3 (fun b hb hl => hb)) e5) e6 (.inr (by omega))) e8 (fun b hb hl => .inl hb))
                exact ⟨rfl, x_1.right.length - (k + 1), by omega, k + 1, ((g' || ((!x_5)))), (a'.set x_3.n.toNat true), b', by omega, (by omega), (hk2.trans (rowR_next hx_6 (markR_name (by omega) (bang_of hx_10)))), g2_f2, g3_f2, g4_f2, g12_f2, g13_f2, g14_f2, g15_f2, g16_f2, g17_f2, g7_f2, g18_f2, g19_f2, g20_f2, g21_f2, g22_f2, g23_f2, g24_f2, g25_f2, g26_f2, g27_f2, (by first | exact rfl | exact (congrArg (Value.int .i64) (by omega))), rfl, o2, q15, y3⟩
              · skip
                refine xc_exit ?_
                refine xc_region ?_
                refine xl_op (P := Tryz.prog) (some 57) rfl rfl (ox_add64 (a := ((k : Nat))) (b := 1) g28_f2 rfl (by omega) ?_)
                refine xl_op (P := Tryz.prog) (some 28) rfl rfl (ox_move (v := (.int .i64 ((k : Nat) + 1))) rfl ?_)
                refine xl_nil ?_
                have q16 := ((o0_f2.ext e5).keep1 e6 (fun k hk => (o0_f2.ext e5).ne_blk b5 (by decide) k hk))
                have q17 := ((o1_f2.ext e5).keep1 e6 (fun k hk => (o1_f2.ext e5).ne_blk b5 (by decide) k hk))
                have y4 : Chg (fun b => ((.slice A n c) : Value).ownBlock = some b ∨ ((.slice B m d) : Value).ownBlock = some b) w5 w8 := (Chg.chg1 (Chg.ext (Chg.trans (Chg.refl (fun b => ((.slice A n c) : Value).ownBlock = some b ∨ ((.slice B m d) : Value).ownBlock = some b) w5) x3 (fun b hb hl => hb)) e5) e6 (.inr (by omega)))
                exact ⟨rfl, x_1.right.length - (k + 1), by omega, k + 1, g', a', b', by omega, (by omega), (hk2.trans (rowR_next hx_6 (markR_else (by omega) (by omega)))), g2_f2, g3_f2, g4_f2, g12_f2, g13_f2, g14_f2, g15_f2, g16_f2, g17_f2, g7_f2, g18_f2, g19_f2, g20_f2, g21_f2, g22_f2, g23_f2, g24_f2, g25_f2, g26_f2, g27_f2, (by first | exact rfl | exact (congrArg (Value.int .i64) (by omega))), g5_f2, q16, q17, y4⟩
          · skip
            refine xc_exit ?_
            refine xc_region ?_
            refine xl_op (P := Tryz.prog) (some 58) rfl rfl (ox_add64 (a := ((i : Nat))) (b := 1) g14_f2 rfl (by omega) ?_)
            refine xl_op (P := Tryz.prog) (some 14) rfl rfl (ox_move (v := (.int .i64 ((i : Nat) + 1))) rfl ?_)
            refine xl_nil ?_
            have y5 : Chg (fun b => ((.slice A n c) : Value).ownBlock = some b ∨ ((.slice B m d) : Value).ownBlock = some b) w2 w6 := (Chg.trans (Chg.chg1 (Chg.ext (Chg.trans (Chg.refl (fun b => ((.slice A n c) : Value).ownBlock = some b ∨ ((.slice B m d) : Value).ownBlock = some b) w2) x1 (fun b hb hl => hb)) e3) e4 (.inr (by omega))) x3 (fun b hb hl => hb))
            exact ⟨rfl, s.prods.length - (i + 1), by omega, i + 1, g', a', b', by omega, (by omega), (hq.trans ((congrArg (fun z => stepR z ((a, b), g)) (SP.dp hx_2)).trans ((stepR_yes (p := x_1.d) (by show a[x_1.left.toNat]! = true; rw [bang_of hx_4]; exact hy_)).trans (congrArg (stepR _) (show rowR x_1.right ((a, b), g) = ((a', b'), g') by rw [hk2, List.drop_of_length_le (by omega)]; rfl))))), g2_f2, g3_f2, g4_f2, g12_f2, g13_f2, (by first | exact rfl | exact (congrArg (Value.int .i64) (by omega))), g5_f2, o0_f2, o1_f2, y5⟩
    · skip
      refine xc_exit ?_
      refine xc_seq ?_
      refine xc_region ?_
      have q18 := ((b1.ext e2).keep x1 (fun hb => hb.elim (fun _h => ((hA.ext e1).ext e2).ne_blk (b1.ext e2) (by decide) _ _h rfl) (fun _h => ((hB.ext e1).ext e2).ne_blk (b1.ext e2) (by decide) _ _h rfl)))
      refine xl_op (P := Tryz.prog) (some 59) rfl rfl (ox_loadN (vs := [(.slice A n c), (.slice B m d)]) tA_163 tS_163 g2_f1 rfl ⟨q18.cell rfl, q18.cell rfl, trivial⟩ ?_)
      refine xl_op (P := Tryz.prog) (some 60) rfl rfl (ox_move (v := (.bool g)) g5_f1 ?_)
      have q19 := (b2.keep x1 (fun hb => hb.elim (fun _h => ((hA.ext e1).ext e2).ne_blk b2 (by decide) _ _h rfl) (fun _h => ((hB.ext e1).ext e2).ne_blk b2 (by decide) _ _h rfl)))
      refine xl_op (P := Tryz.prog) none rfl rfl (ox_store (n := 2) (vs := [(.slice A n c), (.slice B m d)]) tS_163 g3_f1 (v := (.agg #[(.slice A n c), (.slice B m d)])) rfl rfl rfl rfl q19 (Nat.le_of_ble_eq_true rfl) ?_)
      intro w11 e9 z9 b7
      replace b7 : Blk w11 w1.heap.size #[(.slice A n c), (.slice B m d)] 163 := blk_full b7 rfl
      refine xl_op (P := Tryz.prog) (some 4) rfl rfl (ox_assign (v := (.bool g)) rfl ?_)
      refine xl_nil ?_
      refine xc_ret ?_
      change leaves _ _ _ _ _ _ _
      refine leaves_nil (n := 61) (rs := [.cell 3 163, .tmp 4]) (vs := [(.agg #[(.slice A n c), (.slice B m d)]), (.bool g)]) rfl ⟨⟨by decide, w1.heap.size, 0, 2, [(.slice A n c), (.slice B m d)], g3_f1, tA_163, tS_163, rfl, ⟨b7.cell rfl, b7.cell rfl, trivial⟩, rfl⟩, ⟨by decide, rfl⟩, trivial⟩ ?_
      have q20 := (o0_f1.keep1 e9 (fun k hk => o0_f1.ne_blk q19 (by decide) k hk))
      have q21 := (o1_f1.keep1 e9 (fun k hk => o1_f1.ne_blk q19 (by decide) k hk))
      have y6 : Chg (fun b => ((.slice A n c) : Value).ownBlock = some b ∨ ((.slice B m d) : Value).ownBlock = some b) w w11 := (Chg.chg1 (Chg.trans (Chg.ext (Chg.ext (Chg.refl (fun b => ((.slice A n c) : Value).ownBlock = some b ∨ ((.slice B m d) : Value).ownBlock = some b) w) e1) e2) x1 (fun b hb hl => hb)) e9 (.inr (by omega)))
      exact ⟨by rw [hq, List.drop_of_length_le (by rw [s.gprods]; omega)]; rfl, by rw [hq, List.drop_of_length_le (by rw [s.gprods]; omega)]; exact q20, by rw [hq, List.drop_of_length_le (by rw [s.gprods]; omega)]; exact q21, y6⟩
theorem fixedR (n c m d : Nat) (A B : Option Addr) (a0 b0 : List Bool) (f : List Bool × List Bool → (List Bool × List Bool) × Bool) (μ : List Bool × List Bool → Nat) (Inv : List Bool × List Bool → Prop) (G : Nat) (CB : List Value) (w : World) (hne : ∀ k, (Value.slice A n c).ownBlock = some k → (Value.slice B m d).ownBlock = some k → False) (hA : Vx.Own w 4 1 (.slice A n c) n (a0.flatMap bools)) (hB : Vx.Own w 4 1 (.slice B m d) m (b0.flatMap bools)) (hp : plainF Tryz.prog G = true) (hI0 : Inv (a0, b0)) (hm : ∀ h, Inv h → (f h).2 = true → Inv (f h).1 ∧ μ (f h).1 < μ h) (hf : ∀ (h : List Bool × List Bool) (W : World), Inv h → Vx.Own W 4 1 (.slice A n c) n (h.1.flatMap bools) → Vx.Own W 4 1 (.slice B m d) m (h.2.flatMap bools) → Chg (fun b => (Value.slice A n c).ownBlock = some b ∨ (Value.slice B m d).ownBlock = some b) w W → Calls Tryz.prog G ([Value.agg #[.slice A n c, .slice B m d]] ++ CB).toArray W (Ret fun v W' => v = .tuple #[.agg #[.slice A n c, .slice B m d], .bool (f h).2] ∧ Vx.Own W' 4 1 (.slice A n c) n (((f h).1.1).flatMap bools) ∧ Vx.Own W' 4 1 (.slice B m d) m (((f h).1.2).flatMap bools) ∧ Chg (fun b => (Value.slice A n c).ownBlock = some b ∨ (Value.slice B m d).ownBlock = some b) W W')) :
    Calls Tryz.prog 118 #[(.agg #[(.slice A n c), (.slice B m d)]), (.func (.func G) #[] CB.toArray)] w (Ret (fun v w' => v = .agg #[.slice A n c, .slice B m d] ∧ Vx.Own w' 4 1 (.slice A n c) n (((fixN f (μ (a0, b0) + 1) (a0, b0)).1).flatMap bools) ∧ Vx.Own w' 4 1 (.slice B m d) m (((fixN f (μ (a0, b0) + 1) (a0, b0)).2).flatMap bools) ∧ Chg (fun b => (Value.slice A n c).ownBlock = some b ∨ (Value.slice B m d).ownBlock = some b) w w')) := by
  refine calls_xc (n := 17) (f := fun s_ => [(.agg #[(.slice A n c), (.slice B m d)]), (.func (.func G) #[] CB.toArray)].getD s_ undef) Tryz.func118 rfl rfl (by simp) (fun s_ => by simp) ?_
  refine xc_seq ?_
  refine xc_region ?_
  refine xl_op (P := Tryz.prog) (some 2) rfl rfl (ox_box (v := (.agg #[(.slice A n c), (.slice B m d)])) rfl ?_)
  intro w1 e1 z1 b1
  replace b1 : Blk w1 w.heap.size #[(.slice A n c), (.slice B m d)] 163 := b1
  refine xl_op (P := Tryz.prog) (some 4) rfl rfl (ox_alloc tZ_163 ?_)
  intro w2 e2 z2 b2
  replace b2 : Blk w2 w1.heap.size #[(.slice none 0 0), (.slice none 0 0)] 163 := b2
  refine xl_nil ?_
  refine xc_block ?_
  have y1 : Chg (fun b => ((.slice A n c) : Value).ownBlock = some b ∨ ((.slice B m d) : Value).ownBlock = some b) w w2 := (Chg.ext (Chg.ext (Chg.refl (fun b => ((.slice A n c) : Value).ownBlock = some b ∨ ((.slice B m d) : Value).ownBlock = some b) w) e1) e2)
  refine xc_loopN (fun m_ f_ Wx => ∃ (a : List Bool) (b : List Bool), m_ = μ (a, b) ∧ (Inv (a, b)) ∧ (fixN f (μ (a0, b0) + 1) (a0, b0) = fixN f (μ (a, b) + 1) (a, b)) ∧ f_ 1 = (.func (.func G) #[] CB.toArray) ∧ f_ 2 = (.pointer (some ⟨w.heap.size, 0, none⟩)) ∧ f_ 4 = (.pointer (some ⟨w1.heap.size, 0, none⟩)) ∧ Vx.Own Wx 4 1 (.slice A n c) n (a.flatMap bools) ∧ Vx.Own Wx 4 1 (.slice B m d) m (b.flatMap bools) ∧ Blk Wx w.heap.size #[(.slice A n c), (.slice B m d)] 163 ∧ Blk Wx w1.heap.size #[(.slice none 0 0), (.slice none 0 0)] 163 ∧ Chg (fun b => ((.slice A n c) : Value).ownBlock = some b ∨ ((.slice B m d) : Value).ownBlock = some b) w Wx) (μ (a0, b0)) ?_ ?_
  · exact ⟨a0, b0, (by omega), hI0, rfl, rfl, rfl, rfl, ((hA.ext e1).ext e2), ((hB.ext e1).ext e2), (b1.ext e2), b2, y1⟩
  · rintro m_ f1 w3 ⟨a, b, hm_f1, hI, hq, g1_f1, g2_f1, g4_f1, o0_f1, o1_f1, c0_f1, c1_f1, x1⟩
    have hx1 := x1.size
    have hl_a : a.length = n := by have _q := (o0_f1).len; rw [fm_len bools_len] at _q; omega
    have hl_b : b.length = m := by have _q := (o1_f1).len; rw [fm_len bools_len] at _q; omega
    refine xc_block ?_
    refine xc_seq ?_
    refine xc_region ?_
    refine xl_op (P := Tryz.prog) (some 8) rfl rfl (ox_move (v := (.func (.func G) #[] CB.toArray)) g1_f1 ?_)
    refine xl_op (P := Tryz.prog) (some 9) rfl rfl (ox_loadN (vs := [(.slice A n c), (.slice B m d)]) tA_163 tS_163 g2_f1 rfl ⟨c0_f1.cell rfl, c0_f1.cell rfl, trivial⟩ ?_)
    have y2 : Chg (fun b => ((.slice A n c) : Value).ownBlock = some b ∨ ((.slice B m d) : Value).ownBlock = some b) w w3 := (Chg.trans (Chg.refl (fun b => ((.slice A n c) : Value).ownBlock = some b ∨ ((.slice B m d) : Value).ownBlock = some b) w) x1 (fun b hb hl => hb))
    refine xl_op (P := Tryz.prog) (some 10) rfl rfl (ox_callV (cap := CB) (al := [(.agg #[(.slice A n c), (.slice B m d)])]) hp rfl rfl (ret_mono (hf (a, b) w3 hI o0_f1 o1_f1 y2) ?_))
    rintro _ w4 ⟨rfl, o1, o2, e3⟩
    have he3 := e3.size
    refine xl_op (P := Tryz.prog) (some 7) rfl rfl (ox_move (v := (.tuple #[(.agg #[(.slice A n c), (.slice B m d)]), (.bool ((f (a, b)).2))])) rfl ?_)
    refine xl_op (P := Tryz.prog) (some 11) rfl rfl (ox_extract (vs := #[(.agg #[(.slice A n c), (.slice B m d)]), (.bool ((f (a, b)).2))]) (v := (.agg #[(.slice A n c), (.slice B m d)])) rfl rfl ?_)
    refine xl_op (P := Tryz.prog) (some 12) rfl rfl (ox_extract (vs := #[(.agg #[(.slice A n c), (.slice B m d)]), (.bool ((f (a, b)).2))]) (v := (.bool ((f (a, b)).2))) rfl rfl ?_)
    refine xl_op (P := Tryz.prog) (some 5) rfl rfl (ox_alloc tZ_163 ?_)
    intro w5 e4 z3 b3
    replace b3 : Blk w5 w4.heap.size #[(.slice none 0 0), (.slice none 0 0)] 163 := b3
    refine xl_op (P := Tryz.prog) none rfl rfl (ox_store (n := 2) (vs := [(.slice A n c), (.slice B m d)]) tS_163 rfl (v := (.agg #[(.slice A n c), (.slice B m d)])) rfl rfl rfl rfl b3 (Nat.le_of_ble_eq_true rfl) ?_)
    intro w6 e5 z4 b4
    replace b4 : Blk w6 w4.heap.size #[(.slice A n c), (.slice B m d)] 163 := blk_full b4 rfl
    refine xl_op (P := Tryz.prog) (some 6) rfl rfl (ox_assign (v := (.bool ((f (a, b)).2))) rfl ?_)
    refine xl_nil ?_
    refine xc_seq ?_
    refine xc_seq ?_
    refine xc_region ?_
    refine xl_op (P := Tryz.prog) (some 13) rfl rfl (ox_move (v := (.bool ((f (a, b)).2))) rfl ?_)
    refine xl_op (P := Tryz.prog) (some 14) rfl rfl (ox_not (b := (((f (a, b)).2))) rfl ?_)
    refine xl_nil ?_
    refine xc_cond (b := (!((f (a, b)).2))) rfl (fun h1 => ?_) (fun h1 => ?_)
    · skip
      have h1' := h1
      try simp only [Bool.or_eq_true, Bool.and_eq_true, decide_eq_true_eq, Bool.or_eq_false_iff, Bool.and_eq_false_iff, decide_eq_false_iff_not, Bool.not_eq_true', Bool.not_eq_false'] at h1'
      refine xc_seq ?_
      refine xc_region ?_
      refine xl_op (P := Tryz.prog) (some 15) rfl rfl (ox_loadN (vs := [(.slice A n c), (.slice B m d)]) tA_163 tS_163 rfl rfl ⟨b4.cell rfl, b4.cell rfl, trivial⟩ ?_)
      have q1 := (c1_f1.keep e3 (fun hb => hb.elim (fun _h => o0_f1.ne_blk c1_f1 (by decide) _ _h rfl) (fun _h => o1_f1.ne_blk c1_f1 (by decide) _ _h rfl)))
      have q2 := ((q1.ext e4).keep1 e5 (by have _q := c1_f1.lt; omega))
      refine xl_op (P := Tryz.prog) none rfl rfl (ox_store (n := 2) (vs := [(.slice A n c), (.slice B m d)]) tS_163 g4_f1 (v := (.agg #[(.slice A n c), (.slice B m d)])) rfl rfl rfl rfl q2 (Nat.le_of_ble_eq_true rfl) ?_)
      intro w7 e6 z5 b5
      replace b5 : Blk w7 w1.heap.size #[(.slice A n c), (.slice B m d)] 163 := blk_full b5 rfl
      refine xl_nil ?_
      refine xc_ret ?_
      change leaves _ _ _ _ _ _ _
      refine leaves_nil (n := 17) (rs := [.cell 4 163]) (vs := [.agg #[(.slice A n c), (.slice B m d)]]) rfl ⟨⟨by decide, w1.heap.size, 0, 2, [(.slice A n c), (.slice B m d)], g4_f1, tA_163, tS_163, rfl, ⟨b5.cell rfl, b5.cell rfl, trivial⟩, rfl⟩, trivial⟩ ?_
      have q3 := ((o1.ext e4).keep1 e5 (fun k hk => (o1.ext e4).ne_blk b3 (by decide) k hk))
      have q4 := (q3.keep1 e6 (fun k hk => q3.ne_blk q2 (by decide) k hk))
      have q5 := ((o2.ext e4).keep1 e5 (fun k hk => (o2.ext e4).ne_blk b3 (by decide) k hk))
      have q6 := (q5.keep1 e6 (fun k hk => q5.ne_blk q2 (by decide) k hk))
      have y3 : Chg (fun b => ((.slice A n c) : Value).ownBlock = some b ∨ ((.slice B m d) : Value).ownBlock = some b) w w7 := (Chg.chg1 (Chg.chg1 (Chg.ext (Chg.trans (Chg.trans (Chg.refl (fun b => ((.slice A n c) : Value).ownBlock = some b ∨ ((.slice B m d) : Value).ownBlock = some b) w) x1 (fun b hb hl => hb)) e3 (fun b hb hl => hb)) e4) e5 (.inr (by omega))) e6 (.inr (by omega)))
      exact ⟨rfl, by rw [hq, fixN_done h1']; exact q4, by rw [hq, fixN_done h1']; exact q6, y3⟩
    · skip
      have h1' := h1
      try simp only [Bool.or_eq_true, Bool.and_eq_true, decide_eq_true_eq, Bool.or_eq_false_iff, Bool.and_eq_false_iff, decide_eq_false_iff_not, Bool.not_eq_true', Bool.not_eq_false'] at h1'
      refine xc_skip ?_
      refine xc_region ?_
      refine xl_op (P := Tryz.prog) (some 16) rfl rfl (ox_loadN (vs := [(.slice A n c), (.slice B m d)]) tA_163 tS_163 rfl rfl ⟨b4.cell rfl, b4.cell rfl, trivial⟩ ?_)
      have q7 := (c0_f1.keep e3 (fun hb => hb.elim (fun _h => o0_f1.ne_blk c0_f1 (by decide) _ _h rfl) (fun _h => o1_f1.ne_blk c0_f1 (by decide) _ _h rfl)))
      have q8 := ((q7.ext e4).keep1 e5 (by have _q := c0_f1.lt; omega))
      refine xl_op (P := Tryz.prog) none rfl rfl (ox_store (n := 2) (vs := [(.slice A n c), (.slice B m d)]) tS_163 g2_f1 (v := (.agg #[(.slice A n c), (.slice B m d)])) rfl rfl rfl rfl q8 (Nat.le_of_ble_eq_true rfl) ?_)
      intro w8 e7 z6 b6
      replace b6 : Blk w8 w.heap.size #[(.slice A n c), (.slice B m d)] 163 := blk_full b6 rfl
      refine xl_nil ?_
      have q9 := ((o1.ext e4).keep1 e5 (fun k hk => (o1.ext e4).ne_blk b3 (by decide) k hk))
      have q10 := (q9.keep1 e7 (fun k hk => q9.ne_blk q8 (by decide) k hk))
      have q11 := ((o2.ext e4).keep1 e5 (fun k hk => (o2.ext e4).ne_blk b3 (by decide) k hk))
      have q12 := (q11.keep1 e7 (fun k hk => q11.ne_blk q8 (by decide) k hk))
      have q13 := (c1_f1.keep e3 (fun hb => hb.elim (fun _h => o0_f1.ne_blk c1_f1 (by decide) _ _h rfl) (fun _h => o1_f1.ne_blk c1_f1 (by decide) _ _h rfl)))
      have q14 := ((q13.ext e4).keep1 e5 (by have _q := c1_f1.lt; omega))
      have q15 := (q14.keep1 e7 (by have _q := c1_f1.lt; omega))
      have y4 : Chg (fun b => ((.slice A n c) : Value).ownBlock = some b ∨ ((.slice B m d) : Value).ownBlock = some b) w w8 := (Chg.chg1 (Chg.chg1 (Chg.ext (Chg.trans (Chg.trans (Chg.refl (fun b => ((.slice A n c) : Value).ownBlock = some b ∨ ((.slice B m d) : Value).ownBlock = some b) w) x1 (fun b hb hl => hb)) e3 (fun b hb hl => hb)) e4) e5 (.inr (by omega))) e7 (.inr (by omega)))
      exact ⟨rfl, μ (f (a, b)).1, by (rw [hm_f1]; exact (hm (a, b) hI h1').2), (f (a, b)).1.1, (f (a, b)).1.2, by rfl, (hm (a, b) hI h1').1, (hq.trans (fixN_step hm hI h1')), g1_f1, g2_f1, g4_f1, q10, q12, b6, q15, y4⟩
end Go.Proofs.YtnnmdkglgnlenaaGreatDoor
set_option linter.unusedVariables false
set_option linter.unusedSimpArgs false
set_option maxRecDepth 100000
set_option maxHeartbeats 4000000
namespace Go.Proofs.YtnnmdkglgnlenaaGreatDoor
open Go Go.RowKit Go.Vx
def muR (h : List Bool × List Bool) : Nat := h.1.count false + h.2.count false
theorem set_same {h : List Bool} {i : Nat} (hi : h[i]! = true) : h.set i true = h := by
  by_cases hl : i < h.length
  · apply List.ext_getElem?; intro j
    rw [List.getElem?_set]; split
    · rename_i e; subst e; simp [hl] at hi ⊢; exact hi
    · rfl
  · exact List.set_eq_of_length_le (by omega)
theorem markR_mu {x : Sym} {st : RS} (h1 : x.kind = 1 → x.n.toNat < st.1.2.length) (h3 : x.kind = 3 → x.n.toNat < st.1.1.length) : ((markR x st).1.1.length = st.1.1.length ∧ (markR x st).1.2.length = st.1.2.length) ∧ muR (markR x st).1 ≤ muR st.1 ∧ ((markR x st).2 = true → st.2 = true ∨ muR (markR x st).1 < muR st.1) := by
  obtain ⟨⟨a, b⟩, g⟩ := st
  unfold markR
  by_cases hk : x.kind = 1
  · rw [if_pos hk]
    simp only at h1 ⊢
    refine ⟨by simp, ?_⟩
    cases hb : b[x.n.toNat]! with
    | true => rw [set_same hb]; exact ⟨Nat.le_refl _, fun h => .inl (by simpa using h)⟩
    | false => have := count_set hb (h1 hk); simp only [muR]; exact ⟨by omega, fun _ => .inr (by omega)⟩
  · rw [if_neg hk]
    by_cases hk3 : x.kind = 3
    · rw [if_pos hk3]
      simp only at h3 ⊢
      refine ⟨by simp, ?_⟩
      cases hb : a[x.n.toNat]! with
      | true => rw [set_same hb]; exact ⟨Nat.le_refl _, fun h => .inl (by simpa using h)⟩
      | false => have := count_set hb (h3 hk3); simp only [muR]; exact ⟨by omega, fun _ => .inr (by omega)⟩
    · rw [if_neg hk3]; exact ⟨⟨rfl, rfl⟩, Nat.le_refl _, fun h => .inl h⟩
theorem rowR_mu {nl nn : Nat} : ∀ {l : List Sym} {st : RS}, (∀ x ∈ l, (x.kind = 1 → x.n.toNat < nl) ∧ (x.kind = 3 → x.n.toNat < nn)) → st.1.1.length = nn → st.1.2.length = nl → ((rowR l st).1.1.length = nn ∧ (rowR l st).1.2.length = nl) ∧ muR (rowR l st).1 ≤ muR st.1 ∧ ((rowR l st).2 = true → st.2 = true ∨ muR (rowR l st).1 < muR st.1)
  | [], st, _, h1, h2 => ⟨⟨h1, h2⟩, Nat.le_refl _, fun h => .inl h⟩
  | x :: r, st, hl, h1, h2 => by
    have hx := hl x List.mem_cons_self
    obtain ⟨⟨h3, h4⟩, h5, h6⟩ := markR_mu (x := x) (st := st) (fun h => by rw [h2]; exact hx.1 h) (fun h => by rw [h1]; exact hx.2 h)
    obtain ⟨h7, h8, h9⟩ := rowR_mu (l := r) (st := markR x st) (fun y hy => hl y (List.mem_cons_of_mem _ hy)) (h3.trans h1) (h4.trans h2)
    refine ⟨h7, Nat.le_trans h8 h5, fun h => ?_⟩
    show st.2 = true ∨ muR (rowR r (markR x st)).1 < _
    rcases h9 h with h10 | h10
    · rcases h6 h10 with h11 | h11
      · exact .inl h11
      · exact .inr (by omega)
    · exact .inr (by omega)
theorem stepR_mu {nl nn : Nat} : ∀ {l : List P2} {st : RS}, (∀ p ∈ l, ∀ x ∈ p.2, (x.kind = 1 → x.n.toNat < nl) ∧ (x.kind = 3 → x.n.toNat < nn)) → st.1.1.length = nn → st.1.2.length = nl → ((stepR l st).1.1.length = nn ∧ (stepR l st).1.2.length = nl) ∧ muR (stepR l st).1 ≤ muR st.1 ∧ ((stepR l st).2 = true → st.2 = true ∨ muR (stepR l st).1 < muR st.1)
  | [], st, _, h1, h2 => ⟨⟨h1, h2⟩, Nat.le_refl _, fun h => .inl h⟩
  | p :: r, st, hl, h1, h2 => by
    simp only [stepR]
    split
    · obtain ⟨⟨h3, h4⟩, h5, h6⟩ := rowR_mu (l := p.2) (st := st) (hl p List.mem_cons_self) h1 h2
      obtain ⟨h7, h8, h9⟩ := stepR_mu (l := r) (st := rowR p.2 st) (fun q hq => hl q (List.mem_cons_of_mem _ hq)) h3 h4
      refine ⟨h7, Nat.le_trans h8 h5, fun h => ?_⟩
      rcases h9 h with h10 | h10
      · rcases h6 h10 with h11 | h11
        · exact .inl h11
        · exact .inr (by omega)
      · exact .inr (by omega)
    · exact stepR_mu (fun q hq => hl q (List.mem_cons_of_mem _ hq)) h1 h2
theorem good_ix {g : GD} (hG : GoodG g) : ∀ p ∈ g.prods, ∀ x ∈ p.2, (x.kind = 1 → x.n.toNat < g.triv.length) ∧ (x.kind = 3 → x.n.toNat < g.names) := fun p hp x hx => by
  have h := (hG.2 p hp).2.2 x hx
  exact ⟨fun hk => by have := (symE_term h hk).1; omega, fun hk => by have := symE_name h hk; omega⟩
theorem stepR_dec {g : GD} {h : List Bool × List Bool} (hG : GoodG g) (h1 : h.1.length = g.names) (h2 : h.2.length = g.triv.length) (hg : (stepR g.prods (h, false)).2 = true) : muR (stepR g.prods (h, false)).1 < muR h :=
  ((stepR_mu (st := (h, false)) (good_ix hG) h1 h2).2.2 hg).resolve_left (fun q => by cases q)
theorem markR_len (x : Sym) (st : RS) : (markR x st).1.1.length = st.1.1.length ∧ (markR x st).1.2.length = st.1.2.length := by
  unfold markR; split
  · exact ⟨rfl, List.length_set ..⟩
  · split
    · exact ⟨List.length_set .., rfl⟩
    · exact ⟨rfl, rfl⟩
theorem rowR_len : ∀ (l : List Sym) (st : RS), (rowR l st).1.1.length = st.1.1.length ∧ (rowR l st).1.2.length = st.1.2.length
  | [], _ => ⟨rfl, rfl⟩
  | x :: r, st => ⟨(rowR_len r _).1.trans (markR_len x st).1, (rowR_len r _).2.trans (markR_len x st).2⟩
theorem stepR_len0 : ∀ (l : List P2) (st : RS), (stepR l st).1.1.length = st.1.1.length ∧ (stepR l st).1.2.length = st.1.2.length
  | [], _ => ⟨rfl, rfl⟩
  | p :: r, st => by
    simp only [stepR]; split
    · exact ⟨(stepR_len0 r _).1.trans (rowR_len p.2 st).1, (stepR_len0 r _).2.trans (rowR_len p.2 st).2⟩
    · exact stepR_len0 r st
theorem stepR_len {nn nl : Nat} (l : List P2) (h : List Bool × List Bool) (hI : h.1.length = nn ∧ h.2.length = nl) : (stepR l (h, false)).1.1.length = nn ∧ (stepR l (h, false)).1.2.length = nl :=
  ⟨(stepR_len0 l (h, false)).1.trans hI.1, (stepR_len0 l (h, false)).2.trans hI.2⟩
def reachG (g : GD) : List Bool × List Bool := fixN (fun h => stepR g.prods (h, false)) (muR ((List.replicate g.names false).set g.start.toNat true, List.replicate g.triv.length false) + 1) ((List.replicate g.names false).set g.start.toNat true, List.replicate g.triv.length false)
theorem reachG_len {g : GD} (hG : GoodG g) : (reachG g).1.length = g.names ∧ (reachG g).2.length = g.triv.length :=
  fixN_inv (P := fun h => h.1.length = g.names ∧ h.2.length = g.triv.length) (fun h hh => stepR_len _ h hh) _ _ ⟨by simp, by simp⟩
def unR : List Bool → List Bool → Nat → Int
  | r :: rs, t :: ts, i => if r = false ∧ t = false then (i : Nat) else unR rs ts (i + 1)
  | _, _, _ => -1
theorem unR_hit {a b : List Bool} {i : Nat} {r t : Bool} (ha : a[i]? = some r) (hb : b[i]? = some t) (h : r = false ∧ t = false) : unR (a.drop i) (b.drop i) i = (i : Nat) := by rw [drop_get ha, drop_get hb, unR, if_pos h]
theorem unR_next {a b : List Bool} {i : Nat} {r t : Bool} (ha : a[i]? = some r) (hb : b[i]? = some t) (h : ¬ (r = false ∧ t = false)) : unR (a.drop i) (b.drop i) i = unR (a.drop (i + 1)) (b.drop (i + 1)) (i + 1) := by rw [drop_get ha, drop_get hb, unR, if_neg h]
def reachedE (g : GD) : Int × Int := if 0 ≤ idxO false (reachG g).1 0 then (72, idxO false (reachG g).1 0) else if 0 ≤ unR (reachG g).2 g.triv 0 then (72, unR (reachG g).2 g.triv 0) else (0, 0)
theorem reachedE_names {g : GD} (h : 0 ≤ idxO false (reachG g).1 0) : reachedE g = (72, idxO false (reachG g).1 0) := by unfold reachedE; rw [if_pos h]
theorem reachedE_rules {g : GD} {r : Int} (h : ¬ (0 ≤ idxO false (reachG g).1 0)) (h2 : unR (reachG g).2 g.triv 0 = r) (h0 : 0 ≤ r) : reachedE g = (72, r) := by unfold reachedE; rw [if_neg h, h2, if_pos h0]
theorem reachedE_ok {g : GD} (h : ¬ (0 ≤ idxO false (reachG g).1 0)) (h2 : unR (reachG g).2 g.triv 0 = -1) : reachedE g = (0, 0) := by unfold reachedE; rw [if_neg h, h2, if_neg (by decide)]
theorem pf_118 : plainF Tryz.prog 118 = true := by kernel_rfl
theorem pf_119 : plainF Tryz.prog 119 = true := by kernel_rfl
theorem pf_89 : plainF Tryz.prog 89 = true := by kernel_rfl
theorem tP_163 : placesT Tryz.prog 163 = some #[(0, 1), (1, 1)] := by kernel_rfl
theorem reached_calls (s : SP) (w : World) (hS : SpR w s) (hG : GoodG s.g) :
    Calls Tryz.prog 88 #[(.agg #[(.slice s.lA s.lex.length s.lc), (.slice s.nA s.names.length s.nc), (.int .i64 s.start), (.slice s.pA s.prods.length s.pc)])] w (Ret (fun v w' => v = faultV (reachedE s.g).1 (reachedE s.g).2 ∧ Ext w w')) := by
  have hfn := hS.fn.le; have hfl := hS.fl.le
  refine calls_xc (n := 55) (f := fun s_ => [(.agg #[(.slice s.lA s.lex.length s.lc), (.slice s.nA s.names.length s.nc), (.int .i64 s.start), (.slice s.pA s.prods.length s.pc)])].getD s_ undef) Tryz.func88 rfl rfl (by simp) (fun s_ => by simp) ?_
  refine xc_seq ?_
  refine xc_region ?_
  refine xl_op (P := Tryz.prog) (some 1) rfl rfl (ox_box (v := (.agg #[(.slice s.lA s.lex.length s.lc), (.slice s.nA s.names.length s.nc), (.int .i64 s.start), (.slice s.pA s.prods.length s.pc)])) rfl ?_)
  intro w1 e1 z1 b1
  replace b1 : Blk w1 w.heap.size #[(.slice s.lA s.lex.length s.lc), (.slice s.nA s.names.length s.nc), (.int .i64 s.start), (.slice s.pA s.prods.length s.pc)] 26 := b1
  refine xl_op (P := Tryz.prog) (some 2) rfl rfl (ox_alloc tZ_75 ?_)
  intro w2 e2 z2 b2
  replace b2 : Blk w2 w1.heap.size #[(.int .i64 0), (.int .i64 0), (.string (⟨#[]⟩))] 75 := b2
  refine xl_nil ?_
  refine xc_seq ?_
  refine xc_cut (fun f' W' => ∃ A B b, f' 1 = .pointer (some ⟨w.heap.size, 0, none⟩) ∧ f' 2 = .pointer (some ⟨w1.heap.size, 0, none⟩) ∧ f' 3 = .pointer (some ⟨b, 0, none⟩) ∧ Vx.Own W' 4 1 (.slice A s.names.length s.names.length) s.names.length (((List.replicate s.names.length false)).flatMap bools) ∧ Vx.Own W' 4 1 (.slice B s.lex.length s.lex.length) s.lex.length (((List.replicate s.lex.length false)).flatMap bools) ∧ (∀ k, (Value.slice A s.names.length s.names.length).ownBlock = some k → w.heap.size ≤ k) ∧ (∀ k, (Value.slice B s.lex.length s.lex.length).ownBlock = some k → w.heap.size ≤ k) ∧ (∀ k, (Value.slice A s.names.length s.names.length).ownBlock = some k → (Value.slice B s.lex.length s.lex.length).ownBlock = some k → False) ∧ Blk W' b #[.slice A s.names.length s.names.length, .slice B s.lex.length s.lex.length] 163 ∧ Blk W' w.heap.size #[(.slice s.lA s.lex.length s.lc), (.slice s.nA s.names.length s.nc), (.int .i64 s.start), (.slice s.pA s.prods.length s.pc)] 26 ∧ Blk W' w1.heap.size #[(.int .i64 0), (.int .i64 0), (.string (⟨#[]⟩))] 75 ∧ Ext w W' ∧ w.heap.size ≤ b) ?_ ?_
  · skip
    refine xc_regionE [10] (fun W_ => Chg (fun _ => False) w2 W_) hmix ?_
    intro w3 e3 z3
    have hS1 : Chg (fun _ => False) w2 w3 := Ext.to e3
    refine xd_pure 0 (some 8) rfl rfl (by kernel_rfl) (v := (.pointer (some ⟨w.heap.size, 1, none⟩))) (.inl ⟨rfl, fun W_ hW_ => ox_fieldAddr (b := w.heap.size) (o := 0) tF_26_1 rfl ⟨rfl, rfl⟩⟩) ?_
    refine xd_take 1 (some 9) rfl rfl (by kernel_rfl) (v := (.slice s.nA s.names.length s.nc)) (.inl ⟨rfl, fun W_ hW_ => ox_load (v := (.slice s.nA s.names.length s.nc)) tA_23 rfl (((b1.ext e2).ext hW_).cell rfl) ⟨rfl, rfl⟩⟩) hS1 ?_
    refine xd_pure 2 (some 10) rfl rfl (by kernel_rfl) (v := (.int .i64 (((s.names.length : Nat) : Int)))) (.inl ⟨rfl, fun W_ hW_ => ox_len (A := s.nA) (n := s.names.length) (cp := s.nc) rfl tU_23 rfl ⟨rfl, rfl⟩⟩) ?_
    refine xd_pure 4 (some 12) rfl rfl (by kernel_rfl) (v := (.pointer (some ⟨w.heap.size, 0, none⟩))) (.inl ⟨rfl, fun W_ hW_ => ox_fieldAddr (b := w.heap.size) (o := 0) tF_26_0 rfl ⟨rfl, rfl⟩⟩) ?_
    refine xd_take 5 (some 13) rfl rfl (by kernel_rfl) (v := (.slice s.lA s.lex.length s.lc)) (.inl ⟨rfl, fun W_ hW_ => ox_load (v := (.slice s.lA s.lex.length s.lc)) tA_22 rfl (((b1.ext e2).ext hW_).cell rfl) ⟨rfl, rfl⟩⟩) hS1 ?_
    refine xd_pure 6 (some 14) rfl rfl (by kernel_rfl) (v := (.int .i64 (((s.lex.length : Nat) : Int)))) (.inl ⟨rfl, fun W_ hW_ => ox_len (A := s.lA) (n := s.lex.length) (cp := s.lc) rfl tU_22 rfl ⟨rfl, rfl⟩⟩) ?_
    refine xd_three 3 7 9 (some 11) (some 15) (some 3) rfl rfl rfl rfl rfl rfl (by kernel_rfl) rfl rfl rfl (ox_makeD (n := s.names.length) (l := ((List.replicate s.names.length false))) (cs := bools) tE_144 rfl rfl (by omega) (by omega) (made_bools _) ?_) (ox_makeD (n := s.lex.length) (l := ((List.replicate s.lex.length false))) (cs := bools) tE_144 rfl rfl (by omega) (by omega) (made_bools _) ?_) (ox_alloc tZ_163 ?_)
    · skip
      intro A1 w4 o1 e4 lo1
      have he4 := e4.size
      have hS2 : Chg (fun _ => False) w2 w4 := Chg.ext hS1 e4
      refine ⟨.inr fun _ => hS2, ?_⟩
      refine xd_two 7 9 (some 15) (some 3) rfl rfl rfl rfl (by kernel_rfl) rfl rfl (ox_makeD (n := s.lex.length) (l := ((List.replicate s.lex.length false))) (cs := bools) tE_144 rfl rfl (by omega) (by omega) (made_bools _) ?_) (ox_alloc tZ_163 ?_)
      · skip
        intro A3 w6 o3 e7 lo3
        have he7 := e7.size
        have hS3 : Chg (fun _ => False) w2 w6 := Chg.ext hS2 e7
        refine ⟨.inr fun _ => hS3, ?_⟩
        refine xd_pure 8 (some 16) rfl rfl (by kernel_rfl) (v := (.agg #[(.slice A1 s.names.length s.names.length), (.slice A3 s.lex.length s.lex.length)])) (.inl ⟨rfl, fun W_ hW_ => ox_mkStruct (ps := [(0, (.slice A1 s.names.length s.names.length)), (1, (.slice A3 s.lex.length s.lex.length))]) (cs := #[(.slice A1 s.names.length s.names.length), (.slice A3 s.lex.length s.lex.length)]) tZ_163 tP_163 rfl (by kernel_rfl) ⟨rfl, rfl⟩⟩) ?_
        refine xd_one 9 (some 3) rfl rfl (by kernel_rfl) rfl (ox_alloc tZ_163 ?_)
        intro w7 e9 z9 b5
        replace b5 : Blk w7 w6.heap.size #[(.slice none 0 0), (.slice none 0 0)] 163 := b5
        have hS4 : Chg (fun _ => False) w2 w7 := Chg.ext hS3 e9
        refine ⟨.inr fun _ => hS4, ?_⟩
        refine xd_one 10 none rfl rfl (by kernel_rfl) rfl (ox_store (n := 2) (vs := [(.slice A1 s.names.length s.names.length), (.slice A3 s.lex.length s.lex.length)]) tS_163 rfl (v := (.agg #[(.slice A1 s.names.length s.names.length), (.slice A3 s.lex.length s.lex.length)])) rfl rfl rfl rfl b5 (Nat.le_of_ble_eq_true rfl) ?_)
        intro w8 e10 z10 b6
        replace b6 : Blk w8 w6.heap.size #[(.slice A1 s.names.length s.names.length), (.slice A3 s.lex.length s.lex.length)] 163 := blk_full b6 rfl
        refine ⟨.inl (by decide), ?_⟩
        refine xd_done (by kernel_rfl) ?_ _
        have q1 := (((o1.ext e7).ext e9).keep1 e10 (fun k hk => ((o1.ext e7).ext e9).ne_blk b5 (by decide) k hk))
        have q2 := ((o3.ext e9).keep1 e10 (fun k hk => (o3.ext e9).ne_blk b5 (by decide) k hk))
        have q3 := (((((b1.ext e2).ext e3).ext e4).ext e7).ext e9)
        have q4 := (((((b2.ext e3).ext e4).ext e7).ext e9).keep1 e10 (((((b2.ext e3).ext e4).ext e7).ext e9).ne b5 (by decide)))
        have x1 : Ext w w8 := (Ext.chg1 (Ext.trans (Ext.trans (Ext.trans (Ext.trans (Ext.trans e1 e2) e3) e4) e7) e9) e10 (by omega))
        exact ⟨rfl, A1, A3, w6.heap.size, rfl, rfl, rfl, q1, q2, fun k hk => by have _h := lo1 k hk; omega, fun k hk => by have _h := lo3 k hk; omega, fun k h1 h2 => by have _a := o1.lt k h1; have _b := lo3 k h2; have _c := o3.lt k h2; have _d := lo1 k h1; omega, b6, (q3.keep1 e10 (q3.ne b5 (by decide))), q4, x1, by omega⟩
      · skip
        intro w9 e8 z8 b4
        replace b4 : Blk w9 w4.heap.size #[(.slice none 0 0), (.slice none 0 0)] 163 := b4
        have hS5 : Chg (fun _ => False) w2 w9 := Chg.ext hS2 e8
        refine ⟨.inr fun _ => hS5, ?_⟩
        refine xd_one 7 (some 15) rfl rfl (by kernel_rfl) rfl (ox_makeD (n := s.lex.length) (l := ((List.replicate s.lex.length false))) (cs := bools) tE_144 rfl rfl (by omega) (by omega) (made_bools _) ?_)
        intro A4 w10 o4 e11 lo4
        have he11 := e11.size
        have hS6 : Chg (fun _ => False) w2 w10 := Chg.ext hS5 e11
        refine ⟨.inr fun _ => hS6, ?_⟩
        refine xd_pure 8 (some 16) rfl rfl (by kernel_rfl) (v := (.agg #[(.slice A1 s.names.length s.names.length), (.slice A4 s.lex.length s.lex.length)])) (.inl ⟨rfl, fun W_ hW_ => ox_mkStruct (ps := [(0, (.slice A1 s.names.length s.names.length)), (1, (.slice A4 s.lex.length s.lex.length))]) (cs := #[(.slice A1 s.names.length s.names.length), (.slice A4 s.lex.length s.lex.length)]) tZ_163 tP_163 rfl (by kernel_rfl) ⟨rfl, rfl⟩⟩) ?_
        refine xd_one 10 none rfl rfl (by kernel_rfl) rfl (ox_store (n := 2) (vs := [(.slice A1 s.names.length s.names.length), (.slice A4 s.lex.length s.lex.length)]) tS_163 rfl (v := (.agg #[(.slice A1 s.names.length s.names.length), (.slice A4 s.lex.length s.lex.length)])) rfl rfl rfl rfl (b4.ext e11) (Nat.le_of_ble_eq_true rfl) ?_)
        intro w11 e12 z12 b7
        replace b7 : Blk w11 w4.heap.size #[(.slice A1 s.names.length s.names.length), (.slice A4 s.lex.length s.lex.length)] 163 := blk_full b7 rfl
        refine ⟨.inl (by decide), ?_⟩
        refine xd_done (by kernel_rfl) ?_ _
        have q5 := (((o1.ext e8).ext e11).keep1 e12 (fun k hk => ((o1.ext e8).ext e11).ne_blk (b4.ext e11) (by decide) k hk))
        have q6 := (o4.keep1 e12 (fun k hk => o4.ne_blk (b4.ext e11) (by decide) k hk))
        have q7 := (((((b1.ext e2).ext e3).ext e4).ext e8).ext e11)
        have q8 := (q7.keep1 e12 (q7.ne (b4.ext e11) (by decide)))
        have q9 := (((((b2.ext e3).ext e4).ext e8).ext e11).keep1 e12 (((((b2.ext e3).ext e4).ext e8).ext e11).ne (b4.ext e11) (by decide)))
        have x2 : Ext w w11 := (Ext.chg1 (Ext.trans (Ext.trans (Ext.trans (Ext.trans (Ext.trans e1 e2) e3) e4) e8) e11) e12 (by omega))
        exact ⟨rfl, A1, A4, w4.heap.size, rfl, rfl, rfl, q5, q6, fun k hk => by have _h := lo1 k hk; omega, fun k hk => by have _h := lo4 k hk; omega, fun k h1 h2 => by have _a := o1.lt k h1; have _b := lo4 k h2; have _c := o4.lt k h2; have _d := lo1 k h1; omega, b7, q8, q9, x2, by omega⟩
    · skip
      intro A2 w5 o2 e5 lo2
      have he5 := e5.size
      have hS7 : Chg (fun _ => False) w2 w5 := Chg.ext hS1 e5
      refine ⟨.inr fun _ => hS7, ?_⟩
      refine xd_two 3 9 (some 11) (some 3) rfl rfl rfl rfl (by kernel_rfl) rfl rfl (ox_makeD (n := s.names.length) (l := ((List.replicate s.names.length false))) (cs := bools) tE_144 rfl rfl (by omega) (by omega) (made_bools _) ?_) (ox_alloc tZ_163 ?_)
      · skip
        intro A5 w12 o5 e13 lo5
        have he13 := e13.size
        have hS8 : Chg (fun _ => False) w2 w12 := Chg.ext hS7 e13
        refine ⟨.inr fun _ => hS8, ?_⟩
        refine xd_pure 8 (some 16) rfl rfl (by kernel_rfl) (v := (.agg #[(.slice A5 s.names.length s.names.length), (.slice A2 s.lex.length s.lex.length)])) (.inl ⟨rfl, fun W_ hW_ => ox_mkStruct (ps := [(0, (.slice A5 s.names.length s.names.length)), (1, (.slice A2 s.lex.length s.lex.length))]) (cs := #[(.slice A5 s.names.length s.names.length), (.slice A2 s.lex.length s.lex.length)]) tZ_163 tP_163 rfl (by kernel_rfl) ⟨rfl, rfl⟩⟩) ?_
        refine xd_one 9 (some 3) rfl rfl (by kernel_rfl) rfl (ox_alloc tZ_163 ?_)
        intro w13 e15 z15 b9
        replace b9 : Blk w13 w12.heap.size #[(.slice none 0 0), (.slice none 0 0)] 163 := b9
        have hS9 : Chg (fun _ => False) w2 w13 := Chg.ext hS8 e15
        refine ⟨.inr fun _ => hS9, ?_⟩
        refine xd_one 10 none rfl rfl (by kernel_rfl) rfl (ox_store (n := 2) (vs := [(.slice A5 s.names.length s.names.length), (.slice A2 s.lex.length s.lex.length)]) tS_163 rfl (v := (.agg #[(.slice A5 s.names.length s.names.length), (.slice A2 s.lex.length s.lex.length)])) rfl rfl rfl rfl b9 (Nat.le_of_ble_eq_true rfl) ?_)
        intro w14 e16 z16 b10
        replace b10 : Blk w14 w12.heap.size #[(.slice A5 s.names.length s.names.length), (.slice A2 s.lex.length s.lex.length)] 163 := blk_full b10 rfl
        refine ⟨.inl (by decide), ?_⟩
        refine xd_done (by kernel_rfl) ?_ _
        have q10 := ((o5.ext e15).keep1 e16 (fun k hk => (o5.ext e15).ne_blk b9 (by decide) k hk))
        have q11 := (((o2.ext e13).ext e15).keep1 e16 (fun k hk => ((o2.ext e13).ext e15).ne_blk b9 (by decide) k hk))
        have q12 := (((((b1.ext e2).ext e3).ext e5).ext e13).ext e15)
        have q13 := (((((b2.ext e3).ext e5).ext e13).ext e15).keep1 e16 (((((b2.ext e3).ext e5).ext e13).ext e15).ne b9 (by decide)))
        have x3 : Ext w w14 := (Ext.chg1 (Ext.trans (Ext.trans (Ext.trans (Ext.trans (Ext.trans e1 e2) e3) e5) e13) e15) e16 (by omega))
        exact ⟨rfl, A5, A2, w12.heap.size, rfl, rfl, rfl, q10, q11, fun k hk => by have _h := lo5 k hk; omega, fun k hk => by have _h := lo2 k hk; omega, fun k h1 h2 => by have _a := o5.lt k h1; have _b := lo2 k h2; have _c := o2.lt k h2; have _d := lo5 k h1; omega, b10, (q12.keep1 e16 (q12.ne b9 (by decide))), q13, x3, by omega⟩
      · skip
        intro w15 e14 z14 b8
        replace b8 : Blk w15 w5.heap.size #[(.slice none 0 0), (.slice none 0 0)] 163 := b8
        have hS10 : Chg (fun _ => False) w2 w15 := Chg.ext hS7 e14
        refine ⟨.inr fun _ => hS10, ?_⟩
        refine xd_one 3 (some 11) rfl rfl (by kernel_rfl) rfl (ox_makeD (n := s.names.length) (l := ((List.replicate s.names.length false))) (cs := bools) tE_144 rfl rfl (by omega) (by omega) (made_bools _) ?_)
        intro A6 w16 o6 e17 lo6
        have he17 := e17.size
        have hS11 : Chg (fun _ => False) w2 w16 := Chg.ext hS10 e17
        refine ⟨.inr fun _ => hS11, ?_⟩
        refine xd_pure 8 (some 16) rfl rfl (by kernel_rfl) (v := (.agg #[(.slice A6 s.names.length s.names.length), (.slice A2 s.lex.length s.lex.length)])) (.inl ⟨rfl, fun W_ hW_ => ox_mkStruct (ps := [(0, (.slice A6 s.names.length s.names.length)), (1, (.slice A2 s.lex.length s.lex.length))]) (cs := #[(.slice A6 s.names.length s.names.length), (.slice A2 s.lex.length s.lex.length)]) tZ_163 tP_163 rfl (by kernel_rfl) ⟨rfl, rfl⟩⟩) ?_
        refine xd_one 10 none rfl rfl (by kernel_rfl) rfl (ox_store (n := 2) (vs := [(.slice A6 s.names.length s.names.length), (.slice A2 s.lex.length s.lex.length)]) tS_163 rfl (v := (.agg #[(.slice A6 s.names.length s.names.length), (.slice A2 s.lex.length s.lex.length)])) rfl rfl rfl rfl (b8.ext e17) (Nat.le_of_ble_eq_true rfl) ?_)
        intro w17 e18 z18 b11
        replace b11 : Blk w17 w5.heap.size #[(.slice A6 s.names.length s.names.length), (.slice A2 s.lex.length s.lex.length)] 163 := blk_full b11 rfl
        refine ⟨.inl (by decide), ?_⟩
        refine xd_done (by kernel_rfl) ?_ _
        have q14 := (o6.keep1 e18 (fun k hk => o6.ne_blk (b8.ext e17) (by decide) k hk))
        have q15 := (((o2.ext e14).ext e17).keep1 e18 (fun k hk => ((o2.ext e14).ext e17).ne_blk (b8.ext e17) (by decide) k hk))
        have q16 := (((((b1.ext e2).ext e3).ext e5).ext e14).ext e17)
        have q17 := (q16.keep1 e18 (q16.ne (b8.ext e17) (by decide)))
        have q18 := (((((b2.ext e3).ext e5).ext e14).ext e17).keep1 e18 (((((b2.ext e3).ext e5).ext e14).ext e17).ne (b8.ext e17) (by decide)))
        have x4 : Ext w w17 := (Ext.chg1 (Ext.trans (Ext.trans (Ext.trans (Ext.trans (Ext.trans e1 e2) e3) e5) e14) e17) e18 (by omega))
        exact ⟨rfl, A6, A2, w5.heap.size, rfl, rfl, rfl, q14, q15, fun k hk => by have _h := lo6 k hk; omega, fun k hk => by have _h := lo2 k hk; omega, fun k h1 h2 => by have _a := o6.lt k h1; have _b := lo2 k h2; have _c := o2.lt k h2; have _d := lo6 k h1; omega, b11, q17, q18, x4, by omega⟩
    · skip
      intro w18 e6 z6 b3
      replace b3 : Blk w18 w3.heap.size #[(.slice none 0 0), (.slice none 0 0)] 163 := b3
      have hS12 : Chg (fun _ => False) w2 w18 := Chg.ext hS1 e6
      refine ⟨.inr fun _ => hS12, ?_⟩
      refine xd_two 3 7 (some 11) (some 15) rfl rfl rfl rfl (by kernel_rfl) rfl rfl (ox_makeD (n := s.names.length) (l := ((List.replicate s.names.length false))) (cs := bools) tE_144 rfl rfl (by omega) (by omega) (made_bools _) ?_) (ox_makeD (n := s.lex.length) (l := ((List.replicate s.lex.length false))) (cs := bools) tE_144 rfl rfl (by omega) (by omega) (made_bools _) ?_)
      · skip
        intro A7 w19 o7 e19 lo7
        have he19 := e19.size
        have hS13 : Chg (fun _ => False) w2 w19 := Chg.ext hS12 e19
        refine ⟨.inr fun _ => hS13, ?_⟩
        refine xd_one 7 (some 15) rfl rfl (by kernel_rfl) rfl (ox_makeD (n := s.lex.length) (l := ((List.replicate s.lex.length false))) (cs := bools) tE_144 rfl rfl (by omega) (by omega) (made_bools _) ?_)
        intro A9 w21 o9 e21 lo9
        have he21 := e21.size
        have hS14 : Chg (fun _ => False) w2 w21 := Chg.ext hS13 e21
        refine ⟨.inr fun _ => hS14, ?_⟩
        refine xd_pure 8 (some 16) rfl rfl (by kernel_rfl) (v := (.agg #[(.slice A7 s.names.length s.names.length), (.slice A9 s.lex.length s.lex.length)])) (.inl ⟨rfl, fun W_ hW_ => ox_mkStruct (ps := [(0, (.slice A7 s.names.length s.names.length)), (1, (.slice A9 s.lex.length s.lex.length))]) (cs := #[(.slice A7 s.names.length s.names.length), (.slice A9 s.lex.length s.lex.length)]) tZ_163 tP_163 rfl (by kernel_rfl) ⟨rfl, rfl⟩⟩) ?_
        refine xd_one 10 none rfl rfl (by kernel_rfl) rfl (ox_store (n := 2) (vs := [(.slice A7 s.names.length s.names.length), (.slice A9 s.lex.length s.lex.length)]) tS_163 rfl (v := (.agg #[(.slice A7 s.names.length s.names.length), (.slice A9 s.lex.length s.lex.length)])) rfl rfl rfl rfl ((b3.ext e19).ext e21) (Nat.le_of_ble_eq_true rfl) ?_)
        intro w22 e22 z22 b12
        replace b12 : Blk w22 w3.heap.size #[(.slice A7 s.names.length s.names.length), (.slice A9 s.lex.length s.lex.length)] 163 := blk_full b12 rfl
        refine ⟨.inl (by decide), ?_⟩
        refine xd_done (by kernel_rfl) ?_ _
        have q19 := ((o7.ext e21).keep1 e22 (fun k hk => (o7.ext e21).ne_blk ((b3.ext e19).ext e21) (by decide) k hk))
        have q20 := (o9.keep1 e22 (fun k hk => o9.ne_blk ((b3.ext e19).ext e21) (by decide) k hk))
        have q21 := (((((b1.ext e2).ext e3).ext e6).ext e19).ext e21)
        have q22 := (q21.keep1 e22 (q21.ne ((b3.ext e19).ext e21) (by decide)))
        have q23 := (((((b2.ext e3).ext e6).ext e19).ext e21).keep1 e22 (((((b2.ext e3).ext e6).ext e19).ext e21).ne ((b3.ext e19).ext e21) (by decide)))
        have x5 : Ext w w22 := (Ext.chg1 (Ext.trans (Ext.trans (Ext.trans (Ext.trans (Ext.trans e1 e2) e3) e6) e19) e21) e22 (by omega))
        exact ⟨rfl, A7, A9, w3.heap.size, rfl, rfl, rfl, q19, q20, fun k hk => by have _h := lo7 k hk; omega, fun k hk => by have _h := lo9 k hk; omega, fun k h1 h2 => by have _a := o7.lt k h1; have _b := lo9 k h2; have _c := o9.lt k h2; have _d := lo7 k h1; omega, b12, q22, q23, x5, by omega⟩
      · skip
        intro A8 w20 o8 e20 lo8
        have he20 := e20.size
        have hS15 : Chg (fun _ => False) w2 w20 := Chg.ext hS12 e20
        refine ⟨.inr fun _ => hS15, ?_⟩
        refine xd_one 3 (some 11) rfl rfl (by kernel_rfl) rfl (ox_makeD (n := s.names.length) (l := ((List.replicate s.names.length false))) (cs := bools) tE_144 rfl rfl (by omega) (by omega) (made_bools _) ?_)
        intro A10 w23 o10 e23 lo10
        have he23 := e23.size
        have hS16 : Chg (fun _ => False) w2 w23 := Chg.ext hS15 e23
        refine ⟨.inr fun _ => hS16, ?_⟩
        refine xd_pure 8 (some 16) rfl rfl (by kernel_rfl) (v := (.agg #[(.slice A10 s.names.length s.names.length), (.slice A8 s.lex.length s.lex.length)])) (.inl ⟨rfl, fun W_ hW_ => ox_mkStruct (ps := [(0, (.slice A10 s.names.length s.names.length)), (1, (.slice A8 s.lex.length s.lex.length))]) (cs := #[(.slice A10 s.names.length s.names.length), (.slice A8 s.lex.length s.lex.length)]) tZ_163 tP_163 rfl (by kernel_rfl) ⟨rfl, rfl⟩⟩) ?_
        refine xd_one 10 none rfl rfl (by kernel_rfl) rfl (ox_store (n := 2) (vs := [(.slice A10 s.names.length s.names.length), (.slice A8 s.lex.length s.lex.length)]) tS_163 rfl (v := (.agg #[(.slice A10 s.names.length s.names.length), (.slice A8 s.lex.length s.lex.length)])) rfl rfl rfl rfl ((b3.ext e20).ext e23) (Nat.le_of_ble_eq_true rfl) ?_)
        intro w24 e24 z24 b13
        replace b13 : Blk w24 w3.heap.size #[(.slice A10 s.names.length s.names.length), (.slice A8 s.lex.length s.lex.length)] 163 := blk_full b13 rfl
        refine ⟨.inl (by decide), ?_⟩
        refine xd_done (by kernel_rfl) ?_ _
        have q24 := (o10.keep1 e24 (fun k hk => o10.ne_blk ((b3.ext e20).ext e23) (by decide) k hk))
        have q25 := ((o8.ext e23).keep1 e24 (fun k hk => (o8.ext e23).ne_blk ((b3.ext e20).ext e23) (by decide) k hk))
        have q26 := (((((b1.ext e2).ext e3).ext e6).ext e20).ext e23)
        have q27 := (q26.keep1 e24 (q26.ne ((b3.ext e20).ext e23) (by decide)))
        have q28 := (((((b2.ext e3).ext e6).ext e20).ext e23).keep1 e24 (((((b2.ext e3).ext e6).ext e20).ext e23).ne ((b3.ext e20).ext e23) (by decide)))
        have x6 : Ext w w24 := (Ext.chg1 (Ext.trans (Ext.trans (Ext.trans (Ext.trans (Ext.trans e1 e2) e3) e6) e20) e23) e24 (by omega))
        exact ⟨rfl, A10, A8, w3.heap.size, rfl, rfl, rfl, q24, q25, fun k hk => by have _h := lo10 k hk; omega, fun k hk => by have _h := lo8 k hk; omega, fun k h1 h2 => by have _a := o10.lt k h1; have _b := lo8 k h2; have _c := o8.lt k h2; have _d := lo10 k h1; omega, b13, q27, q28, x6, by omega⟩
  rintro fc wc ⟨A, B, bb, gc1, gc2, gc3, hoA, hoB, hloA, hloB, hne, hbb, hb1, hb2, xc, hlb⟩
  have hxc := xc.size
  have hgs : 0 ≤ s.start ∧ s.start < (s.names.length : Int) := hG.1
  refine xc_seq ?_
  refine xc_region ?_
  refine xl_op (P := Tryz.prog) (some 17) rfl rfl (ox_fieldAddr (b := bb) (o := 0) tF_163_0 gc3 ?_)
  refine xl_op (P := Tryz.prog) (some 18) rfl rfl (ox_load (v := (.slice A s.names.length s.names.length)) tA_144 rfl (hbb.cell rfl) ?_)
  refine xl_op (P := Tryz.prog) (some 19) rfl rfl (ox_fieldAddr (b := w.heap.size) (o := 0) tF_26_2 gc1 ?_)
  refine xl_op (P := Tryz.prog) (some 20) rfl rfl (ox_load (v := (.int .i64 s.start)) tA_3 rfl (hb1.cell rfl) ?_)
  obtain ⟨x_1, g_1, hx_1⟩ := own_may (A := A) s.start.toNat bools_len (by decide) hoA
  obtain ⟨hx_2, hA_1, hc_1⟩ := hx_1 (by first | omega | (simp only [List.length_drop, List.length_replicate, List.length_set, List.length_append, List.length_map, List.length_singleton] at *; omega))
  refine xl_op (P := Tryz.prog) (some 21) rfl rfl (ox_ixA (b := g_1) (o := 0) (i := s.start) s.start.toNat tE_144 hA_1 rfl rfl (by omega) (by omega) ?_)
  refine xl_op (P := Tryz.prog) none rfl rfl (ox_stE (i := s.start.toNat) (off := 0) (vs := [(.bool true)]) (b := (true : Bool)) bools_len tS_4 hA_1 rfl (v := (.bool true)) rfl rfl rfl rfl hoA hx_2 rfl (by decide) (by omega) ?_)
  intro w25 e25 z25 o11
  refine xl_nil ?_
  refine xc_seq ?_
  refine xc_region ?_
  have q29 := (hbb.keep e25 (fun _h => hoA.ne_blk hbb (by decide) _ _h rfl))
  refine xl_op (P := Tryz.prog) (some 22) rfl rfl (ox_loadN (vs := [(.slice A s.names.length s.names.length), (.slice B s.lex.length s.lex.length)]) tA_163 tS_163 gc3 rfl ⟨q29.cell rfl, q29.cell rfl, trivial⟩ ?_)
  refine xl_op (P := Tryz.prog) (some 23) rfl rfl (ox_mkFunc (cs := [(.pointer (some ⟨w.heap.size, 0, none⟩))]) (cons_eq gc1 rfl) ?_)
  have q30 := (hoB.keep e25 (fun _k _hk _hh => hne _k _hh _hk))
  have q31 := (hb1.keep e25 (fun _h => hoA.ne_blk hb1 (by decide) _ _h rfl))
  have x7 : Ext w w25 := (Chg.trans xc e25 (fun b hb hl => (absurd hl (by have _h := hloA b hb; omega))))
  have hpa := o11
  have hpb := q30
  refine xl_op (P := Tryz.prog) (some 24) rfl rfl (ox_callE (al := [(.agg #[(.slice A s.names.length s.names.length), (.slice B s.lex.length s.lex.length)]), (.func (.func 119) #[] #[(.pointer (some ⟨w.heap.size, 0, none⟩))])]) pf_118 rfl (ret_mono (fixedR s.names.length s.names.length s.lex.length s.lex.length A B _ _ (fun h => stepR s.g.prods (h, false)) muR (fun h => h.1.length = s.names.length ∧ h.2.length = s.lex.length) 119 [.pointer (some ⟨w.heap.size, 0, none⟩)] w25 hne hpa hpb pf_119 ⟨by simp, by simp⟩ (fun h hI hg => ⟨stepR_len _ _ hI, stepR_dec hG hI.1 (hI.2.trans s.glex.symm) hg⟩) (fun h W hI ha hb hc => reached1_calls s w.heap.size s.names.length s.names.length s.lex.length s.lex.length A B h.1 h.2 w W (q31.keep hc (fun _h => _h.elim (fun _h => hpa.ne_blk q31 (by decide) _ _h rfl) (fun _h => hpb.ne_blk q31 (by decide) _ _h rfl))) (Chg.trans x7 hc (fun b hb hl => hb.elim (fun hb => absurd hl (by have _h := hloA b hb; omega)) (fun hb => absurd hl (by have _h := hloB b hb; omega)))) hloA hloB hne hS hG rfl rfl ha hb)) ?_))
  rintro _ w26 ⟨rfl, o12, o13, y1⟩
  have hy1 := y1.size
  have hrg : fixN (fun h => stepR s.g.prods (h, false)) (muR ((((List.replicate s.names.length false)).set s.start.toNat true), (List.replicate s.lex.length false)) + 1) ((((List.replicate s.names.length false)).set s.start.toNat true), (List.replicate s.lex.length false)) = reachG s.g := by unfold reachG; rw [s.glex]; rfl
  rw [hrg] at o12 o13
  have hrl := reachG_len hG
  have hrn : (reachG s.g).1.length = s.names.length := hrl.1
  have hrx : (reachG s.g).2.length = s.lex.length := hrl.2.trans s.glex
  refine xl_op (P := Tryz.prog) (some 4) rfl rfl (ox_alloc tZ_163 ?_)
  intro w27 e26 z26 b14
  replace b14 : Blk w27 w26.heap.size #[(.slice none 0 0), (.slice none 0 0)] 163 := b14
  refine xl_op (P := Tryz.prog) none rfl rfl (ox_store (n := 2) (vs := [(.slice A s.names.length s.names.length), (.slice B s.lex.length s.lex.length)]) tS_163 rfl (v := (.agg #[(.slice A s.names.length s.names.length), (.slice B s.lex.length s.lex.length)])) rfl rfl rfl rfl b14 (Nat.le_of_ble_eq_true rfl) ?_)
  intro w28 e27 z27 b15
  replace b15 : Blk w28 w26.heap.size #[(.slice A s.names.length s.names.length), (.slice B s.lex.length s.lex.length)] 163 := blk_full b15 rfl
  refine xl_nil ?_
  refine xc_seq ?_
  refine xc_seq ?_
  refine xc_region ?_
  refine xl_op (P := Tryz.prog) (some 25) rfl rfl (ox_fieldAddr (b := w26.heap.size) (o := 0) tF_163_0 rfl ?_)
  refine xl_op (P := Tryz.prog) (some 26) rfl rfl (ox_load (v := (.slice A s.names.length s.names.length)) tA_144 rfl (b15.cell rfl) ?_)
  have q32 := ((o12.ext e26).keep1 e27 (fun k hk => (o12.ext e26).ne_blk b14 (by decide) k hk))
  refine xl_op (P := Tryz.prog) (some 27) rfl rfl (ox_callE (al := [(.slice A s.names.length s.names.length), (.bool false)]) pf_89 rfl (ret_mono ((by have h := indexB (reachG s.g).1 A s.names.length false w28 (Own.rowO q32) (by rw [hrn]; omega); rw [hrn] at h; exact h)) ?_))
  rintro _ w29 ⟨rfl, e28⟩
  have he28 := e28.size
  refine xl_op (P := Tryz.prog) (some 5) rfl rfl (ox_assign (v := (.int .i64 (idxO false (reachG s.g).1 0))) rfl ?_)
  refine xl_nil ?_
  refine xc_seq ?_
  refine xc_region ?_
  refine xl_op (P := Tryz.prog) (some 28) rfl rfl (ox_move (v := (.int .i64 (idxO false (reachG s.g).1 0))) rfl ?_)
  refine xl_op (P := Tryz.prog) (some 29) rfl rfl (ox_geq (k := .i64) (a := (idxO false (reachG s.g).1 0)) (b := 0) rfl rfl ?_)
  refine xl_nil ?_
  refine xc_if (p := (0 : Int) ≤ (idxO false (reachG s.g).1 0)) rfl (fun h1 => ?_) (fun h1 => ?_)
  · skip
    refine xc_seq ?_
    refine xc_region ?_
    refine xl_op (P := Tryz.prog) (some 30) rfl rfl (ox_move (v := (.int .i64 (idxO false (reachG s.g).1 0))) rfl ?_)
    refine xl_op (P := Tryz.prog) (some 31) rfl rfl (ox_mkStruct (ps := [(0, (.int .i64 72)), (1, (.int .i64 (idxO false (reachG s.g).1 0)))]) (cs := #[(.int .i64 72), (.int .i64 (idxO false (reachG s.g).1 0)), (.string (⟨#[]⟩))]) tZ_75 tP_75 rfl (by kernel_rfl) ?_)
    have q33 := (hb2.keep e25 (fun _h => hoA.ne_blk hb2 (by decide) _ _h rfl))
    have q34 := (q33.keep y1 (fun hb => hb.elim (fun _h => o11.ne_blk q33 (by decide) _ _h rfl) (fun _h => q30.ne_blk q33 (by decide) _ _h rfl)))
    have q35 := ((q34.ext e26).keep1 e27 ((q34.ext e26).ne b14 (by decide)))
    refine xl_op (P := Tryz.prog) none rfl rfl (ox_store (n := 3) (vs := [(.int .i64 72), (.int .i64 (idxO false (reachG s.g).1 0)), (.string (⟨#[]⟩))]) tS_75 gc2 (v := (.agg #[(.int .i64 72), (.int .i64 (idxO false (reachG s.g).1 0)), (.string (⟨#[]⟩))])) rfl rfl rfl rfl (q35.ext e28) (Nat.le_of_ble_eq_true rfl) ?_)
    intro w30 e29 z28 b16
    replace b16 : Blk w30 w1.heap.size #[(.int .i64 72), (.int .i64 (idxO false (reachG s.g).1 0)), (.string (⟨#[]⟩))] 75 := blk_full b16 rfl
    refine xl_nil ?_
    refine xc_ret ?_
    change leaves _ _ _ _ _ _ _
    refine leaves_nil (n := 55) (rs := [.cell 2 75]) (vs := [.agg #[(.int .i64 72), (.int .i64 (idxO false (reachG s.g).1 0)), (.string (⟨#[]⟩))]]) rfl ⟨⟨by decide, w1.heap.size, 0, 3, [(.int .i64 72), (.int .i64 (idxO false (reachG s.g).1 0)), (.string (⟨#[]⟩))], gc2, tA_75, tS_75, rfl, ⟨b16.cell rfl, b16.cell rfl, b16.cell rfl, trivial⟩, rfl⟩, trivial⟩ ?_
    have x8 : Ext w w30 := (Ext.chg1 (Ext.trans (Ext.chg1 (Ext.trans (Chg.trans x7 y1 (fun b hb hl => hb.elim (fun hb => (absurd hl (by have _h := hloA b hb; omega))) (fun hb => (absurd hl (by have _h := hloB b hb; omega))))) e26) e27 (by omega)) e28) e29 (by omega))
    exact ⟨(show Value.agg #[(.int .i64 72), (.int .i64 (idxO false (reachG s.g).1 0)), (.string (⟨#[]⟩))] = faultV _ _ from by rw [reachedE_names h1]; rfl), x8⟩
  · skip
    refine xc_skip ?_
    refine xc_seq ?_
    refine xc_seq ?_
    refine xc_region ?_
    refine xl_op (P := Tryz.prog) (some 32) rfl rfl (ox_fieldAddr (b := w26.heap.size) (o := 0) tF_163_1 rfl ?_)
    refine xl_op (P := Tryz.prog) (some 33) rfl rfl (ox_load (v := (.slice B s.lex.length s.lex.length)) tA_144 rfl ((b15.ext e28).cell rfl) ?_)
    refine xl_op (P := Tryz.prog) (some 34) rfl rfl (ox_len (A := B) (n := s.lex.length) (cp := s.lex.length) rfl tU_144 rfl ?_)
    refine xl_op (P := Tryz.prog) (some 35) rfl rfl (ox_move (v := (.int .i64 0)) rfl ?_)
    refine xl_nil ?_
    refine xc_block ?_
    refine xc_loopN (fun m_ f_ Wx => ∃ (i : Nat), m_ = s.lex.length - i ∧ (i ≤ s.lex.length) ∧ (unR (reachG s.g).2 s.g.triv 0 = unR ((reachG s.g).2.drop i) (s.g.triv.drop i) i) ∧ f_ 1 = (.pointer (some ⟨w.heap.size, 0, none⟩)) ∧ f_ 2 = (.pointer (some ⟨w1.heap.size, 0, none⟩)) ∧ f_ 33 = (.slice B s.lex.length s.lex.length) ∧ f_ 34 = (.int .i64 (((s.lex.length : Nat) : Int))) ∧ f_ 35 = (.int .i64 ((i : Nat))) ∧ Ext w29 Wx) (s.lex.length) ?_ ?_
    · exact ⟨0, (by omega), (by omega), rfl, gc1, gc2, rfl, rfl, (by first | exact rfl | exact (congrArg (Value.int .i64) (by omega))), (Chg.refl _ _)⟩
    · rintro m_ f1 w31 ⟨i, hm_f1, hi, hq, g1_f1, g2_f1, g33_f1, g34_f1, g35_f1, x9⟩
      have hx9 := x9.size
      refine xc_seq ?_
      refine xc_region ?_
      refine xl_op (P := Tryz.prog) (some 36) rfl rfl (ox_lss (k := .i64) (a := ((i : Nat))) (b := (((s.lex.length : Nat) : Int))) g35_f1 g34_f1 ?_)
      refine xl_nil ?_
      refine xc_seq ?_
      refine xc_if (p := ((i : Nat) : Int) < (((s.lex.length : Nat) : Int))) rfl (fun h2 => ?_) (fun h2 => ?_)
      · skip
        refine xc_skip ?_
        refine xc_seq ?_
        refine xc_block ?_
        refine xc_seq ?_
        refine xc_region ?_
        refine xl_op (P := Tryz.prog) (some 37) rfl rfl (ox_move (v := (.int .i64 ((i : Nat)))) g35_f1 ?_)
        have q36 := ((o13.ext e26).keep1 e27 (fun k hk => (o13.ext e26).ne_blk b14 (by decide) k hk))
        obtain ⟨x_2, g_2, hx_3⟩ := own_may (A := B) i bools_len (by decide) ((q36.ext e28).ext x9)
        obtain ⟨hx_4, hA_2, hc_2⟩ := hx_3 (by first | omega | (simp only [List.length_drop, List.length_replicate, List.length_set, List.length_append, List.length_map, List.length_singleton] at *; omega))
        refine xl_op (P := Tryz.prog) (some 38) rfl rfl (ox_ixA (b := g_2) (o := 0) (i := ((i : Nat))) i tE_144 hA_2 g33_f1 g35_f1 rfl (by omega) ?_)
        refine xl_op (P := Tryz.prog) (some 39) rfl rfl (ox_load (v := (.bool x_2)) tA_4 rfl (CellsL.at1 hc_2 0 rfl) ?_)
        refine xl_op (P := Tryz.prog) (some 6) rfl rfl (ox_assign (v := (.int .i64 ((i : Nat)))) rfl ?_)
        refine xl_op (P := Tryz.prog) (some 7) rfl rfl (ox_assign (v := (.bool x_2)) rfl ?_)
        refine xl_nil ?_
        refine xc_seq ?_
        refine xc_region ?_
        refine xl_op (P := Tryz.prog) (some 40) rfl rfl (ox_move (v := (.bool x_2)) rfl ?_)
        refine xl_op (P := Tryz.prog) (some 41) rfl rfl (ox_not (b := x_2) rfl ?_)
        refine xl_op (P := Tryz.prog) (some 42) rfl rfl (ox_move (v := (.bool (!x_2))) rfl ?_)
        refine xl_may (P := Tryz.prog) (some 43) (j := 2) (b := true) (((!x_2)) = true) (.bool (!x_2)) (.pointer (some ⟨w.heap.size, 0, none⟩)) rfl rfl rfl (may_b ((!x_2)) true) (fun hp => ox_fieldAddr (b := w.heap.size) (o := 0) tF_26_0 g1_f1 ⟨rfl, rfl⟩) ?_
        have q37 := (q31.keep y1 (fun hb => hb.elim (fun _h => o11.ne_blk q31 (by decide) _ _h rfl) (fun _h => q30.ne_blk q31 (by decide) _ _h rfl)))
        have q38 := ((q37.ext e26).keep1 e27 ((q37.ext e26).ne b14 (by decide)))
        refine xl_may (P := Tryz.prog) (some 44) (j := 2) (b := true) (((!x_2)) = true) (.bool (!x_2)) (.slice s.lA s.lex.length s.lc) rfl rfl rfl (may_b ((!x_2)) true) (fun hp => ox_load (v := (.slice s.lA s.lex.length s.lc)) tA_22 (if_pos (α := Value) (t := (.pointer (some ⟨w.heap.size, 0, none⟩))) (e := undef) hp) (((q38.ext e28).ext x9).cell rfl) ⟨rfl, rfl⟩) ?_
        refine xl_may (P := Tryz.prog) (some 45) (j := 2) (b := true) (((!x_2)) = true) (.bool (!x_2)) (.int .i64 ((i : Nat))) rfl rfl rfl (may_b ((!x_2)) true) (fun hp => ox_move (v := (.int .i64 ((i : Nat)))) rfl ⟨rfl, rfl⟩) ?_
        have x10 : Ext w w31 := (Ext.trans (Ext.trans (Ext.chg1 (Ext.trans (Chg.trans x7 y1 (fun b hb hl => hb.elim (fun hb => (absurd hl (by have _h := hloA b hb; omega))) (fun hb => (absurd hl (by have _h := hloB b hb; omega))))) e26) e27 (by omega)) e28) x9)
        obtain ⟨x_3, g_3, o_3, hx_5⟩ := row_may (A := s.lA) (cs := LR.cs) i LR.len (by decide) (RowA.ext hS.lex x10)
        refine xl_may (P := Tryz.prog) (some 46) (j := 2) (b := true) (((!x_2)) = true) (.bool (!x_2)) (.pointer (some ⟨g_3, o_3 + i * 8, none⟩)) rfl rfl rfl (may_b ((!x_2)) true) (fun hp => by have hp' := hp; (try simp only [Bool.or_eq_true, Bool.and_eq_true, decide_eq_true_eq, Bool.or_eq_false_iff, Bool.and_eq_false_iff, decide_eq_false_iff_not, Bool.not_eq_true', Bool.not_eq_false'] at hp'); exact ox_ixA (b := g_3) (o := o_3) (i := ((i : Nat))) i tE_22 (hx_5 (by omega)).2.1 (if_pos (α := Value) (t := (.slice s.lA s.lex.length s.lc)) (e := undef) hp) (if_pos (α := Value) (t := (.int .i64 ((i : Nat)))) (e := undef) hp) rfl (by omega) ⟨rfl, rfl⟩) ?_
        refine xl_may (P := Tryz.prog) (some 47) (j := 2) (b := true) (((!x_2)) = true) (.bool (!x_2)) (.pointer (some ⟨g_3, o_3 + i * 8 + 1, none⟩)) rfl rfl rfl (may_b ((!x_2)) true) (fun hp => ox_fieldAddr (b := g_3) (o := (o_3 + i * 8)) tF_66_1 (if_pos (α := Value) (t := (.pointer (some ⟨g_3, o_3 + i * 8, none⟩))) (e := undef) hp) ⟨rfl, rfl⟩) ?_
        refine xl_may (P := Tryz.prog) (some 48) (j := 2) (b := true) (((!x_2)) = true) (.bool (!x_2)) (.bool x_3.trivia) rfl rfl rfl (may_b ((!x_2)) true) (fun hp => by have hp' := hp; (try simp only [Bool.or_eq_true, Bool.and_eq_true, decide_eq_true_eq, Bool.or_eq_false_iff, Bool.and_eq_false_iff, decide_eq_false_iff_not, Bool.not_eq_true', Bool.not_eq_false'] at hp'); exact ox_load (v := (.bool x_3.trivia)) tA_4 (if_pos (α := Value) (t := (.pointer (some ⟨g_3, o_3 + i * 8 + 1, none⟩))) (e := undef) hp) (CellsL.at1 (hx_5 (by omega)).2.2 1 rfl) ⟨rfl, rfl⟩) ?_
        refine xl_may (P := Tryz.prog) (some 49) (j := 2) (b := true) (((!x_2)) = true) (.bool (!x_2)) (.bool (!x_3.trivia)) rfl rfl rfl (may_b ((!x_2)) true) (fun hp => ox_not (b := x_3.trivia) (if_pos (α := Value) (t := (.bool x_3.trivia)) (e := undef) hp) ⟨rfl, rfl⟩) ?_
        refine xl_op (P := Tryz.prog) (some 50) rfl rfl (ox_pick_and (a := ((!x_2))) (b := ((!x_3.trivia))) rfl (fun ha => (if_pos (α := Value) (t := (.bool (!x_3.trivia))) (e := undef) ha)) rfl ?_)
        refine xl_nil ?_
        refine xc_cond (b := (((!x_2)) && ((!x_3.trivia)))) rfl (fun h3 => ?_) (fun h3 => ?_)
        · skip
          have h3' := h3
          try simp only [Bool.or_eq_true, Bool.and_eq_true, decide_eq_true_eq, Bool.or_eq_false_iff, Bool.and_eq_false_iff, decide_eq_false_iff_not, Bool.not_eq_true', Bool.not_eq_false'] at h3'
          refine xc_seq ?_
          refine xc_region ?_
          refine xl_op (P := Tryz.prog) (some 51) rfl rfl (ox_move (v := (.int .i64 ((i : Nat)))) rfl ?_)
          refine xl_op (P := Tryz.prog) (some 52) rfl rfl (ox_mkStruct (ps := [(0, (.int .i64 72)), (1, (.int .i64 ((i : Nat))))]) (cs := #[(.int .i64 72), (.int .i64 ((i : Nat))), (.string (⟨#[]⟩))]) tZ_75 tP_75 rfl (by kernel_rfl) ?_)
          have q39 := (hb2.keep e25 (fun _h => hoA.ne_blk hb2 (by decide) _ _h rfl))
          have q40 := (q39.keep y1 (fun hb => hb.elim (fun _h => o11.ne_blk q39 (by decide) _ _h rfl) (fun _h => q30.ne_blk q39 (by decide) _ _h rfl)))
          have q41 := ((q40.ext e26).keep1 e27 ((q40.ext e26).ne b14 (by decide)))
          refine xl_op (P := Tryz.prog) none rfl rfl (ox_store (n := 3) (vs := [(.int .i64 72), (.int .i64 ((i : Nat))), (.string (⟨#[]⟩))]) tS_75 g2_f1 (v := (.agg #[(.int .i64 72), (.int .i64 ((i : Nat))), (.string (⟨#[]⟩))])) rfl rfl rfl rfl ((q41.ext e28).ext x9) (Nat.le_of_ble_eq_true rfl) ?_)
          intro w32 e30 z29 b17
          replace b17 : Blk w32 w1.heap.size #[(.int .i64 72), (.int .i64 ((i : Nat))), (.string (⟨#[]⟩))] 75 := blk_full b17 rfl
          refine xl_nil ?_
          refine xc_ret ?_
          change leaves _ _ _ _ _ _ _
          refine leaves_nil (n := 55) (rs := [.cell 2 75]) (vs := [.agg #[(.int .i64 72), (.int .i64 ((i : Nat))), (.string (⟨#[]⟩))]]) rfl ⟨⟨by decide, w1.heap.size, 0, 3, [(.int .i64 72), (.int .i64 ((i : Nat))), (.string (⟨#[]⟩))], g2_f1, tA_75, tS_75, rfl, ⟨b17.cell rfl, b17.cell rfl, b17.cell rfl, trivial⟩, rfl⟩, trivial⟩ ?_
          have x11 : Ext w w32 := (Ext.chg1 x10 e30 (by omega))
          exact ⟨(show Value.agg #[(.int .i64 72), (.int .i64 ((i : Nat))), (.string (⟨#[]⟩))] = faultV _ _ from by rw [reachedE_rules h1 (hq.trans (unR_hit hx_4 (map_get (f := LR.trivia) (hx_5 (by omega)).1) h3')) (by omega)]; rfl), x11⟩
        · skip
          have h3' := h3
          try simp only [Bool.or_eq_true, Bool.and_eq_true, decide_eq_true_eq, Bool.or_eq_false_iff, Bool.and_eq_false_iff, decide_eq_false_iff_not, Bool.not_eq_true', Bool.not_eq_false'] at h3'
          refine xc_skip ?_
          refine xc_region ?_
          refine xl_op (P := Tryz.prog) (some 53) rfl rfl (ox_add64 (a := ((i : Nat))) (b := 1) g35_f1 rfl (by omega) ?_)
          refine xl_op (P := Tryz.prog) (some 35) rfl rfl (ox_move (v := (.int .i64 ((i : Nat) + 1))) rfl ?_)
          refine xl_nil ?_
          exact ⟨rfl, s.lex.length - (i + 1), by omega, i + 1, by omega, (by omega), (hq.trans (unR_next hx_4 (map_get (f := LR.trivia) (hx_5 (by omega)).1) (by intro hh; rcases h3' with h9 | h9; rw [hh.1] at h9; cases h9; rw [hh.2] at h9; cases h9))), g1_f1, g2_f1, g33_f1, g34_f1, (by first | exact rfl | exact (congrArg (Value.int .i64) (by omega))), x9⟩
      · skip
        refine xc_exit ?_
        refine xc_seq ?_
        refine xc_region ?_
        refine xl_op (P := Tryz.prog) (some 54) rfl rfl (ox_mkStruct (ps := []) (cs := #[(.int .i64 0), (.int .i64 0), (.string (⟨#[]⟩))]) tZ_75 tP_75 rfl (by kernel_rfl) ?_)
        have q42 := (hb2.keep e25 (fun _h => hoA.ne_blk hb2 (by decide) _ _h rfl))
        have q43 := (q42.keep y1 (fun hb => hb.elim (fun _h => o11.ne_blk q42 (by decide) _ _h rfl) (fun _h => q30.ne_blk q42 (by decide) _ _h rfl)))
        have q44 := ((q43.ext e26).keep1 e27 ((q43.ext e26).ne b14 (by decide)))
        refine xl_op (P := Tryz.prog) none rfl rfl (ox_store (n := 3) (vs := [(.int .i64 0), (.int .i64 0), (.string (⟨#[]⟩))]) tS_75 g2_f1 (v := (.agg #[(.int .i64 0), (.int .i64 0), (.string (⟨#[]⟩))])) rfl rfl rfl rfl ((q44.ext e28).ext x9) (Nat.le_of_ble_eq_true rfl) ?_)
        intro w33 e31 z30 b18
        replace b18 : Blk w33 w1.heap.size #[(.int .i64 0), (.int .i64 0), (.string (⟨#[]⟩))] 75 := blk_full b18 rfl
        refine xl_nil ?_
        refine xc_ret ?_
        change leaves _ _ _ _ _ _ _
        refine leaves_nil (n := 55) (rs := [.cell 2 75]) (vs := [.agg #[(.int .i64 0), (.int .i64 0), (.string (⟨#[]⟩))]]) rfl ⟨⟨by decide, w1.heap.size, 0, 3, [(.int .i64 0), (.int .i64 0), (.string (⟨#[]⟩))], g2_f1, tA_75, tS_75, rfl, ⟨b18.cell rfl, b18.cell rfl, b18.cell rfl, trivial⟩, rfl⟩, trivial⟩ ?_
        have x12 : Ext w w33 := (Ext.chg1 (Ext.trans (Ext.trans (Ext.chg1 (Ext.trans (Chg.trans x7 y1 (fun b hb hl => hb.elim (fun hb => (absurd hl (by have _h := hloA b hb; omega))) (fun hb => (absurd hl (by have _h := hloB b hb; omega))))) e26) e27 (by omega)) e28) x9) e31 (by omega))
        exact ⟨(show Value.agg #[(.int .i64 0), (.int .i64 0), (.string (⟨#[]⟩))] = faultV _ _ from by rw [reachedE_ok h1 (hq.trans (by rw [List.drop_of_length_le (by omega)]; cases s.g.triv.drop i <;> rfl))]; rfl), x12⟩
end Go.Proofs.YtnnmdkglgnlenaaGreatDoor
set_option linter.unusedVariables false
set_option linter.unusedSimpArgs false
set_option maxRecDepth 100000
set_option maxHeartbeats 4000000
namespace Go.Proofs.YtnnmdkglgnlenaaGreatDoor
open Go Go.RowKit Go.Vx
theorem stepS_len (add most : Int) (τ : Sym → Int) : ∀ (l : List P2) (h : List Int) (g : Bool), (stepS add most τ l h g).1.length = h.length
  | [], h, g => rfl
  | p :: r, h, g => by
    simp only [stepS]; split
    · rw [stepS_len add most τ r]; simp
    · exact stepS_len add most τ r h g
theorem sumsG_len {add most : Int} {τ : Sym → Int} {g : GD} (hG : GoodG g) : (sumsG add most τ g).length = g.names := fixN_inv (P := fun h => h.length = g.names) (fun h hh => (stepS_len add most τ _ h false).trans hh) _ _ List.length_replicate
def fullR : List Bool → List Int → Nat → Int
  | b :: bs, n :: ns, i => if b = true ∧ 256 < n then (i : Nat) else fullR bs ns (i + 1)
  | _, _, _ => -1
theorem fullR_hit {a : List Bool} {b : List Int} {i : Nat} {r : Bool} {t : Int} (ha : a[i]? = some r) (hb : b[i]? = some t) (h : r = true ∧ 256 < t) : fullR (a.drop i) (b.drop i) i = (i : Nat) := by rw [drop_get ha, drop_get hb, fullR, if_pos h]
theorem fullR_next {a : List Bool} {b : List Int} {i : Nat} {r : Bool} {t : Int} (ha : a[i]? = some r) (hb : b[i]? = some t) (h : ¬ (r = true ∧ 256 < t)) : fullR (a.drop i) (b.drop i) i = fullR (a.drop (i + 1)) (b.drop (i + 1)) (i + 1) := by rw [drop_get ha, drop_get hb, fullR, if_neg h]
def checkE (g : GD) : Int × Int :=
  if longG g = true then (2, 0) else if (indG g).1 ≠ 0 then indG g else if (reachedE g).1 ≠ 0 then reachedE g
  else if 0 ≤ idxO false (madeG (fun _ => true) g) 0 then (73, idxO false (madeG (fun _ => true) g) 0)
  else if 0 ≤ fullR (madeG (fun _ => false) g) (sumsG 1 256 (fun _ => 257) g) 0 then (6, fullR (madeG (fun _ => false) g) (sumsG 1 256 (fun _ => 257) g) 0) else (0, 0)
section
variable {g : GD}
theorem checkE_long (h : longG g = true) : checkE g = (2, 0) := by unfold checkE; rw [if_pos h]
theorem checkE_ind (h : longG g = false) (h1 : (indG g).1 ≠ 0) : checkE g = indG g := by unfold checkE; rw [if_neg (by rw [h]; decide), if_pos h1]
theorem checkE_reach (h : longG g = false) (h1 : ¬ ((indG g).1 ≠ 0)) (h2 : (reachedE g).1 ≠ 0) : checkE g = reachedE g := by unfold checkE; rw [if_neg (by rw [h]; decide), if_neg h1, if_pos h2]
theorem checkE_made (h : longG g = false) (h1 : ¬ ((indG g).1 ≠ 0)) (h2 : ¬ ((reachedE g).1 ≠ 0)) (h3 : 0 ≤ idxO false (madeG (fun _ => true) g) 0) : checkE g = (73, idxO false (madeG (fun _ => true) g) 0) := by unfold checkE; rw [if_neg (by rw [h]; decide), if_neg h1, if_neg h2, if_pos h3]
theorem checkE_full (h : longG g = false) (h1 : ¬ ((indG g).1 ≠ 0)) (h2 : ¬ ((reachedE g).1 ≠ 0)) (h3 : ¬ (0 ≤ idxO false (madeG (fun _ => true) g) 0)) {r : Int} (h4 : fullR (madeG (fun _ => false) g) (sumsG 1 256 (fun _ => 257) g) 0 = r) (h5 : 0 ≤ r) : checkE g = (6, r) := by
  unfold checkE; rw [if_neg (by rw [h]; decide), if_neg h1, if_neg h2, if_neg h3, h4, if_pos h5]
theorem checkE_ok (h : longG g = false) (h1 : ¬ ((indG g).1 ≠ 0)) (h2 : ¬ ((reachedE g).1 ≠ 0)) (h3 : ¬ (0 ≤ idxO false (madeG (fun _ => true) g) 0)) (h4 : fullR (madeG (fun _ => false) g) (sumsG 1 256 (fun _ => 257) g) 0 = -1) : checkE g = (0, 0) := by
  unfold checkE; rw [if_neg (by rw [h]; decide), if_neg h1, if_neg h2, if_neg h3, h4, if_neg (by decide)]
end
theorem pf_86 : plainF Tryz.prog 86 = true := by kernel_rfl
theorem pf_87 : plainF Tryz.prog 87 = true := by kernel_rfl
theorem pf_88 : plainF Tryz.prog 88 = true := by kernel_rfl
theorem pf_91 : plainF Tryz.prog 91 = true := by kernel_rfl
theorem pf_92 : plainF Tryz.prog 92 = true := by kernel_rfl
theorem pf_93 : plainF Tryz.prog 93 = true := by kernel_rfl
theorem pf_94 : plainF Tryz.prog 94 = true := by kernel_rfl
theorem tA_73 : isAggT Tryz.prog 73 = some false := by kernel_rfl
theorem tF_75_0 : fieldT Tryz.prog 75 0 = some 0 := by kernel_rfl
theorem check_calls (s : SP) (w : World) (hS : SpR w s) :
    Calls Tryz.prog 62 #[(.agg #[(.slice s.lA s.lex.length s.lc), (.slice s.nA s.names.length s.nc), (.int .i64 s.start), (.slice s.pA s.prods.length s.pc)])] w (Ret (fun v w' => v = faultV (checkE s.g).1 (checkE s.g).2 ∧ Ext w w')) := by
  have hfn := hS.fn.le; have hfl := hS.fl.le
  refine calls_xc (n := 53) (f := fun s_ => [(.agg #[(.slice s.lA s.lex.length s.lc), (.slice s.nA s.names.length s.nc), (.int .i64 s.start), (.slice s.pA s.prods.length s.pc)])].getD s_ undef) Tryz.func62 rfl rfl (by simp) (fun s_ => by simp) ?_
  refine xc_seq ?_
  refine xc_region ?_
  refine xl_op (P := Tryz.prog) (some 1) rfl rfl (ox_box (v := (.agg #[(.slice s.lA s.lex.length s.lc), (.slice s.nA s.names.length s.nc), (.int .i64 s.start), (.slice s.pA s.prods.length s.pc)])) rfl ?_)
  intro w1 e1 z1 b1
  replace b1 : Blk w1 w.heap.size #[(.slice s.lA s.lex.length s.lc), (.slice s.nA s.names.length s.nc), (.int .i64 s.start), (.slice s.pA s.prods.length s.pc)] 26 := b1
  refine xl_op (P := Tryz.prog) (some 2) rfl rfl (ox_alloc tZ_75 ?_)
  intro w2 e2 z2 b2
  replace b2 : Blk w2 w1.heap.size #[(.int .i64 0), (.int .i64 0), (.string (⟨#[]⟩))] 75 := b2
  refine xl_nil ?_
  refine xc_seq ?_
  refine xc_seq ?_
  refine xc_region ?_
  refine xl_op (P := Tryz.prog) (some 9) rfl rfl (ox_loadN (vs := [(.slice s.lA s.lex.length s.lc), (.slice s.nA s.names.length s.nc), (.int .i64 s.start), (.slice s.pA s.prods.length s.pc)]) tA_26 tS_26 rfl rfl ⟨(b1.ext e2).cell rfl, (b1.ext e2).cell rfl, (b1.ext e2).cell rfl, (b1.ext e2).cell rfl, trivial⟩ ?_)
  have x1 : Ext w w2 := (Ext.trans e1 e2)
  refine xl_op (P := Tryz.prog) (some 10) rfl rfl (ox_callE (al := [(.agg #[(.slice s.lA s.lex.length s.lc), (.slice s.nA s.names.length s.nc), (.int .i64 s.start), (.slice s.pA s.prods.length s.pc)])]) pf_86 rfl (ret_mono (long_calls s w2 (hS.ext x1)) ?_))
  rintro _ w3 ⟨rfl, e3⟩
  have he3 := e3.size
  refine xl_nil ?_
  refine xc_cond (b := (longG s.g)) rfl (fun h1 => ?_) (fun h1 => ?_)
  · skip
    have h1' := h1
    try simp only [Bool.or_eq_true, Bool.and_eq_true, decide_eq_true_eq, Bool.or_eq_false_iff, Bool.and_eq_false_iff, decide_eq_false_iff_not, Bool.not_eq_true', Bool.not_eq_false'] at h1'
    refine xc_seq ?_
    refine xc_region ?_
    refine xl_op (P := Tryz.prog) (some 11) rfl rfl (ox_mkStruct (ps := [(0, (.int .i64 2))]) (cs := #[(.int .i64 2), (.int .i64 0), (.string (⟨#[]⟩))]) tZ_75 tP_75 rfl (by kernel_rfl) ?_)
    refine xl_op (P := Tryz.prog) none rfl rfl (ox_store (n := 3) (vs := [(.int .i64 2), (.int .i64 0), (.string (⟨#[]⟩))]) tS_75 rfl (v := (.agg #[(.int .i64 2), (.int .i64 0), (.string (⟨#[]⟩))])) rfl rfl rfl rfl (b2.ext e3) (Nat.le_of_ble_eq_true rfl) ?_)
    intro w4 e4 z3 b3
    replace b3 : Blk w4 w1.heap.size #[(.int .i64 2), (.int .i64 0), (.string (⟨#[]⟩))] 75 := blk_full b3 rfl
    refine xl_nil ?_
    refine xc_ret ?_
    change leaves _ _ _ _ _ _ _
    refine leaves_nil (n := 53) (rs := [.cell 2 75]) (vs := [.agg #[(.int .i64 2), (.int .i64 0), (.string (⟨#[]⟩))]]) rfl ⟨⟨by decide, w1.heap.size, 0, 3, [(.int .i64 2), (.int .i64 0), (.string (⟨#[]⟩))], rfl, tA_75, tS_75, rfl, ⟨b3.cell rfl, b3.cell rfl, b3.cell rfl, trivial⟩, rfl⟩, trivial⟩ ?_
    have x2 : Ext w w4 := (Ext.chg1 (Ext.trans x1 e3) e4 (by omega))
    exact ⟨(show Value.agg #[(.int .i64 2), (.int .i64 0), (.string (⟨#[]⟩))] = faultV _ _ from by rw [checkE_long h1]; rfl), x2⟩
  · skip
    have h1' := h1
    try simp only [Bool.or_eq_true, Bool.and_eq_true, decide_eq_true_eq, Bool.or_eq_false_iff, Bool.and_eq_false_iff, decide_eq_false_iff_not, Bool.not_eq_true', Bool.not_eq_false'] at h1'
    refine xc_skip ?_
    refine xc_seq ?_
    refine xc_seq ?_
    refine xc_region ?_
    refine xl_op (P := Tryz.prog) (some 12) rfl rfl (ox_loadN (vs := [(.slice s.lA s.lex.length s.lc), (.slice s.nA s.names.length s.nc), (.int .i64 s.start), (.slice s.pA s.prods.length s.pc)]) tA_26 tS_26 rfl rfl ⟨((b1.ext e2).ext e3).cell rfl, ((b1.ext e2).ext e3).cell rfl, ((b1.ext e2).ext e3).cell rfl, ((b1.ext e2).ext e3).cell rfl, trivial⟩ ?_)
    have x3 : Ext w w3 := (Ext.trans x1 e3)
    refine xl_op (P := Tryz.prog) (some 13) rfl rfl (ox_callE (al := [(.agg #[(.slice s.lA s.lex.length s.lc), (.slice s.nA s.names.length s.nc), (.int .i64 s.start), (.slice s.pA s.prods.length s.pc)])]) pf_87 rfl (ret_mono (indices_calls s w3 (hS.ext x3)) ?_))
    rintro _ w5 ⟨rfl, e5⟩
    have he5 := e5.size
    refine xl_op (P := Tryz.prog) (some 3) rfl rfl (ox_alloc tZ_75 ?_)
    intro w6 e6 z4 b4
    replace b4 : Blk w6 w5.heap.size #[(.int .i64 0), (.int .i64 0), (.string (⟨#[]⟩))] 75 := b4
    refine xl_op (P := Tryz.prog) none rfl rfl (ox_store (n := 3) (vs := [(.int .i64 ((indG s.g).1)), (.int .i64 ((indG s.g).2)), (.string (⟨#[]⟩))]) tS_75 rfl (v := (.agg #[(.int .i64 ((indG s.g).1)), (.int .i64 ((indG s.g).2)), (.string (⟨#[]⟩))])) rfl rfl rfl rfl b4 (Nat.le_of_ble_eq_true rfl) ?_)
    intro w7 e7 z5 b5
    replace b5 : Blk w7 w5.heap.size #[(.int .i64 ((indG s.g).1)), (.int .i64 ((indG s.g).2)), (.string (⟨#[]⟩))] 75 := blk_full b5 rfl
    refine xl_nil ?_
    refine xc_seq ?_
    refine xc_region ?_
    refine xl_op (P := Tryz.prog) (some 14) rfl rfl (ox_fieldAddr (b := w5.heap.size) (o := 0) tF_75_0 rfl ?_)
    refine xl_op (P := Tryz.prog) (some 15) rfl rfl (ox_load (v := (.int .i64 ((indG s.g).1))) tA_73 rfl (b5.cell rfl) ?_)
    refine xl_op (P := Tryz.prog) (some 16) rfl rfl (ox_neq (k := .i64) (a := ((indG s.g).1)) (b := 0) rfl rfl ?_)
    refine xl_nil ?_
    refine xc_if (p := ((indG s.g).1 : Int) ≠ 0) rfl (fun h2 => ?_) (fun h2 => ?_)
    · skip
      refine xc_seq ?_
      refine xc_region ?_
      refine xl_op (P := Tryz.prog) (some 17) rfl rfl (ox_loadN (vs := [(.int .i64 ((indG s.g).1)), (.int .i64 ((indG s.g).2)), (.string (⟨#[]⟩))]) tA_75 tS_75 rfl rfl ⟨b5.cell rfl, b5.cell rfl, b5.cell rfl, trivial⟩ ?_)
      have q1 := ((((b2.ext e3).ext e5).ext e6).keep1 e7 (by have _q := b2.lt; omega))
      refine xl_op (P := Tryz.prog) none rfl rfl (ox_store (n := 3) (vs := [(.int .i64 ((indG s.g).1)), (.int .i64 ((indG s.g).2)), (.string (⟨#[]⟩))]) tS_75 rfl (v := (.agg #[(.int .i64 ((indG s.g).1)), (.int .i64 ((indG s.g).2)), (.string (⟨#[]⟩))])) rfl rfl rfl rfl q1 (Nat.le_of_ble_eq_true rfl) ?_)
      intro w8 e8 z6 b6
      replace b6 : Blk w8 w1.heap.size #[(.int .i64 ((indG s.g).1)), (.int .i64 ((indG s.g).2)), (.string (⟨#[]⟩))] 75 := blk_full b6 rfl
      refine xl_nil ?_
      refine xc_ret ?_
      change leaves _ _ _ _ _ _ _
      refine leaves_nil (n := 53) (rs := [.cell 2 75]) (vs := [.agg #[(.int .i64 ((indG s.g).1)), (.int .i64 ((indG s.g).2)), (.string (⟨#[]⟩))]]) rfl ⟨⟨by decide, w1.heap.size, 0, 3, [(.int .i64 ((indG s.g).1)), (.int .i64 ((indG s.g).2)), (.string (⟨#[]⟩))], rfl, tA_75, tS_75, rfl, ⟨b6.cell rfl, b6.cell rfl, b6.cell rfl, trivial⟩, rfl⟩, trivial⟩ ?_
      have x4 : Ext w w8 := (Ext.chg1 (Ext.chg1 (Ext.trans (Ext.trans x3 e5) e6) e7 (by omega)) e8 (by omega))
      exact ⟨(show Value.agg #[(.int .i64 ((indG s.g).1)), (.int .i64 ((indG s.g).2)), (.string (⟨#[]⟩))] = faultV _ _ from by rw [checkE_ind h1 h2]; rfl), x4⟩
    · skip
      have hG := good_of (g := s.g) (by omega)
      have hml := madeG_len (fun _ => true) s.g; have hnl := madeG_len (fun _ => false) s.g; have hsl := sumsG_len (add := 1) (most := 256) (τ := fun _ => 257) hG; have hgn : s.g.names = s.names.length := rfl
      refine xc_skip ?_
      refine xc_seq ?_
      refine xc_seq ?_
      refine xc_region ?_
      have q2 := (((((b1.ext e2).ext e3).ext e5).ext e6).keep1 e7 (((((b1.ext e2).ext e3).ext e5).ext e6).ne b4 (by decide)))
      refine xl_op (P := Tryz.prog) (some 18) rfl rfl (ox_loadN (vs := [(.slice s.lA s.lex.length s.lc), (.slice s.nA s.names.length s.nc), (.int .i64 s.start), (.slice s.pA s.prods.length s.pc)]) tA_26 tS_26 rfl rfl ⟨q2.cell rfl, q2.cell rfl, q2.cell rfl, q2.cell rfl, trivial⟩ ?_)
      have x5 : Ext w w7 := (Ext.chg1 (Ext.trans (Ext.trans x3 e5) e6) e7 (by omega))
      refine xl_op (P := Tryz.prog) (some 19) rfl rfl (ox_callE (al := [(.agg #[(.slice s.lA s.lex.length s.lc), (.slice s.nA s.names.length s.nc), (.int .i64 s.start), (.slice s.pA s.prods.length s.pc)])]) pf_88 rfl (ret_mono (reached_calls s w7 (hS.ext x5) hG) ?_))
      rintro _ w9 ⟨rfl, e9⟩
      have he9 := e9.size
      refine xl_op (P := Tryz.prog) (some 4) rfl rfl (ox_alloc tZ_75 ?_)
      intro w10 e10 z7 b7
      replace b7 : Blk w10 w9.heap.size #[(.int .i64 0), (.int .i64 0), (.string (⟨#[]⟩))] 75 := b7
      refine xl_op (P := Tryz.prog) none rfl rfl (ox_store (n := 3) (vs := [(.int .i64 ((reachedE s.g).1)), (.int .i64 ((reachedE s.g).2)), (.string (⟨#[]⟩))]) tS_75 rfl (v := (.agg #[(.int .i64 ((reachedE s.g).1)), (.int .i64 ((reachedE s.g).2)), (.string (⟨#[]⟩))])) rfl rfl rfl rfl b7 (Nat.le_of_ble_eq_true rfl) ?_)
      intro w11 e11 z8 b8
      replace b8 : Blk w11 w9.heap.size #[(.int .i64 ((reachedE s.g).1)), (.int .i64 ((reachedE s.g).2)), (.string (⟨#[]⟩))] 75 := blk_full b8 rfl
      refine xl_nil ?_
      refine xc_seq ?_
      refine xc_region ?_
      refine xl_op (P := Tryz.prog) (some 20) rfl rfl (ox_fieldAddr (b := w9.heap.size) (o := 0) tF_75_0 rfl ?_)
      refine xl_op (P := Tryz.prog) (some 21) rfl rfl (ox_load (v := (.int .i64 ((reachedE s.g).1))) tA_73 rfl (b8.cell rfl) ?_)
      refine xl_op (P := Tryz.prog) (some 22) rfl rfl (ox_neq (k := .i64) (a := ((reachedE s.g).1)) (b := 0) rfl rfl ?_)
      refine xl_nil ?_
      refine xc_if (p := ((reachedE s.g).1 : Int) ≠ 0) rfl (fun h3 => ?_) (fun h3 => ?_)
      · skip
        refine xc_seq ?_
        refine xc_region ?_
        refine xl_op (P := Tryz.prog) (some 23) rfl rfl (ox_loadN (vs := [(.int .i64 ((reachedE s.g).1)), (.int .i64 ((reachedE s.g).2)), (.string (⟨#[]⟩))]) tA_75 tS_75 rfl rfl ⟨b8.cell rfl, b8.cell rfl, b8.cell rfl, trivial⟩ ?_)
        have q3 := ((((b2.ext e3).ext e5).ext e6).keep1 e7 (by have _q := b2.lt; omega))
        have q4 := (((q3.ext e9).ext e10).keep1 e11 (by have _q := b2.lt; omega))
        refine xl_op (P := Tryz.prog) none rfl rfl (ox_store (n := 3) (vs := [(.int .i64 ((reachedE s.g).1)), (.int .i64 ((reachedE s.g).2)), (.string (⟨#[]⟩))]) tS_75 rfl (v := (.agg #[(.int .i64 ((reachedE s.g).1)), (.int .i64 ((reachedE s.g).2)), (.string (⟨#[]⟩))])) rfl rfl rfl rfl q4 (Nat.le_of_ble_eq_true rfl) ?_)
        intro w12 e12 z9 b9
        replace b9 : Blk w12 w1.heap.size #[(.int .i64 ((reachedE s.g).1)), (.int .i64 ((reachedE s.g).2)), (.string (⟨#[]⟩))] 75 := blk_full b9 rfl
        refine xl_nil ?_
        refine xc_ret ?_
        change leaves _ _ _ _ _ _ _
        refine leaves_nil (n := 53) (rs := [.cell 2 75]) (vs := [.agg #[(.int .i64 ((reachedE s.g).1)), (.int .i64 ((reachedE s.g).2)), (.string (⟨#[]⟩))]]) rfl ⟨⟨by decide, w1.heap.size, 0, 3, [(.int .i64 ((reachedE s.g).1)), (.int .i64 ((reachedE s.g).2)), (.string (⟨#[]⟩))], rfl, tA_75, tS_75, rfl, ⟨b9.cell rfl, b9.cell rfl, b9.cell rfl, trivial⟩, rfl⟩, trivial⟩ ?_
        have x6 : Ext w w12 := (Ext.chg1 (Ext.chg1 (Ext.trans (Ext.trans x5 e9) e10) e11 (by omega)) e12 (by omega))
        exact ⟨(show Value.agg #[(.int .i64 ((reachedE s.g).1)), (.int .i64 ((reachedE s.g).2)), (.string (⟨#[]⟩))] = faultV _ _ from by rw [checkE_reach h1 h2 h3]; rfl), x6⟩
      · skip
        refine xc_skip ?_
        refine xc_seq ?_
        refine xc_seq ?_
        refine xc_region ?_
        have q5 := (((q2.ext e9).ext e10).keep1 e11 (((q2.ext e9).ext e10).ne b7 (by decide)))
        refine xl_op (P := Tryz.prog) (some 24) rfl rfl (ox_loadN (vs := [(.slice s.lA s.lex.length s.lc), (.slice s.nA s.names.length s.nc), (.int .i64 s.start), (.slice s.pA s.prods.length s.pc)]) tA_26 tS_26 rfl rfl ⟨q5.cell rfl, q5.cell rfl, q5.cell rfl, q5.cell rfl, trivial⟩ ?_)
        have x7 : Ext w w11 := (Ext.chg1 (Ext.trans (Ext.trans x5 e9) e10) e11 (by omega))
        refine xl_op (P := Tryz.prog) (some 25) rfl rfl (ox_callE (al := [(.agg #[(.slice s.lA s.lex.length s.lc), (.slice s.nA s.names.length s.nc), (.int .i64 s.start), (.slice s.pA s.prods.length s.pc)]), (.func (.func 91) #[] #[])]) pf_90 rfl (ret_mono (made_calls s (fun _ => true) 91 [] w11 (hS.ext x7) hG pf_91 (fun x W => check1_calls x W)) ?_))
        rintro _ w13 ⟨A1, rfl, o1, lo1, e13⟩
        have he13 := e13.size
        refine xl_op (P := Tryz.prog) (some 26) rfl rfl (ox_callE (al := [(.slice A1 s.names.length s.names.length), (.bool false)]) pf_89 rfl (ret_mono ((by have h := indexB (madeG (fun _ => true) s.g) A1 s.names.length false w13 (Own.rowO o1) (by rw [madeG_len]; exact hfn); rw [madeG_len] at h; exact h)) ?_))
        rintro _ w14 ⟨rfl, e14⟩
        have he14 := e14.size
        refine xl_op (P := Tryz.prog) (some 5) rfl rfl (ox_assign (v := (.int .i64 (idxO false (madeG (fun _ => true) s.g) 0))) rfl ?_)
        refine xl_nil ?_
        refine xc_seq ?_
        refine xc_region ?_
        refine xl_op (P := Tryz.prog) (some 27) rfl rfl (ox_move (v := (.int .i64 (idxO false (madeG (fun _ => true) s.g) 0))) rfl ?_)
        refine xl_op (P := Tryz.prog) (some 28) rfl rfl (ox_geq (k := .i64) (a := (idxO false (madeG (fun _ => true) s.g) 0)) (b := 0) rfl rfl ?_)
        refine xl_nil ?_
        refine xc_if (p := (0 : Int) ≤ (idxO false (madeG (fun _ => true) s.g) 0)) rfl (fun h4 => ?_) (fun h4 => ?_)
        · skip
          refine xc_seq ?_
          refine xc_region ?_
          refine xl_op (P := Tryz.prog) (some 29) rfl rfl (ox_move (v := (.int .i64 (idxO false (madeG (fun _ => true) s.g) 0))) rfl ?_)
          refine xl_op (P := Tryz.prog) (some 30) rfl rfl (ox_mkStruct (ps := [(0, (.int .i64 73)), (1, (.int .i64 (idxO false (madeG (fun _ => true) s.g) 0)))]) (cs := #[(.int .i64 73), (.int .i64 (idxO false (madeG (fun _ => true) s.g) 0)), (.string (⟨#[]⟩))]) tZ_75 tP_75 rfl (by kernel_rfl) ?_)
          have q6 := ((((b2.ext e3).ext e5).ext e6).keep1 e7 (by have _q := b2.lt; omega))
          have q7 := (((q6.ext e9).ext e10).keep1 e11 (by have _q := b2.lt; omega))
          refine xl_op (P := Tryz.prog) none rfl rfl (ox_store (n := 3) (vs := [(.int .i64 73), (.int .i64 (idxO false (madeG (fun _ => true) s.g) 0)), (.string (⟨#[]⟩))]) tS_75 rfl (v := (.agg #[(.int .i64 73), (.int .i64 (idxO false (madeG (fun _ => true) s.g) 0)), (.string (⟨#[]⟩))])) rfl rfl rfl rfl ((q7.ext e13).ext e14) (Nat.le_of_ble_eq_true rfl) ?_)
          intro w15 e15 z10 b10
          replace b10 : Blk w15 w1.heap.size #[(.int .i64 73), (.int .i64 (idxO false (madeG (fun _ => true) s.g) 0)), (.string (⟨#[]⟩))] 75 := blk_full b10 rfl
          refine xl_nil ?_
          refine xc_ret ?_
          change leaves _ _ _ _ _ _ _
          refine leaves_nil (n := 53) (rs := [.cell 2 75]) (vs := [.agg #[(.int .i64 73), (.int .i64 (idxO false (madeG (fun _ => true) s.g) 0)), (.string (⟨#[]⟩))]]) rfl ⟨⟨by decide, w1.heap.size, 0, 3, [(.int .i64 73), (.int .i64 (idxO false (madeG (fun _ => true) s.g) 0)), (.string (⟨#[]⟩))], rfl, tA_75, tS_75, rfl, ⟨b10.cell rfl, b10.cell rfl, b10.cell rfl, trivial⟩, rfl⟩, trivial⟩ ?_
          have x8 : Ext w w15 := (Ext.chg1 (Ext.trans (Ext.trans x7 e13) e14) e15 (by omega))
          exact ⟨(show Value.agg #[(.int .i64 73), (.int .i64 (idxO false (madeG (fun _ => true) s.g) 0)), (.string (⟨#[]⟩))] = faultV _ _ from by rw [checkE_made h1 h2 h3 h4]; rfl), x8⟩
        · skip
          refine xc_skip ?_
          refine xc_seq ?_
          refine xc_region ?_
          refine xl_op (P := Tryz.prog) (some 31) rfl rfl (ox_loadN (vs := [(.slice s.lA s.lex.length s.lc), (.slice s.nA s.names.length s.nc), (.int .i64 s.start), (.slice s.pA s.prods.length s.pc)]) tA_26 tS_26 rfl rfl ⟨((q5.ext e13).ext e14).cell rfl, ((q5.ext e13).ext e14).cell rfl, ((q5.ext e13).ext e14).cell rfl, ((q5.ext e13).ext e14).cell rfl, trivial⟩ ?_)
          have x9 : Ext w w14 := (Ext.trans (Ext.trans x7 e13) e14)
          refine xl_op (P := Tryz.prog) (some 32) rfl rfl (ox_callE (al := [(.agg #[(.slice s.lA s.lex.length s.lc), (.slice s.nA s.names.length s.nc), (.int .i64 s.start), (.slice s.pA s.prods.length s.pc)]), (.int .i64 1), (.int .i64 256), (.func (.func 93) #[] #[])]) pf_92 rfl (ret_mono (sums_calls s 1 256 (fun _ => 257) 93 [] w14 (hS.ext x9) hG (by omega) (by omega) pf_93 (fun _ => by omega) (fun x W => check2_calls x W)) ?_))
          rintro _ w16 ⟨A2, rfl, o2, lo2, e16⟩
          have he16 := e16.size
          refine xl_op (P := Tryz.prog) (some 6) rfl rfl (ox_assign (v := (.slice A2 s.names.length s.names.length)) rfl ?_)
          refine xl_nil ?_
          refine xc_seq ?_
          refine xc_seq ?_
          refine xc_region ?_
          refine xl_op (P := Tryz.prog) (some 33) rfl rfl (ox_loadN (vs := [(.slice s.lA s.lex.length s.lc), (.slice s.nA s.names.length s.nc), (.int .i64 s.start), (.slice s.pA s.prods.length s.pc)]) tA_26 tS_26 rfl rfl ⟨(((q5.ext e13).ext e14).ext e16).cell rfl, (((q5.ext e13).ext e14).ext e16).cell rfl, (((q5.ext e13).ext e14).ext e16).cell rfl, (((q5.ext e13).ext e14).ext e16).cell rfl, trivial⟩ ?_)
          have x10 : Ext w w16 := (Ext.trans x9 e16)
          refine xl_op (P := Tryz.prog) (some 34) rfl rfl (ox_callE (al := [(.agg #[(.slice s.lA s.lex.length s.lc), (.slice s.nA s.names.length s.nc), (.int .i64 s.start), (.slice s.pA s.prods.length s.pc)])]) pf_94 rfl (ret_mono (nullable_calls s w16 (hS.ext x10) hG) ?_))
          rintro _ w17 ⟨A3, rfl, o3, lo3, e17⟩
          have he17 := e17.size
          refine xl_op (P := Tryz.prog) (some 35) rfl rfl (ox_len (A := A3) (n := s.names.length) (cp := s.names.length) rfl tU_144 rfl ?_)
          refine xl_op (P := Tryz.prog) (some 36) rfl rfl (ox_move (v := (.int .i64 0)) rfl ?_)
          refine xl_nil ?_
          refine xc_block ?_
          refine xc_loopN (fun m_ f_ Wx => ∃ (i : Nat), m_ = s.names.length - i ∧ (i ≤ s.names.length) ∧ (fullR (madeG (fun _ => false) s.g) (sumsG 1 256 (fun _ => 257) s.g) 0 = fullR ((madeG (fun _ => false) s.g).drop i) ((sumsG 1 256 (fun _ => 257) s.g).drop i) i) ∧ f_ 2 = (.pointer (some ⟨w1.heap.size, 0, none⟩)) ∧ f_ 6 = (.slice A2 s.names.length s.names.length) ∧ f_ 34 = (.slice A3 s.names.length s.names.length) ∧ f_ 35 = (.int .i64 (((s.names.length : Nat) : Int))) ∧ f_ 36 = (.int .i64 ((i : Nat))) ∧ Ext w17 Wx) (s.names.length) ?_ ?_
          · exact ⟨0, (by omega), (by omega), rfl, rfl, rfl, rfl, rfl, (by first | exact rfl | exact (congrArg (Value.int .i64) (by omega))), (Chg.refl _ _)⟩
          · rintro m_ f1 w18 ⟨i, hm_f1, hi, hq, g2_f1, g6_f1, g34_f1, g35_f1, g36_f1, x11⟩
            have hx11 := x11.size
            refine xc_seq ?_
            refine xc_region ?_
            refine xl_op (P := Tryz.prog) (some 37) rfl rfl (ox_lss (k := .i64) (a := ((i : Nat))) (b := (((s.names.length : Nat) : Int))) g36_f1 g35_f1 ?_)
            refine xl_nil ?_
            refine xc_seq ?_
            refine xc_if (p := ((i : Nat) : Int) < (((s.names.length : Nat) : Int))) rfl (fun h5 => ?_) (fun h5 => ?_)
            · skip
              refine xc_skip ?_
              refine xc_seq ?_
              refine xc_block ?_
              refine xc_seq ?_
              refine xc_region ?_
              refine xl_op (P := Tryz.prog) (some 38) rfl rfl (ox_move (v := (.int .i64 ((i : Nat)))) g36_f1 ?_)
              obtain ⟨x_1, g_1, hx_1⟩ := own_may (A := A3) i bools_len (by decide) (o3.ext x11)
              obtain ⟨hx_2, hA_1, hc_1⟩ := hx_1 (by first | omega | (simp only [List.length_drop, List.length_replicate, List.length_set, List.length_append, List.length_map, List.length_singleton] at *; omega))
              refine xl_op (P := Tryz.prog) (some 39) rfl rfl (ox_ixA (b := g_1) (o := 0) (i := ((i : Nat))) i tE_144 hA_1 g34_f1 g36_f1 rfl (by omega) ?_)
              refine xl_op (P := Tryz.prog) (some 40) rfl rfl (ox_load (v := (.bool x_1)) tA_4 rfl (CellsL.at1 hc_1 0 rfl) ?_)
              refine xl_op (P := Tryz.prog) (some 7) rfl rfl (ox_assign (v := (.int .i64 ((i : Nat)))) rfl ?_)
              refine xl_op (P := Tryz.prog) (some 8) rfl rfl (ox_assign (v := (.bool x_1)) rfl ?_)
              refine xl_nil ?_
              refine xc_seq ?_
              refine xc_region ?_
              refine xl_op (P := Tryz.prog) (some 41) rfl rfl (ox_move (v := (.bool x_1)) rfl ?_)
              refine xl_op (P := Tryz.prog) (some 42) rfl rfl (ox_move (v := (.bool x_1)) rfl ?_)
              refine xl_may (P := Tryz.prog) (some 43) (j := 1) (b := true) (x_1 = true) (.bool x_1) (.slice A2 s.names.length s.names.length) rfl rfl rfl (may_b x_1 true) (fun hp => ox_move (v := (.slice A2 s.names.length s.names.length)) g6_f1 ⟨rfl, rfl⟩) ?_
              refine xl_may (P := Tryz.prog) (some 44) (j := 1) (b := true) (x_1 = true) (.bool x_1) (.int .i64 ((i : Nat))) rfl rfl rfl (may_b x_1 true) (fun hp => ox_move (v := (.int .i64 ((i : Nat)))) rfl ⟨rfl, rfl⟩) ?_
              obtain ⟨x_2, g_2, hx_3⟩ := own_may (A := A2) i ints_len (by decide) ((o2.ext e17).ext x11)
              refine xl_may (P := Tryz.prog) (some 45) (j := 1) (b := true) (x_1 = true) (.bool x_1) (.pointer (some ⟨g_2, 0 + i * 1, none⟩)) rfl rfl rfl (may_b x_1 true) (fun hp => by have hp' := hp; (try simp only [Bool.or_eq_true, Bool.and_eq_true, decide_eq_true_eq, Bool.or_eq_false_iff, Bool.and_eq_false_iff, decide_eq_false_iff_not, Bool.not_eq_true', Bool.not_eq_false'] at hp'); exact ox_ixA (b := g_2) (o := 0) (i := ((i : Nat))) i tE_27 (hx_3 (by omega)).2.1 (if_pos (α := Value) (t := (.slice A2 s.names.length s.names.length)) (e := undef) hp) (if_pos (α := Value) (t := (.int .i64 ((i : Nat)))) (e := undef) hp) rfl (by omega) ⟨rfl, rfl⟩) ?_
              refine xl_may (P := Tryz.prog) (some 46) (j := 1) (b := true) (x_1 = true) (.bool x_1) (.int .i64 x_2) rfl rfl rfl (may_b x_1 true) (fun hp => by have hp' := hp; (try simp only [Bool.or_eq_true, Bool.and_eq_true, decide_eq_true_eq, Bool.or_eq_false_iff, Bool.and_eq_false_iff, decide_eq_false_iff_not, Bool.not_eq_true', Bool.not_eq_false'] at hp'); exact ox_load (v := (.int .i64 x_2)) tA_3 (if_pos (α := Value) (t := (.pointer (some ⟨g_2, 0 + i * 1, none⟩))) (e := undef) hp) (CellsL.at1 (hx_3 (by omega)).2.2 0 rfl) ⟨rfl, rfl⟩) ?_
              refine xl_may (P := Tryz.prog) (some 47) (j := 1) (b := true) (x_1 = true) (.bool x_1) (.bool (decide ((256 : Int) < x_2))) rfl rfl rfl (may_b x_1 true) (fun hp => ox_gtr (k := .i64) (a := x_2) (b := 256) (if_pos (α := Value) (t := (.int .i64 x_2)) (e := undef) hp) rfl ⟨rfl, rfl⟩) ?_
              refine xl_op (P := Tryz.prog) (some 48) rfl rfl (ox_pick_and (a := x_1) (b := ((decide ((256 : Int) < x_2)))) rfl (fun ha => (if_pos (α := Value) (t := (.bool (decide ((256 : Int) < x_2)))) (e := undef) ha)) rfl ?_)
              refine xl_nil ?_
              refine xc_cond (b := (x_1 && ((decide ((256 : Int) < x_2))))) rfl (fun h6 => ?_) (fun h6 => ?_)
              · skip
                have h6' := h6
                try simp only [Bool.or_eq_true, Bool.and_eq_true, decide_eq_true_eq, Bool.or_eq_false_iff, Bool.and_eq_false_iff, decide_eq_false_iff_not, Bool.not_eq_true', Bool.not_eq_false'] at h6'
                refine xc_seq ?_
                refine xc_region ?_
                refine xl_op (P := Tryz.prog) (some 49) rfl rfl (ox_move (v := (.int .i64 ((i : Nat)))) rfl ?_)
                refine xl_op (P := Tryz.prog) (some 50) rfl rfl (ox_mkStruct (ps := [(0, (.int .i64 6)), (1, (.int .i64 ((i : Nat))))]) (cs := #[(.int .i64 6), (.int .i64 ((i : Nat))), (.string (⟨#[]⟩))]) tZ_75 tP_75 rfl (by kernel_rfl) ?_)
                have q8 := ((((b2.ext e3).ext e5).ext e6).keep1 e7 (by have _q := b2.lt; omega))
                have q9 := (((q8.ext e9).ext e10).keep1 e11 (by have _q := b2.lt; omega))
                have q10 := ((((q9.ext e13).ext e14).ext e16).ext e17)
                refine xl_op (P := Tryz.prog) none rfl rfl (ox_store (n := 3) (vs := [(.int .i64 6), (.int .i64 ((i : Nat))), (.string (⟨#[]⟩))]) tS_75 g2_f1 (v := (.agg #[(.int .i64 6), (.int .i64 ((i : Nat))), (.string (⟨#[]⟩))])) rfl rfl rfl rfl (q10.ext x11) (Nat.le_of_ble_eq_true rfl) ?_)
                intro w19 e18 z11 b11
                replace b11 : Blk w19 w1.heap.size #[(.int .i64 6), (.int .i64 ((i : Nat))), (.string (⟨#[]⟩))] 75 := blk_full b11 rfl
                refine xl_nil ?_
                refine xc_ret ?_
                change leaves _ _ _ _ _ _ _
                refine leaves_nil (n := 53) (rs := [.cell 2 75]) (vs := [.agg #[(.int .i64 6), (.int .i64 ((i : Nat))), (.string (⟨#[]⟩))]]) rfl ⟨⟨by decide, w1.heap.size, 0, 3, [(.int .i64 6), (.int .i64 ((i : Nat))), (.string (⟨#[]⟩))], g2_f1, tA_75, tS_75, rfl, ⟨b11.cell rfl, b11.cell rfl, b11.cell rfl, trivial⟩, rfl⟩, trivial⟩ ?_
                have x12 : Ext w w19 := (Ext.chg1 (Ext.trans (Ext.trans x10 e17) x11) e18 (by omega))
                exact ⟨(show Value.agg #[(.int .i64 6), (.int .i64 ((i : Nat))), (.string (⟨#[]⟩))] = faultV _ _ from by rw [checkE_full h1 h2 h3 h4 (hq.trans (fullR_hit hx_2 (hx_3 (by rw [sumsG_len hG]; exact (by omega : i < s.names.length))).1 (by exact ⟨by simp_all, by omega⟩))) (by omega)]; rfl), x12⟩
              · skip
                have h6' := h6
                try simp only [Bool.or_eq_true, Bool.and_eq_true, decide_eq_true_eq, Bool.or_eq_false_iff, Bool.and_eq_false_iff, decide_eq_false_iff_not, Bool.not_eq_true', Bool.not_eq_false'] at h6'
                refine xc_skip ?_
                refine xc_region ?_
                refine xl_op (P := Tryz.prog) (some 51) rfl rfl (ox_add64 (a := ((i : Nat))) (b := 1) g36_f1 rfl (by omega) ?_)
                refine xl_op (P := Tryz.prog) (some 36) rfl rfl (ox_move (v := (.int .i64 ((i : Nat) + 1))) rfl ?_)
                refine xl_nil ?_
                exact ⟨rfl, s.names.length - (i + 1), by omega, i + 1, by omega, (by omega), (hq.trans (fullR_next hx_2 (hx_3 (by rw [sumsG_len hG]; exact (by omega : i < s.names.length))).1 (by rcases h6' with h9 | h9; simp_all; omega))), g2_f1, g6_f1, g34_f1, g35_f1, (by first | exact rfl | exact (congrArg (Value.int .i64) (by omega))), x11⟩
            · skip
              refine xc_exit ?_
              refine xc_seq ?_
              refine xc_region ?_
              refine xl_op (P := Tryz.prog) (some 52) rfl rfl (ox_mkStruct (ps := []) (cs := #[(.int .i64 0), (.int .i64 0), (.string (⟨#[]⟩))]) tZ_75 tP_75 rfl (by kernel_rfl) ?_)
              have q11 := ((((b2.ext e3).ext e5).ext e6).keep1 e7 (by have _q := b2.lt; omega))
              have q12 := (((q11.ext e9).ext e10).keep1 e11 (by have _q := b2.lt; omega))
              have q13 := ((((q12.ext e13).ext e14).ext e16).ext e17)
              refine xl_op (P := Tryz.prog) none rfl rfl (ox_store (n := 3) (vs := [(.int .i64 0), (.int .i64 0), (.string (⟨#[]⟩))]) tS_75 g2_f1 (v := (.agg #[(.int .i64 0), (.int .i64 0), (.string (⟨#[]⟩))])) rfl rfl rfl rfl (q13.ext x11) (Nat.le_of_ble_eq_true rfl) ?_)
              intro w20 e19 z12 b12
              replace b12 : Blk w20 w1.heap.size #[(.int .i64 0), (.int .i64 0), (.string (⟨#[]⟩))] 75 := blk_full b12 rfl
              refine xl_nil ?_
              refine xc_ret ?_
              change leaves _ _ _ _ _ _ _
              refine leaves_nil (n := 53) (rs := [.cell 2 75]) (vs := [.agg #[(.int .i64 0), (.int .i64 0), (.string (⟨#[]⟩))]]) rfl ⟨⟨by decide, w1.heap.size, 0, 3, [(.int .i64 0), (.int .i64 0), (.string (⟨#[]⟩))], g2_f1, tA_75, tS_75, rfl, ⟨b12.cell rfl, b12.cell rfl, b12.cell rfl, trivial⟩, rfl⟩, trivial⟩ ?_
              have x13 : Ext w w20 := (Ext.chg1 (Ext.trans (Ext.trans x10 e17) x11) e19 (by omega))
              exact ⟨(show Value.agg #[(.int .i64 0), (.int .i64 0), (.string (⟨#[]⟩))] = faultV _ _ from by rw [checkE_ok h1 h2 h3 h4 (hq.trans (by rw [List.drop_of_length_le (by omega)]; rfl))]; rfl), x13⟩
end Go.Proofs.YtnnmdkglgnlenaaGreatDoor
set_option linter.unusedVariables false
set_option linter.unusedSimpArgs false
set_option maxRecDepth 100000
set_option maxHeartbeats 4000000
namespace Go.Proofs.YtnnmdkglgnlenaaGreatDoor
open Go Go.RowKit Go.Vx
mutual
def exN : EX → Nat
  | .mk _ _ _ _ _ _ _ l => 1 + exNL l
def exNL : List EX → Nat
  | [] => 0
  | e :: r => exN e + exNL r
end
theorem exNL_app : ∀ a b : List EX, exNL (a ++ b) = exNL a + exNL b
  | [], b => by simp [exNL]
  | e :: a, b => by simp only [List.cons_append, exNL, exNL_app a b]; omega
theorem exN_list (e : EX) : exN e = 1 + exNL e.list := by cases e; rfl
theorem exNL_flat : ∀ l : List EX, exNL (l.flatMap EX.list) + l.length = exNL l
  | [] => rfl
  | e :: r => by rw [List.flatMap_cons, exNL_app, List.length_cons, exNL, exN_list e]; have := exNL_flat r; omega
theorem exNL_next {l : List EX} (h : l ≠ []) : exNL (l.flatMap EX.list) < exNL l := by
  have h1 := exNL_flat l; have h2 := List.length_pos_iff.2 h; omega
def gCnt : List EX → Int → Option Int
  | [], c => some c
  | e :: r, c => if 4096 < c + (e.list.length : Int) then none else gCnt r (c + (e.list.length : Int))
def gLev : Nat → List EX → Int → Int → Int
  | 0, _, _, _ => 0
  | f + 1, l, c, d => match gCnt l c with
    | none => 2
    | some c' => if l.flatMap EX.list = [] then (if 64 < d then 5 else 0) else gLev f (l.flatMap EX.list) c' (d + 1)
def guardE (e : EX) : Int := gLev (exNL [e] + 1) [e] 1 1
def flatE (e : EX) : Bool := decide (guardE e = 0)
theorem gCnt_next {l : List EX} {c : Int} {i : Nat} {x : EX} (h : l[i]? = some x) (hc : ¬ (4096 < c + (x.list.length : Int))) : gCnt (l.drop i) c = gCnt (l.drop (i + 1)) (c + (x.list.length : Int)) := by rw [drop_get h, gCnt, if_neg hc]
theorem gCnt_long {l : List EX} {c : Int} {i : Nat} {x : EX} (h : l[i]? = some x) (hc : 4096 < c + (x.list.length : Int)) : gCnt (l.drop i) c = none := by rw [drop_get h, gCnt, if_pos hc]
theorem gLev_long {l : List EX} {c d : Int} {f : Nat} (h : gCnt l c = none) : gLev (f + 1) l c d = 2 := by rw [gLev, h]
theorem gLev_end {l : List EX} {c c' d : Int} {f : Nat} (h : gCnt l c = some c') (hn : l.flatMap EX.list = []) : gLev (f + 1) l c d = if 64 < d then 5 else 0 := by rw [gLev, h]; simp only; rw [if_pos hn]
theorem gLev_more : ∀ (k : Nat) (l : List EX) (c d : Int), exNL l < k → gLev k l c d = gLev (exNL l + 1) l c d
  | 0, _, _, _, h => by omega
  | k + 1, l, c, d, h => by
    simp only [gLev]
    cases gCnt l c with
    | none => rfl
    | some c' =>
      simp only
      by_cases hn : l.flatMap EX.list = []
      · rw [if_pos hn, if_pos hn]
      · rw [if_neg hn, if_neg hn]
        have hl : l ≠ [] := fun h0 => hn (by rw [h0]; rfl)
        have h1 := exNL_next hl
        rw [gLev_more k _ _ _ (by omega), gLev_more (exNL l) _ _ _ h1]
  termination_by k => k
theorem gLev_next {l : List EX} {c c' d : Int} (h : gCnt l c = some c') (hn : l.flatMap EX.list ≠ []) : gLev (exNL l + 1) l c d = gLev (exNL (l.flatMap EX.list) + 1) (l.flatMap EX.list) c' (d + 1) := by
  have hl : l ≠ [] := fun h0 => hn (by rw [h0]; rfl)
  rw [gLev, h]; simp only; rw [if_neg hn]
  exact gLev_more _ _ _ _ (exNL_next hl)
theorem pf_111 : plainF Tryz.prog 111 = true := by kernel_rfl
theorem tA_62 : isAggT Tryz.prog 62 = some false := by kernel_rfl
theorem tA_64 : isAggT Tryz.prog 64 = some true := by kernel_rfl
theorem tF_64_5 : fieldT Tryz.prog 64 5 = some 5 := by kernel_rfl
theorem tS_64 : sizeT Tryz.prog 64 = some 6 := by kernel_rfl
theorem guard_calls (e : EX) (w : World) (hE : ExR w e) :
    Calls Tryz.prog 111 #[(.agg #[(.int .i64 e.kind), (.int .i64 e.frm), (.int .i64 e.to), (.int .i64 e.min), (.int .i64 e.max), (.slice e.A e.list.length e.c)])] w (Ret (fun v w' => v = .int .i64 (guardE e) ∧ Ext w w')) := by
  refine calls_xc (n := 41) (f := fun s_ => [(.agg #[(.int .i64 e.kind), (.int .i64 e.frm), (.int .i64 e.to), (.int .i64 e.min), (.int .i64 e.max), (.slice e.A e.list.length e.c)])].getD s_ undef) Tryz.func111 rfl rfl (by simp) (fun s_ => by simp) ?_
  refine xc_seq ?_
  refine xc_region ?_
  refine xl_op (P := Tryz.prog) (some 1) rfl rfl (ox_box (v := (.agg #[(.int .i64 e.kind), (.int .i64 e.frm), (.int .i64 e.to), (.int .i64 e.min), (.int .i64 e.max), (.slice e.A e.list.length e.c)])) rfl ?_)
  intro w1 e1 z1 b1
  replace b1 : Blk w1 w.heap.size #[(.int .i64 e.kind), (.int .i64 e.frm), (.int .i64 e.to), (.int .i64 e.min), (.int .i64 e.max), (.slice e.A e.list.length e.c)] 64 := b1
  refine xl_op (P := Tryz.prog) (some 2) rfl rfl (ox_assign (v := (.int .i64 0)) rfl ?_)
  refine xl_nil ?_
  refine xc_seq ?_
  refine xc_region ?_
  refine xl_op (P := Tryz.prog) (some 8) rfl rfl (ox_loadN (vs := [(.int .i64 e.kind), (.int .i64 e.frm), (.int .i64 e.to), (.int .i64 e.min), (.int .i64 e.max), (.slice e.A e.list.length e.c)]) tA_64 tS_64 rfl rfl ⟨b1.cell rfl, b1.cell rfl, b1.cell rfl, b1.cell rfl, b1.cell rfl, b1.cell rfl, trivial⟩ ?_)
  refine xl_op (P := Tryz.prog) (some 9) rfl rfl (ox_mkSlice (ps := [(0, (.agg #[(.int .i64 e.kind), (.int .i64 e.frm), (.int .i64 e.to), (.int .i64 e.min), (.int .i64 e.max), (.slice e.A e.list.length e.c)]))]) (zs := #[(.int .i64 0), (.int .i64 0), (.int .i64 0), (.int .i64 0), (.int .i64 0), (.slice none 0 0)]) (cs := #[(.int .i64 e.kind), (.int .i64 e.frm), (.int .i64 e.to), (.int .i64 e.min), (.int .i64 e.max), (.slice e.A e.list.length e.c)]) tE_62 rfl (by decide) (by kernel_rfl) (by kernel_rfl) ?_)
  intro w2 e2 z2 b2
  replace b2 : Blk w2 w1.heap.size #[(.int .i64 e.kind), (.int .i64 e.frm), (.int .i64 e.to), (.int .i64 e.min), (.int .i64 e.max), (.slice e.A e.list.length e.c)] 64 := b2
  refine xl_op (P := Tryz.prog) (some 3) rfl rfl (ox_assign (v := (.slice (some ⟨w1.heap.size, 0, none⟩) 1 1)) rfl ?_)
  refine xl_nil ?_
  refine xc_seq ?_
  refine xc_region ?_
  refine xl_op (P := Tryz.prog) (some 4) rfl rfl (ox_assign (v := (.int .i64 1)) rfl ?_)
  refine xl_nil ?_
  refine xc_seq ?_
  refine xc_region ?_
  refine xl_op (P := Tryz.prog) (some 5) rfl rfl (ox_assign (v := (.int .i64 1)) rfl ?_)
  refine xl_nil ?_
  refine xc_seq ?_
  refine xc_block ?_
  refine xc_loopN (fun m_ f_ Wx => ∃ (c : Int) (d : Int) (lv : List EX) (Alv : Option Addr) (clv : Nat), m_ = exNL lv ∧ (guardE e = gLev (exNL lv + 1) lv c d) ∧ (∀ x ∈ lv, ExR w x) ∧ (1 ≤ d ∧ d ≤ c ∧ c ≤ 4096 ∧ (lv.length : Int) ≤ c) ∧ (lv ≠ []) ∧ f_ 4 = (.int .i64 c) ∧ f_ 5 = (.int .i64 d) ∧ f_ 3 = (.slice Alv lv.length clv) ∧ Vx.Own Wx 64 6 (.slice Alv lv.length clv) lv.length (lv.flatMap EX.cs) ∧ (∀ k, ((.slice Alv lv.length clv) : Value).ownBlock = some k → w1.heap.size ≤ k) ∧ Chg (fun b => ((.slice (some ⟨w1.heap.size, 0, none⟩) 1 1) : Value).ownBlock = some b) w2 Wx) (exNL [e]) ?_ ?_
  · exact ⟨1, 1, [e], (some ⟨w1.heap.size, 0, none⟩), 1, (by omega), rfl, (fun x hx => by rw [List.mem_singleton.1 hx]; exact hE), (by simp), (by simp), (by first | exact rfl | exact (congrArg (Value.int .i64) (by omega))), (by first | exact rfl | exact (congrArg (Value.int .i64) (by omega))), rfl, (Vx.Own.lit (n := 1) (sz := 6) b2 rfl (by decide)), (fun _k _h => by simp [Value.ownBlock] at _h; omega), (Chg.refl _ _)⟩
  · rintro m_ f1 w3 ⟨c, d, lv, Alv, clv, hm_f1, hq, hlv, hcd, hln, g4_f1, g5_f1, g3_f1, a0_f1, l0_f1, x1⟩
    have hx1 := x1.size
    refine xc_block ?_
    refine xc_seq ?_
    refine xc_region ?_
    refine xl_op (P := Tryz.prog) (some 6) rfl rfl (ox_assign (v := (.slice none 0 0)) rfl ?_)
    refine xl_nil ?_
    refine xc_seq ?_
    refine xc_seq ?_
    refine xc_region ?_
    refine xl_op (P := Tryz.prog) (some 7) rfl rfl (ox_assign (v := (.int .i64 0)) rfl ?_)
    refine xl_nil ?_
    refine xc_block ?_
    refine xc_loopN (fun m_ f_ Wx => ∃ (i : Nat) (cn : Int) (nx : List EX) (Anx : Option Addr) (cnx : Nat), m_ = lv.length - i ∧ (i ≤ lv.length) ∧ (gCnt lv c = gCnt (lv.drop i) cn) ∧ (nx = (lv.take i).flatMap EX.list) ∧ (cn = c + (nx.length : Int) ∧ cn ≤ 4096) ∧ f_ 5 = (.int .i64 d) ∧ f_ 3 = (.slice Alv lv.length clv) ∧ f_ 7 = (.int .i64 ((i : Nat))) ∧ f_ 4 = (.int .i64 cn) ∧ f_ 6 = (.slice Anx nx.length cnx) ∧ Vx.Own Wx 64 6 (.slice Anx nx.length cnx) nx.length (nx.flatMap EX.cs) ∧ (∀ k, ((.slice Anx nx.length cnx) : Value).ownBlock = some k → w3.heap.size ≤ k) ∧ Ext w3 Wx) (lv.length) ?_ ?_
    · exact ⟨0, c, [], none, 0, (by omega), (by omega), rfl, (by simp), (by simp; omega), g5_f1, g3_f1, (by first | exact rfl | exact (congrArg (Value.int .i64) (by omega))), (by first | exact g4_f1 | exact g4_f1.trans (congrArg (Value.int .i64) (by omega))), rfl, (Vx.Own.nil _ _ _), (fun _k _h => by simp [Value.ownBlock] at _h), (Chg.refl _ _)⟩
    · rintro m_ f2 w4 ⟨i, cn, nx, Anx, cnx, hm_f2, hi, hq2, hnx, hcn, g5_f2, g3_f2, g7_f2, g4_f2, g6_f2, a0_f2, l0_f2, x2⟩
      have hx2 := x2.size
      refine xc_seq ?_
      refine xc_seq ?_
      refine xc_region ?_
      refine xl_op (P := Tryz.prog) (some 10) rfl rfl (ox_move (v := (.int .i64 ((i : Nat)))) g7_f2 ?_)
      refine xl_op (P := Tryz.prog) (some 11) rfl rfl (ox_move (v := (.slice Alv lv.length clv)) g3_f2 ?_)
      refine xl_op (P := Tryz.prog) (some 12) rfl rfl (ox_len (A := Alv) (n := lv.length) (cp := clv) rfl tU_62 rfl ?_)
      refine xl_op (P := Tryz.prog) (some 13) rfl rfl (ox_lss (k := .i64) (a := ((i : Nat))) (b := (((lv.length : Nat) : Int))) rfl rfl ?_)
      refine xl_nil ?_
      refine xc_if (p := ((i : Nat) : Int) < (((lv.length : Nat) : Int))) rfl (fun h1 => ?_) (fun h1 => ?_)
      · skip
        refine xc_skip ?_
        refine xc_seq ?_
        refine xc_block ?_
        refine xc_seq ?_
        refine xc_region ?_
        refine xl_op (P := Tryz.prog) (some 16) rfl rfl (ox_move (v := (.int .i64 cn)) g4_f2 ?_)
        refine xl_op (P := Tryz.prog) (some 17) rfl rfl (ox_move (v := (.slice Alv lv.length clv)) g3_f2 ?_)
        refine xl_op (P := Tryz.prog) (some 18) rfl rfl (ox_move (v := (.int .i64 ((i : Nat)))) g7_f2 ?_)
        obtain ⟨x_1, g_1, hx_1⟩ := own_may (A := Alv) i EX.len (by decide) (a0_f1.ext x2)
        obtain ⟨hx_2, hA_1, hc_1⟩ := hx_1 (by first | omega | (simp only [List.length_drop, List.length_replicate, List.length_set, List.length_append, List.length_map, List.length_singleton] at *; omega))
        have hfx_x_1 := ((hlv _ (List.mem_of_getElem? hx_2))).row.2.1.by
        refine xl_op (P := Tryz.prog) (some 19) rfl rfl (ox_ixA (b := g_1) (o := 0) (i := ((i : Nat))) i tE_62 hA_1 rfl rfl rfl (by omega) ?_)
        refine xl_op (P := Tryz.prog) (some 20) rfl rfl (ox_fieldAddr (b := g_1) (o := (0 + i * 6)) tF_64_5 rfl ?_)
        refine xl_op (P := Tryz.prog) (some 21) rfl rfl (ox_load (v := (.slice x_1.A x_1.list.length x_1.c)) tA_62 rfl (CellsL.at1 hc_1 5 rfl) ?_)
        refine xl_op (P := Tryz.prog) (some 22) rfl rfl (ox_len (A := x_1.A) (n := x_1.list.length) (cp := x_1.c) rfl tU_62 rfl ?_)
        refine xl_op (P := Tryz.prog) (some 23) rfl rfl (ox_add64 (a := cn) (b := (((x_1.list.length : Nat) : Int))) rfl rfl (by omega) ?_)
        refine xl_op (P := Tryz.prog) (some 4) rfl rfl (ox_assign (v := (.int .i64 (cn + (((x_1.list.length : Nat) : Int))))) rfl ?_)
        refine xl_nil ?_
        refine xc_seq ?_
        refine xc_seq ?_
        refine xc_region ?_
        refine xl_op (P := Tryz.prog) (some 24) rfl rfl (ox_move (v := (.int .i64 (cn + (((x_1.list.length : Nat) : Int))))) rfl ?_)
        refine xl_op (P := Tryz.prog) (some 25) rfl rfl (ox_gtr (k := .i64) (a := (cn + (((x_1.list.length : Nat) : Int)))) (b := 4096) rfl rfl ?_)
        refine xl_nil ?_
        refine xc_if (p := (4096 : Int) < (cn + (((x_1.list.length : Nat) : Int)))) rfl (fun h2 => ?_) (fun h2 => ?_)
        · skip
          refine xc_seq ?_
          refine xc_region ?_
          refine xl_op (P := Tryz.prog) (some 2) rfl rfl (ox_assign (v := (.int .i64 2)) rfl ?_)
          refine xl_nil ?_
          refine xc_ret ?_
          change leaves _ _ _ _ _ _ _
          refine leaves_nil (n := 41) (rs := [.tmp 2]) (vs := [(.int .i64 2)]) rfl ⟨⟨by decide, rfl⟩, trivial⟩ ?_
          have x3 : Ext w w4 := (Ext.trans (Chg.trans (Ext.trans e1 e2) x1 (fun b hb hl => (absurd hl (by have _h := (fun _k _h => by simp [Value.ownBlock] at _h; omega) b hb; omega)))) x2)
          exact ⟨by rw [hq, gLev_long (hq2.trans (gCnt_long hx_2 (by omega)))]; rfl, x3⟩
        · skip
          refine xc_skip ?_
          refine xc_region ?_
          refine xl_op (P := Tryz.prog) (some 26) rfl rfl (ox_move (v := (.slice Anx nx.length cnx)) g6_f2 ?_)
          refine xl_op (P := Tryz.prog) (some 27) rfl rfl (ox_move (v := (.slice Alv lv.length clv)) g3_f2 ?_)
          refine xl_op (P := Tryz.prog) (some 28) rfl rfl (ox_move (v := (.int .i64 ((i : Nat)))) g7_f2 ?_)
          refine xl_op (P := Tryz.prog) (some 29) rfl rfl (ox_ixA (b := g_1) (o := 0) (i := ((i : Nat))) i tE_62 hA_1 rfl rfl rfl (by omega) ?_)
          refine xl_op (P := Tryz.prog) (some 30) rfl rfl (ox_fieldAddr (b := g_1) (o := (0 + i * 6)) tF_64_5 rfl ?_)
          refine xl_op (P := Tryz.prog) (some 31) rfl rfl (ox_load (v := (.slice x_1.A x_1.list.length x_1.c)) tA_62 rfl (CellsL.at1 hc_1 5 rfl) ?_)
          have x4 : Ext w w4 := (Ext.trans (Chg.trans (Ext.trans e1 e2) x1 (fun b hb hl => (absurd hl (by have _h := (fun _k _h => by simp [Value.ownBlock] at _h; omega) b hb; omega)))) x2)
          refine xl_op (P := Tryz.prog) (some 32) rfl rfl (ox_appR (l := nx) (r := x_1.list) (cs := EX.cs) rfl tE_62 rfl (by decide) EX.len EX.one (v := (.slice Anx nx.length cnx)) rfl rfl a0_f2 (RowA.ext (((hlv _ (List.mem_of_getElem? hx_2))).row.1) x4) (by rw [List.length_append]; omega) (by decide) ?_)
          intro A1 c1 w5 o1 e3 at1 hc1
          have he3 := e3.size
          have low1 : ∀ _k, (Value.slice A1 (nx ++ x_1.list).length c1).ownBlock = some _k → w3.heap.size ≤ _k := fun _k _h => by rcases at1 with _e | _e <;> rw [_e] at _h; exact l0_f2 _k _h; exact (by cases _h; omega)
          refine xl_op (P := Tryz.prog) (some 6) rfl rfl (ox_assign (v := (.slice A1 ((nx ++ x_1.list).length) c1)) rfl ?_)
          refine xl_nil ?_
          refine xc_region ?_
          refine xl_op (P := Tryz.prog) (some 14) rfl rfl (ox_move (v := (.int .i64 ((i : Nat)))) g7_f2 ?_)
          refine xl_op (P := Tryz.prog) (some 15) rfl rfl (ox_add64 (a := ((i : Nat))) (b := 1) rfl rfl (by omega) ?_)
          refine xl_op (P := Tryz.prog) (some 7) rfl rfl (ox_assign (v := (.int .i64 ((i : Nat) + 1))) rfl ?_)
          refine xl_nil ?_
          have x5 : Ext w3 w5 := (Chg.trans x2 e3 (fun b hb hl => (absurd hl (by have _h := l0_f2 b hb; omega))))
          exact ⟨rfl, lv.length - (i + 1), by omega, i + 1, (cn + (((x_1.list.length : Nat) : Int))), nx ++ x_1.list, A1, c1, by omega, (by omega), (hq2.trans (gCnt_next hx_2 (by omega))), (by rw [hnx, take_succ' hx_2, List.flatMap_append, List.flatMap_cons, List.flatMap_nil, List.append_nil]), (by rw [List.length_append]; push_cast; omega), g5_f2, g3_f2, (by first | exact rfl | exact (congrArg (Value.int .i64) (by omega))), (by first | exact rfl | exact (congrArg (Value.int .i64) (by omega))), rfl, o1, low1, x5⟩
      · skip
        have hnx0 : nx = lv.flatMap EX.list := by rw [hnx, List.take_of_length_le (by omega)]
        have hcn0 : gCnt lv c = some cn := by rw [hq2, List.drop_of_length_le (by omega)]; rfl
        refine xc_exit ?_
        refine xc_seq ?_
        refine xc_seq ?_
        refine xc_region ?_
        refine xl_op (P := Tryz.prog) (some 33) rfl rfl (ox_move (v := (.slice Anx nx.length cnx)) g6_f2 ?_)
        refine xl_op (P := Tryz.prog) (some 34) rfl rfl (ox_len (A := Anx) (n := nx.length) (cp := cnx) rfl tU_62 rfl ?_)
        refine xl_op (P := Tryz.prog) (some 35) rfl rfl (ox_eql (k := .i64) (a := (((nx.length : Nat) : Int))) (b := 0) rfl rfl ?_)
        refine xl_nil ?_
        refine xc_if (p := (((nx.length : Nat) : Int) : Int) = 0) rfl (fun h3 => ?_) (fun h3 => ?_)
        · skip
          have hne0 : nx = [] := by exact List.length_eq_zero_iff.1 (by omega)
          refine xc_exit ?_
          refine xc_seq ?_
          refine xc_seq ?_
          refine xc_region ?_
          refine xl_op (P := Tryz.prog) (some 39) rfl rfl (ox_move (v := (.int .i64 d)) g5_f2 ?_)
          refine xl_op (P := Tryz.prog) (some 40) rfl rfl (ox_gtr (k := .i64) (a := d) (b := 64) rfl rfl ?_)
          refine xl_nil ?_
          refine xc_if (p := (64 : Int) < d) rfl (fun h4 => ?_) (fun h4 => ?_)
          · skip
            refine xc_seq ?_
            refine xc_region ?_
            refine xl_op (P := Tryz.prog) (some 2) rfl rfl (ox_assign (v := (.int .i64 5)) rfl ?_)
            refine xl_nil ?_
            refine xc_ret ?_
            change leaves _ _ _ _ _ _ _
            refine leaves_nil (n := 41) (rs := [.tmp 2]) (vs := [(.int .i64 5)]) rfl ⟨⟨by decide, rfl⟩, trivial⟩ ?_
            have x6 : Ext w w4 := (Ext.trans (Chg.trans (Ext.trans e1 e2) x1 (fun b hb hl => (absurd hl (by have _h := (fun _k _h => by simp [Value.ownBlock] at _h; omega) b hb; omega)))) x2)
            exact ⟨by rw [hq, gLev_end hcn0 (by rw [← hnx0]; exact hne0), if_pos h4]; rfl, x6⟩
          · skip
            refine xc_skip ?_
            refine xc_seq ?_
            refine xc_region ?_
            refine xl_op (P := Tryz.prog) (some 2) rfl rfl (ox_assign (v := (.int .i64 0)) rfl ?_)
            refine xl_nil ?_
            refine xc_ret ?_
            change leaves _ _ _ _ _ _ _
            refine leaves_nil (n := 41) (rs := [.tmp 2]) (vs := [(.int .i64 0)]) rfl ⟨⟨by decide, rfl⟩, trivial⟩ ?_
            have x7 : Ext w w4 := (Ext.trans (Chg.trans (Ext.trans e1 e2) x1 (fun b hb hl => (absurd hl (by have _h := (fun _k _h => by simp [Value.ownBlock] at _h; omega) b hb; omega)))) x2)
            exact ⟨by rw [hq, gLev_end hcn0 (by rw [← hnx0]; exact hne0), if_neg h4]; rfl, x7⟩
        · skip
          have hne0 : nx ≠ [] := by intro hh; rw [hh] at h3; simp at h3
          refine xc_skip ?_
          refine xc_seq ?_
          refine xc_region ?_
          refine xl_op (P := Tryz.prog) (some 36) rfl rfl (ox_move (v := (.int .i64 d)) g5_f2 ?_)
          refine xl_op (P := Tryz.prog) (some 37) rfl rfl (ox_add64 (a := d) (b := 1) rfl rfl (by omega) ?_)
          refine xl_op (P := Tryz.prog) (some 5) rfl rfl (ox_assign (v := (.int .i64 (d + 1))) rfl ?_)
          refine xl_nil ?_
          refine xc_region ?_
          refine xl_op (P := Tryz.prog) (some 38) rfl rfl (ox_move (v := (.slice Anx nx.length cnx)) g6_f2 ?_)
          refine xl_op (P := Tryz.prog) (some 3) rfl rfl (ox_assign (v := (.slice Anx nx.length cnx)) rfl ?_)
          refine xl_nil ?_
          have y1 : Chg (fun b => ((.slice (some ⟨w1.heap.size, 0, none⟩) 1 1) : Value).ownBlock = some b) w2 w4 := (Chg.ext (Chg.trans (Chg.refl (fun b => ((.slice (some ⟨w1.heap.size, 0, none⟩) 1 1) : Value).ownBlock = some b) w2) x1 (fun b hb hl => hb)) x2)
          exact ⟨rfl, exNL nx, by (rw [hm_f1, hnx0]; exact exNL_next hln), cn, (d + 1), nx, Anx, cnx, by rfl, (hq.trans (by rw [hnx0]; exact gLev_next hcn0 (by rw [← hnx0]; exact hne0))), (fun x hx => by rw [hnx0] at hx; obtain ⟨y, hy, hxy⟩ := List.mem_flatMap.1 hx; exact (hlv y hy).row.2.2 x hxy), (by have _q := List.length_pos_iff.2 hne0; omega), hne0, (by first | exact g4_f2 | exact g4_f2.trans (congrArg (Value.int .i64) (by omega))), (by first | exact rfl | exact (congrArg (Value.int .i64) (by omega))), rfl, a0_f2, (fun k hk => by have _h := l0_f2 k hk; omega), y1⟩
theorem flat_calls (e : EX) (w : World) (hE : ExR w e) :
    Calls Tryz.prog 77 #[(.agg #[(.int .i64 e.kind), (.int .i64 e.frm), (.int .i64 e.to), (.int .i64 e.min), (.int .i64 e.max), (.slice e.A e.list.length e.c)])] w (Ret (fun v w' => v = .bool (flatE e) ∧ Ext w w')) := by
  refine calls_xc (n := 8) (f := fun s_ => [(.agg #[(.int .i64 e.kind), (.int .i64 e.frm), (.int .i64 e.to), (.int .i64 e.min), (.int .i64 e.max), (.slice e.A e.list.length e.c)])].getD s_ undef) Tryz.func77 rfl rfl (by simp) (fun s_ => by simp) ?_
  refine xc_seq ?_
  refine xc_region ?_
  refine xl_op (P := Tryz.prog) (some 1) rfl rfl (ox_box (v := (.agg #[(.int .i64 e.kind), (.int .i64 e.frm), (.int .i64 e.to), (.int .i64 e.min), (.int .i64 e.max), (.slice e.A e.list.length e.c)])) rfl ?_)
  intro w1 e1 z1 b1
  replace b1 : Blk w1 w.heap.size #[(.int .i64 e.kind), (.int .i64 e.frm), (.int .i64 e.to), (.int .i64 e.min), (.int .i64 e.max), (.slice e.A e.list.length e.c)] 64 := b1
  refine xl_op (P := Tryz.prog) (some 2) rfl rfl (ox_assign (v := (.bool false)) rfl ?_)
  refine xl_nil ?_
  refine xc_seq ?_
  refine xc_region ?_
  refine xl_op (P := Tryz.prog) (some 4) rfl rfl (ox_loadN (vs := [(.int .i64 e.kind), (.int .i64 e.frm), (.int .i64 e.to), (.int .i64 e.min), (.int .i64 e.max), (.slice e.A e.list.length e.c)]) tA_64 tS_64 rfl rfl ⟨b1.cell rfl, b1.cell rfl, b1.cell rfl, b1.cell rfl, b1.cell rfl, b1.cell rfl, trivial⟩ ?_)
  refine xl_op (P := Tryz.prog) (some 5) rfl rfl (ox_callE (al := [(.agg #[(.int .i64 e.kind), (.int .i64 e.frm), (.int .i64 e.to), (.int .i64 e.min), (.int .i64 e.max), (.slice e.A e.list.length e.c)])]) pf_111 rfl (ret_mono (guard_calls e w1 (hE.ext e1)) ?_))
  rintro _ w2 ⟨rfl, e2⟩
  have he2 := e2.size
  refine xl_op (P := Tryz.prog) (some 3) rfl rfl (ox_assign (v := (.int .i64 (guardE e))) rfl ?_)
  refine xl_nil ?_
  refine xc_seq ?_
  refine xc_region ?_
  refine xl_op (P := Tryz.prog) (some 6) rfl rfl (ox_move (v := (.int .i64 (guardE e))) rfl ?_)
  refine xl_op (P := Tryz.prog) (some 7) rfl rfl (ox_eql (k := .i64) (a := (guardE e)) (b := 0) rfl rfl ?_)
  refine xl_op (P := Tryz.prog) (some 2) rfl rfl (ox_assign (v := (.bool (decide ((guardE e : Int) = 0)))) rfl ?_)
  refine xl_nil ?_
  refine xc_ret ?_
  change leaves _ _ _ _ _ _ _
  refine leaves_nil (n := 8) (rs := [.tmp 2]) (vs := [(.bool (decide ((guardE e : Int) = 0)))]) rfl ⟨⟨by decide, rfl⟩, trivial⟩ ?_
  have x1 : Ext w w2 := (Ext.trans e1 e2)
  exact ⟨rfl, x1⟩
end Go.Proofs.YtnnmdkglgnlenaaGreatDoor
set_option linter.unusedVariables false
set_option linter.unusedSimpArgs false
set_option maxRecDepth 100000
set_option maxHeartbeats 4000000
namespace Go.Proofs.YtnnmdkglgnlenaaGreatDoor
open Go Go.RowKit Go.Vx
def exZero : EX := .mk 0 0 0 0 0 none 0 []
def exMark : EX := .mk 93 0 0 0 0 none 0 []
mutual
/-- e' is e, copied into memory from block B on, with a mark behind each list -/
def TwR (B : Nat) (w : World) : EX → EX → Prop
  | .mk k a b m n _ _ l, e' => (e'.kind = k ∧ e'.frm = a ∧ e'.to = b ∧ e'.min = m ∧ e'.max = n) ∧ (l = [] → e'.A = none ∧ e'.c = 0) ∧
    (l ≠ [] → e'.c = l.length + 1 ∧ ∃ g, e'.A = some ⟨g, 0, none⟩ ∧ B ≤ g ∧ g < w.heap.size ∧ CellsL w g 0 ((e'.list ++ [exMark]).flatMap EX.cs)) ∧ TwL B w l e'.list
def TwL (B : Nat) (w : World) : List EX → List EX → Prop
  | [], l' => l' = []
  | x :: l, l' => ∃ y r, l' = y :: r ∧ TwR B w x y ∧ TwL B w l r
end
mutual
theorem TwR.keepC {B : Nat} {K : Nat → Prop} {w w' : World} (c : Chg K w w') (hk : ∀ b, B ≤ b → b < w.heap.size → ¬ K b) : ∀ {e e' : EX}, TwR B w e e' → TwR B w' e e'
  | .mk k a b m n _ _ l, e', h => by
    simp only [TwR] at h ⊢
    refine ⟨h.1, h.2.1, fun hl => ?_, TwL.keepC c hk h.2.2.2⟩
    obtain ⟨h1, g, h2, h3, h4, h5⟩ := h.2.2.1 hl
    exact ⟨h1, g, h2, h3, Nat.lt_of_lt_of_le h4 c.size, CellsL.keep c (hk g h3 h4) h5⟩
theorem TwL.keepC {B : Nat} {K : Nat → Prop} {w w' : World} (c : Chg K w w') (hk : ∀ b, B ≤ b → b < w.heap.size → ¬ K b) : ∀ {l l' : List EX}, TwL B w l l' → TwL B w' l l'
  | [], _, h => h
  | x :: l, l', h => by
    obtain ⟨y, r, h1, h2, h3⟩ := h
    exact ⟨y, r, h1, TwR.keepC c hk h2, TwL.keepC c hk h3⟩
end
theorem TwR.keep {B : Nat} {K : Nat → Prop} {w w' : World} {e e' : EX} (h : TwR B w e e') (c : Chg K w w') (hk : ∀ b, K b → b < B) : TwR B w' e e' := TwR.keepC c (fun b hb _ hK => by have := hk b hK; omega) h
theorem TwR.ext {B : Nat} {w w' : World} {e e' : EX} (h : TwR B w e e') (c : Ext w w') : TwR B w' e e' := h.keep c fun _ hb => hb.elim
mutual
theorem TwR.mono {B B' : Nat} {w : World} (hB : B' ≤ B) : ∀ {e e' : EX}, TwR B w e e' → TwR B' w e e'
  | .mk k a b m n _ _ l, e', h => by
    simp only [TwR] at h ⊢
    refine ⟨h.1, h.2.1, fun hl => ?_, TwL.mono hB h.2.2.2⟩
    obtain ⟨h1, g, h2, h3, h4⟩ := h.2.2.1 hl
    exact ⟨h1, g, h2, by omega, h4⟩
theorem TwL.mono {B B' : Nat} {w : World} (hB : B' ≤ B) : ∀ {l l' : List EX}, TwL B w l l' → TwL B' w l l'
  | [], _, h => h
  | x :: l, l', h => by
    obtain ⟨y, r, h1, h2, h3⟩ := h
    exact ⟨y, r, h1, TwR.mono hB h2, TwL.mono hB h3⟩
end
theorem exN_mem {x : EX} {e : EX} (h : x ∈ e.list) : exN x < exN e := by
  have h1 : ∀ l : List EX, x ∈ l → exN x ≤ exNL l := by
    intro l
    induction l with
    | nil => intro h; cases h
    | cons y r ih =>
      intro h; simp only [exNL]
      rcases List.mem_cons.1 h with rfl | h
      · omega
      · have := ih h; omega
  have := h1 _ h; rw [exN_list e]; omega
def TwF (B : Nat) (w : World) (l L : List EX) (i : Nat) : Prop := ∀ (j : Nat) (x y : EX), j < i → l[j]? = some x → L[j]? = some y → TwR B w x y
theorem TwF.zero (B : Nat) (w : World) (l L : List EX) : TwF B w l L 0 := fun j _ _ h => by omega
theorem TwF.keep {B i : Nat} {K : Nat → Prop} {w w' : World} {l L : List EX} (h : TwF B w l L i) (c : Chg K w w') (hk : ∀ b, K b → b < B) : TwF B w' l L i := fun j x y hj hx hy => (h j x y hj hx hy).keep c hk
theorem TwF.ext {B i : Nat} {w w' : World} {l L : List EX} (h : TwF B w l L i) (c : Ext w w') : TwF B w' l L i := fun j x y hj hx hy => (h j x y hj hx hy).ext c
theorem TwF.snoc {B i : Nat} {w : World} {l L : List EX} {x y : EX} (h : TwF B w l L i) (hx : l[i]? = some x) (ht : TwR B w x y) (hi : i < L.length) : TwF B w l (L.set i y) (i + 1) := fun j a b hj ha hb => by
  by_cases hji : j = i
  · subst hji
    rw [hx] at ha; cases ha
    rw [List.getElem?_set_self hi] at hb; cases hb; exact ht
  · rw [List.getElem?_set_ne (fun hh => hji hh.symm)] at hb
    exact h j a b (by omega) ha hb
theorem TwL.of {B : Nat} {w : World} : ∀ {l L : List EX}, l.length = L.length → (∀ (j : Nat) (x y : EX), l[j]? = some x → L[j]? = some y → TwR B w x y) → TwL B w l L
  | [], [], _, _ => rfl
  | x :: l, [], h, _ => by simp at h
  | [], y :: L, h, _ => by simp at h
  | x :: l, y :: L, h, hh => ⟨y, L, rfl, hh 0 x y rfl rfl, TwL.of (by simpa using h) fun j a b ha hb => hh (j + 1) a b (by simpa using ha) (by simpa using hb)⟩
theorem TwF.take {B i : Nat} {w : World} {l L : List EX} (h : TwF B w l L i) (hi : l.length ≤ i) (hL : l.length ≤ L.length) : TwL B w l (L.take l.length) := TwL.of (by rw [List.length_take]; omega) fun j x y hx hy => by
  have hj := (List.getElem?_eq_some_iff.1 hx).1
  rw [List.getElem?_take, if_pos hj] at hy
  exact h j x y (by omega) hx hy
theorem set_last {n : Nat} {L : List EX} {x : EX} (h : L.length = n + 1) : (L.take n).length = n ∧ L.set n x = L.take n ++ [x] := by
  refine ⟨by rw [List.length_take]; omega, ?_⟩
  have h1 : L = L.take n ++ L.drop n := (List.take_append_drop n L).symm
  have h2 : (L.drop n).length = 1 := by rw [List.length_drop]; omega
  obtain ⟨y, hy⟩ := List.length_eq_one_iff.1 h2
  conv => lhs; rw [h1, hy]
  rw [List.set_append_right _ _ (by rw [List.length_take]; omega), show n - (L.take n).length = 0 by rw [List.length_take]; omega]; rfl
theorem TwR.leaf {B : Nat} {w : World} {e : EX} (h : e.list = []) : TwR B w e (.mk e.kind e.frm e.to e.min e.max none 0 []) := by
  cases e with
  | mk k a b m n A c l =>
    simp only [EX.list] at h; subst h
    simp only [TwR, TwL, EX.list]
    exact ⟨⟨rfl, rfl, rfl, rfl, rfl⟩, fun _ => ⟨rfl, rfl⟩, fun h => absurd rfl h, trivial⟩
theorem TwR.node {B t : Nat} {w : World} {e : EX} {A : Option Addr} {l' : List EX} (h : e.list ≠ []) (hl : l'.length = e.list.length) (ho : Vx.Own w t 6 (.slice A (e.list.length + 1) (e.list.length + 1)) (e.list.length + 1) ((l' ++ [exMark]).flatMap EX.cs)) (hB : ∀ k, (Value.slice A (e.list.length + 1) (e.list.length + 1)).ownBlock = some k → B ≤ k) (ht : TwL B w e.list l') : TwR B w e (.mk e.kind e.frm e.to e.min e.max A (e.list.length + 1) l') := by
  obtain ⟨g, c, heq, _⟩ := ho.some_of (by omega)
  simp only [Value.slice.injEq, true_and] at heq
  obtain ⟨rfl, _⟩ := heq
  cases e with
  | mk k a b m n A' c' l =>
    simp only [EX.list] at *
    simp only [TwR]
    exact ⟨⟨rfl, rfl, rfl, rfl, rfl⟩, fun h0 => absurd h0 h, fun _ => ⟨rfl, g, rfl, hB g rfl, ho.lt g rfl, ho.rowO.cells⟩, ht⟩
def TwX (B : Nat) (w : World) (e e' : EX) : Prop := (flatE e = false ∧ e' = e) ∨ (flatE e = true ∧ TwR B w e e')
theorem pf_77 : plainF Tryz.prog 77 = true := by kernel_rfl
theorem pf_78 : plainF Tryz.prog 78 = true := by kernel_rfl
theorem tP_64 : placesT Tryz.prog 64 = some #[(0, 1), (1, 1), (2, 1), (3, 1), (4, 1), (5, 1)] := by kernel_rfl
theorem tS_62 : sizeT Tryz.prog 62 = some 1 := by kernel_rfl
theorem tZ_64 : zeroOf Tryz.prog 64 = some (.agg #[(.int .i64 0), (.int .i64 0), (.int .i64 0), (.int .i64 0), (.int .i64 0), (.slice none 0 0)]) := by kernel_rfl
theorem twin_step (e : EX) (ih : ∀ (x : EX) (w : World), exN x < exN e → ExR w x → Calls Tryz.prog 78 #[(.agg #[(.int .i64 x.kind), (.int .i64 x.frm), (.int .i64 x.to), (.int .i64 x.min), (.int .i64 x.max), (.slice x.A x.list.length x.c)])] w (Ret fun v w' => ∃ e', v = .agg (EX.cs e').toArray ∧ TwR w.heap.size w' x e' ∧ Ext w w')) (w : World) (hE : ExR w e) :
    Calls Tryz.prog 78 #[(.agg #[(.int .i64 e.kind), (.int .i64 e.frm), (.int .i64 e.to), (.int .i64 e.min), (.int .i64 e.max), (.slice e.A e.list.length e.c)])] w (Ret (fun v w' => ∃ e', v = .agg (EX.cs e').toArray ∧ TwR w.heap.size w' e e' ∧ Ext w w')) := by
  have hby := hE.row.2.1.by
  refine calls_xc (n := 46) (f := fun s_ => [(.agg #[(.int .i64 e.kind), (.int .i64 e.frm), (.int .i64 e.to), (.int .i64 e.min), (.int .i64 e.max), (.slice e.A e.list.length e.c)])].getD s_ undef) Tryz.func78 rfl rfl (by simp) (fun s_ => by simp) ?_
  refine xc_seq ?_
  refine xc_region ?_
  refine xl_op (P := Tryz.prog) (some 1) rfl rfl (ox_box (v := (.agg #[(.int .i64 e.kind), (.int .i64 e.frm), (.int .i64 e.to), (.int .i64 e.min), (.int .i64 e.max), (.slice e.A e.list.length e.c)])) rfl ?_)
  intro w1 e1 z1 b1
  replace b1 : Blk w1 w.heap.size #[(.int .i64 e.kind), (.int .i64 e.frm), (.int .i64 e.to), (.int .i64 e.min), (.int .i64 e.max), (.slice e.A e.list.length e.c)] 64 := b1
  refine xl_op (P := Tryz.prog) (some 2) rfl rfl (ox_alloc tZ_64 ?_)
  intro w2 e2 z2 b2
  replace b2 : Blk w2 w1.heap.size #[(.int .i64 0), (.int .i64 0), (.int .i64 0), (.int .i64 0), (.int .i64 0), (.slice none 0 0)] 64 := b2
  refine xl_nil ?_
  refine xc_seq ?_
  refine xc_region ?_
  refine xl_op (P := Tryz.prog) (some 6) rfl rfl (ox_loadN (vs := [(.int .i64 e.kind), (.int .i64 e.frm), (.int .i64 e.to), (.int .i64 e.min), (.int .i64 e.max), (.slice e.A e.list.length e.c)]) tA_64 tS_64 rfl rfl ⟨(b1.ext e2).cell rfl, (b1.ext e2).cell rfl, (b1.ext e2).cell rfl, (b1.ext e2).cell rfl, (b1.ext e2).cell rfl, (b1.ext e2).cell rfl, trivial⟩ ?_)
  refine xl_op (P := Tryz.prog) (some 3) rfl rfl (ox_alloc tZ_64 ?_)
  intro w3 e3 z3 b3
  replace b3 : Blk w3 w2.heap.size #[(.int .i64 0), (.int .i64 0), (.int .i64 0), (.int .i64 0), (.int .i64 0), (.slice none 0 0)] 64 := b3
  refine xl_op (P := Tryz.prog) none rfl rfl (ox_store (n := 6) (vs := [(.int .i64 e.kind), (.int .i64 e.frm), (.int .i64 e.to), (.int .i64 e.min), (.int .i64 e.max), (.slice e.A e.list.length e.c)]) tS_64 rfl (v := (.agg #[(.int .i64 e.kind), (.int .i64 e.frm), (.int .i64 e.to), (.int .i64 e.min), (.int .i64 e.max), (.slice e.A e.list.length e.c)])) rfl rfl rfl rfl b3 (Nat.le_of_ble_eq_true rfl) ?_)
  intro w4 e4 z4 b4
  replace b4 : Blk w4 w2.heap.size #[(.int .i64 e.kind), (.int .i64 e.frm), (.int .i64 e.to), (.int .i64 e.min), (.int .i64 e.max), (.slice e.A e.list.length e.c)] 64 := blk_full b4 rfl
  refine xl_nil ?_
  refine xc_seq ?_
  refine xc_region ?_
  refine xl_op (P := Tryz.prog) (some 7) rfl rfl (ox_fieldAddr (b := w2.heap.size) (o := 0) tF_64_5 rfl ?_)
  refine xl_op (P := Tryz.prog) none rfl rfl (ox_store (n := 1) (vs := [(.slice none 0 0)]) tS_62 rfl (v := (.slice none 0 0)) rfl rfl rfl rfl b4 (Nat.le_of_ble_eq_true rfl) ?_)
  intro w5 e5 z5 b5
  replace b5 : Blk w5 w2.heap.size #[(.int .i64 e.kind), (.int .i64 e.frm), (.int .i64 e.to), (.int .i64 e.min), (.int .i64 e.max), (.slice none 0 0)] 64 := b5
  refine xl_nil ?_
  refine xc_seq ?_
  refine xc_seq ?_
  refine xc_region ?_
  refine xl_op (P := Tryz.prog) (some 8) rfl rfl (ox_fieldAddr (b := w.heap.size) (o := 0) tF_64_5 rfl ?_)
  have q1 := (((b1.ext e2).ext e3).keep1 e4 (by have _q := b1.lt; omega))
  have q2 := (q1.keep1 e5 (by have _q := b1.lt; omega))
  refine xl_op (P := Tryz.prog) (some 9) rfl rfl (ox_load (v := (.slice e.A e.list.length e.c)) tA_62 rfl (q2.cell rfl) ?_)
  refine xl_op (P := Tryz.prog) (some 10) rfl rfl (ox_len (A := e.A) (n := e.list.length) (cp := e.c) rfl tU_62 rfl ?_)
  refine xl_op (P := Tryz.prog) (some 11) rfl rfl (ox_gtr (k := .i64) (a := (((e.list.length : Nat) : Int))) (b := 0) rfl rfl ?_)
  refine xl_nil ?_
  refine xc_if (p := (0 : Int) < (((e.list.length : Nat) : Int))) rfl (fun h1 => ?_) (fun h1 => ?_)
  · skip
    refine xc_seq ?_
    refine xc_region ?_
    refine xl_op (P := Tryz.prog) (some 12) rfl rfl (ox_fieldAddr (b := w.heap.size) (o := 0) tF_64_5 rfl ?_)
    refine xl_op (P := Tryz.prog) (some 13) rfl rfl (ox_load (v := (.slice e.A e.list.length e.c)) tA_62 rfl (q2.cell rfl) ?_)
    refine xl_op (P := Tryz.prog) (some 14) rfl rfl (ox_len (A := e.A) (n := e.list.length) (cp := e.c) rfl tU_62 rfl ?_)
    refine xl_op (P := Tryz.prog) (some 15) rfl rfl (ox_add64 (a := (((e.list.length : Nat) : Int))) (b := 1) rfl rfl (by omega) ?_)
    refine xl_op (P := Tryz.prog) (some 16) rfl rfl (ox_makeD (n := ((e.list.length + 1))) (l := ((List.replicate (e.list.length + 1) exZero))) (cs := EX.cs) tE_62 rfl rfl (by omega) (by omega) (made_flat (z := #[.int .i64 0, .int .i64 0, .int .i64 0, .int .i64 0, .int .i64 0, .slice none 0 0]) (cs := EX.cs) (x := exZero) rfl (by decide) _) ?_)
    intro A1 w6 o1 e6 lo1
    have he6 := e6.size
    refine xl_op (P := Tryz.prog) (some 4) rfl rfl (ox_assign (v := (.slice A1 ((e.list.length + 1)) ((e.list.length + 1)))) rfl ?_)
    refine xl_nil ?_
    refine xc_seq ?_
    refine xc_seq ?_
    refine xc_region ?_
    refine xl_op (P := Tryz.prog) (some 5) rfl rfl (ox_assign (v := (.int .i64 0)) rfl ?_)
    refine xl_nil ?_
    refine xc_block ?_
    have hAlt : ∀ b, (Value.slice A1 (e.list.length + 1) (e.list.length + 1)).ownBlock = some b → b < w6.heap.size := o1.lt
    refine xc_loopN (fun m_ f_ Wx => ∃ (i : Nat) (L : List EX), m_ = e.list.length - i ∧ (i ≤ e.list.length) ∧ f_ 1 = (.pointer (some ⟨w.heap.size, 0, none⟩)) ∧ f_ 2 = (.pointer (some ⟨w1.heap.size, 0, none⟩)) ∧ f_ 3 = (.pointer (some ⟨w2.heap.size, 0, none⟩)) ∧ f_ 4 = (.slice A1 ((e.list.length + 1)) ((e.list.length + 1))) ∧ f_ 5 = (.int .i64 ((i : Nat))) ∧ Vx.Own Wx 64 6 (.slice A1 ((e.list.length + 1)) ((e.list.length + 1))) ((e.list.length + 1)) (L.flatMap EX.cs) ∧ (TwF w6.heap.size Wx e.list L i) ∧ Chg (fun b => ((.slice A1 ((e.list.length + 1)) ((e.list.length + 1))) : Value).ownBlock = some b) w6 Wx) (e.list.length) ?_ ?_
    · exact ⟨0, (List.replicate (e.list.length + 1) exZero), (by omega), (by omega), rfl, rfl, rfl, rfl, (by first | exact rfl | exact (congrArg (Value.int .i64) (by omega))), o1, (TwF.zero _ _ _ _), (Chg.refl _ _)⟩
    · rintro m_ f1 w7 ⟨i, L, hm_f1, hi, g1_f1, g2_f1, g3_f1, g4_f1, g5_f1, o0_f1, t0_f1, x1⟩
      have hx1 := x1.size
      have hl_L : L.length = (e.list.length + 1) := by have _q := (o0_f1).len; rw [fm_len EX.len] at _q; omega
      refine xc_seq ?_
      refine xc_seq ?_
      refine xc_region ?_
      refine xl_op (P := Tryz.prog) (some 17) rfl rfl (ox_move (v := (.int .i64 ((i : Nat)))) g5_f1 ?_)
      refine xl_op (P := Tryz.prog) (some 18) rfl rfl (ox_fieldAddr (b := w.heap.size) (o := 0) tF_64_5 g1_f1 ?_)
      have q3 := ((q2.ext e6).keep x1 (fun _h => by have _q := lo1 _ _h; have _q2 := b1.lt; omega))
      refine xl_op (P := Tryz.prog) (some 19) rfl rfl (ox_load (v := (.slice e.A e.list.length e.c)) tA_62 rfl (q3.cell rfl) ?_)
      refine xl_op (P := Tryz.prog) (some 20) rfl rfl (ox_len (A := e.A) (n := e.list.length) (cp := e.c) rfl tU_62 rfl ?_)
      refine xl_op (P := Tryz.prog) (some 21) rfl rfl (ox_lss (k := .i64) (a := ((i : Nat))) (b := (((e.list.length : Nat) : Int))) rfl rfl ?_)
      refine xl_nil ?_
      refine xc_if (p := ((i : Nat) : Int) < (((e.list.length : Nat) : Int))) rfl (fun h2 => ?_) (fun h2 => ?_)
      · skip
        refine xc_skip ?_
        refine xc_seq ?_
        refine xc_block ?_
        refine xc_region ?_
        refine xl_op (P := Tryz.prog) (some 24) rfl rfl (ox_move (v := (.slice A1 ((e.list.length + 1)) ((e.list.length + 1)))) g4_f1 ?_)
        refine xl_op (P := Tryz.prog) (some 25) rfl rfl (ox_move (v := (.int .i64 ((i : Nat)))) g5_f1 ?_)
        refine xl_op (P := Tryz.prog) (some 26) rfl rfl (ox_fieldAddr (b := w.heap.size) (o := 0) tF_64_5 g1_f1 ?_)
        refine xl_op (P := Tryz.prog) (some 27) rfl rfl (ox_load (v := (.slice e.A e.list.length e.c)) tA_62 rfl (q3.cell rfl) ?_)
        refine xl_op (P := Tryz.prog) (some 28) rfl rfl (ox_move (v := (.int .i64 ((i : Nat)))) g5_f1 ?_)
        have x2 : Ext w w7 := (Chg.trans (Ext.trans (Ext.chg1 (Ext.chg1 (Ext.trans (Ext.trans e1 e2) e3) e4 (by omega)) e5 (by omega)) e6) x1 (fun b hb hl => (absurd hl (by have _h := lo1 b hb; omega))))
        obtain ⟨x_1, g_1, o_1, hx_1⟩ := row_may (A := e.A) (cs := EX.cs) i EX.len (by decide) (RowA.ext hE.row.1 x2)
        obtain ⟨hx_2, hA_1, hc_1⟩ := hx_1 (by first | omega | (simp only [List.length_drop, List.length_replicate, List.length_set, List.length_append, List.length_map, List.length_singleton] at *; omega))
        have hfx_x_1 := ((hE.row.2.2 _ (List.mem_of_getElem? hx_2))).row.2.1.by
        refine xl_op (P := Tryz.prog) (some 29) rfl rfl (ox_ixA (b := g_1) (o := o_1) (i := ((i : Nat))) i tE_62 hA_1 rfl rfl rfl (by omega) ?_)
        refine xl_op (P := Tryz.prog) (some 30) rfl rfl (ox_loadN (vs := [(.int .i64 x_1.kind), (.int .i64 x_1.frm), (.int .i64 x_1.to), (.int .i64 x_1.min), (.int .i64 x_1.max), (.slice x_1.A x_1.list.length x_1.c)]) tA_64 tS_64 rfl rfl hc_1 ?_)
        refine xl_op (P := Tryz.prog) (some 31) rfl rfl (ox_callE (al := [(.agg #[(.int .i64 x_1.kind), (.int .i64 x_1.frm), (.int .i64 x_1.to), (.int .i64 x_1.min), (.int .i64 x_1.max), (.slice x_1.A x_1.list.length x_1.c)])]) pf_78 rfl (ret_mono (ih x_1 w7 (exN_mem (List.mem_of_getElem? hx_2)) ((hE.row.2.2 _ (List.mem_of_getElem? hx_2)).ext x2)) ?_))
        rintro _ w8 ⟨y_1, rfl, ht1, e7⟩
        have he7 := e7.size
        obtain ⟨x_2, g_2, hx_3⟩ := own_may (A := A1) i EX.len (by decide) (o0_f1.ext e7)
        obtain ⟨hx_4, hA_2, hc_2⟩ := hx_3 (by first | omega | (simp only [List.length_drop, List.length_replicate, List.length_set, List.length_append, List.length_map, List.length_singleton] at *; omega))
        refine xl_op (P := Tryz.prog) (some 32) rfl rfl (ox_ixA (b := g_2) (o := 0) (i := ((i : Nat))) i tE_62 hA_2 rfl rfl rfl (by omega) ?_)
        refine xl_op (P := Tryz.prog) none rfl rfl (ox_stE (i := i) (off := 0) (vs := [(.int .i64 y_1.kind), (.int .i64 y_1.frm), (.int .i64 y_1.to), (.int .i64 y_1.min), (.int .i64 y_1.max), (.slice y_1.A y_1.list.length y_1.c)]) (b := (y_1 : EX)) EX.len tS_64 hA_2 rfl (v := (.agg #[(.int .i64 y_1.kind), (.int .i64 y_1.frm), (.int .i64 y_1.to), (.int .i64 y_1.min), (.int .i64 y_1.max), (.slice y_1.A y_1.list.length y_1.c)])) rfl rfl rfl rfl (o0_f1.ext e7) hx_4 rfl (by decide) (by omega) ?_)
        intro w9 e8 z7 o2
        refine xl_nil ?_
        refine xc_region ?_
        refine xl_op (P := Tryz.prog) (some 22) rfl rfl (ox_move (v := (.int .i64 ((i : Nat)))) g5_f1 ?_)
        refine xl_op (P := Tryz.prog) (some 23) rfl rfl (ox_add64 (a := ((i : Nat))) (b := 1) rfl rfl (by omega) ?_)
        refine xl_op (P := Tryz.prog) (some 5) rfl rfl (ox_assign (v := (.int .i64 ((i : Nat) + 1))) rfl ?_)
        refine xl_nil ?_
        have y1 : Chg (fun b => ((.slice A1 ((e.list.length + 1)) ((e.list.length + 1))) : Value).ownBlock = some b) w6 w9 := (Chg.trans (Chg.ext (Chg.trans (Chg.refl (fun b => ((.slice A1 ((e.list.length + 1)) ((e.list.length + 1))) : Value).ownBlock = some b) w6) x1 (fun b hb hl => hb)) e7) e8 (fun b hb hl => hb))
        exact ⟨rfl, e.list.length - (i + 1), by omega, i + 1, (L.set i y_1), by omega, (by omega), g1_f1, g2_f1, g3_f1, g4_f1, (by first | exact rfl | exact (congrArg (Value.int .i64) (by omega))), o2, (TwF.snoc (TwF.keep (TwF.ext t0_f1 e7) e8 hAlt) hx_2 (TwR.keep (TwR.mono (by omega) ht1) e8 hAlt) (by omega)), y1⟩
      · skip
        refine xc_exit ?_
        refine xc_seq ?_
        refine xc_region ?_
        refine xl_op (P := Tryz.prog) (some 33) rfl rfl (ox_move (v := (.slice A1 ((e.list.length + 1)) ((e.list.length + 1)))) g4_f1 ?_)
        refine xl_op (P := Tryz.prog) (some 34) rfl rfl (ox_fieldAddr (b := w.heap.size) (o := 0) tF_64_5 g1_f1 ?_)
        refine xl_op (P := Tryz.prog) (some 35) rfl rfl (ox_load (v := (.slice e.A e.list.length e.c)) tA_62 rfl (q3.cell rfl) ?_)
        refine xl_op (P := Tryz.prog) (some 36) rfl rfl (ox_len (A := e.A) (n := e.list.length) (cp := e.c) rfl tU_62 rfl ?_)
        refine xl_op (P := Tryz.prog) (some 37) rfl rfl (ox_mkStruct (ps := [(0, (.int .i64 93))]) (cs := #[(.int .i64 93), (.int .i64 0), (.int .i64 0), (.int .i64 0), (.int .i64 0), (.slice none 0 0)]) tZ_64 tP_64 rfl (by kernel_rfl) ?_)
        obtain ⟨x_3, g_3, hx_5⟩ := own_may (A := A1) e.list.length EX.len (by decide) o0_f1
        obtain ⟨hx_6, hA_3, hc_3⟩ := hx_5 (by first | omega | (simp only [List.length_drop, List.length_replicate, List.length_set, List.length_append, List.length_map, List.length_singleton] at *; omega))
        refine xl_op (P := Tryz.prog) (some 38) rfl rfl (ox_ixA (b := g_3) (o := 0) (i := (((e.list.length : Nat) : Int))) e.list.length tE_62 hA_3 rfl rfl rfl (by omega) ?_)
        refine xl_op (P := Tryz.prog) none rfl rfl (ox_stE (i := e.list.length) (off := 0) (vs := [(.int .i64 93), (.int .i64 0), (.int .i64 0), (.int .i64 0), (.int .i64 0), (.slice none 0 0)]) (b := ((EX.mk 93 0 0 0 0 none 0 []) : EX)) EX.len tS_64 hA_3 rfl (v := (.agg #[(.int .i64 93), (.int .i64 0), (.int .i64 0), (.int .i64 0), (.int .i64 0), (.slice none 0 0)])) rfl rfl rfl rfl o0_f1 hx_6 rfl (by decide) (by omega) ?_)
        intro w10 e9 z8 o3
        refine xl_nil ?_
        refine xc_region ?_
        refine xl_op (P := Tryz.prog) (some 39) rfl rfl (ox_move (v := (.slice A1 ((e.list.length + 1)) ((e.list.length + 1)))) g4_f1 ?_)
        refine xl_op (P := Tryz.prog) (some 40) rfl rfl (ox_fieldAddr (b := w.heap.size) (o := 0) tF_64_5 g1_f1 ?_)
        have q4 := (q3.keep e9 (fun _h => by have _q := lo1 _ _h; have _q2 := b1.lt; omega))
        refine xl_op (P := Tryz.prog) (some 41) rfl rfl (ox_load (v := (.slice e.A e.list.length e.c)) tA_62 rfl (q4.cell rfl) ?_)
        refine xl_op (P := Tryz.prog) (some 42) rfl rfl (ox_len (A := e.A) (n := e.list.length) (cp := e.c) rfl tU_62 rfl ?_)
        refine xl_op (P := Tryz.prog) (some 43) rfl rfl (ox_sliceToN (A := A1) (cp := ((e.list.length + 1))) (i := (((e.list.length : Nat) : Int))) e.list.length tE_62 rfl rfl (by omega) (by omega) (by omega) ?_)
        refine xl_op (P := Tryz.prog) (some 44) rfl rfl (ox_fieldAddr (b := w2.heap.size) (o := 0) tF_64_5 g3_f1 ?_)
        have q5 := ((b5.ext e6).keep x1 (fun _h => by have _q := lo1 _ _h; have _q2 := b5.lt; omega))
        have q6 := (q5.keep e9 (fun _h => by have _q := lo1 _ _h; have _q2 := b5.lt; omega))
        refine xl_op (P := Tryz.prog) none rfl rfl (ox_store (n := 1) (vs := [(.slice A1 e.list.length ((e.list.length + 1)))]) tS_62 rfl (v := (.slice A1 e.list.length ((e.list.length + 1)))) rfl rfl rfl rfl q6 (Nat.le_of_ble_eq_true rfl) ?_)
        intro w11 e10 z9 b6
        replace b6 : Blk w11 w2.heap.size #[(.int .i64 e.kind), (.int .i64 e.frm), (.int .i64 e.to), (.int .i64 e.min), (.int .i64 e.max), (.slice A1 e.list.length ((e.list.length + 1)))] 64 := b6
        refine xl_nil ?_
        refine xc_seq ?_
        refine xc_region ?_
        refine xl_op (P := Tryz.prog) (some 45) rfl rfl (ox_loadN (vs := [(.int .i64 e.kind), (.int .i64 e.frm), (.int .i64 e.to), (.int .i64 e.min), (.int .i64 e.max), (.slice A1 e.list.length ((e.list.length + 1)))]) tA_64 tS_64 g3_f1 rfl ⟨b6.cell rfl, b6.cell rfl, b6.cell rfl, b6.cell rfl, b6.cell rfl, b6.cell rfl, trivial⟩ ?_)
        have q7 := ((b2.ext e3).keep1 e4 (by have _q := b2.lt; omega))
        have q8 := (q7.keep1 e5 (by have _q := b2.lt; omega))
        have q9 := ((q8.ext e6).keep x1 (fun _h => by have _q := lo1 _ _h; have _q2 := b2.lt; omega))
        have q10 := (q9.keep e9 (fun _h => by have _q := lo1 _ _h; have _q2 := b2.lt; omega))
        have q11 := (q10.keep1 e10 (by have _q := b2.lt; omega))
        refine xl_op (P := Tryz.prog) none rfl rfl (ox_store (n := 6) (vs := [(.int .i64 e.kind), (.int .i64 e.frm), (.int .i64 e.to), (.int .i64 e.min), (.int .i64 e.max), (.slice A1 e.list.length ((e.list.length + 1)))]) tS_64 g2_f1 (v := (.agg #[(.int .i64 e.kind), (.int .i64 e.frm), (.int .i64 e.to), (.int .i64 e.min), (.int .i64 e.max), (.slice A1 e.list.length ((e.list.length + 1)))])) rfl rfl rfl rfl q11 (Nat.le_of_ble_eq_true rfl) ?_)
        intro w12 e11 z10 b7
        replace b7 : Blk w12 w1.heap.size #[(.int .i64 e.kind), (.int .i64 e.frm), (.int .i64 e.to), (.int .i64 e.min), (.int .i64 e.max), (.slice A1 e.list.length ((e.list.length + 1)))] 64 := blk_full b7 rfl
        refine xl_nil ?_
        refine xc_ret ?_
        change leaves _ _ _ _ _ _ _
        refine leaves_nil (n := 46) (rs := [.cell 2 64]) (vs := [.agg #[(.int .i64 e.kind), (.int .i64 e.frm), (.int .i64 e.to), (.int .i64 e.min), (.int .i64 e.max), (.slice A1 e.list.length ((e.list.length + 1)))]]) rfl ⟨⟨by decide, w1.heap.size, 0, 6, [(.int .i64 e.kind), (.int .i64 e.frm), (.int .i64 e.to), (.int .i64 e.min), (.int .i64 e.max), (.slice A1 e.list.length ((e.list.length + 1)))], g2_f1, tA_64, tS_64, rfl, ⟨b7.cell rfl, b7.cell rfl, b7.cell rfl, b7.cell rfl, b7.cell rfl, b7.cell rfl, trivial⟩, rfl⟩, trivial⟩ ?_
        have q12 := (TwF.keep (TwF.keep t0_f1 e9 hAlt) e10 (fun b hb => by subst hb; omega))
        have q13 := (TwF.keep q12 e11 (fun b hb => by subst hb; omega))
        have hLl : L.length = e.list.length + 1 := hl_L
        have hT9 := q13
        have q14 := (o3.keep1 e10 (fun k hk => by have _q := lo1 k hk; omega))
        have q15 := (q14.keep1 e11 (fun k hk => by have _q := lo1 k hk; omega))
        have ho9 := q15
        have hcut := set_last (x := exMark) hLl
        obtain ⟨hc1, hc2⟩ := hcut
        have ho8 : Vx.Own w12 64 6 (.slice A1 (e.list.length + 1) (e.list.length + 1)) (e.list.length + 1) ((L.take e.list.length ++ [exMark]).flatMap EX.cs) := by rw [← hc2]; exact ho9
        have hie : i = e.list.length := by omega
        have x3 : Ext w w12 := (Ext.chg1 (Ext.chg1 (Chg.trans (Chg.trans (Ext.trans (Ext.chg1 (Ext.chg1 (Ext.trans (Ext.trans e1 e2) e3) e4 (by omega)) e5 (by omega)) e6) x1 (fun b hb hl => (absurd hl (by have _h := lo1 b hb; omega)))) e9 (fun b hb hl => (absurd hl (by have _h := lo1 b hb; omega)))) e10 (by omega)) e11 (by omega))
        exact ⟨EX.mk e.kind e.frm e.to e.min e.max A1 (e.list.length + 1) (L.take e.list.length), by show _ = Value.agg #[_, _, _, _, _, .slice _ (L.take e.list.length).length _]; rw [hc1]; rfl, TwR.node (by intro h0; rw [h0] at h1; simp at h1) hc1 ho8 (fun k hk => by have _h := lo1 k hk; omega) (TwL.mono (by omega) (hT9.take (by omega) (by omega))), x3⟩
  · skip
    refine xc_skip ?_
    refine xc_seq ?_
    refine xc_region ?_
    refine xl_op (P := Tryz.prog) (some 45) rfl rfl (ox_loadN (vs := [(.int .i64 e.kind), (.int .i64 e.frm), (.int .i64 e.to), (.int .i64 e.min), (.int .i64 e.max), (.slice none 0 0)]) tA_64 tS_64 rfl rfl ⟨b5.cell rfl, b5.cell rfl, b5.cell rfl, b5.cell rfl, b5.cell rfl, b5.cell rfl, trivial⟩ ?_)
    have q16 := ((b2.ext e3).keep1 e4 (by have _q := b2.lt; omega))
    have q17 := (q16.keep1 e5 (by have _q := b2.lt; omega))
    refine xl_op (P := Tryz.prog) none rfl rfl (ox_store (n := 6) (vs := [(.int .i64 e.kind), (.int .i64 e.frm), (.int .i64 e.to), (.int .i64 e.min), (.int .i64 e.max), (.slice none 0 0)]) tS_64 rfl (v := (.agg #[(.int .i64 e.kind), (.int .i64 e.frm), (.int .i64 e.to), (.int .i64 e.min), (.int .i64 e.max), (.slice none 0 0)])) rfl rfl rfl rfl q17 (Nat.le_of_ble_eq_true rfl) ?_)
    intro w13 e12 z11 b8
    replace b8 : Blk w13 w1.heap.size #[(.int .i64 e.kind), (.int .i64 e.frm), (.int .i64 e.to), (.int .i64 e.min), (.int .i64 e.max), (.slice none 0 0)] 64 := blk_full b8 rfl
    refine xl_nil ?_
    refine xc_ret ?_
    change leaves _ _ _ _ _ _ _
    refine leaves_nil (n := 46) (rs := [.cell 2 64]) (vs := [.agg #[(.int .i64 e.kind), (.int .i64 e.frm), (.int .i64 e.to), (.int .i64 e.min), (.int .i64 e.max), (.slice none 0 0)]]) rfl ⟨⟨by decide, w1.heap.size, 0, 6, [(.int .i64 e.kind), (.int .i64 e.frm), (.int .i64 e.to), (.int .i64 e.min), (.int .i64 e.max), (.slice none 0 0)], rfl, tA_64, tS_64, rfl, ⟨b8.cell rfl, b8.cell rfl, b8.cell rfl, b8.cell rfl, b8.cell rfl, b8.cell rfl, trivial⟩, rfl⟩, trivial⟩ ?_
    have x4 : Ext w w13 := (Ext.chg1 (Ext.chg1 (Ext.chg1 (Ext.trans (Ext.trans e1 e2) e3) e4 (by omega)) e5 (by omega)) e12 (by omega))
    exact ⟨EX.mk e.kind e.frm e.to e.min e.max none 0 [], rfl, TwR.leaf (List.length_eq_zero_iff.1 (by omega)), x4⟩
theorem twin_calls (e : EX) (w : World) (hE : ExR w e) : Calls Tryz.prog 78 #[(.agg #[(.int .i64 e.kind), (.int .i64 e.frm), (.int .i64 e.to), (.int .i64 e.min), (.int .i64 e.max), (.slice e.A e.list.length e.c)])] w (Ret fun v w' => ∃ e', v = .agg (EX.cs e').toArray ∧ TwR w.heap.size w' e e' ∧ Ext w w') := by
  have key : ∀ n : Nat, ∀ e : EX, exN e = n → ∀ w, ExR w e → Calls Tryz.prog 78 #[(.agg #[(.int .i64 e.kind), (.int .i64 e.frm), (.int .i64 e.to), (.int .i64 e.min), (.int .i64 e.max), (.slice e.A e.list.length e.c)])] w (Ret fun v w' => ∃ e', v = .agg (EX.cs e').toArray ∧ TwR w.heap.size w' e e' ∧ Ext w w') := by
    intro n
    induction n using Nat.strongRecOn with
    | _ n ih => intro e he w hE; exact twin_step e (fun x w hx hX => ih (exN x) (by omega) x rfl w hX) w hE
  exact key _ e rfl w hE
theorem twinExpr_calls (e : EX) (w : World) (hE : ExR w e) :
    Calls Tryz.prog 53 #[(.agg #[(.int .i64 e.kind), (.int .i64 e.frm), (.int .i64 e.to), (.int .i64 e.min), (.int .i64 e.max), (.slice e.A e.list.length e.c)])] w (Ret (fun v w' => ∃ e', v = .agg (EX.cs e').toArray ∧ TwX w.heap.size w' e e' ∧ Ext w w')) := by
  refine calls_xc (n := 9) (f := fun s_ => [(.agg #[(.int .i64 e.kind), (.int .i64 e.frm), (.int .i64 e.to), (.int .i64 e.min), (.int .i64 e.max), (.slice e.A e.list.length e.c)])].getD s_ undef) Tryz.func53 rfl rfl (by simp) (fun s_ => by simp) ?_
  refine xc_seq ?_
  refine xc_region ?_
  refine xl_op (P := Tryz.prog) (some 1) rfl rfl (ox_box (v := (.agg #[(.int .i64 e.kind), (.int .i64 e.frm), (.int .i64 e.to), (.int .i64 e.min), (.int .i64 e.max), (.slice e.A e.list.length e.c)])) rfl ?_)
  intro w1 e1 z1 b1
  replace b1 : Blk w1 w.heap.size #[(.int .i64 e.kind), (.int .i64 e.frm), (.int .i64 e.to), (.int .i64 e.min), (.int .i64 e.max), (.slice e.A e.list.length e.c)] 64 := b1
  refine xl_op (P := Tryz.prog) (some 2) rfl rfl (ox_alloc tZ_64 ?_)
  intro w2 e2 z2 b2
  replace b2 : Blk w2 w1.heap.size #[(.int .i64 0), (.int .i64 0), (.int .i64 0), (.int .i64 0), (.int .i64 0), (.slice none 0 0)] 64 := b2
  refine xl_nil ?_
  refine xc_seq ?_
  refine xc_seq ?_
  refine xc_region ?_
  refine xl_op (P := Tryz.prog) (some 3) rfl rfl (ox_loadN (vs := [(.int .i64 e.kind), (.int .i64 e.frm), (.int .i64 e.to), (.int .i64 e.min), (.int .i64 e.max), (.slice e.A e.list.length e.c)]) tA_64 tS_64 rfl rfl ⟨(b1.ext e2).cell rfl, (b1.ext e2).cell rfl, (b1.ext e2).cell rfl, (b1.ext e2).cell rfl, (b1.ext e2).cell rfl, (b1.ext e2).cell rfl, trivial⟩ ?_)
  have x1 : Ext w w2 := (Ext.trans e1 e2)
  refine xl_op (P := Tryz.prog) (some 4) rfl rfl (ox_callE (al := [(.agg #[(.int .i64 e.kind), (.int .i64 e.frm), (.int .i64 e.to), (.int .i64 e.min), (.int .i64 e.max), (.slice e.A e.list.length e.c)])]) pf_77 rfl (ret_mono (flat_calls e w2 (hE.ext x1)) ?_))
  rintro _ w3 ⟨rfl, e3⟩
  have he3 := e3.size
  refine xl_op (P := Tryz.prog) (some 5) rfl rfl (ox_not (b := ((flatE e))) rfl ?_)
  refine xl_nil ?_
  refine xc_cond (b := (!(flatE e))) rfl (fun h1 => ?_) (fun h1 => ?_)
  · skip
    have h1' := h1
    try simp only [Bool.or_eq_true, Bool.and_eq_true, decide_eq_true_eq, Bool.or_eq_false_iff, Bool.and_eq_false_iff, decide_eq_false_iff_not, Bool.not_eq_true', Bool.not_eq_false'] at h1'
    have hfl_ : flatE e = false := by simpa using h1
    refine xc_seq ?_
    refine xc_region ?_
    refine xl_op (P := Tryz.prog) (some 6) rfl rfl (ox_loadN (vs := [(.int .i64 e.kind), (.int .i64 e.frm), (.int .i64 e.to), (.int .i64 e.min), (.int .i64 e.max), (.slice e.A e.list.length e.c)]) tA_64 tS_64 rfl rfl ⟨((b1.ext e2).ext e3).cell rfl, ((b1.ext e2).ext e3).cell rfl, ((b1.ext e2).ext e3).cell rfl, ((b1.ext e2).ext e3).cell rfl, ((b1.ext e2).ext e3).cell rfl, ((b1.ext e2).ext e3).cell rfl, trivial⟩ ?_)
    refine xl_op (P := Tryz.prog) none rfl rfl (ox_store (n := 6) (vs := [(.int .i64 e.kind), (.int .i64 e.frm), (.int .i64 e.to), (.int .i64 e.min), (.int .i64 e.max), (.slice e.A e.list.length e.c)]) tS_64 rfl (v := (.agg #[(.int .i64 e.kind), (.int .i64 e.frm), (.int .i64 e.to), (.int .i64 e.min), (.int .i64 e.max), (.slice e.A e.list.length e.c)])) rfl rfl rfl rfl (b2.ext e3) (Nat.le_of_ble_eq_true rfl) ?_)
    intro w4 e4 z3 b3
    replace b3 : Blk w4 w1.heap.size #[(.int .i64 e.kind), (.int .i64 e.frm), (.int .i64 e.to), (.int .i64 e.min), (.int .i64 e.max), (.slice e.A e.list.length e.c)] 64 := blk_full b3 rfl
    refine xl_nil ?_
    refine xc_ret ?_
    change leaves _ _ _ _ _ _ _
    refine leaves_nil (n := 9) (rs := [.cell 2 64]) (vs := [.agg #[(.int .i64 e.kind), (.int .i64 e.frm), (.int .i64 e.to), (.int .i64 e.min), (.int .i64 e.max), (.slice e.A e.list.length e.c)]]) rfl ⟨⟨by decide, w1.heap.size, 0, 6, [(.int .i64 e.kind), (.int .i64 e.frm), (.int .i64 e.to), (.int .i64 e.min), (.int .i64 e.max), (.slice e.A e.list.length e.c)], rfl, tA_64, tS_64, rfl, ⟨b3.cell rfl, b3.cell rfl, b3.cell rfl, b3.cell rfl, b3.cell rfl, b3.cell rfl, trivial⟩, rfl⟩, trivial⟩ ?_
    have x2 : Ext w w4 := (Ext.chg1 (Ext.trans x1 e3) e4 (by omega))
    exact ⟨e, rfl, .inl ⟨hfl_, rfl⟩, x2⟩
  · skip
    have h1' := h1
    try simp only [Bool.or_eq_true, Bool.and_eq_true, decide_eq_true_eq, Bool.or_eq_false_iff, Bool.and_eq_false_iff, decide_eq_false_iff_not, Bool.not_eq_true', Bool.not_eq_false'] at h1'
    have hfl_ : flatE e = true := by simpa using h1
    refine xc_skip ?_
    refine xc_seq ?_
    refine xc_region ?_
    refine xl_op (P := Tryz.prog) (some 7) rfl rfl (ox_loadN (vs := [(.int .i64 e.kind), (.int .i64 e.frm), (.int .i64 e.to), (.int .i64 e.min), (.int .i64 e.max), (.slice e.A e.list.length e.c)]) tA_64 tS_64 rfl rfl ⟨((b1.ext e2).ext e3).cell rfl, ((b1.ext e2).ext e3).cell rfl, ((b1.ext e2).ext e3).cell rfl, ((b1.ext e2).ext e3).cell rfl, ((b1.ext e2).ext e3).cell rfl, ((b1.ext e2).ext e3).cell rfl, trivial⟩ ?_)
    have x3 : Ext w w3 := (Ext.trans x1 e3)
    refine xl_op (P := Tryz.prog) (some 8) rfl rfl (ox_callE (al := [(.agg #[(.int .i64 e.kind), (.int .i64 e.frm), (.int .i64 e.to), (.int .i64 e.min), (.int .i64 e.max), (.slice e.A e.list.length e.c)])]) pf_78 rfl (ret_mono (twin_calls e w3 (hE.ext x3)) ?_))
    rintro _ w5 ⟨y_1, rfl, ht1, e5⟩
    have he5 := e5.size
    refine xl_op (P := Tryz.prog) none rfl rfl (ox_store (n := 6) (vs := [(.int .i64 y_1.kind), (.int .i64 y_1.frm), (.int .i64 y_1.to), (.int .i64 y_1.min), (.int .i64 y_1.max), (.slice y_1.A y_1.list.length y_1.c)]) tS_64 rfl (v := (.agg #[(.int .i64 y_1.kind), (.int .i64 y_1.frm), (.int .i64 y_1.to), (.int .i64 y_1.min), (.int .i64 y_1.max), (.slice y_1.A y_1.list.length y_1.c)])) rfl rfl rfl rfl ((b2.ext e3).ext e5) (Nat.le_of_ble_eq_true rfl) ?_)
    intro w6 e6 z4 b4
    replace b4 : Blk w6 w1.heap.size #[(.int .i64 y_1.kind), (.int .i64 y_1.frm), (.int .i64 y_1.to), (.int .i64 y_1.min), (.int .i64 y_1.max), (.slice y_1.A y_1.list.length y_1.c)] 64 := blk_full b4 rfl
    refine xl_nil ?_
    refine xc_ret ?_
    change leaves _ _ _ _ _ _ _
    refine leaves_nil (n := 9) (rs := [.cell 2 64]) (vs := [.agg #[(.int .i64 y_1.kind), (.int .i64 y_1.frm), (.int .i64 y_1.to), (.int .i64 y_1.min), (.int .i64 y_1.max), (.slice y_1.A y_1.list.length y_1.c)]]) rfl ⟨⟨by decide, w1.heap.size, 0, 6, [(.int .i64 y_1.kind), (.int .i64 y_1.frm), (.int .i64 y_1.to), (.int .i64 y_1.min), (.int .i64 y_1.max), (.slice y_1.A y_1.list.length y_1.c)], rfl, tA_64, tS_64, rfl, ⟨b4.cell rfl, b4.cell rfl, b4.cell rfl, b4.cell rfl, b4.cell rfl, b4.cell rfl, trivial⟩, rfl⟩, trivial⟩ ?_
    have x4 : Ext w w6 := (Ext.chg1 (Ext.trans x3 e5) e6 (by omega))
    exact ⟨y_1, rfl, .inr ⟨hfl_, TwR.mono (by omega) (TwR.keep ht1 e6 (fun b hb => by subst hb; omega))⟩, x4⟩
end Go.Proofs.YtnnmdkglgnlenaaGreatDoor
