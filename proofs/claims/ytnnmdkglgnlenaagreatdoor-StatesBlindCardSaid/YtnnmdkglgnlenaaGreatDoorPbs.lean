/-
  Part 19 of the proof: texts Uk Um. No conditions.
-/
import Derived.Test.YtnnmdkglgnlenaaGreatDoorRows
import Derived.Test.YtnnmdkglgnlenaaGreatDoorPbc
import Derived.Test.YtnnmdkglgnlenaaGreatDoorPbo
import Derived.Test.YtnnmdkglgnlenaaGreatDoorPbp
import Derived.Test.YtnnmdkglgnlenaaGreatDoorPbq
import Derived.Test.YtnnmdkglgnlenaaGreatDoorPbr
set_option linter.unusedVariables false
set_option linter.unusedSimpArgs false
set_option maxRecDepth 100000
set_option maxHeartbeats 4000000
namespace Go.Proofs.YtnnmdkglgnlenaaGreatDoor
open Go Go.RowKit Go.Vx
def letterS (z : Sym) : List UInt8 := if z.kind = 1 then [116] ++ Lib.itoa z.n else if z.kind = 2 then [101] else [110] ++ Lib.itoa z.n
def arcTx (a : Arc) : List UInt8 := [32] ++ letterS ⟨a.sym.kind, a.sym.n⟩ ++ [62] ++ Lib.itoa a.to
def lineS (st : List ASt) (n : Nat) : List UInt8 := Lib.itoa (n : Nat) ++ [58] ++ wkey (kernS st (n : Nat)) ++ [32, 124] ++ (st[n]!).arcs.flatMap arcTx ++ [10]
def linesS (st : List ASt) (l : List Nat) : List UInt8 := l.flatMap (lineS st)
def printS (st : List ASt) : List UInt8 := linesS st (List.range st.length)
theorem linesS_snoc {st : List ASt} {l : List Nat} {n : Nat} : linesS st (l ++ [n]) = linesS st l ++ lineS st n := by unfold linesS; simp
theorem letterS_len (z : Sym) (h : -1 ≤ z.n ∧ z.n ≤ 1000000) : (letterS z).length ≤ 30 := by
  have := Lib.itoa_length_le z.n (by omega) (by omega)
  unfold letterS
  split
  · simp only [List.length_append, List.length_cons, List.length_nil]; omega
  · split
    · simp
    · simp only [List.length_append, List.length_cons, List.length_nil]; omega
theorem arcs_next {l : List Arc} {k : Nat} {a : Arc} (h : l[k]? = some a) : (l.take (k + 1)).flatMap arcTx = (l.take k).flatMap arcTx ++ ([32] ++ letterS ⟨a.sym.kind, a.sym.n⟩ ++ [62] ++ Lib.itoa a.to) := by
  rw [List.take_add_one, h]; simp [arcTx]
theorem range_pre {pre : List Nat} {x n : Nat} (h : (pre ++ [x]) <+: List.range n) : pre = List.range x ∧ x < n := by
  obtain ⟨t, ht⟩ := h
  have hl : pre.length < n := by
    have := congrArg List.length ht
    simp at this; omega
  have hx : (List.range n)[pre.length]? = some x := by rw [← ht, List.append_assoc, List.getElem?_append_right (Nat.le_refl _)]; simp
  rw [List.getElem?_range hl] at hx
  have hx : pre.length = x := Option.some.inj hx
  refine ⟨?_, by omega⟩
  have hp : pre = (List.range n).take pre.length := by rw [← ht, List.append_assoc, List.take_left]
  rw [hp, List.take_range, Nat.min_eq_left (by omega), hx]
section
variable {g : GD} {st : List ASt} (h : Aut g st)
include h
theorem line_len {n : Nat} {x : ASt} (hx : st[n]? = some x) : (kernS st (n : Nat)).length ≤ 100000000 := by
  rw [kernS_at hx]
  have := (kern_len h hx).2.1
  have := (h.lens x (List.mem_of_getElem? hx)).1
  omega
theorem line_small {n : Nat} {x : ASt} (hx : st[n]? = some x) (y : Itm) (hy : y ∈ kernS st (n : Nat)) : smallI y := by
  rw [kernS_at hx] at hy
  exact okJ_small (h.ok.ok x (List.mem_of_getElem? hx) y (List.mem_of_mem_take hy)) h.good.prods h.good.rights
theorem line_key {n : Nat} {x : ASt} (hx : st[n]? = some x) : (wkey (kernS st (n : Nat))).length ≤ 67240962 * 45 := by
  have h1 := wkey_len (fun y hy => line_small h hx y hy) (kernS st (n : Nat)).length
  rw [List.take_of_length_le (Nat.le_refl _)] at h1
  have h2 : (kernS st (n : Nat)).length ≤ 67240962 := by
    rw [kernS_at hx]
    have := (kern_len h hx).2.1
    have := (h.lens x (List.mem_of_getElem? hx)).1
    omega
  exact Nat.le_trans h1 (Nat.mul_le_mul_right _ h2)
theorem arc_small {n : Nat} {x : ASt} (hx : st[n]? = some x) {a : Arc} (ha : a ∈ x.arcs) : (-1 ≤ a.sym.n ∧ a.sym.n ≤ 1000000) ∧ (0 ≤ a.to ∧ a.to ≤ 100000000000) := by
  constructor
  · have hm : a.sym ∈ symsG g x.items := by rw [← h.arcs n x hx]; exact List.mem_map_of_mem ha
    obtain ⟨y, hy, hb⟩ := symsG_mem.1 hm
    have hok := (h.ok.ok x (List.mem_of_getElem? hx) y hy).1
    have hG := h.good.good
    have hN := h.good.names
    have h2 : a.sym ∈ rightG g y.p := List.mem_of_getElem? hb
    unfold rightG at h2
    split at h2
    · rw [List.mem_singleton] at h2
      rw [h2]
      have := hG.1
      show (-1 ≤ g.start ∧ g.start ≤ 1000000)
      omega
    · rename_i hne
      have h5 : y.p.toNat < g.prods.length := by have := hok.1; omega
      have h6 : g.prods[y.p.toNat]! ∈ g.prods := by rw [getElem!_pos g.prods y.p.toNat h5]; exact List.getElem_mem h5
      have h7 := (hG.2 _ h6).2.2 _ h2
      have h8 := h.good.triv
      unfold symE at h7
      split at h7
      · split at h7
        · omega
        · simp at h7
      · split at h7
        · split at h7
          · omega
          · simp at h7
        · split at h7
          · split at h7
            · omega
            · simp at h7
          · simp at h7
  · obtain ⟨j, y, e1, e2, _⟩ := h.to n x a hx ha
    have := (List.getElem?_eq_some_iff.1 e2).1
    have := h.big
    omega
theorem arcTx_len {n : Nat} {x : ASt} (hx : st[n]? = some x) {l : List Arc} (hl : ∀ a ∈ l, a ∈ x.arcs) : (l.flatMap arcTx).length ≤ l.length * 60 := by
  induction l with
  | nil => simp
  | cons a l ih =>
    have h1 := arc_small h hx (hl a (by simp))
    have h2 := letterS_len ⟨a.sym.kind, a.sym.n⟩ h1.1
    have h3 := Lib.itoa_length_le a.to (by omega) (by omega)
    have h4 := ih fun b hb => hl b (by simp [hb])
    have h5 : (arcTx a).length ≤ 60 := by
      unfold arcTx
      simp only [List.length_append, List.length_cons, List.length_nil]
      omega
    rw [List.flatMap_cons, List.length_append, List.length_cons, Nat.succ_mul]
    omega
theorem lineS_len {n : Nat} (hn : n < st.length) : (lineS st n).length ≤ 11431000000 := by
  have hx : st[n]? = some st[n] := List.getElem?_eq_getElem hn
  have hb := h.big
  have h1 := Lib.itoa_length_le (n : Nat) (by omega) (by omega)
  have h2 := line_key h hx
  have h3 := arcTx_len h hx (l := st[n].arcs) (fun a ha => ha)
  have h4 := (h.lens _ (List.mem_of_getElem? hx)).2
  unfold lineS
  rw [bangA hx]
  simp only [List.length_append, List.length_cons, List.length_nil]
  omega
theorem lines_len : ∀ {n : Nat}, n ≤ st.length → (linesS st (List.range n)).length ≤ n * 11431000000
  | 0, _ => by simp [linesS]
  | n + 1, hn => by
    have h1 := lineS_len h (n := n) (by omega)
    have h2 := lines_len (n := n) (by omega)
    rw [List.range_succ, linesS_snoc, List.length_append, Nat.succ_mul]
    omega
end
def PrI (w0 : World) (bb b1 ba : Nat) (st : List ASt) (pre : List Nat) (Y : Nat → Prop) (W : World) : Prop := ∃ A c, BldA bb (linesS st pre) A c W ∧ (∀ k, (Value.slice A (linesS st pre).length c).ownBlock = some k → ¬ Y k ∧ w0.heap.size ≤ k) ∧ Blk W b1 #[.pointer (some ⟨ba, 0, none⟩)] 28 ∧ ¬ Y bb ∧ ¬ Y b1 ∧ Ext w0 W ∧ (∀ b, Y b → w0.heap.size ≤ b)
theorem prI_stab {w0 : World} {bb b1 ba : Nat} {st : List ASt} : Stab w0.heap.size (PrI w0 bb b1 ba st) := by
  rintro pre X W X' W' hX ⟨A, c, hb, hlo, hb1, hbb, hb1n, hE, hXw⟩ hc hX'
  refine ⟨A, c, hb.keep hc hbb (fun k hk => (hlo k hk).1), fun k hk => ⟨fun h9 => (hX' k h9).elim (hlo k hk).1 (fun h8 => by have := hb.own.lt k hk; omega), (hlo k hk).2⟩, hb1.keep hc hb1n, fun h9 => (hX' _ h9).elim hbb (fun h8 => by have := hb.lt; omega), fun h9 => (hX' _ h9).elim hb1n (fun h8 => by have := hb1.lt; omega), Chg.trans hE hc (fun b hb hl => by have := hXw b hb; omega), fun b hb => (hX' b hb).elim (hXw b) (fun h8 => by have := hE.size; omega)⟩
theorem printS_ne {g : GD} {st : List ASt} (h : Aut g st) : printS st ≠ [] := by
  obtain ⟨x, hx, _⟩ := h.first
  have hl := (List.getElem?_eq_some_iff.1 hx).1
  obtain ⟨n, hn⟩ : ∃ n, st.length = n + 1 := ⟨st.length - 1, by omega⟩
  unfold printS
  rw [hn, List.range_succ, linesS_snoc]
  intro h9
  have := congrArg List.length h9
  unfold lineS at this
  simp at this
theorem pf_54 : plainF Tryz.prog 54 = true := by kernel_rfl
theorem pf_58 : plainF Tryz.prog 58 = true := by kernel_rfl
theorem letter_calls (z : Sym) (w : World) (hT : TabP w) (hz : -9223372036854775808 ≤ z.n ∧ z.n ≤ 9223372036854775807) :
    Calls Tryz.prog 58 #[(.agg #[(.int .i64 z.kind), (.int .i64 z.n)])] w (Ret (fun v w' => v = .string ⟨(letterS z).toArray⟩ ∧ Ext w w')) := by
  refine calls_xc (n := 17) (f := fun s_ => [(.agg #[(.int .i64 z.kind), (.int .i64 z.n)])].getD s_ undef) Tryz.func58 rfl rfl (by simp) (fun s_ => by simp) ?_
  refine xc_seq ?_
  refine xc_region ?_
  refine xl_op (P := Tryz.prog) (some 1) rfl rfl (ox_box (v := (.agg #[(.int .i64 z.kind), (.int .i64 z.n)])) rfl ?_)
  intro w1 e1 z1 b1
  replace b1 : Blk w1 w.heap.size #[(.int .i64 z.kind), (.int .i64 z.n)] 32 := b1
  refine xl_op (P := Tryz.prog) (some 2) rfl rfl (ox_assign (v := (.string (⟨#[]⟩))) rfl ?_)
  refine xl_nil ?_
  refine xc_seq ?_
  refine xc_seq ?_
  refine xc_region ?_
  refine xl_op (P := Tryz.prog) (some 3) rfl rfl (ox_fieldAddr (b := w.heap.size) (o := 0) tF_32_0 rfl ?_)
  refine xl_op (P := Tryz.prog) (some 4) rfl rfl (ox_load (v := (.int .i64 z.kind)) tA_3 rfl (b1.cell rfl) ?_)
  refine xl_nil ?_
  refine xc_block ?_
  refine xc_seq ?_
  refine xc_region ?_
  refine xl_op (P := Tryz.prog) (some 6) rfl rfl (ox_eql (k := .i64) (a := z.kind) (b := 1) rfl rfl ?_)
  refine xl_op (P := Tryz.prog) (some 5) rfl rfl (ox_assign (v := (.bool (decide ((z.kind : Int) = 1)))) rfl ?_)
  refine xl_nil ?_
  refine xc_if (p := (z.kind : Int) = 1) rfl (fun h1 => ?_) (fun h1 => ?_)
  · skip
    refine xc_seq ?_
    refine xc_region ?_
    refine xl_op (P := Tryz.prog) (some 7) rfl rfl (ox_fieldAddr (b := w.heap.size) (o := 0) tF_32_1 rfl ?_)
    refine xl_op (P := Tryz.prog) (some 8) rfl rfl (ox_load (v := (.int .i64 z.n)) tA_3 rfl (b1.cell rfl) ?_)
    have hil_e2 := Lib.itoa_length_le z.n (by omega) (by omega)
    refine xl_op (P := Tryz.prog) (some 9) rfl rfl (ox_callE (al := [(.int .i64 z.n)]) pf_56 rfl (ret_mono (itoa_calls z.n w1 (by omega) (by omega) (TabIs.ext hT e1)) ?_))
    rintro _ w2 ⟨rfl, e2⟩
    have he2 := e2.size
    refine xl_op (P := Tryz.prog) (some 10) rfl rfl (ox_addL (l := ([116])) (m := (Lib.itoa z.n)) rfl rfl (by simp only [List.length_append, List.length_cons, List.length_nil]; omega) ?_)
    refine xl_op (P := Tryz.prog) (some 2) rfl rfl (ox_assign (v := (.string (⟨([116] ++ Lib.itoa z.n).toArray⟩))) rfl ?_)
    refine xl_nil ?_
    refine xc_ret ?_
    change leaves _ _ _ _ _ _ _
    refine leaves_nil (n := 17) (rs := [.tmp 2]) (vs := [(.string (⟨([116] ++ Lib.itoa z.n).toArray⟩))]) rfl ⟨⟨by decide, rfl⟩, trivial⟩ ?_
    have x1 : Ext w w2 := (Ext.trans e1 e2)
    exact ⟨by rw [letterS, if_pos h1]; rfl, x1⟩
  · skip
    refine xc_seq ?_
    refine xc_region ?_
    refine xl_op (P := Tryz.prog) (some 12) rfl rfl (ox_eql (k := .i64) (a := z.kind) (b := 2) rfl rfl ?_)
    refine xl_op (P := Tryz.prog) (some 11) rfl rfl (ox_assign (v := (.bool (decide ((z.kind : Int) = 2)))) rfl ?_)
    refine xl_nil ?_
    refine xc_if (p := (z.kind : Int) = 2) rfl (fun h2 => ?_) (fun h2 => ?_)
    · skip
      refine xc_seq ?_
      refine xc_region ?_
      refine xl_op (P := Tryz.prog) (some 2) rfl rfl (ox_assign (v := (.string (⟨#[101]⟩))) rfl ?_)
      refine xl_nil ?_
      refine xc_ret ?_
      change leaves _ _ _ _ _ _ _
      refine leaves_nil (n := 17) (rs := [.tmp 2]) (vs := [(.string (⟨#[101]⟩))]) rfl ⟨⟨by decide, rfl⟩, trivial⟩ ?_
      exact ⟨by rw [letterS, if_neg h1, if_pos h2]; rfl, e1⟩
    · skip
      refine xc_skip ?_
      refine xc_seq ?_
      refine xc_region ?_
      refine xl_op (P := Tryz.prog) (some 13) rfl rfl (ox_fieldAddr (b := w.heap.size) (o := 0) tF_32_1 rfl ?_)
      refine xl_op (P := Tryz.prog) (some 14) rfl rfl (ox_load (v := (.int .i64 z.n)) tA_3 rfl (b1.cell rfl) ?_)
      have hil_e3 := Lib.itoa_length_le z.n (by omega) (by omega)
      refine xl_op (P := Tryz.prog) (some 15) rfl rfl (ox_callE (al := [(.int .i64 z.n)]) pf_56 rfl (ret_mono (itoa_calls z.n w1 (by omega) (by omega) (TabIs.ext hT e1)) ?_))
      rintro _ w3 ⟨rfl, e3⟩
      have he3 := e3.size
      refine xl_op (P := Tryz.prog) (some 16) rfl rfl (ox_addL (l := ([110])) (m := (Lib.itoa z.n)) rfl rfl (by simp only [List.length_append, List.length_cons, List.length_nil]; omega) ?_)
      refine xl_op (P := Tryz.prog) (some 2) rfl rfl (ox_assign (v := (.string (⟨([110] ++ Lib.itoa z.n).toArray⟩))) rfl ?_)
      refine xl_nil ?_
      refine xc_ret ?_
      change leaves _ _ _ _ _ _ _
      refine leaves_nil (n := 17) (rs := [.tmp 2]) (vs := [(.string (⟨([110] ++ Lib.itoa z.n).toArray⟩))]) rfl ⟨⟨by decide, rfl⟩, trivial⟩ ?_
      have x2 : Ext w w3 := (Ext.trans e1 e3)
      exact ⟨by rw [letterS, if_neg h1, if_neg h2]; rfl, x2⟩
theorem print_calls (s1 : SP) (Bx ba : Nat) (st : List ASt) (w : World) (hA : AutX Bx w s1 ba st) (hT : TabP w) :
    Calls Tryz.prog 32 #[(.pointer (some ⟨ba, 0, none⟩))] w (Ret (fun v w' => v = .string ⟨(printS st).toArray⟩ ∧ Ext w w')) := by
  obtain ⟨⟨s2, sA, sc, sts, hd, hO, hR⟩, haut⟩ := hA
  have hA : AutX Bx w s1 ba st := ⟨⟨s2, sA, sc, sts, hd, hO, hR⟩, haut⟩
  have hlen : sts.length = st.length := by rw [← hd, List.length_map]
  have hbig := haut.big
  have hbal := hR.ba.lt
  have hB : ∀ x ∈ sts, x.items.length ≤ 67240962 ∧ x.arcs.length ≤ 67240962 := lens_d (g := s1.g) (by rw [hd]; exact haut)
  refine calls_xc (n := 47) (f := fun s_ => [(.pointer (some ⟨ba, 0, none⟩))].getD s_ undef) Tryz.func32 rfl rfl (by simp) (fun s_ => by simp) ?_
  refine xc_seq ?_
  refine xc_region ?_
  refine xl_op (P := Tryz.prog) (some 1) rfl rfl (ox_box (v := (.pointer (some ⟨ba, 0, none⟩))) rfl ?_)
  intro w1 e1 z1 b1
  replace b1 : Blk w1 w.heap.size #[(.pointer (some ⟨ba, 0, none⟩))] 28 := b1
  refine xl_op (P := Tryz.prog) (some 2) rfl rfl (ox_assign (v := (.string (⟨#[]⟩))) rfl ?_)
  refine xl_nil ?_
  refine xc_seq ?_
  refine xc_region ?_
  refine xl_op (P := Tryz.prog) (some 3) rfl rfl (ox_alloc tZ_110 ?_)
  intro w2 e2 z2 b2
  replace b2 : Blk w2 w1.heap.size #[(.pointer none), (.slice none 0 0)] 110 := b2
  refine xl_nil ?_
  refine xc_seq ?_
  refine xc_seq ?_
  refine xc_region ?_
  refine xl_op (P := Tryz.prog) (some 7) rfl rfl (ox_load (v := (.pointer (some ⟨ba, 0, none⟩))) tA_28 rfl ((b1.ext e2).cell rfl) ?_)
  refine xl_op (P := Tryz.prog) (some 8) rfl rfl (ox_callE (al := [(.pointer (some ⟨ba, 0, none⟩))]) pf_31 rfl (ret_mono (all_calls ba w2) ?_))
  rintro _ w3 ⟨bx, rfl, hbx, hbxe, e3⟩
  have he3 := e3.size
  have hbxl := hbx.lt
  refine xl_nil ?_
  refine xc_block ?_
  have x1 : Ext w w3 := (Ext.trans (Ext.trans e1 e2) e3)
  obtain ⟨bb, hbbe⟩ : ∃ b, b = w1.heap.size := ⟨_, rfl⟩
  have hbb : Blk w3 bb #[.pointer none, .slice none 0 0] 110 := by rw [hbbe]; exact (b2.ext e3)
  have hbbl := hbb.lt
  have hEr : Ext w w3 := x1
  have hErs := hEr.size
  have hBX : ∀ b, b = bx → w.heap.size ≤ b ∧ b < w3.heap.size := fun b hb => by rw [hb]; omega
  have hit := all_iter (X := fun b => b = bx) (B := w.heap.size) hbx hA (Nat.le_refl _) (Ext.to hEr) (.inl rfl) hBX hErs
  have hI0 : PrI w bb w.heap.size ba st [] (fun b => b = bx) w3 := ⟨none, 0, ⟨⟨_, .inl rfl, hbb⟩, Vx.Own.nil _ _ _⟩, (fun k hk => by simp [Value.ownBlock] at hk), ((b1.ext e2).ext e3), by show ¬ (bb = bx); omega, by show ¬ (w.heap.size = bx); omega, hEr, fun b hb => by rw [hb]; omega⟩
  refine xc_rangeE (ps := #[9, 10]) (α := Nat) (gf := 54) (lb := #[.pointer (some ⟨bx, 0, none⟩)]) (R := allR st) (B := w.heap.size) (X0 := fun b => b = bx) (xs := List.range st.length) rfl pf_54 allR_size allR_cells hit hErs hBX (PrI w bb w.heap.size ba st) (fun _ _ _ _ => False) prI_stab (fun _ _ _ _ _ _ _ h => h.elim) hI0 ?_ ?_ ?_
  · intro l₁ pre₁ x₁ as₁ Y W hpre hY hYl hl₁ hRx hRX hI
    obtain ⟨Ak, ck, rfl, hok⟩ := hRx
    have hx1 := range_pre hpre
    have hxl : x₁ < st.length := hx1.2
    obtain ⟨xn, hxn⟩ := get_ex hxl
    refine xc_region ?_
    refine xl_op (P := Tryz.prog) (some 4) rfl rfl (ox_assign (v := (.int .i64 ((x₁ : Nat)))) rfl ?_)
    refine xl_nil ?_
    refine ⟨rfl, rfl, Chg.refl _ _, fun W2 hcY hsY hlY => ?_⟩
    have hszY := hcY.size
    have hI2 := prI_stab _ _ _ _ _ hY hI hcY (fun b hb => .inl hb)
    obtain ⟨A0, c0, hb0, hlow0, hbb1, hYb, hYb1, hEx2, hYw⟩ := hI2
    have hE2s := hEx2.size
    have hbbl2 := hb0.lt
    have hbbw : w.heap.size ≤ bb := by omega
    obtain ⟨o0, ho0⟩ : ∃ o : Nat → Prop, o = (fun k => (Value.slice A0 (linesS st pre₁).length c0).ownBlock = some k) := ⟨_, rfl⟩
    have hG0 : PrR w.heap.size bb W2 o0 (linesS st pre₁) W2 := ⟨A0, c0, hb0, fun k hk => (hlow0 k hk).2, fun k hk => .inl (by rw [ho0]; exact hk), hbbw, Chg.refl _ _⟩
    have hprl : (linesS st pre₁).length ≤ x₁ * 11431000000 := by rw [hx1.1]; exact lines_len haut (by omega)
    have hst2 : st.length ≤ 1025 := haut.few
    have hx1m : x₁ * 11431000000 ≤ 1025 * 11431000000 := Nat.mul_le_mul_right _ (by omega)
    refine xc_block ?_
    refine xc_seq ?_
    refine xc_regionE [5, 6, 9] (fun W_ => Chg (fun _ => False) W2 W_) hmix ?_
    intro w4 e4 z3
    have hS1 : Chg (fun _ => False) W2 w4 := Ext.to e4
    refine xd_pure 0 (some 11) rfl rfl (by kernel_rfl) (v := (.int .i64 ((x₁ : Nat)))) (.inl ⟨rfl, fun W_ hW_ => ox_move (v := (.int .i64 ((x₁ : Nat)))) rfl ⟨rfl, rfl⟩⟩) ?_
    refine xd_takeU 3 (some 14) [5, 6, 7, 9, 8] rfl rfl (by kernel_rfl) (v := (.pointer (some ⟨ba, 0, none⟩))) (.inl ⟨rfl, fun W_ hW_ => ox_load (v := (.pointer (some ⟨ba, 0, none⟩))) tA_28 rfl ((hbb1.ext hW_).cell rfl) ⟨rfl, rfl⟩⟩) hS1 ?_
    refine xd_pure 4 (some 15) rfl rfl (by kernel_rfl) (v := (.int .i64 ((x₁ : Nat)))) (.inl ⟨rfl, fun W_ hW_ => ox_move (v := (.int .i64 ((x₁ : Nat)))) rfl ⟨rfl, rfl⟩⟩) ?_
    have hil_e5 := Lib.itoa_length_le ((x₁ : Nat)) (by omega) (by omega)
    have x2 : Ext w w4 := (Ext.trans hEx2 e4)
    refine xd_one 1 (some 12) rfl rfl (by kernel_rfl) rfl (ox_callE (al := [(.int .i64 ((x₁ : Nat)))]) pf_56 rfl (ret_mono (itoa_calls ((x₁ : Nat)) w4 (by omega) (by omega) (TabIs.ext hT x2)) ?_))
    rintro _ w5 ⟨rfl, e5⟩
    have he5 := e5.size
    have hS2 : Chg (fun _ => False) W2 w5 := Chg.ext hS1 e5
    refine ⟨.inr fun _ => hS2, ?_⟩
    refine xd_pure 2 (some 13) rfl rfl (by kernel_rfl) (v := (.string (⟨(Lib.itoa ((x₁ : Nat)) ++ [58]).toArray⟩))) (.inl ⟨rfl, fun W_ hW_ => ox_addL (l := (Lib.itoa ((x₁ : Nat)))) (m := ([58])) rfl rfl (by simp only [List.length_append, List.length_cons, List.length_nil]; omega) ⟨rfl, rfl⟩⟩) ?_
    have x3 : Ext w w5 := (Ext.trans x2 e5)
    refine xd_one 5 (some 16) rfl rfl (by kernel_rfl) rfl (ox_callE (al := [(.pointer (some ⟨ba, 0, none⟩)), (.int .i64 ((x₁ : Nat)))]) pf_25 rfl (ret_mono (autx_kern (hA.ext x3) ((x₁ : Nat))) ?_))
    rintro _ w6 ⟨A1, c1, rfl, hn1, e6⟩
    have he6 := e6.size
    refine ⟨.inl (by decide), ?_⟩
    have hwl_e7 : (wkey (kernS st ((x₁ : Nat)))).length ≤ 67240962 * 45 := line_key haut hxn
    have x4 : Ext w w6 := (Ext.trans x3 e6)
    refine xd_one 6 (some 17) rfl rfl (by kernel_rfl) rfl (ox_callE (al := [(.slice A1 ((kernS st ((x₁ : Nat))).length) c1)]) pf_57 rfl (ret_mono (write_calls (kernS st ((x₁ : Nat))) A1 c1 w6 (Own.rowO hn1.1) (line_len haut hxn) (line_small haut hxn) (TabIs.ext hT x4)) ?_))
    rintro _ w7 ⟨rfl, e7⟩
    have he7 := e7.size
    refine ⟨.inl (by decide), ?_⟩
    refine xd_pure 7 (some 18) rfl rfl (by kernel_rfl) (v := (.string (⟨(Lib.itoa ((x₁ : Nat)) ++ [58] ++ wkey (kernS st ((x₁ : Nat)))).toArray⟩))) (.inl ⟨rfl, fun W_ hW_ => ox_addL (l := (Lib.itoa ((x₁ : Nat)) ++ [58])) (m := (wkey (kernS st ((x₁ : Nat))))) rfl rfl (by simp only [List.length_append, List.length_cons, List.length_nil]; omega) ⟨rfl, rfl⟩⟩) ?_
    refine xd_pure 8 (some 19) rfl rfl (by kernel_rfl) (v := (.string (⟨(Lib.itoa ((x₁ : Nat)) ++ [58] ++ wkey (kernS st ((x₁ : Nat))) ++ [32, 124]).toArray⟩))) (.inl ⟨rfl, fun W_ hW_ => ox_addL (l := (Lib.itoa ((x₁ : Nat)) ++ [58] ++ wkey (kernS st ((x₁ : Nat))))) (m := ([32, 124])) rfl rfl (by simp only [List.length_append, List.length_cons, List.length_nil]; omega) ⟨rfl, rfl⟩⟩) ?_
    have q1 := (PrR.ext (PrR.ext (PrR.ext hG0 e4) e5) e6)
    refine xd_one 9 (some 20) rfl rfl (by kernel_rfl) rfl (ox_callE (al := [(.pointer (some ⟨bb, 0, none⟩)), (.string (⟨(Lib.itoa ((x₁ : Nat)) ++ [58] ++ wkey (kernS st ((x₁ : Nat))) ++ [32, 124]).toArray⟩))]) pf_55 (cons_eq (by rw [hbbe]; exact rfl) (cons_eq rfl rfl)) (ret_mono (prStr (PrR.ext q1 e7) (by show _ + (List.toArray _).size ≤ _; rw [List.size_toArray]; simp only [List.length_append, List.length_cons, List.length_nil]; omega) (by omega)) ?_))
    rintro _ w8 ⟨rfl, hb1, y1⟩
    have hy1 := y1.size
    refine ⟨.inl (by decide), ?_⟩
    refine xd_done (by kernel_rfl) ?_ _
    refine xc_seq ?_
    refine xc_seq ?_
    refine xc_region ?_
    have q2 := (((((hbb1.ext e4).ext e5).ext e6).ext e7).keep y1 (KBB.ne ((((hbb1.ext e4).ext e5).ext e6).ext e7) (by omega) (by decide)))
    refine xl_op (P := Tryz.prog) (some 21) rfl rfl (ox_load (v := (.pointer (some ⟨ba, 0, none⟩))) tA_28 rfl (q2.cell rfl) ?_)
    refine xl_op (P := Tryz.prog) (some 22) rfl rfl (ox_nilCheck (p := ⟨ba, 0, none⟩) rfl ?_)
    refine xl_op (P := Tryz.prog) (some 23) rfl rfl (ox_fieldAddr (b := ba) (o := 0) tF_97_1 rfl ?_)
    have q3 := ((((hR.ba.ext hEx2).ext e4).ext e5).ext e6)
    have q4 := ((q3.ext e7).keep y1 (KBB.ne (q3.ext e7) (by omega) (by decide)))
    refine xl_op (P := Tryz.prog) (some 24) rfl rfl (ox_load (v := (.slice sA sts.length sc)) tA_95 rfl (q4.cell rfl) ?_)
    refine xl_op (P := Tryz.prog) (some 25) rfl rfl (ox_move (v := (.int .i64 ((x₁ : Nat)))) rfl ?_)
    have x5 : Ext w w8 := (Chg.trans (Ext.trans x4 e7) y1 (fun b hb hl => absurd hl (by have _h := hb.1; omega)))
    obtain ⟨x_1, g_1, o_1, hx_1⟩ := row_may (A := sA) (cs := StD.cs) x₁ StD.len (by decide) (RowA.ext hR.st.rowO x5)
    obtain ⟨hx_2, hA_1, hc_1⟩ := hx_1 (by first | omega | (simp only [List.length_drop, List.length_replicate, List.length_set, List.length_append, List.length_map, List.length_singleton] at *; omega))
    have hb_x_1 := hB _ (List.mem_of_getElem? hx_2)
    refine xl_op (P := Tryz.prog) (some 26) rfl rfl (ox_ixA (b := g_1) (o := o_1) (i := ((x₁ : Nat))) x₁ tE_95 hA_1 rfl rfl rfl (by omega) ?_)
    refine xl_op (P := Tryz.prog) (some 27) rfl rfl (ox_fieldAddr (b := g_1) (o := (o_1 + x₁ * 6)) tF_94_2 rfl ?_)
    refine xl_op (P := Tryz.prog) (some 28) rfl rfl (ox_load (v := (.slice x_1.aA x_1.arcs.length x_1.ac)) tA_92 rfl (CellsL.at1 hc_1 2 rfl) ?_)
    refine xl_op (P := Tryz.prog) (some 29) rfl rfl (ox_len (A := x_1.aA) (n := x_1.arcs.length) (cp := x_1.ac) rfl tU_92 rfl ?_)
    refine xl_op (P := Tryz.prog) (some 30) rfl rfl (ox_move (v := (.int .i64 0)) rfl ?_)
    refine xl_nil ?_
    refine xc_block ?_
    have hxd : x_1.arcs = xn.arcs := by have h9 := map_get (f := StD.d) hx_2; rw [hd, hxn] at h9; exact (congrArg ASt.arcs (Option.some.inj h9)).symm
    have hal : x_1.arcs.length ≤ 67240962 := by rw [hxd]; exact (haut.lens xn (List.mem_of_getElem? hxn)).2
    refine xc_loopN (fun m_ f_ Wx => ∃ (k : Nat), m_ = x_1.arcs.length - k ∧ (k ≤ x_1.arcs.length) ∧ f_ 2 = (.string (⟨#[]⟩)) ∧ f_ 3 = (.pointer (some ⟨bb, 0, none⟩)) ∧ f_ 28 = (.slice x_1.aA x_1.arcs.length x_1.ac) ∧ f_ 29 = (.int .i64 (((x_1.arcs.length : Nat) : Int))) ∧ f_ 30 = (.int .i64 ((k : Nat))) ∧ (PrR w.heap.size bb W2 o0 (linesS st pre₁ ++ (Lib.itoa ((x₁ : Nat)) ++ [58] ++ wkey (kernS st ((x₁ : Nat))) ++ [32, 124]) ++ (x_1.arcs.take k).flatMap arcTx) Wx) ∧ (bb < Wx.heap.size ∧ W2.heap.size ≤ Wx.heap.size) ∧ Blk Wx w.heap.size #[(.pointer (some ⟨ba, 0, none⟩))] 28 ∧ Ext w Wx) (x_1.arcs.length) ?_ ?_
    · exact ⟨0, (by omega), (by omega), rfl, (by rw [hbbe]; exact rfl), rfl, rfl, (by first | exact rfl | exact (congrArg (Value.int .i64) (by omega))), (by rw [List.take_zero, List.flatMap_nil, List.append_nil]; exact hb1), (by omega), q2, x5⟩
    · rintro m_ f1 w9 ⟨k, hm_f1, hk, g2_f1, g3_f1, g28_f1, g29_f1, g30_f1, t0_f1, t1_f1, c0_f1, x6⟩
      have hx6 := x6.size
      have hfl := arcTx_len haut hxn (l := x_1.arcs.take k) (fun a ha => by rw [← hxd]; exact List.mem_of_mem_take ha)
      have htl : (x_1.arcs.take k).length ≤ k := by rw [List.length_take]; omega
      refine xc_seq ?_
      refine xc_region ?_
      refine xl_op (P := Tryz.prog) (some 31) rfl rfl (ox_lss (k := .i64) (a := ((k : Nat))) (b := (((x_1.arcs.length : Nat) : Int))) g30_f1 g29_f1 ?_)
      refine xl_nil ?_
      refine xc_seq ?_
      refine xc_if (p := ((k : Nat) : Int) < (((x_1.arcs.length : Nat) : Int))) rfl (fun h1 => ?_) (fun h1 => ?_)
      · skip
        refine xc_skip ?_
        refine xc_seq ?_
        refine xc_block ?_
        refine xc_seq ?_
        refine xc_region ?_
        obtain ⟨x_2, g_2, o_2, hx_3⟩ := row_may (A := x_1.aA) (cs := Arc.cs) k Arc.len (by decide) (RowA.ext ((StF.at hR.F hx_2).arcs.rowO) x6)
        obtain ⟨hx_4, hA_2, hc_2⟩ := hx_3 (by first | omega | (simp only [List.length_drop, List.length_replicate, List.length_set, List.length_append, List.length_map, List.length_singleton] at *; omega))
        refine xl_op (P := Tryz.prog) (some 32) rfl rfl (ox_ixA (b := g_2) (o := o_2) (i := ((k : Nat))) k tE_92 hA_2 g28_f1 g30_f1 rfl (by omega) ?_)
        refine xl_op (P := Tryz.prog) (some 33) rfl rfl (ox_loadN (vs := [(.int .i64 x_2.sym.kind), (.int .i64 x_2.sym.n), (.int .i64 x_2.to)]) tA_101 tS_101 rfl rfl hc_2 ?_)
        refine xl_op (P := Tryz.prog) (some 6) rfl rfl (ox_alloc tZ_101 ?_)
        intro w10 e8 z4 b3
        replace b3 : Blk w10 w9.heap.size #[(.int .i64 0), (.int .i64 0), (.int .i64 0)] 101 := b3
        refine xl_op (P := Tryz.prog) none rfl rfl (ox_store (n := 3) (vs := [(.int .i64 x_2.sym.kind), (.int .i64 x_2.sym.n), (.int .i64 x_2.to)]) tS_101 rfl (v := (.agg #[(.int .i64 x_2.sym.kind), (.int .i64 x_2.sym.n), (.int .i64 x_2.to)])) rfl rfl rfl rfl b3 (Nat.le_of_ble_eq_true rfl) ?_)
        intro w11 e9 z5 b4
        replace b4 : Blk w11 w9.heap.size #[(.int .i64 x_2.sym.kind), (.int .i64 x_2.sym.n), (.int .i64 x_2.to)] 101 := blk_full b4 rfl
        refine xl_nil ?_
        refine xc_regionE [7, 9] (fun W_ => Chg (fun _ => False) w11 W_) hmix ?_
        intro w12 e10 z6
        have hS3 : Chg (fun _ => False) w11 w12 := Ext.to e10
        refine xd_pure 0 (some 34) rfl rfl (by kernel_rfl) (v := (.pointer (some ⟨w9.heap.size, 0, none⟩))) (.inl ⟨rfl, fun W_ hW_ => ox_fieldAddr (b := w9.heap.size) (o := 0) tF_101_0 rfl ⟨rfl, rfl⟩⟩) ?_
        refine xd_takeU 1 (some 35) [2, 3, 7, 4, 8, 9] rfl rfl (by kernel_rfl) (v := (.agg #[(.int .i64 x_2.sym.kind), (.int .i64 x_2.sym.n)])) (.inl ⟨rfl, fun W_ hW_ => ox_loadN (vs := [(.int .i64 x_2.sym.kind), (.int .i64 x_2.sym.n)]) tA_32 tS_32 rfl rfl ⟨(b4.ext hW_).cell rfl, (b4.ext hW_).cell rfl, trivial⟩ ⟨rfl, rfl⟩⟩) hS3 ?_
        refine xd_pure 5 (some 39) rfl rfl (by kernel_rfl) (v := (.pointer (some ⟨w9.heap.size, 2, none⟩))) (.inl ⟨rfl, fun W_ hW_ => ox_fieldAddr (b := w9.heap.size) (o := 0) tF_101_1 rfl ⟨rfl, rfl⟩⟩) ?_
        refine xd_takeU 6 (some 40) [7, 8, 9] rfl rfl (by kernel_rfl) (v := (.int .i64 x_2.to)) (.inl ⟨rfl, fun W_ hW_ => ox_load (v := (.int .i64 x_2.to)) tA_3 rfl ((b4.ext hW_).cell rfl) ⟨rfl, rfl⟩⟩) hS3 ?_
        have hsm : (-1 ≤ x_2.sym.n ∧ x_2.sym.n ≤ 1000000) ∧ (0 ≤ x_2.to ∧ x_2.to ≤ 100000000000) := arc_small haut hxn (by rw [← hxd]; exact List.mem_of_getElem? hx_4)
        have hll := letterS_len (⟨x_2.sym.kind, x_2.sym.n⟩ : Sym) hsm.1
        have x7 : Ext w w12 := (Ext.trans (Ext.chg1 (Ext.trans x6 e8) e9 (by omega)) e10)
        refine xd_one 2 (some 36) rfl rfl (by kernel_rfl) rfl (ox_callE (al := [(.agg #[(.int .i64 x_2.sym.kind), (.int .i64 x_2.sym.n)])]) pf_58 rfl (ret_mono (letter_calls (⟨x_2.sym.kind, x_2.sym.n⟩ : Sym) w12 (TabIs.ext hT x7) ⟨by show -9223372036854775808 ≤ x_2.sym.n; omega, by show x_2.sym.n ≤ 9223372036854775807; omega⟩) ?_))
        rintro _ w13 ⟨rfl, e11⟩
        have he11 := e11.size
        have hS4 : Chg (fun _ => False) w11 w13 := Chg.ext hS3 e11
        refine ⟨.inr fun _ => hS4, ?_⟩
        refine xd_pure 3 (some 37) rfl rfl (by kernel_rfl) (v := (.string (⟨([32] ++ letterS (⟨x_2.sym.kind, x_2.sym.n⟩ : Sym)).toArray⟩))) (.inl ⟨rfl, fun W_ hW_ => ox_addL (l := ([32])) (m := (letterS (⟨x_2.sym.kind, x_2.sym.n⟩ : Sym))) rfl rfl (by simp only [List.length_append, List.length_cons, List.length_nil]; omega) ⟨rfl, rfl⟩⟩) ?_
        refine xd_pure 4 (some 38) rfl rfl (by kernel_rfl) (v := (.string (⟨([32] ++ letterS (⟨x_2.sym.kind, x_2.sym.n⟩ : Sym) ++ [62]).toArray⟩))) (.inl ⟨rfl, fun W_ hW_ => ox_addL (l := ([32] ++ letterS (⟨x_2.sym.kind, x_2.sym.n⟩ : Sym))) (m := ([62])) rfl rfl (by simp only [List.length_append, List.length_cons, List.length_nil]; omega) ⟨rfl, rfl⟩⟩) ?_
        have hil_e12 := Lib.itoa_length_le x_2.to (by omega) (by omega)
        have x8 : Ext w w13 := (Ext.trans x7 e11)
        refine xd_one 7 (some 41) rfl rfl (by kernel_rfl) rfl (ox_callE (al := [(.int .i64 x_2.to)]) pf_56 rfl (ret_mono (itoa_calls x_2.to w13 (by omega) (by omega) (TabIs.ext hT x8)) ?_))
        rintro _ w14 ⟨rfl, e12⟩
        have he12 := e12.size
        refine ⟨.inl (by decide), ?_⟩
        refine xd_pure 8 (some 42) rfl rfl (by kernel_rfl) (v := (.string (⟨([32] ++ letterS (⟨x_2.sym.kind, x_2.sym.n⟩ : Sym) ++ [62] ++ Lib.itoa x_2.to).toArray⟩))) (.inl ⟨rfl, fun W_ hW_ => ox_addL (l := ([32] ++ letterS (⟨x_2.sym.kind, x_2.sym.n⟩ : Sym) ++ [62])) (m := (Lib.itoa x_2.to)) rfl rfl (by simp only [List.length_append, List.length_cons, List.length_nil]; omega) ⟨rfl, rfl⟩⟩) ?_
        have q5 := (PrR.chg1 (PrR.ext t0_f1 e8) e9 b3 (by omega) (by omega) (by decide))
        have q6 := (PrR.ext (PrR.ext (PrR.ext q5 e10) e11) e12)
        refine xd_one 9 (some 43) rfl rfl (by kernel_rfl) rfl (ox_callE (al := [(.pointer (some ⟨bb, 0, none⟩)), (.string (⟨([32] ++ letterS (⟨x_2.sym.kind, x_2.sym.n⟩ : Sym) ++ [62] ++ Lib.itoa x_2.to).toArray⟩))]) pf_55 (cons_eq g3_f1 (cons_eq rfl rfl)) (ret_mono (prStr q6 (by show _ + (List.toArray _).size ≤ _; rw [List.size_toArray]; simp only [List.length_append, List.length_cons, List.length_nil]; omega) (by omega)) ?_))
        rintro _ w15 ⟨rfl, hb2, y2⟩
        have hy2 := y2.size
        refine ⟨.inl (by decide), ?_⟩
        refine xd_done (by kernel_rfl) ?_ _
        refine xc_region ?_
        refine xl_op (P := Tryz.prog) (some 44) rfl rfl (ox_add64 (a := ((k : Nat))) (b := 1) g30_f1 rfl (by omega) ?_)
        refine xl_op (P := Tryz.prog) (some 30) rfl rfl (ox_move (v := (.int .i64 ((k : Nat) + 1))) rfl ?_)
        refine xl_nil ?_
        have q7 := ((c0_f1.ext e8).keep1 e9 ((c0_f1.ext e8).ne b3 (by decide)))
        have q8 := ((((q7.ext e10).ext e11).ext e12).keep y2 (KBB.ne (((q7.ext e10).ext e11).ext e12) (by omega) (by decide)))
        have x9 : Ext w w15 := (Chg.trans (Ext.trans x8 e12) y2 (fun b hb hl => absurd hl (by have _h := hb.1; omega)))
        exact ⟨rfl, x_1.arcs.length - (k + 1), by omega, k + 1, by omega, (by omega), g2_f1, g3_f1, g28_f1, g29_f1, (by first | exact rfl | exact (congrArg (Value.int .i64) (by omega))), (by have h9 := hb2; rw [arcs_next hx_4]; simp only [List.append_assoc] at h9 ⊢; exact h9), (by omega), q8, x9⟩
      · skip
        refine xc_exit ?_
        refine xc_region ?_
        refine xl_op (P := Tryz.prog) (some 45) rfl rfl (ox_callE (al := [(.pointer (some ⟨bb, 0, none⟩)), (.int .u8 10)]) pf_59 (cons_eq g3_f1 (cons_eq rfl rfl)) (ret_mono ((by have h9 := prByte (x := (10 : UInt8)) t0_f1 (by simp only [List.length_append, List.length_cons, List.length_nil]; omega) (by omega); exact h9)) ?_))
        rintro _ w16 ⟨rfl, hb3, y3⟩
        have hy3 := y3.size
        refine xl_nil ?_
        obtain ⟨A9, c9, hb9, hlow9, ho9, _, hc9⟩ := hb3
        have hln : linesS st pre₁ ++ (Lib.itoa ((x₁ : Nat)) ++ [58] ++ wkey (kernS st ((x₁ : Nat))) ++ [32, 124]) ++ (x_1.arcs.take k).flatMap arcTx ++ [(10 : UInt8)] = linesS st (pre₁ ++ [x₁]) := by rw [linesS_snoc, lineS, bangA hxn, ← hxd]; simp only [List.take_of_length_le (Nat.le_refl _), List.append_assoc, List.take_of_length_le (show x_1.arcs.length ≤ k by omega)]
        rw [hln] at hb9 hlow9 ho9
        have hc9s := hc9.size
        have hoY : ∀ k, o0 k → ¬ Y k ∧ w.heap.size ≤ k := fun k hk => by rw [ho0] at hk; exact hlow0 k hk
        have q9 := (c0_f1.keep y3 (KBB.ne c0_f1 (by omega) (by decide)))
        have x10 : Ext w w16 := (Chg.trans x6 y3 (fun b hb hl => absurd hl (by have _h := hb.1; omega)))
        refine ⟨hc9.mono fun b hbl hb => ?_, A9, c9, hb9, fun k hk => ⟨?_, hlow9 k hk⟩, q9, hYb, hYb1, x10, fun b hb => hYw b hb⟩
        · rcases hb with rfl | hb | hb
          · exact ⟨hYb, hbbw⟩
          · exact hoY b hb
          · omega
        · rcases ho9 k hk with h9 | h9
          · exact (hoY k h9).1
          · intro hyk; have := (hY k hyk).2; omega
  · intro D Y W hD hY hYD hI hheap
    obtain ⟨A0, c0, hb0, hlow0, hbb1, hYb, hYb1, hEx2, hYw⟩ := hI
    have hE2s := hEx2.size
    refine xc_seq ?_
    refine xc_region ?_
    refine xl_op (P := Tryz.prog) (some 46) rfl rfl (ox_callE (al := [(.pointer (some ⟨bb, 0, none⟩))]) pf_60 (cons_eq (by rw [hbbe]; exact rfl) rfl) (ret_mono (strA (b := bb) hb0 (printS_ne haut)) ?_))
    rintro _ w17 ⟨rfl, y4⟩
    have hy4 := y4.size
    refine xl_op (P := Tryz.prog) (some 2) rfl rfl (ox_assign (v := (.string (⟨(printS st).toArray⟩))) rfl ?_)
    refine xl_nil ?_
    refine xc_ret ?_
    change leaves _ _ _ _ _ _ _
    have hD9 : w17.heap[D]? = some (.deferred (some [])) := (y4.keep D (Array.getElem?_eq_some_iff.1 hheap).1 (fun h9 => by obtain ⟨cs9, h8⟩ := own_type hb0.own h9; rw [hheap] at h8; cases h8)).trans hheap
    refine leaves_marks [D] _ (fun D' hD' => by simp at hD'; subst hD'; exact hD9) (by simp) (fun w9 hc9 hs9 => ?_)
    refine leaves_nil (n := 47) (rs := [.tmp 2]) (vs := [(.string (⟨(printS st).toArray⟩))]) rfl ⟨⟨by decide, rfl⟩, trivial⟩ ?_
    have x11 : Ext w w9 := (Chg.trans (Chg.trans hEx2 y4 (fun b hb hl => absurd hl (by have _h := (hlow0 b hb).2; omega))) hc9 (fun b hb hl => absurd hl (by have _h := (show w.heap.size ≤ b from by simp at hb; omega); omega)))
    exact ⟨rfl, x11⟩
  · intro D Y c pre W hD hY hYD hpre hI hheap; exact hI.elim
end Go.Proofs.YtnnmdkglgnlenaaGreatDoor
set_option linter.unusedVariables false
set_option linter.unusedSimpArgs false
set_option maxRecDepth 100000
set_option maxHeartbeats 4000000
namespace Go.Proofs.YtnnmdkglgnlenaaGreatDoor
open Go Go.RowKit Go.Vx
theorem pf_32 : plainF Tryz.prog 32 = true := by kernel_rfl
theorem pf_33 : plainF Tryz.prog 33 = true := by kernel_rfl
theorem tG_26_2 : fieldTT Tryz.prog 26 2 = some (3, 2) := by kernel_rfl
theorem blind_calls (s : SP) (nl : List ByteArray) (nA : Option Addr) (nc : Nat) (o : SP) (w : World) (hS : SpR w s) (hN : RowA w nA (nl.flatMap strs)) (hnl : nl.length ≤ 8796093022208) (hO : SpR w o) (hT : TabP w) :
    Calls Tryz.prog 6 #[(.agg #[(.slice s.lA s.lex.length s.lc), (.slice s.nA s.names.length s.nc), (.int .i64 s.start), (.slice s.pA s.prods.length s.pc)]), (.slice nA nl.length nc), (.agg #[(.slice o.lA o.lex.length o.lc), (.slice o.nA o.names.length o.nc), (.int .i64 o.start), (.slice o.pA o.prods.length o.pc)])] w (Ret (fun v w' => v = .bool true ∧ Ext w w')) := by
  refine calls_xc (n := 126) (f := fun s_ => [(.agg #[(.slice s.lA s.lex.length s.lc), (.slice s.nA s.names.length s.nc), (.int .i64 s.start), (.slice s.pA s.prods.length s.pc)]), (.slice nA nl.length nc), (.agg #[(.slice o.lA o.lex.length o.lc), (.slice o.nA o.names.length o.nc), (.int .i64 o.start), (.slice o.pA o.prods.length o.pc)])].getD s_ undef) Tryz.func6 rfl rfl (by simp) (fun s_ => by simp) ?_
  refine xc_seq ?_
  refine xc_region ?_
  refine xl_op (P := Tryz.prog) (some 3) rfl rfl (ox_box (v := (.agg #[(.slice s.lA s.lex.length s.lc), (.slice s.nA s.names.length s.nc), (.int .i64 s.start), (.slice s.pA s.prods.length s.pc)])) rfl ?_)
  intro w1 e1 z1 b1
  replace b1 : Blk w1 w.heap.size #[(.slice s.lA s.lex.length s.lc), (.slice s.nA s.names.length s.nc), (.int .i64 s.start), (.slice s.pA s.prods.length s.pc)] 26 := b1
  refine xl_op (P := Tryz.prog) (some 5) rfl rfl (ox_box (v := (.agg #[(.slice o.lA o.lex.length o.lc), (.slice o.nA o.names.length o.nc), (.int .i64 o.start), (.slice o.pA o.prods.length o.pc)])) rfl ?_)
  intro w2 e2 z2 b2
  replace b2 : Blk w2 w1.heap.size #[(.slice o.lA o.lex.length o.lc), (.slice o.nA o.names.length o.nc), (.int .i64 o.start), (.slice o.pA o.prods.length o.pc)] 26 := b2
  refine xl_op (P := Tryz.prog) (some 6) rfl rfl (ox_assign (v := (.bool false)) rfl ?_)
  refine xl_nil ?_
  refine xc_seq ?_
  refine xc_region ?_
  refine xl_op (P := Tryz.prog) (some 14) rfl rfl (ox_loadN (vs := [(.slice s.lA s.lex.length s.lc), (.slice s.nA s.names.length s.nc), (.int .i64 s.start), (.slice s.pA s.prods.length s.pc)]) tA_26 tS_26 rfl rfl ⟨(b1.ext e2).cell rfl, (b1.ext e2).cell rfl, (b1.ext e2).cell rfl, (b1.ext e2).cell rfl, trivial⟩ ?_)
  have x1 : Ext w w2 := (Ext.trans e1 e2)
  refine xl_op (P := Tryz.prog) (some 15) rfl rfl (ox_callE (al := [(.agg #[(.slice s.lA s.lex.length s.lc), (.slice s.nA s.names.length s.nc), (.int .i64 s.start), (.slice s.pA s.prods.length s.pc)])]) pf_9 rfl (ret_mono (built_calls2 s w2 (hS.ext x1) (TabIs.ext hT x1)) ?_))
  rintro _ w3 ⟨p1, rfl, e3, hb1⟩
  have he3 := e3.size
  refine xl_op (P := Tryz.prog) (some 7) rfl rfl (ox_assign (v := (.pointer p1)) rfl ?_)
  refine xl_nil ?_
  refine xc_seq ?_
  refine xc_region ?_
  refine xl_op (P := Tryz.prog) (some 16) rfl rfl (ox_loadN (vs := [(.slice s.lA s.lex.length s.lc), (.slice s.nA s.names.length s.nc), (.int .i64 s.start), (.slice s.pA s.prods.length s.pc)]) tA_26 tS_26 rfl rfl ⟨((b1.ext e2).ext e3).cell rfl, ((b1.ext e2).ext e3).cell rfl, ((b1.ext e2).ext e3).cell rfl, ((b1.ext e2).ext e3).cell rfl, trivial⟩ ?_)
  have x2 : Ext w w3 := (Ext.trans x1 e3)
  refine xl_op (P := Tryz.prog) (some 17) rfl rfl (ox_callE (al := [(.agg #[(.slice s.lA s.lex.length s.lc), (.slice s.nA s.names.length s.nc), (.int .i64 s.start), (.slice s.pA s.prods.length s.pc)])]) pf_30 rfl (ret_mono (lend_calls s w3 (hS.ext x2)) ?_))
  rintro _ w4 ⟨s_1, rfl, hL_, e4⟩
  have he4 := e4.size
  have x3 : Ext w w4 := (Ext.trans x2 e4)
  have hLs_ : SpR w4 s_1 := LendR.spr hL_ (hS.ext x3)
  have hLl := hL_.lexL
  have hLn : s_1.names.length = s.names.length := by rw [hL_.names]
  have hLp := hL_.prodsL
  have hLz := hLs_.fl.2
  have hLy := hLs_.fn.2
  refine xl_op (P := Tryz.prog) (some 8) rfl rfl (ox_alloc tZ_26 ?_)
  intro w5 e5 z3 b3
  replace b3 : Blk w5 w4.heap.size #[(.slice none 0 0), (.slice none 0 0), (.int .i64 0), (.slice none 0 0)] 26 := b3
  refine xl_op (P := Tryz.prog) none rfl rfl (ox_store (n := 4) (vs := [(.slice s_1.lA s_1.lex.length s_1.lc), (.slice s_1.nA s_1.names.length s_1.nc), (.int .i64 s_1.start), (.slice s_1.pA s_1.prods.length s_1.pc)]) tS_26 rfl (v := (.agg #[(.slice s_1.lA s_1.lex.length s_1.lc), (.slice s_1.nA s_1.names.length s_1.nc), (.int .i64 s_1.start), (.slice s_1.pA s_1.prods.length s_1.pc)])) rfl rfl rfl rfl b3 (Nat.le_of_ble_eq_true rfl) ?_)
  intro w6 e6 z4 b4
  replace b4 : Blk w6 w4.heap.size #[(.slice s_1.lA s_1.lex.length s_1.lc), (.slice s_1.nA s_1.names.length s_1.nc), (.int .i64 s_1.start), (.slice s_1.pA s_1.prods.length s_1.pc)] 26 := blk_full b4 rfl
  refine xl_nil ?_
  refine xc_seq ?_
  refine xc_seq ?_
  refine xc_region ?_
  refine xl_op (P := Tryz.prog) (some 9) rfl rfl (ox_assign (v := (.int .i64 0)) rfl ?_)
  refine xl_nil ?_
  refine xc_block ?_
  have q1 := ((hL_.lexO.ext e5).keep1 e6 (fun k hk => (hL_.lexO.ext e5).ne_blk b3 (by decide) k hk))
  refine xc_loopN (fun m_ f_ Wx => ∃ (i : Nat) (lx : List LR), m_ = s_1.lex.length - i ∧ (i ≤ s_1.lex.length) ∧ (BlL (s_1.lex ++ [lrMark]) lx i) ∧ f_ 1 = (.slice nA nl.length nc) ∧ f_ 3 = (.pointer (some ⟨w.heap.size, 0, none⟩)) ∧ f_ 5 = (.pointer (some ⟨w1.heap.size, 0, none⟩)) ∧ f_ 6 = (.bool false) ∧ f_ 7 = (.pointer p1) ∧ f_ 8 = (.pointer (some ⟨w4.heap.size, 0, none⟩)) ∧ f_ 9 = (.int .i64 ((i : Nat))) ∧ Vx.Own Wx 66 8 (.slice s_1.lA (s.lex.length + 1) (s.lex.length + 1)) ((s.lex.length + 1)) (lx.flatMap LR.cs) ∧ Chg (fun b => ((.slice s_1.lA (s.lex.length + 1) (s.lex.length + 1)) : Value).ownBlock = some b) w6 Wx) (s_1.lex.length) ?_ ?_
  · exact ⟨0, (s_1.lex ++ [lrMark]), (by omega), (by omega), (BlL.zero _), rfl, rfl, rfl, rfl, rfl, rfl, (by first | exact rfl | exact (congrArg (Value.int .i64) (by omega))), q1, (Chg.refl _ _)⟩
  · rintro m_ f1 w7 ⟨i, lx, hm_f1, hi, hBl, g1_f1, g3_f1, g5_f1, g6_f1, g7_f1, g8_f1, g9_f1, o0_f1, x4⟩
    have hx4 := x4.size
    have hl_lx : lx.length = (s.lex.length + 1) := by have _q := (o0_f1).len; rw [fm_len LR.len] at _q; omega
    refine xc_seq ?_
    refine xc_seq ?_
    refine xc_region ?_
    refine xl_op (P := Tryz.prog) (some 18) rfl rfl (ox_move (v := (.int .i64 ((i : Nat)))) g9_f1 ?_)
    refine xl_op (P := Tryz.prog) (some 19) rfl rfl (ox_fieldAddr (b := w4.heap.size) (o := 0) tF_26_0 g8_f1 ?_)
    have q2 := (b4.keep x4 (fun _h => q1.ne_blk b4 (by decide) _ _h rfl))
    refine xl_op (P := Tryz.prog) (some 20) rfl rfl (ox_load (v := (.slice s_1.lA s_1.lex.length s_1.lc)) tA_22 rfl (q2.cell rfl) ?_)
    refine xl_op (P := Tryz.prog) (some 21) rfl rfl (ox_len (A := s_1.lA) (n := s_1.lex.length) (cp := s_1.lc) rfl tU_22 rfl ?_)
    refine xl_op (P := Tryz.prog) (some 22) rfl rfl (ox_lss (k := .i64) (a := ((i : Nat))) (b := (((s_1.lex.length : Nat) : Int))) rfl rfl ?_)
    refine xl_nil ?_
    refine xc_if (p := ((i : Nat) : Int) < (((s_1.lex.length : Nat) : Int))) rfl (fun h1 => ?_) (fun h1 => ?_)
    · skip
      refine xc_skip ?_
      refine xc_seq ?_
      refine xc_block ?_
      refine xc_seq ?_
      refine xc_region ?_
      refine xl_op (P := Tryz.prog) (some 25) rfl rfl (ox_fieldAddr (b := w4.heap.size) (o := 0) tF_26_0 g8_f1 ?_)
      refine xl_op (P := Tryz.prog) (some 26) rfl rfl (ox_load (v := (.slice s_1.lA s_1.lex.length s_1.lc)) tA_22 rfl (q2.cell rfl) ?_)
      refine xl_op (P := Tryz.prog) (some 27) rfl rfl (ox_move (v := (.int .i64 ((i : Nat)))) g9_f1 ?_)
      refine xl_op (P := Tryz.prog) (some 28) rfl rfl (ox_move (v := (.int .i64 ((i : Nat)))) g9_f1 ?_)
      refine xl_op (P := Tryz.prog) (some 29) rfl rfl (ox_rem (k := .i64) (a := ((i : Nat))) (b := 200) rfl rfl (by omega) ?_)
      refine xl_op (P := Tryz.prog) (some 30) rfl rfl (ox_mkStruct (ps := [(0, (.int .i64 1)), (1, (.int .i64 (((i : Nat) : Int).tmod 200))), (2, (.int .i64 255))]) (cs := #[(.int .i64 1), (.int .i64 (((i : Nat) : Int).tmod 200)), (.int .i64 255), (.int .i64 0), (.int .i64 0), (.slice none 0 0)]) tZ_64 tP_64 rfl (by kernel_rfl) ?_)
      obtain ⟨x_1, g_1, hx_1⟩ := own_may (A := s_1.lA) i LR.len (by decide) o0_f1
      obtain ⟨hx_2, hA_1, hc_1⟩ := hx_1 (by first | omega | (simp only [List.length_drop, List.length_replicate, List.length_set, List.length_append, List.length_map, List.length_singleton] at *; omega))
      refine xl_op (P := Tryz.prog) (some 31) rfl rfl (ox_ixA (b := g_1) (o := 0) (i := ((i : Nat))) i tE_22 hA_1 rfl rfl rfl (by omega) ?_)
      refine xl_op (P := Tryz.prog) (some 32) rfl rfl (ox_fieldAddr (b := g_1) (o := (0 + i * 8)) tF_66_2 rfl ?_)
      refine xl_op (P := Tryz.prog) none rfl rfl (ox_stE (i := i) (off := 2) (vs := [(.int .i64 1), (.int .i64 (((i : Nat) : Int).tmod 200)), (.int .i64 255), (.int .i64 0), (.int .i64 0), (.slice none 0 0)]) (b := ((LR.mk x_1.name x_1.trivia (EX.mk 1 (((i : Nat) : Int).tmod 200) 255 0 0 none 0 [])) : LR)) LR.len tS_64 hA_1 rfl (v := (.agg #[(.int .i64 1), (.int .i64 (((i : Nat) : Int).tmod 200)), (.int .i64 255), (.int .i64 0), (.int .i64 0), (.slice none 0 0)])) rfl rfl rfl rfl o0_f1 hx_2 rfl (by decide) (by omega) ?_)
      intro w8 e7 z5 o1
      refine xl_nil ?_
      refine xc_seq ?_
      refine xc_region ?_
      refine xl_op (P := Tryz.prog) (some 33) rfl rfl (ox_move (v := (.int .i64 ((i : Nat)))) g9_f1 ?_)
      refine xl_op (P := Tryz.prog) (some 34) rfl rfl (ox_move (v := (.slice nA nl.length nc)) g1_f1 ?_)
      refine xl_op (P := Tryz.prog) (some 35) rfl rfl (ox_len (A := nA) (n := nl.length) (cp := nc) rfl tU_23 rfl ?_)
      refine xl_op (P := Tryz.prog) (some 36) rfl rfl (ox_lss (k := .i64) (a := ((i : Nat))) (b := (((nl.length : Nat) : Int))) rfl rfl ?_)
      refine xl_nil ?_
      refine xc_if (p := ((i : Nat) : Int) < (((nl.length : Nat) : Int))) rfl (fun h2 => ?_) (fun h2 => ?_)
      · skip
        refine xc_regionE [9] (fun W_ => Chg (fun _ => False) w8 W_) hmix ?_
        intro w9 e8 z6
        have hS1 : Chg (fun _ => False) w8 w9 := Ext.to e8
        refine xd_pure 0 (some 37) rfl rfl (by kernel_rfl) (v := (.pointer (some ⟨w4.heap.size, 0, none⟩))) (.inl ⟨rfl, fun W_ hW_ => ox_fieldAddr (b := w4.heap.size) (o := 0) tF_26_0 g8_f1 ⟨rfl, rfl⟩⟩) ?_
        have q3 := (q2.keep e7 (fun _h => o0_f1.ne_blk q2 (by decide) _ _h rfl))
        refine xd_take 1 (some 38) rfl rfl (by kernel_rfl) (v := (.slice s_1.lA s_1.lex.length s_1.lc)) (.inl ⟨rfl, fun W_ hW_ => ox_load (v := (.slice s_1.lA s_1.lex.length s_1.lc)) tA_22 rfl ((q3.ext hW_).cell rfl) ⟨rfl, rfl⟩⟩) hS1 ?_
        refine xd_pure 2 (some 39) rfl rfl (by kernel_rfl) (v := (.int .i64 ((i : Nat)))) (.inl ⟨rfl, fun W_ hW_ => ox_move (v := (.int .i64 ((i : Nat)))) g9_f1 ⟨rfl, rfl⟩⟩) ?_
        refine xd_pure 3 (some 40) rfl rfl (by kernel_rfl) (v := (.slice nA nl.length nc)) (.inl ⟨rfl, fun W_ hW_ => ox_move (v := (.slice nA nl.length nc)) g1_f1 ⟨rfl, rfl⟩⟩) ?_
        refine xd_pure 4 (some 41) rfl rfl (by kernel_rfl) (v := (.int .i64 ((i : Nat)))) (.inl ⟨rfl, fun W_ hW_ => ox_move (v := (.int .i64 ((i : Nat)))) g9_f1 ⟨rfl, rfl⟩⟩) ?_
        have x5 : Ext w w8 := (Chg.trans (Chg.trans (Ext.chg1 (Ext.trans x3 e5) e6 (by omega)) x4 (fun b hb hl => (absurd hl (by have _h := hL_.lowL b hb; omega)))) e7 (fun b hb hl => (absurd hl (by have _h := hL_.lowL b hb; omega))))
        obtain ⟨x_2, g_2, o_2, hx_3⟩ := row_may (A := nA) (cs := strs) i strs_len (by decide) (RowA.ext hN x5)
        obtain ⟨hx_4, hA_2, hc_2⟩ := hx_3 (by first | omega | (simp only [List.length_drop, List.length_replicate, List.length_set, List.length_append, List.length_map, List.length_singleton] at *; omega))
        refine xd_pure 5 (some 42) rfl rfl (by kernel_rfl) (v := (.pointer (some ⟨g_2, o_2 + i * 1, none⟩))) (.inl ⟨rfl, fun W_ hW_ => ox_ixA (b := g_2) (o := o_2) (i := ((i : Nat))) i tE_23 hA_2 rfl rfl rfl (by omega) ⟨rfl, rfl⟩⟩) ?_
        refine xd_take 6 (some 43) rfl rfl (by kernel_rfl) (v := (.string x_2)) (.inl ⟨rfl, fun W_ hW_ => ox_load (v := (.string x_2)) tA_9 rfl (CellsL.at1 (CellsL.keep hW_ not_false hc_2) 0 rfl) ⟨rfl, rfl⟩⟩) hS1 ?_
        obtain ⟨x_3, g_3, hx_5⟩ := own_may (A := s_1.lA) i LR.len (by decide) o1
        obtain ⟨hx_6, hA_3, hc_3⟩ := hx_5 (by first | omega | (simp only [List.length_drop, List.length_replicate, List.length_set, List.length_append, List.length_map, List.length_singleton] at *; omega))
        refine xd_pure 7 (some 44) rfl rfl (by kernel_rfl) (v := (.pointer (some ⟨g_3, 0 + i * 8, none⟩))) (.inl ⟨rfl, fun W_ hW_ => ox_ixA (b := g_3) (o := 0) (i := ((i : Nat))) i tE_22 hA_3 rfl rfl rfl (by omega) ⟨rfl, rfl⟩⟩) ?_
        refine xd_pure 8 (some 45) rfl rfl (by kernel_rfl) (v := (.pointer (some ⟨g_3, 0 + i * 8, none⟩))) (.inl ⟨rfl, fun W_ hW_ => ox_fieldAddr (b := g_3) (o := (0 + i * 8)) tF_66_0 rfl ⟨rfl, rfl⟩⟩) ?_
        refine xd_one 9 none rfl rfl (by kernel_rfl) rfl (ox_stE (i := i) (off := 0) (vs := [(.string x_2)]) (b := ((LR.mk x_2 x_3.trivia x_3.e) : LR)) LR.len tS_9 hA_3 rfl (v := (.string x_2)) rfl rfl rfl rfl (o1.ext e8) hx_6 rfl (by decide) (by omega) ?_)
        intro w10 e9 z7 o2
        refine ⟨.inl (by decide), ?_⟩
        refine xd_done (by kernel_rfl) ?_ _
        refine xc_region ?_
        refine xl_op (P := Tryz.prog) (some 23) rfl rfl (ox_move (v := (.int .i64 ((i : Nat)))) g9_f1 ?_)
        refine xl_op (P := Tryz.prog) (some 24) rfl rfl (ox_add64 (a := ((i : Nat))) (b := 1) rfl rfl (by omega) ?_)
        refine xl_op (P := Tryz.prog) (some 9) rfl rfl (ox_assign (v := (.int .i64 ((i : Nat) + 1))) rfl ?_)
        refine xl_nil ?_
        have y1 : Chg (fun b => ((.slice s_1.lA (s.lex.length + 1) (s.lex.length + 1)) : Value).ownBlock = some b) w6 w10 := (Chg.trans (Chg.ext (Chg.trans (Chg.trans (Chg.refl (fun b => ((.slice s_1.lA (s.lex.length + 1) (s.lex.length + 1)) : Value).ownBlock = some b) w6) x4 (fun b hb hl => hb)) e7 (fun b hb hl => hb)) e8) e9 (fun b hb hl => hb))
        exact ⟨rfl, s_1.lex.length - (i + 1), by omega, i + 1, (((lx.set i ((LR.mk x_1.name x_1.trivia (EX.mk 1 (((i : Nat) : Int).tmod 200) 255 0 0 none 0 []))))).set i ((LR.mk x_2 x_3.trivia x_3.e))), by omega, (by omega), (BlL.name (BlL.put hBl hx_2 rfl ⟨rfl, rfl, rfl⟩) hx_6 rfl rfl), g1_f1, g3_f1, g5_f1, g6_f1, g7_f1, g8_f1, (by first | exact rfl | exact (congrArg (Value.int .i64) (by omega))), o2, y1⟩
      · skip
        refine xc_skip ?_
        refine xc_region ?_
        refine xl_op (P := Tryz.prog) (some 23) rfl rfl (ox_move (v := (.int .i64 ((i : Nat)))) g9_f1 ?_)
        refine xl_op (P := Tryz.prog) (some 24) rfl rfl (ox_add64 (a := ((i : Nat))) (b := 1) rfl rfl (by omega) ?_)
        refine xl_op (P := Tryz.prog) (some 9) rfl rfl (ox_assign (v := (.int .i64 ((i : Nat) + 1))) rfl ?_)
        refine xl_nil ?_
        have y2 : Chg (fun b => ((.slice s_1.lA (s.lex.length + 1) (s.lex.length + 1)) : Value).ownBlock = some b) w6 w8 := (Chg.trans (Chg.trans (Chg.refl (fun b => ((.slice s_1.lA (s.lex.length + 1) (s.lex.length + 1)) : Value).ownBlock = some b) w6) x4 (fun b hb hl => hb)) e7 (fun b hb hl => hb))
        exact ⟨rfl, s_1.lex.length - (i + 1), by omega, i + 1, (lx.set i ((LR.mk x_1.name x_1.trivia (EX.mk 1 (((i : Nat) : Int).tmod 200) 255 0 0 none 0 [])))), by omega, (by omega), (BlL.put hBl hx_2 rfl ⟨rfl, rfl, rfl⟩), g1_f1, g3_f1, g5_f1, g6_f1, g7_f1, g8_f1, (by first | exact rfl | exact (congrArg (Value.int .i64) (by omega))), o1, y2⟩
    · skip
      refine xc_exit ?_
      refine xc_seq ?_
      refine xc_seq ?_
      refine xc_region ?_
      refine xl_op (P := Tryz.prog) (some 10) rfl rfl (ox_assign (v := (.int .i64 0)) rfl ?_)
      refine xl_nil ?_
      refine xc_block ?_
      have q4 := ((hL_.namesO.ext e5).keep1 e6 (fun k hk => (hL_.namesO.ext e5).ne_blk b3 (by decide) k hk))
      have q5 := (q4.keep x4 (fun _k _hk => q4.ne_own q1 (by decide) _k _hk))
      refine xc_loopN (fun m_ f_ Wx => ∃ (k : Nat) (nm : List ByteArray), m_ = s_1.names.length - k ∧ (k ≤ s_1.names.length) ∧ f_ 1 = (.slice nA nl.length nc) ∧ f_ 3 = (.pointer (some ⟨w.heap.size, 0, none⟩)) ∧ f_ 5 = (.pointer (some ⟨w1.heap.size, 0, none⟩)) ∧ f_ 6 = (.bool false) ∧ f_ 7 = (.pointer p1) ∧ f_ 8 = (.pointer (some ⟨w4.heap.size, 0, none⟩)) ∧ f_ 9 = (.int .i64 ((i : Nat))) ∧ f_ 18 = (.int .i64 ((i : Nat))) ∧ f_ 19 = (.pointer (some ⟨w4.heap.size, 0, none⟩)) ∧ f_ 20 = (.slice s_1.lA s_1.lex.length s_1.lc) ∧ f_ 21 = (.int .i64 (((s_1.lex.length : Nat) : Int))) ∧ f_ 22 = (.bool (decide (((i : Nat) : Int) < (((s_1.lex.length : Nat) : Int))))) ∧ f_ 10 = (.int .i64 ((k : Nat))) ∧ Vx.Own Wx 9 1 (.slice s_1.nA (s.names.length + 1) (s.names.length + 1)) ((s.names.length + 1)) (nm.flatMap strs) ∧ Chg (fun b => ((.slice s_1.nA (s.names.length + 1) (s.names.length + 1)) : Value).ownBlock = some b) w7 Wx) (s_1.names.length) ?_ ?_
      · exact ⟨0, (s.names ++ [(⟨#[109, 97, 114, 107]⟩ : ByteArray)]), (by omega), (by omega), g1_f1, g3_f1, g5_f1, g6_f1, g7_f1, g8_f1, g9_f1, rfl, rfl, rfl, rfl, rfl, (by first | exact rfl | exact (congrArg (Value.int .i64) (by omega))), q5, (Chg.refl _ _)⟩
      · rintro m_ f2 w11 ⟨k, nm, hm_f2, hk, g1_f2, g3_f2, g5_f2, g6_f2, g7_f2, g8_f2, g9_f2, g18_f2, g19_f2, g20_f2, g21_f2, g22_f2, g10_f2, o0_f2, x6⟩
        have hx6 := x6.size
        have hl_nm : nm.length = (s.names.length + 1) := by have _q := (o0_f2).len; rw [fm_len strs_len] at _q; omega
        refine xc_seq ?_
        refine xc_seq ?_
        refine xc_region ?_
        refine xl_op (P := Tryz.prog) (some 46) rfl rfl (ox_move (v := (.int .i64 ((k : Nat)))) g10_f2 ?_)
        refine xl_op (P := Tryz.prog) (some 47) rfl rfl (ox_fieldAddr (b := w4.heap.size) (o := 0) tF_26_1 g8_f2 ?_)
        have q6 := (q2.keep x6 (fun _h => q5.ne_blk q2 (by decide) _ _h rfl))
        refine xl_op (P := Tryz.prog) (some 48) rfl rfl (ox_load (v := (.slice s_1.nA s_1.names.length s_1.nc)) tA_23 rfl (q6.cell rfl) ?_)
        refine xl_op (P := Tryz.prog) (some 49) rfl rfl (ox_len (A := s_1.nA) (n := s_1.names.length) (cp := s_1.nc) rfl tU_23 rfl ?_)
        refine xl_op (P := Tryz.prog) (some 50) rfl rfl (ox_lss (k := .i64) (a := ((k : Nat))) (b := (((s_1.names.length : Nat) : Int))) rfl rfl ?_)
        refine xl_op (P := Tryz.prog) (some 51) rfl rfl (ox_move (v := (.bool (decide (((k : Nat) : Int) < (((s_1.names.length : Nat) : Int)))))) rfl ?_)
        by_cases h3 : ((k : Nat) : Int) < (((s_1.names.length : Nat) : Int))
        · skip
          refine xl_opg (P := Tryz.prog) (some 52) (j := 5) (b := true) rfl rfl (congrArg some (decide_eq_true h3)) (ox_move (v := (.int .i64 ((k : Nat)))) g10_f2 ?_)
          refine xl_opg (P := Tryz.prog) (some 53) (j := 5) (b := true) rfl rfl (congrArg some (decide_eq_true h3)) (ox_move (v := (.slice nA nl.length nc)) g1_f2 ?_)
          refine xl_opg (P := Tryz.prog) (some 54) (j := 5) (b := true) rfl rfl (congrArg some (decide_eq_true h3)) (ox_len (A := nA) (n := nl.length) (cp := nc) rfl tU_23 rfl ?_)
          refine xl_opg (P := Tryz.prog) (some 55) (j := 5) (b := true) rfl rfl (congrArg some (decide_eq_true h3)) (ox_lss (k := .i64) (a := ((k : Nat))) (b := (((nl.length : Nat) : Int))) rfl rfl ?_)
          refine xl_op (P := Tryz.prog) (some 56) rfl rfl (ox_pick_t (v := (.bool (decide (((k : Nat) : Int) < (((nl.length : Nat) : Int)))))) (congrArg Value.bool (decide_eq_true h3)) rfl ?_)
          refine xl_nil ?_
          refine xc_if (p := ((k : Nat) : Int) < (((nl.length : Nat) : Int))) rfl (fun h4 => ?_) (fun h4 => ?_)
          · skip
            refine xc_skip ?_
            refine xc_seq ?_
            refine xc_block ?_
            refine xc_regionE [12] (fun W_ => Chg (fun _ => False) w11 W_) hmix ?_
            intro w12 e10 z8
            have hS2 : Chg (fun _ => False) w11 w12 := Ext.to e10
            refine xd_pure 0 (some 59) rfl rfl (by kernel_rfl) (v := (.pointer (some ⟨w4.heap.size, 1, none⟩))) (.inl ⟨rfl, fun W_ hW_ => ox_fieldAddr (b := w4.heap.size) (o := 0) tF_26_1 g8_f2 ⟨rfl, rfl⟩⟩) ?_
            refine xd_take 1 (some 60) rfl rfl (by kernel_rfl) (v := (.slice s_1.nA s_1.names.length s_1.nc)) (.inl ⟨rfl, fun W_ hW_ => ox_load (v := (.slice s_1.nA s_1.names.length s_1.nc)) tA_23 rfl ((q6.ext hW_).cell rfl) ⟨rfl, rfl⟩⟩) hS2 ?_
            refine xd_pure 2 (some 61) rfl rfl (by kernel_rfl) (v := (.int .i64 ((k : Nat)))) (.inl ⟨rfl, fun W_ hW_ => ox_move (v := (.int .i64 ((k : Nat)))) g10_f2 ⟨rfl, rfl⟩⟩) ?_
            refine xd_pure 3 (some 62) rfl rfl (by kernel_rfl) (v := (.slice nA nl.length nc)) (.inl ⟨rfl, fun W_ hW_ => ox_move (v := (.slice nA nl.length nc)) g1_f2 ⟨rfl, rfl⟩⟩) ?_
            refine xd_pure 4 (some 63) rfl rfl (by kernel_rfl) (v := (.slice nA nl.length nc)) (.inl ⟨rfl, fun W_ hW_ => ox_move (v := (.slice nA nl.length nc)) g1_f2 ⟨rfl, rfl⟩⟩) ?_
            refine xd_pure 5 (some 64) rfl rfl (by kernel_rfl) (v := (.int .i64 (((nl.length : Nat) : Int)))) (.inl ⟨rfl, fun W_ hW_ => ox_len (A := nA) (n := nl.length) (cp := nc) rfl tU_23 rfl ⟨rfl, rfl⟩⟩) ?_
            refine xd_pure 6 (some 65) rfl rfl (by kernel_rfl) (v := (.int .i64 (((nl.length : Nat) : Int) - 1))) (.inl ⟨rfl, fun W_ hW_ => ox_sub64 (a := (((nl.length : Nat) : Int))) (b := 1) rfl rfl (by omega) ⟨rfl, rfl⟩⟩) ?_
            refine xd_pure 7 (some 66) rfl rfl (by kernel_rfl) (v := (.int .i64 ((k : Nat)))) (.inl ⟨rfl, fun W_ hW_ => ox_move (v := (.int .i64 ((k : Nat)))) g10_f2 ⟨rfl, rfl⟩⟩) ?_
            refine xd_pure 8 (some 67) rfl rfl (by kernel_rfl) (v := (.int .i64 (((nl.length : Nat) : Int) - 1 - ((k : Nat))))) (.inl ⟨rfl, fun W_ hW_ => ox_sub64 (a := (((nl.length : Nat) : Int) - 1)) (b := ((k : Nat))) rfl rfl (by omega) ⟨rfl, rfl⟩⟩) ?_
            have x7 : Ext w w11 := (Chg.trans (Chg.trans (Ext.chg1 (Ext.trans x3 e5) e6 (by omega)) x4 (fun b hb hl => (absurd hl (by have _h := hL_.lowL b hb; omega)))) x6 (fun b hb hl => (absurd hl (by have _h := hL_.lowN b hb; omega))))
            obtain ⟨x_4, g_4, o_4, hx_7⟩ := row_may (A := nA) (cs := strs) ((((nl.length : Nat) : Int) - 1 - ((k : Nat))).toNat) strs_len (by decide) (RowA.ext hN x7)
            obtain ⟨hx_8, hA_4, hc_4⟩ := hx_7 (by first | omega | (simp only [List.length_drop, List.length_replicate, List.length_set, List.length_append, List.length_map, List.length_singleton] at *; omega))
            refine xd_pure 9 (some 68) rfl rfl (by kernel_rfl) (v := (.pointer (some ⟨g_4, o_4 + ((((nl.length : Nat) : Int) - 1 - ((k : Nat))).toNat) * 1, none⟩))) (.inl ⟨rfl, fun W_ hW_ => ox_ixA (b := g_4) (o := o_4) (i := (((nl.length : Nat) : Int) - 1 - ((k : Nat)))) ((((nl.length : Nat) : Int) - 1 - ((k : Nat))).toNat) tE_23 hA_4 rfl rfl (by omega) (by omega) ⟨rfl, rfl⟩⟩) ?_
            refine xd_take 10 (some 69) rfl rfl (by kernel_rfl) (v := (.string x_4)) (.inl ⟨rfl, fun W_ hW_ => ox_load (v := (.string x_4)) tA_9 rfl (CellsL.at1 (CellsL.keep hW_ not_false hc_4) 0 rfl) ⟨rfl, rfl⟩⟩) hS2 ?_
            obtain ⟨x_5, g_5, hx_9⟩ := own_may (A := s_1.nA) k strs_len (by decide) o0_f2
            obtain ⟨hx_10, hA_5, hc_5⟩ := hx_9 (by first | omega | (simp only [List.length_drop, List.length_replicate, List.length_set, List.length_append, List.length_map, List.length_singleton] at *; omega))
            refine xd_pure 11 (some 70) rfl rfl (by kernel_rfl) (v := (.pointer (some ⟨g_5, 0 + k * 1, none⟩))) (.inl ⟨rfl, fun W_ hW_ => ox_ixA (b := g_5) (o := 0) (i := ((k : Nat))) k tE_23 hA_5 rfl rfl rfl (by omega) ⟨rfl, rfl⟩⟩) ?_
            refine xd_one 12 none rfl rfl (by kernel_rfl) rfl (ox_stE (i := k) (off := 0) (vs := [(.string x_4)]) (b := (x_4 : ByteArray)) strs_len tS_9 hA_5 rfl (v := (.string x_4)) rfl rfl rfl rfl (o0_f2.ext e10) hx_10 rfl (by decide) (by omega) ?_)
            intro w13 e11 z9 o3
            refine ⟨.inl (by decide), ?_⟩
            refine xd_done (by kernel_rfl) ?_ _
            refine xc_region ?_
            refine xl_op (P := Tryz.prog) (some 57) rfl rfl (ox_move (v := (.int .i64 ((k : Nat)))) g10_f2 ?_)
            refine xl_op (P := Tryz.prog) (some 58) rfl rfl (ox_add64 (a := ((k : Nat))) (b := 1) rfl rfl (by omega) ?_)
            refine xl_op (P := Tryz.prog) (some 10) rfl rfl (ox_assign (v := (.int .i64 ((k : Nat) + 1))) rfl ?_)
            refine xl_nil ?_
            have y3 : Chg (fun b => ((.slice s_1.nA (s.names.length + 1) (s.names.length + 1)) : Value).ownBlock = some b) w7 w13 := (Chg.trans (Chg.ext (Chg.trans (Chg.refl (fun b => ((.slice s_1.nA (s.names.length + 1) (s.names.length + 1)) : Value).ownBlock = some b) w7) x6 (fun b hb hl => hb)) e10) e11 (fun b hb hl => hb))
            exact ⟨rfl, s_1.names.length - (k + 1), by omega, k + 1, (nm.set k x_4), by omega, (by omega), g1_f2, g3_f2, g5_f2, g6_f2, g7_f2, g8_f2, g9_f2, g18_f2, g19_f2, g20_f2, g21_f2, g22_f2, (by first | exact rfl | exact (congrArg (Value.int .i64) (by omega))), o3, y3⟩
          · skip
            refine xc_exit ?_
            refine xc_seq ?_
            refine xc_region ?_
            refine xl_op (P := Tryz.prog) (some 11) rfl rfl (ox_assign (v := (.string (⟨#[]⟩))) rfl ?_)
            refine xl_nil ?_
            refine xc_seq ?_
            refine xc_seq ?_
            rcases hb1 with ⟨hn_1, rfl⟩ | ⟨s1_1, ba_1, st_1, rfl, hg1_1, hbu_1, B_1, hB_1, hX_1⟩
            · skip
              refine xc_region ?_
              refine xl_op (P := Tryz.prog) (some 71) rfl rfl (ox_move (v := (.pointer none)) g7_f2 ?_)
              refine xl_op (P := Tryz.prog) (some 72) rfl rfl (ox_neqNil (p := none) (q := none) tU_28 rfl rfl (.inr rfl) ?_)
              refine xl_op (P := Tryz.prog) (some 73) rfl rfl (ox_move (v := (.bool (decide ((none : Option Addr) ≠ none)))) rfl ?_)
              refine xl_skip (some 74) (j := 2) (b := true) false rfl rfl (congrArg some (decide_eq_false (by simp))) (by decide) ?_
              refine xl_skip (some 75) (j := 2) (b := true) false rfl rfl (congrArg some (decide_eq_false (by simp))) (by decide) ?_
              refine xl_skip (some 76) (j := 2) (b := true) false rfl rfl (congrArg some (decide_eq_false (by simp))) (by decide) ?_
              refine xl_op (P := Tryz.prog) (some 77) rfl rfl (ox_pick_f (v := (.bool false)) (congrArg Value.bool (decide_eq_false (by simp))) rfl ?_)
              refine xl_nil ?_
              refine xc_cond_f rfl ?_
              refine xc_skip ?_
              refine xc_seq ?_
              refine xc_seq ?_
              refine xc_region ?_
              refine xl_op (P := Tryz.prog) (some 78) rfl rfl (ox_move (v := (.pointer none)) g7_f2 ?_)
              refine xl_op (P := Tryz.prog) (some 79) rfl rfl (ox_neqNil (p := none) (q := none) tU_28 rfl rfl (.inr rfl) ?_)
              refine xl_nil ?_
              refine xc_cond_f (congrArg Value.bool (decide_eq_false (by simp))) ?_
              refine xc_skip ?_
              refine xc_seq ?_
              refine xc_region ?_
              have q7 := ((((b2.ext e3).ext e4).ext e5).keep1 e6 (by have _q := b2.lt; omega))
              have q8 := (q7.keep x4 (fun _h => q1.ne_blk q7 (by decide) _ _h rfl))
              have q9 := (q8.keep x6 (fun _h => q5.ne_blk q8 (by decide) _ _h rfl))
              refine xl_op (P := Tryz.prog) (some 82) rfl rfl (ox_loadN (vs := [(.slice o.lA o.lex.length o.lc), (.slice o.nA o.names.length o.nc), (.int .i64 o.start), (.slice o.pA o.prods.length o.pc)]) tA_26 tS_26 g5_f2 rfl ⟨q9.cell rfl, q9.cell rfl, q9.cell rfl, q9.cell rfl, trivial⟩ ?_)
              have x8 : Ext w w11 := (Chg.trans (Chg.trans (Ext.chg1 (Ext.trans x3 e5) e6 (by omega)) x4 (fun b hb hl => (absurd hl (by have _h := hL_.lowL b hb; omega)))) x6 (fun b hb hl => (absurd hl (by have _h := hL_.lowN b hb; omega))))
              refine xl_op (P := Tryz.prog) (some 83) rfl rfl (ox_callE (al := [(.agg #[(.slice o.lA o.lex.length o.lc), (.slice o.nA o.names.length o.nc), (.int .i64 o.start), (.slice o.pA o.prods.length o.pc)])]) pf_9 rfl (ret_mono (built_calls2 o w11 (hO.ext x8) (TabIs.ext hT x8)) ?_))
              rintro _ w14 ⟨p2, rfl, e12, hb2⟩
              have he12 := e12.size
              refine xl_op (P := Tryz.prog) (some 12) rfl rfl (ox_assign (v := (.pointer p2)) rfl ?_)
              refine xl_nil ?_
              refine xc_seq ?_
              refine xc_region ?_
              refine xl_op (P := Tryz.prog) (some 84) rfl rfl (ox_loadN (vs := [(.slice s_1.lA s_1.lex.length s_1.lc), (.slice s_1.nA s_1.names.length s_1.nc), (.int .i64 s_1.start), (.slice s_1.pA s_1.prods.length s_1.pc)]) tA_26 tS_26 g8_f2 rfl ⟨(q6.ext e12).cell rfl, (q6.ext e12).cell rfl, (q6.ext e12).cell rfl, (q6.ext e12).cell rfl, trivial⟩ ?_)
              have q10 := (o0_f1.keep x6 (fun _k _hk => o0_f1.ne_own q5 (by decide) _k _hk))
              have q11 := ((hL_.prodsO.ext e5).keep1 e6 (fun k hk => (hL_.prodsO.ext e5).ne_blk b3 (by decide) k hk))
              have q12 := (q11.keep x4 (fun _k _hk => q11.ne_own q1 (by decide) _k _hk))
              have q13 := (q12.keep x6 (fun _k _hk => q12.ne_own q5 (by decide) _k _hk))
              have q14 := (PdF.keepB (PdF.ext hL_.prodsR e5) e6 b3 (by decide))
              have q15 := (PdF.keepO (PdF.keepO q14 x4 q1 (by decide)) x6 q5 (by decide))
              obtain ⟨hBs, hBg, hBl1, hBl2⟩ := blind_spr hL_ hLs_ hS.fr (q10.ext e12) (by have h9 : i = s_1.lex.length := (by omega); rw [← h9]; exact hBl) (o0_f2.ext e12) (q13.ext e12) (PdF.ext q15 e12)
              have x9 : Ext w w14 := (Ext.trans x8 e12)
              refine xl_op (P := Tryz.prog) (some 85) rfl rfl (ox_callE (al := [(.agg #[(.slice s_1.lA s_1.lex.length s_1.lc), (.slice s_1.nA s_1.names.length s_1.nc), (.int .i64 s_1.start), (.slice s_1.pA s_1.prods.length s_1.pc)])]) pf_9 rfl (ret_mono (built_at (s := s_1) hBs (TabIs.ext hT x9) rfl hBl1 rfl rfl hBl2 rfl rfl rfl rfl rfl hBg) ?_))
              rintro _ w15 ⟨p3, rfl, e13, hb3⟩
              have he13 := e13.size
              refine xl_op (P := Tryz.prog) (some 13) rfl rfl (ox_assign (v := (.pointer p3)) rfl ?_)
              refine xl_nil ?_
              refine xc_seq ?_
              refine xc_seq ?_
              rcases hb3 with ⟨hn_3, rfl⟩ | ⟨s1_3, ba_3, st_3, rfl, hg1_3, hbu_3, B_3, hB_3, hX_3⟩
              · skip
                refine xc_region ?_
                refine xl_op (P := Tryz.prog) (some 86) rfl rfl (ox_move (v := (.pointer none)) g7_f2 ?_)
                refine xl_op (P := Tryz.prog) (some 87) rfl rfl (ox_eqlNil (p := none) (q := none) tU_28 rfl rfl (.inr rfl) ?_)
                refine xl_op (P := Tryz.prog) (some 88) rfl rfl (ox_move (v := (.pointer none)) rfl ?_)
                refine xl_op (P := Tryz.prog) (some 89) rfl rfl (ox_eqlNil (p := none) (q := none) tU_28 rfl rfl (.inr rfl) ?_)
                refine xl_op (P := Tryz.prog) (some 90) rfl rfl (ox_neqBool (a := ((decide ((none : Option Addr) = none)))) (b := ((decide ((none : Option Addr) = none)))) tU_4 rfl rfl ?_)
                refine xl_nil ?_
                refine xc_cond_f (congrArg Value.bool (decide_eq_false (by simp))) ?_
                refine xc_skip ?_
                refine xc_seq ?_
                refine xc_seq ?_
                refine xc_region ?_
                refine xl_op (P := Tryz.prog) (some 91) rfl rfl (ox_move (v := (.pointer none)) g7_f2 ?_)
                refine xl_op (P := Tryz.prog) (some 92) rfl rfl (ox_eqlNil (p := none) (q := none) tU_28 rfl rfl (.inr rfl) ?_)
                refine xl_op (P := Tryz.prog) (some 93) rfl rfl (ox_move (v := (.bool (decide ((none : Option Addr) = none)))) rfl ?_)
                refine xl_skip (some 94) (j := 2) (b := false) true rfl rfl (congrArg some (decide_eq_true rfl)) (by decide) ?_
                refine xl_skip (some 95) (j := 2) (b := false) true rfl rfl (congrArg some (decide_eq_true rfl)) (by decide) ?_
                refine xl_op (P := Tryz.prog) (some 96) rfl rfl (ox_pick_t (v := (.bool true)) (congrArg Value.bool (decide_eq_true rfl)) rfl ?_)
                refine xl_nil ?_
                refine xc_cond_t rfl ?_
                refine xc_seq ?_
                refine xc_region ?_
                have x10 : Ext w w15 := (Ext.trans x9 e13)
                refine xl_op (P := Tryz.prog) (some 97) rfl rfl (ox_callE (al := []) pf_10 rfl (ret_mono (known_calls w15 (TabIs.ext hT x10)) ?_))
                rintro _ w16 ⟨rfl, e14⟩
                have he14 := e14.size
                refine xl_op (P := Tryz.prog) (some 6) rfl rfl (ox_assign (v := (.bool true)) rfl ?_)
                refine xl_nil ?_
                refine xc_ret ?_
                change leaves _ _ _ _ _ _ _
                refine leaves_nil (n := 126) (rs := [.tmp 6]) (vs := [(.bool true)]) rfl ⟨⟨by decide, rfl⟩, trivial⟩ ?_
                have x11 : Ext w w16 := (Ext.trans x10 e14)
                exact ⟨rfl, x11⟩
              · skip
                have haut3 : Aut s.g st_3 := hg1_3 ▸ hX_3.aut
                have htw3 := haut3.two
                have hbg3 := haut3.big
                exact absurd (hn_1.symm.trans hbu_3) (by simp)
            · skip
              have haut1 : Aut s.g st_1 := hg1_1 ▸ hX_1.aut
              have htw1 := haut1.two
              have hbg1 := haut1.big
              refine xc_region ?_
              refine xl_op (P := Tryz.prog) (some 71) rfl rfl (ox_move (v := (.pointer (some ⟨ba_1, 0, none⟩))) g7_f2 ?_)
              refine xl_op (P := Tryz.prog) (some 72) rfl rfl (ox_neqNil (p := (some ⟨ba_1, 0, none⟩ : Option Addr)) (q := none) tU_28 rfl rfl (.inr rfl) ?_)
              refine xl_op (P := Tryz.prog) (some 73) rfl rfl (ox_move (v := (.bool (decide ((some ⟨ba_1, 0, none⟩ : Option Addr) ≠ none)))) rfl ?_)
              refine xl_opg (P := Tryz.prog) (some 74) (j := 2) (b := true) rfl rfl (congrArg some (decide_eq_true (by simp))) (ox_move (v := (.pointer (some ⟨ba_1, 0, none⟩))) g7_f2 ?_)
              refine xl_opg (P := Tryz.prog) (some 75) (j := 2) (b := true) rfl rfl (congrArg some (decide_eq_true (by simp))) (ox_callE (al := [(.pointer (some ⟨ba_1, 0, none⟩))]) pf_31 rfl (ret_mono (all_calls ba_1 w11) ?_))
              rintro _ w17 ⟨b5, rfl, hb4, _, e15⟩
              have he15 := e15.size
              have hhb49 := hb4.lt
              refine xl_opg (P := Tryz.prog) (some 76) (j := 2) (b := true) rfl rfl (congrArg some (decide_eq_true (by simp))) (ox_eqlFnil tU_68 rfl rfl ?_)
              refine xl_op (P := Tryz.prog) (some 77) rfl rfl (ox_pick_t (v := (.bool false)) (congrArg Value.bool (decide_eq_true (by simp))) rfl ?_)
              refine xl_nil ?_
              refine xc_cond_f rfl ?_
              refine xc_skip ?_
              refine xc_seq ?_
              refine xc_seq ?_
              refine xc_region ?_
              refine xl_op (P := Tryz.prog) (some 78) rfl rfl (ox_move (v := (.pointer (some ⟨ba_1, 0, none⟩))) g7_f2 ?_)
              refine xl_op (P := Tryz.prog) (some 79) rfl rfl (ox_neqNil (p := (some ⟨ba_1, 0, none⟩ : Option Addr)) (q := none) tU_28 rfl rfl (.inr rfl) ?_)
              refine xl_nil ?_
              refine xc_cond_t (congrArg Value.bool (decide_eq_true (by simp))) ?_
              refine xc_region ?_
              refine xl_op (P := Tryz.prog) (some 80) rfl rfl (ox_move (v := (.pointer (some ⟨ba_1, 0, none⟩))) g7_f2 ?_)
              have x12 : Ext w3 w17 := (Ext.trans (Chg.trans (Chg.trans (Ext.chg1 (Ext.trans e4 e5) e6 (by omega)) x4 (fun b hb hl => (absurd hl (by have _h := hL_.lowL b hb; omega)))) x6 (fun b hb hl => (absurd hl (by have _h := hL_.lowN b hb; omega)))) e15)
              have x13 : Ext w w17 := (Ext.trans (Chg.trans (Chg.trans (Ext.chg1 (Ext.trans x3 e5) e6 (by omega)) x4 (fun b hb hl => (absurd hl (by have _h := hL_.lowL b hb; omega)))) x6 (fun b hb hl => (absurd hl (by have _h := hL_.lowN b hb; omega)))) e15)
              refine xl_op (P := Tryz.prog) (some 81) rfl rfl (ox_callE (al := [(.pointer (some ⟨ba_1, 0, none⟩))]) pf_32 rfl (ret_mono (print_calls s1_1 B_1 ba_1 st_1 w17 (AutX.ext hX_1 x12) (TabIs.ext hT x13)) ?_))
              rintro _ w18 ⟨rfl, e16⟩
              have he16 := e16.size
              refine xl_op (P := Tryz.prog) (some 11) rfl rfl (ox_assign (v := (.string (⟨(printS st_1).toArray⟩))) rfl ?_)
              refine xl_nil ?_
              refine xc_seq ?_
              refine xc_region ?_
              have q16 := ((((b2.ext e3).ext e4).ext e5).keep1 e6 (by have _q := b2.lt; omega))
              have q17 := (q16.keep x4 (fun _h => q1.ne_blk q16 (by decide) _ _h rfl))
              have q18 := (q17.keep x6 (fun _h => q5.ne_blk q17 (by decide) _ _h rfl))
              refine xl_op (P := Tryz.prog) (some 82) rfl rfl (ox_loadN (vs := [(.slice o.lA o.lex.length o.lc), (.slice o.nA o.names.length o.nc), (.int .i64 o.start), (.slice o.pA o.prods.length o.pc)]) tA_26 tS_26 g5_f2 rfl ⟨((q18.ext e15).ext e16).cell rfl, ((q18.ext e15).ext e16).cell rfl, ((q18.ext e15).ext e16).cell rfl, ((q18.ext e15).ext e16).cell rfl, trivial⟩ ?_)
              have x14 : Ext w w18 := (Ext.trans x13 e16)
              refine xl_op (P := Tryz.prog) (some 83) rfl rfl (ox_callE (al := [(.agg #[(.slice o.lA o.lex.length o.lc), (.slice o.nA o.names.length o.nc), (.int .i64 o.start), (.slice o.pA o.prods.length o.pc)])]) pf_9 rfl (ret_mono (built_calls2 o w18 (hO.ext x14) (TabIs.ext hT x14)) ?_))
              rintro _ w19 ⟨p4, rfl, e17, hb5⟩
              have he17 := e17.size
              refine xl_op (P := Tryz.prog) (some 12) rfl rfl (ox_assign (v := (.pointer p4)) rfl ?_)
              refine xl_nil ?_
              refine xc_seq ?_
              refine xc_region ?_
              refine xl_op (P := Tryz.prog) (some 84) rfl rfl (ox_loadN (vs := [(.slice s_1.lA s_1.lex.length s_1.lc), (.slice s_1.nA s_1.names.length s_1.nc), (.int .i64 s_1.start), (.slice s_1.pA s_1.prods.length s_1.pc)]) tA_26 tS_26 g8_f2 rfl ⟨(((q6.ext e15).ext e16).ext e17).cell rfl, (((q6.ext e15).ext e16).ext e17).cell rfl, (((q6.ext e15).ext e16).ext e17).cell rfl, (((q6.ext e15).ext e16).ext e17).cell rfl, trivial⟩ ?_)
              have q19 := (o0_f1.keep x6 (fun _k _hk => o0_f1.ne_own q5 (by decide) _k _hk))
              have q20 := ((hL_.prodsO.ext e5).keep1 e6 (fun k hk => (hL_.prodsO.ext e5).ne_blk b3 (by decide) k hk))
              have q21 := (q20.keep x4 (fun _k _hk => q20.ne_own q1 (by decide) _k _hk))
              have q22 := (q21.keep x6 (fun _k _hk => q21.ne_own q5 (by decide) _k _hk))
              have q23 := (PdF.keepB (PdF.ext hL_.prodsR e5) e6 b3 (by decide))
              have q24 := (PdF.keepO (PdF.keepO q23 x4 q1 (by decide)) x6 q5 (by decide))
              have q25 := (PdF.ext (PdF.ext (PdF.ext q24 e15) e16) e17)
              obtain ⟨hBs, hBg, hBl1, hBl2⟩ := blind_spr hL_ hLs_ hS.fr (((q19.ext e15).ext e16).ext e17) (by have h9 : i = s_1.lex.length := (by omega); rw [← h9]; exact hBl) (((o0_f2.ext e15).ext e16).ext e17) (((q22.ext e15).ext e16).ext e17) q25
              have x15 : Ext w w19 := (Ext.trans x14 e17)
              refine xl_op (P := Tryz.prog) (some 85) rfl rfl (ox_callE (al := [(.agg #[(.slice s_1.lA s_1.lex.length s_1.lc), (.slice s_1.nA s_1.names.length s_1.nc), (.int .i64 s_1.start), (.slice s_1.pA s_1.prods.length s_1.pc)])]) pf_9 rfl (ret_mono (built_at (s := s_1) hBs (TabIs.ext hT x15) rfl hBl1 rfl rfl hBl2 rfl rfl rfl rfl rfl hBg) ?_))
              rintro _ w20 ⟨p5, rfl, e18, hb6⟩
              have he18 := e18.size
              refine xl_op (P := Tryz.prog) (some 13) rfl rfl (ox_assign (v := (.pointer p5)) rfl ?_)
              refine xl_nil ?_
              refine xc_seq ?_
              refine xc_seq ?_
              rcases hb6 with ⟨hn_3, rfl⟩ | ⟨s1_3, ba_3, st_3, rfl, hg1_3, hbu_3, B_3, hB_3, hX_3⟩
              · skip
                exact absurd (hn_3.symm.trans hbu_1) (by simp)
              · skip
                have haut3 : Aut s.g st_3 := hg1_3 ▸ hX_3.aut
                have htw3 := haut3.two
                have hbg3 := haut3.big
                have hst9 : st_1 = st_3 := Option.some.inj (hbu_1.symm.trans hbu_3)
                subst hst9
                refine xc_region ?_
                refine xl_op (P := Tryz.prog) (some 86) rfl rfl (ox_move (v := (.pointer (some ⟨ba_1, 0, none⟩))) g7_f2 ?_)
                refine xl_op (P := Tryz.prog) (some 87) rfl rfl (ox_eqlNil (p := (some ⟨ba_1, 0, none⟩ : Option Addr)) (q := none) tU_28 rfl rfl (.inr rfl) ?_)
                refine xl_op (P := Tryz.prog) (some 88) rfl rfl (ox_move (v := (.pointer (some ⟨ba_3, 0, none⟩))) rfl ?_)
                refine xl_op (P := Tryz.prog) (some 89) rfl rfl (ox_eqlNil (p := (some ⟨ba_3, 0, none⟩ : Option Addr)) (q := none) tU_28 rfl rfl (.inr rfl) ?_)
                refine xl_op (P := Tryz.prog) (some 90) rfl rfl (ox_neqBool (a := ((decide ((some ⟨ba_1, 0, none⟩ : Option Addr) = none)))) (b := ((decide ((some ⟨ba_3, 0, none⟩ : Option Addr) = none)))) tU_4 rfl rfl ?_)
                refine xl_nil ?_
                refine xc_cond_f (congrArg Value.bool (decide_eq_false (by simp))) ?_
                refine xc_skip ?_
                refine xc_seq ?_
                refine xc_seq ?_
                refine xc_region ?_
                refine xl_op (P := Tryz.prog) (some 91) rfl rfl (ox_move (v := (.pointer (some ⟨ba_1, 0, none⟩))) g7_f2 ?_)
                refine xl_op (P := Tryz.prog) (some 92) rfl rfl (ox_eqlNil (p := (some ⟨ba_1, 0, none⟩ : Option Addr)) (q := none) tU_28 rfl rfl (.inr rfl) ?_)
                refine xl_op (P := Tryz.prog) (some 93) rfl rfl (ox_move (v := (.bool (decide ((some ⟨ba_1, 0, none⟩ : Option Addr) = none)))) rfl ?_)
                refine xl_opg (P := Tryz.prog) (some 94) (j := 2) (b := false) rfl rfl (congrArg some (decide_eq_false (by simp))) (ox_move (v := (.pointer (some ⟨ba_3, 0, none⟩))) rfl ?_)
                refine xl_opg (P := Tryz.prog) (some 95) (j := 2) (b := false) rfl rfl (congrArg some (decide_eq_false (by simp))) (ox_eqlNil (p := (some ⟨ba_3, 0, none⟩ : Option Addr)) (q := none) tU_28 rfl rfl (.inr rfl) ?_)
                refine xl_op (P := Tryz.prog) (some 96) rfl rfl (ox_pick_f (v := (.bool (decide ((some ⟨ba_3, 0, none⟩ : Option Addr) = none)))) (congrArg Value.bool (decide_eq_false (by simp))) rfl ?_)
                refine xl_nil ?_
                refine xc_cond_f (congrArg Value.bool (decide_eq_false (by simp))) ?_
                refine xc_skip ?_
                refine xc_seq ?_
                refine xc_seq ?_
                rcases hb5 with ⟨hn_2, rfl⟩ | ⟨s1_2, ba_2, st_2, rfl, hg1_2, hbu_2, B_2, hB_2, hX_2⟩
                · skip
                  refine xc_region ?_
                  refine xl_op (P := Tryz.prog) (some 98) rfl rfl (ox_move (v := (.pointer none)) rfl ?_)
                  refine xl_op (P := Tryz.prog) (some 99) rfl rfl (ox_neqNil (p := none) (q := none) tU_28 rfl rfl (.inr rfl) ?_)
                  refine xl_op (P := Tryz.prog) (some 100) rfl rfl (ox_move (v := (.bool (decide ((none : Option Addr) ≠ none)))) rfl ?_)
                  refine xl_skip (some 101) (j := 2) (b := true) false rfl rfl (congrArg some (decide_eq_false (by simp))) (by decide) ?_
                  refine xl_skip (some 102) (j := 2) (b := true) false rfl rfl (congrArg some (decide_eq_false (by simp))) (by decide) ?_
                  refine xl_skip (some 103) (j := 2) (b := true) false rfl rfl (congrArg some (decide_eq_false (by simp))) (by decide) ?_
                  refine xl_op (P := Tryz.prog) (some 104) rfl rfl (ox_pick_f (v := (.bool false)) (congrArg Value.bool (decide_eq_false (by simp))) rfl ?_)
                  refine xl_nil ?_
                  refine xc_cond_f rfl ?_
                  refine xc_skip ?_
                  refine xc_seq ?_
                  refine xc_regionE [] (fun W_ => Chg (fun _ => False) w20 W_) hmix ?_
                  intro w21 e19 z10
                  have hS3 : Chg (fun _ => False) w20 w21 := Ext.to e19
                  refine xd_pure 0 (some 105) rfl rfl (by kernel_rfl) (v := (.pointer (some ⟨ba_1, 0, none⟩))) (.inl ⟨rfl, fun W_ hW_ => ox_move (v := (.pointer (some ⟨ba_1, 0, none⟩))) g7_f2 ⟨rfl, rfl⟩⟩) ?_
                  refine xd_pure 2 (some 107) rfl rfl (by kernel_rfl) (v := (.string (⟨(printS st_1).toArray⟩))) (.inl ⟨rfl, fun W_ hW_ => ox_move (v := (.string (⟨(printS st_1).toArray⟩))) rfl ⟨rfl, rfl⟩⟩) ?_
                  have x16 : Ext w17 w21 := (Ext.trans (Ext.trans (Ext.trans e16 e17) e18) e19)
                  have x17 : Ext w w21 := (Ext.trans (Ext.trans x15 e18) e19)
                  refine xd_one 1 (some 106) rfl rfl (by kernel_rfl) rfl (ox_callE (al := [(.pointer (some ⟨ba_1, 0, none⟩))]) pf_32 rfl (ret_mono (print_calls s1_1 B_1 ba_1 st_1 w21 (AutX.ext (AutX.ext hX_1 x12) x16) (TabIs.ext hT x17)) ?_))
                  rintro _ w22 ⟨rfl, e20⟩
                  have he20 := e20.size
                  have hS4 : Chg (fun _ => False) w20 w22 := Chg.ext hS3 e20
                  refine ⟨.inr fun _ => hS4, ?_⟩
                  refine xd_pure 3 (some 108) rfl rfl (by kernel_rfl) (v := (.bool (decide ((⟨(printS st_1).toArray⟩ : ByteArray) = ⟨(printS st_1).toArray⟩)))) (.inl ⟨rfl, fun W_ hW_ => ox_eqlStr (a := (⟨(printS st_1).toArray⟩)) (b := (⟨(printS st_1).toArray⟩)) tU_9 rfl rfl ⟨rfl, rfl⟩⟩) ?_
                  refine xd_pure 4 (some 109) rfl rfl (by kernel_rfl) (v := (.bool (decide ((⟨(printS st_1).toArray⟩ : ByteArray) = ⟨(printS st_1).toArray⟩)))) (.inl ⟨rfl, fun W_ hW_ => ox_move (v := (.bool (decide ((⟨(printS st_1).toArray⟩ : ByteArray) = ⟨(printS st_1).toArray⟩)))) rfl ⟨rfl, rfl⟩⟩) ?_
                  refine xd_pure 5 (some 110) rfl rfl (by kernel_rfl) (v := (.pointer (some ⟨ba_3, 0, none⟩))) (.inl ⟨(wanted_of (j := 4) (b := true) rfl (congrArg some (by simp : decide ((⟨(printS st_1).toArray⟩ : ByteArray) = ⟨(printS st_1).toArray⟩) = true))), fun W_ hW_ => ox_move (v := (.pointer (some ⟨ba_3, 0, none⟩))) rfl ⟨rfl, rfl⟩⟩) ?_
                  refine xd_pure 7 (some 112) rfl rfl (by kernel_rfl) (v := (.string (⟨(printS st_1).toArray⟩))) (.inl ⟨(wanted_of (j := 4) (b := true) rfl (congrArg some (by simp : decide ((⟨(printS st_1).toArray⟩ : ByteArray) = ⟨(printS st_1).toArray⟩) = true))), fun W_ hW_ => ox_move (v := (.string (⟨(printS st_1).toArray⟩))) rfl ⟨rfl, rfl⟩⟩) ?_
                  have x18 : Ext w20 w22 := (Ext.trans e19 e20)
                  have x19 : Ext w w22 := (Ext.trans x17 e20)
                  refine xd_oneW 6 (some 111) rfl rfl (by kernel_rfl) (wanted_of (j := 4) (b := true) rfl (congrArg some (by simp : decide ((⟨(printS st_1).toArray⟩ : ByteArray) = ⟨(printS st_1).toArray⟩) = true))) (ox_callE (al := [(.pointer (some ⟨ba_3, 0, none⟩))]) pf_32 rfl (ret_mono (print_calls s1_3 B_3 ba_3 st_1 w22 (AutX.ext hX_3 x18) (TabIs.ext hT x19)) ?_))
                  rintro _ w23 ⟨rfl, e21⟩
                  have he21 := e21.size
                  have hS5 : Chg (fun _ => False) w20 w23 := Chg.ext hS4 e21
                  refine ⟨.inr fun _ => hS5, ?_⟩
                  refine xd_pure 8 (some 113) rfl rfl (by kernel_rfl) (v := (.bool (decide ((⟨(printS st_1).toArray⟩ : ByteArray) = ⟨(printS st_1).toArray⟩)))) (.inl ⟨(wanted_of (j := 4) (b := true) rfl (congrArg some (by simp : decide ((⟨(printS st_1).toArray⟩ : ByteArray) = ⟨(printS st_1).toArray⟩) = true))), fun W_ hW_ => ox_eqlStr (a := (⟨(printS st_1).toArray⟩)) (b := (⟨(printS st_1).toArray⟩)) tU_9 rfl rfl ⟨rfl, rfl⟩⟩) ?_
                  refine xd_pure 9 (some 114) rfl rfl (by kernel_rfl) (v := (.bool (decide ((⟨(printS st_1).toArray⟩ : ByteArray) = ⟨(printS st_1).toArray⟩)))) (.inl ⟨rfl, fun W_ hW_ => ox_pick_t (v := (.bool (decide ((⟨(printS st_1).toArray⟩ : ByteArray) = ⟨(printS st_1).toArray⟩)))) (congrArg Value.bool (by simp : decide ((⟨(printS st_1).toArray⟩ : ByteArray) = ⟨(printS st_1).toArray⟩) = true)) rfl ⟨rfl, rfl⟩⟩) ?_
                  refine xd_pure 10 (some 115) rfl rfl (by kernel_rfl) (v := (.bool (decide ((⟨(printS st_1).toArray⟩ : ByteArray) = ⟨(printS st_1).toArray⟩)))) (.inl ⟨rfl, fun W_ hW_ => ox_move (v := (.bool (decide ((⟨(printS st_1).toArray⟩ : ByteArray) = ⟨(printS st_1).toArray⟩)))) rfl ⟨rfl, rfl⟩⟩) ?_
                  refine xd_pure 11 (some 116) rfl rfl (by kernel_rfl) (v := (.pointer (some ⟨ba_3, 0, none⟩))) (.inl ⟨(wanted_of (j := 10) (b := true) rfl (congrArg some (by simp : decide ((⟨(printS st_1).toArray⟩ : ByteArray) = ⟨(printS st_1).toArray⟩) = true))), fun W_ hW_ => ox_move (v := (.pointer (some ⟨ba_3, 0, none⟩))) rfl ⟨rfl, rfl⟩⟩) ?_
                  refine xd_pure 14 (some 119) rfl rfl (by kernel_rfl) (v := (.pointer (some ⟨w.heap.size, 2, none⟩))) (.inl ⟨(wanted_of (j := 10) (b := true) rfl (congrArg some (by simp : decide ((⟨(printS st_1).toArray⟩ : ByteArray) = ⟨(printS st_1).toArray⟩) = true))), fun W_ hW_ => ox_fieldAddr (b := w.heap.size) (o := 0) tF_26_2 g3_f2 ⟨rfl, rfl⟩⟩) ?_
                  have q26 := (((((b1.ext e2).ext e3).ext e4).ext e5).keep1 e6 (by have _q := b1.lt; omega))
                  have q27 := (q26.keep x4 (fun _h => q1.ne_blk q26 (by decide) _ _h rfl))
                  have q28 := (q27.keep x6 (fun _h => q5.ne_blk q27 (by decide) _ _h rfl))
                  have q29 := ((((q28.ext e15).ext e16).ext e17).ext e18)
                  refine xd_take 15 (some 120) rfl rfl (by kernel_rfl) (v := (.int .i64 s.start)) (.inl ⟨(wanted_of (j := 10) (b := true) rfl (congrArg some (by simp : decide ((⟨(printS st_1).toArray⟩ : ByteArray) = ⟨(printS st_1).toArray⟩) = true))), fun W_ hW_ => ox_load (v := (.int .i64 s.start)) tA_3 rfl ((q29.ext hW_).cell rfl) ⟨rfl, rfl⟩⟩) hS5 ?_
                  refine xd_oneW 12 (some 117) rfl rfl (by kernel_rfl) (wanted_of (j := 10) (b := true) rfl (congrArg some (by simp : decide ((⟨(printS st_1).toArray⟩ : ByteArray) = ⟨(printS st_1).toArray⟩) = true))) (ox_callE (al := [(.pointer (some ⟨ba_3, 0, none⟩))]) pf_33 rfl (ret_mono (autx_spec (AutX.ext (AutX.ext hX_3 x18) e21)) ?_))
                  rintro _ w24 ⟨s2, s3, rfl, hO2, hO3, e22⟩
                  have he22 := e22.size
                  have hst9 : s3.start = s.start := by rw [hO3.start, hO2.start, show s1_3.start = s1_3.g.start from rfl, hg1_3]; rfl
                  have hS6 : Chg (fun _ => False) w20 w24 := Chg.ext hS5 e22
                  refine ⟨.inr fun _ => hS6, ?_⟩
                  refine xd_pure 13 (some 118) rfl rfl (by kernel_rfl) (v := (.int .i64 s3.start)) (.inl ⟨(wanted_of (j := 10) (b := true) rfl (congrArg some (by simp : decide ((⟨(printS st_1).toArray⟩ : ByteArray) = ⟨(printS st_1).toArray⟩) = true))), fun W_ hW_ => ox_field (v := (.int .i64 s3.start)) tG_26_2 tA_3 rfl rfl ⟨rfl, rfl⟩⟩) ?_
                  refine xd_pure 16 (some 121) rfl rfl (by kernel_rfl) (v := (.bool (decide ((s3.start : Int) = s.start)))) (.inl ⟨(wanted_of (j := 10) (b := true) rfl (congrArg some (by simp : decide ((⟨(printS st_1).toArray⟩ : ByteArray) = ⟨(printS st_1).toArray⟩) = true))), fun W_ hW_ => ox_eql (k := .i64) (a := s3.start) (b := s.start) rfl rfl ⟨rfl, rfl⟩⟩) ?_
                  refine xd_pure 17 (some 122) rfl rfl (by kernel_rfl) (v := (.bool (decide ((s3.start : Int) = s.start)))) (.inl ⟨rfl, fun W_ hW_ => ox_pick_t (v := (.bool (decide ((s3.start : Int) = s.start)))) (congrArg Value.bool (by simp : decide ((⟨(printS st_1).toArray⟩ : ByteArray) = ⟨(printS st_1).toArray⟩) = true)) rfl ⟨rfl, rfl⟩⟩) ?_
                  refine xd_pure 18 (some 123) rfl rfl (by kernel_rfl) (v := (.bool (decide ((s3.start : Int) = s.start)))) (.inl ⟨rfl, fun W_ hW_ => ox_move (v := (.bool (decide ((s3.start : Int) = s.start)))) rfl ⟨rfl, rfl⟩⟩) ?_
                  have x20 : Ext w w24 := (Ext.trans (Ext.trans x19 e21) e22)
                  refine xd_oneW 19 (some 124) rfl rfl (by kernel_rfl) (wanted_of (j := 18) (b := true) rfl (congrArg some (decide_eq_true hst9))) (ox_callE (al := []) pf_10 rfl (ret_mono (known_calls w24 (TabIs.ext hT x20)) ?_))
                  rintro _ w25 ⟨rfl, e23⟩
                  have he23 := e23.size
                  have hS7 : Chg (fun _ => False) w20 w25 := Chg.ext hS6 e23
                  refine ⟨.inr fun _ => hS7, ?_⟩
                  refine xd_pure 20 (some 125) rfl rfl (by kernel_rfl) (v := (.bool true)) (.inl ⟨rfl, fun W_ hW_ => ox_pick_t (v := (.bool true)) (congrArg Value.bool (decide_eq_true hst9)) rfl ⟨rfl, rfl⟩⟩) ?_
                  refine xd_pure 21 (some 6) rfl rfl (by kernel_rfl) (v := (.bool true)) (.inl ⟨rfl, fun W_ hW_ => ox_assign (v := (.bool true)) rfl ⟨rfl, rfl⟩⟩) ?_
                  refine xd_done (by kernel_rfl) ?_ _
                  refine xc_ret ?_
                  change leaves _ _ _ _ _ _ _
                  refine leaves_nil (n := 126) (rs := [.tmp 6]) (vs := [(.bool true)]) rfl ⟨⟨by decide, rfl⟩, trivial⟩ ?_
                  have x21 : Ext w w25 := (Ext.trans x20 e23)
                  exact ⟨rfl, x21⟩
                · skip
                  have haut2 : Aut o.g st_2 := hg1_2 ▸ hX_2.aut
                  have htw2 := haut2.two
                  have hbg2 := haut2.big
                  refine xc_region ?_
                  refine xl_op (P := Tryz.prog) (some 98) rfl rfl (ox_move (v := (.pointer (some ⟨ba_2, 0, none⟩))) rfl ?_)
                  refine xl_op (P := Tryz.prog) (some 99) rfl rfl (ox_neqNil (p := (some ⟨ba_2, 0, none⟩ : Option Addr)) (q := none) tU_28 rfl rfl (.inr rfl) ?_)
                  refine xl_op (P := Tryz.prog) (some 100) rfl rfl (ox_move (v := (.bool (decide ((some ⟨ba_2, 0, none⟩ : Option Addr) ≠ none)))) rfl ?_)
                  refine xl_opg (P := Tryz.prog) (some 101) (j := 2) (b := true) rfl rfl (congrArg some (decide_eq_true (by simp))) (ox_move (v := (.pointer (some ⟨ba_2, 0, none⟩))) rfl ?_)
                  refine xl_opg (P := Tryz.prog) (some 102) (j := 2) (b := true) rfl rfl (congrArg some (decide_eq_true (by simp))) (ox_callE (al := [(.pointer (some ⟨ba_2, 0, none⟩))]) pf_23 rfl (ret_mono (autx_len (AutX.ext hX_2 e18)) ?_))
                  rintro _ w26 ⟨rfl, e24⟩
                  have he24 := e24.size
                  refine xl_opg (P := Tryz.prog) (some 103) (j := 2) (b := true) rfl rfl (congrArg some (decide_eq_true (by simp))) (ox_lss (k := .i64) (a := ((st_2.length : Nat))) (b := 2) rfl rfl ?_)
                  refine xl_op (P := Tryz.prog) (some 104) rfl rfl (ox_pick_t (v := (.bool (decide (((st_2.length : Nat) : Int) < 2)))) (congrArg Value.bool (decide_eq_true (by simp))) rfl ?_)
                  refine xl_nil ?_
                  refine xc_cond_f (congrArg Value.bool (decide_eq_false (by omega))) ?_
                  refine xc_skip ?_
                  refine xc_seq ?_
                  refine xc_regionE [] (fun W_ => Chg (fun _ => False) w26 W_) hmix ?_
                  intro w27 e25 z11
                  have hS8 : Chg (fun _ => False) w26 w27 := Ext.to e25
                  refine xd_pure 0 (some 105) rfl rfl (by kernel_rfl) (v := (.pointer (some ⟨ba_1, 0, none⟩))) (.inl ⟨rfl, fun W_ hW_ => ox_move (v := (.pointer (some ⟨ba_1, 0, none⟩))) g7_f2 ⟨rfl, rfl⟩⟩) ?_
                  refine xd_pure 2 (some 107) rfl rfl (by kernel_rfl) (v := (.string (⟨(printS st_1).toArray⟩))) (.inl ⟨rfl, fun W_ hW_ => ox_move (v := (.string (⟨(printS st_1).toArray⟩))) rfl ⟨rfl, rfl⟩⟩) ?_
                  have x22 : Ext w17 w27 := (Ext.trans (Ext.trans (Ext.trans (Ext.trans e16 e17) e18) e24) e25)
                  have x23 : Ext w w27 := (Ext.trans (Ext.trans (Ext.trans x15 e18) e24) e25)
                  refine xd_one 1 (some 106) rfl rfl (by kernel_rfl) rfl (ox_callE (al := [(.pointer (some ⟨ba_1, 0, none⟩))]) pf_32 rfl (ret_mono (print_calls s1_1 B_1 ba_1 st_1 w27 (AutX.ext (AutX.ext hX_1 x12) x22) (TabIs.ext hT x23)) ?_))
                  rintro _ w28 ⟨rfl, e26⟩
                  have he26 := e26.size
                  have hS9 : Chg (fun _ => False) w26 w28 := Chg.ext hS8 e26
                  refine ⟨.inr fun _ => hS9, ?_⟩
                  refine xd_pure 3 (some 108) rfl rfl (by kernel_rfl) (v := (.bool (decide ((⟨(printS st_1).toArray⟩ : ByteArray) = ⟨(printS st_1).toArray⟩)))) (.inl ⟨rfl, fun W_ hW_ => ox_eqlStr (a := (⟨(printS st_1).toArray⟩)) (b := (⟨(printS st_1).toArray⟩)) tU_9 rfl rfl ⟨rfl, rfl⟩⟩) ?_
                  refine xd_pure 4 (some 109) rfl rfl (by kernel_rfl) (v := (.bool (decide ((⟨(printS st_1).toArray⟩ : ByteArray) = ⟨(printS st_1).toArray⟩)))) (.inl ⟨rfl, fun W_ hW_ => ox_move (v := (.bool (decide ((⟨(printS st_1).toArray⟩ : ByteArray) = ⟨(printS st_1).toArray⟩)))) rfl ⟨rfl, rfl⟩⟩) ?_
                  refine xd_pure 5 (some 110) rfl rfl (by kernel_rfl) (v := (.pointer (some ⟨ba_3, 0, none⟩))) (.inl ⟨(wanted_of (j := 4) (b := true) rfl (congrArg some (by simp : decide ((⟨(printS st_1).toArray⟩ : ByteArray) = ⟨(printS st_1).toArray⟩) = true))), fun W_ hW_ => ox_move (v := (.pointer (some ⟨ba_3, 0, none⟩))) rfl ⟨rfl, rfl⟩⟩) ?_
                  refine xd_pure 7 (some 112) rfl rfl (by kernel_rfl) (v := (.string (⟨(printS st_1).toArray⟩))) (.inl ⟨(wanted_of (j := 4) (b := true) rfl (congrArg some (by simp : decide ((⟨(printS st_1).toArray⟩ : ByteArray) = ⟨(printS st_1).toArray⟩) = true))), fun W_ hW_ => ox_move (v := (.string (⟨(printS st_1).toArray⟩))) rfl ⟨rfl, rfl⟩⟩) ?_
                  have x24 : Ext w20 w28 := (Ext.trans (Ext.trans e24 e25) e26)
                  have x25 : Ext w w28 := (Ext.trans x23 e26)
                  refine xd_oneW 6 (some 111) rfl rfl (by kernel_rfl) (wanted_of (j := 4) (b := true) rfl (congrArg some (by simp : decide ((⟨(printS st_1).toArray⟩ : ByteArray) = ⟨(printS st_1).toArray⟩) = true))) (ox_callE (al := [(.pointer (some ⟨ba_3, 0, none⟩))]) pf_32 rfl (ret_mono (print_calls s1_3 B_3 ba_3 st_1 w28 (AutX.ext hX_3 x24) (TabIs.ext hT x25)) ?_))
                  rintro _ w29 ⟨rfl, e27⟩
                  have he27 := e27.size
                  have hS10 : Chg (fun _ => False) w26 w29 := Chg.ext hS9 e27
                  refine ⟨.inr fun _ => hS10, ?_⟩
                  refine xd_pure 8 (some 113) rfl rfl (by kernel_rfl) (v := (.bool (decide ((⟨(printS st_1).toArray⟩ : ByteArray) = ⟨(printS st_1).toArray⟩)))) (.inl ⟨(wanted_of (j := 4) (b := true) rfl (congrArg some (by simp : decide ((⟨(printS st_1).toArray⟩ : ByteArray) = ⟨(printS st_1).toArray⟩) = true))), fun W_ hW_ => ox_eqlStr (a := (⟨(printS st_1).toArray⟩)) (b := (⟨(printS st_1).toArray⟩)) tU_9 rfl rfl ⟨rfl, rfl⟩⟩) ?_
                  refine xd_pure 9 (some 114) rfl rfl (by kernel_rfl) (v := (.bool (decide ((⟨(printS st_1).toArray⟩ : ByteArray) = ⟨(printS st_1).toArray⟩)))) (.inl ⟨rfl, fun W_ hW_ => ox_pick_t (v := (.bool (decide ((⟨(printS st_1).toArray⟩ : ByteArray) = ⟨(printS st_1).toArray⟩)))) (congrArg Value.bool (by simp : decide ((⟨(printS st_1).toArray⟩ : ByteArray) = ⟨(printS st_1).toArray⟩) = true)) rfl ⟨rfl, rfl⟩⟩) ?_
                  refine xd_pure 10 (some 115) rfl rfl (by kernel_rfl) (v := (.bool (decide ((⟨(printS st_1).toArray⟩ : ByteArray) = ⟨(printS st_1).toArray⟩)))) (.inl ⟨rfl, fun W_ hW_ => ox_move (v := (.bool (decide ((⟨(printS st_1).toArray⟩ : ByteArray) = ⟨(printS st_1).toArray⟩)))) rfl ⟨rfl, rfl⟩⟩) ?_
                  refine xd_pure 11 (some 116) rfl rfl (by kernel_rfl) (v := (.pointer (some ⟨ba_3, 0, none⟩))) (.inl ⟨(wanted_of (j := 10) (b := true) rfl (congrArg some (by simp : decide ((⟨(printS st_1).toArray⟩ : ByteArray) = ⟨(printS st_1).toArray⟩) = true))), fun W_ hW_ => ox_move (v := (.pointer (some ⟨ba_3, 0, none⟩))) rfl ⟨rfl, rfl⟩⟩) ?_
                  refine xd_pure 14 (some 119) rfl rfl (by kernel_rfl) (v := (.pointer (some ⟨w.heap.size, 2, none⟩))) (.inl ⟨(wanted_of (j := 10) (b := true) rfl (congrArg some (by simp : decide ((⟨(printS st_1).toArray⟩ : ByteArray) = ⟨(printS st_1).toArray⟩) = true))), fun W_ hW_ => ox_fieldAddr (b := w.heap.size) (o := 0) tF_26_2 g3_f2 ⟨rfl, rfl⟩⟩) ?_
                  have q30 := (((((b1.ext e2).ext e3).ext e4).ext e5).keep1 e6 (by have _q := b1.lt; omega))
                  have q31 := (q30.keep x4 (fun _h => q1.ne_blk q30 (by decide) _ _h rfl))
                  have q32 := (q31.keep x6 (fun _h => q5.ne_blk q31 (by decide) _ _h rfl))
                  have q33 := ((((q32.ext e15).ext e16).ext e17).ext e18)
                  refine xd_take 15 (some 120) rfl rfl (by kernel_rfl) (v := (.int .i64 s.start)) (.inl ⟨(wanted_of (j := 10) (b := true) rfl (congrArg some (by simp : decide ((⟨(printS st_1).toArray⟩ : ByteArray) = ⟨(printS st_1).toArray⟩) = true))), fun W_ hW_ => ox_load (v := (.int .i64 s.start)) tA_3 rfl (((q33.ext e24).ext hW_).cell rfl) ⟨rfl, rfl⟩⟩) hS10 ?_
                  refine xd_oneW 12 (some 117) rfl rfl (by kernel_rfl) (wanted_of (j := 10) (b := true) rfl (congrArg some (by simp : decide ((⟨(printS st_1).toArray⟩ : ByteArray) = ⟨(printS st_1).toArray⟩) = true))) (ox_callE (al := [(.pointer (some ⟨ba_3, 0, none⟩))]) pf_33 rfl (ret_mono (autx_spec (AutX.ext (AutX.ext hX_3 x24) e27)) ?_))
                  rintro _ w30 ⟨s2, s3, rfl, hO2, hO3, e28⟩
                  have he28 := e28.size
                  have hst9 : s3.start = s.start := by rw [hO3.start, hO2.start, show s1_3.start = s1_3.g.start from rfl, hg1_3]; rfl
                  have hS11 : Chg (fun _ => False) w26 w30 := Chg.ext hS10 e28
                  refine ⟨.inr fun _ => hS11, ?_⟩
                  refine xd_pure 13 (some 118) rfl rfl (by kernel_rfl) (v := (.int .i64 s3.start)) (.inl ⟨(wanted_of (j := 10) (b := true) rfl (congrArg some (by simp : decide ((⟨(printS st_1).toArray⟩ : ByteArray) = ⟨(printS st_1).toArray⟩) = true))), fun W_ hW_ => ox_field (v := (.int .i64 s3.start)) tG_26_2 tA_3 rfl rfl ⟨rfl, rfl⟩⟩) ?_
                  refine xd_pure 16 (some 121) rfl rfl (by kernel_rfl) (v := (.bool (decide ((s3.start : Int) = s.start)))) (.inl ⟨(wanted_of (j := 10) (b := true) rfl (congrArg some (by simp : decide ((⟨(printS st_1).toArray⟩ : ByteArray) = ⟨(printS st_1).toArray⟩) = true))), fun W_ hW_ => ox_eql (k := .i64) (a := s3.start) (b := s.start) rfl rfl ⟨rfl, rfl⟩⟩) ?_
                  refine xd_pure 17 (some 122) rfl rfl (by kernel_rfl) (v := (.bool (decide ((s3.start : Int) = s.start)))) (.inl ⟨rfl, fun W_ hW_ => ox_pick_t (v := (.bool (decide ((s3.start : Int) = s.start)))) (congrArg Value.bool (by simp : decide ((⟨(printS st_1).toArray⟩ : ByteArray) = ⟨(printS st_1).toArray⟩) = true)) rfl ⟨rfl, rfl⟩⟩) ?_
                  refine xd_pure 18 (some 123) rfl rfl (by kernel_rfl) (v := (.bool (decide ((s3.start : Int) = s.start)))) (.inl ⟨rfl, fun W_ hW_ => ox_move (v := (.bool (decide ((s3.start : Int) = s.start)))) rfl ⟨rfl, rfl⟩⟩) ?_
                  have x26 : Ext w w30 := (Ext.trans (Ext.trans x25 e27) e28)
                  refine xd_oneW 19 (some 124) rfl rfl (by kernel_rfl) (wanted_of (j := 18) (b := true) rfl (congrArg some (decide_eq_true hst9))) (ox_callE (al := []) pf_10 rfl (ret_mono (known_calls w30 (TabIs.ext hT x26)) ?_))
                  rintro _ w31 ⟨rfl, e29⟩
                  have he29 := e29.size
                  have hS12 : Chg (fun _ => False) w26 w31 := Chg.ext hS11 e29
                  refine ⟨.inr fun _ => hS12, ?_⟩
                  refine xd_pure 20 (some 125) rfl rfl (by kernel_rfl) (v := (.bool true)) (.inl ⟨rfl, fun W_ hW_ => ox_pick_t (v := (.bool true)) (congrArg Value.bool (decide_eq_true hst9)) rfl ⟨rfl, rfl⟩⟩) ?_
                  refine xd_pure 21 (some 6) rfl rfl (by kernel_rfl) (v := (.bool true)) (.inl ⟨rfl, fun W_ hW_ => ox_assign (v := (.bool true)) rfl ⟨rfl, rfl⟩⟩) ?_
                  refine xd_done (by kernel_rfl) ?_ _
                  refine xc_ret ?_
                  change leaves _ _ _ _ _ _ _
                  refine leaves_nil (n := 126) (rs := [.tmp 6]) (vs := [(.bool true)]) rfl ⟨⟨by decide, rfl⟩, trivial⟩ ?_
                  have x27 : Ext w w31 := (Ext.trans x26 e29)
                  exact ⟨rfl, x27⟩
        · skip
          refine xl_skip (some 52) (j := 5) (b := true) false rfl rfl (congrArg some (decide_eq_false h3)) (by decide) ?_
          refine xl_skip (some 53) (j := 5) (b := true) false rfl rfl (congrArg some (decide_eq_false h3)) (by decide) ?_
          refine xl_skip (some 54) (j := 5) (b := true) false rfl rfl (congrArg some (decide_eq_false h3)) (by decide) ?_
          refine xl_skip (some 55) (j := 5) (b := true) false rfl rfl (congrArg some (decide_eq_false h3)) (by decide) ?_
          refine xl_op (P := Tryz.prog) (some 56) rfl rfl (ox_pick_f (v := (.bool false)) (congrArg Value.bool (decide_eq_false h3)) rfl ?_)
          refine xl_nil ?_
          refine xc_cond_f rfl ?_
          refine xc_exit ?_
          refine xc_seq ?_
          refine xc_region ?_
          refine xl_op (P := Tryz.prog) (some 11) rfl rfl (ox_assign (v := (.string (⟨#[]⟩))) rfl ?_)
          refine xl_nil ?_
          refine xc_seq ?_
          refine xc_seq ?_
          rcases hb1 with ⟨hn_1, rfl⟩ | ⟨s1_1, ba_1, st_1, rfl, hg1_1, hbu_1, B_1, hB_1, hX_1⟩
          · skip
            refine xc_region ?_
            refine xl_op (P := Tryz.prog) (some 71) rfl rfl (ox_move (v := (.pointer none)) g7_f2 ?_)
            refine xl_op (P := Tryz.prog) (some 72) rfl rfl (ox_neqNil (p := none) (q := none) tU_28 rfl rfl (.inr rfl) ?_)
            refine xl_op (P := Tryz.prog) (some 73) rfl rfl (ox_move (v := (.bool (decide ((none : Option Addr) ≠ none)))) rfl ?_)
            refine xl_skip (some 74) (j := 2) (b := true) false rfl rfl (congrArg some (decide_eq_false (by simp))) (by decide) ?_
            refine xl_skip (some 75) (j := 2) (b := true) false rfl rfl (congrArg some (decide_eq_false (by simp))) (by decide) ?_
            refine xl_skip (some 76) (j := 2) (b := true) false rfl rfl (congrArg some (decide_eq_false (by simp))) (by decide) ?_
            refine xl_op (P := Tryz.prog) (some 77) rfl rfl (ox_pick_f (v := (.bool false)) (congrArg Value.bool (decide_eq_false (by simp))) rfl ?_)
            refine xl_nil ?_
            refine xc_cond_f rfl ?_
            refine xc_skip ?_
            refine xc_seq ?_
            refine xc_seq ?_
            refine xc_region ?_
            refine xl_op (P := Tryz.prog) (some 78) rfl rfl (ox_move (v := (.pointer none)) g7_f2 ?_)
            refine xl_op (P := Tryz.prog) (some 79) rfl rfl (ox_neqNil (p := none) (q := none) tU_28 rfl rfl (.inr rfl) ?_)
            refine xl_nil ?_
            refine xc_cond_f (congrArg Value.bool (decide_eq_false (by simp))) ?_
            refine xc_skip ?_
            refine xc_seq ?_
            refine xc_region ?_
            have q34 := ((((b2.ext e3).ext e4).ext e5).keep1 e6 (by have _q := b2.lt; omega))
            have q35 := (q34.keep x4 (fun _h => q1.ne_blk q34 (by decide) _ _h rfl))
            have q36 := (q35.keep x6 (fun _h => q5.ne_blk q35 (by decide) _ _h rfl))
            refine xl_op (P := Tryz.prog) (some 82) rfl rfl (ox_loadN (vs := [(.slice o.lA o.lex.length o.lc), (.slice o.nA o.names.length o.nc), (.int .i64 o.start), (.slice o.pA o.prods.length o.pc)]) tA_26 tS_26 g5_f2 rfl ⟨q36.cell rfl, q36.cell rfl, q36.cell rfl, q36.cell rfl, trivial⟩ ?_)
            have x28 : Ext w w11 := (Chg.trans (Chg.trans (Ext.chg1 (Ext.trans x3 e5) e6 (by omega)) x4 (fun b hb hl => (absurd hl (by have _h := hL_.lowL b hb; omega)))) x6 (fun b hb hl => (absurd hl (by have _h := hL_.lowN b hb; omega))))
            refine xl_op (P := Tryz.prog) (some 83) rfl rfl (ox_callE (al := [(.agg #[(.slice o.lA o.lex.length o.lc), (.slice o.nA o.names.length o.nc), (.int .i64 o.start), (.slice o.pA o.prods.length o.pc)])]) pf_9 rfl (ret_mono (built_calls2 o w11 (hO.ext x28) (TabIs.ext hT x28)) ?_))
            rintro _ w32 ⟨p6, rfl, e30, hb7⟩
            have he30 := e30.size
            refine xl_op (P := Tryz.prog) (some 12) rfl rfl (ox_assign (v := (.pointer p6)) rfl ?_)
            refine xl_nil ?_
            refine xc_seq ?_
            refine xc_region ?_
            refine xl_op (P := Tryz.prog) (some 84) rfl rfl (ox_loadN (vs := [(.slice s_1.lA s_1.lex.length s_1.lc), (.slice s_1.nA s_1.names.length s_1.nc), (.int .i64 s_1.start), (.slice s_1.pA s_1.prods.length s_1.pc)]) tA_26 tS_26 g8_f2 rfl ⟨(q6.ext e30).cell rfl, (q6.ext e30).cell rfl, (q6.ext e30).cell rfl, (q6.ext e30).cell rfl, trivial⟩ ?_)
            have q37 := (o0_f1.keep x6 (fun _k _hk => o0_f1.ne_own q5 (by decide) _k _hk))
            have q38 := ((hL_.prodsO.ext e5).keep1 e6 (fun k hk => (hL_.prodsO.ext e5).ne_blk b3 (by decide) k hk))
            have q39 := (q38.keep x4 (fun _k _hk => q38.ne_own q1 (by decide) _k _hk))
            have q40 := (q39.keep x6 (fun _k _hk => q39.ne_own q5 (by decide) _k _hk))
            have q41 := (PdF.keepB (PdF.ext hL_.prodsR e5) e6 b3 (by decide))
            have q42 := (PdF.keepO (PdF.keepO q41 x4 q1 (by decide)) x6 q5 (by decide))
            obtain ⟨hBs, hBg, hBl1, hBl2⟩ := blind_spr hL_ hLs_ hS.fr (q37.ext e30) (by have h9 : i = s_1.lex.length := (by omega); rw [← h9]; exact hBl) (o0_f2.ext e30) (q40.ext e30) (PdF.ext q42 e30)
            have x29 : Ext w w32 := (Ext.trans x28 e30)
            refine xl_op (P := Tryz.prog) (some 85) rfl rfl (ox_callE (al := [(.agg #[(.slice s_1.lA s_1.lex.length s_1.lc), (.slice s_1.nA s_1.names.length s_1.nc), (.int .i64 s_1.start), (.slice s_1.pA s_1.prods.length s_1.pc)])]) pf_9 rfl (ret_mono (built_at (s := s_1) hBs (TabIs.ext hT x29) rfl hBl1 rfl rfl hBl2 rfl rfl rfl rfl rfl hBg) ?_))
            rintro _ w33 ⟨p7, rfl, e31, hb8⟩
            have he31 := e31.size
            refine xl_op (P := Tryz.prog) (some 13) rfl rfl (ox_assign (v := (.pointer p7)) rfl ?_)
            refine xl_nil ?_
            refine xc_seq ?_
            refine xc_seq ?_
            rcases hb8 with ⟨hn_3, rfl⟩ | ⟨s1_3, ba_3, st_3, rfl, hg1_3, hbu_3, B_3, hB_3, hX_3⟩
            · skip
              refine xc_region ?_
              refine xl_op (P := Tryz.prog) (some 86) rfl rfl (ox_move (v := (.pointer none)) g7_f2 ?_)
              refine xl_op (P := Tryz.prog) (some 87) rfl rfl (ox_eqlNil (p := none) (q := none) tU_28 rfl rfl (.inr rfl) ?_)
              refine xl_op (P := Tryz.prog) (some 88) rfl rfl (ox_move (v := (.pointer none)) rfl ?_)
              refine xl_op (P := Tryz.prog) (some 89) rfl rfl (ox_eqlNil (p := none) (q := none) tU_28 rfl rfl (.inr rfl) ?_)
              refine xl_op (P := Tryz.prog) (some 90) rfl rfl (ox_neqBool (a := ((decide ((none : Option Addr) = none)))) (b := ((decide ((none : Option Addr) = none)))) tU_4 rfl rfl ?_)
              refine xl_nil ?_
              refine xc_cond_f (congrArg Value.bool (decide_eq_false (by simp))) ?_
              refine xc_skip ?_
              refine xc_seq ?_
              refine xc_seq ?_
              refine xc_region ?_
              refine xl_op (P := Tryz.prog) (some 91) rfl rfl (ox_move (v := (.pointer none)) g7_f2 ?_)
              refine xl_op (P := Tryz.prog) (some 92) rfl rfl (ox_eqlNil (p := none) (q := none) tU_28 rfl rfl (.inr rfl) ?_)
              refine xl_op (P := Tryz.prog) (some 93) rfl rfl (ox_move (v := (.bool (decide ((none : Option Addr) = none)))) rfl ?_)
              refine xl_skip (some 94) (j := 2) (b := false) true rfl rfl (congrArg some (decide_eq_true rfl)) (by decide) ?_
              refine xl_skip (some 95) (j := 2) (b := false) true rfl rfl (congrArg some (decide_eq_true rfl)) (by decide) ?_
              refine xl_op (P := Tryz.prog) (some 96) rfl rfl (ox_pick_t (v := (.bool true)) (congrArg Value.bool (decide_eq_true rfl)) rfl ?_)
              refine xl_nil ?_
              refine xc_cond_t rfl ?_
              refine xc_seq ?_
              refine xc_region ?_
              have x30 : Ext w w33 := (Ext.trans x29 e31)
              refine xl_op (P := Tryz.prog) (some 97) rfl rfl (ox_callE (al := []) pf_10 rfl (ret_mono (known_calls w33 (TabIs.ext hT x30)) ?_))
              rintro _ w34 ⟨rfl, e32⟩
              have he32 := e32.size
              refine xl_op (P := Tryz.prog) (some 6) rfl rfl (ox_assign (v := (.bool true)) rfl ?_)
              refine xl_nil ?_
              refine xc_ret ?_
              change leaves _ _ _ _ _ _ _
              refine leaves_nil (n := 126) (rs := [.tmp 6]) (vs := [(.bool true)]) rfl ⟨⟨by decide, rfl⟩, trivial⟩ ?_
              have x31 : Ext w w34 := (Ext.trans x30 e32)
              exact ⟨rfl, x31⟩
            · skip
              have haut3 : Aut s.g st_3 := hg1_3 ▸ hX_3.aut
              have htw3 := haut3.two
              have hbg3 := haut3.big
              exact absurd (hn_1.symm.trans hbu_3) (by simp)
          · skip
            have haut1 : Aut s.g st_1 := hg1_1 ▸ hX_1.aut
            have htw1 := haut1.two
            have hbg1 := haut1.big
            refine xc_region ?_
            refine xl_op (P := Tryz.prog) (some 71) rfl rfl (ox_move (v := (.pointer (some ⟨ba_1, 0, none⟩))) g7_f2 ?_)
            refine xl_op (P := Tryz.prog) (some 72) rfl rfl (ox_neqNil (p := (some ⟨ba_1, 0, none⟩ : Option Addr)) (q := none) tU_28 rfl rfl (.inr rfl) ?_)
            refine xl_op (P := Tryz.prog) (some 73) rfl rfl (ox_move (v := (.bool (decide ((some ⟨ba_1, 0, none⟩ : Option Addr) ≠ none)))) rfl ?_)
            refine xl_opg (P := Tryz.prog) (some 74) (j := 2) (b := true) rfl rfl (congrArg some (decide_eq_true (by simp))) (ox_move (v := (.pointer (some ⟨ba_1, 0, none⟩))) g7_f2 ?_)
            refine xl_opg (P := Tryz.prog) (some 75) (j := 2) (b := true) rfl rfl (congrArg some (decide_eq_true (by simp))) (ox_callE (al := [(.pointer (some ⟨ba_1, 0, none⟩))]) pf_31 rfl (ret_mono (all_calls ba_1 w11) ?_))
            rintro _ w35 ⟨b6, rfl, hb9, _, e33⟩
            have he33 := e33.size
            have hhb99 := hb9.lt
            refine xl_opg (P := Tryz.prog) (some 76) (j := 2) (b := true) rfl rfl (congrArg some (decide_eq_true (by simp))) (ox_eqlFnil tU_68 rfl rfl ?_)
            refine xl_op (P := Tryz.prog) (some 77) rfl rfl (ox_pick_t (v := (.bool false)) (congrArg Value.bool (decide_eq_true (by simp))) rfl ?_)
            refine xl_nil ?_
            refine xc_cond_f rfl ?_
            refine xc_skip ?_
            refine xc_seq ?_
            refine xc_seq ?_
            refine xc_region ?_
            refine xl_op (P := Tryz.prog) (some 78) rfl rfl (ox_move (v := (.pointer (some ⟨ba_1, 0, none⟩))) g7_f2 ?_)
            refine xl_op (P := Tryz.prog) (some 79) rfl rfl (ox_neqNil (p := (some ⟨ba_1, 0, none⟩ : Option Addr)) (q := none) tU_28 rfl rfl (.inr rfl) ?_)
            refine xl_nil ?_
            refine xc_cond_t (congrArg Value.bool (decide_eq_true (by simp))) ?_
            refine xc_region ?_
            refine xl_op (P := Tryz.prog) (some 80) rfl rfl (ox_move (v := (.pointer (some ⟨ba_1, 0, none⟩))) g7_f2 ?_)
            have x32 : Ext w3 w35 := (Ext.trans (Chg.trans (Chg.trans (Ext.chg1 (Ext.trans e4 e5) e6 (by omega)) x4 (fun b hb hl => (absurd hl (by have _h := hL_.lowL b hb; omega)))) x6 (fun b hb hl => (absurd hl (by have _h := hL_.lowN b hb; omega)))) e33)
            have x33 : Ext w w35 := (Ext.trans (Chg.trans (Chg.trans (Ext.chg1 (Ext.trans x3 e5) e6 (by omega)) x4 (fun b hb hl => (absurd hl (by have _h := hL_.lowL b hb; omega)))) x6 (fun b hb hl => (absurd hl (by have _h := hL_.lowN b hb; omega)))) e33)
            refine xl_op (P := Tryz.prog) (some 81) rfl rfl (ox_callE (al := [(.pointer (some ⟨ba_1, 0, none⟩))]) pf_32 rfl (ret_mono (print_calls s1_1 B_1 ba_1 st_1 w35 (AutX.ext hX_1 x32) (TabIs.ext hT x33)) ?_))
            rintro _ w36 ⟨rfl, e34⟩
            have he34 := e34.size
            refine xl_op (P := Tryz.prog) (some 11) rfl rfl (ox_assign (v := (.string (⟨(printS st_1).toArray⟩))) rfl ?_)
            refine xl_nil ?_
            refine xc_seq ?_
            refine xc_region ?_
            have q43 := ((((b2.ext e3).ext e4).ext e5).keep1 e6 (by have _q := b2.lt; omega))
            have q44 := (q43.keep x4 (fun _h => q1.ne_blk q43 (by decide) _ _h rfl))
            have q45 := (q44.keep x6 (fun _h => q5.ne_blk q44 (by decide) _ _h rfl))
            refine xl_op (P := Tryz.prog) (some 82) rfl rfl (ox_loadN (vs := [(.slice o.lA o.lex.length o.lc), (.slice o.nA o.names.length o.nc), (.int .i64 o.start), (.slice o.pA o.prods.length o.pc)]) tA_26 tS_26 g5_f2 rfl ⟨((q45.ext e33).ext e34).cell rfl, ((q45.ext e33).ext e34).cell rfl, ((q45.ext e33).ext e34).cell rfl, ((q45.ext e33).ext e34).cell rfl, trivial⟩ ?_)
            have x34 : Ext w w36 := (Ext.trans x33 e34)
            refine xl_op (P := Tryz.prog) (some 83) rfl rfl (ox_callE (al := [(.agg #[(.slice o.lA o.lex.length o.lc), (.slice o.nA o.names.length o.nc), (.int .i64 o.start), (.slice o.pA o.prods.length o.pc)])]) pf_9 rfl (ret_mono (built_calls2 o w36 (hO.ext x34) (TabIs.ext hT x34)) ?_))
            rintro _ w37 ⟨p8, rfl, e35, hb10⟩
            have he35 := e35.size
            refine xl_op (P := Tryz.prog) (some 12) rfl rfl (ox_assign (v := (.pointer p8)) rfl ?_)
            refine xl_nil ?_
            refine xc_seq ?_
            refine xc_region ?_
            refine xl_op (P := Tryz.prog) (some 84) rfl rfl (ox_loadN (vs := [(.slice s_1.lA s_1.lex.length s_1.lc), (.slice s_1.nA s_1.names.length s_1.nc), (.int .i64 s_1.start), (.slice s_1.pA s_1.prods.length s_1.pc)]) tA_26 tS_26 g8_f2 rfl ⟨(((q6.ext e33).ext e34).ext e35).cell rfl, (((q6.ext e33).ext e34).ext e35).cell rfl, (((q6.ext e33).ext e34).ext e35).cell rfl, (((q6.ext e33).ext e34).ext e35).cell rfl, trivial⟩ ?_)
            have q46 := (o0_f1.keep x6 (fun _k _hk => o0_f1.ne_own q5 (by decide) _k _hk))
            have q47 := ((hL_.prodsO.ext e5).keep1 e6 (fun k hk => (hL_.prodsO.ext e5).ne_blk b3 (by decide) k hk))
            have q48 := (q47.keep x4 (fun _k _hk => q47.ne_own q1 (by decide) _k _hk))
            have q49 := (q48.keep x6 (fun _k _hk => q48.ne_own q5 (by decide) _k _hk))
            have q50 := (PdF.keepB (PdF.ext hL_.prodsR e5) e6 b3 (by decide))
            have q51 := (PdF.keepO (PdF.keepO q50 x4 q1 (by decide)) x6 q5 (by decide))
            have q52 := (PdF.ext (PdF.ext (PdF.ext q51 e33) e34) e35)
            obtain ⟨hBs, hBg, hBl1, hBl2⟩ := blind_spr hL_ hLs_ hS.fr (((q46.ext e33).ext e34).ext e35) (by have h9 : i = s_1.lex.length := (by omega); rw [← h9]; exact hBl) (((o0_f2.ext e33).ext e34).ext e35) (((q49.ext e33).ext e34).ext e35) q52
            have x35 : Ext w w37 := (Ext.trans x34 e35)
            refine xl_op (P := Tryz.prog) (some 85) rfl rfl (ox_callE (al := [(.agg #[(.slice s_1.lA s_1.lex.length s_1.lc), (.slice s_1.nA s_1.names.length s_1.nc), (.int .i64 s_1.start), (.slice s_1.pA s_1.prods.length s_1.pc)])]) pf_9 rfl (ret_mono (built_at (s := s_1) hBs (TabIs.ext hT x35) rfl hBl1 rfl rfl hBl2 rfl rfl rfl rfl rfl hBg) ?_))
            rintro _ w38 ⟨p9, rfl, e36, hb11⟩
            have he36 := e36.size
            refine xl_op (P := Tryz.prog) (some 13) rfl rfl (ox_assign (v := (.pointer p9)) rfl ?_)
            refine xl_nil ?_
            refine xc_seq ?_
            refine xc_seq ?_
            rcases hb11 with ⟨hn_3, rfl⟩ | ⟨s1_3, ba_3, st_3, rfl, hg1_3, hbu_3, B_3, hB_3, hX_3⟩
            · skip
              exact absurd (hn_3.symm.trans hbu_1) (by simp)
            · skip
              have haut3 : Aut s.g st_3 := hg1_3 ▸ hX_3.aut
              have htw3 := haut3.two
              have hbg3 := haut3.big
              have hst9 : st_1 = st_3 := Option.some.inj (hbu_1.symm.trans hbu_3)
              subst hst9
              refine xc_region ?_
              refine xl_op (P := Tryz.prog) (some 86) rfl rfl (ox_move (v := (.pointer (some ⟨ba_1, 0, none⟩))) g7_f2 ?_)
              refine xl_op (P := Tryz.prog) (some 87) rfl rfl (ox_eqlNil (p := (some ⟨ba_1, 0, none⟩ : Option Addr)) (q := none) tU_28 rfl rfl (.inr rfl) ?_)
              refine xl_op (P := Tryz.prog) (some 88) rfl rfl (ox_move (v := (.pointer (some ⟨ba_3, 0, none⟩))) rfl ?_)
              refine xl_op (P := Tryz.prog) (some 89) rfl rfl (ox_eqlNil (p := (some ⟨ba_3, 0, none⟩ : Option Addr)) (q := none) tU_28 rfl rfl (.inr rfl) ?_)
              refine xl_op (P := Tryz.prog) (some 90) rfl rfl (ox_neqBool (a := ((decide ((some ⟨ba_1, 0, none⟩ : Option Addr) = none)))) (b := ((decide ((some ⟨ba_3, 0, none⟩ : Option Addr) = none)))) tU_4 rfl rfl ?_)
              refine xl_nil ?_
              refine xc_cond_f (congrArg Value.bool (decide_eq_false (by simp))) ?_
              refine xc_skip ?_
              refine xc_seq ?_
              refine xc_seq ?_
              refine xc_region ?_
              refine xl_op (P := Tryz.prog) (some 91) rfl rfl (ox_move (v := (.pointer (some ⟨ba_1, 0, none⟩))) g7_f2 ?_)
              refine xl_op (P := Tryz.prog) (some 92) rfl rfl (ox_eqlNil (p := (some ⟨ba_1, 0, none⟩ : Option Addr)) (q := none) tU_28 rfl rfl (.inr rfl) ?_)
              refine xl_op (P := Tryz.prog) (some 93) rfl rfl (ox_move (v := (.bool (decide ((some ⟨ba_1, 0, none⟩ : Option Addr) = none)))) rfl ?_)
              refine xl_opg (P := Tryz.prog) (some 94) (j := 2) (b := false) rfl rfl (congrArg some (decide_eq_false (by simp))) (ox_move (v := (.pointer (some ⟨ba_3, 0, none⟩))) rfl ?_)
              refine xl_opg (P := Tryz.prog) (some 95) (j := 2) (b := false) rfl rfl (congrArg some (decide_eq_false (by simp))) (ox_eqlNil (p := (some ⟨ba_3, 0, none⟩ : Option Addr)) (q := none) tU_28 rfl rfl (.inr rfl) ?_)
              refine xl_op (P := Tryz.prog) (some 96) rfl rfl (ox_pick_f (v := (.bool (decide ((some ⟨ba_3, 0, none⟩ : Option Addr) = none)))) (congrArg Value.bool (decide_eq_false (by simp))) rfl ?_)
              refine xl_nil ?_
              refine xc_cond_f (congrArg Value.bool (decide_eq_false (by simp))) ?_
              refine xc_skip ?_
              refine xc_seq ?_
              refine xc_seq ?_
              rcases hb10 with ⟨hn_2, rfl⟩ | ⟨s1_2, ba_2, st_2, rfl, hg1_2, hbu_2, B_2, hB_2, hX_2⟩
              · skip
                refine xc_region ?_
                refine xl_op (P := Tryz.prog) (some 98) rfl rfl (ox_move (v := (.pointer none)) rfl ?_)
                refine xl_op (P := Tryz.prog) (some 99) rfl rfl (ox_neqNil (p := none) (q := none) tU_28 rfl rfl (.inr rfl) ?_)
                refine xl_op (P := Tryz.prog) (some 100) rfl rfl (ox_move (v := (.bool (decide ((none : Option Addr) ≠ none)))) rfl ?_)
                refine xl_skip (some 101) (j := 2) (b := true) false rfl rfl (congrArg some (decide_eq_false (by simp))) (by decide) ?_
                refine xl_skip (some 102) (j := 2) (b := true) false rfl rfl (congrArg some (decide_eq_false (by simp))) (by decide) ?_
                refine xl_skip (some 103) (j := 2) (b := true) false rfl rfl (congrArg some (decide_eq_false (by simp))) (by decide) ?_
                refine xl_op (P := Tryz.prog) (some 104) rfl rfl (ox_pick_f (v := (.bool false)) (congrArg Value.bool (decide_eq_false (by simp))) rfl ?_)
                refine xl_nil ?_
                refine xc_cond_f rfl ?_
                refine xc_skip ?_
                refine xc_seq ?_
                refine xc_regionE [] (fun W_ => Chg (fun _ => False) w38 W_) hmix ?_
                intro w39 e37 z12
                have hS13 : Chg (fun _ => False) w38 w39 := Ext.to e37
                refine xd_pure 0 (some 105) rfl rfl (by kernel_rfl) (v := (.pointer (some ⟨ba_1, 0, none⟩))) (.inl ⟨rfl, fun W_ hW_ => ox_move (v := (.pointer (some ⟨ba_1, 0, none⟩))) g7_f2 ⟨rfl, rfl⟩⟩) ?_
                refine xd_pure 2 (some 107) rfl rfl (by kernel_rfl) (v := (.string (⟨(printS st_1).toArray⟩))) (.inl ⟨rfl, fun W_ hW_ => ox_move (v := (.string (⟨(printS st_1).toArray⟩))) rfl ⟨rfl, rfl⟩⟩) ?_
                have x36 : Ext w35 w39 := (Ext.trans (Ext.trans (Ext.trans e34 e35) e36) e37)
                have x37 : Ext w w39 := (Ext.trans (Ext.trans x35 e36) e37)
                refine xd_one 1 (some 106) rfl rfl (by kernel_rfl) rfl (ox_callE (al := [(.pointer (some ⟨ba_1, 0, none⟩))]) pf_32 rfl (ret_mono (print_calls s1_1 B_1 ba_1 st_1 w39 (AutX.ext (AutX.ext hX_1 x32) x36) (TabIs.ext hT x37)) ?_))
                rintro _ w40 ⟨rfl, e38⟩
                have he38 := e38.size
                have hS14 : Chg (fun _ => False) w38 w40 := Chg.ext hS13 e38
                refine ⟨.inr fun _ => hS14, ?_⟩
                refine xd_pure 3 (some 108) rfl rfl (by kernel_rfl) (v := (.bool (decide ((⟨(printS st_1).toArray⟩ : ByteArray) = ⟨(printS st_1).toArray⟩)))) (.inl ⟨rfl, fun W_ hW_ => ox_eqlStr (a := (⟨(printS st_1).toArray⟩)) (b := (⟨(printS st_1).toArray⟩)) tU_9 rfl rfl ⟨rfl, rfl⟩⟩) ?_
                refine xd_pure 4 (some 109) rfl rfl (by kernel_rfl) (v := (.bool (decide ((⟨(printS st_1).toArray⟩ : ByteArray) = ⟨(printS st_1).toArray⟩)))) (.inl ⟨rfl, fun W_ hW_ => ox_move (v := (.bool (decide ((⟨(printS st_1).toArray⟩ : ByteArray) = ⟨(printS st_1).toArray⟩)))) rfl ⟨rfl, rfl⟩⟩) ?_
                refine xd_pure 5 (some 110) rfl rfl (by kernel_rfl) (v := (.pointer (some ⟨ba_3, 0, none⟩))) (.inl ⟨(wanted_of (j := 4) (b := true) rfl (congrArg some (by simp : decide ((⟨(printS st_1).toArray⟩ : ByteArray) = ⟨(printS st_1).toArray⟩) = true))), fun W_ hW_ => ox_move (v := (.pointer (some ⟨ba_3, 0, none⟩))) rfl ⟨rfl, rfl⟩⟩) ?_
                refine xd_pure 7 (some 112) rfl rfl (by kernel_rfl) (v := (.string (⟨(printS st_1).toArray⟩))) (.inl ⟨(wanted_of (j := 4) (b := true) rfl (congrArg some (by simp : decide ((⟨(printS st_1).toArray⟩ : ByteArray) = ⟨(printS st_1).toArray⟩) = true))), fun W_ hW_ => ox_move (v := (.string (⟨(printS st_1).toArray⟩))) rfl ⟨rfl, rfl⟩⟩) ?_
                have x38 : Ext w38 w40 := (Ext.trans e37 e38)
                have x39 : Ext w w40 := (Ext.trans x37 e38)
                refine xd_oneW 6 (some 111) rfl rfl (by kernel_rfl) (wanted_of (j := 4) (b := true) rfl (congrArg some (by simp : decide ((⟨(printS st_1).toArray⟩ : ByteArray) = ⟨(printS st_1).toArray⟩) = true))) (ox_callE (al := [(.pointer (some ⟨ba_3, 0, none⟩))]) pf_32 rfl (ret_mono (print_calls s1_3 B_3 ba_3 st_1 w40 (AutX.ext hX_3 x38) (TabIs.ext hT x39)) ?_))
                rintro _ w41 ⟨rfl, e39⟩
                have he39 := e39.size
                have hS15 : Chg (fun _ => False) w38 w41 := Chg.ext hS14 e39
                refine ⟨.inr fun _ => hS15, ?_⟩
                refine xd_pure 8 (some 113) rfl rfl (by kernel_rfl) (v := (.bool (decide ((⟨(printS st_1).toArray⟩ : ByteArray) = ⟨(printS st_1).toArray⟩)))) (.inl ⟨(wanted_of (j := 4) (b := true) rfl (congrArg some (by simp : decide ((⟨(printS st_1).toArray⟩ : ByteArray) = ⟨(printS st_1).toArray⟩) = true))), fun W_ hW_ => ox_eqlStr (a := (⟨(printS st_1).toArray⟩)) (b := (⟨(printS st_1).toArray⟩)) tU_9 rfl rfl ⟨rfl, rfl⟩⟩) ?_
                refine xd_pure 9 (some 114) rfl rfl (by kernel_rfl) (v := (.bool (decide ((⟨(printS st_1).toArray⟩ : ByteArray) = ⟨(printS st_1).toArray⟩)))) (.inl ⟨rfl, fun W_ hW_ => ox_pick_t (v := (.bool (decide ((⟨(printS st_1).toArray⟩ : ByteArray) = ⟨(printS st_1).toArray⟩)))) (congrArg Value.bool (by simp : decide ((⟨(printS st_1).toArray⟩ : ByteArray) = ⟨(printS st_1).toArray⟩) = true)) rfl ⟨rfl, rfl⟩⟩) ?_
                refine xd_pure 10 (some 115) rfl rfl (by kernel_rfl) (v := (.bool (decide ((⟨(printS st_1).toArray⟩ : ByteArray) = ⟨(printS st_1).toArray⟩)))) (.inl ⟨rfl, fun W_ hW_ => ox_move (v := (.bool (decide ((⟨(printS st_1).toArray⟩ : ByteArray) = ⟨(printS st_1).toArray⟩)))) rfl ⟨rfl, rfl⟩⟩) ?_
                refine xd_pure 11 (some 116) rfl rfl (by kernel_rfl) (v := (.pointer (some ⟨ba_3, 0, none⟩))) (.inl ⟨(wanted_of (j := 10) (b := true) rfl (congrArg some (by simp : decide ((⟨(printS st_1).toArray⟩ : ByteArray) = ⟨(printS st_1).toArray⟩) = true))), fun W_ hW_ => ox_move (v := (.pointer (some ⟨ba_3, 0, none⟩))) rfl ⟨rfl, rfl⟩⟩) ?_
                refine xd_pure 14 (some 119) rfl rfl (by kernel_rfl) (v := (.pointer (some ⟨w.heap.size, 2, none⟩))) (.inl ⟨(wanted_of (j := 10) (b := true) rfl (congrArg some (by simp : decide ((⟨(printS st_1).toArray⟩ : ByteArray) = ⟨(printS st_1).toArray⟩) = true))), fun W_ hW_ => ox_fieldAddr (b := w.heap.size) (o := 0) tF_26_2 g3_f2 ⟨rfl, rfl⟩⟩) ?_
                have q53 := (((((b1.ext e2).ext e3).ext e4).ext e5).keep1 e6 (by have _q := b1.lt; omega))
                have q54 := (q53.keep x4 (fun _h => q1.ne_blk q53 (by decide) _ _h rfl))
                have q55 := (q54.keep x6 (fun _h => q5.ne_blk q54 (by decide) _ _h rfl))
                have q56 := ((((q55.ext e33).ext e34).ext e35).ext e36)
                refine xd_take 15 (some 120) rfl rfl (by kernel_rfl) (v := (.int .i64 s.start)) (.inl ⟨(wanted_of (j := 10) (b := true) rfl (congrArg some (by simp : decide ((⟨(printS st_1).toArray⟩ : ByteArray) = ⟨(printS st_1).toArray⟩) = true))), fun W_ hW_ => ox_load (v := (.int .i64 s.start)) tA_3 rfl ((q56.ext hW_).cell rfl) ⟨rfl, rfl⟩⟩) hS15 ?_
                refine xd_oneW 12 (some 117) rfl rfl (by kernel_rfl) (wanted_of (j := 10) (b := true) rfl (congrArg some (by simp : decide ((⟨(printS st_1).toArray⟩ : ByteArray) = ⟨(printS st_1).toArray⟩) = true))) (ox_callE (al := [(.pointer (some ⟨ba_3, 0, none⟩))]) pf_33 rfl (ret_mono (autx_spec (AutX.ext (AutX.ext hX_3 x38) e39)) ?_))
                rintro _ w42 ⟨s2, s3, rfl, hO2, hO3, e40⟩
                have he40 := e40.size
                have hst9 : s3.start = s.start := by rw [hO3.start, hO2.start, show s1_3.start = s1_3.g.start from rfl, hg1_3]; rfl
                have hS16 : Chg (fun _ => False) w38 w42 := Chg.ext hS15 e40
                refine ⟨.inr fun _ => hS16, ?_⟩
                refine xd_pure 13 (some 118) rfl rfl (by kernel_rfl) (v := (.int .i64 s3.start)) (.inl ⟨(wanted_of (j := 10) (b := true) rfl (congrArg some (by simp : decide ((⟨(printS st_1).toArray⟩ : ByteArray) = ⟨(printS st_1).toArray⟩) = true))), fun W_ hW_ => ox_field (v := (.int .i64 s3.start)) tG_26_2 tA_3 rfl rfl ⟨rfl, rfl⟩⟩) ?_
                refine xd_pure 16 (some 121) rfl rfl (by kernel_rfl) (v := (.bool (decide ((s3.start : Int) = s.start)))) (.inl ⟨(wanted_of (j := 10) (b := true) rfl (congrArg some (by simp : decide ((⟨(printS st_1).toArray⟩ : ByteArray) = ⟨(printS st_1).toArray⟩) = true))), fun W_ hW_ => ox_eql (k := .i64) (a := s3.start) (b := s.start) rfl rfl ⟨rfl, rfl⟩⟩) ?_
                refine xd_pure 17 (some 122) rfl rfl (by kernel_rfl) (v := (.bool (decide ((s3.start : Int) = s.start)))) (.inl ⟨rfl, fun W_ hW_ => ox_pick_t (v := (.bool (decide ((s3.start : Int) = s.start)))) (congrArg Value.bool (by simp : decide ((⟨(printS st_1).toArray⟩ : ByteArray) = ⟨(printS st_1).toArray⟩) = true)) rfl ⟨rfl, rfl⟩⟩) ?_
                refine xd_pure 18 (some 123) rfl rfl (by kernel_rfl) (v := (.bool (decide ((s3.start : Int) = s.start)))) (.inl ⟨rfl, fun W_ hW_ => ox_move (v := (.bool (decide ((s3.start : Int) = s.start)))) rfl ⟨rfl, rfl⟩⟩) ?_
                have x40 : Ext w w42 := (Ext.trans (Ext.trans x39 e39) e40)
                refine xd_oneW 19 (some 124) rfl rfl (by kernel_rfl) (wanted_of (j := 18) (b := true) rfl (congrArg some (decide_eq_true hst9))) (ox_callE (al := []) pf_10 rfl (ret_mono (known_calls w42 (TabIs.ext hT x40)) ?_))
                rintro _ w43 ⟨rfl, e41⟩
                have he41 := e41.size
                have hS17 : Chg (fun _ => False) w38 w43 := Chg.ext hS16 e41
                refine ⟨.inr fun _ => hS17, ?_⟩
                refine xd_pure 20 (some 125) rfl rfl (by kernel_rfl) (v := (.bool true)) (.inl ⟨rfl, fun W_ hW_ => ox_pick_t (v := (.bool true)) (congrArg Value.bool (decide_eq_true hst9)) rfl ⟨rfl, rfl⟩⟩) ?_
                refine xd_pure 21 (some 6) rfl rfl (by kernel_rfl) (v := (.bool true)) (.inl ⟨rfl, fun W_ hW_ => ox_assign (v := (.bool true)) rfl ⟨rfl, rfl⟩⟩) ?_
                refine xd_done (by kernel_rfl) ?_ _
                refine xc_ret ?_
                change leaves _ _ _ _ _ _ _
                refine leaves_nil (n := 126) (rs := [.tmp 6]) (vs := [(.bool true)]) rfl ⟨⟨by decide, rfl⟩, trivial⟩ ?_
                have x41 : Ext w w43 := (Ext.trans x40 e41)
                exact ⟨rfl, x41⟩
              · skip
                have haut2 : Aut o.g st_2 := hg1_2 ▸ hX_2.aut
                have htw2 := haut2.two
                have hbg2 := haut2.big
                refine xc_region ?_
                refine xl_op (P := Tryz.prog) (some 98) rfl rfl (ox_move (v := (.pointer (some ⟨ba_2, 0, none⟩))) rfl ?_)
                refine xl_op (P := Tryz.prog) (some 99) rfl rfl (ox_neqNil (p := (some ⟨ba_2, 0, none⟩ : Option Addr)) (q := none) tU_28 rfl rfl (.inr rfl) ?_)
                refine xl_op (P := Tryz.prog) (some 100) rfl rfl (ox_move (v := (.bool (decide ((some ⟨ba_2, 0, none⟩ : Option Addr) ≠ none)))) rfl ?_)
                refine xl_opg (P := Tryz.prog) (some 101) (j := 2) (b := true) rfl rfl (congrArg some (decide_eq_true (by simp))) (ox_move (v := (.pointer (some ⟨ba_2, 0, none⟩))) rfl ?_)
                refine xl_opg (P := Tryz.prog) (some 102) (j := 2) (b := true) rfl rfl (congrArg some (decide_eq_true (by simp))) (ox_callE (al := [(.pointer (some ⟨ba_2, 0, none⟩))]) pf_23 rfl (ret_mono (autx_len (AutX.ext hX_2 e36)) ?_))
                rintro _ w44 ⟨rfl, e42⟩
                have he42 := e42.size
                refine xl_opg (P := Tryz.prog) (some 103) (j := 2) (b := true) rfl rfl (congrArg some (decide_eq_true (by simp))) (ox_lss (k := .i64) (a := ((st_2.length : Nat))) (b := 2) rfl rfl ?_)
                refine xl_op (P := Tryz.prog) (some 104) rfl rfl (ox_pick_t (v := (.bool (decide (((st_2.length : Nat) : Int) < 2)))) (congrArg Value.bool (decide_eq_true (by simp))) rfl ?_)
                refine xl_nil ?_
                refine xc_cond_f (congrArg Value.bool (decide_eq_false (by omega))) ?_
                refine xc_skip ?_
                refine xc_seq ?_
                refine xc_regionE [] (fun W_ => Chg (fun _ => False) w44 W_) hmix ?_
                intro w45 e43 z13
                have hS18 : Chg (fun _ => False) w44 w45 := Ext.to e43
                refine xd_pure 0 (some 105) rfl rfl (by kernel_rfl) (v := (.pointer (some ⟨ba_1, 0, none⟩))) (.inl ⟨rfl, fun W_ hW_ => ox_move (v := (.pointer (some ⟨ba_1, 0, none⟩))) g7_f2 ⟨rfl, rfl⟩⟩) ?_
                refine xd_pure 2 (some 107) rfl rfl (by kernel_rfl) (v := (.string (⟨(printS st_1).toArray⟩))) (.inl ⟨rfl, fun W_ hW_ => ox_move (v := (.string (⟨(printS st_1).toArray⟩))) rfl ⟨rfl, rfl⟩⟩) ?_
                have x42 : Ext w35 w45 := (Ext.trans (Ext.trans (Ext.trans (Ext.trans e34 e35) e36) e42) e43)
                have x43 : Ext w w45 := (Ext.trans (Ext.trans (Ext.trans x35 e36) e42) e43)
                refine xd_one 1 (some 106) rfl rfl (by kernel_rfl) rfl (ox_callE (al := [(.pointer (some ⟨ba_1, 0, none⟩))]) pf_32 rfl (ret_mono (print_calls s1_1 B_1 ba_1 st_1 w45 (AutX.ext (AutX.ext hX_1 x32) x42) (TabIs.ext hT x43)) ?_))
                rintro _ w46 ⟨rfl, e44⟩
                have he44 := e44.size
                have hS19 : Chg (fun _ => False) w44 w46 := Chg.ext hS18 e44
                refine ⟨.inr fun _ => hS19, ?_⟩
                refine xd_pure 3 (some 108) rfl rfl (by kernel_rfl) (v := (.bool (decide ((⟨(printS st_1).toArray⟩ : ByteArray) = ⟨(printS st_1).toArray⟩)))) (.inl ⟨rfl, fun W_ hW_ => ox_eqlStr (a := (⟨(printS st_1).toArray⟩)) (b := (⟨(printS st_1).toArray⟩)) tU_9 rfl rfl ⟨rfl, rfl⟩⟩) ?_
                refine xd_pure 4 (some 109) rfl rfl (by kernel_rfl) (v := (.bool (decide ((⟨(printS st_1).toArray⟩ : ByteArray) = ⟨(printS st_1).toArray⟩)))) (.inl ⟨rfl, fun W_ hW_ => ox_move (v := (.bool (decide ((⟨(printS st_1).toArray⟩ : ByteArray) = ⟨(printS st_1).toArray⟩)))) rfl ⟨rfl, rfl⟩⟩) ?_
                refine xd_pure 5 (some 110) rfl rfl (by kernel_rfl) (v := (.pointer (some ⟨ba_3, 0, none⟩))) (.inl ⟨(wanted_of (j := 4) (b := true) rfl (congrArg some (by simp : decide ((⟨(printS st_1).toArray⟩ : ByteArray) = ⟨(printS st_1).toArray⟩) = true))), fun W_ hW_ => ox_move (v := (.pointer (some ⟨ba_3, 0, none⟩))) rfl ⟨rfl, rfl⟩⟩) ?_
                refine xd_pure 7 (some 112) rfl rfl (by kernel_rfl) (v := (.string (⟨(printS st_1).toArray⟩))) (.inl ⟨(wanted_of (j := 4) (b := true) rfl (congrArg some (by simp : decide ((⟨(printS st_1).toArray⟩ : ByteArray) = ⟨(printS st_1).toArray⟩) = true))), fun W_ hW_ => ox_move (v := (.string (⟨(printS st_1).toArray⟩))) rfl ⟨rfl, rfl⟩⟩) ?_
                have x44 : Ext w38 w46 := (Ext.trans (Ext.trans e42 e43) e44)
                have x45 : Ext w w46 := (Ext.trans x43 e44)
                refine xd_oneW 6 (some 111) rfl rfl (by kernel_rfl) (wanted_of (j := 4) (b := true) rfl (congrArg some (by simp : decide ((⟨(printS st_1).toArray⟩ : ByteArray) = ⟨(printS st_1).toArray⟩) = true))) (ox_callE (al := [(.pointer (some ⟨ba_3, 0, none⟩))]) pf_32 rfl (ret_mono (print_calls s1_3 B_3 ba_3 st_1 w46 (AutX.ext hX_3 x44) (TabIs.ext hT x45)) ?_))
                rintro _ w47 ⟨rfl, e45⟩
                have he45 := e45.size
                have hS20 : Chg (fun _ => False) w44 w47 := Chg.ext hS19 e45
                refine ⟨.inr fun _ => hS20, ?_⟩
                refine xd_pure 8 (some 113) rfl rfl (by kernel_rfl) (v := (.bool (decide ((⟨(printS st_1).toArray⟩ : ByteArray) = ⟨(printS st_1).toArray⟩)))) (.inl ⟨(wanted_of (j := 4) (b := true) rfl (congrArg some (by simp : decide ((⟨(printS st_1).toArray⟩ : ByteArray) = ⟨(printS st_1).toArray⟩) = true))), fun W_ hW_ => ox_eqlStr (a := (⟨(printS st_1).toArray⟩)) (b := (⟨(printS st_1).toArray⟩)) tU_9 rfl rfl ⟨rfl, rfl⟩⟩) ?_
                refine xd_pure 9 (some 114) rfl rfl (by kernel_rfl) (v := (.bool (decide ((⟨(printS st_1).toArray⟩ : ByteArray) = ⟨(printS st_1).toArray⟩)))) (.inl ⟨rfl, fun W_ hW_ => ox_pick_t (v := (.bool (decide ((⟨(printS st_1).toArray⟩ : ByteArray) = ⟨(printS st_1).toArray⟩)))) (congrArg Value.bool (by simp : decide ((⟨(printS st_1).toArray⟩ : ByteArray) = ⟨(printS st_1).toArray⟩) = true)) rfl ⟨rfl, rfl⟩⟩) ?_
                refine xd_pure 10 (some 115) rfl rfl (by kernel_rfl) (v := (.bool (decide ((⟨(printS st_1).toArray⟩ : ByteArray) = ⟨(printS st_1).toArray⟩)))) (.inl ⟨rfl, fun W_ hW_ => ox_move (v := (.bool (decide ((⟨(printS st_1).toArray⟩ : ByteArray) = ⟨(printS st_1).toArray⟩)))) rfl ⟨rfl, rfl⟩⟩) ?_
                refine xd_pure 11 (some 116) rfl rfl (by kernel_rfl) (v := (.pointer (some ⟨ba_3, 0, none⟩))) (.inl ⟨(wanted_of (j := 10) (b := true) rfl (congrArg some (by simp : decide ((⟨(printS st_1).toArray⟩ : ByteArray) = ⟨(printS st_1).toArray⟩) = true))), fun W_ hW_ => ox_move (v := (.pointer (some ⟨ba_3, 0, none⟩))) rfl ⟨rfl, rfl⟩⟩) ?_
                refine xd_pure 14 (some 119) rfl rfl (by kernel_rfl) (v := (.pointer (some ⟨w.heap.size, 2, none⟩))) (.inl ⟨(wanted_of (j := 10) (b := true) rfl (congrArg some (by simp : decide ((⟨(printS st_1).toArray⟩ : ByteArray) = ⟨(printS st_1).toArray⟩) = true))), fun W_ hW_ => ox_fieldAddr (b := w.heap.size) (o := 0) tF_26_2 g3_f2 ⟨rfl, rfl⟩⟩) ?_
                have q57 := (((((b1.ext e2).ext e3).ext e4).ext e5).keep1 e6 (by have _q := b1.lt; omega))
                have q58 := (q57.keep x4 (fun _h => q1.ne_blk q57 (by decide) _ _h rfl))
                have q59 := (q58.keep x6 (fun _h => q5.ne_blk q58 (by decide) _ _h rfl))
                have q60 := ((((q59.ext e33).ext e34).ext e35).ext e36)
                refine xd_take 15 (some 120) rfl rfl (by kernel_rfl) (v := (.int .i64 s.start)) (.inl ⟨(wanted_of (j := 10) (b := true) rfl (congrArg some (by simp : decide ((⟨(printS st_1).toArray⟩ : ByteArray) = ⟨(printS st_1).toArray⟩) = true))), fun W_ hW_ => ox_load (v := (.int .i64 s.start)) tA_3 rfl (((q60.ext e42).ext hW_).cell rfl) ⟨rfl, rfl⟩⟩) hS20 ?_
                refine xd_oneW 12 (some 117) rfl rfl (by kernel_rfl) (wanted_of (j := 10) (b := true) rfl (congrArg some (by simp : decide ((⟨(printS st_1).toArray⟩ : ByteArray) = ⟨(printS st_1).toArray⟩) = true))) (ox_callE (al := [(.pointer (some ⟨ba_3, 0, none⟩))]) pf_33 rfl (ret_mono (autx_spec (AutX.ext (AutX.ext hX_3 x44) e45)) ?_))
                rintro _ w48 ⟨s2, s3, rfl, hO2, hO3, e46⟩
                have he46 := e46.size
                have hst9 : s3.start = s.start := by rw [hO3.start, hO2.start, show s1_3.start = s1_3.g.start from rfl, hg1_3]; rfl
                have hS21 : Chg (fun _ => False) w44 w48 := Chg.ext hS20 e46
                refine ⟨.inr fun _ => hS21, ?_⟩
                refine xd_pure 13 (some 118) rfl rfl (by kernel_rfl) (v := (.int .i64 s3.start)) (.inl ⟨(wanted_of (j := 10) (b := true) rfl (congrArg some (by simp : decide ((⟨(printS st_1).toArray⟩ : ByteArray) = ⟨(printS st_1).toArray⟩) = true))), fun W_ hW_ => ox_field (v := (.int .i64 s3.start)) tG_26_2 tA_3 rfl rfl ⟨rfl, rfl⟩⟩) ?_
                refine xd_pure 16 (some 121) rfl rfl (by kernel_rfl) (v := (.bool (decide ((s3.start : Int) = s.start)))) (.inl ⟨(wanted_of (j := 10) (b := true) rfl (congrArg some (by simp : decide ((⟨(printS st_1).toArray⟩ : ByteArray) = ⟨(printS st_1).toArray⟩) = true))), fun W_ hW_ => ox_eql (k := .i64) (a := s3.start) (b := s.start) rfl rfl ⟨rfl, rfl⟩⟩) ?_
                refine xd_pure 17 (some 122) rfl rfl (by kernel_rfl) (v := (.bool (decide ((s3.start : Int) = s.start)))) (.inl ⟨rfl, fun W_ hW_ => ox_pick_t (v := (.bool (decide ((s3.start : Int) = s.start)))) (congrArg Value.bool (by simp : decide ((⟨(printS st_1).toArray⟩ : ByteArray) = ⟨(printS st_1).toArray⟩) = true)) rfl ⟨rfl, rfl⟩⟩) ?_
                refine xd_pure 18 (some 123) rfl rfl (by kernel_rfl) (v := (.bool (decide ((s3.start : Int) = s.start)))) (.inl ⟨rfl, fun W_ hW_ => ox_move (v := (.bool (decide ((s3.start : Int) = s.start)))) rfl ⟨rfl, rfl⟩⟩) ?_
                have x46 : Ext w w48 := (Ext.trans (Ext.trans x45 e45) e46)
                refine xd_oneW 19 (some 124) rfl rfl (by kernel_rfl) (wanted_of (j := 18) (b := true) rfl (congrArg some (decide_eq_true hst9))) (ox_callE (al := []) pf_10 rfl (ret_mono (known_calls w48 (TabIs.ext hT x46)) ?_))
                rintro _ w49 ⟨rfl, e47⟩
                have he47 := e47.size
                have hS22 : Chg (fun _ => False) w44 w49 := Chg.ext hS21 e47
                refine ⟨.inr fun _ => hS22, ?_⟩
                refine xd_pure 20 (some 125) rfl rfl (by kernel_rfl) (v := (.bool true)) (.inl ⟨rfl, fun W_ hW_ => ox_pick_t (v := (.bool true)) (congrArg Value.bool (decide_eq_true hst9)) rfl ⟨rfl, rfl⟩⟩) ?_
                refine xd_pure 21 (some 6) rfl rfl (by kernel_rfl) (v := (.bool true)) (.inl ⟨rfl, fun W_ hW_ => ox_assign (v := (.bool true)) rfl ⟨rfl, rfl⟩⟩) ?_
                refine xd_done (by kernel_rfl) ?_ _
                refine xc_ret ?_
                change leaves _ _ _ _ _ _ _
                refine leaves_nil (n := 126) (rs := [.tmp 6]) (vs := [(.bool true)]) rfl ⟨⟨by decide, rfl⟩, trivial⟩ ?_
                have x47 : Ext w w49 := (Ext.trans x46 e47)
                exact ⟨rfl, x47⟩
end Go.Proofs.YtnnmdkglgnlenaaGreatDoor
