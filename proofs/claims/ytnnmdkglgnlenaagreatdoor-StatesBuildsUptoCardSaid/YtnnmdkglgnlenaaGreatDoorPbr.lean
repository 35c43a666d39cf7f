/-
  Part 18 of the proof: texts Uk Wi Wl Wm Wn Wo Wp Wq Wt Wu Wv Wx. No conditions.
-/
import Derived.Test.YtnnmdkglgnlenaaGreatDoorRows
import Derived.Test.YtnnmdkglgnlenaaGreatDoorPbc
import Derived.Test.YtnnmdkglgnlenaaGreatDoorPbf
import Derived.Test.YtnnmdkglgnlenaaGreatDoorPbn
import Derived.Test.YtnnmdkglgnlenaaGreatDoorPbo
import Derived.Test.YtnnmdkglgnlenaaGreatDoorPbp
import Derived.Test.YtnnmdkglgnlenaaGreatDoorPbq
set_option linter.unusedVariables false
set_option linter.unusedSimpArgs false
set_option linter.unusedSectionVars false
set_option maxRecDepth 100000
set_option maxHeartbeats 4000000
namespace Go.Proofs.YtnnmdkglgnlenaaGreatDoor
open Go Go.RowKit Go.Vx
def letterS (z : Sym) : List UInt8 := if z.kind = 1 then [116] ++ Lib.itoa z.n else if z.kind = 2 then [101] else [110] ++ Lib.itoa z.n
def arcTx (a : Arc) : List UInt8 := [32] ++ letterS ⟨a.sym.kind, a.sym.n⟩ ++ [62] ++ Lib.itoa a.to
def lineS (st : List ASt) (n : Nat) : List UInt8 := Lib.itoa (n : Nat) ++ [58] ++ wkey (kernS st (n : Nat)) ++ [32, 124] ++ (st[n]!).arcs.flatMap arcTx ++ [10]
def linesS (st : List ASt) (l : List Nat) : List UInt8 := l.flatMap (lineS st)
def printS (st : List ASt) : List UInt8 := linesS st (List.range st.length)
theorem linesS_snoc {st : List ASt} {l : List Nat} {n : Nat} : linesS st (l ++ [n]) = linesS st l ++ lineS st n := by unfold linesS; simp
theorem letterS_len (z : Sym) (h : -1 ≤ z.n ∧ z.n ≤ 1000000) : (letterS z).length ≤ 30 := by
  have := Lib.itoa_length_le z.n (by omega) (by omega)
  unfold letterS
  split
  · simp only [List.length_append, List.length_cons, List.length_nil]; omega
  · split
    · simp
    · simp only [List.length_append, List.length_cons, List.length_nil]; omega
theorem arcs_next {l : List Arc} {k : Nat} {a : Arc} (h : l[k]? = some a) : (l.take (k + 1)).flatMap arcTx = (l.take k).flatMap arcTx ++ ([32] ++ letterS ⟨a.sym.kind, a.sym.n⟩ ++ [62] ++ Lib.itoa a.to) := by
  rw [List.take_add_one, h]; simp [arcTx]
theorem range_pre {pre : List Nat} {x n : Nat} (h : (pre ++ [x]) <+: List.range n) : pre = List.range x ∧ x < n := by
  obtain ⟨t, ht⟩ := h
  have hl : pre.length < n := by
    have := congrArg List.length ht
    simp at this; omega
  have hx : (List.range n)[pre.length]? = some x := by rw [← ht, List.append_assoc, List.getElem?_append_right (Nat.le_refl _)]; simp
  rw [List.getElem?_range hl] at hx
  have hx : pre.length = x := Option.some.inj hx
  refine ⟨?_, by omega⟩
  have hp : pre = (List.range n).take pre.length := by rw [← ht, List.append_assoc, List.take_left]
  rw [hp, List.take_range, Nat.min_eq_left (by omega), hx]
section
variable {g : GD} {st : List ASt} (h : Aut g st)
include h
theorem line_len {n : Nat} {x : ASt} (hx : st[n]? = some x) : (kernS st (n : Nat)).length ≤ 100000000 := by
  rw [kernS_at hx]
  have := (kern_len h hx).2.1
  have := (h.lens x (List.mem_of_getElem? hx)).1
  omega
theorem line_small {n : Nat} {x : ASt} (hx : st[n]? = some x) (y : Itm) (hy : y ∈ kernS st (n : Nat)) : smallI y := by
  rw [kernS_at hx] at hy
  exact okJ_small (h.ok.ok x (List.mem_of_getElem? hx) y (List.mem_of_mem_take hy)) h.good.prods h.good.rights
theorem line_key {n : Nat} {x : ASt} (hx : st[n]? = some x) : (wkey (kernS st (n : Nat))).length ≤ 67240962 * 45 := by
  have h1 := wkey_len (fun y hy => line_small h hx y hy) (kernS st (n : Nat)).length
  rw [List.take_of_length_le (Nat.le_refl _)] at h1
  have h2 : (kernS st (n : Nat)).length ≤ 67240962 := by
    rw [kernS_at hx]
    have := (kern_len h hx).2.1
    have := (h.lens x (List.mem_of_getElem? hx)).1
    omega
  exact Nat.le_trans h1 (Nat.mul_le_mul_right _ h2)
theorem arc_small {n : Nat} {x : ASt} (hx : st[n]? = some x) {a : Arc} (ha : a ∈ x.arcs) : (-1 ≤ a.sym.n ∧ a.sym.n ≤ 1000000) ∧ (0 ≤ a.to ∧ a.to ≤ 100000000000) := by
  constructor
  · have hm : a.sym ∈ symsG g x.items := by rw [← h.arcs n x hx]; exact List.mem_map_of_mem ha
    obtain ⟨y, hy, hb⟩ := symsG_mem.1 hm
    have hok := (h.ok.ok x (List.mem_of_getElem? hx) y hy).1
    have hG := h.good.good
    have hN := h.good.names
    have h2 : a.sym ∈ rightG g y.p := List.mem_of_getElem? hb
    unfold rightG at h2
    split at h2
    · rw [List.mem_singleton] at h2
      rw [h2]
      have := hG.1
      show (-1 ≤ g.start ∧ g.start ≤ 1000000)
      omega
    · rename_i hne
      have h5 : y.p.toNat < g.prods.length := by have := hok.1; omega
      have h6 : g.prods[y.p.toNat]! ∈ g.prods := by rw [getElem!_pos g.prods y.p.toNat h5]; exact List.getElem_mem h5
      have h7 := (hG.2 _ h6).2.2 _ h2
      have h8 := h.good.triv
      unfold symE at h7
      split at h7
      · split at h7
        · omega
        · simp at h7
      · split at h7
        · split at h7
          · omega
          · simp at h7
        · split at h7
          · split at h7
            · omega
            · simp at h7
          · simp at h7
  · obtain ⟨j, y, e1, e2, _⟩ := h.to n x a hx ha
    have := (List.getElem?_eq_some_iff.1 e2).1
    have := h.big
    omega
theorem arcTx_len {n : Nat} {x : ASt} (hx : st[n]? = some x) {l : List Arc} (hl : ∀ a ∈ l, a ∈ x.arcs) : (l.flatMap arcTx).length ≤ l.length * 60 := by
  induction l with
  | nil => simp
  | cons a l ih =>
    have h1 := arc_small h hx (hl a (by simp))
    have h2 := letterS_len ⟨a.sym.kind, a.sym.n⟩ h1.1
    have h3 := Lib.itoa_length_le a.to (by omega) (by omega)
    have h4 := ih fun b hb => hl b (by simp [hb])
    have h5 : (arcTx a).length ≤ 60 := by
      unfold arcTx
      simp only [List.length_append, List.length_cons, List.length_nil]
      omega
    rw [List.flatMap_cons, List.length_append, List.length_cons, Nat.succ_mul]
    omega
theorem lineS_len {n : Nat} (hn : n < st.length) : (lineS st n).length ≤ 11431000000 := by
  have hx : st[n]? = some st[n] := List.getElem?_eq_getElem hn
  have hb := h.big
  have h1 := Lib.itoa_length_le (n : Nat) (by omega) (by omega)
  have h2 := line_key h hx
  have h3 := arcTx_len h hx (l := st[n].arcs) (fun a ha => ha)
  have h4 := (h.lens _ (List.mem_of_getElem? hx)).2
  unfold lineS
  rw [bangA hx]
  simp only [List.length_append, List.length_cons, List.length_nil]
  omega
theorem lines_len : ∀ {n : Nat}, n ≤ st.length → (linesS st (List.range n)).length ≤ n * 11431000000
  | 0, _ => by simp [linesS]
  | n + 1, hn => by
    have h1 := lineS_len h (n := n) (by omega)
    have h2 := lines_len (n := n) (by omega)
    rw [List.range_succ, linesS_snoc, List.length_append, Nat.succ_mul]
    omega
end
def PrI (w0 : World) (bb b1 ba : Nat) (st : List ASt) (pre : List Nat) (Y : Nat → Prop) (W : World) : Prop := ∃ A c, BldA bb (linesS st pre) A c W ∧ (∀ k, (Value.slice A (linesS st pre).length c).ownBlock = some k → ¬ Y k ∧ w0.heap.size ≤ k) ∧ Blk W b1 #[.pointer (some ⟨ba, 0, none⟩)] 28 ∧ ¬ Y bb ∧ ¬ Y b1 ∧ Ext w0 W ∧ (∀ b, Y b → w0.heap.size ≤ b)
theorem prI_stab {w0 : World} {bb b1 ba : Nat} {st : List ASt} : Stab w0.heap.size (PrI w0 bb b1 ba st) := by
  rintro pre X W X' W' hX ⟨A, c, hb, hlo, hb1, hbb, hb1n, hE, hXw⟩ hc hX'
  refine ⟨A, c, hb.keep hc hbb (fun k hk => (hlo k hk).1), fun k hk => ⟨fun h9 => (hX' k h9).elim (hlo k hk).1 (fun h8 => by have := hb.own.lt k hk; omega), (hlo k hk).2⟩, hb1.keep hc hb1n, fun h9 => (hX' _ h9).elim hbb (fun h8 => by have := hb.lt; omega), fun h9 => (hX' _ h9).elim hb1n (fun h8 => by have := hb1.lt; omega), Chg.trans hE hc (fun b hb hl => by have := hXw b hb; omega), fun b hb => (hX' b hb).elim (hXw b) (fun h8 => by have := hE.size; omega)⟩
theorem printS_ne {g : GD} {st : List ASt} (h : Aut g st) : printS st ≠ [] := by
  obtain ⟨x, hx, _⟩ := h.first
  have hl := (List.getElem?_eq_some_iff.1 hx).1
  obtain ⟨n, hn⟩ : ∃ n, st.length = n + 1 := ⟨st.length - 1, by omega⟩
  unfold printS
  rw [hn, List.range_succ, linesS_snoc]
  intro h9
  have := congrArg List.length h9
  unfold lineS at this
  simp at this
instance pf_54 : PlF Tryz.prog 54 := ⟨by kernel_rfl⟩
instance pf_58 : PlF Tryz.prog 58 := ⟨by kernel_rfl⟩
theorem letter_calls (z : Sym) (w : World) (hT : TabP w) (hz : -9223372036854775808 ≤ z.n ∧ z.n ≤ 9223372036854775807) :
    Calls Tryz.prog 58 #[(.agg #[(.int .i64 z.kind), (.int .i64 z.n)])] w (Ret (fun v w' => v = .string ⟨(letterS z).toArray⟩ ∧ Ext w w')) := by
 refine calls_y (n := 17) Tryz.func58 ?_
 refine go ?_
 refine y_bx ?_
 intro w1 e1 z1 b1
 refine go ?_
 refine y_ld b1 ?_
 refine go ?_
 refine y_if (fun h1 => ?_) (fun h1 => ?_)
 ·
  refine go ?_
  refine y_ld b1 ?_
  have hil_e2 := Lib.itoa_length_le z.n (by omega) (by omega)
  refine yCa (ret_mono (itoa_calls z.n w1 (by omega) (by omega) (TabIs.ext hT e1)) ?_)
  rintro _ w2 ⟨rfl, e2⟩
  have he2 := e2.size
  refine yOp (ox_addL (l := ([116])) (m := (Lib.itoa z.n)) rfl rfl (by simp only [List.length_append, List.length_cons, List.length_nil]; omega) ?_)
  refine go ?_
  refine y_r1 ?_
  have x1 : Ext w w2 := (Ext.trans e1 e2)
  exact ⟨by rw [letterS, if_pos h1] <;> rfl, x1⟩
 ·
  refine go ?_
  refine y_if (fun h2 => ?_) (fun h2 => ?_)
  ·
   refine go ?_
   refine y_r1 ?_
   exact ⟨by rw [letterS, if_neg h1, if_pos h2] <;> rfl, e1⟩
  ·
   refine go ?_
   refine y_ld b1 ?_
   have hil_e3 := Lib.itoa_length_le z.n (by omega) (by omega)
   refine yCa (ret_mono (itoa_calls z.n w1 (by omega) (by omega) (TabIs.ext hT e1)) ?_)
   rintro _ w3 ⟨rfl, e3⟩
   have he3 := e3.size
   refine yOp (ox_addL (l := ([110])) (m := (Lib.itoa z.n)) rfl rfl (by simp only [List.length_append, List.length_cons, List.length_nil]; omega) ?_)
   refine go ?_
   refine y_r1 ?_
   have x2 : Ext w w3 := (Ext.trans e1 e3)
   exact ⟨by rw [letterS, if_neg h1, if_neg h2] <;> rfl, x2⟩
theorem print_calls (s1 : SP) (Bx ba : Nat) (st : List ASt) (w : World) (hA : AutX Bx w s1 ba st) (hT : TabP w) :
    Calls Tryz.prog 32 #[(.pointer (some ⟨ba, 0, none⟩))] w (Ret (fun v w' => v = .string ⟨(printS st).toArray⟩ ∧ Ext w w')) := by
 obtain ⟨⟨s2, sA, sc, sts, hd, hO, hR⟩, haut⟩ := hA
 have hA : AutX Bx w s1 ba st := ⟨⟨s2, sA, sc, sts, hd, hO, hR⟩, haut⟩
 have hlen : sts.length = st.length := by rw [← hd, List.length_map]
 have hbig := haut.big
 have hbal := hR.ba.lt
 have hB : ∀ x ∈ sts, x.items.length ≤ 67240962 ∧ x.arcs.length ≤ 67240962 := lens_d (g := s1.g) (by rw [hd]; exact haut)
 refine calls_y (n := 47) Tryz.func32 ?_
 refine go ?_
 refine y_bx ?_
 intro w1 e1 z1 b1
 refine go ?_
 refine y_al ?_
 intro w2 e2 z2 b2
 refine go ?_
 refine y_ld (b1.ext e2) ?_
 refine yCa (ret_mono (all_calls ba w2) ?_)
 rintro _ w3 ⟨bx, rfl, hbx, hbxe, e3⟩
 have he3 := e3.size
 have hbxl := hbx.lt
 have x1 : Ext w w3 := (Ext.trans (Ext.trans e1 e2) e3)
 obtain ⟨bb, hbbe⟩ : ∃ b, b = w1.heap.size := ⟨_, rfl⟩
 have hbb : Blk w3 bb #[.pointer none, .slice none 0 0] 110 := by rw [hbbe]; exact (b2.ext e3)
 have hbbl := hbb.lt
 have hEr : Ext w w3 := x1
 have hErs := hEr.size
 have hBX : ∀ b, b = bx → w.heap.size ≤ b ∧ b < w3.heap.size := fun b hb => by rw [hb]; omega
 have hit := all_iter (X := fun b => b = bx) (B := w.heap.size) hbx hA (Nat.le_refl _) (Ext.to hEr) (.inl rfl) hBX hErs
 have hI0 : PrI w bb w.heap.size ba st [] (fun b => b = bx) w3 := ⟨none, 0, ⟨⟨_, .inl rfl, hbb⟩, Vx.Own.nil _ _ _⟩, (fun k hk => by simp [Value.ownBlock] at hk), ((b1.ext e2).ext e3), by show ¬ (bb = bx); omega, by show ¬ (w.heap.size = bx); omega, hEr, fun b hb => by rw [hb]; omega⟩
 refine go ?_
 refine xc_rangeE (ps := #[9, 10]) (α := Nat) (gf := 54) (lb := #[.pointer (some ⟨bx, 0, none⟩)]) (R := allR st) (B := w.heap.size) (X0 := fun b => b = bx) (xs := List.range st.length) rfl pf_54.h allR_size allR_cells hit hErs hBX (PrI w bb w.heap.size ba st) (fun _ _ _ _ => False) prI_stab (fun _ _ _ _ _ _ _ h => h.elim) hI0 ?_ ?_ ?_
 ·
  intro l₁ pre₁ x₁ as₁ Y W hpre hY hYl hl₁ hRx hRX hI
  obtain ⟨Ak, ck, rfl, hok⟩ := hRx
  have hx1 := range_pre hpre
  have hxl : x₁ < st.length := hx1.2
  obtain ⟨xn, hxn⟩ := get_ex hxl
  refine ysC (s := 3) (v := (.pointer (some ⟨bb, 0, none⟩))) (by rw [hbbe]; exact rfl) ?_
  refine go ?_
  refine ⟨rfl, rfl, Chg.refl _ _, fun W2 hcY hsY hlY => ?_⟩
  have hszY := hcY.size
  have hI2 := prI_stab _ _ _ _ _ hY hI hcY (fun b hb => .inl hb)
  obtain ⟨A0, c0, hb0, hlow0, hbb1, hYb, hYb1, hEx2, hYw⟩ := hI2
  have hE2s := hEx2.size
  have hbbl2 := hb0.lt
  have hbbw : w.heap.size ≤ bb := by omega
  obtain ⟨o0, ho0⟩ : ∃ o : Nat → Prop, o = (fun k => (Value.slice A0 (linesS st pre₁).length c0).ownBlock = some k) := ⟨_, rfl⟩
  have hG0 : PrR w.heap.size bb W2 o0 (linesS st pre₁) W2 := ⟨A0, c0, hb0, fun k hk => (hlow0 k hk).2, fun k hk => .inl (by rw [ho0]; exact hk), hbbw, Chg.refl _ _⟩
  have hprl : (linesS st pre₁).length ≤ x₁ * 11431000000 := by rw [hx1.1]; exact lines_len haut (by omega)
  have hst2 : st.length ≤ 1025 := haut.few
  have hx1m : x₁ * 11431000000 ≤ 1025 * 11431000000 := Nat.mul_le_mul_right _ (by omega)
  refine go ?_
  refine xc_regionE [5, 6, 9] (fun W_ => Chg (fun _ => False) W2 W_) hmix ?_
  intro w4 e4 z3
  have hS1 : Chg (fun _ => False) W2 w4 := Ext.to e4
  refine yDp 0 ?_
  refine xd_takeU 3 (some 14) [5, 6, 7, 9, 8] rfl rfl (by kernel_rfl) (v := (.pointer (some ⟨ba, 0, none⟩))) (.inl ⟨rfl, fun W_ hW_ => ox_load (v := (.pointer (some ⟨ba, 0, none⟩))) tA_28.h rfl ((hbb1.ext hW_).cell rfl) ⟨rfl, rfl⟩⟩) hS1 ?_
  refine yDp 4 ?_
  have hil_e5 := Lib.itoa_length_le ((x₁ : Nat)) (by omega) (by omega)
  have x2 : Ext w w4 := (Ext.trans hEx2 e4)
  refine yD1 (i := 1) rfl (yCx (ret_mono (itoa_calls ((x₁ : Nat)) w4 (by omega) (by omega) (TabIs.ext hT x2)) ?_))
  rintro _ w5 ⟨rfl, e5⟩
  have he5 := e5.size
  have hS2 : Chg (fun _ => False) W2 w5 := Chg.ext hS1 e5
  refine ⟨.inr fun _ => hS2, ?_⟩
  refine yDq (i := 2) rfl (fun W_ hW_ => ox_addL (l := (Lib.itoa ((x₁ : Nat)))) (m := ([58])) rfl rfl (by simp only [List.length_append, List.length_cons, List.length_nil]; omega) ⟨rfl, rfl⟩) ?_
  have x3 : Ext w w5 := (Ext.trans x2 e5)
  refine yD1 (i := 5) rfl (yCx (ret_mono (autx_kern (hA.ext x3) ((x₁ : Nat))) ?_))
  rintro _ w6 ⟨A1, c1, rfl, hn1, e6⟩
  have he6 := e6.size
  refine ⟨.inl (by decide), ?_⟩
  have hwl_e7 : (wkey (kernS st ((x₁ : Nat)))).length ≤ 67240962 * 45 := line_key haut hxn
  have x4 : Ext w w6 := (Ext.trans x3 e6)
  refine yD1 (i := 6) rfl (yCx (ret_mono (write_calls (kernS st ((x₁ : Nat))) A1 c1 w6 (Own.rowO hn1.1) (line_len haut hxn) (line_small haut hxn) (TabIs.ext hT x4)) ?_))
  rintro _ w7 ⟨rfl, e7⟩
  have he7 := e7.size
  refine ⟨.inl (by decide), ?_⟩
  refine yDq (i := 7) rfl (fun W_ hW_ => ox_addL (l := (Lib.itoa ((x₁ : Nat)) ++ [58])) (m := (wkey (kernS st ((x₁ : Nat))))) rfl rfl (by simp only [List.length_append, List.length_cons, List.length_nil]; omega) ⟨rfl, rfl⟩) ?_
  refine yDq (i := 8) rfl (fun W_ hW_ => ox_addL (l := (Lib.itoa ((x₁ : Nat)) ++ [58] ++ wkey (kernS st ((x₁ : Nat))))) (m := ([32, 124])) rfl rfl (by simp only [List.length_append, List.length_cons, List.length_nil]; omega) ⟨rfl, rfl⟩) ?_
  have q1 := (PrR.ext (PrR.ext (PrR.ext hG0 e4) e5) e6)
  refine yD1 (i := 9) rfl (ox_callE  (al := [(.pointer (some ⟨bb, 0, none⟩)), (.string (⟨(Lib.itoa ((x₁ : Nat)) ++ [58] ++ wkey (kernS st ((x₁ : Nat))) ++ [32, 124]).toArray⟩))]) pf_55.h rfl (ret_mono (prStr (PrR.ext q1 e7) (by show _ + (List.toArray _).size ≤ _; rw [List.size_toArray]; simp only [List.length_append, List.length_cons, List.length_nil]; omega) (by omega)) ?_))
  rintro _ w8 ⟨rfl, hb1, y1⟩
  have hy1 := y1.size
  refine ⟨.inl (by decide), ?_⟩
  refine xd_done (by kernel_rfl) ?_ _
  have q2 := (((((hbb1.ext e4).ext e5).ext e6).ext e7).keep y1 (KBB.ne ((((hbb1.ext e4).ext e5).ext e6).ext e7) (by omega) (by decide)))
  refine go ?_
  refine y_ld q2 ?_
  have q3 := ((((hR.ba.ext hEx2).ext e4).ext e5).ext e6)
  have q4 := ((q3.ext e7).keep y1 (KBB.ne (q3.ext e7) (by omega) (by decide)))
  refine go ?_
  refine y_ld q4 ?_
  have x5 : Ext w w8 := (Chg.trans (Ext.trans x4 e7) y1 (fun b hb hl => absurd hl (by have _h := hb.1; omega)))
  obtain ⟨x_1, g_1, o_1, hx_1⟩ := row_may (A := sA) (cs := StD.cs) x₁ StD.len (by decide) (RowA.ext hR.st.rowO x5)
  obtain ⟨hx_2, hA_1, hc_1⟩ := hx_1 oM
  have hb_x_1 := hB _ (List.mem_of_getElem? hx_2)
  refine go ?_
  refine y_ix x₁ hA_1 ?_
  refine go ?_
  refine y_lc (CellsL.at1 hc_1 2 rfl) ?_
  have hxd : x_1.arcs = xn.arcs := by have h9 := map_get (f := StD.d) hx_2; rw [hd, hxn] at h9; exact (congrArg ASt.arcs (Option.some.inj h9)).symm
  have hal : x_1.arcs.length ≤ 67240962 := by rw [hxd]; exact (haut.lens xn (List.mem_of_getElem? hxn)).2
  refine go ?_
  refine xc_loopN (fun m_ f_ Wx => ∃ (k : Nat), m_ = x_1.arcs.length - k ∧ (k ≤ x_1.arcs.length) ∧ f_ 2 = (.string (⟨#[]⟩)) ∧ f_ 3 = (.pointer (some ⟨bb, 0, none⟩)) ∧ f_ 28 = (.slice x_1.aA x_1.arcs.length x_1.ac) ∧ f_ 29 = (.int .i64 (((x_1.arcs.length : Nat) : Int))) ∧ f_ 30 = (.int .i64 ((k : Nat))) ∧ (PrR w.heap.size bb W2 o0 (linesS st pre₁ ++ (Lib.itoa ((x₁ : Nat)) ++ [58] ++ wkey (kernS st ((x₁ : Nat))) ++ [32, 124]) ++ (x_1.arcs.take k).flatMap arcTx) Wx) ∧ (bb < Wx.heap.size ∧ W2.heap.size ≤ Wx.heap.size) ∧ Blk Wx w.heap.size #[(.pointer (some ⟨ba, 0, none⟩))] 28 ∧ Ext w Wx) (x_1.arcs.length) ?_ ?_
  ·
   exact ⟨0, (by omega), (by omega), rfl, rfl, rfl, rfl, vW, (by rw [List.take_zero, List.flatMap_nil, List.append_nil]; exact hb1), (by omega), q2, x5⟩
  ·
   rintro m_ f1 w9 ⟨k, hm_f1, hk, g2_f1, g3_f1, g28_f1, g29_f1, g30_f1, t0_f1, t1_f1, c0_f1, x6⟩
   have hx6 := x6.size
   have hfl := arcTx_len haut hxn (l := x_1.arcs.take k) (fun a ha => by rw [← hxd]; exact List.mem_of_mem_take ha)
   have htl : (x_1.arcs.take k).length ≤ k := by rw [List.length_take]; omega
   rw [← usf g2_f1, ← usf g3_f1, ← usf g28_f1, ← usf g29_f1, ← usf g30_f1]
   refine go ?_
   refine y_if (fun h1 => ?_) (fun h1 => ?_)
   ·
    obtain ⟨x_2, g_2, o_2, hx_3⟩ := row_may (A := x_1.aA) (cs := Arc.cs) k Arc.len (by decide) (RowA.ext ((StF.at hR.F hx_2).arcs.rowO) x6)
    obtain ⟨hx_4, hA_2, hc_2⟩ := hx_3 oM
    refine go ?_
    refine y_ix k hA_2 ?_
    refine y_lN (vs := [(.int .i64 x_2.sym.kind), (.int .i64 x_2.sym.n), (.int .i64 x_2.to)]) hc_2 ?_
    refine y_al ?_
    intro w10 e8 z4 b3
    refine y_st b3 ?_
    intro w11 e9 z5 b4
    replace b4 : Blk w11 w9.heap.size #[(.int .i64 x_2.sym.kind), (.int .i64 x_2.sym.n), (.int .i64 x_2.to)] 101 := blk_full b4 rfl
    refine go ?_
    refine xc_regionE [7, 9] (fun W_ => Chg (fun _ => False) w11 W_) hmix ?_
    intro w12 e10 z6
    have hS3 : Chg (fun _ => False) w11 w12 := Ext.to e10
    refine yDp 0 ?_
    refine xd_takeU 1 (some 35) [2, 3, 7, 4, 8, 9] rfl rfl (by kernel_rfl) (v := (.agg #[(.int .i64 x_2.sym.kind), (.int .i64 x_2.sym.n)])) (.inl ⟨rfl, fun W_ hW_ => ox_loadN (vs := [(.int .i64 x_2.sym.kind), (.int .i64 x_2.sym.n)]) tA_32.h tS_32.h rfl rfl ⟨(b4.ext hW_).cell rfl, (b4.ext hW_).cell rfl, trivial⟩ ⟨rfl, rfl⟩⟩) hS3 ?_
    refine yDp 5 ?_
    refine xd_takeU 6 (some 40) [7, 8, 9] rfl rfl (by kernel_rfl) (v := (.int .i64 x_2.to)) (.inl ⟨rfl, fun W_ hW_ => ox_load (v := (.int .i64 x_2.to)) tA_3.h rfl ((b4.ext hW_).cell rfl) ⟨rfl, rfl⟩⟩) hS3 ?_
    have hsm : (-1 ≤ x_2.sym.n ∧ x_2.sym.n ≤ 1000000) ∧ (0 ≤ x_2.to ∧ x_2.to ≤ 100000000000) := arc_small haut hxn (by rw [← hxd]; exact List.mem_of_getElem? hx_4)
    have hll := letterS_len (⟨x_2.sym.kind, x_2.sym.n⟩ : Sym) hsm.1
    have x7 : Ext w w12 := (Ext.trans (Ext.chg1 (Ext.trans x6 e8) e9 (by omega)) e10)
    refine yD1 (i := 2) rfl (yCx (ret_mono (letter_calls (⟨x_2.sym.kind, x_2.sym.n⟩ : Sym) w12 (TabIs.ext hT x7) ⟨by show -9223372036854775808 ≤ x_2.sym.n; omega, by show x_2.sym.n ≤ 9223372036854775807; omega⟩) ?_))
    rintro _ w13 ⟨rfl, e11⟩
    have he11 := e11.size
    have hS4 : Chg (fun _ => False) w11 w13 := Chg.ext hS3 e11
    refine ⟨.inr fun _ => hS4, ?_⟩
    refine yDq (i := 3) rfl (fun W_ hW_ => ox_addL (l := ([32])) (m := (letterS (⟨x_2.sym.kind, x_2.sym.n⟩ : Sym))) rfl rfl (by simp only [List.length_append, List.length_cons, List.length_nil]; omega) ⟨rfl, rfl⟩) ?_
    refine yDq (i := 4) rfl (fun W_ hW_ => ox_addL (l := ([32] ++ letterS (⟨x_2.sym.kind, x_2.sym.n⟩ : Sym))) (m := ([62])) rfl rfl (by simp only [List.length_append, List.length_cons, List.length_nil]; omega) ⟨rfl, rfl⟩) ?_
    have hil_e12 := Lib.itoa_length_le x_2.to (by omega) (by omega)
    have x8 : Ext w w13 := (Ext.trans x7 e11)
    refine yD1 (i := 7) rfl (yCx (ret_mono (itoa_calls x_2.to w13 (by omega) (by omega) (TabIs.ext hT x8)) ?_))
    rintro _ w14 ⟨rfl, e12⟩
    have he12 := e12.size
    refine ⟨.inl (by decide), ?_⟩
    refine yDq (i := 8) rfl (fun W_ hW_ => ox_addL (l := ([32] ++ letterS (⟨x_2.sym.kind, x_2.sym.n⟩ : Sym) ++ [62])) (m := (Lib.itoa x_2.to)) rfl rfl (by simp only [List.length_append, List.length_cons, List.length_nil]; omega) ⟨rfl, rfl⟩) ?_
    have q5 := (PrR.chg1 (PrR.ext t0_f1 e8) e9 b3 (by omega) (by omega) (by decide))
    have q6 := (PrR.ext (PrR.ext (PrR.ext q5 e10) e11) e12)
    refine yD1 (i := 9) rfl (ox_callE  (al := [(.pointer (some ⟨bb, 0, none⟩)), (.string (⟨([32] ++ letterS (⟨x_2.sym.kind, x_2.sym.n⟩ : Sym) ++ [62] ++ Lib.itoa x_2.to).toArray⟩))]) pf_55.h rfl (ret_mono (prStr q6 (by show _ + (List.toArray _).size ≤ _; rw [List.size_toArray]; simp only [List.length_append, List.length_cons, List.length_nil]; omega) (by omega)) ?_))
    rintro _ w15 ⟨rfl, hb2, y2⟩
    have hy2 := y2.size
    refine ⟨.inl (by decide), ?_⟩
    refine xd_done (by kernel_rfl) ?_ _
    refine go ?_
    refine y_add ?_
    have q7 := ((c0_f1.ext e8).keep1 e9 ((c0_f1.ext e8).ne b3 (by decide)))
    have q8 := ((((q7.ext e10).ext e11).ext e12).keep y2 (KBB.ne (((q7.ext e10).ext e11).ext e12) (by omega) (by decide)))
    have x9 : Ext w w15 := (Chg.trans (Ext.trans x8 e12) y2 (fun b hb hl => absurd hl (by have _h := hb.1; omega)))
    refine go ?_
    exact ⟨rfl, x_1.arcs.length - (k + 1), by omega, k + 1, by omega, (by omega), rfl, rfl, rfl, rfl, vW, (by have h9 := hb2; rw [arcs_next hx_4]; simp only [List.append_assoc] at h9 ⊢; exact h9), (by omega), q8, x9⟩
   ·
    refine go ?_
    refine yOp (ox_callE  (al := [(.pointer (some ⟨bb, 0, none⟩)), (.int .u8 10)]) pf_59.h rfl (ret_mono ((by have h9 := prByte (x := (10 : UInt8)) t0_f1 (by simp only [List.length_append, List.length_cons, List.length_nil]; omega) (by omega); exact h9)) ?_))
    rintro _ w16 ⟨rfl, hb3, y3⟩
    have hy3 := y3.size
    obtain ⟨A9, c9, hb9, hlow9, ho9, _, hc9⟩ := hb3
    have hln : linesS st pre₁ ++ (Lib.itoa ((x₁ : Nat)) ++ [58] ++ wkey (kernS st ((x₁ : Nat))) ++ [32, 124]) ++ (x_1.arcs.take k).flatMap arcTx ++ [(10 : UInt8)] = linesS st (pre₁ ++ [x₁]) := by rw [linesS_snoc, lineS, bangA hxn, ← hxd]; simp only [List.take_of_length_le (Nat.le_refl _), List.append_assoc, List.take_of_length_le (show x_1.arcs.length ≤ k by omega)]
    rw [hln] at hb9 hlow9 ho9
    have hc9s := hc9.size
    have hoY : ∀ k, o0 k → ¬ Y k ∧ w.heap.size ≤ k := fun k hk => by rw [ho0] at hk; exact hlow0 k hk
    have q9 := (c0_f1.keep y3 (KBB.ne c0_f1 (by omega) (by decide)))
    have x10 : Ext w w16 := (Chg.trans x6 y3 (fun b hb hl => absurd hl (by have _h := hb.1; omega)))
    refine go ?_
    refine ⟨hc9.mono fun b hbl hb => ?_, A9, c9, hb9, fun k hk => ⟨?_, hlow9 k hk⟩, q9, hYb, hYb1, x10, fun b hb => hYw b hb⟩
    · rcases hb with rfl | hb | hb
      · exact ⟨hYb, hbbw⟩
      · exact hoY b hb
      · omega
    · rcases ho9 k hk with h9 | h9
      · exact (hoY k h9).1
      · intro hyk; have := (hY k hyk).2; omega
 ·
  intro D Y W hD hY hYD hI hheap
  obtain ⟨A0, c0, hb0, hlow0, hbb1, hYb, hYb1, hEx2, hYw⟩ := hI
  have hE2s := hEx2.size
  refine ysC (s := 3) (v := (.pointer (some ⟨bb, 0, none⟩))) (by rw [hbbe]; exact rfl) ?_
  refine go ?_
  refine yOp (ox_callE  (al := [(.pointer (some ⟨bb, 0, none⟩))]) pf_60.h rfl (ret_mono (strA (b := bb) hb0 (printS_ne haut)) ?_))
  rintro _ w17 ⟨rfl, y4⟩
  have hy4 := y4.size
  refine go ?_
  change leaves _ _ _ _ _ _ _
  have hD9 : w17.heap[D]? = some (.deferred (some [])) := (y4.keep D (Array.getElem?_eq_some_iff.1 hheap).1 (fun h9 => by obtain ⟨cs9, h8⟩ := own_type hb0.own h9; rw [hheap] at h8; cases h8)).trans hheap
  refine leaves_marks [D] _ (fun D' hD' => by simp at hD'; subst hD'; exact hD9) (by simp) (fun w9 hc9 hs9 => ?_)
  refine y_r1 ?_
  have x11 : Ext w w9 := (Chg.trans (Chg.trans hEx2 y4 (fun b hb hl => absurd hl (by have _h := (hlow0 b hb).2; omega))) hc9 (fun b hb hl => absurd hl (by have _h := (show w.heap.size ≤ b from by simp at hb; omega); omega)))
  exact ⟨rfl, x11⟩
 ·
  intro D Y c pre W hD hY hYD hpre hI hheap; exact hI.elim
structure RSt where
  kA : Option Addr
  kc : Nat
  kernel : List Itm
  iA : Option Addr
  ic : Nat
  items : List Itm
  sym : Sym
  frm : Int
  gA : Option Addr
  gc : Nat
  go : List Int
deriving Inhabited
def RSt.cs (x : RSt) : List Value := [.slice x.kA x.kernel.length x.kc, .slice x.iA x.items.length x.ic, .int .i64 x.sym.kind, .int .i64 x.sym.n, .int .i64 x.frm, .slice x.gA x.go.length x.gc]
theorem RSt.len (x : RSt) : x.cs.length = 6 := rfl
theorem RSt.one (x : RSt) : x.cs.all Value.oneCell' = true := rfl
structure RsX (w : World) (x : RSt) : Prop where
  kernel : RowA w x.kA (x.kernel.flatMap Itm.cs)
  items : RowA w x.iA (x.items.flatMap Itm.cs)
  go : RowA w x.gA (x.go.flatMap ints)
def RsA (w : World) (l : List RSt) : Prop := ∀ x ∈ l, RsX w x
theorem RsA.ext {w w' : World} {l : List RSt} (h : RsA w l) (c : Ext w w') : RsA w' l := fun x hx => ⟨(h x hx).kernel.ext c, (h x hx).items.ext c, (h x hx).go.ext c⟩
structure RelX (ys : List Sym) (x : RSt) (y : ASt) : Prop where
  kernel : y.kernel = x.kernel
  items : y.items = x.items
  sym : x.sym = y.sym
  frm : x.frm = y.frm
  go : x.go = ys.map fun z => arcTo z y.arcs
def RelS (ys : List Sym) (sts : List RSt) (st : List ASt) : Prop := sts.length = st.length ∧ ∀ (k : Nat) (x : RSt) (y : ASt), sts[k]? = some x → st[k]? = some y → RelX ys x y
theorem isS_rng {st : List ASt} {i : Int} (h : isS st i = true) : 0 ≤ i ∧ i < (st.length : Int) := by
  unfold isS at h; simpa using h
theorem bangR {st : List ASt} {i : Nat} {y : ASt} (h : st[i]? = some y) : st[i]! = y := by rw [List.getElem!_eq_getElem?_getD, h]; rfl
theorem sym_no {st : List ASt} {i : Int} (h : i < 1 ∨ isS st i = false) : i = 0 ∨ isS st i = false := by
  rcases h with h | h
  · by_cases h0 : i = 0
    · exact .inl h0
    · right; unfold isS; simp; omega
  · exact .inr h
instance pf_110 : PlF Tryz.prog 110 := ⟨by kernel_rfl⟩
instance pf_48 : PlF Tryz.prog 48 := ⟨by kernel_rfl⟩
instance tA_87 : AggF Tryz.prog 87 := ⟨by kernel_rfl⟩
instance tE_87 : SlT Tryz.prog 87 (103, 6, 96, (.agg #[(.slice none 0 0), (.slice none 0 0), (.int .i64 0), (.int .i64 0), (.int .i64 0), (.slice none 0 0)])) := ⟨by kernel_rfl⟩
instance tF_103_0 : FdT Tryz.prog 103 0 0 := ⟨by kernel_rfl⟩
instance tF_103_1 : FdT Tryz.prog 103 1 1 := ⟨by kernel_rfl⟩
instance tF_103_2 : FdT Tryz.prog 103 2 2 := ⟨by kernel_rfl⟩
instance tF_89_2 : FdT Tryz.prog 89 2 5 := ⟨by kernel_rfl⟩
instance tU_87 : UnS Tryz.prog 87 103 := ⟨by kernel_rfl⟩
theorem findR_calls (s : SP) (ba : Nat) (yA : Option Addr) (yc : Nat) (ys : List Sym) (stA : Option Addr) (stc : Nat) (sts : List RSt) (K : List Itm) (kA : Option Addr) (kc : Nat) (w : World) (hb : Blk w ba #[(.slice s.lA s.lex.length s.lc), (.slice s.nA s.names.length s.nc), (.int .i64 s.start), (.slice s.pA s.prods.length s.pc), (.slice yA ys.length yc), (.slice stA sts.length stc)] 89) (ho : RowA w stA (sts.flatMap RSt.cs)) (hF : RsA w sts) (hkR : RowA w kA (K.flatMap Itm.cs)) (hlen : ∀ x ∈ sts, x.kernel.length ≤ 8796093022208) (hst : sts.length ≤ 1000000000000) :
    Calls Tryz.prog 76 #[(.pointer (some ⟨ba, 0, none⟩)), (.slice kA K.length kc)] w (Ret (fun v w' => v = .int .i64 (idxO K (sts.map RSt.kernel) 0) ∧ Ext w w')) := by
 refine calls_y (n := 26) Tryz.func76 ?_
 refine go ?_
 refine xc_loopN (fun m_ f_ Wx => ∃ (k : Nat), m_ = sts.length - k ∧ (k ≤ sts.length) ∧ (idxO K (sts.map RSt.kernel) 0 = idxO K ((sts.map RSt.kernel).drop k) k) ∧ f_ 0 = (.pointer (some ⟨ba, 0, none⟩)) ∧ f_ 1 = (.slice kA K.length kc) ∧ f_ 5 = (.int .i64 ((k : Nat))) ∧ Ext w Wx) (sts.length) ?_ ?_
 ·
  exact ⟨0, (by omega), (by omega), rfl, rfl, rfl, vW, (Chg.refl _ _)⟩
 ·
  rintro m_ f1 w1 ⟨k, hm_f1, hk, hq, g0_f1, g1_f1, g5_f1, x1⟩
  have hx1 := x1.size
  rw [← usf g0_f1, ← usf g1_f1, ← usf g5_f1]
  refine go ?_
  refine y_ld (hb.ext x1) ?_
  refine go ?_
  refine y_if (fun h1 => ?_) (fun h1 => ?_)
  ·
   refine go ?_
   refine y_ld (hb.ext x1) ?_
   obtain ⟨x_1, g_1, o_1, hx_1⟩ := row_may (A := stA) (cs := RSt.cs) k RSt.len (by decide) (RowA.ext ho x1)
   obtain ⟨hx_2, hA_1, hc_1⟩ := hx_1 oM
   refine go ?_
   refine y_ix k hA_1 ?_
   refine go ?_
   refine y_lc (CellsL.at1 hc_1 0 rfl) ?_
   refine go ?_
   refine yCa (ret_mono (sameItemsR_calls x_1.kernel K x_1.kA kA x_1.kc kc w1 (RowA.ext (hF _ (List.mem_of_getElem? hx_2)).kernel x1) (hkR.ext x1) (hlen _ (List.mem_of_getElem? hx_2))) ?_)
   rintro _ w2 ⟨rfl, e1⟩
   have he1 := e1.size
   refine go ?_
   refine xc_cond (b := (decide (x_1.kernel = K))) rfl (fun h2 => ?_) (fun h2 => ?_)
   ·
    have h2' := bS h2
    refine go ?_
    refine y_r1 ?_
    have x2 : Ext w w2 := (Ext.trans x1 e1)
    exact ⟨congrArg (Value.int .i64) (hq.trans (idxO_hit (map_get (f := RSt.kernel) hx_2) (by simp_all))).symm, x2⟩
   ·
    have h2' := bS h2
    refine go ?_
    refine y_add ?_
    have x3 : Ext w w2 := (Ext.trans x1 e1)
    refine go ?_
    exact ⟨rfl, sts.length - (k + 1), by omega, k + 1, by omega, (by omega), (hq.trans (idxO_next (map_get (f := RSt.kernel) hx_2) (fun h9 => by simp_all))), rfl, rfl, vW, x3⟩
  ·
   refine go ?_
   refine y_r1 ?_
   exact ⟨congrArg (Value.int .i64) (hq.trans (idxO_end (by rw [List.length_map]; omega))).symm, x1⟩
theorem thereR_calls (s : SP) (ba : Nat) (yA : Option Addr) (yc : Nat) (ys : List Sym) (stA : Option Addr) (stc : Nat) (sts : List RSt) (st : List ASt) (i : Int) (w : World) (hb : Blk w ba #[(.slice s.lA s.lex.length s.lc), (.slice s.nA s.names.length s.nc), (.int .i64 s.start), (.slice s.pA s.prods.length s.pc), (.slice yA ys.length yc), (.slice stA sts.length stc)] 89) (hR : RelS ys sts st) (hst : st.length ≤ 100000000000) :
    Calls Tryz.prog 48 #[(.pointer (some ⟨ba, 0, none⟩)), (.int .i64 i)] w (Ret (fun v w' => v = .bool (isS st i) ∧ Ext w w')) := by
 refine calls_y (n := 16) Tryz.func48 ?_
 refine go ?_
 by_cases h1 : (0 : Int) ≤ i
 ·
  refine ysL (s := 7) (bT (decide_eq_true h1)) ?_
  refine go ?_
  refine y_ld hb ?_
  refine go ?_
  refine y_r1 ?_
  exact ⟨congrArg Value.bool (by unfold isS; have hl := hR.1; rw [Bool.eq_iff_iff]; simp; omega), (Chg.refl _ _)⟩
 ·
  refine ysL (s := 7) (bF (decide_eq_false h1)) ?_
  refine go ?_
  refine y_r1 ?_
  exact ⟨congrArg Value.bool (by unfold isS; have hl := hR.1; rw [Bool.eq_iff_iff]; simp; omega), (Chg.refl _ _)⟩
theorem kernelR_calls (s : SP) (ba : Nat) (yA : Option Addr) (yc : Nat) (ys : List Sym) (stA : Option Addr) (stc : Nat) (sts : List RSt) (st : List ASt) (i : Int) (w : World) (hb : Blk w ba #[(.slice s.lA s.lex.length s.lc), (.slice s.nA s.names.length s.nc), (.int .i64 s.start), (.slice s.pA s.prods.length s.pc), (.slice yA ys.length yc), (.slice stA sts.length stc)] 89) (hR : RelS ys sts st) (hst : st.length ≤ 100000000000) (hy : RowA w yA (ys.flatMap Sym.cs)) (ho : RowA w stA (sts.flatMap RSt.cs)) (hF : RsA w sts) :
    Calls Tryz.prog 43 #[(.pointer (some ⟨ba, 0, none⟩)), (.int .i64 i)] w (Ret (fun v w' => ∃ A c, v = .slice A (kernS st i).length c ∧ RowA w' A ((kernS st i).flatMap Itm.cs) ∧ Ext w w')) := by
 have hRl := hR.1
 refine calls_y (n := 17) Tryz.func43 ?_
 refine go ?_
 refine yCa (ret_mono (thereR_calls s ba yA yc ys stA stc sts st i w hb hR hst) ?_)
 rintro _ w1 ⟨rfl, e1⟩
 have he1 := e1.size
 refine go ?_
 refine xc_cond (b := (!((isS st i)))) rfl (fun h1 => ?_) (fun h1 => ?_)
 ·
  have h1' := bS h1
  have his : isS st i = false := by revert h1; cases isS st i <;> simp
  refine go ?_
  refine y_r1 ?_
  exact ⟨none, 0, by unfold kernS; rw [if_neg (by rw [his]; decide)] <;> rfl, by unfold kernS; rw [if_neg (by rw [his]; decide)]; exact rfl, e1⟩
 ·
  have h1' := bS h1
  have his : isS st i = true := by revert h1; cases isS st i <;> simp
  have hir := isS_rng his
  refine go ?_
  refine y_ld (hb.ext e1) ?_
  obtain ⟨x_1, g_1, o_1, hx_1⟩ := row_may (A := stA) (cs := RSt.cs) i.toNat RSt.len (by decide) (RowA.ext ho e1)
  obtain ⟨hx_2, hA_1, hc_1⟩ := hx_1 oM
  obtain ⟨y_x_1, hy_x_1⟩ := get_ex (l := st) (i := i.toNat) (by have h9 := hR.1; omega)
  have hr_x_1 := hR.2 _ _ _ hx_2 hy_x_1
  refine go ?_
  refine y_ix i.toNat hA_1 ?_
  refine go ?_
  refine y_lc (CellsL.at1 hc_1 0 rfl) ?_
  refine go ?_
  refine y_r1 ?_
  have hk9 : kernS st i = x_1.kernel := by unfold kernS; rw [if_pos his, bangR hy_x_1, hr_x_1.kernel]
  exact ⟨_, _, by rw [hk9] <;> rfl, by rw [hk9]; exact RowA.ext (hF _ (List.mem_of_getElem? hx_2)).kernel e1, e1⟩
theorem itemsR_calls (s : SP) (ba : Nat) (yA : Option Addr) (yc : Nat) (ys : List Sym) (stA : Option Addr) (stc : Nat) (sts : List RSt) (st : List ASt) (i : Int) (w : World) (hb : Blk w ba #[(.slice s.lA s.lex.length s.lc), (.slice s.nA s.names.length s.nc), (.int .i64 s.start), (.slice s.pA s.prods.length s.pc), (.slice yA ys.length yc), (.slice stA sts.length stc)] 89) (hR : RelS ys sts st) (hst : st.length ≤ 100000000000) (hy : RowA w yA (ys.flatMap Sym.cs)) (ho : RowA w stA (sts.flatMap RSt.cs)) (hF : RsA w sts) :
    Calls Tryz.prog 50 #[(.pointer (some ⟨ba, 0, none⟩)), (.int .i64 i)] w (Ret (fun v w' => ∃ A c, v = .slice A (itemsS st i).length c ∧ RowA w' A ((itemsS st i).flatMap Itm.cs) ∧ Ext w w')) := by
 have hRl := hR.1
 refine calls_y (n := 17) Tryz.func50 ?_
 refine go ?_
 refine yCa (ret_mono (thereR_calls s ba yA yc ys stA stc sts st i w hb hR hst) ?_)
 rintro _ w1 ⟨rfl, e1⟩
 have he1 := e1.size
 refine go ?_
 refine xc_cond (b := (!((isS st i)))) rfl (fun h1 => ?_) (fun h1 => ?_)
 ·
  have h1' := bS h1
  have his : isS st i = false := by revert h1; cases isS st i <;> simp
  refine go ?_
  refine y_r1 ?_
  exact ⟨none, 0, by unfold itemsS; rw [if_neg (by rw [his]; decide)] <;> rfl, by unfold itemsS; rw [if_neg (by rw [his]; decide)]; exact rfl, e1⟩
 ·
  have h1' := bS h1
  have his : isS st i = true := by revert h1; cases isS st i <;> simp
  have hir := isS_rng his
  refine go ?_
  refine y_ld (hb.ext e1) ?_
  obtain ⟨x_1, g_1, o_1, hx_1⟩ := row_may (A := stA) (cs := RSt.cs) i.toNat RSt.len (by decide) (RowA.ext ho e1)
  obtain ⟨hx_2, hA_1, hc_1⟩ := hx_1 oM
  obtain ⟨y_x_1, hy_x_1⟩ := get_ex (l := st) (i := i.toNat) (by have h9 := hR.1; omega)
  have hr_x_1 := hR.2 _ _ _ hx_2 hy_x_1
  refine go ?_
  refine y_ix i.toNat hA_1 ?_
  refine go ?_
  refine y_lc (CellsL.at1 hc_1 1 rfl) ?_
  refine go ?_
  refine y_r1 ?_
  have hk9 : itemsS st i = x_1.items := by unfold itemsS; rw [if_pos his, bangR hy_x_1, hr_x_1.items]
  exact ⟨_, _, by rw [hk9] <;> rfl, by rw [hk9]; exact RowA.ext (hF _ (List.mem_of_getElem? hx_2)).items e1, e1⟩
theorem symbolR8_calls (s : SP) (ba : Nat) (yA : Option Addr) (yc : Nat) (ys : List Sym) (stA : Option Addr) (stc : Nat) (sts : List RSt) (st : List ASt) (i : Int) (w : World) (hb : Blk w ba #[(.slice s.lA s.lex.length s.lc), (.slice s.nA s.names.length s.nc), (.int .i64 s.start), (.slice s.pA s.prods.length s.pc), (.slice yA ys.length yc), (.slice stA sts.length stc)] 89) (hR : RelS ys sts st) (hst : st.length ≤ 100000000000) (hy : RowA w yA (ys.flatMap Sym.cs)) (ho : RowA w stA (sts.flatMap RSt.cs)) (hF : RsA w sts) :
    Calls Tryz.prog 49 #[(.pointer (some ⟨ba, 0, none⟩)), (.int .i64 i)] w (Ret (fun v w' => v = .tuple #[.agg #[.int .i64 (symS st i).1.kind, .int .i64 (symS st i).1.n], .bool (symS st i).2] ∧ Ext w w')) := by
 have hRl := hR.1
 refine calls_y (n := 23) Tryz.func49 ?_
 refine go ?_
 refine y_al ?_
 intro w1 e1 z1 b1
 refine go ?_
 by_cases h1 : (i : Int) < 1
 ·
  refine ysL (s := 8) (bT (decide_eq_true h1)) ?_
  refine go ?_
  refine yOp (ox_mkStruct (ps := []) (cs := #[(.int .i64 0), (.int .i64 0)]) tZ_32.h tP_32.h rfl (by kernel_rfl) ?_)
  refine y_st b1 ?_
  intro w2 e2 z2 b2
  replace b2 : Blk w2 w.heap.size #[(.int .i64 0), (.int .i64 0)] 32 := blk_full b2 rfl
  refine go ?_
  change leaves _ _ _ _ _ _ _
  refine leaves_nil (n := 23) (rs := [.cell 4 32, .tmp 5]) (vs := [(.agg #[(.int .i64 0), (.int .i64 0)]), (.bool false)]) rfl ⟨⟨by decide, w.heap.size, 0, 2, [(.int .i64 0), (.int .i64 0)], rfl, tA_32.h, tS_32.h, rfl, ⟨b2.cell rfl, b2.cell rfl, trivial⟩, rfl⟩, ⟨by decide, rfl⟩, trivial⟩ ?_
  have x1 : Ext w w2 := (Ext.chg1 e1 e2 (by omega))
  exact ⟨by unfold symS; rw [if_pos (sym_no (by first | (left; omega) | (right; simp_all)))] <;> rfl, x1⟩
 ·
  refine ysL (s := 8) (bF (decide_eq_false h1)) ?_
  refine go ?_
  refine yCa (ret_mono (thereR_calls s ba yA yc ys stA stc sts st i w1 (hb.ext e1) hR hst) ?_)
  rintro _ w3 ⟨rfl, e3⟩
  have he3 := e3.size
  refine go ?_
  refine xc_cond (b := (!((isS st i)))) rfl (fun h2 => ?_) (fun h2 => ?_)
  ·
   have h2' := bS h2
   refine go ?_
   refine yOp (ox_mkStruct (ps := []) (cs := #[(.int .i64 0), (.int .i64 0)]) tZ_32.h tP_32.h rfl (by kernel_rfl) ?_)
   refine y_st (b1.ext e3) ?_
   intro w4 e4 z3 b3
   replace b3 : Blk w4 w.heap.size #[(.int .i64 0), (.int .i64 0)] 32 := blk_full b3 rfl
   refine go ?_
   change leaves _ _ _ _ _ _ _
   refine leaves_nil (n := 23) (rs := [.cell 4 32, .tmp 5]) (vs := [(.agg #[(.int .i64 0), (.int .i64 0)]), (.bool false)]) rfl ⟨⟨by decide, w.heap.size, 0, 2, [(.int .i64 0), (.int .i64 0)], rfl, tA_32.h, tS_32.h, rfl, ⟨b3.cell rfl, b3.cell rfl, trivial⟩, rfl⟩, ⟨by decide, rfl⟩, trivial⟩ ?_
   have x2 : Ext w w4 := (Ext.chg1 (Ext.trans e1 e3) e4 (by omega))
   exact ⟨by unfold symS; rw [if_pos (sym_no (by first | (left; omega) | (right; simp_all)))] <;> rfl, x2⟩
  ·
   have h2' := bS h2
   have his : isS st i = true := by simp_all
   have hir := isS_rng his
   refine go ?_
   refine y_ld ((hb.ext e1).ext e3) ?_
   have x3 : Ext w w3 := (Ext.trans e1 e3)
   obtain ⟨x_1, g_1, o_1, hx_1⟩ := row_may (A := stA) (cs := RSt.cs) i.toNat RSt.len (by decide) (RowA.ext ho x3)
   obtain ⟨hx_2, hA_1, hc_1⟩ := hx_1 oM
   obtain ⟨y_x_1, hy_x_1⟩ := get_ex (l := st) (i := i.toNat) (by have h9 := hR.1; omega)
   have hr_x_1 := hR.2 _ _ _ hx_2 hy_x_1
   refine go ?_
   refine y_ix i.toNat hA_1 ?_
   refine go ?_
   refine y_lN (vs := [(.int .i64 x_1.sym.kind), (.int .i64 x_1.sym.n)]) (CellsL.sub hc_1 2 2 rfl) ?_
   refine y_st (b1.ext e3) ?_
   intro w5 e5 z4 b4
   replace b4 : Blk w5 w.heap.size #[(.int .i64 x_1.sym.kind), (.int .i64 x_1.sym.n)] 32 := blk_full b4 rfl
   refine go ?_
   change leaves _ _ _ _ _ _ _
   refine leaves_nil (n := 23) (rs := [.cell 4 32, .tmp 5]) (vs := [(.agg #[(.int .i64 x_1.sym.kind), (.int .i64 x_1.sym.n)]), (.bool true)]) rfl ⟨⟨by decide, w.heap.size, 0, 2, [(.int .i64 x_1.sym.kind), (.int .i64 x_1.sym.n)], rfl, tA_32.h, tS_32.h, rfl, ⟨b4.cell rfl, b4.cell rfl, trivial⟩, rfl⟩, ⟨by decide, rfl⟩, trivial⟩ ?_
   have x4 : Ext w w5 := (Ext.chg1 x3 e5 (by omega))
   exact ⟨by unfold symS; rw [if_neg (by rintro (h9 | h9); omega; rw [his] at h9; cases h9), bangR hy_x_1, ← hr_x_1.sym] <;> rfl, x4⟩
theorem path_no {g : GD} {st : List ASt} (h : Aut g st) {q : Int} (hq : q ≤ 0 ∨ isS st q = false) : pathS st q = [] := by
  by_cases h0 : q = 0
  · subst h0; exact path_zero h
  · have : isS st q = false := by
      rcases hq with hq | hq
      · unfold isS; simp; omega
      · exact hq
    unfold pathS; rw [if_neg (by rw [this]; decide)]
theorem path_step {g : GD} {st : List ASt} (h : Aut g st) {q : Int} (h0 : 0 < q) (hl : q < (st.length : Int)) {y : ASt} (hy : st[q.toNat]? = some y) : 0 ≤ y.frm ∧ y.frm < q ∧ pathS st q = pathS st y.frm ++ [y.sym] := by
  obtain ⟨m, u, e1, e2, e3, _⟩ := h.frm _ _ hy (by omega)
  have := path_next h hy (by omega) e1 e2 e3
  rw [show ((q.toNat : Nat) : Int) = q by omega] at this
  rw [e1]
  exact ⟨by omega, by omega, this⟩
theorem arcTo_none {z : Sym} : ∀ {l : List Arc}, (∀ a ∈ l, a.sym ≠ z) → arcTo z l = -1
  | [], _ => rfl
  | a :: l, h => by
    rw [arcTo, if_neg, arcTo_none fun b hb => h b (by simp [hb])]
    intro h9
    apply h a (by simp)
    cases z; cases hs : a.sym; simp_all
theorem goS_none {ys : List Sym} {st : List ASt} {i : Int} {z : Sym} (hs : ∀ x ∈ st, ∀ a ∈ x.arcs, a.sym ∈ ys) (h : isS st i = false ∨ ∀ x ∈ ys, x ≠ z) : goS st i z = -1 := by
  unfold goS
  split
  · rename_i hi
    have hr := isS_rng hi
    have hx := List.getElem?_eq_getElem (l := st) (i := i.toNat) (by omega)
    rw [bangR hx]
    exact arcTo_none fun a ha => (h.resolve_left (by rw [hi]; decide)) _ (hs _ (List.mem_of_getElem? hx) a ha)
  · rfl
instance pf_20 : PlF Tryz.prog 20 := ⟨by kernel_rfl⟩
instance tA_27 : AggF Tryz.prog 27 := ⟨by kernel_rfl⟩
instance tF_103_3 : FdT Tryz.prog 103 3 4 := ⟨by kernel_rfl⟩
instance tF_103_4 : FdT Tryz.prog 103 4 5 := ⟨by kernel_rfl⟩
instance tF_89_1 : FdT Tryz.prog 89 1 4 := ⟨by kernel_rfl⟩
theorem pathR_calls (s : SP) (ba : Nat) (yA : Option Addr) (yc : Nat) (ys : List Sym) (stA : Option Addr) (stc : Nat) (sts : List RSt) (st : List ASt) (i : Int) (w : World) (hb : Blk w ba #[(.slice s.lA s.lex.length s.lc), (.slice s.nA s.names.length s.nc), (.int .i64 s.start), (.slice s.pA s.prods.length s.pc), (.slice yA ys.length yc), (.slice stA sts.length stc)] 89) (hR : RelS ys sts st) (hst : st.length ≤ 100000000000) (hy : RowA w yA (ys.flatMap Sym.cs)) (ho : RowA w stA (sts.flatMap RSt.cs)) (hF : RsA w sts) (hA : Aut s.g st) :
    Calls Tryz.prog 51 #[(.pointer (some ⟨ba, 0, none⟩)), (.int .i64 i)] w (Ret (fun v w' => ∃ A' c', v = .slice A' (pathS st i).length c' ∧ NewRow w w' 32 2 Sym.cs (pathS st i) A' c' ∧ Ext w w')) := by
 have hRl := hR.1
 refine calls_y (n := 33) Tryz.func51 ?_
 refine go ?_
 refine xc_loopN (fun m_ f_ Wx => ∃ (q : Int) (y : List Sym) (Ay : Option Addr) (cy : Nat), m_ = q.toNat ∧ (pathS st i = pathS st q ++ y) ∧ (y.length = 0 ∨ ((y.length : Int) + q < (st.length : Int) ∧ 0 ≤ q)) ∧ f_ 0 = (.pointer (some ⟨ba, 0, none⟩)) ∧ f_ 4 = (.slice none 0 0) ∧ f_ 1 = (.int .i64 q) ∧ f_ 5 = (.slice Ay y.length cy) ∧ Vx.Own Wx 32 2 (.slice Ay y.length cy) y.length (y.flatMap Sym.cs) ∧ (∀ k, ((.slice Ay y.length cy) : Value).ownBlock = some k → w.heap.size ≤ k) ∧ Ext w Wx) (i.toNat) ?_ ?_
 ·
  exact ⟨i, [], none, 0, (by omega), (by simp), (by simp), rfl, rfl, vW, rfl, (Vx.Own.nil _ _ _), (fun _k _h => by simp [Value.ownBlock] at _h), (Chg.refl _ _)⟩
 ·
  rintro m_ f1 w1 ⟨q, y, Ay, cy, hm_f1, hq, hyl, g0_f1, g4_f1, g1_f1, g5_f1, a0_f1, l0_f1, x1⟩
  have hx1 := x1.size
  rw [← usf g0_f1, ← usf g4_f1, ← usf g1_f1, ← usf g5_f1]
  refine go ?_
  by_cases h1 : (0 : Int) < q
  ·
   refine ysL (s := 8) (bT (decide_eq_true h1)) ?_
   refine go ?_
   refine yCa (ret_mono (thereR_calls s ba yA yc ys stA stc sts st q w1 (hb.ext x1) hR hst) ?_)
   rintro _ w2 ⟨rfl, e1⟩
   have he1 := e1.size
   refine go ?_
   refine xc_cond (b := ((isS st q))) rfl (fun h2 => ?_) (fun h2 => ?_)
   ·
    have h2' := bS h2
    have his : isS st q = true := by simp_all
    have hir := isS_rng his
    refine go ?_
    refine y_ld ((hb.ext x1).ext e1) ?_
    have x2 : Ext w w2 := (Ext.trans x1 e1)
    obtain ⟨x_1, g_1, o_1, hx_1⟩ := row_may (A := stA) (cs := RSt.cs) q.toNat RSt.len (by decide) (RowA.ext ho x2)
    obtain ⟨hx_2, hA_1, hc_1⟩ := hx_1 oM
    obtain ⟨y_x_1, hy_x_1⟩ := get_ex (l := st) (i := q.toNat) (by have h9 := hR.1; omega)
    have hr_x_1 := hR.2 _ _ _ hx_2 hy_x_1
    refine go ?_
    refine y_ix q.toNat hA_1 ?_
    refine go ?_
    refine y_lN (vs := [(.int .i64 x_1.sym.kind), (.int .i64 x_1.sym.n)]) (CellsL.sub hc_1 2 2 rfl) ?_
    refine yOp (ox_mkSlice (ps := [(0, (.agg #[(.int .i64 x_1.sym.kind), (.int .i64 x_1.sym.n)]))]) (zs := #[(.int .i64 0), (.int .i64 0)]) (cs := #[(.int .i64 x_1.sym.kind), (.int .i64 x_1.sym.n)]) tE_33.h rfl (by decide) (by kernel_rfl) (by kernel_rfl) ?_)
    intro w3 e2 z1 b1
    replace b1 : Blk w3 w2.heap.size #[(.int .i64 x_1.sym.kind), (.int .i64 x_1.sym.n)] 32 := b1
    refine go ?_
    refine yOp (ox_appR (l := ([(⟨x_1.sym.kind, x_1.sym.n⟩ : Sym)])) (r := y) (cs := Sym.cs) rfl tE_33.h rfl (by decide) Sym.len Sym.one (v := (.slice (some ⟨w2.heap.size, 0, none⟩) 1 1)) rfl rfl (Vx.Own.lit (n := 1) (sz := 2) b1 rfl (by decide)) (Own.rowO ((a0_f1.ext e1).ext e2)) (by simp only [List.length_append, List.length_cons, List.length_nil]; omega) (by decide) ?_)
    intro A1 c1 w4 o1 e3 at1 hc1
    have he3 := e3.size
    have low1 : ∀ _k, (Value.slice A1 (([(⟨x_1.sym.kind, x_1.sym.n⟩ : Sym)]) ++ y).length c1).ownBlock = some _k → w2.heap.size ≤ _k := fun _k _h => by rcases at1 with _e | _e <;> rw [_e] at _h; exact (fun _k _h => by simp [Value.ownBlock] at _h; omega) _k _h; exact (by cases _h; omega)
    have q1 := ((((hb.ext x1).ext e1).ext e2).keep e3 (fun _h => (Vx.Own.lit (n := 1) (sz := 2) b1 rfl (by decide)).ne_blk (((hb.ext x1).ext e1).ext e2) (by decide) _ _h rfl))
    refine go ?_
    refine y_ld q1 ?_
    have x3 : Ext w2 w4 := (Chg.trans e2 e3 (fun b hb hl => (absurd hl (by have _h := (fun _k _h => by simp [Value.ownBlock] at _h; omega) b hb; omega))))
    refine go ?_
    refine y_ix q.toNat hA_1 ?_
    refine go ?_
    refine y_lc (CellsL.at1 (CellsL.keep x3 not_false hc_1) 4 rfl) ?_
    obtain ⟨hfm1, hfm2, hfm3⟩ := path_step hA (q := q) (by omega) hir.2 hy_x_1
    rw [← hr_x_1.frm] at hfm1 hfm2 hfm3
    have x4 : Ext w w4 := (Chg.trans (Ext.trans x2 e2) e3 (fun b hb hl => (absurd hl (by have _h := (fun _k _h => by simp [Value.ownBlock] at _h; omega) b hb; omega))))
    refine go ?_
    exact ⟨rfl, x_1.frm.toNat, by omega, x_1.frm, ([(⟨x_1.sym.kind, x_1.sym.n⟩ : Sym)]) ++ y, A1, c1, by rfl, (hq.trans (by rw [hfm3, List.append_assoc, ← hr_x_1.sym])), (by simp only [List.length_append, List.length_cons, List.length_nil]; omega), rfl, rfl, vW, rfl, o1, (fun k hk => by have _h := low1 k hk; omega), x4⟩
   ·
    have h2' := bS h2
    have hp9 : pathS st q = [] := path_no hA (by first | (left; omega) | (right; simp_all))
    refine go ?_
    refine y_r1 ?_
    have hq9 : y = pathS st i := by rw [hq, hp9] <;> rfl
    have x5 : Ext w w2 := (Ext.trans x1 e1)
    exact ⟨_, _, by rw [← hq9] <;> rfl, by rw [← hq9]; exact ⟨(a0_f1.ext e1), fun k hk => by have _h := l0_f1 k hk; omega⟩, x5⟩
  ·
   refine ysL (s := 8) (bF (decide_eq_false h1)) ?_
   have hp9 : pathS st q = [] := path_no hA (by first | (left; omega) | (right; simp_all))
   refine go ?_
   refine y_r1 ?_
   have hq9 : y = pathS st i := by rw [hq, hp9] <;> rfl
   exact ⟨_, _, by rw [← hq9] <;> rfl, by rw [← hq9]; exact ⟨a0_f1, fun k hk => by have _h := l0_f1 k hk; omega⟩, x1⟩
theorem goR_calls (s : SP) (ba : Nat) (yA : Option Addr) (yc : Nat) (ys : List Sym) (stA : Option Addr) (stc : Nat) (sts : List RSt) (st : List ASt) (i : Int) (z : Sym) (w : World) (hb : Blk w ba #[(.slice s.lA s.lex.length s.lc), (.slice s.nA s.names.length s.nc), (.int .i64 s.start), (.slice s.pA s.prods.length s.pc), (.slice yA ys.length yc), (.slice stA sts.length stc)] 89) (hR : RelS ys sts st) (hst : st.length ≤ 100000000000) (hy : RowA w yA (ys.flatMap Sym.cs)) (ho : RowA w stA (sts.flatMap RSt.cs)) (hF : RsA w sts) (hsub : ∀ x ∈ st, ∀ a ∈ x.arcs, a.sym ∈ ys) (hyn : ys.length ≤ 1000000000) :
    Calls Tryz.prog 20 #[(.pointer (some ⟨ba, 0, none⟩)), (.int .i64 i), (.agg #[(.int .i64 z.kind), (.int .i64 z.n)])] w (Ret (fun v w' => v = .int .i64 (goS st i z) ∧ Ext w w')) := by
 have hRl := hR.1
 refine calls_y (n := 42) Tryz.func20 ?_
 refine go ?_
 refine y_bx ?_
 intro w1 e1 z1 b1
 refine go ?_
 refine xc_loopN (fun m_ f_ Wx => ∃ (k : Nat), m_ = ys.length - k ∧ (k ≤ ys.length) ∧ (∀ x ∈ ys.take k, x ≠ z) ∧ f_ 0 = (.pointer (some ⟨ba, 0, none⟩)) ∧ f_ 1 = (.int .i64 i) ∧ f_ 5 = (.pointer (some ⟨w.heap.size, 0, none⟩)) ∧ f_ 7 = (.int .i64 ((k : Nat))) ∧ Ext w1 Wx) (ys.length) ?_ ?_
 ·
  exact ⟨0, (by omega), (by omega), (fun x hx => by simp at hx), rfl, rfl, rfl, vW, (Chg.refl _ _)⟩
 ·
  rintro m_ f1 w2 ⟨k, hm_f1, hk, hq, g0_f1, g1_f1, g5_f1, g7_f1, x1⟩
  have hx1 := x1.size
  rw [← usf g0_f1, ← usf g1_f1, ← usf g5_f1, ← usf g7_f1]
  refine go ?_
  refine y_ld ((hb.ext e1).ext x1) ?_
  refine go ?_
  by_cases h1 : ((k : Nat) : Int) < (((ys.length : Nat) : Int))
  ·
   refine ysL (s := 15) (bT (decide_eq_true h1)) ?_
   refine go ?_
   refine yCa (ret_mono (thereR_calls s ba yA yc ys stA stc sts st i w2 ((hb.ext e1).ext x1) hR hst) ?_)
   rintro _ w3 ⟨rfl, e2⟩
   have he2 := e2.size
   refine go ?_
   refine xc_cond (b := ((isS st i))) rfl (fun h2 => ?_) (fun h2 => ?_)
   ·
    have h2' := bS h2
    have his : isS st i = true := by simp_all
    have hir := isS_rng his
    refine go ?_
    refine xc_regionE [] (fun W_ => Chg (fun _ => False) w3 W_) hmix ?_
    intro w4 e3 z2
    have hS1 : Chg (fun _ => False) w3 w4 := Ext.to e3
    refine yDp 0 ?_
    refine yDp 1 ?_
    refine yDp 2 ?_
    refine yDt (i := 3) rfl hS1 (fun W_ hW_ => ox_load tA_33.h rfl (((((hb.ext e1).ext x1).ext e2).ext hW_).cell rfl) ⟨rfl, rfl⟩) ?_
    refine yDp 4 ?_
    have x2 : Ext w w3 := (Ext.trans (Ext.trans e1 x1) e2)
    obtain ⟨x_1, g_1, o_1, hx_1⟩ := row_may (A := yA) (cs := Sym.cs) k Sym.len (by decide) (RowA.ext hy x2)
    obtain ⟨hx_2, hA_1, hc_1⟩ := hx_1 oM
    refine yDx (i := 5) k hA_1 ?_
    refine yDt (i := 6) rfl hS1 (fun W_ hW_ => ox_loadN (vs := [(.int .i64 x_1.kind), (.int .i64 x_1.n)]) tA_32.h tS_32.h rfl rfl (CellsL.keep hW_ not_false hc_1) ⟨rfl, rfl⟩) ?_
    refine yDt (i := 7) rfl hS1 (fun W_ hW_ => ox_loadN (vs := [(.int .i64 z.kind), (.int .i64 z.n)]) tA_32.h tS_32.h rfl rfl ⟨(((b1.ext x1).ext e2).ext hW_).cell rfl, (((b1.ext x1).ext e2).ext hW_).cell rfl, trivial⟩ ⟨rfl, rfl⟩) ?_
    refine yDq (i := 8) rfl (fun W_ hW_ => ox_eqlF (xs := [(.int .i64 x_1.kind), (.int .i64 x_1.n)]) (ys := [(.int .i64 z.kind), (.int .i64 z.n)]) (p := ((x_1.kind : Int) = z.kind ∧ (x_1.n : Int) = z.n)) fS_32 rfl rfl rfl rfl (by simp) ⟨rfl, rfl⟩) ?_
    refine xd_done (by kernel_rfl) ?_ _
    refine go ?_
    refine y_if (fun h3 => ?_) (fun h3 => ?_)
    ·
     refine go ?_
     refine y_ld ((((hb.ext e1).ext x1).ext e2).ext e3) ?_
     have x3 : Ext w w4 := (Ext.trans x2 e3)
     obtain ⟨x_2, g_2, o_2, hx_3⟩ := row_may (A := stA) (cs := RSt.cs) i.toNat RSt.len (by decide) (RowA.ext ho x3)
     obtain ⟨hx_4, hA_2, hc_2⟩ := hx_3 oM
     obtain ⟨y_x_2, hy_x_2⟩ := get_ex (l := st) (i := i.toNat) (by have h9 := hR.1; omega)
     have hr_x_2 := hR.2 _ _ _ hx_4 hy_x_2
     refine go ?_
     refine y_ix i.toNat hA_2 ?_
     have hgl : x_2.go.length = ys.length := by rw [hr_x_2.go, List.length_map]
     refine go ?_
     refine y_lc (CellsL.at1 hc_2 5 rfl) ?_
     obtain ⟨x_3, g_3, o_3, hx_5⟩ := row_may (A := x_2.gA) (cs := ints) k ints_len (by decide) (RowA.ext ((hF _ (List.mem_of_getElem? hx_4)).go) x3)
     obtain ⟨hx_6, hA_3, hc_3⟩ := hx_5 oM
     refine go ?_
     refine y_ix k hA_3 ?_
     refine y_lc (CellsL.at1 hc_3 0 rfl) ?_
     refine go ?_
     refine y_r1 ?_
     have hz9 : x_1 = z := by cases z; cases x_1; simp_all
     have hg9 : some x_3 = some (arcTo z y_x_2.arcs) := hx_6.symm.trans (by rw [hr_x_2.go, map_get hx_2, hz9])
     have hg8 : x_3 = arcTo z y_x_2.arcs := Option.some.inj hg9
     exact ⟨by unfold goS; rw [if_pos his, bangR hy_x_2, ← hg8] <;> rfl, x3⟩
    ·
     refine go ?_
     refine y_add ?_
     have x4 : Ext w1 w4 := (Ext.trans (Ext.trans x1 e2) e3)
     refine go ?_
     exact ⟨rfl, ys.length - (k + 1), by omega, k + 1, by omega, (by omega), (fun x hx => (take_succ_mem hx_2 hx).elim (hq x) (fun e h9 => h3 (by rw [← e, h9]; exact ⟨rfl, rfl⟩))), rfl, rfl, rfl, vW, x4⟩
   ·
    have h2' := bS h2
    refine go ?_
    refine y_r1 ?_
    have x5 : Ext w w3 := (Ext.trans (Ext.trans e1 x1) e2)
    exact ⟨by rw [goS_none hsub (by first | (left; simp_all; done) | (right; intro x hx; exact hq x (by rw [List.take_of_length_le (by omega)]; exact hx)))] <;> rfl, x5⟩
  ·
   refine ysL (s := 15) (bF (decide_eq_false h1)) ?_
   refine go ?_
   refine y_r1 ?_
   have x6 : Ext w w2 := (Ext.trans e1 x1)
   exact ⟨by rw [goS_none hsub (by first | (left; simp_all; done) | (right; intro x hx; exact hq x (by rw [List.take_of_length_le (by omega)]; exact hx)))] <;> rfl, x6⟩
instance pf_108 : PlF Tryz.prog 108 := ⟨by kernel_rfl⟩
instance tP_103 : PcT Tryz.prog 103 #[(0, 1), (1, 1), (2, 2), (4, 1), (5, 1)] := ⟨by kernel_rfl⟩
instance tS_87 : SzT Tryz.prog 87 1 := ⟨by kernel_rfl⟩
instance tZ_103 : ZrT Tryz.prog 103 (.agg #[(.slice none 0 0), (.slice none 0 0), (.int .i64 0), (.int .i64 0), (.int .i64 0), (.slice none 0 0)]) := ⟨by kernel_rfl⟩
theorem addR_calls (s : SP) (ba : Nat) (yA : Option Addr) (yc : Nat) (ys : List Sym) (stA : Option Addr) (stc : Nat) (sts : List RSt) (K : List Itm) (kA : Option Addr) (kc : Nat) (z : Sym) (fr : Int) (w : World) (hb : Blk w ba #[(.slice s.lA s.lex.length s.lc), (.slice s.nA s.names.length s.nc), (.int .i64 s.start), (.slice s.pA s.prods.length s.pc), (.slice yA ys.length yc), (.slice stA sts.length stc)] 89) (ho : Vx.Own w 103 6 (.slice stA sts.length stc) sts.length (sts.flatMap RSt.cs)) (hS : SpR w s) (hG : GoodG s.g) (hK : ∀ x ∈ K, okI s.g x) (hK0 : ∀ x ∈ K, x.dot = 0 → x.p = -1) (hR16 : ∀ p ∈ s.g.prods, p.2.length ≤ 16) (hkR : RowA w kA (K.flatMap Itm.cs)) (hkn : K.length ≤ 1000000000) (hst : sts.length ≤ 1000000) :
    Calls Tryz.prog 73 #[(.pointer (some ⟨ba, 0, none⟩)), (.slice kA K.length kc), (.agg #[(.int .i64 z.kind), (.int .i64 z.n)]), (.int .i64 fr)] w (Ret (fun v w' => ∃ A' c' iA ic, v = .tuple #[] ∧ Vx.Own w' 103 6 (.slice A' (sts ++ [(RSt.mk kA kc K iA ic (closG s.g K) (⟨z.kind, z.n⟩ : Sym) fr none 0 [])]).length c') (sts ++ [(RSt.mk kA kc K iA ic (closG s.g K) (⟨z.kind, z.n⟩ : Sym) fr none 0 [])]).length ((sts ++ [(RSt.mk kA kc K iA ic (closG s.g K) (⟨z.kind, z.n⟩ : Sym) fr none 0 [])]).flatMap RSt.cs) ∧ NewRow w w' 42 2 Itm.cs (closG s.g K) iA ic ∧ Blk w' ba #[(.slice s.lA s.lex.length s.lc), (.slice s.nA s.names.length s.nc), (.int .i64 s.start), (.slice s.pA s.prods.length s.pc), (.slice yA ys.length yc), (.slice A' ((sts ++ [(RSt.mk kA kc K iA ic (closG s.g K) (⟨z.kind, z.n⟩ : Sym) fr none 0 [])]).length) c')] 89 ∧ (∀ k, (Value.slice A' (sts ++ [(RSt.mk kA kc K iA ic (closG s.g K) (⟨z.kind, z.n⟩ : Sym) fr none 0 [])]).length c').ownBlock = some k → (Value.slice stA sts.length stc).ownBlock = some k ∨ w.heap.size ≤ k) ∧ Chg (fun b => b = ba ∨ (Value.slice stA sts.length stc).ownBlock = some b) w w')) := by
 refine calls_y (n := 24) Tryz.func73 ?_
 refine go ?_
 refine y_bx ?_
 intro w1 e1 z1 b1
 refine go ?_
 refine xc_regionE [13, 16] (fun W_ => Chg (fun _ => False) w1 W_) hmix ?_
 intro w2 e2 z2
 have hS1 : Chg (fun _ => False) w1 w2 := Ext.to e2
 refine yDp 0 ?_
 refine yDp 1 ?_
 refine yDp 2 ?_
 refine yDp 3 ?_
 refine xd_takeU 4 (some 12) [13, 14, 15, 16] rfl rfl (by kernel_rfl) (v := (.slice stA sts.length stc)) (.inl ⟨rfl, fun W_ hW_ => ox_load (v := (.slice stA sts.length stc)) tA_87.h rfl (((hb.ext e1).ext hW_).cell rfl) ⟨rfl, rfl⟩⟩) hS1 ?_
 refine yDp 5 ?_
 refine yDp 6 ?_
 refine yDp 7 ?_
 refine xd_takeU 9 (some 17) [11, 14, 15, 16, 12, 13] rfl rfl (by kernel_rfl) (v := (.agg #[(.int .i64 z.kind), (.int .i64 z.n)])) (.inl ⟨rfl, fun W_ hW_ => ox_loadN (vs := [(.int .i64 z.kind), (.int .i64 z.n)]) tA_32.h tS_32.h rfl rfl ⟨(b1.ext hW_).cell rfl, (b1.ext hW_).cell rfl, trivial⟩ ⟨rfl, rfl⟩⟩) hS1 ?_
 refine yDp 10 ?_
 have x1 : Ext w w2 := (Ext.trans e1 e2)
 refine yD1 (i := 8) rfl (yCx (ret_mono (closureR_calls s ba yA ys.length yc stA sts.length stc K kA kc w2 ((hb.ext e1).ext e2) (hS.ext x1) hG hK hK0 hR16 (hkR.ext x1) hkn) ?_))
 rintro _ w3 ⟨iA, ic, rfl, hnI, e3⟩
 have he3 := e3.size
 have hiO := hnI.1
 have hS2 : Chg (fun _ => False) w1 w3 := Chg.ext hS1 e3
 refine ⟨.inr fun _ => hS2, ?_⟩
 refine yDq (i := 11) rfl (fun W_ hW_ => ox_mkStruct (ps := [(0, (.slice kA K.length kc)), (1, (.slice iA ((closG s.g K).length) ic)), (2, (.agg #[(.int .i64 z.kind), (.int .i64 z.n)])), (3, (.int .i64 fr))]) (cs := #[(.slice kA K.length kc), (.slice iA ((closG s.g K).length) ic), (.int .i64 z.kind), (.int .i64 z.n), (.int .i64 fr), (.slice none 0 0)]) tZ_103.h tP_103.h rfl (by kernel_rfl) ⟨rfl, rfl⟩) ?_
 refine yD1 (i := 12) rfl (ox_mkSlice (ps := [(0, (.agg #[(.slice kA K.length kc), (.slice iA ((closG s.g K).length) ic), (.int .i64 z.kind), (.int .i64 z.n), (.int .i64 fr), (.slice none 0 0)]))]) (zs := #[(.slice none 0 0), (.slice none 0 0), (.int .i64 0), (.int .i64 0), (.int .i64 0), (.slice none 0 0)]) (cs := #[(.slice kA K.length kc), (.slice iA ((closG s.g K).length) ic), (.int .i64 z.kind), (.int .i64 z.n), (.int .i64 fr), (.slice none 0 0)]) tE_87.h rfl (by decide) (by kernel_rfl) (by kernel_rfl) ?_)
 intro w4 e4 z3 b2
 replace b2 : Blk w4 w3.heap.size #[(.slice kA K.length kc), (.slice iA ((closG s.g K).length) ic), (.int .i64 z.kind), (.int .i64 z.n), (.int .i64 fr), (.slice none 0 0)] 103 := b2
 have hS3 : Chg (fun _ => False) w1 w4 := Chg.ext hS2 e4
 refine ⟨.inr fun _ => hS3, ?_⟩
 refine yD1 (i := 13) rfl (ox_appD (l := sts) (r := [(RSt.mk kA kc K iA ic (closG s.g K) (⟨z.kind, z.n⟩ : Sym) fr none 0 [])]) (cs := RSt.cs) rfl tE_87.h rfl (by decide) RSt.len RSt.one (v := (.slice stA sts.length stc)) rfl rfl (m := 1) rfl ((((ho.ext e1).ext e2).ext e3).ext e4) b2.all (by simp only [List.length_append, List.length_cons, List.length_nil]; omega) (by decide) ?_)
 intro A1 c1 w5 o1 e5 at1 hc1
 have he5 := e5.size
 have low1 : ∀ _k, (Value.slice A1 (sts ++ [(RSt.mk kA kc K iA ic (closG s.g K) (⟨z.kind, z.n⟩ : Sym) fr none 0 [])]).length c1).ownBlock = some _k → 0 ≤ _k := fun _k _h => by rcases at1 with _e | _e <;> rw [_e] at _h; exact (fun k _ => Nat.zero_le k) _k _h; exact (by cases _h; omega)
 have rel1 : ∀ _k, (Value.slice A1 (sts ++ [(RSt.mk kA kc K iA ic (closG s.g K) (⟨z.kind, z.n⟩ : Sym) fr none 0 [])]).length c1).ownBlock = some _k → ((.slice stA sts.length stc) : Value).ownBlock = some _k ∨ w.heap.size ≤ _k := fun _k _h => by rcases at1 with _e | _e <;> rw [_e] at _h; exact (fun _k h => .inl h) _k _h; exact .inr (by cases _h; omega)
 refine ⟨.inl (by decide), ?_⟩
 refine yDp 14 ?_
 refine yDp 15 ?_
 have q1 := (((((hb.ext e1).ext e2).ext e3).ext e4).keep e5 (fun _h => ((((ho.ext e1).ext e2).ext e3).ext e4).ne_blk ((((hb.ext e1).ext e2).ext e3).ext e4) (by decide) _ _h rfl))
 refine yD1 (i := 16) rfl (ox_store (n := 1) (vs := [(.slice A1 ((sts ++ [(RSt.mk kA kc K iA ic (closG s.g K) (⟨z.kind, z.n⟩ : Sym) fr none 0 [])]).length) c1)]) tS_87.h rfl (v := (.slice A1 ((sts ++ [(RSt.mk kA kc K iA ic (closG s.g K) (⟨z.kind, z.n⟩ : Sym) fr none 0 [])]).length) c1)) rfl rfl rfl rfl q1 (Nat.le_of_ble_eq_true rfl) ?_)
 intro w6 e6 z4 b3
 replace b3 : Blk w6 ba #[(.slice s.lA s.lex.length s.lc), (.slice s.nA s.names.length s.nc), (.int .i64 s.start), (.slice s.pA s.prods.length s.pc), (.slice yA ys.length yc), (.slice A1 ((sts ++ [(RSt.mk kA kc K iA ic (closG s.g K) (⟨z.kind, z.n⟩ : Sym) fr none 0 [])]).length) c1)] 89 := b3
 refine ⟨.inl (by decide), ?_⟩
 refine xd_done (by kernel_rfl) ?_ _
 refine go ?_
 refine y_r0 ?_
 have q2 := (o1.keep1 e6 (fun k hk => o1.ne_blk q1 (by decide) k hk))
 have q3 := ((hiO.ext e4).keep e5 (fun _k _hk => (hiO.ext e4).ne_own ((((ho.ext e1).ext e2).ext e3).ext e4) (by decide) _k _hk))
 have q4 := (q3.keep1 e6 (fun k hk => q3.ne_blk q1 (by decide) k hk))
 exact ⟨A1, c1, iA, ic, rfl, q2, ⟨q4, (fun k hk => by have _h := hnI.2 k hk; omega)⟩, b3, rel1, (Chg.trans (Chg.trans (Chg.ext (Chg.ext (Chg.ext (Chg.ext (Chg.refl (fun b => b = ba ∨ ((.slice stA sts.length stc) : Value).ownBlock = some b) w) e1) e2) e3) e4) e5 (fun b hb hl => .inr hb)) e6 (fun b hb hl => .inl hb))⟩
structure RelC (x : RSt) (y : ASt) : Prop where
  kernel : y.kernel = x.kernel
  items : y.items = x.items
  sym : x.sym = y.sym
  frm : x.frm = y.frm
def RelL (sts : List RSt) (us : List ASt) : Prop := sts.length = us.length ∧ ∀ (j : Nat) (x : RSt) (y : ASt), sts[j]? = some x → us[j]? = some y → RelC x y
def standB (g : GD) (it : List Itm) (z : Sym) : Bool := decide (∃ y ∈ it, behindG g y = some z)
structure RQ (g : GD) (ys : List Sym) (q : Nat) (st : List ASt) (sts : List RSt) : Prop where
  ok : OkV g q st
  rel : RelL sts st
  go : ∀ (j : Nat) (x : RSt) (y : ASt), j < q → sts[j]? = some x → st[j]? = some y → x.go = ys.map fun z => arcTo z y.arcs
  no : ∀ (j : Nat) (x : RSt), q ≤ j → sts[j]? = some x → x.gA = none ∧ x.go = []
  bd : buildF g (1025 - q) q st = buildG g
structure RK (g : GD) (ys : List Sym) (q k : Nat) (st0 : List ASt) (it : List Itm) (us : List ASt) (sts : List RSt) (gl : List Int) : Prop where
  ok : OkW g q ((ys.take k).filter (standB g it)).length us
  fold : us = ((ys.take k).filter (standB g it)).foldl (arcS g q) st0
  rel : RelL sts us
  it : ∀ x, us[q]? = some x → x.items = it ∧ x.arcs.map Arc.sym = (ys.take k).filter (standB g it) ∧ gl = (ys.take k).map fun z => arcTo z x.arcs
  go : ∀ (j : Nat) (x : RSt) (y : ASt), j < q → sts[j]? = some x → us[j]? = some y → x.go = ys.map fun z => arcTo z y.arcs
  no : ∀ (j : Nat) (x : RSt), q ≤ j → sts[j]? = some x → x.gA = none ∧ x.go = []
section
variable {g : GD} {ys : List Sym} {q k : Nat} {st st0 us : List ASt} {it : List Itm} {sts sts0 : List RSt} {gl : List Int}
theorem RK.start (h : RQ g ys q st sts) (hq : q < st.length) {x : ASt} (hx : st[q]? = some x) (hi : x.items = it) : RK g ys q 0 st it st sts [] := by
  refine ⟨by simpa using h.ok.enter hq, rfl, h.rel, fun y hy => ?_, h.go, h.no⟩
  rw [hx] at hy; cases hy
  exact ⟨hi, by rw [h.ok.rest q x (Nat.le_refl _) hx]; rfl, rfl⟩
theorem standB_iff {z : Sym} : standB g it z = true ↔ overG g z it ≠ [] := by
  unfold standB
  rw [decide_eq_true_eq]
  constructor
  · rintro ⟨y, hy, hb⟩ h9
    have : (⟨y.p, y.dot + 1⟩ : Itm) ∈ overG g z it := overG_mem.2 ⟨y, hy, hb, rfl⟩
    rw [h9] at this; cases this
  · intro h
    obtain ⟨x, hx⟩ := List.exists_mem_of_ne_nil _ h
    obtain ⟨y, hy, hb, _⟩ := overG_mem.1 hx
    exact ⟨y, hy, hb⟩
theorem arcTo_snoc {z : Sym} {a : Arc} : ∀ {l : List Arc}, arcTo z (l ++ [a]) = if z ∈ l.map Arc.sym then arcTo z l else if a.sym = z then a.to else -1
  | [] => by
    show (if a.sym.kind = z.kind ∧ a.sym.n = z.n then a.to else -1) = _
    have : (a.sym.kind = z.kind ∧ a.sym.n = z.n) ↔ a.sym = z := by cases h : a.sym; cases z; simp
    simp [this]
  | b :: l => by
    have hb : (b.sym.kind = z.kind ∧ b.sym.n = z.n) ↔ b.sym = z := by cases h : b.sym; cases z; simp
    show (if b.sym.kind = z.kind ∧ b.sym.n = z.n then b.to else arcTo z (l ++ [a])) = _
    rw [arcTo_snoc (l := l)]
    simp only [List.map_cons, List.mem_cons, arcTo, hb]
    by_cases h1 : b.sym = z
    · simp [h1]
    · have h2 : ¬ z = b.sym := fun e => h1 e.symm
      simp [h1, h2]
theorem filter_snoc {α : Type} {f : α → Bool} {l : List α} {k : Nat} {x : α} (hx : l[k]? = some x) : (l.take (k + 1)).filter f = (l.take k).filter f ++ (if f x = true then [x] else []) := by
  rw [List.take_add_one, hx, List.filter_append]
  show _ ++ List.filter f [x] = _
  congr 1
  simp only [List.filter_cons, List.filter_nil]
theorem RK.skipS (hn : ys.Nodup) (h : RK g ys q k st0 it us sts gl) {z : Sym} (hz : ys[k]? = some z) (ho : overG g z it = []) : RK g ys q (k + 1) st0 it us sts (gl ++ [-1]) := by
  have hs : standB g it z = false := by
    cases hv : standB g it z with
    | false => rfl
    | true => exact absurd ho (standB_iff.1 hv)
  have hf : (ys.take (k + 1)).filter (standB g it) = (ys.take k).filter (standB g it) := by rw [filter_snoc hz, hs]; simp
  refine ⟨by rw [hf]; exact h.ok, by rw [hf]; exact h.fold, h.rel, fun x hx => ?_, h.go, h.no⟩
  obtain ⟨h1, h2, h3⟩ := h.it x hx
  refine ⟨h1, by rw [hf]; exact h2, ?_⟩
  rw [List.take_add_one, hz, h3, List.map_append]
  show _ = _ ++ [arcTo z x.arcs]
  rw [arcTo_none fun a ha e => ?_]
  have : a.sym ∈ x.arcs.map Arc.sym := List.mem_map_of_mem ha
  rw [h2, List.mem_filter, e, hs] at this
  exact absurd this.2 (by decide)
theorem OkS.small (hP : g.prods.length ≤ 512) (hR : ∀ p ∈ g.prods, p.2.length ≤ 16) (h : OkS g us) : ∀ u ∈ us, ∀ y ∈ u.items, smallI y := fun u hu y hy => okJ_small (h.ok u hu y hy) hP hR
theorem idxO_first {α : Type} [DecidableEq α] {y : α} : ∀ {l : List α} {i j : Nat}, l[j]? = some y → (∀ k x, k < j → l[k]? = some x → x ≠ y) → idxO y l i = ((i + j : Nat) : Int)
  | [], _, _, h, _ => by simp at h
  | x :: l, i, 0, h, _ => by
    simp only [List.getElem?_cons_zero, Option.some.injEq] at h
    rw [idxO, if_pos h.symm]; rfl
  | x :: l, i, j + 1, h, hn => by
    have h0 : ¬ y = x := fun e => hn 0 x (by omega) rfl e.symm
    rw [idxO, if_neg h0, idxO_first (l := l) (i := i + 1) (j := j) h fun k x hk hx => hn (k + 1) x (by omega) hx]
    congr 1; omega
theorem idxO_none {α : Type} [DecidableEq α] {y : α} : ∀ {l : List α} {i : Nat}, (∀ x ∈ l, x ≠ y) → idxO y l i = -1
  | [], _, _ => rfl
  | x :: l, i, h => by
    rw [idxO, if_neg (fun e => h x (by simp) e.symm), idxO_none fun z hz => h z (by simp [hz])]
theorem RK.stepS (hG : GoodG g) (hN : g.names ≤ 128) (hP : g.prods.length ≤ 512) (hR : ∀ p ∈ g.prods, p.2.length ≤ 16) (hn : ys.Nodup) (h : RK g ys q k st0 it us sts gl) (hq : q < 1024) {z : Sym} (hz : ys[k]? = some z) (ho : overG g z it ≠ []) {nx : RSt} (hnx : nx.kernel = overG g z it ∧ nx.items = closG g (overG g z it) ∧ nx.sym = z ∧ nx.frm = (q : Nat) ∧ nx.gA = none ∧ nx.go = []) :
    (0 ≤ idxO (overG g z it) (sts.map RSt.kernel) 0 → RK g ys q (k + 1) st0 it (arcS g q us z) sts (gl ++ [idxO (overG g z it) (sts.map RSt.kernel) 0])) ∧
    (idxO (overG g z it) (sts.map RSt.kernel) 0 < 0 → RK g ys q (k + 1) st0 it (arcS g q us z) (sts ++ [nx]) (gl ++ [((sts.length : Nat) : Int)])) := by
  have hs : standB g it z = true := standB_iff.2 ho
  have hf : (ys.take (k + 1)).filter (standB g it) = (ys.take k).filter (standB g it) ++ [z] := by rw [filter_snoc hz, hs]; simp
  have hlt := h.ok.lt
  have hx : us[q]? = Option.some us[q] := List.getElem?_eq_getElem hlt
  generalize us[q] = x at hx
  obtain ⟨e1, e2, e3⟩ := h.it x hx
  have hw := (h.ok.arc hG hN hP (z := z) hq).1
  have hzn : z ∉ x.arcs.map Arc.sym := by
    rw [e2, List.mem_filter]
    rintro ⟨h9, _⟩
    obtain ⟨i, hi⟩ := List.mem_iff_getElem?.1 h9
    rw [List.getElem?_take] at hi
    split at hi
    · rename_i hik
      have hkl := (List.getElem?_eq_some_iff.1 hz).1
      have h1 := (List.getElem?_eq_some_iff.1 hi).2
      have h2 := (List.getElem?_eq_some_iff.1 hz).2
      exact absurd (h1.trans h2.symm) (fun e => by have := (List.getElem_inj hn).1 e; omega)
    · cases hi
  have hsm := OkS.small hP hR h.ok.ok
  have hov : ∀ y ∈ overG g z it, smallI y := fun y hy => okJ_small (overG_okJ (fun u hu => h.ok.ok.ok x (List.mem_of_getElem? hx) u (by rw [e1]; exact hu)) y hy) hP hR
  have hfold : arcS g q us z = ((ys.take (k + 1)).filter (standB g it)).foldl (arcS g q) st0 := by rw [hf, List.foldl_append, ← h.fold]; rfl
  have hgl : ∀ to : Int, (gl ++ [to]) = (ys.take (k + 1)).map fun u => arcTo u (x.arcs ++ [⟨z, to⟩]) := fun to => by
    rw [List.take_add_one, hz, List.map_append, e3]
    congr 1
    · refine List.map_congr_left fun u hu => ?_
      rw [arcTo_snoc]
      split
      · rfl
      · rename_i hnu
        rw [if_neg, arcTo_none]
        · intro a ha e; exact hnu (by rw [← e]; exact List.mem_map_of_mem ha)
        · intro e
          simp only at e
          subst e
          obtain ⟨i, hi⟩ := List.mem_iff_getElem?.1 hu
          rw [List.getElem?_take] at hi
          split at hi
          · have hkl := (List.getElem?_eq_some_iff.1 hz).1
            have h1 := (List.getElem?_eq_some_iff.1 hi).2
            have h2 := (List.getElem?_eq_some_iff.1 hz).2
            exact absurd (h1.trans h2.symm) (fun e => by have := (List.getElem_inj hn).1 e; omega)
          · cases hi
    · show [to] = [arcTo z (x.arcs ++ [⟨z, to⟩])]
      rw [arcTo_snoc, if_neg hzn, if_pos rfl]
  have hlen : ((ys.take (k + 1)).filter (standB g it)).length = ((ys.take k).filter (standB g it)).length + 1 := by rw [hf, List.length_append]; rfl
  have heq := arcS_eq (g := g) (z := z) hx
  rw [show overG g z x.items = overG g z it by rw [e1]] at heq
  rcases addA_cases (g := g) (st := us) (l := overG g z it) (z := z) (fr := (q : Nat)) hsm hov with ⟨j, y, hj, hjk, hjn, ha⟩ | ⟨hno, ha⟩
  · -- it is there
    have hid : idxO (overG g z it) (sts.map RSt.kernel) 0 = ((j : Nat) : Int) := by
      obtain ⟨u, hu⟩ := get_ex (l := sts) (i := j) (by have := (List.getElem?_eq_some_iff.1 hj).1; have := h.rel.1; omega)
      have := idxO_first (y := overG g z it) (l := sts.map RSt.kernel) (i := 0) (j := j) (by rw [map_get hu, ← (h.rel.2 j u y hu hj).kernel, hjk]) (fun k v hk hv => by
        rw [List.getElem?_map] at hv
        cases hc : sts[k]? with
        | none => rw [hc] at hv; cases hv
        | some c =>
          rw [hc] at hv
          simp only [Option.map_some, Option.some.injEq] at hv
          obtain ⟨d, hd⟩ := get_ex (l := us) (i := k) (by have := (List.getElem?_eq_some_iff.1 hj).1; omega)
          rw [← hv, ← (h.rel.2 k c d hc hd).kernel]
          exact hjn k d hk hd)
      rw [this]; congr 1; omega
    rw [ha] at heq
    simp only at heq
    refine ⟨fun _ => ?_, fun h9 => by rw [hid] at h9; omega⟩
    rw [hid]
    refine ⟨by rw [hlen]; exact hw, hfold, ?_, fun v hv => ?_, fun i u v hi hu hv => ?_, h.no⟩
    · rw [heq]
      refine ⟨by rw [List.length_set]; exact h.rel.1, fun i u v hu hv => ?_⟩
      by_cases hiq : i = q
      · subst hiq
        rw [List.getElem?_set_self hlt] at hv; cases hv
        have r := h.rel.2 i u x hu hx
        exact ⟨r.kernel, r.items, r.sym, r.frm⟩
      · rw [List.getElem?_set_ne (fun e => hiq e.symm)] at hv
        exact h.rel.2 i u v hu hv
    · rw [heq, List.getElem?_set_self hlt] at hv
      cases hv
      refine ⟨e1, ?_, hgl _⟩
      show (x.arcs ++ [(⟨z, ((j : Nat) : Int)⟩ : Arc)]).map Arc.sym = _
      rw [List.map_append, e2, hf]; rfl
    · rw [heq, List.getElem?_set_ne (by omega)] at hv
      exact h.go i u v hi hu hv
  · -- a new one
    have hid : idxO (overG g z it) (sts.map RSt.kernel) 0 = -1 := idxO_none fun v hv => by
      obtain ⟨c, hc, rfl⟩ := List.mem_map.1 hv
      obtain ⟨i, hi⟩ := List.mem_iff_getElem?.1 hc
      obtain ⟨d, hd⟩ := get_ex (l := us) (i := i) (by have := (List.getElem?_eq_some_iff.1 hi).1; have := h.rel.1; omega)
      rw [← (h.rel.2 i c d hi hd).kernel]
      exact hno d (List.mem_of_getElem? hd)
    rw [ha] at heq
    simp only at heq
    refine ⟨fun h9 => by rw [hid] at h9; omega, fun _ => ?_⟩
    have hl := h.rel.1
    refine ⟨by rw [hlen]; exact hw, hfold, ?_, fun v hv => ?_, fun i u v hi hu hv => ?_, fun i u hi hu => ?_⟩
    · rw [heq]
      refine ⟨by simp [hl], fun i u v hu hv => ?_⟩
      by_cases hil : i < us.length
      · rw [List.getElem?_append_left (by omega)] at hu
        by_cases hiq : i = q
        · subst hiq
          rw [List.getElem?_set_self (by simp; omega)] at hv; cases hv
          have r := h.rel.2 i u x hu hx
          exact ⟨r.kernel, r.items, r.sym, r.frm⟩
        · rw [List.getElem?_set_ne (fun e => hiq e.symm), List.getElem?_append_left hil] at hv
          exact h.rel.2 i u v hu hv
      · rw [List.getElem?_append_right (by omega)] at hu
        rw [List.getElem?_set_ne (by omega), List.getElem?_append_right (by omega)] at hv
        have h0 : i - us.length = 0 := by
          have := (List.getElem?_eq_some_iff.1 hv).1
          simp at this; omega
        rw [show i - sts.length = 0 by omega] at hu
        rw [h0] at hv
        simp only [List.getElem?_cons_zero, Option.some.injEq] at hu hv
        subst hu hv
        exact ⟨by rw [hnx.1]; exact closG_kernel, by rw [hnx.2.1], hnx.2.2.1, hnx.2.2.2.1⟩
    · rw [heq, List.getElem?_set_self (by simp; omega)] at hv
      cases hv
      refine ⟨e1, ?_, by rw [hl]; exact hgl _⟩
      show (x.arcs ++ [(⟨z, ((us.length : Nat) : Int)⟩ : Arc)]).map Arc.sym = _
      rw [List.map_append, e2, hf]; rfl
    · rw [heq, List.getElem?_set_ne (by omega)] at hv
      rw [List.getElem?_append_left (by omega)] at hv
      have hus := (List.getElem?_eq_some_iff.1 hv).1
      rw [List.getElem?_append_left (by omega)] at hu
      exact h.go i u v hi hu hv
    · by_cases hil : i < sts.length
      · rw [List.getElem?_append_left hil] at hu
        exact h.no i u hi hu
      · rw [List.getElem?_append_right (by omega)] at hu
        have h0 : i - sts.length = 0 := by
          have := (List.getElem?_eq_some_iff.1 hu).1
          simp at this; omega
        rw [h0] at hu
        simp only [List.getElem?_cons_zero, Option.some.injEq] at hu
        subst hu
        exact ⟨hnx.2.2.2.2.1, hnx.2.2.2.2.2⟩
theorem RK.len (h : RK g ys q k st0 it us sts gl) (hk : k ≤ ys.length) : gl.length = k := by
  have hlt := h.ok.lt
  have hx : us[q]? = Option.some us[q] := List.getElem?_eq_getElem hlt
  rw [(h.it _ hx).2.2, List.length_map, List.length_take]; omega
theorem RK.done (hG : GoodG g) (hys : ys = symbolsG g) (h0 : RQ g ys q st0 sts0) (hq : q < st0.length) (hq1 : q < 1024) {x0 : ASt} (hx0 : st0[q]? = Option.some x0) (hit : x0.items = it) (h : RK g ys q k st0 it us sts gl) (hk : ys.length ≤ k) {x : RSt} (hx : sts[q]? = Option.some x) {A : Option Addr} {c : Nat} :
    RQ g ys (q + 1) us (sts.set q ⟨x.kA, x.kc, x.kernel, x.iA, x.ic, x.items, x.sym, x.frm, A, c, gl⟩) := by
  have hsl := (List.getElem?_eq_some_iff.1 hx).1
  have hrow : us = rowS g q st0 := by
    unfold rowS
    rw [bangA hx0, hit, symsG_as hG (fun y hy => (h0.ok.ok.ok x0 (List.mem_of_getElem? hx0) y (by rw [hit]; exact hy)).1), h.fold, List.take_of_length_le hk, hys]
    rfl
  refine ⟨h.ok.leave, ⟨by rw [List.length_set]; exact h.rel.1, fun j u v hu hv => ?_⟩, fun j u v hj hu hv => ?_, fun j u hj hu => ?_, ?_⟩
  · by_cases hjq : j = q
    · subst hjq
      rw [List.getElem?_set_self hsl] at hu; cases hu
      have r := h.rel.2 j x v hx hv
      exact ⟨r.kernel, r.items, r.sym, r.frm⟩
    · rw [List.getElem?_set_ne (fun e => hjq e.symm)] at hu
      exact h.rel.2 j u v hu hv
  · by_cases hjq : j = q
    · subst hjq
      rw [List.getElem?_set_self hsl] at hu; cases hu
      have := (h.it v hv).2.2
      rw [List.take_of_length_le hk] at this
      exact this
    · rw [List.getElem?_set_ne (fun e => hjq e.symm)] at hu
      exact h.go j u v (by omega) hu hv
  · rw [List.getElem?_set_ne (by omega)] at hu
    exact h.no j u (by omega) hu
  · rw [hrow, ← buildF_row hq hq1]; exact h0.bd
theorem buildF_more : ∀ (f q : Nat) (st : List ASt), q ≤ 1024 → 1024 < st.length → f + q = 1025 → buildF g f q st = none
  | 0, q, st, h1, _, h3 => rfl
  | f + 1, q, st, h1, h2, h3 => by
    rw [buildF, if_pos (by omega)]
    split
    · rfl
    · have hm : ∀ (zs : List Sym) (s : List ASt), s.length ≤ (zs.foldl (arcS g q) s).length := by
        intro zs
        induction zs with
        | nil => intro s; exact Nat.le_refl _
        | cons z zs ih =>
          intro s
          refine Nat.le_trans ?_ (ih (arcS g q s z))
          unfold arcS addA
          simp only [List.length_set]
          split
          · exact Nat.le_refl _
          · simp
      exact buildF_more f (q + 1) (rowS g q st) (by omega) (Nat.lt_of_lt_of_le h2 (hm _ _)) (by omega)
theorem RK.full (hG : GoodG g) (hys : ys = symbolsG g) (h0 : RQ g ys q st0 sts0) (hq : q < st0.length) (hq1 : q < 1024) {x0 : ASt} (hx0 : st0[q]? = Option.some x0) (hit : x0.items = it) (h : RK g ys q k st0 it us sts gl) (hl : 1024 < us.length) : buildG g = none := by
  rw [← h0.bd, buildF_row hq hq1]
  refine buildF_more _ _ _ (by omega) ?_ (by omega)
  unfold rowS
  rw [bangA hx0, hit, symsG_as hG (fun y hy => (h0.ok.ok.ok x0 (List.mem_of_getElem? hx0) y (by rw [hit]; exact hy)).1), ← hys, ← List.take_append_drop k ys, List.filter_append, List.foldl_append]
  have hm : ∀ (zs : List Sym) (s : List ASt), s.length ≤ (zs.foldl (arcS g q) s).length := by
    intro zs
    induction zs with
    | nil => intro s; exact Nat.le_refl _
    | cons z zs ih =>
      intro s
      refine Nat.le_trans ?_ (ih (arcS g q s z))
      unfold arcS addA
      simp only [List.length_set]
      split
      · exact Nat.le_refl _
      · simp
  refine Nat.lt_of_lt_of_le hl ?_
  rw [h.fold]
  exact hm _ _
end
structure RsO (w : World) (x : RSt) : Prop where
  kernel : Vx.Own w 42 2 (.slice x.kA x.kernel.length x.kc) x.kernel.length (x.kernel.flatMap Itm.cs)
  items : Vx.Own w 42 2 (.slice x.iA x.items.length x.ic) x.items.length (x.items.flatMap Itm.cs)
  go : Vx.Own w 3 1 (.slice x.gA x.go.length x.gc) x.go.length (x.go.flatMap ints)
structure RsF (D E : Value) (w : World) (l : List RSt) : Prop where
  all : ∀ x ∈ l, RsO w x
  gD : ∀ x ∈ l, ∀ k, (Value.slice x.gA x.go.length x.gc).ownBlock = some k → D.ownBlock = some k → False
  kE : ∀ x ∈ l, ∀ k, (Value.slice x.kA x.kernel.length x.kc).ownBlock = some k → E.ownBlock = some k → False
  iE : ∀ x ∈ l, ∀ k, (Value.slice x.iA x.items.length x.ic).ownBlock = some k → E.ownBlock = some k → False
section
variable {D E D' E' : Value} {w w' w0 : World} {l : List RSt}
theorem RsO.keep {K : Nat → Prop} {x : RSt} (h : RsO w x) (c : Chg K w w') (h1 : ∀ k, (Value.slice x.kA x.kernel.length x.kc).ownBlock = some k → ¬ K k) (h2 : ∀ k, (Value.slice x.iA x.items.length x.ic).ownBlock = some k → ¬ K k) (h3 : ∀ k, (Value.slice x.gA x.go.length x.gc).ownBlock = some k → ¬ K k) : RsO w' x :=
  ⟨h.kernel.keep c h1, h.items.keep c h2, h.go.keep c h3⟩
theorem RsF.rsa (h : RsF D E w l) : RsA w l := fun x hx => ⟨(h.all x hx).kernel.rowO, (h.all x hx).items.rowO, (h.all x hx).go.rowO⟩
theorem RsF.ext (h : RsF D E w l) (c : Ext w w') : RsF D E w' l := ⟨fun x hx => (h.all x hx).keep c (fun _ _ h => h) (fun _ _ h => h) (fun _ _ h => h), h.gD, h.kE, h.iE⟩
theorem RsF.keepO {e sz n : Nat} {v : Value} {xs : List Value} (h : RsF D E w l) (c : Chg (fun b => v.ownBlock = some b) w w') (ho : Vx.Own w e sz v n xs) (h1 : 42 ≠ e) (h2 : 3 ≠ e) : RsF D E w' l :=
  ⟨fun x hx => (h.all x hx).keep c (fun k hk e => (h.all x hx).kernel.ne_own ho h1 k hk e) (fun k hk e => (h.all x hx).items.ne_own ho h1 k hk e) (fun k hk e => (h.all x hx).go.ne_own ho h2 k hk e), h.gD, h.kE, h.iE⟩
theorem RsF.chgD {n : Nat} {xs : List Value} (h : RsF D E w l) (c : Chg (fun b => D.ownBlock = some b) w w') (hD : Vx.Own w 3 1 D n xs) (hat : D'.ownBlock = D.ownBlock ∨ D'.ownBlock = some w.heap.size) : RsF D' E w' l :=
  ⟨fun x hx => (h.all x hx).keep c (fun k hk e => (h.all x hx).kernel.ne_own hD (by decide) k hk e) (fun k hk e => (h.all x hx).items.ne_own hD (by decide) k hk e) (fun k hk e => h.gD x hx k hk e),
    fun x hx k hk e => by
      rcases hat with h9 | h9
      · rw [h9] at e; exact h.gD x hx k hk e
      · rw [h9] at e; cases e; have := (h.all x hx).go.lt _ hk; omega, h.kE, h.iE⟩
theorem RsF.chgE {n : Nat} {xs : List Value} (h : RsF D E w l) (c : Chg (fun b => E.ownBlock = some b) w w') (hE : Vx.Own w 42 2 E n xs) (hr : ∀ k, E'.ownBlock = some k → E.ownBlock = some k ∨ w.heap.size ≤ k) : RsF D E' w' l :=
  ⟨fun x hx => (h.all x hx).keep c (fun k hk e => h.kE x hx k hk e) (fun k hk e => h.iE x hx k hk e) (fun k hk e => (h.all x hx).go.ne_own hE (by decide) k hk e), h.gD,
    fun x hx k hk e => (hr k e).elim (h.kE x hx k hk) fun h9 => by have := (h.all x hx).kernel.lt _ hk; omega,
    fun x hx k hk e => (hr k e).elim (h.iE x hx k hk) fun h9 => by have := (h.all x hx).items.lt _ hk; omega⟩
theorem RsF.nilE (h : RsF D E w l) : RsF D (.slice none 0 0) w l := ⟨h.all, h.gD, fun x hx k hk e => by simp [Value.ownBlock] at e, fun x hx k hk e => by simp [Value.ownBlock] at e⟩
theorem RsF.chgA {e sz n b t : Nat} {v : Value} {xs : List Value} {cs : Array Value} {x : RSt} (h : RsF D E w l) (c : Chg (fun k => k = b ∨ v.ownBlock = some k) w w') (hb : Blk w b cs t) (ho : Vx.Own w e sz v n xs) (h1 : 42 ≠ t ∧ 3 ≠ t) (h2 : 42 ≠ e ∧ 3 ≠ e) (hx : RsO w' x) (hg : x.gA = none) : RsF D (.slice none 0 0) w' (l ++ [x]) := by
  refine ⟨fun y hy => ?_, fun y hy k hk e => ?_, fun x hx k hk e => by simp [Value.ownBlock] at e, fun x hx k hk e => by simp [Value.ownBlock] at e⟩
  · rcases List.mem_append.1 hy with hy | hy
    · refine (h.all y hy).keep c (fun k hk e => ?_) (fun k hk e => ?_) (fun k hk e => ?_)
      · exact e.elim ((h.all y hy).kernel.ne_blk hb h1.1 k hk) ((h.all y hy).kernel.ne_own ho h2.1 k hk)
      · exact e.elim ((h.all y hy).items.ne_blk hb h1.1 k hk) ((h.all y hy).items.ne_own ho h2.1 k hk)
      · exact e.elim ((h.all y hy).go.ne_blk hb h1.2 k hk) ((h.all y hy).go.ne_own ho h2.2 k hk)
    · rw [List.mem_singleton.1 hy]; exact hx
  · rcases List.mem_append.1 hy with hy | hy
    · exact h.gD y hy k hk e
    · rw [List.mem_singleton.1 hy, hg] at hk; simp [Value.ownBlock] at hk
theorem RsF.put {e sz n q : Nat} {v : Value} {xs : List Value} {A : Option Addr} {c' : Nat} {gl : List Int} {x : RSt} (h : RsF D E w l) (c : Chg (fun b => v.ownBlock = some b) w w') (ho : Vx.Own w e sz v n xs) (h2 : 42 ≠ e ∧ 3 ≠ e) (hx : l[q]? = some x) (hg : Vx.Own w' 3 1 (.slice A gl.length c') gl.length (gl.flatMap ints)) : RsF (.slice none 0 0) E w' (l.set q ⟨x.kA, x.kc, x.kernel, x.iA, x.ic, x.items, x.sym, x.frm, A, c', gl⟩) := by
  have h9 := h.keepO c ho h2.1 h2.2
  refine ⟨fun y hy => ?_, fun y hy k hk e => by simp [Value.ownBlock] at e, fun y hy => ?_, fun y hy => ?_⟩ <;> rcases List.mem_or_eq_of_mem_set hy with hy | hy
  · exact h9.all y hy
  · have r := h9.all x (List.mem_of_getElem? hx); rw [hy]; exact ⟨r.kernel, r.items, hg⟩
  · exact h9.kE y hy
  · rw [hy]; exact h9.kE x (List.mem_of_getElem? hx)
  · exact h9.iE y hy
  · rw [hy]; exact h9.iE x (List.mem_of_getElem? hx)
end
structure RbW (s : SP) (ba : Nat) (yA : Option Addr) (yc : Nat) (ys : List Sym) (D E : Value) (stA : Option Addr) (stc : Nat) (sts : List RSt) (B : Nat) (w : World) : Prop where
  ba : Blk w ba #[(.slice s.lA s.lex.length s.lc), (.slice s.nA s.names.length s.nc), (.int .i64 s.start), (.slice s.pA s.prods.length s.pc), (.slice yA ys.length yc), (.slice stA sts.length stc)] 89
  y : Vx.Own w 32 2 (.slice yA ys.length yc) ys.length (ys.flatMap Sym.cs)
  st : Vx.Own w 103 6 (.slice stA sts.length stc) sts.length (sts.flatMap RSt.cs)
  low : ∀ k, (Value.slice stA sts.length stc).ownBlock = some k → B ≤ k
  F : RsF D E w sts
structure RefX (w : World) (s : SP) (ba : Nat) (st : List ASt) : Prop where
  ex : ∃ yA yc stA stc sts, Blk w ba #[(.slice s.lA s.lex.length s.lc), (.slice s.nA s.names.length s.nc), (.int .i64 s.start), (.slice s.pA s.prods.length s.pc), (.slice yA ((symbolsG s.g).length) yc), (.slice stA sts.length stc)] 89 ∧ RowA w yA ((symbolsG s.g).flatMap Sym.cs) ∧ RowA w stA (sts.flatMap RSt.cs) ∧ RsA w sts ∧ RelS (symbolsG s.g) sts st
  spr : SpR w s
  aut : Aut s.g st
theorem RefX.ext {w w' : World} {s : SP} {ba : Nat} {st : List ASt} (h : RefX w s ba st) (c : Ext w w') : RefX w' s ba st := by
  obtain ⟨⟨yA, yc, stA, stc, sts, h1, h2, h3, h4, h5⟩, h6, h7⟩ := h
  exact ⟨⟨yA, yc, stA, stc, sts, h1.ext c, h2.ext c, h3.ext c, h4.ext c, h5⟩, h6.ext c, h7⟩
theorem RelL.lens {g : GD} {sts : List RSt} {us : List ASt} (h : RelL sts us) (ho : OkS g us) : ∀ x ∈ sts, x.kernel.length ≤ 67240962 ∧ x.items.length ≤ 67240962 := fun x hx => by
  obtain ⟨k, hk⟩ := List.mem_iff_getElem?.1 hx
  obtain ⟨y, hy⟩ := get_ex (l := us) (i := k) (by have := (List.getElem?_eq_some_iff.1 hk).1; have := h.1; omega)
  have r := h.2 k x y hk hy
  have h1 := (ho.len k y hy).2
  rw [← r.kernel, ← r.items]
  refine ⟨?_, h1⟩
  unfold ASt.kernel
  rw [List.length_take]; omega
theorem overG_dot {g : GD} {z : Sym} {l : List Itm} (h : ∀ x ∈ l, okI g x) : ∀ x ∈ overG g z l, x.dot = 0 → x.p = -1 := fun x hx h0 => by
  obtain ⟨y, hy, _, rfl⟩ := overG_mem.1 hx
  have := (h y hy).2
  simp only at h0; omega
theorem RQ.start {s : SP} {ys : List Sym} {kA iA : Option Addr} {kc ic : Nat} (hG : GoodG s.g) (hN : s.g.names ≤ 128) (hP : s.g.prods.length ≤ 512) : RQ s.g ys 0 (addA s.g [] [⟨-1, 0⟩] ⟨0, 0⟩ 0).1 ([] ++ [RSt.mk kA kc [⟨-1, 0⟩] iA ic (closG s.g [⟨-1, 0⟩]) ⟨0, 0⟩ 0 none 0 []]) := by
  refine ⟨OkV.start hG hN hP, ⟨rfl, fun j x y hx hy => ?_⟩, fun j x y hj => by omega, fun j x _ hx => ?_, rfl⟩
  · have hy : [(⟨closG s.g [⟨-1, 0⟩], 1, [], ⟨0, 0⟩, 0⟩ : ASt)][j]? = some y := hy
    have hx : [RSt.mk kA kc [⟨-1, 0⟩] iA ic (closG s.g [⟨-1, 0⟩]) ⟨0, 0⟩ 0 none 0 []][j]? = some x := hx
    cases j with
    | zero =>
      simp only [List.getElem?_cons_zero, Option.some.injEq] at hx hy
      subst hx hy
      exact ⟨closG_kernel (l := [⟨-1, 0⟩]), rfl, rfl, rfl⟩
    | succ j => simp at hx
  · have hx : [RSt.mk kA kc [⟨-1, 0⟩] iA ic (closG s.g [⟨-1, 0⟩]) ⟨0, 0⟩ 0 none 0 []][j]? = some x := hx
    cases j with
    | zero =>
      simp only [List.getElem?_cons_zero, Option.some.injEq] at hx
      subst hx; exact ⟨rfl, rfl⟩
    | succ j => simp at hx
theorem addR_calls2 (s : SP) (ba : Nat) (yA : Option Addr) (yc : Nat) (ys : List Sym) (stA : Option Addr) (stc : Nat) (sts : List RSt) (K : List Itm) (kA : Option Addr) (kc : Nat) (z : Sym) (fr : Int) (w : World) (hb : Blk w ba #[(.slice s.lA s.lex.length s.lc), (.slice s.nA s.names.length s.nc), (.int .i64 s.start), (.slice s.pA s.prods.length s.pc), (.slice yA ys.length yc), (.slice stA sts.length stc)] 89) (ho : Vx.Own w 103 6 (.slice stA sts.length stc) sts.length (sts.flatMap RSt.cs)) (hS : SpR w s) (hG : GoodG s.g) (hK : ∀ x ∈ K, okI s.g x) (hK0 : ∀ x ∈ K, x.dot = 0 → x.p = -1) (hR16 : ∀ p ∈ s.g.prods, p.2.length ≤ 16) (hkR : RowA w kA (K.flatMap Itm.cs)) (hkn : K.length ≤ 1000000000) (hst : sts.length ≤ 1000000) :
    Calls Tryz.prog 73 #[(.pointer (some ⟨ba, 0, none⟩)), (.slice kA K.length kc), (.agg #[(.int .i64 z.kind), (.int .i64 z.n)]), (.int .i64 fr)] w (Ret (fun v w' => ∃ A' c' iA ic sts', sts' = (sts ++ [(RSt.mk kA kc K iA ic (closG s.g K) (⟨z.kind, z.n⟩ : Sym) fr none 0 [])]) ∧ v = .tuple #[] ∧ Vx.Own w' 103 6 (.slice A' sts'.length c') sts'.length (sts'.flatMap RSt.cs) ∧ NewRow w w' 42 2 Itm.cs (closG s.g K) iA ic ∧ Blk w' ba #[(.slice s.lA s.lex.length s.lc), (.slice s.nA s.names.length s.nc), (.int .i64 s.start), (.slice s.pA s.prods.length s.pc), (.slice yA ys.length yc), (.slice A' (sts'.length) c')] 89 ∧ (∀ k, (Value.slice A' sts'.length c').ownBlock = some k → (Value.slice stA sts.length stc).ownBlock = some k ∨ w.heap.size ≤ k) ∧ Chg (fun b => b = ba ∨ (Value.slice stA sts.length stc).ownBlock = some b) w w')) := by
  refine ret_mono (addR_calls s ba yA yc ys stA stc sts K kA kc z fr w hb ho hS hG hK hK0 hR16 hkR hkn hst) ?_
  rintro v w' ⟨A', c', iA, ic, h1, h2⟩
  exact ⟨A', c', iA, ic, _, rfl, h1, h2⟩
theorem RsF.nil {D E : Value} {w : World} : RsF D E w [] := ⟨fun x hx => (List.not_mem_nil hx).elim, fun x hx => (List.not_mem_nil hx).elim, fun x hx => (List.not_mem_nil hx).elim, fun x hx => (List.not_mem_nil hx).elim⟩
theorem check_lex {g : GD} (h : (checkE g).1 = 0) : g.triv.length ≤ 64 := by
  unfold checkE at h
  split at h
  · exact absurd h (by decide)
  · rename_i hl
    unfold longG at hl
    simp at hl
    omega
theorem overM_sub {g : GD} {z : Sym} {l : List Itm} {k : Nat} {x : Itm} (h : x ∈ overM g z (l.take k)) : x ∈ overG g z l := by
  unfold overG
  rw [srtItm_mem]
  unfold overM at h ⊢
  rw [List.mem_filterMap] at h ⊢
  obtain ⟨y, hy, h⟩ := h
  exact ⟨y, List.mem_of_mem_take hy, h⟩
theorem overM_snoc {g : GD} {z : Sym} {l : List Itm} {k : Nat} {y : Itm} (hy : l[k]? = some y) : overM g z (l.take (k + 1)) = overM g z (l.take k) ++ (if behindG g y = some z then [⟨y.p, y.dot + 1⟩] else []) := by
  unfold overM
  rw [List.take_add_one, hy, List.filterMap_append]
  congr 1
  show List.filterMap _ [y] = _
  by_cases h : behindG g y = some z <;> simp [h]
theorem bhS_eq {g : GD} {y : Itm} {z : Sym} (hs : (behindG g y).isSome = true) : (bhS g y).kind = z.kind ∧ (bhS g y).n = z.n ↔ behindG g y = some z := by
  obtain ⟨u, hu⟩ := Option.isSome_iff_exists.1 hs
  rw [bhS, hu]
  cases u; cases z; simp
theorem overM_yes {g : GD} {z : Sym} {l nx nl : List Itm} {k : Nat} {y : Itm} (hy : l[k]? = some y) (hn : nx.Perm (overM g z (l.take k))) (hs : (behindG g y).isSome = true) (he : (bhS g y).kind = z.kind ∧ (bhS g y).n = z.n) (hp : nl.Perm (nx ++ [(⟨y.p, y.dot + 1⟩ : Itm)])) : nl.Perm (overM g z (l.take (k + 1))) := by
  rw [overM_snoc hy, if_pos ((bhS_eq hs).1 he)]
  exact hp.trans (hn.append_right _)
theorem overM_no {g : GD} {z : Sym} {l nx : List Itm} {k : Nat} {y : Itm} (hy : l[k]? = some y) (hn : nx.Perm (overM g z (l.take k))) (he : (behindG g y).isSome = true → ¬ ((bhS g y).kind = z.kind ∧ (bhS g y).n = z.n)) : nx.Perm (overM g z (l.take (k + 1))) := by
  rw [overM_snoc hy, if_neg, List.append_nil]
  · exact hn
  · intro h9
    have hs : (behindG g y).isSome = true := by rw [h9]; rfl
    exact he hs ((bhS_eq hs).2 h9)
theorem RQ.fin {g : GD} {ys : List Sym} {q : Nat} {st : List ASt} {sts : List RSt} (h : RQ g ys q st sts) (hq : sts.length ≤ q) : RelS ys sts st :=
  ⟨h.rel.1, fun k x y hx hy => have r := h.rel.2 k x y hx hy; ⟨r.kernel, r.items, r.sym, r.frm, h.go k x y (by have := (List.getElem?_eq_some_iff.1 hx).1; omega) hx hy⟩⟩
instance pf_72 : PlF Tryz.prog 72 := ⟨by kernel_rfl⟩
instance pf_73 : PlF Tryz.prog 73 := ⟨by kernel_rfl⟩
instance pf_75 : PlF Tryz.prog 75 := ⟨by kernel_rfl⟩
instance pf_76 : PlF Tryz.prog 76 := ⟨by kernel_rfl⟩
instance tP_89 : PcT Tryz.prog 89 #[(0, 4), (4, 1), (5, 1)] := ⟨by kernel_rfl⟩
instance tS_27 : SzT Tryz.prog 27 1 := ⟨by kernel_rfl⟩
instance tZ_89 : ZrT Tryz.prog 89 (.agg #[(.slice none 0 0), (.slice none 0 0), (.int .i64 0), (.slice none 0 0), (.slice none 0 0), (.slice none 0 0)]) := ⟨by kernel_rfl⟩
theorem buildR_calls (s : SP) (w : World) (hS : SpR w s) :
    Calls Tryz.prog 47 #[(.agg #[(.slice s.lA s.lex.length s.lc), (.slice s.nA s.names.length s.nc), (.int .i64 s.start), (.slice s.pA s.prods.length s.pc)])] w (Ret (fun v w' => Ext w w' ∧ ((¬ (checkE s.g).1 = 0 ∧ v = .tuple #[.pointer none, .int .i64 (checkE s.g).2, .int .i64 (checkE s.g).1]) ∨ ((checkE s.g).1 = 0 ∧ buildG s.g = none ∧ v = .tuple #[.pointer none, .int .i64 0, .int .i64 80]) ∨ ((checkE s.g).1 = 0 ∧ ∃ ba st, buildG s.g = some st ∧ RefX w' s ba st ∧ v = .tuple #[.pointer (some ⟨ba, 0, none⟩), .int .i64 0, .int .i64 0])))) := by
 have hfn := hS.fn.by; have hfl := hS.fl.by
 refine calls_y (n := 147) Tryz.func47 ?_
 refine go ?_
 refine y_bx ?_
 intro w1 e1 z1 b1
 refine go ?_
 refine y_lN (vs := [(.slice s.lA s.lex.length s.lc), (.slice s.nA s.names.length s.nc), (.int .i64 s.start), (.slice s.pA s.prods.length s.pc)]) ⟨b1.cell rfl, b1.cell rfl, b1.cell rfl, b1.cell rfl, trivial⟩ ?_
 refine yCa (ret_mono (checkR_calls s w1 (hS.ext e1)) ?_)
 rintro _ w2 ⟨rfl, e2⟩
 have he2 := e2.size
 refine go ?_
 refine y_if (fun h1 => ?_) (fun h1 => ?_)
 ·
  refine go ?_
  refine y_r3 ?_
  have x1 : Ext w w2 := (Ext.trans e1 e2)
  exact ⟨x1, .inl ⟨by omega, rfl⟩⟩
 ·
  have hck : (checkE s.g).1 = 0 := by omega
  have hgd := check_good hck
  have hG := hgd.1
  have hlg := check_lex hck
  have hnl8 : s.names.length ≤ 128 := hgd.2.1
  have hll8 : s.lex.length ≤ 64 := by rw [← s.glex]; exact hlg
  refine go ?_
  refine xc_regionE [] (fun W_ => Chg (fun _ => False) w2 W_) hmix ?_
  intro w3 e3 z2
  have hS1 : Chg (fun _ => False) w2 w3 := Ext.to e3
  refine yDt (i := 0) rfl hS1 (fun W_ hW_ => ox_loadN (vs := [(.slice s.lA s.lex.length s.lc), (.slice s.nA s.names.length s.nc), (.int .i64 s.start), (.slice s.pA s.prods.length s.pc)]) tA_26.h tS_26.h rfl rfl ⟨((b1.ext e2).ext hW_).cell rfl, ((b1.ext e2).ext hW_).cell rfl, ((b1.ext e2).ext hW_).cell rfl, ((b1.ext e2).ext hW_).cell rfl, trivial⟩ ⟨rfl, rfl⟩) ?_
  refine yDt (i := 1) rfl hS1 (fun W_ hW_ => ox_loadN (vs := [(.slice s.lA s.lex.length s.lc), (.slice s.nA s.names.length s.nc), (.int .i64 s.start), (.slice s.pA s.prods.length s.pc)]) tA_26.h tS_26.h rfl rfl ⟨((b1.ext e2).ext hW_).cell rfl, ((b1.ext e2).ext hW_).cell rfl, ((b1.ext e2).ext hW_).cell rfl, ((b1.ext e2).ext hW_).cell rfl, trivial⟩ ⟨rfl, rfl⟩) ?_
  have x2 : Ext w w3 := (Ext.trans (Ext.trans e1 e2) e3)
  refine yD1 (i := 2) rfl (yCx (ret_mono (row_name (symbolsRef_calls s w3 (hS.ext x2) (by omega) (by omega))) ?_))
  rintro _ w4 ⟨ys, hys, yA, yc, rfl, hyn, e4⟩
  have he4 := e4.size
  have hyl : ∀ k, (Value.slice yA ys.length yc).ownBlock = some k → w.heap.size ≤ k := fun k hk => by have _h := hyn.2 k hk; omega
  have hyL : ys.length ≤ 1000000 := by have h9 := symbolsG_len s.g; have h8 := hlg; rw [← hys] at h9; have h7 := hgd.2.1; omega
  have hynd : ys.Nodup := by rw [hys]; exact (symbolsG_srt s.g).imp fun h => h.2
  have hS2 : Chg (fun _ => False) w2 w4 := Chg.ext hS1 e4
  refine ⟨.inr fun _ => hS2, ?_⟩
  refine yDq (i := 3) rfl (fun W_ hW_ => ox_mkStruct (ps := [(0, (.agg #[(.slice s.lA s.lex.length s.lc), (.slice s.nA s.names.length s.nc), (.int .i64 s.start), (.slice s.pA s.prods.length s.pc)])), (1, (.slice yA ys.length yc))]) (cs := #[(.slice s.lA s.lex.length s.lc), (.slice s.nA s.names.length s.nc), (.int .i64 s.start), (.slice s.pA s.prods.length s.pc), (.slice yA ys.length yc), (.slice none 0 0)]) tZ_89.h tP_89.h rfl (by kernel_rfl) ⟨rfl, rfl⟩) ?_
  refine yD1 (i := 4) rfl (ox_box (v := (.agg #[(.slice s.lA s.lex.length s.lc), (.slice s.nA s.names.length s.nc), (.int .i64 s.start), (.slice s.pA s.prods.length s.pc), (.slice yA ys.length yc), (.slice none 0 0)])) rfl ?_)
  intro w5 e5 z3 b2
  have hS3 : Chg (fun _ => False) w2 w5 := Chg.ext hS2 e5
  refine ⟨.inr fun _ => hS3, ?_⟩
  refine yDp 5 ?_
  refine xd_done (by kernel_rfl) ?_ _
  refine go ?_
  refine yOp (ox_mkStruct (ps := [(0, (.int .i64 (-1)))]) (cs := #[(.int .i64 (-1)), (.int .i64 0)]) tZ_42.h tP_42.h rfl (by kernel_rfl) ?_)
  refine yOp (ox_mkSlice (ps := [(0, (.agg #[(.int .i64 (-1)), (.int .i64 0)]))]) (zs := #[(.int .i64 0), (.int .i64 0)]) (cs := #[(.int .i64 (-1)), (.int .i64 0)]) tE_39.h rfl (by decide) (by kernel_rfl) (by kernel_rfl) ?_)
  intro w6 e6 z4 b3
  replace b3 : Blk w6 w5.heap.size #[(.int .i64 (-1)), (.int .i64 0)] 42 := b3
  refine yOp (ox_mkStruct (ps := []) (cs := #[(.int .i64 0), (.int .i64 0)]) tZ_32.h tP_32.h rfl (by kernel_rfl) ?_)
  have x3 : Ext w w6 := (Ext.trans (Ext.trans (Ext.trans x2 e4) e5) e6)
  refine yCa (ret_mono (addR_calls2 s w4.heap.size yA yc ys none 0 ([] : List RSt) [(⟨-1, 0⟩ : Itm)] (some ⟨w5.heap.size, 0, none⟩) 1 (⟨0, 0⟩ : Sym) 0 w6 (b2.ext e6) (Vx.Own.nil _ _ _) (hS.ext x3) hG (fun x hx => by rw [List.mem_singleton.1 hx]; exact ⟨.inl rfl, by decide⟩) (fun x hx _ => by rw [List.mem_singleton.1 hx]) hgd.2.2.2 (Own.rowO (Vx.Own.lit (n := 1) (sz := 2) b3 rfl (by decide))) (by decide) (by decide)) ?_)
  rintro _ w7 ⟨A1, c1, iA1, ic1, sn1, hse1, rfl, o1, hn1, hb1, hr1, ch1⟩
  have hch1 := ch1.size
  have low1 : ∀ k, (Value.slice A1 sn1.length c1).ownBlock = some k → w.heap.size ≤ k := fun k hk => (hr1 k hk).elim ((fun k hk => by simp [Value.ownBlock] at hk) k) (fun h9 => by omega)
  have hFn := RsF.chgA (x := RSt.mk (some ⟨w5.heap.size, 0, none⟩) 1 [(⟨-1, 0⟩ : Itm)] iA1 ic1 (closG s.g ([(⟨-1, 0⟩ : Itm)])) (⟨0, 0⟩ : Sym) 0 none 0 []) (RsF.nil (D := .slice none 0 0) (E := .slice none 0 0)) ch1 (b2.ext e6) (Vx.Own.nil _ 103 6) ⟨by decide, by decide⟩ ⟨by decide, by decide⟩ ⟨((Vx.Own.lit (n := 1) (sz := 2) b3 rfl (by decide)).keep ch1 (fun k hk hb => by rcases hb with hb | hb; exact (Vx.Own.lit (n := 1) (sz := 2) b3 rfl (by decide)).ne_blk (b2.ext e6) (by decide) k hk hb; simp [Value.ownBlock] at hb)), hn1.1, Vx.Own.nil _ _ _⟩ rfl
  rw [← hse1] at hFn
  have hQ0 : RQ s.g ys 0 (addA s.g [] [⟨-1, 0⟩] ⟨0, 0⟩ 0).1 sn1 := by rw [hse1]; exact RQ.start hG hgd.2.1 hgd.2.2.1
  have hsl0 : sn1.length = 1 := by rw [hse1] <;> rfl
  have hbaw : w.heap.size ≤ w4.heap.size := by omega
  have q1 := (((hyn.1.ext e5).ext e6).keep ch1 (fun k hk hb => by rcases hb with hb | hb; exact ((hyn.1.ext e5).ext e6).ne_blk (b2.ext e6) (by decide) k hk hb; simp [Value.ownBlock] at hb))
  have x5 : Ext w w7 := (Chg.trans x3 ch1 (fun b hb hl => absurd hl (by have _h := (show w.heap.size ≤ b from by rcases hb with hb | hb; omega; exact (fun k hk => by simp [Value.ownBlock] at hk) b hb); omega)))
  refine go ?_
  refine xc_loopN (fun m_ f_ Wx => ∃ (n : Nat) (st : List ASt) (sts : List RSt) (A0 : Option Addr) (c0 : Nat), m_ = 1024 - n ∧ (n ≤ 1024) ∧ (RQ s.g ys n st sts) ∧ (sts.length ≤ 1024) ∧ f_ 7 = (.pointer (some ⟨w4.heap.size, 0, none⟩)) ∧ f_ 8 = (.int .i64 ((n : Nat))) ∧ (RbW s w4.heap.size yA yc ys (.slice none 0 0) (.slice none 0 0) A0 c0 sts w.heap.size Wx) ∧ Ext w Wx) (1024) ?_ ?_
  ·
   exact ⟨0, (addA s.g [] [⟨-1, 0⟩] ⟨0, 0⟩ 0).1, sn1, A1, c1, (by omega), (by omega), hQ0, (by omega), rfl, vW, ⟨hb1, q1, o1, low1, hFn⟩, x5⟩
  ·
   rintro m_ f1 w8 ⟨n, st, sts, A0, c0, hm_f1, hn, hQ, hsl, g7_f1, g8_f1, t0_f1, x4⟩
   have hx4 := x4.size
   have := t0_f1.ba.lt
   rw [← usf g7_f1, ← usf g8_f1]
   refine go ?_
   refine y_ld t0_f1.ba ?_
   refine go ?_
   refine y_if (fun h2 => ?_) (fun h2 => ?_)
   ·
    obtain ⟨x_1, g_1, hx_1⟩ := own_may (A := A0) n RSt.len (by decide) t0_f1.st
    obtain ⟨hx_2, hA_1, hc_1⟩ := hx_1 oM
    obtain ⟨y0, hy0⟩ := get_ex (l := st) (i := n) (by have h9 := hQ.rel.1; omega)
    have hit0 : x_1.items = y0.items := (hQ.rel.2 _ _ _ hx_2 hy0).items.symm
    have hnl : n < st.length := by have h9 := hQ.rel.1; omega
    have hRK0 := RK.start (it := x_1.items) hQ hnl hy0 hit0.symm
    refine go ?_
    refine xc_loopN (fun m_ f_ Wx => ∃ (k : Nat) (us : List ASt) (su : List RSt) (A2 : Option Addr) (c2 : Nat) (gl : List Int) (Agl : Option Addr) (cgl : Nat), m_ = ys.length - k ∧ (k ≤ ys.length) ∧ (RK s.g ys n k st x_1.items us su gl) ∧ (su.length ≤ 1024) ∧ f_ 7 = (.pointer (some ⟨w4.heap.size, 0, none⟩)) ∧ f_ 8 = (.int .i64 ((n : Nat))) ∧ f_ 36 = (.int .i64 ((n : Nat))) ∧ f_ 37 = (.pointer (some ⟨w4.heap.size, 0, none⟩)) ∧ f_ 38 = (.pointer (some ⟨w4.heap.size, 0, none⟩)) ∧ f_ 39 = (.pointer (some ⟨w4.heap.size, 5, none⟩)) ∧ f_ 40 = (.slice A0 sts.length c0) ∧ f_ 41 = (.int .i64 (((sts.length : Nat) : Int))) ∧ f_ 42 = (.bool (decide (((n : Nat) : Int) < (((sts.length : Nat) : Int))))) ∧ f_ 10 = (.int .i64 ((k : Nat))) ∧ f_ 9 = (.slice Agl gl.length cgl) ∧ Vx.Own Wx 3 1 (.slice Agl gl.length cgl) gl.length (gl.flatMap ints) ∧ (∀ k, ((.slice Agl gl.length cgl) : Value).ownBlock = some k → w.heap.size ≤ k) ∧ (RbW s w4.heap.size yA yc ys (.slice Agl gl.length cgl) (.slice none 0 0) A2 c2 su w.heap.size Wx) ∧ Ext w Wx) (ys.length) ?_ ?_
    ·
     exact ⟨0, st, sts, A0, c0, [], none, 0, (by omega), (by omega), hRK0, (by omega), rfl, rfl, rfl, rfl, rfl, rfl, rfl, rfl, rfl, vW, rfl, (Vx.Own.nil _ _ _), (fun _k _h => by simp [Value.ownBlock] at _h), ⟨t0_f1.ba, t0_f1.y, t0_f1.st, t0_f1.low, t0_f1.F⟩, x4⟩
    ·
     rintro m_ f2 w9 ⟨k, us, su, A2, c2, gl, Agl, cgl, hm_f2, hk, hK, hul, g7_f2, g8_f2, g36_f2, g37_f2, g38_f2, g39_f2, g40_f2, g41_f2, g42_f2, g10_f2, g9_f2, a0_f2, l0_f2, t0_f2, x6⟩
     have hx6 := x6.size
     have := t0_f2.ba.lt
     have hKl := hK.ok.lt
     have hKr := hK.rel.1
     rw [← usf g7_f2, ← usf g8_f2, ← usf g36_f2, ← usf g37_f2, ← usf g38_f2, ← usf g39_f2, ← usf g40_f2, ← usf g41_f2, ← usf g42_f2, ← usf g10_f2, ← usf g9_f2]
     refine go ?_
     refine y_ld t0_f2.ba ?_
     refine go ?_
     refine y_if (fun h3 => ?_) (fun h3 => ?_)
     ·
      obtain ⟨x_2, g_2, hx_3⟩ := own_may (A := A2) n RSt.len (by decide) t0_f2.st
      obtain ⟨hx_4, hA_2, hc_2⟩ := hx_3 oM
      obtain ⟨x_3, g_3, hx_5⟩ := own_may (A := yA) k Sym.len (by decide) t0_f2.y
      obtain ⟨hx_6, hA_3, hc_3⟩ := hx_5 oM
      obtain ⟨y1, hy1⟩ := get_ex (l := us) (i := n) (by have h9 := hK.rel.1; omega)
      have hit1 : x_2.items = x_1.items := ((hK.rel.2 _ _ _ hx_4 hy1).items.symm.trans (hK.it _ hy1).1)
      have hokj : ∀ y ∈ x_2.items, okJ s.g y := fun y hy => hK.ok.ok.ok y1 (List.mem_of_getElem? hy1) y (by rw [(hK.rel.2 _ _ _ hx_4 hy1).items]; exact hy)
      have hoks : ∀ y ∈ x_2.items, okI s.g y := fun y hy => (hokj y hy).1
      have hlens := hK.rel.lens hK.ok.ok
      have hilx := (hlens _ (List.mem_of_getElem? hx_4)).2
      have hgln : gl.length = k := hK.len (by omega)
      refine go ?_
      refine xc_loopN (fun m_ f_ Wx => ∃ (i : Nat) (nx : List Itm) (Anx : Option Addr) (cnx : Nat), m_ = x_2.items.length - i ∧ (i ≤ x_2.items.length) ∧ (nx.Perm (overM s.g x_3 (x_2.items.take i))) ∧ (Srt nx) ∧ f_ 7 = (.pointer (some ⟨w4.heap.size, 0, none⟩)) ∧ f_ 8 = (.int .i64 ((n : Nat))) ∧ f_ 36 = (.int .i64 ((n : Nat))) ∧ f_ 37 = (.pointer (some ⟨w4.heap.size, 0, none⟩)) ∧ f_ 38 = (.pointer (some ⟨w4.heap.size, 0, none⟩)) ∧ f_ 39 = (.pointer (some ⟨w4.heap.size, 5, none⟩)) ∧ f_ 40 = (.slice A0 sts.length c0) ∧ f_ 41 = (.int .i64 (((sts.length : Nat) : Int))) ∧ f_ 42 = (.bool (decide (((n : Nat) : Int) < (((sts.length : Nat) : Int))))) ∧ f_ 10 = (.int .i64 ((k : Nat))) ∧ f_ 9 = (.slice Agl gl.length cgl) ∧ f_ 45 = (.int .i64 ((k : Nat))) ∧ f_ 46 = (.pointer (some ⟨w4.heap.size, 0, none⟩)) ∧ f_ 47 = (.pointer (some ⟨w4.heap.size, 0, none⟩)) ∧ f_ 48 = (.pointer (some ⟨w4.heap.size, 4, none⟩)) ∧ f_ 49 = (.slice yA ys.length yc) ∧ f_ 50 = (.int .i64 (((ys.length : Nat) : Int))) ∧ f_ 51 = (.bool (decide (((k : Nat) : Int) < (((ys.length : Nat) : Int))))) ∧ f_ 12 = (.int .i64 ((i : Nat))) ∧ f_ 11 = (.slice Anx nx.length cnx) ∧ Vx.Own Wx 42 2 (.slice Anx nx.length cnx) nx.length (nx.flatMap Itm.cs) ∧ (∀ k, ((.slice Anx nx.length cnx) : Value).ownBlock = some k → w.heap.size ≤ k) ∧ (RbW s w4.heap.size yA yc ys (.slice Agl gl.length cgl) (.slice Anx nx.length cnx) A2 c2 su w.heap.size Wx) ∧ (Vx.Own Wx 3 1 (.slice Agl gl.length cgl) gl.length (gl.flatMap ints)) ∧ Ext w Wx) (x_2.items.length) ?_ ?_
      ·
       exact ⟨0, [], none, 0, (by omega), (by omega), (by simp [overM]), List.Pairwise.nil, rfl, rfl, rfl, rfl, rfl, rfl, rfl, rfl, rfl, rfl, rfl, rfl, rfl, rfl, rfl, rfl, rfl, rfl, vW, rfl, (Vx.Own.nil _ _ _), (fun _k _h => by simp [Value.ownBlock] at _h), ⟨t0_f2.ba, t0_f2.y, t0_f2.st, t0_f2.low, t0_f2.F⟩, a0_f2, x6⟩
      ·
       rintro m_ f3 w10 ⟨i, nx, Anx, cnx, hm_f3, hi, hnp, hns, g7_f3, g8_f3, g36_f3, g37_f3, g38_f3, g39_f3, g40_f3, g41_f3, g42_f3, g10_f3, g9_f3, g45_f3, g46_f3, g47_f3, g48_f3, g49_f3, g50_f3, g51_f3, g12_f3, g11_f3, a0_f3, l0_f3, t0_f3, t1_f3, x7⟩
       have hx7 := x7.size
       have := t0_f3.ba.lt
       have hnxl : nx.length ≤ i := by have h9 := hnp.length_eq; have h8 : (overM s.g x_3 (x_2.items.take i)).length ≤ (x_2.items.take i).length := List.length_filterMap_le _ _; rw [List.length_take] at h8; omega
       have hokn : ∀ y ∈ nx, okJ s.g y := fun y hy => overG_okJ (z := x_3) (l := x_2.items) (fun u hu => hK.ok.ok.ok y1 (List.mem_of_getElem? hy1) u (by rw [(hK.rel.2 _ _ _ hx_4 hy1).items]; exact hu)) y (overM_sub (hnp.mem_iff.1 hy))
       rw [← usf g7_f3, ← usf g8_f3, ← usf g36_f3, ← usf g37_f3, ← usf g38_f3, ← usf g39_f3, ← usf g40_f3, ← usf g41_f3, ← usf g42_f3, ← usf g10_f3, ← usf g9_f3, ← usf g45_f3, ← usf g46_f3, ← usf g47_f3, ← usf g48_f3, ← usf g49_f3, ← usf g50_f3, ← usf g51_f3, ← usf g12_f3, ← usf g11_f3]
       refine go ?_
       refine y_ld t0_f3.ba ?_
       obtain ⟨x_4, g_4, hx_7⟩ := own_may (A := A2) n RSt.len (by decide) t0_f3.st
       obtain ⟨hx_8, hA_4, hc_4⟩ := hx_7 oM
       have hxx := Option.some.inj (hx_4.symm.trans hx_8)
       subst hxx
       refine go ?_
       refine y_ix n hA_4 ?_
       refine go ?_
       refine y_lc (CellsL.at1 hc_4 1 rfl) ?_
       refine go ?_
       refine y_if (fun h4 => ?_) (fun h4 => ?_)
       ·
        refine go ?_
        refine y_ld t0_f3.ba ?_
        refine go ?_
        refine y_ix n hA_4 ?_
        refine go ?_
        refine y_lc (CellsL.at1 hc_4 1 rfl) ?_
        obtain ⟨x_5, g_5, o_5, hx_9⟩ := row_may (A := x_2.iA) (cs := Itm.cs) i Itm.len (by decide) ((t0_f3.F).all _ (List.mem_of_getElem? hx_8)).items.rowO
        obtain ⟨hx_10, hA_5, hc_5⟩ := hx_9 oM
        have hsm_x_5 := okJ_small (hokj _ (List.mem_of_getElem? hx_10)) hgd.2.2.1 hgd.2.2.2
        unfold smallI at hsm_x_5
        have hko_x_5 := hoks _ (List.mem_of_getElem? hx_10)
        have hkp_x_5 := hko_x_5.1; have hkd_x_5 := hko_x_5.2; rw [s.gprods] at hkp_x_5
        refine go ?_
        refine y_ix i hA_5 ?_
        refine y_lN (vs := [(.int .i64 x_5.p), (.int .i64 x_5.dot)]) hc_5 ?_
        refine y_al ?_
        intro w11 e7 z5 b4
        refine y_st b4 ?_
        intro w12 e8 z6 b5
        replace b5 : Blk w12 w10.heap.size #[(.int .i64 x_5.p), (.int .i64 x_5.dot)] 42 := blk_full b5 rfl
        refine go ?_
        refine y_lN (vs := [(.int .i64 x_5.p), (.int .i64 x_5.dot)]) ⟨b5.cell rfl, b5.cell rfl, trivial⟩ ?_
        have q2 := ((t0_f3.ba.ext e7).keep1 e8 ((t0_f3.ba.ext e7).ne b4 (by decide)))
        have x8 : Ext w w12 := (Ext.chg1 (Ext.trans x7 e7) e8 (by omega))
        refine yCa (ret_mono (behindR_calls s w4.heap.size yA ys.length yc A2 su.length c2 x_5 w12 q2 (hS.ext x8) hkp_x_5 hkd_x_5 (right16 hgd.2.2.2 hko_x_5)) ?_)
        rintro _ w13 ⟨rfl, e9⟩
        have he9 := e9.size
        refine go ?_
        refine y_al ?_
        intro w14 e10 z7 b6
        refine y_st b6 ?_
        intro w15 e11 z8 b7
        replace b7 : Blk w15 w13.heap.size #[(.int .i64 ((bhS s.g x_5).kind)), (.int .i64 ((bhS s.g x_5).n))] 32 := blk_full b7 rfl
        refine go ?_
        by_cases h5 : ((behindG s.g x_5).isSome) = true
        ·
         have q3 := ((t0_f3.y.ext e7).keep1 e8 (fun k hk => (t0_f3.y.ext e7).ne_blk b4 (by decide) k hk))
         have q4 := (((q3.ext e9).ext e10).keep1 e11 (fun k hk => by have _q := ((q3.ext e9).lt) k hk; omega))
         obtain ⟨x_6, g_6, hx_11⟩ := own_may (A := yA) k Sym.len (by decide) q4
         obtain ⟨hx_12, hA_6, hc_6⟩ := hx_11 oM
         have hxx := Option.some.inj (hx_6.symm.trans hx_12)
         subst hxx
         by_cases h6 : (((bhS s.g x_5).kind : Int) = x_3.kind ∧ ((bhS s.g x_5).n : Int) = x_3.n)
         ·
          refine xc_regionE [] (fun W_ => Chg (fun _ => False) w15 W_) hmix ?_
          intro w16 e12 z9
          have hS4 : Chg (fun _ => False) w15 w16 := Ext.to e12
          refine yDp 0 ?_
          refine yDp 1 ?_
          refine ysD (s := 85) (bT h5) ?_
          refine yDt (i := 2) rfl hS4 (fun W_ hW_ => ox_loadN (vs := [(.int .i64 ((bhS s.g x_5).kind)), (.int .i64 ((bhS s.g x_5).n))]) tA_32.h tS_32.h rfl rfl ⟨(b7.ext hW_).cell rfl, (b7.ext hW_).cell rfl, trivial⟩ ⟨rfl, rfl⟩) ?_
          refine yDp 3 ?_
          refine yDp 4 ?_
          refine yDp 5 ?_
          have q5 := (((q2.ext e9).ext e10).keep1 e11 (((q2.ext e9).ext e10).ne b6 (by decide)))
          refine yDt (i := 6) rfl hS4 (fun W_ hW_ => ox_load tA_33.h rfl ((q5.ext hW_).cell rfl) ⟨rfl, rfl⟩) ?_
          refine yDp 7 ?_
          refine yDx (i := 8) k hA_6 ?_
          refine yDt (i := 9) rfl hS4 (fun W_ hW_ => ox_loadN (vs := [(.int .i64 x_3.kind), (.int .i64 x_3.n)]) tA_32.h tS_32.h rfl rfl (CellsL.keep hW_ not_false hc_6) ⟨rfl, rfl⟩) ?_
          refine yDq (i := 10) rfl (fun W_ hW_ => ox_eqlF (xs := [(.int .i64 ((bhS s.g x_5).kind)), (.int .i64 ((bhS s.g x_5).n))]) (ys := [(.int .i64 x_3.kind), (.int .i64 x_3.n)]) (p := (((bhS s.g x_5).kind : Int) = x_3.kind ∧ ((bhS s.g x_5).n : Int) = x_3.n)) fS_32 rfl rfl rfl rfl (by simp) ⟨rfl, rfl⟩) ?_
          refine yDp 11 ?_
          refine xd_done (by kernel_rfl) ?_ _
          refine go ?_
          refine ysC (s := 95) (bT (decide_eq_true h6)) ?_
          have q6 := (((b5.ext e9).ext e10).keep1 e11 (((b5.ext e9).ext e10).ne b6 (by decide)))
          refine go ?_
          refine y_ld (q6.ext e12) ?_
          refine go ?_
          refine y_ld (q6.ext e12) ?_
          refine y_add ?_
          refine yOp (ox_mkStruct (ps := [(0, (.int .i64 x_5.p)), (1, (.int .i64 (x_5.dot + 1)))]) (cs := #[(.int .i64 x_5.p), (.int .i64 (x_5.dot + 1))]) tZ_42.h tP_42.h rfl (by kernel_rfl) ?_)
          have q7 := ((a0_f3.ext e7).keep1 e8 (fun k hk => by have _q := (a0_f3.lt) k hk; omega))
          have q8 := (((q7.ext e9).ext e10).keep1 e11 (fun k hk => ((q7.ext e9).ext e10).ne_blk b6 (by decide) k hk))
          have x9 : Ext w10 w16 := (Ext.trans (Ext.chg1 (Ext.trans (Ext.trans (Ext.chg1 e7 e8 (by omega)) e9) e10) e11 (by omega)) e12)
          refine yCa (ret_mono (sortedR_calls nx Anx cnx (⟨x_5.p, x_5.dot + 1⟩ : Itm) w16 (q8.ext e12) hns (by omega)) ?_)
          rintro _ w17 ⟨nl1, A2, c2, rfl, hp1, hs1, o2, hr2, e13⟩
          have he13 := e13.size
          have low2 : ∀ k, (Value.slice A2 nl1.length c2).ownBlock = some k → w.heap.size ≤ k := fun k hk => (hr2 k hk).elim (l0_f3 k) (fun h9 => by omega)
          refine go ?_
          refine y_add ?_
          have q9 := (((q2.ext e9).ext e10).keep1 e11 (((q2.ext e9).ext e10).ne b6 (by decide)))
          have q10 := ((q9.ext e12).keep e13 (fun _h => (q8.ext e12).ne_blk (q9.ext e12) (by decide) _ _h rfl))
          have q11 := ((q4.ext e12).keep e13 (fun _k _hk => (q4.ext e12).ne_own (q8.ext e12) (by decide) _k _hk))
          have q12 := ((t0_f3.st.ext e7).keep1 e8 (fun k hk => (t0_f3.st.ext e7).ne_blk b4 (by decide) k hk))
          have q13 := (((q12.ext e9).ext e10).keep1 e11 (fun k hk => ((q12.ext e9).ext e10).ne_blk b6 (by decide) k hk))
          have q14 := ((q13.ext e12).keep e13 (fun _k _hk => (q13.ext e12).ne_own (q8.ext e12) (by decide) _k _hk))
          have q15 := ((t1_f3.ext e7).keep1 e8 (fun k hk => (t1_f3.ext e7).ne_blk b4 (by decide) k hk))
          have q16 := (((q15.ext e9).ext e10).keep1 e11 (fun k hk => ((q15.ext e9).ext e10).ne_blk b6 (by decide) k hk))
          have q17 := ((q16.ext e12).keep e13 (fun _k _hk => (q16.ext e12).ne_own (q8.ext e12) (by decide) _k _hk))
          have x10 : Ext w w17 := (Chg.trans (Ext.trans (Ext.chg1 (Ext.trans (Ext.trans x8 e9) e10) e11 (by omega)) e12) e13 (fun b hb hl => (absurd hl (by have _h := l0_f3 b hb; omega))))
          refine go ?_
          exact ⟨rfl, x_2.items.length - (i + 1), by omega, i + 1, nl1, A2, c2, by omega, (by omega), (overM_yes hx_10 hnp h5 h6 hp1), hs1, rfl, rfl, rfl, rfl, rfl, rfl, rfl, rfl, rfl, rfl, rfl, rfl, rfl, rfl, rfl, rfl, rfl, rfl, vW, rfl, o2, low2, ⟨q10, q11, q14, t0_f3.low, (RsF.chgE (RsF.ext t0_f3.F x9) e13 (q8.ext e12) hr2)⟩, q17, x10⟩
         ·
          refine xc_regionE [] (fun W_ => Chg (fun _ => False) w15 W_) hmix ?_
          intro w18 e14 z10
          have hS5 : Chg (fun _ => False) w15 w18 := Ext.to e14
          refine yDp 0 ?_
          refine yDp 1 ?_
          refine ysD (s := 85) (bT h5) ?_
          refine yDt (i := 2) rfl hS5 (fun W_ hW_ => ox_loadN (vs := [(.int .i64 ((bhS s.g x_5).kind)), (.int .i64 ((bhS s.g x_5).n))]) tA_32.h tS_32.h rfl rfl ⟨(b7.ext hW_).cell rfl, (b7.ext hW_).cell rfl, trivial⟩ ⟨rfl, rfl⟩) ?_
          refine yDp 3 ?_
          refine yDp 4 ?_
          refine yDp 5 ?_
          have q18 := (((q2.ext e9).ext e10).keep1 e11 (((q2.ext e9).ext e10).ne b6 (by decide)))
          refine yDt (i := 6) rfl hS5 (fun W_ hW_ => ox_load tA_33.h rfl ((q18.ext hW_).cell rfl) ⟨rfl, rfl⟩) ?_
          refine yDp 7 ?_
          refine yDx (i := 8) k hA_6 ?_
          refine yDt (i := 9) rfl hS5 (fun W_ hW_ => ox_loadN (vs := [(.int .i64 x_3.kind), (.int .i64 x_3.n)]) tA_32.h tS_32.h rfl rfl (CellsL.keep hW_ not_false hc_6) ⟨rfl, rfl⟩) ?_
          refine yDq (i := 10) rfl (fun W_ hW_ => ox_eqlF (xs := [(.int .i64 ((bhS s.g x_5).kind)), (.int .i64 ((bhS s.g x_5).n))]) (ys := [(.int .i64 x_3.kind), (.int .i64 x_3.n)]) (p := (((bhS s.g x_5).kind : Int) = x_3.kind ∧ ((bhS s.g x_5).n : Int) = x_3.n)) fS_32 rfl rfl rfl rfl (by simp) ⟨rfl, rfl⟩) ?_
          refine yDp 11 ?_
          refine xd_done (by kernel_rfl) ?_ _
          refine go ?_
          refine ysC (s := 95) (bF (decide_eq_false h6)) ?_
          refine go ?_
          refine y_add ?_
          have q19 := (((q2.ext e9).ext e10).keep1 e11 (((q2.ext e9).ext e10).ne b6 (by decide)))
          have q20 := ((t0_f3.st.ext e7).keep1 e8 (fun k hk => (t0_f3.st.ext e7).ne_blk b4 (by decide) k hk))
          have q21 := (((q20.ext e9).ext e10).keep1 e11 (fun k hk => ((q20.ext e9).ext e10).ne_blk b6 (by decide) k hk))
          have x11 : Ext w10 w18 := (Ext.trans (Ext.chg1 (Ext.trans (Ext.trans (Ext.chg1 e7 e8 (by omega)) e9) e10) e11 (by omega)) e14)
          have q22 := ((t1_f3.ext e7).keep1 e8 (fun k hk => (t1_f3.ext e7).ne_blk b4 (by decide) k hk))
          have q23 := (((q22.ext e9).ext e10).keep1 e11 (fun k hk => ((q22.ext e9).ext e10).ne_blk b6 (by decide) k hk))
          have q24 := ((a0_f3.ext e7).keep1 e8 (fun k hk => by have _q := (a0_f3.lt) k hk; omega))
          have q25 := (((q24.ext e9).ext e10).keep1 e11 (fun k hk => ((q24.ext e9).ext e10).ne_blk b6 (by decide) k hk))
          have x12 : Ext w w18 := (Ext.trans (Ext.chg1 (Ext.trans (Ext.trans x8 e9) e10) e11 (by omega)) e14)
          refine go ?_
          exact ⟨rfl, x_2.items.length - (i + 1), by omega, i + 1, nx, Anx, cnx, by omega, (by omega), (overM_no hx_10 hnp (fun h1 => h6)), hns, rfl, rfl, rfl, rfl, rfl, rfl, rfl, rfl, rfl, rfl, rfl, rfl, rfl, rfl, rfl, rfl, rfl, rfl, vW, rfl, (q25.ext e14), l0_f3, ⟨(q19.ext e14), (q4.ext e14), (q21.ext e14), t0_f3.low, (RsF.ext t0_f3.F x11)⟩, (q23.ext e14), x12⟩
        ·
         refine xc_regionE [] (fun W_ => Chg (fun _ => False) w15 W_) hmix ?_
         intro w19 e15 z11
         have hS6 : Chg (fun _ => False) w15 w19 := Ext.to e15
         refine yDp 0 ?_
         refine yDp 1 ?_
         refine ysD (s := 85) (bF (Bool.eq_false_iff.2 h5)) ?_
         refine xd_take 2 (some 86) rfl rfl (by kernel_rfl) (v := undef) (.inr ⟨rfl, rfl⟩) hS6 ?_
         refine yDp 3 ?_
         refine yDp 4 ?_
         refine yDp 5 ?_
         refine xd_take 6 (some 90) rfl rfl (by kernel_rfl) (v := undef) (.inr ⟨rfl, rfl⟩) hS6 ?_
         refine yDp 7 ?_
         refine yDp 8 ?_
         refine xd_take 9 (some 93) rfl rfl (by kernel_rfl) (v := undef) (.inr ⟨rfl, rfl⟩) hS6 ?_
         refine yDp 10 ?_
         refine yDp 11 ?_
         refine xd_done (by kernel_rfl) ?_ _
         refine go ?_
         refine y_add ?_
         have q26 := (((q2.ext e9).ext e10).keep1 e11 (((q2.ext e9).ext e10).ne b6 (by decide)))
         have q27 := ((t0_f3.y.ext e7).keep1 e8 (fun k hk => (t0_f3.y.ext e7).ne_blk b4 (by decide) k hk))
         have q28 := (((q27.ext e9).ext e10).keep1 e11 (fun k hk => by have _q := ((q27.ext e9).lt) k hk; omega))
         have q29 := ((t0_f3.st.ext e7).keep1 e8 (fun k hk => (t0_f3.st.ext e7).ne_blk b4 (by decide) k hk))
         have q30 := (((q29.ext e9).ext e10).keep1 e11 (fun k hk => ((q29.ext e9).ext e10).ne_blk b6 (by decide) k hk))
         have x13 : Ext w10 w19 := (Ext.trans (Ext.chg1 (Ext.trans (Ext.trans (Ext.chg1 e7 e8 (by omega)) e9) e10) e11 (by omega)) e15)
         have q31 := ((t1_f3.ext e7).keep1 e8 (fun k hk => (t1_f3.ext e7).ne_blk b4 (by decide) k hk))
         have q32 := (((q31.ext e9).ext e10).keep1 e11 (fun k hk => ((q31.ext e9).ext e10).ne_blk b6 (by decide) k hk))
         have q33 := ((a0_f3.ext e7).keep1 e8 (fun k hk => by have _q := (a0_f3.lt) k hk; omega))
         have q34 := (((q33.ext e9).ext e10).keep1 e11 (fun k hk => ((q33.ext e9).ext e10).ne_blk b6 (by decide) k hk))
         have x14 : Ext w w19 := (Ext.trans (Ext.chg1 (Ext.trans (Ext.trans x8 e9) e10) e11 (by omega)) e15)
         refine go ?_
         exact ⟨rfl, x_2.items.length - (i + 1), by omega, i + 1, nx, Anx, cnx, by omega, (by omega), (overM_no hx_10 hnp (fun h1 => absurd h1 h5)), hns, rfl, rfl, rfl, rfl, rfl, rfl, rfl, rfl, rfl, rfl, rfl, rfl, rfl, rfl, rfl, rfl, rfl, rfl, vW, rfl, (q34.ext e15), l0_f3, ⟨(q26.ext e15), (q28.ext e15), (q30.ext e15), t0_f3.low, (RsF.ext t0_f3.F x13)⟩, (q32.ext e15), x14⟩
       ·
        have hov : nx = overG s.g x_3 x_2.items := srt_eq (by rw [List.take_of_length_le (by omega)] at hnp; exact hnp) hns
        have hov2 : overG s.g x_3 x_2.items = overG s.g x_3 x_1.items := by rw [hit1]
        refine go ?_
        refine y_if (fun h7 => ?_) (fun h7 => ?_)
        ·
         refine go ?_
         refine yCa (ret_mono (findR_calls s w4.heap.size yA yc ys A2 c2 su nx Anx cnx w10 t0_f3.ba (Own.rowO t0_f3.st) (t0_f3.F).rsa (Own.rowO a0_f3) (fun x hx => Nat.le_trans (hlens x hx).1 (by decide)) (by omega)) ?_)
         rintro _ w20 ⟨rfl, e16⟩
         have he16 := e16.size
         refine go ?_
         refine y_if (fun h8 => ?_) (fun h8 => ?_)
         ·
          refine go ?_
          refine y_ld (t0_f3.ba.ext e16) ?_
          refine go ?_
          refine y_ld (t0_f3.ba.ext e16) ?_
          obtain ⟨x_7, g_7, hx_13⟩ := own_may (A := yA) k Sym.len (by decide) (t0_f3.y.ext e16)
          obtain ⟨hx_14, hA_7, hc_7⟩ := hx_13 oM
          have hxx := Option.some.inj (hx_6.symm.trans hx_14)
          subst hxx
          refine go ?_
          refine y_ix k hA_7 ?_
          refine y_lN (vs := [(.int .i64 x_3.kind), (.int .i64 x_3.n)]) hc_7 ?_
          have x15 : Ext w w20 := (Ext.trans x7 e16)
          refine go ?_
          refine yCa (ret_mono (addR_calls2 s w4.heap.size yA yc ys A2 c2 su nx Anx cnx (⟨x_3.kind, x_3.n⟩ : Sym) ((n : Nat)) w20 (t0_f3.ba.ext e16) (t0_f3.st.ext e16) (hS.ext x15) hG (fun x hx => (hokn x hx).1) (by rw [hov]; exact overG_dot hoks) hgd.2.2.2 (Own.rowO (a0_f3.ext e16)) (by omega) (by omega)) ?_)
          rintro _ w21 ⟨A3, c3, iA2, ic2, sn2, hse2, rfl, o3, hn2, hb2, hr3, ch2⟩
          have hch2 := ch2.size
          have low3 : ∀ k, (Value.slice A3 sn2.length c3).ownBlock = some k → w.heap.size ≤ k := fun k hk => (hr3 k hk).elim (t0_f3.low k) (fun h9 => by omega)
          have hFn := RsF.chgA (x := RSt.mk Anx cnx nx iA2 ic2 (closG s.g nx) (⟨x_3.kind, x_3.n⟩ : Sym) ((n : Nat)) none 0 []) (RsF.ext t0_f3.F e16) ch2 (t0_f3.ba.ext e16) (t0_f3.st.ext e16) ⟨by decide, by decide⟩ ⟨by decide, by decide⟩ ⟨((a0_f3.ext e16).keep ch2 (fun k hk hb => by rcases hb with hb | hb; exact (a0_f3.ext e16).ne_blk (t0_f3.ba.ext e16) (by decide) k hk hb; exact (a0_f3.ext e16).ne_own (t0_f3.st.ext e16) (by decide) k hk hb)), hn2.1, Vx.Own.nil _ _ _⟩ rfl
          rw [← hse2] at hFn
          refine go ?_
          refine yOp (ox_mkSlice (ps := [(0, (.int .i64 (((su.length : Nat) : Int))))]) (zs := #[(.int .i64 0)]) (cs := #[(.int .i64 (((su.length : Nat) : Int)))]) tE_27.h rfl (by decide) (by kernel_rfl) (by kernel_rfl) ?_)
          intro w22 e17 z12 b8
          replace b8 : Blk w22 w21.heap.size #[(.int .i64 (((su.length : Nat) : Int)))] 3 := b8
          have q35 := ((t1_f3.ext e16).keep ch2 (fun k hk hb => by rcases hb with hb | hb; exact (t1_f3.ext e16).ne_blk (t0_f3.ba.ext e16) (by decide) k hk hb; exact (t1_f3.ext e16).ne_own (t0_f3.st.ext e16) (by decide) k hk hb))
          refine yOp (ox_appD (l := gl) (r := [(((su.length : Nat) : Int))]) (cs := ints) rfl tE_27.h rfl (by decide) ints_len ints_one (v := (.slice Agl gl.length cgl)) rfl rfl (m := 1) rfl (q35.ext e17) b8.all (by simp only [List.length_append, List.length_cons, List.length_nil]; omega) (by decide) ?_)
          intro A4 c4 w23 o4 e18 at1 hc1
          have he18 := e18.size
          have low4 : ∀ _k, (Value.slice A4 (gl ++ [(((su.length : Nat) : Int))]).length c4).ownBlock = some _k → w.heap.size ≤ _k := fun _k _h => by rcases at1 with _e | _e <;> rw [_e] at _h; exact l0_f2 _k _h; exact (by cases _h; omega)
          have q36 := ((hb2.ext e17).keep e18 (fun _h => (q35.ext e17).ne_blk (hb2.ext e17) (by decide) _ _h rfl))
          refine go ?_
          refine y_ld q36 ?_
          refine go ?_
          refine y_if (fun h9 => ?_) (fun h9 => ?_)
          ·
           refine go ?_
           refine y_r3 ?_
           have x16 : Ext w w23 := (Chg.trans (Ext.trans (Chg.trans x15 ch2 (fun b hb hl => absurd hl (by have _h := (show w.heap.size ≤ b from by rcases hb with hb | hb; omega; exact t0_f3.low b hb); omega))) e17) e18 (fun b hb hl => (absurd hl (by have _h := l0_f2 b hb; omega))))
           have hst9 := RK.stepS hG hgd.2.1 hgd.2.2.1 hgd.2.2.2 hynd hK (by omega) hx_6 (by rw [← hov2, ← hov]; intro hz0; rw [hz0] at h7; simp at h7) (nx := (RSt.mk Anx cnx nx iA2 ic2 (closG s.g nx) (⟨x_3.kind, x_3.n⟩ : Sym) ((n : Nat)) none 0 [])) ⟨by rw [← hov2, ← hov], by rw [← hov2, ← hov], rfl, rfl, rfl, rfl⟩
           rw [← hov2, ← hov] at hst9
           have hfin := hst9.2 h8
           rw [← hse2] at hfin
           exact ⟨x16, .inr (.inl ⟨hck, RK.full hG hys hQ (by omega) (by omega) hy0 hit0.symm hfin (by have h9 := hfin.rel.1; omega), rfl⟩)⟩
          ·
           refine go ?_
           refine y_add ?_
           have hst9 := RK.stepS hG hgd.2.1 hgd.2.2.1 hgd.2.2.2 hynd hK (by omega) hx_6 (by rw [← hov2, ← hov]; intro hz0; rw [hz0] at h7; simp at h7) (nx := (RSt.mk Anx cnx nx iA2 ic2 (closG s.g nx) (⟨x_3.kind, x_3.n⟩ : Sym) ((n : Nat)) none 0 [])) ⟨by rw [← hov2, ← hov], by rw [← hov2, ← hov], rfl, rfl, rfl, rfl⟩
           rw [← hov2, ← hov] at hst9
           have q37 := ((t0_f3.y.ext e16).keep ch2 (fun k hk hb => by rcases hb with hb | hb; exact (t0_f3.y.ext e16).ne_blk (t0_f3.ba.ext e16) (by decide) k hk hb; exact (t0_f3.y.ext e16).ne_own (t0_f3.st.ext e16) (by decide) k hk hb))
           have q38 := ((q37.ext e17).keep e18 (fun _k _hk => (q37.ext e17).ne_own (q35.ext e17) (by decide) _k _hk))
           have q39 := ((o3.ext e17).keep e18 (fun _k _hk => (o3.ext e17).ne_own (q35.ext e17) (by decide) _k _hk))
           have x17 : Ext w w23 := (Chg.trans (Ext.trans (Chg.trans x15 ch2 (fun b hb hl => absurd hl (by have _h := (show w.heap.size ≤ b from by rcases hb with hb | hb; omega; exact t0_f3.low b hb); omega))) e17) e18 (fun b hb hl => (absurd hl (by have _h := l0_f2 b hb; omega))))
           refine go ?_
           exact ⟨rfl, ys.length - (k + 1), by omega, k + 1, (arcS s.g n us x_3), sn2, A3, c3, gl ++ [(((su.length : Nat) : Int))], A4, c4, by omega, (by omega), (by have h9 := hst9.2 h8; rw [hse2]; exact h9), (by omega), rfl, rfl, rfl, rfl, rfl, rfl, rfl, rfl, rfl, vW, rfl, o4, low4, ⟨q36, q38, q39, low3, ((RsF.chgD (RsF.ext hFn e17) e18 (q35.ext e17) at1)).nilE⟩, x17⟩
         ·
          refine go ?_
          refine yOp (ox_mkSlice (ps := [(0, (.int .i64 ((idxO nx (su.map RSt.kernel) 0))))]) (zs := #[(.int .i64 0)]) (cs := #[(.int .i64 ((idxO nx (su.map RSt.kernel) 0)))]) tE_27.h rfl (by decide) (by kernel_rfl) (by kernel_rfl) ?_)
          intro w24 e19 z13 b9
          replace b9 : Blk w24 w20.heap.size #[(.int .i64 ((idxO nx (su.map RSt.kernel) 0)))] 3 := b9
          have x18 : Ext w10 w24 := (Ext.trans e16 e19)
          refine yOp (ox_appD (l := gl) (r := [((idxO nx (su.map RSt.kernel) 0))]) (cs := ints) rfl tE_27.h rfl (by decide) ints_len ints_one (v := (.slice Agl gl.length cgl)) rfl rfl (m := 1) rfl ((t1_f3.ext e16).ext e19) b9.all (by simp only [List.length_append, List.length_cons, List.length_nil]; omega) (by decide) ?_)
          intro A5 c5 w25 o5 e20 at2 hc2
          have he20 := e20.size
          have low5 : ∀ _k, (Value.slice A5 (gl ++ [((idxO nx (su.map RSt.kernel) 0))]).length c5).ownBlock = some _k → w.heap.size ≤ _k := fun _k _h => by rcases at2 with _e | _e <;> rw [_e] at _h; exact l0_f2 _k _h; exact (by cases _h; omega)
          have q40 := (((t0_f3.ba.ext e16).ext e19).keep e20 (fun _h => ((t1_f3.ext e16).ext e19).ne_blk ((t0_f3.ba.ext e16).ext e19) (by decide) _ _h rfl))
          refine go ?_
          refine y_ld q40 ?_
          refine go ?_
          refine y_if (fun h10 => ?_) (fun h10 => ?_)
          ·
           refine go ?_
           refine y_r3 ?_
           have x19 : Ext w w25 := (Chg.trans (Ext.trans (Ext.trans x7 e16) e19) e20 (fun b hb hl => (absurd hl (by have _h := l0_f2 b hb; omega))))
           exact ⟨x19, .inr (.inl ⟨hck, (by exfalso; omega), rfl⟩)⟩
          ·
           refine go ?_
           refine y_add ?_
           have hst9 := RK.stepS hG hgd.2.1 hgd.2.2.1 hgd.2.2.2 hynd hK (by omega) hx_6 (by rw [← hov2, ← hov]; intro hz0; rw [hz0] at h7; simp at h7) (nx := RSt.mk none 0 nx none 0 (closG s.g nx) x_3 (n : Nat) none 0 []) ⟨by rw [← hov2, ← hov], by rw [← hov2, ← hov], rfl, rfl, rfl, rfl⟩
           rw [← hov2, ← hov] at hst9
           have q41 := (((t0_f3.y.ext e16).ext e19).keep e20 (fun _k _hk => ((t0_f3.y.ext e16).ext e19).ne_own ((t1_f3.ext e16).ext e19) (by decide) _k _hk))
           have q42 := (((t0_f3.st.ext e16).ext e19).keep e20 (fun _k _hk => ((t0_f3.st.ext e16).ext e19).ne_own ((t1_f3.ext e16).ext e19) (by decide) _k _hk))
           have x20 : Ext w w25 := (Chg.trans (Ext.trans (Ext.trans x7 e16) e19) e20 (fun b hb hl => (absurd hl (by have _h := l0_f2 b hb; omega))))
           refine go ?_
           exact ⟨rfl, ys.length - (k + 1), by omega, k + 1, (arcS s.g n us x_3), su, A2, c2, gl ++ [((idxO nx (su.map RSt.kernel) 0))], A5, c5, by omega, (by omega), (hst9.1 (by omega)), (by omega), rfl, rfl, rfl, rfl, rfl, rfl, rfl, rfl, rfl, vW, rfl, o5, low5, ⟨q40, q41, q42, t0_f3.low, ((RsF.chgD (RsF.ext t0_f3.F x18) e20 ((t1_f3.ext e16).ext e19) at2)).nilE⟩, x20⟩
        ·
         refine go ?_
         refine yOp (ox_mkSlice (ps := [(0, (.int .i64 (-1)))]) (zs := #[(.int .i64 0)]) (cs := #[(.int .i64 (-1))]) tE_27.h rfl (by decide) (by kernel_rfl) (by kernel_rfl) ?_)
         intro w26 e21 z14 b10
         replace b10 : Blk w26 w10.heap.size #[(.int .i64 (-1))] 3 := b10
         refine yOp (ox_appD (l := gl) (r := [(-1)]) (cs := ints) rfl tE_27.h rfl (by decide) ints_len ints_one (v := (.slice Agl gl.length cgl)) rfl rfl (m := 1) rfl (t1_f3.ext e21) b10.all (by simp only [List.length_append, List.length_cons, List.length_nil]; omega) (by decide) ?_)
         intro A6 c6 w27 o6 e22 at3 hc3
         have he22 := e22.size
         have low6 : ∀ _k, (Value.slice A6 (gl ++ [(-1)]).length c6).ownBlock = some _k → w.heap.size ≤ _k := fun _k _h => by rcases at3 with _e | _e <;> rw [_e] at _h; exact l0_f2 _k _h; exact (by cases _h; omega)
         have q43 := ((t0_f3.ba.ext e21).keep e22 (fun _h => (t1_f3.ext e21).ne_blk (t0_f3.ba.ext e21) (by decide) _ _h rfl))
         refine go ?_
         refine y_ld q43 ?_
         refine go ?_
         refine y_if (fun h11 => ?_) (fun h11 => ?_)
         ·
          refine go ?_
          refine y_r3 ?_
          have x21 : Ext w w27 := (Chg.trans (Ext.trans x7 e21) e22 (fun b hb hl => (absurd hl (by have _h := l0_f2 b hb; omega))))
          exact ⟨x21, .inr (.inl ⟨hck, (by exfalso; omega), rfl⟩)⟩
         ·
          refine go ?_
          refine y_add ?_
          have q44 := ((t0_f3.y.ext e21).keep e22 (fun _k _hk => (t0_f3.y.ext e21).ne_own (t1_f3.ext e21) (by decide) _k _hk))
          have q45 := ((t0_f3.st.ext e21).keep e22 (fun _k _hk => (t0_f3.st.ext e21).ne_own (t1_f3.ext e21) (by decide) _k _hk))
          have x22 : Ext w w27 := (Chg.trans (Ext.trans x7 e21) e22 (fun b hb hl => (absurd hl (by have _h := l0_f2 b hb; omega))))
          refine go ?_
          exact ⟨rfl, ys.length - (k + 1), by omega, k + 1, us, su, A2, c2, gl ++ [(-1)], A6, c6, by omega, (by omega), (RK.skipS hynd hK hx_6 (by rw [← hov2, ← hov]; exact List.eq_nil_of_length_eq_zero (by omega))), (by omega), rfl, rfl, rfl, rfl, rfl, rfl, rfl, rfl, rfl, vW, rfl, o6, low6, ⟨q43, q44, q45, t0_f3.low, ((RsF.chgD (RsF.ext t0_f3.F e21) e22 (t1_f3.ext e21) at3)).nilE⟩, x22⟩
     ·
      refine go ?_
      refine y_ld t0_f2.ba ?_
      obtain ⟨x_8, g_8, hx_15⟩ := own_may (A := A2) n RSt.len (by decide) t0_f2.st
      obtain ⟨hx_16, hA_8, hc_8⟩ := hx_15 oM
      refine go ?_
      refine y_ix n hA_8 ?_
      refine go ?_
      refine yNp (ox_stE (i := n) (off := 5) (vs := [(.slice Agl gl.length cgl)]) (b := ((RSt.mk x_8.kA x_8.kc x_8.kernel x_8.iA x_8.ic x_8.items (⟨x_8.sym.kind, x_8.sym.n⟩ : Sym) x_8.frm Agl cgl gl) : RSt)) RSt.len tS_27.h hA_8 rfl (v := (.slice Agl gl.length cgl)) rfl rfl rfl rfl t0_f2.st hx_16 rfl (by decide) (by omega) ?_)
      intro w28 e23 z15 o7
      have q46 := (a0_f2.keep e23 (fun _k _hk => a0_f2.ne_own t0_f2.st (by decide) _k _hk))
      refine go ?_
      refine y_add ?_
      have hsl9 : ((su.set n ((RSt.mk x_8.kA x_8.kc x_8.kernel x_8.iA x_8.ic x_8.items (⟨x_8.sym.kind, x_8.sym.n⟩ : Sym) x_8.frm Agl cgl gl)))).length = su.length := List.length_set
      have q47 := (t0_f2.ba.keep e23 (fun _h => t0_f2.st.ne_blk t0_f2.ba (by decide) _ _h rfl))
      have q48 := (t0_f2.y.keep e23 (fun _k _hk => t0_f2.y.ne_own t0_f2.st (by decide) _k _hk))
      have x23 : Ext w w28 := (Chg.trans x6 e23 (fun b hb hl => (absurd hl (by have _h := t0_f2.low b hb; omega))))
      refine go ?_
      exact ⟨rfl, 1024 - (n + 1), by omega, n + 1, us, (su.set n ((RSt.mk x_8.kA x_8.kc x_8.kernel x_8.iA x_8.ic x_8.items (⟨x_8.sym.kind, x_8.sym.n⟩ : Sym) x_8.frm Agl cgl gl))), A2, c2, by omega, (by omega), (RK.done hG hys hQ (by omega) (by omega) hy0 hit0.symm hK (by omega) hx_16), (by rw [List.length_set]; omega), rfl, vW, (by have h9 : RbW _ _ _ _ _ _ _ _ _ _ _ _ := ⟨(by rw [hsl9]; exact q47), q48, (by rw [hsl9]; exact o7), (by rw [hsl9]; exact t0_f2.low), RsF.nilE (RsF.put (q := n) t0_f2.F e23 t0_f2.st ⟨by decide, by decide⟩ hx_16 q46)⟩; exact h9), x23⟩
   ·
    refine go ?_
    refine y_r3 ?_
    exact ⟨x4, .inr (.inr ⟨hck, w4.heap.size, st, by rw [← hQ.bd]; exact buildF_end (by have h9 := hQ.rel.1; omega) (by omega), ⟨⟨_, _, _, _, sts, by rw [← hys]; exact t0_f1.ba, by rw [← hys]; exact Own.rowO t0_f1.y, Own.rowO t0_f1.st, (t0_f1.F).rsa, by rw [← hys]; exact hQ.fin (by omega)⟩, hS.ext x4, Aut.of hck (by rw [← hQ.bd]; exact buildF_end (by have h9 := hQ.rel.1; omega) (by omega))⟩, rfl⟩)⟩
theorem symbolsG_few {g : GD} {st : List ASt} (h : Aut g st) : (symbolsG g).length ≤ 1000000 := by
  have h1 := symbolsG_len g
  have h2 := h.good.triv
  have h3 := h.good.names
  omega
theorem sym_small {g : GD} {st : List ASt} (h : Aut g st) {z : Sym} (hz : z ∈ symbolsG g) : 0 ≤ z.n ∧ z.n ≤ 1000000 := by
  have h0 := symbolsG_mem.1 hz
  have h2 := h.good.triv
  have h3 := h.good.names
  rcases symE_kind h0 with hk | hk | hk
  · have := (symE_term h0 hk).1; omega
  · have := symE_name h0 hk; omega
  · omega
theorem arcTo_small {g : GD} {st : List ASt} (h : Aut g st) {n : Nat} {x : ASt} (hx : st[n]? = some x) (z : Sym) : -1 ≤ arcTo z x.arcs ∧ arcTo z x.arcs ≤ 100000000000 := by
  by_cases h0 : 0 ≤ arcTo z x.arcs
  · obtain ⟨a, ha, _, e⟩ := arcTo_some h0
    have := (arc_small h hx ha).2
    omega
  · refine ⟨?_, by omega⟩
    have key : ∀ l : List Arc, (∀ a ∈ l, 0 ≤ a.to) → -1 ≤ arcTo z l := by
      intro l
      induction l with
      | nil => intro _; exact Int.le_refl _
      | cons b l ih =>
        intro hb
        rw [arcTo]
        split
        · have := hb b (by simp); omega
        · exact ih fun a ha => hb a (by simp [ha])
    exact key _ fun a ha => (arc_small h hx ha).2.1
theorem flat_filter {α β : Type} {f : α → Bool} {g : α → List β} : ∀ {l : List α}, (l.filter f).flatMap g = l.flatMap fun z => if f z = true then g z else []
  | [] => rfl
  | x :: l => by
    rw [List.filter_cons, List.flatMap_cons, ← flat_filter (l := l)]
    split
    · rw [List.flatMap_cons]
    · rfl
theorem lineS_as {g : GD} {st : List ASt} (h : Aut g st) {ys : List Sym} (hys : ys = symbolsG g) {n : Nat} {x : ASt} (hx : st[n]? = some x) : lineS st n = Lib.itoa (n : Nat) ++ [58] ++ wkey x.kernel ++ [32, 124] ++ (ys.flatMap fun z => if 0 ≤ arcTo z x.arcs then [32] ++ letterS z ++ [62] ++ Lib.itoa (arcTo z x.arcs) else []) ++ [10] := by
  unfold lineS
  rw [kernS_at hx, bangA hx]
  congr 2
  have hn : (x.arcs.map Arc.sym).Nodup := by rw [h.arcs n x hx]; exact symsG_nodup g x.items
  have e1 : x.arcs.flatMap arcTx = (x.arcs.map Arc.sym).flatMap fun z => [32] ++ letterS z ++ [62] ++ Lib.itoa (arcTo z x.arcs) := by
    rw [List.flatMap_map]
    apply congrArg List.flatten
    refine List.map_congr_left fun a ha => ?_
    unfold arcTx
    rw [arcTo_mem hn ha]
  rw [e1, h.arcs n x hx, symsG_as h.good.good (fun y hy => (h.ok.ok x (List.mem_of_getElem? hx) y hy).1), hys, flat_filter]
  apply congrArg List.flatten
  refine List.map_congr_left fun z _ => ?_
  have := go_stands h hx z
  rw [goS_at hx] at this
  simp only [decide_eq_true_eq, ← this]
instance pf_69 : PlF Tryz.prog 69 := ⟨by kernel_rfl⟩
instance tA_103 : AggT Tryz.prog 103 := ⟨by kernel_rfl⟩
instance tS_103 : SzT Tryz.prog 103 6 := ⟨by kernel_rfl⟩
theorem writtenR_calls (z : Sym) (w : World) (hT : TabP w) (hz : -9223372036854775808 ≤ z.n ∧ z.n ≤ 9223372036854775807) :
    Calls Tryz.prog 69 #[(.agg #[(.int .i64 z.kind), (.int .i64 z.n)])] w (Ret (fun v w' => v = .string ⟨(letterS z).toArray⟩ ∧ Ext w w')) := by
 refine calls_y (n := 17) Tryz.func69 ?_
 refine go ?_
 refine y_bx ?_
 intro w1 e1 z1 b1
 refine go ?_
 refine y_ld b1 ?_
 refine go ?_
 refine y_if (fun h1 => ?_) (fun h1 => ?_)
 ·
  refine go ?_
  refine y_ld b1 ?_
  have hil_e2 := Lib.itoa_length_le z.n (by omega) (by omega)
  refine yCa (ret_mono (itoa_calls z.n w1 (by omega) (by omega) (TabIs.ext hT e1)) ?_)
  rintro _ w2 ⟨rfl, e2⟩
  have he2 := e2.size
  refine yOp (ox_addL (l := ([116])) (m := (Lib.itoa z.n)) rfl rfl (by simp only [List.length_append, List.length_cons, List.length_nil]; omega) ?_)
  refine go ?_
  refine y_r1 ?_
  have x1 : Ext w w2 := (Ext.trans e1 e2)
  exact ⟨by rw [letterS, if_pos h1] <;> rfl, x1⟩
 ·
  refine go ?_
  refine y_if (fun h2 => ?_) (fun h2 => ?_)
  ·
   refine go ?_
   refine y_r1 ?_
   exact ⟨by rw [letterS, if_neg h1, if_pos h2] <;> rfl, e1⟩
  ·
   refine go ?_
   refine y_ld b1 ?_
   have hil_e3 := Lib.itoa_length_le z.n (by omega) (by omega)
   refine yCa (ret_mono (itoa_calls z.n w1 (by omega) (by omega) (TabIs.ext hT e1)) ?_)
   rintro _ w3 ⟨rfl, e3⟩
   have he3 := e3.size
   refine yOp (ox_addL (l := ([110])) (m := (Lib.itoa z.n)) rfl rfl (by simp only [List.length_append, List.length_cons, List.length_nil]; omega) ?_)
   refine go ?_
   refine y_r1 ?_
   have x2 : Ext w w3 := (Ext.trans e1 e3)
   exact ⟨by rw [letterS, if_neg h1, if_neg h2] <;> rfl, x2⟩
theorem printR_calls (s : SP) (ba : Nat) (yA : Option Addr) (yc : Nat) (ys : List Sym) (stA : Option Addr) (stc : Nat) (sts : List RSt) (st : List ASt) (w : World) (hb : Blk w ba #[(.slice s.lA s.lex.length s.lc), (.slice s.nA s.names.length s.nc), (.int .i64 s.start), (.slice s.pA s.prods.length s.pc), (.slice yA ys.length yc), (.slice stA sts.length stc)] 89) (hR : RelS ys sts st) (hst : st.length ≤ 100000000000) (hy : RowA w yA (ys.flatMap Sym.cs)) (ho : RowA w stA (sts.flatMap RSt.cs)) (hF : RsA w sts) (haut : Aut s.g st) (hys : ys = symbolsG s.g) (hT : TabP w) :
    Calls Tryz.prog 42 #[(.pointer (some ⟨ba, 0, none⟩))] w (Ret (fun v w' => v = .string ⟨(printS st).toArray⟩ ∧ Ext w w')) := by
 have hRl := hR.1
 have hst1 : st.length ≤ 1025 := haut.few
 refine calls_y (n := 104) Tryz.func42 ?_
 refine go ?_
 refine xc_loopN (fun m_ f_ Wx => ∃ (n : Nat) (tx : List UInt8), m_ = sts.length - n ∧ (n ≤ sts.length) ∧ (tx = linesS st (List.range n)) ∧ f_ 0 = (.pointer (some ⟨ba, 0, none⟩)) ∧ f_ 2 = (.string (⟨#[]⟩)) ∧ f_ 4 = (.int .i64 ((n : Nat))) ∧ f_ 3 = (.string (⟨(tx).toArray⟩)) ∧ Ext w Wx) (sts.length) ?_ ?_
 ·
  exact ⟨0, [], (by omega), (by omega), rfl, rfl, rfl, vW, rfl, (Chg.refl _ _)⟩
 ·
  rintro m_ f1 w1 ⟨n, tx, hm_f1, hn, htx, g0_f1, g2_f1, g4_f1, g3_f1, x1⟩
  have hx1 := x1.size
  have htl := lines_len haut (n := n) (by omega)
  rw [← htx] at htl
  rw [← usf g0_f1, ← usf g2_f1, ← usf g4_f1, ← usf g3_f1]
  refine go ?_
  refine y_ld (hb.ext x1) ?_
  refine go ?_
  refine y_if (fun h1 => ?_) (fun h1 => ?_)
  ·
   refine go ?_
   refine y_ld (hb.ext x1) ?_
   obtain ⟨x_1, g_1, o_1, hx_1⟩ := row_may (A := stA) (cs := RSt.cs) n RSt.len (by decide) (RowA.ext ho x1)
   obtain ⟨hx_2, hA_1, hc_1⟩ := hx_1 oM
   obtain ⟨y_x_1, hy_x_1⟩ := get_ex (l := st) (i := n) (by have h9 := hR.1; omega)
   have hr_x_1 := hR.2 _ _ _ hx_2 hy_x_1
   refine go ?_
   refine y_ix n hA_1 ?_
   refine y_lN (vs := [(.slice x_1.kA x_1.kernel.length x_1.kc), (.slice x_1.iA x_1.items.length x_1.ic), (.int .i64 x_1.sym.kind), (.int .i64 x_1.sym.n), (.int .i64 x_1.frm), (.slice x_1.gA x_1.go.length x_1.gc)]) hc_1 ?_
   refine y_al ?_
   intro w2 e1 z1 b1
   refine y_st b1 ?_
   intro w3 e2 z2 b2
   replace b2 : Blk w3 w1.heap.size #[(.slice x_1.kA x_1.kernel.length x_1.kc), (.slice x_1.iA x_1.items.length x_1.ic), (.int .i64 x_1.sym.kind), (.int .i64 x_1.sym.n), (.int .i64 x_1.frm), (.slice x_1.gA x_1.go.length x_1.gc)] 103 := blk_full b2 rfl
   have hil_e3 := Lib.itoa_length_le ((n : Nat)) (by omega) (by omega)
   have x2 : Ext w w3 := (Ext.chg1 (Ext.trans x1 e1) e2 (by omega))
   refine go ?_
   refine yCa (ret_mono (itoa_calls ((n : Nat)) w3 (by omega) (by omega) (TabIs.ext hT x2)) ?_)
   rintro _ w4 ⟨rfl, e3⟩
   have he3 := e3.size
   refine yOp (ox_addL (l := (Lib.itoa ((n : Nat)))) (m := ([58])) rfl rfl (by first | omega | (simp only [List.length_append, List.length_cons, List.length_nil]; omega)) ?_)
   have hkl9 : x_1.kernel.length ≤ 67240962 := by rw [← hr_x_1.kernel]; have h8 := (kern_len haut hy_x_1).2.1; have h9 := (haut.lens y_x_1 (List.mem_of_getElem? hy_x_1)).1; omega
   have hsml : ∀ y ∈ x_1.kernel, smallI y := fun y hy => okJ_small (haut.ok.ok y_x_1 (List.mem_of_getElem? hy_x_1) y (List.mem_of_mem_take (by rw [← hr_x_1.kernel] at hy; exact hy))) haut.good.prods haut.good.rights
   have hitn := Lib.itoa_length_le (n : Nat) (by omega) (by omega)
   have hst1 : st.length ≤ 1025 := haut.few
   refine go ?_
   refine xc_loopN (fun m_ f_ Wx => ∃ (j : Nat) (ln : List UInt8), m_ = x_1.kernel.length - j ∧ (j ≤ x_1.kernel.length) ∧ (ln = Lib.itoa (n : Nat) ++ [58] ++ wkey (x_1.kernel.take j)) ∧ f_ 0 = (.pointer (some ⟨ba, 0, none⟩)) ∧ f_ 2 = (.string (⟨#[]⟩)) ∧ f_ 4 = (.int .i64 ((n : Nat))) ∧ f_ 3 = (.string (⟨(tx).toArray⟩)) ∧ f_ 10 = (.int .i64 ((n : Nat))) ∧ f_ 11 = (.pointer (some ⟨ba, 0, none⟩)) ∧ f_ 12 = (.pointer (some ⟨ba, 0, none⟩)) ∧ f_ 13 = (.pointer (some ⟨ba, 5, none⟩)) ∧ f_ 14 = (.slice stA sts.length stc) ∧ f_ 15 = (.int .i64 (((sts.length : Nat) : Int))) ∧ f_ 16 = (.bool (decide (((n : Nat) : Int) < (((sts.length : Nat) : Int))))) ∧ f_ 19 = (.pointer (some ⟨ba, 0, none⟩)) ∧ f_ 20 = (.pointer (some ⟨ba, 0, none⟩)) ∧ f_ 21 = (.pointer (some ⟨ba, 5, none⟩)) ∧ f_ 22 = (.slice stA sts.length stc) ∧ f_ 23 = (.int .i64 ((n : Nat))) ∧ f_ 24 = (.pointer (some ⟨g_1, o_1 + n * 6, none⟩)) ∧ f_ 25 = (.agg #[(.slice x_1.kA x_1.kernel.length x_1.kc), (.slice x_1.iA x_1.items.length x_1.ic), (.int .i64 x_1.sym.kind), (.int .i64 x_1.sym.n), (.int .i64 x_1.frm), (.slice x_1.gA x_1.go.length x_1.gc)]) ∧ f_ 5 = (.pointer (some ⟨w1.heap.size, 0, none⟩)) ∧ f_ 26 = (.int .i64 ((n : Nat))) ∧ f_ 27 = (.string (⟨(Lib.itoa ((n : Nat))).toArray⟩)) ∧ f_ 28 = (.string (⟨(Lib.itoa ((n : Nat)) ++ [58]).toArray⟩)) ∧ f_ 7 = (.int .i64 ((j : Nat))) ∧ f_ 6 = (.string (⟨(ln).toArray⟩)) ∧ Ext w4 Wx) (x_1.kernel.length) ?_ ?_
   ·
    exact ⟨0, Lib.itoa (n : Nat) ++ [58], (by omega), (by omega), (by simp [wkey]), rfl, rfl, rfl, rfl, rfl, rfl, rfl, rfl, rfl, rfl, rfl, rfl, rfl, rfl, rfl, rfl, rfl, rfl, rfl, rfl, rfl, rfl, vW, rfl, (Chg.refl _ _)⟩
   ·
    rintro m_ f2 w5 ⟨j, ln, hm_f2, hj, hln, g0_f2, g2_f2, g4_f2, g3_f2, g10_f2, g11_f2, g12_f2, g13_f2, g14_f2, g15_f2, g16_f2, g19_f2, g20_f2, g21_f2, g22_f2, g23_f2, g24_f2, g25_f2, g5_f2, g26_f2, g27_f2, g28_f2, g7_f2, g6_f2, x3⟩
    have hx3 := x3.size
    have hkn := wkey_len hsml j
    have hlnl : ln.length = (Lib.itoa (n : Nat)).length + 1 + (wkey (x_1.kernel.take j)).length := by rw [hln]; simp only [List.length_append, List.length_cons, List.length_nil]
    rw [← usf g0_f2, ← usf g2_f2, ← usf g4_f2, ← usf g3_f2, ← usf g10_f2, ← usf g11_f2, ← usf g12_f2, ← usf g13_f2, ← usf g14_f2, ← usf g15_f2, ← usf g16_f2, ← usf g19_f2, ← usf g20_f2, ← usf g21_f2, ← usf g22_f2, ← usf g23_f2, ← usf g24_f2, ← usf g25_f2, ← usf g5_f2, ← usf g26_f2, ← usf g27_f2, ← usf g28_f2, ← usf g7_f2, ← usf g6_f2]
    refine go ?_
    refine y_ld ((b2.ext e3).ext x3) ?_
    refine go ?_
    refine y_if (fun h2 => ?_) (fun h2 => ?_)
    ·
     refine go ?_
     refine y_ld ((b2.ext e3).ext x3) ?_
     have x4 : Ext w w5 := (Ext.trans (Ext.trans x2 e3) x3)
     obtain ⟨x_2, g_2, o_2, hx_3⟩ := row_may (A := x_1.kA) (cs := Itm.cs) j Itm.len (by decide) (RowA.ext ((hF _ (List.mem_of_getElem? hx_2)).kernel) x4)
     obtain ⟨hx_4, hA_2, hc_2⟩ := hx_3 oM
     have hsm_x_2 := hsml _ (List.mem_of_getElem? hx_4)
     unfold smallI at hsm_x_2
     refine go ?_
     refine y_ix j hA_2 ?_
     refine go ?_
     refine y_lc (CellsL.at1 hc_2 0 rfl) ?_
     refine go ?_
     refine y_if (fun h3 => ?_) (fun h3 => ?_)
     ·
      refine go ?_
      refine y_ld ((b2.ext e3).ext x3) ?_
      refine go ?_
      refine y_ix j hA_2 ?_
      refine go ?_
      refine y_lc (CellsL.at1 hc_2 0 rfl) ?_
      have hil_e4 := Lib.itoa_length_le x_2.p (by omega) (by omega)
      refine yCa (ret_mono (itoa_calls x_2.p w5 (by omega) (by omega) (TabIs.ext hT x4)) ?_)
      rintro _ w6 ⟨rfl, e4⟩
      have he4 := e4.size
      refine go ?_
      refine yOp (ox_addL (l := ln) (m := ([32])) rfl rfl (by first | omega | (simp only [List.length_append, List.length_cons, List.length_nil]; omega)) ?_)
      refine go ?_
      refine yOp (ox_addL (l := (ln ++ [32])) (m := (Lib.itoa x_2.p)) rfl rfl (by first | omega | (simp only [List.length_append, List.length_cons, List.length_nil]; omega)) ?_)
      refine yOp (ox_addL (l := (ln ++ [32] ++ Lib.itoa x_2.p)) (m := ([46])) rfl rfl (by first | omega | (simp only [List.length_append, List.length_cons, List.length_nil]; omega)) ?_)
      refine go ?_
      refine y_ld (((b2.ext e3).ext x3).ext e4) ?_
      refine go ?_
      refine y_ix j hA_2 ?_
      refine go ?_
      refine y_lc (CellsL.at1 (CellsL.keep e4 not_false hc_2) 1 rfl) ?_
      have hil_e5 := Lib.itoa_length_le x_2.dot (by omega) (by omega)
      have x5 : Ext w w6 := (Ext.trans x4 e4)
      refine yCa (ret_mono (itoa_calls x_2.dot w6 (by omega) (by omega) (TabIs.ext hT x5)) ?_)
      rintro _ w7 ⟨rfl, e5⟩
      have he5 := e5.size
      refine yOp (ox_addL (l := (ln ++ [32] ++ Lib.itoa x_2.p ++ [46])) (m := (Lib.itoa x_2.dot)) rfl rfl (by first | omega | (simp only [List.length_append, List.length_cons, List.length_nil]; omega)) ?_)
      refine go ?_
      refine y_add ?_
      have x6 : Ext w4 w7 := (Ext.trans (Ext.trans x3 e4) e5)
      refine go ?_
      exact ⟨rfl, x_1.kernel.length - (j + 1), by omega, j + 1, (ln ++ [32] ++ Lib.itoa x_2.p ++ [46] ++ Lib.itoa x_2.dot), by omega, (by omega), (by rw [wkey_pos hx_4 (by omega)]; rw [hln]; simp only [List.append_assoc, List.cons_append, List.nil_append]), rfl, rfl, rfl, rfl, rfl, rfl, rfl, rfl, rfl, rfl, rfl, rfl, rfl, rfl, rfl, rfl, rfl, rfl, rfl, rfl, rfl, rfl, vW, rfl, x6⟩
     ·
      refine go ?_
      refine yOp (ox_addL (l := ln) (m := ([32])) rfl rfl (by first | omega | (simp only [List.length_append, List.length_cons, List.length_nil]; omega)) ?_)
      refine go ?_
      refine yOp (ox_addL (l := (ln ++ [32])) (m := ([115])) rfl rfl (by first | omega | (simp only [List.length_append, List.length_cons, List.length_nil]; omega)) ?_)
      refine yOp (ox_addL (l := (ln ++ [32] ++ [115])) (m := ([46])) rfl rfl (by first | omega | (simp only [List.length_append, List.length_cons, List.length_nil]; omega)) ?_)
      refine go ?_
      refine y_ld ((b2.ext e3).ext x3) ?_
      refine go ?_
      refine y_ix j hA_2 ?_
      refine go ?_
      refine y_lc (CellsL.at1 hc_2 1 rfl) ?_
      have hil_e6 := Lib.itoa_length_le x_2.dot (by omega) (by omega)
      refine yCa (ret_mono (itoa_calls x_2.dot w5 (by omega) (by omega) (TabIs.ext hT x4)) ?_)
      rintro _ w8 ⟨rfl, e6⟩
      have he6 := e6.size
      refine yOp (ox_addL (l := (ln ++ [32] ++ [115] ++ [46])) (m := (Lib.itoa x_2.dot)) rfl rfl (by first | omega | (simp only [List.length_append, List.length_cons, List.length_nil]; omega)) ?_)
      refine go ?_
      refine y_add ?_
      have x7 : Ext w4 w8 := (Ext.trans x3 e6)
      refine go ?_
      exact ⟨rfl, x_1.kernel.length - (j + 1), by omega, j + 1, (ln ++ [32] ++ [115] ++ [46] ++ Lib.itoa x_2.dot), by omega, (by omega), (by rw [wkey_neg hx_4 (by omega)]; rw [hln]; simp only [List.append_assoc, List.cons_append, List.nil_append]), rfl, rfl, rfl, rfl, rfl, rfl, rfl, rfl, rfl, rfl, rfl, rfl, rfl, rfl, rfl, rfl, rfl, rfl, rfl, rfl, rfl, rfl, vW, rfl, x7⟩
    ·
     have hlnx : ln = Lib.itoa (n : Nat) ++ [58] ++ wkey x_1.kernel := by rw [hln, List.take_of_length_le (by omega)]
     refine go ?_
     refine yOp (ox_addL (l := ln) (m := ([32, 124])) rfl rfl (by first | omega | (simp only [List.length_append, List.length_cons, List.length_nil]; omega)) ?_)
     have hyl9 : ys.length ≤ 1000000 := by rw [hys]; exact symbolsG_few haut
     refine go ?_
     refine xc_loopN (fun m_ f_ Wx => ∃ (k : Nat) (lm : List UInt8), m_ = ys.length - k ∧ (k ≤ ys.length) ∧ (lm = Lib.itoa (n : Nat) ++ [58] ++ wkey x_1.kernel ++ [32, 124] ++ (ys.take k).flatMap (fun z => if 0 ≤ arcTo z y_x_1.arcs then [32] ++ letterS z ++ [62] ++ Lib.itoa (arcTo z y_x_1.arcs) else [])) ∧ (lm.length ≤ 3100000000 + 60 * k) ∧ f_ 0 = (.pointer (some ⟨ba, 0, none⟩)) ∧ f_ 2 = (.string (⟨#[]⟩)) ∧ f_ 4 = (.int .i64 ((n : Nat))) ∧ f_ 3 = (.string (⟨(tx).toArray⟩)) ∧ f_ 10 = (.int .i64 ((n : Nat))) ∧ f_ 11 = (.pointer (some ⟨ba, 0, none⟩)) ∧ f_ 12 = (.pointer (some ⟨ba, 0, none⟩)) ∧ f_ 13 = (.pointer (some ⟨ba, 5, none⟩)) ∧ f_ 14 = (.slice stA sts.length stc) ∧ f_ 15 = (.int .i64 (((sts.length : Nat) : Int))) ∧ f_ 16 = (.bool (decide (((n : Nat) : Int) < (((sts.length : Nat) : Int))))) ∧ f_ 19 = (.pointer (some ⟨ba, 0, none⟩)) ∧ f_ 20 = (.pointer (some ⟨ba, 0, none⟩)) ∧ f_ 21 = (.pointer (some ⟨ba, 5, none⟩)) ∧ f_ 22 = (.slice stA sts.length stc) ∧ f_ 23 = (.int .i64 ((n : Nat))) ∧ f_ 24 = (.pointer (some ⟨g_1, o_1 + n * 6, none⟩)) ∧ f_ 25 = (.agg #[(.slice x_1.kA x_1.kernel.length x_1.kc), (.slice x_1.iA x_1.items.length x_1.ic), (.int .i64 x_1.sym.kind), (.int .i64 x_1.sym.n), (.int .i64 x_1.frm), (.slice x_1.gA x_1.go.length x_1.gc)]) ∧ f_ 5 = (.pointer (some ⟨w1.heap.size, 0, none⟩)) ∧ f_ 26 = (.int .i64 ((n : Nat))) ∧ f_ 27 = (.string (⟨(Lib.itoa ((n : Nat))).toArray⟩)) ∧ f_ 28 = (.string (⟨(Lib.itoa ((n : Nat)) ++ [58]).toArray⟩)) ∧ f_ 7 = (.int .i64 ((j : Nat))) ∧ f_ 29 = (.int .i64 ((j : Nat))) ∧ f_ 30 = (.pointer (some ⟨w1.heap.size, 0, none⟩)) ∧ f_ 31 = (.slice x_1.kA x_1.kernel.length x_1.kc) ∧ f_ 32 = (.int .i64 (((x_1.kernel.length : Nat) : Int))) ∧ f_ 33 = (.bool (decide (((j : Nat) : Int) < (((x_1.kernel.length : Nat) : Int))))) ∧ f_ 63 = (.string (⟨(ln).toArray⟩)) ∧ f_ 64 = (.string (⟨(ln ++ [32, 124]).toArray⟩)) ∧ f_ 9 = (.int .i64 ((k : Nat))) ∧ f_ 6 = (.string (⟨(lm).toArray⟩)) ∧ Ext w5 Wx) (ys.length) ?_ ?_
     ·
      exact ⟨0, ln ++ [32, 124], (by omega), (by omega), (by rw [hlnx]; simp), (by simp only [List.length_append, List.length_cons, List.length_nil]; omega), rfl, rfl, rfl, rfl, rfl, rfl, rfl, rfl, rfl, rfl, rfl, rfl, rfl, rfl, rfl, rfl, rfl, rfl, rfl, rfl, rfl, rfl, rfl, rfl, rfl, rfl, rfl, rfl, rfl, rfl, vW, rfl, (Chg.refl _ _)⟩
     ·
      rintro m_ f3 w9 ⟨k, lm, hm_f3, hk, hlm, hlml, g0_f3, g2_f3, g4_f3, g3_f3, g10_f3, g11_f3, g12_f3, g13_f3, g14_f3, g15_f3, g16_f3, g19_f3, g20_f3, g21_f3, g22_f3, g23_f3, g24_f3, g25_f3, g5_f3, g26_f3, g27_f3, g28_f3, g7_f3, g29_f3, g30_f3, g31_f3, g32_f3, g33_f3, g63_f3, g64_f3, g9_f3, g6_f3, x8⟩
      have hx8 := x8.size
      rw [← usf g0_f3, ← usf g2_f3, ← usf g4_f3, ← usf g3_f3, ← usf g10_f3, ← usf g11_f3, ← usf g12_f3, ← usf g13_f3, ← usf g14_f3, ← usf g15_f3, ← usf g16_f3, ← usf g19_f3, ← usf g20_f3, ← usf g21_f3, ← usf g22_f3, ← usf g23_f3, ← usf g24_f3, ← usf g25_f3, ← usf g5_f3, ← usf g26_f3, ← usf g27_f3, ← usf g28_f3, ← usf g7_f3, ← usf g29_f3, ← usf g30_f3, ← usf g31_f3, ← usf g32_f3, ← usf g33_f3, ← usf g63_f3, ← usf g64_f3, ← usf g9_f3, ← usf g6_f3]
      have q1 := (((hb.ext x1).ext e1).keep1 e2 (((hb.ext x1).ext e1).ne b1 (by decide)))
      refine go ?_
      refine y_ld (((q1.ext e3).ext x3).ext x8) ?_
      refine go ?_
      refine y_if (fun h4 => ?_) (fun h4 => ?_)
      ·
       have hgl : x_1.go.length = ys.length := by rw [hr_x_1.go, List.length_map]
       refine go ?_
       refine y_ld (((b2.ext e3).ext x3).ext x8) ?_
       have x9 : Ext w w9 := (Ext.trans (Ext.trans (Ext.trans x2 e3) x3) x8)
       obtain ⟨x_3, g_3, o_3, hx_5⟩ := row_may (A := x_1.gA) (cs := ints) k ints_len (by decide) (RowA.ext ((hF _ (List.mem_of_getElem? hx_2)).go) x9)
       obtain ⟨hx_6, hA_3, hc_3⟩ := hx_5 oM
       refine go ?_
       refine y_ix k hA_3 ?_
       refine y_lc (CellsL.at1 hc_3 0 rfl) ?_
       refine go ?_
       refine y_if (fun h5 => ?_) (fun h5 => ?_)
       ·
        obtain ⟨z9, hz9⟩ := get_ex (l := ys) (i := k) (by omega)
        have hgv : x_3 = arcTo z9 y_x_1.arcs := by have h9 := hx_6; rw [hr_x_1.go, map_get hz9] at h9; exact (Option.some.inj h9).symm
        have hgb := arcTo_small haut hy_x_1 z9
        obtain ⟨x_4, g_4, o_4, hx_7⟩ := row_may (A := yA) (cs := Sym.cs) k Sym.len (by decide) (RowA.ext hy x9)
        obtain ⟨hx_8, hA_4, hc_4⟩ := hx_7 oM
        have hzs := sym_small haut (by rw [← hys]; exact List.mem_of_getElem? hx_8)
        have hll := letterS_len x_4 ⟨by omega, by omega⟩
        refine xc_regionE [] (fun W_ => Chg (fun _ => False) w9 W_) hmix ?_
        intro w10 e7 z3
        have hS1 : Chg (fun _ => False) w9 w10 := Ext.to e7
        refine yDp 0 ?_
        refine yDq (i := 1) rfl (fun W_ hW_ => ox_addL (l := lm) (m := ([32])) rfl rfl (by first | omega | (simp only [List.length_append, List.length_cons, List.length_nil]; omega)) ⟨rfl, rfl⟩) ?_
        refine yDp 2 ?_
        refine yDp 3 ?_
        refine yDp 4 ?_
        refine yDt (i := 5) rfl hS1 (fun W_ hW_ => ox_load tA_33.h rfl (((((q1.ext e3).ext x3).ext x8).ext hW_).cell rfl) ⟨rfl, rfl⟩) ?_
        refine yDp 6 ?_
        refine yDx (i := 7) k hA_4 ?_
        refine yDt (i := 8) rfl hS1 (fun W_ hW_ => ox_loadN (vs := [(.int .i64 x_4.kind), (.int .i64 x_4.n)]) tA_32.h tS_32.h rfl rfl (CellsL.keep hW_ not_false hc_4) ⟨rfl, rfl⟩) ?_
        refine yDp 12 ?_
        refine yDt (i := 13) rfl hS1 (fun W_ hW_ => ox_load tA_27.h rfl (((((b2.ext e3).ext x3).ext x8).ext hW_).cell rfl) ⟨rfl, rfl⟩) ?_
        refine yDp 14 ?_
        refine yDx (i := 15) k hA_3 ?_
        refine yDt (i := 16) rfl hS1 (fun W_ hW_ => ox_load tA_3.h rfl (CellsL.at1 (CellsL.keep hW_ not_false hc_3) 0 rfl) ⟨rfl, rfl⟩) ?_
        have x10 : Ext w w10 := (Ext.trans x9 e7)
        refine yD1 (i := 9) rfl (yCx (ret_mono (writtenR_calls x_4 w10 (TabIs.ext hT x10) ⟨by omega, by omega⟩) ?_))
        rintro _ w11 ⟨rfl, e8⟩
        have he8 := e8.size
        have hS2 : Chg (fun _ => False) w9 w11 := Chg.ext hS1 e8
        refine ⟨.inr fun _ => hS2, ?_⟩
        refine yDq (i := 10) rfl (fun W_ hW_ => ox_addL (l := (lm ++ [32])) (m := (letterS x_4)) rfl rfl (by first | omega | (simp only [List.length_append, List.length_cons, List.length_nil]; omega)) ⟨rfl, rfl⟩) ?_
        refine yDq (i := 11) rfl (fun W_ hW_ => ox_addL (l := (lm ++ [32] ++ letterS x_4)) (m := ([62])) rfl rfl (by first | omega | (simp only [List.length_append, List.length_cons, List.length_nil]; omega)) ⟨rfl, rfl⟩) ?_
        have hil_e9 := Lib.itoa_length_le x_3 (by omega) (by omega)
        have x11 : Ext w w11 := (Ext.trans x10 e8)
        refine yD1 (i := 17) rfl (yCx (ret_mono (itoa_calls x_3 w11 (by omega) (by omega) (TabIs.ext hT x11)) ?_))
        rintro _ w12 ⟨rfl, e9⟩
        have he9 := e9.size
        have hS3 : Chg (fun _ => False) w9 w12 := Chg.ext hS2 e9
        refine ⟨.inr fun _ => hS3, ?_⟩
        refine yDq (i := 18) rfl (fun W_ hW_ => ox_addL (l := (lm ++ [32] ++ letterS x_4 ++ [62])) (m := (Lib.itoa x_3)) rfl rfl (by first | omega | (simp only [List.length_append, List.length_cons, List.length_nil]; omega)) ⟨rfl, rfl⟩) ?_
        refine yDp 19 ?_
        refine xd_done (by kernel_rfl) ?_ _
        refine go ?_
        refine y_add ?_
        have x12 : Ext w5 w12 := (Ext.trans (Ext.trans (Ext.trans x8 e7) e8) e9)
        refine go ?_
        exact ⟨rfl, ys.length - (k + 1), by omega, k + 1, (lm ++ [32] ++ letterS x_4 ++ [62] ++ Lib.itoa x_3), by omega, (by omega), (by rw [List.take_add_one, hx_8, hlm]; show _ = _ ++ (_ ++ [_]).flatMap _; rw [List.flatMap_append]; rw [show x_4 = z9 from Option.some.inj (hx_8.symm.trans hz9), hgv, List.flatMap_singleton, if_pos (by rw [← hgv]; exact h5)]; simp only [List.append_assoc, List.cons_append, List.nil_append]), (by simp only [List.length_append, List.length_cons, List.length_nil]; omega), rfl, rfl, rfl, rfl, rfl, rfl, rfl, rfl, rfl, rfl, rfl, rfl, rfl, rfl, rfl, rfl, rfl, rfl, rfl, rfl, rfl, rfl, rfl, rfl, rfl, rfl, rfl, rfl, rfl, rfl, vW, rfl, x12⟩
       ·
        obtain ⟨z9, hz9⟩ := get_ex (l := ys) (i := k) (by omega)
        have hgv : x_3 = arcTo z9 y_x_1.arcs := by have h9 := hx_6; rw [hr_x_1.go, map_get hz9] at h9; exact (Option.some.inj h9).symm
        have hgb := arcTo_small haut hy_x_1 z9
        refine go ?_
        refine y_add ?_
        refine go ?_
        exact ⟨rfl, ys.length - (k + 1), by omega, k + 1, lm, by omega, (by omega), (by rw [List.take_add_one, hz9, hlm]; show _ = _ ++ (_ ++ [_]).flatMap _; rw [List.flatMap_append, List.flatMap_singleton, if_neg (by rw [← hgv]; exact h5), List.append_nil]), (by omega), rfl, rfl, rfl, rfl, rfl, rfl, rfl, rfl, rfl, rfl, rfl, rfl, rfl, rfl, rfl, rfl, rfl, rfl, rfl, rfl, rfl, rfl, rfl, rfl, rfl, rfl, rfl, rfl, rfl, rfl, vW, rfl, x8⟩
      ·
       refine go ?_
       refine yOp (ox_addL (l := tx) (m := lm) rfl rfl (by first | omega | (simp only [List.length_append, List.length_cons, List.length_nil]; omega)) ?_)
       refine yOp (ox_addL (l := (tx ++ lm)) (m := ([10])) rfl rfl (by first | omega | (simp only [List.length_append, List.length_cons, List.length_nil]; omega)) ?_)
       refine go ?_
       refine y_add ?_
       have x13 : Ext w w9 := (Ext.trans (Ext.trans (Ext.trans x2 e3) x3) x8)
       refine go ?_
       exact ⟨rfl, sts.length - (n + 1), by omega, n + 1, (tx ++ lm ++ [10]), by omega, (by omega), (by rw [List.range_succ, linesS_snoc, ← htx, lineS_as haut hys hy_x_1, hr_x_1.kernel, hlm, List.take_of_length_le (l := ys) (by omega)]; simp only [List.append_assoc, List.cons_append, List.nil_append]), rfl, rfl, vW, rfl, x13⟩
  ·
   refine go ?_
   refine y_r1 ?_
   exact ⟨by show Value.string _ = _; rw [htx, show n = st.length by omega] <;> rfl, x1⟩
theorem LendR.ext {B : Nat} {w w' : World} {s s' : SP} (h : LendR B w s s') (c : Ext w w') : LendR B w' s s' :=
  ⟨h.lexO.ext c, h.lexL, h.lexC, fun j x y hx hy => ⟨(h.lexR j x y hx hy).1, (h.lexR j x y hx hy).2.1, (h.lexR j x y hx hy).2.2.ext c⟩, h.namesO.ext c, h.names, h.namesC, h.start, h.prodsO.ext c, h.prodsL, h.prodsC, h.prodsR.ext c, h.lowL, h.lowN, h.lowP⟩
theorem build_calls3 (s : SP) (w : World) (hS : SpR w s) (hT : TabP w) : Calls Tryz.prog 34 #[(.agg #[(.slice s.lA s.lex.length s.lc), (.slice s.nA s.names.length s.nc), (.int .i64 s.start), (.slice s.pA s.prods.length s.pc)])] w (Ret fun v w' => ∃ (p : Option Addr) (k a : Int), v = .tuple #[.pointer p, .agg #[.int .i64 k, .int .i64 a, .string ⟨#[]⟩]] ∧ Ext w w' ∧ ((¬ (checkE s.g).1 = 0 ∧ k = (checkE s.g).1 ∧ a = (checkE s.g).2 ∧ p = none ∧ builtG s.g = none) ∨ ((checkE s.g).1 = 0 ∧ k = 80 ∧ a = 0 ∧ p = none ∧ builtG s.g = none) ∨ ((checkE s.g).1 = 0 ∧ k = 0 ∧ a = 0 ∧ ∃ ba st, p = some ⟨ba, 0, none⟩ ∧ builtG s.g = some st ∧ AutX w.heap.size w' s ba st))) := by
  refine ret_mono (build_calls s w hS hT) ?_
  rintro v w' ⟨he, ⟨h1, rfl⟩ | ⟨h1, h2, rfl⟩ | ⟨h1, s2, ba, sA, sc, sts, h2, h3, h4, rfl⟩⟩
  · exact ⟨_, _, _, rfl, he, .inl ⟨h1, rfl, rfl, rfl, by unfold builtG; rw [if_neg h1]⟩⟩
  · exact ⟨_, _, _, rfl, he, .inr (.inl ⟨h1, rfl, rfl, rfl, by unfold builtG; rw [if_pos h1, h2]⟩)⟩
  · exact ⟨_, _, _, rfl, he, .inr (.inr ⟨h1, rfl, rfl, ba, _, rfl, by unfold builtG; rw [if_pos h1, h2], ⟨⟨s2, sA, sc, sts, rfl, h3, h4⟩, Aut.of h1 h2⟩⟩)⟩
theorem buildR_calls3 (s : SP) (w : World) (hS : SpR w s) : Calls Tryz.prog 47 #[(.agg #[(.slice s.lA s.lex.length s.lc), (.slice s.nA s.names.length s.nc), (.int .i64 s.start), (.slice s.pA s.prods.length s.pc)])] w (Ret fun v w' => ∃ (r : Option Addr) (at9 code : Int), v = .tuple #[.pointer r, .int .i64 at9, .int .i64 code] ∧ Ext w w' ∧ ((¬ (checkE s.g).1 = 0 ∧ r = none ∧ at9 = (checkE s.g).2 ∧ code = (checkE s.g).1) ∨ ((checkE s.g).1 = 0 ∧ buildG s.g = none ∧ r = none ∧ at9 = 0 ∧ code = 80) ∨ ((checkE s.g).1 = 0 ∧ ∃ rb st, buildG s.g = some st ∧ RefX w' s rb st ∧ r = some ⟨rb, 0, none⟩ ∧ at9 = 0 ∧ code = 0))) := by
  refine ret_mono (buildR_calls s w hS) ?_
  rintro v w' ⟨he, ⟨h1, rfl⟩ | ⟨h1, h2, rfl⟩ | ⟨h1, rb, st, h2, h3, rfl⟩⟩
  · exact ⟨_, _, _, rfl, he, .inl ⟨h1, rfl, rfl, rfl⟩⟩
  · exact ⟨_, _, _, rfl, he, .inr (.inl ⟨h1, h2, rfl, rfl, rfl⟩)⟩
  · exact ⟨_, _, _, rfl, he, .inr (.inr ⟨h1, rb, st, h2, h3, rfl, rfl, rfl⟩)⟩
instance pf_38 : PlF Tryz.prog 38 := ⟨by kernel_rfl⟩
instance pf_47 : PlF Tryz.prog 47 := ⟨by kernel_rfl⟩
instance tU_45 : UnP Tryz.prog 45 89 := ⟨by kernel_rfl⟩
theorem both_calls (s : SP) (w : World) (hS : SpR w s) (hT : TabP w) :
    Calls Tryz.prog 16 #[(.agg #[(.slice s.lA s.lex.length s.lc), (.slice s.nA s.names.length s.nc), (.int .i64 s.start), (.slice s.pA s.prods.length s.pc)])] w (Ret (fun v w' => ∃ (p r : Option Addr), v = .tuple #[.pointer p, .pointer r, .bool true] ∧ Ext w w' ∧ ((builtG s.g = none ∧ p = none ∧ r = none) ∨ ∃ s1 ba st rb, s1.g = s.g ∧ builtG s.g = some st ∧ (∃ B, w.heap.size ≤ B ∧ AutX B w' s1 ba st) ∧ RefX w' s rb st ∧ p = some ⟨ba, 0, none⟩ ∧ r = some ⟨rb, 0, none⟩))) := by
 refine calls_y (n := 54) Tryz.func16 ?_
 refine go ?_
 refine y_bx ?_
 intro w1 e1 z1 b1
 refine go ?_
 refine y_lN (vs := [(.slice s.lA s.lex.length s.lc), (.slice s.nA s.names.length s.nc), (.int .i64 s.start), (.slice s.pA s.prods.length s.pc)]) ⟨b1.cell rfl, b1.cell rfl, b1.cell rfl, b1.cell rfl, trivial⟩ ?_
 refine yCa (ret_mono (lend_calls s w1 (hS.ext e1)) ?_)
 rintro _ w2 ⟨s1, rfl, hL, e2⟩
 have he2 := e2.size
 have x1 : Ext w w2 := (Ext.trans e1 e2)
 have hLs : SpR w2 s1 := LendR.spr hL (hS.ext x1)
 have hLg : s1.g = s.g := LendR.g hL
 refine y_al ?_
 intro w3 e3 z2 b2
 refine y_st b2 ?_
 intro w4 e4 z3 b3
 replace b3 : Blk w4 w2.heap.size #[(.slice s1.lA s1.lex.length s1.lc), (.slice s1.nA s1.names.length s1.nc), (.int .i64 s1.start), (.slice s1.pA s1.prods.length s1.pc)] 26 := blk_full b3 rfl
 refine go ?_
 refine y_lN (vs := [(.slice s1.lA s1.lex.length s1.lc), (.slice s1.nA s1.names.length s1.nc), (.int .i64 s1.start), (.slice s1.pA s1.prods.length s1.pc)]) ⟨b3.cell rfl, b3.cell rfl, b3.cell rfl, b3.cell rfl, trivial⟩ ?_
 have x2 : Ext w2 w4 := (Ext.chg1 e3 e4 (by omega))
 have x3 : Ext w w4 := (Ext.chg1 (Ext.trans x1 e3) e4 (by omega))
 refine yCa (ret_mono ((by have h9 := build_calls3 s1 w4 (SpR.ext hLs x2) (TabIs.ext hT x3); rw [hLg] at h9; exact h9)) ?_)
 rintro _ w5 ⟨p, k, a, rfl, e5, hb1⟩
 have he5 := e5.size
 refine go ?_
 refine y_al ?_
 intro w6 e6 z4 b4
 refine go ?_
 refine y_st b4 ?_
 intro w7 e7 z5 b5
 replace b5 : Blk w7 w5.heap.size #[(.int .i64 k), (.int .i64 a), (.string (⟨#[]⟩))] 75 := blk_full b5 rfl
 have q1 := (((b1.ext e2).ext e3).keep1 e4 (by have _q := b1.lt; omega))
 have q2 := (((q1.ext e5).ext e6).keep1 e7 (((q1.ext e5).ext e6).ne b4 (by decide)))
 refine go ?_
 refine y_lN (vs := [(.slice s.lA s.lex.length s.lc), (.slice s.nA s.names.length s.nc), (.int .i64 s.start), (.slice s.pA s.prods.length s.pc)]) ⟨q2.cell rfl, q2.cell rfl, q2.cell rfl, q2.cell rfl, trivial⟩ ?_
 have x4 : Ext w w7 := (Ext.chg1 (Ext.trans (Ext.trans x3 e5) e6) e7 (by omega))
 refine yCa (ret_mono (buildR_calls3 s w7 (hS.ext x4)) ?_)
 rintro _ w8 ⟨r, at9, code, rfl, e8, hb2⟩
 have he8 := e8.size
 refine go ?_
 rcases hb1 with ⟨hc1, rfl, rfl, rfl, hn1⟩ | ⟨hc1, rfl, rfl, rfl, hn1⟩ | ⟨hc1, rfl, rfl, ba, st, rfl, hg1, hX1⟩
 ·
  rcases hb2 with ⟨hc2, rfl, rfl, rfl⟩ | ⟨hc2, hn2, rfl, rfl, rfl⟩ | ⟨hc2, rb, st2, hg2, hX2, rfl, rfl, rfl⟩
  ·
   refine go ?_
   refine y_lN (vs := [(.int .i64 ((checkE s.g).1)), (.int .i64 ((checkE s.g).2)), (.string (⟨#[]⟩))]) ⟨(b5.ext e8).cell rfl, (b5.ext e8).cell rfl, (b5.ext e8).cell rfl, trivial⟩ ?_
   refine go ?_
   refine yOp (ox_mkStruct (ps := [(0, (.int .i64 ((checkE s.g).1))), (1, (.int .i64 ((checkE s.g).2)))]) (cs := #[(.int .i64 ((checkE s.g).1)), (.int .i64 ((checkE s.g).2)), (.string (⟨#[]⟩))]) tZ_75.h tP_75.h rfl (by kernel_rfl) ?_)
   refine yOp (ox_eqlF (xs := [(.int .i64 ((checkE s.g).1)), (.int .i64 ((checkE s.g).2)), (.string (⟨#[]⟩))]) (ys := [(.int .i64 ((checkE s.g).1)), (.int .i64 ((checkE s.g).2)), (.string (⟨#[]⟩))]) (p := (((checkE s.g).1 : Int) = ((checkE s.g).1) ∧ ((checkE s.g).2 : Int) = ((checkE s.g).2) ∧ (⟨#[]⟩ : ByteArray) = (⟨#[]⟩))) fS_75 rfl rfl rfl rfl (by simp) ?_)
   refine go ?_
   refine ysL (s := 30) (bT (by simp : decide ((((checkE s.g).1 : Int) = ((checkE s.g).1) ∧ ((checkE s.g).2 : Int) = ((checkE s.g).2) ∧ (⟨#[]⟩ : ByteArray) = (⟨#[]⟩))) = true)) ?_
   refine go ?_
   refine yOp (ox_eqlNil (p := none) (q := none) tU_28.h rfl rfl (.inr rfl) ?_)
   refine go ?_
   refine yOp (ox_eqlNil (p := none) (q := none) tU_45.h rfl rfl (.inr rfl) ?_)
   refine yOp (ox_eqlBool (a := ((decide ((none : Option Addr) = none)))) (b := ((decide ((none : Option Addr) = none)))) tU_4 rfl rfl ?_)
   refine go ?_
   refine ysL (s := 37) (bT (decide_eq_true (by simp))) ?_
   have q3 := (((b3.ext e5).ext e6).keep1 e7 (((b3.ext e5).ext e6).ne b4 (by decide)))
   refine y_lN (vs := [(.slice s1.lA s1.lex.length s1.lc), (.slice s1.nA s1.names.length s1.nc), (.int .i64 s1.start), (.slice s1.pA s1.prods.length s1.pc)]) ⟨(q3.ext e8).cell rfl, (q3.ext e8).cell rfl, (q3.ext e8).cell rfl, (q3.ext e8).cell rfl, trivial⟩ ?_
   refine y_lN (vs := [(.slice s.lA s.lex.length s.lc), (.slice s.nA s.names.length s.nc), (.int .i64 s.start), (.slice s.pA s.prods.length s.pc)]) ⟨(q2.ext e8).cell rfl, (q2.ext e8).cell rfl, (q2.ext e8).cell rfl, (q2.ext e8).cell rfl, trivial⟩ ?_
   have x5 : Ext w2 w8 := (Ext.trans (Ext.chg1 (Ext.trans (Ext.trans x2 e5) e6) e7 (by omega)) e8)
   have x6 : Ext w w8 := (Ext.trans x4 e8)
   refine yCa (ret_mono (keptSpec_calls _ s s1 w8 (LendR.ext hL x5) (hS.ext x6)) ?_)
   rintro _ w9 ⟨rfl, e9⟩
   have he9 := e9.size
   refine go ?_
   refine yOp (ox_eqlNil (p := none) (q := none) tU_28.h rfl rfl (.inr rfl) ?_)
   refine go ?_
   refine ysL (s := 45) (bT (decide_eq_true rfl)) ?_
   refine go ?_
   refine y_r3 ?_
   have x7 : Ext w w9 := (Ext.trans x6 e9)
   exact ⟨none, none, rfl, x7, .inl ⟨hn1, rfl, rfl⟩⟩
  ·
   exact absurd hc2 hc1
  ·
   exact absurd hc2 hc1
 ·
  rcases hb2 with ⟨hc2, rfl, rfl, rfl⟩ | ⟨hc2, hn2, rfl, rfl, rfl⟩ | ⟨hc2, rb, st2, hg2, hX2, rfl, rfl, rfl⟩
  ·
   exact absurd hc1 hc2
  ·
   refine go ?_
   refine y_lN (vs := [(.int .i64 80), (.int .i64 0), (.string (⟨#[]⟩))]) ⟨(b5.ext e8).cell rfl, (b5.ext e8).cell rfl, (b5.ext e8).cell rfl, trivial⟩ ?_
   refine go ?_
   refine yOp (ox_mkStruct (ps := [(0, (.int .i64 80)), (1, (.int .i64 0))]) (cs := #[(.int .i64 80), (.int .i64 0), (.string (⟨#[]⟩))]) tZ_75.h tP_75.h rfl (by kernel_rfl) ?_)
   refine yOp (ox_eqlF (xs := [(.int .i64 80), (.int .i64 0), (.string (⟨#[]⟩))]) (ys := [(.int .i64 80), (.int .i64 0), (.string (⟨#[]⟩))]) (p := ((80 : Int) = 80 ∧ (0 : Int) = 0 ∧ (⟨#[]⟩ : ByteArray) = (⟨#[]⟩))) fS_75 rfl rfl rfl rfl (by simp) ?_)
   refine go ?_
   refine ysL (s := 30) (bT (by simp : decide (((80 : Int) = 80 ∧ (0 : Int) = 0 ∧ (⟨#[]⟩ : ByteArray) = (⟨#[]⟩))) = true)) ?_
   refine go ?_
   refine yOp (ox_eqlNil (p := none) (q := none) tU_28.h rfl rfl (.inr rfl) ?_)
   refine go ?_
   refine yOp (ox_eqlNil (p := none) (q := none) tU_45.h rfl rfl (.inr rfl) ?_)
   refine yOp (ox_eqlBool (a := ((decide ((none : Option Addr) = none)))) (b := ((decide ((none : Option Addr) = none)))) tU_4 rfl rfl ?_)
   refine go ?_
   refine ysL (s := 37) (bT (decide_eq_true (by simp))) ?_
   have q4 := (((b3.ext e5).ext e6).keep1 e7 (((b3.ext e5).ext e6).ne b4 (by decide)))
   refine y_lN (vs := [(.slice s1.lA s1.lex.length s1.lc), (.slice s1.nA s1.names.length s1.nc), (.int .i64 s1.start), (.slice s1.pA s1.prods.length s1.pc)]) ⟨(q4.ext e8).cell rfl, (q4.ext e8).cell rfl, (q4.ext e8).cell rfl, (q4.ext e8).cell rfl, trivial⟩ ?_
   refine y_lN (vs := [(.slice s.lA s.lex.length s.lc), (.slice s.nA s.names.length s.nc), (.int .i64 s.start), (.slice s.pA s.prods.length s.pc)]) ⟨(q2.ext e8).cell rfl, (q2.ext e8).cell rfl, (q2.ext e8).cell rfl, (q2.ext e8).cell rfl, trivial⟩ ?_
   have x8 : Ext w2 w8 := (Ext.trans (Ext.chg1 (Ext.trans (Ext.trans x2 e5) e6) e7 (by omega)) e8)
   have x9 : Ext w w8 := (Ext.trans x4 e8)
   refine yCa (ret_mono (keptSpec_calls _ s s1 w8 (LendR.ext hL x8) (hS.ext x9)) ?_)
   rintro _ w10 ⟨rfl, e10⟩
   have he10 := e10.size
   refine go ?_
   refine yOp (ox_eqlNil (p := none) (q := none) tU_28.h rfl rfl (.inr rfl) ?_)
   refine go ?_
   refine ysL (s := 45) (bT (decide_eq_true rfl)) ?_
   refine go ?_
   refine y_r3 ?_
   have x10 : Ext w w10 := (Ext.trans x9 e10)
   exact ⟨none, none, rfl, x10, .inl ⟨hn1, rfl, rfl⟩⟩
  ·
   exfalso; unfold builtG at hn1; rw [if_pos hc1] at hn1; simp_all
 ·
  rcases hb2 with ⟨hc2, rfl, rfl, rfl⟩ | ⟨hc2, hn2, rfl, rfl, rfl⟩ | ⟨hc2, rb, st2, hg2, hX2, rfl, rfl, rfl⟩
  ·
   exact absurd hc1 hc2
  ·
   exfalso; unfold builtG at hg1; rw [if_pos hc1] at hg1; simp_all
  ·
   have hst9 : st = st2 := Option.some.inj (hg1.symm.trans (by unfold builtG; rw [if_pos hc2]; exact hg2))
   subst hst9
   refine go ?_
   refine y_lN (vs := [(.int .i64 0), (.int .i64 0), (.string (⟨#[]⟩))]) ⟨(b5.ext e8).cell rfl, (b5.ext e8).cell rfl, (b5.ext e8).cell rfl, trivial⟩ ?_
   refine go ?_
   refine yOp (ox_mkStruct (ps := [(0, (.int .i64 0)), (1, (.int .i64 0))]) (cs := #[(.int .i64 0), (.int .i64 0), (.string (⟨#[]⟩))]) tZ_75.h tP_75.h rfl (by kernel_rfl) ?_)
   refine yOp (ox_eqlF (xs := [(.int .i64 0), (.int .i64 0), (.string (⟨#[]⟩))]) (ys := [(.int .i64 0), (.int .i64 0), (.string (⟨#[]⟩))]) (p := ((0 : Int) = 0 ∧ (0 : Int) = 0 ∧ (⟨#[]⟩ : ByteArray) = (⟨#[]⟩))) fS_75 rfl rfl rfl rfl (by simp) ?_)
   refine go ?_
   refine ysL (s := 30) (bT (by simp : decide (((0 : Int) = 0 ∧ (0 : Int) = 0 ∧ (⟨#[]⟩ : ByteArray) = (⟨#[]⟩))) = true)) ?_
   refine go ?_
   refine yOp (ox_eqlNil (p := (some ⟨ba, 0, none⟩ : Option Addr)) (q := none) tU_28.h rfl rfl (.inr rfl) ?_)
   refine go ?_
   refine yOp (ox_eqlNil (p := (some ⟨rb, 0, none⟩ : Option Addr)) (q := none) tU_45.h rfl rfl (.inr rfl) ?_)
   refine yOp (ox_eqlBool (a := ((decide ((some ⟨ba, 0, none⟩ : Option Addr) = none)))) (b := ((decide ((some ⟨rb, 0, none⟩ : Option Addr) = none)))) tU_4 rfl rfl ?_)
   refine go ?_
   refine ysL (s := 37) (bT (decide_eq_true (by simp))) ?_
   have q5 := (((b3.ext e5).ext e6).keep1 e7 (((b3.ext e5).ext e6).ne b4 (by decide)))
   refine y_lN (vs := [(.slice s1.lA s1.lex.length s1.lc), (.slice s1.nA s1.names.length s1.nc), (.int .i64 s1.start), (.slice s1.pA s1.prods.length s1.pc)]) ⟨(q5.ext e8).cell rfl, (q5.ext e8).cell rfl, (q5.ext e8).cell rfl, (q5.ext e8).cell rfl, trivial⟩ ?_
   refine y_lN (vs := [(.slice s.lA s.lex.length s.lc), (.slice s.nA s.names.length s.nc), (.int .i64 s.start), (.slice s.pA s.prods.length s.pc)]) ⟨(q2.ext e8).cell rfl, (q2.ext e8).cell rfl, (q2.ext e8).cell rfl, (q2.ext e8).cell rfl, trivial⟩ ?_
   have x11 : Ext w2 w8 := (Ext.trans (Ext.chg1 (Ext.trans (Ext.trans x2 e5) e6) e7 (by omega)) e8)
   have x12 : Ext w w8 := (Ext.trans x4 e8)
   refine yCa (ret_mono (keptSpec_calls _ s s1 w8 (LendR.ext hL x11) (hS.ext x12)) ?_)
   rintro _ w11 ⟨rfl, e11⟩
   have he11 := e11.size
   refine go ?_
   refine yOp (ox_eqlNil (p := (some ⟨ba, 0, none⟩ : Option Addr)) (q := none) tU_28.h rfl rfl (.inr rfl) ?_)
   refine go ?_
   refine ysL (s := 45) (bF (decide_eq_false (by simp))) ?_
   refine go ?_
   refine yCa (ret_mono (all_calls ba w11) ?_)
   rintro _ w12 ⟨b6, rfl, hb1, _, e12⟩
   have he12 := e12.size
   have hhb19 := hb1.lt
   refine yOp (ox_neqFnil tU_68 rfl rfl ?_)
   refine go ?_
   refine y_r3 ?_
   have x13 : Ext w w12 := (Ext.trans (Ext.trans x12 e11) e12)
   have x14 : Ext w5 w12 := (Ext.trans (Ext.trans (Ext.trans (Ext.chg1 e6 e7 (by omega)) e8) e11) e12)
   have x15 : Ext w8 w12 := (Ext.trans e11 e12)
   exact ⟨_, _, rfl, x13, .inr ⟨s1, ba, st, rb, hLg, hg1, ⟨_, by omega, (AutX.ext hX1 x14)⟩, (RefX.ext hX2 x15), rfl, rfl⟩⟩
def SP.cs (s : SP) : List Value := [.slice s.lA s.lex.length s.lc, .slice s.nA s.names.length s.nc, .int .i64 s.start, .slice s.pA s.prods.length s.pc]
theorem SP.len (x : SP) : x.cs.length = 4 := rfl
def SpL (w : World) (l : List SP) : Prop := ∀ x ∈ l, SpR w x
theorem Aut.subS {g : GD} {st : List ASt} (h : Aut g st) : ∀ x ∈ st, ∀ a ∈ x.arcs, a.sym ∈ symbolsG g := fun x hx a ha => by
  obtain ⟨k, hk⟩ := List.mem_iff_getElem?.1 hx
  have h1 := h.arcs k x hk
  rw [symsG_as h.good.good (fun y hy => (h.ok.ok x hx y hy).1)] at h1
  have h2 : a.sym ∈ x.arcs.map Arc.sym := List.mem_map_of_mem ha
  rw [h1] at h2
  exact (List.mem_filter.1 h2).1
theorem Aut.symN {g : GD} {st : List ASt} (h : Aut g st) : (symbolsG g).length ≤ 1000000000 := by
  have h1 := symbolsG_len g
  have h2 := h.good.triv
  have h3 := h.good.names
  omega
theorem itemsS_len {g : GD} {st : List ASt} (h : Aut g st) (i : Int) : (itemsS st i).length ≤ 8796093022208 := by
  cases hi : isS st i with
  | false => unfold itemsS; rw [if_neg (by rw [hi]; decide)]; exact Nat.zero_le _
  | true =>
    obtain ⟨h1, h2⟩ := isS_rng hi
    obtain ⟨x, hx⟩ := get_ex (l := st) (i := i.toNat) (by omega)
    have h3 : i = ((i.toNat : Nat) : Int) := by omega
    rw [h3, itemsS_at hx]
    have := (h.lens x (List.mem_of_getElem? hx)).1; omega
theorem kernS_len {g : GD} {st : List ASt} (h : Aut g st) (i : Int) : (kernS st i).length ≤ 8796093022208 := by
  cases hi : isS st i with
  | false => unfold kernS; rw [if_neg (by rw [hi]; decide)]; exact Nat.zero_le _
  | true =>
    obtain ⟨h1, h2⟩ := isS_rng hi
    obtain ⟨x, hx⟩ := get_ex (l := st) (i := i.toNat) (by omega)
    have h3 : i = ((i.toNat : Nat) : Int) := by omega
    rw [h3, kernS_at hx]
    have h4 := kern_len h hx
    have := (h.lens x (List.mem_of_getElem? hx)).1; omega
theorem pathS_len {g : GD} {st : List ASt} (h : Aut g st) (i : Int) : (pathS st i).length ≤ 8796093022208 := by
  cases hi : isS st i with
  | false => rw [path_no h (.inr hi)]; exact Nat.zero_le _
  | true =>
    obtain ⟨h1, h2⟩ := isS_rng hi
    obtain ⟨x, hx⟩ := get_ex (l := st) (i := i.toNat) (by omega)
    have h3 : i = ((i.toNat : Nat) : Int) := by omega
    have h4 := path_le h i.toNat x hx
    have h5 := h.few
    rw [h3]; omega
theorem refx_kern {w : World} {s : SP} {rb : Nat} {st : List ASt} (h : RefX w s rb st) (i : Int)  : Calls Tryz.prog 43 #[.pointer (some ⟨rb, 0, none⟩), .int .i64 i] w (Ret (fun v w' => ∃ A c, v = .slice A (kernS st i).length c ∧ RowA w' A ((kernS st i).flatMap Itm.cs) ∧ Ext w w')) := by
  have hsub := h.aut.subS
  have hyn := h.aut.symN
  have hbig := h.aut.big
  have haut := h.aut
  obtain ⟨⟨yA, yc, stA, stc, sts, h1, h2, h3, h4, h5⟩, h6, h7⟩ := h
  exact kernelR_calls s rb yA yc (symbolsG s.g) stA stc sts st i w h1 h5 hbig h2 h3 h4
theorem refx_items {w : World} {s : SP} {rb : Nat} {st : List ASt} (h : RefX w s rb st) (i : Int)  : Calls Tryz.prog 50 #[.pointer (some ⟨rb, 0, none⟩), .int .i64 i] w (Ret (fun v w' => ∃ A c, v = .slice A (itemsS st i).length c ∧ RowA w' A ((itemsS st i).flatMap Itm.cs) ∧ Ext w w')) := by
  have hsub := h.aut.subS
  have hyn := h.aut.symN
  have hbig := h.aut.big
  have haut := h.aut
  obtain ⟨⟨yA, yc, stA, stc, sts, h1, h2, h3, h4, h5⟩, h6, h7⟩ := h
  exact itemsR_calls s rb yA yc (symbolsG s.g) stA stc sts st i w h1 h5 hbig h2 h3 h4
theorem refx_path {w : World} {s : SP} {rb : Nat} {st : List ASt} (h : RefX w s rb st) (i : Int)  : Calls Tryz.prog 51 #[.pointer (some ⟨rb, 0, none⟩), .int .i64 i] w (Ret (fun v w' => ∃ A' c', v = .slice A' (pathS st i).length c' ∧ NewRow w w' 32 2 Sym.cs (pathS st i) A' c' ∧ Ext w w')) := by
  have hsub := h.aut.subS
  have hyn := h.aut.symN
  have hbig := h.aut.big
  have haut := h.aut
  obtain ⟨⟨yA, yc, stA, stc, sts, h1, h2, h3, h4, h5⟩, h6, h7⟩ := h
  exact pathR_calls s rb yA yc (symbolsG s.g) stA stc sts st i w h1 h5 hbig h2 h3 h4 haut
theorem refx_sym {w : World} {s : SP} {rb : Nat} {st : List ASt} (h : RefX w s rb st) (i : Int)  : Calls Tryz.prog 49 #[.pointer (some ⟨rb, 0, none⟩), .int .i64 i] w (Ret (fun v w' => v = .tuple #[.agg #[.int .i64 (symS st i).1.kind, .int .i64 (symS st i).1.n], .bool (symS st i).2] ∧ Ext w w')) := by
  have hsub := h.aut.subS
  have hyn := h.aut.symN
  have hbig := h.aut.big
  have haut := h.aut
  obtain ⟨⟨yA, yc, stA, stc, sts, h1, h2, h3, h4, h5⟩, h6, h7⟩ := h
  exact symbolR8_calls s rb yA yc (symbolsG s.g) stA stc sts st i w h1 h5 hbig h2 h3 h4
theorem refx_go {w : World} {s : SP} {rb : Nat} {st : List ASt} (h : RefX w s rb st) (i : Int) (z : Sym)  : Calls Tryz.prog 20 #[.pointer (some ⟨rb, 0, none⟩), .int .i64 i, .agg #[.int .i64 z.kind, .int .i64 z.n]] w (Ret (fun v w' => v = .int .i64 (goS st i z) ∧ Ext w w')) := by
  have hsub := h.aut.subS
  have hyn := h.aut.symN
  have hbig := h.aut.big
  have haut := h.aut
  obtain ⟨⟨yA, yc, stA, stc, sts, h1, h2, h3, h4, h5⟩, h6, h7⟩ := h
  exact goR_calls s rb yA yc (symbolsG s.g) stA stc sts st i z w h1 h5 hbig h2 h3 h4 hsub hyn
theorem refx_print {w : World} {s : SP} {rb : Nat} {st : List ASt} (h : RefX w s rb st)  (hT : TabP w) : Calls Tryz.prog 42 #[.pointer (some ⟨rb, 0, none⟩)] w (Ret (fun v w' => v = .string ⟨(printS st).toArray⟩ ∧ Ext w w')) := by
  have hsub := h.aut.subS
  have hyn := h.aut.symN
  have hbig := h.aut.big
  have haut := h.aut
  obtain ⟨⟨yA, yc, stA, stc, sts, h1, h2, h3, h4, h5⟩, h6, h7⟩ := h
  exact printR_calls s rb yA yc (symbolsG s.g) stA stc sts st  w h1 h5 hbig h2 h3 h4 haut rfl hT
instance pf_43 : PlF Tryz.prog 43 := ⟨by kernel_rfl⟩
instance pf_49 : PlF Tryz.prog 49 := ⟨by kernel_rfl⟩
instance pf_50 : PlF Tryz.prog 50 := ⟨by kernel_rfl⟩
instance pf_51 : PlF Tryz.prog 51 := ⟨by kernel_rfl⟩
theorem state_calls (B : Nat) (s s1 : SP) (ba rb : Nat) (st : List ASt) (i : Int) (w : World) (hA : AutX B w s1 ba st) (hR : RefX w s rb st) :
    Calls Tryz.prog 21 #[(.pointer (some ⟨ba, 0, none⟩)), (.pointer (some ⟨rb, 0, none⟩)), (.int .i64 i)] w (Ret (fun v w' => v = .bool true ∧ Ext w w')) := by
 have hR_ := hR
 have haut := hR.aut
 have hlens := haut
 have hyn := haut.symN
 obtain ⟨⟨yA, yc, stA, stc, sts, hb, hy, ho, hF, hRel⟩, hsp, _⟩ := hR
 refine calls_y (n := 92) Tryz.func21 ?_
 refine go ?_
 refine yCa (ret_mono (autx_sym hA i) ?_)
 rintro _ w1 ⟨rfl, e1⟩
 have he1 := e1.size
 refine go ?_
 refine y_al ?_
 intro w2 e2 z1 b1
 refine y_st b1 ?_
 intro w3 e3 z2 b2
 replace b2 : Blk w3 w1.heap.size #[(.int .i64 ((symS st i).1.kind)), (.int .i64 ((symS st i).1.n))] 32 := blk_full b2 rfl
 have x1 : Ext w w3 := (Ext.chg1 (Ext.trans e1 e2) e3 (by omega))
 refine go ?_
 refine yCa (ret_mono (refx_sym (RefX.ext hR_ x1) i) ?_)
 rintro _ w4 ⟨rfl, e4⟩
 have he4 := e4.size
 refine go ?_
 refine y_al ?_
 intro w5 e5 z3 b3
 refine y_st b3 ?_
 intro w6 e6 z4 b4
 replace b4 : Blk w6 w4.heap.size #[(.int .i64 ((symS st i).1.kind)), (.int .i64 ((symS st i).1.n))] 32 := blk_full b4 rfl
 have q1 := (((b2.ext e4).ext e5).keep1 e6 (by have _q := b2.lt; omega))
 refine go ?_
 refine y_lN (vs := [(.int .i64 ((symS st i).1.kind)), (.int .i64 ((symS st i).1.n))]) ⟨q1.cell rfl, q1.cell rfl, trivial⟩ ?_
 refine y_lN (vs := [(.int .i64 ((symS st i).1.kind)), (.int .i64 ((symS st i).1.n))]) ⟨b4.cell rfl, b4.cell rfl, trivial⟩ ?_
 refine yOp (ox_neqF (xs := [(.int .i64 ((symS st i).1.kind)), (.int .i64 ((symS st i).1.n))]) (ys := [(.int .i64 ((symS st i).1.kind)), (.int .i64 ((symS st i).1.n))]) (p := (((symS st i).1.kind : Int) = ((symS st i).1.kind) ∧ ((symS st i).1.n : Int) = ((symS st i).1.n))) fS_32 rfl rfl rfl rfl (by simp) ?_)
 refine go ?_
 refine ysL (s := 27) (bF (by simp : (!decide ((((symS st i).1.kind : Int) = ((symS st i).1.kind) ∧ ((symS st i).1.n : Int) = ((symS st i).1.n)))) = false)) ?_
 refine go ?_
 refine yOp (ox_neqBool (a := (((symS st i).2))) (b := (((symS st i).2))) tU_4 rfl rfl ?_)
 refine go ?_
 refine ysL (s := 32) (bF (decide_eq_false (by simp))) ?_
 have x2 : Ext w w6 := (Ext.chg1 (Ext.trans (Ext.trans x1 e4) e5) e6 (by omega))
 refine go ?_
 refine yCa (ret_mono (autx_kern (AutX.ext hA x2) i) ?_)
 rintro _ w7 ⟨A1, c1, rfl, hn1, e7⟩
 have he7 := e7.size
 have x3 : Ext w3 w7 := (Ext.trans (Ext.chg1 (Ext.trans e4 e5) e6 (by omega)) e7)
 refine go ?_
 refine yCa (ret_mono (refx_kern (RefX.ext (RefX.ext hR_ x1) x3) i) ?_)
 rintro _ w8 ⟨A2, c2, rfl, hn2, e8⟩
 have he8 := e8.size
 refine yCa (ret_mono (sameItems_calls (kernS st i) (kernS st i) A1 A2 c1 c2 w8 (Own.rowO (hn1.1.ext e8)) hn2 (kernS_len hlens _)) ?_)
 rintro _ w9 ⟨rfl, e9⟩
 have he9 := e9.size
 refine go ?_
 refine ysL (s := 42) (bF (congrArg (fun b : Bool => !b) (decide_eq_true rfl))) ?_
 have x4 : Ext w6 w9 := (Ext.trans (Ext.trans e7 e8) e9)
 refine go ?_
 refine yCa (ret_mono (autx_items (AutX.ext (AutX.ext hA x2) x4) i) ?_)
 rintro _ w10 ⟨A3, c3, rfl, hn3, e10⟩
 have he10 := e10.size
 have x5 : Ext w7 w10 := (Ext.trans (Ext.trans e8 e9) e10)
 refine go ?_
 refine yCa (ret_mono (refx_items (RefX.ext (RefX.ext (RefX.ext hR_ x1) x3) x5) i) ?_)
 rintro _ w11 ⟨A4, c4, rfl, hn4, e11⟩
 have he11 := e11.size
 refine yCa (ret_mono (sameItems_calls (itemsS st i) (itemsS st i) A3 A4 c3 c4 w11 (Own.rowO (hn3.1.ext e11)) hn4 (itemsS_len hlens _)) ?_)
 rintro _ w12 ⟨rfl, e12⟩
 have he12 := e12.size
 refine go ?_
 refine ysL (s := 52) (bF (congrArg (fun b : Bool => !b) (decide_eq_true rfl))) ?_
 have x6 : Ext w9 w12 := (Ext.trans (Ext.trans e10 e11) e12)
 refine go ?_
 refine yCa (ret_mono (autx_path (AutX.ext (AutX.ext (AutX.ext hA x2) x4) x6) i) ?_)
 rintro _ w13 ⟨A5, c5, rfl, hn5, e13⟩
 have he13 := e13.size
 have x7 : Ext w10 w13 := (Ext.trans (Ext.trans e11 e12) e13)
 refine go ?_
 refine yCa (ret_mono (refx_path (RefX.ext (RefX.ext (RefX.ext (RefX.ext hR_ x1) x3) x5) x7) i) ?_)
 rintro _ w14 ⟨A6, c6, rfl, hn6, e14⟩
 have he14 := e14.size
 refine yCa (ret_mono (sameSyms_calls (pathS st i) (pathS st i) A5 A6 c5 c6 w14 (Own.rowO (hn5.1.ext e14)) (Own.rowO hn6.1) (pathS_len haut _)) ?_)
 rintro _ w15 ⟨rfl, e15⟩
 have he15 := e15.size
 refine go ?_
 refine ysC (s := 61) (bF (congrArg (fun b : Bool => !b) (decide_eq_true rfl))) ?_
 refine go ?_
 refine xc_loopN (fun m_ f_ Wx => ∃ (k : Nat), m_ = (symbolsG s.g).length - k ∧ (k ≤ (symbolsG s.g).length) ∧ f_ 0 = (.pointer (some ⟨ba, 0, none⟩)) ∧ f_ 1 = (.pointer (some ⟨rb, 0, none⟩)) ∧ f_ 2 = (.int .i64 i) ∧ f_ 11 = (.int .i64 ((k : Nat))) ∧ Ext w15 Wx) ((symbolsG s.g).length) ?_ ?_
 ·
  exact ⟨0, (by omega), (by omega), rfl, rfl, rfl, vW, (Chg.refl _ _)⟩
 ·
  rintro m_ f1 w16 ⟨k, hm_f1, hk, g0_f1, g1_f1, g2_f1, g11_f1, x8⟩
  have hx8 := x8.size
  rw [← usf g0_f1, ← usf g1_f1, ← usf g2_f1, ← usf g11_f1]
  have q2 := (((hb.ext e1).ext e2).keep1 e3 (((hb.ext e1).ext e2).ne b1 (by decide)))
  have q3 := (((q2.ext e4).ext e5).keep1 e6 (((q2.ext e4).ext e5).ne b3 (by decide)))
  have q4 := (((((q3.ext e7).ext e8).ext e9).ext e10).ext e11)
  have q5 := ((((q4.ext e12).ext e13).ext e14).ext e15)
  refine go ?_
  refine y_ld (q5.ext x8) ?_
  refine go ?_
  refine y_if (fun h1 => ?_) (fun h1 => ?_)
  ·
   refine go ?_
   refine xc_regionE [] (fun W_ => Chg (fun _ => False) w16 W_) hmix ?_
   intro w17 e16 z5
   have hS1 : Chg (fun _ => False) w16 w17 := Ext.to e16
   refine yDp 0 ?_
   refine yDp 1 ?_
   refine yDp 2 ?_
   refine yDp 3 ?_
   refine yDp 4 ?_
   refine yDt (i := 5) rfl hS1 (fun W_ hW_ => ox_load tA_33.h rfl (((q5.ext x8).ext hW_).cell rfl) ⟨rfl, rfl⟩) ?_
   refine yDp 6 ?_
   have x9 : Ext w w16 := (Ext.trans (Ext.trans (Ext.trans (Ext.trans (Ext.trans (Ext.trans (Ext.trans (Ext.trans (Ext.trans (Ext.trans x2 e7) e8) e9) e10) e11) e12) e13) e14) e15) x8)
   obtain ⟨x_1, g_1, o_1, hx_1⟩ := row_may (A := yA) (cs := Sym.cs) k Sym.len (by decide) (RowA.ext hy x9)
   obtain ⟨hx_2, hA_1, hc_1⟩ := hx_1 oM
   refine yDx (i := 7) k hA_1 ?_
   refine yDt (i := 8) rfl hS1 (fun W_ hW_ => ox_loadN (vs := [(.int .i64 x_1.kind), (.int .i64 x_1.n)]) tA_32.h tS_32.h rfl rfl (CellsL.keep hW_ not_false hc_1) ⟨rfl, rfl⟩) ?_
   refine yDp 10 ?_
   refine yDp 11 ?_
   refine yDp 12 ?_
   refine yDp 13 ?_
   refine yDp 14 ?_
   refine yDt (i := 15) rfl hS1 (fun W_ hW_ => ox_load tA_33.h rfl (((q5.ext x8).ext hW_).cell rfl) ⟨rfl, rfl⟩) ?_
   refine yDp 16 ?_
   refine yDx (i := 17) k hA_1 ?_
   refine yDt (i := 18) rfl hS1 (fun W_ hW_ => ox_loadN (vs := [(.int .i64 x_1.kind), (.int .i64 x_1.n)]) tA_32.h tS_32.h rfl rfl (CellsL.keep hW_ not_false hc_1) ⟨rfl, rfl⟩) ?_
   have x10 : Ext w12 w17 := (Ext.trans (Ext.trans (Ext.trans (Ext.trans e13 e14) e15) x8) e16)
   refine yD1 (i := 9) rfl (yCx (ret_mono (autx_go (AutX.ext (AutX.ext (AutX.ext (AutX.ext hA x2) x4) x6) x10) i (⟨x_1.kind, x_1.n⟩ : Sym)) ?_))
   rintro _ w18 ⟨rfl, e17⟩
   have he17 := e17.size
   have hS2 : Chg (fun _ => False) w16 w18 := Chg.ext hS1 e17
   refine ⟨.inr fun _ => hS2, ?_⟩
   have x11 : Ext w13 w18 := (Ext.trans (Ext.trans (Ext.trans (Ext.trans e14 e15) x8) e16) e17)
   have q6 := (RefX.ext (RefX.ext (RefX.ext (RefX.ext (RefX.ext hR_ x1) x3) x5) x7) x11)
   refine yD1 (i := 19) rfl (yCx (ret_mono (refx_go q6 i (⟨x_1.kind, x_1.n⟩ : Sym)) ?_))
   rintro _ w19 ⟨rfl, e18⟩
   have he18 := e18.size
   have hS3 : Chg (fun _ => False) w16 w19 := Chg.ext hS2 e18
   refine ⟨.inr fun _ => hS3, ?_⟩
   refine yDp 20 ?_
   refine xd_done (by kernel_rfl) ?_ _
   refine go ?_
   refine ysC (s := 91) (bF (by simp : decide ((goS st i (⟨x_1.kind, x_1.n⟩ : Sym) : Int) ≠ (goS st i (⟨x_1.kind, x_1.n⟩ : Sym))) = false)) ?_
   refine go ?_
   refine y_add ?_
   have x12 : Ext w15 w19 := (Ext.trans (Ext.trans (Ext.trans x8 e16) e17) e18)
   refine go ?_
   exact ⟨rfl, (symbolsG s.g).length - (k + 1), by omega, k + 1, by omega, (by omega), rfl, rfl, rfl, vW, x12⟩
  ·
   refine go ?_
   refine y_r1 ?_
   have x13 : Ext w w16 := (Ext.trans (Ext.trans (Ext.trans (Ext.trans (Ext.trans (Ext.trans (Ext.trans (Ext.trans (Ext.trans (Ext.trans x2 e7) e8) e9) e10) e11) e12) e13) e14) e15) x8)
   exact ⟨rfl, x13⟩
instance pf_16 : PlF Tryz.prog 16 := ⟨by kernel_rfl⟩
instance pf_21 : PlF Tryz.prog 21 := ⟨by kernel_rfl⟩
structure RgI (w : World) (nb : Nat) (v : Int) (Y : Nat → Prop) (W : World) : Prop where
  blk : Blk W nb #[.int .i64 v] 3
  yl : ∀ b, Y b → w.heap.size ≤ b
  chg : Chg1 nb w W
theorem RgI.stab {w : World} {nb : Nat} {v : Int} {Y Y2 : Nat → Prop} {W W2 : World} (hnb : nb < w.heap.size) (h : RgI w nb v Y W) (hc : Chg Y W W2) (hY2 : ∀ b, Y2 b → Y b ∨ W.heap.size ≤ b) : RgI w nb v Y2 W2 :=
  ⟨h.blk.keep hc fun hy => by have := h.yl _ hy; omega, fun b hb => (hY2 b hb).elim (h.yl b) fun h2 => by have := h.chg.size; omega, Chg.trans h.chg hc fun b hb hl => absurd hl (by have := h.yl b hb; omega)⟩
def rgJ (w : World) (nb : Nat) (pre : List Nat) (Y : Nat → Prop) (W : World) : Prop := RgI w nb ((pre.length : Nat) : Int) Y W
theorem rgJ_stab {B : Nat} {w : World} {nb : Nat} (hnb : nb < w.heap.size) : Stab B (rgJ w nb) := fun _ _ _ _ _ _ h hc hY2 => RgI.stab hnb h hc hY2
theorem mark_lt {w : World} {D : Nat} {d : Option (List Deferred)} (h : w.heap[D]? = some (.deferred d)) : D < w.heap.size := (Array.getElem?_eq_some_iff.1 h).1
theorem mark_keep {K : Nat → Prop} {w w' : World} {D : Nat} {d : Option (List Deferred)} (h : w.heap[D]? = some (.deferred d)) (c : Chg K w w') (hk : ¬ K D) : w'.heap[D]? = some (.deferred d) := (c.keep D (mark_lt h) hk).trans h
instance pf_32 : PlF Tryz.prog 32 := ⟨by kernel_rfl⟩
instance pf_42 : PlF Tryz.prog 42 := ⟨by kernel_rfl⟩
instance tA_45 : AggF Tryz.prog 45 := ⟨by kernel_rfl⟩
instance tE_79 : SlT Tryz.prog 79 (26, 4, 80, (.agg #[(.slice none 0 0), (.slice none 0 0), (.int .i64 0), (.slice none 0 0)])) := ⟨by kernel_rfl⟩
instance tS_45 : SzT Tryz.prog 45 1 := ⟨by kernel_rfl⟩
instance tU_79 : UnS Tryz.prog 79 26 := ⟨by kernel_rfl⟩
instance tZ_45 : ZrT Tryz.prog 45 (.pointer none) := ⟨by kernel_rfl⟩
theorem builds_calls (gA : Option Addr) (gc : Nat) (sps : List SP) (w : World) (hT : TabP w) (hg : RowA w gA (sps.flatMap SP.cs)) (hSp : SpL w sps) (hgl : sps.length ≤ 8796093022208) :
    Calls Tryz.prog 8 #[(.slice gA sps.length gc)] w (Ret (fun v w' => v = .bool true ∧ Ext w w')) := by
 refine calls_y (n := 88) Tryz.func8 ?_
 refine go ?_
 refine xc_loopD (fun m_ f_ ds_ Wx => ∃ (i : Nat) (Ds : List Nat), m_ = sps.length - i ∧ (i ≤ sps.length) ∧ (ds_ = List.map dmark Ds) ∧ f_ 0 = (.slice gA sps.length gc) ∧ f_ 3 = (.int .i64 ((i : Nat))) ∧ ((∀ D ∈ Ds, w.heap.size ≤ D ∧ Wx.heap[D]? = some (.deferred (some [])))) ∧ Ds.Nodup ∧ Ext w Wx) (sps.length) ?_ ?_
 ·
  exact ⟨0, [], (by omega), (by omega), rfl, rfl, vW, (by simp), List.nodup_nil, (Chg.refl _ _)⟩
 ·
  rintro m_ f1 _ w1 ⟨i, Ds, hm_f1, hi, rfl, g0_f1, g3_f1, t0_f1, t1_f1, x1⟩
  have hx1 := x1.size
  rw [← usf g0_f1, ← usf g3_f1]
  refine go ?_
  refine y_if (fun h1 => ?_) (fun h1 => ?_)
  ·
   obtain ⟨x_1, g_1, o_1, hx_1⟩ := row_may (A := gA) (cs := SP.cs) i SP.len (by decide) (RowA.ext hg x1)
   obtain ⟨hx_2, hA_1, hc_1⟩ := hx_1 oM
   have hS_x_1 : SpR w x_1 := hSp _ (List.mem_of_getElem? hx_2)
   refine go ?_
   refine y_ix i hA_1 ?_
   refine y_lN (vs := [(.slice x_1.lA x_1.lex.length x_1.lc), (.slice x_1.nA x_1.names.length x_1.nc), (.int .i64 x_1.start), (.slice x_1.pA x_1.prods.length x_1.pc)]) hc_1 ?_
   refine yCa (ret_mono (both_calls x_1 w1 (hS_x_1.ext x1) (TabIs.ext hT x1)) ?_)
   rintro _ w2 ⟨p1, r1, rfl, e1, hb1⟩
   have he1 := e1.size
   refine go ?_
   refine y_al ?_
   intro w3 e2 z1 b1
   refine go ?_
   refine y_st b1 ?_
   intro w4 e3 z2 b2
   replace b2 : Blk w4 w2.heap.size #[(.pointer r1)] 45 := b2
   refine go ?_
   rcases hb1 with ⟨hn_, rfl, rfl⟩ | ⟨s1_, ba_, st_, rb_, hg1_, hbu_, ⟨B_, hB_, hX_⟩, hRX_, rfl, rfl⟩
   ·
    refine go ?_
    refine yOp (ox_eqlNil (p := none) (q := none) tU_28.h rfl rfl (.inr rfl) ?_)
    refine go ?_
    refine ysL (s := 30) (bT (decide_eq_true rfl)) ?_
    refine go ?_
    refine y_add ?_
    have x2 : Ext w1 w4 := (Ext.chg1 (Ext.trans e1 e2) e3 (by omega))
    have x3 : Ext w w4 := (Ext.chg1 (Ext.trans (Ext.trans x1 e1) e2) e3 (by omega))
    refine go ?_
    exact ⟨sps.length - (i + 1), by omega, i + 1, Ds, by omega, (by omega), rfl, rfl, vW, (fun D' hD' => ⟨(t0_f1 D' hD').1, mark_keep (t0_f1 D' hD').2 x2 not_false⟩), t1_f1, x3⟩
   ·
    have haut := hRX_.aut
    have hlens := haut
    have hbig := haut.big
    have x4 : Ext w2 w4 := (Ext.chg1 e2 e3 (by omega))
    obtain ⟨⟨yA, yc, stA, stc, sts, hbR, hyR, hoR, hFR, hRel⟩, _, _⟩ := (RefX.ext hRX_ x4)
    have hRl := hRel.1
    refine go ?_
    refine yOp (ox_eqlNil (p := (some ⟨ba_, 0, none⟩ : Option Addr)) (q := none) tU_28.h rfl rfl (.inr rfl) ?_)
    refine go ?_
    refine ysL (s := 30) (bF (decide_eq_false (by simp))) ?_
    refine y_ld b2 ?_
    refine yOp (ox_eqlNil (p := (some ⟨rb_, 0, none⟩ : Option Addr)) (q := none) tU_45.h rfl rfl (.inr rfl) ?_)
    refine go ?_
    refine ysC (s := 33) (bF (decide_eq_false (by simp))) ?_
    refine go ?_
    refine xc_regionE [] (fun W_ => Chg (fun _ => False) w4 W_) hmix ?_
    intro w5 e4 z3
    have hS1 : Chg (fun _ => False) w4 w5 := Ext.to e4
    refine yDp 0 ?_
    refine yDt (i := 2) rfl hS1 (fun W_ hW_ => ox_load tA_45.h rfl ((b2.ext hW_).cell rfl) ⟨rfl, rfl⟩) ?_
    refine yDp 3 ?_
    refine yDp 4 ?_
    refine yDt (i := 5) rfl hS1 (fun W_ hW_ => ox_load tA_87.h rfl ((hbR.ext hW_).cell rfl) ⟨rfl, rfl⟩) ?_
    refine yDp 6 ?_
    have x5 : Ext w2 w5 := (Ext.trans x4 e4)
    refine yD1 (i := 1) rfl (yCx (ret_mono (autx_len (AutX.ext hX_ x5)) ?_))
    rintro _ w6 ⟨rfl, e5⟩
    have he5 := e5.size
    have hS2 : Chg (fun _ => False) w4 w6 := Chg.ext hS1 e5
    refine ⟨.inr fun _ => hS2, ?_⟩
    refine yDp 7 ?_
    refine yDp 8 ?_
    refine ysD (s := 42) (bF (decide_eq_false (by omega))) ?_
    refine yDp 9 ?_
    refine yDt (i := 11) rfl hS2 (fun W_ hW_ => ox_load tA_45.h rfl ((b2.ext hW_).cell rfl) ⟨rfl, rfl⟩) ?_
    have x6 : Ext w w6 := (Ext.trans (Ext.trans (Ext.chg1 (Ext.trans (Ext.trans x1 e1) e2) e3 (by omega)) e4) e5)
    refine xd_oneW 10 (some 44) rfl rfl (by kernel_rfl) rfl (ox_callE (al := [(.pointer (some ⟨ba_, 0, none⟩))]) pf_32.h rfl (ret_mono (print_calls s1_ B_ ba_ st_ w6 (AutX.ext (AutX.ext hX_ x5) e5) (TabIs.ext hT x6)) ?_))
    rintro _ w7 ⟨rfl, e6⟩
    have he6 := e6.size
    have hS3 : Chg (fun _ => False) w4 w7 := Chg.ext hS2 e6
    refine ⟨.inr fun _ => hS3, ?_⟩
    have x7 : Ext w4 w7 := (Ext.trans (Ext.trans e4 e5) e6)
    have x8 : Ext w w7 := (Ext.trans x6 e6)
    refine xd_oneW 12 (some 46) rfl rfl (by kernel_rfl) rfl (ox_callE (al := [(.pointer (some ⟨rb_, 0, none⟩))]) pf_42.h rfl (ret_mono (refx_print (RefX.ext (RefX.ext hRX_ x4) x7) (TabIs.ext hT x8)) ?_))
    rintro _ w8 ⟨rfl, e7⟩
    have he7 := e7.size
    have hS4 : Chg (fun _ => False) w4 w8 := Chg.ext hS3 e7
    refine ⟨.inr fun _ => hS4, ?_⟩
    refine yDq (i := 13) rfl (fun W_ hW_ => ox_neqStr (a := (⟨(printS st_).toArray⟩)) (b := (⟨(printS st_).toArray⟩)) tU_9 rfl rfl ⟨rfl, rfl⟩) ?_
    refine yDp 14 ?_
    refine xd_done (by kernel_rfl) ?_ _
    refine go ?_
    refine ysC (s := 48) (bF (by simp : decide ((⟨(printS st_).toArray⟩ : ByteArray) ≠ ⟨(printS st_).toArray⟩) = false)) ?_
    refine go ?_
    refine xc_loopN (fun m_ f_ Wx => ∃ (k : Nat), m_ = st_.length + 2 - k ∧ (k ≤ st_.length + 2) ∧ f_ 0 = (.slice gA sps.length gc) ∧ f_ 3 = (.int .i64 ((i : Nat))) ∧ f_ 11 = (.int .i64 ((i : Nat))) ∧ f_ 12 = (.slice gA sps.length gc) ∧ f_ 13 = (.int .i64 (((sps.length : Nat) : Int))) ∧ f_ 14 = (.bool (decide (((i : Nat) : Int) < (((sps.length : Nat) : Int))))) ∧ f_ 18 = (.slice gA sps.length gc) ∧ f_ 19 = (.int .i64 ((i : Nat))) ∧ f_ 20 = (.pointer (some ⟨g_1, o_1 + i * 4, none⟩)) ∧ f_ 21 = (.agg #[(.slice x_1.lA x_1.lex.length x_1.lc), (.slice x_1.nA x_1.names.length x_1.nc), (.int .i64 x_1.start), (.slice x_1.pA x_1.prods.length x_1.pc)]) ∧ f_ 22 = (.tuple #[(.pointer (some ⟨ba_, 0, none⟩)), (.pointer (some ⟨rb_, 0, none⟩)), (.bool true)]) ∧ f_ 17 = (.tuple #[(.pointer (some ⟨ba_, 0, none⟩)), (.pointer (some ⟨rb_, 0, none⟩)), (.bool true)]) ∧ f_ 23 = (.pointer (some ⟨ba_, 0, none⟩)) ∧ f_ 24 = (.pointer (some ⟨rb_, 0, none⟩)) ∧ f_ 25 = (.bool true) ∧ f_ 5 = (.pointer (some ⟨w2.heap.size, 0, none⟩)) ∧ f_ 4 = (.pointer (some ⟨ba_, 0, none⟩)) ∧ f_ 6 = (.bool true) ∧ f_ 26 = (.bool true) ∧ f_ 27 = (.bool false) ∧ f_ 28 = (.pointer (some ⟨ba_, 0, none⟩)) ∧ f_ 29 = (.bool (decide ((some ⟨ba_, 0, none⟩ : Option Addr) = none))) ∧ f_ 30 = (.bool false) ∧ f_ 31 = (.pointer (some ⟨rb_, 0, none⟩)) ∧ f_ 32 = (.bool (decide ((some ⟨rb_, 0, none⟩ : Option Addr) = none))) ∧ f_ 33 = (.bool false) ∧ f_ 34 = (.pointer (some ⟨ba_, 0, none⟩)) ∧ f_ 36 = (.pointer (some ⟨rb_, 0, none⟩)) ∧ f_ 37 = (.pointer (some ⟨rb_, 0, none⟩)) ∧ f_ 38 = (.pointer (some ⟨rb_, 5, none⟩)) ∧ f_ 39 = (.slice stA sts.length stc) ∧ f_ 40 = (.int .i64 (((sts.length : Nat) : Int))) ∧ f_ 35 = (.int .i64 ((st_.length : Nat))) ∧ f_ 41 = (.bool (decide (((st_.length : Nat) : Int) ≠ (((sts.length : Nat) : Int))))) ∧ f_ 42 = (.bool false) ∧ f_ 43 = (.pointer (some ⟨ba_, 0, none⟩)) ∧ f_ 45 = (.pointer (some ⟨rb_, 0, none⟩)) ∧ f_ 44 = (.string (⟨(printS st_).toArray⟩)) ∧ f_ 46 = (.string (⟨(printS st_).toArray⟩)) ∧ f_ 47 = (.bool (decide ((⟨(printS st_).toArray⟩ : ByteArray) ≠ ⟨(printS st_).toArray⟩))) ∧ f_ 48 = (.bool false) ∧ f_ 7 = (.int .i64 (((k : Nat) : Int) - 1)) ∧ Ext w8 Wx) (st_.length + 2) ?_ ?_
    ·
     exact ⟨0, (by omega), (by omega), rfl, rfl, rfl, rfl, rfl, rfl, rfl, rfl, rfl, rfl, rfl, rfl, rfl, rfl, rfl, rfl, rfl, rfl, rfl, rfl, rfl, rfl, rfl, rfl, rfl, rfl, rfl, rfl, rfl, rfl, rfl, rfl, rfl, rfl, rfl, rfl, rfl, rfl, rfl, rfl, rfl, vW, (Chg.refl _ _)⟩
    ·
     rintro m_ f2 w9 ⟨k, hm_f2, hk, g0_f2, g3_f2, g11_f2, g12_f2, g13_f2, g14_f2, g18_f2, g19_f2, g20_f2, g21_f2, g22_f2, g17_f2, g23_f2, g24_f2, g25_f2, g5_f2, g4_f2, g6_f2, g26_f2, g27_f2, g28_f2, g29_f2, g30_f2, g31_f2, g32_f2, g33_f2, g34_f2, g36_f2, g37_f2, g38_f2, g39_f2, g40_f2, g35_f2, g41_f2, g42_f2, g43_f2, g45_f2, g44_f2, g46_f2, g47_f2, g48_f2, g7_f2, x9⟩
     have hx9 := x9.size
     rw [← usf g0_f2, ← usf g3_f2, ← usf g11_f2, ← usf g12_f2, ← usf g13_f2, ← usf g14_f2, ← usf g18_f2, ← usf g19_f2, ← usf g20_f2, ← usf g21_f2, ← usf g22_f2, ← usf g17_f2, ← usf g23_f2, ← usf g24_f2, ← usf g25_f2, ← usf g5_f2, ← usf g4_f2, ← usf g6_f2, ← usf g26_f2, ← usf g27_f2, ← usf g28_f2, ← usf g29_f2, ← usf g30_f2, ← usf g31_f2, ← usf g32_f2, ← usf g33_f2, ← usf g34_f2, ← usf g36_f2, ← usf g37_f2, ← usf g38_f2, ← usf g39_f2, ← usf g40_f2, ← usf g35_f2, ← usf g41_f2, ← usf g42_f2, ← usf g43_f2, ← usf g45_f2, ← usf g44_f2, ← usf g46_f2, ← usf g47_f2, ← usf g48_f2, ← usf g7_f2]
     have q1 := (((((b2.ext e4).ext e5).ext e6).ext e7).ext x9)
     refine go ?_
     refine y_ld q1 ?_
     have q2 := (((((hbR.ext e4).ext e5).ext e6).ext e7).ext x9)
     refine go ?_
     refine y_ld q2 ?_
     refine go ?_
     refine y_if (fun h2 => ?_) (fun h2 => ?_)
     ·
      refine go ?_
      refine y_ld q1 ?_
      have x10 : Ext w6 w9 := (Ext.trans (Ext.trans e6 e7) x9)
      have x11 : Ext w7 w9 := (Ext.trans e7 x9)
      refine go ?_
      refine yCa (ret_mono (state_calls B_ x_1 s1_ ba_ rb_ st_ (((k : Nat) : Int) - 1) w9 (AutX.ext (AutX.ext (AutX.ext hX_ x5) e5) x10) (RefX.ext (RefX.ext (RefX.ext hRX_ x4) x7) x11)) ?_)
      rintro _ w10 ⟨rfl, e8⟩
      have he8 := e8.size
      refine go ?_
      refine y_add ?_
      have x12 : Ext w8 w10 := (Ext.trans x9 e8)
      refine go ?_
      exact ⟨rfl, st_.length + 2 - (k + 1), by omega, k + 1, by omega, (by omega), rfl, rfl, rfl, rfl, rfl, rfl, rfl, rfl, rfl, rfl, rfl, rfl, rfl, rfl, rfl, rfl, rfl, rfl, rfl, rfl, rfl, rfl, rfl, rfl, rfl, rfl, rfl, rfl, rfl, rfl, rfl, rfl, rfl, rfl, rfl, rfl, rfl, rfl, rfl, rfl, rfl, vW, x12⟩
     ·
      refine go ?_
      refine y_al ?_
      intro w11 e9 z4 b3
      refine y_st b3 ?_
      intro w12 e10 z5 b4
      replace b4 : Blk w12 w9.heap.size #[(.int .i64 0)] 3 := b4
      refine go ?_
      refine yCa (ret_mono (all_calls ba_ w12) ?_)
      rintro _ w13 ⟨bx, rfl, hbx, hbxe, e11⟩
      have he11 := e11.size
      have hbxl := hbx.lt
      have q3 := (AutX.ext (AutX.ext (AutX.ext hX_ x5) e5) e6)
      have x13 : Ext w9 w13 := (Ext.trans (Ext.chg1 e9 e10 (by omega)) e11)
      obtain ⟨nb, hnbe⟩ : ∃ b, b = w9.heap.size := ⟨_, rfl⟩
      have hnb : Blk w13 nb #[.int .i64 0] 3 := by rw [hnbe]; exact (b4.ext e11)
      have hnbl : nb < w12.heap.size := by have := (b4).lt; omega
      have hBX : ∀ b, b = bx → nb ≤ b ∧ b < w13.heap.size := fun b hb => by rw [hb]; omega
      have hit := all_iter (X := fun b => b = bx) (B := nb) hbx (AutX.ext (AutX.ext q3 e7) x9) (by omega) (Ext.to x13) (.inl rfl) hBX (by omega)
      have hI0 : rgJ w12 nb [] (fun b => b = bx) w13 := (⟨hnb, fun b hb => by rw [hb]; omega, (Chg.ext (Chg.refl (fun x => x = nb) w12) e11)⟩ : RgI w12 nb 0 (fun b => b = bx) w13)
      refine go ?_
      refine xc_rangeE (ps := #[65, 66]) (α := Nat) (gf := 54) (lb := #[.pointer (some ⟨bx, 0, none⟩)]) (R := allR st_) (B := nb) (X0 := fun b => b = bx) (xs := List.range st_.length) rfl pf_54.h allR_size allR_cells hit (by omega) hBX (rgJ w12 nb) (fun _ _ _ _ => False) (rgJ_stab hnbl) (fun _ _ _ _ _ _ _ h => h.elim) hI0 ?_ ?_ ?_
      ·
       intro l₁ pre₁ x₁ as₁ Y Wr9 hpre hY hYl hl₁ hRx hRX hI
       obtain ⟨Ak, ck, rfl, hok⟩ := hRx
       have hx1 := range_pre hpre
       have hxl : x₁ < st_.length := hx1.2
       have hpl : pre₁.length = x₁ := by rw [hx1.1, List.length_range]
       refine go ?_
       refine ⟨rfl, rfl, Chg.refl _ _, fun W2 hcY hsY hlY => ?_⟩
       have hszY := hcY.size
       have hI2 : RgI w12 nb ((pre₁.length : Nat) : Int) Y W2 := rgJ_stab (B := nb) hnbl _ _ _ _ _ hY hI hcY (fun b hb => .inl hb)
       rw [hpl] at hI2
       have hK2 := hI2.chg.size
       have hok2 : RowA W2 Ak ((kernS st_ (x₁ : Nat)).flatMap Itm.cs) := Own.rowO (hok.keep hcY fun k hk => (hRX k ⟨_, by simp, hk⟩).1)
       refine ysC (s := 8) (v := (.pointer (some ⟨nb, 0, none⟩))) (by rw [hnbe]; exact rfl) ?_
       refine go ?_
       refine y_ld hI2.blk ?_
       refine go ?_
       refine ysL (s := 70) (bF (by simp : decide (((x₁ : Nat) : Int) ≠ ((x₁ : Nat))) = false)) ?_
       have q4 := ((q1.ext e9).keep1 e10 ((q1.ext e9).ne b3 (by decide)))
       have q5 := (q4.keep1 hI2.chg (by have _q := b2.lt; omega))
       refine go ?_
       refine y_ld q5 ?_
       refine y_ld hI2.blk ?_
       have x14 : Ext w7 W2 := (Ext.chg1 (Ext.chg1 (Ext.trans (Ext.trans e7 x9) e9) e10 (by omega)) hI2.chg (by omega))
       refine yCa (ret_mono (refx_kern (RefX.ext (RefX.ext (RefX.ext hRX_ x4) x7) x14) ((x₁ : Nat))) ?_)
       rintro _ w14 ⟨A1, c1, rfl, hn1, e12⟩
       have he12 := e12.size
       refine yCa (ret_mono (sameItems_calls (kernS st_ (x₁ : Nat)) (kernS st_ ((x₁ : Nat))) Ak A1 ck c1 w14 (RowA.ext hok2 e12) hn1 (kernS_len hlens _)) ?_)
       rintro _ w15 ⟨rfl, e13⟩
       have he13 := e13.size
       refine go ?_
       refine ysC (s := 77) (bF (congrArg (fun b : Bool => !b) (decide_eq_true rfl))) ?_
       refine go ?_
       refine y_ld ((hI2.blk.ext e12).ext e13) ?_
       refine y_add ?_
       refine y_st ((hI2.blk.ext e12).ext e13) ?_
       intro w16 e14 z6 b5
       replace b5 : Blk w16 nb #[(.int .i64 ((x₁ : Nat) + 1))] 3 := b5
       refine go ?_
       refine ⟨(Chg.chg1 (Chg.ext (Chg.ext (Chg.refl (fun b => ¬ Y b ∧ nb ≤ b) W2) e12) e13) e14 (.inl ⟨fun h => by have := hI2.yl _ h; omega, Nat.le_refl _⟩)), ?_⟩
       show RgI w12 nb (((pre₁ ++ [x₁]).length : Nat) : Int) Y w16
       rw [show (((pre₁ ++ [x₁]).length : Nat) : Int) = ((x₁ : Nat) : Int) + 1 by simp [hpl]]
       exact ⟨b5, hI2.yl, (Chg.trans (Chg.ext (Chg.ext (Chg.trans (Chg.refl (fun x => x = nb) w12) hI2.chg (fun b hb hl => hb)) e12) e13) e14 (fun b hb hl => hb))⟩
      ·
       intro D Y Wd9 hD hY hYD hI hheap
       have hI9 : RgI w12 nb (((List.range st_.length).length : Nat) : Int) Y Wd9 := hI
       rw [List.length_range] at hI9
       have hK9 := hI9.chg.size
       refine ysC (s := 8) (v := (.pointer (some ⟨nb, 0, none⟩))) (by rw [hnbe]; exact rfl) ?_
       refine go ?_
       refine xc_regionE [] (fun W_ => Chg (fun _ => False) Wd9 W_) hmix ?_
       intro w17 e15 z7
       have hS5 : Chg (fun _ => False) Wd9 w17 := Ext.to e15
       refine yDt (i := 0) rfl hS5 (fun W_ hW_ => ox_load tA_3.h rfl ((hI9.blk.ext hW_).cell rfl) ⟨rfl, rfl⟩) ?_
       have q6 := ((q1.ext e9).keep1 e10 ((q1.ext e9).ne b3 (by decide)))
       have q7 := (q6.keep1 hI9.chg (by have _q := b2.lt; omega))
       refine yDt (i := 1) rfl hS5 (fun W_ hW_ => ox_load tA_45.h rfl ((q7.ext hW_).cell rfl) ⟨rfl, rfl⟩) ?_
       refine yDp 2 ?_
       refine yDp 3 ?_
       have q8 := ((q2.ext e9).keep1 e10 ((q2.ext e9).ne b3 (by decide)))
       have q9 := (q8.keep1 hI9.chg (by have _q := hbR.lt; omega))
       refine yDt (i := 4) rfl hS5 (fun W_ hW_ => ox_load tA_87.h rfl ((q9.ext hW_).cell rfl) ⟨rfl, rfl⟩) ?_
       refine yDp 5 ?_
       refine yDp 6 ?_
       refine xd_done (by kernel_rfl) ?_ _
       refine go ?_
       refine ysC (s := 86) (bF (decide_eq_false (by omega))) ?_
       refine go ?_
       refine y_add ?_
       have x15 : Ext w1 w17 := (Ext.trans (Ext.chg1 (Ext.chg1 (Ext.trans (Ext.trans (Ext.trans (Ext.trans (Ext.trans (Ext.trans (Ext.chg1 (Ext.trans e1 e2) e3 (by omega)) e4) e5) e6) e7) x9) e9) e10 (by omega)) hI9.chg (by omega)) e15)
       have hmd1 : ∀ D' ∈ D :: Ds, w.heap.size ≤ D' ∧ w17.heap[D']? = some (.deferred (some [])) := by
         intro D' hD'; rcases List.mem_cons.1 hD' with h9 | hD'
         · subst h9; exact ⟨by omega, mark_keep hheap e15 not_false⟩
         · exact ⟨(t0_f1 D' hD').1, mark_keep (t0_f1 D' hD').2 x15 not_false⟩
       have x16 : Ext w w17 := (Ext.trans (Ext.chg1 (Ext.chg1 (Ext.trans (Ext.trans (Ext.trans x8 e7) x9) e9) e10 (by omega)) hI9.chg (by omega)) e15)
       refine go ?_
       exact ⟨sps.length - (i + 1), by omega, i + 1, D :: Ds, by omega, (by omega), rfl, rfl, vW, hmd1, (List.nodup_cons.2 ⟨fun h9 => by have := mark_lt (t0_f1 D h9).2; omega, t1_f1⟩), x16⟩
      ·
       intro D Y c pre W hD hY hYD hpre hI hheap; exact hI.elim
  ·
   refine go ?_
   refine yCa (ret_mono (known_calls w1 (TabIs.ext hT x1)) ?_)
   rintro _ w18 ⟨rfl, e16⟩
   have he16 := e16.size
   refine go ?_
   change leaves _ _ _ _ _ _ _
   refine leaves_marks Ds _ (fun D hD => mark_keep (t0_f1 D hD).2 e16 not_false) t1_f1 (fun w9 hc9 hs9 => ?_)
   refine y_r1 ?_
   have x17 : Ext w w9 := (Chg.trans (Ext.trans x1 e16) hc9 (fun b hb hl => absurd hl (by have _h := (t0_f1 b hb).1; omega)))
   exact ⟨rfl, x17⟩
end Go.Proofs.YtnnmdkglgnlenaaGreatDoor
