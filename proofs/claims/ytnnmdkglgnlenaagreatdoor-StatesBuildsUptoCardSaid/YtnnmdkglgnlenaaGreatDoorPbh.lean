/-
  Part 8 of the proof: texts St Su Sp Tr Sv Wa Sa. No conditions.
-/
import Derived.Test.YtnnmdkglgnlenaaGreatDoorRows
import Derived.Test.YtnnmdkglgnlenaaGreatDoorPbf
import Derived.Test.YtnnmdkglgnlenaaGreatDoorPbg
set_option linter.unusedVariables false
set_option linter.unusedSimpArgs false
set_option linter.unusedSectionVars false
set_option maxRecDepth 100000
set_option maxHeartbeats 4000000
namespace Go.Proofs.YtnnmdkglgnlenaaGreatDoor
open Go Go.RowKit Go.Vx
mutual
def exN : EX → Nat
  | .mk _ _ _ _ _ _ _ l => 1 + exNL l
def exNL : List EX → Nat
  | [] => 0
  | e :: r => exN e + exNL r
end
theorem exNL_app : ∀ a b : List EX, exNL (a ++ b) = exNL a + exNL b
  | [], b => by simp [exNL]
  | e :: a, b => by simp only [List.cons_append, exNL, exNL_app a b]; omega
theorem exN_list (e : EX) : exN e = 1 + exNL e.list := by cases e; rfl
theorem exNL_flat : ∀ l : List EX, exNL (l.flatMap EX.list) + l.length = exNL l
  | [] => rfl
  | e :: r => by rw [List.flatMap_cons, exNL_app, List.length_cons, exNL, exN_list e]; have := exNL_flat r; omega
theorem exNL_next {l : List EX} (h : l ≠ []) : exNL (l.flatMap EX.list) < exNL l := by
  have h1 := exNL_flat l; have h2 := List.length_pos_iff.2 h; omega
def gCnt : List EX → Int → Option Int
  | [], c => some c
  | e :: r, c => if 4096 < c + (e.list.length : Int) then none else gCnt r (c + (e.list.length : Int))
def gLev : Nat → List EX → Int → Int → Int
  | 0, _, _, _ => 0
  | f + 1, l, c, d => match gCnt l c with
    | none => 2
    | some c' => if l.flatMap EX.list = [] then (if 64 < d then 5 else 0) else gLev f (l.flatMap EX.list) c' (d + 1)
def guardE (e : EX) : Int := gLev (exNL [e] + 1) [e] 1 1
def flatE (e : EX) : Bool := decide (guardE e = 0)
theorem gCnt_next {l : List EX} {c : Int} {i : Nat} {x : EX} (h : l[i]? = some x) (hc : ¬ (4096 < c + (x.list.length : Int))) : gCnt (l.drop i) c = gCnt (l.drop (i + 1)) (c + (x.list.length : Int)) := by rw [drop_get h, gCnt, if_neg hc]
theorem gCnt_long {l : List EX} {c : Int} {i : Nat} {x : EX} (h : l[i]? = some x) (hc : 4096 < c + (x.list.length : Int)) : gCnt (l.drop i) c = none := by rw [drop_get h, gCnt, if_pos hc]
theorem gLev_long {l : List EX} {c d : Int} {f : Nat} (h : gCnt l c = none) : gLev (f + 1) l c d = 2 := by rw [gLev, h]
theorem gLev_end {l : List EX} {c c' d : Int} {f : Nat} (h : gCnt l c = some c') (hn : l.flatMap EX.list = []) : gLev (f + 1) l c d = if 64 < d then 5 else 0 := by rw [gLev, h]; simp only; rw [if_pos hn]
theorem gLev_more : ∀ (k : Nat) (l : List EX) (c d : Int), exNL l < k → gLev k l c d = gLev (exNL l + 1) l c d
  | 0, _, _, _, h => by omega
  | k + 1, l, c, d, h => by
    simp only [gLev]
    cases gCnt l c with
    | none => rfl
    | some c' =>
      simp only
      by_cases hn : l.flatMap EX.list = []
      · rw [if_pos hn, if_pos hn]
      · rw [if_neg hn, if_neg hn]
        have hl : l ≠ [] := fun h0 => hn (by rw [h0]; rfl)
        have h1 := exNL_next hl
        rw [gLev_more k _ _ _ (by omega), gLev_more (exNL l) _ _ _ h1]
  termination_by k => k
theorem gLev_next {l : List EX} {c c' d : Int} (h : gCnt l c = some c') (hn : l.flatMap EX.list ≠ []) : gLev (exNL l + 1) l c d = gLev (exNL (l.flatMap EX.list) + 1) (l.flatMap EX.list) c' (d + 1) := by
  have hl : l ≠ [] := fun h0 => hn (by rw [h0]; rfl)
  rw [gLev, h]; simp only; rw [if_neg hn]
  exact gLev_more _ _ _ _ (exNL_next hl)
instance pf_111 : PlF Tryz.prog 111 := ⟨by kernel_rfl⟩
instance tA_62 : AggF Tryz.prog 62 := ⟨by kernel_rfl⟩
instance tA_64 : AggT Tryz.prog 64 := ⟨by kernel_rfl⟩
instance tF_64_5 : FdT Tryz.prog 64 5 5 := ⟨by kernel_rfl⟩
instance tS_64 : SzT Tryz.prog 64 6 := ⟨by kernel_rfl⟩
theorem guard_calls (e : EX) (w : World) (hE : ExR w e) :
    Calls Tryz.prog 111 #[(.agg #[(.int .i64 e.kind), (.int .i64 e.frm), (.int .i64 e.to), (.int .i64 e.min), (.int .i64 e.max), (.slice e.A e.list.length e.c)])] w (Ret (fun v w' => v = .int .i64 (guardE e) ∧ Ext w w')) := by
 refine calls_y (n := 41) Tryz.func111 ?_
 refine go ?_
 refine y_bx ?_
 intro w1 e1 z1 b1
 refine go ?_
 refine y_lN (vs := [(.int .i64 e.kind), (.int .i64 e.frm), (.int .i64 e.to), (.int .i64 e.min), (.int .i64 e.max), (.slice e.A e.list.length e.c)]) ⟨b1.cell rfl, b1.cell rfl, b1.cell rfl, b1.cell rfl, b1.cell rfl, b1.cell rfl, trivial⟩ ?_
 refine yOp (ox_mkSlice (ps := [(0, (.agg #[(.int .i64 e.kind), (.int .i64 e.frm), (.int .i64 e.to), (.int .i64 e.min), (.int .i64 e.max), (.slice e.A e.list.length e.c)]))]) (zs := #[(.int .i64 0), (.int .i64 0), (.int .i64 0), (.int .i64 0), (.int .i64 0), (.slice none 0 0)]) (cs := #[(.int .i64 e.kind), (.int .i64 e.frm), (.int .i64 e.to), (.int .i64 e.min), (.int .i64 e.max), (.slice e.A e.list.length e.c)]) tE_62.h rfl (by decide) (by kernel_rfl) (by kernel_rfl) ?_)
 intro w2 e2 z2 b2
 replace b2 : Blk w2 w1.heap.size #[(.int .i64 e.kind), (.int .i64 e.frm), (.int .i64 e.to), (.int .i64 e.min), (.int .i64 e.max), (.slice e.A e.list.length e.c)] 64 := b2
 refine go ?_
 refine xc_loopN (fun m_ f_ Wx => ∃ (c : Int) (d : Int) (lv : List EX) (Alv : Option Addr) (clv : Nat), m_ = exNL lv ∧ (guardE e = gLev (exNL lv + 1) lv c d) ∧ (∀ x ∈ lv, ExR w x) ∧ (1 ≤ d ∧ d ≤ c ∧ c ≤ 4096 ∧ (lv.length : Int) ≤ c) ∧ (lv ≠ []) ∧ f_ 4 = (.int .i64 c) ∧ f_ 5 = (.int .i64 d) ∧ f_ 3 = (.slice Alv lv.length clv) ∧ Vx.Own Wx 64 6 (.slice Alv lv.length clv) lv.length (lv.flatMap EX.cs) ∧ (∀ k, ((.slice Alv lv.length clv) : Value).ownBlock = some k → w1.heap.size ≤ k) ∧ Chg (fun b => ((.slice (some ⟨w1.heap.size, 0, none⟩) 1 1) : Value).ownBlock = some b) w2 Wx) (exNL [e]) ?_ ?_
 ·
  exact ⟨1, 1, [e], (some ⟨w1.heap.size, 0, none⟩), 1, (by omega), rfl, (fun x hx => by rw [List.mem_singleton.1 hx]; exact hE), (by simp), (by simp), vW, vW, rfl, (Vx.Own.lit (n := 1) (sz := 6) b2 rfl (by decide)), (fun _k _h => by simp [Value.ownBlock] at _h; omega), (Chg.refl _ _)⟩
 ·
  rintro m_ f1 w3 ⟨c, d, lv, Alv, clv, hm_f1, hq, hlv, hcd, hln, g4_f1, g5_f1, g3_f1, a0_f1, l0_f1, x1⟩
  have hx1 := x1.size
  rw [← usf g4_f1, ← usf g5_f1, ← usf g3_f1]
  refine go ?_
  refine xc_loopN (fun m_ f_ Wx => ∃ (i : Nat) (cn : Int) (nx : List EX) (Anx : Option Addr) (cnx : Nat), m_ = lv.length - i ∧ (i ≤ lv.length) ∧ (gCnt lv c = gCnt (lv.drop i) cn) ∧ (nx = (lv.take i).flatMap EX.list) ∧ (cn = c + (nx.length : Int) ∧ cn ≤ 4096) ∧ f_ 5 = (.int .i64 d) ∧ f_ 3 = (.slice Alv lv.length clv) ∧ f_ 7 = (.int .i64 ((i : Nat))) ∧ f_ 4 = (.int .i64 cn) ∧ f_ 6 = (.slice Anx nx.length cnx) ∧ Vx.Own Wx 64 6 (.slice Anx nx.length cnx) nx.length (nx.flatMap EX.cs) ∧ (∀ k, ((.slice Anx nx.length cnx) : Value).ownBlock = some k → w3.heap.size ≤ k) ∧ Ext w3 Wx) (lv.length) ?_ ?_
  ·
   exact ⟨0, c, [], none, 0, (by omega), (by omega), rfl, (by simp), (by simp; omega), rfl, rfl, vW, vW, rfl, (Vx.Own.nil _ _ _), (fun _k _h => by simp [Value.ownBlock] at _h), (Chg.refl _ _)⟩
  ·
   rintro m_ f2 w4 ⟨i, cn, nx, Anx, cnx, hm_f2, hi, hq2, hnx, hcn, g5_f2, g3_f2, g7_f2, g4_f2, g6_f2, a0_f2, l0_f2, x2⟩
   have hx2 := x2.size
   rw [← usf g5_f2, ← usf g3_f2, ← usf g7_f2, ← usf g4_f2, ← usf g6_f2]
   refine go ?_
   refine y_if (fun h1 => ?_) (fun h1 => ?_)
   ·
    obtain ⟨x_1, g_1, hx_1⟩ := own_may (A := Alv) i EX.len (by decide) (a0_f1.ext x2)
    obtain ⟨hx_2, hA_1, hc_1⟩ := hx_1 oM
    have hfx_x_1 := ((hlv _ (List.mem_of_getElem? hx_2))).row.2.1.by
    refine go ?_
    refine y_ix i hA_1 ?_
    refine go ?_
    refine y_lc (CellsL.at1 hc_1 5 rfl) ?_
    refine go ?_
    refine y_add ?_
    refine go ?_
    refine y_if (fun h2 => ?_) (fun h2 => ?_)
    ·
     refine go ?_
     refine y_r1 ?_
     have x3 : Ext w w4 := (Ext.trans (Chg.trans (Ext.trans e1 e2) x1 (fun b hb hl => (absurd hl (by have _h := (fun _k _h => by simp [Value.ownBlock] at _h; omega) b hb; omega)))) x2)
     exact ⟨by rw [hq, gLev_long (hq2.trans (gCnt_long hx_2 (by omega)))] <;> rfl, x3⟩
    ·
     refine go ?_
     refine y_ix i hA_1 ?_
     refine go ?_
     refine y_lc (CellsL.at1 hc_1 5 rfl) ?_
     have x4 : Ext w w4 := (Ext.trans (Chg.trans (Ext.trans e1 e2) x1 (fun b hb hl => (absurd hl (by have _h := (fun _k _h => by simp [Value.ownBlock] at _h; omega) b hb; omega)))) x2)
     refine yOp (ox_appR (l := nx) (r := x_1.list) (cs := EX.cs) rfl tE_62.h rfl (by decide) EX.len EX.one (v := (.slice Anx nx.length cnx)) rfl rfl a0_f2 (RowA.ext (((hlv _ (List.mem_of_getElem? hx_2))).row.1) x4) (by rw [List.length_append]; omega) (by decide) ?_)
     intro A1 c1 w5 o1 e3 at1 hc1
     have he3 := e3.size
     have low1 : ∀ _k, (Value.slice A1 (nx ++ x_1.list).length c1).ownBlock = some _k → w3.heap.size ≤ _k := fun _k _h => by rcases at1 with _e | _e <;> rw [_e] at _h; exact l0_f2 _k _h; exact (by cases _h; omega)
     refine go ?_
     refine y_add ?_
     have x5 : Ext w3 w5 := (Chg.trans x2 e3 (fun b hb hl => (absurd hl (by have _h := l0_f2 b hb; omega))))
     refine go ?_
     exact ⟨rfl, lv.length - (i + 1), by omega, i + 1, (cn + (((x_1.list.length : Nat) : Int))), nx ++ x_1.list, A1, c1, by omega, (by omega), (hq2.trans (gCnt_next hx_2 (by omega))), (by rw [hnx, take_succ' hx_2, List.flatMap_append, List.flatMap_cons, List.flatMap_nil, List.append_nil]), (by rw [List.length_append]; push_cast; omega), rfl, rfl, vW, vW, rfl, o1, low1, x5⟩
   ·
    have hnx0 : nx = lv.flatMap EX.list := by rw [hnx, List.take_of_length_le (by omega)]
    have hcn0 : gCnt lv c = some cn := by rw [hq2, List.drop_of_length_le (by omega)] <;> rfl
    refine go ?_
    refine y_if (fun h3 => ?_) (fun h3 => ?_)
    ·
     have hne0 : nx = [] := by exact List.length_eq_zero_iff.1 (by omega)
     refine go ?_
     refine y_if (fun h4 => ?_) (fun h4 => ?_)
     ·
      refine go ?_
      refine y_r1 ?_
      have x6 : Ext w w4 := (Ext.trans (Chg.trans (Ext.trans e1 e2) x1 (fun b hb hl => (absurd hl (by have _h := (fun _k _h => by simp [Value.ownBlock] at _h; omega) b hb; omega)))) x2)
      exact ⟨by rw [hq, gLev_end hcn0 (by rw [← hnx0]; exact hne0), if_pos h4] <;> rfl, x6⟩
     ·
      refine go ?_
      refine y_r1 ?_
      have x7 : Ext w w4 := (Ext.trans (Chg.trans (Ext.trans e1 e2) x1 (fun b hb hl => (absurd hl (by have _h := (fun _k _h => by simp [Value.ownBlock] at _h; omega) b hb; omega)))) x2)
      exact ⟨by rw [hq, gLev_end hcn0 (by rw [← hnx0]; exact hne0), if_neg h4] <;> rfl, x7⟩
    ·
     have hne0 : nx ≠ [] := by intro hh; rw [hh] at h3; simp at h3
     refine go ?_
     refine y_add ?_
     have y1 : Chg (fun b => ((.slice (some ⟨w1.heap.size, 0, none⟩) 1 1) : Value).ownBlock = some b) w2 w4 := (Chg.ext (Chg.trans (Chg.refl (fun b => ((.slice (some ⟨w1.heap.size, 0, none⟩) 1 1) : Value).ownBlock = some b) w2) x1 (fun b hb hl => hb)) x2)
     refine go ?_
     exact ⟨rfl, exNL nx, by (rw [hm_f1, hnx0]; exact exNL_next hln), cn, (d + 1), nx, Anx, cnx, by rfl, (hq.trans (by rw [hnx0]; exact gLev_next hcn0 (by rw [← hnx0]; exact hne0))), (fun x hx => by rw [hnx0] at hx; obtain ⟨y, hy, hxy⟩ := List.mem_flatMap.1 hx; exact (hlv y hy).row.2.2 x hxy), (by have _q := List.length_pos_iff.2 hne0; omega), hne0, vW, vW, rfl, a0_f2, (fun k hk => by have _h := l0_f2 k hk; omega), y1⟩
theorem flat_calls (e : EX) (w : World) (hE : ExR w e) :
    Calls Tryz.prog 77 #[(.agg #[(.int .i64 e.kind), (.int .i64 e.frm), (.int .i64 e.to), (.int .i64 e.min), (.int .i64 e.max), (.slice e.A e.list.length e.c)])] w (Ret (fun v w' => v = .bool (flatE e) ∧ Ext w w')) := by
 refine calls_y (n := 8) Tryz.func77 ?_
 refine go ?_
 refine y_bx ?_
 intro w1 e1 z1 b1
 refine go ?_
 refine y_lN (vs := [(.int .i64 e.kind), (.int .i64 e.frm), (.int .i64 e.to), (.int .i64 e.min), (.int .i64 e.max), (.slice e.A e.list.length e.c)]) ⟨b1.cell rfl, b1.cell rfl, b1.cell rfl, b1.cell rfl, b1.cell rfl, b1.cell rfl, trivial⟩ ?_
 refine yCa (ret_mono (guard_calls e w1 (hE.ext e1)) ?_)
 rintro _ w2 ⟨rfl, e2⟩
 have he2 := e2.size
 refine go ?_
 refine y_r1 ?_
 have x1 : Ext w w2 := (Ext.trans e1 e2)
 exact ⟨rfl, x1⟩
def exZero : EX := .mk 0 0 0 0 0 none 0 []
def exMark : EX := .mk 93 0 0 0 0 none 0 []
mutual
/-- e' is e, copied into memory from block B on, with a mark behind each list -/
def TwR (B : Nat) (w : World) : EX → EX → Prop
  | .mk k a b m n _ _ l, e' => (e'.kind = k ∧ e'.frm = a ∧ e'.to = b ∧ e'.min = m ∧ e'.max = n) ∧ (l = [] → e'.A = none ∧ e'.c = 0) ∧
    (l ≠ [] → e'.c = l.length + 1 ∧ ∃ g, e'.A = some ⟨g, 0, none⟩ ∧ B ≤ g ∧ g < w.heap.size ∧ CellsL w g 0 ((e'.list ++ [exMark]).flatMap EX.cs)) ∧ TwL B w l e'.list
def TwL (B : Nat) (w : World) : List EX → List EX → Prop
  | [], l' => l' = []
  | x :: l, l' => ∃ y r, l' = y :: r ∧ TwR B w x y ∧ TwL B w l r
end
mutual
theorem TwR.keepC {B : Nat} {K : Nat → Prop} {w w' : World} (c : Chg K w w') (hk : ∀ b, B ≤ b → b < w.heap.size → ¬ K b) : ∀ {e e' : EX}, TwR B w e e' → TwR B w' e e'
  | .mk k a b m n _ _ l, e', h => by
    simp only [TwR] at h ⊢
    refine ⟨h.1, h.2.1, fun hl => ?_, TwL.keepC c hk h.2.2.2⟩
    obtain ⟨h1, g, h2, h3, h4, h5⟩ := h.2.2.1 hl
    exact ⟨h1, g, h2, h3, Nat.lt_of_lt_of_le h4 c.size, CellsL.keep c (hk g h3 h4) h5⟩
theorem TwL.keepC {B : Nat} {K : Nat → Prop} {w w' : World} (c : Chg K w w') (hk : ∀ b, B ≤ b → b < w.heap.size → ¬ K b) : ∀ {l l' : List EX}, TwL B w l l' → TwL B w' l l'
  | [], _, h => h
  | x :: l, l', h => by
    obtain ⟨y, r, h1, h2, h3⟩ := h
    exact ⟨y, r, h1, TwR.keepC c hk h2, TwL.keepC c hk h3⟩
end
theorem TwR.keep {B : Nat} {K : Nat → Prop} {w w' : World} {e e' : EX} (h : TwR B w e e') (c : Chg K w w') (hk : ∀ b, K b → b < B) : TwR B w' e e' := TwR.keepC c (fun b hb _ hK => by have := hk b hK; omega) h
theorem TwR.ext {B : Nat} {w w' : World} {e e' : EX} (h : TwR B w e e') (c : Ext w w') : TwR B w' e e' := h.keep c fun _ hb => hb.elim
mutual
theorem TwR.mono {B B' : Nat} {w : World} (hB : B' ≤ B) : ∀ {e e' : EX}, TwR B w e e' → TwR B' w e e'
  | .mk k a b m n _ _ l, e', h => by
    simp only [TwR] at h ⊢
    refine ⟨h.1, h.2.1, fun hl => ?_, TwL.mono hB h.2.2.2⟩
    obtain ⟨h1, g, h2, h3, h4⟩ := h.2.2.1 hl
    exact ⟨h1, g, h2, by omega, h4⟩
theorem TwL.mono {B B' : Nat} {w : World} (hB : B' ≤ B) : ∀ {l l' : List EX}, TwL B w l l' → TwL B' w l l'
  | [], _, h => h
  | x :: l, l', h => by
    obtain ⟨y, r, h1, h2, h3⟩ := h
    exact ⟨y, r, h1, TwR.mono hB h2, TwL.mono hB h3⟩
end
theorem exN_mem {x : EX} {e : EX} (h : x ∈ e.list) : exN x < exN e := by
  have h1 : ∀ l : List EX, x ∈ l → exN x ≤ exNL l := by
    intro l
    induction l with
    | nil => intro h; cases h
    | cons y r ih =>
      intro h; simp only [exNL]
      rcases List.mem_cons.1 h with rfl | h
      · omega
      · have := ih h; omega
  have := h1 _ h; rw [exN_list e]; omega
def TwF (B : Nat) (w : World) (l L : List EX) (i : Nat) : Prop := ∀ (j : Nat) (x y : EX), j < i → l[j]? = some x → L[j]? = some y → TwR B w x y
theorem TwF.zero (B : Nat) (w : World) (l L : List EX) : TwF B w l L 0 := fun j _ _ h => by omega
theorem TwF.keep {B i : Nat} {K : Nat → Prop} {w w' : World} {l L : List EX} (h : TwF B w l L i) (c : Chg K w w') (hk : ∀ b, K b → b < B) : TwF B w' l L i := fun j x y hj hx hy => (h j x y hj hx hy).keep c hk
theorem TwF.ext {B i : Nat} {w w' : World} {l L : List EX} (h : TwF B w l L i) (c : Ext w w') : TwF B w' l L i := fun j x y hj hx hy => (h j x y hj hx hy).ext c
theorem TwF.snoc {B i : Nat} {w : World} {l L : List EX} {x y : EX} (h : TwF B w l L i) (hx : l[i]? = some x) (ht : TwR B w x y) (hi : i < L.length) : TwF B w l (L.set i y) (i + 1) := fun j a b hj ha hb => by
  by_cases hji : j = i
  · subst hji
    rw [hx] at ha; cases ha
    rw [List.getElem?_set_self hi] at hb; cases hb; exact ht
  · rw [List.getElem?_set_ne (fun hh => hji hh.symm)] at hb
    exact h j a b (by omega) ha hb
theorem TwL.of {B : Nat} {w : World} : ∀ {l L : List EX}, l.length = L.length → (∀ (j : Nat) (x y : EX), l[j]? = some x → L[j]? = some y → TwR B w x y) → TwL B w l L
  | [], [], _, _ => rfl
  | x :: l, [], h, _ => by simp at h
  | [], y :: L, h, _ => by simp at h
  | x :: l, y :: L, h, hh => ⟨y, L, rfl, hh 0 x y rfl rfl, TwL.of (by simpa using h) fun j a b ha hb => hh (j + 1) a b (by simpa using ha) (by simpa using hb)⟩
theorem TwF.take {B i : Nat} {w : World} {l L : List EX} (h : TwF B w l L i) (hi : l.length ≤ i) (hL : l.length ≤ L.length) : TwL B w l (L.take l.length) := TwL.of (by rw [List.length_take]; omega) fun j x y hx hy => by
  have hj := (List.getElem?_eq_some_iff.1 hx).1
  rw [List.getElem?_take, if_pos hj] at hy
  exact h j x y (by omega) hx hy
theorem set_last {n : Nat} {L : List EX} {x : EX} (h : L.length = n + 1) : (L.take n).length = n ∧ L.set n x = L.take n ++ [x] := by
  refine ⟨by rw [List.length_take]; omega, ?_⟩
  have h1 : L = L.take n ++ L.drop n := (List.take_append_drop n L).symm
  have h2 : (L.drop n).length = 1 := by rw [List.length_drop]; omega
  obtain ⟨y, hy⟩ := List.length_eq_one_iff.1 h2
  conv => lhs; rw [h1, hy]
  rw [List.set_append_right _ _ (by rw [List.length_take]; omega), show n - (L.take n).length = 0 by rw [List.length_take]; omega]; rfl
theorem TwR.leaf {B : Nat} {w : World} {e : EX} (h : e.list = []) : TwR B w e (.mk e.kind e.frm e.to e.min e.max none 0 []) := by
  cases e with
  | mk k a b m n A c l =>
    simp only [EX.list] at h; subst h
    simp only [TwR, TwL, EX.list]
    exact ⟨⟨rfl, rfl, rfl, rfl, rfl⟩, fun _ => ⟨rfl, rfl⟩, fun h => absurd rfl h, trivial⟩
theorem TwR.node {B t : Nat} {w : World} {e : EX} {A : Option Addr} {l' : List EX} (h : e.list ≠ []) (hl : l'.length = e.list.length) (ho : Vx.Own w t 6 (.slice A (e.list.length + 1) (e.list.length + 1)) (e.list.length + 1) ((l' ++ [exMark]).flatMap EX.cs)) (hB : ∀ k, (Value.slice A (e.list.length + 1) (e.list.length + 1)).ownBlock = some k → B ≤ k) (ht : TwL B w e.list l') : TwR B w e (.mk e.kind e.frm e.to e.min e.max A (e.list.length + 1) l') := by
  obtain ⟨g, c, heq, _⟩ := ho.some_of (by omega)
  simp only [Value.slice.injEq, true_and] at heq
  obtain ⟨rfl, _⟩ := heq
  cases e with
  | mk k a b m n A' c' l =>
    simp only [EX.list] at *
    simp only [TwR]
    exact ⟨⟨rfl, rfl, rfl, rfl, rfl⟩, fun h0 => absurd h0 h, fun _ => ⟨rfl, g, rfl, hB g rfl, ho.lt g rfl, ho.rowO.cells⟩, ht⟩
def TwX (B : Nat) (w : World) (e e' : EX) : Prop := (flatE e = false ∧ e' = e) ∨ (flatE e = true ∧ TwR B w e e')
instance pf_77 : PlF Tryz.prog 77 := ⟨by kernel_rfl⟩
instance pf_78 : PlF Tryz.prog 78 := ⟨by kernel_rfl⟩
instance tP_64 : PcT Tryz.prog 64 #[(0, 1), (1, 1), (2, 1), (3, 1), (4, 1), (5, 1)] := ⟨by kernel_rfl⟩
instance tS_62 : SzT Tryz.prog 62 1 := ⟨by kernel_rfl⟩
instance tZ_64 : ZrT Tryz.prog 64 (.agg #[(.int .i64 0), (.int .i64 0), (.int .i64 0), (.int .i64 0), (.int .i64 0), (.slice none 0 0)]) := ⟨by kernel_rfl⟩
theorem twin_step (e : EX) (ih : ∀ (x : EX) (w : World), exN x < exN e → ExR w x → Calls Tryz.prog 78 #[(.agg #[(.int .i64 x.kind), (.int .i64 x.frm), (.int .i64 x.to), (.int .i64 x.min), (.int .i64 x.max), (.slice x.A x.list.length x.c)])] w (Ret fun v w' => ∃ e', v = .agg (EX.cs e').toArray ∧ TwR w.heap.size w' x e' ∧ Ext w w')) (w : World) (hE : ExR w e) :
    Calls Tryz.prog 78 #[(.agg #[(.int .i64 e.kind), (.int .i64 e.frm), (.int .i64 e.to), (.int .i64 e.min), (.int .i64 e.max), (.slice e.A e.list.length e.c)])] w (Ret (fun v w' => ∃ e', v = .agg (EX.cs e').toArray ∧ TwR w.heap.size w' e e' ∧ Ext w w')) := by
 have hby := hE.row.2.1.by
 refine calls_y (n := 46) Tryz.func78 ?_
 refine go ?_
 refine y_bx ?_
 intro w1 e1 z1 b1
 refine y_al ?_
 intro w2 e2 z2 b2
 refine go ?_
 refine y_lN (vs := [(.int .i64 e.kind), (.int .i64 e.frm), (.int .i64 e.to), (.int .i64 e.min), (.int .i64 e.max), (.slice e.A e.list.length e.c)]) ⟨(b1.ext e2).cell rfl, (b1.ext e2).cell rfl, (b1.ext e2).cell rfl, (b1.ext e2).cell rfl, (b1.ext e2).cell rfl, (b1.ext e2).cell rfl, trivial⟩ ?_
 refine y_al ?_
 intro w3 e3 z3 b3
 refine y_st b3 ?_
 intro w4 e4 z4 b4
 replace b4 : Blk w4 w2.heap.size #[(.int .i64 e.kind), (.int .i64 e.frm), (.int .i64 e.to), (.int .i64 e.min), (.int .i64 e.max), (.slice e.A e.list.length e.c)] 64 := blk_full b4 rfl
 refine go ?_
 refine y_st b4 ?_
 intro w5 e5 z5 b5
 replace b5 : Blk w5 w2.heap.size #[(.int .i64 e.kind), (.int .i64 e.frm), (.int .i64 e.to), (.int .i64 e.min), (.int .i64 e.max), (.slice none 0 0)] 64 := b5
 have q1 := (((b1.ext e2).ext e3).keep1 e4 (by have _q := b1.lt; omega))
 have q2 := (q1.keep1 e5 (by have _q := b1.lt; omega))
 refine go ?_
 refine y_ld q2 ?_
 refine go ?_
 refine y_if (fun h1 => ?_) (fun h1 => ?_)
 ·
  refine go ?_
  refine y_ld q2 ?_
  refine go ?_
  refine y_add ?_
  refine yOp (ox_makeD (n := ((e.list.length + 1))) (l := ((List.replicate (e.list.length + 1) exZero))) (cs := EX.cs) tE_62.h rfl rfl (by omega) (by omega) (made_flat (z := #[.int .i64 0, .int .i64 0, .int .i64 0, .int .i64 0, .int .i64 0, .slice none 0 0]) (cs := EX.cs) (x := exZero) rfl (by decide) _) ?_)
  intro A1 w6 o1 e6 lo1
  have he6 := e6.size
  have hAlt : ∀ b, (Value.slice A1 (e.list.length + 1) (e.list.length + 1)).ownBlock = some b → b < w6.heap.size := o1.lt
  refine go ?_
  refine xc_loopN (fun m_ f_ Wx => ∃ (i : Nat) (L : List EX), m_ = e.list.length - i ∧ (i ≤ e.list.length) ∧ f_ 1 = (.pointer (some ⟨w.heap.size, 0, none⟩)) ∧ f_ 2 = (.pointer (some ⟨w1.heap.size, 0, none⟩)) ∧ f_ 3 = (.pointer (some ⟨w2.heap.size, 0, none⟩)) ∧ f_ 4 = (.slice A1 ((e.list.length + 1)) ((e.list.length + 1))) ∧ f_ 5 = (.int .i64 ((i : Nat))) ∧ Vx.Own Wx 64 6 (.slice A1 ((e.list.length + 1)) ((e.list.length + 1))) ((e.list.length + 1)) (L.flatMap EX.cs) ∧ (TwF w6.heap.size Wx e.list L i) ∧ Chg (fun b => ((.slice A1 ((e.list.length + 1)) ((e.list.length + 1))) : Value).ownBlock = some b) w6 Wx) (e.list.length) ?_ ?_
  ·
   exact ⟨0, (List.replicate (e.list.length + 1) exZero), (by omega), (by omega), rfl, rfl, rfl, rfl, vW, o1, (TwF.zero _ _ _ _), (Chg.refl _ _)⟩
  ·
   rintro m_ f1 w7 ⟨i, L, hm_f1, hi, g1_f1, g2_f1, g3_f1, g4_f1, g5_f1, o0_f1, t0_f1, x1⟩
   have hx1 := x1.size
   have hl_L : L.length = (e.list.length + 1) := by have _q := (o0_f1).len; rw [fm_len EX.len] at _q; omega
   rw [← usf g1_f1, ← usf g2_f1, ← usf g3_f1, ← usf g4_f1, ← usf g5_f1]
   have q3 := ((q2.ext e6).keep x1 (fun _h => by have _q := lo1 _ _h; have _q2 := b1.lt; omega))
   refine go ?_
   refine y_ld q3 ?_
   refine go ?_
   refine y_if (fun h2 => ?_) (fun h2 => ?_)
   ·
    refine go ?_
    refine y_ld q3 ?_
    have x2 : Ext w w7 := (Chg.trans (Ext.trans (Ext.chg1 (Ext.chg1 (Ext.trans (Ext.trans e1 e2) e3) e4 (by omega)) e5 (by omega)) e6) x1 (fun b hb hl => (absurd hl (by have _h := lo1 b hb; omega))))
    obtain ⟨x_1, g_1, o_1, hx_1⟩ := row_may (A := e.A) (cs := EX.cs) i EX.len (by decide) (RowA.ext hE.row.1 x2)
    obtain ⟨hx_2, hA_1, hc_1⟩ := hx_1 oM
    have hfx_x_1 := ((hE.row.2.2 _ (List.mem_of_getElem? hx_2))).row.2.1.by
    refine go ?_
    refine y_ix i hA_1 ?_
    refine y_lN (vs := [(.int .i64 x_1.kind), (.int .i64 x_1.frm), (.int .i64 x_1.to), (.int .i64 x_1.min), (.int .i64 x_1.max), (.slice x_1.A x_1.list.length x_1.c)]) hc_1 ?_
    refine yCa (ret_mono (ih x_1 w7 (exN_mem (List.mem_of_getElem? hx_2)) ((hE.row.2.2 _ (List.mem_of_getElem? hx_2)).ext x2)) ?_)
    rintro _ w8 ⟨y_1, rfl, ht1, e7⟩
    have he7 := e7.size
    obtain ⟨x_2, g_2, hx_3⟩ := own_may (A := A1) i EX.len (by decide) (o0_f1.ext e7)
    obtain ⟨hx_4, hA_2, hc_2⟩ := hx_3 oM
    refine y_ix i hA_2 ?_
    refine yNp (ox_stE (i := i) (off := 0) (vs := [(.int .i64 y_1.kind), (.int .i64 y_1.frm), (.int .i64 y_1.to), (.int .i64 y_1.min), (.int .i64 y_1.max), (.slice y_1.A y_1.list.length y_1.c)]) (b := (y_1 : EX)) EX.len tS_64.h hA_2 rfl (v := (.agg #[(.int .i64 y_1.kind), (.int .i64 y_1.frm), (.int .i64 y_1.to), (.int .i64 y_1.min), (.int .i64 y_1.max), (.slice y_1.A y_1.list.length y_1.c)])) rfl rfl rfl rfl (o0_f1.ext e7) hx_4 rfl (by decide) (by omega) ?_)
    intro w9 e8 z7 o2
    refine go ?_
    refine y_add ?_
    have y1 : Chg (fun b => ((.slice A1 ((e.list.length + 1)) ((e.list.length + 1))) : Value).ownBlock = some b) w6 w9 := (Chg.trans (Chg.ext (Chg.trans (Chg.refl (fun b => ((.slice A1 ((e.list.length + 1)) ((e.list.length + 1))) : Value).ownBlock = some b) w6) x1 (fun b hb hl => hb)) e7) e8 (fun b hb hl => hb))
    refine go ?_
    exact ⟨rfl, e.list.length - (i + 1), by omega, i + 1, (L.set i y_1), by omega, (by omega), rfl, rfl, rfl, rfl, vW, o2, (TwF.snoc (TwF.keep (TwF.ext t0_f1 e7) e8 hAlt) hx_2 (TwR.keep (TwR.mono (by omega) ht1) e8 hAlt) (by omega)), y1⟩
   ·
    refine go ?_
    refine y_ld q3 ?_
    refine go ?_
    refine yOp (ox_mkStruct (ps := [(0, (.int .i64 93))]) (cs := #[(.int .i64 93), (.int .i64 0), (.int .i64 0), (.int .i64 0), (.int .i64 0), (.slice none 0 0)]) tZ_64.h tP_64.h rfl (by kernel_rfl) ?_)
    obtain ⟨x_3, g_3, hx_5⟩ := own_may (A := A1) e.list.length EX.len (by decide) o0_f1
    obtain ⟨hx_6, hA_3, hc_3⟩ := hx_5 oM
    refine y_ix e.list.length hA_3 ?_
    refine yNp (ox_stE (i := e.list.length) (off := 0) (vs := [(.int .i64 93), (.int .i64 0), (.int .i64 0), (.int .i64 0), (.int .i64 0), (.slice none 0 0)]) (b := ((EX.mk 93 0 0 0 0 none 0 []) : EX)) EX.len tS_64.h hA_3 rfl (v := (.agg #[(.int .i64 93), (.int .i64 0), (.int .i64 0), (.int .i64 0), (.int .i64 0), (.slice none 0 0)])) rfl rfl rfl rfl o0_f1 hx_6 rfl (by decide) (by omega) ?_)
    intro w10 e9 z8 o3
    have q4 := (q3.keep e9 (fun _h => by have _q := lo1 _ _h; have _q2 := b1.lt; omega))
    refine go ?_
    refine y_ld q4 ?_
    refine go ?_
    refine yOp (ox_sliceToN (A := A1) (cp := ((e.list.length + 1))) (i := (((e.list.length : Nat) : Int))) e.list.length tE_62.h rfl rfl (by omega) (by omega) (by omega) ?_)
    have q5 := ((b5.ext e6).keep x1 (fun _h => by have _q := lo1 _ _h; have _q2 := b5.lt; omega))
    have q6 := (q5.keep e9 (fun _h => by have _q := lo1 _ _h; have _q2 := b5.lt; omega))
    refine go ?_
    refine y_st q6 ?_
    intro w11 e10 z9 b6
    replace b6 : Blk w11 w2.heap.size #[(.int .i64 e.kind), (.int .i64 e.frm), (.int .i64 e.to), (.int .i64 e.min), (.int .i64 e.max), (.slice A1 e.list.length ((e.list.length + 1)))] 64 := b6
    refine go ?_
    refine y_lN (vs := [(.int .i64 e.kind), (.int .i64 e.frm), (.int .i64 e.to), (.int .i64 e.min), (.int .i64 e.max), (.slice A1 e.list.length ((e.list.length + 1)))]) ⟨b6.cell rfl, b6.cell rfl, b6.cell rfl, b6.cell rfl, b6.cell rfl, b6.cell rfl, trivial⟩ ?_
    have q7 := ((b2.ext e3).keep1 e4 (by have _q := b2.lt; omega))
    have q8 := (q7.keep1 e5 (by have _q := b2.lt; omega))
    have q9 := ((q8.ext e6).keep x1 (fun _h => by have _q := lo1 _ _h; have _q2 := b2.lt; omega))
    have q10 := (q9.keep e9 (fun _h => by have _q := lo1 _ _h; have _q2 := b2.lt; omega))
    have q11 := (q10.keep1 e10 (by have _q := b2.lt; omega))
    refine y_st q11 ?_
    intro w12 e11 z10 b7
    replace b7 : Blk w12 w1.heap.size #[(.int .i64 e.kind), (.int .i64 e.frm), (.int .i64 e.to), (.int .i64 e.min), (.int .i64 e.max), (.slice A1 e.list.length ((e.list.length + 1)))] 64 := blk_full b7 rfl
    refine go ?_
    change leaves _ _ _ _ _ _ _
    refine leaves_nil (n := 46) (rs := [.cell 2 64]) (vs := [.agg #[(.int .i64 e.kind), (.int .i64 e.frm), (.int .i64 e.to), (.int .i64 e.min), (.int .i64 e.max), (.slice A1 e.list.length ((e.list.length + 1)))]]) rfl ⟨⟨by decide, w1.heap.size, 0, 6, [(.int .i64 e.kind), (.int .i64 e.frm), (.int .i64 e.to), (.int .i64 e.min), (.int .i64 e.max), (.slice A1 e.list.length ((e.list.length + 1)))], rfl, tA_64.h, tS_64.h, rfl, ⟨b7.cell rfl, b7.cell rfl, b7.cell rfl, b7.cell rfl, b7.cell rfl, b7.cell rfl, trivial⟩, rfl⟩, trivial⟩ ?_
    have q12 := (TwF.keep (TwF.keep t0_f1 e9 hAlt) e10 (fun b hb => by subst hb; omega))
    have q13 := (TwF.keep q12 e11 (fun b hb => by subst hb; omega))
    have hLl : L.length = e.list.length + 1 := hl_L
    have hT9 := q13
    have q14 := (o3.keep1 e10 (fun k hk => by have _q := lo1 k hk; omega))
    have q15 := (q14.keep1 e11 (fun k hk => by have _q := lo1 k hk; omega))
    have ho9 := q15
    have hcut := set_last (x := exMark) hLl
    obtain ⟨hc1, hc2⟩ := hcut
    have ho8 : Vx.Own w12 64 6 (.slice A1 (e.list.length + 1) (e.list.length + 1)) (e.list.length + 1) ((L.take e.list.length ++ [exMark]).flatMap EX.cs) := by rw [← hc2]; exact ho9
    have hie : i = e.list.length := by omega
    have x3 : Ext w w12 := (Ext.chg1 (Ext.chg1 (Chg.trans (Chg.trans (Ext.trans (Ext.chg1 (Ext.chg1 (Ext.trans (Ext.trans e1 e2) e3) e4 (by omega)) e5 (by omega)) e6) x1 (fun b hb hl => (absurd hl (by have _h := lo1 b hb; omega)))) e9 (fun b hb hl => (absurd hl (by have _h := lo1 b hb; omega)))) e10 (by omega)) e11 (by omega))
    exact ⟨EX.mk e.kind e.frm e.to e.min e.max A1 (e.list.length + 1) (L.take e.list.length), by show _ = Value.agg #[_, _, _, _, _, .slice _ (L.take e.list.length).length _]; rw [hc1] <;> rfl, TwR.node (by intro h0; rw [h0] at h1; simp at h1) hc1 ho8 (fun k hk => by have _h := lo1 k hk; omega) (TwL.mono (by omega) (hT9.take (by omega) (by omega))), x3⟩
 ·
  refine go ?_
  refine y_lN (vs := [(.int .i64 e.kind), (.int .i64 e.frm), (.int .i64 e.to), (.int .i64 e.min), (.int .i64 e.max), (.slice none 0 0)]) ⟨b5.cell rfl, b5.cell rfl, b5.cell rfl, b5.cell rfl, b5.cell rfl, b5.cell rfl, trivial⟩ ?_
  have q16 := ((b2.ext e3).keep1 e4 (by have _q := b2.lt; omega))
  have q17 := (q16.keep1 e5 (by have _q := b2.lt; omega))
  refine y_st q17 ?_
  intro w13 e12 z11 b8
  replace b8 : Blk w13 w1.heap.size #[(.int .i64 e.kind), (.int .i64 e.frm), (.int .i64 e.to), (.int .i64 e.min), (.int .i64 e.max), (.slice none 0 0)] 64 := blk_full b8 rfl
  refine go ?_
  change leaves _ _ _ _ _ _ _
  refine leaves_nil (n := 46) (rs := [.cell 2 64]) (vs := [.agg #[(.int .i64 e.kind), (.int .i64 e.frm), (.int .i64 e.to), (.int .i64 e.min), (.int .i64 e.max), (.slice none 0 0)]]) rfl ⟨⟨by decide, w1.heap.size, 0, 6, [(.int .i64 e.kind), (.int .i64 e.frm), (.int .i64 e.to), (.int .i64 e.min), (.int .i64 e.max), (.slice none 0 0)], rfl, tA_64.h, tS_64.h, rfl, ⟨b8.cell rfl, b8.cell rfl, b8.cell rfl, b8.cell rfl, b8.cell rfl, b8.cell rfl, trivial⟩, rfl⟩, trivial⟩ ?_
  have x4 : Ext w w13 := (Ext.chg1 (Ext.chg1 (Ext.chg1 (Ext.trans (Ext.trans e1 e2) e3) e4 (by omega)) e5 (by omega)) e12 (by omega))
  exact ⟨EX.mk e.kind e.frm e.to e.min e.max none 0 [], rfl, TwR.leaf (List.length_eq_zero_iff.1 (by omega)), x4⟩
theorem twin_calls (e : EX) (w : World) (hE : ExR w e) : Calls Tryz.prog 78 #[(.agg #[(.int .i64 e.kind), (.int .i64 e.frm), (.int .i64 e.to), (.int .i64 e.min), (.int .i64 e.max), (.slice e.A e.list.length e.c)])] w (Ret fun v w' => ∃ e', v = .agg (EX.cs e').toArray ∧ TwR w.heap.size w' e e' ∧ Ext w w') := by
  have key : ∀ n : Nat, ∀ e : EX, exN e = n → ∀ w, ExR w e → Calls Tryz.prog 78 #[(.agg #[(.int .i64 e.kind), (.int .i64 e.frm), (.int .i64 e.to), (.int .i64 e.min), (.int .i64 e.max), (.slice e.A e.list.length e.c)])] w (Ret fun v w' => ∃ e', v = .agg (EX.cs e').toArray ∧ TwR w.heap.size w' e e' ∧ Ext w w') := by
    intro n
    induction n using Nat.strongRecOn with
    | _ n ih => intro e he w hE; exact twin_step e (fun x w hx hX => ih (exN x) (by omega) x rfl w hX) w hE
  exact key _ e rfl w hE
theorem twinExpr_calls (e : EX) (w : World) (hE : ExR w e) :
    Calls Tryz.prog 53 #[(.agg #[(.int .i64 e.kind), (.int .i64 e.frm), (.int .i64 e.to), (.int .i64 e.min), (.int .i64 e.max), (.slice e.A e.list.length e.c)])] w (Ret (fun v w' => ∃ e', v = .agg (EX.cs e').toArray ∧ TwX w.heap.size w' e e' ∧ Ext w w')) := by
 refine calls_y (n := 9) Tryz.func53 ?_
 refine go ?_
 refine y_bx ?_
 intro w1 e1 z1 b1
 refine y_al ?_
 intro w2 e2 z2 b2
 refine go ?_
 refine y_lN (vs := [(.int .i64 e.kind), (.int .i64 e.frm), (.int .i64 e.to), (.int .i64 e.min), (.int .i64 e.max), (.slice e.A e.list.length e.c)]) ⟨(b1.ext e2).cell rfl, (b1.ext e2).cell rfl, (b1.ext e2).cell rfl, (b1.ext e2).cell rfl, (b1.ext e2).cell rfl, (b1.ext e2).cell rfl, trivial⟩ ?_
 have x1 : Ext w w2 := (Ext.trans e1 e2)
 refine yCa (ret_mono (flat_calls e w2 (hE.ext x1)) ?_)
 rintro _ w3 ⟨rfl, e3⟩
 have he3 := e3.size
 refine go ?_
 refine xc_cond (b := (!(flatE e))) rfl (fun h1 => ?_) (fun h1 => ?_)
 ·
  have h1' := bS h1
  have hfl_ : flatE e = false := by simpa using h1
  refine go ?_
  refine y_lN (vs := [(.int .i64 e.kind), (.int .i64 e.frm), (.int .i64 e.to), (.int .i64 e.min), (.int .i64 e.max), (.slice e.A e.list.length e.c)]) ⟨((b1.ext e2).ext e3).cell rfl, ((b1.ext e2).ext e3).cell rfl, ((b1.ext e2).ext e3).cell rfl, ((b1.ext e2).ext e3).cell rfl, ((b1.ext e2).ext e3).cell rfl, ((b1.ext e2).ext e3).cell rfl, trivial⟩ ?_
  refine y_st (b2.ext e3) ?_
  intro w4 e4 z3 b3
  replace b3 : Blk w4 w1.heap.size #[(.int .i64 e.kind), (.int .i64 e.frm), (.int .i64 e.to), (.int .i64 e.min), (.int .i64 e.max), (.slice e.A e.list.length e.c)] 64 := blk_full b3 rfl
  refine go ?_
  change leaves _ _ _ _ _ _ _
  refine leaves_nil (n := 9) (rs := [.cell 2 64]) (vs := [.agg #[(.int .i64 e.kind), (.int .i64 e.frm), (.int .i64 e.to), (.int .i64 e.min), (.int .i64 e.max), (.slice e.A e.list.length e.c)]]) rfl ⟨⟨by decide, w1.heap.size, 0, 6, [(.int .i64 e.kind), (.int .i64 e.frm), (.int .i64 e.to), (.int .i64 e.min), (.int .i64 e.max), (.slice e.A e.list.length e.c)], rfl, tA_64.h, tS_64.h, rfl, ⟨b3.cell rfl, b3.cell rfl, b3.cell rfl, b3.cell rfl, b3.cell rfl, b3.cell rfl, trivial⟩, rfl⟩, trivial⟩ ?_
  have x2 : Ext w w4 := (Ext.chg1 (Ext.trans x1 e3) e4 (by omega))
  exact ⟨e, rfl, .inl ⟨hfl_, rfl⟩, x2⟩
 ·
  have h1' := bS h1
  have hfl_ : flatE e = true := by simpa using h1
  refine go ?_
  refine y_lN (vs := [(.int .i64 e.kind), (.int .i64 e.frm), (.int .i64 e.to), (.int .i64 e.min), (.int .i64 e.max), (.slice e.A e.list.length e.c)]) ⟨((b1.ext e2).ext e3).cell rfl, ((b1.ext e2).ext e3).cell rfl, ((b1.ext e2).ext e3).cell rfl, ((b1.ext e2).ext e3).cell rfl, ((b1.ext e2).ext e3).cell rfl, ((b1.ext e2).ext e3).cell rfl, trivial⟩ ?_
  have x3 : Ext w w3 := (Ext.trans x1 e3)
  refine yCa (ret_mono (twin_calls e w3 (hE.ext x3)) ?_)
  rintro _ w5 ⟨y_1, rfl, ht1, e5⟩
  have he5 := e5.size
  refine y_st ((b2.ext e3).ext e5) ?_
  intro w6 e6 z4 b4
  replace b4 : Blk w6 w1.heap.size #[(.int .i64 y_1.kind), (.int .i64 y_1.frm), (.int .i64 y_1.to), (.int .i64 y_1.min), (.int .i64 y_1.max), (.slice y_1.A y_1.list.length y_1.c)] 64 := blk_full b4 rfl
  refine go ?_
  change leaves _ _ _ _ _ _ _
  refine leaves_nil (n := 9) (rs := [.cell 2 64]) (vs := [.agg #[(.int .i64 y_1.kind), (.int .i64 y_1.frm), (.int .i64 y_1.to), (.int .i64 y_1.min), (.int .i64 y_1.max), (.slice y_1.A y_1.list.length y_1.c)]]) rfl ⟨⟨by decide, w1.heap.size, 0, 6, [(.int .i64 y_1.kind), (.int .i64 y_1.frm), (.int .i64 y_1.to), (.int .i64 y_1.min), (.int .i64 y_1.max), (.slice y_1.A y_1.list.length y_1.c)], rfl, tA_64.h, tS_64.h, rfl, ⟨b4.cell rfl, b4.cell rfl, b4.cell rfl, b4.cell rfl, b4.cell rfl, b4.cell rfl, trivial⟩, rfl⟩, trivial⟩ ?_
  have x4 : Ext w w6 := (Ext.chg1 (Ext.trans x3 e5) e6 (by omega))
  exact ⟨y_1, rfl, .inr ⟨hfl_, TwR.mono (by omega) (TwR.keep ht1 e6 (fun b hb => by subst hb; omega))⟩, x4⟩
mutual
/-- is a pattern copied outright, with v parts left, at depth d? and what is left behind it -/
def ownB : EX → Int → Int → Bool × Int
  | .mk _ _ _ _ _ _ _ l, d, v => if v - 1 < 0 ∨ 64 < d then (false, v - 1) else ownBL l (d + 1) (v - 1)
def ownBL : List EX → Int → Int → Bool × Int
  | [], _, v => (true, v)
  | x :: r, d, v => if (ownB x d v).1 = true then ownBL r d (ownB x d v).2 else (false, (ownB x d v).2)
end
theorem ownB_no {e : EX} {d v : Int} (h : v - 1 < 0 ∨ 64 < d) : ownB e d v = (false, v - 1) := by
  cases e; rw [ownB, if_pos h]
theorem ownB_yes {e : EX} {d v : Int} (h : ¬ (v - 1 < 0 ∨ 64 < d)) : ownB e d v = ownBL e.list (d + 1) (v - 1) := by
  cases e; rw [ownB, if_neg h]; rfl
theorem ownBL_next {l : List EX} {i : Nat} {x : EX} {d v : Int} (hx : l[i]? = some x) (h : (ownB x d v).1 = true) : ownBL (l.drop i) d v = ownBL (l.drop (i + 1)) d (ownB x d v).2 := by
  rw [drop_get hx, ownBL, if_pos h]
theorem ownBL_bad {l : List EX} {i : Nat} {x : EX} {d v : Int} (hx : l[i]? = some x) (h : (ownB x d v).1 = false) : ownBL (l.drop i) d v = (false, (ownB x d v).2) := by
  rw [drop_get hx, ownBL, if_neg (by rw [h]; decide)]
mutual
theorem ownB_bd : ∀ (e : EX) (d v : Int), (ownB e d v).1 = true → 0 ≤ v → 0 ≤ (ownB e d v).2 ∧ (ownB e d v).2 ≤ v
  | .mk _ _ _ _ _ _ _ l, d, v, h, hv => by
    rw [ownB] at h ⊢
    split at h
    · cases h
    · rename_i hn
      rw [if_neg hn]
      have := ownBL_bd l (d + 1) (v - 1) h (by omega)
      omega
theorem ownBL_bd : ∀ (l : List EX) (d v : Int), (ownBL l d v).1 = true → 0 ≤ v → 0 ≤ (ownBL l d v).2 ∧ (ownBL l d v).2 ≤ v
  | [], _, v, _, hv => ⟨hv, Int.le_refl _⟩
  | x :: r, d, v, h, hv => by
    rw [ownBL] at h ⊢
    split at h
    · rename_i hx
      rw [if_pos hx]
      have h1 := ownB_bd x d v hx hv
      have h2 := ownBL_bd r d _ h h1.1
      omega
    · cases h
end
theorem drop_get0 {α : Type} {l m : List α} {i : Nat} (h : l.drop i = m.drop i) : l[i]? = m[i]? := by
  have h1 : (l.drop i)[0]? = (m.drop i)[0]? := by rw [h]
  rwa [List.getElem?_drop, List.getElem?_drop, Nat.add_zero] at h1
theorem drop_set {α : Type} {l m : List α} {i : Nat} {y : α} (h : l.drop i = m.drop i) : (l.set i y).drop (i + 1) = m.drop (i + 1) := by
  rw [List.drop_set_of_lt (by omega), ← List.drop_drop, ← List.drop_drop, h]
mutual
/-- e' is e, copied into memory from block B on -/
def CpX (B : Nat) (w : World) : EX → EX → Prop
  | .mk k a b m n A _ l, e' => (e'.kind = k ∧ e'.frm = a ∧ e'.to = b ∧ e'.min = m ∧ e'.max = n) ∧ (A = none ↔ e'.A = none) ∧ RowA w e'.A (e'.list.flatMap EX.cs) ∧ (∀ a, e'.A = some a → B ≤ a.block ∧ a.block < w.heap.size) ∧ few 64 e'.list.length e'.c ∧ CpL B w l e'.list
def CpL (B : Nat) (w : World) : List EX → List EX → Prop
  | [], l' => l' = []
  | x :: l, l' => ∃ y r, l' = y :: r ∧ CpX B w x y ∧ CpL B w l r
end
mutual
theorem CpX.keepC {B : Nat} {K : Nat → Prop} {w w' : World} (c : Chg K w w') (hk : ∀ b, B ≤ b → b < w.heap.size → ¬ K b) : ∀ {e e' : EX}, CpX B w e e' → CpX B w' e e'
  | .mk k a b m n _ _ l, e', h => by
    simp only [CpX] at h ⊢
    exact ⟨h.1, h.2.1, h.2.2.1.keep c fun a ha => hk _ (h.2.2.2.1 a ha).1 (h.2.2.2.1 a ha).2, fun a ha => ⟨(h.2.2.2.1 a ha).1, Nat.lt_of_lt_of_le (h.2.2.2.1 a ha).2 c.size⟩, h.2.2.2.2.1, CpL.keepC c hk h.2.2.2.2.2⟩
theorem CpL.keepC {B : Nat} {K : Nat → Prop} {w w' : World} (c : Chg K w w') (hk : ∀ b, B ≤ b → b < w.heap.size → ¬ K b) : ∀ {l l' : List EX}, CpL B w l l' → CpL B w' l l'
  | [], _, h => h
  | x :: l, l', h => by
    obtain ⟨y, r, h1, h2, h3⟩ := h
    exact ⟨y, r, h1, CpX.keepC c hk h2, CpL.keepC c hk h3⟩
end
theorem CpX.keep {B : Nat} {K : Nat → Prop} {w w' : World} {e e' : EX} (h : CpX B w e e') (c : Chg K w w') (hk : ∀ b, K b → b < B) : CpX B w' e e' := CpX.keepC c (fun b hb _ hK => by have := hk b hK; omega) h
theorem CpX.ext {B : Nat} {w w' : World} {e e' : EX} (h : CpX B w e e') (c : Ext w w') : CpX B w' e e' := h.keep c fun _ hb => hb.elim
mutual
theorem CpX.mono {B B' : Nat} {w : World} (hB : B' ≤ B) : ∀ {e e' : EX}, CpX B w e e' → CpX B' w e e'
  | .mk k a b m n _ _ l, e', h => by
    simp only [CpX] at h ⊢
    exact ⟨h.1, h.2.1, h.2.2.1, fun a ha => ⟨Nat.le_trans hB (h.2.2.2.1 a ha).1, (h.2.2.2.1 a ha).2⟩, h.2.2.2.2.1, CpL.mono hB h.2.2.2.2.2⟩
theorem CpL.mono {B B' : Nat} {w : World} (hB : B' ≤ B) : ∀ {l l' : List EX}, CpL B w l l' → CpL B' w l l'
  | [], _, h => h
  | x :: l, l', h => by
    obtain ⟨y, r, h1, h2, h3⟩ := h
    exact ⟨y, r, h1, CpX.mono hB h2, CpL.mono hB h3⟩
end
mutual
theorem CpX.exr {B : Nat} {w : World} : ∀ {e e' : EX}, CpX B w e e' → ExR w e'
  | .mk k a b m n _ _ l, .mk k' a' b' m' n' A' c' l', h => by
    simp only [CpX, EX.A, EX.c, EX.list] at h
    simp only [ExR]
    exact ⟨h.2.2.1, h.2.2.2.2.1, CpL.exr h.2.2.2.2.2⟩
theorem CpL.exr {B : Nat} {w : World} : ∀ {l l' : List EX}, CpL B w l l' → ExRL w l'
  | [], _, h => by
    have h : _ = [] := h
    subst h; trivial
  | x :: l, l', h => by
    obtain ⟨y, r, h1, h2, h3⟩ := h
    subst h1
    exact ⟨CpX.exr h2, CpL.exr h3⟩
end
def CpF (B : Nat) (w : World) (l L : List EX) (i : Nat) : Prop := ∀ (j : Nat) (x y : EX), j < i → l[j]? = some x → L[j]? = some y → CpX B w x y
theorem CpF.zero (B : Nat) (w : World) (l L : List EX) : CpF B w l L 0 := fun j _ _ h => by omega
theorem CpF.keep {B i : Nat} {K : Nat → Prop} {w w' : World} {l L : List EX} (h : CpF B w l L i) (c : Chg K w w') (hk : ∀ b, K b → b < B) : CpF B w' l L i := fun j x y hj hx hy => (h j x y hj hx hy).keep c hk
theorem CpF.ext {B i : Nat} {w w' : World} {l L : List EX} (h : CpF B w l L i) (c : Ext w w') : CpF B w' l L i := fun j x y hj hx hy => (h j x y hj hx hy).ext c
theorem CpF.snoc {B i : Nat} {w : World} {l L : List EX} {x y : EX} (h : CpF B w l L i) (hx : l[i]? = some x) (ht : CpX B w x y) (hi : i < L.length) : CpF B w l (L.set i y) (i + 1) := fun j a b hj ha hb => by
  by_cases hji : j = i
  · subst hji
    rw [hx] at ha; cases ha
    rw [List.getElem?_set_self hi] at hb; cases hb; exact ht
  · rw [List.getElem?_set_ne (fun hh => hji hh.symm)] at hb
    exact h j a b (by omega) ha hb
theorem CpL.of {B : Nat} {w : World} : ∀ {l L : List EX}, l.length = L.length → (∀ (j : Nat) (x y : EX), l[j]? = some x → L[j]? = some y → CpX B w x y) → CpL B w l L
  | [], [], _, _ => rfl
  | x :: l, [], h, _ => by simp at h
  | [], y :: L, h, _ => by simp at h
  | x :: l, y :: L, h, hh => ⟨y, L, rfl, hh 0 x y rfl rfl, CpL.of (by simpa using h) fun j a b ha hb => hh (j + 1) a b (by simpa using ha) (by simpa using hb)⟩
theorem CpF.all {B i : Nat} {w : World} {l L : List EX} (h : CpF B w l L i) (hi : l.length ≤ i) (hL : L.length = l.length) : CpL B w l L := CpL.of hL.symm fun j x y hx hy => by
  have hj := (List.getElem?_eq_some_iff.1 hx).1
  exact h j x y (by omega) hx hy
theorem CpX.node {B t c : Nat} {w : World} {e : EX} {A : Option Addr} {L : List EX} (hn : e.A = none ↔ A = none) (hl : L.length = e.list.length) (hby : e.list.length * 64 ≤ 140737488355328) (ho : Vx.Own w t 6 (.slice A e.list.length c) e.list.length (L.flatMap EX.cs)) (hB : ∀ k, (Value.slice A e.list.length c).ownBlock = some k → B ≤ k) (ht : CpL B w e.list L) : CpX B w e (.mk e.kind e.frm e.to e.min e.max A c L) := by
  obtain ⟨A', c', h1, h2⟩ := ho.shape
  cases e with
  | mk k a b m n A0 c0 l =>
    simp only [EX.list, EX.A] at *
    simp only [CpX]
    refine ⟨⟨rfl, rfl, rfl, rfl, rfl⟩, hn, ho.rowO, fun a ha => ?_, ?_, ht⟩
    · have hob : (Value.slice A l.length c).ownBlock = some a.block := by simp only [EX.A] at ha; subst ha; rfl
      exact ⟨hB _ hob, ho.lt _ hob⟩
    · simp only [EX.list, EX.c, hl]
      simp only [Value.slice.injEq, true_and] at h1
      exact ⟨by omega, hby⟩
instance pf_114 : PlF Tryz.prog 114 := ⟨by kernel_rfl⟩
instance pf_82 : PlF Tryz.prog 82 := ⟨by kernel_rfl⟩
theorem ownExpr_step (e : EX) (d v : Int) (bc : Nat) (w0 : World) (ih : ∀ (x : EX) (w : World) (d v : Int), exN x < exN e → Ext w0 w → ExR w0 x → w0.heap.size ≤ bc → Blk w bc #[.int .i64 v] 3 → 0 ≤ v ∧ v ≤ 4096 → 0 ≤ d ∧ d ≤ 65 → Calls Tryz.prog 82 #[(.agg #[(.int .i64 x.kind), (.int .i64 x.frm), (.int .i64 x.to), (.int .i64 x.min), (.int .i64 x.max), (.slice x.A x.list.length x.c)]), .int .i64 d, .pointer (some ⟨bc, 0, none⟩)] w (Ret fun v' w' => ∃ e', v' = .tuple #[.agg (EX.cs e').toArray, .bool (ownB x d v).1] ∧ Blk w' bc #[.int .i64 (ownB x d v).2] 3 ∧ ((ownB x d v).1 = true → CpX w.heap.size w' x e') ∧ Chg1 bc w w')) (w : World) (hE0 : Ext w0 w) (hE : ExR w0 e) (hbc : w0.heap.size ≤ bc) (hc : Blk w bc #[.int .i64 v] 3) (hv : 0 ≤ v ∧ v ≤ 4096) (hd0 : 0 ≤ d ∧ d ≤ 65) :
    Calls Tryz.prog 82 #[(.agg #[(.int .i64 e.kind), (.int .i64 e.frm), (.int .i64 e.to), (.int .i64 e.min), (.int .i64 e.max), (.slice e.A e.list.length e.c)]), (.int .i64 d), (.pointer (some ⟨bc, 0, none⟩))] w (Ret (fun v' w' => ∃ e', v' = .tuple #[.agg (EX.cs e').toArray, .bool (ownB e d v).1] ∧ Blk w' bc #[.int .i64 (ownB e d v).2] 3 ∧ ((ownB e d v).1 = true → CpX w.heap.size w' e e') ∧ Chg1 bc w w')) := by
 have hby := hE.row.2.1.by; have hbcw := hc.lt
 have hsz0_ := hE0.size
 refine calls_y (n := 57) Tryz.func82 ?_
 refine go ?_
 refine y_bx ?_
 intro w1 e1 z1 b1
 refine y_al ?_
 intro w2 e2 z2 b2
 refine go ?_
 refine y_ld ((hc.ext e1).ext e2) ?_
 refine y_sub ?_
 refine go ?_
 refine y_st ((hc.ext e1).ext e2) ?_
 intro w3 e3 z3 b3
 replace b3 : Blk w3 bc #[(.int .i64 (v - 1))] 3 := b3
 refine go ?_
 refine y_ld b3 ?_
 refine go ?_
 by_cases h1 : (v - 1 : Int) < 0
 ·
  refine ysL (s := 20) (bT (decide_eq_true h1)) ?_
  refine go ?_
  refine yOp (ox_mkStruct (ps := []) (cs := #[(.int .i64 0), (.int .i64 0), (.int .i64 0), (.int .i64 0), (.int .i64 0), (.slice none 0 0)]) tZ_64.h tP_64.h rfl (by kernel_rfl) ?_)
  have q1 := (b2.keep1 e3 (b2.ne ((hc.ext e1).ext e2) (by decide)))
  refine y_st q1 ?_
  intro w4 e4 z4 b4
  replace b4 : Blk w4 w1.heap.size #[(.int .i64 0), (.int .i64 0), (.int .i64 0), (.int .i64 0), (.int .i64 0), (.slice none 0 0)] 64 := blk_full b4 rfl
  refine go ?_
  change leaves _ _ _ _ _ _ _
  refine leaves_nil (n := 57) (rs := [.cell 6 64, .tmp 7]) (vs := [(.agg #[(.int .i64 0), (.int .i64 0), (.int .i64 0), (.int .i64 0), (.int .i64 0), (.slice none 0 0)]), (.bool false)]) rfl ⟨⟨by decide, w1.heap.size, 0, 6, [(.int .i64 0), (.int .i64 0), (.int .i64 0), (.int .i64 0), (.int .i64 0), (.slice none 0 0)], rfl, tA_64.h, tS_64.h, rfl, ⟨b4.cell rfl, b4.cell rfl, b4.cell rfl, b4.cell rfl, b4.cell rfl, b4.cell rfl, trivial⟩, rfl⟩, ⟨by decide, rfl⟩, trivial⟩ ?_
  have hob : ownB e d v = (false, v - 1) := ownB_no (by omega)
  have y1 : Chg1 bc w w4 := (Chg.chg1 (Chg.trans (Chg.ext (Chg.ext (Chg.refl (fun x => x = bc) w) e1) e2) e3 (fun b hb hl => hb)) e4 (.inr (by omega)))
  exact ⟨exZero, by rw [hob] <;> rfl, by rw [hob]; exact (b3.keep1 e4 (b3.ne q1 (by decide))), (fun h9 => by rw [hob] at h9; cases h9), y1⟩
 ·
  refine ysL (s := 20) (bF (decide_eq_false h1)) ?_
  refine go ?_
  refine y_if (fun h2 => ?_) (fun h2 => ?_)
  ·
   refine go ?_
   refine yOp (ox_mkStruct (ps := []) (cs := #[(.int .i64 0), (.int .i64 0), (.int .i64 0), (.int .i64 0), (.int .i64 0), (.slice none 0 0)]) tZ_64.h tP_64.h rfl (by kernel_rfl) ?_)
   have q2 := (b2.keep1 e3 (b2.ne ((hc.ext e1).ext e2) (by decide)))
   refine y_st q2 ?_
   intro w5 e5 z5 b5
   replace b5 : Blk w5 w1.heap.size #[(.int .i64 0), (.int .i64 0), (.int .i64 0), (.int .i64 0), (.int .i64 0), (.slice none 0 0)] 64 := blk_full b5 rfl
   refine go ?_
   change leaves _ _ _ _ _ _ _
   refine leaves_nil (n := 57) (rs := [.cell 6 64, .tmp 7]) (vs := [(.agg #[(.int .i64 0), (.int .i64 0), (.int .i64 0), (.int .i64 0), (.int .i64 0), (.slice none 0 0)]), (.bool false)]) rfl ⟨⟨by decide, w1.heap.size, 0, 6, [(.int .i64 0), (.int .i64 0), (.int .i64 0), (.int .i64 0), (.int .i64 0), (.slice none 0 0)], rfl, tA_64.h, tS_64.h, rfl, ⟨b5.cell rfl, b5.cell rfl, b5.cell rfl, b5.cell rfl, b5.cell rfl, b5.cell rfl, trivial⟩, rfl⟩, ⟨by decide, rfl⟩, trivial⟩ ?_
   have hob : ownB e d v = (false, v - 1) := ownB_no (by omega)
   have y2 : Chg1 bc w w5 := (Chg.chg1 (Chg.trans (Chg.ext (Chg.ext (Chg.refl (fun x => x = bc) w) e1) e2) e3 (fun b hb hl => hb)) e5 (.inr (by omega)))
   exact ⟨exZero, by rw [hob] <;> rfl, by rw [hob]; exact (b3.keep1 e5 (b3.ne q2 (by decide))), (fun h9 => by rw [hob] at h9; cases h9), y2⟩
  ·
   have q3 := ((b1.ext e2).keep1 e3 ((b1.ext e2).ne ((hc.ext e1).ext e2) (by decide)))
   refine go ?_
   refine y_ld q3 ?_
   have x1 : Ext w0 w3 := (Ext.chg1 (Ext.trans (Ext.trans hE0 e1) e2) e3 (by omega))
   refine yCa (ret_mono (cloneEX e.list e.A e.c w3 (hE.row.1.ext x1) (by omega)) ?_)
   rintro _ w6 ⟨A1, c1, rfl, hn1, hnil1, e6⟩
   have he6 := e6.size
   refine go ?_
   refine y_st (q3.ext e6) ?_
   intro w7 e7 z6 b6
   replace b6 : Blk w7 w.heap.size #[(.int .i64 e.kind), (.int .i64 e.frm), (.int .i64 e.to), (.int .i64 e.min), (.int .i64 e.max), (.slice A1 e.list.length c1)] 64 := b6
   refine go ?_
   refine y_ld b6 ?_
   have q4 := (hn1.1.keep1 e7 (fun k hk => by have _q := hn1.2 k hk; omega))
   have hAlt : ∀ b, (Value.slice A1 e.list.length c1).ownBlock = some b → b < w7.heap.size := q4.lt
   have q5 := ((b3.ext e6).keep1 e7 ((b3.ext e6).ne (q3.ext e6) (by decide)))
   have hbcl : bc < w7.heap.size := q5.lt
   have q6 := (b2.keep1 e3 (b2.ne ((hc.ext e1).ext e2) (by decide)))
   have q7 := ((q6.ext e6).keep1 e7 (by have _q := b2.lt; omega))
   have y3 : Chg1 bc w w7 := (Chg.chg1 (Chg.ext (Chg.trans (Chg.ext (Chg.ext (Chg.refl (fun x => x = bc) w) e1) e2) e3 (fun b hb hl => hb)) e6) e7 (.inr (by omega)))
   refine go ?_
   refine xc_loopN (fun m_ f_ Wx => ∃ (i : Nat) (vv : Int) (L : List EX), m_ = e.list.length - i ∧ (i ≤ e.list.length) ∧ (ownBL e.list (d + 1) (v - 1) = ownBL (e.list.drop i) (d + 1) vv) ∧ (L.drop i = e.list.drop i) ∧ (0 ≤ vv ∧ vv ≤ 4096) ∧ f_ 1 = (.int .i64 d) ∧ f_ 2 = (.pointer (some ⟨bc, 0, none⟩)) ∧ f_ 3 = (.pointer (some ⟨w.heap.size, 0, none⟩)) ∧ f_ 6 = (.pointer (some ⟨w1.heap.size, 0, none⟩)) ∧ f_ 31 = (.int .i64 (((e.list.length : Nat) : Int))) ∧ f_ 32 = (.int .i64 ((i : Nat))) ∧ Vx.Own Wx 64 6 (.slice A1 e.list.length c1) e.list.length (L.flatMap EX.cs) ∧ (Blk Wx bc #[.int .i64 vv] 3) ∧ (CpF w7.heap.size Wx e.list L i) ∧ (w7.heap.size ≤ Wx.heap.size) ∧ Blk Wx w.heap.size #[(.int .i64 e.kind), (.int .i64 e.frm), (.int .i64 e.to), (.int .i64 e.min), (.int .i64 e.max), (.slice A1 e.list.length c1)] 64 ∧ Blk Wx w1.heap.size #[(.int .i64 0), (.int .i64 0), (.int .i64 0), (.int .i64 0), (.int .i64 0), (.slice none 0 0)] 64 ∧ Chg1 bc w Wx) (e.list.length) ?_ ?_
   ·
    exact ⟨0, (v - 1), e.list, (by omega), (by omega), rfl, rfl, (by omega), rfl, rfl, rfl, rfl, rfl, vW, q4, q5, (CpF.zero _ _ _ _), (Nat.le_refl _), b6, q7, y3⟩
   ·
    rintro m_ f1 w8 ⟨i, vv, L, hm_f1, hi, hq, hd, hvv, g1_f1, g2_f1, g3_f1, g6_f1, g31_f1, g32_f1, o0_f1, t0_f1, t1_f1, t2_f1, c0_f1, c1_f1, x2⟩
    have hx2 := x2.size
    have hl_L : L.length = e.list.length := by have _q := (o0_f1).len; rw [fm_len EX.len] at _q; omega
    rw [← usf g1_f1, ← usf g2_f1, ← usf g3_f1, ← usf g6_f1, ← usf g31_f1, ← usf g32_f1]
    refine go ?_
    refine y_if (fun h3 => ?_) (fun h3 => ?_)
    ·
     refine go ?_
     refine y_ld c0_f1 ?_
     obtain ⟨x_1, g_1, hx_1⟩ := own_may (A := A1) i EX.len (by decide) o0_f1
     obtain ⟨hx_2, hA_1, hc_1⟩ := hx_1 oM
     refine go ?_
     refine y_ix i hA_1 ?_
     refine y_lN (vs := [(.int .i64 x_1.kind), (.int .i64 x_1.frm), (.int .i64 x_1.to), (.int .i64 x_1.min), (.int .i64 x_1.max), (.slice x_1.A x_1.list.length x_1.c)]) hc_1 ?_
     refine go ?_
     refine y_add ?_
     have hex_ : e.list[i]? = some x_1 := (drop_get0 hd).symm.trans hx_2
     have x3 : Ext w0 w8 := (Ext.chg1 hE0 x2 (by omega))
     refine go ?_
     refine yCa (ret_mono (ih x_1 w8 (d + 1) vv (exN_mem (List.mem_of_getElem? hex_)) x3 (hE.row.2.2 _ (List.mem_of_getElem? hex_)) hbc t0_f1 hvv (by omega)) ?_)
     rintro _ w9 ⟨y_1, rfl, hb1, ht1, e8⟩
     have he8 := e8.size
     refine go ?_
     refine y_al ?_
     intro w10 e9 z7 b7
     refine y_st b7 ?_
     intro w11 e10 z8 b8
     replace b8 : Blk w11 w9.heap.size #[(.int .i64 y_1.kind), (.int .i64 y_1.frm), (.int .i64 y_1.to), (.int .i64 y_1.min), (.int .i64 y_1.max), (.slice y_1.A y_1.list.length y_1.c)] 64 := blk_full b8 rfl
     refine go ?_
     refine xc_cond (b := (!((ownB x_1 (d + 1) vv).1))) rfl (fun h4 => ?_) (fun h4 => ?_)
     ·
      have h4' := bS h4
      have hok_ : (ownB x_1 (d + 1) vv).1 = false := by revert h4; cases (ownB x_1 (d + 1) vv).1 <;> simp
      refine go ?_
      refine yOp (ox_mkStruct (ps := []) (cs := #[(.int .i64 0), (.int .i64 0), (.int .i64 0), (.int .i64 0), (.int .i64 0), (.slice none 0 0)]) tZ_64.h tP_64.h rfl (by kernel_rfl) ?_)
      have q8 := (c1_f1.keep1 e8 (by have _q := c1_f1.lt; omega))
      have q9 := ((q8.ext e9).keep1 e10 (by have _q := c1_f1.lt; omega))
      refine y_st q9 ?_
      intro w12 e11 z9 b9
      replace b9 : Blk w12 w1.heap.size #[(.int .i64 0), (.int .i64 0), (.int .i64 0), (.int .i64 0), (.int .i64 0), (.slice none 0 0)] 64 := blk_full b9 rfl
      refine go ?_
      change leaves _ _ _ _ _ _ _
      refine leaves_nil (n := 57) (rs := [.cell 6 64, .tmp 7]) (vs := [(.agg #[(.int .i64 0), (.int .i64 0), (.int .i64 0), (.int .i64 0), (.int .i64 0), (.slice none 0 0)]), (.bool false)]) rfl ⟨⟨by decide, w1.heap.size, 0, 6, [(.int .i64 0), (.int .i64 0), (.int .i64 0), (.int .i64 0), (.int .i64 0), (.slice none 0 0)], rfl, tA_64.h, tS_64.h, rfl, ⟨b9.cell rfl, b9.cell rfl, b9.cell rfl, b9.cell rfl, b9.cell rfl, b9.cell rfl, trivial⟩, rfl⟩, ⟨by decide, rfl⟩, trivial⟩ ?_
      have q10 := ((hb1.ext e9).keep1 e10 ((hb1.ext e9).ne b7 (by decide)))
      have hob : ownB e d v = (false, (ownB x_1 (d + 1) vv).2) := (ownB_yes (by omega)).trans (hq.trans (ownBL_bad hex_ hok_))
      have y4 : Chg1 bc w w12 := (Chg.chg1 (Chg.chg1 (Chg.ext (Chg.trans (Chg.trans (Chg.refl (fun x => x = bc) w) x2 (fun b hb hl => hb)) e8 (fun b hb hl => hb)) e9) e10 (.inr (by omega))) e11 (.inr (by omega)))
      exact ⟨exZero, by rw [hob] <;> rfl, by rw [hob]; exact (q10.keep1 e11 (q10.ne q9 (by decide))), (fun h9 => by rw [hob] at h9; cases h9), y4⟩
     ·
      have h4' := bS h4
      have hok_ : (ownB x_1 (d + 1) vv).1 = true := by revert h4; cases (ownB x_1 (d + 1) vv).1 <;> simp
      have q11 := (c0_f1.keep1 e8 (by have _q := c0_f1.lt; omega))
      have q12 := ((q11.ext e9).keep1 e10 (by have _q := c0_f1.lt; omega))
      refine go ?_
      refine y_ld q12 ?_
      refine go ?_
      refine y_lN (vs := [(.int .i64 y_1.kind), (.int .i64 y_1.frm), (.int .i64 y_1.to), (.int .i64 y_1.min), (.int .i64 y_1.max), (.slice y_1.A y_1.list.length y_1.c)]) ⟨b8.cell rfl, b8.cell rfl, b8.cell rfl, b8.cell rfl, b8.cell rfl, b8.cell rfl, trivial⟩ ?_
      have q13 := (o0_f1.keep1 e8 (fun k hk => by have _q := hn1.2 k hk; omega))
      have q14 := ((q13.ext e9).keep1 e10 (fun k hk => by have _q := (q13.lt) k hk; omega))
      obtain ⟨x_2, g_2, hx_3⟩ := own_may (A := A1) i EX.len (by decide) q14
      obtain ⟨hx_4, hA_2, hc_2⟩ := hx_3 oM
      refine y_ix i hA_2 ?_
      refine yNp (ox_stE (i := i) (off := 0) (vs := [(.int .i64 y_1.kind), (.int .i64 y_1.frm), (.int .i64 y_1.to), (.int .i64 y_1.min), (.int .i64 y_1.max), (.slice y_1.A y_1.list.length y_1.c)]) (b := (y_1 : EX)) EX.len tS_64.h hA_2 rfl (v := (.agg #[(.int .i64 y_1.kind), (.int .i64 y_1.frm), (.int .i64 y_1.to), (.int .i64 y_1.min), (.int .i64 y_1.max), (.slice y_1.A y_1.list.length y_1.c)])) rfl rfl rfl rfl q14 hx_4 rfl (by decide) (by omega) ?_)
      intro w13 e12 z10 o1
      refine go ?_
      refine y_add ?_
      have q15 := ((hb1.ext e9).keep1 e10 ((hb1.ext e9).ne b7 (by decide)))
      have q16 := (q15.keep e12 (fun _h => q14.ne_blk q15 (by decide) _ _h rfl))
      have hcp9 : CpX w7.heap.size w9 x_1 y_1 := (CpX.mono (by omega) (ht1 hok_))
      have x4 : Ext w9 w11 := (Ext.chg1 e9 e10 (by omega))
      have q17 := (CpF.ext (CpF.keep t1_f1 e8 (fun b hb => by subst hb; omega)) x4)
      have q18 := (q12.keep e12 (fun _h => by have _q := hn1.2 _ _h; have _q2 := c0_f1.lt; omega))
      have q19 := (c1_f1.keep1 e8 (by have _q := c1_f1.lt; omega))
      have q20 := ((q19.ext e9).keep1 e10 (by have _q := c1_f1.lt; omega))
      have q21 := (q20.keep e12 (fun _h => by have _q := hn1.2 _ _h; have _q2 := c1_f1.lt; omega))
      have y5 : Chg1 bc w w13 := (Chg.trans (Chg.chg1 (Chg.ext (Chg.trans (Chg.trans (Chg.refl (fun x => x = bc) w) x2 (fun b hb hl => hb)) e8 (fun b hb hl => hb)) e9) e10 (.inr (by omega))) e12 (fun b hb hl => absurd hl (by have _h := hn1.2 b hb; omega)))
      refine go ?_
      exact ⟨rfl, e.list.length - (i + 1), by omega, i + 1, (ownB x_1 (d + 1) vv).2, (L.set i y_1), by omega, (by omega), (hq.trans (ownBL_next hex_ hok_)), (drop_set hd), (by have _b := (ownB_bd x_1 (d + 1) vv hok_ (by omega)); omega), rfl, rfl, rfl, rfl, rfl, vW, o1, q16, (CpF.snoc (CpF.keep q17 e12 hAlt) hex_ (CpX.keep (CpX.ext hcp9 x4) e12 hAlt) (by omega)), (by omega), q18, q21, y5⟩
    ·
     refine go ?_
     refine y_lN (vs := [(.int .i64 e.kind), (.int .i64 e.frm), (.int .i64 e.to), (.int .i64 e.min), (.int .i64 e.max), (.slice A1 e.list.length c1)]) ⟨c0_f1.cell rfl, c0_f1.cell rfl, c0_f1.cell rfl, c0_f1.cell rfl, c0_f1.cell rfl, c0_f1.cell rfl, trivial⟩ ?_
     refine y_st c1_f1 ?_
     intro w14 e13 z11 b10
     replace b10 : Blk w14 w1.heap.size #[(.int .i64 e.kind), (.int .i64 e.frm), (.int .i64 e.to), (.int .i64 e.min), (.int .i64 e.max), (.slice A1 e.list.length c1)] 64 := blk_full b10 rfl
     refine go ?_
     change leaves _ _ _ _ _ _ _
     refine leaves_nil (n := 57) (rs := [.cell 6 64, .tmp 7]) (vs := [(.agg #[(.int .i64 e.kind), (.int .i64 e.frm), (.int .i64 e.to), (.int .i64 e.min), (.int .i64 e.max), (.slice A1 e.list.length c1)]), (.bool true)]) rfl ⟨⟨by decide, w1.heap.size, 0, 6, [(.int .i64 e.kind), (.int .i64 e.frm), (.int .i64 e.to), (.int .i64 e.min), (.int .i64 e.max), (.slice A1 e.list.length c1)], rfl, tA_64.h, tS_64.h, rfl, ⟨b10.cell rfl, b10.cell rfl, b10.cell rfl, b10.cell rfl, b10.cell rfl, b10.cell rfl, trivial⟩, rfl⟩, ⟨by decide, rfl⟩, trivial⟩ ?_
     have q22 := (t0_f1.keep1 e13 (t0_f1.ne c1_f1 (by decide)))
     have hob : ownB e d v = (true, vv) := (ownB_yes (by omega)).trans (hq.trans (by rw [List.drop_of_length_le (by omega)] <;> rfl))
     have q23 := (o0_f1.keep1 e13 (fun k hk => by have _q := hn1.2 k hk; omega))
     have hLl : L.length = e.list.length := hl_L
     have hT9 := (CpF.keep t1_f1 e13 (fun b hb => by subst hb; omega))
     have y6 : Chg1 bc w w14 := (Chg.chg1 (Chg.trans (Chg.refl (fun x => x = bc) w) x2 (fun b hb hl => hb)) e13 (.inr (by omega)))
     exact ⟨EX.mk e.kind e.frm e.to e.min e.max A1 c1 L, by rw [hob]; show one [_, _] = Value.tuple #[Value.agg #[_, _, _, _, _, .slice _ L.length _], _]; rw [hLl] <;> rfl, by rw [hob]; exact q22, fun _ => CpX.node hnil1 hLl (by omega) q23 (fun k hk => by have _h := hn1.2 k hk; omega) (CpL.mono (by omega) (hT9.all (by omega) hLl)), y6⟩
theorem ownExpr_calls (bc : Nat) (w0 : World) (e : EX) (w : World) (d v : Int) : Ext w0 w → ExR w0 e → w0.heap.size ≤ bc → Blk w bc #[.int .i64 v] 3 → 0 ≤ v ∧ v ≤ 4096 → 0 ≤ d ∧ d ≤ 65 → Calls Tryz.prog 82 #[(.agg #[(.int .i64 e.kind), (.int .i64 e.frm), (.int .i64 e.to), (.int .i64 e.min), (.int .i64 e.max), (.slice e.A e.list.length e.c)]), .int .i64 d, .pointer (some ⟨bc, 0, none⟩)] w (Ret fun v' w' => ∃ e', v' = .tuple #[.agg (EX.cs e').toArray, .bool (ownB e d v).1] ∧ Blk w' bc #[.int .i64 (ownB e d v).2] 3 ∧ ((ownB e d v).1 = true → CpX w.heap.size w' e e') ∧ Chg1 bc w w') := by
  have key : ∀ n : Nat, ∀ e : EX, exN e = n → ∀ (w : World) (d v : Int), Ext w0 w → ExR w0 e → w0.heap.size ≤ bc → Blk w bc #[.int .i64 v] 3 → 0 ≤ v ∧ v ≤ 4096 → 0 ≤ d ∧ d ≤ 65 → Calls Tryz.prog 82 #[(.agg #[(.int .i64 e.kind), (.int .i64 e.frm), (.int .i64 e.to), (.int .i64 e.min), (.int .i64 e.max), (.slice e.A e.list.length e.c)]), .int .i64 d, .pointer (some ⟨bc, 0, none⟩)] w (Ret fun v' w' => ∃ e', v' = .tuple #[.agg (EX.cs e').toArray, .bool (ownB e d v).1] ∧ Blk w' bc #[.int .i64 (ownB e d v).2] 3 ∧ ((ownB e d v).1 = true → CpX w.heap.size w' e e') ∧ Chg1 bc w w') := by
    intro n
    induction n using Nat.strongRecOn with
    | _ n ih => intro e he w d v h1 h2 h3 h4 h5 h6; exact ownExpr_step e d v bc w0 (fun x w d v hx => ih (exN x) (by omega) x rfl w d v) w h1 h2 h3 h4 h5 h6
  exact key _ e rfl w d v
def RevI (l M : List Sym) (i j : Int) : Prop := ∀ k : Nat, k < l.length → M[k]? = if (k : Int) < i ∨ j < (k : Int) then l[l.length - 1 - k]? else l[k]?
theorem rev_start (l : List Sym) : RevI l l 0 ((l.length : Int) - 1) := fun k hk => by rw [if_neg (by omega)]
theorem rev_next {l M : List Sym} {i j : Int} {x y : Sym} (h : 0 ≤ i ∧ i + j = (l.length : Int) - 1) (hlt : i < j) (hl : M.length = l.length) (hM : RevI l M i j) (hx : M[i.toNat]? = some x) (hy : M[j.toNat]? = some y) : RevI l ((M.set i.toNat y).set j.toNat x) (i + 1) (j - 1) := fun k hk => by
  have h1 := hM i.toNat (by omega)
  have h2 := hM j.toNat (by omega)
  rw [if_neg (by omega), hx] at h1
  rw [if_neg (by omega), hy] at h2
  by_cases hkj : k = j.toNat
  · subst hkj
    rw [List.getElem?_set_self (by rw [List.length_set]; omega), if_pos (by omega), show l.length - 1 - j.toNat = i.toNat by omega]; exact h1
  · rw [List.getElem?_set_ne (fun hh => hkj hh.symm)]
    by_cases hki : k = i.toNat
    · subst hki
      rw [List.getElem?_set_self (by omega), if_pos (by omega), show l.length - 1 - i.toNat = j.toNat by omega]; exact h2
    · rw [List.getElem?_set_ne (fun hh => hki hh.symm), hM k hk]
      by_cases hc : (k : Int) < i ∨ j < (k : Int)
      · rw [if_pos hc, if_pos (by omega)]
      · rw [if_neg hc, if_neg (by omega)]
theorem rev_end {l M : List Sym} {i j : Int} (h : 0 ≤ i ∧ i + j = (l.length : Int) - 1) (hge : j ≤ i) (hl : M.length = l.length) (hM : RevI l M i j) : M = l.reverse := by
  apply List.ext_getElem?
  intro k
  by_cases hk : k < l.length
  · rw [hM k hk, List.getElem?_reverse hk]
    by_cases hc : (k : Int) < i ∨ j < (k : Int)
    · rw [if_pos hc]
    · rw [if_neg hc, show l.length - 1 - k = k by omega]
  · rw [List.getElem?_eq_none (by omega), List.getElem?_eq_none (by simp; omega)]
theorem reverse_calls (l : List Sym) (A : Option Addr) (c : Nat) (w : World) (hO : Vx.Own w 32 2 (.slice A l.length c) l.length (l.flatMap Sym.cs)) (hn : l.length ≤ 8796093022208) :
    Calls Tryz.prog 52 #[(.slice A l.length c)] w (Ret (fun v w' => v = .tuple #[] ∧ Vx.Own w' 32 2 (.slice A l.length c) l.length (l.reverse.flatMap Sym.cs) ∧ Chg (fun b => (Value.slice A l.length c).ownBlock = some b) w w')) := by
 refine calls_y (n := 28) Tryz.func52 ?_
 refine go ?_
 refine y_sub ?_
 refine go ?_
 refine xc_loopN (fun m_ f_ Wx => ∃ (i : Int) (j : Int) (M : List Sym), m_ = (j - i).toNat ∧ (0 ≤ i ∧ i + j = (l.length : Int) - 1) ∧ (RevI l M i j) ∧ f_ 0 = (.slice A l.length c) ∧ f_ 2 = (.int .i64 i) ∧ f_ 3 = (.int .i64 j) ∧ Vx.Own Wx 32 2 (.slice A l.length c) l.length (M.flatMap Sym.cs) ∧ Chg (fun b => ((.slice A l.length c) : Value).ownBlock = some b) w Wx) (((l.length : Int) - 1 - 0).toNat) ?_ ?_
 ·
  exact ⟨0, ((l.length : Int) - 1), l, (by omega), (by omega), (rev_start l), rfl, vW, vW, hO, (Chg.refl _ _)⟩
 ·
  rintro m_ f1 w1 ⟨i, j, M, hm_f1, hij, hM, g0_f1, g2_f1, g3_f1, o0_f1, x1⟩
  have hx1 := x1.size
  have hl_M : M.length = l.length := by have _q := (o0_f1).len; rw [fm_len Sym.len] at _q; omega
  rw [← usf g0_f1, ← usf g2_f1, ← usf g3_f1]
  refine go ?_
  refine y_if (fun h1 => ?_) (fun h1 => ?_)
  ·
   refine go ?_
   refine xc_regionE [13, 15] (fun W_ => Chg (fun _ => False) w1 W_) hmix ?_
   intro w2 e1 z1
   have hS1 : Chg (fun _ => False) w1 w2 := Ext.to e1
   refine yDp 0 ?_
   refine yDp 1 ?_
   refine yDp 2 ?_
   refine yDp 3 ?_
   refine yDp 4 ?_
   refine yDp 5 ?_
   obtain ⟨x_1, g_1, hx_1⟩ := own_may (A := A) j.toNat Sym.len (by decide) o0_f1
   obtain ⟨hx_2, hA_1, hc_1⟩ := hx_1 oM
   refine yDx (i := 6) j.toNat hA_1 ?_
   refine yDt (i := 7) rfl hS1 (fun W_ hW_ => ox_loadN (vs := [(.int .i64 x_1.kind), (.int .i64 x_1.n)]) tA_32.h tS_32.h rfl rfl (CellsL.keep hW_ not_false hc_1) ⟨rfl, rfl⟩) ?_
   refine yDp 8 ?_
   refine yDp 9 ?_
   obtain ⟨x_2, g_2, hx_3⟩ := own_may (A := A) i.toNat Sym.len (by decide) o0_f1
   obtain ⟨hx_4, hA_2, hc_2⟩ := hx_3 oM
   refine yDx (i := 10) i.toNat hA_2 ?_
   refine yDt (i := 11) rfl hS1 (fun W_ hW_ => ox_loadN (vs := [(.int .i64 x_2.kind), (.int .i64 x_2.n)]) tA_32.h tS_32.h rfl rfl (CellsL.keep hW_ not_false hc_2) ⟨rfl, rfl⟩) ?_
   refine yDx (i := 12) i.toNat hA_2 ?_
   refine yD1 (i := 13) rfl (ox_stE (i := i.toNat) (off := 0) (vs := [(.int .i64 x_1.kind), (.int .i64 x_1.n)]) (b := ((⟨x_1.kind, x_1.n⟩ : Sym) : Sym)) Sym.len tS_32.h hA_2 rfl (v := (.agg #[(.int .i64 x_1.kind), (.int .i64 x_1.n)])) rfl rfl rfl rfl (o0_f1.ext e1) hx_4 rfl (by decide) (by omega) ?_)
   intro w3 e2 z2 o1
   refine ⟨.inl (by decide), ?_⟩
   obtain ⟨x_3, g_3, hx_5⟩ := own_may (A := A) j.toNat Sym.len (by decide) o1
   obtain ⟨hx_6, hA_3, hc_3⟩ := hx_5 oM
   refine yDx (i := 14) j.toNat hA_3 ?_
   refine yD1 (i := 15) rfl (ox_stE (i := j.toNat) (off := 0) (vs := [(.int .i64 x_2.kind), (.int .i64 x_2.n)]) (b := ((⟨x_2.kind, x_2.n⟩ : Sym) : Sym)) Sym.len tS_32.h hA_3 rfl (v := (.agg #[(.int .i64 x_2.kind), (.int .i64 x_2.n)])) rfl rfl rfl rfl o1 hx_6 rfl (by decide) (by omega) ?_)
   intro w4 e3 z3 o2
   refine ⟨.inl (by decide), ?_⟩
   refine xd_done (by kernel_rfl) ?_ _
   refine go ?_
   refine y_add ?_
   refine go ?_
   refine y_sub ?_
   have y1 : Chg (fun b => ((.slice A l.length c) : Value).ownBlock = some b) w w4 := (Chg.trans (Chg.trans (Chg.ext (Chg.trans (Chg.refl (fun b => ((.slice A l.length c) : Value).ownBlock = some b) w) x1 (fun b hb hl => hb)) e1) e2 (fun b hb hl => hb)) e3 (fun b hb hl => hb))
   refine go ?_
   exact ⟨rfl, (j - 1 - (i + 1)).toNat, by omega, (i + 1), (j - 1), (((M.set i.toNat ((⟨x_1.kind, x_1.n⟩ : Sym)))).set j.toNat ((⟨x_2.kind, x_2.n⟩ : Sym))), by omega, (by omega), (rev_next (by omega) (by omega) hl_M hM hx_4 hx_2), rfl, vW, vW, o2, y1⟩
  ·
   refine go ?_
   refine y_r0 ?_
   have y2 : Chg (fun b => ((.slice A l.length c) : Value).ownBlock = some b) w w1 := (Chg.trans (Chg.refl (fun b => ((.slice A l.length c) : Value).ownBlock = some b) w) x1 (fun b hb hl => hb))
   exact ⟨rfl, by rw [← rev_end (by omega) (by omega) hl_M hM]; exact o0_f1, y2⟩
def lrZero : LR := ⟨⟨#[]⟩, false, exZero⟩
def lrMark : LR := ⟨⟨#[109, 97, 114, 107]⟩, false, exZero⟩
def pdZero : PD := ⟨0, none, 0, []⟩
def pdMark : PD := ⟨-77, none, 0, []⟩
theorem row_mark {α : Type} {r : List α} {z m : α} {n : Nat} (hn : n = r.length) : (r ++ (List.replicate (n + 1) z).drop n).set n m = r ++ [m] := by
  subst hn
  rw [List.set_append_right _ _ (by omega), Nat.sub_self, List.drop_replicate, show r.length + 1 - r.length = 1 by omega]; rfl
theorem set_lastA {α : Type} {n : Nat} {L : List α} {x : α} (h : L.length = n + 1) : (L.take n).length = n ∧ L.set n x = L.take n ++ [x] := by
  refine ⟨by rw [List.length_take]; omega, ?_⟩
  have h1 : L = L.take n ++ L.drop n := (List.take_append_drop n L).symm
  have h2 : (L.drop n).length = 1 := by rw [List.length_drop]; omega
  obtain ⟨y, hy⟩ := List.length_eq_one_iff.1 h2
  conv => lhs; rw [h1, hy]
  rw [List.set_append_right _ _ (by rw [List.length_take]; omega), show n - (L.take n).length = 0 by rw [List.length_take]; omega]; rfl
section
variable {B B' i : Nat} {K : Nat → Prop} {w w' : World}
theorem TwX.keepC {e e' : EX} (h : TwX B w e e') (c : Chg K w w') (hk : ∀ b, B ≤ b → b < w.heap.size → ¬ K b) : TwX B w' e e' := h.imp id fun h => ⟨h.1, TwR.keepC c hk h.2⟩
theorem TwX.keep {e e' : EX} (h : TwX B w e e') (c : Chg K w w') (hk : ∀ b, K b → b < B) : TwX B w' e e' := h.imp id fun h => ⟨h.1, h.2.keep c hk⟩
theorem TwX.ext {e e' : EX} (h : TwX B w e e') (c : Ext w w') : TwX B w' e e' := h.imp id fun h => ⟨h.1, h.2.ext c⟩
theorem TwX.mono {e e' : EX} (hB : B' ≤ B) (h : TwX B w e e') : TwX B' w e e' := h.imp id fun h => ⟨h.1, h.2.mono hB⟩
def LxR (B : Nat) (w : World) (x y : LR) : Prop := y.name = x.name ∧ y.trivia = x.trivia ∧ TwX B w x.e y.e
def LxF (B : Nat) (w : World) (l L : List LR) (i : Nat) : Prop := ∀ (j : Nat) (x y : LR), j < i → l[j]? = some x → L[j]? = some y → LxR B w x y
theorem LxF.zero (B : Nat) (w : World) (l L : List LR) : LxF B w l L 0 := fun j _ _ h => by omega
theorem LxF.keepC {l L : List LR} (h : LxF B w l L i) (c : Chg K w w') (hk : ∀ b, K b → B ≤ b → b < w.heap.size → False) : LxF B w' l L i := fun j x y hj hx hy => ⟨(h j x y hj hx hy).1, (h j x y hj hx hy).2.1, (h j x y hj hx hy).2.2.keepC c fun b h1 h2 h3 => hk b h3 h1 h2⟩
theorem LxF.keep {l L : List LR} (h : LxF B w l L i) (c : Chg K w w') (hk : ∀ b, K b → b < B) : LxF B w' l L i := h.keepC c fun b hb h1 _ => by have := hk b hb; omega
theorem LxF.ext {l L : List LR} (h : LxF B w l L i) (c : Ext w w') : LxF B w' l L i := h.keep c fun _ hb => hb.elim
theorem LxF.mono {l L : List LR} (hB : B' ≤ B) (h : LxF B w l L i) : LxF B' w l L i := fun j x y hj hx hy => ⟨(h j x y hj hx hy).1, (h j x y hj hx hy).2.1, (h j x y hj hx hy).2.2.mono hB⟩
theorem LxF.snoc {l L : List LR} {x y : LR} (h : LxF B w l L i) (hx : l[i]? = some x) (ht : LxR B w x y) (hi : i < L.length) : LxF B w l (L.set i y) (i + 1) := fun j a b hj ha hb => by
  by_cases hji : j = i
  · subst hji
    rw [hx] at ha; cases ha
    rw [List.getElem?_set_self hi] at hb; cases hb; exact ht
  · rw [List.getElem?_set_ne (fun hh => hji hh.symm)] at hb
    exact h j a b (by omega) ha hb
theorem LxF.take {l L : List LR} (h : LxF B w l L i) (hi : l.length ≤ i) (j : Nat) (x y : LR) (hx : l[j]? = some x) (hy : (L.take l.length)[j]? = some y) : LxR B w x y := by
  have hj := (List.getElem?_eq_some_iff.1 hx).1
  rw [List.getElem?_take, if_pos hj] at hy
  exact h j x y (by omega) hx hy
structure PdR (B : Nat) (w : World) (x y : PD) : Prop where
  left : y.left = x.left
  right : y.right = x.right
  rc : y.rc = x.right.length + 1
  own : Vx.Own w 32 2 (.slice y.rA (x.right.length + 1) (x.right.length + 1)) (x.right.length + 1) ((x.right ++ [(⟨77, 0⟩ : Sym)]).flatMap Sym.cs)
  low : ∀ k, (Value.slice y.rA (x.right.length + 1) (x.right.length + 1)).ownBlock = some k → B ≤ k
structure PdF (B : Nat) (w : World) (l L : List PD) (i : Nat) : Prop where
  all : ∀ (j : Nat) (x y : PD), j < i → l[j]? = some x → L[j]? = some y → PdR B w x y
  apart : ∀ (j k : Nat) (y z : PD), j < k → k < i → L[j]? = some y → L[k]? = some z → ∀ b, (Value.slice y.rA 0 0).ownBlock = some b → (Value.slice z.rA 0 0).ownBlock = some b → False
theorem PdR.keepC {x y : PD} (h : PdR B w x y) (c : Chg K w w') (hk : ∀ b, K b → B ≤ b → b < w.heap.size → False) : PdR B w' x y := ⟨h.left, h.right, h.rc, h.own.keep c fun k h1 h2 => hk k h2 (h.low k h1) (h.own.lt k h1), h.low⟩
theorem PdF.zero (B : Nat) (w : World) (l L : List PD) : PdF B w l L 0 := ⟨fun j _ _ h => by omega, fun j k _ _ _ h => by omega⟩
theorem PdF.keepC {l L : List PD} (h : PdF B w l L i) (c : Chg K w w') (hk : ∀ b, K b → B ≤ b → b < w.heap.size → False) : PdF B w' l L i := ⟨fun j x y hj hx hy => (h.all j x y hj hx hy).keepC c hk, h.apart⟩
theorem PdF.keep {l L : List PD} (h : PdF B w l L i) (c : Chg K w w') (hk : ∀ b, K b → b < B) : PdF B w' l L i := h.keepC c fun b hb h1 _ => by have := hk b hb; omega
theorem PdF.ext {l L : List PD} (h : PdF B w l L i) (c : Ext w w') : PdF B w' l L i := h.keep c fun _ hb => hb.elim
theorem PdF.mono {l L : List PD} (hB : B' ≤ B) (h : PdF B w l L i) : PdF B' w l L i := ⟨fun j x y hj hx hy => have q := h.all j x y hj hx hy; ⟨q.left, q.right, q.rc, q.own, fun k hk => Nat.le_trans hB (q.low k hk)⟩, h.apart⟩
theorem PdF.snoc {l L : List PD} {x y : PD} (h : PdF B w l L i) (hx : l[i]? = some x) (ht : PdR B w x y) (hi : i < L.length) (hn : ∀ (j : Nat) (z : PD), j < i → L[j]? = some z → ∀ b, (Value.slice z.rA 0 0).ownBlock = some b → (Value.slice y.rA 0 0).ownBlock = some b → False) : PdF B w l (L.set i y) (i + 1) := by
  refine ⟨fun j a b hj ha hb => ?_, fun j k a b hjk hk ha hb => ?_⟩
  · by_cases hji : j = i
    · subst hji
      rw [hx] at ha; cases ha
      rw [List.getElem?_set_self hi] at hb; cases hb; exact ht
    · rw [List.getElem?_set_ne (fun hh => hji hh.symm)] at hb
      exact h.all j a b (by omega) ha hb
  · rw [List.getElem?_set_ne (by omega)] at ha
    by_cases hki : k = i
    · subst hki
      rw [List.getElem?_set_self hi] at hb; cases hb
      exact hn j a hjk ha
    · rw [List.getElem?_set_ne (fun hh => hki hh.symm)] at hb
      exact h.apart j k a b hjk (by omega) ha hb
theorem PdF.lt {l L : List PD} (h : PdF B w l L i) {j : Nat} {y : PD} (hj : j < i ∧ i ≤ l.length) (hy : L[j]? = some y) : ∀ b, (Value.slice y.rA 0 0).ownBlock = some b → b < w.heap.size := fun b hb => by
  obtain ⟨x, hx⟩ : ∃ x, l[j]? = some x := ⟨l[j]'(by omega), List.getElem?_eq_getElem _⟩
  exact (h.all j x y hj.1 hx hy).own.lt b (own_any hb)
theorem PdF.take {l L : List PD} (h : PdF B w l L i) (hi : l.length ≤ i) : PdF B w l (L.take l.length) l.length := by
  refine ⟨fun j x y hj hx hy => ?_, fun j k y z hjk hk hy hz => ?_⟩
  · rw [List.getElem?_take, if_pos hj] at hy
    exact h.all j x y (by omega) hx hy
  · rw [List.getElem?_take, if_pos (by omega)] at hy
    rw [List.getElem?_take, if_pos hk] at hz
    exact h.apart j k y z hjk (by omega) hy hz
end
structure LendR (B : Nat) (w : World) (s s' : SP) : Prop where
  lexO : Vx.Own w 66 8 (.slice s'.lA (s.lex.length + 1) (s.lex.length + 1)) (s.lex.length + 1) ((s'.lex ++ [lrMark]).flatMap LR.cs)
  lexL : s'.lex.length = s.lex.length
  lexC : s'.lc = s.lex.length + 1
  lexR : ∀ (j : Nat) (x y : LR), s.lex[j]? = some x → s'.lex[j]? = some y → LxR B w x y
  namesO : Vx.Own w 9 1 (.slice s'.nA (s.names.length + 1) (s.names.length + 1)) (s.names.length + 1) ((s.names ++ [(⟨#[109, 97, 114, 107]⟩ : ByteArray)]).flatMap strs)
  names : s'.names = s.names
  namesC : s'.nc = s.names.length + 1
  start : s'.start = s.start
  prodsO : Vx.Own w 37 2 (.slice s'.pA (s.prods.length + 1) (s.prods.length + 1)) (s.prods.length + 1) ((s'.prods ++ [pdMark]).flatMap PD.cs)
  prodsL : s'.prods.length = s.prods.length
  prodsC : s'.pc = s.prods.length + 1
  prodsR : PdF B w s.prods s'.prods s.prods.length
  lowL : ∀ k, (Value.slice s'.lA (s.lex.length + 1) (s.lex.length + 1)).ownBlock = some k → B ≤ k
  lowN : ∀ k, (Value.slice s'.nA (s.names.length + 1) (s.names.length + 1)).ownBlock = some k → B ≤ k
  lowP : ∀ k, (Value.slice s'.pA (s.prods.length + 1) (s.prods.length + 1)).ownBlock = some k → B ≤ k
instance pf_53 : PlF Tryz.prog 53 := ⟨by kernel_rfl⟩
instance tA_9 : AggF Tryz.prog 9 := ⟨by kernel_rfl⟩
instance tF_66_0 : FdT Tryz.prog 66 0 0 := ⟨by kernel_rfl⟩
instance tF_66_2 : FdT Tryz.prog 66 2 2 := ⟨by kernel_rfl⟩
instance tP_26 : PcT Tryz.prog 26 #[(0, 1), (1, 1), (2, 1), (3, 1)] := ⟨by kernel_rfl⟩
instance tP_37 : PcT Tryz.prog 37 #[(0, 1), (1, 1)] := ⟨by kernel_rfl⟩
instance tP_66 : PcT Tryz.prog 66 #[(0, 1), (1, 1), (2, 6)] := ⟨by kernel_rfl⟩
instance tS_66 : SzT Tryz.prog 66 8 := ⟨by kernel_rfl⟩
instance tS_9 : SzT Tryz.prog 9 1 := ⟨by kernel_rfl⟩
instance tZ_26 : ZrT Tryz.prog 26 (.agg #[(.slice none 0 0), (.slice none 0 0), (.int .i64 0), (.slice none 0 0)]) := ⟨by kernel_rfl⟩
instance tZ_66 : ZrT Tryz.prog 66 (.agg #[(.string (⟨#[]⟩)), (.bool false), (.int .i64 0), (.int .i64 0), (.int .i64 0), (.int .i64 0), (.int .i64 0), (.slice none 0 0)]) := ⟨by kernel_rfl⟩
theorem lend_calls (s : SP) (w : World) (hS : SpR w s) :
    Calls Tryz.prog 30 #[(.agg #[(.slice s.lA s.lex.length s.lc), (.slice s.nA s.names.length s.nc), (.int .i64 s.start), (.slice s.pA s.prods.length s.pc)])] w (Ret (fun v w' => ∃ s', v = .agg #[.slice s'.lA s'.lex.length s'.lc, .slice s'.nA s'.names.length s'.nc, .int .i64 s'.start, .slice s'.pA s'.prods.length s'.pc] ∧ LendR w.heap.size w' s s' ∧ Ext w w')) := by
 have hbl := hS.fl.by; have hbn := hS.fn.by; have hbp := hS.fp.by; have hnl := hS.fl.le; have hnn := hS.fn.le; have hnp := hS.fp.le
 refine calls_y (n := 132) Tryz.func30 ?_
 refine go ?_
 refine y_bx ?_
 intro w1 e1 z1 b1
 refine y_al ?_
 intro w2 e2 z2 b2
 refine go ?_
 refine y_ld (b1.ext e2) ?_
 refine go ?_
 refine y_add ?_
 refine yOp (ox_makeD (n := ((s.lex.length + 1))) (l := ((List.replicate (s.lex.length + 1) lrZero))) (cs := LR.cs) tE_22.h rfl rfl (by omega) (by omega) (made_flat (z := #[(.string (⟨#[]⟩)), (.bool false), (.int .i64 0), (.int .i64 0), (.int .i64 0), (.int .i64 0), (.int .i64 0), (.slice none 0 0)]) (cs := LR.cs) (x := lrZero) rfl (by decide) _) ?_)
 intro A1 w3 o1 e3 lo1
 have he3 := e3.size
 have hlt1 : ∀ b, (Value.slice A1 (s.lex.length + 1) (s.lex.length + 1)).ownBlock = some b → b < w3.heap.size := o1.lt
 refine go ?_
 refine xc_loopN (fun m_ f_ Wx => ∃ (i : Nat) (L : List LR), m_ = s.lex.length - i ∧ (i ≤ s.lex.length) ∧ f_ 1 = (.pointer (some ⟨w.heap.size, 0, none⟩)) ∧ f_ 2 = (.pointer (some ⟨w1.heap.size, 0, none⟩)) ∧ f_ 3 = (.slice A1 ((s.lex.length + 1)) ((s.lex.length + 1))) ∧ f_ 4 = (.int .i64 ((i : Nat))) ∧ Vx.Own Wx 66 8 (.slice A1 ((s.lex.length + 1)) ((s.lex.length + 1))) ((s.lex.length + 1)) (L.flatMap LR.cs) ∧ (LxF w3.heap.size Wx s.lex L i) ∧ Chg (fun b => ((.slice A1 ((s.lex.length + 1)) ((s.lex.length + 1))) : Value).ownBlock = some b) w3 Wx) (s.lex.length) ?_ ?_
 ·
  exact ⟨0, (List.replicate (s.lex.length + 1) lrZero), (by omega), (by omega), rfl, rfl, rfl, vW, o1, (LxF.zero _ _ _ _), (Chg.refl _ _)⟩
 ·
  rintro m_ f1 w4 ⟨i, L, hm_f1, hi, g1_f1, g2_f1, g3_f1, g4_f1, o0_f1, t0_f1, x1⟩
  have hx1 := x1.size
  have hl_L : L.length = (s.lex.length + 1) := by have _q := (o0_f1).len; rw [fm_len LR.len] at _q; omega
  rw [← usf g1_f1, ← usf g2_f1, ← usf g3_f1, ← usf g4_f1]
  have q1 := (((b1.ext e2).ext e3).keep x1 (fun _h => o1.ne_blk ((b1.ext e2).ext e3) (by decide) _ _h rfl))
  refine go ?_
  refine y_ld q1 ?_
  refine go ?_
  refine y_if (fun h1 => ?_) (fun h1 => ?_)
  ·
   refine go ?_
   refine xc_regionE [23] (fun W_ => Chg (fun _ => False) w4 W_) hmix ?_
   intro w5 e4 z4
   have hS1 : Chg (fun _ => False) w4 w5 := Ext.to e4
   refine yDp 0 ?_
   refine yDp 1 ?_
   refine yDp 2 ?_
   refine yDt (i := 3) rfl hS1 (fun W_ hW_ => ox_load tA_22.h rfl ((q1.ext hW_).cell rfl) ⟨rfl, rfl⟩) ?_
   refine yDp 4 ?_
   have x2 : Ext w w4 := (Chg.trans (Ext.trans (Ext.trans e1 e2) e3) x1 (fun b hb hl => (absurd hl (by have _h := lo1 b hb; omega))))
   obtain ⟨x_1, g_1, o_1, hx_1⟩ := row_may (A := s.lA) (cs := LR.cs) i LR.len (by decide) (RowA.ext hS.lex x2)
   obtain ⟨hx_2, hA_1, hc_1⟩ := hx_1 oM
   refine yDx (i := 5) i hA_1 ?_
   refine yDp 6 ?_
   refine yDt (i := 7) rfl hS1 (fun W_ hW_ => ox_load tA_9.h rfl (CellsL.at1 (CellsL.keep hW_ not_false hc_1) 0 rfl) ⟨rfl, rfl⟩) ?_
   refine yDp 8 ?_
   refine yDt (i := 9) rfl hS1 (fun W_ hW_ => ox_load tA_22.h rfl ((q1.ext hW_).cell rfl) ⟨rfl, rfl⟩) ?_
   refine yDp 10 ?_
   refine yDx (i := 11) i hA_1 ?_
   refine yDp 12 ?_
   refine yDt (i := 13) rfl hS1 (fun W_ hW_ => ox_load tA_4.h rfl (CellsL.at1 (CellsL.keep hW_ not_false hc_1) 1 rfl) ⟨rfl, rfl⟩) ?_
   refine yDp 14 ?_
   refine yDt (i := 15) rfl hS1 (fun W_ hW_ => ox_load tA_22.h rfl ((q1.ext hW_).cell rfl) ⟨rfl, rfl⟩) ?_
   refine yDp 16 ?_
   refine yDx (i := 17) i hA_1 ?_
   refine yDp 18 ?_
   refine yDt (i := 19) rfl hS1 (fun W_ hW_ => ox_loadN (vs := [(.int .i64 x_1.e.kind), (.int .i64 x_1.e.frm), (.int .i64 x_1.e.to), (.int .i64 x_1.e.min), (.int .i64 x_1.e.max), (.slice x_1.e.A x_1.e.list.length x_1.e.c)]) tA_64.h tS_64.h rfl rfl (CellsL.sub (CellsL.keep hW_ not_false hc_1) 2 6 rfl) ⟨rfl, rfl⟩) ?_
   have x3 : Ext w w5 := (Ext.trans x2 e4)
   refine yD1 (i := 20) rfl (yCx (ret_mono (twinExpr_calls x_1.e w5 ((hS.ex _ (List.mem_of_getElem? hx_2)).ext x3)) ?_))
   rintro _ w6 ⟨y_1, rfl, ht1, e5⟩
   have he5 := e5.size
   have hS2 : Chg (fun _ => False) w4 w6 := Chg.ext hS1 e5
   refine ⟨.inr fun _ => hS2, ?_⟩
   refine yDq (i := 21) rfl (fun W_ hW_ => ox_mkStruct (ps := [(0, (.string x_1.name)), (1, (.bool x_1.trivia)), (2, (.agg #[(.int .i64 y_1.kind), (.int .i64 y_1.frm), (.int .i64 y_1.to), (.int .i64 y_1.min), (.int .i64 y_1.max), (.slice y_1.A y_1.list.length y_1.c)]))]) (cs := #[(.string x_1.name), (.bool x_1.trivia), (.int .i64 y_1.kind), (.int .i64 y_1.frm), (.int .i64 y_1.to), (.int .i64 y_1.min), (.int .i64 y_1.max), (.slice y_1.A y_1.list.length y_1.c)]) tZ_66.h tP_66.h rfl (by kernel_rfl) ⟨rfl, rfl⟩) ?_
   obtain ⟨x_2, g_2, hx_3⟩ := own_may (A := A1) i LR.len (by decide) o0_f1
   obtain ⟨hx_4, hA_2, hc_2⟩ := hx_3 oM
   refine yDx (i := 22) i hA_2 ?_
   have x4 : Ext w4 w6 := (Ext.trans e4 e5)
   refine yD1 (i := 23) rfl (ox_stE (i := i) (off := 0) (vs := [(.string x_1.name), (.bool x_1.trivia), (.int .i64 y_1.kind), (.int .i64 y_1.frm), (.int .i64 y_1.to), (.int .i64 y_1.min), (.int .i64 y_1.max), (.slice y_1.A y_1.list.length y_1.c)]) (b := ((LR.mk x_1.name x_1.trivia y_1) : LR)) LR.len tS_66.h hA_2 rfl (v := (.agg #[(.string x_1.name), (.bool x_1.trivia), (.int .i64 y_1.kind), (.int .i64 y_1.frm), (.int .i64 y_1.to), (.int .i64 y_1.min), (.int .i64 y_1.max), (.slice y_1.A y_1.list.length y_1.c)])) rfl rfl rfl rfl ((o0_f1.ext e4).ext e5) hx_4 rfl (by decide) (by omega) ?_)
   intro w7 e6 z5 o2
   refine ⟨.inl (by decide), ?_⟩
   refine xd_done (by kernel_rfl) ?_ _
   refine go ?_
   refine y_add ?_
   have y1 : Chg (fun b => ((.slice A1 ((s.lex.length + 1)) ((s.lex.length + 1))) : Value).ownBlock = some b) w3 w7 := (Chg.trans (Chg.ext (Chg.ext (Chg.trans (Chg.refl (fun b => ((.slice A1 ((s.lex.length + 1)) ((s.lex.length + 1))) : Value).ownBlock = some b) w3) x1 (fun b hb hl => hb)) e4) e5) e6 (fun b hb hl => hb))
   refine go ?_
   exact ⟨rfl, s.lex.length - (i + 1), by omega, i + 1, (L.set i ((LR.mk x_1.name x_1.trivia y_1))), by omega, (by omega), rfl, rfl, rfl, vW, o2, (LxF.snoc (LxF.keep (LxF.ext t0_f1 x4) e6 hlt1) hx_2 ⟨rfl, rfl, (TwX.keep (TwX.mono (by omega) ht1) e6 hlt1)⟩ (by omega)), y1⟩
  ·
   refine go ?_
   refine y_ld q1 ?_
   refine go ?_
   refine yOp (ox_mkStruct (ps := [(0, (.string (⟨#[109, 97, 114, 107]⟩)))]) (cs := #[(.string (⟨#[109, 97, 114, 107]⟩)), (.bool false), (.int .i64 0), (.int .i64 0), (.int .i64 0), (.int .i64 0), (.int .i64 0), (.slice none 0 0)]) tZ_66.h tP_66.h rfl (by kernel_rfl) ?_)
   obtain ⟨x_3, g_3, hx_5⟩ := own_may (A := A1) s.lex.length LR.len (by decide) o0_f1
   obtain ⟨hx_6, hA_3, hc_3⟩ := hx_5 oM
   refine y_ix s.lex.length hA_3 ?_
   refine yNp (ox_stE (i := s.lex.length) (off := 0) (vs := [(.string (⟨#[109, 97, 114, 107]⟩)), (.bool false), (.int .i64 0), (.int .i64 0), (.int .i64 0), (.int .i64 0), (.int .i64 0), (.slice none 0 0)]) (b := ((LR.mk (⟨#[109, 97, 114, 107]⟩) false (EX.mk 0 0 0 0 0 none 0 [])) : LR)) LR.len tS_66.h hA_3 rfl (v := (.agg #[(.string (⟨#[109, 97, 114, 107]⟩)), (.bool false), (.int .i64 0), (.int .i64 0), (.int .i64 0), (.int .i64 0), (.int .i64 0), (.slice none 0 0)])) rfl rfl rfl rfl o0_f1 hx_6 rfl (by decide) (by omega) ?_)
   intro w8 e7 z6 o3
   have q2 := (q1.keep e7 (fun _h => o0_f1.ne_blk q1 (by decide) _ _h rfl))
   refine go ?_
   refine y_ld q2 ?_
   refine go ?_
   refine y_add ?_
   refine yOp (ox_makeD (n := ((s.names.length + 1))) (l := ((List.replicate (s.names.length + 1) (⟨#[]⟩ : ByteArray)))) (cs := strs) tE_23.h rfl rfl (by omega) (by omega) (made_flat (z := #[(.string (⟨#[]⟩))]) (cs := strs) (x := ⟨#[]⟩) rfl (by decide) _) ?_)
   intro A2 w9 o4 e8 lo2
   have he8 := e8.size
   refine go ?_
   refine y_ld (q2.ext e8) ?_
   have x5 : Ext w w9 := (Ext.trans (Chg.trans (Chg.trans (Ext.trans (Ext.trans e1 e2) e3) x1 (fun b hb hl => (absurd hl (by have _h := lo1 b hb; omega)))) e7 (fun b hb hl => (absurd hl (by have _h := lo1 b hb; omega)))) e8)
   refine yOp (ox_copyD (cs := strs) (L := ((List.replicate (s.names.length + 1) (⟨#[]⟩ : ByteArray)))) (r := s.names) rfl tE_23.h (by decide) strs_len strs_one rfl rfl o4 (RowA.ext hS.names x5) (by omega) ?_)
   intro w10 e9 z8 o5
   have he9 := e9.size
   have q3 := ((q2.ext e8).keep e9 (fun _h => o4.ne_blk (q2.ext e8) (by decide) _ _h rfl))
   refine go ?_
   refine y_ld q3 ?_
   obtain ⟨x_4, g_4, hx_7⟩ := own_may (A := A2) s.names.length strs_len (by decide) o5
   obtain ⟨hx_8, hA_4, hc_4⟩ := hx_7 oM
   refine go ?_
   refine y_ix s.names.length hA_4 ?_
   refine yNp (ox_stE (i := s.names.length) (off := 0) (vs := [(.string (⟨#[109, 97, 114, 107]⟩))]) (b := ((⟨#[109, 97, 114, 107]⟩) : ByteArray)) strs_len tS_9.h hA_4 rfl (v := (.string (⟨#[109, 97, 114, 107]⟩))) rfl rfl rfl rfl o5 hx_8 rfl (by decide) (by omega) ?_)
   intro w11 e10 z9 o6
   have q4 := (q3.keep e10 (fun _h => o5.ne_blk q3 (by decide) _ _h rfl))
   refine go ?_
   refine y_ld q4 ?_
   refine go ?_
   refine y_add ?_
   refine yOp (ox_makeD (n := ((s.prods.length + 1))) (l := ((List.replicate (s.prods.length + 1) pdZero))) (cs := PD.cs) tE_24.h rfl rfl (by omega) (by omega) (made_flat (z := #[(.int .i64 0), (.slice none 0 0)]) (cs := PD.cs) (x := pdZero) rfl (by decide) _) ?_)
   intro A3 w12 o7 e11 lo3
   have he11 := e11.size
   have hlt2 : ∀ b, (Value.slice A3 (s.prods.length + 1) (s.prods.length + 1)).ownBlock = some b → b < w12.heap.size := o7.lt
   refine go ?_
   refine xc_loopN (fun m_ f_ Wx => ∃ (k : Nat) (M : List PD), m_ = s.prods.length - k ∧ (k ≤ s.prods.length) ∧ f_ 1 = (.pointer (some ⟨w.heap.size, 0, none⟩)) ∧ f_ 2 = (.pointer (some ⟨w1.heap.size, 0, none⟩)) ∧ f_ 3 = (.slice A1 ((s.lex.length + 1)) ((s.lex.length + 1))) ∧ f_ 4 = (.int .i64 ((i : Nat))) ∧ f_ 15 = (.int .i64 ((i : Nat))) ∧ f_ 16 = (.pointer (some ⟨w.heap.size, 0, none⟩)) ∧ f_ 17 = (.slice s.lA s.lex.length s.lc) ∧ f_ 18 = (.int .i64 (((s.lex.length : Nat) : Int))) ∧ f_ 19 = (.bool (decide (((i : Nat) : Int) < (((s.lex.length : Nat) : Int))))) ∧ f_ 45 = (.slice A1 ((s.lex.length + 1)) ((s.lex.length + 1))) ∧ f_ 46 = (.pointer (some ⟨w.heap.size, 0, none⟩)) ∧ f_ 47 = (.slice s.lA s.lex.length s.lc) ∧ f_ 48 = (.int .i64 (((s.lex.length : Nat) : Int))) ∧ f_ 49 = (.agg #[(.string (⟨#[109, 97, 114, 107]⟩)), (.bool false), (.int .i64 0), (.int .i64 0), (.int .i64 0), (.int .i64 0), (.int .i64 0), (.slice none 0 0)]) ∧ f_ 50 = (.pointer (some ⟨g_3, 0 + s.lex.length * 8, none⟩)) ∧ f_ 51 = (.pointer (some ⟨w.heap.size, 1, none⟩)) ∧ f_ 52 = (.slice s.nA s.names.length s.nc) ∧ f_ 53 = (.int .i64 (((s.names.length : Nat) : Int))) ∧ f_ 54 = (.int .i64 (((s.names.length : Nat) : Int) + 1)) ∧ f_ 55 = (.slice A2 ((s.names.length + 1)) ((s.names.length + 1))) ∧ f_ 5 = (.slice A2 ((s.names.length + 1)) ((s.names.length + 1))) ∧ f_ 56 = (.slice A2 ((s.names.length + 1)) ((s.names.length + 1))) ∧ f_ 57 = (.pointer (some ⟨w.heap.size, 1, none⟩)) ∧ f_ 58 = (.slice s.nA s.names.length s.nc) ∧ f_ 60 = (.slice A2 ((s.names.length + 1)) ((s.names.length + 1))) ∧ f_ 61 = (.pointer (some ⟨w.heap.size, 1, none⟩)) ∧ f_ 62 = (.slice s.nA s.names.length s.nc) ∧ f_ 63 = (.int .i64 (((s.names.length : Nat) : Int))) ∧ f_ 64 = (.pointer (some ⟨g_4, 0 + s.names.length * 1, none⟩)) ∧ f_ 65 = (.pointer (some ⟨w.heap.size, 3, none⟩)) ∧ f_ 66 = (.slice s.pA s.prods.length s.pc) ∧ f_ 67 = (.int .i64 (((s.prods.length : Nat) : Int))) ∧ f_ 68 = (.int .i64 (((s.prods.length : Nat) : Int) + 1)) ∧ f_ 69 = (.slice A3 ((s.prods.length + 1)) ((s.prods.length + 1))) ∧ f_ 6 = (.slice A3 ((s.prods.length + 1)) ((s.prods.length + 1))) ∧ f_ 7 = (.int .i64 ((k : Nat))) ∧ Vx.Own Wx 37 2 (.slice A3 ((s.prods.length + 1)) ((s.prods.length + 1))) ((s.prods.length + 1)) (M.flatMap PD.cs) ∧ (PdF w12.heap.size Wx s.prods M k) ∧ Chg (fun b => ((.slice A3 ((s.prods.length + 1)) ((s.prods.length + 1))) : Value).ownBlock = some b) w12 Wx) (s.prods.length) ?_ ?_
   ·
    exact ⟨0, (List.replicate (s.prods.length + 1) pdZero), (by omega), (by omega), rfl, rfl, rfl, rfl, rfl, rfl, rfl, rfl, rfl, rfl, rfl, rfl, rfl, rfl, rfl, rfl, rfl, rfl, rfl, rfl, rfl, rfl, rfl, rfl, rfl, rfl, rfl, rfl, rfl, rfl, rfl, rfl, rfl, rfl, rfl, vW, o7, (PdF.zero _ _ _ _), (Chg.refl _ _)⟩
   ·
    rintro m_ f2 w13 ⟨k, M, hm_f2, hk, g1_f2, g2_f2, g3_f2, g4_f2, g15_f2, g16_f2, g17_f2, g18_f2, g19_f2, g45_f2, g46_f2, g47_f2, g48_f2, g49_f2, g50_f2, g51_f2, g52_f2, g53_f2, g54_f2, g55_f2, g5_f2, g56_f2, g57_f2, g58_f2, g60_f2, g61_f2, g62_f2, g63_f2, g64_f2, g65_f2, g66_f2, g67_f2, g68_f2, g69_f2, g6_f2, g7_f2, o0_f2, t0_f2, x6⟩
    have hx6 := x6.size
    have hl_M : M.length = (s.prods.length + 1) := by have _q := (o0_f2).len; rw [fm_len PD.len] at _q; omega
    rw [← usf g1_f2, ← usf g2_f2, ← usf g3_f2, ← usf g4_f2, ← usf g15_f2, ← usf g16_f2, ← usf g17_f2, ← usf g18_f2, ← usf g19_f2, ← usf g45_f2, ← usf g46_f2, ← usf g47_f2, ← usf g48_f2, ← usf g49_f2, ← usf g50_f2, ← usf g51_f2, ← usf g52_f2, ← usf g53_f2, ← usf g54_f2, ← usf g55_f2, ← usf g5_f2, ← usf g56_f2, ← usf g57_f2, ← usf g58_f2, ← usf g60_f2, ← usf g61_f2, ← usf g62_f2, ← usf g63_f2, ← usf g64_f2, ← usf g65_f2, ← usf g66_f2, ← usf g67_f2, ← usf g68_f2, ← usf g69_f2, ← usf g6_f2, ← usf g7_f2]
    have q5 := ((q4.ext e11).keep x6 (fun _h => o7.ne_blk (q4.ext e11) (by decide) _ _h rfl))
    refine go ?_
    refine y_ld q5 ?_
    refine go ?_
    refine y_if (fun h2 => ?_) (fun h2 => ?_)
    ·
     refine go ?_
     refine y_ld q5 ?_
     have x7 : Ext w w13 := (Chg.trans (Ext.trans (Chg.trans (Chg.trans x5 e9 (fun b hb hl => (absurd hl (by have _h := lo2 b hb; omega)))) e10 (fun b hb hl => (absurd hl (by have _h := lo2 b hb; omega)))) e11) x6 (fun b hb hl => (absurd hl (by have _h := lo3 b hb; omega))))
     obtain ⟨x_5, g_5, o_5, hx_9⟩ := row_may (A := s.pA) (cs := PD.cs) k PD.len (by decide) (RowA.ext hS.prods x7)
     obtain ⟨hx_10, hA_5, hc_5⟩ := hx_9 oM
     have hfr_x_5 := (hS.fr _ (List.mem_of_getElem? hx_10)).le
     refine go ?_
     refine y_ix k hA_5 ?_
     refine y_lN (vs := [(.int .i64 x_5.left), (.slice x_5.rA x_5.right.length x_5.rc)]) hc_5 ?_
     refine y_al ?_
     intro w14 e12 z11 b3
     refine y_st b3 ?_
     intro w15 e13 z12 b4
     replace b4 : Blk w15 w13.heap.size #[(.int .i64 x_5.left), (.slice x_5.rA x_5.right.length x_5.rc)] 37 := blk_full b4 rfl
     refine go ?_
     refine y_ld b4 ?_
     refine go ?_
     refine y_add ?_
     refine yOp (ox_makeD (n := ((x_5.right.length + 1))) (l := ((List.replicate (x_5.right.length + 1) (⟨0, 0⟩ : Sym)))) (cs := Sym.cs) tE_33.h rfl rfl (by omega) (by omega) (made_flat (z := #[(.int .i64 0), (.int .i64 0)]) (cs := Sym.cs) (x := ⟨0, 0⟩) rfl (by decide) _) ?_)
     intro A4 w16 o8 e14 lo4
     have he14 := e14.size
     refine go ?_
     refine y_ld (b4.ext e14) ?_
     have x8 : Ext w w16 := (Ext.trans (Ext.chg1 (Ext.trans x7 e12) e13 (by omega)) e14)
     refine yOp (ox_copyD (cs := Sym.cs) (L := ((List.replicate (x_5.right.length + 1) (⟨0, 0⟩ : Sym)))) (r := x_5.right) rfl tE_33.h (by decide) Sym.len Sym.one rfl rfl o8 (RowA.ext ((hS.right _ (List.mem_of_getElem? hx_10))) x8) (by omega) ?_)
     intro w17 e15 z14 o9
     have he15 := e15.size
     have q6 := ((b4.ext e14).keep e15 (fun _h => o8.ne_blk (b4.ext e14) (by decide) _ _h rfl))
     refine go ?_
     refine y_ld q6 ?_
     refine go ?_
     refine yOp (ox_mkStruct (ps := [(0, (.int .i64 77))]) (cs := #[(.int .i64 77), (.int .i64 0)]) tZ_32.h tP_32.h rfl (by kernel_rfl) ?_)
     obtain ⟨x_6, g_6, hx_11⟩ := own_may (A := A4) x_5.right.length Sym.len (by decide) o9
     obtain ⟨hx_12, hA_6, hc_6⟩ := hx_11 oM
     refine y_ix x_5.right.length hA_6 ?_
     refine yNp (ox_stE (i := x_5.right.length) (off := 0) (vs := [(.int .i64 77), (.int .i64 0)]) (b := ((⟨77, 0⟩ : Sym) : Sym)) Sym.len tS_32.h hA_6 rfl (v := (.agg #[(.int .i64 77), (.int .i64 0)])) rfl rfl rfl rfl o9 hx_12 rfl (by decide) (by omega) ?_)
     intro w18 e16 z15 o10
     refine go ?_
     refine xc_regionE [11] (fun W_ => Chg (fun _ => False) w18 W_) hmix ?_
     intro w19 e17 z16
     have hS3 : Chg (fun _ => False) w18 w19 := Ext.to e17
     refine yDp 0 ?_
     refine yDp 1 ?_
     refine yDp 2 ?_
     have q7 := (q6.keep e16 (fun _h => o9.ne_blk q6 (by decide) _ _h rfl))
     refine yDt (i := 3) rfl hS3 (fun W_ hW_ => ox_load tA_3.h rfl ((q7.ext hW_).cell rfl) ⟨rfl, rfl⟩) ?_
     refine yDp 4 ?_
     refine yDp 5 ?_
     have q8 := (q6.keep e16 (fun _h => o9.ne_blk q6 (by decide) _ _h rfl))
     refine yDt (i := 6) rfl hS3 (fun W_ hW_ => ox_load tA_33.h rfl ((q8.ext hW_).cell rfl) ⟨rfl, rfl⟩) ?_
     refine yDp 7 ?_
     refine yDq (i := 8) rfl (fun W_ hW_ => ox_sliceToN (A := A4) (cp := ((x_5.right.length + 1))) (i := (((x_5.right.length : Nat) : Int))) x_5.right.length tE_33.h rfl rfl (by omega) (by omega) (by omega) ⟨rfl, rfl⟩) ?_
     refine yDq (i := 9) rfl (fun W_ hW_ => ox_mkStruct (ps := [(0, (.int .i64 x_5.left)), (1, (.slice A4 x_5.right.length ((x_5.right.length + 1))))]) (cs := #[(.int .i64 x_5.left), (.slice A4 x_5.right.length ((x_5.right.length + 1)))]) tZ_37.h tP_37.h rfl (by kernel_rfl) ⟨rfl, rfl⟩) ?_
     have q9 := ((o0_f2.ext e12).keep1 e13 (fun k hk => by have _q := (o0_f2.lt) k hk; omega))
     have q10 := ((q9.ext e14).keep e15 (fun _k _hk => (q9.ext e14).ne_own o8 (by decide) _k _hk))
     have q11 := (q10.keep e16 (fun _k _hk => q10.ne_own o9 (by decide) _k _hk))
     obtain ⟨x_7, g_7, hx_13⟩ := own_may (A := A3) k PD.len (by decide) q11
     obtain ⟨hx_14, hA_7, hc_7⟩ := hx_13 oM
     refine yDx (i := 10) k hA_7 ?_
     refine yD1 (i := 11) rfl (ox_stE (i := k) (off := 0) (vs := [(.int .i64 x_5.left), (.slice A4 x_5.right.length ((x_5.right.length + 1)))]) (b := ((PD.mk x_5.left A4 ((x_5.right.length + 1)) x_5.right) : PD)) PD.len tS_37.h hA_7 rfl (v := (.agg #[(.int .i64 x_5.left), (.slice A4 x_5.right.length ((x_5.right.length + 1)))])) rfl rfl rfl rfl (q11.ext e17) hx_14 rfl (by decide) (by omega) ?_)
     intro w20 e18 z17 o11
     refine ⟨.inl (by decide), ?_⟩
     refine xd_done (by kernel_rfl) ?_ _
     refine go ?_
     refine y_add ?_
     have q12 := ((o10.ext e17).keep e18 (fun _k _hk => (o10.ext e17).ne_own (q11.ext e17) (by decide) _k _hk))
     have hr9 := q12
     have hrr : (((x_5.right ++ ((List.replicate (x_5.right.length + 1) (⟨0, 0⟩ : Sym))).drop x_5.right.length)).set x_5.right.length ((⟨77, 0⟩ : Sym))) = x_5.right ++ [(⟨77, 0⟩ : Sym)] := row_mark rfl
     rw [hrr] at hr9
     have x9 : Ext w13 w19 := (Ext.trans (Chg.trans (Chg.trans (Ext.trans (Ext.chg1 e12 e13 (by omega)) e14) e15 (fun b hb hl => (absurd hl (by have _h := lo4 b hb; omega)))) e16 (fun b hb hl => (absurd hl (by have _h := lo4 b hb; omega)))) e17)
     have y2 : Chg (fun b => ((.slice A3 ((s.prods.length + 1)) ((s.prods.length + 1))) : Value).ownBlock = some b) w12 w20 := (Chg.trans (Chg.ext (Chg.trans (Chg.trans (Chg.ext (Chg.chg1 (Chg.ext (Chg.trans (Chg.refl (fun b => ((.slice A3 ((s.prods.length + 1)) ((s.prods.length + 1))) : Value).ownBlock = some b) w12) x6 (fun b hb hl => hb)) e12) e13 (.inr (by omega))) e14) e15 (fun b hb hl => absurd hl (by have _h := lo4 b hb; omega))) e16 (fun b hb hl => absurd hl (by have _h := lo4 b hb; omega))) e17) e18 (fun b hb hl => hb))
     refine go ?_
     exact ⟨rfl, s.prods.length - (k + 1), by omega, k + 1, (M.set k ((PD.mk x_5.left A4 ((x_5.right.length + 1)) x_5.right))), by omega, (by omega), rfl, rfl, rfl, rfl, rfl, rfl, rfl, rfl, rfl, rfl, rfl, rfl, rfl, rfl, rfl, rfl, rfl, rfl, rfl, rfl, rfl, rfl, rfl, rfl, rfl, rfl, rfl, rfl, rfl, rfl, rfl, rfl, rfl, rfl, rfl, vW, o11, (PdF.snoc (PdF.keep (PdF.ext t0_f2 x9) e18 hlt2) hx_10 (y := ⟨x_5.left, A4, x_5.right.length + 1, x_5.right⟩) ⟨rfl, rfl, rfl, hr9, fun k hk => by have _h := lo4 k hk; omega⟩ (by omega) (fun j y hj hy k h1 h2 => by have _a := lo4 k (own_any h2); have _b := (t0_f2).lt ⟨hj, by omega⟩ hy k h1; omega)), y2⟩
    ·
     refine go ?_
     refine y_ld q5 ?_
     refine go ?_
     refine yOp (ox_mkStruct (ps := [(0, (.int .i64 (-77)))]) (cs := #[(.int .i64 (-77)), (.slice none 0 0)]) tZ_37.h tP_37.h rfl (by kernel_rfl) ?_)
     obtain ⟨x_8, g_8, hx_15⟩ := own_may (A := A3) s.prods.length PD.len (by decide) o0_f2
     obtain ⟨hx_16, hA_8, hc_8⟩ := hx_15 oM
     refine y_ix s.prods.length hA_8 ?_
     refine yNp (ox_stE (i := s.prods.length) (off := 0) (vs := [(.int .i64 (-77)), (.slice none 0 0)]) (b := ((PD.mk (-77) none 0 []) : PD)) PD.len tS_37.h hA_8 rfl (v := (.agg #[(.int .i64 (-77)), (.slice none 0 0)])) rfl rfl rfl rfl o0_f2 hx_16 rfl (by decide) (by omega) ?_)
     intro w21 e19 z18 o12
     refine go ?_
     refine xc_regionE [18] (fun W_ => Chg (fun _ => False) w21 W_) hmix ?_
     intro w22 e20 z19
     have hS4 : Chg (fun _ => False) w21 w22 := Ext.to e20
     refine yDp 0 ?_
     refine yDp 1 ?_
     have q13 := (q5.keep e19 (fun _h => o0_f2.ne_blk q5 (by decide) _ _h rfl))
     refine yDt (i := 2) rfl hS4 (fun W_ hW_ => ox_load tA_22.h rfl ((q13.ext hW_).cell rfl) ⟨rfl, rfl⟩) ?_
     refine yDp 3 ?_
     refine yDq (i := 4) rfl (fun W_ hW_ => ox_sliceToN (A := A1) (cp := ((s.lex.length + 1))) (i := (((s.lex.length : Nat) : Int))) s.lex.length tE_22.h rfl rfl (by omega) (by omega) (by omega) ⟨rfl, rfl⟩) ?_
     refine yDp 5 ?_
     refine yDp 6 ?_
     have q14 := (q5.keep e19 (fun _h => o0_f2.ne_blk q5 (by decide) _ _h rfl))
     refine yDt (i := 7) rfl hS4 (fun W_ hW_ => ox_load tA_23.h rfl ((q14.ext hW_).cell rfl) ⟨rfl, rfl⟩) ?_
     refine yDp 8 ?_
     refine yDq (i := 9) rfl (fun W_ hW_ => ox_sliceToN (A := A2) (cp := ((s.names.length + 1))) (i := (((s.names.length : Nat) : Int))) s.names.length tE_23.h rfl rfl (by omega) (by omega) (by omega) ⟨rfl, rfl⟩) ?_
     refine yDp 10 ?_
     have q15 := (q5.keep e19 (fun _h => o0_f2.ne_blk q5 (by decide) _ _h rfl))
     refine yDt (i := 11) rfl hS4 (fun W_ hW_ => ox_load tA_3.h rfl ((q15.ext hW_).cell rfl) ⟨rfl, rfl⟩) ?_
     refine yDp 12 ?_
     refine yDp 13 ?_
     have q16 := (q5.keep e19 (fun _h => o0_f2.ne_blk q5 (by decide) _ _h rfl))
     refine yDt (i := 14) rfl hS4 (fun W_ hW_ => ox_load tA_24.h rfl ((q16.ext hW_).cell rfl) ⟨rfl, rfl⟩) ?_
     refine yDp 15 ?_
     refine yDq (i := 16) rfl (fun W_ hW_ => ox_sliceToN (A := A3) (cp := ((s.prods.length + 1))) (i := (((s.prods.length : Nat) : Int))) s.prods.length tE_24.h rfl rfl (by omega) (by omega) (by omega) ⟨rfl, rfl⟩) ?_
     refine yDq (i := 17) rfl (fun W_ hW_ => ox_mkStruct (ps := [(0, (.slice A1 s.lex.length ((s.lex.length + 1)))), (1, (.slice A2 s.names.length ((s.names.length + 1)))), (2, (.int .i64 s.start)), (3, (.slice A3 s.prods.length ((s.prods.length + 1))))]) (cs := #[(.slice A1 s.lex.length ((s.lex.length + 1))), (.slice A2 s.names.length ((s.names.length + 1))), (.int .i64 s.start), (.slice A3 s.prods.length ((s.prods.length + 1)))]) tZ_26.h tP_26.h rfl (by kernel_rfl) ⟨rfl, rfl⟩) ?_
     have q17 := ((b2.ext e3).keep x1 (fun _h => o1.ne_blk (b2.ext e3) (by decide) _ _h rfl))
     have q18 := (q17.keep e7 (fun _h => o0_f1.ne_blk q17 (by decide) _ _h rfl))
     have q19 := ((q18.ext e8).keep e9 (fun _h => o4.ne_blk (q18.ext e8) (by decide) _ _h rfl))
     have q20 := (q19.keep e10 (fun _h => o5.ne_blk q19 (by decide) _ _h rfl))
     have q21 := ((q20.ext e11).keep x6 (fun _h => o7.ne_blk (q20.ext e11) (by decide) _ _h rfl))
     have q22 := (q21.keep e19 (fun _h => o0_f2.ne_blk q21 (by decide) _ _h rfl))
     refine yD1 (i := 18) rfl (ox_store (n := 4) (vs := [(.slice A1 s.lex.length ((s.lex.length + 1))), (.slice A2 s.names.length ((s.names.length + 1))), (.int .i64 s.start), (.slice A3 s.prods.length ((s.prods.length + 1)))]) tS_26.h rfl (v := (.agg #[(.slice A1 s.lex.length ((s.lex.length + 1))), (.slice A2 s.names.length ((s.names.length + 1))), (.int .i64 s.start), (.slice A3 s.prods.length ((s.prods.length + 1)))])) rfl rfl rfl rfl (q22.ext e20) (Nat.le_of_ble_eq_true rfl) ?_)
     intro w23 e21 z20 b5
     replace b5 : Blk w23 w1.heap.size #[(.slice A1 s.lex.length ((s.lex.length + 1))), (.slice A2 s.names.length ((s.names.length + 1))), (.int .i64 s.start), (.slice A3 s.prods.length ((s.prods.length + 1)))] 26 := blk_full b5 rfl
     refine ⟨.inl (by decide), ?_⟩
     refine xd_done (by kernel_rfl) ?_ _
     refine go ?_
     change leaves _ _ _ _ _ _ _
     refine leaves_nil (n := 132) (rs := [.cell 2 26]) (vs := [.agg #[(.slice A1 s.lex.length ((s.lex.length + 1))), (.slice A2 s.names.length ((s.names.length + 1))), (.int .i64 s.start), (.slice A3 s.prods.length ((s.prods.length + 1)))]]) rfl ⟨⟨by decide, w1.heap.size, 0, 4, [(.slice A1 s.lex.length ((s.lex.length + 1))), (.slice A2 s.names.length ((s.names.length + 1))), (.int .i64 s.start), (.slice A3 s.prods.length ((s.prods.length + 1)))], rfl, tA_26.h, tS_26.h, rfl, ⟨b5.cell rfl, b5.cell rfl, b5.cell rfl, b5.cell rfl, trivial⟩, rfl⟩, trivial⟩ ?_
     have hcL := set_lastA (x := lrMark) hl_L
     have q23 := ((o3.ext e8).keep e9 (fun _k _hk => (o3.ext e8).ne_own o4 (by decide) _k _hk))
     have q24 := (q23.keep e10 (fun _k _hk => q23.ne_own o5 (by decide) _k _hk))
     have q25 := ((q24.ext e11).keep x6 (fun _k _hk => (q24.ext e11).ne_own o7 (by decide) _k _hk))
     have q26 := (q25.keep e19 (fun _k _hk => q25.ne_own o0_f2 (by decide) _k _hk))
     have q27 := ((q26.ext e20).keep1 e21 (fun k hk => (q26.ext e20).ne_blk (q22.ext e20) (by decide) k hk))
     have hoL : Vx.Own w23 66 8 (.slice A1 (s.lex.length + 1) (s.lex.length + 1)) (s.lex.length + 1) ((L.take s.lex.length ++ [lrMark]).flatMap LR.cs) := by rw [← hcL.2]; exact q27
     have hcP := set_lastA (x := pdMark) hl_M
     have q28 := ((o12.ext e20).keep1 e21 (fun k hk => (o12.ext e20).ne_blk (q22.ext e20) (by decide) k hk))
     have hoP : Vx.Own w23 37 2 (.slice A3 (s.prods.length + 1) (s.prods.length + 1)) (s.prods.length + 1) ((M.take s.prods.length ++ [pdMark]).flatMap PD.cs) := by rw [← hcP.2]; exact q28
     have q29 := ((o6.ext e11).keep x6 (fun _k _hk => (o6.ext e11).ne_own o7 (by decide) _k _hk))
     have q30 := (q29.keep e19 (fun _k _hk => q29.ne_own o0_f2 (by decide) _k _hk))
     have q31 := ((q30.ext e20).keep1 e21 (fun k hk => (q30.ext e20).ne_blk (q22.ext e20) (by decide) k hk))
     have hoN : Vx.Own w23 9 1 (.slice A2 (s.names.length + 1) (s.names.length + 1)) (s.names.length + 1) ((s.names ++ [(⟨#[109, 97, 114, 107]⟩ : ByteArray)]).flatMap strs) := by have h9 := q31; rw [row_mark rfl] at h9; exact h9
     have hik : i = s.lex.length := by omega
     have hkk : k = s.prods.length := by omega
     have x10 : Ext w8 w22 := (Ext.trans (Chg.trans (Chg.trans (Ext.trans (Chg.trans (Chg.trans e8 e9 (fun b hb hl => (absurd hl (by have _h := lo2 b hb; omega)))) e10 (fun b hb hl => (absurd hl (by have _h := lo2 b hb; omega)))) e11) x6 (fun b hb hl => (absurd hl (by have _h := lo3 b hb; omega)))) e19 (fun b hb hl => (absurd hl (by have _h := lo3 b hb; omega)))) e20)
     have q32 := (LxF.keep (LxF.ext (LxF.keep t0_f1 e7 hlt1) x10) e21 (fun b hb => by subst hb; omega))
     have q33 := (PdF.keep (PdF.ext (PdF.keep t0_f2 e19 hlt2) e20) e21 (fun b hb => by subst hb; omega))
     have x11 : Ext w w23 := (Ext.chg1 (Ext.trans (Chg.trans (Chg.trans (Ext.trans (Chg.trans (Chg.trans x5 e9 (fun b hb hl => (absurd hl (by have _h := lo2 b hb; omega)))) e10 (fun b hb hl => (absurd hl (by have _h := lo2 b hb; omega)))) e11) x6 (fun b hb hl => (absurd hl (by have _h := lo3 b hb; omega)))) e19 (fun b hb hl => (absurd hl (by have _h := lo3 b hb; omega)))) e20) e21 (by omega))
     exact ⟨⟨A1, s.lex.length + 1, L.take s.lex.length, A2, s.names.length + 1, s.names, s.start, A3, s.prods.length + 1, M.take s.prods.length⟩, by show one [_] = Value.agg #[.slice _ (L.take s.lex.length).length _, _, _, .slice _ (M.take s.prods.length).length _]; rw [hcL.1, hcP.1] <;> rfl, ⟨hoL, hcL.1, rfl, (LxF.mono (by omega) q32).take (by omega), hoN, rfl, rfl, rfl, hoP, hcP.1, rfl, (PdF.mono (by omega) q33).take (by omega), fun k hk => by have _h := lo1 k hk; omega, fun k hk => by have _h := lo2 k hk; omega, fun k hk => by have _h := lo3 k hk; omega⟩, x11⟩
theorem any_hit {α : Type} {f : α → Bool} {l : List α} {i : Nat} {x : α} (h : l[i]? = some x) (hf : f x = true) : (l.drop i).any f = true := by rw [drop_get h, List.any_cons, hf]; rfl
theorem any_next {α : Type} {f : α → Bool} {l : List α} {i : Nat} {x : α} (h : l[i]? = some x) (hf : f x = false) : (l.drop i).any f = (l.drop (i + 1)).any f := by rw [drop_get h, List.any_cons, hf]; rfl
theorem longG_go {s : SP} (h1 : s.lex.length ≤ 64) (h2 : s.names.length ≤ 128) (h3 : s.prods.length ≤ 512) : longG s.g = s.prods.any (fun p : PD => decide (16 < (p.right.length : Int))) := by
  unfold longG
  rw [s.glex, s.gprods, show s.g.names = s.names.length from rfl, show s.g.prods.any (fun p => decide (16 < (p.2.length : Int))) = s.prods.any (fun p => decide (16 < (p.right.length : Int))) from List.any_map]
  rw [decide_eq_false (by omega), decide_eq_false (by omega), decide_eq_false (by omega)]; rfl
instance pf_134 : PlF Tryz.prog 134 := ⟨by kernel_rfl⟩
theorem longR_calls (s : SP) (w : World) (hS : SpR w s) :
    Calls Tryz.prog 103 #[(.agg #[(.slice s.lA s.lex.length s.lc), (.slice s.nA s.names.length s.nc), (.int .i64 s.start), (.slice s.pA s.prods.length s.pc)])] w (Ret (fun v w' => v = .bool (longG s.g) ∧ Ext w w')) := by
 have hfp := hS.fp.by; have hfl := hS.fl.by; have hfn := hS.fn.by
 refine calls_y (n := 35) Tryz.func103 ?_
 refine go ?_
 refine y_bx ?_
 intro w1 e1 z1 b1
 refine go ?_
 refine y_ld b1 ?_
 refine go ?_
 by_cases h1 : (64 : Int) < (((s.lex.length : Nat) : Int))
 ·
  refine ysL (s := 8) (bT (decide_eq_true h1)) ?_
  refine go ?_
  refine y_r1 ?_
  exact ⟨congrArg Value.bool (by unfold longG; rw [s.glex, s.gprods, show s.g.names = s.names.length from rfl]; simp_all), e1⟩
 ·
  refine ysL (s := 8) (bF (decide_eq_false h1)) ?_
  refine go ?_
  refine y_ld b1 ?_
  refine go ?_
  by_cases h2 : (128 : Int) < (((s.names.length : Nat) : Int))
  ·
   refine ysL (s := 14) (bT (decide_eq_true h2)) ?_
   refine go ?_
   refine y_r1 ?_
   exact ⟨congrArg Value.bool (by unfold longG; rw [s.glex, s.gprods, show s.g.names = s.names.length from rfl]; simp_all), e1⟩
  ·
   refine ysL (s := 14) (bF (decide_eq_false h2)) ?_
   refine go ?_
   refine y_ld b1 ?_
   refine go ?_
   refine y_if (fun h3 => ?_) (fun h3 => ?_)
   ·
    refine go ?_
    refine y_r1 ?_
    exact ⟨congrArg Value.bool (by unfold longG; rw [s.glex, s.gprods, show s.g.names = s.names.length from rfl]; simp_all), e1⟩
   ·
    have hs1 : s.lex.length ≤ 64 := by omega
    have hs2 : s.names.length ≤ 128 := by omega
    have hs3 : s.prods.length ≤ 512 := by omega
    refine go ?_
    refine xc_loopN (fun m_ f_ Wx => ∃ (i : Nat), m_ = s.prods.length - i ∧ (i ≤ s.prods.length) ∧ (s.prods.any (fun p : PD => decide (16 < (p.right.length : Int))) = (s.prods.drop i).any (fun p : PD => decide (16 < (p.right.length : Int)))) ∧ f_ 1 = (.pointer (some ⟨w.heap.size, 0, none⟩)) ∧ f_ 3 = (.int .i64 ((i : Nat))) ∧ Ext w1 Wx) (s.prods.length) ?_ ?_
    ·
     exact ⟨0, (by omega), (by omega), rfl, rfl, vW, (Chg.refl _ _)⟩
    ·
     rintro m_ f1 w2 ⟨i, hm_f1, hi, hq, g1_f1, g3_f1, x1⟩
     have hx1 := x1.size
     rw [← usf g1_f1, ← usf g3_f1]
     refine go ?_
     refine y_ld (b1.ext x1) ?_
     refine go ?_
     refine y_if (fun h4 => ?_) (fun h4 => ?_)
     ·
      refine go ?_
      refine y_ld (b1.ext x1) ?_
      have x2 : Ext w w2 := (Ext.trans e1 x1)
      obtain ⟨x_1, g_1, o_1, hx_1⟩ := row_may (A := s.pA) (cs := PD.cs) i PD.len (by decide) (RowA.ext hS.prods x2)
      obtain ⟨hx_2, hA_1, hc_1⟩ := hx_1 oM
      have hfr_x_1 := (hS.fr _ (List.mem_of_getElem? hx_2)).le
      refine go ?_
      refine y_ix i hA_1 ?_
      refine go ?_
      refine y_lc (CellsL.at1 hc_1 1 rfl) ?_
      refine go ?_
      refine y_if (fun h5 => ?_) (fun h5 => ?_)
      ·
       refine go ?_
       refine y_r1 ?_
       exact ⟨congrArg Value.bool (by rw [longG_go hs1 hs2 hs3, hq]; exact (any_hit hx_2 (decide_eq_true h5)).symm), x2⟩
      ·
       refine go ?_
       refine y_add ?_
       refine go ?_
       exact ⟨rfl, s.prods.length - (i + 1), by omega, i + 1, by omega, (by omega), (hq.trans (any_next hx_2 (decide_eq_false h5))), rfl, vW, x1⟩
     ·
      refine go ?_
      refine y_r1 ?_
      have x3 : Ext w w2 := (Ext.trans e1 x1)
      exact ⟨congrArg Value.bool (by rw [longG_go hs1 hs2 hs3, hq, List.drop_of_length_le (by omega)] <;> rfl), x3⟩
theorem symbolR_calls (s : SP) (x : Sym) (w : World) (hS : SpR w s) :
    Calls Tryz.prog 134 #[(.agg #[(.slice s.lA s.lex.length s.lc), (.slice s.nA s.names.length s.nc), (.int .i64 s.start), (.slice s.pA s.prods.length s.pc)]), (.agg #[(.int .i64 x.kind), (.int .i64 x.n)])] w (Ret (fun v w' => v = .int .i64 (symE s.g x) ∧ Ext w w')) := by
 have hfl := hS.fl; have hfn := hS.fn; unfold few at hfl hfn
 refine calls_y (n := 45) Tryz.func134 ?_
 refine go ?_
 refine y_bx ?_
 intro w1 e1 z1 b1
 refine y_bx ?_
 intro w2 e2 z2 b2
 refine go ?_
 refine y_ld b2 ?_
 refine go ?_
 refine y_if (fun h1 => ?_) (fun h1 => ?_)
 ·
  refine go ?_
  refine y_ld b2 ?_
  refine go ?_
  by_cases h2 : (x.n : Int) < 0
  ·
   refine ysL (s := 12) (bT (decide_eq_true h2)) ?_
   refine go ?_
   refine y_r1 ?_
   have htr := True.intro
   have x1 : Ext w w2 := (Ext.trans e1 e2)
   exact ⟨congrArg (Value.int .i64) (by have hgl := s.glex; have hgn : s.g.names = s.names.length := rfl; unfold symE; rw [hgl, hgn]; clear hS; (try have h9 := htr (by omega)); repeat' split; all_goals first | rfl | (exfalso; omega) | (simp_all; done) | (simp_all; omega)), x1⟩
  ·
   refine ysL (s := 12) (bF (decide_eq_false h2)) ?_
   refine go ?_
   refine y_ld b2 ?_
   refine go ?_
   refine y_ld (b1.ext e2) ?_
   refine go ?_
   refine y_if (fun h3 => ?_) (fun h3 => ?_)
   ·
    refine go ?_
    refine y_r1 ?_
    have htr := True.intro
    have x2 : Ext w w2 := (Ext.trans e1 e2)
    exact ⟨congrArg (Value.int .i64) (by have hgl := s.glex; have hgn : s.g.names = s.names.length := rfl; unfold symE; rw [hgl, hgn]; clear hS; (try have h9 := htr (by omega)); repeat' split; all_goals first | rfl | (exfalso; omega) | (simp_all; done) | (simp_all; omega)), x2⟩
   ·
    refine go ?_
    refine y_ld (b1.ext e2) ?_
    refine go ?_
    refine y_ld b2 ?_
    have x3 : Ext w w2 := (Ext.trans e1 e2)
    obtain ⟨x_1, g_1, o_1, hx_1⟩ := row_may (A := s.lA) (cs := LR.cs) x.n.toNat LR.len (by decide) (RowA.ext hS.lex x3)
    obtain ⟨hx_2, hA_1, hc_1⟩ := hx_1 oM
    refine y_ix x.n.toNat hA_1 ?_
    refine go ?_
    refine y_lc (CellsL.at1 hc_1 1 rfl) ?_
    refine go ?_
    refine xc_cond (b := x_1.trivia) rfl (fun h4 => ?_) (fun h4 => ?_)
    ·
     have h4' := bS h4
     refine go ?_
     refine y_r1 ?_
     have htr : x.n.toNat < s.lex.length → s.g.triv[x.n.toNat]! = x_1.trivia := fun hh => bang_of (map_get (hx_1 hh).1)
     exact ⟨congrArg (Value.int .i64) (by have hgl := s.glex; have hgn : s.g.names = s.names.length := rfl; unfold symE; rw [hgl, hgn]; clear hS; (try have h9 := htr (by omega)); repeat' split; all_goals first | rfl | (exfalso; omega) | (simp_all; done) | (simp_all; omega)), x3⟩
    ·
     have h4' := bS h4
     refine go ?_
     refine y_r1 ?_
     have htr : x.n.toNat < s.lex.length → s.g.triv[x.n.toNat]! = x_1.trivia := fun hh => bang_of (map_get (hx_1 hh).1)
     exact ⟨congrArg (Value.int .i64) (by have hgl := s.glex; have hgn : s.g.names = s.names.length := rfl; unfold symE; rw [hgl, hgn]; clear hS; (try have h9 := htr (by omega)); repeat' split; all_goals first | rfl | (exfalso; omega) | (simp_all; done) | (simp_all; omega)), x3⟩
 ·
  refine go ?_
  refine y_if (fun h5 => ?_) (fun h5 => ?_)
  ·
   refine go ?_
   refine y_ld b2 ?_
   refine go ?_
   refine y_if (fun h6 => ?_) (fun h6 => ?_)
   ·
    refine go ?_
    refine y_r1 ?_
    have htr := True.intro
    have x4 : Ext w w2 := (Ext.trans e1 e2)
    exact ⟨congrArg (Value.int .i64) (by have hgl := s.glex; have hgn : s.g.names = s.names.length := rfl; unfold symE; rw [hgl, hgn]; clear hS; (try have h9 := htr (by omega)); repeat' split; all_goals first | rfl | (exfalso; omega) | (simp_all; done) | (simp_all; omega)), x4⟩
   ·
    refine go ?_
    refine y_r1 ?_
    have htr := True.intro
    have x5 : Ext w w2 := (Ext.trans e1 e2)
    exact ⟨congrArg (Value.int .i64) (by have hgl := s.glex; have hgn : s.g.names = s.names.length := rfl; unfold symE; rw [hgl, hgn]; clear hS; (try have h9 := htr (by omega)); repeat' split; all_goals first | rfl | (exfalso; omega) | (simp_all; done) | (simp_all; omega)), x5⟩
  ·
   refine go ?_
   refine y_if (fun h7 => ?_) (fun h7 => ?_)
   ·
    refine go ?_
    refine y_ld b2 ?_
    refine go ?_
    by_cases h8 : (x.n : Int) < 0
    ·
     refine ysL (s := 37) (bT (decide_eq_true h8)) ?_
     refine go ?_
     refine y_r1 ?_
     have htr := True.intro
     have x6 : Ext w w2 := (Ext.trans e1 e2)
     exact ⟨congrArg (Value.int .i64) (by have hgl := s.glex; have hgn : s.g.names = s.names.length := rfl; unfold symE; rw [hgl, hgn]; clear hS; (try have h9 := htr (by omega)); repeat' split; all_goals first | rfl | (exfalso; omega) | (simp_all; done) | (simp_all; omega)), x6⟩
    ·
     refine ysL (s := 37) (bF (decide_eq_false h8)) ?_
     refine go ?_
     refine y_ld b2 ?_
     refine go ?_
     refine y_ld (b1.ext e2) ?_
     refine go ?_
     refine y_if (fun h9 => ?_) (fun h9 => ?_)
     ·
      refine go ?_
      refine y_r1 ?_
      have htr := True.intro
      have x7 : Ext w w2 := (Ext.trans e1 e2)
      exact ⟨congrArg (Value.int .i64) (by have hgl := s.glex; have hgn : s.g.names = s.names.length := rfl; unfold symE; rw [hgl, hgn]; clear hS; (try have h9 := htr (by omega)); repeat' split; all_goals first | rfl | (exfalso; omega) | (simp_all; done) | (simp_all; omega)), x7⟩
     ·
      refine go ?_
      refine y_r1 ?_
      have htr := True.intro
      have x8 : Ext w w2 := (Ext.trans e1 e2)
      exact ⟨congrArg (Value.int .i64) (by have hgl := s.glex; have hgn : s.g.names = s.names.length := rfl; unfold symE; rw [hgl, hgn]; clear hS; (try have h9 := htr (by omega)); repeat' split; all_goals first | rfl | (exfalso; omega) | (simp_all; done) | (simp_all; omega)), x8⟩
   ·
    refine go ?_
    refine y_r1 ?_
    have htr := True.intro
    have x9 : Ext w w2 := (Ext.trans e1 e2)
    exact ⟨congrArg (Value.int .i64) (by have hgl := s.glex; have hgn : s.g.names = s.names.length := rfl; unfold symE; rw [hgl, hgn]; clear hS; (try have h9 := htr (by omega)); repeat' split; all_goals first | rfl | (exfalso; omega) | (simp_all; done) | (simp_all; omega)), x9⟩
theorem indicesR_calls (s : SP) (w : World) (hS : SpR w s) :
    Calls Tryz.prog 104 #[(.agg #[(.slice s.lA s.lex.length s.lc), (.slice s.nA s.names.length s.nc), (.int .i64 s.start), (.slice s.pA s.prods.length s.pc)])] w (Ret (fun v w' => v = .tuple #[.int .i64 (indG s.g).2, .int .i64 (indG s.g).1] ∧ Ext w w')) := by
 have hfp := hS.fp.by; have hfl := hS.fl.by; have hfn := hS.fn.by
 refine calls_y (n := 61) Tryz.func104 ?_
 refine go ?_
 refine y_bx ?_
 intro w1 e1 z1 b1
 refine go ?_
 refine y_ld b1 ?_
 refine go ?_
 by_cases h1 : (s.start : Int) < 0
 ·
  refine ysL (s := 11) (bT (decide_eq_true h1)) ?_
  refine go ?_
  refine y_r2 ?_
  have he9 := indG_start (g := s.g) (by show s.start < 0 ∨ (s.names.length : Int) ≤ s.start; omega)
  exact ⟨by rw [he9] <;> rfl, e1⟩
 ·
  refine ysL (s := 11) (bF (decide_eq_false h1)) ?_
  refine go ?_
  refine y_ld b1 ?_
  refine go ?_
  refine y_ld b1 ?_
  refine go ?_
  refine y_if (fun h2 => ?_) (fun h2 => ?_)
  ·
   refine go ?_
   refine y_r2 ?_
   have he9 := indG_start (g := s.g) (by show s.start < 0 ∨ (s.names.length : Int) ≤ s.start; omega)
   exact ⟨by rw [he9] <;> rfl, e1⟩
  ·
   have hst : 0 ≤ s.start ∧ s.start < (s.names.length : Int) := by omega
   refine go ?_
   refine xc_loopN (fun m_ f_ Wx => ∃ (i : Nat), m_ = s.prods.length - i ∧ (i ≤ s.prods.length) ∧ (indP s.g s.g.prods 0 = indP s.g (s.g.prods.drop i) i) ∧ f_ 1 = (.pointer (some ⟨w.heap.size, 0, none⟩)) ∧ f_ 4 = (.int .i64 ((i : Nat))) ∧ Ext w1 Wx) (s.prods.length) ?_ ?_
   ·
    exact ⟨0, (by omega), (by omega), (by simp), rfl, vW, (Chg.refl _ _)⟩
   ·
    rintro m_ f1 w2 ⟨i, hm_f1, hi, hq, g1_f1, g4_f1, x1⟩
    have hx1 := x1.size
    rw [← usf g1_f1, ← usf g4_f1]
    refine go ?_
    refine y_ld (b1.ext x1) ?_
    refine go ?_
    refine y_if (fun h3 => ?_) (fun h3 => ?_)
    ·
     refine go ?_
     refine y_ld (b1.ext x1) ?_
     have x2 : Ext w w2 := (Ext.trans e1 x1)
     obtain ⟨x_1, g_1, o_1, hx_1⟩ := row_may (A := s.pA) (cs := PD.cs) i PD.len (by decide) (RowA.ext hS.prods x2)
     obtain ⟨hx_2, hA_1, hc_1⟩ := hx_1 oM
     have hfr_x_1 := (hS.fr _ (List.mem_of_getElem? hx_2)).le
     refine go ?_
     refine y_ix i hA_1 ?_
     refine y_lN (vs := [(.int .i64 x_1.left), (.slice x_1.rA x_1.right.length x_1.rc)]) hc_1 ?_
     refine y_al ?_
     intro w3 e2 z2 b2
     refine y_st b2 ?_
     intro w4 e3 z3 b3
     replace b3 : Blk w4 w2.heap.size #[(.int .i64 x_1.left), (.slice x_1.rA x_1.right.length x_1.rc)] 37 := blk_full b3 rfl
     refine go ?_
     refine y_ld b3 ?_
     refine go ?_
     by_cases h4 : (x_1.left : Int) < 0
     ·
      refine ysL (s := 34) (bT (decide_eq_true h4)) ?_
      refine go ?_
      refine y_r2 ?_
      have he9 := (indG_go hst).trans (hq.trans ((congrArg (fun z => indP s.g z i) (SP.dp hx_2)).trans (indP_left (by show x_1.left < 0 ∨ (s.names.length : Int) ≤ x_1.left; omega))))
      have x3 : Ext w w4 := (Ext.chg1 (Ext.trans x2 e2) e3 (by omega))
      exact ⟨by rw [he9] <;> rfl, x3⟩
     ·
      refine ysL (s := 34) (bF (decide_eq_false h4)) ?_
      refine go ?_
      refine y_ld b3 ?_
      have q1 := (((b1.ext x1).ext e2).keep1 e3 (((b1.ext x1).ext e2).ne b2 (by decide)))
      refine go ?_
      refine y_ld q1 ?_
      refine go ?_
      refine y_if (fun h5 => ?_) (fun h5 => ?_)
      ·
       refine go ?_
       refine y_r2 ?_
       have he9 := (indG_go hst).trans (hq.trans ((congrArg (fun z => indP s.g z i) (SP.dp hx_2)).trans (indP_left (by show x_1.left < 0 ∨ (s.names.length : Int) ≤ x_1.left; omega))))
       have x4 : Ext w w4 := (Ext.chg1 (Ext.trans x2 e2) e3 (by omega))
       exact ⟨by rw [he9] <;> rfl, x4⟩
      ·
       have hlf : 0 ≤ x_1.left ∧ x_1.left < (s.names.length : Int) := by omega
       refine go ?_
       refine xc_loopN (fun m_ f_ Wx => ∃ (k : Nat), m_ = x_1.right.length - k ∧ (k ≤ x_1.right.length) ∧ (rowE s.g x_1.right = rowE s.g (x_1.right.drop k)) ∧ f_ 1 = (.pointer (some ⟨w.heap.size, 0, none⟩)) ∧ f_ 4 = (.int .i64 ((i : Nat))) ∧ f_ 19 = (.int .i64 ((i : Nat))) ∧ f_ 20 = (.pointer (some ⟨w.heap.size, 3, none⟩)) ∧ f_ 21 = (.slice s.pA s.prods.length s.pc) ∧ f_ 22 = (.int .i64 (((s.prods.length : Nat) : Int))) ∧ f_ 23 = (.bool (decide (((i : Nat) : Int) < (((s.prods.length : Nat) : Int))))) ∧ f_ 26 = (.pointer (some ⟨w.heap.size, 3, none⟩)) ∧ f_ 27 = (.slice s.pA s.prods.length s.pc) ∧ f_ 28 = (.int .i64 ((i : Nat))) ∧ f_ 29 = (.pointer (some ⟨g_1, o_1 + i * 2, none⟩)) ∧ f_ 30 = (.agg #[(.int .i64 x_1.left), (.slice x_1.rA x_1.right.length x_1.rc)]) ∧ f_ 5 = (.pointer (some ⟨w2.heap.size, 0, none⟩)) ∧ f_ 31 = (.pointer (some ⟨w2.heap.size, 0, none⟩)) ∧ f_ 32 = (.int .i64 x_1.left) ∧ f_ 33 = (.bool (decide ((x_1.left : Int) < 0))) ∧ f_ 34 = (.bool false) ∧ f_ 35 = (.pointer (some ⟨w2.heap.size, 0, none⟩)) ∧ f_ 36 = (.int .i64 x_1.left) ∧ f_ 37 = (.pointer (some ⟨w.heap.size, 1, none⟩)) ∧ f_ 38 = (.slice s.nA s.names.length s.nc) ∧ f_ 39 = (.int .i64 (((s.names.length : Nat) : Int))) ∧ f_ 40 = (.bool (decide ((((s.names.length : Nat) : Int) : Int) ≤ x_1.left))) ∧ f_ 41 = (.bool (decide ((((s.names.length : Nat) : Int) : Int) ≤ x_1.left))) ∧ f_ 6 = (.int .i64 ((k : Nat))) ∧ Ext w4 Wx) (x_1.right.length) ?_ ?_
       ·
        exact ⟨0, (by omega), (by omega), (by simp), rfl, rfl, rfl, rfl, rfl, rfl, rfl, rfl, rfl, rfl, rfl, rfl, rfl, rfl, rfl, rfl, rfl, rfl, rfl, rfl, rfl, rfl, rfl, rfl, vW, (Chg.refl _ _)⟩
       ·
        rintro m_ f2 w5 ⟨k, hm_f2, hk, hk2, g1_f2, g4_f2, g19_f2, g20_f2, g21_f2, g22_f2, g23_f2, g26_f2, g27_f2, g28_f2, g29_f2, g30_f2, g5_f2, g31_f2, g32_f2, g33_f2, g34_f2, g35_f2, g36_f2, g37_f2, g38_f2, g39_f2, g40_f2, g41_f2, g6_f2, x5⟩
        have hx5 := x5.size
        rw [← usf g1_f2, ← usf g4_f2, ← usf g19_f2, ← usf g20_f2, ← usf g21_f2, ← usf g22_f2, ← usf g23_f2, ← usf g26_f2, ← usf g27_f2, ← usf g28_f2, ← usf g29_f2, ← usf g30_f2, ← usf g5_f2, ← usf g31_f2, ← usf g32_f2, ← usf g33_f2, ← usf g34_f2, ← usf g35_f2, ← usf g36_f2, ← usf g37_f2, ← usf g38_f2, ← usf g39_f2, ← usf g40_f2, ← usf g41_f2, ← usf g6_f2]
        refine go ?_
        refine y_ld (b3.ext x5) ?_
        refine go ?_
        refine y_if (fun h6 => ?_) (fun h6 => ?_)
        ·
         refine go ?_
         refine xc_regionE [] (fun W_ => Chg (fun _ => False) w5 W_) hmix ?_
         intro w6 e4 z4
         have hS1 : Chg (fun _ => False) w5 w6 := Ext.to e4
         refine yDt (i := 0) rfl hS1 (fun W_ hW_ => ox_loadN (vs := [(.slice s.lA s.lex.length s.lc), (.slice s.nA s.names.length s.nc), (.int .i64 s.start), (.slice s.pA s.prods.length s.pc)]) tA_26.h tS_26.h rfl rfl ⟨((q1.ext x5).ext hW_).cell rfl, ((q1.ext x5).ext hW_).cell rfl, ((q1.ext x5).ext hW_).cell rfl, ((q1.ext x5).ext hW_).cell rfl, trivial⟩ ⟨rfl, rfl⟩) ?_
         refine yDp 1 ?_
         refine yDt (i := 2) rfl hS1 (fun W_ hW_ => ox_load tA_33.h rfl (((b3.ext x5).ext hW_).cell rfl) ⟨rfl, rfl⟩) ?_
         refine yDp 3 ?_
         have x6 : Ext w w5 := (Ext.trans (Ext.chg1 (Ext.trans x2 e2) e3 (by omega)) x5)
         obtain ⟨x_2, g_2, o_2, hx_3⟩ := row_may (A := x_1.rA) (cs := Sym.cs) k Sym.len (by decide) (RowA.ext ((hS.right _ (List.mem_of_getElem? hx_2))) x6)
         obtain ⟨hx_4, hA_2, hc_2⟩ := hx_3 oM
         refine yDx (i := 4) k hA_2 ?_
         refine yDt (i := 5) rfl hS1 (fun W_ hW_ => ox_loadN (vs := [(.int .i64 x_2.kind), (.int .i64 x_2.n)]) tA_32.h tS_32.h rfl rfl (CellsL.keep hW_ not_false hc_2) ⟨rfl, rfl⟩) ?_
         have x7 : Ext w w6 := (Ext.trans x6 e4)
         refine yD1 (i := 6) rfl (yCx (ret_mono (symbolR_calls s x_2 w6 (hS.ext x7)) ?_))
         rintro _ w7 ⟨rfl, e5⟩
         have he5 := e5.size
         have hS2 : Chg (fun _ => False) w5 w7 := Chg.ext hS1 e5
         refine ⟨.inr fun _ => hS2, ?_⟩
         refine yDp 7 ?_
         refine xd_done (by kernel_rfl) ?_ _
         refine go ?_
         refine y_if (fun h7 => ?_) (fun h7 => ?_)
         ·
          refine go ?_
          refine y_r2 ?_
          have he9 := (indG_go hst).trans (hq.trans ((congrArg (fun z => indP s.g z i) (SP.dp hx_2)).trans (indP_sym (show 0 ≤ x_1.left ∧ x_1.left < (s.names.length : Int) from hlf) (hk2.trans (rowE_hit hx_4 h7)) h7)))
          have x8 : Ext w w7 := (Ext.trans x7 e5)
          exact ⟨by rw [he9] <;> rfl, x8⟩
         ·
          refine go ?_
          refine y_add ?_
          have x9 : Ext w4 w7 := (Ext.trans (Ext.trans x5 e4) e5)
          refine go ?_
          exact ⟨rfl, x_1.right.length - (k + 1), by omega, k + 1, by omega, (by omega), (hk2.trans (rowE_next hx_4 (by omega))), rfl, rfl, rfl, rfl, rfl, rfl, rfl, rfl, rfl, rfl, rfl, rfl, rfl, rfl, rfl, rfl, rfl, rfl, rfl, rfl, rfl, rfl, rfl, rfl, vW, x9⟩
        ·
         refine go ?_
         refine y_add ?_
         have x10 : Ext w1 w5 := (Ext.trans (Ext.chg1 (Ext.trans x1 e2) e3 (by omega)) x5)
         refine go ?_
         exact ⟨rfl, s.prods.length - (i + 1), by omega, i + 1, by omega, (by omega), (hq.trans ((congrArg (fun z => indP s.g z i) (SP.dp hx_2)).trans (indP_next (show 0 ≤ x_1.left ∧ x_1.left < (s.names.length : Int) from hlf) (hk2.trans (by rw [List.drop_of_length_le (by omega)] <;> rfl))))), rfl, vW, x10⟩
    ·
     refine go ?_
     refine y_r2 ?_
     have he9 := (indG_go hst).trans (hq.trans (by rw [List.drop_of_length_le (by rw [s.gprods]; omega)] <;> rfl : _ = ((0 : Int), (0 : Int))))
     have x11 : Ext w w2 := (Ext.trans e1 x1)
     exact ⟨by rw [he9] <;> rfl, x11⟩
theorem eqd_next {α : Type} {l m : List α} {i : Nat} {x y : α} (h : l = m ↔ l.drop i = m.drop i) (hx : l[i]? = some x) (hy : m[i]? = some y) (e : x = y) : l = m ↔ l.drop (i + 1) = m.drop (i + 1) := by
  rw [h, drop_get hx, drop_get hy, e]; simp
theorem eqd_head {α : Type} {l m : List α} {i : Nat} {x y : α} (h : l.drop i = m.drop i) (hx : l[i]? = some x) (hy : m[i]? = some y) : x = y := by
  rw [drop_get hx, drop_get hy] at h; simp at h; exact h.1
theorem eqd_end {α : Type} {l m : List α} {i : Nat} (h : l = m ↔ l.drop i = m.drop i) (hi : l.length ≤ i) (hl : l.length = m.length) : l = m := by
  rw [h, List.drop_of_length_le hi, List.drop_of_length_le (by omega)]
theorem sameSyms_calls (l m : List Sym) (A B : Option Addr) (ca cb : Nat) (w : World) (hA : RowA w A (l.flatMap Sym.cs)) (hB : RowA w B (m.flatMap Sym.cs)) (hn : l.length ≤ 8796093022208) :
    Calls Tryz.prog 18 #[(.slice A l.length ca), (.slice B m.length cb)] w (Ret (fun v w' => v = .bool (decide (l = m)) ∧ Ext w w')) := by
 refine calls_y (n := 26) Tryz.func18 ?_
 refine go ?_
 refine y_if (fun h1 => ?_) (fun h1 => ?_)
 ·
  refine go ?_
  refine y_r1 ?_
  exact ⟨congrArg Value.bool (decide_eq_false (fun hh => h1 (by rw [hh]))).symm, (Chg.refl _ _)⟩
 ·
  refine go ?_
  refine xc_loopN (fun m_ f_ Wx => ∃ (i : Nat), m_ = l.length - i ∧ (i ≤ l.length) ∧ (l = m ↔ l.drop i = m.drop i) ∧ f_ 0 = (.slice A l.length ca) ∧ f_ 1 = (.slice B m.length cb) ∧ f_ 5 = (.int .i64 ((i : Nat))) ∧ Ext w Wx) (l.length) ?_ ?_
  ·
   exact ⟨0, (by omega), (by omega), (by simp), rfl, rfl, vW, (Chg.refl _ _)⟩
  ·
   rintro m_ f1 w1 ⟨i, hm_f1, hi, heq, g0_f1, g1_f1, g5_f1, x1⟩
   have hx1 := x1.size
   rw [← usf g0_f1, ← usf g1_f1, ← usf g5_f1]
   refine go ?_
   refine y_if (fun h2 => ?_) (fun h2 => ?_)
   ·
    refine go ?_
    refine xc_regionE [] (fun W_ => Chg (fun _ => False) w1 W_) hmix ?_
    intro w2 e1 z1
    have hS1 : Chg (fun _ => False) w1 w2 := Ext.to e1
    refine yDp 0 ?_
    refine yDp 1 ?_
    obtain ⟨x_1, g_1, o_1, hx_1⟩ := row_may (A := A) (cs := Sym.cs) i Sym.len (by decide) (RowA.ext hA x1)
    obtain ⟨hx_2, hA_1, hc_1⟩ := hx_1 oM
    refine yDx (i := 2) i hA_1 ?_
    refine yDt (i := 3) rfl hS1 (fun W_ hW_ => ox_loadN (vs := [(.int .i64 x_1.kind), (.int .i64 x_1.n)]) tA_32.h tS_32.h rfl rfl (CellsL.keep hW_ not_false hc_1) ⟨rfl, rfl⟩) ?_
    refine yDp 4 ?_
    refine yDp 5 ?_
    obtain ⟨x_2, g_2, o_2, hx_3⟩ := row_may (A := B) (cs := Sym.cs) i Sym.len (by decide) (RowA.ext hB x1)
    obtain ⟨hx_4, hA_2, hc_2⟩ := hx_3 oM
    refine yDx (i := 6) i hA_2 ?_
    refine yDt (i := 7) rfl hS1 (fun W_ hW_ => ox_loadN (vs := [(.int .i64 x_2.kind), (.int .i64 x_2.n)]) tA_32.h tS_32.h rfl rfl (CellsL.keep hW_ not_false hc_2) ⟨rfl, rfl⟩) ?_
    refine yDq (i := 8) rfl (fun W_ hW_ => ox_neqF (xs := [(.int .i64 x_1.kind), (.int .i64 x_1.n)]) (ys := [(.int .i64 x_2.kind), (.int .i64 x_2.n)]) (p := ((x_1.kind : Int) = x_2.kind ∧ (x_1.n : Int) = x_2.n)) fS_32 rfl rfl rfl rfl (by simp) ⟨rfl, rfl⟩) ?_
    refine xd_done (by kernel_rfl) ?_ _
    refine go ?_
    refine xc_cond (b := (!decide (((x_1.kind : Int) = x_2.kind ∧ (x_1.n : Int) = x_2.n)))) rfl (fun h3 => ?_) (fun h3 => ?_)
    ·
     have h3' := bS h3
     refine go ?_
     refine y_r1 ?_
     have x2 : Ext w w2 := (Ext.trans x1 e1)
     exact ⟨congrArg Value.bool (decide_eq_false (fun hh => h3' (by have e := eqd_head (heq.1 hh) hx_2 hx_4; rw [e]; exact ⟨rfl, rfl⟩))).symm, x2⟩
    ·
     have h3' := bS h3
     refine go ?_
     refine y_add ?_
     have x3 : Ext w w2 := (Ext.trans x1 e1)
     refine go ?_
     exact ⟨rfl, l.length - (i + 1), by omega, i + 1, by omega, (by omega), (eqd_next heq hx_2 hx_4 (by cases x_1; cases x_2; simp_all)), rfl, rfl, vW, x3⟩
   ·
    refine go ?_
    refine y_r1 ?_
    exact ⟨congrArg Value.bool (decide_eq_true (eqd_end heq (by omega) (by omega))).symm, x1⟩
theorem sameItems_calls (l m : List Itm) (A B : Option Addr) (ca cb : Nat) (w : World) (hA : RowA w A (l.flatMap Itm.cs)) (hB : RowA w B (m.flatMap Itm.cs)) (hn : l.length ≤ 8796093022208) :
    Calls Tryz.prog 26 #[(.slice A l.length ca), (.slice B m.length cb)] w (Ret (fun v w' => v = .bool (decide (l = m)) ∧ Ext w w')) := by
 refine calls_y (n := 26) Tryz.func26 ?_
 refine go ?_
 refine y_if (fun h1 => ?_) (fun h1 => ?_)
 ·
  refine go ?_
  refine y_r1 ?_
  exact ⟨congrArg Value.bool (decide_eq_false (fun hh => h1 (by rw [hh]))).symm, (Chg.refl _ _)⟩
 ·
  refine go ?_
  refine xc_loopN (fun m_ f_ Wx => ∃ (i : Nat), m_ = l.length - i ∧ (i ≤ l.length) ∧ (l = m ↔ l.drop i = m.drop i) ∧ f_ 0 = (.slice A l.length ca) ∧ f_ 1 = (.slice B m.length cb) ∧ f_ 5 = (.int .i64 ((i : Nat))) ∧ Ext w Wx) (l.length) ?_ ?_
  ·
   exact ⟨0, (by omega), (by omega), (by simp), rfl, rfl, vW, (Chg.refl _ _)⟩
  ·
   rintro m_ f1 w1 ⟨i, hm_f1, hi, heq, g0_f1, g1_f1, g5_f1, x1⟩
   have hx1 := x1.size
   rw [← usf g0_f1, ← usf g1_f1, ← usf g5_f1]
   refine go ?_
   refine y_if (fun h2 => ?_) (fun h2 => ?_)
   ·
    refine go ?_
    refine xc_regionE [] (fun W_ => Chg (fun _ => False) w1 W_) hmix ?_
    intro w2 e1 z1
    have hS1 : Chg (fun _ => False) w1 w2 := Ext.to e1
    refine yDp 0 ?_
    refine yDp 1 ?_
    obtain ⟨x_1, g_1, o_1, hx_1⟩ := row_may (A := A) (cs := Itm.cs) i Itm.len (by decide) (RowA.ext hA x1)
    obtain ⟨hx_2, hA_1, hc_1⟩ := hx_1 oM
    refine yDx (i := 2) i hA_1 ?_
    refine yDt (i := 3) rfl hS1 (fun W_ hW_ => ox_loadN (vs := [(.int .i64 x_1.p), (.int .i64 x_1.dot)]) tA_42.h tS_42.h rfl rfl (CellsL.keep hW_ not_false hc_1) ⟨rfl, rfl⟩) ?_
    refine yDp 4 ?_
    refine yDp 5 ?_
    obtain ⟨x_2, g_2, o_2, hx_3⟩ := row_may (A := B) (cs := Itm.cs) i Itm.len (by decide) (RowA.ext hB x1)
    obtain ⟨hx_4, hA_2, hc_2⟩ := hx_3 oM
    refine yDx (i := 6) i hA_2 ?_
    refine yDt (i := 7) rfl hS1 (fun W_ hW_ => ox_loadN (vs := [(.int .i64 x_2.p), (.int .i64 x_2.dot)]) tA_42.h tS_42.h rfl rfl (CellsL.keep hW_ not_false hc_2) ⟨rfl, rfl⟩) ?_
    refine yDq (i := 8) rfl (fun W_ hW_ => ox_neqF (xs := [(.int .i64 x_1.p), (.int .i64 x_1.dot)]) (ys := [(.int .i64 x_2.p), (.int .i64 x_2.dot)]) (p := ((x_1.p : Int) = x_2.p ∧ (x_1.dot : Int) = x_2.dot)) fS_42 rfl rfl rfl rfl (by simp) ⟨rfl, rfl⟩) ?_
    refine xd_done (by kernel_rfl) ?_ _
    refine go ?_
    refine xc_cond (b := (!decide (((x_1.p : Int) = x_2.p ∧ (x_1.dot : Int) = x_2.dot)))) rfl (fun h3 => ?_) (fun h3 => ?_)
    ·
     have h3' := bS h3
     refine go ?_
     refine y_r1 ?_
     have x2 : Ext w w2 := (Ext.trans x1 e1)
     exact ⟨congrArg Value.bool (decide_eq_false (fun hh => h3' (by have e := eqd_head (heq.1 hh) hx_2 hx_4; rw [e]; exact ⟨rfl, rfl⟩))).symm, x2⟩
    ·
     have h3' := bS h3
     refine go ?_
     refine y_add ?_
     have x3 : Ext w w2 := (Ext.trans x1 e1)
     refine go ?_
     exact ⟨rfl, l.length - (i + 1), by omega, i + 1, by omega, (by omega), (eqd_next heq hx_2 hx_4 (by cases x_1; cases x_2; simp_all)), rfl, rfl, vW, x3⟩
   ·
    refine go ?_
    refine y_r1 ?_
    exact ⟨congrArg Value.bool (decide_eq_true (eqd_end heq (by omega) (by omega))).symm, x1⟩
end Go.Proofs.YtnnmdkglgnlenaaGreatDoor
