/-
  Ranges: what holds while the law goes over one. No conditions.
-/
import Derived.Test.YthhbnodnpajljaaRja
set_option linter.unusedVariables false
set_option linter.unusedSimpArgs false
namespace Go.Proofs.Ythhbnodnpajljaa
open Go Go.RowKit Go.Vx

/-- within a range that counts in nb -/
structure RgI (w : World) (nb : Nat) (v : Int) (Y : Nat → Prop) (W : World) : Prop where
  blk : Blk W nb #[.int .i64 v] 3
  yl : ∀ b, Y b → w.heap.size ≤ b
  chg : Chg1 nb w W
theorem RgI.stab {w : World} {nb : Nat} {v : Int} {Y Y2 : Nat → Prop} {W W2 : World} (hnb : nb < w.heap.size) (h : RgI w nb v Y W) (hc : Chg Y W W2) (hY2 : ∀ b, Y2 b → Y b ∨ W.heap.size ≤ b) : RgI w nb v Y2 W2 :=
  ⟨h.blk.keep hc fun hy => by have := h.yl _ hy; omega, fun b hb => (hY2 b hb).elim (h.yl b) fun h2 => by have := h.chg.size; omega, Chg.trans h.chg hc fun b hb hl => absurd hl (by have := h.yl b hb; omega)⟩
def rgJ (w : World) (nb : Nat) (pre : List Sn) (Y : Nat → Prop) (W : World) : Prop := RgI w nb ((pre.length : Nat) : Int) Y W
def rgX (w : World) (nb : Nat) (lv : Int) (id : Nat) (c : Code) (_ : List Sn) (Y : Nat → Prop) (W : World) : Prop := c = .exit id ∧ RgI w nb lv Y W
theorem rgJ_stab {B : Nat} {w : World} {nb : Nat} (hnb : nb < w.heap.size) : Stab B (rgJ w nb) := fun _ _ _ _ _ _ h hc hY2 => RgI.stab hnb h hc hY2
theorem rgX_stab {B : Nat} {w : World} {nb : Nat} {lv : Int} {id : Nat} (hnb : nb < w.heap.size) (c : Code) : Stab B (rgX w nb lv id c) := fun _ _ _ _ _ _ h hc hY2 => ⟨h.1, RgI.stab hnb h.2 hc hY2⟩
theorem loop_keep {K : Nat → Prop} {w w' : World} {l : Nat} (h : ∃ r, w.heap[l]? = some (.loop r)) (c : Chg K w w') (hk : ¬ K l) : ∃ r, w'.heap[l]? = some (.loop r) := by
  obtain ⟨r, hr⟩ := h
  exact ⟨r, (c.keep l (Array.getElem?_eq_some_iff.1 hr).1 hk).trans hr⟩
theorem mark_lt {w : World} {D : Nat} {d : Option (List Deferred)} (h : w.heap[D]? = some (.deferred d)) : D < w.heap.size := (Array.getElem?_eq_some_iff.1 h).1
theorem mark_keep {K : Nat → Prop} {w w' : World} {D : Nat} {d : Option (List Deferred)} (h : w.heap[D]? = some (.deferred d)) (c : Chg K w w') (hk : ¬ K D) : w'.heap[D]? = some (.deferred d) := (c.keep D (mark_lt h) hk).trans h
theorem mark_ne {w : World} {D b : Nat} {d : Option (List Deferred)} {cs : Array Value} {t : TypeId} (h : w.heap[D]? = some (.deferred d)) (hb : Blk w b cs t) : D ≠ b := by
  rintro rfl; exact absurd (hb.symm.trans h) (by simp)
theorem prefix_at {α : Type} {pre xs : List α} {x : α} (h : (pre ++ [x]) <+: xs) : xs[pre.length]? = some x := by
  obtain ⟨t, rfl⟩ := h
  simp
theorem prefix_lt {α : Type} {pre xs : List α} {x : α} (h : (pre ++ [x]) <+: xs) : pre.length < xs.length := by
  obtain ⟨t, rfl⟩ := h
  simp
theorem len_snoc (pre : List Sn) (x : Sn) : (((pre ++ [x]).length : Nat) : Int) = ((pre.length : Nat) : Int) + 1 := by simp
theorem Own.sn {w : World} {g n cap : Nat} {S : List Sn} (h : Vx.Own w 79 2 (.slice (some ⟨g, 0, none⟩) n cap) n (snC S)) {i : Nat} {e : Sn} (hi : S[i]? = some e) : CellsL w g (i * 2) (snCs e) := h.cells (flat_get snCs 2 (fun _ => rfl) hi)
theorem run_equalIn_nilFunc (d : Nat) {P : Program} {t : TypeId} {ps rs : Array TypeId} {vr : Bool} {fn : Fn} {fs cs : Array Value} (hu : P.underlying t = some (.func ps rs vr)) (w : World) : (Op.equalIn (d + 1) t (.func fn fs cs) .nilFunc).run P w = .ok false w := by
  unfold Op.equalIn
  simp only [Sem.run_bind, run_underlying hu, Result.andThen]
  simp
theorem run_equal_nilFunc {P : Program} {t : TypeId} {ps rs : Array TypeId} {vr : Bool} {fn : Fn} {fs cs : Array Value} (hu : P.underlying t = some (.func ps rs vr)) (w : World) : (Op.equal t (.func fn fs cs) .nilFunc).run P w = .ok false w :=
  run_equalIn_nilFunc 9999 hu w
theorem ox_eqlNilFunc {P : Program} {ρ : Operand → Value} {w : World} {K : Value → World → Prop} {dst : Option Tmp} {ty : TypeId} {pos : String} {af : Array Edge} {gd : Option (Nat × Bool)} {x y : Operand} {t u : TypeId} {ps rs : Array TypeId} {vr : Bool} {fn : Fn} {fs cs : Array Value} (hu : P.underlying t = some (.func ps rs vr)) (hx : ρ x = .func fn fs cs) (hy : ρ y = .nilFunc) (h : K (.bool false) w) : OpX P ⟨dst, .binOp .eql t x y u, ty, pos, af, gd⟩ ρ w K :=
  ox_val (v := .bool false) (w' := w) (by simp [execOp, hx, hy, binOp, eqGuard, Sem.run_bind, run_equal_nilFunc hu, Result.andThen]) h
/-- one result, in a cell of its own -/
theorem leaves_cell1 {P : Program} {fn : Func} {n : Nat} {f : Nat → Value} {K : Value → World → Prop} {w : World} {a b o : Nat} {t : TypeId} {v : Value} (hr : fn.results = #[.cell a t]) (ha : a < n) (hp : f a = .pointer (some ⟨b, o, none⟩)) (hagg : isAggT P t = some false) (hc : w.cell? ⟨b, o, none⟩ = some v) (hk : K v w) : leaves P fn n f K [] w := by
  refine ⟨v, ?_, hk⟩
  have hg : (fr n f []).tmps.getD a undef = .pointer (some ⟨b, o, none⟩) := by rw [Array.getD_eq_getD_getElem?, fr_get]; simp [ha, hp]
  have hv : (loadVar t ⟨b, o, none⟩).run P w = .ok v w := by
    simp [loadVar, Sem.run_bind, run_isAgg hagg, Result.andThen, load, Sem.run, hc]
  have h1 : (readR n f (.cell a t)).run P w = .ok v w := by
    simp only [readR, hg, Sem.run_bind, asAddr, Sem.run_pure, Result.andThen, hv]
  have h2 : (#[ResultVar.cell a t].mapM (readR n f) : Sem (Array Value)).run P w = .ok #[v] w := by
    rw [Array.mapM_eq_mapM_toList]
    show (([ResultVar.cell a t].mapM (readR n f) : Sem (List Value)) >>= fun l => pure l.toArray : Sem (Array Value)).run P w = _
    simp [List.mapM_cons, Sem.run_bind, h1, Result.andThen]
  have h3 : (results fn (fr n f []).tmps).run P w = (do let vs ← (#[ResultVar.cell a t].mapM (readR n f) : Sem (Array Value)); pure (if h : vs.size = 1 then vs[0] else .tuple vs) : Sem Value).run P w := by
    unfold results
    rw [hr]
    rfl
  rw [h3, Sem.run_bind, h2]
  simp [Result.andThen]
end Go.Proofs.Ythhbnodnpajljaa
